/- known: a page of two blocks there and back. -/
import Derived.Test.YtpaiigonagiemaaPg4
import Derived.Test.YtpaiigonagiemaaPg5
namespace Go.Proofs.Ytpaiigonagiemaa.PAll
open Go.Proofs.Ytpaiigonagiemaa.Help
open Go.RowKit Go.Proofs.YtpaiigonagiemaaW.PrintWords Go.Proofs.YtpaiigonagiemaaW.PrintLast Go.Proofs.YtpaiigonagiemaaW.PrintMore
open Go.Proofs.Ytpaiigonagiemaa.Num (isB enc psz wrapB wrapX unwrapB isB_append isB_take isB_drop isB_nil wrap_eq wrap_long wrapB_length wrapX_length wrapB_isB unwrap_wrap unwrap_turned enc_lt)
set_option linter.unusedVariables false
set_option linter.unusedSimpArgs false
theorem OwnBy.poke {w : World} {g cap : Nat} {B : List Int} (h : OwnBy w g cap B) {j : Nat} (hj : j < B.length) (x : Int) : OwnBy (w.setCell ⟨g, j, none⟩ (.int .u8 x)) g cap (B.set j x) := by
  obtain ⟨cur, hh, hcs, hle, hcm, htk⟩ := h
  refine ⟨cur.setIfInBounds j (.int .u8 x), blk_put hh j _ rfl, by simpa using hcs, by rw [List.length_set]; exact hle, hcm, ?_⟩
  rw [List.length_set, Array.toList_setIfInBounds, List.take_set, htk, List.map_set]
theorem OwnBy.cell {w : World} {g cap : Nat} {B : List Int} (h : OwnBy w g cap B) {j : Nat} (hj : j < B.length) : w.cell? ⟨g, j, none⟩ = some (.int .u8 (B.getD j 0)) := by
  obtain ⟨cur, hh, hcs, hle, hcm, htk⟩ := h
  refine cell_of_blk hh ?_
  have := congrArg (fun l => l[j]?) htk
  simp only [List.getElem?_take, List.getElem?_map] at this
  rw [if_pos hj, List.getElem?_eq_getElem hj] at this
  rw [List.getD_eq_getElem?_getD, List.getElem?_eq_getElem hj]
  simpa using this
theorem OwnBy.free {w : World} {g cap : Nat} {B : List Int} (h : OwnBy w g cap B) (j : Nat) : w.frozen? ⟨g, j, none⟩ = false := by
  obtain ⟨cur, hh, _⟩ := h
  exact blk_frozen hh j
theorem pgW_get (at_ : Int) (x : List Int) {m j : Nat} (h : j < m) : (pgW at_ x m)[j]? = some (at_ + (j : Int), (x.drop (j * 64)).take 64) := by
  induction m with
  | zero => omega
  | succ m ih =>
    unfold pgW
    by_cases e : j < m
    · rw [List.getElem?_append_left (by rw [pgW_length]; exact e)]; exact ih e
    · obtain rfl : j = m := by omega
      rw [List.getElem?_append_right (by rw [pgW_length]; omega), pgW_length]
      simp
/-- A page that was written last is read, block by block. -/
theorem rblk_pgW (B : List Int) (L : List (Int × List Int)) (at_ : Int) (x : List Int) {m j : Nat} (h : j < m) : rblk B (L ++ pgW at_ x m) (at_ + (j : Int)) = (x.drop (j * 64)).take 64 := by
  have hl : (L ++ pgW at_ x m).length = L.length + m := by rw [List.length_append, pgW_length]
  have hg : (L ++ pgW at_ x m)[L.length + j]? = some (at_ + (j : Int), (x.drop (j * 64)).take 64) := by
    rw [List.getElem?_append_right (by omega), Nat.add_sub_cancel_left]; exact pgW_get at_ x h
  unfold rblk
  rw [hl, lastAt_some hg rfl (L.length + m) (by omega) (fun j' x' h1 h2 hx' => by
    obtain ⟨q, rfl⟩ : ∃ q, j' = L.length + q := ⟨j' - L.length, by omega⟩
    rw [List.getElem?_append_right (by omega), Nat.add_sub_cancel_left, pgW_get at_ x (show q < m by omega)] at hx'
    obtain rfl := Option.some.inj hx'
    show at_ + (q : Int) ≠ at_ + (j : Int)
    omega)]
  rfl
theorem pgR_pgW (B : List Int) (L : List (Int × List Int)) (at_ : Int) (x : List Int) (m : Nat) : ∀ k, k ≤ m → pgR B (L ++ pgW at_ x m) at_ k = x.take (k * 64)
  | 0, _ => by simp [pgR]
  | k + 1, hk => by
    unfold pgR
    rw [pgR_pgW B L at_ x m k (by omega), rblk_pgW B L at_ x (by omega), Nat.add_mul, Nat.one_mul, List.take_add]
theorem pgW_isB {x : List Int} (hx : isB x) (at_ : Int) (m : Nat) : ∀ y ∈ pgW at_ x m, isB y.2 := by
  induction m with
  | zero => intro y h; cases h
  | succ m ih =>
    intro y h
    unfold pgW at h
    rcases List.mem_append.1 h with h | h
    · exact ih y h
    · obtain rfl : y = _ := by simpa using h
      exact isB_take (isB_drop hx _) 64
theorem rep_isB (n : Nat) {c : Int} (h0 : 0 ≤ c) (h1 : c ≤ 255) : isB (List.replicate n c) := fun x hx => by rw [List.eq_of_mem_replicate hx]; omega
theorem psz64 : psz 64 = 2 := by unfold psz; rw [enc_lt (by omega)]; rfl
theorem unwrap_short {x : List Int} (h : x.length = 64) (hg : Num.gd 0 0 (x.drop 4) = (64, 1, 0)) : unwrapB x = ([], 12) := by
  unfold unwrapB
  rw [if_neg (by omega), hg, if_pos (.inr (.inr (.inr (by show psz 64 * 64 ≠ _; rw [psz64, h]; decide))))]
set_option maxRecDepth 100000 in
set_option maxHeartbeats 4000000 in
theorem page_known (w : World) : Calls Try.prog 9 #[] w fun e w' => e = .returned (.bool true) ∧ Below w.heap.size w w' := by
  obtain ⟨b, hb⟩ : ∃ b : List Int, b = List.replicate 64 7 := ⟨_, rfl⟩
  have hbl : b.length = 64 := by rw [hb, List.length_replicate]
  have hbB : isB b := by rw [hb]; exact rep_isB 64 (by decide) (by decide)
  have hxl : (wrapB b).length = 128 := by rw [wrapB_length, hbl, psz64]
  have hxx : (wrapX b).length = 124 := by rw [wrapX_length, hbl, psz64]
  have hxB := wrapB_isB hbB
  have hu := unwrap_wrap hbB (by omega)
  have hwe := wrap_eq hbB (by omega) 90000 (by omega)
  have hx96 : (wrapX b)[96]'(by omega) = 0 := by
    have e : wrapX b = [64] ++ b ++ List.replicate 59 0 := by
      show enc b.length ++ b ++ List.replicate (psz b.length * 64 - 4 - ((enc b.length).length + b.length)) 0 = _
      rw [hbl, psz64, enc_lt (by omega)]; rfl
    have h9 : (wrapX b).getD 96 0 = 0 := by rw [e, hb]; decide
    rw [List.getD_eq_getElem?_getD, List.getElem?_eq_getElem (by omega)] at h9
    exact h9
  have hu2 := unwrap_turned hbB (j := 96) (y := 1) (by decide) (by decide) (by omega) (by rw [hx96]; decide)
  have hu1 : unwrapB ((wrapB b).take 64) = ([], 12) := by
    refine unwrap_short (by rw [List.length_take, hxl]; rfl) ?_
    have e : ((wrapB b).take 64).drop 4 = [64] ++ (b ++ List.replicate 59 0).take 59 := by
      rw [List.drop_take, Num.wrapB_drop]
      show (enc b.length ++ b ++ List.replicate (psz b.length * 64 - 4 - ((enc b.length).length + b.length)) 0).take 60 = _
      rw [hbl, psz64, enc_lt (by omega)]; rfl
    rw [e]
    have := Num.gd_put 64 (by decide) ((b ++ List.replicate 59 0).take 59)
    rw [enc_lt (by omega)] at this
    exact this
  obtain ⟨x, hx⟩ : ∃ x, x = wrapB b := ⟨_, rfl⟩
  rw [← hx] at hxl hxB hu hwe hu2 hu1
  have HXE := Aside0.mk hx
  have HBL := Aside0.mk hbl
  have HBB := Aside0.mk hbB
  have HXL := Aside0.mk hxl
  have HXB := Aside0.mk hxB
  have HU := Aside0.mk hu
  have HU2 := Aside0.mk hu2
  have HU1 := Aside0.mk hu1
  have HWE := Aside0.mk hwe
  have HBE := Aside0.mk hb
  have HX := Aside0.mk (Mix.none_ (Below.refl w.heap.size w))
  have e8 : Int.toNat 8193 = 8193 := rfl
  have hs1 := Aside0.mk (show page_Size.f 12 64 = some 2 by kernel_rfl)
  have hs2 := Aside0.mk (show page_Size.f 12 59 = some 1 by kernel_rfl)
  have hs3 := Aside0.mk (show page_Size.f 12 60 = some 2 by kernel_rfl)
  have hs4 := Aside0.mk (show page_Size.f 12 0 = some 1 by kernel_rfl)
  have hs5 := Aside0.mk (show page_Size.f 12 (-1) = some 0 by kernel_rfl)
  have hs6 := Aside0.mk (show page_Size.f 12 8193 = some 0 by kernel_rfl)
  clear hbl hbB hxl hxB hu hu2 hu1 hwe hb hx96 hxx hx
  go_enter Try.func9, Try.ntmps9
  go_upto_region 13 with (first
    | (go_at_call 25; refine (full_ok _).mono ?_; rintro e w1 ⟨gb, cb, rfl, hgb, hcb, hOb, hB1⟩; rw [← HBE.out] at hOb; obtain ⟨ob, hob, hOb'⟩ := own_obj hOb; replace HX := Aside0.mk (HX.out.row hB1 hob hgb); have HOb := Aside0.mk hOb'; have hbw := Aside0.mk hOb.lt; clear hgb hOb hB1 hob hOb')
    | (go_at_call_of 10 (Value.slice (some ⟨gb, 0, none⟩) 64 cb); have hc := page_Wrap.calls 90000 (some ⟨gb, 0, none⟩) cb b x 0 w1 (HOb.out w1 (HX.out.kept (List.Mem.head _))).reads (by rw [HBL.out]; exact hcb) HWE.out; rw [HBL.out] at hc; (with_reducible refine hc.mono ?_); clear hc; rintro e w2 ⟨v2, rfl, ho, hB2⟩; obtain ⟨gW, cW, rfl, hgW, hcW, hOW⟩ := own_form ho (by rw [HXL.out]; decide); rw [HXL.out] at hcW ⊢; obtain ⟨oW, hoW, hOW'⟩ := own_obj hOW; have hgW0 := Aside0.mk (Nat.le_trans HX.out.under.size hgW); replace HX := Aside0.mk (HX.out.row hB2 hoW hgW); have HOW := Aside0.mk hOW'; have hne := Aside0.mk (show gb ≠ gW by have := hbw.out; omega); have hWl := Aside0.mk hOW.lt; clear ho hB2 hOW hoW hOW' hgW)
    | (go_at_call 14; have hc := page_unwrap (some ⟨gW, 0, none⟩) cW x w2 (HOW.out w2 (HX.out.kept (List.Mem.head _))).reads (by rw [HXL.out]; exact hcW) HXB.out (by rw [HXL.out]; decide); rw [HU.out, HXL.out] at hc; (with_reducible refine hc.mono ?_); clear hc; rintro e w3 ⟨v3, rfl, ho, hB3⟩; obtain ⟨gx, cx, rfl, hgx, hcx, hOx⟩ := own_form ho (by rw [HBL.out]; decide); simp only [HBL.out] at hcx ⊢; obtain ⟨ox, hox, hOx'⟩ := own_obj hOx; replace HX := Aside0.mk (HX.out.row hB3 hox hgx); have HOx := Aside0.mk hOx'; have hnx := Aside0.mk (show gx ≠ gW by have := hWl.out; omega); clear ho hB3 hOx hox hOx' hgx)
    | ((with_reducible refine gate_dst (N := 32) rfl ?_); refine Kd.R_make (Kd.int .u8) _ 5 rfl (N := 32) rfl 22 _ _ rfl 8193 rfl rfl Try.underlying22 (.int .u8 0) 1 info5 rfl (by decide) (by omega) 0 (ok := fun _ => True) (okp := fun _ => True) rfl (fun _ hk => hk) trivial (by omega) (by omega) (Below.refl _ _) (Nat.le_refl _) ?_; intro v4 w4 ho hb4 hg_ hnew_; clear hg_ hnew_; obtain ⟨gm, cm, rfl, hgm, hcm, hOm⟩ := own_form ho (by decide); replace HX := Aside0.mk (HX.out.below hb4); have HOm := Aside0.mk hOm; clear ho hb4 hOm hgm)
    | (go_at_call 10; have hc := page_Wrap.calls 5 (some ⟨gm, 0, none⟩) cm (List.replicate (Int.toNat 8193) 0) [] 4 w4 HOm.out.reads hcm (wrap_long (by rw [List.length_replicate]; decide) 5); rw [List.length_replicate, e8] at hc; (with_reducible refine hc.mono ?_); clear hc; rintro e w5 ⟨v5, rfl, ho, hB5⟩; replace HX := Aside0.mk (HX.out.below hB5); clear ho hB5 hcm HOm)
    | (go_at_call 16; refine (show Calls Try.prog 16 #[.int .i64 6] _ _ from HX.out.new 0 rfl (n := 6) (by decide) (by decide)).mono ?_; rintro e w6 ⟨p, rfl, h⟩; replace HX := Aside0.mk h; clear h)
    | (go_at_call_of 17 (Value.int IntKind.i64 4); have hc := page_write HX.out (i := 0) (p := p) (n := 6) rfl (by simp) (at_ := 4) (by decide) (A := some ⟨gb, 0, none⟩) (c := cb) (b := b) (HOb.out _ (HX.out.kept (by simp))).reads (by rw [HBL.out]; exact hcb) HBB.out (by rw [HBL.out]; decide) (by rw [HBL.out, psz64]; decide); rw [← HXE.out, HBL.out, psz64] at hc; (with_reducible refine hc.mono ?_); clear hc; rintro e w7 ⟨rfl, gq, oq, h⟩; replace HX := Aside0.mk h; clear h)
    | (go_at_call_of 17 (Value.int IntKind.i64 5); have hc := page_write_bad HX.out (i := 0) (p := p) (n := 6) rfl (at_ := 5) (by decide) (A := some ⟨gb, 0, none⟩) (c := cb) (b := b) (HOb.out _ (HX.out.kept (by simp))).reads (by rw [HBL.out]; exact hcb) HBB.out (by rw [HBL.out]; decide) (by rw [HBL.out, psz64]; decide); rw [HBL.out] at hc; (with_reducible refine hc.mono ?_); clear hc; rintro e w8 ⟨rfl, hB8⟩; replace HX := Aside0.mk (HX.out.below hB8); clear hB8)
    | (go_at_call_of 18 (Value.int IntKind.i64 2); have hc := page_read HX.out (i := 0) (p := p) (n := 6) rfl (by rw [List.length_append, pgW_length]; decide) (rep_isB _ (by decide) (by decide)) (fun y hy => by rw [List.nil_append] at hy; exact pgW_isB HXB.out _ _ y hy) (at_ := 4) (m := 2) (by decide) (by decide) (by decide); rw [pgR_pgW _ [] 4 x 2 2 (Nat.le_refl _), List.take_of_length_le (by rw [HXL.out]; decide), HU.out] at hc; refine (show Calls Try.prog 18 #[_, .int .i64 4, .int .i64 2] _ _ from hc).mono ?_; clear hc; rintro e w9 ⟨v9, rfl, ho, hB9⟩; obtain ⟨gy, cy, rfl, hgy, hcy, hOy⟩ := own_form ho (by rw [HBL.out]; decide); simp only [HBL.out] at hcy ⊢; obtain ⟨oy, hoy, hOy'⟩ := own_obj hOy; have hny := Aside0.mk (show gy ≠ gW by have := blk_lt (HX.out.kept (show (gW, oW) ∈ _ by simp)); omega); replace HX := Aside0.mk (HX.out.row hB9 hoy hgy); have HOy := Aside0.mk hOy'; clear ho hB9 hOy hoy hOy' hgy)
    | (go_at_call_of 18 (Value.int IntKind.i64 1); have hc := page_read HX.out (i := 0) (p := p) (n := 6) rfl (by rw [List.length_append, pgW_length]; decide) (rep_isB _ (by decide) (by decide)) (fun y hy => by rw [List.nil_append] at hy; exact pgW_isB HXB.out _ _ y hy) (at_ := 4) (m := 1) (by decide) (by decide) (by decide); rw [pgR_pgW _ [] 4 x 2 1 (by decide), Nat.one_mul, HU1.out] at hc; refine (show Calls Try.prog 18 #[_, .int .i64 4, .int .i64 1] _ _ from hc).mono ?_; clear hc; rintro e w10 ⟨v10, rfl, ho, hB10⟩; replace HX := Aside0.mk (HX.out.below hB10); clear ho hB10)
    | (go_at_call_of 18 (Value.int IntKind.i64 3); refine (page_read_bad HX.out (i := 0) (p := p) (n := 6) rfl (at_ := 4) (m := 3) (by decide)).mono ?_; rintro e w11 ⟨rfl, rfl⟩)
    | fail)
  have hW100 := (HOW.out _ (HX.out.kept (by simp))).cell (j := 100) (by rw [HXL.out]; decide)
  have hWf := (HOW.out _ (HX.out.kept (by simp))).free 100
  go_wp2_with (first
    | (go_at_call 14; have hOs := (HOW.out w10 (HX.out.kept (by simp))).poke (j := 100) (by rw [HXL.out]; decide) 1; have hgWl := blk_lt (HX.out.kept (show (gW, oW) ∈ _ by simp)); have hkb := HX.out.kept (show (gb, ob) ∈ _ by simp); have hkx := HX.out.kept (show (gx, ox) ∈ _ by simp); have hky := HX.out.kept (show (gy, oy) ∈ _ by simp); have hlen := (show (x.set 100 1).length = 128 by rw [List.length_set, HXL.out]); have hc := page_unwrap (some ⟨gW, 0, none⟩) cW (x.set 100 1) _ hOs.reads (by rw [hlen]; exact hcW) (fun z hz => by rcases List.mem_or_eq_of_mem_set hz with h | h; exact HXB.out z h; rw [h]; decide) (by rw [hlen]; decide); rw [show x.set 100 1 = x.set (96 + 4) 1 from rfl, HU2.out, List.length_set, HXL.out] at hc; (with_reducible refine hc.mono ?_); clear hc; rintro e w12 ⟨v12, rfl, ho, hB12⟩; have hb0 := hB12.block gb (by simpa using blk_lt hkb); have hx0 := hB12.block gx (by simpa using blk_lt hkx); have hy0 := hB12.block gy (by simpa using blk_lt hky); rw [Below.heap_setCell _ _ _ gb hne.out] at hb0; rw [Below.heap_setCell _ _ _ gx hnx.out] at hx0; rw [Below.heap_setCell _ _ _ gy hny.out] at hy0; have hcb1 := (HOb.out w12 (hb0.trans hkb)).str; have hcx1 := (HOx.out w12 (hx0.trans hkx)).str; have hcy1 := (HOy.out w12 (hy0.trans hky)).str; rw [HBL.out] at hcb1 hcx1 hcy1; have HBf := Aside0.mk ((HX.out.under.setCell (p := ⟨gW, 100, none⟩) hgW0.out (.int .u8 1)).trans (hB12.mono (by have := HX.out.under.size; simpa using this))); clear ho hB12 hOs hkb hkx hky hb0 hx0 hy0)
    | (go_at_call_of 12 (Value.int IntKind.i64 64); refine (page_Size.calls 12 64 2 _ hs1.out).mono ?_; rintro e w13 ⟨rfl, hBz⟩; have HB13 := Aside0.mk (below_step HBf.out hBz); clear hBz)
    | (go_at_call_of 12 (Value.int IntKind.i64 59); refine (page_Size.calls 12 59 1 _ hs2.out).mono ?_; rintro e w14 ⟨rfl, hBz⟩; have HB14 := Aside0.mk (below_step HB13.out hBz); clear hBz)
    | (go_at_call_of 12 (Value.int IntKind.i64 60); refine (page_Size.calls 12 60 2 _ hs3.out).mono ?_; rintro e w15 ⟨rfl, hBz⟩; have HB15 := Aside0.mk (below_step HB14.out hBz); clear hBz)
    | (go_at_call_of 12 (Value.int IntKind.i64 0); refine (page_Size.calls 12 0 1 _ hs4.out).mono ?_; rintro e w16 ⟨rfl, hBz⟩; have HB16 := Aside0.mk (below_step HB15.out hBz); clear hBz)
    | (go_at_call_of 12 (Value.int IntKind.i64 8193); refine (page_Size.calls 12 8193 0 _ hs6.out).mono ?_; rintro e w18 ⟨rfl, hBz⟩; have HB18 := Aside0.mk (below_step HB17.out hBz); clear hBz)
    | (go_at_call 12; refine (show Calls Try.prog 12 #[.int .i64 (-1)] _ _ from page_Size.calls 12 (-1) 0 _ hs5.out).mono ?_; rintro e w17 ⟨rfl, hBz⟩; have HB17 := Aside0.mk (below_step HB16.out hBz); clear hBz)
    | fail)
  all_goals go_ret
  all_goals exact ⟨by simp, HB18.out⟩
end Go.Proofs.Ytpaiigonagiemaa.PAll
