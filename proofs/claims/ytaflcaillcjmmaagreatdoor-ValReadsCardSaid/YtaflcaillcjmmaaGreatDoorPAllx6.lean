-- Printed by this session's own program (wip/tools/pp.py): out of the translation. Lean checks it.
import Derived.Test.YtaflcaillcjmmaaGreatDoorPAllx0
import Derived.Test.YtaflcaillcjmmaaGreatDoorPAllx5
namespace Go.Proofs.YtaflcaillcjmmaaGreatDoor.PAll
open Go.Proofs.YtaflcaillcjmmaaGreatDoor.Help
open Go.RowKit Go.Proofs.YtaflcaillcjmmaaGreatDoorW.PrintWords Go.Proofs.YtaflcaillcjmmaaGreatDoorW.PrintLast Go.Proofs.YtaflcaillcjmmaaGreatDoorW.PrintMore
attribute [local go_sem] run_fl_eql run_fl_neq run_fl_lss run_fl_leq run_fl_gtr run_fl_geq unary_fl_neg run_cx_eql run_cx_neq run_cx_make run_cx_real run_cx_imag run_fl_of run_fl_to64 run_fl_add run_fl_sub run_fl_mul run_cx_add run_cx_sub run_cx_store run_fl_store str_gtr str_leq str_geq cell_put3_0 cell_put3_1 cell_put4_0 cell_put4_1 max2_int min2_int max_two min_two max_three min_three max_four min_four   -- for this text's walks alone
set_option linter.unusedVariables false
set_option linter.unusedSimpArgs false

/-! ### val_Text: function 8 -/
def val_Text.l0 : Nat → List Int → Int → Int → Int → Int → ByteArray → (Nat × Nat) → Option (ByteArray)
  | 0, _, _, _, _, _, _, _ => none
  | k + 1, x3, x17, x18, x149000, x149001, x149002, x149003 => if x18 < x17 then (if 0 ≤ x18 then (if x18 < (x149002.size : Int) then (if 0 ≤ ((bt x149002 x18) / 16) then (if ((bt x149002 x18) / 16) < 16 then (if 0 ≤ (Go.bits .and .u8 (bt x149002 x18) 15) then (if (Go.bits .and .u8 (bt x149002 x18) 15) < 16 then ((some (([bt (⟨#[48, 49, 50, 51, 52, 53, 54, 55, 56, 57, 97, 98, 99, 100, 101, 102]⟩ : ByteArray) ((bt x149002 x18) / 16), bt (⟨#[48, 49, 50, 51, 52, 53, 54, 55, 56, 57, 97, 98, 99, 100, 101, 102]⟩ : ByteArray) (Go.bits .and .u8 (bt x149002 x18) 15)] : List Int) : List Int)).bind fun y153 => (if x3.length + y153.length < 140737488355328 then (val_Text.l0 k (x3 ++ y153) x17 (wrap64 (x18 + 1)) x149000 x149001 x149002 x149003) else (none))) else (none)) else (none)) else (none)) else (none)) else (none)) else (none)) else (some (strOfNums x3))
def val_Text.f (k : Nat) (a0_0 : Int) (a0_1 : Int) (a0_2 : ByteArray) (a0_3 : (Nat × Nat)) : Option (ByteArray) := if a0_0 = 1 then ((strconv_FormatInt.f a0_1 10).bind fun t149 => (some t149)) else (if a0_0 = 2 then (val_Text.l0 k (([34] : List Int)) (a0_2.size : Int) 0 a0_0 a0_1 a0_2 a0_3) else (if a0_0 = 3 then ((point_Text.f a0_3).bind fun t159 => (some t159)) else (some (⟨#[45]⟩ : ByteArray))))
theorem val_Text.mono_l : ∀ k, (∀ y0 y1 y2 y3 y4 y5 y6, LeO (val_Text.l0 k y0 y1 y2 y3 y4 y5 y6) (val_Text.l0 (k + 1) y0 y1 y2 y3 y4 y5 y6))
  | 0 => fun _ _ _ _ _ _ _ r h => by simp [val_Text.l0] at h
  | k + 1 => by
    have ih0 := val_Text.mono_l k
    · intro y0 y1 y2 y3 y4 y5 y6
      unfold val_Text.l0
      repeat' first
      | (with_reducible exact ih0 _ _ _ _ _ _ _)
      | (with_reducible exact LeO.refl _)
      | (with_reducible exact LeO.none _)
      | (with_reducible refine LeO.ite ?_ ?_)
      | (with_reducible refine LeO.bind ?_ (fun _ => ?_))
      | exact ih0 _ _ _ _ _ _ _
      | exact LeO.none _
      | refine LeO.ite ?_ ?_
      | refine LeO.bind ?_ (fun _ => ?_)
theorem val_Text.mono : ∀ a0 a1 a2 a3 k, LeO (val_Text.f k a0 a1 a2 a3) (val_Text.f (k + 1) a0 a1 a2 a3) := by
  intro a0 a1 a2 a3 k
  have ih0 := val_Text.mono_l k
  unfold val_Text.f
  repeat' first
      | (with_reducible exact ih0 _ _ _ _ _ _ _)
      | (with_reducible exact LeO.refl _)
      | (with_reducible exact LeO.none _)
      | (with_reducible refine LeO.ite ?_ ?_)
      | (with_reducible refine LeO.bind ?_ (fun _ => ?_))
      | exact ih0 _ _ _ _ _ _ _
      | exact LeO.none _
      | refine LeO.ite ?_ ?_
      | refine LeO.bind ?_ (fun _ => ?_)
def val_Text.T9 : Bool × List (List Nat × List Nat) := (true, [([], []), ([], []), ([1], [1]), ([], []), ([2, 3], [2, 3]), ([4], [4]), ([5], [5]), ([], []), ([7], [7]), ([], []), ([8, 9], [8, 9]), ([10], [10]), ([11], [11]), ([6, 12], [6, 12]), ([0, 13], [0, 13]), ([14, 14, 0, 1, 2, 3, 4, 5, 6, 7, 8, 9, 10, 11, 12, 13, 14], [0, 14])])
def val_Text.B9 : List Nat := [0, 0, 2, 0, 14, 30, 62, 0, 128, 0, 896, 1920, 3968, 8190, 16383, 32767]
theorem val_Text.tab9 : rtab .any (opsOf Tryz.f8 9) = val_Text.T9 := by kernel_rfl
theorem val_Text.bits9 : waitsOk val_Text.T9.2 val_Text.B9 = true := by kernel_rfl
set_option maxHeartbeats 8000000 in
set_option maxRecDepth 100000 in
theorem val_Text.calls (k : Nat) (a0_0 : Int) (a0_1 : Int) (a0_2 : ByteArray) (a0_3 : (Nat × Nat)) (r : ByteArray) (w : World) (h : val_Text.f k a0_0 a0_1 a0_2 a0_3 = some r) (hG_ : Glob w) :
    Calls Tryz.prog 8 #[.agg #[.int .i64 a0_0, .int .i64 a0_1, .string a0_2, .complex .f64 a0_3.1 a0_3.2]] w fun e w' => e = .returned (.string r) ∧ Below w.heap.size w w' := by
  have HG_ := Aside0.mk hG_
  clear hG_
  have hu25 := Tryz.underlying25
  have HB := Aside0.mk (Below.refl w.heap.size w)
  have H : (if a0_0 = 1 then ((strconv_FormatInt.f a0_1 10).bind fun t149 => (some t149)) else (if a0_0 = 2 then (val_Text.l0 k (([34] : List Int)) (a0_2.size : Int) 0 a0_0 a0_1 a0_2 a0_3) else (if a0_0 = 3 then ((point_Text.f a0_3).bind fun t159 => (some t159)) else (some (⟨#[45]⟩ : ByteArray))))) = some r := h
  clear h
  by_cases c2 : a0_0 = 1
  · rw [if_pos c2] at H
    have c2b0 : (a0_0 == 1) = true := beq_iff_eq.mpr c2
    have c2b1 : (a0_0 != 1) = false := bne_eq_false_iff_eq.mpr c2
    clear c2
    replace H := Option.bind_eq_some_iff.mp H
    obtain ⟨t149, A30, H⟩ := H
    replace H : (some t149) = some r := H
    have A3 := Aside0.mk A30
    clear A30
    obtain rfl := Option.some.inj H
    go_enter Tryz.func8, Tryz.ntmps8
    go_wp2_with (first | ((with_reducible refine gate_dst (N := 1) rfl ?_); refine box_event ?hg (N := 1) ?hd (cs := #[.int .i64 a0_0, .int .i64 a0_1, .string a0_2, .complex .f64 a0_3.1 a0_3.2]) (t := 25) ?hr ?_; (case hd => rfl); (case hg => rfl); (case hr => first | (go_simp; done) | (go_simp; rfl)); intro gb148 hg w4 hbox hb; have n0_ := Aside0.mk (below_step (by repeat (first | (with_reducible first | exact HB.out | apply below_alloc | apply pw_below_drewN | apply below_drew1) | exact HB.out)) hb); have n1_ := Aside0.mk (hbox); have n2_ := Aside0.mk ((by rw [hg]; exact (below_size (by repeat (first | (with_reducible first | exact HB.out | apply below_alloc | apply pw_below_drewN | apply below_drew1) | exact HB.out))) : w.heap.size ≤ gb148)); have n3_ := Aside0.mk ((by rw [hg]; exact (below_size (by repeat (first | (with_reducible first | exact HB.out | apply below_alloc | apply pw_below_drewN | apply below_drew1) | exact HB.out))) : w.heap.size ≤ gb148)); clear HB; have HB := n0_; have BK148 := n1_; have GW148 := n2_; have GE148 := n3_; clear n0_ n1_ n2_ n3_; clear hb hbox hg; have hcz5_0 : w4.cell? ⟨gb148, 0, none⟩ = some (.int .i64 a0_0) := (blk_cell BK148.out 0).trans rfl; have hcz5_1 : w4.cell? ⟨gb148, 1, none⟩ = some (.int .i64 a0_1) := (blk_cell BK148.out 1).trans rfl; have hcz5_2 : w4.cell? ⟨gb148, 2, none⟩ = some (.string a0_2) := (blk_cell BK148.out 2).trans rfl; have hcz5_3 : w4.cell? ⟨gb148, 3, none⟩ = some (.complex .f64 a0_3.1 a0_3.2) := (blk_cell BK148.out 3).trans rfl; have hfz5_0 := blk_frozen BK148.out 0; have hfz5_1 := blk_frozen BK148.out 1; have hfz5_2 := blk_frozen BK148.out 2; have hfz5_3 := blk_frozen BK148.out 3) | ((with_reducible refine gate_callee (f := 26) rfl ?_); refine goesL_ (some 11) rfl rfl Tryz.func26 (by kernel_rfl) rfl #[.int .i64 a0_1, .int .i64 10] rfl (by (try simp only [List.map_toArray, List.map_cons, List.map_nil]); first | done | rfl | (simp only [List.length_drop, List.length_take]; rfl)) ?_; (with_reducible refine (strconv_FormatInt.calls a0_1 10 t149 _ A3.out (Glob.below HG_.out (by repeat (first | (with_reducible first | exact HB.out | apply below_alloc | apply pw_below_drewN | apply below_drew1 | refine below_set ?_ GE148.out) | exact HB.out)))).mono ?_); rintro e w6 ⟨rfl, hb⟩; refine ⟨_, rfl, ?_⟩; have n0_ := Aside0.mk (blk_below (g := gb148) (o := .cells #[.int .i64 a0_0, .int .i64 a0_1, .string a0_2, .complex .f64 a0_3.1 a0_3.2] 25 (0, 0)) (by (with_reducible repeat (first | refine blk_drewN ?_ _ | refine blk_drew ?_ | refine blk_alloc ?_ _)); exact BK148.out) hb); have n1_ := Aside0.mk (below_step (by repeat (first | (with_reducible first | exact HB.out | apply below_alloc | apply pw_below_drewN | apply below_drew1 | refine below_set ?_ GE148.out) | exact HB.out)) hb); clear BK148; clear HB; have BK148 := n0_; have HB := n1_; clear n0_ n1_; (try clear hb); (try clear hb2); (try clear hk); (try clear hi)))
    go_ret
    exact ⟨by first | rfl | (simp [errW_none, errW_some] <;> rfl) | (simp [*, errW_none, errW_some] <;> rfl), by repeat (first | (with_reducible first | exact HB.out | apply below_alloc | apply pw_below_drewN | apply below_drew1 | refine below_set ?_ GE148.out) | exact HB.out)⟩
  · rw [if_neg c2] at H
    have c2b0 : (a0_0 == 1) = false := beq_eq_false_iff_ne.mpr c2
    have c2b1 : (a0_0 != 1) = true := bne_iff_ne.mpr c2
    by_cases c7 : a0_0 = 2
    · rw [if_pos c7] at H
      have c7b0 : (a0_0 == 2) = true := beq_iff_eq.mpr c7
      have c7b1 : (a0_0 != 2) = false := bne_eq_false_iff_eq.mpr c7
      clear c7
      obtain ⟨y150, hy150⟩ : ∃ y_ : List Int, y_ = (([34] : List Int)) := ⟨_, rfl⟩
      replace H : (val_Text.l0 k y150 (a0_2.size : Int) 0 a0_0 a0_1 a0_2 a0_3) = some r := by first | (rw [hy150]; with_reducible exact H) | (have H2_ := (Option.bind_some _ _).symm.trans H; rw [hy150]; with_reducible exact H2_) | (have H2_ := (Option.bind_some _ _).symm.trans H; with_reducible exact H2_) | with_reducible exact H | (rw [hy150]; exact H) | exact H
      have Ny150 := Aside0.mk hy150
      clear hy150
      have H' := Aside0.mk H
      clear H
      go_enter Tryz.func8, Tryz.ntmps8
      go_wp2_with (first | ((with_reducible refine gate_dst (N := 1) rfl ?_); refine box_event ?hg (N := 1) ?hd (cs := #[.int .i64 a0_0, .int .i64 a0_1, .string a0_2, .complex .f64 a0_3.1 a0_3.2]) (t := 25) ?hr ?_; (case hd => rfl); (case hg => rfl); (case hr => first | (go_simp; done) | (go_simp; rfl)); intro gb148 hg w8 hbox hb; have n0_ := Aside0.mk (below_step (by repeat (first | (with_reducible first | exact HB.out | apply below_alloc | apply pw_below_drewN | apply below_drew1) | exact HB.out)) hb); have n1_ := Aside0.mk (hbox); have n2_ := Aside0.mk ((by rw [hg]; exact (below_size (by repeat (first | (with_reducible first | exact HB.out | apply below_alloc | apply pw_below_drewN | apply below_drew1) | exact HB.out))) : w.heap.size ≤ gb148)); have n3_ := Aside0.mk ((by rw [hg]; exact (below_size (by repeat (first | (with_reducible first | exact HB.out | apply below_alloc | apply pw_below_drewN | apply below_drew1) | exact HB.out))) : w.heap.size ≤ gb148)); clear HB; have HB := n0_; have BK148 := n1_; have GW148 := n2_; have GE148 := n3_; clear n0_ n1_ n2_ n3_; clear hb hbox hg; have hcz9_0 : w8.cell? ⟨gb148, 0, none⟩ = some (.int .i64 a0_0) := (blk_cell BK148.out 0).trans rfl; have hcz9_1 : w8.cell? ⟨gb148, 1, none⟩ = some (.int .i64 a0_1) := (blk_cell BK148.out 1).trans rfl; have hcz9_2 : w8.cell? ⟨gb148, 2, none⟩ = some (.string a0_2) := (blk_cell BK148.out 2).trans rfl; have hcz9_3 : w8.cell? ⟨gb148, 3, none⟩ = some (.complex .f64 a0_3.1 a0_3.2) := (blk_cell BK148.out 3).trans rfl; have hfz9_0 := blk_frozen BK148.out 0; have hfz9_1 := blk_frozen BK148.out 1; have hfz9_2 := blk_frozen BK148.out 2; have hfz9_3 := blk_frozen BK148.out 3) | ((with_reducible refine gate_dst (N := 14) rfl ?_); refine Kd.R_lit (Kd.int .u8) _ 5 ?hg (N := 14) ?hd (xs := ([34] : List Int)) (inner := [.int .u8 34]) (ok := fun _ => True) (okp := fun _ => True) ?hr ?hp (fun _ hk => hk) trivial (Below.refl _ _) (Nat.le_refl _) (by simp) ?_; (case hd => rfl); (case hg => rfl); (case hr => first | (go_simp; done) | (go_simp; rfl)); (case hp => exact (Reps.one (show Kd.M (Kd.int .u8) _ _ _ 34 [.int .u8 34] from rfl) (Reps.none _ _))); intro v151 w10 ho11 hb hg_ hnew_; clear hg_ hnew_; (first | rw [← Ny150.out] at ho11 | (simp only [Int.reduceToNat] at ho11; rw [← Ny150.out] at ho11)); have n0_ := Aside0.mk (Kd.R_lower ho11 (below_size (by repeat (first | (with_reducible first | exact HB.out | apply below_alloc | apply pw_below_drewN | apply below_drew1 | refine below_set ?_ GE148.out) | exact HB.out)))); have n1_ := Aside0.mk (blk_below (g := gb148) (o := .cells #[.int .i64 a0_0, .int .i64 a0_1, .string a0_2, .complex .f64 a0_3.1 a0_3.2] 25 (0, 0)) (by (with_reducible repeat (first | refine blk_drewN ?_ _ | refine blk_drew ?_ | refine blk_alloc ?_ _)); exact BK148.out) hb); have n2_ := Aside0.mk (below_step (by repeat (first | (with_reducible first | exact HB.out | apply below_alloc | apply pw_below_drewN | apply below_drew1 | refine below_set ?_ GE148.out) | exact HB.out)) hb); clear BK148; clear HB; have HO152 := n0_; have BK148 := n1_; have HB := n2_; clear n0_ n1_ n2_; clear hb ho11; have hcz12_0 : w10.cell? ⟨gb148, 0, none⟩ = some (.int .i64 a0_0) := (blk_cell BK148.out 0).trans rfl; have hcz12_1 : w10.cell? ⟨gb148, 1, none⟩ = some (.int .i64 a0_1) := (blk_cell BK148.out 1).trans rfl; have hcz12_2 : w10.cell? ⟨gb148, 2, none⟩ = some (.string a0_2) := (blk_cell BK148.out 2).trans rfl; have hcz12_3 : w10.cell? ⟨gb148, 3, none⟩ = some (.complex .f64 a0_3.1 a0_3.2) := (blk_cell BK148.out 3).trans rfl; have hfz12_0 := blk_frozen BK148.out 0; have hfz12_1 := blk_frozen BK148.out 1; have hfz12_2 := blk_frozen BK148.out 2; have hfz12_3 := blk_frozen BK148.out 3))
      go_loopg [3, 18] k (fun kq v3 v18 w' => ∃ (x3_1 : List Int) (x18_1 : Int), v18 = .int .i64 x18_1 ∧ Aside0 (val_Text.l0 kq x3_1 (a0_2.size : Int) x18_1 a0_0 a0_1 a0_2 a0_3 = some r) ∧ Aside0 (kq ≤ k) ∧ Aside0 (Kd.R (Kd.int .u8) 5 w' w.heap.size (fun _ => True) v3 x3_1) ∧ Aside0 (w'.heap[gb148]? = some (.cells #[.int .i64 a0_0, .int .i64 a0_1, .string a0_2, .complex .f64 a0_3.1 a0_3.2] 25 (0, 0))) ∧ Aside0 (Below w.heap.size w w'))
      case atStart => exact ⟨(y150), (0), (by first | rfl | (simp; done) | (simp [*]; done)), H', ⟨Nat.le_refl _⟩, ⟨by (with_reducible repeat (first | apply Kd.R_alloc | apply Kd.R_drewN | apply Kd.R_drew)); exact HO152.out⟩, ⟨by (with_reducible repeat (first | refine blk_drewN ?_ _ | refine blk_drew ?_ | refine blk_alloc ?_ _)); exact BK148.out⟩, ⟨by repeat (first | (with_reducible first | exact HB.out | apply below_alloc | apply pw_below_drewN | apply below_drew1 | refine below_set ?_ GE148.out) | exact HB.out)⟩⟩
      case round =>
        clear H'
        try clear c2
        try clear c2b0
        try clear c2b1
        try clear p2
        try clear c7
        try clear c7b0
        try clear c7b1
        try clear c8
        try clear hcz12_0
        try clear hcz12_1
        try clear hcz12_2
        try clear hcz12_3
        try clear hcz5_0
        try clear hcz5_1
        try clear hcz5_2
        try clear hcz5_3
        try clear hcz9_0
        try clear hcz9_1
        try clear hcz9_2
        try clear hcz9_3
        try clear hfz12_0
        try clear hfz12_1
        try clear hfz12_2
        try clear hfz12_3
        try clear hfz5_0
        try clear hfz5_1
        try clear hfz5_2
        try clear hfz5_3
        try clear hfz9_0
        try clear hfz9_1
        try clear hfz9_2
        try clear hfz9_3
        obtain ⟨x3_1, x18_1, rfl, HA, HK1, HO_3, BK148, HB⟩ := hrel
        cases gk with
        | zero => exact absurd HA.out (by simp [val_Text.l0])
        | succ k1 =>
          have H := HA.out
          clear HA
          simp only [val_Text.l0] at H
          by_cases c13 : x18_1 < (a0_2.size : Int)
          · rw [if_pos c13] at H
            have c13b0 : decide (x18_1 < (a0_2.size : Int)) = true := decide_eq_true c13
            clear c13
            by_cases c14 : 0 ≤ x18_1
            · rw [if_pos c14] at H
              have c14b0 : decide (0 ≤ x18_1) = true := decide_eq_true c14
              clear c14
              by_cases c15 : x18_1 < (a0_2.size : Int)
              · rw [if_pos c15] at H
                have c15b0 : decide (x18_1 < (a0_2.size : Int)) = true := decide_eq_true c15
                clear c15
                obtain ⟨ji17, hji17⟩ : ∃ j_ : Int, ((bt a0_2 x18_1) / 16) = j_ := ⟨_, rfl⟩
                replace H : (if 0 ≤ (ji17) then (if (ji17) < 16 then (if 0 ≤ (Go.bits .and .u8 (bt a0_2 x18_1) 15) then (if (Go.bits .and .u8 (bt a0_2 x18_1) 15) < 16 then ((some (([bt (⟨#[48, 49, 50, 51, 52, 53, 54, 55, 56, 57, 97, 98, 99, 100, 101, 102]⟩ : ByteArray) (ji17), bt (⟨#[48, 49, 50, 51, 52, 53, 54, 55, 56, 57, 97, 98, 99, 100, 101, 102]⟩ : ByteArray) (Go.bits .and .u8 (bt a0_2 x18_1) 15)] : List Int) : List Int)).bind fun y153 => (if x3_1.length + y153.length < 140737488355328 then (val_Text.l0 k1 (x3_1 ++ y153) (a0_2.size : Int) (wrap64 (x18_1 + 1)) a0_0 a0_1 a0_2 a0_3) else (none))) else (none)) else (none)) else (none)) else (none)) = some r := by first | (rw [hji17] at H; exact H) | (simp only [hji17] at H ⊢; exact H)
                by_cases c18 : 0 ≤ (ji17)
                · rw [if_pos c18] at H
                  have c18b0 : decide (0 ≤ (ji17)) = true := decide_eq_true c18
                  clear c18
                  by_cases c19 : (ji17) < 16
                  · rw [if_pos c19] at H
                    have c19b0 : decide ((ji17) < 16) = true := decide_eq_true c19
                    clear c19
                    by_cases c22 : 0 ≤ (Go.bits .and .u8 (bt a0_2 x18_1) 15)
                    · rw [if_pos c22] at H
                      have c22b0 : decide (0 ≤ (Go.bits .and .u8 (bt a0_2 x18_1) 15)) = true := decide_eq_true c22
                      clear c22
                      by_cases c23 : (Go.bits .and .u8 (bt a0_2 x18_1) 15) < 16
                      · rw [if_pos c23] at H
                        have c23b0 : decide ((Go.bits .and .u8 (bt a0_2 x18_1) 15) < 16) = true := decide_eq_true c23
                        clear c23
                        obtain ⟨y153, hy153⟩ : ∃ y_ : List Int, y_ = (([bt (⟨#[48, 49, 50, 51, 52, 53, 54, 55, 56, 57, 97, 98, 99, 100, 101, 102]⟩ : ByteArray) (ji17), bt (⟨#[48, 49, 50, 51, 52, 53, 54, 55, 56, 57, 97, 98, 99, 100, 101, 102]⟩ : ByteArray) (Go.bits .and .u8 (bt a0_2 x18_1) 15)] : List Int)) := ⟨_, rfl⟩
                        replace H : (if x3_1.length + y153.length < 140737488355328 then (val_Text.l0 k1 (x3_1 ++ y153) (a0_2.size : Int) (wrap64 (x18_1 + 1)) a0_0 a0_1 a0_2 a0_3) else (none)) = some r := by first | (rw [hy153]; with_reducible exact H) | (have H2_ := (Option.bind_some _ _).symm.trans H; rw [hy153]; with_reducible exact H2_) | (have H2_ := (Option.bind_some _ _).symm.trans H; with_reducible exact H2_) | with_reducible exact H | (rw [hy153]; exact H) | exact H
                        have Ny153 := Aside0.mk hy153
                        clear hy153
                        by_cases c25 : x3_1.length + y153.length < 140737488355328
                        · rw [if_pos c25] at H
                          have LMc25 := Aside0.mk c25
                          clear c25
                          obtain ⟨y156, hy156⟩ : ∃ y_ : List Int, y_ = (x3_1 ++ y153) := ⟨_, rfl⟩
                          replace H : (val_Text.l0 k1 y156 (a0_2.size : Int) (wrap64 (x18_1 + 1)) a0_0 a0_1 a0_2 a0_3) = some r := by first | (rw [hy156]; with_reducible exact H) | (have H2_ := (Option.bind_some _ _).symm.trans H; rw [hy156]; with_reducible exact H2_) | (have H2_ := (Option.bind_some _ _).symm.trans H; with_reducible exact H2_) | with_reducible exact H | (rw [hy156]; exact H) | exact H
                          have Ny156 := Aside0.mk hy156
                          clear hy156
                          have H' := Aside0.mk H
                          clear H
                          try go_wp2
                          have n0_ := Aside0.mk (Kd.R_drew HO_3.out)
                          have n1_ := Aside0.mk (blk_drew BK148.out)
                          have n2_ := Aside0.mk (below_drew1 HB.out)
                          clear HO_3
                          clear BK148
                          clear HB
                          have HO_3 := n0_
                          have BK148 := n1_
                          have HB := n2_
                          clear n0_ n1_ n2_
                          have p16 : 0 ≤ (x18_1 : Int) := of_decide_eq_true (by first | (with_reducible assumption) | assumption)
                          have q16 : x18_1 < (a0_2.size : Int) := of_decide_eq_true (by first | (with_reducible assumption) | assumption)
                          have hx16 := bt_at a0_2 x18_1
                          replace p16 := eq_true p16
                          replace q16 := eq_true q16
                          have p20 : 0 ≤ ((ji17) : Int) := of_decide_eq_true (by first | (with_reducible assumption) | assumption)
                          have q20 : (ji17) < (16 : Int) := of_decide_eq_true (by first | (with_reducible assumption) | assumption)
                          have hx20 := bt_at (⟨#[48, 49, 50, 51, 52, 53, 54, 55, 56, 57, 97, 98, 99, 100, 101, 102]⟩ : ByteArray) (ji17)
                          replace p20 := eq_true p20
                          replace q20 := eq_true q20
                          have p21 : 0 ≤ (x18_1 : Int) := of_decide_eq_true (by first | (with_reducible assumption) | assumption)
                          have q21 : x18_1 < (a0_2.size : Int) := of_decide_eq_true (by first | (with_reducible assumption) | assumption)
                          have hx21 := bt_at a0_2 x18_1
                          replace p21 := eq_true p21
                          replace q21 := eq_true q21
                          have p24 : 0 ≤ ((Go.bits .and .u8 (bt a0_2 x18_1) 15) : Int) := of_decide_eq_true (by first | (with_reducible assumption) | assumption)
                          have q24 : (Go.bits .and .u8 (bt a0_2 x18_1) 15) < (16 : Int) := of_decide_eq_true (by first | (with_reducible assumption) | assumption)
                          have hx24 := bt_at (⟨#[48, 49, 50, 51, 52, 53, 54, 55, 56, 57, 97, 98, 99, 100, 101, 102]⟩ : ByteArray) (Go.bits .and .u8 (bt a0_2 x18_1) 15)
                          replace p24 := eq_true p24
                          replace q24 := eq_true q24
                          refine start_ (n := 16) (S := fun w' => w'.cell? ⟨gb148, 0, none⟩ = some (.int .i64 a0_0) ∧ w'.cell? ⟨gb148, 1, none⟩ = some (.int .i64 a0_1) ∧ w'.cell? ⟨gb148, 2, none⟩ = some (.string a0_2) ∧ w'.cell? ⟨gb148, 3, none⟩ = some (.complex .f64 a0_3.1 a0_3.2)) (ds := []) #[false, false, false, false, false, false, false, false, false, false, false, false, false, false, false, false] (by kernel_rfl) rfl rfl ⟨(blk_cell BK148.out 0).trans rfl, (blk_cell BK148.out 1).trans rfl, (blk_cell BK148.out 2).trans rfl, (blk_cell BK148.out 3).trans rfl⟩ (fun hHeld => ?_); refine with_tabW val_Text.tab9 val_Text.bits9 (fun HT_ HW_ => ?_)
                          generalize wr.drew = w26 at HO_3 BK148 HB hHeld ⊢
                          refine pure_ (i := 0) (N := some 21) (v := ?_) (a' := ?_) #[true, false, false, false, false, false, false, false, false, false, false, false, false, false, false, false] rfl rfl (any_of HT_.out (by kernel_rfl)) (fun _ _ _ h => h) (Or.inl ⟨by rfl, ?_⟩) ?_ ?_
                          rotate_left
                          · intro w'
                            go_simp
                            with_reducible rfl
                          rotate_left
                          · simp only [Act.put, List.setIfInBounds_toArray, List.set_cons_zero, List.set_cons_succ, i64_w, i32_w]
                            rfl
                          refine pure_ (i := 1) (N := some 22) (v := ?_) (a' := ?_) #[true, true, false, false, false, false, false, false, false, false, false, false, false, false, false, false] rfl rfl (any_of HT_.out (by kernel_rfl)) (fun _ _ _ h => h) (Or.inl ⟨by rfl, ?_⟩) ?_ ?_
                          rotate_left
                          · intro w'
                            go_simp
                            with_reducible rfl
                          rotate_left
                          · simp only [Act.put, List.setIfInBounds_toArray, List.set_cons_zero, List.set_cons_succ, i64_w, i32_w]
                            rfl
                          refine pure_ (i := 3) (N := some 24) (v := ?_) (a' := ?_) #[true, true, false, true, false, false, false, false, false, false, false, false, false, false, false, false] rfl rfl (any_of HT_.out (by kernel_rfl)) (fun _ _ _ h => h) (Or.inl ⟨by rfl, ?_⟩) ?_ ?_
                          rotate_left
                          · intro w'
                            go_simp
                            with_reducible rfl
                          rotate_left
                          · simp only [Act.put, List.setIfInBounds_toArray, List.set_cons_zero, List.set_cons_succ, i64_w, i32_w]
                            rfl
                          refine pure_ (i := 7) (N := some 28) (v := ?_) (a' := ?_) #[true, true, false, true, false, false, false, true, false, false, false, false, false, false, false, false] rfl rfl (any_of HT_.out (by kernel_rfl)) (fun _ _ _ h => h) (Or.inl ⟨by rfl, ?_⟩) ?_ ?_
                          rotate_left
                          · intro w'
                            go_simp
                            with_reducible rfl
                          rotate_left
                          · simp only [Act.put, List.setIfInBounds_toArray, List.set_cons_zero, List.set_cons_succ, i64_w, i32_w]
                            rfl
                          refine pure_ (i := 9) (N := some 30) (v := ?_) (a' := ?_) #[true, true, false, true, false, false, false, true, false, true, false, false, false, false, false, false] rfl rfl (any_of HT_.out (by kernel_rfl)) (fun _ _ _ h => h) (Or.inl ⟨by rfl, ?_⟩) ?_ ?_
                          rotate_left
                          · intro w'
                            go_simp
                            with_reducible rfl
                          rotate_left
                          · simp only [Act.put, List.setIfInBounds_toArray, List.set_cons_zero, List.set_cons_succ, i64_w, i32_w]
                            rfl
                          refine take_ (i := 2) (N := some 23) (v := ?_) (a' := ?_) #[true, true, true, true, false, false, false, true, false, true, false, false, false, false, false, false] rfl rfl (take_ofW HT_.out HW_.out (by kernel_rfl)) (fun _ _ _ h => h) (Or.inl ⟨by rfl, ?_⟩) hHeld ?_ ?_
                          rotate_left
                          · rintro w' ⟨s0, s1, s2, s3⟩
                            go_simp
                            with_reducible rfl
                          rotate_left
                          · simp only [Act.put, List.setIfInBounds_toArray, List.set_cons_zero, List.set_cons_succ, i64_w, i32_w]
                            rfl
                          refine take_ (i := 4) (N := some 25) (v := ?_) (a' := ?_) #[true, true, true, true, true, false, false, true, false, true, false, false, false, false, false, false] rfl rfl (take_ofW HT_.out HW_.out (by kernel_rfl)) (fun _ _ _ h => h) (Or.inl ⟨by rfl, ?_⟩) hHeld ?_ ?_
                          rotate_left
                          · rintro w' ⟨s0, s1, s2, s3⟩
                            go_simp
                            with_reducible rfl
                          rotate_left
                          · simp only [Act.put, List.setIfInBounds_toArray, List.set_cons_zero, List.set_cons_succ, i64_w, i32_w]
                            rfl
                          refine pure_ (i := 5) (N := some 26) (v := ?_) (a' := ?_) #[true, true, true, true, true, true, false, true, false, true, false, false, false, false, false, false] rfl rfl (any_of HT_.out (by kernel_rfl)) (fun _ _ _ h => h) (Or.inl ⟨by rfl, ?_⟩) ?_ ?_
                          rotate_left
                          · intro w'
                            go_simp
                            with_reducible rfl
                          rotate_left
                          · simp only [Act.put, List.setIfInBounds_toArray, List.set_cons_zero, List.set_cons_succ, i64_w, i32_w]
                            rfl
                          refine take_ (i := 6) (N := some 27) (v := ?_) (a' := ?_) #[true, true, true, true, true, true, true, true, false, true, false, false, false, false, false, false] rfl rfl (take_ofW HT_.out HW_.out (by kernel_rfl)) (fun _ _ _ h => h) (Or.inl ⟨by rfl, ?_⟩) hHeld ?_ ?_
                          rotate_left
                          · rintro w' ⟨s0, s1, s2, s3⟩
                            go_simp
                            with_reducible rfl
                          rotate_left
                          · simp only [Act.put, List.setIfInBounds_toArray, List.set_cons_zero, List.set_cons_succ, i64_w, i32_w]
                            rfl
                          refine take_ (i := 8) (N := some 29) (v := ?_) (a' := ?_) #[true, true, true, true, true, true, true, true, true, true, false, false, false, false, false, false] rfl rfl (take_ofW HT_.out HW_.out (by kernel_rfl)) (fun _ _ _ h => h) (Or.inl ⟨by rfl, ?_⟩) hHeld ?_ ?_
                          rotate_left
                          · rintro w' ⟨s0, s1, s2, s3⟩
                            go_simp
                            with_reducible rfl
                          rotate_left
                          · simp only [Act.put, List.setIfInBounds_toArray, List.set_cons_zero, List.set_cons_succ, i64_w, i32_w]
                            rfl
                          refine take_ (i := 10) (N := some 31) (v := ?_) (a' := ?_) #[true, true, true, true, true, true, true, true, true, true, true, false, false, false, false, false] rfl rfl (take_ofW HT_.out HW_.out (by kernel_rfl)) (fun _ _ _ h => h) (Or.inl ⟨by rfl, ?_⟩) hHeld ?_ ?_
                          rotate_left
                          · rintro w' ⟨s0, s1, s2, s3⟩
                            go_simp
                            with_reducible rfl
                          rotate_left
                          · simp only [Act.put, List.setIfInBounds_toArray, List.set_cons_zero, List.set_cons_succ, i64_w, i32_w]
                            rfl
                          refine pure_ (i := 11) (N := some 32) (v := ?_) (a' := ?_) #[true, true, true, true, true, true, true, true, true, true, true, true, false, false, false, false] rfl rfl (any_of HT_.out (by kernel_rfl)) (fun _ _ _ h => h) (Or.inl ⟨by rfl, ?_⟩) ?_ ?_
                          rotate_left
                          · intro w'
                            go_simp
                            with_reducible rfl
                          rotate_left
                          · simp only [Act.put, List.setIfInBounds_toArray, List.set_cons_zero, List.set_cons_succ, i64_w, i32_w]
                            rfl
                          refine take_ (i := 12) (N := some 33) (v := ?_) (a' := ?_) #[true, true, true, true, true, true, true, true, true, true, true, true, true, false, false, false] rfl rfl (take_ofW HT_.out HW_.out (by kernel_rfl)) (fun _ _ _ h => h) (Or.inl ⟨by rfl, ?_⟩) hHeld ?_ ?_
                          rotate_left
                          · rintro w' ⟨s0, s1, s2, s3⟩
                            go_simp
                            with_reducible rfl
                          rotate_left
                          · simp only [Act.put, List.setIfInBounds_toArray, List.set_cons_zero, List.set_cons_succ, i64_w, i32_w]
                            rfl
                          refine one_ (i := 13) (N := some 34) #[true, true, true, true, true, true, true, true, true, true, true, true, true, true, false, false] rfl rfl (one_of HT_.out (by kernel_rfl)) (by decide) (fun K hK => ?_)
                          refine Kd.R_lit_step (Kd.int .u8) _ 5 ?hg (N := 34) ?hd (xs := ([bt (⟨#[48, 49, 50, 51, 52, 53, 54, 55, 56, 57, 97, 98, 99, 100, 101, 102]⟩ : ByteArray) (ji17), bt (⟨#[48, 49, 50, 51, 52, 53, 54, 55, 56, 57, 97, 98, 99, 100, 101, 102]⟩ : ByteArray) (Go.bits .and .u8 (bt a0_2 x18_1) 15)] : List Int)) (inner := [.int .u8 (bt (⟨#[48, 49, 50, 51, 52, 53, 54, 55, 56, 57, 97, 98, 99, 100, 101, 102]⟩ : ByteArray) (ji17)), .int .u8 (bt (⟨#[48, 49, 50, 51, 52, 53, 54, 55, 56, 57, 97, 98, 99, 100, 101, 102]⟩ : ByteArray) (Go.bits .and .u8 (bt a0_2 x18_1) 15))]) (ok := fun _ => True) (okp := fun _ => True) ?hr ?hp (fun _ hk => hk) trivial (Below.refl _ _) (Nat.le_refl _) (by simp) ?_; (case hd => rfl); (case hg => rfl); (case hr => first | (go_simp; done) | (go_simp; rfl)); (case hp => exact (Reps.one (show Kd.M (Kd.int .u8) _ _ _ (bt (⟨#[48, 49, 50, 51, 52, 53, 54, 55, 56, 57, 97, 98, 99, 100, 101, 102]⟩ : ByteArray) (ji17)) [.int .u8 (bt (⟨#[48, 49, 50, 51, 52, 53, 54, 55, 56, 57, 97, 98, 99, 100, 101, 102]⟩ : ByteArray) (ji17))] from rfl) (Reps.one (show Kd.M (Kd.int .u8) _ _ _ (bt (⟨#[48, 49, 50, 51, 52, 53, 54, 55, 56, 57, 97, 98, 99, 100, 101, 102]⟩ : ByteArray) (Go.bits .and .u8 (bt a0_2 x18_1) 15)) [.int .u8 (bt (⟨#[48, 49, 50, 51, 52, 53, 54, 55, 56, 57, 97, 98, 99, 100, 101, 102]⟩ : ByteArray) (Go.bits .and .u8 (bt a0_2 x18_1) 15))] from rfl) (Reps.none _ _))))
                          intro v154 w27 ho28 hb hg_ hnew_
                          clear hg_ hnew_
                          (first | rw [← Ny153.out] at ho28 | (simp only [Int.reduceToNat] at ho28; rw [← Ny153.out] at ho28))
                          have n0_ := Aside0.mk (Kd.R_elder' (by (with_reducible repeat (first | apply Kd.R_alloc | apply Kd.R_drewN | apply Kd.R_drew)); exact HO_3.out) (Kd.R_base ho28) hb)
                          have n1_ := Aside0.mk (Kd.R_lower (Kd.R_new' ho28 (Kd.R_lt (by (with_reducible repeat (first | apply Kd.R_alloc | apply Kd.R_drewN | apply Kd.R_drew)); exact HO_3.out))) (below_size (by repeat (first | (with_reducible first | exact HB.out | apply below_alloc | apply pw_below_drewN | apply below_drew1 | refine below_set ?_ GE148.out) | exact HB.out))))
                          have n2_ := Aside0.mk (blk_below (g := gb148) (o := .cells #[.int .i64 a0_0, .int .i64 a0_1, .string a0_2, .complex .f64 a0_3.1 a0_3.2] 25 (0, 0)) (by (with_reducible repeat (first | refine blk_drewN ?_ _ | refine blk_drew ?_ | refine blk_alloc ?_ _)); exact BK148.out) hb)
                          have n3_ := Aside0.mk (below_step (by repeat (first | (with_reducible first | exact HB.out | apply below_alloc | apply pw_below_drewN | apply below_drew1 | refine below_set ?_ GE148.out) | exact HB.out)) hb)
                          clear HO_3
                          clear BK148
                          clear HB
                          have HO_3 := n0_
                          have HO155 := n1_
                          have BK148 := n2_
                          have HB := n3_
                          clear n0_ n1_ n2_ n3_
                          clear hb ho28
                          obtain ⟨Ao30, co30, eo30⟩ := Kd.R_slice HO155.out
                          (first | subst eo30 | (injection eo30 with f1_ f2_ f3_; have f4_ := f1_.symm; have f5_ := f3_.symm; clear f1_ f2_ f3_; subst f4_; subst f5_))
                          refine hK.out _ _ ⟨(blk_cell BK148.out 0).trans rfl, (blk_cell BK148.out 1).trans rfl, (blk_cell BK148.out 2).trans rfl, (blk_cell BK148.out 3).trans rfl⟩ (fun hHeld => ?_)
                          clear hK K
                          refine norm_ (a' := ?_) ?_ ?_
                          rotate_left
                          · show Act.put _ (some 34) _ = _
                            simp only [Act.put, List.setIfInBounds_toArray, List.set_cons_zero, List.set_cons_succ, i64_w, i32_w]
                            rfl
                          refine one_ (i := 14) (N := some 35) #[true, true, true, true, true, true, true, true, true, true, true, true, true, true, true, false] rfl rfl (one_of HT_.out (by kernel_rfl)) (by decide) (fun K hK => ?_)
                          refine Kd.R_append_rows_step (Kd.int .u8) (w0 := w) w.heap.size (by rfl) (.tmp 21) (.tmp 34) 50 5 (.int .u8 0) 1 rfl Tryz.underlying50 info5 rfl (by decide) (by omega) u3 x3_1 y153 _ _ _ (fun k_ => some k_ ≠ (.slice Ao30 y153.length co30 : Value).ownBlock) (fun _ => False) rfl rfl ?aO ?aR (fun _ _ h => h) (fun _ h => h.elim) ?aF ?aB ?aS ?aL ?_
                          (case aR => repeat (first | exact (Kd.R_reads' HO155.out).2.2 | (with_reducible refine Kd.C_alloc ?_ _) | (with_reducible refine Kd.C_drewN ?_ _) | (with_reducible refine Kd.C_drew ?_)))
                          (case aB => exact (by repeat (first | (with_reducible first | exact HB.out | apply below_alloc | apply pw_below_drewN | apply below_drew1 | refine below_set ?_ GE148.out) | exact HB.out)))
                          (case aF => exact (fun k_ hk => Kd.fresh' (Kd.R_lt (by (with_reducible repeat (first | apply Kd.R_alloc | apply Kd.R_drewN | apply Kd.R_drew)); exact HO155.out)) k_ hk))
                          (case aO => exact (by (with_reducible repeat (first | apply Kd.R_alloc | apply Kd.R_drewN | apply Kd.R_drew)); exact Kd.R_mono HO_3.out (fun _ hk => by first | exact hk.2 | exact hk)))
                          (case aS => exact (below_size (by repeat (first | (with_reducible first | exact HB.out | apply below_alloc | apply pw_below_drewN | apply below_drew1 | refine below_set ?_ GE148.out) | exact HB.out))))
                          (case aL => have := LMc25.out; omega)
                          intro v157 w29 ho hb hg hat
                          rw [← Ny156.out] at ho
                          have n0_ := Aside0.mk (blk_grown (g := gb148) (o := .cells #[.int .i64 a0_0, .int .i64 a0_1, .string a0_2, .complex .f64 a0_3.1 a0_3.2] 25 (0, 0)) (by (with_reducible repeat (first | refine blk_drewN ?_ _ | refine blk_drew ?_ | refine blk_alloc ?_ _)); exact BK148.out) hg (Kd.R_ne HO_3.out BK148.out (by decide)))
                          have n1_ := Aside0.mk (Kd.R_after (ok := (fun _ => True)) (by (with_reducible repeat (first | apply Kd.R_alloc | apply Kd.R_drewN | apply Kd.R_drew)); exact HO155.out) hg hat)
                          have n2_ := Aside0.mk (hb)
                          have n3_ := Aside0.mk (ho)
                          clear BK148
                          clear HO155
                          clear HB
                          clear HO_3
                          have BK148 := n0_
                          have HO155 := n1_
                          have HB := n2_
                          have HO158 := n3_
                          clear n0_ n1_ n2_ n3_
                          clear ho hb hg hat
                          refine hK.out _ _ ⟨(blk_cell BK148.out 0).trans rfl, (blk_cell BK148.out 1).trans rfl, (blk_cell BK148.out 2).trans rfl, (blk_cell BK148.out 3).trans rfl⟩ (fun hHeld => ?_)
                          clear hK K
                          refine norm_ (a' := ?_) ?_ ?_
                          rotate_left
                          · show Act.put _ (some 35) _ = _
                            simp only [Act.put, List.setIfInBounds_toArray, List.set_cons_zero, List.set_cons_succ, i64_w, i32_w]
                            rfl
                          refine pure_ (i := 15) (N := some 3) (v := ?_) (a' := ?_) #[true, true, true, true, true, true, true, true, true, true, true, true, true, true, true, true] rfl rfl (any_of HT_.out (by kernel_rfl)) (fun _ _ _ h => h) (Or.inl ⟨by rfl, ?_⟩) ?_ ?_
                          rotate_left
                          · intro w'
                            go_simp
                            with_reducible rfl
                          rotate_left
                          · simp only [Act.put, List.setIfInBounds_toArray, List.set_cons_zero, List.set_cons_succ, i64_w, i32_w]
                            rfl
                          refine done_ (done_of HT_.out (by kernel_rfl)) ?_
                          try go_wp2
                          first | go_roundg k1 | (simp only [← hji17] at H' ⊢; go_roundg k1)
                          case measure => have := HK1.out; omega
                          case rel => exact ⟨(y156), (wrap64 (x18_1 + 1)), (by first | rfl | (simp; done) | (simp [*]; done)), H', ⟨by have := HK1.out; omega⟩, ⟨by (with_reducible repeat (first | apply Kd.R_alloc | apply Kd.R_drewN | apply Kd.R_drew)); exact Kd.R_mono HO158.out (fun _ hk => trivial)⟩, ⟨by (with_reducible repeat (first | refine blk_drewN ?_ _ | refine blk_drew ?_ | refine blk_alloc ?_ _)); exact BK148.out⟩, ⟨by repeat (first | (with_reducible first | exact HB.out | apply below_alloc | apply pw_below_drewN | apply below_drew1 | refine below_set ?_ GE148.out) | exact HB.out)⟩⟩
                        · rw [if_neg c25] at H
                          exact absurd H (by simp)
                      · rw [if_neg c23] at H
                        exact absurd H (by simp)
                    · rw [if_neg c22] at H
                      exact absurd H (by simp)
                  · rw [if_neg c19] at H
                    exact absurd H (by simp)
                · rw [if_neg c18] at H
                  exact absurd H (by simp)
              · rw [if_neg c15] at H
                exact absurd H (by simp)
            · rw [if_neg c14] at H
              exact absurd H (by simp)
          · rw [if_neg c13] at H
            have c13b0 : decide (x18_1 < (a0_2.size : Int)) = false := decide_eq_false c13
            clear c13
            obtain rfl := Option.some.inj H
            have hcv31 := own_string (P := Tryz.prog) Tryz.underlying50 Tryz.underlying5 Tryz.underlying9 (Kd.own_of_R HO_3.out)
            have hcv31d := fun m_ => own_string (P := Tryz.prog) Tryz.underlying50 Tryz.underlying5 Tryz.underlying9 (Kd.own_of_R (Kd.R_drewN HO_3.out m_))
            go_wp2
            go_ret
            exact ⟨by first | rfl | (simp [errW_none, errW_some] <;> rfl) | (simp [*, errW_none, errW_some] <;> rfl), by repeat (first | (with_reducible first | exact HB.out | apply below_alloc | apply pw_below_drewN | apply below_drew1 | refine below_set ?_ GE148.out) | exact HB.out)⟩
    · rw [if_neg c7] at H
      have c7b0 : (a0_0 == 2) = false := beq_eq_false_iff_ne.mpr c7
      have c7b1 : (a0_0 != 2) = true := bne_iff_ne.mpr c7
      by_cases c32 : a0_0 = 3
      · rw [if_pos c32] at H
        have c32b0 : (a0_0 == 3) = true := beq_iff_eq.mpr c32
        have c32b1 : (a0_0 != 3) = false := bne_eq_false_iff_eq.mpr c32
        clear c32
        replace H := Option.bind_eq_some_iff.mp H
        obtain ⟨t159, A330, H⟩ := H
        replace H : (some t159) = some r := H
        have A33 := Aside0.mk A330
        clear A330
        obtain rfl := Option.some.inj H
        go_enter Tryz.func8, Tryz.ntmps8
        go_wp2_with (first | ((with_reducible refine gate_dst (N := 1) rfl ?_); refine box_event ?hg (N := 1) ?hd (cs := #[.int .i64 a0_0, .int .i64 a0_1, .string a0_2, .complex .f64 a0_3.1 a0_3.2]) (t := 25) ?hr ?_; (case hd => rfl); (case hg => rfl); (case hr => first | (go_simp; done) | (go_simp; rfl)); intro gb148 hg w34 hbox hb; have n0_ := Aside0.mk (below_step (by repeat (first | (with_reducible first | exact HB.out | apply below_alloc | apply pw_below_drewN | apply below_drew1) | exact HB.out)) hb); have n1_ := Aside0.mk (hbox); have n2_ := Aside0.mk ((by rw [hg]; exact (below_size (by repeat (first | (with_reducible first | exact HB.out | apply below_alloc | apply pw_below_drewN | apply below_drew1) | exact HB.out))) : w.heap.size ≤ gb148)); have n3_ := Aside0.mk ((by rw [hg]; exact (below_size (by repeat (first | (with_reducible first | exact HB.out | apply below_alloc | apply pw_below_drewN | apply below_drew1) | exact HB.out))) : w.heap.size ≤ gb148)); clear HB; have HB := n0_; have BK148 := n1_; have GW148 := n2_; have GE148 := n3_; clear n0_ n1_ n2_ n3_; clear hb hbox hg; have hcz35_0 : w34.cell? ⟨gb148, 0, none⟩ = some (.int .i64 a0_0) := (blk_cell BK148.out 0).trans rfl; have hcz35_1 : w34.cell? ⟨gb148, 1, none⟩ = some (.int .i64 a0_1) := (blk_cell BK148.out 1).trans rfl; have hcz35_2 : w34.cell? ⟨gb148, 2, none⟩ = some (.string a0_2) := (blk_cell BK148.out 2).trans rfl; have hcz35_3 : w34.cell? ⟨gb148, 3, none⟩ = some (.complex .f64 a0_3.1 a0_3.2) := (blk_cell BK148.out 3).trans rfl; have hfz35_0 := blk_frozen BK148.out 0; have hfz35_1 := blk_frozen BK148.out 1; have hfz35_2 := blk_frozen BK148.out 2; have hfz35_3 := blk_frozen BK148.out 3) | ((with_reducible refine gate_callee (f := 27) rfl ?_); refine goesL_ (some 43) rfl rfl Tryz.func27 (by kernel_rfl) rfl #[.complex .f64 a0_3.1 a0_3.2] rfl (by (try simp only [List.map_toArray, List.map_cons, List.map_nil]); first | done | rfl | (simp only [List.length_drop, List.length_take]; rfl)) ?_; (with_reducible refine (point_Text.calls a0_3 t159 _ A33.out (Glob.below HG_.out (by repeat (first | (with_reducible first | exact HB.out | apply below_alloc | apply pw_below_drewN | apply below_drew1 | refine below_set ?_ GE148.out) | exact HB.out)))).mono ?_); rintro e w36 ⟨rfl, hb⟩; refine ⟨_, rfl, ?_⟩; have n0_ := Aside0.mk (blk_below (g := gb148) (o := .cells #[.int .i64 a0_0, .int .i64 a0_1, .string a0_2, .complex .f64 a0_3.1 a0_3.2] 25 (0, 0)) (by (with_reducible repeat (first | refine blk_drewN ?_ _ | refine blk_drew ?_ | refine blk_alloc ?_ _)); exact BK148.out) hb); have n1_ := Aside0.mk (below_step (by repeat (first | (with_reducible first | exact HB.out | apply below_alloc | apply pw_below_drewN | apply below_drew1 | refine below_set ?_ GE148.out) | exact HB.out)) hb); clear BK148; clear HB; have BK148 := n0_; have HB := n1_; clear n0_ n1_; (try clear hb); (try clear hb2); (try clear hk); (try clear hi)))
        go_ret
        exact ⟨by first | rfl | (simp [errW_none, errW_some] <;> rfl) | (simp [*, errW_none, errW_some] <;> rfl), by repeat (first | (with_reducible first | exact HB.out | apply below_alloc | apply pw_below_drewN | apply below_drew1 | refine below_set ?_ GE148.out) | exact HB.out)⟩
      · rw [if_neg c32] at H
        have c32b0 : (a0_0 == 3) = false := beq_eq_false_iff_ne.mpr c32
        have c32b1 : (a0_0 != 3) = true := bne_iff_ne.mpr c32
        obtain rfl := Option.some.inj H
        go_enter Tryz.func8, Tryz.ntmps8
        go_wp2_with (first | ((with_reducible refine gate_dst (N := 1) rfl ?_); refine box_event ?hg (N := 1) ?hd (cs := #[.int .i64 a0_0, .int .i64 a0_1, .string a0_2, .complex .f64 a0_3.1 a0_3.2]) (t := 25) ?hr ?_; (case hd => rfl); (case hg => rfl); (case hr => first | (go_simp; done) | (go_simp; rfl)); intro gb148 hg w37 hbox hb; have n0_ := Aside0.mk (below_step (by repeat (first | (with_reducible first | exact HB.out | apply below_alloc | apply pw_below_drewN | apply below_drew1) | exact HB.out)) hb); have n1_ := Aside0.mk (hbox); have n2_ := Aside0.mk ((by rw [hg]; exact (below_size (by repeat (first | (with_reducible first | exact HB.out | apply below_alloc | apply pw_below_drewN | apply below_drew1) | exact HB.out))) : w.heap.size ≤ gb148)); have n3_ := Aside0.mk ((by rw [hg]; exact (below_size (by repeat (first | (with_reducible first | exact HB.out | apply below_alloc | apply pw_below_drewN | apply below_drew1) | exact HB.out))) : w.heap.size ≤ gb148)); clear HB; have HB := n0_; have BK148 := n1_; have GW148 := n2_; have GE148 := n3_; clear n0_ n1_ n2_ n3_; clear hb hbox hg; have hcz38_0 : w37.cell? ⟨gb148, 0, none⟩ = some (.int .i64 a0_0) := (blk_cell BK148.out 0).trans rfl; have hcz38_1 : w37.cell? ⟨gb148, 1, none⟩ = some (.int .i64 a0_1) := (blk_cell BK148.out 1).trans rfl; have hcz38_2 : w37.cell? ⟨gb148, 2, none⟩ = some (.string a0_2) := (blk_cell BK148.out 2).trans rfl; have hcz38_3 : w37.cell? ⟨gb148, 3, none⟩ = some (.complex .f64 a0_3.1 a0_3.2) := (blk_cell BK148.out 3).trans rfl; have hfz38_0 := blk_frozen BK148.out 0; have hfz38_1 := blk_frozen BK148.out 1; have hfz38_2 := blk_frozen BK148.out 2; have hfz38_3 := blk_frozen BK148.out 3))
        go_ret
        exact ⟨by first | rfl | (simp [errW_none, errW_some] <;> rfl) | (simp [*, errW_none, errW_some] <;> rfl), by repeat (first | (with_reducible first | exact HB.out | apply below_alloc | apply pw_below_drewN | apply below_drew1 | refine below_set ?_ GE148.out) | exact HB.out)⟩

/-! ### val_own: function 28 -/
def val_own.f (a0_0 : Int) (a0_1 : Int) (a0_2 : ByteArray) (a0_3 : (Nat × Nat)) : Option (Int × Int × ByteArray × (Nat × Nat)) := if a0_0 = 1 then (some (1, a0_1, (⟨#[]⟩ : ByteArray), ((0, 0) : Nat × Nat))) else (if a0_0 = 2 then (some (2, 0, a0_2, ((0, 0) : Nat × Nat))) else (if a0_0 = 3 then (some (3, 0, (⟨#[]⟩ : ByteArray), a0_3)) else (some (a0_0, 0, (⟨#[]⟩ : ByteArray), ((0, 0) : Nat × Nat)))))
set_option maxHeartbeats 8000000 in
set_option maxRecDepth 100000 in
theorem val_own.calls (a0_0 : Int) (a0_1 : Int) (a0_2 : ByteArray) (a0_3 : (Nat × Nat)) (r1 : Int) (r2 : Int) (r3 : ByteArray) (r4 : (Nat × Nat)) (w : World) (h : val_own.f a0_0 a0_1 a0_2 a0_3 = some (r1, r2, r3, r4)) :
    Calls Tryz.prog 28 #[.agg #[.int .i64 a0_0, .int .i64 a0_1, .string a0_2, .complex .f64 a0_3.1 a0_3.2]] w fun e w' => e = .returned (.agg #[.int .i64 r1, .int .i64 r2, .string r3, .complex .f64 r4.1 r4.2]) ∧ Below w.heap.size w w' := by
  have hu25 := Tryz.underlying25
  have HB := Aside0.mk (Below.refl w.heap.size w)
  have H : (if a0_0 = 1 then (some (1, a0_1, (⟨#[]⟩ : ByteArray), ((0, 0) : Nat × Nat))) else (if a0_0 = 2 then (some (2, 0, a0_2, ((0, 0) : Nat × Nat))) else (if a0_0 = 3 then (some (3, 0, (⟨#[]⟩ : ByteArray), a0_3)) else (some (a0_0, 0, (⟨#[]⟩ : ByteArray), ((0, 0) : Nat × Nat)))))) = some (r1, r2, r3, r4) := h
  clear h
  by_cases c2 : a0_0 = 1
  · rw [if_pos c2] at H
    have c2b0 : (a0_0 == 1) = true := beq_iff_eq.mpr c2
    have c2b1 : (a0_0 != 1) = false := bne_eq_false_iff_eq.mpr c2
    clear c2
    simp only [Option.some.injEq, Prod.mk.injEq] at H
    obtain ⟨rfl, rfl, rfl, rfl⟩ := H
    go_enter Tryz.func28, Tryz.ntmps28
    go_wp2_with (first | ((with_reducible refine gate_dst (N := 1) rfl ?_); refine box_event ?hg (N := 1) ?hd (cs := #[.int .i64 a0_0, .int .i64 a0_1, .string a0_2, .complex .f64 a0_3.1 a0_3.2]) (t := 25) ?hr ?_; (case hd => rfl); (case hg => rfl); (case hr => first | (go_simp; done) | (go_simp; rfl)); intro gb160 hg w3 hbox hb; have n0_ := Aside0.mk (below_step (by repeat (first | (with_reducible first | exact HB.out | apply below_alloc | apply pw_below_drewN | apply below_drew1) | exact HB.out)) hb); have n1_ := Aside0.mk (hbox); have n2_ := Aside0.mk ((by rw [hg]; exact (below_size (by repeat (first | (with_reducible first | exact HB.out | apply below_alloc | apply pw_below_drewN | apply below_drew1) | exact HB.out))) : w.heap.size ≤ gb160)); have n3_ := Aside0.mk ((by rw [hg]; exact (below_size (by repeat (first | (with_reducible first | exact HB.out | apply below_alloc | apply pw_below_drewN | apply below_drew1) | exact HB.out))) : w.heap.size ≤ gb160)); clear HB; have HB := n0_; have BK160 := n1_; have GW160 := n2_; have GE160 := n3_; clear n0_ n1_ n2_ n3_; clear hb hbox hg) | ((with_reducible refine gate_dst (N := 2) rfl ?_); refine box_event ?hg (N := 2) ?hd (cs := #[.int .i64 0, .int .i64 0, .string (⟨#[]⟩ : ByteArray), .complex .f64 0 0]) (t := 25) ?hr ?_; (case hd => rfl); (case hg => rfl); (case hr => first | (go_simp; done) | (go_simp; rfl)); intro gb161 hg w4 hbox hb; have n0_ := Aside0.mk (blk_below (g := gb160) (o := .cells #[.int .i64 a0_0, .int .i64 a0_1, .string a0_2, .complex .f64 a0_3.1 a0_3.2] 25 (0, 0)) (by (with_reducible repeat (first | refine blk_drewN ?_ _ | refine blk_drew ?_ | refine blk_alloc ?_ _)); exact BK160.out) hb); have n1_ := Aside0.mk (below_step (by repeat (first | (with_reducible first | exact HB.out | apply below_alloc | apply pw_below_drewN | apply below_drew1 | refine below_set ?_ GE160.out) | exact HB.out)) hb); have n2_ := Aside0.mk (hbox); have n3_ := Aside0.mk ((by rw [hg]; exact (below_size (by repeat (first | (with_reducible first | exact HB.out | apply below_alloc | apply pw_below_drewN | apply below_drew1 | refine below_set ?_ GE160.out) | exact HB.out))) : w.heap.size ≤ gb161)); have n4_ := Aside0.mk ((by rw [hg]; exact (below_size (by repeat (first | (with_reducible first | exact HB.out | apply below_alloc | apply pw_below_drewN | apply below_drew1 | refine below_set ?_ GE160.out) | exact HB.out))) : w.heap.size ≤ gb161)); have n5_ := Aside0.mk ((by rw [hg]; exact Nat.ne_of_lt (blk_lt (g := gb160) (o := .cells #[.int .i64 a0_0, .int .i64 a0_1, .string a0_2, .complex .f64 a0_3.1 a0_3.2] 25 (0, 0)) (by (with_reducible repeat (first | refine blk_drewN ?_ _ | refine blk_drew ?_ | refine blk_alloc ?_ _)); exact BK160.out)) : gb160 ≠ gb161)); have n6_ := Aside0.mk ((by rw [hg]; exact Nat.ne_of_gt (blk_lt (g := gb160) (o := .cells #[.int .i64 a0_0, .int .i64 a0_1, .string a0_2, .complex .f64 a0_3.1 a0_3.2] 25 (0, 0)) (by (with_reducible repeat (first | refine blk_drewN ?_ _ | refine blk_drew ?_ | refine blk_alloc ?_ _)); exact BK160.out)) : gb161 ≠ gb160)); clear BK160; clear HB; have BK160 := n0_; have HB := n1_; have BK161 := n2_; have GW161 := n3_; have GE161 := n4_; have NB160_161 := n5_; have NB161_160 := n6_; clear n0_ n1_ n2_ n3_ n4_ n5_ n6_; clear hb hbox hg; have hnb5 := NB160_161.out; have hnc5 := NB161_160.out; have hcz6_0 : w4.cell? ⟨gb160, 0, none⟩ = some (.int .i64 a0_0) := (blk_cell BK160.out 0).trans rfl; have hcz6_1 : w4.cell? ⟨gb160, 1, none⟩ = some (.int .i64 a0_1) := (blk_cell BK160.out 1).trans rfl; have hcz6_2 : w4.cell? ⟨gb160, 2, none⟩ = some (.string a0_2) := (blk_cell BK160.out 2).trans rfl; have hcz6_3 : w4.cell? ⟨gb160, 3, none⟩ = some (.complex .f64 a0_3.1 a0_3.2) := (blk_cell BK160.out 3).trans rfl; have hfz6_0 := blk_frozen BK160.out 0; have hfz6_1 := blk_frozen BK160.out 1; have hfz6_2 := blk_frozen BK160.out 2; have hfz6_3 := blk_frozen BK160.out 3; have hcz7_0 : w4.cell? ⟨gb161, 0, none⟩ = some (.int .i64 0) := (blk_cell BK161.out 0).trans rfl; have hcz7_1 : w4.cell? ⟨gb161, 1, none⟩ = some (.int .i64 0) := (blk_cell BK161.out 1).trans rfl; have hcz7_2 : w4.cell? ⟨gb161, 2, none⟩ = some (.string (⟨#[]⟩ : ByteArray)) := (blk_cell BK161.out 2).trans rfl; have hcz7_3 : w4.cell? ⟨gb161, 3, none⟩ = some (.complex .f64 0 0) := (blk_cell BK161.out 3).trans rfl; have hfz7_0 := blk_frozen BK161.out 0; have hfz7_1 := blk_frozen BK161.out 1; have hfz7_2 := blk_frozen BK161.out 2; have hfz7_3 := blk_frozen BK161.out 3))
    refine bodyPost_ret (results_cell_row rfl _ _ gb161 25 #[.int .i64 1, .int .i64 a0_1, .string (⟨#[]⟩ : ByteArray), .complex .f64 0 0] (0, 0) _ rfl (by (with_reducible repeat (first | refine blk_drewN ?_ _ | refine blk_drew ?_ | refine blk_alloc ?_ _)); refine blk_put (cs := #[.int .i64 1, .int .i64 a0_1, .string (⟨#[]⟩ : ByteArray), .complex .f64 0 0]) ?_ 3 _ rfl; (with_reducible repeat (first | refine blk_drewN ?_ _ | refine blk_drew ?_ | refine blk_alloc ?_ _)); refine blk_put (cs := #[.int .i64 1, .int .i64 a0_1, .string (⟨#[]⟩ : ByteArray), .complex .f64 0 0]) ?_ 2 _ rfl; (with_reducible repeat (first | refine blk_drewN ?_ _ | refine blk_drew ?_ | refine blk_alloc ?_ _)); refine blk_put (cs := #[.int .i64 1, .int .i64 0, .string (⟨#[]⟩ : ByteArray), .complex .f64 0 0]) ?_ 1 _ rfl; (with_reducible repeat (first | refine blk_drewN ?_ _ | refine blk_drew ?_ | refine blk_alloc ?_ _)); refine blk_put (cs := #[.int .i64 0, .int .i64 0, .string (⟨#[]⟩ : ByteArray), .complex .f64 0 0]) ?_ 0 _ rfl; (with_reducible repeat (first | refine blk_drewN ?_ _ | refine blk_drew ?_ | refine blk_alloc ?_ _)); exact BK161.out) Tryz.underlying25 rfl (by kernel_rfl)) rfl ?_
    exact ⟨by first | rfl | (simp [errW_none, errW_some] <;> rfl) | (simp [*, errW_none, errW_some] <;> rfl), by repeat (first | (with_reducible first | exact HB.out | apply below_alloc | apply pw_below_drewN | apply below_drew1 | refine below_set ?_ GE160.out | refine below_set ?_ GE161.out) | exact HB.out)⟩
  · rw [if_neg c2] at H
    have c2b0 : (a0_0 == 1) = false := beq_eq_false_iff_ne.mpr c2
    have c2b1 : (a0_0 != 1) = true := bne_iff_ne.mpr c2
    by_cases c8 : a0_0 = 2
    · rw [if_pos c8] at H
      have c8b0 : (a0_0 == 2) = true := beq_iff_eq.mpr c8
      have c8b1 : (a0_0 != 2) = false := bne_eq_false_iff_eq.mpr c8
      clear c8
      simp only [Option.some.injEq, Prod.mk.injEq] at H
      obtain ⟨rfl, rfl, rfl, rfl⟩ := H
      go_enter Tryz.func28, Tryz.ntmps28
      go_wp2_with (first | ((with_reducible refine gate_dst (N := 1) rfl ?_); refine box_event ?hg (N := 1) ?hd (cs := #[.int .i64 a0_0, .int .i64 a0_1, .string a0_2, .complex .f64 a0_3.1 a0_3.2]) (t := 25) ?hr ?_; (case hd => rfl); (case hg => rfl); (case hr => first | (go_simp; done) | (go_simp; rfl)); intro gb160 hg w9 hbox hb; have n0_ := Aside0.mk (below_step (by repeat (first | (with_reducible first | exact HB.out | apply below_alloc | apply pw_below_drewN | apply below_drew1) | exact HB.out)) hb); have n1_ := Aside0.mk (hbox); have n2_ := Aside0.mk ((by rw [hg]; exact (below_size (by repeat (first | (with_reducible first | exact HB.out | apply below_alloc | apply pw_below_drewN | apply below_drew1) | exact HB.out))) : w.heap.size ≤ gb160)); have n3_ := Aside0.mk ((by rw [hg]; exact (below_size (by repeat (first | (with_reducible first | exact HB.out | apply below_alloc | apply pw_below_drewN | apply below_drew1) | exact HB.out))) : w.heap.size ≤ gb160)); clear HB; have HB := n0_; have BK160 := n1_; have GW160 := n2_; have GE160 := n3_; clear n0_ n1_ n2_ n3_; clear hb hbox hg) | ((with_reducible refine gate_dst (N := 2) rfl ?_); refine box_event ?hg (N := 2) ?hd (cs := #[.int .i64 0, .int .i64 0, .string (⟨#[]⟩ : ByteArray), .complex .f64 0 0]) (t := 25) ?hr ?_; (case hd => rfl); (case hg => rfl); (case hr => first | (go_simp; done) | (go_simp; rfl)); intro gb161 hg w10 hbox hb; have n0_ := Aside0.mk (blk_below (g := gb160) (o := .cells #[.int .i64 a0_0, .int .i64 a0_1, .string a0_2, .complex .f64 a0_3.1 a0_3.2] 25 (0, 0)) (by (with_reducible repeat (first | refine blk_drewN ?_ _ | refine blk_drew ?_ | refine blk_alloc ?_ _)); exact BK160.out) hb); have n1_ := Aside0.mk (below_step (by repeat (first | (with_reducible first | exact HB.out | apply below_alloc | apply pw_below_drewN | apply below_drew1 | refine below_set ?_ GE160.out) | exact HB.out)) hb); have n2_ := Aside0.mk (hbox); have n3_ := Aside0.mk ((by rw [hg]; exact (below_size (by repeat (first | (with_reducible first | exact HB.out | apply below_alloc | apply pw_below_drewN | apply below_drew1 | refine below_set ?_ GE160.out) | exact HB.out))) : w.heap.size ≤ gb161)); have n4_ := Aside0.mk ((by rw [hg]; exact (below_size (by repeat (first | (with_reducible first | exact HB.out | apply below_alloc | apply pw_below_drewN | apply below_drew1 | refine below_set ?_ GE160.out) | exact HB.out))) : w.heap.size ≤ gb161)); have n5_ := Aside0.mk ((by rw [hg]; exact Nat.ne_of_lt (blk_lt (g := gb160) (o := .cells #[.int .i64 a0_0, .int .i64 a0_1, .string a0_2, .complex .f64 a0_3.1 a0_3.2] 25 (0, 0)) (by (with_reducible repeat (first | refine blk_drewN ?_ _ | refine blk_drew ?_ | refine blk_alloc ?_ _)); exact BK160.out)) : gb160 ≠ gb161)); have n6_ := Aside0.mk ((by rw [hg]; exact Nat.ne_of_gt (blk_lt (g := gb160) (o := .cells #[.int .i64 a0_0, .int .i64 a0_1, .string a0_2, .complex .f64 a0_3.1 a0_3.2] 25 (0, 0)) (by (with_reducible repeat (first | refine blk_drewN ?_ _ | refine blk_drew ?_ | refine blk_alloc ?_ _)); exact BK160.out)) : gb161 ≠ gb160)); clear BK160; clear HB; have BK160 := n0_; have HB := n1_; have BK161 := n2_; have GW161 := n3_; have GE161 := n4_; have NB160_161 := n5_; have NB161_160 := n6_; clear n0_ n1_ n2_ n3_ n4_ n5_ n6_; clear hb hbox hg; have hnb11 := NB160_161.out; have hnc11 := NB161_160.out; have hcz12_0 : w10.cell? ⟨gb160, 0, none⟩ = some (.int .i64 a0_0) := (blk_cell BK160.out 0).trans rfl; have hcz12_1 : w10.cell? ⟨gb160, 1, none⟩ = some (.int .i64 a0_1) := (blk_cell BK160.out 1).trans rfl; have hcz12_2 : w10.cell? ⟨gb160, 2, none⟩ = some (.string a0_2) := (blk_cell BK160.out 2).trans rfl; have hcz12_3 : w10.cell? ⟨gb160, 3, none⟩ = some (.complex .f64 a0_3.1 a0_3.2) := (blk_cell BK160.out 3).trans rfl; have hfz12_0 := blk_frozen BK160.out 0; have hfz12_1 := blk_frozen BK160.out 1; have hfz12_2 := blk_frozen BK160.out 2; have hfz12_3 := blk_frozen BK160.out 3; have hcz13_0 : w10.cell? ⟨gb161, 0, none⟩ = some (.int .i64 0) := (blk_cell BK161.out 0).trans rfl; have hcz13_1 : w10.cell? ⟨gb161, 1, none⟩ = some (.int .i64 0) := (blk_cell BK161.out 1).trans rfl; have hcz13_2 : w10.cell? ⟨gb161, 2, none⟩ = some (.string (⟨#[]⟩ : ByteArray)) := (blk_cell BK161.out 2).trans rfl; have hcz13_3 : w10.cell? ⟨gb161, 3, none⟩ = some (.complex .f64 0 0) := (blk_cell BK161.out 3).trans rfl; have hfz13_0 := blk_frozen BK161.out 0; have hfz13_1 := blk_frozen BK161.out 1; have hfz13_2 := blk_frozen BK161.out 2; have hfz13_3 := blk_frozen BK161.out 3))
      refine bodyPost_ret (results_cell_row rfl _ _ gb161 25 #[.int .i64 2, .int .i64 0, .string a0_2, .complex .f64 0 0] (0, 0) _ rfl (by (with_reducible repeat (first | refine blk_drewN ?_ _ | refine blk_drew ?_ | refine blk_alloc ?_ _)); refine blk_put (cs := #[.int .i64 2, .int .i64 0, .string a0_2, .complex .f64 0 0]) ?_ 3 _ rfl; (with_reducible repeat (first | refine blk_drewN ?_ _ | refine blk_drew ?_ | refine blk_alloc ?_ _)); refine blk_put (cs := #[.int .i64 2, .int .i64 0, .string (⟨#[]⟩ : ByteArray), .complex .f64 0 0]) ?_ 2 _ rfl; (with_reducible repeat (first | refine blk_drewN ?_ _ | refine blk_drew ?_ | refine blk_alloc ?_ _)); refine blk_put (cs := #[.int .i64 2, .int .i64 0, .string (⟨#[]⟩ : ByteArray), .complex .f64 0 0]) ?_ 1 _ rfl; (with_reducible repeat (first | refine blk_drewN ?_ _ | refine blk_drew ?_ | refine blk_alloc ?_ _)); refine blk_put (cs := #[.int .i64 0, .int .i64 0, .string (⟨#[]⟩ : ByteArray), .complex .f64 0 0]) ?_ 0 _ rfl; (with_reducible repeat (first | refine blk_drewN ?_ _ | refine blk_drew ?_ | refine blk_alloc ?_ _)); exact BK161.out) Tryz.underlying25 rfl (by kernel_rfl)) rfl ?_
      exact ⟨by first | rfl | (simp [errW_none, errW_some] <;> rfl) | (simp [*, errW_none, errW_some] <;> rfl), by repeat (first | (with_reducible first | exact HB.out | apply below_alloc | apply pw_below_drewN | apply below_drew1 | refine below_set ?_ GE160.out | refine below_set ?_ GE161.out) | exact HB.out)⟩
    · rw [if_neg c8] at H
      have c8b0 : (a0_0 == 2) = false := beq_eq_false_iff_ne.mpr c8
      have c8b1 : (a0_0 != 2) = true := bne_iff_ne.mpr c8
      by_cases c14 : a0_0 = 3
      · rw [if_pos c14] at H
        have c14b0 : (a0_0 == 3) = true := beq_iff_eq.mpr c14
        have c14b1 : (a0_0 != 3) = false := bne_eq_false_iff_eq.mpr c14
        clear c14
        simp only [Option.some.injEq, Prod.mk.injEq] at H
        obtain ⟨rfl, rfl, rfl, rfl⟩ := H
        go_enter Tryz.func28, Tryz.ntmps28
        go_wp2_with (first | ((with_reducible refine gate_dst (N := 1) rfl ?_); refine box_event ?hg (N := 1) ?hd (cs := #[.int .i64 a0_0, .int .i64 a0_1, .string a0_2, .complex .f64 a0_3.1 a0_3.2]) (t := 25) ?hr ?_; (case hd => rfl); (case hg => rfl); (case hr => first | (go_simp; done) | (go_simp; rfl)); intro gb160 hg w15 hbox hb; have n0_ := Aside0.mk (below_step (by repeat (first | (with_reducible first | exact HB.out | apply below_alloc | apply pw_below_drewN | apply below_drew1) | exact HB.out)) hb); have n1_ := Aside0.mk (hbox); have n2_ := Aside0.mk ((by rw [hg]; exact (below_size (by repeat (first | (with_reducible first | exact HB.out | apply below_alloc | apply pw_below_drewN | apply below_drew1) | exact HB.out))) : w.heap.size ≤ gb160)); have n3_ := Aside0.mk ((by rw [hg]; exact (below_size (by repeat (first | (with_reducible first | exact HB.out | apply below_alloc | apply pw_below_drewN | apply below_drew1) | exact HB.out))) : w.heap.size ≤ gb160)); clear HB; have HB := n0_; have BK160 := n1_; have GW160 := n2_; have GE160 := n3_; clear n0_ n1_ n2_ n3_; clear hb hbox hg) | ((with_reducible refine gate_dst (N := 2) rfl ?_); refine box_event ?hg (N := 2) ?hd (cs := #[.int .i64 0, .int .i64 0, .string (⟨#[]⟩ : ByteArray), .complex .f64 0 0]) (t := 25) ?hr ?_; (case hd => rfl); (case hg => rfl); (case hr => first | (go_simp; done) | (go_simp; rfl)); intro gb161 hg w16 hbox hb; have n0_ := Aside0.mk (blk_below (g := gb160) (o := .cells #[.int .i64 a0_0, .int .i64 a0_1, .string a0_2, .complex .f64 a0_3.1 a0_3.2] 25 (0, 0)) (by (with_reducible repeat (first | refine blk_drewN ?_ _ | refine blk_drew ?_ | refine blk_alloc ?_ _)); exact BK160.out) hb); have n1_ := Aside0.mk (below_step (by repeat (first | (with_reducible first | exact HB.out | apply below_alloc | apply pw_below_drewN | apply below_drew1 | refine below_set ?_ GE160.out) | exact HB.out)) hb); have n2_ := Aside0.mk (hbox); have n3_ := Aside0.mk ((by rw [hg]; exact (below_size (by repeat (first | (with_reducible first | exact HB.out | apply below_alloc | apply pw_below_drewN | apply below_drew1 | refine below_set ?_ GE160.out) | exact HB.out))) : w.heap.size ≤ gb161)); have n4_ := Aside0.mk ((by rw [hg]; exact (below_size (by repeat (first | (with_reducible first | exact HB.out | apply below_alloc | apply pw_below_drewN | apply below_drew1 | refine below_set ?_ GE160.out) | exact HB.out))) : w.heap.size ≤ gb161)); have n5_ := Aside0.mk ((by rw [hg]; exact Nat.ne_of_lt (blk_lt (g := gb160) (o := .cells #[.int .i64 a0_0, .int .i64 a0_1, .string a0_2, .complex .f64 a0_3.1 a0_3.2] 25 (0, 0)) (by (with_reducible repeat (first | refine blk_drewN ?_ _ | refine blk_drew ?_ | refine blk_alloc ?_ _)); exact BK160.out)) : gb160 ≠ gb161)); have n6_ := Aside0.mk ((by rw [hg]; exact Nat.ne_of_gt (blk_lt (g := gb160) (o := .cells #[.int .i64 a0_0, .int .i64 a0_1, .string a0_2, .complex .f64 a0_3.1 a0_3.2] 25 (0, 0)) (by (with_reducible repeat (first | refine blk_drewN ?_ _ | refine blk_drew ?_ | refine blk_alloc ?_ _)); exact BK160.out)) : gb161 ≠ gb160)); clear BK160; clear HB; have BK160 := n0_; have HB := n1_; have BK161 := n2_; have GW161 := n3_; have GE161 := n4_; have NB160_161 := n5_; have NB161_160 := n6_; clear n0_ n1_ n2_ n3_ n4_ n5_ n6_; clear hb hbox hg; have hnb17 := NB160_161.out; have hnc17 := NB161_160.out; have hcz18_0 : w16.cell? ⟨gb160, 0, none⟩ = some (.int .i64 a0_0) := (blk_cell BK160.out 0).trans rfl; have hcz18_1 : w16.cell? ⟨gb160, 1, none⟩ = some (.int .i64 a0_1) := (blk_cell BK160.out 1).trans rfl; have hcz18_2 : w16.cell? ⟨gb160, 2, none⟩ = some (.string a0_2) := (blk_cell BK160.out 2).trans rfl; have hcz18_3 : w16.cell? ⟨gb160, 3, none⟩ = some (.complex .f64 a0_3.1 a0_3.2) := (blk_cell BK160.out 3).trans rfl; have hfz18_0 := blk_frozen BK160.out 0; have hfz18_1 := blk_frozen BK160.out 1; have hfz18_2 := blk_frozen BK160.out 2; have hfz18_3 := blk_frozen BK160.out 3; have hcz19_0 : w16.cell? ⟨gb161, 0, none⟩ = some (.int .i64 0) := (blk_cell BK161.out 0).trans rfl; have hcz19_1 : w16.cell? ⟨gb161, 1, none⟩ = some (.int .i64 0) := (blk_cell BK161.out 1).trans rfl; have hcz19_2 : w16.cell? ⟨gb161, 2, none⟩ = some (.string (⟨#[]⟩ : ByteArray)) := (blk_cell BK161.out 2).trans rfl; have hcz19_3 : w16.cell? ⟨gb161, 3, none⟩ = some (.complex .f64 0 0) := (blk_cell BK161.out 3).trans rfl; have hfz19_0 := blk_frozen BK161.out 0; have hfz19_1 := blk_frozen BK161.out 1; have hfz19_2 := blk_frozen BK161.out 2; have hfz19_3 := blk_frozen BK161.out 3))
        refine bodyPost_ret (results_cell_row rfl _ _ gb161 25 #[.int .i64 3, .int .i64 0, .string (⟨#[]⟩ : ByteArray), .complex .f64 a0_3.1 a0_3.2] (0, 0) _ rfl (by (with_reducible repeat (first | refine blk_drewN ?_ _ | refine blk_drew ?_ | refine blk_alloc ?_ _)); refine blk_put (cs := #[.int .i64 3, .int .i64 0, .string (⟨#[]⟩ : ByteArray), .complex .f64 0 0]) ?_ 3 _ rfl; (with_reducible repeat (first | refine blk_drewN ?_ _ | refine blk_drew ?_ | refine blk_alloc ?_ _)); refine blk_put (cs := #[.int .i64 3, .int .i64 0, .string (⟨#[]⟩ : ByteArray), .complex .f64 0 0]) ?_ 2 _ rfl; (with_reducible repeat (first | refine blk_drewN ?_ _ | refine blk_drew ?_ | refine blk_alloc ?_ _)); refine blk_put (cs := #[.int .i64 3, .int .i64 0, .string (⟨#[]⟩ : ByteArray), .complex .f64 0 0]) ?_ 1 _ rfl; (with_reducible repeat (first | refine blk_drewN ?_ _ | refine blk_drew ?_ | refine blk_alloc ?_ _)); refine blk_put (cs := #[.int .i64 0, .int .i64 0, .string (⟨#[]⟩ : ByteArray), .complex .f64 0 0]) ?_ 0 _ rfl; (with_reducible repeat (first | refine blk_drewN ?_ _ | refine blk_drew ?_ | refine blk_alloc ?_ _)); exact BK161.out) Tryz.underlying25 rfl (by kernel_rfl)) rfl ?_
        exact ⟨by first | rfl | (simp [errW_none, errW_some] <;> rfl) | (simp [*, errW_none, errW_some] <;> rfl), by repeat (first | (with_reducible first | exact HB.out | apply below_alloc | apply pw_below_drewN | apply below_drew1 | refine below_set ?_ GE160.out | refine below_set ?_ GE161.out) | exact HB.out)⟩
      · rw [if_neg c14] at H
        have c14b0 : (a0_0 == 3) = false := beq_eq_false_iff_ne.mpr c14
        have c14b1 : (a0_0 != 3) = true := bne_iff_ne.mpr c14
        simp only [Option.some.injEq, Prod.mk.injEq] at H
        obtain ⟨rfl, rfl, rfl, rfl⟩ := H
        go_enter Tryz.func28, Tryz.ntmps28
        go_wp2_with (first | ((with_reducible refine gate_dst (N := 1) rfl ?_); refine box_event ?hg (N := 1) ?hd (cs := #[.int .i64 a0_0, .int .i64 a0_1, .string a0_2, .complex .f64 a0_3.1 a0_3.2]) (t := 25) ?hr ?_; (case hd => rfl); (case hg => rfl); (case hr => first | (go_simp; done) | (go_simp; rfl)); intro gb160 hg w20 hbox hb; have n0_ := Aside0.mk (below_step (by repeat (first | (with_reducible first | exact HB.out | apply below_alloc | apply pw_below_drewN | apply below_drew1) | exact HB.out)) hb); have n1_ := Aside0.mk (hbox); have n2_ := Aside0.mk ((by rw [hg]; exact (below_size (by repeat (first | (with_reducible first | exact HB.out | apply below_alloc | apply pw_below_drewN | apply below_drew1) | exact HB.out))) : w.heap.size ≤ gb160)); have n3_ := Aside0.mk ((by rw [hg]; exact (below_size (by repeat (first | (with_reducible first | exact HB.out | apply below_alloc | apply pw_below_drewN | apply below_drew1) | exact HB.out))) : w.heap.size ≤ gb160)); clear HB; have HB := n0_; have BK160 := n1_; have GW160 := n2_; have GE160 := n3_; clear n0_ n1_ n2_ n3_; clear hb hbox hg) | ((with_reducible refine gate_dst (N := 2) rfl ?_); refine box_event ?hg (N := 2) ?hd (cs := #[.int .i64 0, .int .i64 0, .string (⟨#[]⟩ : ByteArray), .complex .f64 0 0]) (t := 25) ?hr ?_; (case hd => rfl); (case hg => rfl); (case hr => first | (go_simp; done) | (go_simp; rfl)); intro gb161 hg w21 hbox hb; have n0_ := Aside0.mk (blk_below (g := gb160) (o := .cells #[.int .i64 a0_0, .int .i64 a0_1, .string a0_2, .complex .f64 a0_3.1 a0_3.2] 25 (0, 0)) (by (with_reducible repeat (first | refine blk_drewN ?_ _ | refine blk_drew ?_ | refine blk_alloc ?_ _)); exact BK160.out) hb); have n1_ := Aside0.mk (below_step (by repeat (first | (with_reducible first | exact HB.out | apply below_alloc | apply pw_below_drewN | apply below_drew1 | refine below_set ?_ GE160.out) | exact HB.out)) hb); have n2_ := Aside0.mk (hbox); have n3_ := Aside0.mk ((by rw [hg]; exact (below_size (by repeat (first | (with_reducible first | exact HB.out | apply below_alloc | apply pw_below_drewN | apply below_drew1 | refine below_set ?_ GE160.out) | exact HB.out))) : w.heap.size ≤ gb161)); have n4_ := Aside0.mk ((by rw [hg]; exact (below_size (by repeat (first | (with_reducible first | exact HB.out | apply below_alloc | apply pw_below_drewN | apply below_drew1 | refine below_set ?_ GE160.out) | exact HB.out))) : w.heap.size ≤ gb161)); have n5_ := Aside0.mk ((by rw [hg]; exact Nat.ne_of_lt (blk_lt (g := gb160) (o := .cells #[.int .i64 a0_0, .int .i64 a0_1, .string a0_2, .complex .f64 a0_3.1 a0_3.2] 25 (0, 0)) (by (with_reducible repeat (first | refine blk_drewN ?_ _ | refine blk_drew ?_ | refine blk_alloc ?_ _)); exact BK160.out)) : gb160 ≠ gb161)); have n6_ := Aside0.mk ((by rw [hg]; exact Nat.ne_of_gt (blk_lt (g := gb160) (o := .cells #[.int .i64 a0_0, .int .i64 a0_1, .string a0_2, .complex .f64 a0_3.1 a0_3.2] 25 (0, 0)) (by (with_reducible repeat (first | refine blk_drewN ?_ _ | refine blk_drew ?_ | refine blk_alloc ?_ _)); exact BK160.out)) : gb161 ≠ gb160)); clear BK160; clear HB; have BK160 := n0_; have HB := n1_; have BK161 := n2_; have GW161 := n3_; have GE161 := n4_; have NB160_161 := n5_; have NB161_160 := n6_; clear n0_ n1_ n2_ n3_ n4_ n5_ n6_; clear hb hbox hg; have hnb22 := NB160_161.out; have hnc22 := NB161_160.out; have hcz23_0 : w21.cell? ⟨gb160, 0, none⟩ = some (.int .i64 a0_0) := (blk_cell BK160.out 0).trans rfl; have hcz23_1 : w21.cell? ⟨gb160, 1, none⟩ = some (.int .i64 a0_1) := (blk_cell BK160.out 1).trans rfl; have hcz23_2 : w21.cell? ⟨gb160, 2, none⟩ = some (.string a0_2) := (blk_cell BK160.out 2).trans rfl; have hcz23_3 : w21.cell? ⟨gb160, 3, none⟩ = some (.complex .f64 a0_3.1 a0_3.2) := (blk_cell BK160.out 3).trans rfl; have hfz23_0 := blk_frozen BK160.out 0; have hfz23_1 := blk_frozen BK160.out 1; have hfz23_2 := blk_frozen BK160.out 2; have hfz23_3 := blk_frozen BK160.out 3; have hcz24_0 : w21.cell? ⟨gb161, 0, none⟩ = some (.int .i64 0) := (blk_cell BK161.out 0).trans rfl; have hcz24_1 : w21.cell? ⟨gb161, 1, none⟩ = some (.int .i64 0) := (blk_cell BK161.out 1).trans rfl; have hcz24_2 : w21.cell? ⟨gb161, 2, none⟩ = some (.string (⟨#[]⟩ : ByteArray)) := (blk_cell BK161.out 2).trans rfl; have hcz24_3 : w21.cell? ⟨gb161, 3, none⟩ = some (.complex .f64 0 0) := (blk_cell BK161.out 3).trans rfl; have hfz24_0 := blk_frozen BK161.out 0; have hfz24_1 := blk_frozen BK161.out 1; have hfz24_2 := blk_frozen BK161.out 2; have hfz24_3 := blk_frozen BK161.out 3))
        refine bodyPost_ret (results_cell_row rfl _ _ gb161 25 #[.int .i64 a0_0, .int .i64 0, .string (⟨#[]⟩ : ByteArray), .complex .f64 0 0] (0, 0) _ rfl (by (with_reducible repeat (first | refine blk_drewN ?_ _ | refine blk_drew ?_ | refine blk_alloc ?_ _)); refine blk_put (cs := #[.int .i64 a0_0, .int .i64 0, .string (⟨#[]⟩ : ByteArray), .complex .f64 0 0]) ?_ 3 _ rfl; (with_reducible repeat (first | refine blk_drewN ?_ _ | refine blk_drew ?_ | refine blk_alloc ?_ _)); refine blk_put (cs := #[.int .i64 a0_0, .int .i64 0, .string (⟨#[]⟩ : ByteArray), .complex .f64 0 0]) ?_ 2 _ rfl; (with_reducible repeat (first | refine blk_drewN ?_ _ | refine blk_drew ?_ | refine blk_alloc ?_ _)); refine blk_put (cs := #[.int .i64 a0_0, .int .i64 0, .string (⟨#[]⟩ : ByteArray), .complex .f64 0 0]) ?_ 1 _ rfl; (with_reducible repeat (first | refine blk_drewN ?_ _ | refine blk_drew ?_ | refine blk_alloc ?_ _)); refine blk_put (cs := #[.int .i64 0, .int .i64 0, .string (⟨#[]⟩ : ByteArray), .complex .f64 0 0]) ?_ 0 _ rfl; (with_reducible repeat (first | refine blk_drewN ?_ _ | refine blk_drew ?_ | refine blk_alloc ?_ _)); exact BK161.out) Tryz.underlying25 rfl (by kernel_rfl)) rfl ?_
        exact ⟨by first | rfl | (simp [errW_none, errW_some] <;> rfl) | (simp [*, errW_none, errW_some] <;> rfl), by repeat (first | (with_reducible first | exact HB.out | apply below_alloc | apply pw_below_drewN | apply below_drew1 | refine below_set ?_ GE160.out | refine below_set ?_ GE161.out) | exact HB.out)⟩

/-! ### math_Trunc: function 76 (given) -/
def truncWay (a : Nat) : Ieee.Datum → Sem Value
  | .nan s t => (if FloatKind.f64.format.quiet t = t then pure (.float .f64 a) else do
      let kept ← choose (.extern "math.Floor,Ceil,Trunc,RoundToEven.signallingNaN kept" 2)
      pure (.float .f64 (if kept == 1 then a else FloatKind.f64.encode (.nan s (FloatKind.f64.format.quiet t)))))
  | d => pure (.float .f64 (FloatKind.f64.encode (d.integral .zero)))
theorem f_toIntegral (a : Nat) : Extern.MathFloor.toIntegral "math.archTrunc" .zero #[.float .f64 a] = truncWay a (FloatKind.f64.decode a) := by kernel_rfl
theorem f_archTrunc {a : Nat} (h : fNaN a = false) (W : World) : (callFunc 94 #[.float .f64 a]).run Tryz.prog W = .ok (.value (.float .f64 (fTrunc a))) W := by
  rw [run_callFunc_extern Tryz.func94 (by kernel_rfl) (by kernel_rfl) (by kernel_rfl) (e := Extern.MathFloor.toIntegral "math.archTrunc" .zero) (by kernel_rfl)]
  rw [f_toIntegral]
  unfold fTrunc
  unfold fNaN at h
  generalize FloatKind.f64.decode a = d at *
  cases d with
  | nan s t => cases h
  | number s m e => rfl
  | infinity s => rfl
def math_Trunc.f (a0 : Nat) : Option Nat := if fNaN a0 = true then none else some (fTrunc a0)
theorem math_Trunc.calls (a0 : Nat) (r : Nat) (w : World) (h : math_Trunc.f a0 = some r) :
    Calls Tryz.prog 76 #[.float .f64 a0] w fun e w' => e = .returned (.float .f64 r) ∧ Drawn0 w w' := by
  unfold math_Trunc.f at h
  split at h
  · cases h
  · rename_i hn
    obtain rfl := Option.some.inj h
    clear h
    have h := f_archTrunc (a := a0) (by simpa using hn)
    clear hn
    go_enter Tryz.func76, Tryz.ntmps76
    go_wp2
    all_goals go_ret
    all_goals exact ⟨rfl, Drawn0.refl _⟩

/-! ### math_Abs: function 77 (given) -/
theorem f_bits (b : Nat) (W : World) : (callFunc 97 #[.float .f64 b]).run Tryz.prog W = .ok (.value (.int .u64 b)) W := by
  rw [run_callFunc_extern Tryz.func97 (by kernel_rfl) (by kernel_rfl) (by kernel_rfl) (e := Extern.MathFloatBits.float64bits) (by kernel_rfl)]
  rfl
theorem f_frombits (n : Int) (W : World) : (callFunc 96 #[.int .u64 n]).run Tryz.prog W = .ok (.value (.float .f64 n.toNat)) W := by
  rw [run_callFunc_extern Tryz.func96 (by kernel_rfl) (by kernel_rfl) (by kernel_rfl) (e := Extern.MathFloatBits.float64frombits) (by kernel_rfl)]
  rfl
def math_Abs.f (a0 : Nat) : Option Nat := some (fAbs a0)
theorem math_Abs.calls (a0 : Nat) (r : Nat) (w : World) (h : math_Abs.f a0 = some r) :
    Calls Tryz.prog 77 #[.float .f64 a0] w fun e w' => e = .returned (.float .f64 r) ∧ Drawn0 w w' := by
  unfold math_Abs.f at h
  obtain rfl := Option.some.inj h
  clear h
  have h := f_bits a0
  have h2 : ∀ W, (callFunc 96 #[.int .u64 (Go.bits .andNot .u64 (a0 : Int) 9223372036854775808)]).run Tryz.prog W = .ok (.value (.float .f64 (fAbs a0))) W := f_frombits _
  go_enter Tryz.func77, Tryz.ntmps77
  go_wp2
  all_goals go_ret
  all_goals exact ⟨rfl, Drawn0.refl _⟩

/-! ### point_whole: function 53 -/
def point_whole.f (a0 : Nat) : Option (Bool) := (math_Trunc.f a0).bind fun t162 => (if fEq a0 t162 = true then ((math_Abs.f a0).bind fun t163 => (some (fLe t163 4697254411347427328))) else (some false))
set_option maxHeartbeats 8000000 in
set_option maxRecDepth 100000 in
theorem point_whole.calls (a0 : Nat) (r : Bool) (w : World) (h : point_whole.f a0 = some r) :
    Calls Tryz.prog 53 #[.float .f64 a0] w fun e w' => e = .returned (.bool r) ∧ Drawn0 w w' := by
  have H : ((math_Trunc.f a0).bind fun t162 => (if fEq a0 t162 = true then ((math_Abs.f a0).bind fun t163 => (some (fLe t163 4697254411347427328))) else (some false))) = some r := h
  clear h
  replace H := Option.bind_eq_some_iff.mp H
  obtain ⟨t162, A20, H⟩ := H
  replace H : (if fEq a0 t162 = true then ((math_Abs.f a0).bind fun t163 => (some (fLe t163 4697254411347427328))) else (some false)) = some r := H
  have A2 := Aside0.mk A20
  clear A20
  by_cases c3 : fEq a0 t162 = true
  · rw [if_pos c3] at H
    have c3b0 : fEq a0 t162 = true := c3
    clear c3
    replace H := Option.bind_eq_some_iff.mp H
    obtain ⟨t163, A40, H⟩ := H
    replace H : (some (fLe t163 4697254411347427328)) = some r := H
    have A4 := Aside0.mk A40
    clear A40
    obtain rfl := Option.some.inj H
    go_enter Tryz.func53, Tryz.ntmps53
    go_wp2_with (first | (go_at_call 76; (with_reducible refine (math_Trunc.calls a0 t162 _ A2.out).mono ?_); rintro e w' ⟨rfl, ⟨nd, rfl⟩⟩) | (go_at_call 77; (with_reducible refine (math_Abs.calls a0 t163 _ A4.out).mono ?_); rintro e w' ⟨rfl, ⟨nd, rfl⟩⟩))
    go_ret
    exact ⟨by first | rfl | (simp; done) | (simp [*]; done), by repeat (first | exact Drawn0.refl _ | apply Drawn0.step)⟩
  · rw [if_neg c3] at H
    have c3b0 : fEq a0 t162 = false := by simpa using c3
    clear c3
    obtain rfl := Option.some.inj H
    go_enter Tryz.func53, Tryz.ntmps53
    go_wp2_with (first | (go_at_call 76; (with_reducible refine (math_Trunc.calls a0 t162 _ A2.out).mono ?_); rintro e w' ⟨rfl, ⟨nd, rfl⟩⟩))
    go_ret
    exact ⟨by first | rfl | (simp; done) | (simp [*]; done), by repeat (first | exact Drawn0.refl _ | apply Drawn0.step)⟩

/-! ### point_Good: function 29 -/
def point_Good.f (a0 : (Nat × Nat)) : Option (Bool) := (point_whole.f a0.1).bind fun t164 => (if t164 = true then ((point_whole.f a0.2).bind fun t165 => (some t165)) else (some false))
set_option maxHeartbeats 8000000 in
set_option maxRecDepth 100000 in
theorem point_Good.calls (a0 : (Nat × Nat)) (r : Bool) (w : World) (h : point_Good.f a0 = some r) :
    Calls Tryz.prog 29 #[.complex .f64 a0.1 a0.2] w fun e w' => e = .returned (.bool r) ∧ Drawn0 w w' := by
  have H : ((point_whole.f a0.1).bind fun t164 => (if t164 = true then ((point_whole.f a0.2).bind fun t165 => (some t165)) else (some false))) = some r := h
  clear h
  replace H := Option.bind_eq_some_iff.mp H
  obtain ⟨t164, A20, H⟩ := H
  replace H : (if t164 = true then ((point_whole.f a0.2).bind fun t165 => (some t165)) else (some false)) = some r := H
  have A2 := Aside0.mk A20
  clear A20
  by_cases c3 : t164 = true
  · subst c3
    have H1 : ((point_whole.f a0.2).bind fun t165 => (some t165)) = some r := by rw [if_pos rfl] at H; exact H
    clear H
    have H := H1
    clear H1
    replace H := Option.bind_eq_some_iff.mp H
    obtain ⟨t165, A40, H⟩ := H
    replace H : (some t165) = some r := H
    have A4 := Aside0.mk A40
    clear A40
    obtain rfl := Option.some.inj H
    go_enter Tryz.func29, Tryz.ntmps29
    go_wp2_with (first | (go_at_call 53; (with_reducible refine (point_whole.calls a0.1 true _ A2.out).mono ?_); rintro e w' ⟨rfl, ⟨nd, rfl⟩⟩) | (go_at_call 53; (with_reducible refine (point_whole.calls a0.2 t165 _ A4.out).mono ?_); rintro e w' ⟨rfl, ⟨nd, rfl⟩⟩))
    go_ret
    exact ⟨by first | rfl | (simp; done) | (simp [*]; done), by repeat (first | exact Drawn0.refl _ | apply Drawn0.step)⟩
  · replace c3 := Bool.eq_false_iff.mpr c3
    subst c3
    have H1 : (some false) = some r := by rw [if_neg (show ¬ (false = true) by decide)] at H; exact H
    clear H
    have H := H1
    clear H1
    obtain rfl := Option.some.inj H
    go_enter Tryz.func29, Tryz.ntmps29
    go_wp2_with (first | (go_at_call 53; (with_reducible refine (point_whole.calls a0.1 false _ A2.out).mono ?_); rintro e w' ⟨rfl, ⟨nd, rfl⟩⟩))
    go_ret
    exact ⟨by first | rfl | (simp; done) | (simp [*]; done), by repeat (first | exact Drawn0.refl _ | apply Drawn0.step)⟩

end Go.Proofs.YtaflcaillcjmmaaGreatDoor.PAll
