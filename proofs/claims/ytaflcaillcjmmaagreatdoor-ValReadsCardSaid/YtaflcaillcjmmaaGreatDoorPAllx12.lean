-- Printed by this session's own program (wip/tools/pp.py): out of the translation. Lean checks it.
import Derived.Test.YtaflcaillcjmmaaGreatDoorPAllx0
import Derived.Test.YtaflcaillcjmmaaGreatDoorPAllx2
import Derived.Test.YtaflcaillcjmmaaGreatDoorPAllx5
import Derived.Test.YtaflcaillcjmmaaGreatDoorPAllx6
import Derived.Test.YtaflcaillcjmmaaGreatDoorPAllx7
import Derived.Test.YtaflcaillcjmmaaGreatDoorPAllx9
import Derived.Test.YtaflcaillcjmmaaGreatDoorPAllx10
import Derived.Test.YtaflcaillcjmmaaGreatDoorPAllx11
namespace Go.Proofs.YtaflcaillcjmmaaGreatDoor.PAll
open Go.Proofs.YtaflcaillcjmmaaGreatDoor.Help
open Go.RowKit Go.Proofs.YtaflcaillcjmmaaGreatDoorW.PrintWords Go.Proofs.YtaflcaillcjmmaaGreatDoorW.PrintLast Go.Proofs.YtaflcaillcjmmaaGreatDoorW.PrintMore
attribute [local go_sem] run_fl_eql run_fl_neq run_fl_lss run_fl_leq run_fl_gtr run_fl_geq unary_fl_neg run_cx_eql run_cx_neq run_cx_make run_cx_real run_cx_imag run_fl_of run_fl_to64 run_fl_add run_fl_sub run_fl_mul run_cx_add run_cx_sub run_cx_store run_fl_store str_gtr str_leq str_geq cell_put3_0 cell_put3_1 cell_put4_0 cell_put4_1 max2_int min2_int max_two min_two max_three min_three max_four min_four   -- for this text's walks alone
set_option linter.unusedVariables false
set_option linter.unusedSimpArgs false

attribute [local go_sem high] eqA29
/-! ### noriaref11_ParseVal: function 6 -/
def noriaref11_ParseVal.l0 : Nat → ByteArray → List Int → Int → Option (Int × Int × ByteArray × (Nat × Nat) × Int)
  | 0, _, _, _ => none
  | k + 1, x0, x4, x5 => if x5 < (x0.size : Int) then (if 0 ≤ x5 then ((noriaref11_hex.f k (bt x0 x5)).bind fun t299 => (if 0 ≤ (wrap64 (x5 + 1)) then (if (wrap64 (x5 + 1)) < (x0.size : Int) then ((noriaref11_hex.f k (bt x0 (wrap64 (x5 + 1)))).bind fun t300 => (if t299 < 0 then (some (0, 0, (⟨#[]⟩ : ByteArray), ((0, 0) : Nat × Nat), 2)) else (if t300 < 0 then (some (0, 0, (⟨#[]⟩ : ByteArray), ((0, 0) : Nat × Nat), 2)) else (if x4.length < 140737488355328 then (noriaref11_ParseVal.l0 k x0 (x4 ++ [(wrap64 ((wrap64 (16 * t299)) + t300)) % 256]) (wrap64 (x5 + 2))) else (none))))) else (none)) else (none))) else (none)) else (if (x4.length : Int) > 255 then (some (0, 0, (⟨#[]⟩ : ByteArray), ((0, 0) : Nat × Nat), 4)) else (some (2, 0, strOfNums x4, ((0, 0) : Nat × Nat), 0)))
def noriaref11_ParseVal.f (k : Nat) (a0 : ByteArray) : Option (Int × Int × ByteArray × (Nat × Nat) × Int) := if a0.toList = ([45] : List UInt8) then (some (0, 0, (⟨#[]⟩ : ByteArray), ((0, 0) : Nat × Nat), 0)) else (if a0.toList = ([] : List UInt8) then (some (0, 0, (⟨#[]⟩ : ByteArray), ((0, 0) : Nat × Nat), 2)) else (if 0 < (a0.size : Int) then (if (bt a0 0) = 34 then (if ((a0.size : Int) % 2) = 0 then (some (0, 0, (⟨#[]⟩ : ByteArray), ((0, 0) : Nat × Nat), 2)) else (noriaref11_ParseVal.l0 k a0 ([] : List Int) 1)) else (if 0 ≤ (wrap64 ((a0.size : Int) - 1)) then (if (wrap64 ((a0.size : Int) - 1)) < (a0.size : Int) then (if (bt a0 (wrap64 ((a0.size : Int) - 1))) = 105 then ((noriaref11_ParsePoint.f k a0).bind fun bt304 => (if bt304.2 = 0 then (some (3, 0, (⟨#[]⟩ : ByteArray), bt304.1, 0)) else (some (0, 0, (⟨#[]⟩ : ByteArray), ((0, 0) : Nat × Nat), bt304.2)))) else ((noriaref11_ParseNum.f k a0).bind fun bt306 => (if bt306.2 = 0 then (some (1, bt306.1, (⟨#[]⟩ : ByteArray), ((0, 0) : Nat × Nat), 0)) else (some (0, 0, (⟨#[]⟩ : ByteArray), ((0, 0) : Nat × Nat), bt306.2))))) else (none)) else (none))) else (none)))
theorem noriaref11_ParseVal.mono_l : ∀ k, (∀ y0 y1 y2, LeO (noriaref11_ParseVal.l0 k y0 y1 y2) (noriaref11_ParseVal.l0 (k + 1) y0 y1 y2))
  | 0 => fun _ _ _ r h => by simp [noriaref11_ParseVal.l0] at h
  | k + 1 => by
    have ih0 := noriaref11_ParseVal.mono_l k
    · intro y0 y1 y2
      unfold noriaref11_ParseVal.l0
      repeat' first
      | (with_reducible exact ih0 _ _ _)
      | (with_reducible exact noriaref11_ParseNum.mono _ _)
      | (with_reducible exact noriaref11_ParsePoint.mono _ _)
      | (with_reducible exact noriaref11_hex.mono _ _)
      | (with_reducible exact LeO.refl _)
      | (with_reducible exact LeO.none _)
      | (with_reducible refine LeO.ite ?_ ?_)
      | (with_reducible refine LeO.bind ?_ (fun _ => ?_))
      | exact ih0 _ _ _
      | exact noriaref11_ParseNum.mono _ _
      | exact noriaref11_ParsePoint.mono _ _
      | exact noriaref11_hex.mono _ _
      | exact LeO.none _
      | refine LeO.ite ?_ ?_
      | refine LeO.bind ?_ (fun _ => ?_)
theorem noriaref11_ParseVal.mono : ∀ a0 k, LeO (noriaref11_ParseVal.f k a0) (noriaref11_ParseVal.f (k + 1) a0) := by
  intro a0 k
  have ih0 := noriaref11_ParseVal.mono_l k
  unfold noriaref11_ParseVal.f
  repeat' first
      | (with_reducible exact ih0 _ _ _)
      | (with_reducible exact noriaref11_ParseNum.mono _ _)
      | (with_reducible exact noriaref11_ParsePoint.mono _ _)
      | (with_reducible exact noriaref11_hex.mono _ _)
      | (with_reducible exact LeO.refl _)
      | (with_reducible exact LeO.none _)
      | (with_reducible refine LeO.ite ?_ ?_)
      | (with_reducible refine LeO.bind ?_ (fun _ => ?_))
      | exact ih0 _ _ _
      | exact noriaref11_ParseNum.mono _ _
      | exact noriaref11_ParsePoint.mono _ _
      | exact noriaref11_hex.mono _ _
      | exact LeO.none _
      | refine LeO.ite ?_ ?_
      | refine LeO.bind ?_ (fun _ => ?_)
set_option maxHeartbeats 8000000 in
set_option maxRecDepth 100000 in
theorem noriaref11_ParseVal.calls (k : Nat) (a0 : ByteArray) (r1 : Int) (r2 : Int) (r3 : ByteArray) (r4 : (Nat × Nat)) (r5 : Int) (w : World) (h : noriaref11_ParseVal.f k a0 = some (r1, r2, r3, r4, r5)) :
    Calls Tryz.prog 6 #[.string a0] w fun e w' => e = .returned (.tuple #[.agg #[.int .i64 r1, .int .i64 r2, .string r3, .complex .f64 r4.1 r4.2], .int .i64 r5]) ∧ Below w.heap.size w w' := by
  have hu29 := Tryz.underlying29
  have HB := Aside0.mk (Below.refl w.heap.size w)
  have H : (if a0.toList = ([45] : List UInt8) then (some (0, 0, (⟨#[]⟩ : ByteArray), ((0, 0) : Nat × Nat), 0)) else (if a0.toList = ([] : List UInt8) then (some (0, 0, (⟨#[]⟩ : ByteArray), ((0, 0) : Nat × Nat), 2)) else (if 0 < (a0.size : Int) then (if (bt a0 0) = 34 then (if ((a0.size : Int) % 2) = 0 then (some (0, 0, (⟨#[]⟩ : ByteArray), ((0, 0) : Nat × Nat), 2)) else (noriaref11_ParseVal.l0 k a0 ([] : List Int) 1)) else (if 0 ≤ (wrap64 ((a0.size : Int) - 1)) then (if (wrap64 ((a0.size : Int) - 1)) < (a0.size : Int) then (if (bt a0 (wrap64 ((a0.size : Int) - 1))) = 105 then ((noriaref11_ParsePoint.f k a0).bind fun bt304 => (if bt304.2 = 0 then (some (3, 0, (⟨#[]⟩ : ByteArray), bt304.1, 0)) else (some (0, 0, (⟨#[]⟩ : ByteArray), ((0, 0) : Nat × Nat), bt304.2)))) else ((noriaref11_ParseNum.f k a0).bind fun bt306 => (if bt306.2 = 0 then (some (1, bt306.1, (⟨#[]⟩ : ByteArray), ((0, 0) : Nat × Nat), 0)) else (some (0, 0, (⟨#[]⟩ : ByteArray), ((0, 0) : Nat × Nat), bt306.2))))) else (none)) else (none))) else (none)))) = some (r1, r2, r3, r4, r5) := h
  clear h
  by_cases c2 : a0.toList = ([45] : List UInt8)
  · rw [if_pos c2] at H
    have c2b0 : (a0.toList == ([45] : List UInt8)) = true := beq_iff_eq.mpr c2
    have c2b1 : (a0.toList != ([45] : List UInt8)) = false := bne_eq_false_iff_eq.mpr c2
    clear c2
    simp only [Option.some.injEq, Prod.mk.injEq] at H
    obtain ⟨rfl, rfl, rfl, rfl, rfl⟩ := H
    go_enter Tryz.func6, Tryz.ntmps6
    go_wp2_with (first | ((with_reducible refine gate_dst (N := 2) rfl ?_); refine box_event ?hg (N := 2) ?hd (cs := #[.int .i64 0, .int .i64 0, .string (⟨#[]⟩ : ByteArray), .complex .f64 0 0]) (t := 29) ?hr ?_; (case hd => rfl); (case hg => rfl); (case hr => first | (go_simp; done) | (go_simp; rfl)); intro gb298 hg w3 hbox hb; have n0_ := Aside0.mk (below_step (by repeat (first | (with_reducible first | exact HB.out | apply below_alloc | apply pw_below_drewN | apply below_drew1) | exact HB.out)) hb); have n1_ := Aside0.mk (hbox); have n2_ := Aside0.mk ((by rw [hg]; exact (below_size (by repeat (first | (with_reducible first | exact HB.out | apply below_alloc | apply pw_below_drewN | apply below_drew1) | exact HB.out))) : w.heap.size ≤ gb298)); have n3_ := Aside0.mk ((by rw [hg]; exact (below_size (by repeat (first | (with_reducible first | exact HB.out | apply below_alloc | apply pw_below_drewN | apply below_drew1) | exact HB.out))) : w.heap.size ≤ gb298)); clear HB; have HB := n0_; have BK298 := n1_; have GW298 := n2_; have GE298 := n3_; clear n0_ n1_ n2_ n3_; clear hb hbox hg; have hcz4_0 : w3.cell? ⟨gb298, 0, none⟩ = some (.int .i64 0) := (blk_cell BK298.out 0).trans rfl; have hcz4_1 : w3.cell? ⟨gb298, 1, none⟩ = some (.int .i64 0) := (blk_cell BK298.out 1).trans rfl; have hcz4_2 : w3.cell? ⟨gb298, 2, none⟩ = some (.string (⟨#[]⟩ : ByteArray)) := (blk_cell BK298.out 2).trans rfl; have hcz4_3 : w3.cell? ⟨gb298, 3, none⟩ = some (.complex .f64 0 0) := (blk_cell BK298.out 3).trans rfl; have hfz4_0 := blk_frozen BK298.out 0; have hfz4_1 := blk_frozen BK298.out 1; have hfz4_2 := blk_frozen BK298.out 2; have hfz4_3 := blk_frozen BK298.out 3))
    refine bodyPost_ret (results_ct rfl _ _ gb298 29 #[.int .i64 0, .int .i64 0, .string (⟨#[]⟩ : ByteArray), .complex .f64 0 0] (0, 0) _ rfl (by (with_reducible repeat (first | refine blk_drewN ?_ _ | refine blk_drew ?_ | refine blk_alloc ?_ _)); refine blk_put (cs := #[.int .i64 0, .int .i64 0, .string (⟨#[]⟩ : ByteArray), .complex .f64 0 0]) ?_ 3 _ rfl; (with_reducible repeat (first | refine blk_drewN ?_ _ | refine blk_drew ?_ | refine blk_alloc ?_ _)); refine blk_put (cs := #[.int .i64 0, .int .i64 0, .string (⟨#[]⟩ : ByteArray), .complex .f64 0 0]) ?_ 2 _ rfl; (with_reducible repeat (first | refine blk_drewN ?_ _ | refine blk_drew ?_ | refine blk_alloc ?_ _)); refine blk_put (cs := #[.int .i64 0, .int .i64 0, .string (⟨#[]⟩ : ByteArray), .complex .f64 0 0]) ?_ 1 _ rfl; (with_reducible repeat (first | refine blk_drewN ?_ _ | refine blk_drew ?_ | refine blk_alloc ?_ _)); refine blk_put (cs := #[.int .i64 0, .int .i64 0, .string (⟨#[]⟩ : ByteArray), .complex .f64 0 0]) ?_ 0 _ rfl; (with_reducible repeat (first | refine blk_drewN ?_ _ | refine blk_drew ?_ | refine blk_alloc ?_ _)); exact BK298.out) Tryz.underlying29 rfl (by kernel_rfl)) rfl ?_
    exact ⟨by first | rfl | (simp [errW_none, errW_some] <;> rfl) | (simp [*, errW_none, errW_some] <;> rfl), by repeat (first | (with_reducible first | exact HB.out | apply below_alloc | apply pw_below_drewN | apply below_drew1 | refine below_set ?_ GE298.out) | exact HB.out)⟩
  · rw [if_neg c2] at H
    have c2b0 : (a0.toList == ([45] : List UInt8)) = false := beq_eq_false_iff_ne.mpr c2
    have c2b1 : (a0.toList != ([45] : List UInt8)) = true := bne_iff_ne.mpr c2
    by_cases c5 : a0.toList = ([] : List UInt8)
    · rw [if_pos c5] at H
      have c5b0 : (a0.toList == ([] : List UInt8)) = true := beq_iff_eq.mpr c5
      have c5b1 : (a0.toList != ([] : List UInt8)) = false := bne_eq_false_iff_eq.mpr c5
      clear c5
      simp only [Option.some.injEq, Prod.mk.injEq] at H
      obtain ⟨rfl, rfl, rfl, rfl, rfl⟩ := H
      go_enter Tryz.func6, Tryz.ntmps6
      go_wp2_with (first | ((with_reducible refine gate_dst (N := 2) rfl ?_); refine box_event ?hg (N := 2) ?hd (cs := #[.int .i64 0, .int .i64 0, .string (⟨#[]⟩ : ByteArray), .complex .f64 0 0]) (t := 29) ?hr ?_; (case hd => rfl); (case hg => rfl); (case hr => first | (go_simp; done) | (go_simp; rfl)); intro gb298 hg w6 hbox hb; have n0_ := Aside0.mk (below_step (by repeat (first | (with_reducible first | exact HB.out | apply below_alloc | apply pw_below_drewN | apply below_drew1) | exact HB.out)) hb); have n1_ := Aside0.mk (hbox); have n2_ := Aside0.mk ((by rw [hg]; exact (below_size (by repeat (first | (with_reducible first | exact HB.out | apply below_alloc | apply pw_below_drewN | apply below_drew1) | exact HB.out))) : w.heap.size ≤ gb298)); have n3_ := Aside0.mk ((by rw [hg]; exact (below_size (by repeat (first | (with_reducible first | exact HB.out | apply below_alloc | apply pw_below_drewN | apply below_drew1) | exact HB.out))) : w.heap.size ≤ gb298)); clear HB; have HB := n0_; have BK298 := n1_; have GW298 := n2_; have GE298 := n3_; clear n0_ n1_ n2_ n3_; clear hb hbox hg; have hcz7_0 : w6.cell? ⟨gb298, 0, none⟩ = some (.int .i64 0) := (blk_cell BK298.out 0).trans rfl; have hcz7_1 : w6.cell? ⟨gb298, 1, none⟩ = some (.int .i64 0) := (blk_cell BK298.out 1).trans rfl; have hcz7_2 : w6.cell? ⟨gb298, 2, none⟩ = some (.string (⟨#[]⟩ : ByteArray)) := (blk_cell BK298.out 2).trans rfl; have hcz7_3 : w6.cell? ⟨gb298, 3, none⟩ = some (.complex .f64 0 0) := (blk_cell BK298.out 3).trans rfl; have hfz7_0 := blk_frozen BK298.out 0; have hfz7_1 := blk_frozen BK298.out 1; have hfz7_2 := blk_frozen BK298.out 2; have hfz7_3 := blk_frozen BK298.out 3))
      refine bodyPost_ret (results_ct rfl _ _ gb298 29 #[.int .i64 0, .int .i64 0, .string (⟨#[]⟩ : ByteArray), .complex .f64 0 0] (0, 0) _ rfl (by (with_reducible repeat (first | refine blk_drewN ?_ _ | refine blk_drew ?_ | refine blk_alloc ?_ _)); refine blk_put (cs := #[.int .i64 0, .int .i64 0, .string (⟨#[]⟩ : ByteArray), .complex .f64 0 0]) ?_ 3 _ rfl; (with_reducible repeat (first | refine blk_drewN ?_ _ | refine blk_drew ?_ | refine blk_alloc ?_ _)); refine blk_put (cs := #[.int .i64 0, .int .i64 0, .string (⟨#[]⟩ : ByteArray), .complex .f64 0 0]) ?_ 2 _ rfl; (with_reducible repeat (first | refine blk_drewN ?_ _ | refine blk_drew ?_ | refine blk_alloc ?_ _)); refine blk_put (cs := #[.int .i64 0, .int .i64 0, .string (⟨#[]⟩ : ByteArray), .complex .f64 0 0]) ?_ 1 _ rfl; (with_reducible repeat (first | refine blk_drewN ?_ _ | refine blk_drew ?_ | refine blk_alloc ?_ _)); refine blk_put (cs := #[.int .i64 0, .int .i64 0, .string (⟨#[]⟩ : ByteArray), .complex .f64 0 0]) ?_ 0 _ rfl; (with_reducible repeat (first | refine blk_drewN ?_ _ | refine blk_drew ?_ | refine blk_alloc ?_ _)); exact BK298.out) Tryz.underlying29 rfl (by kernel_rfl)) rfl ?_
      exact ⟨by first | rfl | (simp [errW_none, errW_some] <;> rfl) | (simp [*, errW_none, errW_some] <;> rfl), by repeat (first | (with_reducible first | exact HB.out | apply below_alloc | apply pw_below_drewN | apply below_drew1 | refine below_set ?_ GE298.out) | exact HB.out)⟩
    · rw [if_neg c5] at H
      have c5b0 : (a0.toList == ([] : List UInt8)) = false := beq_eq_false_iff_ne.mpr c5
      have c5b1 : (a0.toList != ([] : List UInt8)) = true := bne_iff_ne.mpr c5
      by_cases c8 : 0 < (a0.size : Int)
      · rw [if_pos c8] at H
        have c8b0 : decide (0 < (a0.size : Int)) = true := decide_eq_true c8
        have c8b1 : decide (0 < a0.size) = true := decide_eq_true (by omega)
        clear c8
        by_cases c10 : (bt a0 0) = 34
        · rw [if_pos c10] at H
          have c10b0 : ((bt a0 0) == 34) = true := beq_iff_eq.mpr c10
          have c10b1 : ((bt a0 0) != 34) = false := bne_eq_false_iff_eq.mpr c10
          clear c10
          by_cases c11 : ((a0.size : Int) % 2) = 0
          · rw [if_pos c11] at H
            have c11b0 : (((a0.size : Int) % 2) == 0) = true := beq_iff_eq.mpr c11
            have c11b1 : (((a0.size : Int) % 2) != 0) = false := bne_eq_false_iff_eq.mpr c11
            clear c11
            simp only [Option.some.injEq, Prod.mk.injEq] at H
            obtain ⟨rfl, rfl, rfl, rfl, rfl⟩ := H
            go_enter Tryz.func6, Tryz.ntmps6
            go_wp2_with (first | ((with_reducible refine gate_dst (N := 2) rfl ?_); refine box_event ?hg (N := 2) ?hd (cs := #[.int .i64 0, .int .i64 0, .string (⟨#[]⟩ : ByteArray), .complex .f64 0 0]) (t := 29) ?hr ?_; (case hd => rfl); (case hg => rfl); (case hr => first | (go_simp; done) | (go_simp; rfl)); intro gb298 hg w12 hbox hb; have n0_ := Aside0.mk (below_step (by repeat (first | (with_reducible first | exact HB.out | apply below_alloc | apply pw_below_drewN | apply below_drew1) | exact HB.out)) hb); have n1_ := Aside0.mk (hbox); have n2_ := Aside0.mk ((by rw [hg]; exact (below_size (by repeat (first | (with_reducible first | exact HB.out | apply below_alloc | apply pw_below_drewN | apply below_drew1) | exact HB.out))) : w.heap.size ≤ gb298)); have n3_ := Aside0.mk ((by rw [hg]; exact (below_size (by repeat (first | (with_reducible first | exact HB.out | apply below_alloc | apply pw_below_drewN | apply below_drew1) | exact HB.out))) : w.heap.size ≤ gb298)); clear HB; have HB := n0_; have BK298 := n1_; have GW298 := n2_; have GE298 := n3_; clear n0_ n1_ n2_ n3_; clear hb hbox hg; have p9 : 0 ≤ (0 : Int) := (by omega); have q9 : 0 < a0.size := (by have : (0 : Int) < (a0.size : Int) := of_decide_eq_true (by first | (with_reducible assumption) | assumption); omega); have hx9 : ∀ h : 0 < a0.size, ((a0[0]'h).toNat : Int) = bt a0 0 := bt_at a0 0; clear p9; have qi9 : (0 < (a0.size : Int)) = True := eq_true (of_decide_eq_true (by first | (with_reducible assumption) | assumption)); replace q9 := eq_true q9; have hcz13_0 : w12.cell? ⟨gb298, 0, none⟩ = some (.int .i64 0) := (blk_cell BK298.out 0).trans rfl; have hcz13_1 : w12.cell? ⟨gb298, 1, none⟩ = some (.int .i64 0) := (blk_cell BK298.out 1).trans rfl; have hcz13_2 : w12.cell? ⟨gb298, 2, none⟩ = some (.string (⟨#[]⟩ : ByteArray)) := (blk_cell BK298.out 2).trans rfl; have hcz13_3 : w12.cell? ⟨gb298, 3, none⟩ = some (.complex .f64 0 0) := (blk_cell BK298.out 3).trans rfl; have hfz13_0 := blk_frozen BK298.out 0; have hfz13_1 := blk_frozen BK298.out 1; have hfz13_2 := blk_frozen BK298.out 2; have hfz13_3 := blk_frozen BK298.out 3))
            refine bodyPost_ret (results_ct rfl _ _ gb298 29 #[.int .i64 0, .int .i64 0, .string (⟨#[]⟩ : ByteArray), .complex .f64 0 0] (0, 0) _ rfl (by (with_reducible repeat (first | refine blk_drewN ?_ _ | refine blk_drew ?_ | refine blk_alloc ?_ _)); refine blk_put (cs := #[.int .i64 0, .int .i64 0, .string (⟨#[]⟩ : ByteArray), .complex .f64 0 0]) ?_ 3 _ rfl; (with_reducible repeat (first | refine blk_drewN ?_ _ | refine blk_drew ?_ | refine blk_alloc ?_ _)); refine blk_put (cs := #[.int .i64 0, .int .i64 0, .string (⟨#[]⟩ : ByteArray), .complex .f64 0 0]) ?_ 2 _ rfl; (with_reducible repeat (first | refine blk_drewN ?_ _ | refine blk_drew ?_ | refine blk_alloc ?_ _)); refine blk_put (cs := #[.int .i64 0, .int .i64 0, .string (⟨#[]⟩ : ByteArray), .complex .f64 0 0]) ?_ 1 _ rfl; (with_reducible repeat (first | refine blk_drewN ?_ _ | refine blk_drew ?_ | refine blk_alloc ?_ _)); refine blk_put (cs := #[.int .i64 0, .int .i64 0, .string (⟨#[]⟩ : ByteArray), .complex .f64 0 0]) ?_ 0 _ rfl; (with_reducible repeat (first | refine blk_drewN ?_ _ | refine blk_drew ?_ | refine blk_alloc ?_ _)); exact BK298.out) Tryz.underlying29 rfl (by kernel_rfl)) rfl ?_
            exact ⟨by first | rfl | (simp [errW_none, errW_some] <;> rfl) | (simp [*, errW_none, errW_some] <;> rfl), by repeat (first | (with_reducible first | exact HB.out | apply below_alloc | apply pw_below_drewN | apply below_drew1 | refine below_set ?_ GE298.out) | exact HB.out)⟩
          · rw [if_neg c11] at H
            have c11b0 : (((a0.size : Int) % 2) == 0) = false := beq_eq_false_iff_ne.mpr c11
            have c11b1 : (((a0.size : Int) % 2) != 0) = true := bne_iff_ne.mpr c11
            have H' := Aside0.mk H
            clear H
            go_enter Tryz.func6, Tryz.ntmps6
            go_wp2_with (first | ((with_reducible refine gate_dst (N := 2) rfl ?_); refine box_event ?hg (N := 2) ?hd (cs := #[.int .i64 0, .int .i64 0, .string (⟨#[]⟩ : ByteArray), .complex .f64 0 0]) (t := 29) ?hr ?_; (case hd => rfl); (case hg => rfl); (case hr => first | (go_simp; done) | (go_simp; rfl)); intro gb298 hg w14 hbox hb; have n0_ := Aside0.mk (below_step (by repeat (first | (with_reducible first | exact HB.out | apply below_alloc | apply pw_below_drewN | apply below_drew1) | exact HB.out)) hb); have n1_ := Aside0.mk (hbox); have n2_ := Aside0.mk ((by rw [hg]; exact (below_size (by repeat (first | (with_reducible first | exact HB.out | apply below_alloc | apply pw_below_drewN | apply below_drew1) | exact HB.out))) : w.heap.size ≤ gb298)); have n3_ := Aside0.mk ((by rw [hg]; exact (below_size (by repeat (first | (with_reducible first | exact HB.out | apply below_alloc | apply pw_below_drewN | apply below_drew1) | exact HB.out))) : w.heap.size ≤ gb298)); clear HB; have HB := n0_; have BK298 := n1_; have GW298 := n2_; have GE298 := n3_; clear n0_ n1_ n2_ n3_; clear hb hbox hg; have p9 : 0 ≤ (0 : Int) := (by omega); have q9 : 0 < a0.size := (by have : (0 : Int) < (a0.size : Int) := of_decide_eq_true (by first | (with_reducible assumption) | assumption); omega); have hx9 : ∀ h : 0 < a0.size, ((a0[0]'h).toNat : Int) = bt a0 0 := bt_at a0 0; clear p9; have qi9 : (0 < (a0.size : Int)) = True := eq_true (of_decide_eq_true (by first | (with_reducible assumption) | assumption)); replace q9 := eq_true q9))
            go_loopg [4, 5] k (fun kq v4 v5 w' => ∃ (x4_1 : List Int) (x5_1 : Int) (x299000_1 : Int) (x299001_1 : Int) (x299002_1 : ByteArray) (x299003_1 : (Nat × Nat)), v5 = .int .i64 x5_1 ∧ Aside0 (noriaref11_ParseVal.l0 kq a0 x4_1 x5_1 = some (r1, r2, r3, r4, r5)) ∧ Aside0 (kq ≤ k) ∧ Aside0 (Kd.R (Kd.int .u8) 5 w' w.heap.size (fun _ => True) v4 x4_1) ∧ Aside0 (w'.heap[gb298]? = some (.cells #[.int .i64 x299000_1, .int .i64 x299001_1, .string x299002_1, .complex .f64 x299003_1.1 x299003_1.2] 29 (0, 0))) ∧ Aside0 (Below w.heap.size w w'))
            case atStart => exact ⟨(([] : List Int)), (1), (0), (0), ((⟨#[]⟩ : ByteArray)), (((0, 0) : Nat × Nat)), (by first | rfl | (simp; done) | (simp [*]; done)), H', ⟨Nat.le_refl _⟩, ⟨by first | exact Kd.R_nil _ _ _ _ _ | exact Kd.N_nil _ _ _ _ _ | exact Kd.V_nil _ _ _ _ _ | exact Kd.Q_nil _ _ _ _ _ | exact Kd.S_nil _ _ _ _ _⟩, ⟨by (with_reducible repeat (first | refine blk_drewN ?_ _ | refine blk_drew ?_ | refine blk_alloc ?_ _)); exact BK298.out⟩, ⟨by repeat (first | (with_reducible first | exact HB.out | apply below_alloc | apply pw_below_drewN | apply below_drew1 | refine below_set ?_ GE298.out) | exact HB.out)⟩⟩
            case round =>
              clear H'
              try clear c1
              try clear c2
              try clear c2b0
              try clear c2b1
              try clear p2
              try clear c5
              try clear c5b0
              try clear c5b1
              try clear c6
              try clear p6
              try clear c8
              try clear c8b0
              try clear c8b1
              try clear p9
              try clear q9
              try clear hx9
              try clear qi9
              try clear c10
              try clear c10b0
              try clear c10b1
              try clear c11
              try clear c11b0
              try clear c11b1
              try clear hcz13_0
              try clear hcz13_1
              try clear hcz13_2
              try clear hcz13_3
              try clear hcz4_0
              try clear hcz4_1
              try clear hcz4_2
              try clear hcz4_3
              try clear hcz7_0
              try clear hcz7_1
              try clear hcz7_2
              try clear hcz7_3
              try clear hfz13_0
              try clear hfz13_1
              try clear hfz13_2
              try clear hfz13_3
              try clear hfz4_0
              try clear hfz4_1
              try clear hfz4_2
              try clear hfz4_3
              try clear hfz7_0
              try clear hfz7_1
              try clear hfz7_2
              try clear hfz7_3
              try clear p9
              try clear q9
              obtain ⟨x4_1, x5_1, x299000_1, x299001_1, x299002_1, x299003_1, rfl, HA, HK1, HO_4, BK298, HB⟩ := hrel
              cases gk with
              | zero => exact absurd HA.out (by simp [noriaref11_ParseVal.l0])
              | succ k1 =>
                have H := HA.out
                clear HA
                simp only [noriaref11_ParseVal.l0] at H
                by_cases c15 : x5_1 < (a0.size : Int)
                · rw [if_pos c15] at H
                  have c15b0 : decide (x5_1 < (a0.size : Int)) = true := decide_eq_true c15
                  clear c15
                  by_cases c16 : 0 ≤ x5_1
                  · rw [if_pos c16] at H
                    have c16b0 : decide (0 ≤ x5_1) = true := decide_eq_true c16
                    clear c16
                    replace H := Option.bind_eq_some_iff.mp H
                    obtain ⟨t299, A180, H⟩ := H
                    replace H : (if 0 ≤ (wrap64 (x5_1 + 1)) then (if (wrap64 (x5_1 + 1)) < (a0.size : Int) then ((noriaref11_hex.f k1 (bt a0 (wrap64 (x5_1 + 1)))).bind fun t300 => (if t299 < 0 then (some (0, 0, (⟨#[]⟩ : ByteArray), ((0, 0) : Nat × Nat), 2)) else (if t300 < 0 then (some (0, 0, (⟨#[]⟩ : ByteArray), ((0, 0) : Nat × Nat), 2)) else (if x4_1.length < 140737488355328 then (noriaref11_ParseVal.l0 k1 a0 (x4_1 ++ [(wrap64 ((wrap64 (16 * t299)) + t300)) % 256]) (wrap64 (x5_1 + 2))) else (none))))) else (none)) else (none)) = some (r1, r2, r3, r4, r5) := H
                    have A18 := Aside0.mk A180
                    clear A180
                    obtain ⟨ji19, hji19⟩ : ∃ j_ : Int, (wrap64 (x5_1 + 1)) = j_ := ⟨_, rfl⟩
                    replace H : (if 0 ≤ (ji19) then (if (ji19) < (a0.size : Int) then ((noriaref11_hex.f k1 (bt a0 (ji19))).bind fun t300 => (if t299 < 0 then (some (0, 0, (⟨#[]⟩ : ByteArray), ((0, 0) : Nat × Nat), 2)) else (if t300 < 0 then (some (0, 0, (⟨#[]⟩ : ByteArray), ((0, 0) : Nat × Nat), 2)) else (if x4_1.length < 140737488355328 then (noriaref11_ParseVal.l0 k1 a0 (x4_1 ++ [(wrap64 ((wrap64 (16 * t299)) + t300)) % 256]) (wrap64 (x5_1 + 2))) else (none))))) else (none)) else (none)) = some (r1, r2, r3, r4, r5) := by first | (rw [hji19] at H; exact H) | (simp only [hji19] at H ⊢; exact H)
                    (try rw [hji19] at A18)
                    have hji19w : (IntKind.i64.wrap (x5_1 + 1)) = ji19 := (i64_w _).trans hji19
                    by_cases c20 : 0 ≤ (ji19)
                    · rw [if_pos c20] at H
                      have c20b0 : decide (0 ≤ (ji19)) = true := decide_eq_true c20
                      clear c20
                      by_cases c21 : (ji19) < (a0.size : Int)
                      · rw [if_pos c21] at H
                        have c21b0 : decide ((ji19) < (a0.size : Int)) = true := decide_eq_true c21
                        clear c21
                        replace H := Option.bind_eq_some_iff.mp H
                        obtain ⟨t300, A230, H⟩ := H
                        replace H : (if t299 < 0 then (some (0, 0, (⟨#[]⟩ : ByteArray), ((0, 0) : Nat × Nat), 2)) else (if t300 < 0 then (some (0, 0, (⟨#[]⟩ : ByteArray), ((0, 0) : Nat × Nat), 2)) else (if x4_1.length < 140737488355328 then (noriaref11_ParseVal.l0 k1 a0 (x4_1 ++ [(wrap64 ((wrap64 (16 * t299)) + t300)) % 256]) (wrap64 (x5_1 + 2))) else (none)))) = some (r1, r2, r3, r4, r5) := H
                        have A23 := Aside0.mk A230
                        clear A230
                        by_cases c24 : t299 < 0
                        · rw [if_pos c24] at H
                          have c24b0 : decide (t299 < 0) = true := decide_eq_true c24
                          clear c24
                          simp only [Option.some.injEq, Prod.mk.injEq] at H
                          obtain ⟨rfl, rfl, rfl, rfl, rfl⟩ := H
                          have p17 : 0 ≤ (x5_1 : Int) := of_decide_eq_true (by first | (with_reducible assumption) | assumption)
                          have q17 : x5_1 < (a0.size : Int) := of_decide_eq_true (by first | (with_reducible assumption) | assumption)
                          have hx17 := bt_at a0 x5_1
                          replace p17 := eq_true p17
                          replace q17 := eq_true q17
                          go_wp2_with (first | (go_at_call 23; (with_reducible refine (noriaref11_hex.calls k1 (bt a0 x5_1) t299 _ A18.out).mono ?_); rintro e w' ⟨rfl, ⟨nd, rfl⟩⟩; (try (rw [drewN_self wr]; generalize hq_ : World.drewN wr _ = wr; have n0_ : Aside0 (Kd.R (Kd.int .u8) 5 wr w.heap.size (fun _ => True) u4 x4_1) := ⟨by rw [← hq_]; exact (by (with_reducible repeat (first | apply Kd.R_alloc | apply Kd.R_drewN | apply Kd.R_drew)); exact HO_4.out)⟩; have n1_ : Aside0 (wr.heap[gb298]? = some (.cells #[.int .i64 x299000_1, .int .i64 x299001_1, .string x299002_1, .complex .f64 x299003_1.1 x299003_1.2] 29 (0, 0))) := ⟨by rw [← hq_]; exact (by (with_reducible repeat (first | refine blk_drewN ?_ _ | refine blk_drew ?_ | refine blk_alloc ?_ _)); exact BK298.out)⟩; have n2_ : Aside0 (Below w.heap.size w wr) := ⟨by rw [← hq_]; exact (by repeat (first | (with_reducible first | exact HB.out | apply below_alloc | apply pw_below_drewN | apply below_drew1 | refine below_set ?_ GE298.out) | exact HB.out))⟩; clear HO_4 BK298 HB hq_; have HO_4 := n0_; have BK298 := n1_; have HB := n2_; clear n0_ n1_ n2_)); have p22 : 0 ≤ ((ji19) : Int) := of_decide_eq_true (by first | (with_reducible assumption) | assumption); have q22 : (ji19) < (a0.size : Int) := of_decide_eq_true (by first | (with_reducible assumption) | assumption); have hx22 := bt_at a0 (ji19); replace p22 := eq_true p22; replace q22 := eq_true q22) | (go_at_call 23; (with_reducible refine (noriaref11_hex.calls k1 (bt a0 (ji19)) t300 _ A23.out).mono ?_); rintro e w' ⟨rfl, ⟨nd, rfl⟩⟩; (try (rw [drewN_self wr]; generalize hq_ : World.drewN wr _ = wr; have n0_ : Aside0 (Kd.R (Kd.int .u8) 5 wr w.heap.size (fun _ => True) u4 x4_1) := ⟨by rw [← hq_]; exact (by (with_reducible repeat (first | apply Kd.R_alloc | apply Kd.R_drewN | apply Kd.R_drew)); exact HO_4.out)⟩; have n1_ : Aside0 (wr.heap[gb298]? = some (.cells #[.int .i64 x299000_1, .int .i64 x299001_1, .string x299002_1, .complex .f64 x299003_1.1 x299003_1.2] 29 (0, 0))) := ⟨by rw [← hq_]; exact (by (with_reducible repeat (first | refine blk_drewN ?_ _ | refine blk_drew ?_ | refine blk_alloc ?_ _)); exact BK298.out)⟩; have n2_ : Aside0 (Below w.heap.size w wr) := ⟨by rw [← hq_]; exact (by repeat (first | (with_reducible first | exact HB.out | apply below_alloc | apply pw_below_drewN | apply below_drew1 | refine below_set ?_ GE298.out) | exact HB.out))⟩; clear HO_4 BK298 HB hq_; have HO_4 := n0_; have BK298 := n1_; have HB := n2_; clear n0_ n1_ n2_)); have hcz25_0 : wr.cell? ⟨gb298, 0, none⟩ = some (.int .i64 x299000_1) := (blk_cell BK298.out 0).trans rfl; have hcz25_1 : wr.cell? ⟨gb298, 1, none⟩ = some (.int .i64 x299001_1) := (blk_cell BK298.out 1).trans rfl; have hcz25_2 : wr.cell? ⟨gb298, 2, none⟩ = some (.string x299002_1) := (blk_cell BK298.out 2).trans rfl; have hcz25_3 : wr.cell? ⟨gb298, 3, none⟩ = some (.complex .f64 x299003_1.1 x299003_1.2) := (blk_cell BK298.out 3).trans rfl; have hfz25_0 := blk_frozen BK298.out 0; have hfz25_1 := blk_frozen BK298.out 1; have hfz25_2 := blk_frozen BK298.out 2; have hfz25_3 := blk_frozen BK298.out 3))
                          refine bodyPost_ret (results_ct rfl _ _ gb298 29 #[.int .i64 0, .int .i64 0, .string (⟨#[]⟩ : ByteArray), .complex .f64 0 0] (0, 0) _ rfl (by (with_reducible repeat (first | refine blk_drewN ?_ _ | refine blk_drew ?_ | refine blk_alloc ?_ _)); refine blk_put (cs := #[.int .i64 0, .int .i64 0, .string (⟨#[]⟩ : ByteArray), .complex .f64 x299003_1.1 x299003_1.2]) ?_ 3 _ rfl; (with_reducible repeat (first | refine blk_drewN ?_ _ | refine blk_drew ?_ | refine blk_alloc ?_ _)); refine blk_put (cs := #[.int .i64 0, .int .i64 0, .string x299002_1, .complex .f64 x299003_1.1 x299003_1.2]) ?_ 2 _ rfl; (with_reducible repeat (first | refine blk_drewN ?_ _ | refine blk_drew ?_ | refine blk_alloc ?_ _)); refine blk_put (cs := #[.int .i64 0, .int .i64 x299001_1, .string x299002_1, .complex .f64 x299003_1.1 x299003_1.2]) ?_ 1 _ rfl; (with_reducible repeat (first | refine blk_drewN ?_ _ | refine blk_drew ?_ | refine blk_alloc ?_ _)); refine blk_put (cs := #[.int .i64 x299000_1, .int .i64 x299001_1, .string x299002_1, .complex .f64 x299003_1.1 x299003_1.2]) ?_ 0 _ rfl; (with_reducible repeat (first | refine blk_drewN ?_ _ | refine blk_drew ?_ | refine blk_alloc ?_ _)); exact BK298.out) Tryz.underlying29 rfl (by kernel_rfl)) rfl ?_
                          exact ⟨by first | rfl | (simp [errW_none, errW_some] <;> rfl) | (simp only [← hji19]; first | rfl | (simp [errW_none, errW_some] <;> rfl)) | (simp [*, errW_none, errW_some] <;> rfl), by repeat (first | (with_reducible first | exact HB.out | apply below_alloc | apply pw_below_drewN | apply below_drew1 | refine below_set ?_ GE298.out) | exact HB.out)⟩
                        · rw [if_neg c24] at H
                          have c24b0 : decide (t299 < 0) = false := decide_eq_false c24
                          clear c24
                          by_cases c26 : t300 < 0
                          · rw [if_pos c26] at H
                            have c26b0 : decide (t300 < 0) = true := decide_eq_true c26
                            clear c26
                            simp only [Option.some.injEq, Prod.mk.injEq] at H
                            obtain ⟨rfl, rfl, rfl, rfl, rfl⟩ := H
                            have p17 : 0 ≤ (x5_1 : Int) := of_decide_eq_true (by first | (with_reducible assumption) | assumption)
                            have q17 : x5_1 < (a0.size : Int) := of_decide_eq_true (by first | (with_reducible assumption) | assumption)
                            have hx17 := bt_at a0 x5_1
                            replace p17 := eq_true p17
                            replace q17 := eq_true q17
                            go_wp2_with (first | (go_at_call 23; (with_reducible refine (noriaref11_hex.calls k1 (bt a0 x5_1) t299 _ A18.out).mono ?_); rintro e w' ⟨rfl, ⟨nd, rfl⟩⟩; (try (rw [drewN_self wr]; generalize hq_ : World.drewN wr _ = wr; have n0_ : Aside0 (Kd.R (Kd.int .u8) 5 wr w.heap.size (fun _ => True) u4 x4_1) := ⟨by rw [← hq_]; exact (by (with_reducible repeat (first | apply Kd.R_alloc | apply Kd.R_drewN | apply Kd.R_drew)); exact HO_4.out)⟩; have n1_ : Aside0 (wr.heap[gb298]? = some (.cells #[.int .i64 x299000_1, .int .i64 x299001_1, .string x299002_1, .complex .f64 x299003_1.1 x299003_1.2] 29 (0, 0))) := ⟨by rw [← hq_]; exact (by (with_reducible repeat (first | refine blk_drewN ?_ _ | refine blk_drew ?_ | refine blk_alloc ?_ _)); exact BK298.out)⟩; have n2_ : Aside0 (Below w.heap.size w wr) := ⟨by rw [← hq_]; exact (by repeat (first | (with_reducible first | exact HB.out | apply below_alloc | apply pw_below_drewN | apply below_drew1 | refine below_set ?_ GE298.out) | exact HB.out))⟩; clear HO_4 BK298 HB hq_; have HO_4 := n0_; have BK298 := n1_; have HB := n2_; clear n0_ n1_ n2_)); have p22 : 0 ≤ ((ji19) : Int) := of_decide_eq_true (by first | (with_reducible assumption) | assumption); have q22 : (ji19) < (a0.size : Int) := of_decide_eq_true (by first | (with_reducible assumption) | assumption); have hx22 := bt_at a0 (ji19); replace p22 := eq_true p22; replace q22 := eq_true q22) | (go_at_call 23; (with_reducible refine (noriaref11_hex.calls k1 (bt a0 (ji19)) t300 _ A23.out).mono ?_); rintro e w' ⟨rfl, ⟨nd, rfl⟩⟩; (try (rw [drewN_self wr]; generalize hq_ : World.drewN wr _ = wr; have n0_ : Aside0 (Kd.R (Kd.int .u8) 5 wr w.heap.size (fun _ => True) u4 x4_1) := ⟨by rw [← hq_]; exact (by (with_reducible repeat (first | apply Kd.R_alloc | apply Kd.R_drewN | apply Kd.R_drew)); exact HO_4.out)⟩; have n1_ : Aside0 (wr.heap[gb298]? = some (.cells #[.int .i64 x299000_1, .int .i64 x299001_1, .string x299002_1, .complex .f64 x299003_1.1 x299003_1.2] 29 (0, 0))) := ⟨by rw [← hq_]; exact (by (with_reducible repeat (first | refine blk_drewN ?_ _ | refine blk_drew ?_ | refine blk_alloc ?_ _)); exact BK298.out)⟩; have n2_ : Aside0 (Below w.heap.size w wr) := ⟨by rw [← hq_]; exact (by repeat (first | (with_reducible first | exact HB.out | apply below_alloc | apply pw_below_drewN | apply below_drew1 | refine below_set ?_ GE298.out) | exact HB.out))⟩; clear HO_4 BK298 HB hq_; have HO_4 := n0_; have BK298 := n1_; have HB := n2_; clear n0_ n1_ n2_)); have hcz27_0 : wr.cell? ⟨gb298, 0, none⟩ = some (.int .i64 x299000_1) := (blk_cell BK298.out 0).trans rfl; have hcz27_1 : wr.cell? ⟨gb298, 1, none⟩ = some (.int .i64 x299001_1) := (blk_cell BK298.out 1).trans rfl; have hcz27_2 : wr.cell? ⟨gb298, 2, none⟩ = some (.string x299002_1) := (blk_cell BK298.out 2).trans rfl; have hcz27_3 : wr.cell? ⟨gb298, 3, none⟩ = some (.complex .f64 x299003_1.1 x299003_1.2) := (blk_cell BK298.out 3).trans rfl; have hfz27_0 := blk_frozen BK298.out 0; have hfz27_1 := blk_frozen BK298.out 1; have hfz27_2 := blk_frozen BK298.out 2; have hfz27_3 := blk_frozen BK298.out 3))
                            refine bodyPost_ret (results_ct rfl _ _ gb298 29 #[.int .i64 0, .int .i64 0, .string (⟨#[]⟩ : ByteArray), .complex .f64 0 0] (0, 0) _ rfl (by (with_reducible repeat (first | refine blk_drewN ?_ _ | refine blk_drew ?_ | refine blk_alloc ?_ _)); refine blk_put (cs := #[.int .i64 0, .int .i64 0, .string (⟨#[]⟩ : ByteArray), .complex .f64 x299003_1.1 x299003_1.2]) ?_ 3 _ rfl; (with_reducible repeat (first | refine blk_drewN ?_ _ | refine blk_drew ?_ | refine blk_alloc ?_ _)); refine blk_put (cs := #[.int .i64 0, .int .i64 0, .string x299002_1, .complex .f64 x299003_1.1 x299003_1.2]) ?_ 2 _ rfl; (with_reducible repeat (first | refine blk_drewN ?_ _ | refine blk_drew ?_ | refine blk_alloc ?_ _)); refine blk_put (cs := #[.int .i64 0, .int .i64 x299001_1, .string x299002_1, .complex .f64 x299003_1.1 x299003_1.2]) ?_ 1 _ rfl; (with_reducible repeat (first | refine blk_drewN ?_ _ | refine blk_drew ?_ | refine blk_alloc ?_ _)); refine blk_put (cs := #[.int .i64 x299000_1, .int .i64 x299001_1, .string x299002_1, .complex .f64 x299003_1.1 x299003_1.2]) ?_ 0 _ rfl; (with_reducible repeat (first | refine blk_drewN ?_ _ | refine blk_drew ?_ | refine blk_alloc ?_ _)); exact BK298.out) Tryz.underlying29 rfl (by kernel_rfl)) rfl ?_
                            exact ⟨by first | rfl | (simp [errW_none, errW_some] <;> rfl) | (simp only [← hji19]; first | rfl | (simp [errW_none, errW_some] <;> rfl)) | (simp [*, errW_none, errW_some] <;> rfl), by repeat (first | (with_reducible first | exact HB.out | apply below_alloc | apply pw_below_drewN | apply below_drew1 | refine below_set ?_ GE298.out) | exact HB.out)⟩
                          · rw [if_neg c26] at H
                            have c26b0 : decide (t300 < 0) = false := decide_eq_false c26
                            clear c26
                            by_cases c28 : x4_1.length < 140737488355328
                            · rw [if_pos c28] at H
                              have LMc28 := Aside0.mk c28
                              clear c28
                              obtain ⟨y301, hy301⟩ : ∃ y_ : List Int, y_ = (x4_1 ++ [(wrap64 ((wrap64 (16 * t299)) + t300)) % 256]) := ⟨_, rfl⟩
                              replace H : (noriaref11_ParseVal.l0 k1 a0 y301 (wrap64 (x5_1 + 2))) = some (r1, r2, r3, r4, r5) := by first | (rw [hy301]; with_reducible exact H) | (have H2_ := (Option.bind_some _ _).symm.trans H; rw [hy301]; with_reducible exact H2_) | (have H2_ := (Option.bind_some _ _).symm.trans H; with_reducible exact H2_) | with_reducible exact H | (rw [hy301]; exact H) | exact H
                              have Ny301 := Aside0.mk hy301
                              clear hy301
                              have H' := Aside0.mk H
                              clear H
                              have p17 : 0 ≤ (x5_1 : Int) := of_decide_eq_true (by first | (with_reducible assumption) | assumption)
                              have q17 : x5_1 < (a0.size : Int) := of_decide_eq_true (by first | (with_reducible assumption) | assumption)
                              have hx17 := bt_at a0 x5_1
                              replace p17 := eq_true p17
                              replace q17 := eq_true q17
                              go_wp2_with (first | (go_at_call 23; (with_reducible refine (noriaref11_hex.calls k1 (bt a0 x5_1) t299 _ A18.out).mono ?_); rintro e w' ⟨rfl, ⟨nd, rfl⟩⟩; have p22 : 0 ≤ ((ji19) : Int) := of_decide_eq_true (by first | (with_reducible assumption) | assumption); have q22 : (ji19) < (a0.size : Int) := of_decide_eq_true (by first | (with_reducible assumption) | assumption); have hx22 := bt_at a0 (ji19); replace p22 := eq_true p22; replace q22 := eq_true q22) | (go_at_call 23; (with_reducible refine (noriaref11_hex.calls k1 (bt a0 (ji19)) t300 _ A23.out).mono ?_); rintro e w' ⟨rfl, ⟨nd, rfl⟩⟩) | ((with_reducible refine gate_builtin (b := .append) (xs := #[.tmp 48, .tmp 54]) rfl ?_); at_builtin; refine Kd.R_append (Kd.int .u8) (w0 := w) w.heap.size rfl (.tmp 48) (.tmp 54) 50 5 (.int .u8 0) 1 rfl Tryz.underlying50 info5 rfl (by decide) (by omega) u4 x4_1 ((wrap64 ((wrap64 (16 * t299)) + t300)) % 256) [.int .u8 ((wrap64 ((wrap64 (16 * t299)) + t300)) % 256)] (fun _ => True) (fun _ => False) rfl rfl ?aP (fun _ hk => hk.elim) ?aF ?aO ?aB ?aS ?aL ?_; (case aP => exact rfl); (case aB => exact (by repeat (first | (with_reducible first | exact HB.out | apply below_alloc | apply pw_below_drewN | apply below_drew1 | refine below_set ?_ GE298.out) | exact HB.out))); (case aF => exact (fun _ _ => trivial)); (case aO => exact (by (with_reducible repeat (first | apply Kd.R_alloc | apply Kd.R_drewN | apply Kd.R_drew)); exact HO_4.out)); (case aS => exact (below_size (by repeat (first | (with_reducible first | exact HB.out | apply below_alloc | apply pw_below_drewN | apply below_drew1 | refine below_set ?_ GE298.out) | exact HB.out)))); (case aL => have := LMc28.out; omega); intro v302 w29 ho hb hg hat; rw [← Ny301.out] at ho; have n0_ := Aside0.mk (blk_grown (g := gb298) (o := .cells #[.int .i64 x299000_1, .int .i64 x299001_1, .string x299002_1, .complex .f64 x299003_1.1 x299003_1.2] 29 (0, 0)) (by (with_reducible repeat (first | refine blk_drewN ?_ _ | refine blk_drew ?_ | refine blk_alloc ?_ _)); exact BK298.out) hg (Kd.R_ne HO_4.out BK298.out (by decide))); have n1_ := Aside0.mk (hb); have n2_ := Aside0.mk (ho); clear BK298; clear HB; clear HO_4; have BK298 := n0_; have HB := n1_; have HO303 := n2_; clear n0_ n1_ n2_; clear ho hb hg hat))
                              first | go_roundg k1 | (simp only [← hji19] at H' ⊢; go_roundg k1)
                              case measure => have := HK1.out; omega
                              case rel => exact ⟨(y301), (wrap64 (x5_1 + 2)), (x299000_1), (x299001_1), (x299002_1), (x299003_1), (by first | rfl | (simp; done) | (simp [*]; done)), H', ⟨by have := HK1.out; omega⟩, ⟨by (with_reducible repeat (first | apply Kd.R_alloc | apply Kd.R_drewN | apply Kd.R_drew)); exact HO303.out⟩, ⟨by (with_reducible repeat (first | refine blk_drewN ?_ _ | refine blk_drew ?_ | refine blk_alloc ?_ _)); exact BK298.out⟩, ⟨by repeat (first | (with_reducible first | exact HB.out | apply below_alloc | apply pw_below_drewN | apply below_drew1 | refine below_set ?_ GE298.out) | exact HB.out)⟩⟩
                            · rw [if_neg c28] at H
                              exact absurd H (by simp)
                      · rw [if_neg c21] at H
                        exact absurd H (by simp)
                    · rw [if_neg c20] at H
                      exact absurd H (by simp)
                  · rw [if_neg c16] at H
                    exact absurd H (by simp)
                · rw [if_neg c15] at H
                  have c15b0 : decide (x5_1 < (a0.size : Int)) = false := decide_eq_false c15
                  clear c15
                  by_cases c30 : (x4_1.length : Int) > 255
                  · rw [if_pos c30] at H
                    have c30b0 : decide (255 < (x4_1.length : Int)) = true := decide_eq_true c30
                    have c30b1 : decide (255 < x4_1.length) = true := decide_eq_true (by omega)
                    clear c30
                    simp only [Option.some.injEq, Prod.mk.injEq] at H
                    obtain ⟨rfl, rfl, rfl, rfl, rfl⟩ := H
                    obtain ⟨Ao31, co31, eo31⟩ := Kd.R_slice HO_4.out
                    subst eo31
                    have hcz32_0 : wr.cell? ⟨gb298, 0, none⟩ = some (.int .i64 x299000_1) := (blk_cell BK298.out 0).trans rfl
                    have hcz32_1 : wr.cell? ⟨gb298, 1, none⟩ = some (.int .i64 x299001_1) := (blk_cell BK298.out 1).trans rfl
                    have hcz32_2 : wr.cell? ⟨gb298, 2, none⟩ = some (.string x299002_1) := (blk_cell BK298.out 2).trans rfl
                    have hcz32_3 : wr.cell? ⟨gb298, 3, none⟩ = some (.complex .f64 x299003_1.1 x299003_1.2) := (blk_cell BK298.out 3).trans rfl
                    have hfz32_0 := blk_frozen BK298.out 0
                    have hfz32_1 := blk_frozen BK298.out 1
                    have hfz32_2 := blk_frozen BK298.out 2
                    have hfz32_3 := blk_frozen BK298.out 3
                    go_wp2
                    refine bodyPost_ret (results_ct rfl _ _ gb298 29 #[.int .i64 0, .int .i64 0, .string (⟨#[]⟩ : ByteArray), .complex .f64 0 0] (0, 0) _ rfl (by (with_reducible repeat (first | refine blk_drewN ?_ _ | refine blk_drew ?_ | refine blk_alloc ?_ _)); refine blk_put (cs := #[.int .i64 0, .int .i64 0, .string (⟨#[]⟩ : ByteArray), .complex .f64 x299003_1.1 x299003_1.2]) ?_ 3 _ rfl; (with_reducible repeat (first | refine blk_drewN ?_ _ | refine blk_drew ?_ | refine blk_alloc ?_ _)); refine blk_put (cs := #[.int .i64 0, .int .i64 0, .string x299002_1, .complex .f64 x299003_1.1 x299003_1.2]) ?_ 2 _ rfl; (with_reducible repeat (first | refine blk_drewN ?_ _ | refine blk_drew ?_ | refine blk_alloc ?_ _)); refine blk_put (cs := #[.int .i64 0, .int .i64 x299001_1, .string x299002_1, .complex .f64 x299003_1.1 x299003_1.2]) ?_ 1 _ rfl; (with_reducible repeat (first | refine blk_drewN ?_ _ | refine blk_drew ?_ | refine blk_alloc ?_ _)); refine blk_put (cs := #[.int .i64 x299000_1, .int .i64 x299001_1, .string x299002_1, .complex .f64 x299003_1.1 x299003_1.2]) ?_ 0 _ rfl; (with_reducible repeat (first | refine blk_drewN ?_ _ | refine blk_drew ?_ | refine blk_alloc ?_ _)); exact BK298.out) Tryz.underlying29 rfl (by kernel_rfl)) rfl ?_
                    exact ⟨by first | rfl | (simp [errW_none, errW_some] <;> rfl) | (simp [*, errW_none, errW_some] <;> rfl), by repeat (first | (with_reducible first | exact HB.out | apply below_alloc | apply pw_below_drewN | apply below_drew1 | refine below_set ?_ GE298.out) | exact HB.out)⟩
                  · rw [if_neg c30] at H
                    have c30b0 : decide (255 < (x4_1.length : Int)) = false := decide_eq_false c30
                    have c30b1 : decide (255 < x4_1.length) = false := decide_eq_false (by omega)
                    clear c30
                    simp only [Option.some.injEq, Prod.mk.injEq] at H
                    obtain ⟨rfl, rfl, rfl, rfl, rfl⟩ := H
                    obtain ⟨Ao33, co33, eo33⟩ := Kd.R_slice HO_4.out
                    subst eo33
                    have hcv34 := own_string (P := Tryz.prog) Tryz.underlying50 Tryz.underlying5 Tryz.underlying9 (Kd.own_of_R HO_4.out)
                    have hcv34d := fun m_ => own_string (P := Tryz.prog) Tryz.underlying50 Tryz.underlying5 Tryz.underlying9 (Kd.own_of_R (Kd.R_drewN HO_4.out m_))
                    have hcz35_0 : wr.cell? ⟨gb298, 0, none⟩ = some (.int .i64 x299000_1) := (blk_cell BK298.out 0).trans rfl
                    have hcz35_1 : wr.cell? ⟨gb298, 1, none⟩ = some (.int .i64 x299001_1) := (blk_cell BK298.out 1).trans rfl
                    have hcz35_2 : wr.cell? ⟨gb298, 2, none⟩ = some (.string x299002_1) := (blk_cell BK298.out 2).trans rfl
                    have hcz35_3 : wr.cell? ⟨gb298, 3, none⟩ = some (.complex .f64 x299003_1.1 x299003_1.2) := (blk_cell BK298.out 3).trans rfl
                    have hfz35_0 := blk_frozen BK298.out 0
                    have hfz35_1 := blk_frozen BK298.out 1
                    have hfz35_2 := blk_frozen BK298.out 2
                    have hfz35_3 := blk_frozen BK298.out 3
                    go_wp2
                    refine bodyPost_ret (results_ct rfl _ _ gb298 29 #[.int .i64 2, .int .i64 0, .string (strOfNums x4_1), .complex .f64 0 0] (0, 0) _ rfl (by (with_reducible repeat (first | refine blk_drewN ?_ _ | refine blk_drew ?_ | refine blk_alloc ?_ _)); refine blk_put (cs := #[.int .i64 2, .int .i64 0, .string (strOfNums x4_1), .complex .f64 x299003_1.1 x299003_1.2]) ?_ 3 _ rfl; (with_reducible repeat (first | refine blk_drewN ?_ _ | refine blk_drew ?_ | refine blk_alloc ?_ _)); refine blk_put (cs := #[.int .i64 2, .int .i64 0, .string x299002_1, .complex .f64 x299003_1.1 x299003_1.2]) ?_ 2 _ rfl; (with_reducible repeat (first | refine blk_drewN ?_ _ | refine blk_drew ?_ | refine blk_alloc ?_ _)); refine blk_put (cs := #[.int .i64 2, .int .i64 x299001_1, .string x299002_1, .complex .f64 x299003_1.1 x299003_1.2]) ?_ 1 _ rfl; (with_reducible repeat (first | refine blk_drewN ?_ _ | refine blk_drew ?_ | refine blk_alloc ?_ _)); refine blk_put (cs := #[.int .i64 x299000_1, .int .i64 x299001_1, .string x299002_1, .complex .f64 x299003_1.1 x299003_1.2]) ?_ 0 _ rfl; (with_reducible repeat (first | refine blk_drewN ?_ _ | refine blk_drew ?_ | refine blk_alloc ?_ _)); exact BK298.out) Tryz.underlying29 rfl (by kernel_rfl)) rfl ?_
                    exact ⟨by first | rfl | (simp [errW_none, errW_some] <;> rfl) | (simp [*, errW_none, errW_some] <;> rfl), by repeat (first | (with_reducible first | exact HB.out | apply below_alloc | apply pw_below_drewN | apply below_drew1 | refine below_set ?_ GE298.out) | exact HB.out)⟩
        · rw [if_neg c10] at H
          have c10b0 : ((bt a0 0) == 34) = false := beq_eq_false_iff_ne.mpr c10
          have c10b1 : ((bt a0 0) != 34) = true := bne_iff_ne.mpr c10
          obtain ⟨ji36, hji36⟩ : ∃ j_ : Int, (wrap64 ((a0.size : Int) - 1)) = j_ := ⟨_, rfl⟩
          replace H : (if 0 ≤ (ji36) then (if (ji36) < (a0.size : Int) then (if (bt a0 (ji36)) = 105 then ((noriaref11_ParsePoint.f k a0).bind fun bt304 => (if bt304.2 = 0 then (some (3, 0, (⟨#[]⟩ : ByteArray), bt304.1, 0)) else (some (0, 0, (⟨#[]⟩ : ByteArray), ((0, 0) : Nat × Nat), bt304.2)))) else ((noriaref11_ParseNum.f k a0).bind fun bt306 => (if bt306.2 = 0 then (some (1, bt306.1, (⟨#[]⟩ : ByteArray), ((0, 0) : Nat × Nat), 0)) else (some (0, 0, (⟨#[]⟩ : ByteArray), ((0, 0) : Nat × Nat), bt306.2))))) else (none)) else (none)) = some (r1, r2, r3, r4, r5) := by first | (rw [hji36] at H; exact H) | (simp only [hji36] at H ⊢; exact H)
          have hji36w : (IntKind.i64.wrap ((a0.size : Int) - 1)) = ji36 := (i64_w _).trans hji36
          by_cases c37 : 0 ≤ (ji36)
          · rw [if_pos c37] at H
            have c37b0 : decide (0 ≤ (ji36)) = true := decide_eq_true c37
            clear c37
            by_cases c38 : (ji36) < (a0.size : Int)
            · rw [if_pos c38] at H
              have c38b0 : decide ((ji36) < (a0.size : Int)) = true := decide_eq_true c38
              clear c38
              by_cases c40 : (bt a0 (ji36)) = 105
              · rw [if_pos c40] at H
                have c40b0 : ((bt a0 (ji36)) == 105) = true := beq_iff_eq.mpr c40
                have c40b1 : ((bt a0 (ji36)) != 105) = false := bne_eq_false_iff_eq.mpr c40
                clear c40
                replace H := Option.bind_eq_some_iff.mp H
                obtain ⟨⟨t304, t305⟩, A410, H⟩ := H
                replace H : (if t305 = 0 then (some (3, 0, (⟨#[]⟩ : ByteArray), t304, 0)) else (some (0, 0, (⟨#[]⟩ : ByteArray), ((0, 0) : Nat × Nat), t305))) = some (r1, r2, r3, r4, r5) := H
                have A41 := Aside0.mk A410
                clear A410
                by_cases c42 : t305 = 0
                · rw [if_pos c42] at H
                  have c42b0 : (t305 == 0) = true := beq_iff_eq.mpr c42
                  have c42b1 : (t305 != 0) = false := bne_eq_false_iff_eq.mpr c42
                  clear c42
                  simp only [Option.some.injEq, Prod.mk.injEq] at H
                  obtain ⟨rfl, rfl, rfl, rfl, rfl⟩ := H
                  go_enter Tryz.func6, Tryz.ntmps6
                  go_wp2_with (first | ((with_reducible refine gate_dst (N := 2) rfl ?_); refine box_event ?hg (N := 2) ?hd (cs := #[.int .i64 0, .int .i64 0, .string (⟨#[]⟩ : ByteArray), .complex .f64 0 0]) (t := 29) ?hr ?_; (case hd => rfl); (case hg => rfl); (case hr => first | (go_simp; done) | (go_simp; rfl)); intro gb298 hg w43 hbox hb; have n0_ := Aside0.mk (below_step (by repeat (first | (with_reducible first | exact HB.out | apply below_alloc | apply pw_below_drewN | apply below_drew1) | exact HB.out)) hb); have n1_ := Aside0.mk (hbox); have n2_ := Aside0.mk ((by rw [hg]; exact (below_size (by repeat (first | (with_reducible first | exact HB.out | apply below_alloc | apply pw_below_drewN | apply below_drew1) | exact HB.out))) : w.heap.size ≤ gb298)); have n3_ := Aside0.mk ((by rw [hg]; exact (below_size (by repeat (first | (with_reducible first | exact HB.out | apply below_alloc | apply pw_below_drewN | apply below_drew1) | exact HB.out))) : w.heap.size ≤ gb298)); clear HB; have HB := n0_; have BK298 := n1_; have GW298 := n2_; have GE298 := n3_; clear n0_ n1_ n2_ n3_; clear hb hbox hg; have p9 : 0 ≤ (0 : Int) := (by omega); have q9 : 0 < a0.size := (by have : (0 : Int) < (a0.size : Int) := of_decide_eq_true (by first | (with_reducible assumption) | assumption); omega); have hx9 : ∀ h : 0 < a0.size, ((a0[0]'h).toNat : Int) = bt a0 0 := bt_at a0 0; clear p9; have qi9 : (0 < (a0.size : Int)) = True := eq_true (of_decide_eq_true (by first | (with_reducible assumption) | assumption)); replace q9 := eq_true q9; have p39 : 0 ≤ ((ji36) : Int) := of_decide_eq_true (by first | (with_reducible assumption) | assumption); have q39 : (ji36) < (a0.size : Int) := of_decide_eq_true (by first | (with_reducible assumption) | assumption); have hx39 := bt_at a0 (ji36); replace p39 := eq_true p39; replace q39 := eq_true q39) | (go_at_call 24; (with_reducible refine (noriaref11_ParsePoint.calls k a0 t304 t305 _ A41.out).mono ?_); rintro e w' ⟨rfl, ⟨nd, rfl⟩⟩; (try (rw [drewN_self w43]; generalize hq_ : World.drewN w43 _ = w43; have n0_ : Aside0 (w43.heap[gb298]? = some (.cells #[.int .i64 0, .int .i64 0, .string (⟨#[]⟩ : ByteArray), .complex .f64 0 0] 29 (0, 0))) := ⟨by rw [← hq_]; exact (by (with_reducible repeat (first | refine blk_drewN ?_ _ | refine blk_drew ?_ | refine blk_alloc ?_ _)); exact BK298.out)⟩; have n1_ : Aside0 (Below w.heap.size w w43) := ⟨by rw [← hq_]; exact (by repeat (first | (with_reducible first | exact HB.out | apply below_alloc | apply pw_below_drewN | apply below_drew1 | refine below_set ?_ GE298.out) | exact HB.out))⟩; clear BK298 HB hq_; have BK298 := n0_; have HB := n1_; clear n0_ n1_)); have hcz44_0 : w43.cell? ⟨gb298, 0, none⟩ = some (.int .i64 0) := (blk_cell BK298.out 0).trans rfl; have hcz44_1 : w43.cell? ⟨gb298, 1, none⟩ = some (.int .i64 0) := (blk_cell BK298.out 1).trans rfl; have hcz44_2 : w43.cell? ⟨gb298, 2, none⟩ = some (.string (⟨#[]⟩ : ByteArray)) := (blk_cell BK298.out 2).trans rfl; have hcz44_3 : w43.cell? ⟨gb298, 3, none⟩ = some (.complex .f64 0 0) := (blk_cell BK298.out 3).trans rfl; have hfz44_0 := blk_frozen BK298.out 0; have hfz44_1 := blk_frozen BK298.out 1; have hfz44_2 := blk_frozen BK298.out 2; have hfz44_3 := blk_frozen BK298.out 3))
                  refine bodyPost_ret (results_ct rfl _ _ gb298 29 #[.int .i64 3, .int .i64 0, .string (⟨#[]⟩ : ByteArray), .complex .f64 t304.1 t304.2] (0, 0) _ rfl (by (with_reducible repeat (first | refine blk_drewN ?_ _ | refine blk_drew ?_ | refine blk_alloc ?_ _)); refine blk_put (cs := #[.int .i64 3, .int .i64 0, .string (⟨#[]⟩ : ByteArray), .complex .f64 0 0]) ?_ 3 _ rfl; (with_reducible repeat (first | refine blk_drewN ?_ _ | refine blk_drew ?_ | refine blk_alloc ?_ _)); refine blk_put (cs := #[.int .i64 3, .int .i64 0, .string (⟨#[]⟩ : ByteArray), .complex .f64 0 0]) ?_ 2 _ rfl; (with_reducible repeat (first | refine blk_drewN ?_ _ | refine blk_drew ?_ | refine blk_alloc ?_ _)); refine blk_put (cs := #[.int .i64 3, .int .i64 0, .string (⟨#[]⟩ : ByteArray), .complex .f64 0 0]) ?_ 1 _ rfl; (with_reducible repeat (first | refine blk_drewN ?_ _ | refine blk_drew ?_ | refine blk_alloc ?_ _)); refine blk_put (cs := #[.int .i64 0, .int .i64 0, .string (⟨#[]⟩ : ByteArray), .complex .f64 0 0]) ?_ 0 _ rfl; (with_reducible repeat (first | refine blk_drewN ?_ _ | refine blk_drew ?_ | refine blk_alloc ?_ _)); exact BK298.out) Tryz.underlying29 rfl (by kernel_rfl)) rfl ?_
                  exact ⟨by first | rfl | (simp [errW_none, errW_some] <;> rfl) | (simp only [← hji36]; first | rfl | (simp [errW_none, errW_some] <;> rfl)) | (simp [*, errW_none, errW_some] <;> rfl), by repeat (first | (with_reducible first | exact HB.out | apply below_alloc | apply pw_below_drewN | apply below_drew1 | refine below_set ?_ GE298.out) | exact HB.out)⟩
                · rw [if_neg c42] at H
                  have c42b0 : (t305 == 0) = false := beq_eq_false_iff_ne.mpr c42
                  have c42b1 : (t305 != 0) = true := bne_iff_ne.mpr c42
                  simp only [Option.some.injEq, Prod.mk.injEq] at H
                  obtain ⟨rfl, rfl, rfl, rfl, rfl⟩ := H
                  go_enter Tryz.func6, Tryz.ntmps6
                  go_wp2_with (first | ((with_reducible refine gate_dst (N := 2) rfl ?_); refine box_event ?hg (N := 2) ?hd (cs := #[.int .i64 0, .int .i64 0, .string (⟨#[]⟩ : ByteArray), .complex .f64 0 0]) (t := 29) ?hr ?_; (case hd => rfl); (case hg => rfl); (case hr => first | (go_simp; done) | (go_simp; rfl)); intro gb298 hg w45 hbox hb; have n0_ := Aside0.mk (below_step (by repeat (first | (with_reducible first | exact HB.out | apply below_alloc | apply pw_below_drewN | apply below_drew1) | exact HB.out)) hb); have n1_ := Aside0.mk (hbox); have n2_ := Aside0.mk ((by rw [hg]; exact (below_size (by repeat (first | (with_reducible first | exact HB.out | apply below_alloc | apply pw_below_drewN | apply below_drew1) | exact HB.out))) : w.heap.size ≤ gb298)); have n3_ := Aside0.mk ((by rw [hg]; exact (below_size (by repeat (first | (with_reducible first | exact HB.out | apply below_alloc | apply pw_below_drewN | apply below_drew1) | exact HB.out))) : w.heap.size ≤ gb298)); clear HB; have HB := n0_; have BK298 := n1_; have GW298 := n2_; have GE298 := n3_; clear n0_ n1_ n2_ n3_; clear hb hbox hg; have p9 : 0 ≤ (0 : Int) := (by omega); have q9 : 0 < a0.size := (by have : (0 : Int) < (a0.size : Int) := of_decide_eq_true (by first | (with_reducible assumption) | assumption); omega); have hx9 : ∀ h : 0 < a0.size, ((a0[0]'h).toNat : Int) = bt a0 0 := bt_at a0 0; clear p9; have qi9 : (0 < (a0.size : Int)) = True := eq_true (of_decide_eq_true (by first | (with_reducible assumption) | assumption)); replace q9 := eq_true q9; have p39 : 0 ≤ ((ji36) : Int) := of_decide_eq_true (by first | (with_reducible assumption) | assumption); have q39 : (ji36) < (a0.size : Int) := of_decide_eq_true (by first | (with_reducible assumption) | assumption); have hx39 := bt_at a0 (ji36); replace p39 := eq_true p39; replace q39 := eq_true q39) | (go_at_call 24; (with_reducible refine (noriaref11_ParsePoint.calls k a0 t304 t305 _ A41.out).mono ?_); rintro e w' ⟨rfl, ⟨nd, rfl⟩⟩; (try (rw [drewN_self w45]; generalize hq_ : World.drewN w45 _ = w45; have n0_ : Aside0 (w45.heap[gb298]? = some (.cells #[.int .i64 0, .int .i64 0, .string (⟨#[]⟩ : ByteArray), .complex .f64 0 0] 29 (0, 0))) := ⟨by rw [← hq_]; exact (by (with_reducible repeat (first | refine blk_drewN ?_ _ | refine blk_drew ?_ | refine blk_alloc ?_ _)); exact BK298.out)⟩; have n1_ : Aside0 (Below w.heap.size w w45) := ⟨by rw [← hq_]; exact (by repeat (first | (with_reducible first | exact HB.out | apply below_alloc | apply pw_below_drewN | apply below_drew1 | refine below_set ?_ GE298.out) | exact HB.out))⟩; clear BK298 HB hq_; have BK298 := n0_; have HB := n1_; clear n0_ n1_)); have hcz46_0 : w45.cell? ⟨gb298, 0, none⟩ = some (.int .i64 0) := (blk_cell BK298.out 0).trans rfl; have hcz46_1 : w45.cell? ⟨gb298, 1, none⟩ = some (.int .i64 0) := (blk_cell BK298.out 1).trans rfl; have hcz46_2 : w45.cell? ⟨gb298, 2, none⟩ = some (.string (⟨#[]⟩ : ByteArray)) := (blk_cell BK298.out 2).trans rfl; have hcz46_3 : w45.cell? ⟨gb298, 3, none⟩ = some (.complex .f64 0 0) := (blk_cell BK298.out 3).trans rfl; have hfz46_0 := blk_frozen BK298.out 0; have hfz46_1 := blk_frozen BK298.out 1; have hfz46_2 := blk_frozen BK298.out 2; have hfz46_3 := blk_frozen BK298.out 3))
                  refine bodyPost_ret (results_ct rfl _ _ gb298 29 #[.int .i64 0, .int .i64 0, .string (⟨#[]⟩ : ByteArray), .complex .f64 0 0] (0, 0) _ rfl (by (with_reducible repeat (first | refine blk_drewN ?_ _ | refine blk_drew ?_ | refine blk_alloc ?_ _)); refine blk_put (cs := #[.int .i64 0, .int .i64 0, .string (⟨#[]⟩ : ByteArray), .complex .f64 0 0]) ?_ 3 _ rfl; (with_reducible repeat (first | refine blk_drewN ?_ _ | refine blk_drew ?_ | refine blk_alloc ?_ _)); refine blk_put (cs := #[.int .i64 0, .int .i64 0, .string (⟨#[]⟩ : ByteArray), .complex .f64 0 0]) ?_ 2 _ rfl; (with_reducible repeat (first | refine blk_drewN ?_ _ | refine blk_drew ?_ | refine blk_alloc ?_ _)); refine blk_put (cs := #[.int .i64 0, .int .i64 0, .string (⟨#[]⟩ : ByteArray), .complex .f64 0 0]) ?_ 1 _ rfl; (with_reducible repeat (first | refine blk_drewN ?_ _ | refine blk_drew ?_ | refine blk_alloc ?_ _)); refine blk_put (cs := #[.int .i64 0, .int .i64 0, .string (⟨#[]⟩ : ByteArray), .complex .f64 0 0]) ?_ 0 _ rfl; (with_reducible repeat (first | refine blk_drewN ?_ _ | refine blk_drew ?_ | refine blk_alloc ?_ _)); exact BK298.out) Tryz.underlying29 rfl (by kernel_rfl)) rfl ?_
                  exact ⟨by first | rfl | (simp [errW_none, errW_some] <;> rfl) | (simp only [← hji36]; first | rfl | (simp [errW_none, errW_some] <;> rfl)) | (simp [*, errW_none, errW_some] <;> rfl), by repeat (first | (with_reducible first | exact HB.out | apply below_alloc | apply pw_below_drewN | apply below_drew1 | refine below_set ?_ GE298.out) | exact HB.out)⟩
              · rw [if_neg c40] at H
                have c40b0 : ((bt a0 (ji36)) == 105) = false := beq_eq_false_iff_ne.mpr c40
                have c40b1 : ((bt a0 (ji36)) != 105) = true := bne_iff_ne.mpr c40
                replace H := Option.bind_eq_some_iff.mp H
                obtain ⟨⟨t306, t307⟩, A470, H⟩ := H
                replace H : (if t307 = 0 then (some (1, t306, (⟨#[]⟩ : ByteArray), ((0, 0) : Nat × Nat), 0)) else (some (0, 0, (⟨#[]⟩ : ByteArray), ((0, 0) : Nat × Nat), t307))) = some (r1, r2, r3, r4, r5) := H
                have A47 := Aside0.mk A470
                clear A470
                by_cases c48 : t307 = 0
                · rw [if_pos c48] at H
                  have c48b0 : (t307 == 0) = true := beq_iff_eq.mpr c48
                  have c48b1 : (t307 != 0) = false := bne_eq_false_iff_eq.mpr c48
                  clear c48
                  simp only [Option.some.injEq, Prod.mk.injEq] at H
                  obtain ⟨rfl, rfl, rfl, rfl, rfl⟩ := H
                  go_enter Tryz.func6, Tryz.ntmps6
                  go_wp2_with (first | ((with_reducible refine gate_dst (N := 2) rfl ?_); refine box_event ?hg (N := 2) ?hd (cs := #[.int .i64 0, .int .i64 0, .string (⟨#[]⟩ : ByteArray), .complex .f64 0 0]) (t := 29) ?hr ?_; (case hd => rfl); (case hg => rfl); (case hr => first | (go_simp; done) | (go_simp; rfl)); intro gb298 hg w49 hbox hb; have n0_ := Aside0.mk (below_step (by repeat (first | (with_reducible first | exact HB.out | apply below_alloc | apply pw_below_drewN | apply below_drew1) | exact HB.out)) hb); have n1_ := Aside0.mk (hbox); have n2_ := Aside0.mk ((by rw [hg]; exact (below_size (by repeat (first | (with_reducible first | exact HB.out | apply below_alloc | apply pw_below_drewN | apply below_drew1) | exact HB.out))) : w.heap.size ≤ gb298)); have n3_ := Aside0.mk ((by rw [hg]; exact (below_size (by repeat (first | (with_reducible first | exact HB.out | apply below_alloc | apply pw_below_drewN | apply below_drew1) | exact HB.out))) : w.heap.size ≤ gb298)); clear HB; have HB := n0_; have BK298 := n1_; have GW298 := n2_; have GE298 := n3_; clear n0_ n1_ n2_ n3_; clear hb hbox hg; have p9 : 0 ≤ (0 : Int) := (by omega); have q9 : 0 < a0.size := (by have : (0 : Int) < (a0.size : Int) := of_decide_eq_true (by first | (with_reducible assumption) | assumption); omega); have hx9 : ∀ h : 0 < a0.size, ((a0[0]'h).toNat : Int) = bt a0 0 := bt_at a0 0; clear p9; have qi9 : (0 < (a0.size : Int)) = True := eq_true (of_decide_eq_true (by first | (with_reducible assumption) | assumption)); replace q9 := eq_true q9; have p39 : 0 ≤ ((ji36) : Int) := of_decide_eq_true (by first | (with_reducible assumption) | assumption); have q39 : (ji36) < (a0.size : Int) := of_decide_eq_true (by first | (with_reducible assumption) | assumption); have hx39 := bt_at a0 (ji36); replace p39 := eq_true p39; replace q39 := eq_true q39) | (go_at_call 25; (with_reducible refine (noriaref11_ParseNum.calls k a0 t306 t307 _ A47.out).mono ?_); rintro e w' ⟨rfl, ⟨nd, rfl⟩⟩; (try (rw [drewN_self w49]; generalize hq_ : World.drewN w49 _ = w49; have n0_ : Aside0 (w49.heap[gb298]? = some (.cells #[.int .i64 0, .int .i64 0, .string (⟨#[]⟩ : ByteArray), .complex .f64 0 0] 29 (0, 0))) := ⟨by rw [← hq_]; exact (by (with_reducible repeat (first | refine blk_drewN ?_ _ | refine blk_drew ?_ | refine blk_alloc ?_ _)); exact BK298.out)⟩; have n1_ : Aside0 (Below w.heap.size w w49) := ⟨by rw [← hq_]; exact (by repeat (first | (with_reducible first | exact HB.out | apply below_alloc | apply pw_below_drewN | apply below_drew1 | refine below_set ?_ GE298.out) | exact HB.out))⟩; clear BK298 HB hq_; have BK298 := n0_; have HB := n1_; clear n0_ n1_)); have hcz50_0 : w49.cell? ⟨gb298, 0, none⟩ = some (.int .i64 0) := (blk_cell BK298.out 0).trans rfl; have hcz50_1 : w49.cell? ⟨gb298, 1, none⟩ = some (.int .i64 0) := (blk_cell BK298.out 1).trans rfl; have hcz50_2 : w49.cell? ⟨gb298, 2, none⟩ = some (.string (⟨#[]⟩ : ByteArray)) := (blk_cell BK298.out 2).trans rfl; have hcz50_3 : w49.cell? ⟨gb298, 3, none⟩ = some (.complex .f64 0 0) := (blk_cell BK298.out 3).trans rfl; have hfz50_0 := blk_frozen BK298.out 0; have hfz50_1 := blk_frozen BK298.out 1; have hfz50_2 := blk_frozen BK298.out 2; have hfz50_3 := blk_frozen BK298.out 3))
                  refine bodyPost_ret (results_ct rfl _ _ gb298 29 #[.int .i64 1, .int .i64 t306, .string (⟨#[]⟩ : ByteArray), .complex .f64 0 0] (0, 0) _ rfl (by (with_reducible repeat (first | refine blk_drewN ?_ _ | refine blk_drew ?_ | refine blk_alloc ?_ _)); refine blk_put (cs := #[.int .i64 1, .int .i64 t306, .string (⟨#[]⟩ : ByteArray), .complex .f64 0 0]) ?_ 3 _ rfl; (with_reducible repeat (first | refine blk_drewN ?_ _ | refine blk_drew ?_ | refine blk_alloc ?_ _)); refine blk_put (cs := #[.int .i64 1, .int .i64 t306, .string (⟨#[]⟩ : ByteArray), .complex .f64 0 0]) ?_ 2 _ rfl; (with_reducible repeat (first | refine blk_drewN ?_ _ | refine blk_drew ?_ | refine blk_alloc ?_ _)); refine blk_put (cs := #[.int .i64 1, .int .i64 0, .string (⟨#[]⟩ : ByteArray), .complex .f64 0 0]) ?_ 1 _ rfl; (with_reducible repeat (first | refine blk_drewN ?_ _ | refine blk_drew ?_ | refine blk_alloc ?_ _)); refine blk_put (cs := #[.int .i64 0, .int .i64 0, .string (⟨#[]⟩ : ByteArray), .complex .f64 0 0]) ?_ 0 _ rfl; (with_reducible repeat (first | refine blk_drewN ?_ _ | refine blk_drew ?_ | refine blk_alloc ?_ _)); exact BK298.out) Tryz.underlying29 rfl (by kernel_rfl)) rfl ?_
                  exact ⟨by first | rfl | (simp [errW_none, errW_some] <;> rfl) | (simp only [← hji36]; first | rfl | (simp [errW_none, errW_some] <;> rfl)) | (simp [*, errW_none, errW_some] <;> rfl), by repeat (first | (with_reducible first | exact HB.out | apply below_alloc | apply pw_below_drewN | apply below_drew1 | refine below_set ?_ GE298.out) | exact HB.out)⟩
                · rw [if_neg c48] at H
                  have c48b0 : (t307 == 0) = false := beq_eq_false_iff_ne.mpr c48
                  have c48b1 : (t307 != 0) = true := bne_iff_ne.mpr c48
                  simp only [Option.some.injEq, Prod.mk.injEq] at H
                  obtain ⟨rfl, rfl, rfl, rfl, rfl⟩ := H
                  go_enter Tryz.func6, Tryz.ntmps6
                  go_wp2_with (first | ((with_reducible refine gate_dst (N := 2) rfl ?_); refine box_event ?hg (N := 2) ?hd (cs := #[.int .i64 0, .int .i64 0, .string (⟨#[]⟩ : ByteArray), .complex .f64 0 0]) (t := 29) ?hr ?_; (case hd => rfl); (case hg => rfl); (case hr => first | (go_simp; done) | (go_simp; rfl)); intro gb298 hg w51 hbox hb; have n0_ := Aside0.mk (below_step (by repeat (first | (with_reducible first | exact HB.out | apply below_alloc | apply pw_below_drewN | apply below_drew1) | exact HB.out)) hb); have n1_ := Aside0.mk (hbox); have n2_ := Aside0.mk ((by rw [hg]; exact (below_size (by repeat (first | (with_reducible first | exact HB.out | apply below_alloc | apply pw_below_drewN | apply below_drew1) | exact HB.out))) : w.heap.size ≤ gb298)); have n3_ := Aside0.mk ((by rw [hg]; exact (below_size (by repeat (first | (with_reducible first | exact HB.out | apply below_alloc | apply pw_below_drewN | apply below_drew1) | exact HB.out))) : w.heap.size ≤ gb298)); clear HB; have HB := n0_; have BK298 := n1_; have GW298 := n2_; have GE298 := n3_; clear n0_ n1_ n2_ n3_; clear hb hbox hg; have p9 : 0 ≤ (0 : Int) := (by omega); have q9 : 0 < a0.size := (by have : (0 : Int) < (a0.size : Int) := of_decide_eq_true (by first | (with_reducible assumption) | assumption); omega); have hx9 : ∀ h : 0 < a0.size, ((a0[0]'h).toNat : Int) = bt a0 0 := bt_at a0 0; clear p9; have qi9 : (0 < (a0.size : Int)) = True := eq_true (of_decide_eq_true (by first | (with_reducible assumption) | assumption)); replace q9 := eq_true q9; have p39 : 0 ≤ ((ji36) : Int) := of_decide_eq_true (by first | (with_reducible assumption) | assumption); have q39 : (ji36) < (a0.size : Int) := of_decide_eq_true (by first | (with_reducible assumption) | assumption); have hx39 := bt_at a0 (ji36); replace p39 := eq_true p39; replace q39 := eq_true q39) | (go_at_call 25; (with_reducible refine (noriaref11_ParseNum.calls k a0 t306 t307 _ A47.out).mono ?_); rintro e w' ⟨rfl, ⟨nd, rfl⟩⟩; (try (rw [drewN_self w51]; generalize hq_ : World.drewN w51 _ = w51; have n0_ : Aside0 (w51.heap[gb298]? = some (.cells #[.int .i64 0, .int .i64 0, .string (⟨#[]⟩ : ByteArray), .complex .f64 0 0] 29 (0, 0))) := ⟨by rw [← hq_]; exact (by (with_reducible repeat (first | refine blk_drewN ?_ _ | refine blk_drew ?_ | refine blk_alloc ?_ _)); exact BK298.out)⟩; have n1_ : Aside0 (Below w.heap.size w w51) := ⟨by rw [← hq_]; exact (by repeat (first | (with_reducible first | exact HB.out | apply below_alloc | apply pw_below_drewN | apply below_drew1 | refine below_set ?_ GE298.out) | exact HB.out))⟩; clear BK298 HB hq_; have BK298 := n0_; have HB := n1_; clear n0_ n1_)); have hcz52_0 : w51.cell? ⟨gb298, 0, none⟩ = some (.int .i64 0) := (blk_cell BK298.out 0).trans rfl; have hcz52_1 : w51.cell? ⟨gb298, 1, none⟩ = some (.int .i64 0) := (blk_cell BK298.out 1).trans rfl; have hcz52_2 : w51.cell? ⟨gb298, 2, none⟩ = some (.string (⟨#[]⟩ : ByteArray)) := (blk_cell BK298.out 2).trans rfl; have hcz52_3 : w51.cell? ⟨gb298, 3, none⟩ = some (.complex .f64 0 0) := (blk_cell BK298.out 3).trans rfl; have hfz52_0 := blk_frozen BK298.out 0; have hfz52_1 := blk_frozen BK298.out 1; have hfz52_2 := blk_frozen BK298.out 2; have hfz52_3 := blk_frozen BK298.out 3))
                  refine bodyPost_ret (results_ct rfl _ _ gb298 29 #[.int .i64 0, .int .i64 0, .string (⟨#[]⟩ : ByteArray), .complex .f64 0 0] (0, 0) _ rfl (by (with_reducible repeat (first | refine blk_drewN ?_ _ | refine blk_drew ?_ | refine blk_alloc ?_ _)); refine blk_put (cs := #[.int .i64 0, .int .i64 0, .string (⟨#[]⟩ : ByteArray), .complex .f64 0 0]) ?_ 3 _ rfl; (with_reducible repeat (first | refine blk_drewN ?_ _ | refine blk_drew ?_ | refine blk_alloc ?_ _)); refine blk_put (cs := #[.int .i64 0, .int .i64 0, .string (⟨#[]⟩ : ByteArray), .complex .f64 0 0]) ?_ 2 _ rfl; (with_reducible repeat (first | refine blk_drewN ?_ _ | refine blk_drew ?_ | refine blk_alloc ?_ _)); refine blk_put (cs := #[.int .i64 0, .int .i64 0, .string (⟨#[]⟩ : ByteArray), .complex .f64 0 0]) ?_ 1 _ rfl; (with_reducible repeat (first | refine blk_drewN ?_ _ | refine blk_drew ?_ | refine blk_alloc ?_ _)); refine blk_put (cs := #[.int .i64 0, .int .i64 0, .string (⟨#[]⟩ : ByteArray), .complex .f64 0 0]) ?_ 0 _ rfl; (with_reducible repeat (first | refine blk_drewN ?_ _ | refine blk_drew ?_ | refine blk_alloc ?_ _)); exact BK298.out) Tryz.underlying29 rfl (by kernel_rfl)) rfl ?_
                  exact ⟨by first | rfl | (simp [errW_none, errW_some] <;> rfl) | (simp only [← hji36]; first | rfl | (simp [errW_none, errW_some] <;> rfl)) | (simp [*, errW_none, errW_some] <;> rfl), by repeat (first | (with_reducible first | exact HB.out | apply below_alloc | apply pw_below_drewN | apply below_drew1 | refine below_set ?_ GE298.out) | exact HB.out)⟩
            · rw [if_neg c38] at H
              exact absurd H (by simp)
          · rw [if_neg c37] at H
            exact absurd H (by simp)
      · rw [if_neg c8] at H
        exact absurd H (by simp)

/-! ### norialaw3_Of: function 7 -/
def norialaw3_Of.f (a0_0 : Int) (a0_1 : Int) (a0_2 : ByteArray) (a0_3 : (Nat × Nat)) : Option (Int × Int × ByteArray × (Nat × Nat)) := some (a0_0, a0_1, a0_2, a0_3)
set_option maxHeartbeats 8000000 in
set_option maxRecDepth 100000 in
theorem norialaw3_Of.calls (a0_0 : Int) (a0_1 : Int) (a0_2 : ByteArray) (a0_3 : (Nat × Nat)) (r1 : Int) (r2 : Int) (r3 : ByteArray) (r4 : (Nat × Nat)) (w : World) (h : norialaw3_Of.f a0_0 a0_1 a0_2 a0_3 = some (r1, r2, r3, r4)) :
    Calls Tryz.prog 7 #[.agg #[.int .i64 a0_0, .int .i64 a0_1, .string a0_2, .complex .f64 a0_3.1 a0_3.2]] w fun e w' => e = .returned (.agg #[.int .i64 r1, .int .i64 r2, .string r3, .complex .f64 r4.1 r4.2]) ∧ Below w.heap.size w w' := by
  have hu25 := Tryz.underlying25
  have hu29 := Tryz.underlying29
  have HB := Aside0.mk (Below.refl w.heap.size w)
  have H : (some (a0_0, a0_1, a0_2, a0_3)) = some (r1, r2, r3, r4) := h
  clear h
  simp only [Option.some.injEq, Prod.mk.injEq] at H
  obtain ⟨rfl, rfl, rfl, rfl⟩ := H
  go_enter Tryz.func7, Tryz.ntmps7
  go_wp2_with (first | ((with_reducible refine gate_dst (N := 1) rfl ?_); refine box_event ?hg (N := 1) ?hd (cs := #[.int .i64 a0_0, .int .i64 a0_1, .string a0_2, .complex .f64 a0_3.1 a0_3.2]) (t := 25) ?hr ?_; (case hd => rfl); (case hg => rfl); (case hr => first | (go_simp; done) | (go_simp; rfl)); intro gb308 hg w2 hbox hb; have n0_ := Aside0.mk (below_step (by repeat (first | (with_reducible first | exact HB.out | apply below_alloc | apply pw_below_drewN | apply below_drew1) | exact HB.out)) hb); have n1_ := Aside0.mk (hbox); have n2_ := Aside0.mk ((by rw [hg]; exact (below_size (by repeat (first | (with_reducible first | exact HB.out | apply below_alloc | apply pw_below_drewN | apply below_drew1) | exact HB.out))) : w.heap.size ≤ gb308)); have n3_ := Aside0.mk ((by rw [hg]; exact (below_size (by repeat (first | (with_reducible first | exact HB.out | apply below_alloc | apply pw_below_drewN | apply below_drew1) | exact HB.out))) : w.heap.size ≤ gb308)); clear HB; have HB := n0_; have BK308 := n1_; have GW308 := n2_; have GE308 := n3_; clear n0_ n1_ n2_ n3_; clear hb hbox hg) | ((with_reducible refine gate_dst (N := 2) rfl ?_); refine box_event ?hg (N := 2) ?hd (cs := #[.int .i64 0, .int .i64 0, .string (⟨#[]⟩ : ByteArray), .complex .f64 0 0]) (t := 29) ?hr ?_; (case hd => rfl); (case hg => rfl); (case hr => first | (go_simp; done) | (go_simp; rfl)); intro gb309 hg w3 hbox hb; have n0_ := Aside0.mk (blk_below (g := gb308) (o := .cells #[.int .i64 a0_0, .int .i64 a0_1, .string a0_2, .complex .f64 a0_3.1 a0_3.2] 25 (0, 0)) (by (with_reducible repeat (first | refine blk_drewN ?_ _ | refine blk_drew ?_ | refine blk_alloc ?_ _)); exact BK308.out) hb); have n1_ := Aside0.mk (below_step (by repeat (first | (with_reducible first | exact HB.out | apply below_alloc | apply pw_below_drewN | apply below_drew1 | refine below_set ?_ GE308.out) | exact HB.out)) hb); have n2_ := Aside0.mk (hbox); have n3_ := Aside0.mk ((by rw [hg]; exact (below_size (by repeat (first | (with_reducible first | exact HB.out | apply below_alloc | apply pw_below_drewN | apply below_drew1 | refine below_set ?_ GE308.out) | exact HB.out))) : w.heap.size ≤ gb309)); have n4_ := Aside0.mk ((by rw [hg]; exact (below_size (by repeat (first | (with_reducible first | exact HB.out | apply below_alloc | apply pw_below_drewN | apply below_drew1 | refine below_set ?_ GE308.out) | exact HB.out))) : w.heap.size ≤ gb309)); have n5_ := Aside0.mk ((by rw [hg]; exact Nat.ne_of_lt (blk_lt (g := gb308) (o := .cells #[.int .i64 a0_0, .int .i64 a0_1, .string a0_2, .complex .f64 a0_3.1 a0_3.2] 25 (0, 0)) (by (with_reducible repeat (first | refine blk_drewN ?_ _ | refine blk_drew ?_ | refine blk_alloc ?_ _)); exact BK308.out)) : gb308 ≠ gb309)); have n6_ := Aside0.mk ((by rw [hg]; exact Nat.ne_of_gt (blk_lt (g := gb308) (o := .cells #[.int .i64 a0_0, .int .i64 a0_1, .string a0_2, .complex .f64 a0_3.1 a0_3.2] 25 (0, 0)) (by (with_reducible repeat (first | refine blk_drewN ?_ _ | refine blk_drew ?_ | refine blk_alloc ?_ _)); exact BK308.out)) : gb309 ≠ gb308)); clear BK308; clear HB; have BK308 := n0_; have HB := n1_; have BK309 := n2_; have GW309 := n3_; have GE309 := n4_; have NB308_309 := n5_; have NB309_308 := n6_; clear n0_ n1_ n2_ n3_ n4_ n5_ n6_; clear hb hbox hg; have hnb4 := NB308_309.out; have hnc4 := NB309_308.out; have hcz5_0 : w3.cell? ⟨gb308, 0, none⟩ = some (.int .i64 a0_0) := (blk_cell BK308.out 0).trans rfl; have hcz5_1 : w3.cell? ⟨gb308, 1, none⟩ = some (.int .i64 a0_1) := (blk_cell BK308.out 1).trans rfl; have hcz5_2 : w3.cell? ⟨gb308, 2, none⟩ = some (.string a0_2) := (blk_cell BK308.out 2).trans rfl; have hcz5_3 : w3.cell? ⟨gb308, 3, none⟩ = some (.complex .f64 a0_3.1 a0_3.2) := (blk_cell BK308.out 3).trans rfl; have hfz5_0 := blk_frozen BK308.out 0; have hfz5_1 := blk_frozen BK308.out 1; have hfz5_2 := blk_frozen BK308.out 2; have hfz5_3 := blk_frozen BK308.out 3; have hcz6_0 : w3.cell? ⟨gb309, 0, none⟩ = some (.int .i64 0) := (blk_cell BK309.out 0).trans rfl; have hcz6_1 : w3.cell? ⟨gb309, 1, none⟩ = some (.int .i64 0) := (blk_cell BK309.out 1).trans rfl; have hcz6_2 : w3.cell? ⟨gb309, 2, none⟩ = some (.string (⟨#[]⟩ : ByteArray)) := (blk_cell BK309.out 2).trans rfl; have hcz6_3 : w3.cell? ⟨gb309, 3, none⟩ = some (.complex .f64 0 0) := (blk_cell BK309.out 3).trans rfl; have hfz6_0 := blk_frozen BK309.out 0; have hfz6_1 := blk_frozen BK309.out 1; have hfz6_2 := blk_frozen BK309.out 2; have hfz6_3 := blk_frozen BK309.out 3))
  refine bodyPost_ret (results_cell_row rfl _ _ gb309 29 #[.int .i64 a0_0, .int .i64 a0_1, .string a0_2, .complex .f64 a0_3.1 a0_3.2] (0, 0) _ rfl (by (with_reducible repeat (first | refine blk_drewN ?_ _ | refine blk_drew ?_ | refine blk_alloc ?_ _)); refine blk_put (cs := #[.int .i64 a0_0, .int .i64 a0_1, .string a0_2, .complex .f64 0 0]) ?_ 3 _ rfl; (with_reducible repeat (first | refine blk_drewN ?_ _ | refine blk_drew ?_ | refine blk_alloc ?_ _)); refine blk_put (cs := #[.int .i64 a0_0, .int .i64 a0_1, .string (⟨#[]⟩ : ByteArray), .complex .f64 0 0]) ?_ 2 _ rfl; (with_reducible repeat (first | refine blk_drewN ?_ _ | refine blk_drew ?_ | refine blk_alloc ?_ _)); refine blk_put (cs := #[.int .i64 a0_0, .int .i64 0, .string (⟨#[]⟩ : ByteArray), .complex .f64 0 0]) ?_ 1 _ rfl; (with_reducible repeat (first | refine blk_drewN ?_ _ | refine blk_drew ?_ | refine blk_alloc ?_ _)); refine blk_put (cs := #[.int .i64 0, .int .i64 0, .string (⟨#[]⟩ : ByteArray), .complex .f64 0 0]) ?_ 0 _ rfl; (with_reducible repeat (first | refine blk_drewN ?_ _ | refine blk_drew ?_ | refine blk_alloc ?_ _)); exact BK309.out) Tryz.underlying29 rfl (by kernel_rfl)) rfl ?_
  exact ⟨by first | rfl | (simp [errW_none, errW_some] <;> rfl) | (simp [*, errW_none, errW_some] <;> rfl), by repeat (first | (with_reducible first | exact HB.out | apply below_alloc | apply pw_below_drewN | apply below_drew1 | refine below_set ?_ GE308.out | refine below_set ?_ GE309.out) | exact HB.out)⟩

/-! ### norialaw3_ValReads: function 3 -/
def norialaw3_ValReads.j0 : Nat → ByteArray → Int → Bool → Int → Int → ByteArray → (Nat × Nat) → Option (Bool)
  | 0, _, _, _, _, _, _, _ => none
  | k + 1, x0, x6, x30, x317000, x317001, x317002, x317003 => if x30 = true then (none) else (if x6 = 0 then ((val_Text.f k x317000 x317001 x317002 x317003).bind fun t327 => (if t327.toList = x0.toList then ((val_Check.f k x317000 x317001 x317002 x317003).bind fun t328 => (some (t328 == 0))) else (none))) else (some true))
def norialaw3_ValReads.f (k : Nat) (a0 : ByteArray) : Option (Bool) := (norialaw3_known.f k).bind fun t310 => (if t310 = true then (if (a0.size : Int) > 700 then (some true) else ((val_Parse.f k a0).bind fun bt311 => ((noriaref11_ParseVal.f k a0).bind fun bt317 => (if bt311.2.2.2.2 = bt317.2.2.2.2 then ((norialaw3_Of.f bt311.1 bt311.2.1 bt311.2.2.1 bt311.2.2.2.1).bind fun bt323 => (norialaw3_ValReads.j0 k a0 bt317.2.2.2.2 (!(bt323.1 == bt317.1) || (!(bt323.2.1 == bt317.2.1) || (!(bt323.2.2.1.toList == bt317.2.2.1.toList) || (!cEq bt323.2.2.2.1 bt323.2.2.2.2 bt317.2.2.2.1.1 bt317.2.2.2.1.2)))) bt311.1 bt311.2.1 bt311.2.2.1 bt311.2.2.2.1)) else (norialaw3_ValReads.j0 k a0 bt317.2.2.2.2 true bt311.1 bt311.2.1 bt311.2.2.1 bt311.2.2.2.1))))) else (none))
theorem norialaw3_ValReads.mono_l : ∀ k, (∀ y0 y1 y2 y3 y4 y5 y6, LeO (norialaw3_ValReads.j0 k y0 y1 y2 y3 y4 y5 y6) (norialaw3_ValReads.j0 (k + 1) y0 y1 y2 y3 y4 y5 y6))
  | 0 => fun _ _ _ _ _ _ _ r h => by simp [norialaw3_ValReads.j0] at h
  | k + 1 => by
    have ih0 := norialaw3_ValReads.mono_l k
    · intro y0 y1 y2 y3 y4 y5 y6
      unfold norialaw3_ValReads.j0
      repeat' first
      | (with_reducible exact ih0 _ _ _ _ _ _ _)
      | (with_reducible exact norialaw3_known.mono _)
      | (with_reducible exact noriaref11_ParseVal.mono _ _)
      | (with_reducible exact val_Check.mono _ _ _ _ _)
      | (with_reducible exact val_Parse.mono _ _)
      | (with_reducible exact val_Text.mono _ _ _ _ _)
      | (with_reducible exact LeO.refl _)
      | (with_reducible exact LeO.none _)
      | (with_reducible refine LeO.ite ?_ ?_)
      | (with_reducible refine LeO.bind ?_ (fun _ => ?_))
      | exact ih0 _ _ _ _ _ _ _
      | exact norialaw3_known.mono _
      | exact noriaref11_ParseVal.mono _ _
      | exact val_Check.mono _ _ _ _ _
      | exact val_Parse.mono _ _
      | exact val_Text.mono _ _ _ _ _
      | exact LeO.none _
      | refine LeO.ite ?_ ?_
      | refine LeO.bind ?_ (fun _ => ?_)
theorem norialaw3_ValReads.mono : ∀ a0 k, LeO (norialaw3_ValReads.f k a0) (norialaw3_ValReads.f (k + 1) a0) := by
  intro a0 k
  have ih0 := norialaw3_ValReads.mono_l k
  unfold norialaw3_ValReads.f
  repeat' first
      | (with_reducible exact ih0 _ _ _ _ _ _ _)
      | (with_reducible exact norialaw3_known.mono _)
      | (with_reducible exact noriaref11_ParseVal.mono _ _)
      | (with_reducible exact val_Check.mono _ _ _ _ _)
      | (with_reducible exact val_Parse.mono _ _)
      | (with_reducible exact val_Text.mono _ _ _ _ _)
      | (with_reducible exact LeO.refl _)
      | (with_reducible exact LeO.none _)
      | (with_reducible refine LeO.ite ?_ ?_)
      | (with_reducible refine LeO.bind ?_ (fun _ => ?_))
      | exact ih0 _ _ _ _ _ _ _
      | exact norialaw3_known.mono _
      | exact noriaref11_ParseVal.mono _ _
      | exact val_Check.mono _ _ _ _ _
      | exact val_Parse.mono _ _
      | exact val_Text.mono _ _ _ _ _
      | exact LeO.none _
      | refine LeO.ite ?_ ?_
      | refine LeO.bind ?_ (fun _ => ?_)
def norialaw3_ValReads.T7 : Bool × List (List Nat × List Nat) := (true, [([], []), ([], []), ([0, 1], [0, 1]), ([2], [2]), ([3], [3]), ([4, 3, 3], [3, 4]), ([3], [3]), ([5, 6, 3], [3, 5, 6]), ([3, 7], [3, 7])])
def norialaw3_ValReads.B7 : List Nat := [0, 0, 3, 7, 15, 31, 15, 127, 255]
theorem norialaw3_ValReads.tab7 : rtab .any (opsOf Tryz.f3 7) = norialaw3_ValReads.T7 := by kernel_rfl
theorem norialaw3_ValReads.bits7 : waitsOk norialaw3_ValReads.T7.2 norialaw3_ValReads.B7 = true := by kernel_rfl
set_option maxHeartbeats 8000000 in
set_option maxRecDepth 100000 in
theorem norialaw3_ValReads.calls (k : Nat) (a0 : ByteArray) (r : Bool) (w : World) (h : norialaw3_ValReads.f k a0 = some r) (hG_ : Glob w) :
    Calls Tryz.prog 3 #[.string a0] w fun e w' => e = .returned (.bool r) ∧ Below w.heap.size w w' := by
  have HG_ := Aside0.mk hG_
  clear hG_
  have hu25 := Tryz.underlying25
  have hu29 := Tryz.underlying29
  have HB := Aside0.mk (Below.refl w.heap.size w)
  have H : ((norialaw3_known.f k).bind fun t310 => (if t310 = true then (if (a0.size : Int) > 700 then (some true) else ((val_Parse.f k a0).bind fun bt311 => ((noriaref11_ParseVal.f k a0).bind fun bt317 => (if bt311.2.2.2.2 = bt317.2.2.2.2 then ((norialaw3_Of.f bt311.1 bt311.2.1 bt311.2.2.1 bt311.2.2.2.1).bind fun bt323 => (norialaw3_ValReads.j0 k a0 bt317.2.2.2.2 (!(bt323.1 == bt317.1) || (!(bt323.2.1 == bt317.2.1) || (!(bt323.2.2.1.toList == bt317.2.2.1.toList) || (!cEq bt323.2.2.2.1 bt323.2.2.2.2 bt317.2.2.2.1.1 bt317.2.2.2.1.2)))) bt311.1 bt311.2.1 bt311.2.2.1 bt311.2.2.2.1)) else (norialaw3_ValReads.j0 k a0 bt317.2.2.2.2 true bt311.1 bt311.2.1 bt311.2.2.1 bt311.2.2.2.1))))) else (none))) = some r := h
  clear h
  replace H := Option.bind_eq_some_iff.mp H
  obtain ⟨t310, A20, H⟩ := H
  replace H : (if t310 = true then (if (a0.size : Int) > 700 then (some true) else ((val_Parse.f k a0).bind fun bt311 => ((noriaref11_ParseVal.f k a0).bind fun bt317 => (if bt311.2.2.2.2 = bt317.2.2.2.2 then ((norialaw3_Of.f bt311.1 bt311.2.1 bt311.2.2.1 bt311.2.2.2.1).bind fun bt323 => (norialaw3_ValReads.j0 k a0 bt317.2.2.2.2 (!(bt323.1 == bt317.1) || (!(bt323.2.1 == bt317.2.1) || (!(bt323.2.2.1.toList == bt317.2.2.1.toList) || (!cEq bt323.2.2.2.1 bt323.2.2.2.2 bt317.2.2.2.1.1 bt317.2.2.2.1.2)))) bt311.1 bt311.2.1 bt311.2.2.1 bt311.2.2.2.1)) else (norialaw3_ValReads.j0 k a0 bt317.2.2.2.2 true bt311.1 bt311.2.1 bt311.2.2.1 bt311.2.2.2.1))))) else (none)) = some r := H
  have A2 := Aside0.mk A20
  clear A20
  by_cases c3 : t310 = true
  · subst c3
    have H1 : (if (a0.size : Int) > 700 then (some true) else ((val_Parse.f k a0).bind fun bt311 => ((noriaref11_ParseVal.f k a0).bind fun bt317 => (if bt311.2.2.2.2 = bt317.2.2.2.2 then ((norialaw3_Of.f bt311.1 bt311.2.1 bt311.2.2.1 bt311.2.2.2.1).bind fun bt323 => (norialaw3_ValReads.j0 k a0 bt317.2.2.2.2 (!(bt323.1 == bt317.1) || (!(bt323.2.1 == bt317.2.1) || (!(bt323.2.2.1.toList == bt317.2.2.1.toList) || (!cEq bt323.2.2.2.1 bt323.2.2.2.2 bt317.2.2.2.1.1 bt317.2.2.2.1.2)))) bt311.1 bt311.2.1 bt311.2.2.1 bt311.2.2.2.1)) else (norialaw3_ValReads.j0 k a0 bt317.2.2.2.2 true bt311.1 bt311.2.1 bt311.2.2.1 bt311.2.2.2.1))))) = some r := by rw [if_pos rfl] at H; exact H
    clear H
    have H := H1
    clear H1
    by_cases c4 : (a0.size : Int) > 700
    · rw [if_pos c4] at H
      have c4b0 : decide (700 < (a0.size : Int)) = true := decide_eq_true c4
      have c4b1 : decide (700 < a0.size) = true := decide_eq_true (by omega)
      clear c4
      obtain rfl := Option.some.inj H
      go_enter Tryz.func3, Tryz.ntmps3
      go_wp2_with (first | ((with_reducible refine gate_callee (f := 4) rfl ?_); refine goesL_ (some 7) rfl rfl Tryz.func4 (by kernel_rfl) rfl #[] rfl (by (try simp only [List.map_toArray, List.map_cons, List.map_nil]); first | done | rfl | (simp only [List.length_drop, List.length_take]; rfl)) ?_; (with_reducible refine (norialaw3_known.calls k  true _ A2.out (Glob.below HG_.out (by repeat (first | (with_reducible first | exact HB.out | apply below_alloc | apply pw_below_drewN | apply below_drew1) | exact HB.out)))).mono ?_); rintro e w5 ⟨rfl, hb⟩; refine ⟨_, rfl, ?_⟩; have n0_ := Aside0.mk (below_step (by repeat (first | (with_reducible first | exact HB.out | apply below_alloc | apply pw_below_drewN | apply below_drew1) | exact HB.out)) hb); clear HB; have HB := n0_; clear n0_; (try clear hb); (try clear hb2); (try clear hk); (try clear hi)))
      go_ret
      exact ⟨by first | rfl | (simp [errW_none, errW_some] <;> rfl) | (simp [*, errW_none, errW_some] <;> rfl), by repeat (first | (with_reducible first | exact HB.out | apply below_alloc | apply pw_below_drewN | apply below_drew1) | exact HB.out)⟩
    · rw [if_neg c4] at H
      have c4b0 : decide (700 < (a0.size : Int)) = false := decide_eq_false c4
      have c4b1 : decide (700 < a0.size) = false := decide_eq_false (by omega)
      clear c4
      replace H := Option.bind_eq_some_iff.mp H
      obtain ⟨⟨t311, t312, t313, t314, t315⟩, A60, H⟩ := H
      replace H : ((noriaref11_ParseVal.f k a0).bind fun bt317 => (if t315 = bt317.2.2.2.2 then ((norialaw3_Of.f t311 t312 t313 t314).bind fun bt323 => (norialaw3_ValReads.j0 k a0 bt317.2.2.2.2 (!(bt323.1 == bt317.1) || (!(bt323.2.1 == bt317.2.1) || (!(bt323.2.2.1.toList == bt317.2.2.1.toList) || (!cEq bt323.2.2.2.1 bt323.2.2.2.2 bt317.2.2.2.1.1 bt317.2.2.2.1.2)))) t311 t312 t313 t314)) else (norialaw3_ValReads.j0 k a0 bt317.2.2.2.2 true t311 t312 t313 t314))) = some r := H
      have A6 := Aside0.mk A60
      clear A60
      replace H := Option.bind_eq_some_iff.mp H
      obtain ⟨⟨t317, t318, t319, t320, t321⟩, A70, H⟩ := H
      replace H : (if t315 = t321 then ((norialaw3_Of.f t311 t312 t313 t314).bind fun bt323 => (norialaw3_ValReads.j0 k a0 t321 (!(bt323.1 == t317) || (!(bt323.2.1 == t318) || (!(bt323.2.2.1.toList == t319.toList) || (!cEq bt323.2.2.2.1 bt323.2.2.2.2 t320.1 t320.2)))) t311 t312 t313 t314)) else (norialaw3_ValReads.j0 k a0 t321 true t311 t312 t313 t314)) = some r := H
      have A7 := Aside0.mk A70
      clear A70
      have HC8 := Aside0.mk H
      clear H
      go_enter Tryz.func3, Tryz.ntmps3
      go_upto_region 7 with (first | ((with_reducible refine gate_callee (f := 4) rfl ?_); refine goesL_ (some 7) rfl rfl Tryz.func4 (by kernel_rfl) rfl #[] rfl (by (try simp only [List.map_toArray, List.map_cons, List.map_nil]); first | done | rfl | (simp only [List.length_drop, List.length_take]; rfl)) ?_; (with_reducible refine (norialaw3_known.calls k  true _ A2.out (Glob.below HG_.out (by repeat (first | (with_reducible first | exact HB.out | apply below_alloc | apply pw_below_drewN | apply below_drew1) | exact HB.out)))).mono ?_); rintro e w9 ⟨rfl, hb⟩; refine ⟨_, rfl, ?_⟩; have n0_ := Aside0.mk (below_step (by repeat (first | (with_reducible first | exact HB.out | apply below_alloc | apply pw_below_drewN | apply below_drew1) | exact HB.out)) hb); clear HB; have HB := n0_; clear n0_; (try clear hb); (try clear hb2); (try clear hk); (try clear hi)) | ((with_reducible refine gate_callee (f := 5) rfl ?_); refine goesL_ (some 14) rfl rfl Tryz.func5 (by kernel_rfl) rfl #[.string a0] rfl (by (try simp only [List.map_toArray, List.map_cons, List.map_nil]); first | done | rfl | (simp only [List.length_drop, List.length_take]; rfl)) ?_; (with_reducible refine (val_Parse.calls k a0 t311 t312 t313 t314 t315 _ A6.out (Glob.below HG_.out (by repeat (first | (with_reducible first | exact HB.out | apply below_alloc | apply pw_below_drewN | apply below_drew1) | exact HB.out)))).mono ?_); rintro e w10 ⟨rfl, hb⟩; refine ⟨_, rfl, ?_⟩; have n0_ := Aside0.mk (below_step (by repeat (first | (with_reducible first | exact HB.out | apply below_alloc | apply pw_below_drewN | apply below_drew1) | exact HB.out)) hb); clear HB; have HB := n0_; clear n0_; (try clear hb); (try clear hb2); (try clear hk); (try clear hi)) | ((with_reducible refine gate_dst (N := 3) rfl ?_); refine box_event ?hg (N := 3) ?hd (cs := #[.int .i64 0, .int .i64 0, .string (⟨#[]⟩ : ByteArray), .complex .f64 0 0]) (t := 25) ?hr ?_; (case hd => rfl); (case hg => rfl); (case hr => first | (go_simp; done) | (go_simp; rfl)); intro gb316 hg w11 hbox hb; have n0_ := Aside0.mk (below_step (by repeat (first | (with_reducible first | exact HB.out | apply below_alloc | apply pw_below_drewN | apply below_drew1) | exact HB.out)) hb); have n1_ := Aside0.mk (hbox); have n2_ := Aside0.mk ((by rw [hg]; exact (below_size (by repeat (first | (with_reducible first | exact HB.out | apply below_alloc | apply pw_below_drewN | apply below_drew1) | exact HB.out))) : w.heap.size ≤ gb316)); have n3_ := Aside0.mk ((by rw [hg]; exact (below_size (by repeat (first | (with_reducible first | exact HB.out | apply below_alloc | apply pw_below_drewN | apply below_drew1) | exact HB.out))) : w.heap.size ≤ gb316)); clear HB; have HB := n0_; have BK316 := n1_; have GW316 := n2_; have GE316 := n3_; clear n0_ n1_ n2_ n3_; clear hb hbox hg; have hcz12_0 : w11.cell? ⟨gb316, 0, none⟩ = some (.int .i64 0) := (blk_cell BK316.out 0).trans rfl; have hcz12_1 : w11.cell? ⟨gb316, 1, none⟩ = some (.int .i64 0) := (blk_cell BK316.out 1).trans rfl; have hcz12_2 : w11.cell? ⟨gb316, 2, none⟩ = some (.string (⟨#[]⟩ : ByteArray)) := (blk_cell BK316.out 2).trans rfl; have hcz12_3 : w11.cell? ⟨gb316, 3, none⟩ = some (.complex .f64 0 0) := (blk_cell BK316.out 3).trans rfl; have hfz12_0 := blk_frozen BK316.out 0; have hfz12_1 := blk_frozen BK316.out 1; have hfz12_2 := blk_frozen BK316.out 2; have hfz12_3 := blk_frozen BK316.out 3) | ((with_reducible refine gate_callee (f := 6) rfl ?_); refine goesL_ (some 19) rfl rfl Tryz.func6 (by kernel_rfl) rfl #[.string a0] rfl (by (try simp only [List.map_toArray, List.map_cons, List.map_nil]); first | done | rfl | (simp only [List.length_drop, List.length_take]; rfl)) ?_; (with_reducible refine (noriaref11_ParseVal.calls k a0 t317 t318 t319 t320 t321 _ A7.out).mono ?_); rintro e w13 ⟨rfl, hb⟩; refine ⟨_, rfl, ?_⟩; have n0_ := Aside0.mk (blk_below (g := gb316) (o := .cells #[.int .i64 t311, .int .i64 t312, .string t313, .complex .f64 t314.1 t314.2] 25 (0, 0)) (by (with_reducible repeat (first | refine blk_drewN ?_ _ | refine blk_drew ?_ | refine blk_alloc ?_ _)); refine blk_put (cs := #[.int .i64 t311, .int .i64 t312, .string t313, .complex .f64 0 0]) ?_ 3 _ rfl; (with_reducible repeat (first | refine blk_drewN ?_ _ | refine blk_drew ?_ | refine blk_alloc ?_ _)); refine blk_put (cs := #[.int .i64 t311, .int .i64 t312, .string (⟨#[]⟩ : ByteArray), .complex .f64 0 0]) ?_ 2 _ rfl; (with_reducible repeat (first | refine blk_drewN ?_ _ | refine blk_drew ?_ | refine blk_alloc ?_ _)); refine blk_put (cs := #[.int .i64 t311, .int .i64 0, .string (⟨#[]⟩ : ByteArray), .complex .f64 0 0]) ?_ 1 _ rfl; (with_reducible repeat (first | refine blk_drewN ?_ _ | refine blk_drew ?_ | refine blk_alloc ?_ _)); refine blk_put (cs := #[.int .i64 0, .int .i64 0, .string (⟨#[]⟩ : ByteArray), .complex .f64 0 0]) ?_ 0 _ rfl; (with_reducible repeat (first | refine blk_drewN ?_ _ | refine blk_drew ?_ | refine blk_alloc ?_ _)); exact BK316.out) hb); have n1_ := Aside0.mk (below_step (by repeat (first | (with_reducible first | exact HB.out | apply below_alloc | apply pw_below_drewN | apply below_drew1 | refine below_set ?_ GE316.out) | exact HB.out)) hb); clear BK316; clear HB; have BK316 := n0_; have HB := n1_; clear n0_ n1_; (try clear hb); (try clear hb2); (try clear hk); (try clear hi)) | ((with_reducible refine gate_dst (N := 5) rfl ?_); refine box_event ?hg (N := 5) ?hd (cs := #[.int .i64 0, .int .i64 0, .string (⟨#[]⟩ : ByteArray), .complex .f64 0 0]) (t := 29) ?hr ?_; (case hd => rfl); (case hg => rfl); (case hr => first | (go_simp; done) | (go_simp; rfl)); intro gb322 hg w14 hbox hb; have n0_ := Aside0.mk (blk_below (g := gb316) (o := .cells #[.int .i64 t311, .int .i64 t312, .string t313, .complex .f64 t314.1 t314.2] 25 (0, 0)) (by (with_reducible repeat (first | refine blk_drewN ?_ _ | refine blk_drew ?_ | refine blk_alloc ?_ _)); exact BK316.out) hb); have n1_ := Aside0.mk (below_step (by repeat (first | (with_reducible first | exact HB.out | apply below_alloc | apply pw_below_drewN | apply below_drew1 | refine below_set ?_ GE316.out) | exact HB.out)) hb); have n2_ := Aside0.mk (hbox); have n3_ := Aside0.mk ((by rw [hg]; exact (below_size (by repeat (first | (with_reducible first | exact HB.out | apply below_alloc | apply pw_below_drewN | apply below_drew1 | refine below_set ?_ GE316.out) | exact HB.out))) : w.heap.size ≤ gb322)); have n4_ := Aside0.mk ((by rw [hg]; exact (below_size (by repeat (first | (with_reducible first | exact HB.out | apply below_alloc | apply pw_below_drewN | apply below_drew1 | refine below_set ?_ GE316.out) | exact HB.out))) : w.heap.size ≤ gb322)); have n5_ := Aside0.mk ((by rw [hg]; exact Nat.ne_of_lt (blk_lt (g := gb316) (o := .cells #[.int .i64 t311, .int .i64 t312, .string t313, .complex .f64 t314.1 t314.2] 25 (0, 0)) (by (with_reducible repeat (first | refine blk_drewN ?_ _ | refine blk_drew ?_ | refine blk_alloc ?_ _)); exact BK316.out)) : gb316 ≠ gb322)); have n6_ := Aside0.mk ((by rw [hg]; exact Nat.ne_of_gt (blk_lt (g := gb316) (o := .cells #[.int .i64 t311, .int .i64 t312, .string t313, .complex .f64 t314.1 t314.2] 25 (0, 0)) (by (with_reducible repeat (first | refine blk_drewN ?_ _ | refine blk_drew ?_ | refine blk_alloc ?_ _)); exact BK316.out)) : gb322 ≠ gb316)); clear BK316; clear HB; have BK316 := n0_; have HB := n1_; have BK322 := n2_; have GW322 := n3_; have GE322 := n4_; have NB316_322 := n5_; have NB322_316 := n6_; clear n0_ n1_ n2_ n3_ n4_ n5_ n6_; clear hb hbox hg; have hnb15 := NB322_316.out; have hnc15 := NB316_322.out; have hcz16_0 : w14.cell? ⟨gb322, 0, none⟩ = some (.int .i64 0) := (blk_cell BK322.out 0).trans rfl; have hcz16_1 : w14.cell? ⟨gb322, 1, none⟩ = some (.int .i64 0) := (blk_cell BK322.out 1).trans rfl; have hcz16_2 : w14.cell? ⟨gb322, 2, none⟩ = some (.string (⟨#[]⟩ : ByteArray)) := (blk_cell BK322.out 2).trans rfl; have hcz16_3 : w14.cell? ⟨gb322, 3, none⟩ = some (.complex .f64 0 0) := (blk_cell BK322.out 3).trans rfl; have hfz16_0 := blk_frozen BK322.out 0; have hfz16_1 := blk_frozen BK322.out 1; have hfz16_2 := blk_frozen BK322.out 2; have hfz16_3 := blk_frozen BK322.out 3))
      (try simp only [Act.put, List.setIfInBounds_toArray, List.set_cons_zero, List.set_cons_succ])
      go_cut [30] (fun v30 wc => ∃ (kq : Nat) (x30_7 : Bool), v30 = .bool x30_7 ∧ Aside0 (norialaw3_ValReads.j0 kq a0 t321 x30_7 t311 t312 t313 t314 = some r) ∧ Aside0 (kq ≤ k) ∧ Aside0 (wc.heap[gb316]? = some (.cells #[.int .i64 t311, .int .i64 t312, .string t313, .complex .f64 t314.1 t314.2] 25 (0, 0))) ∧ Aside0 (wc.heap[gb322]? = some (.cells #[.int .i64 t317, .int .i64 t318, .string t319, .complex .f64 t320.1 t320.2] 29 (0, 0))) ∧ Aside0 (Below w.heap.size w wc))
      case first =>
        have H := HC8.out
        clear HC8
        by_cases c17 : t315 = t321
        · rw [if_pos c17] at H
          have c17b0 : (t315 == t321) = true := beq_iff_eq.mpr c17
          have c17b1 : (t315 != t321) = false := bne_eq_false_iff_eq.mpr c17
          clear c17
          (first | rw [c17b0] | (simp only [i64_w, i32_w]; rw [c17b0]) | skip)
          replace H := Option.bind_eq_some_iff.mp H
          obtain ⟨⟨t323, t324, t325, t326⟩, A180, H⟩ := H
          replace H : (norialaw3_ValReads.j0 k a0 t321 (!(t323 == t317) || (!(t324 == t318) || (!(t325.toList == t319.toList) || (!cEq t326.1 t326.2 t320.1 t320.2)))) t311 t312 t313 t314) = some r := H
          have A18 := Aside0.mk A180
          clear A180
          have H' := Aside0.mk H
          clear H
          try go_wp2
          have n0_ : Aside0 (((((w14.setCell ⟨gb322, 0, none⟩ (.int .i64 t317)).setCell ⟨gb322, 1, none⟩ (.int .i64 t318)).setCell ⟨gb322, 2, none⟩ (.string t319)).setCell ⟨gb322, 3, none⟩ (.complex .f64 t320.1 t320.2)).heap[gb316]? = some (.cells #[.int .i64 t311, .int .i64 t312, .string t313, .complex .f64 t314.1 t314.2] 25 (0, 0))) := ⟨by (with_reducible repeat (first | refine blk_drewN ?_ _ | refine blk_drew ?_ | refine blk_alloc ?_ _)); refine blk_far ?_ NB316_322.out _; (with_reducible repeat (first | refine blk_drewN ?_ _ | refine blk_drew ?_ | refine blk_alloc ?_ _)); refine blk_far ?_ NB316_322.out _; (with_reducible repeat (first | refine blk_drewN ?_ _ | refine blk_drew ?_ | refine blk_alloc ?_ _)); refine blk_far ?_ NB316_322.out _; (with_reducible repeat (first | refine blk_drewN ?_ _ | refine blk_drew ?_ | refine blk_alloc ?_ _)); refine blk_far ?_ NB316_322.out _; (with_reducible repeat (first | refine blk_drewN ?_ _ | refine blk_drew ?_ | refine blk_alloc ?_ _)); exact BK316.out⟩
          have n1_ : Aside0 (((((w14.setCell ⟨gb322, 0, none⟩ (.int .i64 t317)).setCell ⟨gb322, 1, none⟩ (.int .i64 t318)).setCell ⟨gb322, 2, none⟩ (.string t319)).setCell ⟨gb322, 3, none⟩ (.complex .f64 t320.1 t320.2)).heap[gb322]? = some (.cells #[.int .i64 t317, .int .i64 t318, .string t319, .complex .f64 t320.1 t320.2] 29 (0, 0))) := ⟨by (with_reducible repeat (first | refine blk_drewN ?_ _ | refine blk_drew ?_ | refine blk_alloc ?_ _)); refine blk_put (cs := #[.int .i64 t317, .int .i64 t318, .string t319, .complex .f64 0 0]) ?_ 3 _ rfl; (with_reducible repeat (first | refine blk_drewN ?_ _ | refine blk_drew ?_ | refine blk_alloc ?_ _)); refine blk_put (cs := #[.int .i64 t317, .int .i64 t318, .string (⟨#[]⟩ : ByteArray), .complex .f64 0 0]) ?_ 2 _ rfl; (with_reducible repeat (first | refine blk_drewN ?_ _ | refine blk_drew ?_ | refine blk_alloc ?_ _)); refine blk_put (cs := #[.int .i64 t317, .int .i64 0, .string (⟨#[]⟩ : ByteArray), .complex .f64 0 0]) ?_ 1 _ rfl; (with_reducible repeat (first | refine blk_drewN ?_ _ | refine blk_drew ?_ | refine blk_alloc ?_ _)); refine blk_put (cs := #[.int .i64 0, .int .i64 0, .string (⟨#[]⟩ : ByteArray), .complex .f64 0 0]) ?_ 0 _ rfl; (with_reducible repeat (first | refine blk_drewN ?_ _ | refine blk_drew ?_ | refine blk_alloc ?_ _)); exact BK322.out⟩
          have n2_ : Aside0 (Below w.heap.size w ((((w14.setCell ⟨gb322, 0, none⟩ (.int .i64 t317)).setCell ⟨gb322, 1, none⟩ (.int .i64 t318)).setCell ⟨gb322, 2, none⟩ (.string t319)).setCell ⟨gb322, 3, none⟩ (.complex .f64 t320.1 t320.2))) := ⟨by repeat (first | (with_reducible first | exact HB.out | apply below_alloc | apply pw_below_drewN | apply below_drew1 | refine below_set ?_ GE316.out | refine below_set ?_ GE322.out) | exact HB.out)⟩
          (try clear BK316)
          (try clear BK322)
          (try clear HB)
          generalize ((((w14.setCell ⟨gb322, 0, none⟩ (.int .i64 t317)).setCell ⟨gb322, 1, none⟩ (.int .i64 t318)).setCell ⟨gb322, 2, none⟩ (.string t319)).setCell ⟨gb322, 3, none⟩ (.complex .f64 t320.1 t320.2)) = w19 at n0_ n1_ n2_ ⊢
          have BK316 := n0_
          have BK322 := n1_
          have HB := n2_
          clear n0_ n1_ n2_
          have n0_ := Aside0.mk (blk_drew BK316.out)
          have n1_ := Aside0.mk (blk_drew BK322.out)
          have n2_ := Aside0.mk (below_drew1 HB.out)
          clear BK316
          clear BK322
          clear HB
          have BK316 := n0_
          have BK322 := n1_
          have HB := n2_
          clear n0_ n1_ n2_
          refine start_ (n := 9) (S := fun w' => w'.cell? ⟨gb316, 0, none⟩ = some (.int .i64 t311) ∧ w'.cell? ⟨gb316, 1, none⟩ = some (.int .i64 t312) ∧ w'.cell? ⟨gb316, 2, none⟩ = some (.string t313) ∧ w'.cell? ⟨gb316, 3, none⟩ = some (.complex .f64 t314.1 t314.2) ∧ w'.cell? ⟨gb322, 0, none⟩ = some (.int .i64 t317) ∧ w'.cell? ⟨gb322, 1, none⟩ = some (.int .i64 t318) ∧ w'.cell? ⟨gb322, 2, none⟩ = some (.string t319) ∧ w'.cell? ⟨gb322, 3, none⟩ = some (.complex .f64 t320.1 t320.2)) (ds := []) #[false, false, false, false, false, false, false, false, false] (by kernel_rfl) rfl rfl ⟨(blk_cell BK316.out 0).trans rfl, (blk_cell BK316.out 1).trans rfl, (blk_cell BK316.out 2).trans rfl, (blk_cell BK316.out 3).trans rfl, (blk_cell BK322.out 0).trans rfl, (blk_cell BK322.out 1).trans rfl, (blk_cell BK322.out 2).trans rfl, (blk_cell BK322.out 3).trans rfl⟩ (fun hHeld => ?_); refine with_tabW norialaw3_ValReads.tab7 norialaw3_ValReads.bits7 (fun HT_ HW_ => ?_)
          generalize w19.drew = w20 at BK316 BK322 HB hHeld ⊢
          refine pure_ (i := 0) (N := some 22) (v := ?_) (a' := ?_) #[true, false, false, false, false, false, false, false, false] rfl rfl (any_of HT_.out (by kernel_rfl)) (fun _ _ _ h => h) (Or.inl ⟨by rfl, ?_⟩) ?_ ?_
          rotate_left
          · intro w'
            go_simp
            with_reducible rfl
          rotate_left
          · simp only [Act.put, List.setIfInBounds_toArray, List.set_cons_zero, List.set_cons_succ, i64_w, i32_w]
            rfl
          refine pure_ (i := 1) (N := some 23) (v := ?_) (a' := ?_) #[true, true, false, false, false, false, false, false, false] rfl rfl (any_of HT_.out (by kernel_rfl)) (fun _ _ _ h => h) (Or.inl ⟨by rfl, ?_⟩) ?_ ?_
          rotate_left
          · intro w'
            go_simp
            with_reducible rfl
          rotate_left
          · simp only [Act.put, List.setIfInBounds_toArray, List.set_cons_zero, List.set_cons_succ, i64_w, i32_w]
            rfl
          refine pure_ (i := 2) (N := some 24) (v := ?_) (a' := ?_) #[true, true, true, false, false, false, false, false, false] rfl rfl (any_of HT_.out (by kernel_rfl)) (fun _ _ _ h => h) (Or.inl ⟨by rfl, ?_⟩) ?_ ?_
          rotate_left
          · intro w'
            go_simp
            with_reducible rfl
          rotate_left
          · simp only [Act.put, List.setIfInBounds_toArray, List.set_cons_zero, List.set_cons_succ, i64_w, i32_w]
            rfl
          refine pure_ (i := 3) (N := some 25) (v := ?_) (a' := ?_) #[true, true, true, true, false, false, false, false, false] rfl rfl (any_of HT_.out (by kernel_rfl)) (fun _ _ _ h => h) (Or.inl ⟨by rfl, ?_⟩) ?_ ?_
          rotate_left
          · intro w'
            go_simp
            with_reducible rfl
          rotate_left
          · simp only [Act.put, List.setIfInBounds_toArray, List.set_cons_zero, List.set_cons_succ, i64_w, i32_w]
            rfl
          refine take_ (i := 4) (N := some 26) (v := ?_) (a' := ?_) #[true, true, true, true, true, false, false, false, false] rfl rfl (take_ofW HT_.out HW_.out (by kernel_rfl)) (fun _ _ _ h => h) (Or.inl ⟨by rfl, ?_⟩) hHeld ?_ ?_
          rotate_left
          · rintro w' ⟨s0, s1, s2, s3, s4, s5, s6, s7⟩
            go_simp
            with_reducible rfl
          rotate_left
          · simp only [Act.put, List.setIfInBounds_toArray, List.set_cons_zero, List.set_cons_succ, i64_w, i32_w]
            rfl
          refine take_ (i := 6) (N := some 28) (v := ?_) (a' := ?_) #[true, true, true, true, true, false, true, false, false] rfl rfl (take_ofW HT_.out HW_.out (by kernel_rfl)) (fun _ _ _ h => h) (Or.inl ⟨by rfl, ?_⟩) hHeld ?_ ?_
          rotate_left
          · rintro w' ⟨s0, s1, s2, s3, s4, s5, s6, s7⟩
            go_simp
            with_reducible rfl
          rotate_left
          · simp only [Act.put, List.setIfInBounds_toArray, List.set_cons_zero, List.set_cons_succ, i64_w, i32_w]
            rfl
          refine one_ (i := 5) (N := some 27) #[true, true, true, true, true, true, true, false, false] rfl rfl (one_of HT_.out (by kernel_rfl)) (by decide) (fun K hK => ?_)
          refine goes_ Tryz.func7 (by kernel_rfl) rfl #[.agg #[.int .i64 t311, .int .i64 t312, .string t313, .complex .f64 t314.1 t314.2]] (by rfl) rfl rfl (by (try simp only [List.map_toArray, List.map_cons, List.map_nil]); first | done | rfl | (simp only [List.length_drop, List.length_take]; rfl)) ?_
          with_reducible refine (norialaw3_Of.calls t311 t312 t313 t314 t323 t324 t325 t326 _ A18.out).mono ?_
          rintro e w21 ⟨rfl, hb⟩
          refine ⟨_, rfl, ?_⟩
          have n0_ := Aside0.mk (blk_below (g := gb316) (o := .cells #[.int .i64 t311, .int .i64 t312, .string t313, .complex .f64 t314.1 t314.2] 25 (0, 0)) (by (with_reducible repeat (first | refine blk_drewN ?_ _ | refine blk_drew ?_ | refine blk_alloc ?_ _)); exact BK316.out) hb)
          have n1_ := Aside0.mk (blk_below (g := gb322) (o := .cells #[.int .i64 t317, .int .i64 t318, .string t319, .complex .f64 t320.1 t320.2] 29 (0, 0)) (by (with_reducible repeat (first | refine blk_drewN ?_ _ | refine blk_drew ?_ | refine blk_alloc ?_ _)); exact BK322.out) hb)
          have n2_ := Aside0.mk (below_step (by repeat (first | (with_reducible first | exact HB.out | apply below_alloc | apply pw_below_drewN | apply below_drew1 | refine below_set ?_ GE316.out | refine below_set ?_ GE322.out) | exact HB.out)) hb)
          clear BK316
          clear BK322
          clear HB
          have BK316 := n0_
          have BK322 := n1_
          have HB := n2_
          clear n0_ n1_ n2_
          (try clear hb)
          (try clear hb2)
          (try clear hk)
          (try clear hi)
          refine hK.out _ _ ⟨(blk_cell BK316.out 0).trans rfl, (blk_cell BK316.out 1).trans rfl, (blk_cell BK316.out 2).trans rfl, (blk_cell BK316.out 3).trans rfl, (blk_cell BK322.out 0).trans rfl, (blk_cell BK322.out 1).trans rfl, (blk_cell BK322.out 2).trans rfl, (blk_cell BK322.out 3).trans rfl⟩ (fun hHeld => ?_)
          clear hK K
          refine norm_ (a' := ?_) ?_ ?_
          rotate_left
          · show Act.put _ (some 27) _ = _
            simp only [Act.put, List.setIfInBounds_toArray, List.set_cons_zero, List.set_cons_succ, i64_w, i32_w]
            rfl
          refine pure_ (i := 7) (N := some 29) (v := ?_) (a' := ?_) #[true, true, true, true, true, true, true, true, false] rfl rfl (any_of HT_.out (by kernel_rfl)) (fun _ _ _ h => h) (Or.inl ⟨by rfl, ?_⟩) ?_ ?_
          rotate_left
          · intro w'
            go_simp
            with_reducible rfl
          rotate_left
          · simp only [Act.put, List.setIfInBounds_toArray, List.set_cons_zero, List.set_cons_succ, i64_w, i32_w]
            rfl
          refine pure_ (i := 8) (N := some 30) (v := ?_) (a' := ?_) #[true, true, true, true, true, true, true, true, true] rfl rfl (any_of HT_.out (by kernel_rfl)) (fun _ _ _ h => h) (Or.inl ⟨by rfl, ?_⟩) ?_ ?_
          rotate_left
          · intro w'
            go_simp
            with_reducible rfl
          rotate_left
          · simp only [Act.put, List.setIfInBounds_toArray, List.set_cons_zero, List.set_cons_succ, i64_w, i32_w]
            rfl
          refine done_ (done_of HT_.out (by kernel_rfl)) ?_
          try go_wp2
          go_meet
          case rel => exact ⟨_, ((!(t323 == t317) || (!(t324 == t318) || (!(t325.toList == t319.toList) || (!cEq t326.1 t326.2 t320.1 t320.2))))), (by first | rfl | (simp; done) | (simp [*]; done)), H', ⟨by first | omega | exact Nat.le_refl _⟩, ⟨by (with_reducible repeat (first | refine blk_drewN ?_ _ | refine blk_drew ?_ | refine blk_alloc ?_ _)); exact BK316.out⟩, ⟨by (with_reducible repeat (first | refine blk_drewN ?_ _ | refine blk_drew ?_ | refine blk_alloc ?_ _)); exact BK322.out⟩, ⟨by repeat (first | (with_reducible first | exact HB.out | apply below_alloc | apply pw_below_drewN | apply below_drew1 | refine below_set ?_ GE316.out | refine below_set ?_ GE322.out) | exact HB.out)⟩⟩
        · rw [if_neg c17] at H
          have c17b0 : (t315 == t321) = false := beq_eq_false_iff_ne.mpr c17
          have c17b1 : (t315 != t321) = true := bne_iff_ne.mpr c17
          (first | rw [c17b0] | (simp only [i64_w, i32_w]; rw [c17b0]) | skip)
          have H' := Aside0.mk H
          clear H
          try go_wp2
          have n0_ : Aside0 (((((w14.setCell ⟨gb322, 0, none⟩ (.int .i64 t317)).setCell ⟨gb322, 1, none⟩ (.int .i64 t318)).setCell ⟨gb322, 2, none⟩ (.string t319)).setCell ⟨gb322, 3, none⟩ (.complex .f64 t320.1 t320.2)).heap[gb316]? = some (.cells #[.int .i64 t311, .int .i64 t312, .string t313, .complex .f64 t314.1 t314.2] 25 (0, 0))) := ⟨by (with_reducible repeat (first | refine blk_drewN ?_ _ | refine blk_drew ?_ | refine blk_alloc ?_ _)); refine blk_far ?_ NB316_322.out _; (with_reducible repeat (first | refine blk_drewN ?_ _ | refine blk_drew ?_ | refine blk_alloc ?_ _)); refine blk_far ?_ NB316_322.out _; (with_reducible repeat (first | refine blk_drewN ?_ _ | refine blk_drew ?_ | refine blk_alloc ?_ _)); refine blk_far ?_ NB316_322.out _; (with_reducible repeat (first | refine blk_drewN ?_ _ | refine blk_drew ?_ | refine blk_alloc ?_ _)); refine blk_far ?_ NB316_322.out _; (with_reducible repeat (first | refine blk_drewN ?_ _ | refine blk_drew ?_ | refine blk_alloc ?_ _)); exact BK316.out⟩
          have n1_ : Aside0 (((((w14.setCell ⟨gb322, 0, none⟩ (.int .i64 t317)).setCell ⟨gb322, 1, none⟩ (.int .i64 t318)).setCell ⟨gb322, 2, none⟩ (.string t319)).setCell ⟨gb322, 3, none⟩ (.complex .f64 t320.1 t320.2)).heap[gb322]? = some (.cells #[.int .i64 t317, .int .i64 t318, .string t319, .complex .f64 t320.1 t320.2] 29 (0, 0))) := ⟨by (with_reducible repeat (first | refine blk_drewN ?_ _ | refine blk_drew ?_ | refine blk_alloc ?_ _)); refine blk_put (cs := #[.int .i64 t317, .int .i64 t318, .string t319, .complex .f64 0 0]) ?_ 3 _ rfl; (with_reducible repeat (first | refine blk_drewN ?_ _ | refine blk_drew ?_ | refine blk_alloc ?_ _)); refine blk_put (cs := #[.int .i64 t317, .int .i64 t318, .string (⟨#[]⟩ : ByteArray), .complex .f64 0 0]) ?_ 2 _ rfl; (with_reducible repeat (first | refine blk_drewN ?_ _ | refine blk_drew ?_ | refine blk_alloc ?_ _)); refine blk_put (cs := #[.int .i64 t317, .int .i64 0, .string (⟨#[]⟩ : ByteArray), .complex .f64 0 0]) ?_ 1 _ rfl; (with_reducible repeat (first | refine blk_drewN ?_ _ | refine blk_drew ?_ | refine blk_alloc ?_ _)); refine blk_put (cs := #[.int .i64 0, .int .i64 0, .string (⟨#[]⟩ : ByteArray), .complex .f64 0 0]) ?_ 0 _ rfl; (with_reducible repeat (first | refine blk_drewN ?_ _ | refine blk_drew ?_ | refine blk_alloc ?_ _)); exact BK322.out⟩
          have n2_ : Aside0 (Below w.heap.size w ((((w14.setCell ⟨gb322, 0, none⟩ (.int .i64 t317)).setCell ⟨gb322, 1, none⟩ (.int .i64 t318)).setCell ⟨gb322, 2, none⟩ (.string t319)).setCell ⟨gb322, 3, none⟩ (.complex .f64 t320.1 t320.2))) := ⟨by repeat (first | (with_reducible first | exact HB.out | apply below_alloc | apply pw_below_drewN | apply below_drew1 | refine below_set ?_ GE316.out | refine below_set ?_ GE322.out) | exact HB.out)⟩
          (try clear BK316)
          (try clear BK322)
          (try clear HB)
          generalize ((((w14.setCell ⟨gb322, 0, none⟩ (.int .i64 t317)).setCell ⟨gb322, 1, none⟩ (.int .i64 t318)).setCell ⟨gb322, 2, none⟩ (.string t319)).setCell ⟨gb322, 3, none⟩ (.complex .f64 t320.1 t320.2)) = w22 at n0_ n1_ n2_ ⊢
          have BK316 := n0_
          have BK322 := n1_
          have HB := n2_
          clear n0_ n1_ n2_
          have n0_ := Aside0.mk (blk_drew BK316.out)
          have n1_ := Aside0.mk (blk_drew BK322.out)
          have n2_ := Aside0.mk (below_drew1 HB.out)
          clear BK316
          clear BK322
          clear HB
          have BK316 := n0_
          have BK322 := n1_
          have HB := n2_
          clear n0_ n1_ n2_
          refine start_ (n := 9) (S := fun w' => True) (ds := []) #[false, false, false, false, false, false, false, false, false] (by kernel_rfl) rfl rfl trivial (fun hHeld => ?_); refine with_tabW norialaw3_ValReads.tab7 norialaw3_ValReads.bits7 (fun HT_ HW_ => ?_)
          generalize w22.drew = w23 at BK316 BK322 HB hHeld ⊢
          refine pure_ (i := 0) (N := some 22) (v := ?_) (a' := ?_) #[true, false, false, false, false, false, false, false, false] rfl rfl (any_of HT_.out (by kernel_rfl)) (fun _ _ _ h => h) (Or.inl ⟨by rfl, ?_⟩) ?_ ?_
          rotate_left
          · intro w'
            go_simp
            with_reducible rfl
          rotate_left
          · simp only [Act.put, List.setIfInBounds_toArray, List.set_cons_zero, List.set_cons_succ, i64_w, i32_w]
            rfl
          refine pure_ (i := 1) (N := some 23) (v := ?_) (a' := ?_) #[true, true, false, false, false, false, false, false, false] rfl rfl (any_of HT_.out (by kernel_rfl)) (fun _ _ _ h => h) (Or.inl ⟨by rfl, ?_⟩) ?_ ?_
          rotate_left
          · intro w'
            go_simp
            with_reducible rfl
          rotate_left
          · simp only [Act.put, List.setIfInBounds_toArray, List.set_cons_zero, List.set_cons_succ, i64_w, i32_w]
            rfl
          refine pure_ (i := 2) (N := some 24) (v := ?_) (a' := ?_) #[true, true, true, false, false, false, false, false, false] rfl rfl (any_of HT_.out (by kernel_rfl)) (fun _ _ _ h => h) (Or.inl ⟨by rfl, ?_⟩) ?_ ?_
          rotate_left
          · intro w'
            go_simp
            with_reducible rfl
          rotate_left
          · simp only [Act.put, List.setIfInBounds_toArray, List.set_cons_zero, List.set_cons_succ, i64_w, i32_w]
            rfl
          refine pure_ (i := 3) (N := some 25) (v := ?_) (a' := ?_) #[true, true, true, true, false, false, false, false, false] rfl rfl (any_of HT_.out (by kernel_rfl)) (fun _ _ _ h => h) (Or.inl ⟨by rfl, ?_⟩) ?_ ?_
          rotate_left
          · intro w'
            go_simp
            with_reducible rfl
          rotate_left
          · simp only [Act.put, List.setIfInBounds_toArray, List.set_cons_zero, List.set_cons_succ, i64_w, i32_w]
            rfl
          refine pure_ (i := 4) (N := some 26) (v := undef) (a' := ?_) #[true, true, true, true, true, false, false, false, false] rfl rfl (any_of HT_.out (by kernel_rfl)) (fun _ _ _ h => h) (Or.inr ⟨by rfl, rfl⟩) ?_ ?_
          rotate_left
          · simp only [Act.put, List.setIfInBounds_toArray, List.set_cons_zero, List.set_cons_succ, i64_w, i32_w]
            rfl
          refine pure_ (i := 5) (N := some 27) (v := undef) (a' := ?_) #[true, true, true, true, true, true, false, false, false] rfl rfl (any_of HT_.out (by kernel_rfl)) (fun _ _ _ h => h) (Or.inr ⟨by rfl, rfl⟩) ?_ ?_
          rotate_left
          · simp only [Act.put, List.setIfInBounds_toArray, List.set_cons_zero, List.set_cons_succ, i64_w, i32_w]
            rfl
          refine pure_ (i := 6) (N := some 28) (v := undef) (a' := ?_) #[true, true, true, true, true, true, true, false, false] rfl rfl (any_of HT_.out (by kernel_rfl)) (fun _ _ _ h => h) (Or.inr ⟨by rfl, rfl⟩) ?_ ?_
          rotate_left
          · simp only [Act.put, List.setIfInBounds_toArray, List.set_cons_zero, List.set_cons_succ, i64_w, i32_w]
            rfl
          refine pure_ (i := 7) (N := some 29) (v := undef) (a' := ?_) #[true, true, true, true, true, true, true, true, false] rfl rfl (any_of HT_.out (by kernel_rfl)) (fun _ _ _ h => h) (Or.inr ⟨by rfl, rfl⟩) ?_ ?_
          rotate_left
          · simp only [Act.put, List.setIfInBounds_toArray, List.set_cons_zero, List.set_cons_succ, i64_w, i32_w]
            rfl
          refine pure_ (i := 8) (N := some 30) (v := ?_) (a' := ?_) #[true, true, true, true, true, true, true, true, true] rfl rfl (any_of HT_.out (by kernel_rfl)) (fun _ _ _ h => h) (Or.inl ⟨by rfl, ?_⟩) ?_ ?_
          rotate_left
          · intro w'
            go_simp
            with_reducible rfl
          rotate_left
          · simp only [Act.put, List.setIfInBounds_toArray, List.set_cons_zero, List.set_cons_succ, i64_w, i32_w]
            rfl
          refine done_ (done_of HT_.out (by kernel_rfl)) ?_
          try go_wp2
          go_meet
          case rel => exact ⟨_, (true), (by first | rfl | (simp; done) | (simp [*]; done)), H', ⟨by first | omega | exact Nat.le_refl _⟩, ⟨by (with_reducible repeat (first | refine blk_drewN ?_ _ | refine blk_drew ?_ | refine blk_alloc ?_ _)); exact BK316.out⟩, ⟨by (with_reducible repeat (first | refine blk_drewN ?_ _ | refine blk_drew ?_ | refine blk_alloc ?_ _)); exact BK322.out⟩, ⟨by repeat (first | (with_reducible first | exact HB.out | apply below_alloc | apply pw_below_drewN | apply below_drew1 | refine below_set ?_ GE316.out | refine below_set ?_ GE322.out) | exact HB.out)⟩⟩
      case rest =>
        clear HC8
        try clear c1
        try clear p2
        try clear c3
        try clear c4
        try clear c4b0
        try clear c4b1
        try clear c5
        try clear c6
        try clear c7
        try clear c15
        try clear c17
        try clear c17b0
        try clear c17b1
        try clear hcz12_0
        try clear hcz12_1
        try clear hcz12_2
        try clear hcz12_3
        try clear hcz16_0
        try clear hcz16_1
        try clear hcz16_2
        try clear hcz16_3
        try clear hfz12_0
        try clear hfz12_1
        try clear hfz12_2
        try clear hfz12_3
        try clear hfz16_0
        try clear hfz16_1
        try clear hfz16_2
        try clear hfz16_3
        obtain ⟨kq, x30_7, rfl, HA, HJ7, BK316, BK322, HB⟩ := hcut
        cases kq with
        | zero => exact absurd HA.out (by simp [norialaw3_ValReads.j0])
        | succ kj7 =>
          have H := HA.out
          clear HA
          simp only [norialaw3_ValReads.j0] at H
          by_cases c24 : x30_7 = true
          · subst c24
            have H1 : (none) = some r := by rw [if_pos rfl] at H; exact H
            clear H
            have H := H1
            clear H1
            exact absurd H (by simp)
          · replace c24 := Bool.eq_false_iff.mpr c24
            subst c24
            have H1 : (if t321 = 0 then ((val_Text.f kj7 t311 t312 t313 t314).bind fun t327 => (if t327.toList = a0.toList then ((val_Check.f kj7 t311 t312 t313 t314).bind fun t328 => (some (t328 == 0))) else (none))) else (some true)) = some r := by rw [if_neg (show ¬ (false = true) by decide)] at H; exact H
            clear H
            have H := H1
            clear H1
            by_cases c25 : t321 = 0
            · rw [if_pos c25] at H
              have c25b0 : (t321 == 0) = true := beq_iff_eq.mpr c25
              have c25b1 : (t321 != 0) = false := bne_eq_false_iff_eq.mpr c25
              clear c25
              replace H := Option.bind_eq_some_iff.mp H
              obtain ⟨t327, A260, H⟩ := H
              replace H : (if t327.toList = a0.toList then ((val_Check.f kj7 t311 t312 t313 t314).bind fun t328 => (some (t328 == 0))) else (none)) = some r := H
              have A26 := Aside0.mk A260
              clear A260
              by_cases c27 : t327.toList = a0.toList
              · rw [if_pos c27] at H
                have c27b0 : (t327.toList == a0.toList) = true := beq_iff_eq.mpr c27
                have c27b1 : (t327.toList != a0.toList) = false := bne_eq_false_iff_eq.mpr c27
                clear c27
                replace H := Option.bind_eq_some_iff.mp H
                obtain ⟨t328, A280, H⟩ := H
                replace H : (some (t328 == 0)) = some r := H
                have A28 := Aside0.mk A280
                clear A280
                obtain rfl := Option.some.inj H
                have hnb29 := NB316_322.out
                have hnc29 := NB322_316.out
                have hcz30_0 : wc.cell? ⟨gb316, 0, none⟩ = some (.int .i64 t311) := (blk_cell BK316.out 0).trans rfl
                have hcz30_1 : wc.cell? ⟨gb316, 1, none⟩ = some (.int .i64 t312) := (blk_cell BK316.out 1).trans rfl
                have hcz30_2 : wc.cell? ⟨gb316, 2, none⟩ = some (.string t313) := (blk_cell BK316.out 2).trans rfl
                have hcz30_3 : wc.cell? ⟨gb316, 3, none⟩ = some (.complex .f64 t314.1 t314.2) := (blk_cell BK316.out 3).trans rfl
                have hfz30_0 := blk_frozen BK316.out 0
                have hfz30_1 := blk_frozen BK316.out 1
                have hfz30_2 := blk_frozen BK316.out 2
                have hfz30_3 := blk_frozen BK316.out 3
                go_wp2_with (first | (go_at_call 8; (with_reducible refine (val_Text.calls kj7 t311 t312 t313 t314 t327 _ A26.out (Glob.below HG_.out (by repeat (first | (with_reducible first | exact HB.out | apply below_alloc | apply pw_below_drewN | apply below_drew1 | refine below_set ?_ GE316.out | refine below_set ?_ GE322.out) | exact HB.out)))).mono ?_); rintro e w31 ⟨rfl, hb⟩; have n0_ := Aside0.mk (blk_below (g := gb316) (o := .cells #[.int .i64 t311, .int .i64 t312, .string t313, .complex .f64 t314.1 t314.2] 25 (0, 0)) (by (with_reducible repeat (first | refine blk_drewN ?_ _ | refine blk_drew ?_ | refine blk_alloc ?_ _)); exact BK316.out) hb); have n1_ := Aside0.mk (blk_below (g := gb322) (o := .cells #[.int .i64 t317, .int .i64 t318, .string t319, .complex .f64 t320.1 t320.2] 29 (0, 0)) (by (with_reducible repeat (first | refine blk_drewN ?_ _ | refine blk_drew ?_ | refine blk_alloc ?_ _)); exact BK322.out) hb); have n2_ := Aside0.mk (below_step (by repeat (first | (with_reducible first | exact HB.out | apply below_alloc | apply pw_below_drewN | apply below_drew1 | refine below_set ?_ GE316.out | refine below_set ?_ GE322.out) | exact HB.out)) hb); clear BK316; clear BK322; clear HB; have BK316 := n0_; have BK322 := n1_; have HB := n2_; clear n0_ n1_ n2_; (try clear hb); (try clear hb2); (try clear hk); (try clear hi); have hcz32_0 : w31.cell? ⟨gb316, 0, none⟩ = some (.int .i64 t311) := (blk_cell BK316.out 0).trans rfl; have hcz32_1 : w31.cell? ⟨gb316, 1, none⟩ = some (.int .i64 t312) := (blk_cell BK316.out 1).trans rfl; have hcz32_2 : w31.cell? ⟨gb316, 2, none⟩ = some (.string t313) := (blk_cell BK316.out 2).trans rfl; have hcz32_3 : w31.cell? ⟨gb316, 3, none⟩ = some (.complex .f64 t314.1 t314.2) := (blk_cell BK316.out 3).trans rfl; have hfz32_0 := blk_frozen BK316.out 0; have hfz32_1 := blk_frozen BK316.out 1; have hfz32_2 := blk_frozen BK316.out 2; have hfz32_3 := blk_frozen BK316.out 3) | (go_at_call 9; (with_reducible refine (val_Check.calls kj7 t311 t312 t313 t314 t328 _ A28.out).mono ?_); rintro e w33 ⟨rfl, hb⟩; have n0_ := Aside0.mk (blk_below (g := gb316) (o := .cells #[.int .i64 t311, .int .i64 t312, .string t313, .complex .f64 t314.1 t314.2] 25 (0, 0)) (by (with_reducible repeat (first | refine blk_drewN ?_ _ | refine blk_drew ?_ | refine blk_alloc ?_ _)); exact BK316.out) hb); have n1_ := Aside0.mk (blk_below (g := gb322) (o := .cells #[.int .i64 t317, .int .i64 t318, .string t319, .complex .f64 t320.1 t320.2] 29 (0, 0)) (by (with_reducible repeat (first | refine blk_drewN ?_ _ | refine blk_drew ?_ | refine blk_alloc ?_ _)); exact BK322.out) hb); have n2_ := Aside0.mk (below_step (by repeat (first | (with_reducible first | exact HB.out | apply below_alloc | apply pw_below_drewN | apply below_drew1 | refine below_set ?_ GE316.out | refine below_set ?_ GE322.out) | exact HB.out)) hb); clear BK316; clear BK322; clear HB; have BK316 := n0_; have BK322 := n1_; have HB := n2_; clear n0_ n1_ n2_; (try clear hb); (try clear hb2); (try clear hk); (try clear hi)))
                go_ret
                exact ⟨by first | rfl | (simp [errW_none, errW_some] <;> rfl) | (simp [*, errW_none, errW_some] <;> rfl), by repeat (first | (with_reducible first | exact HB.out | apply below_alloc | apply pw_below_drewN | apply below_drew1 | refine below_set ?_ GE316.out | refine below_set ?_ GE322.out) | exact HB.out)⟩
              · rw [if_neg c27] at H
                exact absurd H (by simp)
            · rw [if_neg c25] at H
              have c25b0 : (t321 == 0) = false := beq_eq_false_iff_ne.mpr c25
              have c25b1 : (t321 != 0) = true := bne_iff_ne.mpr c25
              obtain rfl := Option.some.inj H
              go_wp2
              go_ret
              exact ⟨by first | rfl | (simp [errW_none, errW_some] <;> rfl) | (simp [*, errW_none, errW_some] <;> rfl), by repeat (first | (with_reducible first | exact HB.out | apply below_alloc | apply pw_below_drewN | apply below_drew1 | refine below_set ?_ GE316.out | refine below_set ?_ GE322.out) | exact HB.out)⟩
  · replace c3 := Bool.eq_false_iff.mpr c3
    subst c3
    have H1 : (none) = some r := by rw [if_neg (show ¬ (false = true) by decide)] at H; exact H
    clear H
    have H := H1
    clear H1
    exact absurd H (by simp)

/-- THE ONE PURE STATEMENT of norialaw3_ValReads: yours. -/
def norialaw3_ValReads.Pure : Prop := ∀ (a0 : ByteArray), a0.size ≤ 140737488351232 → ∃ k, norialaw3_ValReads.f k a0 = some true
theorem norialaw3_ValReads.walk (P : norialaw3_ValReads.Pure) (a0 : ByteArray) (w : World) (w0 : a0.size ≤ 140737488351232) (hG_ : Glob w) :
    Calls Tryz.prog 3 #[.string a0] w fun e w' => e = .returned (.bool true) ∧ Below w.heap.size w w' := by
  obtain ⟨k, h⟩ := P a0 w0
  refine (norialaw3_ValReads.calls k a0 true w h hG_).mono ?_
  rintro e w' ⟨rfl, hd⟩
  exact ⟨rfl, hd⟩

end Go.Proofs.YtaflcaillcjmmaaGreatDoor.PAll
