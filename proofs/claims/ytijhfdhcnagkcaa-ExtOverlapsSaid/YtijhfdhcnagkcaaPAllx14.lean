-- Printed by this session's own program (wip/tools/pp.py): out of the translation. Lean checks it.
import Derived.Test.YtijhfdhcnagkcaaPAllx0
import Derived.Test.YtijhfdhcnagkcaaPAllx3
import Derived.Test.YtijhfdhcnagkcaaPAllx5
namespace Go.Proofs.Ytijhfdhcnagkcaa.PAll
open Go.Proofs.Ytijhfdhcnagkcaa.Help
open Go.RowKit Go.Proofs.YtijhfdhcnagkcaaW.PrintWords Go.Proofs.YtijhfdhcnagkcaaW.PrintLast Go.Proofs.YtijhfdhcnagkcaaW.PrintMore
attribute [local go_sem] cell_put3_0 cell_put3_1 cell_put4_0 cell_put4_1 max2_int min2_int max_two min_two max_three min_three max_four min_four   -- for this text's walks alone
set_option linter.unusedVariables false
set_option linter.unusedSimpArgs false

/-! ### norialaw14_ExtOverlaps: function 8 -/
def norialaw14_ExtOverlaps.l0 : Nat → Bool → Int → Int → Int → Int → Int → Option (Bool)
  | 0, _, _, _, _, _, _ => none
  | k + 1, x11, x12, x290000, x290001, x291000, x291001 => if x12 < 40 then (if x11 = true then (norialaw14_ExtOverlaps.l0 k true (wrap64 (x12 + 1)) x290000 x290001 x291000 x291001) else (if x12 ≥ x290000 then (if x12 < (wrap64 (x290000 + x290001)) then (if x12 ≥ x291000 then (norialaw14_ExtOverlaps.l0 k (decide (x12 < (wrap64 (x291000 + x291001)))) (wrap64 (x12 + 1)) x290000 x290001 x291000 x291001) else (norialaw14_ExtOverlaps.l0 k false (wrap64 (x12 + 1)) x290000 x290001 x291000 x291001)) else (norialaw14_ExtOverlaps.l0 k false (wrap64 (x12 + 1)) x290000 x290001 x291000 x291001)) else (norialaw14_ExtOverlaps.l0 k false (wrap64 (x12 + 1)) x290000 x290001 x291000 x291001))) else ((ext_Overlap.f x290000 x290001 x291000 x291001).bind fun t291 => (if (t291 == x11) = true then ((ext_Overlap.f x291000 x291001 x290000 x290001).bind fun t292 => (if (t292 == x11) = true then ((ext_Check.f x290000 x290001 40).bind fun t293 => (if t293 = 0 then ((ext_Check.f x290000 x290001 (wrap64 (x290000 + x290001))).bind fun t294 => (if t294 = 0 then ((ext_Check.f x290000 x290001 (wrap64 ((wrap64 (x290000 + x290001)) - 1))).bind fun t295 => (some (t295 != 0))) else (none))) else (none))) else (none))) else (none)))
def norialaw14_ExtOverlaps.f (k : Nat) (a0 : Int) (a1 : Int) (a2 : Int) (a3 : Int) : Option (Bool) := (norialaw14_known.f).bind fun t288 => (if t288 = true then (norialaw14_ExtOverlaps.l0 k false 0 (wrap64 (2 + (wrap64 (Int.tmod a0 20)))) (wrap64 (1 + (wrap64 (Int.tmod a1 8)))) (wrap64 (2 + (wrap64 (Int.tmod a2 20)))) (wrap64 (1 + (wrap64 (Int.tmod a3 8))))) else (none))
theorem norialaw14_ExtOverlaps.mono_l : ∀ k, (∀ y0 y1 y2 y3 y4 y5, LeO (norialaw14_ExtOverlaps.l0 k y0 y1 y2 y3 y4 y5) (norialaw14_ExtOverlaps.l0 (k + 1) y0 y1 y2 y3 y4 y5))
  | 0 => fun _ _ _ _ _ _ r h => by simp [norialaw14_ExtOverlaps.l0] at h
  | k + 1 => by
    have ih0 := norialaw14_ExtOverlaps.mono_l k
    · intro y0 y1 y2 y3 y4 y5
      unfold norialaw14_ExtOverlaps.l0
      repeat' first
      | (with_reducible exact ih0 _ _ _ _ _ _)
      | (with_reducible exact LeO.refl _)
      | (with_reducible exact LeO.none _)
      | (with_reducible refine LeO.ite ?_ ?_)
      | (with_reducible refine LeO.bind ?_ (fun _ => ?_))
      | exact ih0 _ _ _ _ _ _
      | exact LeO.none _
      | refine LeO.ite ?_ ?_
      | refine LeO.bind ?_ (fun _ => ?_)
theorem norialaw14_ExtOverlaps.mono : ∀ a0 a1 a2 a3 k, LeO (norialaw14_ExtOverlaps.f k a0 a1 a2 a3) (norialaw14_ExtOverlaps.f (k + 1) a0 a1 a2 a3) := by
  intro a0 a1 a2 a3 k
  have ih0 := norialaw14_ExtOverlaps.mono_l k
  unfold norialaw14_ExtOverlaps.f
  repeat' first
      | (with_reducible exact ih0 _ _ _ _ _ _)
      | (with_reducible exact LeO.refl _)
      | (with_reducible exact LeO.none _)
      | (with_reducible refine LeO.ite ?_ ?_)
      | (with_reducible refine LeO.bind ?_ (fun _ => ?_))
      | exact ih0 _ _ _ _ _ _
      | exact LeO.none _
      | refine LeO.ite ?_ ?_
      | refine LeO.bind ?_ (fun _ => ?_)
set_option maxHeartbeats 8000000 in
set_option maxRecDepth 100000 in
theorem norialaw14_ExtOverlaps.calls (k : Nat) (a0 : Int) (a1 : Int) (a2 : Int) (a3 : Int) (r : Bool) (w : World) (h : norialaw14_ExtOverlaps.f k a0 a1 a2 a3 = some r) :
    Calls Try.prog 8 #[.int .u8 a0, .int .u8 a1, .int .u8 a2, .int .u8 a3] w fun e w' => e = .returned (.bool r) ∧ Below w.heap.size w w' := by
  have hu23 := Try.underlying23
  have HB := Aside0.mk (Below.refl w.heap.size w)
  have H : ((norialaw14_known.f).bind fun t288 => (if t288 = true then (norialaw14_ExtOverlaps.l0 k false 0 (wrap64 (2 + (wrap64 (Int.tmod a0 20)))) (wrap64 (1 + (wrap64 (Int.tmod a1 8)))) (wrap64 (2 + (wrap64 (Int.tmod a2 20)))) (wrap64 (1 + (wrap64 (Int.tmod a3 8))))) else (none))) = some r := h
  clear h
  replace H := Option.bind_eq_some_iff.mp H
  obtain ⟨t288, A50, H⟩ := H
  replace H : (if t288 = true then (norialaw14_ExtOverlaps.l0 k false 0 (wrap64 (2 + (wrap64 (Int.tmod a0 20)))) (wrap64 (1 + (wrap64 (Int.tmod a1 8)))) (wrap64 (2 + (wrap64 (Int.tmod a2 20)))) (wrap64 (1 + (wrap64 (Int.tmod a3 8))))) else (none)) = some r := H
  have A5 := Aside0.mk A50
  clear A50
  by_cases c6 : t288 = true
  · subst c6
    have H1 : (norialaw14_ExtOverlaps.l0 k false 0 (wrap64 (2 + (wrap64 (Int.tmod a0 20)))) (wrap64 (1 + (wrap64 (Int.tmod a1 8)))) (wrap64 (2 + (wrap64 (Int.tmod a2 20)))) (wrap64 (1 + (wrap64 (Int.tmod a3 8))))) = some r := by rw [if_pos rfl] at H; exact H
    clear H
    have H := H1
    clear H1
    have H' := Aside0.mk H
    clear H
    go_enter Try.func8, Try.ntmps8
    go_wp2_with (first | ((with_reducible refine gate_callee (f := 9) rfl ?_); refine goesL_ (some 13) rfl rfl Try.func9 (by kernel_rfl) rfl #[] rfl (by (try simp only [List.map_toArray, List.map_cons, List.map_nil]); first | done | rfl | (simp only [List.length_drop, List.length_take]; rfl)) ?_; (with_reducible refine (norialaw14_known.calls  true _ A5.out).mono ?_); rintro e w7 ⟨rfl, hb⟩; refine ⟨_, rfl, ?_⟩; have n0_ := Aside0.mk (below_step (by repeat (first | (with_reducible first | exact HB.out | apply below_alloc | apply pw_below_drewN | apply below_drew1) | exact HB.out)) hb); clear HB; have HB := n0_; clear n0_; (try clear hb); (try clear hb2); (try clear hk); (try clear hi)) | ((with_reducible refine gate_dst (N := 9) rfl ?_); refine box_event ?hg (N := 9) ?hd (cs := #[.int .i64 0, .int .i64 0]) (t := 23) ?hr ?_; (case hd => rfl); (case hg => rfl); (case hr => first | (go_simp; done) | (go_simp; rfl)); intro gb289 hg w8 hbox hb; have n0_ := Aside0.mk (below_step (by repeat (first | (with_reducible first | exact HB.out | apply below_alloc | apply pw_below_drewN | apply below_drew1) | exact HB.out)) hb); have n1_ := Aside0.mk (hbox); have n2_ := Aside0.mk ((by rw [hg]; exact (below_size (by repeat (first | (with_reducible first | exact HB.out | apply below_alloc | apply pw_below_drewN | apply below_drew1) | exact HB.out))) : w.heap.size ≤ gb289)); have n3_ := Aside0.mk ((by rw [hg]; exact (below_size (by repeat (first | (with_reducible first | exact HB.out | apply below_alloc | apply pw_below_drewN | apply below_drew1) | exact HB.out))) : w.heap.size ≤ gb289)); clear HB; have HB := n0_; have BK289 := n1_; have GW289 := n2_; have GE289 := n3_; clear n0_ n1_ n2_ n3_; clear hb hbox hg; have hcz9_0 : w8.cell? ⟨gb289, 0, none⟩ = some (.int .i64 0) := (blk_cell BK289.out 0).trans rfl; have hcz9_1 : w8.cell? ⟨gb289, 1, none⟩ = some (.int .i64 0) := (blk_cell BK289.out 1).trans rfl; have hfz9_0 := blk_frozen BK289.out 0; have hfz9_1 := blk_frozen BK289.out 1) | ((with_reducible refine gate_dst (N := 10) rfl ?_); refine box_event ?hg (N := 10) ?hd (cs := #[.int .i64 0, .int .i64 0]) (t := 23) ?hr ?_; (case hd => rfl); (case hg => rfl); (case hr => first | (go_simp; done) | (go_simp; rfl)); intro gb290 hg w10 hbox hb; have n0_ := Aside0.mk (blk_below (g := gb289) (o := .cells #[.int .i64 (wrap64 (2 + (wrap64 (Int.tmod a0 20)))), .int .i64 (wrap64 (1 + (wrap64 (Int.tmod a1 8))))] 23 (0, 0)) (by (with_reducible repeat (first | refine blk_drewN ?_ _ | refine blk_drew ?_ | refine blk_alloc ?_ _)); refine blk_put (cs := #[.int .i64 (wrap64 (2 + (wrap64 (Int.tmod a0 20)))), .int .i64 0]) ?_ 1 _ rfl; (with_reducible repeat (first | refine blk_drewN ?_ _ | refine blk_drew ?_ | refine blk_alloc ?_ _)); refine blk_put (cs := #[.int .i64 0, .int .i64 0]) ?_ 0 _ rfl; (with_reducible repeat (first | refine blk_drewN ?_ _ | refine blk_drew ?_ | refine blk_alloc ?_ _)); exact BK289.out) hb); have n1_ := Aside0.mk (below_step (by repeat (first | (with_reducible first | exact HB.out | apply below_alloc | apply pw_below_drewN | apply below_drew1 | refine below_set ?_ GE289.out) | exact HB.out)) hb); have n2_ := Aside0.mk (hbox); have n3_ := Aside0.mk ((by rw [hg]; exact (below_size (by repeat (first | (with_reducible first | exact HB.out | apply below_alloc | apply pw_below_drewN | apply below_drew1 | refine below_set ?_ GE289.out) | exact HB.out))) : w.heap.size ≤ gb290)); have n4_ := Aside0.mk ((by rw [hg]; exact (below_size (by repeat (first | (with_reducible first | exact HB.out | apply below_alloc | apply pw_below_drewN | apply below_drew1 | refine below_set ?_ GE289.out) | exact HB.out))) : w.heap.size ≤ gb290)); have n5_ := Aside0.mk ((by rw [hg]; exact Nat.ne_of_lt (blk_lt (g := gb289) (o := .cells #[.int .i64 (wrap64 (2 + (wrap64 (Int.tmod a0 20)))), .int .i64 (wrap64 (1 + (wrap64 (Int.tmod a1 8))))] 23 (0, 0)) (by (with_reducible repeat (first | refine blk_drewN ?_ _ | refine blk_drew ?_ | refine blk_alloc ?_ _)); refine blk_put (cs := #[.int .i64 (wrap64 (2 + (wrap64 (Int.tmod a0 20)))), .int .i64 0]) ?_ 1 _ rfl; (with_reducible repeat (first | refine blk_drewN ?_ _ | refine blk_drew ?_ | refine blk_alloc ?_ _)); refine blk_put (cs := #[.int .i64 0, .int .i64 0]) ?_ 0 _ rfl; (with_reducible repeat (first | refine blk_drewN ?_ _ | refine blk_drew ?_ | refine blk_alloc ?_ _)); exact BK289.out)) : gb289 ≠ gb290)); have n6_ := Aside0.mk ((by rw [hg]; exact Nat.ne_of_gt (blk_lt (g := gb289) (o := .cells #[.int .i64 (wrap64 (2 + (wrap64 (Int.tmod a0 20)))), .int .i64 (wrap64 (1 + (wrap64 (Int.tmod a1 8))))] 23 (0, 0)) (by (with_reducible repeat (first | refine blk_drewN ?_ _ | refine blk_drew ?_ | refine blk_alloc ?_ _)); refine blk_put (cs := #[.int .i64 (wrap64 (2 + (wrap64 (Int.tmod a0 20)))), .int .i64 0]) ?_ 1 _ rfl; (with_reducible repeat (first | refine blk_drewN ?_ _ | refine blk_drew ?_ | refine blk_alloc ?_ _)); refine blk_put (cs := #[.int .i64 0, .int .i64 0]) ?_ 0 _ rfl; (with_reducible repeat (first | refine blk_drewN ?_ _ | refine blk_drew ?_ | refine blk_alloc ?_ _)); exact BK289.out)) : gb290 ≠ gb289)); clear BK289; clear HB; have BK289 := n0_; have HB := n1_; have BK290 := n2_; have GW290 := n3_; have GE290 := n4_; have NB289_290 := n5_; have NB290_289 := n6_; clear n0_ n1_ n2_ n3_ n4_ n5_ n6_; clear hb hbox hg; have hnb11 := NB290_289.out; have hnc11 := NB289_290.out; have hcz12_0 : w10.cell? ⟨gb290, 0, none⟩ = some (.int .i64 0) := (blk_cell BK290.out 0).trans rfl; have hcz12_1 : w10.cell? ⟨gb290, 1, none⟩ = some (.int .i64 0) := (blk_cell BK290.out 1).trans rfl; have hfz12_0 := blk_frozen BK290.out 0; have hfz12_1 := blk_frozen BK290.out 1))
    go_loopg [11, 12] k (fun kq v11 v12 w' => ∃ (x11_1 : Bool) (x12_1 : Int), v11 = .bool x11_1 ∧ v12 = .int .i64 x12_1 ∧ Aside0 (norialaw14_ExtOverlaps.l0 kq x11_1 x12_1 (wrap64 (2 + (wrap64 (Int.tmod a0 20)))) (wrap64 (1 + (wrap64 (Int.tmod a1 8)))) (wrap64 (2 + (wrap64 (Int.tmod a2 20)))) (wrap64 (1 + (wrap64 (Int.tmod a3 8)))) = some r) ∧ Aside0 (kq ≤ k) ∧ Aside0 (w'.heap[gb289]? = some (.cells #[.int .i64 (wrap64 (2 + (wrap64 (Int.tmod a0 20)))), .int .i64 (wrap64 (1 + (wrap64 (Int.tmod a1 8))))] 23 (0, 0))) ∧ Aside0 (w'.heap[gb290]? = some (.cells #[.int .i64 (wrap64 (2 + (wrap64 (Int.tmod a2 20)))), .int .i64 (wrap64 (1 + (wrap64 (Int.tmod a3 8))))] 23 (0, 0))) ∧ Aside0 (Below w.heap.size w w'))
    case atStart => exact ⟨(false), (0), (by first | rfl | (simp; done) | (simp [*]; done)), (by first | rfl | (simp; done) | (simp [*]; done)), H', ⟨Nat.le_refl _⟩, ⟨by (with_reducible repeat (first | refine blk_drewN ?_ _ | refine blk_drew ?_ | refine blk_alloc ?_ _)); refine blk_far ?_ NB289_290.out _; (with_reducible repeat (first | refine blk_drewN ?_ _ | refine blk_drew ?_ | refine blk_alloc ?_ _)); refine blk_far ?_ NB289_290.out _; (with_reducible repeat (first | refine blk_drewN ?_ _ | refine blk_drew ?_ | refine blk_alloc ?_ _)); exact BK289.out⟩, ⟨by (with_reducible repeat (first | refine blk_drewN ?_ _ | refine blk_drew ?_ | refine blk_alloc ?_ _)); refine blk_put (cs := #[.int .i64 (wrap64 (2 + (wrap64 (Int.tmod a2 20)))), .int .i64 0]) ?_ 1 _ rfl; (with_reducible repeat (first | refine blk_drewN ?_ _ | refine blk_drew ?_ | refine blk_alloc ?_ _)); refine blk_put (cs := #[.int .i64 0, .int .i64 0]) ?_ 0 _ rfl; (with_reducible repeat (first | refine blk_drewN ?_ _ | refine blk_drew ?_ | refine blk_alloc ?_ _)); exact BK290.out⟩, ⟨by repeat (first | (with_reducible first | exact HB.out | apply below_alloc | apply pw_below_drewN | apply below_drew1 | refine below_set ?_ GE289.out | refine below_set ?_ GE290.out) | exact HB.out)⟩⟩
    case round =>
      clear H'
      try clear c1
      try clear p2
      try clear c6
      try clear p6
      try clear c8
      try clear c9
      try clear c11
      try clear hcz12_0
      try clear hcz12_1
      try clear hcz9_0
      try clear hcz9_1
      try clear hfz12_0
      try clear hfz12_1
      try clear hfz9_0
      try clear hfz9_1
      obtain ⟨x11_1, x12_1, rfl, rfl, HA, HK1, BK289, BK290, HB⟩ := hrel
      cases gk with
      | zero => exact absurd HA.out (by simp [norialaw14_ExtOverlaps.l0])
      | succ k1 =>
        have H := HA.out
        clear HA
        simp only [norialaw14_ExtOverlaps.l0] at H
        by_cases c13 : x12_1 < 40
        · rw [if_pos c13] at H
          have c13b0 : decide (x12_1 < 40) = true := decide_eq_true c13
          clear c13
          by_cases c14 : x11_1 = true
          · subst c14
            have H1 : (norialaw14_ExtOverlaps.l0 k1 true (wrap64 (x12_1 + 1)) (wrap64 (2 + (wrap64 (Int.tmod a0 20)))) (wrap64 (1 + (wrap64 (Int.tmod a1 8)))) (wrap64 (2 + (wrap64 (Int.tmod a2 20)))) (wrap64 (1 + (wrap64 (Int.tmod a3 8))))) = some r := by rw [if_pos rfl] at H; exact H
            clear H
            have H := H1
            clear H1
            have H' := Aside0.mk H
            clear H
            go_wp2
            go_roundg k1
            case measure => have := HK1.out; omega
            case rel => exact ⟨(true), (wrap64 (x12_1 + 1)), (by first | rfl | (simp; done) | (simp [*]; done)), (by first | rfl | (simp; done) | (simp [*]; done)), H', ⟨by have := HK1.out; omega⟩, ⟨by (with_reducible repeat (first | refine blk_drewN ?_ _ | refine blk_drew ?_ | refine blk_alloc ?_ _)); exact BK289.out⟩, ⟨by (with_reducible repeat (first | refine blk_drewN ?_ _ | refine blk_drew ?_ | refine blk_alloc ?_ _)); exact BK290.out⟩, ⟨by repeat (first | (with_reducible first | exact HB.out | apply below_alloc | apply pw_below_drewN | apply below_drew1 | refine below_set ?_ GE289.out | refine below_set ?_ GE290.out) | exact HB.out)⟩⟩
          · replace c14 := Bool.eq_false_iff.mpr c14
            subst c14
            have H1 : (if x12_1 ≥ (wrap64 (2 + (wrap64 (Int.tmod a0 20)))) then (if x12_1 < (wrap64 ((wrap64 (2 + (wrap64 (Int.tmod a0 20)))) + (wrap64 (1 + (wrap64 (Int.tmod a1 8)))))) then (if x12_1 ≥ (wrap64 (2 + (wrap64 (Int.tmod a2 20)))) then (norialaw14_ExtOverlaps.l0 k1 (decide (x12_1 < (wrap64 ((wrap64 (2 + (wrap64 (Int.tmod a2 20)))) + (wrap64 (1 + (wrap64 (Int.tmod a3 8)))))))) (wrap64 (x12_1 + 1)) (wrap64 (2 + (wrap64 (Int.tmod a0 20)))) (wrap64 (1 + (wrap64 (Int.tmod a1 8)))) (wrap64 (2 + (wrap64 (Int.tmod a2 20)))) (wrap64 (1 + (wrap64 (Int.tmod a3 8))))) else (norialaw14_ExtOverlaps.l0 k1 false (wrap64 (x12_1 + 1)) (wrap64 (2 + (wrap64 (Int.tmod a0 20)))) (wrap64 (1 + (wrap64 (Int.tmod a1 8)))) (wrap64 (2 + (wrap64 (Int.tmod a2 20)))) (wrap64 (1 + (wrap64 (Int.tmod a3 8)))))) else (norialaw14_ExtOverlaps.l0 k1 false (wrap64 (x12_1 + 1)) (wrap64 (2 + (wrap64 (Int.tmod a0 20)))) (wrap64 (1 + (wrap64 (Int.tmod a1 8)))) (wrap64 (2 + (wrap64 (Int.tmod a2 20)))) (wrap64 (1 + (wrap64 (Int.tmod a3 8)))))) else (norialaw14_ExtOverlaps.l0 k1 false (wrap64 (x12_1 + 1)) (wrap64 (2 + (wrap64 (Int.tmod a0 20)))) (wrap64 (1 + (wrap64 (Int.tmod a1 8)))) (wrap64 (2 + (wrap64 (Int.tmod a2 20)))) (wrap64 (1 + (wrap64 (Int.tmod a3 8)))))) = some r := by rw [if_neg (show ¬ (false = true) by decide)] at H; exact H
            clear H
            have H := H1
            clear H1
            by_cases c15 : x12_1 ≥ (wrap64 (2 + (wrap64 (Int.tmod a0 20))))
            · rw [if_pos c15] at H
              have c15b0 : decide ((wrap64 (2 + (wrap64 (Int.tmod a0 20)))) ≤ x12_1) = true := decide_eq_true c15
              clear c15
              by_cases c16 : x12_1 < (wrap64 ((wrap64 (2 + (wrap64 (Int.tmod a0 20)))) + (wrap64 (1 + (wrap64 (Int.tmod a1 8))))))
              · rw [if_pos c16] at H
                have c16b0 : decide (x12_1 < (wrap64 ((wrap64 (2 + (wrap64 (Int.tmod a0 20)))) + (wrap64 (1 + (wrap64 (Int.tmod a1 8))))))) = true := decide_eq_true c16
                clear c16
                by_cases c17 : x12_1 ≥ (wrap64 (2 + (wrap64 (Int.tmod a2 20))))
                · rw [if_pos c17] at H
                  have c17b0 : decide ((wrap64 (2 + (wrap64 (Int.tmod a2 20)))) ≤ x12_1) = true := decide_eq_true c17
                  clear c17
                  have H' := Aside0.mk H
                  clear H
                  have hnb18 := NB289_290.out
                  have hnc18 := NB290_289.out
                  have hcz19_0 : wr.cell? ⟨gb289, 0, none⟩ = some (.int .i64 (wrap64 (2 + (wrap64 (Int.tmod a0 20))))) := (blk_cell BK289.out 0).trans rfl
                  have hcz19_1 : wr.cell? ⟨gb289, 1, none⟩ = some (.int .i64 (wrap64 (1 + (wrap64 (Int.tmod a1 8))))) := (blk_cell BK289.out 1).trans rfl
                  have hfz19_0 := blk_frozen BK289.out 0
                  have hfz19_1 := blk_frozen BK289.out 1
                  have hcz20_0 : wr.cell? ⟨gb290, 0, none⟩ = some (.int .i64 (wrap64 (2 + (wrap64 (Int.tmod a2 20))))) := (blk_cell BK290.out 0).trans rfl
                  have hcz20_1 : wr.cell? ⟨gb290, 1, none⟩ = some (.int .i64 (wrap64 (1 + (wrap64 (Int.tmod a3 8))))) := (blk_cell BK290.out 1).trans rfl
                  have hfz20_0 := blk_frozen BK290.out 0
                  have hfz20_1 := blk_frozen BK290.out 1
                  go_wp2
                  go_roundg k1
                  case measure => have := HK1.out; omega
                  case rel => exact ⟨(decide (x12_1 < (wrap64 ((wrap64 (2 + (wrap64 (Int.tmod a2 20)))) + (wrap64 (1 + (wrap64 (Int.tmod a3 8)))))))), (wrap64 (x12_1 + 1)), (by first | rfl | (simp; done) | (simp [*]; done)), (by first | rfl | (simp; done) | (simp [*]; done)), H', ⟨by have := HK1.out; omega⟩, ⟨by (with_reducible repeat (first | refine blk_drewN ?_ _ | refine blk_drew ?_ | refine blk_alloc ?_ _)); exact BK289.out⟩, ⟨by (with_reducible repeat (first | refine blk_drewN ?_ _ | refine blk_drew ?_ | refine blk_alloc ?_ _)); exact BK290.out⟩, ⟨by repeat (first | (with_reducible first | exact HB.out | apply below_alloc | apply pw_below_drewN | apply below_drew1 | refine below_set ?_ GE289.out | refine below_set ?_ GE290.out) | exact HB.out)⟩⟩
                · rw [if_neg c17] at H
                  have c17b0 : decide ((wrap64 (2 + (wrap64 (Int.tmod a2 20)))) ≤ x12_1) = false := decide_eq_false c17
                  clear c17
                  have H' := Aside0.mk H
                  clear H
                  have hnb21 := NB289_290.out
                  have hnc21 := NB290_289.out
                  have hcz22_0 : wr.cell? ⟨gb289, 0, none⟩ = some (.int .i64 (wrap64 (2 + (wrap64 (Int.tmod a0 20))))) := (blk_cell BK289.out 0).trans rfl
                  have hcz22_1 : wr.cell? ⟨gb289, 1, none⟩ = some (.int .i64 (wrap64 (1 + (wrap64 (Int.tmod a1 8))))) := (blk_cell BK289.out 1).trans rfl
                  have hfz22_0 := blk_frozen BK289.out 0
                  have hfz22_1 := blk_frozen BK289.out 1
                  have hcz23_0 : wr.cell? ⟨gb290, 0, none⟩ = some (.int .i64 (wrap64 (2 + (wrap64 (Int.tmod a2 20))))) := (blk_cell BK290.out 0).trans rfl
                  have hcz23_1 : wr.cell? ⟨gb290, 1, none⟩ = some (.int .i64 (wrap64 (1 + (wrap64 (Int.tmod a3 8))))) := (blk_cell BK290.out 1).trans rfl
                  have hfz23_0 := blk_frozen BK290.out 0
                  have hfz23_1 := blk_frozen BK290.out 1
                  go_wp2
                  go_roundg k1
                  case measure => have := HK1.out; omega
                  case rel => exact ⟨(false), (wrap64 (x12_1 + 1)), (by first | rfl | (simp; done) | (simp [*]; done)), (by first | rfl | (simp; done) | (simp [*]; done)), H', ⟨by have := HK1.out; omega⟩, ⟨by (with_reducible repeat (first | refine blk_drewN ?_ _ | refine blk_drew ?_ | refine blk_alloc ?_ _)); exact BK289.out⟩, ⟨by (with_reducible repeat (first | refine blk_drewN ?_ _ | refine blk_drew ?_ | refine blk_alloc ?_ _)); exact BK290.out⟩, ⟨by repeat (first | (with_reducible first | exact HB.out | apply below_alloc | apply pw_below_drewN | apply below_drew1 | refine below_set ?_ GE289.out | refine below_set ?_ GE290.out) | exact HB.out)⟩⟩
              · rw [if_neg c16] at H
                have c16b0 : decide (x12_1 < (wrap64 ((wrap64 (2 + (wrap64 (Int.tmod a0 20)))) + (wrap64 (1 + (wrap64 (Int.tmod a1 8))))))) = false := decide_eq_false c16
                clear c16
                have H' := Aside0.mk H
                clear H
                have hnb24 := NB289_290.out
                have hnc24 := NB290_289.out
                have hcz25_0 : wr.cell? ⟨gb289, 0, none⟩ = some (.int .i64 (wrap64 (2 + (wrap64 (Int.tmod a0 20))))) := (blk_cell BK289.out 0).trans rfl
                have hcz25_1 : wr.cell? ⟨gb289, 1, none⟩ = some (.int .i64 (wrap64 (1 + (wrap64 (Int.tmod a1 8))))) := (blk_cell BK289.out 1).trans rfl
                have hfz25_0 := blk_frozen BK289.out 0
                have hfz25_1 := blk_frozen BK289.out 1
                go_wp2
                go_roundg k1
                case measure => have := HK1.out; omega
                case rel => exact ⟨(false), (wrap64 (x12_1 + 1)), (by first | rfl | (simp; done) | (simp [*]; done)), (by first | rfl | (simp; done) | (simp [*]; done)), H', ⟨by have := HK1.out; omega⟩, ⟨by (with_reducible repeat (first | refine blk_drewN ?_ _ | refine blk_drew ?_ | refine blk_alloc ?_ _)); exact BK289.out⟩, ⟨by (with_reducible repeat (first | refine blk_drewN ?_ _ | refine blk_drew ?_ | refine blk_alloc ?_ _)); exact BK290.out⟩, ⟨by repeat (first | (with_reducible first | exact HB.out | apply below_alloc | apply pw_below_drewN | apply below_drew1 | refine below_set ?_ GE289.out | refine below_set ?_ GE290.out) | exact HB.out)⟩⟩
            · rw [if_neg c15] at H
              have c15b0 : decide ((wrap64 (2 + (wrap64 (Int.tmod a0 20)))) ≤ x12_1) = false := decide_eq_false c15
              clear c15
              have H' := Aside0.mk H
              clear H
              have hnb26 := NB289_290.out
              have hnc26 := NB290_289.out
              have hcz27_0 : wr.cell? ⟨gb289, 0, none⟩ = some (.int .i64 (wrap64 (2 + (wrap64 (Int.tmod a0 20))))) := (blk_cell BK289.out 0).trans rfl
              have hcz27_1 : wr.cell? ⟨gb289, 1, none⟩ = some (.int .i64 (wrap64 (1 + (wrap64 (Int.tmod a1 8))))) := (blk_cell BK289.out 1).trans rfl
              have hfz27_0 := blk_frozen BK289.out 0
              have hfz27_1 := blk_frozen BK289.out 1
              go_wp2
              go_roundg k1
              case measure => have := HK1.out; omega
              case rel => exact ⟨(false), (wrap64 (x12_1 + 1)), (by first | rfl | (simp; done) | (simp [*]; done)), (by first | rfl | (simp; done) | (simp [*]; done)), H', ⟨by have := HK1.out; omega⟩, ⟨by (with_reducible repeat (first | refine blk_drewN ?_ _ | refine blk_drew ?_ | refine blk_alloc ?_ _)); exact BK289.out⟩, ⟨by (with_reducible repeat (first | refine blk_drewN ?_ _ | refine blk_drew ?_ | refine blk_alloc ?_ _)); exact BK290.out⟩, ⟨by repeat (first | (with_reducible first | exact HB.out | apply below_alloc | apply pw_below_drewN | apply below_drew1 | refine below_set ?_ GE289.out | refine below_set ?_ GE290.out) | exact HB.out)⟩⟩
        · rw [if_neg c13] at H
          have c13b0 : decide (x12_1 < 40) = false := decide_eq_false c13
          clear c13
          replace H := Option.bind_eq_some_iff.mp H
          obtain ⟨t291, A280, H⟩ := H
          replace H : (if (t291 == x11_1) = true then ((ext_Overlap.f (wrap64 (2 + (wrap64 (Int.tmod a2 20)))) (wrap64 (1 + (wrap64 (Int.tmod a3 8)))) (wrap64 (2 + (wrap64 (Int.tmod a0 20)))) (wrap64 (1 + (wrap64 (Int.tmod a1 8))))).bind fun t292 => (if (t292 == x11_1) = true then ((ext_Check.f (wrap64 (2 + (wrap64 (Int.tmod a0 20)))) (wrap64 (1 + (wrap64 (Int.tmod a1 8)))) 40).bind fun t293 => (if t293 = 0 then ((ext_Check.f (wrap64 (2 + (wrap64 (Int.tmod a0 20)))) (wrap64 (1 + (wrap64 (Int.tmod a1 8)))) (wrap64 ((wrap64 (2 + (wrap64 (Int.tmod a0 20)))) + (wrap64 (1 + (wrap64 (Int.tmod a1 8))))))).bind fun t294 => (if t294 = 0 then ((ext_Check.f (wrap64 (2 + (wrap64 (Int.tmod a0 20)))) (wrap64 (1 + (wrap64 (Int.tmod a1 8)))) (wrap64 ((wrap64 ((wrap64 (2 + (wrap64 (Int.tmod a0 20)))) + (wrap64 (1 + (wrap64 (Int.tmod a1 8)))))) - 1))).bind fun t295 => (some (t295 != 0))) else (none))) else (none))) else (none))) else (none)) = some r := H
          have A28 := Aside0.mk A280
          clear A280
          by_cases c29 : (t291 == x11_1) = true
          · rw [if_pos c29] at H
            have c29b0 : (t291 == x11_1) = true := c29
            (try (have c29b1 : decide (t291 = x11_1) = true := by simpa using c29))
            (try (have c29b2 : (t291 == x11_1) = true := by simpa using c29))
            clear c29
            replace H := Option.bind_eq_some_iff.mp H
            obtain ⟨t292, A300, H⟩ := H
            replace H : (if (t292 == x11_1) = true then ((ext_Check.f (wrap64 (2 + (wrap64 (Int.tmod a0 20)))) (wrap64 (1 + (wrap64 (Int.tmod a1 8)))) 40).bind fun t293 => (if t293 = 0 then ((ext_Check.f (wrap64 (2 + (wrap64 (Int.tmod a0 20)))) (wrap64 (1 + (wrap64 (Int.tmod a1 8)))) (wrap64 ((wrap64 (2 + (wrap64 (Int.tmod a0 20)))) + (wrap64 (1 + (wrap64 (Int.tmod a1 8))))))).bind fun t294 => (if t294 = 0 then ((ext_Check.f (wrap64 (2 + (wrap64 (Int.tmod a0 20)))) (wrap64 (1 + (wrap64 (Int.tmod a1 8)))) (wrap64 ((wrap64 ((wrap64 (2 + (wrap64 (Int.tmod a0 20)))) + (wrap64 (1 + (wrap64 (Int.tmod a1 8)))))) - 1))).bind fun t295 => (some (t295 != 0))) else (none))) else (none))) else (none)) = some r := H
            have A30 := Aside0.mk A300
            clear A300
            by_cases c31 : (t292 == x11_1) = true
            · rw [if_pos c31] at H
              have c31b0 : (t292 == x11_1) = true := c31
              (try (have c31b1 : decide (t292 = x11_1) = true := by simpa using c31))
              (try (have c31b2 : (t292 == x11_1) = true := by simpa using c31))
              clear c31
              replace H := Option.bind_eq_some_iff.mp H
              obtain ⟨t293, A320, H⟩ := H
              replace H : (if t293 = 0 then ((ext_Check.f (wrap64 (2 + (wrap64 (Int.tmod a0 20)))) (wrap64 (1 + (wrap64 (Int.tmod a1 8)))) (wrap64 ((wrap64 (2 + (wrap64 (Int.tmod a0 20)))) + (wrap64 (1 + (wrap64 (Int.tmod a1 8))))))).bind fun t294 => (if t294 = 0 then ((ext_Check.f (wrap64 (2 + (wrap64 (Int.tmod a0 20)))) (wrap64 (1 + (wrap64 (Int.tmod a1 8)))) (wrap64 ((wrap64 ((wrap64 (2 + (wrap64 (Int.tmod a0 20)))) + (wrap64 (1 + (wrap64 (Int.tmod a1 8)))))) - 1))).bind fun t295 => (some (t295 != 0))) else (none))) else (none)) = some r := H
              have A32 := Aside0.mk A320
              clear A320
              by_cases c33 : t293 = 0
              · rw [if_pos c33] at H
                have c33b0 : (t293 == 0) = true := beq_iff_eq.mpr c33
                have c33b1 : (t293 != 0) = false := bne_eq_false_iff_eq.mpr c33
                clear c33
                replace H := Option.bind_eq_some_iff.mp H
                obtain ⟨t294, A340, H⟩ := H
                replace H : (if t294 = 0 then ((ext_Check.f (wrap64 (2 + (wrap64 (Int.tmod a0 20)))) (wrap64 (1 + (wrap64 (Int.tmod a1 8)))) (wrap64 ((wrap64 ((wrap64 (2 + (wrap64 (Int.tmod a0 20)))) + (wrap64 (1 + (wrap64 (Int.tmod a1 8)))))) - 1))).bind fun t295 => (some (t295 != 0))) else (none)) = some r := H
                have A34 := Aside0.mk A340
                clear A340
                by_cases c35 : t294 = 0
                · rw [if_pos c35] at H
                  have c35b0 : (t294 == 0) = true := beq_iff_eq.mpr c35
                  have c35b1 : (t294 != 0) = false := bne_eq_false_iff_eq.mpr c35
                  clear c35
                  replace H := Option.bind_eq_some_iff.mp H
                  obtain ⟨t295, A360, H⟩ := H
                  replace H : (some (t295 != 0)) = some r := H
                  have A36 := Aside0.mk A360
                  clear A360
                  obtain rfl := Option.some.inj H
                  have hnb37 := NB289_290.out
                  have hnc37 := NB290_289.out
                  have hcz38_0 : wr.cell? ⟨gb289, 0, none⟩ = some (.int .i64 (wrap64 (2 + (wrap64 (Int.tmod a0 20))))) := (blk_cell BK289.out 0).trans rfl
                  have hcz38_1 : wr.cell? ⟨gb289, 1, none⟩ = some (.int .i64 (wrap64 (1 + (wrap64 (Int.tmod a1 8))))) := (blk_cell BK289.out 1).trans rfl
                  have hfz38_0 := blk_frozen BK289.out 0
                  have hfz38_1 := blk_frozen BK289.out 1
                  have hcz39_0 : wr.cell? ⟨gb290, 0, none⟩ = some (.int .i64 (wrap64 (2 + (wrap64 (Int.tmod a2 20))))) := (blk_cell BK290.out 0).trans rfl
                  have hcz39_1 : wr.cell? ⟨gb290, 1, none⟩ = some (.int .i64 (wrap64 (1 + (wrap64 (Int.tmod a3 8))))) := (blk_cell BK290.out 1).trans rfl
                  have hfz39_0 := blk_frozen BK290.out 0
                  have hfz39_1 := blk_frozen BK290.out 1
                  go_wp2_with (first | ((with_reducible refine gate_callee (f := 13) rfl ?_); refine goesL_ (some 70) rfl rfl Try.func13 (by kernel_rfl) rfl #[.agg #[.int .i64 (wrap64 (2 + (wrap64 (Int.tmod a0 20)))), .int .i64 (wrap64 (1 + (wrap64 (Int.tmod a1 8))))], .agg #[.int .i64 (wrap64 (2 + (wrap64 (Int.tmod a2 20)))), .int .i64 (wrap64 (1 + (wrap64 (Int.tmod a3 8))))]] rfl (by (try simp only [List.map_toArray, List.map_cons, List.map_nil]); first | done | rfl | (simp only [List.length_drop, List.length_take]; rfl)) ?_; (with_reducible refine (ext_Overlap.calls (wrap64 (2 + (wrap64 (Int.tmod a0 20)))) (wrap64 (1 + (wrap64 (Int.tmod a1 8)))) (wrap64 (2 + (wrap64 (Int.tmod a2 20)))) (wrap64 (1 + (wrap64 (Int.tmod a3 8)))) t291 _ A28.out).mono ?_); rintro e w40 ⟨rfl, hb⟩; refine ⟨_, rfl, ?_⟩; have n0_ := Aside0.mk (blk_below (g := gb289) (o := .cells #[.int .i64 (wrap64 (2 + (wrap64 (Int.tmod a0 20)))), .int .i64 (wrap64 (1 + (wrap64 (Int.tmod a1 8))))] 23 (0, 0)) (by (with_reducible repeat (first | refine blk_drewN ?_ _ | refine blk_drew ?_ | refine blk_alloc ?_ _)); exact BK289.out) hb); have n1_ := Aside0.mk (blk_below (g := gb290) (o := .cells #[.int .i64 (wrap64 (2 + (wrap64 (Int.tmod a2 20)))), .int .i64 (wrap64 (1 + (wrap64 (Int.tmod a3 8))))] 23 (0, 0)) (by (with_reducible repeat (first | refine blk_drewN ?_ _ | refine blk_drew ?_ | refine blk_alloc ?_ _)); exact BK290.out) hb); have n2_ := Aside0.mk (below_step (by repeat (first | (with_reducible first | exact HB.out | apply below_alloc | apply pw_below_drewN | apply below_drew1 | refine below_set ?_ GE289.out | refine below_set ?_ GE290.out) | exact HB.out)) hb); clear BK289; clear BK290; clear HB; have BK289 := n0_; have BK290 := n1_; have HB := n2_; clear n0_ n1_ n2_; (try clear hb); (try clear hb2); (try clear hk); (try clear hi); have hcz41_0 : w40.cell? ⟨gb290, 0, none⟩ = some (.int .i64 (wrap64 (2 + (wrap64 (Int.tmod a2 20))))) := (blk_cell BK290.out 0).trans rfl; have hcz41_1 : w40.cell? ⟨gb290, 1, none⟩ = some (.int .i64 (wrap64 (1 + (wrap64 (Int.tmod a3 8))))) := (blk_cell BK290.out 1).trans rfl; have hfz41_0 := blk_frozen BK290.out 0; have hfz41_1 := blk_frozen BK290.out 1; have hcz42_0 : w40.cell? ⟨gb289, 0, none⟩ = some (.int .i64 (wrap64 (2 + (wrap64 (Int.tmod a0 20))))) := (blk_cell BK289.out 0).trans rfl; have hcz42_1 : w40.cell? ⟨gb289, 1, none⟩ = some (.int .i64 (wrap64 (1 + (wrap64 (Int.tmod a1 8))))) := (blk_cell BK289.out 1).trans rfl; have hfz42_0 := blk_frozen BK289.out 0; have hfz42_1 := blk_frozen BK289.out 1) | (go_at_call 13; (with_reducible refine (ext_Overlap.calls (wrap64 (2 + (wrap64 (Int.tmod a2 20)))) (wrap64 (1 + (wrap64 (Int.tmod a3 8)))) (wrap64 (2 + (wrap64 (Int.tmod a0 20)))) (wrap64 (1 + (wrap64 (Int.tmod a1 8)))) t292 _ A30.out).mono ?_); rintro e w43 ⟨rfl, hb⟩; have n0_ := Aside0.mk (blk_below (g := gb289) (o := .cells #[.int .i64 (wrap64 (2 + (wrap64 (Int.tmod a0 20)))), .int .i64 (wrap64 (1 + (wrap64 (Int.tmod a1 8))))] 23 (0, 0)) (by (with_reducible repeat (first | refine blk_drewN ?_ _ | refine blk_drew ?_ | refine blk_alloc ?_ _)); exact BK289.out) hb); have n1_ := Aside0.mk (blk_below (g := gb290) (o := .cells #[.int .i64 (wrap64 (2 + (wrap64 (Int.tmod a2 20)))), .int .i64 (wrap64 (1 + (wrap64 (Int.tmod a3 8))))] 23 (0, 0)) (by (with_reducible repeat (first | refine blk_drewN ?_ _ | refine blk_drew ?_ | refine blk_alloc ?_ _)); exact BK290.out) hb); have n2_ := Aside0.mk (below_step (by repeat (first | (with_reducible first | exact HB.out | apply below_alloc | apply pw_below_drewN | apply below_drew1 | refine below_set ?_ GE289.out | refine below_set ?_ GE290.out) | exact HB.out)) hb); clear BK289; clear BK290; clear HB; have BK289 := n0_; have BK290 := n1_; have HB := n2_; clear n0_ n1_ n2_; (try clear hb); (try clear hb2); (try clear hk); (try clear hi); have hcz44_0 : w43.cell? ⟨gb289, 0, none⟩ = some (.int .i64 (wrap64 (2 + (wrap64 (Int.tmod a0 20))))) := (blk_cell BK289.out 0).trans rfl; have hcz44_1 : w43.cell? ⟨gb289, 1, none⟩ = some (.int .i64 (wrap64 (1 + (wrap64 (Int.tmod a1 8))))) := (blk_cell BK289.out 1).trans rfl; have hfz44_0 := blk_frozen BK289.out 0; have hfz44_1 := blk_frozen BK289.out 1) | (go_at_call 10; (with_reducible refine (ext_Check.calls (wrap64 (2 + (wrap64 (Int.tmod a0 20)))) (wrap64 (1 + (wrap64 (Int.tmod a1 8)))) 40 t293 _ A32.out).mono ?_); rintro e w45 ⟨rfl, hb⟩; have n0_ := Aside0.mk (blk_below (g := gb289) (o := .cells #[.int .i64 (wrap64 (2 + (wrap64 (Int.tmod a0 20)))), .int .i64 (wrap64 (1 + (wrap64 (Int.tmod a1 8))))] 23 (0, 0)) (by (with_reducible repeat (first | refine blk_drewN ?_ _ | refine blk_drew ?_ | refine blk_alloc ?_ _)); exact BK289.out) hb); have n1_ := Aside0.mk (blk_below (g := gb290) (o := .cells #[.int .i64 (wrap64 (2 + (wrap64 (Int.tmod a2 20)))), .int .i64 (wrap64 (1 + (wrap64 (Int.tmod a3 8))))] 23 (0, 0)) (by (with_reducible repeat (first | refine blk_drewN ?_ _ | refine blk_drew ?_ | refine blk_alloc ?_ _)); exact BK290.out) hb); have n2_ := Aside0.mk (below_step (by repeat (first | (with_reducible first | exact HB.out | apply below_alloc | apply pw_below_drewN | apply below_drew1 | refine below_set ?_ GE289.out | refine below_set ?_ GE290.out) | exact HB.out)) hb); clear BK289; clear BK290; clear HB; have BK289 := n0_; have BK290 := n1_; have HB := n2_; clear n0_ n1_ n2_; (try clear hb); (try clear hb2); (try clear hk); (try clear hi); have hcz46_0 : w45.cell? ⟨gb289, 0, none⟩ = some (.int .i64 (wrap64 (2 + (wrap64 (Int.tmod a0 20))))) := (blk_cell BK289.out 0).trans rfl; have hcz46_1 : w45.cell? ⟨gb289, 1, none⟩ = some (.int .i64 (wrap64 (1 + (wrap64 (Int.tmod a1 8))))) := (blk_cell BK289.out 1).trans rfl; have hfz46_0 := blk_frozen BK289.out 0; have hfz46_1 := blk_frozen BK289.out 1) | (go_at_call 10; (with_reducible refine (ext_Check.calls (wrap64 (2 + (wrap64 (Int.tmod a0 20)))) (wrap64 (1 + (wrap64 (Int.tmod a1 8)))) (wrap64 ((wrap64 (2 + (wrap64 (Int.tmod a0 20)))) + (wrap64 (1 + (wrap64 (Int.tmod a1 8)))))) t294 _ A34.out).mono ?_); rintro e w47 ⟨rfl, hb⟩; have n0_ := Aside0.mk (blk_below (g := gb289) (o := .cells #[.int .i64 (wrap64 (2 + (wrap64 (Int.tmod a0 20)))), .int .i64 (wrap64 (1 + (wrap64 (Int.tmod a1 8))))] 23 (0, 0)) (by (with_reducible repeat (first | refine blk_drewN ?_ _ | refine blk_drew ?_ | refine blk_alloc ?_ _)); exact BK289.out) hb); have n1_ := Aside0.mk (blk_below (g := gb290) (o := .cells #[.int .i64 (wrap64 (2 + (wrap64 (Int.tmod a2 20)))), .int .i64 (wrap64 (1 + (wrap64 (Int.tmod a3 8))))] 23 (0, 0)) (by (with_reducible repeat (first | refine blk_drewN ?_ _ | refine blk_drew ?_ | refine blk_alloc ?_ _)); exact BK290.out) hb); have n2_ := Aside0.mk (below_step (by repeat (first | (with_reducible first | exact HB.out | apply below_alloc | apply pw_below_drewN | apply below_drew1 | refine below_set ?_ GE289.out | refine below_set ?_ GE290.out) | exact HB.out)) hb); clear BK289; clear BK290; clear HB; have BK289 := n0_; have BK290 := n1_; have HB := n2_; clear n0_ n1_ n2_; (try clear hb); (try clear hb2); (try clear hk); (try clear hi); have hcz48_0 : w47.cell? ⟨gb289, 0, none⟩ = some (.int .i64 (wrap64 (2 + (wrap64 (Int.tmod a0 20))))) := (blk_cell BK289.out 0).trans rfl; have hcz48_1 : w47.cell? ⟨gb289, 1, none⟩ = some (.int .i64 (wrap64 (1 + (wrap64 (Int.tmod a1 8))))) := (blk_cell BK289.out 1).trans rfl; have hfz48_0 := blk_frozen BK289.out 0; have hfz48_1 := blk_frozen BK289.out 1) | (go_at_call 10; (with_reducible refine (ext_Check.calls (wrap64 (2 + (wrap64 (Int.tmod a0 20)))) (wrap64 (1 + (wrap64 (Int.tmod a1 8)))) (wrap64 ((wrap64 ((wrap64 (2 + (wrap64 (Int.tmod a0 20)))) + (wrap64 (1 + (wrap64 (Int.tmod a1 8)))))) - 1)) t295 _ A36.out).mono ?_); rintro e w49 ⟨rfl, hb⟩; have n0_ := Aside0.mk (blk_below (g := gb289) (o := .cells #[.int .i64 (wrap64 (2 + (wrap64 (Int.tmod a0 20)))), .int .i64 (wrap64 (1 + (wrap64 (Int.tmod a1 8))))] 23 (0, 0)) (by (with_reducible repeat (first | refine blk_drewN ?_ _ | refine blk_drew ?_ | refine blk_alloc ?_ _)); exact BK289.out) hb); have n1_ := Aside0.mk (blk_below (g := gb290) (o := .cells #[.int .i64 (wrap64 (2 + (wrap64 (Int.tmod a2 20)))), .int .i64 (wrap64 (1 + (wrap64 (Int.tmod a3 8))))] 23 (0, 0)) (by (with_reducible repeat (first | refine blk_drewN ?_ _ | refine blk_drew ?_ | refine blk_alloc ?_ _)); exact BK290.out) hb); have n2_ := Aside0.mk (below_step (by repeat (first | (with_reducible first | exact HB.out | apply below_alloc | apply pw_below_drewN | apply below_drew1 | refine below_set ?_ GE289.out | refine below_set ?_ GE290.out) | exact HB.out)) hb); clear BK289; clear BK290; clear HB; have BK289 := n0_; have BK290 := n1_; have HB := n2_; clear n0_ n1_ n2_; (try clear hb); (try clear hb2); (try clear hk); (try clear hi)))
                  go_ret
                  exact ⟨by first | rfl | (simp [errW_none, errW_some] <;> rfl) | (simp [*, errW_none, errW_some] <;> rfl), by repeat (first | (with_reducible first | exact HB.out | apply below_alloc | apply pw_below_drewN | apply below_drew1 | refine below_set ?_ GE289.out | refine below_set ?_ GE290.out) | exact HB.out)⟩
                · rw [if_neg c35] at H
                  exact absurd H (by simp)
              · rw [if_neg c33] at H
                exact absurd H (by simp)
            · rw [if_neg c31] at H
              exact absurd H (by simp)
          · rw [if_neg c29] at H
            exact absurd H (by simp)
  · replace c6 := Bool.eq_false_iff.mpr c6
    subst c6
    have H1 : (none) = some r := by rw [if_neg (show ¬ (false = true) by decide)] at H; exact H
    clear H
    have H := H1
    clear H1
    exact absurd H (by simp)

/-- THE ONE PURE STATEMENT of norialaw14_ExtOverlaps: yours. -/
def norialaw14_ExtOverlaps.Pure : Prop := ∀ (a0 : Int) (a1 : Int) (a2 : Int) (a3 : Int), (Lit.int .u8 a0).wf = true → (Lit.int .u8 a1).wf = true → (Lit.int .u8 a2).wf = true → (Lit.int .u8 a3).wf = true → ∃ k, norialaw14_ExtOverlaps.f k a0 a1 a2 a3 = some true
theorem norialaw14_ExtOverlaps.walk (P : norialaw14_ExtOverlaps.Pure) (a0 : Int) (a1 : Int) (a2 : Int) (a3 : Int) (w : World) (w0 : (Lit.int .u8 a0).wf = true) (w1 : (Lit.int .u8 a1).wf = true) (w2 : (Lit.int .u8 a2).wf = true) (w3 : (Lit.int .u8 a3).wf = true) :
    Calls Try.prog 8 #[.int .u8 a0, .int .u8 a1, .int .u8 a2, .int .u8 a3] w fun e w' => e = .returned (.bool true) ∧ Below w.heap.size w w' := by
  obtain ⟨k, h⟩ := P a0 a1 a2 a3 w0 w1 w2 w3
  refine (norialaw14_ExtOverlaps.calls k a0 a1 a2 a3 true w h).mono ?_
  rintro e w' ⟨rfl, hd⟩
  exact ⟨rfl, hd⟩

end Go.Proofs.Ytijhfdhcnagkcaa.PAll
