-- Printed by this session's own program (wip/tools/pp.py): out of the translation. Lean checks it.
import Derived.Test.YtaflcaillcjmmaaGreatDoorPAllx0
import Derived.Test.YtaflcaillcjmmaaGreatDoorPAllx3
import Derived.Test.YtaflcaillcjmmaaGreatDoorPAllx4
namespace Go.Proofs.YtaflcaillcjmmaaGreatDoor.PAll
open Go.Proofs.YtaflcaillcjmmaaGreatDoor.Help
open Go.RowKit Go.Proofs.YtaflcaillcjmmaaGreatDoorW.PrintWords Go.Proofs.YtaflcaillcjmmaaGreatDoorW.PrintLast Go.Proofs.YtaflcaillcjmmaaGreatDoorW.PrintMore
attribute [local go_sem] run_fl_eql run_fl_neq run_fl_lss run_fl_leq run_fl_gtr run_fl_geq unary_fl_neg run_cx_eql run_cx_neq run_cx_make run_cx_real run_cx_imag run_fl_of run_fl_to64 run_fl_add run_fl_sub run_fl_mul run_cx_add run_cx_sub run_cx_store run_fl_store str_gtr str_leq str_geq cell_put3_0 cell_put3_1 cell_put4_0 cell_put4_1 max2_int min2_int max_two min_two max_three min_three max_four min_four   -- for this text's walks alone
set_option linter.unusedVariables false
set_option linter.unusedSimpArgs false

/-! ### val_Parse: function 5 -/
def val_Parse.j0 : Nat → ByteArray → Bool → Option (Int × Int × ByteArray × (Nat × Nat) × Int)
  | 0, _, _ => none
  | k + 1, x0, x51 => if x51 = true then (some (0, 0, (⟨#[]⟩ : ByteArray), ((0, 0) : Nat × Nat), 2)) else ((strconv_ParseInt.f x0 10 64).bind fun bt142 => (if bt142.2.isNone = true then (some (1, bt142.1, (⟨#[]⟩ : ByteArray), ((0, 0) : Nat × Nat), 0)) else (some (0, 0, (⟨#[]⟩ : ByteArray), ((0, 0) : Nat × Nat), 1))))
def val_Parse.f (k : Nat) (a0 : ByteArray) : Option (Int × Int × ByteArray × (Nat × Nat) × Int) := if a0.toList = ([45] : List UInt8) then (some (0, 0, (⟨#[]⟩ : ByteArray), ((0, 0) : Nat × Nat), 0)) else ((strings_HasPrefix.f a0 (⟨#[34]⟩ : ByteArray)).bind fun t131 => (if t131 = true then (if 1 ≤ (a0.size : Int) then ((val_word.f k (a0.extract 1 a0.size)).bind fun bt132 => (some (bt132.1, bt132.2.1, bt132.2.2.1, bt132.2.2.2.1, bt132.2.2.2.2))) else (none)) else ((strings_HasSuffix.f a0 (⟨#[105]⟩ : ByteArray)).bind fun t137 => (if t137 = true then ((point_Parse.f k a0).bind fun bt138 => (if bt138.2 = 0 then (some (3, 0, (⟨#[]⟩ : ByteArray), bt138.1, 0)) else (some (0, 0, (⟨#[]⟩ : ByteArray), ((0, 0) : Nat × Nat), bt138.2)))) else ((strings_TrimPrefix.f a0 (⟨#[45]⟩ : ByteArray)).bind fun t140 => (if t140.toList = ([] : List UInt8) then (val_Parse.j0 k a0 true) else ((strings_Trim.f t140 (⟨#[48, 49, 50, 51, 52, 53, 54, 55, 56, 57]⟩ : ByteArray)).bind fun t141 => (if t141.toList = ([] : List UInt8) then (if (t140.size : Int) > 1 then (if 0 < (t140.size : Int) then (if (bt t140 0) = 48 then (val_Parse.j0 k a0 true) else (val_Parse.j0 k a0 (a0.toList == ([45, 48] : List UInt8)))) else (none)) else (val_Parse.j0 k a0 (a0.toList == ([45, 48] : List UInt8)))) else (val_Parse.j0 k a0 true)))))))))
theorem val_Parse.mono_l : ∀ k, (∀ y0 y1, LeO (val_Parse.j0 k y0 y1) (val_Parse.j0 (k + 1) y0 y1))
  | 0 => fun _ _ r h => by simp [val_Parse.j0] at h
  | k + 1 => by
    have ih0 := val_Parse.mono_l k
    · intro y0 y1
      unfold val_Parse.j0
      repeat' first
      | (with_reducible exact ih0 _ _)
      | (with_reducible exact point_Parse.mono _ _)
      | (with_reducible exact val_word.mono _ _)
      | (with_reducible exact LeO.refl _)
      | (with_reducible exact LeO.none _)
      | (with_reducible refine LeO.ite ?_ ?_)
      | (with_reducible refine LeO.bind ?_ (fun _ => ?_))
      | exact ih0 _ _
      | exact point_Parse.mono _ _
      | exact val_word.mono _ _
      | exact LeO.none _
      | refine LeO.ite ?_ ?_
      | refine LeO.bind ?_ (fun _ => ?_)
theorem val_Parse.mono : ∀ a0 k, LeO (val_Parse.f k a0) (val_Parse.f (k + 1) a0) := by
  intro a0 k
  have ih0 := val_Parse.mono_l k
  unfold val_Parse.f
  repeat' first
      | (with_reducible exact ih0 _ _)
      | (with_reducible exact point_Parse.mono _ _)
      | (with_reducible exact val_word.mono _ _)
      | (with_reducible exact LeO.refl _)
      | (with_reducible exact LeO.none _)
      | (with_reducible refine LeO.ite ?_ ?_)
      | (with_reducible refine LeO.bind ?_ (fun _ => ?_))
      | exact ih0 _ _
      | exact point_Parse.mono _ _
      | exact val_word.mono _ _
      | exact LeO.none _
      | refine LeO.ite ?_ ?_
      | refine LeO.bind ?_ (fun _ => ?_)
set_option maxHeartbeats 8000000 in
set_option maxRecDepth 100000 in
theorem val_Parse.calls (k : Nat) (a0 : ByteArray) (r1 : Int) (r2 : Int) (r3 : ByteArray) (r4 : (Nat × Nat)) (r5 : Int) (w : World) (h : val_Parse.f k a0 = some (r1, r2, r3, r4, r5)) (hG_ : Glob w) :
    Calls Tryz.prog 5 #[.string a0] w fun e w' => e = .returned (.tuple #[.agg #[.int .i64 r1, .int .i64 r2, .string r3, .complex .f64 r4.1 r4.2], .int .i64 r5]) ∧ Below w.heap.size w w' := by
  have HG_ := Aside0.mk hG_
  clear hG_
  have hu25 := Tryz.underlying25
  have hu43 := Tryz.underlying43
  have HB := Aside0.mk (Below.refl w.heap.size w)
  have H : (if a0.toList = ([45] : List UInt8) then (some (0, 0, (⟨#[]⟩ : ByteArray), ((0, 0) : Nat × Nat), 0)) else ((strings_HasPrefix.f a0 (⟨#[34]⟩ : ByteArray)).bind fun t131 => (if t131 = true then (if 1 ≤ (a0.size : Int) then ((val_word.f k (a0.extract 1 a0.size)).bind fun bt132 => (some (bt132.1, bt132.2.1, bt132.2.2.1, bt132.2.2.2.1, bt132.2.2.2.2))) else (none)) else ((strings_HasSuffix.f a0 (⟨#[105]⟩ : ByteArray)).bind fun t137 => (if t137 = true then ((point_Parse.f k a0).bind fun bt138 => (if bt138.2 = 0 then (some (3, 0, (⟨#[]⟩ : ByteArray), bt138.1, 0)) else (some (0, 0, (⟨#[]⟩ : ByteArray), ((0, 0) : Nat × Nat), bt138.2)))) else ((strings_TrimPrefix.f a0 (⟨#[45]⟩ : ByteArray)).bind fun t140 => (if t140.toList = ([] : List UInt8) then (val_Parse.j0 k a0 true) else ((strings_Trim.f t140 (⟨#[48, 49, 50, 51, 52, 53, 54, 55, 56, 57]⟩ : ByteArray)).bind fun t141 => (if t141.toList = ([] : List UInt8) then (if (t140.size : Int) > 1 then (if 0 < (t140.size : Int) then (if (bt t140 0) = 48 then (val_Parse.j0 k a0 true) else (val_Parse.j0 k a0 (a0.toList == ([45, 48] : List UInt8)))) else (none)) else (val_Parse.j0 k a0 (a0.toList == ([45, 48] : List UInt8)))) else (val_Parse.j0 k a0 true)))))))))) = some (r1, r2, r3, r4, r5) := h
  clear h
  by_cases c2 : a0.toList = ([45] : List UInt8)
  · rw [if_pos c2] at H
    have c2b0 : (a0.toList == ([45] : List UInt8)) = true := beq_iff_eq.mpr c2
    have c2b1 : (a0.toList != ([45] : List UInt8)) = false := bne_eq_false_iff_eq.mpr c2
    clear c2
    simp only [Option.some.injEq, Prod.mk.injEq] at H
    obtain ⟨rfl, rfl, rfl, rfl, rfl⟩ := H
    go_enter Tryz.func5, Tryz.ntmps5
    go_wp2_with (first | ((with_reducible refine gate_dst (N := 2) rfl ?_); (try (refine gate_guard (by rfl) ?_; dsimp only)); refine box_event ?hg (N := 2) ?hd (cs := #[.int .i64 0, .int .i64 0, .string (⟨#[]⟩ : ByteArray), .complex .f64 0 0]) (t := 25) ?hr ?_; (case hd => rfl); (case hg => rfl); (case hr => first | (go_simp; done) | (go_simp; rfl)); intro gb130 hg w3 hbox hb; have n0_ := Aside0.mk (below_step (by repeat (first | (with_reducible first | exact HB.out | apply below_alloc | apply pw_below_drewN | apply below_drew1) | exact HB.out)) hb); have n1_ := Aside0.mk (hbox); have n2_ := Aside0.mk ((by rw [hg]; exact (below_size (by repeat (first | (with_reducible first | exact HB.out | apply below_alloc | apply pw_below_drewN | apply below_drew1) | exact HB.out))) : w.heap.size ≤ gb130)); have n3_ := Aside0.mk ((by rw [hg]; exact (below_size (by repeat (first | (with_reducible first | exact HB.out | apply below_alloc | apply pw_below_drewN | apply below_drew1) | exact HB.out))) : w.heap.size ≤ gb130)); clear HB; have HB := n0_; have BK130 := n1_; have GW130 := n2_; have GE130 := n3_; clear n0_ n1_ n2_ n3_; clear hb hbox hg))
    refine wp_scope_labs ?_
    intro G_ hG_
    have hcz4_0 : w3.cell? ⟨gb130, 0, none⟩ = some (.int .i64 0) := (blk_cell BK130.out 0).trans rfl
    have hcz4_1 : w3.cell? ⟨gb130, 1, none⟩ = some (.int .i64 0) := (blk_cell BK130.out 1).trans rfl
    have hcz4_2 : w3.cell? ⟨gb130, 2, none⟩ = some (.string (⟨#[]⟩ : ByteArray)) := (blk_cell BK130.out 2).trans rfl
    have hcz4_3 : w3.cell? ⟨gb130, 3, none⟩ = some (.complex .f64 0 0) := (blk_cell BK130.out 3).trans rfl
    have hfz4_0 := blk_frozen BK130.out 0
    have hfz4_1 := blk_frozen BK130.out 1
    have hfz4_2 := blk_frozen BK130.out 2
    have hfz4_3 := blk_frozen BK130.out 3
    go_wp2
    try rw [labs_ret]
    refine bodyPost_ret (results_ct rfl _ _ gb130 25 #[.int .i64 0, .int .i64 0, .string (⟨#[]⟩ : ByteArray), .complex .f64 0 0] (0, 0) _ rfl (by (with_reducible repeat (first | refine blk_drewN ?_ _ | refine blk_drew ?_ | refine blk_alloc ?_ _)); refine blk_put (cs := #[.int .i64 0, .int .i64 0, .string (⟨#[]⟩ : ByteArray), .complex .f64 0 0]) ?_ 3 _ rfl; (with_reducible repeat (first | refine blk_drewN ?_ _ | refine blk_drew ?_ | refine blk_alloc ?_ _)); refine blk_put (cs := #[.int .i64 0, .int .i64 0, .string (⟨#[]⟩ : ByteArray), .complex .f64 0 0]) ?_ 2 _ rfl; (with_reducible repeat (first | refine blk_drewN ?_ _ | refine blk_drew ?_ | refine blk_alloc ?_ _)); refine blk_put (cs := #[.int .i64 0, .int .i64 0, .string (⟨#[]⟩ : ByteArray), .complex .f64 0 0]) ?_ 1 _ rfl; (with_reducible repeat (first | refine blk_drewN ?_ _ | refine blk_drew ?_ | refine blk_alloc ?_ _)); refine blk_put (cs := #[.int .i64 0, .int .i64 0, .string (⟨#[]⟩ : ByteArray), .complex .f64 0 0]) ?_ 0 _ rfl; (with_reducible repeat (first | refine blk_drewN ?_ _ | refine blk_drew ?_ | refine blk_alloc ?_ _)); exact BK130.out) Tryz.underlying25 rfl (by kernel_rfl)) rfl ?_
    exact ⟨by first | rfl | (simp [errW_none, errW_some] <;> rfl) | (simp [*, errW_none, errW_some] <;> rfl), by repeat (first | (with_reducible first | exact HB.out | apply below_alloc | apply pw_below_drewN | apply below_drew1 | refine below_set ?_ GE130.out) | exact HB.out)⟩
  · rw [if_neg c2] at H
    have c2b0 : (a0.toList == ([45] : List UInt8)) = false := beq_eq_false_iff_ne.mpr c2
    have c2b1 : (a0.toList != ([45] : List UInt8)) = true := bne_iff_ne.mpr c2
    replace H := Option.bind_eq_some_iff.mp H
    obtain ⟨t131, A50, H⟩ := H
    replace H : (if t131 = true then (if 1 ≤ (a0.size : Int) then ((val_word.f k (a0.extract 1 a0.size)).bind fun bt132 => (some (bt132.1, bt132.2.1, bt132.2.2.1, bt132.2.2.2.1, bt132.2.2.2.2))) else (none)) else ((strings_HasSuffix.f a0 (⟨#[105]⟩ : ByteArray)).bind fun t137 => (if t137 = true then ((point_Parse.f k a0).bind fun bt138 => (if bt138.2 = 0 then (some (3, 0, (⟨#[]⟩ : ByteArray), bt138.1, 0)) else (some (0, 0, (⟨#[]⟩ : ByteArray), ((0, 0) : Nat × Nat), bt138.2)))) else ((strings_TrimPrefix.f a0 (⟨#[45]⟩ : ByteArray)).bind fun t140 => (if t140.toList = ([] : List UInt8) then (val_Parse.j0 k a0 true) else ((strings_Trim.f t140 (⟨#[48, 49, 50, 51, 52, 53, 54, 55, 56, 57]⟩ : ByteArray)).bind fun t141 => (if t141.toList = ([] : List UInt8) then (if (t140.size : Int) > 1 then (if 0 < (t140.size : Int) then (if (bt t140 0) = 48 then (val_Parse.j0 k a0 true) else (val_Parse.j0 k a0 (a0.toList == ([45, 48] : List UInt8)))) else (none)) else (val_Parse.j0 k a0 (a0.toList == ([45, 48] : List UInt8)))) else (val_Parse.j0 k a0 true)))))))) = some (r1, r2, r3, r4, r5) := H
    have A5 := Aside0.mk A50
    clear A50
    by_cases c6 : t131 = true
    · subst c6
      have H1 : (if 1 ≤ (a0.size : Int) then ((val_word.f k (a0.extract 1 a0.size)).bind fun bt132 => (some (bt132.1, bt132.2.1, bt132.2.2.1, bt132.2.2.2.1, bt132.2.2.2.2))) else (none)) = some (r1, r2, r3, r4, r5) := by rw [if_pos rfl] at H; exact H
      clear H
      have H := H1
      clear H1
      by_cases c7 : 1 ≤ (a0.size : Int)
      · rw [if_pos c7] at H
        have c7b0 := eq_true c7
        have c7b1 : decide (1 ≤ (a0.size : Int)) = true := decide_eq_true c7
        clear c7
        replace H := Option.bind_eq_some_iff.mp H
        obtain ⟨⟨t132, t133, t134, t135, t136⟩, A80, H⟩ := H
        replace H : (some (t132, t133, t134, t135, t136)) = some (r1, r2, r3, r4, r5) := H
        have A8 := Aside0.mk A80
        clear A80
        simp only [Option.some.injEq, Prod.mk.injEq] at H
        obtain ⟨rfl, rfl, rfl, rfl, rfl⟩ := H
        go_enter Tryz.func5, Tryz.ntmps5
        go_wp2_with (first | ((with_reducible refine gate_dst (N := 2) rfl ?_); (try (refine gate_guard (by rfl) ?_; dsimp only)); refine box_event ?hg (N := 2) ?hd (cs := #[.int .i64 0, .int .i64 0, .string (⟨#[]⟩ : ByteArray), .complex .f64 0 0]) (t := 25) ?hr ?_; (case hd => rfl); (case hg => rfl); (case hr => first | (go_simp; done) | (go_simp; rfl)); intro gb130 hg w9 hbox hb; have n0_ := Aside0.mk (below_step (by repeat (first | (with_reducible first | exact HB.out | apply below_alloc | apply pw_below_drewN | apply below_drew1) | exact HB.out)) hb); have n1_ := Aside0.mk (hbox); have n2_ := Aside0.mk ((by rw [hg]; exact (below_size (by repeat (first | (with_reducible first | exact HB.out | apply below_alloc | apply pw_below_drewN | apply below_drew1) | exact HB.out))) : w.heap.size ≤ gb130)); have n3_ := Aside0.mk ((by rw [hg]; exact (below_size (by repeat (first | (with_reducible first | exact HB.out | apply below_alloc | apply pw_below_drewN | apply below_drew1) | exact HB.out))) : w.heap.size ≤ gb130)); clear HB; have HB := n0_; have BK130 := n1_; have GW130 := n2_; have GE130 := n3_; clear n0_ n1_ n2_ n3_; clear hb hbox hg))
        refine wp_scope_labs ?_
        intro G_ hG_
        go_wp2_with (first | (go_at_call 16; (with_reducible refine (strings_HasPrefix.calls a0 (⟨#[34]⟩ : ByteArray) true _ A5.out).mono ?_); rintro e w' ⟨rfl, ⟨nd, rfl⟩⟩; (try (rw [drewN_self w9]; generalize hq_ : World.drewN w9 _ = w9; have n0_ : Aside0 (w9.heap[gb130]? = some (.cells #[.int .i64 0, .int .i64 0, .string (⟨#[]⟩ : ByteArray), .complex .f64 0 0] 25 (0, 0))) := ⟨by rw [← hq_]; exact (by (with_reducible repeat (first | refine blk_drewN ?_ _ | refine blk_drew ?_ | refine blk_alloc ?_ _)); exact BK130.out)⟩; have n1_ : Aside0 (Below w.heap.size w w9) := ⟨by rw [← hq_]; exact (by repeat (first | (with_reducible first | exact HB.out | apply below_alloc | apply pw_below_drewN | apply below_drew1 | refine below_set ?_ GE130.out) | exact HB.out))⟩; clear BK130 HB hq_; have BK130 := n0_; have HB := n1_; clear n0_ n1_))) | ((with_reducible refine gate_callee (f := 17) rfl ?_); refine goesL_ (some 14) rfl rfl Tryz.func17 (by kernel_rfl) rfl #[.string (a0.extract 1 a0.size)] rfl (by (try simp only [List.map_toArray, List.map_cons, List.map_nil]); first | done | rfl | (simp only [List.length_drop, List.length_take]; rfl)) ?_; (with_reducible refine (val_word.calls k (a0.extract 1 a0.size) t132 t133 t134 t135 t136 _ A8.out).mono ?_); rintro e w10 ⟨rfl, hb⟩; refine ⟨_, rfl, ?_⟩; have n0_ := Aside0.mk (blk_below (g := gb130) (o := .cells #[.int .i64 0, .int .i64 0, .string (⟨#[]⟩ : ByteArray), .complex .f64 0 0] 25 (0, 0)) (by (with_reducible repeat (first | refine blk_drewN ?_ _ | refine blk_drew ?_ | refine blk_alloc ?_ _)); exact BK130.out) hb); have n1_ := Aside0.mk (below_step (by repeat (first | (with_reducible first | exact HB.out | apply below_alloc | apply pw_below_drewN | apply below_drew1 | refine below_set ?_ GE130.out) | exact HB.out)) hb); clear BK130; clear HB; have BK130 := n0_; have HB := n1_; clear n0_ n1_; (try clear hb); (try clear hb2); (try clear hk); (try clear hi); have hcz11_0 : w10.cell? ⟨gb130, 0, none⟩ = some (.int .i64 0) := (blk_cell BK130.out 0).trans rfl; have hcz11_1 : w10.cell? ⟨gb130, 1, none⟩ = some (.int .i64 0) := (blk_cell BK130.out 1).trans rfl; have hcz11_2 : w10.cell? ⟨gb130, 2, none⟩ = some (.string (⟨#[]⟩ : ByteArray)) := (blk_cell BK130.out 2).trans rfl; have hcz11_3 : w10.cell? ⟨gb130, 3, none⟩ = some (.complex .f64 0 0) := (blk_cell BK130.out 3).trans rfl; have hfz11_0 := blk_frozen BK130.out 0; have hfz11_1 := blk_frozen BK130.out 1; have hfz11_2 := blk_frozen BK130.out 2; have hfz11_3 := blk_frozen BK130.out 3))
        try rw [labs_ret]
        refine bodyPost_ret (results_ct rfl _ _ gb130 25 #[.int .i64 t132, .int .i64 t133, .string t134, .complex .f64 t135.1 t135.2] (0, 0) _ rfl (by (with_reducible repeat (first | refine blk_drewN ?_ _ | refine blk_drew ?_ | refine blk_alloc ?_ _)); refine blk_put (cs := #[.int .i64 t132, .int .i64 t133, .string t134, .complex .f64 0 0]) ?_ 3 _ rfl; (with_reducible repeat (first | refine blk_drewN ?_ _ | refine blk_drew ?_ | refine blk_alloc ?_ _)); refine blk_put (cs := #[.int .i64 t132, .int .i64 t133, .string (⟨#[]⟩ : ByteArray), .complex .f64 0 0]) ?_ 2 _ rfl; (with_reducible repeat (first | refine blk_drewN ?_ _ | refine blk_drew ?_ | refine blk_alloc ?_ _)); refine blk_put (cs := #[.int .i64 t132, .int .i64 0, .string (⟨#[]⟩ : ByteArray), .complex .f64 0 0]) ?_ 1 _ rfl; (with_reducible repeat (first | refine blk_drewN ?_ _ | refine blk_drew ?_ | refine blk_alloc ?_ _)); refine blk_put (cs := #[.int .i64 0, .int .i64 0, .string (⟨#[]⟩ : ByteArray), .complex .f64 0 0]) ?_ 0 _ rfl; (with_reducible repeat (first | refine blk_drewN ?_ _ | refine blk_drew ?_ | refine blk_alloc ?_ _)); exact BK130.out) Tryz.underlying25 rfl (by kernel_rfl)) rfl ?_
        exact ⟨by first | rfl | (simp [errW_none, errW_some] <;> rfl) | (simp [*, errW_none, errW_some] <;> rfl), by repeat (first | (with_reducible first | exact HB.out | apply below_alloc | apply pw_below_drewN | apply below_drew1 | refine below_set ?_ GE130.out) | exact HB.out)⟩
      · rw [if_neg c7] at H
        exact absurd H (by simp)
    · replace c6 := Bool.eq_false_iff.mpr c6
      subst c6
      have H1 : ((strings_HasSuffix.f a0 (⟨#[105]⟩ : ByteArray)).bind fun t137 => (if t137 = true then ((point_Parse.f k a0).bind fun bt138 => (if bt138.2 = 0 then (some (3, 0, (⟨#[]⟩ : ByteArray), bt138.1, 0)) else (some (0, 0, (⟨#[]⟩ : ByteArray), ((0, 0) : Nat × Nat), bt138.2)))) else ((strings_TrimPrefix.f a0 (⟨#[45]⟩ : ByteArray)).bind fun t140 => (if t140.toList = ([] : List UInt8) then (val_Parse.j0 k a0 true) else ((strings_Trim.f t140 (⟨#[48, 49, 50, 51, 52, 53, 54, 55, 56, 57]⟩ : ByteArray)).bind fun t141 => (if t141.toList = ([] : List UInt8) then (if (t140.size : Int) > 1 then (if 0 < (t140.size : Int) then (if (bt t140 0) = 48 then (val_Parse.j0 k a0 true) else (val_Parse.j0 k a0 (a0.toList == ([45, 48] : List UInt8)))) else (none)) else (val_Parse.j0 k a0 (a0.toList == ([45, 48] : List UInt8)))) else (val_Parse.j0 k a0 true))))))) = some (r1, r2, r3, r4, r5) := by rw [if_neg (show ¬ (false = true) by decide)] at H; exact H
      clear H
      have H := H1
      clear H1
      replace H := Option.bind_eq_some_iff.mp H
      obtain ⟨t137, A120, H⟩ := H
      replace H : (if t137 = true then ((point_Parse.f k a0).bind fun bt138 => (if bt138.2 = 0 then (some (3, 0, (⟨#[]⟩ : ByteArray), bt138.1, 0)) else (some (0, 0, (⟨#[]⟩ : ByteArray), ((0, 0) : Nat × Nat), bt138.2)))) else ((strings_TrimPrefix.f a0 (⟨#[45]⟩ : ByteArray)).bind fun t140 => (if t140.toList = ([] : List UInt8) then (val_Parse.j0 k a0 true) else ((strings_Trim.f t140 (⟨#[48, 49, 50, 51, 52, 53, 54, 55, 56, 57]⟩ : ByteArray)).bind fun t141 => (if t141.toList = ([] : List UInt8) then (if (t140.size : Int) > 1 then (if 0 < (t140.size : Int) then (if (bt t140 0) = 48 then (val_Parse.j0 k a0 true) else (val_Parse.j0 k a0 (a0.toList == ([45, 48] : List UInt8)))) else (none)) else (val_Parse.j0 k a0 (a0.toList == ([45, 48] : List UInt8)))) else (val_Parse.j0 k a0 true)))))) = some (r1, r2, r3, r4, r5) := H
      have A12 := Aside0.mk A120
      clear A120
      by_cases c13 : t137 = true
      · subst c13
        have H1 : ((point_Parse.f k a0).bind fun bt138 => (if bt138.2 = 0 then (some (3, 0, (⟨#[]⟩ : ByteArray), bt138.1, 0)) else (some (0, 0, (⟨#[]⟩ : ByteArray), ((0, 0) : Nat × Nat), bt138.2)))) = some (r1, r2, r3, r4, r5) := by rw [if_pos rfl] at H; exact H
        clear H
        have H := H1
        clear H1
        replace H := Option.bind_eq_some_iff.mp H
        obtain ⟨⟨t138, t139⟩, A140, H⟩ := H
        replace H : (if t139 = 0 then (some (3, 0, (⟨#[]⟩ : ByteArray), t138, 0)) else (some (0, 0, (⟨#[]⟩ : ByteArray), ((0, 0) : Nat × Nat), t139))) = some (r1, r2, r3, r4, r5) := H
        have A14 := Aside0.mk A140
        clear A140
        by_cases c15 : t139 = 0
        · rw [if_pos c15] at H
          have c15b0 : (t139 == 0) = true := beq_iff_eq.mpr c15
          have c15b1 : (t139 != 0) = false := bne_eq_false_iff_eq.mpr c15
          clear c15
          simp only [Option.some.injEq, Prod.mk.injEq] at H
          obtain ⟨rfl, rfl, rfl, rfl, rfl⟩ := H
          go_enter Tryz.func5, Tryz.ntmps5
          go_wp2_with (first | ((with_reducible refine gate_dst (N := 2) rfl ?_); (try (refine gate_guard (by rfl) ?_; dsimp only)); refine box_event ?hg (N := 2) ?hd (cs := #[.int .i64 0, .int .i64 0, .string (⟨#[]⟩ : ByteArray), .complex .f64 0 0]) (t := 25) ?hr ?_; (case hd => rfl); (case hg => rfl); (case hr => first | (go_simp; done) | (go_simp; rfl)); intro gb130 hg w16 hbox hb; have n0_ := Aside0.mk (below_step (by repeat (first | (with_reducible first | exact HB.out | apply below_alloc | apply pw_below_drewN | apply below_drew1) | exact HB.out)) hb); have n1_ := Aside0.mk (hbox); have n2_ := Aside0.mk ((by rw [hg]; exact (below_size (by repeat (first | (with_reducible first | exact HB.out | apply below_alloc | apply pw_below_drewN | apply below_drew1) | exact HB.out))) : w.heap.size ≤ gb130)); have n3_ := Aside0.mk ((by rw [hg]; exact (below_size (by repeat (first | (with_reducible first | exact HB.out | apply below_alloc | apply pw_below_drewN | apply below_drew1) | exact HB.out))) : w.heap.size ≤ gb130)); clear HB; have HB := n0_; have BK130 := n1_; have GW130 := n2_; have GE130 := n3_; clear n0_ n1_ n2_ n3_; clear hb hbox hg))
          refine wp_scope_labs ?_
          intro G_ hG_
          go_wp2_with (first | (go_at_call 16; (with_reducible refine (strings_HasPrefix.calls a0 (⟨#[34]⟩ : ByteArray) false _ A5.out).mono ?_); rintro e w' ⟨rfl, ⟨nd, rfl⟩⟩; (try (rw [drewN_self w16]; generalize hq_ : World.drewN w16 _ = w16; have n0_ : Aside0 (w16.heap[gb130]? = some (.cells #[.int .i64 0, .int .i64 0, .string (⟨#[]⟩ : ByteArray), .complex .f64 0 0] 25 (0, 0))) := ⟨by rw [← hq_]; exact (by (with_reducible repeat (first | refine blk_drewN ?_ _ | refine blk_drew ?_ | refine blk_alloc ?_ _)); exact BK130.out)⟩; have n1_ : Aside0 (Below w.heap.size w w16) := ⟨by rw [← hq_]; exact (by repeat (first | (with_reducible first | exact HB.out | apply below_alloc | apply pw_below_drewN | apply below_drew1 | refine below_set ?_ GE130.out) | exact HB.out))⟩; clear BK130 HB hq_; have BK130 := n0_; have HB := n1_; clear n0_ n1_))) | (go_at_call 18; (with_reducible refine (strings_HasSuffix.calls a0 (⟨#[105]⟩ : ByteArray) true _ A12.out).mono ?_); rintro e w' ⟨rfl, ⟨nd, rfl⟩⟩; (try (rw [drewN_self w16]; generalize hq_ : World.drewN w16 _ = w16; have n0_ : Aside0 (w16.heap[gb130]? = some (.cells #[.int .i64 0, .int .i64 0, .string (⟨#[]⟩ : ByteArray), .complex .f64 0 0] 25 (0, 0))) := ⟨by rw [← hq_]; exact (by (with_reducible repeat (first | refine blk_drewN ?_ _ | refine blk_drew ?_ | refine blk_alloc ?_ _)); exact BK130.out)⟩; have n1_ : Aside0 (Below w.heap.size w w16) := ⟨by rw [← hq_]; exact (by repeat (first | (with_reducible first | exact HB.out | apply below_alloc | apply pw_below_drewN | apply below_drew1 | refine below_set ?_ GE130.out) | exact HB.out))⟩; clear BK130 HB hq_; have BK130 := n0_; have HB := n1_; clear n0_ n1_)); have hcz17_0 : w16.cell? ⟨gb130, 0, none⟩ = some (.int .i64 0) := (blk_cell BK130.out 0).trans rfl; have hcz17_1 : w16.cell? ⟨gb130, 1, none⟩ = some (.int .i64 0) := (blk_cell BK130.out 1).trans rfl; have hcz17_2 : w16.cell? ⟨gb130, 2, none⟩ = some (.string (⟨#[]⟩ : ByteArray)) := (blk_cell BK130.out 2).trans rfl; have hcz17_3 : w16.cell? ⟨gb130, 3, none⟩ = some (.complex .f64 0 0) := (blk_cell BK130.out 3).trans rfl; have hfz17_0 := blk_frozen BK130.out 0; have hfz17_1 := blk_frozen BK130.out 1; have hfz17_2 := blk_frozen BK130.out 2; have hfz17_3 := blk_frozen BK130.out 3) | ((with_reducible refine gate_callee (f := 19) rfl ?_); refine goesL_ (some 22) rfl rfl Tryz.func19 (by kernel_rfl) rfl #[.string a0] rfl (by (try simp only [List.map_toArray, List.map_cons, List.map_nil]); first | done | rfl | (simp only [List.length_drop, List.length_take]; rfl)) ?_; (with_reducible refine (point_Parse.calls k a0 t138 t139 _ A14.out (Glob.below HG_.out (by repeat (first | (with_reducible first | exact HB.out | apply below_alloc | apply pw_below_drewN | apply below_drew1 | refine below_set ?_ GE130.out) | exact HB.out)))).mono ?_); rintro e w18 ⟨rfl, hb⟩; refine ⟨_, rfl, ?_⟩; have n0_ := Aside0.mk (blk_below (g := gb130) (o := .cells #[.int .i64 3, .int .i64 0, .string (⟨#[]⟩ : ByteArray), .complex .f64 0 0] 25 (0, 0)) (by (with_reducible repeat (first | refine blk_drewN ?_ _ | refine blk_drew ?_ | refine blk_alloc ?_ _)); refine blk_put (cs := #[.int .i64 0, .int .i64 0, .string (⟨#[]⟩ : ByteArray), .complex .f64 0 0]) ?_ 0 _ rfl; (with_reducible repeat (first | refine blk_drewN ?_ _ | refine blk_drew ?_ | refine blk_alloc ?_ _)); exact BK130.out) hb); have n1_ := Aside0.mk (below_step (by repeat (first | (with_reducible first | exact HB.out | apply below_alloc | apply pw_below_drewN | apply below_drew1 | refine below_set ?_ GE130.out) | exact HB.out)) hb); clear BK130; clear HB; have BK130 := n0_; have HB := n1_; clear n0_ n1_; (try clear hb); (try clear hb2); (try clear hk); (try clear hi); have hcz19_0 : w18.cell? ⟨gb130, 0, none⟩ = some (.int .i64 3) := (blk_cell BK130.out 0).trans rfl; have hcz19_1 : w18.cell? ⟨gb130, 1, none⟩ = some (.int .i64 0) := (blk_cell BK130.out 1).trans rfl; have hcz19_2 : w18.cell? ⟨gb130, 2, none⟩ = some (.string (⟨#[]⟩ : ByteArray)) := (blk_cell BK130.out 2).trans rfl; have hcz19_3 : w18.cell? ⟨gb130, 3, none⟩ = some (.complex .f64 0 0) := (blk_cell BK130.out 3).trans rfl; have hfz19_0 := blk_frozen BK130.out 0; have hfz19_1 := blk_frozen BK130.out 1; have hfz19_2 := blk_frozen BK130.out 2; have hfz19_3 := blk_frozen BK130.out 3))
          try rw [labs_ret]
          refine bodyPost_ret (results_ct rfl _ _ gb130 25 #[.int .i64 3, .int .i64 0, .string (⟨#[]⟩ : ByteArray), .complex .f64 t138.1 t138.2] (0, 0) _ rfl (by (with_reducible repeat (first | refine blk_drewN ?_ _ | refine blk_drew ?_ | refine blk_alloc ?_ _)); refine blk_put (cs := #[.int .i64 3, .int .i64 0, .string (⟨#[]⟩ : ByteArray), .complex .f64 t138.1 t138.2]) ?_ 3 _ rfl; (with_reducible repeat (first | refine blk_drewN ?_ _ | refine blk_drew ?_ | refine blk_alloc ?_ _)); refine blk_put (cs := #[.int .i64 3, .int .i64 0, .string (⟨#[]⟩ : ByteArray), .complex .f64 t138.1 t138.2]) ?_ 2 _ rfl; (with_reducible repeat (first | refine blk_drewN ?_ _ | refine blk_drew ?_ | refine blk_alloc ?_ _)); refine blk_put (cs := #[.int .i64 3, .int .i64 0, .string (⟨#[]⟩ : ByteArray), .complex .f64 t138.1 t138.2]) ?_ 1 _ rfl; (with_reducible repeat (first | refine blk_drewN ?_ _ | refine blk_drew ?_ | refine blk_alloc ?_ _)); refine blk_put (cs := #[.int .i64 3, .int .i64 0, .string (⟨#[]⟩ : ByteArray), .complex .f64 t138.1 t138.2]) ?_ 0 _ rfl; (with_reducible repeat (first | refine blk_drewN ?_ _ | refine blk_drew ?_ | refine blk_alloc ?_ _)); refine blk_put (cs := #[.int .i64 3, .int .i64 0, .string (⟨#[]⟩ : ByteArray), .complex .f64 0 0]) ?_ 3 _ rfl; (with_reducible repeat (first | refine blk_drewN ?_ _ | refine blk_drew ?_ | refine blk_alloc ?_ _)); exact BK130.out) Tryz.underlying25 rfl (by kernel_rfl)) rfl ?_
          exact ⟨by first | rfl | (simp [errW_none, errW_some] <;> rfl) | (simp [*, errW_none, errW_some] <;> rfl), by repeat (first | (with_reducible first | exact HB.out | apply below_alloc | apply pw_below_drewN | apply below_drew1 | refine below_set ?_ GE130.out) | exact HB.out)⟩
        · rw [if_neg c15] at H
          have c15b0 : (t139 == 0) = false := beq_eq_false_iff_ne.mpr c15
          have c15b1 : (t139 != 0) = true := bne_iff_ne.mpr c15
          simp only [Option.some.injEq, Prod.mk.injEq] at H
          obtain ⟨rfl, rfl, rfl, rfl, rfl⟩ := H
          go_enter Tryz.func5, Tryz.ntmps5
          go_wp2_with (first | ((with_reducible refine gate_dst (N := 2) rfl ?_); (try (refine gate_guard (by rfl) ?_; dsimp only)); refine box_event ?hg (N := 2) ?hd (cs := #[.int .i64 0, .int .i64 0, .string (⟨#[]⟩ : ByteArray), .complex .f64 0 0]) (t := 25) ?hr ?_; (case hd => rfl); (case hg => rfl); (case hr => first | (go_simp; done) | (go_simp; rfl)); intro gb130 hg w20 hbox hb; have n0_ := Aside0.mk (below_step (by repeat (first | (with_reducible first | exact HB.out | apply below_alloc | apply pw_below_drewN | apply below_drew1) | exact HB.out)) hb); have n1_ := Aside0.mk (hbox); have n2_ := Aside0.mk ((by rw [hg]; exact (below_size (by repeat (first | (with_reducible first | exact HB.out | apply below_alloc | apply pw_below_drewN | apply below_drew1) | exact HB.out))) : w.heap.size ≤ gb130)); have n3_ := Aside0.mk ((by rw [hg]; exact (below_size (by repeat (first | (with_reducible first | exact HB.out | apply below_alloc | apply pw_below_drewN | apply below_drew1) | exact HB.out))) : w.heap.size ≤ gb130)); clear HB; have HB := n0_; have BK130 := n1_; have GW130 := n2_; have GE130 := n3_; clear n0_ n1_ n2_ n3_; clear hb hbox hg))
          refine wp_scope_labs ?_
          intro G_ hG_
          go_wp2_with (first | (go_at_call 16; (with_reducible refine (strings_HasPrefix.calls a0 (⟨#[34]⟩ : ByteArray) false _ A5.out).mono ?_); rintro e w' ⟨rfl, ⟨nd, rfl⟩⟩; (try (rw [drewN_self w20]; generalize hq_ : World.drewN w20 _ = w20; have n0_ : Aside0 (w20.heap[gb130]? = some (.cells #[.int .i64 0, .int .i64 0, .string (⟨#[]⟩ : ByteArray), .complex .f64 0 0] 25 (0, 0))) := ⟨by rw [← hq_]; exact (by (with_reducible repeat (first | refine blk_drewN ?_ _ | refine blk_drew ?_ | refine blk_alloc ?_ _)); exact BK130.out)⟩; have n1_ : Aside0 (Below w.heap.size w w20) := ⟨by rw [← hq_]; exact (by repeat (first | (with_reducible first | exact HB.out | apply below_alloc | apply pw_below_drewN | apply below_drew1 | refine below_set ?_ GE130.out) | exact HB.out))⟩; clear BK130 HB hq_; have BK130 := n0_; have HB := n1_; clear n0_ n1_))) | (go_at_call 18; (with_reducible refine (strings_HasSuffix.calls a0 (⟨#[105]⟩ : ByteArray) true _ A12.out).mono ?_); rintro e w' ⟨rfl, ⟨nd, rfl⟩⟩; (try (rw [drewN_self w20]; generalize hq_ : World.drewN w20 _ = w20; have n0_ : Aside0 (w20.heap[gb130]? = some (.cells #[.int .i64 0, .int .i64 0, .string (⟨#[]⟩ : ByteArray), .complex .f64 0 0] 25 (0, 0))) := ⟨by rw [← hq_]; exact (by (with_reducible repeat (first | refine blk_drewN ?_ _ | refine blk_drew ?_ | refine blk_alloc ?_ _)); exact BK130.out)⟩; have n1_ : Aside0 (Below w.heap.size w w20) := ⟨by rw [← hq_]; exact (by repeat (first | (with_reducible first | exact HB.out | apply below_alloc | apply pw_below_drewN | apply below_drew1 | refine below_set ?_ GE130.out) | exact HB.out))⟩; clear BK130 HB hq_; have BK130 := n0_; have HB := n1_; clear n0_ n1_)); have hcz21_0 : w20.cell? ⟨gb130, 0, none⟩ = some (.int .i64 0) := (blk_cell BK130.out 0).trans rfl; have hcz21_1 : w20.cell? ⟨gb130, 1, none⟩ = some (.int .i64 0) := (blk_cell BK130.out 1).trans rfl; have hcz21_2 : w20.cell? ⟨gb130, 2, none⟩ = some (.string (⟨#[]⟩ : ByteArray)) := (blk_cell BK130.out 2).trans rfl; have hcz21_3 : w20.cell? ⟨gb130, 3, none⟩ = some (.complex .f64 0 0) := (blk_cell BK130.out 3).trans rfl; have hfz21_0 := blk_frozen BK130.out 0; have hfz21_1 := blk_frozen BK130.out 1; have hfz21_2 := blk_frozen BK130.out 2; have hfz21_3 := blk_frozen BK130.out 3) | ((with_reducible refine gate_callee (f := 19) rfl ?_); refine goesL_ (some 22) rfl rfl Tryz.func19 (by kernel_rfl) rfl #[.string a0] rfl (by (try simp only [List.map_toArray, List.map_cons, List.map_nil]); first | done | rfl | (simp only [List.length_drop, List.length_take]; rfl)) ?_; (with_reducible refine (point_Parse.calls k a0 t138 t139 _ A14.out (Glob.below HG_.out (by repeat (first | (with_reducible first | exact HB.out | apply below_alloc | apply pw_below_drewN | apply below_drew1 | refine below_set ?_ GE130.out) | exact HB.out)))).mono ?_); rintro e w22 ⟨rfl, hb⟩; refine ⟨_, rfl, ?_⟩; have n0_ := Aside0.mk (blk_below (g := gb130) (o := .cells #[.int .i64 3, .int .i64 0, .string (⟨#[]⟩ : ByteArray), .complex .f64 0 0] 25 (0, 0)) (by (with_reducible repeat (first | refine blk_drewN ?_ _ | refine blk_drew ?_ | refine blk_alloc ?_ _)); refine blk_put (cs := #[.int .i64 0, .int .i64 0, .string (⟨#[]⟩ : ByteArray), .complex .f64 0 0]) ?_ 0 _ rfl; (with_reducible repeat (first | refine blk_drewN ?_ _ | refine blk_drew ?_ | refine blk_alloc ?_ _)); exact BK130.out) hb); have n1_ := Aside0.mk (below_step (by repeat (first | (with_reducible first | exact HB.out | apply below_alloc | apply pw_below_drewN | apply below_drew1 | refine below_set ?_ GE130.out) | exact HB.out)) hb); clear BK130; clear HB; have BK130 := n0_; have HB := n1_; clear n0_ n1_; (try clear hb); (try clear hb2); (try clear hk); (try clear hi); have hcz23_0 : w22.cell? ⟨gb130, 0, none⟩ = some (.int .i64 3) := (blk_cell BK130.out 0).trans rfl; have hcz23_1 : w22.cell? ⟨gb130, 1, none⟩ = some (.int .i64 0) := (blk_cell BK130.out 1).trans rfl; have hcz23_2 : w22.cell? ⟨gb130, 2, none⟩ = some (.string (⟨#[]⟩ : ByteArray)) := (blk_cell BK130.out 2).trans rfl; have hcz23_3 : w22.cell? ⟨gb130, 3, none⟩ = some (.complex .f64 0 0) := (blk_cell BK130.out 3).trans rfl; have hfz23_0 := blk_frozen BK130.out 0; have hfz23_1 := blk_frozen BK130.out 1; have hfz23_2 := blk_frozen BK130.out 2; have hfz23_3 := blk_frozen BK130.out 3))
          have n0_ : Aside0 ((w22.setCell ⟨gb130, 3, none⟩ (.complex .f64 t138.1 t138.2)).heap[gb130]? = some (.cells #[.int .i64 3, .int .i64 0, .string (⟨#[]⟩ : ByteArray), .complex .f64 t138.1 t138.2] 25 (0, 0))) := ⟨by (with_reducible repeat (first | refine blk_drewN ?_ _ | refine blk_drew ?_ | refine blk_alloc ?_ _)); refine blk_put (cs := #[.int .i64 3, .int .i64 0, .string (⟨#[]⟩ : ByteArray), .complex .f64 0 0]) ?_ 3 _ rfl; (with_reducible repeat (first | refine blk_drewN ?_ _ | refine blk_drew ?_ | refine blk_alloc ?_ _)); exact BK130.out⟩
          have n1_ : Aside0 (Below w.heap.size w (w22.setCell ⟨gb130, 3, none⟩ (.complex .f64 t138.1 t138.2))) := ⟨by repeat (first | (with_reducible first | exact HB.out | apply below_alloc | apply pw_below_drewN | apply below_drew1 | refine below_set ?_ GE130.out) | exact HB.out)⟩
          (try clear BK130)
          (try clear HB)
          generalize (w22.setCell ⟨gb130, 3, none⟩ (.complex .f64 t138.1 t138.2)) = w24 at n0_ n1_ ⊢
          have BK130 := n0_
          have HB := n1_
          clear n0_ n1_
          go_step3
          refine hG_ 0 _ _ _ (by rfl) ?_
          have hcz25_0 : w24.cell? ⟨gb130, 0, none⟩ = some (.int .i64 3) := (blk_cell BK130.out 0).trans rfl
          have hcz25_1 : w24.cell? ⟨gb130, 1, none⟩ = some (.int .i64 0) := (blk_cell BK130.out 1).trans rfl
          have hcz25_2 : w24.cell? ⟨gb130, 2, none⟩ = some (.string (⟨#[]⟩ : ByteArray)) := (blk_cell BK130.out 2).trans rfl
          have hcz25_3 : w24.cell? ⟨gb130, 3, none⟩ = some (.complex .f64 t138.1 t138.2) := (blk_cell BK130.out 3).trans rfl
          have hfz25_0 := blk_frozen BK130.out 0
          have hfz25_1 := blk_frozen BK130.out 1
          have hfz25_2 := blk_frozen BK130.out 2
          have hfz25_3 := blk_frozen BK130.out 3
          go_wp2
          try rw [labs_ret]
          refine bodyPost_ret (results_ct rfl _ _ gb130 25 #[.int .i64 0, .int .i64 0, .string (⟨#[]⟩ : ByteArray), .complex .f64 0 0] (0, 0) _ rfl (by (with_reducible repeat (first | refine blk_drewN ?_ _ | refine blk_drew ?_ | refine blk_alloc ?_ _)); refine blk_put (cs := #[.int .i64 0, .int .i64 0, .string (⟨#[]⟩ : ByteArray), .complex .f64 t138.1 t138.2]) ?_ 3 _ rfl; (with_reducible repeat (first | refine blk_drewN ?_ _ | refine blk_drew ?_ | refine blk_alloc ?_ _)); refine blk_put (cs := #[.int .i64 0, .int .i64 0, .string (⟨#[]⟩ : ByteArray), .complex .f64 t138.1 t138.2]) ?_ 2 _ rfl; (with_reducible repeat (first | refine blk_drewN ?_ _ | refine blk_drew ?_ | refine blk_alloc ?_ _)); refine blk_put (cs := #[.int .i64 0, .int .i64 0, .string (⟨#[]⟩ : ByteArray), .complex .f64 t138.1 t138.2]) ?_ 1 _ rfl; (with_reducible repeat (first | refine blk_drewN ?_ _ | refine blk_drew ?_ | refine blk_alloc ?_ _)); refine blk_put (cs := #[.int .i64 3, .int .i64 0, .string (⟨#[]⟩ : ByteArray), .complex .f64 t138.1 t138.2]) ?_ 0 _ rfl; (with_reducible repeat (first | refine blk_drewN ?_ _ | refine blk_drew ?_ | refine blk_alloc ?_ _)); exact BK130.out) Tryz.underlying25 rfl (by kernel_rfl)) rfl ?_
          exact ⟨by first | rfl | (simp [errW_none, errW_some] <;> rfl) | (simp [*, errW_none, errW_some] <;> rfl), by repeat (first | (with_reducible first | exact HB.out | apply below_alloc | apply pw_below_drewN | apply below_drew1 | refine below_set ?_ GE130.out) | exact HB.out)⟩
      · replace c13 := Bool.eq_false_iff.mpr c13
        subst c13
        have H1 : ((strings_TrimPrefix.f a0 (⟨#[45]⟩ : ByteArray)).bind fun t140 => (if t140.toList = ([] : List UInt8) then (val_Parse.j0 k a0 true) else ((strings_Trim.f t140 (⟨#[48, 49, 50, 51, 52, 53, 54, 55, 56, 57]⟩ : ByteArray)).bind fun t141 => (if t141.toList = ([] : List UInt8) then (if (t140.size : Int) > 1 then (if 0 < (t140.size : Int) then (if (bt t140 0) = 48 then (val_Parse.j0 k a0 true) else (val_Parse.j0 k a0 (a0.toList == ([45, 48] : List UInt8)))) else (none)) else (val_Parse.j0 k a0 (a0.toList == ([45, 48] : List UInt8)))) else (val_Parse.j0 k a0 true))))) = some (r1, r2, r3, r4, r5) := by rw [if_neg (show ¬ (false = true) by decide)] at H; exact H
        clear H
        have H := H1
        clear H1
        replace H := Option.bind_eq_some_iff.mp H
        obtain ⟨t140, A260, H⟩ := H
        replace H : (if t140.toList = ([] : List UInt8) then (val_Parse.j0 k a0 true) else ((strings_Trim.f t140 (⟨#[48, 49, 50, 51, 52, 53, 54, 55, 56, 57]⟩ : ByteArray)).bind fun t141 => (if t141.toList = ([] : List UInt8) then (if (t140.size : Int) > 1 then (if 0 < (t140.size : Int) then (if (bt t140 0) = 48 then (val_Parse.j0 k a0 true) else (val_Parse.j0 k a0 (a0.toList == ([45, 48] : List UInt8)))) else (none)) else (val_Parse.j0 k a0 (a0.toList == ([45, 48] : List UInt8)))) else (val_Parse.j0 k a0 true)))) = some (r1, r2, r3, r4, r5) := H
        have A26 := Aside0.mk A260
        clear A260
        have HC27 := Aside0.mk H
        clear H
        go_enter Tryz.func5, Tryz.ntmps5
        try go_wp2_with (first | ((with_reducible refine gate_dst (N := 2) rfl ?_); (try (refine gate_guard (by rfl) ?_; dsimp only)); refine box_event ?hg (N := 2) ?hd (cs := #[.int .i64 0, .int .i64 0, .string (⟨#[]⟩ : ByteArray), .complex .f64 0 0]) (t := 25) ?hr ?_; (case hd => rfl); (case hg => rfl); (case hr => first | (go_simp; done) | (go_simp; rfl)); intro gb130 hg w28 hbox hb; have n0_ := Aside0.mk (below_step (by repeat (first | (with_reducible first | exact HB.out | apply below_alloc | apply pw_below_drewN | apply below_drew1) | exact HB.out)) hb); have n1_ := Aside0.mk (hbox); have n2_ := Aside0.mk ((by rw [hg]; exact (below_size (by repeat (first | (with_reducible first | exact HB.out | apply below_alloc | apply pw_below_drewN | apply below_drew1) | exact HB.out))) : w.heap.size ≤ gb130)); have n3_ := Aside0.mk ((by rw [hg]; exact (below_size (by repeat (first | (with_reducible first | exact HB.out | apply below_alloc | apply pw_below_drewN | apply below_drew1) | exact HB.out))) : w.heap.size ≤ gb130)); clear HB; have HB := n0_; have BK130 := n1_; have GW130 := n2_; have GE130 := n3_; clear n0_ n1_ n2_ n3_; clear hb hbox hg))
        refine wp_scope_labs ?_
        intro G_ hG_
        go_upto_region 14 with (first | (go_at_call 16; (with_reducible refine (strings_HasPrefix.calls a0 (⟨#[34]⟩ : ByteArray) false _ A5.out).mono ?_); rintro e w' ⟨rfl, ⟨nd, rfl⟩⟩) | (go_at_call 18; (with_reducible refine (strings_HasSuffix.calls a0 (⟨#[105]⟩ : ByteArray) false _ A12.out).mono ?_); rintro e w' ⟨rfl, ⟨nd, rfl⟩⟩) | (go_at_call 20; (with_reducible refine (strings_TrimPrefix.calls a0 (⟨#[45]⟩ : ByteArray) t140 _ A26.out).mono ?_); rintro e w' ⟨rfl, ⟨nd, rfl⟩⟩))
        (try simp only [Act.put, List.setIfInBounds_toArray, List.set_cons_zero, List.set_cons_succ])
        go_cut [51] (fun v51 wc => ∃ (kq : Nat) (x51_26 : Bool), v51 = .bool x51_26 ∧ Aside0 (val_Parse.j0 kq a0 x51_26 = some (r1, r2, r3, r4, r5)) ∧ Aside0 (kq ≤ k) ∧ Aside0 (wc.heap[gb130]? = some (.cells #[.int .i64 0, .int .i64 0, .string (⟨#[]⟩ : ByteArray), .complex .f64 0 0] 25 (0, 0))) ∧ Aside0 (Below w.heap.size w wc))
        case first =>
          have H := HC27.out
          clear HC27
          by_cases c29 : t140.toList = ([] : List UInt8)
          · rw [if_pos c29] at H
            have c29b0 : (t140.toList == ([] : List UInt8)) = true := beq_iff_eq.mpr c29
            have c29b1 : (t140.toList != ([] : List UInt8)) = false := bne_eq_false_iff_eq.mpr c29
            clear c29
            (first | rw [c29b0] | (simp only [i64_w, i32_w]; rw [c29b0]) | skip)
            have H' := Aside0.mk H
            clear H
            go_wp2
            go_meet
            case rel => exact ⟨_, (true), (by first | rfl | (simp; done) | (simp [*]; done)), H', ⟨by first | omega | exact Nat.le_refl _⟩, ⟨by (with_reducible repeat (first | refine blk_drewN ?_ _ | refine blk_drew ?_ | refine blk_alloc ?_ _)); exact BK130.out⟩, ⟨by repeat (first | (with_reducible first | exact HB.out | apply below_alloc | apply pw_below_drewN | apply below_drew1 | refine below_set ?_ GE130.out) | exact HB.out)⟩⟩
          · rw [if_neg c29] at H
            have c29b0 : (t140.toList == ([] : List UInt8)) = false := beq_eq_false_iff_ne.mpr c29
            have c29b1 : (t140.toList != ([] : List UInt8)) = true := bne_iff_ne.mpr c29
            (first | rw [c29b0] | (simp only [i64_w, i32_w]; rw [c29b0]) | skip)
            replace H := Option.bind_eq_some_iff.mp H
            obtain ⟨t141, A300, H⟩ := H
            replace H : (if t141.toList = ([] : List UInt8) then (if (t140.size : Int) > 1 then (if 0 < (t140.size : Int) then (if (bt t140 0) = 48 then (val_Parse.j0 k a0 true) else (val_Parse.j0 k a0 (a0.toList == ([45, 48] : List UInt8)))) else (none)) else (val_Parse.j0 k a0 (a0.toList == ([45, 48] : List UInt8)))) else (val_Parse.j0 k a0 true)) = some (r1, r2, r3, r4, r5) := H
            have A30 := Aside0.mk A300
            clear A300
            by_cases c31 : t141.toList = ([] : List UInt8)
            · rw [if_pos c31] at H
              have c31b0 : (t141.toList == ([] : List UInt8)) = true := beq_iff_eq.mpr c31
              have c31b1 : (t141.toList != ([] : List UInt8)) = false := bne_eq_false_iff_eq.mpr c31
              clear c31
              by_cases c32 : (t140.size : Int) > 1
              · rw [if_pos c32] at H
                have c32b0 : decide (1 < (t140.size : Int)) = true := decide_eq_true c32
                have c32b1 : decide (1 < t140.size) = true := decide_eq_true (by omega)
                clear c32
                by_cases c33 : 0 < (t140.size : Int)
                · rw [if_pos c33] at H
                  have c33b0 : decide (0 < (t140.size : Int)) = true := decide_eq_true c33
                  have c33b1 : decide (0 < t140.size) = true := decide_eq_true (by omega)
                  clear c33
                  by_cases c35 : (bt t140 0) = 48
                  · rw [if_pos c35] at H
                    have c35b0 : ((bt t140 0) == 48) = true := beq_iff_eq.mpr c35
                    have c35b1 : ((bt t140 0) != 48) = false := bne_eq_false_iff_eq.mpr c35
                    clear c35
                    have H' := Aside0.mk H
                    clear H
                    go_wp2_with (first | (go_at_call 21; (with_reducible refine (strings_Trim.calls t140 (⟨#[48, 49, 50, 51, 52, 53, 54, 55, 56, 57]⟩ : ByteArray) t141 _ A30.out).mono ?_); rintro e w36 ⟨rfl, hb⟩; have n0_ := Aside0.mk (blk_below (g := gb130) (o := .cells #[.int .i64 0, .int .i64 0, .string (⟨#[]⟩ : ByteArray), .complex .f64 0 0] 25 (0, 0)) (by (with_reducible repeat (first | refine blk_drewN ?_ _ | refine blk_drew ?_ | refine blk_alloc ?_ _)); exact BK130.out) hb); have n1_ := Aside0.mk (below_step (by repeat (first | (with_reducible first | exact HB.out | apply below_alloc | apply pw_below_drewN | apply below_drew1 | refine below_set ?_ GE130.out) | exact HB.out)) hb); clear BK130; clear HB; have BK130 := n0_; have HB := n1_; clear n0_ n1_; (try clear hb); (try clear hb2); (try clear hk); (try clear hi); have p34 : 0 ≤ (0 : Int) := (by omega); have q34 : 0 < t140.size := (by have : (0 : Int) < (t140.size : Int) := of_decide_eq_true (by first | (with_reducible assumption) | assumption); omega); have hx34 : ∀ h : 0 < t140.size, ((t140[0]'h).toNat : Int) = bt t140 0 := bt_at t140 0; clear p34; have qi34 : (0 < (t140.size : Int)) = True := eq_true (of_decide_eq_true (by first | (with_reducible assumption) | assumption)); replace q34 := eq_true q34))
                    go_meet
                    case rel => exact ⟨_, (true), (by first | rfl | (simp; done) | (simp [*]; done)), H', ⟨by first | omega | exact Nat.le_refl _⟩, ⟨by (with_reducible repeat (first | refine blk_drewN ?_ _ | refine blk_drew ?_ | refine blk_alloc ?_ _)); exact BK130.out⟩, ⟨by repeat (first | (with_reducible first | exact HB.out | apply below_alloc | apply pw_below_drewN | apply below_drew1 | refine below_set ?_ GE130.out) | exact HB.out)⟩⟩
                  · rw [if_neg c35] at H
                    have c35b0 : ((bt t140 0) == 48) = false := beq_eq_false_iff_ne.mpr c35
                    have c35b1 : ((bt t140 0) != 48) = true := bne_iff_ne.mpr c35
                    have H' := Aside0.mk H
                    clear H
                    go_wp2_with (first | (go_at_call 21; (with_reducible refine (strings_Trim.calls t140 (⟨#[48, 49, 50, 51, 52, 53, 54, 55, 56, 57]⟩ : ByteArray) t141 _ A30.out).mono ?_); rintro e w37 ⟨rfl, hb⟩; have n0_ := Aside0.mk (blk_below (g := gb130) (o := .cells #[.int .i64 0, .int .i64 0, .string (⟨#[]⟩ : ByteArray), .complex .f64 0 0] 25 (0, 0)) (by (with_reducible repeat (first | refine blk_drewN ?_ _ | refine blk_drew ?_ | refine blk_alloc ?_ _)); exact BK130.out) hb); have n1_ := Aside0.mk (below_step (by repeat (first | (with_reducible first | exact HB.out | apply below_alloc | apply pw_below_drewN | apply below_drew1 | refine below_set ?_ GE130.out) | exact HB.out)) hb); clear BK130; clear HB; have BK130 := n0_; have HB := n1_; clear n0_ n1_; (try clear hb); (try clear hb2); (try clear hk); (try clear hi); have p34 : 0 ≤ (0 : Int) := (by omega); have q34 : 0 < t140.size := (by have : (0 : Int) < (t140.size : Int) := of_decide_eq_true (by first | (with_reducible assumption) | assumption); omega); have hx34 : ∀ h : 0 < t140.size, ((t140[0]'h).toNat : Int) = bt t140 0 := bt_at t140 0; clear p34; have qi34 : (0 < (t140.size : Int)) = True := eq_true (of_decide_eq_true (by first | (with_reducible assumption) | assumption)); replace q34 := eq_true q34))
                    go_meet
                    case rel => exact ⟨_, ((a0.toList == ([45, 48] : List UInt8))), (by first | rfl | (simp; done) | (simp [*]; done)), H', ⟨by first | omega | exact Nat.le_refl _⟩, ⟨by (with_reducible repeat (first | refine blk_drewN ?_ _ | refine blk_drew ?_ | refine blk_alloc ?_ _)); exact BK130.out⟩, ⟨by repeat (first | (with_reducible first | exact HB.out | apply below_alloc | apply pw_below_drewN | apply below_drew1 | refine below_set ?_ GE130.out) | exact HB.out)⟩⟩
                · rw [if_neg c33] at H
                  exact absurd H (by simp)
              · rw [if_neg c32] at H
                have c32b0 : decide (1 < (t140.size : Int)) = false := decide_eq_false c32
                have c32b1 : decide (1 < t140.size) = false := decide_eq_false (by omega)
                clear c32
                have H' := Aside0.mk H
                clear H
                go_wp2_with (first | (go_at_call 21; (with_reducible refine (strings_Trim.calls t140 (⟨#[48, 49, 50, 51, 52, 53, 54, 55, 56, 57]⟩ : ByteArray) t141 _ A30.out).mono ?_); rintro e w38 ⟨rfl, hb⟩; have n0_ := Aside0.mk (blk_below (g := gb130) (o := .cells #[.int .i64 0, .int .i64 0, .string (⟨#[]⟩ : ByteArray), .complex .f64 0 0] 25 (0, 0)) (by (with_reducible repeat (first | refine blk_drewN ?_ _ | refine blk_drew ?_ | refine blk_alloc ?_ _)); exact BK130.out) hb); have n1_ := Aside0.mk (below_step (by repeat (first | (with_reducible first | exact HB.out | apply below_alloc | apply pw_below_drewN | apply below_drew1 | refine below_set ?_ GE130.out) | exact HB.out)) hb); clear BK130; clear HB; have BK130 := n0_; have HB := n1_; clear n0_ n1_; (try clear hb); (try clear hb2); (try clear hk); (try clear hi)))
                go_meet
                case rel => exact ⟨_, ((a0.toList == ([45, 48] : List UInt8))), (by first | rfl | (simp; done) | (simp [*]; done)), H', ⟨by first | omega | exact Nat.le_refl _⟩, ⟨by (with_reducible repeat (first | refine blk_drewN ?_ _ | refine blk_drew ?_ | refine blk_alloc ?_ _)); exact BK130.out⟩, ⟨by repeat (first | (with_reducible first | exact HB.out | apply below_alloc | apply pw_below_drewN | apply below_drew1 | refine below_set ?_ GE130.out) | exact HB.out)⟩⟩
            · rw [if_neg c31] at H
              have c31b0 : (t141.toList == ([] : List UInt8)) = false := beq_eq_false_iff_ne.mpr c31
              have c31b1 : (t141.toList != ([] : List UInt8)) = true := bne_iff_ne.mpr c31
              have H' := Aside0.mk H
              clear H
              go_wp2_with (first | (go_at_call 21; (with_reducible refine (strings_Trim.calls t140 (⟨#[48, 49, 50, 51, 52, 53, 54, 55, 56, 57]⟩ : ByteArray) t141 _ A30.out).mono ?_); rintro e w39 ⟨rfl, hb⟩; have n0_ := Aside0.mk (blk_below (g := gb130) (o := .cells #[.int .i64 0, .int .i64 0, .string (⟨#[]⟩ : ByteArray), .complex .f64 0 0] 25 (0, 0)) (by (with_reducible repeat (first | refine blk_drewN ?_ _ | refine blk_drew ?_ | refine blk_alloc ?_ _)); exact BK130.out) hb); have n1_ := Aside0.mk (below_step (by repeat (first | (with_reducible first | exact HB.out | apply below_alloc | apply pw_below_drewN | apply below_drew1 | refine below_set ?_ GE130.out) | exact HB.out)) hb); clear BK130; clear HB; have BK130 := n0_; have HB := n1_; clear n0_ n1_; (try clear hb); (try clear hb2); (try clear hk); (try clear hi)))
              go_meet
              case rel => exact ⟨_, (true), (by first | rfl | (simp; done) | (simp [*]; done)), H', ⟨by first | omega | exact Nat.le_refl _⟩, ⟨by (with_reducible repeat (first | refine blk_drewN ?_ _ | refine blk_drew ?_ | refine blk_alloc ?_ _)); exact BK130.out⟩, ⟨by repeat (first | (with_reducible first | exact HB.out | apply below_alloc | apply pw_below_drewN | apply below_drew1 | refine below_set ?_ GE130.out) | exact HB.out)⟩⟩
        case rest =>
          clear HC27
          try clear c1
          try clear c2
          try clear c2b0
          try clear c2b1
          try clear p2
          try clear c3
          try clear p3
          try clear q3
          try clear hx3
          try clear qi3
          try clear c5
          try clear c6
          try clear c7
          try clear c7b0
          try clear c7b1
          try clear c13
          try clear c15
          try clear c15b0
          try clear c15b1
          try clear c17
          try clear c19
          try clear c29
          try clear c29b0
          try clear c29b1
          try clear c31
          try clear c31b0
          try clear c31b1
          try clear c32
          try clear c32b0
          try clear c32b1
          try clear c33
          try clear c33b0
          try clear c33b1
          try clear p34
          try clear q34
          try clear hx34
          try clear qi34
          try clear c35
          try clear c35b0
          try clear c35b1
          try clear hcz11_0
          try clear hcz11_1
          try clear hcz11_2
          try clear hcz11_3
          try clear hcz17_0
          try clear hcz17_1
          try clear hcz17_2
          try clear hcz17_3
          try clear hcz19_0
          try clear hcz19_1
          try clear hcz19_2
          try clear hcz19_3
          try clear hcz21_0
          try clear hcz21_1
          try clear hcz21_2
          try clear hcz21_3
          try clear hcz23_0
          try clear hcz23_1
          try clear hcz23_2
          try clear hcz23_3
          try clear hcz25_0
          try clear hcz25_1
          try clear hcz25_2
          try clear hcz25_3
          try clear hcz4_0
          try clear hcz4_1
          try clear hcz4_2
          try clear hcz4_3
          try clear hfz11_0
          try clear hfz11_1
          try clear hfz11_2
          try clear hfz11_3
          try clear hfz17_0
          try clear hfz17_1
          try clear hfz17_2
          try clear hfz17_3
          try clear hfz19_0
          try clear hfz19_1
          try clear hfz19_2
          try clear hfz19_3
          try clear hfz21_0
          try clear hfz21_1
          try clear hfz21_2
          try clear hfz21_3
          try clear hfz23_0
          try clear hfz23_1
          try clear hfz23_2
          try clear hfz23_3
          try clear hfz25_0
          try clear hfz25_1
          try clear hfz25_2
          try clear hfz25_3
          try clear hfz4_0
          try clear hfz4_1
          try clear hfz4_2
          try clear hfz4_3
          try clear p34
          try clear q34
          obtain ⟨kq, x51_26, rfl, HA, HJ26, BK130, HB⟩ := hcut
          cases kq with
          | zero => exact absurd HA.out (by simp [val_Parse.j0])
          | succ kj26 =>
            have H := HA.out
            clear HA
            simp only [val_Parse.j0] at H
            by_cases c40 : x51_26 = true
            · subst c40
              have H1 : (some (0, 0, (⟨#[]⟩ : ByteArray), ((0, 0) : Nat × Nat), 2)) = some (r1, r2, r3, r4, r5) := by rw [if_pos rfl] at H; exact H
              clear H
              have H := H1
              clear H1
              simp only [Option.some.injEq, Prod.mk.injEq] at H
              obtain ⟨rfl, rfl, rfl, rfl, rfl⟩ := H
              go_wp2
              go_step3
              refine hG_ 0 _ _ _ (by rfl) ?_
              have hcz41_0 : wc.cell? ⟨gb130, 0, none⟩ = some (.int .i64 0) := (blk_cell BK130.out 0).trans rfl
              have hcz41_1 : wc.cell? ⟨gb130, 1, none⟩ = some (.int .i64 0) := (blk_cell BK130.out 1).trans rfl
              have hcz41_2 : wc.cell? ⟨gb130, 2, none⟩ = some (.string (⟨#[]⟩ : ByteArray)) := (blk_cell BK130.out 2).trans rfl
              have hcz41_3 : wc.cell? ⟨gb130, 3, none⟩ = some (.complex .f64 0 0) := (blk_cell BK130.out 3).trans rfl
              have hfz41_0 := blk_frozen BK130.out 0
              have hfz41_1 := blk_frozen BK130.out 1
              have hfz41_2 := blk_frozen BK130.out 2
              have hfz41_3 := blk_frozen BK130.out 3
              go_wp2
              try rw [labs_ret]
              refine bodyPost_ret (results_ct rfl _ _ gb130 25 #[.int .i64 0, .int .i64 0, .string (⟨#[]⟩ : ByteArray), .complex .f64 0 0] (0, 0) _ rfl (by (with_reducible repeat (first | refine blk_drewN ?_ _ | refine blk_drew ?_ | refine blk_alloc ?_ _)); refine blk_put (cs := #[.int .i64 0, .int .i64 0, .string (⟨#[]⟩ : ByteArray), .complex .f64 0 0]) ?_ 3 _ rfl; (with_reducible repeat (first | refine blk_drewN ?_ _ | refine blk_drew ?_ | refine blk_alloc ?_ _)); refine blk_put (cs := #[.int .i64 0, .int .i64 0, .string (⟨#[]⟩ : ByteArray), .complex .f64 0 0]) ?_ 2 _ rfl; (with_reducible repeat (first | refine blk_drewN ?_ _ | refine blk_drew ?_ | refine blk_alloc ?_ _)); refine blk_put (cs := #[.int .i64 0, .int .i64 0, .string (⟨#[]⟩ : ByteArray), .complex .f64 0 0]) ?_ 1 _ rfl; (with_reducible repeat (first | refine blk_drewN ?_ _ | refine blk_drew ?_ | refine blk_alloc ?_ _)); refine blk_put (cs := #[.int .i64 0, .int .i64 0, .string (⟨#[]⟩ : ByteArray), .complex .f64 0 0]) ?_ 0 _ rfl; (with_reducible repeat (first | refine blk_drewN ?_ _ | refine blk_drew ?_ | refine blk_alloc ?_ _)); exact BK130.out) Tryz.underlying25 rfl (by kernel_rfl)) rfl ?_
              exact ⟨by first | rfl | (simp [errW_none, errW_some] <;> rfl) | (simp [*, errW_none, errW_some] <;> rfl), by repeat (first | (with_reducible first | exact HB.out | apply below_alloc | apply pw_below_drewN | apply below_drew1 | refine below_set ?_ GE130.out) | exact HB.out)⟩
            · replace c40 := Bool.eq_false_iff.mpr c40
              subst c40
              have H1 : ((strconv_ParseInt.f a0 10 64).bind fun bt142 => (if bt142.2.isNone = true then (some (1, bt142.1, (⟨#[]⟩ : ByteArray), ((0, 0) : Nat × Nat), 0)) else (some (0, 0, (⟨#[]⟩ : ByteArray), ((0, 0) : Nat × Nat), 1)))) = some (r1, r2, r3, r4, r5) := by rw [if_neg (show ¬ (false = true) by decide)] at H; exact H
              clear H
              have H := H1
              clear H1
              replace H := Option.bind_eq_some_iff.mp H
              obtain ⟨⟨t142, t143⟩, A420, H⟩ := H
              replace H : (if t143.isNone = true then (some (1, t142, (⟨#[]⟩ : ByteArray), ((0, 0) : Nat × Nat), 0)) else (some (0, 0, (⟨#[]⟩ : ByteArray), ((0, 0) : Nat × Nat), 1))) = some (r1, r2, r3, r4, r5) := H
              have A42 := Aside0.mk A420
              clear A420
              rcases t143 with _ | q144
              · have H1 : (some (1, t142, (⟨#[]⟩ : ByteArray), ((0, 0) : Nat × Nat), 0)) = some (r1, r2, r3, r4, r5) := by rw [if_pos (show (none : Option Int).isNone = true by rfl)] at H; exact H
                clear H
                have H := H1
                clear H1
                try simp only [errW_none, errW_some]
                simp only [Option.some.injEq, Prod.mk.injEq] at H
                obtain ⟨rfl, rfl, rfl, rfl, rfl⟩ := H
                go_wp2_with (first | ((with_reducible refine gate_callee (f := 22) rfl ?_); refine goesL_ (some 54) rfl rfl Tryz.func22 (by kernel_rfl) rfl #[.string a0, .int .i64 10, .int .i64 64] rfl (by (try simp only [List.map_toArray, List.map_cons, List.map_nil]); first | done | rfl | (simp only [List.length_drop, List.length_take]; rfl)) ?_; (with_reducible refine (strconv_ParseInt.calls a0 10 64 t142 none _ A42.out (Glob.below HG_.out (by repeat (first | (with_reducible first | exact HB.out | apply below_alloc | apply pw_below_drewN | apply below_drew1 | refine below_set ?_ GE130.out) | exact HB.out)))).mono ?_); rintro e w43 ⟨q22_, rfl, hb⟩; refine ⟨_, rfl, ?_⟩; (try simp only [Option.map_some, Option.map_none, errW_none, errW_some]); have n0_ := Aside0.mk (blk_below (g := gb130) (o := .cells #[.int .i64 0, .int .i64 0, .string (⟨#[]⟩ : ByteArray), .complex .f64 0 0] 25 (0, 0)) (by (with_reducible repeat (first | refine blk_drewN ?_ _ | refine blk_drew ?_ | refine blk_alloc ?_ _)); exact BK130.out) hb); have n1_ := Aside0.mk (below_step (by repeat (first | (with_reducible first | exact HB.out | apply below_alloc | apply pw_below_drewN | apply below_drew1 | refine below_set ?_ GE130.out) | exact HB.out)) hb); clear BK130; clear HB; have BK130 := n0_; have HB := n1_; clear n0_ n1_; (try clear hb); (try clear hb2); (try clear hk); (try clear hi); (try simp only [errW_none, errW_some]); have hcz44_0 : w43.cell? ⟨gb130, 0, none⟩ = some (.int .i64 0) := (blk_cell BK130.out 0).trans rfl; have hcz44_1 : w43.cell? ⟨gb130, 1, none⟩ = some (.int .i64 0) := (blk_cell BK130.out 1).trans rfl; have hcz44_2 : w43.cell? ⟨gb130, 2, none⟩ = some (.string (⟨#[]⟩ : ByteArray)) := (blk_cell BK130.out 2).trans rfl; have hcz44_3 : w43.cell? ⟨gb130, 3, none⟩ = some (.complex .f64 0 0) := (blk_cell BK130.out 3).trans rfl; have hfz44_0 := blk_frozen BK130.out 0; have hfz44_1 := blk_frozen BK130.out 1; have hfz44_2 := blk_frozen BK130.out 2; have hfz44_3 := blk_frozen BK130.out 3))
                try rw [labs_ret]
                refine bodyPost_ret (results_ct rfl _ _ gb130 25 #[.int .i64 1, .int .i64 t142, .string (⟨#[]⟩ : ByteArray), .complex .f64 0 0] (0, 0) _ rfl (by (with_reducible repeat (first | refine blk_drewN ?_ _ | refine blk_drew ?_ | refine blk_alloc ?_ _)); refine blk_put (cs := #[.int .i64 1, .int .i64 t142, .string (⟨#[]⟩ : ByteArray), .complex .f64 0 0]) ?_ 3 _ rfl; (with_reducible repeat (first | refine blk_drewN ?_ _ | refine blk_drew ?_ | refine blk_alloc ?_ _)); refine blk_put (cs := #[.int .i64 1, .int .i64 t142, .string (⟨#[]⟩ : ByteArray), .complex .f64 0 0]) ?_ 2 _ rfl; (with_reducible repeat (first | refine blk_drewN ?_ _ | refine blk_drew ?_ | refine blk_alloc ?_ _)); refine blk_put (cs := #[.int .i64 1, .int .i64 0, .string (⟨#[]⟩ : ByteArray), .complex .f64 0 0]) ?_ 1 _ rfl; (with_reducible repeat (first | refine blk_drewN ?_ _ | refine blk_drew ?_ | refine blk_alloc ?_ _)); refine blk_put (cs := #[.int .i64 0, .int .i64 0, .string (⟨#[]⟩ : ByteArray), .complex .f64 0 0]) ?_ 0 _ rfl; (with_reducible repeat (first | refine blk_drewN ?_ _ | refine blk_drew ?_ | refine blk_alloc ?_ _)); exact BK130.out) Tryz.underlying25 rfl (by kernel_rfl)) rfl ?_
                exact ⟨by first | rfl | (simp [errW_none, errW_some] <;> rfl) | (simp [*, errW_none, errW_some] <;> rfl), by repeat (first | (with_reducible first | exact HB.out | apply below_alloc | apply pw_below_drewN | apply below_drew1 | refine below_set ?_ GE130.out) | exact HB.out)⟩
              · have H1 : (some (0, 0, (⟨#[]⟩ : ByteArray), ((0, 0) : Nat × Nat), 1)) = some (r1, r2, r3, r4, r5) := by rw [if_neg (show ¬ (some q144).isNone = true by simp)] at H; exact H
                clear H
                have H := H1
                clear H1
                try simp only [errW_none, errW_some]
                simp only [Option.some.injEq, Prod.mk.injEq] at H
                obtain ⟨rfl, rfl, rfl, rfl, rfl⟩ := H
                go_wp2_with (first | ((with_reducible refine gate_callee (f := 22) rfl ?_); refine goesL_ (some 54) rfl rfl Tryz.func22 (by kernel_rfl) rfl #[.string a0, .int .i64 10, .int .i64 64] rfl (by (try simp only [List.map_toArray, List.map_cons, List.map_nil]); first | done | rfl | (simp only [List.length_drop, List.length_take]; rfl)) ?_; (with_reducible refine (strconv_ParseInt.calls a0 10 64 t142 (some q144) _ A42.out (Glob.below HG_.out (by repeat (first | (with_reducible first | exact HB.out | apply below_alloc | apply pw_below_drewN | apply below_drew1 | refine below_set ?_ GE130.out) | exact HB.out)))).mono ?_); rintro e w45 ⟨q22_, rfl, hb⟩; refine ⟨_, rfl, ?_⟩; (try simp only [Option.map_some, Option.map_none, errW_none, errW_some]); have n0_ := Aside0.mk (blk_below (g := gb130) (o := .cells #[.int .i64 0, .int .i64 0, .string (⟨#[]⟩ : ByteArray), .complex .f64 0 0] 25 (0, 0)) (by (with_reducible repeat (first | refine blk_drewN ?_ _ | refine blk_drew ?_ | refine blk_alloc ?_ _)); exact BK130.out) hb); have n1_ := Aside0.mk (below_step (by repeat (first | (with_reducible first | exact HB.out | apply below_alloc | apply pw_below_drewN | apply below_drew1 | refine below_set ?_ GE130.out) | exact HB.out)) hb); clear BK130; clear HB; have BK130 := n0_; have HB := n1_; clear n0_ n1_; (try clear hb); (try clear hb2); (try clear hk); (try clear hi); (try simp only [errW_none, errW_some])))
                go_step3
                have hcz46_0 : w45.cell? ⟨gb130, 0, none⟩ = some (.int .i64 0) := (blk_cell BK130.out 0).trans rfl
                have hcz46_1 : w45.cell? ⟨gb130, 1, none⟩ = some (.int .i64 0) := (blk_cell BK130.out 1).trans rfl
                have hcz46_2 : w45.cell? ⟨gb130, 2, none⟩ = some (.string (⟨#[]⟩ : ByteArray)) := (blk_cell BK130.out 2).trans rfl
                have hcz46_3 : w45.cell? ⟨gb130, 3, none⟩ = some (.complex .f64 0 0) := (blk_cell BK130.out 3).trans rfl
                have hfz46_0 := blk_frozen BK130.out 0
                have hfz46_1 := blk_frozen BK130.out 1
                have hfz46_2 := blk_frozen BK130.out 2
                have hfz46_3 := blk_frozen BK130.out 3
                go_wp2
                try rw [labs_ret]
                refine bodyPost_ret (results_ct rfl _ _ gb130 25 #[.int .i64 0, .int .i64 0, .string (⟨#[]⟩ : ByteArray), .complex .f64 0 0] (0, 0) _ rfl (by (with_reducible repeat (first | refine blk_drewN ?_ _ | refine blk_drew ?_ | refine blk_alloc ?_ _)); refine blk_put (cs := #[.int .i64 0, .int .i64 0, .string (⟨#[]⟩ : ByteArray), .complex .f64 0 0]) ?_ 3 _ rfl; (with_reducible repeat (first | refine blk_drewN ?_ _ | refine blk_drew ?_ | refine blk_alloc ?_ _)); refine blk_put (cs := #[.int .i64 0, .int .i64 0, .string (⟨#[]⟩ : ByteArray), .complex .f64 0 0]) ?_ 2 _ rfl; (with_reducible repeat (first | refine blk_drewN ?_ _ | refine blk_drew ?_ | refine blk_alloc ?_ _)); refine blk_put (cs := #[.int .i64 0, .int .i64 0, .string (⟨#[]⟩ : ByteArray), .complex .f64 0 0]) ?_ 1 _ rfl; (with_reducible repeat (first | refine blk_drewN ?_ _ | refine blk_drew ?_ | refine blk_alloc ?_ _)); refine blk_put (cs := #[.int .i64 0, .int .i64 0, .string (⟨#[]⟩ : ByteArray), .complex .f64 0 0]) ?_ 0 _ rfl; (with_reducible repeat (first | refine blk_drewN ?_ _ | refine blk_drew ?_ | refine blk_alloc ?_ _)); exact BK130.out) Tryz.underlying25 rfl (by kernel_rfl)) rfl ?_
                exact ⟨by first | rfl | (simp [errW_none, errW_some] <;> rfl) | (simp [*, errW_none, errW_some] <;> rfl), by repeat (first | (with_reducible first | exact HB.out | apply below_alloc | apply pw_below_drewN | apply below_drew1 | refine below_set ?_ GE130.out) | exact HB.out)⟩

/-! ### strconv_FormatInt: function 26 (given) -/
def strconv_FormatInt.f (a0 : Int) (a1 : Int) : Option ByteArray := if a1 = 10 ∧ -9223372036854775808 ≤ a0 ∧ a0 ≤ 9223372036854775807 then some ⟨(Lib.itoa a0).toArray⟩ else none
theorem strconv_FormatInt.calls (a0 : Int) (a1 : Int) (r : ByteArray) (w : World) (h : strconv_FormatInt.f a0 a1 = some r) (hG_ : Glob w) :
    Calls Tryz.prog 26 #[.int .i64 a0, .int .i64 a1] w fun e w' => e = .returned (.string r) ∧ Below w.heap.size w w' := by
  unfold strconv_FormatInt.f at h
  split at h
  · rename_i c
    obtain ⟨rfl, c1, c2⟩ := c
    obtain rfl := Option.some.inj h
    refine (Tryz.strconv_FormatInt_10 a0 c1 c2 w hG_.tab).mono ?_
    rintro e w' ⟨rfl, k, os, rfl⟩
    exact ⟨rfl, below_grow' w k os⟩
  · cases h

/-! ### point_Text: function 27 -/
def point_Text.f (a0 : (Nat × Nat)) : Option (ByteArray) := if fToIok .i64 a0.2 = true then ((strconv_FormatInt.f (fToI .i64 a0.2) 10).bind fun t145 => (if 0 < (t145.size : Int) then (if (bt t145 0) = 45 then (if fToIok .i64 a0.1 = true then ((strconv_FormatInt.f (fToI .i64 a0.1) 10).bind fun t146 => (if t146.size + t145.size ≤ 9223372036854775807 then (if t146.size + t145.size + 1 ≤ 9223372036854775807 then (some ((t146 ++ t145) ++ (⟨#[105]⟩ : ByteArray))) else (none)) else (none))) else (none)) else (if 1 + t145.size ≤ 9223372036854775807 then (if fToIok .i64 a0.1 = true then ((strconv_FormatInt.f (fToI .i64 a0.1) 10).bind fun t147 => (if t147.size + 1 + t145.size ≤ 9223372036854775807 then (if t147.size + (1 + t145.size) + 1 ≤ 9223372036854775807 then (some ((t147 ++ ((⟨#[43]⟩ : ByteArray) ++ t145)) ++ (⟨#[105]⟩ : ByteArray))) else (none)) else (none))) else (none)) else (none))) else (none))) else (none)
set_option maxHeartbeats 8000000 in
set_option maxRecDepth 100000 in
theorem point_Text.calls (a0 : (Nat × Nat)) (r : ByteArray) (w : World) (h : point_Text.f a0 = some r) (hG_ : Glob w) :
    Calls Tryz.prog 27 #[.complex .f64 a0.1 a0.2] w fun e w' => e = .returned (.string r) ∧ Below w.heap.size w w' := by
  have HG_ := Aside0.mk hG_
  clear hG_
  have HB := Aside0.mk (Below.refl w.heap.size w)
  have H : (if fToIok .i64 a0.2 = true then ((strconv_FormatInt.f (fToI .i64 a0.2) 10).bind fun t145 => (if 0 < (t145.size : Int) then (if (bt t145 0) = 45 then (if fToIok .i64 a0.1 = true then ((strconv_FormatInt.f (fToI .i64 a0.1) 10).bind fun t146 => (if t146.size + t145.size ≤ 9223372036854775807 then (if t146.size + t145.size + 1 ≤ 9223372036854775807 then (some ((t146 ++ t145) ++ (⟨#[105]⟩ : ByteArray))) else (none)) else (none))) else (none)) else (if 1 + t145.size ≤ 9223372036854775807 then (if fToIok .i64 a0.1 = true then ((strconv_FormatInt.f (fToI .i64 a0.1) 10).bind fun t147 => (if t147.size + 1 + t145.size ≤ 9223372036854775807 then (if t147.size + (1 + t145.size) + 1 ≤ 9223372036854775807 then (some ((t147 ++ ((⟨#[43]⟩ : ByteArray) ++ t145)) ++ (⟨#[105]⟩ : ByteArray))) else (none)) else (none))) else (none)) else (none))) else (none))) else (none)) = some r := h
  clear h
  by_cases c2 : fToIok .i64 a0.2 = true
  · rw [if_pos c2] at H
    have c2b0 := eq_true c2
    have c2b1 : decide (fToIok .i64 a0.2 = true) = true := decide_eq_true c2
    clear c2
    replace H := Option.bind_eq_some_iff.mp H
    obtain ⟨t145, A30, H⟩ := H
    replace H : (if 0 < (t145.size : Int) then (if (bt t145 0) = 45 then (if fToIok .i64 a0.1 = true then ((strconv_FormatInt.f (fToI .i64 a0.1) 10).bind fun t146 => (if t146.size + t145.size ≤ 9223372036854775807 then (if t146.size + t145.size + 1 ≤ 9223372036854775807 then (some ((t146 ++ t145) ++ (⟨#[105]⟩ : ByteArray))) else (none)) else (none))) else (none)) else (if 1 + t145.size ≤ 9223372036854775807 then (if fToIok .i64 a0.1 = true then ((strconv_FormatInt.f (fToI .i64 a0.1) 10).bind fun t147 => (if t147.size + 1 + t145.size ≤ 9223372036854775807 then (if t147.size + (1 + t145.size) + 1 ≤ 9223372036854775807 then (some ((t147 ++ ((⟨#[43]⟩ : ByteArray) ++ t145)) ++ (⟨#[105]⟩ : ByteArray))) else (none)) else (none))) else (none)) else (none))) else (none)) = some r := H
    have A3 := Aside0.mk A30
    clear A30
    by_cases c4 : 0 < (t145.size : Int)
    · rw [if_pos c4] at H
      have c4b0 : decide (0 < (t145.size : Int)) = true := decide_eq_true c4
      have c4b1 : decide (0 < t145.size) = true := decide_eq_true (by omega)
      clear c4
      by_cases c6 : (bt t145 0) = 45
      · rw [if_pos c6] at H
        have c6b0 : ((bt t145 0) == 45) = true := beq_iff_eq.mpr c6
        have c6b1 : ((bt t145 0) != 45) = false := bne_eq_false_iff_eq.mpr c6
        clear c6
        by_cases c7 : fToIok .i64 a0.1 = true
        · rw [if_pos c7] at H
          have c7b0 := eq_true c7
          have c7b1 : decide (fToIok .i64 a0.1 = true) = true := decide_eq_true c7
          clear c7
          replace H := Option.bind_eq_some_iff.mp H
          obtain ⟨t146, A80, H⟩ := H
          replace H : (if t146.size + t145.size ≤ 9223372036854775807 then (if t146.size + t145.size + 1 ≤ 9223372036854775807 then (some ((t146 ++ t145) ++ (⟨#[105]⟩ : ByteArray))) else (none)) else (none)) = some r := H
          have A8 := Aside0.mk A80
          clear A80
          by_cases c9 : t146.size + t145.size ≤ 9223372036854775807
          · rw [if_pos c9] at H
            have c9b0 := eq_true c9
            have c9b1 : decide (t146.size + t145.size ≤ 9223372036854775807) = true := decide_eq_true c9
            try have c9b2 : (9223372036854775807 < t146.size + t145.size) = False := eq_false (Nat.not_lt.2 c9)
            by_cases c10 : t146.size + t145.size + 1 ≤ 9223372036854775807
            · rw [if_pos c10] at H
              have c10b0 := eq_true c10
              have c10b1 : decide (t146.size + t145.size + 1 ≤ 9223372036854775807) = true := decide_eq_true c10
              try have c10b2 : (9223372036854775807 < t146.size + t145.size + 1) = False := eq_false (Nat.not_lt.2 c10)
              obtain rfl := Option.some.inj H
              go_enter Tryz.func27, Tryz.ntmps27
              go_wp2_with (first | ((with_reducible refine gate_callee (f := 26) rfl ?_); refine goesL_ (some 7) rfl rfl Tryz.func26 (by kernel_rfl) rfl #[.int .i64 (fToI .i64 a0.2), .int .i64 10] rfl (by (try simp only [List.map_toArray, List.map_cons, List.map_nil]); first | done | rfl | (simp only [List.length_drop, List.length_take]; rfl)) ?_; (with_reducible refine (strconv_FormatInt.calls (fToI .i64 a0.2) 10 t145 _ A3.out (Glob.below HG_.out (by repeat (first | (with_reducible first | exact HB.out | apply below_alloc | apply pw_below_drewN | apply below_drew1) | exact HB.out)))).mono ?_); rintro e w11 ⟨rfl, hb⟩; refine ⟨_, rfl, ?_⟩; have n0_ := Aside0.mk (below_step (by repeat (first | (with_reducible first | exact HB.out | apply below_alloc | apply pw_below_drewN | apply below_drew1) | exact HB.out)) hb); clear HB; have HB := n0_; clear n0_; (try clear hb); (try clear hb2); (try clear hk); (try clear hi); have p5 : 0 ≤ (0 : Int) := (by omega); have q5 : 0 < t145.size := (by have : (0 : Int) < (t145.size : Int) := of_decide_eq_true (by first | (with_reducible assumption) | assumption); omega); have hx5 : ∀ h : 0 < t145.size, ((t145[0]'h).toNat : Int) = bt t145 0 := bt_at t145 0; clear p5; have qi5 : (0 < (t145.size : Int)) = True := eq_true (of_decide_eq_true (by first | (with_reducible assumption) | assumption)); replace q5 := eq_true q5) | ((with_reducible refine gate_callee (f := 26) rfl ?_); refine goesL_ (some 16) rfl rfl Tryz.func26 (by kernel_rfl) rfl #[.int .i64 (fToI .i64 a0.1), .int .i64 10] rfl (by (try simp only [List.map_toArray, List.map_cons, List.map_nil]); first | done | rfl | (simp only [List.length_drop, List.length_take]; rfl)) ?_; (with_reducible refine (strconv_FormatInt.calls (fToI .i64 a0.1) 10 t146 _ A8.out (Glob.below HG_.out (by repeat (first | (with_reducible first | exact HB.out | apply below_alloc | apply pw_below_drewN | apply below_drew1) | exact HB.out)))).mono ?_); rintro e w12 ⟨rfl, hb⟩; refine ⟨_, rfl, ?_⟩; have n0_ := Aside0.mk (below_step (by repeat (first | (with_reducible first | exact HB.out | apply below_alloc | apply pw_below_drewN | apply below_drew1) | exact HB.out)) hb); clear HB; have HB := n0_; clear n0_; (try clear hb); (try clear hb2); (try clear hk); (try clear hi)))
              go_ret
              exact ⟨by first | rfl | (simp [errW_none, errW_some] <;> rfl) | (simp [*, errW_none, errW_some] <;> rfl), by repeat (first | (with_reducible first | exact HB.out | apply below_alloc | apply pw_below_drewN | apply below_drew1) | exact HB.out)⟩
            · rw [if_neg c10] at H
              exact absurd H (by simp)
          · rw [if_neg c9] at H
            exact absurd H (by simp)
        · rw [if_neg c7] at H
          exact absurd H (by simp)
      · rw [if_neg c6] at H
        have c6b0 : ((bt t145 0) == 45) = false := beq_eq_false_iff_ne.mpr c6
        have c6b1 : ((bt t145 0) != 45) = true := bne_iff_ne.mpr c6
        by_cases c13 : 1 + t145.size ≤ 9223372036854775807
        · rw [if_pos c13] at H
          have c13b0 := eq_true c13
          have c13b1 : decide (1 + t145.size ≤ 9223372036854775807) = true := decide_eq_true c13
          try have c13b2 : (9223372036854775807 < 1 + t145.size) = False := eq_false (Nat.not_lt.2 c13)
          by_cases c14 : fToIok .i64 a0.1 = true
          · rw [if_pos c14] at H
            have c14b0 := eq_true c14
            have c14b1 : decide (fToIok .i64 a0.1 = true) = true := decide_eq_true c14
            clear c14
            replace H := Option.bind_eq_some_iff.mp H
            obtain ⟨t147, A150, H⟩ := H
            replace H : (if t147.size + 1 + t145.size ≤ 9223372036854775807 then (if t147.size + (1 + t145.size) + 1 ≤ 9223372036854775807 then (some ((t147 ++ ((⟨#[43]⟩ : ByteArray) ++ t145)) ++ (⟨#[105]⟩ : ByteArray))) else (none)) else (none)) = some r := H
            have A15 := Aside0.mk A150
            clear A150
            by_cases c16 : t147.size + 1 + t145.size ≤ 9223372036854775807
            · rw [if_pos c16] at H
              have c16b0 := eq_true c16
              have c16b1 : decide (t147.size + 1 + t145.size ≤ 9223372036854775807) = true := decide_eq_true c16
              try have c16b2 : (9223372036854775807 < t147.size + 1 + t145.size) = False := eq_false (Nat.not_lt.2 c16)
              by_cases c17 : t147.size + (1 + t145.size) + 1 ≤ 9223372036854775807
              · rw [if_pos c17] at H
                have c17b0 := eq_true c17
                have c17b1 : decide (t147.size + (1 + t145.size) + 1 ≤ 9223372036854775807) = true := decide_eq_true c17
                try have c17b2 : (9223372036854775807 < t147.size + (1 + t145.size) + 1) = False := eq_false (Nat.not_lt.2 c17)
                obtain rfl := Option.some.inj H
                go_enter Tryz.func27, Tryz.ntmps27
                go_wp2_with (first | ((with_reducible refine gate_callee (f := 26) rfl ?_); refine goesL_ (some 7) rfl rfl Tryz.func26 (by kernel_rfl) rfl #[.int .i64 (fToI .i64 a0.2), .int .i64 10] rfl (by (try simp only [List.map_toArray, List.map_cons, List.map_nil]); first | done | rfl | (simp only [List.length_drop, List.length_take]; rfl)) ?_; (with_reducible refine (strconv_FormatInt.calls (fToI .i64 a0.2) 10 t145 _ A3.out (Glob.below HG_.out (by repeat (first | (with_reducible first | exact HB.out | apply below_alloc | apply pw_below_drewN | apply below_drew1) | exact HB.out)))).mono ?_); rintro e w18 ⟨rfl, hb⟩; refine ⟨_, rfl, ?_⟩; have n0_ := Aside0.mk (below_step (by repeat (first | (with_reducible first | exact HB.out | apply below_alloc | apply pw_below_drewN | apply below_drew1) | exact HB.out)) hb); clear HB; have HB := n0_; clear n0_; (try clear hb); (try clear hb2); (try clear hk); (try clear hi); have p5 : 0 ≤ (0 : Int) := (by omega); have q5 : 0 < t145.size := (by have : (0 : Int) < (t145.size : Int) := of_decide_eq_true (by first | (with_reducible assumption) | assumption); omega); have hx5 : ∀ h : 0 < t145.size, ((t145[0]'h).toNat : Int) = bt t145 0 := bt_at t145 0; clear p5; have qi5 : (0 < (t145.size : Int)) = True := eq_true (of_decide_eq_true (by first | (with_reducible assumption) | assumption)); replace q5 := eq_true q5) | ((with_reducible refine gate_callee (f := 26) rfl ?_); refine goesL_ (some 16) rfl rfl Tryz.func26 (by kernel_rfl) rfl #[.int .i64 (fToI .i64 a0.1), .int .i64 10] rfl (by (try simp only [List.map_toArray, List.map_cons, List.map_nil]); first | done | rfl | (simp only [List.length_drop, List.length_take]; rfl)) ?_; (with_reducible refine (strconv_FormatInt.calls (fToI .i64 a0.1) 10 t147 _ A15.out (Glob.below HG_.out (by repeat (first | (with_reducible first | exact HB.out | apply below_alloc | apply pw_below_drewN | apply below_drew1) | exact HB.out)))).mono ?_); rintro e w19 ⟨rfl, hb⟩; refine ⟨_, rfl, ?_⟩; have n0_ := Aside0.mk (below_step (by repeat (first | (with_reducible first | exact HB.out | apply below_alloc | apply pw_below_drewN | apply below_drew1) | exact HB.out)) hb); clear HB; have HB := n0_; clear n0_; (try clear hb); (try clear hb2); (try clear hk); (try clear hi)))
                go_ret
                exact ⟨by first | rfl | (simp [errW_none, errW_some] <;> rfl) | (simp [*, errW_none, errW_some] <;> rfl), by repeat (first | (with_reducible first | exact HB.out | apply below_alloc | apply pw_below_drewN | apply below_drew1) | exact HB.out)⟩
              · rw [if_neg c17] at H
                exact absurd H (by simp)
            · rw [if_neg c16] at H
              exact absurd H (by simp)
          · rw [if_neg c14] at H
            exact absurd H (by simp)
        · rw [if_neg c13] at H
          exact absurd H (by simp)
    · rw [if_neg c4] at H
      exact absurd H (by simp)
  · rw [if_neg c2] at H
    exact absurd H (by simp)

end Go.Proofs.YtaflcaillcjmmaaGreatDoor.PAll
