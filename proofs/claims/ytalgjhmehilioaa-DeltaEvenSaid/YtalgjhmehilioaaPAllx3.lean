-- Printed by this session's own program (wip/tools/pp.py): out of the translation. Lean checks it.
import Derived.Test.YtalgjhmehilioaaPAllx0
import Derived.Test.YtalgjhmehilioaaPAllx1
namespace Go.Proofs.Ytalgjhmehilioaa.PAll
open Go.Proofs.Ytalgjhmehilioaa.Help
open Go.RowKit Go.Proofs.YtalgjhmehilioaaW.PrintWords Go.Proofs.YtalgjhmehilioaaW.PrintLast Go.Proofs.YtalgjhmehilioaaW.PrintMore
attribute [local go_sem] max2_int min2_int max_two min_two max_three min_three max_four min_four   -- for this text's walks alone
set_option linter.unusedVariables false
set_option linter.unusedSimpArgs false

/-! ### pack_Get: function 18 -/
mutual
def pack_Get.l0 : Nat → List Int → Int → List Int → Int → Int → Int → Option (List Int × Int)
  | 0, _, _, _, _, _, _ => none
  | k + 1, x0, x2, x6, x8, x27, x28 => if x28 < x27 then (pack_Get.l1 k x0 x2 x6 x8 0 x27 x28 x2 0) else (pack_Get.l2 k x0 x6 x8)
def pack_Get.l1 : Nat → List Int → Int → List Int → Int → Int → Int → Int → Int → Int → Option (List Int × Int)
  | 0, _, _, _, _, _, _, _, _, _ => none
  | k + 1, x0, x2, x6, x8, x9, x27, x28, x30, x31 => if x31 < x30 then (if 0 ≤ (wrap64 (Int.tdiv x8 8)) then (if (wrap64 (Int.tdiv x8 8)) < (x0.length : Int) then (if 0 ≤ (Int.tmod x8 8) then (if 0 ≤ x31 then (pack_Get.l1 k x0 x2 x6 (wrap64 (x8 + 1)) (Go.bits .or .u64 x9 (shl .u64 (IntKind.u64.wrap (Go.bits .and .u8 (shr .u8 (rd x0 (wrap64 (Int.tdiv x8 8))) (Int.tmod x8 8)) 1)) x31)) x27 x28 x30 (wrap64 (x31 + 1))) else (none)) else (none)) else (none)) else (none)) else (if x6.length < 17592186044416 then (pack_Get.l0 k x0 x2 (x6 ++ [x9]) x8 x27 (wrap64 (x28 + 1))) else (none))
def pack_Get.l2 : Nat → List Int → List Int → Int → Option (List Int × Int)
  | 0, _, _, _ => none
  | k + 1, x0, x6, x8 => if x8 < (wrap64 (8 * (x0.length : Int))) then (if 0 ≤ (wrap64 (Int.tdiv x8 8)) then (if (wrap64 (Int.tdiv x8 8)) < (x0.length : Int) then (if 0 ≤ (Int.tmod x8 8) then (if (Go.bits .and .u8 (shr .u8 (rd x0 (wrap64 (Int.tdiv x8 8))) (Int.tmod x8 8)) 1) = 1 then (some (([] : List Int), 2)) else (pack_Get.l2 k x0 x6 (wrap64 (x8 + 1)))) else (none)) else (none)) else (none)) else (some (x6, 0))
end
def pack_Get.f (k : Nat) (l0 : List Int) (a1 : Int) (a2 : Int) : Option (List Int × Int) := (pack_may.f a1 a2).bind fun t131 => (if t131 = true then ((pack_Size.f a1 a2).bind fun t132 => (if (l0.length : Int) < t132 then (some (([] : List Int), 5)) else (if (l0.length : Int) > t132 then (some (([] : List Int), 4)) else (pack_Get.l0 k l0 a2 ([] : List Int) 0 a1 0)))) else (some (([] : List Int), 1)))
theorem pack_Get.mono_l : ∀ k, (∀ y0 y1 y2 y3 y4 y5, LeO (pack_Get.l0 k y0 y1 y2 y3 y4 y5) (pack_Get.l0 (k + 1) y0 y1 y2 y3 y4 y5)) ∧ (∀ y0 y1 y2 y3 y4 y5 y6 y7 y8, LeO (pack_Get.l1 k y0 y1 y2 y3 y4 y5 y6 y7 y8) (pack_Get.l1 (k + 1) y0 y1 y2 y3 y4 y5 y6 y7 y8)) ∧ (∀ y0 y1 y2, LeO (pack_Get.l2 k y0 y1 y2) (pack_Get.l2 (k + 1) y0 y1 y2))
  | 0 => ⟨fun _ _ _ _ _ _ r h => by simp [pack_Get.l0] at h, fun _ _ _ _ _ _ _ _ _ r h => by simp [pack_Get.l1] at h, fun _ _ _ r h => by simp [pack_Get.l2] at h⟩
  | k + 1 => by
    obtain ⟨ih0, ih1, ih2⟩ := pack_Get.mono_l k
    refine ⟨?_, ?_, ?_⟩
    · intro y0 y1 y2 y3 y4 y5
      unfold pack_Get.l0
      repeat' first
      | (with_reducible exact ih0 _ _ _ _ _ _)
      | (with_reducible exact ih1 _ _ _ _ _ _ _ _ _)
      | (with_reducible exact ih2 _ _ _)
      | (with_reducible exact LeO.refl _)
      | (with_reducible exact LeO.none _)
      | (with_reducible refine LeO.ite ?_ ?_)
      | (with_reducible refine LeO.bind ?_ (fun _ => ?_))
      | exact ih0 _ _ _ _ _ _
      | exact ih1 _ _ _ _ _ _ _ _ _
      | exact ih2 _ _ _
      | exact LeO.none _
      | refine LeO.ite ?_ ?_
      | refine LeO.bind ?_ (fun _ => ?_)
    · intro y0 y1 y2 y3 y4 y5 y6 y7 y8
      unfold pack_Get.l1
      repeat' first
      | (with_reducible exact ih0 _ _ _ _ _ _)
      | (with_reducible exact ih1 _ _ _ _ _ _ _ _ _)
      | (with_reducible exact ih2 _ _ _)
      | (with_reducible exact LeO.refl _)
      | (with_reducible exact LeO.none _)
      | (with_reducible refine LeO.ite ?_ ?_)
      | (with_reducible refine LeO.bind ?_ (fun _ => ?_))
      | exact ih0 _ _ _ _ _ _
      | exact ih1 _ _ _ _ _ _ _ _ _
      | exact ih2 _ _ _
      | exact LeO.none _
      | refine LeO.ite ?_ ?_
      | refine LeO.bind ?_ (fun _ => ?_)
    · intro y0 y1 y2
      unfold pack_Get.l2
      repeat' first
      | (with_reducible exact ih0 _ _ _ _ _ _)
      | (with_reducible exact ih1 _ _ _ _ _ _ _ _ _)
      | (with_reducible exact ih2 _ _ _)
      | (with_reducible exact LeO.refl _)
      | (with_reducible exact LeO.none _)
      | (with_reducible refine LeO.ite ?_ ?_)
      | (with_reducible refine LeO.bind ?_ (fun _ => ?_))
      | exact ih0 _ _ _ _ _ _
      | exact ih1 _ _ _ _ _ _ _ _ _
      | exact ih2 _ _ _
      | exact LeO.none _
      | refine LeO.ite ?_ ?_
      | refine LeO.bind ?_ (fun _ => ?_)
theorem pack_Get.mono : ∀ a0 a1 a2 k, LeO (pack_Get.f k a0 a1 a2) (pack_Get.f (k + 1) a0 a1 a2) := by
  intro a0 a1 a2 k
  obtain ⟨ih0, ih1, ih2⟩ := pack_Get.mono_l k
  unfold pack_Get.f
  repeat' first
      | (with_reducible exact ih0 _ _ _ _ _ _)
      | (with_reducible exact ih1 _ _ _ _ _ _ _ _ _)
      | (with_reducible exact ih2 _ _ _)
      | (with_reducible exact LeO.refl _)
      | (with_reducible exact LeO.none _)
      | (with_reducible refine LeO.ite ?_ ?_)
      | (with_reducible refine LeO.bind ?_ (fun _ => ?_))
      | exact ih0 _ _ _ _ _ _
      | exact ih1 _ _ _ _ _ _ _ _ _
      | exact ih2 _ _ _
      | exact LeO.none _
      | refine LeO.ite ?_ ?_
      | refine LeO.bind ?_ (fun _ => ?_)
set_option maxHeartbeats 8000000 in
set_option maxRecDepth 100000 in
theorem pack_Get.calls (k : Nat) (A0 : Option Addr) (c0 : Nat) (l0 : List Int) (a1 : Int) (a2 : Int) (r1 : List Int) (r2 : Int) (w : World) (hr0 : Kd.C (Kd.int .u8) w A0 l0.length l0) (hc0 : l0.length ≤ c0) (h : pack_Get.f k l0 a1 a2 = some (r1, r2)) :
    Calls Try.prog 18 #[.slice A0 l0.length c0, .int .i64 a1, .int .i64 a2] w fun e w' => ∃ v0_ : Value, e = .returned (.tuple #[v0_, .int .i64 r2]) ∧ Kd.R (Kd.int .u64) 38 w' w.heap.size (fun _ => True) v0_ r1 ∧ Below w.heap.size w w' := by
  have HR0 := Aside0.mk hr0
  have HC0 := Aside0.mk hc0
  clear hr0 hc0
  have HB := Aside0.mk (Below.refl w.heap.size w)
  have H : ((pack_may.f a1 a2).bind fun t131 => (if t131 = true then ((pack_Size.f a1 a2).bind fun t132 => (if (l0.length : Int) < t132 then (some (([] : List Int), 5)) else (if (l0.length : Int) > t132 then (some (([] : List Int), 4)) else (pack_Get.l0 k l0 a2 ([] : List Int) 0 a1 0)))) else (some (([] : List Int), 1)))) = some (r1, r2) := h
  clear h
  replace H := Option.bind_eq_some_iff.mp H
  obtain ⟨t131, A40, H⟩ := H
  replace H : (if t131 = true then ((pack_Size.f a1 a2).bind fun t132 => (if (l0.length : Int) < t132 then (some (([] : List Int), 5)) else (if (l0.length : Int) > t132 then (some (([] : List Int), 4)) else (pack_Get.l0 k l0 a2 ([] : List Int) 0 a1 0)))) else (some (([] : List Int), 1))) = some (r1, r2) := H
  have A4 := Aside0.mk A40
  clear A40
  by_cases c5 : t131 = true
  · subst c5
    have H1 : ((pack_Size.f a1 a2).bind fun t132 => (if (l0.length : Int) < t132 then (some (([] : List Int), 5)) else (if (l0.length : Int) > t132 then (some (([] : List Int), 4)) else (pack_Get.l0 k l0 a2 ([] : List Int) 0 a1 0)))) = some (r1, r2) := by rw [if_pos rfl] at H; exact H
    clear H
    have H := H1
    clear H1
    replace H := Option.bind_eq_some_iff.mp H
    obtain ⟨t132, A60, H⟩ := H
    replace H : (if (l0.length : Int) < t132 then (some (([] : List Int), 5)) else (if (l0.length : Int) > t132 then (some (([] : List Int), 4)) else (pack_Get.l0 k l0 a2 ([] : List Int) 0 a1 0))) = some (r1, r2) := H
    have A6 := Aside0.mk A60
    clear A60
    by_cases c7 : (l0.length : Int) < t132
    · rw [if_pos c7] at H
      have c7b0 : decide ((l0.length : Int) < t132) = true := decide_eq_true c7
      clear c7
      simp only [Option.some.injEq, Prod.mk.injEq] at H
      obtain ⟨rfl, rfl⟩ := H
      go_enter Try.func18, Try.ntmps18
      go_wp2
      refine wp_scope_labs ?_
      intro G_ hG_
      go_wp2_with (first | (go_at_call 28; (with_reducible refine (pack_may.calls a1 a2 true _ A4.out).mono ?_); rintro e w' ⟨rfl, ⟨nd, rfl⟩⟩) | (go_at_call 27; (with_reducible refine (pack_Size.calls a1 a2 t132 _ A6.out).mono ?_); rintro e w' ⟨rfl, ⟨nd, rfl⟩⟩))
      go_step3
      refine hG_ 0 _ _ _ (by rfl) ?_
      go_wp2
      try rw [labs_ret]
      go_ret2
      exact ⟨_, by first | rfl | (simp [errW_none, errW_some] <;> rfl) | (simp [*, errW_none, errW_some] <;> rfl), by first | exact Kd.R_nil _ _ _ _ _ | exact Kd.N_nil _ _ _ _ _ | exact Kd.V_nil _ _ _ _ _ | exact Kd.Q_nil _ _ _ _ _ | exact Kd.S_nil _ _ _ _ _, by repeat (first | (with_reducible first | exact HB.out | apply below_alloc | apply pw_below_drewN | apply below_drew1) | exact HB.out)⟩
    · rw [if_neg c7] at H
      have c7b0 : decide ((l0.length : Int) < t132) = false := decide_eq_false c7
      clear c7
      by_cases c8 : (l0.length : Int) > t132
      · rw [if_pos c8] at H
        have c8b0 : decide (t132 < (l0.length : Int)) = true := decide_eq_true c8
        clear c8
        simp only [Option.some.injEq, Prod.mk.injEq] at H
        obtain ⟨rfl, rfl⟩ := H
        go_enter Try.func18, Try.ntmps18
        go_wp2
        refine wp_scope_labs ?_
        intro G_ hG_
        go_wp2_with (first | (go_at_call 28; (with_reducible refine (pack_may.calls a1 a2 true _ A4.out).mono ?_); rintro e w' ⟨rfl, ⟨nd, rfl⟩⟩) | (go_at_call 27; (with_reducible refine (pack_Size.calls a1 a2 t132 _ A6.out).mono ?_); rintro e w' ⟨rfl, ⟨nd, rfl⟩⟩))
        go_step3
        refine hG_ 0 _ _ _ (by rfl) ?_
        go_wp2
        try rw [labs_ret]
        go_ret2
        exact ⟨_, by first | rfl | (simp [errW_none, errW_some] <;> rfl) | (simp [*, errW_none, errW_some] <;> rfl), by first | exact Kd.R_nil _ _ _ _ _ | exact Kd.N_nil _ _ _ _ _ | exact Kd.V_nil _ _ _ _ _ | exact Kd.Q_nil _ _ _ _ _ | exact Kd.S_nil _ _ _ _ _, by repeat (first | (with_reducible first | exact HB.out | apply below_alloc | apply pw_below_drewN | apply below_drew1) | exact HB.out)⟩
      · rw [if_neg c8] at H
        have c8b0 : decide (t132 < (l0.length : Int)) = false := decide_eq_false c8
        clear c8
        have H' := Aside0.mk H
        clear H
        go_enter Try.func18, Try.ntmps18
        go_wp2
        refine wp_scope_labs ?_
        intro G_ hG_
        go_wp2_with (first | (go_at_call 28; (with_reducible refine (pack_may.calls a1 a2 true _ A4.out).mono ?_); rintro e w' ⟨rfl, ⟨nd, rfl⟩⟩) | (go_at_call 27; (with_reducible refine (pack_Size.calls a1 a2 t132 _ A6.out).mono ?_); rintro e w' ⟨rfl, ⟨nd, rfl⟩⟩))
        go_loopg [6, 8, 28] k (fun kq v6 v8 v28 w' => ∃ (x6_1 : List Int) (x8_1 : Int) (x28_1 : Int), v8 = .int .i64 x8_1 ∧ v28 = .int .i64 x28_1 ∧ Aside0 (pack_Get.l0 kq l0 a2 x6_1 x8_1 a1 x28_1 = some (r1, r2)) ∧ Aside0 (kq ≤ k) ∧ Aside0 (Kd.R (Kd.int .u64) 38 w' w.heap.size (fun _ => True) v6 x6_1) ∧ Aside0 (Below w.heap.size w w'))
        case atStart => exact ⟨(([] : List Int)), (0), (0), (by first | rfl | (simp; done) | (simp [*]; done)), (by first | rfl | (simp; done) | (simp [*]; done)), H', ⟨Nat.le_refl _⟩, ⟨by first | exact Kd.R_nil _ _ _ _ _ | exact Kd.N_nil _ _ _ _ _ | exact Kd.V_nil _ _ _ _ _ | exact Kd.Q_nil _ _ _ _ _ | exact Kd.S_nil _ _ _ _ _⟩, ⟨by repeat (first | (with_reducible first | exact HB.out | apply below_alloc | apply pw_below_drewN | apply below_drew1) | exact HB.out)⟩⟩
        case round =>
          clear H'
          try clear c1
          try clear p2
          try clear p3
          try clear c5
          try clear c7
          try clear c7b0
          try clear c8
          try clear c8b0
          obtain ⟨x6_1, x8_1, x28_1, rfl, rfl, HA, HK1, HO_6, HB⟩ := hrel
          cases gk with
          | zero => exact absurd HA.out (by simp [pack_Get.l0])
          | succ k1 =>
            have H := HA.out
            clear HA
            simp only [pack_Get.l0] at H
            by_cases c9 : x28_1 < a1
            · rw [if_pos c9] at H
              have c9b0 : decide (x28_1 < a1) = true := decide_eq_true c9
              clear c9
              have H' := Aside0.mk H
              clear H
              go_wp2
              go_loopg [8, 9, 31] k1 (fun kq v8 v9 v31 w' => ∃ (x8_2 : Int) (x9_2 : Int) (x31_2 : Int), v8 = .int .i64 x8_2 ∧ v9 = .int .u64 x9_2 ∧ v31 = .int .i64 x31_2 ∧ Aside0 (pack_Get.l1 kq l0 a2 x6_1 x8_2 x9_2 a1 x28_1 a2 x31_2 = some (r1, r2)) ∧ Aside0 (kq ≤ k1) ∧ Aside0 (Kd.R (Kd.int .u64) 38 w' w.heap.size (fun _ => True) u6 x6_1) ∧ Aside0 (Below w.heap.size w w'))
              case atStart => exact ⟨(x8_1), (0), (0), (by first | rfl | (simp; done) | (simp [*]; done)), (by first | rfl | (simp; done) | (simp [*]; done)), (by first | rfl | (simp; done) | (simp [*]; done)), H', ⟨Nat.le_refl _⟩, ⟨by (with_reducible repeat (first | apply Kd.R_alloc | apply Kd.R_drewN | apply Kd.R_drew)); exact HO_6.out⟩, ⟨by repeat (first | (with_reducible first | exact HB.out | apply below_alloc | apply pw_below_drewN | apply below_drew1) | exact HB.out)⟩⟩
              case round =>
                clear H'
                try clear c1
                try clear p2
                try clear p3
                try clear c5
                try clear c7
                try clear c7b0
                try clear c8
                try clear c8b0
                try clear c9
                try clear c9b0
                try clear p2
                try clear p3
                obtain ⟨x8_2, x9_2, x31_2, rfl, rfl, rfl, HA, HK2, HO_6, HB⟩ := hrel
                cases gk with
                | zero => exact absurd HA.out (by simp [pack_Get.l1])
                | succ k2 =>
                  have H := HA.out
                  clear HA
                  simp only [pack_Get.l1] at H
                  by_cases c10 : x31_2 < a2
                  · rw [if_pos c10] at H
                    have c10b0 : decide (x31_2 < a2) = true := decide_eq_true c10
                    clear c10
                    obtain ⟨ji11, hji11⟩ : ∃ j_ : Int, (wrap64 (Int.tdiv x8_2 8)) = j_ := ⟨_, rfl⟩
                    replace H : (if 0 ≤ (ji11) then (if (ji11) < (l0.length : Int) then (if 0 ≤ (Int.tmod x8_2 8) then (if 0 ≤ x31_2 then (pack_Get.l1 k2 l0 a2 x6_1 (wrap64 (x8_2 + 1)) (Go.bits .or .u64 x9_2 (shl .u64 (IntKind.u64.wrap (Go.bits .and .u8 (shr .u8 (rd l0 (ji11)) (Int.tmod x8_2 8)) 1)) x31_2)) a1 x28_1 a2 (wrap64 (x31_2 + 1))) else (none)) else (none)) else (none)) else (none)) = some (r1, r2) := by first | (rw [hji11] at H; exact H) | (simp only [hji11] at H ⊢; exact H)
                    have hji11w : (IntKind.i64.wrap (Int.tdiv x8_2 8)) = ji11 := (i64_w _).trans hji11
                    by_cases c12 : 0 ≤ (ji11)
                    · rw [if_pos c12] at H
                      have c12b0 : decide (0 ≤ (ji11)) = true := decide_eq_true c12
                      clear c12
                      by_cases c13 : (ji11) < (l0.length : Int)
                      · rw [if_pos c13] at H
                        have c13b0 : decide ((ji11) < (l0.length : Int)) = true := decide_eq_true c13
                        clear c13
                        obtain ⟨ji14, hji14⟩ : ∃ j_ : Int, (Int.tmod x8_2 8) = j_ := ⟨_, rfl⟩
                        replace H : (if 0 ≤ (ji14) then (if 0 ≤ x31_2 then (pack_Get.l1 k2 l0 a2 x6_1 (wrap64 (x8_2 + 1)) (Go.bits .or .u64 x9_2 (shl .u64 (IntKind.u64.wrap (Go.bits .and .u8 (shr .u8 (rd l0 (ji11)) (ji14)) 1)) x31_2)) a1 x28_1 a2 (wrap64 (x31_2 + 1))) else (none)) else (none)) = some (r1, r2) := by first | (rw [hji14] at H; exact H) | (simp only [hji14] at H ⊢; exact H)
                        by_cases c15 : 0 ≤ (ji14)
                        · rw [if_pos c15] at H
                          have c15b0 := eq_true c15
                          have c15b1 : decide (0 ≤ (ji14)) = true := decide_eq_true c15
                          clear c15
                          obtain ⟨ji16, hji16⟩ : ∃ j_ : Int, (shr .u8 (rd l0 (ji11)) (ji14)) = j_ := ⟨_, rfl⟩
                          replace H : (if 0 ≤ x31_2 then (pack_Get.l1 k2 l0 a2 x6_1 (wrap64 (x8_2 + 1)) (Go.bits .or .u64 x9_2 (shl .u64 (IntKind.u64.wrap (Go.bits .and .u8 (ji16) 1)) x31_2)) a1 x28_1 a2 (wrap64 (x31_2 + 1))) else (none)) = some (r1, r2) := by first | (rw [hji16] at H; exact H) | (simp only [hji16] at H ⊢; exact H)
                          have hji16_ : ((rd l0 (ji11)) / 2 ^ min (ji14).toNat 8) = ji16 := hji16
                          have hji16z : (ji14) ≤ 8 → ((rd l0 (ji11)) / 2 ^ (ji14).toNat) = ji16 := shr_small hji16
                          by_cases c17 : 0 ≤ x31_2
                          · rw [if_pos c17] at H
                            have c17b0 := eq_true c17
                            have c17b1 : decide (0 ≤ x31_2) = true := decide_eq_true c17
                            clear c17
                            obtain ⟨ji18, hji18⟩ : ∃ j_ : Int, (shl .u64 (IntKind.u64.wrap (Go.bits .and .u8 (ji16) 1)) x31_2) = j_ := ⟨_, rfl⟩
                            replace H : (pack_Get.l1 k2 l0 a2 x6_1 (wrap64 (x8_2 + 1)) (Go.bits .or .u64 x9_2 (ji18)) a1 x28_1 a2 (wrap64 (x31_2 + 1))) = some (r1, r2) := by first | (rw [hji18] at H; exact H) | (simp only [hji18] at H ⊢; exact H)
                            have hji18_ : (IntKind.u64.wrap ((IntKind.u64.wrap (Go.bits .and .u8 (ji16) 1)) * 2 ^ min x31_2.toNat 64)) = ji18 := hji18
                            have hji18z : x31_2 ≤ 64 → (IntKind.u64.wrap ((IntKind.u64.wrap (Go.bits .and .u8 (ji16) 1)) * 2 ^ x31_2.toNat)) = ji18 := shl_small hji18
                            have H' := Aside0.mk H
                            clear H
                            have p133 : 0 ≤ ((ji11) : Int) := of_decide_eq_true (by first | (with_reducible assumption) | assumption)
                            have q133 : (ji11) < (l0.length : Int) := of_decide_eq_true (by first | (with_reducible assumption) | assumption)
                            obtain ⟨ad133, e133, hx133_0⟩ := Kd.at_int HR0.out (ji11) p133 q133
                            cases e133
                            replace hx133_0 := (HB.out.cell (World.block_lt_of_cell? w _ hx133_0)).trans hx133_0
                            replace p133 := eq_true p133
                            replace q133 := eq_true q133
                            go_wp2
                            first | go_roundg k2 | (simp only [← hji11, ← hji14, ← hji16, ← hji18] at H' ⊢; go_roundg k2)
                            case measure => have := HK1.out; have := HK2.out; omega
                            case rel => exact ⟨(wrap64 (x8_2 + 1)), (Go.bits .or .u64 x9_2 (ji18)), (wrap64 (x31_2 + 1)), (by first | rfl | (simp; done) | (simp [*]; done)), (by first | rfl | (simp; done) | (simp only [← hji18] <;> (first | rfl | simp)) | (simp [*]; done)), (by first | rfl | (simp; done) | (simp [*]; done)), H', ⟨by have := HK1.out; have := HK2.out; omega⟩, ⟨by (with_reducible repeat (first | apply Kd.R_alloc | apply Kd.R_drewN | apply Kd.R_drew)); exact HO_6.out⟩, ⟨by repeat (first | (with_reducible first | exact HB.out | apply below_alloc | apply pw_below_drewN | apply below_drew1) | exact HB.out)⟩⟩
                          · rw [if_neg c17] at H
                            exact absurd H (by simp)
                        · rw [if_neg c15] at H
                          exact absurd H (by simp)
                      · rw [if_neg c13] at H
                        exact absurd H (by simp)
                    · rw [if_neg c12] at H
                      exact absurd H (by simp)
                  · rw [if_neg c10] at H
                    have c10b0 : decide (x31_2 < a2) = false := decide_eq_false c10
                    clear c10
                    by_cases c19 : x6_1.length < 17592186044416
                    · rw [if_pos c19] at H
                      have LMc19 := Aside0.mk c19
                      clear c19
                      obtain ⟨y134, hy134⟩ : ∃ y_ : List Int, y_ = (x6_1 ++ [x9_2]) := ⟨_, rfl⟩
                      replace H : (pack_Get.l0 k2 l0 a2 y134 x8_2 a1 (wrap64 (x28_1 + 1))) = some (r1, r2) := by first | (rw [hy134]; with_reducible exact H) | (have H2_ := (Option.bind_some _ _).symm.trans H; rw [hy134]; with_reducible exact H2_) | (have H2_ := (Option.bind_some _ _).symm.trans H; with_reducible exact H2_) | with_reducible exact H | (rw [hy134]; exact H) | exact H
                      have Ny134 := Aside0.mk hy134
                      clear hy134
                      have H' := Aside0.mk H
                      clear H
                      go_wp2_with (first | ((with_reducible refine gate_builtin (b := .append) (xs := #[.tmp 51, .tmp 53]) rfl ?_); at_builtin; refine Kd.R_append (Kd.int .u64) (w0 := w) w.heap.size rfl (.tmp 51) (.tmp 53) 30 38 (.int .u64 0) 8 rfl Try.underlying30 info38 rfl (by decide) (by omega) u6 x6_1 x9_2 [.int .u64 x9_2] (fun _ => True) (fun _ => False) rfl rfl ?aP (fun _ hk => hk.elim) ?aF ?aO ?aB ?aS ?aL ?_; (case aP => exact rfl); (case aB => exact (by repeat (first | (with_reducible first | exact HB.out | apply below_alloc | apply pw_below_drewN | apply below_drew1) | exact HB.out))); (case aF => exact (fun _ _ => trivial)); (case aO => exact (by (with_reducible repeat (first | apply Kd.R_alloc | apply Kd.R_drewN | apply Kd.R_drew)); exact HO_6.out)); (case aS => exact (below_size (by repeat (first | (with_reducible first | exact HB.out | apply below_alloc | apply pw_below_drewN | apply below_drew1) | exact HB.out)))); (case aL => have := LMc19.out; omega); intro v135 w20 ho hb hg hat; rw [← Ny134.out] at ho; have n0_ := Aside0.mk (hb); have n1_ := Aside0.mk (ho); clear HB; clear HO_6; have HB := n0_; have HO136 := n1_; clear n0_ n1_; clear ho hb hg hat))
                      go_roundg k2
                      case measure => have := HK1.out; have := HK2.out; omega
                      case rel => exact ⟨(y134), (x8_2), (wrap64 (x28_1 + 1)), (by first | rfl | (simp; done) | (simp [*]; done)), (by first | rfl | (simp; done) | (simp [*]; done)), H', ⟨by have := HK1.out; have := HK2.out; omega⟩, ⟨by (with_reducible repeat (first | apply Kd.R_alloc | apply Kd.R_drewN | apply Kd.R_drew)); exact HO136.out⟩, ⟨by repeat (first | (with_reducible first | exact HB.out | apply below_alloc | apply pw_below_drewN | apply below_drew1) | exact HB.out)⟩⟩
                    · rw [if_neg c19] at H
                      exact absurd H (by simp)
            · rw [if_neg c9] at H
              have c9b0 : decide (x28_1 < a1) = false := decide_eq_false c9
              clear c9
              have H' := Aside0.mk H
              clear H
              go_wp2
              go_loopg [8] k1 (fun kq v8 w' => ∃ (x8_2 : Int), v8 = .int .i64 x8_2 ∧ Aside0 (pack_Get.l2 kq l0 x6_1 x8_2 = some (r1, r2)) ∧ Aside0 (kq ≤ k1) ∧ Aside0 (Kd.R (Kd.int .u64) 38 w' w.heap.size (fun _ => True) u6 x6_1) ∧ Aside0 (Below w.heap.size w w'))
              case atStart => exact ⟨(x8_1), (by first | rfl | (simp; done) | (simp [*]; done)), H', ⟨Nat.le_refl _⟩, ⟨by (with_reducible repeat (first | apply Kd.R_alloc | apply Kd.R_drewN | apply Kd.R_drew)); exact HO_6.out⟩, ⟨by repeat (first | (with_reducible first | exact HB.out | apply below_alloc | apply pw_below_drewN | apply below_drew1) | exact HB.out)⟩⟩
              case round =>
                clear H'
                try clear c1
                try clear p1
                try clear q1
                try clear hx1
                try clear p2
                try clear p3
                try clear c5
                try clear p6
                try clear c7
                try clear c7b0
                try clear c8
                try clear c8b0
                try clear c9
                try clear c9b0
                try clear c10
                try clear c10b0
                try clear c12
                try clear c12b0
                try clear c13
                try clear c13b0
                try clear p13
                try clear q13
                try clear hx13
                try clear c15
                try clear c15b0
                try clear c15b1
                try clear c17
                try clear c17b0
                try clear c17b1
                try clear c18
                try clear c19
                try clear hx133_0
                try clear p133
                try clear p2
                try clear p3
                try clear q133
                obtain ⟨x8_2, rfl, HA, HK2, HO_6, HB⟩ := hrel
                cases gk with
                | zero => exact absurd HA.out (by simp [pack_Get.l2])
                | succ k2 =>
                  have H := HA.out
                  clear HA
                  simp only [pack_Get.l2] at H
                  by_cases c21 : x8_2 < (wrap64 (8 * (l0.length : Int)))
                  · rw [if_pos c21] at H
                    have c21b0 : decide (x8_2 < (wrap64 (8 * (l0.length : Int)))) = true := decide_eq_true c21
                    clear c21
                    obtain ⟨ji22, hji22⟩ : ∃ j_ : Int, (wrap64 (Int.tdiv x8_2 8)) = j_ := ⟨_, rfl⟩
                    replace H : (if 0 ≤ (ji22) then (if (ji22) < (l0.length : Int) then (if 0 ≤ (Int.tmod x8_2 8) then (if (Go.bits .and .u8 (shr .u8 (rd l0 (ji22)) (Int.tmod x8_2 8)) 1) = 1 then (some (([] : List Int), 2)) else (pack_Get.l2 k2 l0 x6_1 (wrap64 (x8_2 + 1)))) else (none)) else (none)) else (none)) = some (r1, r2) := by first | (rw [hji22] at H; exact H) | (simp only [hji22] at H ⊢; exact H)
                    have hji22w : (IntKind.i64.wrap (Int.tdiv x8_2 8)) = ji22 := (i64_w _).trans hji22
                    by_cases c23 : 0 ≤ (ji22)
                    · rw [if_pos c23] at H
                      have c23b0 : decide (0 ≤ (ji22)) = true := decide_eq_true c23
                      clear c23
                      by_cases c24 : (ji22) < (l0.length : Int)
                      · rw [if_pos c24] at H
                        have c24b0 : decide ((ji22) < (l0.length : Int)) = true := decide_eq_true c24
                        clear c24
                        obtain ⟨ji25, hji25⟩ : ∃ j_ : Int, (Int.tmod x8_2 8) = j_ := ⟨_, rfl⟩
                        replace H : (if 0 ≤ (ji25) then (if (Go.bits .and .u8 (shr .u8 (rd l0 (ji22)) (ji25)) 1) = 1 then (some (([] : List Int), 2)) else (pack_Get.l2 k2 l0 x6_1 (wrap64 (x8_2 + 1)))) else (none)) = some (r1, r2) := by first | (rw [hji25] at H; exact H) | (simp only [hji25] at H ⊢; exact H)
                        by_cases c26 : 0 ≤ (ji25)
                        · rw [if_pos c26] at H
                          have c26b0 := eq_true c26
                          have c26b1 : decide (0 ≤ (ji25)) = true := decide_eq_true c26
                          clear c26
                          obtain ⟨ji27, hji27⟩ : ∃ j_ : Int, (shr .u8 (rd l0 (ji22)) (ji25)) = j_ := ⟨_, rfl⟩
                          replace H : (if (Go.bits .and .u8 (ji27) 1) = 1 then (some (([] : List Int), 2)) else (pack_Get.l2 k2 l0 x6_1 (wrap64 (x8_2 + 1)))) = some (r1, r2) := by first | (rw [hji27] at H; exact H) | (simp only [hji27] at H ⊢; exact H)
                          have hji27_ : ((rd l0 (ji22)) / 2 ^ min (ji25).toNat 8) = ji27 := hji27
                          have hji27z : (ji25) ≤ 8 → ((rd l0 (ji22)) / 2 ^ (ji25).toNat) = ji27 := shr_small hji27
                          by_cases c28 : (Go.bits .and .u8 (ji27) 1) = 1
                          · rw [if_pos c28] at H
                            have c28b0 : ((Go.bits .and .u8 (ji27) 1) == 1) = true := beq_iff_eq.mpr c28
                            have c28b1 : ((Go.bits .and .u8 (ji27) 1) != 1) = false := bne_eq_false_iff_eq.mpr c28
                            clear c28
                            simp only [Option.some.injEq, Prod.mk.injEq] at H
                            obtain ⟨rfl, rfl⟩ := H
                            have p137 : 0 ≤ ((ji22) : Int) := of_decide_eq_true (by first | (with_reducible assumption) | assumption)
                            have q137 : (ji22) < (l0.length : Int) := of_decide_eq_true (by first | (with_reducible assumption) | assumption)
                            obtain ⟨ad137, e137, hx137_0⟩ := Kd.at_int HR0.out (ji22) p137 q137
                            cases e137
                            replace hx137_0 := (HB.out.cell (World.block_lt_of_cell? w _ hx137_0)).trans hx137_0
                            replace p137 := eq_true p137
                            replace q137 := eq_true q137
                            go_wp2
                            go_step3
                            refine hG_ 0 _ _ _ (by rfl) ?_
                            go_wp2
                            try rw [labs_ret]
                            go_ret2
                            exact ⟨_, by first | rfl | (simp [errW_none, errW_some] <;> rfl) | (simp only [← hji22, ← hji25, ← hji27]; first | rfl | (simp [errW_none, errW_some] <;> rfl)) | (simp [*, errW_none, errW_some] <;> rfl), by first | exact Kd.R_nil _ _ _ _ _ | exact Kd.N_nil _ _ _ _ _ | exact Kd.V_nil _ _ _ _ _ | exact Kd.Q_nil _ _ _ _ _ | exact Kd.S_nil _ _ _ _ _, by repeat (first | (with_reducible first | exact HB.out | apply below_alloc | apply pw_below_drewN | apply below_drew1) | exact HB.out)⟩
                          · rw [if_neg c28] at H
                            have c28b0 : ((Go.bits .and .u8 (ji27) 1) == 1) = false := beq_eq_false_iff_ne.mpr c28
                            have c28b1 : ((Go.bits .and .u8 (ji27) 1) != 1) = true := bne_iff_ne.mpr c28
                            have H' := Aside0.mk H
                            clear H
                            have p137 : 0 ≤ ((ji22) : Int) := of_decide_eq_true (by first | (with_reducible assumption) | assumption)
                            have q137 : (ji22) < (l0.length : Int) := of_decide_eq_true (by first | (with_reducible assumption) | assumption)
                            obtain ⟨ad137, e137, hx137_0⟩ := Kd.at_int HR0.out (ji22) p137 q137
                            cases e137
                            replace hx137_0 := (HB.out.cell (World.block_lt_of_cell? w _ hx137_0)).trans hx137_0
                            replace p137 := eq_true p137
                            replace q137 := eq_true q137
                            go_wp2
                            first | go_roundg k2 | (simp only [← hji22, ← hji25, ← hji27] at H' ⊢; go_roundg k2)
                            case measure => have := HK1.out; have := HK2.out; omega
                            case rel => exact ⟨(wrap64 (x8_2 + 1)), (by first | rfl | (simp; done) | (simp [*]; done)), H', ⟨by have := HK1.out; have := HK2.out; omega⟩, ⟨by (with_reducible repeat (first | apply Kd.R_alloc | apply Kd.R_drewN | apply Kd.R_drew)); exact HO_6.out⟩, ⟨by repeat (first | (with_reducible first | exact HB.out | apply below_alloc | apply pw_below_drewN | apply below_drew1) | exact HB.out)⟩⟩
                        · rw [if_neg c26] at H
                          exact absurd H (by simp)
                      · rw [if_neg c24] at H
                        exact absurd H (by simp)
                    · rw [if_neg c23] at H
                      exact absurd H (by simp)
                  · rw [if_neg c21] at H
                    have c21b0 : decide (x8_2 < (wrap64 (8 * (l0.length : Int)))) = false := decide_eq_false c21
                    clear c21
                    simp only [Option.some.injEq, Prod.mk.injEq] at H
                    obtain ⟨rfl, rfl⟩ := H
                    go_wp2
                    try rw [labs_ret]
                    go_ret2
                    exact ⟨_, by first | rfl | (simp [errW_none, errW_some] <;> rfl) | (simp [*, errW_none, errW_some] <;> rfl), by (with_reducible repeat (first | apply Kd.R_alloc | apply Kd.R_drewN | apply Kd.R_drew)); exact HO_6.out, by repeat (first | (with_reducible first | exact HB.out | apply below_alloc | apply pw_below_drewN | apply below_drew1) | exact HB.out)⟩
  · replace c5 := Bool.eq_false_iff.mpr c5
    subst c5
    have H1 : (some (([] : List Int), 1)) = some (r1, r2) := by rw [if_neg (show ¬ (false = true) by decide)] at H; exact H
    clear H
    have H := H1
    clear H1
    simp only [Option.some.injEq, Prod.mk.injEq] at H
    obtain ⟨rfl, rfl⟩ := H
    go_enter Try.func18, Try.ntmps18
    go_wp2
    refine wp_scope_labs ?_
    intro G_ hG_
    go_wp2_with (first | (go_at_call 28; (with_reducible refine (pack_may.calls a1 a2 false _ A4.out).mono ?_); rintro e w' ⟨rfl, ⟨nd, rfl⟩⟩))
    go_step3
    refine hG_ 0 _ _ _ (by rfl) ?_
    go_wp2
    try rw [labs_ret]
    go_ret2
    exact ⟨_, by first | rfl | (simp [errW_none, errW_some] <;> rfl) | (simp [*, errW_none, errW_some] <;> rfl), by first | exact Kd.R_nil _ _ _ _ _ | exact Kd.N_nil _ _ _ _ _ | exact Kd.V_nil _ _ _ _ _ | exact Kd.Q_nil _ _ _ _ _ | exact Kd.S_nil _ _ _ _ _, by repeat (first | (with_reducible first | exact HB.out | apply below_alloc | apply pw_below_drewN | apply below_drew1) | exact HB.out)⟩

/-! ### num_Zag: function 19 -/
def num_Zag.f (a0 : Int) : Option (Int) := some (Go.bits .xor .i64 (wrap64 (a0 / 2)) (wrap64 (-(wrap64 (Go.bits .and .u64 a0 1)))))
set_option maxHeartbeats 8000000 in
set_option maxRecDepth 100000 in
theorem num_Zag.calls (a0 : Int) (r : Int) (w : World) (h : num_Zag.f a0 = some r) :
    Calls Try.prog 19 #[.int .u64 a0] w fun e w' => e = .returned (.int .i64 r) ∧ Drawn0 w w' := by
  have H : (some (Go.bits .xor .i64 (wrap64 (a0 / 2)) (wrap64 (-(wrap64 (Go.bits .and .u64 a0 1)))))) = some r := h
  clear h
  obtain rfl := Option.some.inj H
  go_enter Try.func19, Try.ntmps19
  go_wp2
  go_ret
  exact ⟨by first | rfl | (simp; done) | (simp [*]; done), by repeat (first | exact Drawn0.refl _ | apply Drawn0.step)⟩

end Go.Proofs.Ytalgjhmehilioaa.PAll
