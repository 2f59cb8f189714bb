-- Printed by this session's own program (wip/tools/pp.py): out of the translation. Lean checks it.
import Derived.Test.YtalgjhmehilioaaPAllx0
import Derived.Test.YtalgjhmehilioaaPAllx5
namespace Go.Proofs.Ytalgjhmehilioaa.PAll
open Go.Proofs.Ytalgjhmehilioaa.Help
open Go.RowKit Go.Proofs.YtalgjhmehilioaaW.PrintWords Go.Proofs.YtalgjhmehilioaaW.PrintLast Go.Proofs.YtalgjhmehilioaaW.PrintMore
attribute [local go_sem] max2_int min2_int max_two min_two max_three min_three max_four min_four   -- for this text's walks alone
set_option linter.unusedVariables false
set_option linter.unusedSimpArgs false

/-! ### noriaref11_GetBits: function 24 -/
mutual
def noriaref11_GetBits.j0 : Nat → List Int → Int → Int → Bool → Option (List Int × Int)
  | 0, _, _, _, _ => none
  | k + 1, x0, x1, x2, x26 => if x26 = true then (some (([] : List Int), 1)) else ((noriaref11_Size.f x1 x2).bind fun t239 => (if (x0.length : Int) < t239 then (some (([] : List Int), 5)) else (if (x0.length : Int) > t239 then (some (([] : List Int), 4)) else (noriaref11_GetBits.l0 k x0 x1 x2 ([] : List Int) 0 0))))
def noriaref11_GetBits.l0 : Nat → List Int → Int → Int → List Int → Int → Int → Option (List Int × Int)
  | 0, _, _, _, _, _, _ => none
  | k + 1, x0, x1, x2, x8, x9, x10 => if x10 < x1 then (noriaref11_GetBits.l1 k x0 x1 x2 x8 x9 x10 0 0) else (noriaref11_GetBits.l2 k x0 x8 x9)
def noriaref11_GetBits.l1 : Nat → List Int → Int → Int → List Int → Int → Int → Int → Int → Option (List Int × Int)
  | 0, _, _, _, _, _, _, _, _ => none
  | k + 1, x0, x1, x2, x8, x9, x10, x11, x12 => if x12 < x2 then (if 0 ≤ (wrap64 (Int.tdiv x9 8)) then (if (wrap64 (Int.tdiv x9 8)) < (x0.length : Int) then (if 0 ≤ (IntKind.u64.wrap (Int.tmod x9 8)) then (if (Go.bits .and .u8 (shr .u8 (rd x0 (wrap64 (Int.tdiv x9 8))) (IntKind.u64.wrap (Int.tmod x9 8))) 1) = 1 then (if 0 ≤ (IntKind.u64.wrap (x12)) then (noriaref11_GetBits.l1 k x0 x1 x2 x8 (wrap64 (x9 + 1)) x10 (Go.bits .or .u64 x11 (shl .u64 1 (IntKind.u64.wrap (x12)))) (wrap64 (x12 + 1))) else (none)) else (noriaref11_GetBits.l1 k x0 x1 x2 x8 (wrap64 (x9 + 1)) x10 x11 (wrap64 (x12 + 1)))) else (none)) else (none)) else (none)) else (if x8.length < 17592186044416 then (noriaref11_GetBits.l0 k x0 x1 x2 (x8 ++ [x11]) x9 (wrap64 (x10 + 1))) else (none))
def noriaref11_GetBits.l2 : Nat → List Int → List Int → Int → Option (List Int × Int)
  | 0, _, _, _ => none
  | k + 1, x0, x8, x9 => if x9 < (wrap64 (8 * (x0.length : Int))) then (if 0 ≤ (wrap64 (Int.tdiv x9 8)) then (if (wrap64 (Int.tdiv x9 8)) < (x0.length : Int) then (if 0 ≤ (IntKind.u64.wrap (Int.tmod x9 8)) then (if (Go.bits .and .u8 (shr .u8 (rd x0 (wrap64 (Int.tdiv x9 8))) (IntKind.u64.wrap (Int.tmod x9 8))) 1) = 1 then (some (([] : List Int), 2)) else (noriaref11_GetBits.l2 k x0 x8 (wrap64 (x9 + 1)))) else (none)) else (none)) else (none)) else (some (x8, 0))
end
def noriaref11_GetBits.f (k : Nat) (l0 : List Int) (a1 : Int) (a2 : Int) : Option (List Int × Int) := if a1 < 0 then (noriaref11_GetBits.j0 k l0 a1 a2 true) else (if a1 > 65536 then (noriaref11_GetBits.j0 k l0 a1 a2 true) else (if a2 < 0 then (noriaref11_GetBits.j0 k l0 a1 a2 true) else (noriaref11_GetBits.j0 k l0 a1 a2 (decide (a2 > 64)))))
theorem noriaref11_GetBits.mono_l : ∀ k, (∀ y0 y1 y2 y3, LeO (noriaref11_GetBits.j0 k y0 y1 y2 y3) (noriaref11_GetBits.j0 (k + 1) y0 y1 y2 y3)) ∧ (∀ y0 y1 y2 y3 y4 y5, LeO (noriaref11_GetBits.l0 k y0 y1 y2 y3 y4 y5) (noriaref11_GetBits.l0 (k + 1) y0 y1 y2 y3 y4 y5)) ∧ (∀ y0 y1 y2 y3 y4 y5 y6 y7, LeO (noriaref11_GetBits.l1 k y0 y1 y2 y3 y4 y5 y6 y7) (noriaref11_GetBits.l1 (k + 1) y0 y1 y2 y3 y4 y5 y6 y7)) ∧ (∀ y0 y1 y2, LeO (noriaref11_GetBits.l2 k y0 y1 y2) (noriaref11_GetBits.l2 (k + 1) y0 y1 y2))
  | 0 => ⟨fun _ _ _ _ r h => by simp [noriaref11_GetBits.j0] at h, fun _ _ _ _ _ _ r h => by simp [noriaref11_GetBits.l0] at h, fun _ _ _ _ _ _ _ _ r h => by simp [noriaref11_GetBits.l1] at h, fun _ _ _ r h => by simp [noriaref11_GetBits.l2] at h⟩
  | k + 1 => by
    obtain ⟨ih0, ih1, ih2, ih3⟩ := noriaref11_GetBits.mono_l k
    refine ⟨?_, ?_, ?_, ?_⟩
    · intro y0 y1 y2 y3
      unfold noriaref11_GetBits.j0
      repeat' first
      | (with_reducible exact ih0 _ _ _ _)
      | (with_reducible exact ih1 _ _ _ _ _ _)
      | (with_reducible exact ih2 _ _ _ _ _ _ _ _)
      | (with_reducible exact ih3 _ _ _)
      | (with_reducible exact LeO.refl _)
      | (with_reducible exact LeO.none _)
      | (with_reducible refine LeO.ite ?_ ?_)
      | (with_reducible refine LeO.bind ?_ (fun _ => ?_))
      | exact ih0 _ _ _ _
      | exact ih1 _ _ _ _ _ _
      | exact ih2 _ _ _ _ _ _ _ _
      | exact ih3 _ _ _
      | exact LeO.none _
      | refine LeO.ite ?_ ?_
      | refine LeO.bind ?_ (fun _ => ?_)
    · intro y0 y1 y2 y3 y4 y5
      unfold noriaref11_GetBits.l0
      repeat' first
      | (with_reducible exact ih0 _ _ _ _)
      | (with_reducible exact ih1 _ _ _ _ _ _)
      | (with_reducible exact ih2 _ _ _ _ _ _ _ _)
      | (with_reducible exact ih3 _ _ _)
      | (with_reducible exact LeO.refl _)
      | (with_reducible exact LeO.none _)
      | (with_reducible refine LeO.ite ?_ ?_)
      | (with_reducible refine LeO.bind ?_ (fun _ => ?_))
      | exact ih0 _ _ _ _
      | exact ih1 _ _ _ _ _ _
      | exact ih2 _ _ _ _ _ _ _ _
      | exact ih3 _ _ _
      | exact LeO.none _
      | refine LeO.ite ?_ ?_
      | refine LeO.bind ?_ (fun _ => ?_)
    · intro y0 y1 y2 y3 y4 y5 y6 y7
      unfold noriaref11_GetBits.l1
      repeat' first
      | (with_reducible exact ih0 _ _ _ _)
      | (with_reducible exact ih1 _ _ _ _ _ _)
      | (with_reducible exact ih2 _ _ _ _ _ _ _ _)
      | (with_reducible exact ih3 _ _ _)
      | (with_reducible exact LeO.refl _)
      | (with_reducible exact LeO.none _)
      | (with_reducible refine LeO.ite ?_ ?_)
      | (with_reducible refine LeO.bind ?_ (fun _ => ?_))
      | exact ih0 _ _ _ _
      | exact ih1 _ _ _ _ _ _
      | exact ih2 _ _ _ _ _ _ _ _
      | exact ih3 _ _ _
      | exact LeO.none _
      | refine LeO.ite ?_ ?_
      | refine LeO.bind ?_ (fun _ => ?_)
    · intro y0 y1 y2
      unfold noriaref11_GetBits.l2
      repeat' first
      | (with_reducible exact ih0 _ _ _ _)
      | (with_reducible exact ih1 _ _ _ _ _ _)
      | (with_reducible exact ih2 _ _ _ _ _ _ _ _)
      | (with_reducible exact ih3 _ _ _)
      | (with_reducible exact LeO.refl _)
      | (with_reducible exact LeO.none _)
      | (with_reducible refine LeO.ite ?_ ?_)
      | (with_reducible refine LeO.bind ?_ (fun _ => ?_))
      | exact ih0 _ _ _ _
      | exact ih1 _ _ _ _ _ _
      | exact ih2 _ _ _ _ _ _ _ _
      | exact ih3 _ _ _
      | exact LeO.none _
      | refine LeO.ite ?_ ?_
      | refine LeO.bind ?_ (fun _ => ?_)
theorem noriaref11_GetBits.mono : ∀ a0 a1 a2 k, LeO (noriaref11_GetBits.f k a0 a1 a2) (noriaref11_GetBits.f (k + 1) a0 a1 a2) := by
  intro a0 a1 a2 k
  obtain ⟨ih0, ih1, ih2, ih3⟩ := noriaref11_GetBits.mono_l k
  unfold noriaref11_GetBits.f
  repeat' first
      | (with_reducible exact ih0 _ _ _ _)
      | (with_reducible exact ih1 _ _ _ _ _ _)
      | (with_reducible exact ih2 _ _ _ _ _ _ _ _)
      | (with_reducible exact ih3 _ _ _)
      | (with_reducible exact LeO.refl _)
      | (with_reducible exact LeO.none _)
      | (with_reducible refine LeO.ite ?_ ?_)
      | (with_reducible refine LeO.bind ?_ (fun _ => ?_))
      | exact ih0 _ _ _ _
      | exact ih1 _ _ _ _ _ _
      | exact ih2 _ _ _ _ _ _ _ _
      | exact ih3 _ _ _
      | exact LeO.none _
      | refine LeO.ite ?_ ?_
      | refine LeO.bind ?_ (fun _ => ?_)
set_option maxHeartbeats 8000000 in
set_option maxRecDepth 100000 in
theorem noriaref11_GetBits.calls (k : Nat) (A0 : Option Addr) (c0 : Nat) (l0 : List Int) (a1 : Int) (a2 : Int) (r1 : List Int) (r2 : Int) (w : World) (hr0 : Kd.C (Kd.int .u8) w A0 l0.length l0) (hc0 : l0.length ≤ c0) (h : noriaref11_GetBits.f k l0 a1 a2 = some (r1, r2)) :
    Calls Try.prog 24 #[.slice A0 l0.length c0, .int .i64 a1, .int .i64 a2] w fun e w' => ∃ v0_ : Value, e = .returned (.tuple #[v0_, .int .i64 r2]) ∧ Kd.R (Kd.int .u64) 38 w' w.heap.size (fun _ => True) v0_ r1 ∧ Below w.heap.size w w' := by
  have HR0 := Aside0.mk hr0
  have HC0 := Aside0.mk hc0
  clear hr0 hc0
  have HB := Aside0.mk (Below.refl w.heap.size w)
  have H : (if a1 < 0 then (noriaref11_GetBits.j0 k l0 a1 a2 true) else (if a1 > 65536 then (noriaref11_GetBits.j0 k l0 a1 a2 true) else (if a2 < 0 then (noriaref11_GetBits.j0 k l0 a1 a2 true) else (noriaref11_GetBits.j0 k l0 a1 a2 (decide (a2 > 64)))))) = some (r1, r2) := h
  clear h
  have HC4 := Aside0.mk H
  clear H
  go_enter Try.func24, Try.ntmps24
  go_upto_region 1 with (fail)
  go_cut [26] (fun v26 wc => ∃ (kq : Nat) (x26_3 : Bool), v26 = .bool x26_3 ∧ Aside0 (noriaref11_GetBits.j0 kq l0 a1 a2 x26_3 = some (r1, r2)) ∧ Aside0 (kq ≤ k) ∧ Aside0 (Below w.heap.size w wc))
  case first =>
    have H := HC4.out
    clear HC4
    by_cases c5 : a1 < 0
    · rw [if_pos c5] at H
      have c5b0 : decide (a1 < 0) = true := decide_eq_true c5
      clear c5
      (first | rw [c5b0] | (simp only [i64_w, i32_w]; rw [c5b0]) | skip)
      have H' := Aside0.mk H
      clear H
      go_wp2
      go_meet
      case rel => exact ⟨_, (true), (by first | rfl | (simp; done) | (simp [*]; done)), H', ⟨by first | omega | exact Nat.le_refl _⟩, ⟨by repeat (first | (with_reducible first | exact HB.out | apply below_alloc | apply pw_below_drewN | apply below_drew1) | exact HB.out)⟩⟩
    · rw [if_neg c5] at H
      have c5b0 : decide (a1 < 0) = false := decide_eq_false c5
      clear c5
      (first | rw [c5b0] | (simp only [i64_w, i32_w]; rw [c5b0]) | skip)
      by_cases c6 : a1 > 65536
      · rw [if_pos c6] at H
        have c6b0 : decide (65536 < a1) = true := decide_eq_true c6
        clear c6
        have H' := Aside0.mk H
        clear H
        go_wp2
        go_meet
        case rel => exact ⟨_, (true), (by first | rfl | (simp; done) | (simp [*]; done)), H', ⟨by first | omega | exact Nat.le_refl _⟩, ⟨by repeat (first | (with_reducible first | exact HB.out | apply below_alloc | apply pw_below_drewN | apply below_drew1) | exact HB.out)⟩⟩
      · rw [if_neg c6] at H
        have c6b0 : decide (65536 < a1) = false := decide_eq_false c6
        clear c6
        by_cases c7 : a2 < 0
        · rw [if_pos c7] at H
          have c7b0 : decide (a2 < 0) = true := decide_eq_true c7
          clear c7
          have H' := Aside0.mk H
          clear H
          go_wp2
          go_meet
          case rel => exact ⟨_, (true), (by first | rfl | (simp; done) | (simp [*]; done)), H', ⟨by first | omega | exact Nat.le_refl _⟩, ⟨by repeat (first | (with_reducible first | exact HB.out | apply below_alloc | apply pw_below_drewN | apply below_drew1) | exact HB.out)⟩⟩
        · rw [if_neg c7] at H
          have c7b0 : decide (a2 < 0) = false := decide_eq_false c7
          clear c7
          have H' := Aside0.mk H
          clear H
          go_wp2
          go_meet
          case rel => exact ⟨_, (decide (a2 > 64)), (by first | rfl | (simp; done) | (simp [*]; done)), H', ⟨by first | omega | exact Nat.le_refl _⟩, ⟨by repeat (first | (with_reducible first | exact HB.out | apply below_alloc | apply pw_below_drewN | apply below_drew1) | exact HB.out)⟩⟩
  case rest =>
    clear HC4
    try clear c2
    try clear p2
    try clear c5
    try clear c5b0
    try clear c6
    try clear c6b0
    try clear c7
    try clear c7b0
    obtain ⟨kq, x26_3, rfl, HA, HJ3, HB⟩ := hcut
    cases kq with
    | zero => exact absurd HA.out (by simp [noriaref11_GetBits.j0])
    | succ kj3 =>
      have H := HA.out
      clear HA
      simp only [noriaref11_GetBits.j0] at H
      by_cases c8 : x26_3 = true
      · subst c8
        have H1 : (some (([] : List Int), 1)) = some (r1, r2) := by rw [if_pos rfl] at H; exact H
        clear H
        have H := H1
        clear H1
        simp only [Option.some.injEq, Prod.mk.injEq] at H
        obtain ⟨rfl, rfl⟩ := H
        go_wp2
        go_ret2
        exact ⟨_, by first | rfl | (simp [errW_none, errW_some] <;> rfl) | (simp [*, errW_none, errW_some] <;> rfl), by first | exact Kd.R_nil _ _ _ _ _ | exact Kd.N_nil _ _ _ _ _ | exact Kd.V_nil _ _ _ _ _ | exact Kd.Q_nil _ _ _ _ _ | exact Kd.S_nil _ _ _ _ _, by repeat (first | (with_reducible first | exact HB.out | apply below_alloc | apply pw_below_drewN | apply below_drew1) | exact HB.out)⟩
      · replace c8 := Bool.eq_false_iff.mpr c8
        subst c8
        have H1 : ((noriaref11_Size.f a1 a2).bind fun t239 => (if (l0.length : Int) < t239 then (some (([] : List Int), 5)) else (if (l0.length : Int) > t239 then (some (([] : List Int), 4)) else (noriaref11_GetBits.l0 kj3 l0 a1 a2 ([] : List Int) 0 0)))) = some (r1, r2) := by rw [if_neg (show ¬ (false = true) by decide)] at H; exact H
        clear H
        have H := H1
        clear H1
        replace H := Option.bind_eq_some_iff.mp H
        obtain ⟨t239, A90, H⟩ := H
        replace H : (if (l0.length : Int) < t239 then (some (([] : List Int), 5)) else (if (l0.length : Int) > t239 then (some (([] : List Int), 4)) else (noriaref11_GetBits.l0 kj3 l0 a1 a2 ([] : List Int) 0 0))) = some (r1, r2) := H
        have A9 := Aside0.mk A90
        clear A90
        by_cases c10 : (l0.length : Int) < t239
        · rw [if_pos c10] at H
          have c10b0 : decide ((l0.length : Int) < t239) = true := decide_eq_true c10
          clear c10
          simp only [Option.some.injEq, Prod.mk.injEq] at H
          obtain ⟨rfl, rfl⟩ := H
          go_wp2_with (first | (go_at_call 29; (with_reducible refine (noriaref11_Size.calls a1 a2 t239 _ A9.out).mono ?_); rintro e w' ⟨rfl, ⟨nd, rfl⟩⟩))
          go_ret2
          exact ⟨_, by first | rfl | (simp [errW_none, errW_some] <;> rfl) | (simp [*, errW_none, errW_some] <;> rfl), by first | exact Kd.R_nil _ _ _ _ _ | exact Kd.N_nil _ _ _ _ _ | exact Kd.V_nil _ _ _ _ _ | exact Kd.Q_nil _ _ _ _ _ | exact Kd.S_nil _ _ _ _ _, by repeat (first | (with_reducible first | exact HB.out | apply below_alloc | apply pw_below_drewN | apply below_drew1) | exact HB.out)⟩
        · rw [if_neg c10] at H
          have c10b0 : decide ((l0.length : Int) < t239) = false := decide_eq_false c10
          clear c10
          by_cases c11 : (l0.length : Int) > t239
          · rw [if_pos c11] at H
            have c11b0 : decide (t239 < (l0.length : Int)) = true := decide_eq_true c11
            clear c11
            simp only [Option.some.injEq, Prod.mk.injEq] at H
            obtain ⟨rfl, rfl⟩ := H
            go_wp2_with (first | (go_at_call 29; (with_reducible refine (noriaref11_Size.calls a1 a2 t239 _ A9.out).mono ?_); rintro e w' ⟨rfl, ⟨nd, rfl⟩⟩))
            go_ret2
            exact ⟨_, by first | rfl | (simp [errW_none, errW_some] <;> rfl) | (simp [*, errW_none, errW_some] <;> rfl), by first | exact Kd.R_nil _ _ _ _ _ | exact Kd.N_nil _ _ _ _ _ | exact Kd.V_nil _ _ _ _ _ | exact Kd.Q_nil _ _ _ _ _ | exact Kd.S_nil _ _ _ _ _, by repeat (first | (with_reducible first | exact HB.out | apply below_alloc | apply pw_below_drewN | apply below_drew1) | exact HB.out)⟩
          · rw [if_neg c11] at H
            have c11b0 : decide (t239 < (l0.length : Int)) = false := decide_eq_false c11
            clear c11
            have H' := Aside0.mk H
            clear H
            go_wp2_with (first | (go_at_call 29; (with_reducible refine (noriaref11_Size.calls a1 a2 t239 _ A9.out).mono ?_); rintro e w' ⟨rfl, ⟨nd, rfl⟩⟩))
            go_loopg [8, 9, 10] kj3 (fun kq v8 v9 v10 w' => ∃ (x8_2 : List Int) (x9_2 : Int) (x10_2 : Int), v9 = .int .i64 x9_2 ∧ v10 = .int .i64 x10_2 ∧ Aside0 (noriaref11_GetBits.l0 kq l0 a1 a2 x8_2 x9_2 x10_2 = some (r1, r2)) ∧ Aside0 (kq ≤ kj3) ∧ Aside0 (Kd.R (Kd.int .u64) 38 w' w.heap.size (fun _ => True) v8 x8_2) ∧ Aside0 (Below w.heap.size w w'))
            case atStart => exact ⟨(([] : List Int)), (0), (0), (by first | rfl | (simp; done) | (simp [*]; done)), (by first | rfl | (simp; done) | (simp [*]; done)), H', ⟨Nat.le_refl _⟩, ⟨by first | exact Kd.R_nil _ _ _ _ _ | exact Kd.N_nil _ _ _ _ _ | exact Kd.V_nil _ _ _ _ _ | exact Kd.Q_nil _ _ _ _ _ | exact Kd.S_nil _ _ _ _ _⟩, ⟨by repeat (first | (with_reducible first | exact HB.out | apply below_alloc | apply pw_below_drewN | apply below_drew1) | exact HB.out)⟩⟩
            case round =>
              clear H'
              try clear c1
              try clear c2
              try clear p2
              try clear c5
              try clear c5b0
              try clear c6
              try clear c6b0
              try clear c7
              try clear c7b0
              try clear c8
              try clear c10
              try clear c10b0
              try clear c11
              try clear c11b0
              try clear p2
              obtain ⟨x8_2, x9_2, x10_2, rfl, rfl, HA, HK2, HO_8, HB⟩ := hrel
              cases gk with
              | zero => exact absurd HA.out (by simp [noriaref11_GetBits.l0])
              | succ k2 =>
                have H := HA.out
                clear HA
                simp only [noriaref11_GetBits.l0] at H
                by_cases c12 : x10_2 < a1
                · rw [if_pos c12] at H
                  have c12b0 : decide (x10_2 < a1) = true := decide_eq_true c12
                  clear c12
                  have H' := Aside0.mk H
                  clear H
                  go_wp2
                  go_loopg [9, 11, 12] k2 (fun kq v9 v11 v12 w' => ∃ (x9_3 : Int) (x11_3 : Int) (x12_3 : Int), v9 = .int .i64 x9_3 ∧ v11 = .int .u64 x11_3 ∧ v12 = .int .i64 x12_3 ∧ Aside0 (noriaref11_GetBits.l1 kq l0 a1 a2 x8_2 x9_3 x10_2 x11_3 x12_3 = some (r1, r2)) ∧ Aside0 (kq ≤ k2) ∧ Aside0 (Kd.R (Kd.int .u64) 38 w' w.heap.size (fun _ => True) u8 x8_2) ∧ Aside0 (Below w.heap.size w w'))
                  case atStart => exact ⟨(x9_2), (0), (0), (by first | rfl | (simp; done) | (simp [*]; done)), (by first | rfl | (simp; done) | (simp [*]; done)), (by first | rfl | (simp; done) | (simp [*]; done)), H', ⟨Nat.le_refl _⟩, ⟨by (with_reducible repeat (first | apply Kd.R_alloc | apply Kd.R_drewN | apply Kd.R_drew)); exact HO_8.out⟩, ⟨by repeat (first | (with_reducible first | exact HB.out | apply below_alloc | apply pw_below_drewN | apply below_drew1) | exact HB.out)⟩⟩
                  case round =>
                    clear H'
                    try clear c1
                    try clear c2
                    try clear p2
                    try clear c5
                    try clear c5b0
                    try clear c6
                    try clear c6b0
                    try clear c7
                    try clear c7b0
                    try clear c8
                    try clear c10
                    try clear c10b0
                    try clear c11
                    try clear c11b0
                    try clear c12
                    try clear c12b0
                    try clear p2
                    obtain ⟨x9_3, x11_3, x12_3, rfl, rfl, rfl, HA, HK3, HO_8, HB⟩ := hrel
                    cases gk with
                    | zero => exact absurd HA.out (by simp [noriaref11_GetBits.l1])
                    | succ k3 =>
                      have H := HA.out
                      clear HA
                      simp only [noriaref11_GetBits.l1] at H
                      by_cases c13 : x12_3 < a2
                      · rw [if_pos c13] at H
                        have c13b0 : decide (x12_3 < a2) = true := decide_eq_true c13
                        clear c13
                        obtain ⟨ji14, hji14⟩ : ∃ j_ : Int, (wrap64 (Int.tdiv x9_3 8)) = j_ := ⟨_, rfl⟩
                        replace H : (if 0 ≤ (ji14) then (if (ji14) < (l0.length : Int) then (if 0 ≤ (IntKind.u64.wrap (Int.tmod x9_3 8)) then (if (Go.bits .and .u8 (shr .u8 (rd l0 (ji14)) (IntKind.u64.wrap (Int.tmod x9_3 8))) 1) = 1 then (if 0 ≤ (IntKind.u64.wrap (x12_3)) then (noriaref11_GetBits.l1 k3 l0 a1 a2 x8_2 (wrap64 (x9_3 + 1)) x10_2 (Go.bits .or .u64 x11_3 (shl .u64 1 (IntKind.u64.wrap (x12_3)))) (wrap64 (x12_3 + 1))) else (none)) else (noriaref11_GetBits.l1 k3 l0 a1 a2 x8_2 (wrap64 (x9_3 + 1)) x10_2 x11_3 (wrap64 (x12_3 + 1)))) else (none)) else (none)) else (none)) = some (r1, r2) := by first | (rw [hji14] at H; exact H) | (simp only [hji14] at H ⊢; exact H)
                        have hji14w : (IntKind.i64.wrap (Int.tdiv x9_3 8)) = ji14 := (i64_w _).trans hji14
                        by_cases c15 : 0 ≤ (ji14)
                        · rw [if_pos c15] at H
                          have c15b0 : decide (0 ≤ (ji14)) = true := decide_eq_true c15
                          clear c15
                          by_cases c16 : (ji14) < (l0.length : Int)
                          · rw [if_pos c16] at H
                            have c16b0 : decide ((ji14) < (l0.length : Int)) = true := decide_eq_true c16
                            clear c16
                            obtain ⟨ji17, hji17⟩ : ∃ j_ : Int, (IntKind.u64.wrap (Int.tmod x9_3 8)) = j_ := ⟨_, rfl⟩
                            replace H : (if 0 ≤ (ji17) then (if (Go.bits .and .u8 (shr .u8 (rd l0 (ji14)) (ji17)) 1) = 1 then (if 0 ≤ (IntKind.u64.wrap (x12_3)) then (noriaref11_GetBits.l1 k3 l0 a1 a2 x8_2 (wrap64 (x9_3 + 1)) x10_2 (Go.bits .or .u64 x11_3 (shl .u64 1 (IntKind.u64.wrap (x12_3)))) (wrap64 (x12_3 + 1))) else (none)) else (noriaref11_GetBits.l1 k3 l0 a1 a2 x8_2 (wrap64 (x9_3 + 1)) x10_2 x11_3 (wrap64 (x12_3 + 1)))) else (none)) = some (r1, r2) := by first | (rw [hji17] at H; exact H) | (simp only [hji17] at H ⊢; exact H)
                            by_cases c18 : 0 ≤ (ji17)
                            · rw [if_pos c18] at H
                              have c18b0 := eq_true c18
                              have c18b1 : decide (0 ≤ (ji17)) = true := decide_eq_true c18
                              clear c18
                              obtain ⟨ji19, hji19⟩ : ∃ j_ : Int, (shr .u8 (rd l0 (ji14)) (ji17)) = j_ := ⟨_, rfl⟩
                              replace H : (if (Go.bits .and .u8 (ji19) 1) = 1 then (if 0 ≤ (IntKind.u64.wrap (x12_3)) then (noriaref11_GetBits.l1 k3 l0 a1 a2 x8_2 (wrap64 (x9_3 + 1)) x10_2 (Go.bits .or .u64 x11_3 (shl .u64 1 (IntKind.u64.wrap (x12_3)))) (wrap64 (x12_3 + 1))) else (none)) else (noriaref11_GetBits.l1 k3 l0 a1 a2 x8_2 (wrap64 (x9_3 + 1)) x10_2 x11_3 (wrap64 (x12_3 + 1)))) = some (r1, r2) := by first | (rw [hji19] at H; exact H) | (simp only [hji19] at H ⊢; exact H)
                              have hji19_ : ((rd l0 (ji14)) / 2 ^ min (ji17).toNat 8) = ji19 := hji19
                              have hji19z : (ji17) ≤ 8 → ((rd l0 (ji14)) / 2 ^ (ji17).toNat) = ji19 := shr_small hji19
                              by_cases c20 : (Go.bits .and .u8 (ji19) 1) = 1
                              · rw [if_pos c20] at H
                                have c20b0 : ((Go.bits .and .u8 (ji19) 1) == 1) = true := beq_iff_eq.mpr c20
                                have c20b1 : ((Go.bits .and .u8 (ji19) 1) != 1) = false := bne_eq_false_iff_eq.mpr c20
                                clear c20
                                obtain ⟨ji21, hji21⟩ : ∃ j_ : Int, (IntKind.u64.wrap (x12_3)) = j_ := ⟨_, rfl⟩
                                replace H : (if 0 ≤ (ji21) then (noriaref11_GetBits.l1 k3 l0 a1 a2 x8_2 (wrap64 (x9_3 + 1)) x10_2 (Go.bits .or .u64 x11_3 (shl .u64 1 (ji21))) (wrap64 (x12_3 + 1))) else (none)) = some (r1, r2) := by first | (rw [hji21] at H; exact H) | (simp only [hji21] at H ⊢; exact H)
                                by_cases c22 : 0 ≤ (ji21)
                                · rw [if_pos c22] at H
                                  have c22b0 := eq_true c22
                                  have c22b1 : decide (0 ≤ (ji21)) = true := decide_eq_true c22
                                  clear c22
                                  obtain ⟨ji23, hji23⟩ : ∃ j_ : Int, (shl .u64 1 (ji21)) = j_ := ⟨_, rfl⟩
                                  replace H : (noriaref11_GetBits.l1 k3 l0 a1 a2 x8_2 (wrap64 (x9_3 + 1)) x10_2 (Go.bits .or .u64 x11_3 (ji23)) (wrap64 (x12_3 + 1))) = some (r1, r2) := by first | (rw [hji23] at H; exact H) | (simp only [hji23] at H ⊢; exact H)
                                  have hji23_ : (IntKind.u64.wrap (1 * 2 ^ min (ji21).toNat 64)) = ji23 := hji23
                                  have hji23z : (ji21) ≤ 64 → (IntKind.u64.wrap (1 * 2 ^ (ji21).toNat)) = ji23 := shl_small hji23
                                  have hji23u : (IntKind.u64.wrap (2 ^ min (ji21).toNat 64)) = ji23 := by have h_ := hji23_; rw [Int.one_mul] at h_; exact h_
                                  have hji23v : (ji21) ≤ 64 → (IntKind.u64.wrap (2 ^ (ji21).toNat)) = ji23 := fun hle_ => by have h_ := hji23z hle_; rw [Int.one_mul] at h_; exact h_
                                  have H' := Aside0.mk H
                                  clear H
                                  have p240 : 0 ≤ ((ji14) : Int) := of_decide_eq_true (by first | (with_reducible assumption) | assumption)
                                  have q240 : (ji14) < (l0.length : Int) := of_decide_eq_true (by first | (with_reducible assumption) | assumption)
                                  obtain ⟨ad240, e240, hx240_0⟩ := Kd.at_int HR0.out (ji14) p240 q240
                                  cases e240
                                  replace hx240_0 := (HB.out.cell (World.block_lt_of_cell? w _ hx240_0)).trans hx240_0
                                  replace p240 := eq_true p240
                                  replace q240 := eq_true q240
                                  go_wp2
                                  first | go_roundg k3 | (simp only [← hji14, ← hji17, ← hji19, ← hji21, ← hji23] at H' ⊢; go_roundg k3)
                                  case measure => have := HJ3.out; have := HK2.out; have := HK3.out; omega
                                  case rel => exact ⟨(wrap64 (x9_3 + 1)), (Go.bits .or .u64 x11_3 (ji23)), (wrap64 (x12_3 + 1)), (by first | rfl | (simp; done) | (simp [*]; done)), (by first | rfl | (simp; done) | (simp only [← hji23] <;> (first | rfl | simp)) | (simp [*]; done)), (by first | rfl | (simp; done) | (simp [*]; done)), H', ⟨by have := HJ3.out; have := HK2.out; have := HK3.out; omega⟩, ⟨by (with_reducible repeat (first | apply Kd.R_alloc | apply Kd.R_drewN | apply Kd.R_drew)); exact HO_8.out⟩, ⟨by repeat (first | (with_reducible first | exact HB.out | apply below_alloc | apply pw_below_drewN | apply below_drew1) | exact HB.out)⟩⟩
                                · rw [if_neg c22] at H
                                  exact absurd H (by simp)
                              · rw [if_neg c20] at H
                                have c20b0 : ((Go.bits .and .u8 (ji19) 1) == 1) = false := beq_eq_false_iff_ne.mpr c20
                                have c20b1 : ((Go.bits .and .u8 (ji19) 1) != 1) = true := bne_iff_ne.mpr c20
                                have H' := Aside0.mk H
                                clear H
                                have p240 : 0 ≤ ((ji14) : Int) := of_decide_eq_true (by first | (with_reducible assumption) | assumption)
                                have q240 : (ji14) < (l0.length : Int) := of_decide_eq_true (by first | (with_reducible assumption) | assumption)
                                obtain ⟨ad240, e240, hx240_0⟩ := Kd.at_int HR0.out (ji14) p240 q240
                                cases e240
                                replace hx240_0 := (HB.out.cell (World.block_lt_of_cell? w _ hx240_0)).trans hx240_0
                                replace p240 := eq_true p240
                                replace q240 := eq_true q240
                                go_wp2
                                first | go_roundg k3 | (simp only [← hji14, ← hji17, ← hji19] at H' ⊢; go_roundg k3)
                                case measure => have := HJ3.out; have := HK2.out; have := HK3.out; omega
                                case rel => exact ⟨(wrap64 (x9_3 + 1)), (x11_3), (wrap64 (x12_3 + 1)), (by first | rfl | (simp; done) | (simp [*]; done)), (by first | rfl | (simp; done) | (simp [*]; done)), (by first | rfl | (simp; done) | (simp [*]; done)), H', ⟨by have := HJ3.out; have := HK2.out; have := HK3.out; omega⟩, ⟨by (with_reducible repeat (first | apply Kd.R_alloc | apply Kd.R_drewN | apply Kd.R_drew)); exact HO_8.out⟩, ⟨by repeat (first | (with_reducible first | exact HB.out | apply below_alloc | apply pw_below_drewN | apply below_drew1) | exact HB.out)⟩⟩
                            · rw [if_neg c18] at H
                              exact absurd H (by simp)
                          · rw [if_neg c16] at H
                            exact absurd H (by simp)
                        · rw [if_neg c15] at H
                          exact absurd H (by simp)
                      · rw [if_neg c13] at H
                        have c13b0 : decide (x12_3 < a2) = false := decide_eq_false c13
                        clear c13
                        by_cases c24 : x8_2.length < 17592186044416
                        · rw [if_pos c24] at H
                          have LMc24 := Aside0.mk c24
                          clear c24
                          obtain ⟨y241, hy241⟩ : ∃ y_ : List Int, y_ = (x8_2 ++ [x11_3]) := ⟨_, rfl⟩
                          replace H : (noriaref11_GetBits.l0 k3 l0 a1 a2 y241 x9_3 (wrap64 (x10_2 + 1))) = some (r1, r2) := by first | (rw [hy241]; with_reducible exact H) | (have H2_ := (Option.bind_some _ _).symm.trans H; rw [hy241]; with_reducible exact H2_) | (have H2_ := (Option.bind_some _ _).symm.trans H; with_reducible exact H2_) | with_reducible exact H | (rw [hy241]; exact H) | exact H
                          have Ny241 := Aside0.mk hy241
                          clear hy241
                          have H' := Aside0.mk H
                          clear H
                          go_wp2_with (first | ((with_reducible refine gate_builtin (b := .append) (xs := #[.tmp 67, .tmp 69]) rfl ?_); at_builtin; refine Kd.R_append (Kd.int .u64) (w0 := w) w.heap.size rfl (.tmp 67) (.tmp 69) 30 38 (.int .u64 0) 8 rfl Try.underlying30 info38 rfl (by decide) (by omega) u8 x8_2 x11_3 [.int .u64 x11_3] (fun _ => True) (fun _ => False) rfl rfl ?aP (fun _ hk => hk.elim) ?aF ?aO ?aB ?aS ?aL ?_; (case aP => exact rfl); (case aB => exact (by repeat (first | (with_reducible first | exact HB.out | apply below_alloc | apply pw_below_drewN | apply below_drew1) | exact HB.out))); (case aF => exact (fun _ _ => trivial)); (case aO => exact (by (with_reducible repeat (first | apply Kd.R_alloc | apply Kd.R_drewN | apply Kd.R_drew)); exact HO_8.out)); (case aS => exact (below_size (by repeat (first | (with_reducible first | exact HB.out | apply below_alloc | apply pw_below_drewN | apply below_drew1) | exact HB.out)))); (case aL => have := LMc24.out; omega); intro v242 w25 ho hb hg hat; rw [← Ny241.out] at ho; have n0_ := Aside0.mk (hb); have n1_ := Aside0.mk (ho); clear HB; clear HO_8; have HB := n0_; have HO243 := n1_; clear n0_ n1_; clear ho hb hg hat))
                          go_roundg k3
                          case measure => have := HJ3.out; have := HK2.out; have := HK3.out; omega
                          case rel => exact ⟨(y241), (x9_3), (wrap64 (x10_2 + 1)), (by first | rfl | (simp; done) | (simp [*]; done)), (by first | rfl | (simp; done) | (simp [*]; done)), H', ⟨by have := HJ3.out; have := HK2.out; have := HK3.out; omega⟩, ⟨by (with_reducible repeat (first | apply Kd.R_alloc | apply Kd.R_drewN | apply Kd.R_drew)); exact HO243.out⟩, ⟨by repeat (first | (with_reducible first | exact HB.out | apply below_alloc | apply pw_below_drewN | apply below_drew1) | exact HB.out)⟩⟩
                        · rw [if_neg c24] at H
                          exact absurd H (by simp)
                · rw [if_neg c12] at H
                  have c12b0 : decide (x10_2 < a1) = false := decide_eq_false c12
                  clear c12
                  have H' := Aside0.mk H
                  clear H
                  go_wp2
                  go_loopg [9] k2 (fun kq v9 w' => ∃ (x9_3 : Int), v9 = .int .i64 x9_3 ∧ Aside0 (noriaref11_GetBits.l2 kq l0 x8_2 x9_3 = some (r1, r2)) ∧ Aside0 (kq ≤ k2) ∧ Aside0 (Kd.R (Kd.int .u64) 38 w' w.heap.size (fun _ => True) u8 x8_2) ∧ Aside0 (Below w.heap.size w w'))
                  case atStart => exact ⟨(x9_2), (by first | rfl | (simp; done) | (simp [*]; done)), H', ⟨Nat.le_refl _⟩, ⟨by (with_reducible repeat (first | apply Kd.R_alloc | apply Kd.R_drewN | apply Kd.R_drew)); exact HO_8.out⟩, ⟨by repeat (first | (with_reducible first | exact HB.out | apply below_alloc | apply pw_below_drewN | apply below_drew1) | exact HB.out)⟩⟩
                  case round =>
                    clear H'
                    try clear c1
                    try clear c2
                    try clear p2
                    try clear q2
                    try clear hx2
                    try clear c5
                    try clear c5b0
                    try clear c6
                    try clear c6b0
                    try clear p6
                    try clear c7
                    try clear c7b0
                    try clear c8
                    try clear c10
                    try clear c10b0
                    try clear c11
                    try clear c11b0
                    try clear c12
                    try clear c12b0
                    try clear c13
                    try clear c13b0
                    try clear c15
                    try clear c15b0
                    try clear c16
                    try clear c16b0
                    try clear c18
                    try clear c18b0
                    try clear c18b1
                    try clear c20
                    try clear c20b0
                    try clear c20b1
                    try clear c22
                    try clear c22b0
                    try clear c22b1
                    try clear c24
                    try clear p24
                    try clear q24
                    try clear hx24
                    try clear hx240_0
                    try clear p2
                    try clear p240
                    try clear q240
                    obtain ⟨x9_3, rfl, HA, HK3, HO_8, HB⟩ := hrel
                    cases gk with
                    | zero => exact absurd HA.out (by simp [noriaref11_GetBits.l2])
                    | succ k3 =>
                      have H := HA.out
                      clear HA
                      simp only [noriaref11_GetBits.l2] at H
                      by_cases c26 : x9_3 < (wrap64 (8 * (l0.length : Int)))
                      · rw [if_pos c26] at H
                        have c26b0 : decide (x9_3 < (wrap64 (8 * (l0.length : Int)))) = true := decide_eq_true c26
                        clear c26
                        obtain ⟨ji27, hji27⟩ : ∃ j_ : Int, (wrap64 (Int.tdiv x9_3 8)) = j_ := ⟨_, rfl⟩
                        replace H : (if 0 ≤ (ji27) then (if (ji27) < (l0.length : Int) then (if 0 ≤ (IntKind.u64.wrap (Int.tmod x9_3 8)) then (if (Go.bits .and .u8 (shr .u8 (rd l0 (ji27)) (IntKind.u64.wrap (Int.tmod x9_3 8))) 1) = 1 then (some (([] : List Int), 2)) else (noriaref11_GetBits.l2 k3 l0 x8_2 (wrap64 (x9_3 + 1)))) else (none)) else (none)) else (none)) = some (r1, r2) := by first | (rw [hji27] at H; exact H) | (simp only [hji27] at H ⊢; exact H)
                        have hji27w : (IntKind.i64.wrap (Int.tdiv x9_3 8)) = ji27 := (i64_w _).trans hji27
                        by_cases c28 : 0 ≤ (ji27)
                        · rw [if_pos c28] at H
                          have c28b0 : decide (0 ≤ (ji27)) = true := decide_eq_true c28
                          clear c28
                          by_cases c29 : (ji27) < (l0.length : Int)
                          · rw [if_pos c29] at H
                            have c29b0 : decide ((ji27) < (l0.length : Int)) = true := decide_eq_true c29
                            clear c29
                            obtain ⟨ji30, hji30⟩ : ∃ j_ : Int, (IntKind.u64.wrap (Int.tmod x9_3 8)) = j_ := ⟨_, rfl⟩
                            replace H : (if 0 ≤ (ji30) then (if (Go.bits .and .u8 (shr .u8 (rd l0 (ji27)) (ji30)) 1) = 1 then (some (([] : List Int), 2)) else (noriaref11_GetBits.l2 k3 l0 x8_2 (wrap64 (x9_3 + 1)))) else (none)) = some (r1, r2) := by first | (rw [hji30] at H; exact H) | (simp only [hji30] at H ⊢; exact H)
                            by_cases c31 : 0 ≤ (ji30)
                            · rw [if_pos c31] at H
                              have c31b0 := eq_true c31
                              have c31b1 : decide (0 ≤ (ji30)) = true := decide_eq_true c31
                              clear c31
                              obtain ⟨ji32, hji32⟩ : ∃ j_ : Int, (shr .u8 (rd l0 (ji27)) (ji30)) = j_ := ⟨_, rfl⟩
                              replace H : (if (Go.bits .and .u8 (ji32) 1) = 1 then (some (([] : List Int), 2)) else (noriaref11_GetBits.l2 k3 l0 x8_2 (wrap64 (x9_3 + 1)))) = some (r1, r2) := by first | (rw [hji32] at H; exact H) | (simp only [hji32] at H ⊢; exact H)
                              have hji32_ : ((rd l0 (ji27)) / 2 ^ min (ji30).toNat 8) = ji32 := hji32
                              have hji32z : (ji30) ≤ 8 → ((rd l0 (ji27)) / 2 ^ (ji30).toNat) = ji32 := shr_small hji32
                              by_cases c33 : (Go.bits .and .u8 (ji32) 1) = 1
                              · rw [if_pos c33] at H
                                have c33b0 : ((Go.bits .and .u8 (ji32) 1) == 1) = true := beq_iff_eq.mpr c33
                                have c33b1 : ((Go.bits .and .u8 (ji32) 1) != 1) = false := bne_eq_false_iff_eq.mpr c33
                                clear c33
                                simp only [Option.some.injEq, Prod.mk.injEq] at H
                                obtain ⟨rfl, rfl⟩ := H
                                have p244 : 0 ≤ ((ji27) : Int) := of_decide_eq_true (by first | (with_reducible assumption) | assumption)
                                have q244 : (ji27) < (l0.length : Int) := of_decide_eq_true (by first | (with_reducible assumption) | assumption)
                                obtain ⟨ad244, e244, hx244_0⟩ := Kd.at_int HR0.out (ji27) p244 q244
                                cases e244
                                replace hx244_0 := (HB.out.cell (World.block_lt_of_cell? w _ hx244_0)).trans hx244_0
                                replace p244 := eq_true p244
                                replace q244 := eq_true q244
                                go_wp2
                                go_ret2
                                exact ⟨_, by first | rfl | (simp [errW_none, errW_some] <;> rfl) | (simp only [← hji27, ← hji30, ← hji32]; first | rfl | (simp [errW_none, errW_some] <;> rfl)) | (simp [*, errW_none, errW_some] <;> rfl), by first | exact Kd.R_nil _ _ _ _ _ | exact Kd.N_nil _ _ _ _ _ | exact Kd.V_nil _ _ _ _ _ | exact Kd.Q_nil _ _ _ _ _ | exact Kd.S_nil _ _ _ _ _, by repeat (first | (with_reducible first | exact HB.out | apply below_alloc | apply pw_below_drewN | apply below_drew1) | exact HB.out)⟩
                              · rw [if_neg c33] at H
                                have c33b0 : ((Go.bits .and .u8 (ji32) 1) == 1) = false := beq_eq_false_iff_ne.mpr c33
                                have c33b1 : ((Go.bits .and .u8 (ji32) 1) != 1) = true := bne_iff_ne.mpr c33
                                have H' := Aside0.mk H
                                clear H
                                have p244 : 0 ≤ ((ji27) : Int) := of_decide_eq_true (by first | (with_reducible assumption) | assumption)
                                have q244 : (ji27) < (l0.length : Int) := of_decide_eq_true (by first | (with_reducible assumption) | assumption)
                                obtain ⟨ad244, e244, hx244_0⟩ := Kd.at_int HR0.out (ji27) p244 q244
                                cases e244
                                replace hx244_0 := (HB.out.cell (World.block_lt_of_cell? w _ hx244_0)).trans hx244_0
                                replace p244 := eq_true p244
                                replace q244 := eq_true q244
                                go_wp2
                                first | go_roundg k3 | (simp only [← hji27, ← hji30, ← hji32] at H' ⊢; go_roundg k3)
                                case measure => have := HJ3.out; have := HK2.out; have := HK3.out; omega
                                case rel => exact ⟨(wrap64 (x9_3 + 1)), (by first | rfl | (simp; done) | (simp [*]; done)), H', ⟨by have := HJ3.out; have := HK2.out; have := HK3.out; omega⟩, ⟨by (with_reducible repeat (first | apply Kd.R_alloc | apply Kd.R_drewN | apply Kd.R_drew)); exact HO_8.out⟩, ⟨by repeat (first | (with_reducible first | exact HB.out | apply below_alloc | apply pw_below_drewN | apply below_drew1) | exact HB.out)⟩⟩
                            · rw [if_neg c31] at H
                              exact absurd H (by simp)
                          · rw [if_neg c29] at H
                            exact absurd H (by simp)
                        · rw [if_neg c28] at H
                          exact absurd H (by simp)
                      · rw [if_neg c26] at H
                        have c26b0 : decide (x9_3 < (wrap64 (8 * (l0.length : Int)))) = false := decide_eq_false c26
                        clear c26
                        simp only [Option.some.injEq, Prod.mk.injEq] at H
                        obtain ⟨rfl, rfl⟩ := H
                        go_wp2
                        go_ret2
                        exact ⟨_, by first | rfl | (simp [errW_none, errW_some] <;> rfl) | (simp [*, errW_none, errW_some] <;> rfl), by (with_reducible repeat (first | apply Kd.R_alloc | apply Kd.R_drewN | apply Kd.R_drew)); exact HO_8.out, by repeat (first | (with_reducible first | exact HB.out | apply below_alloc | apply pw_below_drewN | apply below_drew1) | exact HB.out)⟩

/-! ### noriaref11_Zag: function 25 -/
def noriaref11_Zag.f (a0 : Int) : Option (Int) := if (Go.bits .and .u64 a0 1) = 1 then (some (wrap64 (Go.bits .xor .u64 18446744073709551615 (a0 / 2)))) else (some (wrap64 (a0 / 2)))
set_option maxHeartbeats 8000000 in
set_option maxRecDepth 100000 in
theorem noriaref11_Zag.calls (a0 : Int) (r : Int) (w : World) (h : noriaref11_Zag.f a0 = some r) :
    Calls Try.prog 25 #[.int .u64 a0] w fun e w' => e = .returned (.int .i64 r) ∧ Drawn0 w w' := by
  have H : (if (Go.bits .and .u64 a0 1) = 1 then (some (wrap64 (Go.bits .xor .u64 18446744073709551615 (a0 / 2)))) else (some (wrap64 (a0 / 2)))) = some r := h
  clear h
  by_cases c2 : (Go.bits .and .u64 a0 1) = 1
  · rw [if_pos c2] at H
    have c2b0 : ((Go.bits .and .u64 a0 1) == 1) = true := beq_iff_eq.mpr c2
    have c2b1 : ((Go.bits .and .u64 a0 1) != 1) = false := bne_eq_false_iff_eq.mpr c2
    clear c2
    obtain rfl := Option.some.inj H
    go_enter Try.func25, Try.ntmps25
    go_wp2
    go_ret
    exact ⟨by first | rfl | (simp; done) | (simp [*]; done), by repeat (first | exact Drawn0.refl _ | apply Drawn0.step)⟩
  · rw [if_neg c2] at H
    have c2b0 : ((Go.bits .and .u64 a0 1) == 1) = false := beq_eq_false_iff_ne.mpr c2
    have c2b1 : ((Go.bits .and .u64 a0 1) != 1) = true := bne_iff_ne.mpr c2
    obtain rfl := Option.some.inj H
    go_enter Try.func25, Try.ntmps25
    go_wp2
    go_ret
    exact ⟨by first | rfl | (simp; done) | (simp [*]; done), by repeat (first | exact Drawn0.refl _ | apply Drawn0.step)⟩

end Go.Proofs.Ytalgjhmehilioaa.PAll
