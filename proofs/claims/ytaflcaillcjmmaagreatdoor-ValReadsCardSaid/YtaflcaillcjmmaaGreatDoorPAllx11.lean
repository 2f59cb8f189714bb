-- Printed by this session's own program (wip/tools/pp.py): out of the translation. Lean checks it.
import Derived.Test.YtaflcaillcjmmaaGreatDoorPAllx0
import Derived.Test.YtaflcaillcjmmaaGreatDoorPAllx10
namespace Go.Proofs.YtaflcaillcjmmaaGreatDoor.PAll
open Go.Proofs.YtaflcaillcjmmaaGreatDoor.Help
open Go.RowKit Go.Proofs.YtaflcaillcjmmaaGreatDoorW.PrintWords Go.Proofs.YtaflcaillcjmmaaGreatDoorW.PrintLast Go.Proofs.YtaflcaillcjmmaaGreatDoorW.PrintMore
attribute [local go_sem] run_fl_eql run_fl_neq run_fl_lss run_fl_leq run_fl_gtr run_fl_geq unary_fl_neg run_cx_eql run_cx_neq run_cx_make run_cx_real run_cx_imag run_fl_of run_fl_to64 run_fl_add run_fl_sub run_fl_mul run_cx_add run_cx_sub run_cx_store run_fl_store str_gtr str_leq str_geq cell_put3_0 cell_put3_1 cell_put4_0 cell_put4_1 max2_int min2_int max_two min_two max_three min_three max_four min_four   -- for this text's walks alone
set_option linter.unusedVariables false
set_option linter.unusedSimpArgs false

/-! ### noriaref11_ParsePoint: function 24 -/
mutual
def noriaref11_ParsePoint.j0 : Nat → ByteArray → Bool → Option ((Nat × Nat) × Int)
  | 0, _, _ => none
  | k + 1, x0, x21 => if x21 = true then (some (((0, 0) : Nat × Nat), 2)) else (noriaref11_ParsePoint.l0 k x0 0 1)
def noriaref11_ParsePoint.l0 : Nat → ByteArray → Int → Int → Option ((Nat × Nat) × Int)
  | 0, _, _, _ => none
  | k + 1, x0, x4, x5 => if x5 < (wrap64 ((x0.size : Int) - 1)) then (noriaref11_ParsePoint.j2 k x0 x4 x5 (x4 == 0)) else (noriaref11_ParsePoint.j2 k x0 x4 x5 false)
def noriaref11_ParsePoint.j2 : Nat → ByteArray → Int → Int → Bool → Option ((Nat × Nat) × Int)
  | 0, _, _, _, _ => none
  | k + 1, x0, x4, x5, x30 => if x30 = true then (if 0 ≤ x5 then (if x5 < (x0.size : Int) then (if (bt x0 x5) = 43 then (noriaref11_ParsePoint.l0 k x0 x5 (wrap64 (x5 + 1))) else (if (bt x0 x5) = 45 then (noriaref11_ParsePoint.l0 k x0 x5 (wrap64 (x5 + 1))) else (noriaref11_ParsePoint.l0 k x0 x4 (wrap64 (x5 + 1))))) else (none)) else (none)) else (if x4 = 0 then (some (((0, 0) : Nat × Nat), 2)) else (if 0 ≤ x4 then (if x4 ≤ (wrap64 ((x0.size : Int) - 1)) then (if (wrap64 ((x0.size : Int) - 1)) ≤ (x0.size : Int) then (if 0 < ((x0.extract (x4 : Int).toNat ((wrap64 ((x0.size : Int) - 1)) : Int).toNat).size : Int) then (if (bt (x0.extract (x4 : Int).toNat ((wrap64 ((x0.size : Int) - 1)) : Int).toNat) 0) = 43 then (if 1 ≤ ((x0.extract (x4 : Int).toNat ((wrap64 ((x0.size : Int) - 1)) : Int).toNat).size : Int) then (if (((x0.extract (x4 : Int).toNat ((wrap64 ((x0.size : Int) - 1)) : Int).toNat).extract 1 (x0.extract (x4 : Int).toNat ((wrap64 ((x0.size : Int) - 1)) : Int).toNat).size).size : Int) > 0 then (if 0 < (((x0.extract (x4 : Int).toNat ((wrap64 ((x0.size : Int) - 1)) : Int).toNat).extract 1 (x0.extract (x4 : Int).toNat ((wrap64 ((x0.size : Int) - 1)) : Int).toNat).size).size : Int) then (if (bt ((x0.extract (x4 : Int).toNat ((wrap64 ((x0.size : Int) - 1)) : Int).toNat).extract 1 (x0.extract (x4 : Int).toNat ((wrap64 ((x0.size : Int) - 1)) : Int).toNat).size) 0) = 45 then (some (((0, 0) : Nat × Nat), 2)) else (noriaref11_ParsePoint.j3 k x0 x4 ((x0.extract (x4 : Int).toNat ((wrap64 ((x0.size : Int) - 1)) : Int).toNat).extract 1 (x0.extract (x4 : Int).toNat ((wrap64 ((x0.size : Int) - 1)) : Int).toNat).size))) else (none)) else (noriaref11_ParsePoint.j3 k x0 x4 ((x0.extract (x4 : Int).toNat ((wrap64 ((x0.size : Int) - 1)) : Int).toNat).extract 1 (x0.extract (x4 : Int).toNat ((wrap64 ((x0.size : Int) - 1)) : Int).toNat).size))) else (none)) else (noriaref11_ParsePoint.j3 k x0 x4 (x0.extract (x4 : Int).toNat ((wrap64 ((x0.size : Int) - 1)) : Int).toNat))) else (none)) else (none)) else (none)) else (none)))
def noriaref11_ParsePoint.j3 : Nat → ByteArray → Int → ByteArray → Option ((Nat × Nat) × Int)
  | 0, _, _, _ => none
  | k + 1, x0, x4, x6 => if 0 ≤ x4 then (if x4 ≤ (x0.size : Int) then ((noriaref11_ParseNum.f k (x0.extract 0 (x4 : Int).toNat)).bind fun bt293 => ((noriaref11_ParseNum.f k x6).bind fun bt295 => (if bt293.2 = 2 then (noriaref11_ParsePoint.j4 k bt293.1 bt293.2 bt295.1 bt295.2 true) else (noriaref11_ParsePoint.j4 k bt293.1 bt293.2 bt295.1 bt295.2 (bt295.2 == 2))))) else (none)) else (none)
def noriaref11_ParsePoint.j4 : Nat → Int → Int → Int → Int → Bool → Option ((Nat × Nat) × Int)
  | 0, _, _, _, _, _ => none
  | k + 1, x7, x8, x9, x10, x82 => if x82 = true then (some (((0, 0) : Nat × Nat), 2)) else (if x8 = 0 then (if x10 = 0 then (if x7 < (-1048576) then (some (((0, 0) : Nat × Nat), 1)) else (if x7 > 1048576 then (some (((0, 0) : Nat × Nat), 1)) else (if x9 < (-1048576) then (some (((0, 0) : Nat × Nat), 1)) else (if x9 > 1048576 then (some (((0, 0) : Nat × Nat), 1)) else ((noriaref11_Of.f x7 x9).bind fun t297 => (some (t297, 0))))))) else (some (((0, 0) : Nat × Nat), 1))) else (some (((0, 0) : Nat × Nat), 1)))
end
def noriaref11_ParsePoint.f (k : Nat) (a0 : ByteArray) : Option ((Nat × Nat) × Int) := if (a0.size : Int) < 4 then (noriaref11_ParsePoint.j0 k a0 true) else (if 0 ≤ (wrap64 ((a0.size : Int) - 1)) then (if (wrap64 ((a0.size : Int) - 1)) < (a0.size : Int) then (noriaref11_ParsePoint.j0 k a0 ((bt a0 (wrap64 ((a0.size : Int) - 1))) != 105)) else (none)) else (none))
theorem noriaref11_ParsePoint.mono_l : ∀ k, (∀ y0 y1, LeO (noriaref11_ParsePoint.j0 k y0 y1) (noriaref11_ParsePoint.j0 (k + 1) y0 y1)) ∧ (∀ y0 y1 y2, LeO (noriaref11_ParsePoint.l0 k y0 y1 y2) (noriaref11_ParsePoint.l0 (k + 1) y0 y1 y2)) ∧ (∀ y0 y1 y2 y3, LeO (noriaref11_ParsePoint.j2 k y0 y1 y2 y3) (noriaref11_ParsePoint.j2 (k + 1) y0 y1 y2 y3)) ∧ (∀ y0 y1 y2, LeO (noriaref11_ParsePoint.j3 k y0 y1 y2) (noriaref11_ParsePoint.j3 (k + 1) y0 y1 y2)) ∧ (∀ y0 y1 y2 y3 y4, LeO (noriaref11_ParsePoint.j4 k y0 y1 y2 y3 y4) (noriaref11_ParsePoint.j4 (k + 1) y0 y1 y2 y3 y4))
  | 0 => ⟨fun _ _ r h => by simp [noriaref11_ParsePoint.j0] at h, fun _ _ _ r h => by simp [noriaref11_ParsePoint.l0] at h, fun _ _ _ _ r h => by simp [noriaref11_ParsePoint.j2] at h, fun _ _ _ r h => by simp [noriaref11_ParsePoint.j3] at h, fun _ _ _ _ _ r h => by simp [noriaref11_ParsePoint.j4] at h⟩
  | k + 1 => by
    obtain ⟨ih0, ih1, ih2, ih3, ih4⟩ := noriaref11_ParsePoint.mono_l k
    refine ⟨?_, ?_, ?_, ?_, ?_⟩
    · intro y0 y1
      unfold noriaref11_ParsePoint.j0
      repeat' first
      | (with_reducible exact ih0 _ _)
      | (with_reducible exact ih1 _ _ _)
      | (with_reducible exact ih2 _ _ _ _)
      | (with_reducible exact ih3 _ _ _)
      | (with_reducible exact ih4 _ _ _ _ _)
      | (with_reducible exact noriaref11_ParseNum.mono _ _)
      | (with_reducible exact LeO.refl _)
      | (with_reducible exact LeO.none _)
      | (with_reducible refine LeO.ite ?_ ?_)
      | (with_reducible refine LeO.bind ?_ (fun _ => ?_))
      | exact ih0 _ _
      | exact ih1 _ _ _
      | exact ih2 _ _ _ _
      | exact ih3 _ _ _
      | exact ih4 _ _ _ _ _
      | exact noriaref11_ParseNum.mono _ _
      | exact LeO.none _
      | refine LeO.ite ?_ ?_
      | refine LeO.bind ?_ (fun _ => ?_)
    · intro y0 y1 y2
      unfold noriaref11_ParsePoint.l0
      repeat' first
      | (with_reducible exact ih0 _ _)
      | (with_reducible exact ih1 _ _ _)
      | (with_reducible exact ih2 _ _ _ _)
      | (with_reducible exact ih3 _ _ _)
      | (with_reducible exact ih4 _ _ _ _ _)
      | (with_reducible exact noriaref11_ParseNum.mono _ _)
      | (with_reducible exact LeO.refl _)
      | (with_reducible exact LeO.none _)
      | (with_reducible refine LeO.ite ?_ ?_)
      | (with_reducible refine LeO.bind ?_ (fun _ => ?_))
      | exact ih0 _ _
      | exact ih1 _ _ _
      | exact ih2 _ _ _ _
      | exact ih3 _ _ _
      | exact ih4 _ _ _ _ _
      | exact noriaref11_ParseNum.mono _ _
      | exact LeO.none _
      | refine LeO.ite ?_ ?_
      | refine LeO.bind ?_ (fun _ => ?_)
    · intro y0 y1 y2 y3
      unfold noriaref11_ParsePoint.j2
      repeat' first
      | (with_reducible exact ih0 _ _)
      | (with_reducible exact ih1 _ _ _)
      | (with_reducible exact ih2 _ _ _ _)
      | (with_reducible exact ih3 _ _ _)
      | (with_reducible exact ih4 _ _ _ _ _)
      | (with_reducible exact noriaref11_ParseNum.mono _ _)
      | (with_reducible exact LeO.refl _)
      | (with_reducible exact LeO.none _)
      | (with_reducible refine LeO.ite ?_ ?_)
      | (with_reducible refine LeO.bind ?_ (fun _ => ?_))
      | exact ih0 _ _
      | exact ih1 _ _ _
      | exact ih2 _ _ _ _
      | exact ih3 _ _ _
      | exact ih4 _ _ _ _ _
      | exact noriaref11_ParseNum.mono _ _
      | exact LeO.none _
      | refine LeO.ite ?_ ?_
      | refine LeO.bind ?_ (fun _ => ?_)
    · intro y0 y1 y2
      unfold noriaref11_ParsePoint.j3
      repeat' first
      | (with_reducible exact ih0 _ _)
      | (with_reducible exact ih1 _ _ _)
      | (with_reducible exact ih2 _ _ _ _)
      | (with_reducible exact ih3 _ _ _)
      | (with_reducible exact ih4 _ _ _ _ _)
      | (with_reducible exact noriaref11_ParseNum.mono _ _)
      | (with_reducible exact LeO.refl _)
      | (with_reducible exact LeO.none _)
      | (with_reducible refine LeO.ite ?_ ?_)
      | (with_reducible refine LeO.bind ?_ (fun _ => ?_))
      | exact ih0 _ _
      | exact ih1 _ _ _
      | exact ih2 _ _ _ _
      | exact ih3 _ _ _
      | exact ih4 _ _ _ _ _
      | exact noriaref11_ParseNum.mono _ _
      | exact LeO.none _
      | refine LeO.ite ?_ ?_
      | refine LeO.bind ?_ (fun _ => ?_)
    · intro y0 y1 y2 y3 y4
      unfold noriaref11_ParsePoint.j4
      repeat' first
      | (with_reducible exact ih0 _ _)
      | (with_reducible exact ih1 _ _ _)
      | (with_reducible exact ih2 _ _ _ _)
      | (with_reducible exact ih3 _ _ _)
      | (with_reducible exact ih4 _ _ _ _ _)
      | (with_reducible exact noriaref11_ParseNum.mono _ _)
      | (with_reducible exact LeO.refl _)
      | (with_reducible exact LeO.none _)
      | (with_reducible refine LeO.ite ?_ ?_)
      | (with_reducible refine LeO.bind ?_ (fun _ => ?_))
      | exact ih0 _ _
      | exact ih1 _ _ _
      | exact ih2 _ _ _ _
      | exact ih3 _ _ _
      | exact ih4 _ _ _ _ _
      | exact noriaref11_ParseNum.mono _ _
      | exact LeO.none _
      | refine LeO.ite ?_ ?_
      | refine LeO.bind ?_ (fun _ => ?_)
theorem noriaref11_ParsePoint.mono : ∀ a0 k, LeO (noriaref11_ParsePoint.f k a0) (noriaref11_ParsePoint.f (k + 1) a0) := by
  intro a0 k
  obtain ⟨ih0, ih1, ih2, ih3, ih4⟩ := noriaref11_ParsePoint.mono_l k
  unfold noriaref11_ParsePoint.f
  repeat' first
      | (with_reducible exact ih0 _ _)
      | (with_reducible exact ih1 _ _ _)
      | (with_reducible exact ih2 _ _ _ _)
      | (with_reducible exact ih3 _ _ _)
      | (with_reducible exact ih4 _ _ _ _ _)
      | (with_reducible exact noriaref11_ParseNum.mono _ _)
      | (with_reducible exact LeO.refl _)
      | (with_reducible exact LeO.none _)
      | (with_reducible refine LeO.ite ?_ ?_)
      | (with_reducible refine LeO.bind ?_ (fun _ => ?_))
      | exact ih0 _ _
      | exact ih1 _ _ _
      | exact ih2 _ _ _ _
      | exact ih3 _ _ _
      | exact ih4 _ _ _ _ _
      | exact noriaref11_ParseNum.mono _ _
      | exact LeO.none _
      | refine LeO.ite ?_ ?_
      | refine LeO.bind ?_ (fun _ => ?_)
set_option maxHeartbeats 8000000 in
set_option maxRecDepth 100000 in
theorem noriaref11_ParsePoint.calls (k : Nat) (a0 : ByteArray) (r1 : (Nat × Nat)) (r2 : Int) (w : World) (h : noriaref11_ParsePoint.f k a0 = some (r1, r2)) :
    Calls Tryz.prog 24 #[.string a0] w fun e w' => e = .returned (.tuple #[.complex .f64 r1.1 r1.2, .int .i64 r2]) ∧ Drawn0 w w' := by
  have H : (if (a0.size : Int) < 4 then (noriaref11_ParsePoint.j0 k a0 true) else (if 0 ≤ (wrap64 ((a0.size : Int) - 1)) then (if (wrap64 ((a0.size : Int) - 1)) < (a0.size : Int) then (noriaref11_ParsePoint.j0 k a0 ((bt a0 (wrap64 ((a0.size : Int) - 1))) != 105)) else (none)) else (none))) = some (r1, r2) := h
  clear h
  have HC2 := Aside0.mk H
  clear H
  go_enter Tryz.func24, Tryz.ntmps24
  go_upto_region 1 with (fail)
  go_cut [21] (fun v21 wc => ∃ (kq : Nat) (x21_1 : Bool), v21 = .bool x21_1 ∧ Aside0 (noriaref11_ParsePoint.j0 kq a0 x21_1 = some (r1, r2)) ∧ Aside0 (kq ≤ k) ∧ Drawn0 w wc)
  case first =>
    have H := HC2.out
    clear HC2
    by_cases c3 : (a0.size : Int) < 4
    · rw [if_pos c3] at H
      have c3b0 : decide ((a0.size : Int) < 4) = true := decide_eq_true c3
      have c3b1 : decide (a0.size < 4) = true := decide_eq_true (by omega)
      clear c3
      (first | rw [c3b0] | (simp only [i64_w, i32_w]; rw [c3b0]) | skip)
      have H' := Aside0.mk H
      clear H
      go_wp2
      go_meet
      case rel => exact ⟨_, (true), (by first | rfl | (simp; done) | (simp [*]; done)), H', ⟨by first | omega | exact Nat.le_refl _⟩, by repeat (first | exact Drawn0.refl _ | apply Drawn0.step)⟩
    · rw [if_neg c3] at H
      have c3b0 : decide ((a0.size : Int) < 4) = false := decide_eq_false c3
      have c3b1 : decide (a0.size < 4) = false := decide_eq_false (by omega)
      clear c3
      (first | rw [c3b0] | (simp only [i64_w, i32_w]; rw [c3b0]) | skip)
      obtain ⟨ji4, hji4⟩ : ∃ j_ : Int, (wrap64 ((a0.size : Int) - 1)) = j_ := ⟨_, rfl⟩
      replace H : (if 0 ≤ (ji4) then (if (ji4) < (a0.size : Int) then (noriaref11_ParsePoint.j0 k a0 ((bt a0 (ji4)) != 105)) else (none)) else (none)) = some (r1, r2) := by first | (rw [hji4] at H; exact H) | (simp only [hji4] at H ⊢; exact H)
      have hji4w : (IntKind.i64.wrap ((a0.size : Int) - 1)) = ji4 := (i64_w _).trans hji4
      by_cases c5 : 0 ≤ (ji4)
      · rw [if_pos c5] at H
        have c5b0 : decide (0 ≤ (ji4)) = true := decide_eq_true c5
        clear c5
        by_cases c6 : (ji4) < (a0.size : Int)
        · rw [if_pos c6] at H
          have c6b0 : decide ((ji4) < (a0.size : Int)) = true := decide_eq_true c6
          clear c6
          have H' := Aside0.mk H
          clear H
          have p7 : 0 ≤ ((ji4) : Int) := of_decide_eq_true (by first | (with_reducible assumption) | assumption)
          have q7 : (ji4) < (a0.size : Int) := of_decide_eq_true (by first | (with_reducible assumption) | assumption)
          have hx7 := bt_at a0 (ji4)
          replace p7 := eq_true p7
          replace q7 := eq_true q7
          go_wp2
          go_meet
          case rel => exact ⟨_, (((bt a0 (ji4)) != 105)), (by first | rfl | (simp; done) | (simp only [← hji4] <;> (first | rfl | simp)) | (simp [*]; done)), H', ⟨by first | omega | exact Nat.le_refl _⟩, by repeat (first | exact Drawn0.refl _ | apply Drawn0.step)⟩
        · rw [if_neg c6] at H
          exact absurd H (by simp)
      · rw [if_neg c5] at H
        exact absurd H (by simp)
  case rest =>
    clear HC2
    try clear c2
    try clear p2
    try clear c3
    try clear c3b0
    try clear c3b1
    try clear c5
    try clear c5b0
    try clear c6
    try clear c6b0
    try clear p6
    try clear p7
    try clear q7
    try clear hx7
    try clear p7
    try clear q7
    obtain ⟨kq, x21_1, rfl, HA, HJ1, ⟨mc1, rfl⟩⟩ := hcut
    cases kq with
    | zero => exact absurd HA.out (by simp [noriaref11_ParsePoint.j0])
    | succ kj1 =>
      have H := HA.out
      clear HA
      simp only [noriaref11_ParsePoint.j0] at H
      by_cases c8 : x21_1 = true
      · subst c8
        have H1 : (some (((0, 0) : Nat × Nat), 2)) = some (r1, r2) := by rw [if_pos rfl] at H; exact H
        clear H
        have H := H1
        clear H1
        simp only [Option.some.injEq, Prod.mk.injEq] at H
        obtain ⟨rfl, rfl⟩ := H
        go_wp2
        go_ret2
        exact ⟨by first | rfl | (simp; done) | (simp [*]; done), by repeat (first | exact Drawn0.refl _ | apply Drawn0.step)⟩
      · replace c8 := Bool.eq_false_iff.mpr c8
        subst c8
        have H1 : (noriaref11_ParsePoint.l0 kj1 a0 0 1) = some (r1, r2) := by rw [if_neg (show ¬ (false = true) by decide)] at H; exact H
        clear H
        have H := H1
        clear H1
        have H' := Aside0.mk H
        clear H
        go_wp2
        go_loopg [4, 5] kj1 (fun kq v4 v5 w' => ∃ (x4_2 : Int) (x5_2 : Int), v4 = .int .i64 x4_2 ∧ v5 = .int .i64 x5_2 ∧ Aside0 (noriaref11_ParsePoint.l0 kq a0 x4_2 x5_2 = some (r1, r2)) ∧ Aside0 (kq ≤ kj1) ∧ Drawn0 w w')
        case atStart => exact ⟨(0), (1), (by first | rfl | (simp; done) | (simp [*]; done)), (by first | rfl | (simp; done) | (simp [*]; done)), H', ⟨Nat.le_refl _⟩, by repeat (first | exact Drawn0.refl _ | apply Drawn0.step)⟩
        case round =>
          clear H'
          try clear c1
          try clear c2
          try clear p2
          try clear c3
          try clear c3b0
          try clear c3b1
          try clear c5
          try clear c5b0
          try clear c6
          try clear c6b0
          try clear p6
          try clear p7
          try clear q7
          try clear hx7
          try clear c8
          try clear p2
          try clear p6
          try clear p7
          try clear q7
          obtain ⟨x4_2, x5_2, rfl, rfl, HA, HK2, ⟨m2, rfl⟩⟩ := hrel
          cases gk with
          | zero => exact absurd HA.out (by simp [noriaref11_ParsePoint.l0])
          | succ k2 =>
            have H := HA.out
            clear HA
            simp only [noriaref11_ParsePoint.l0] at H
            have HC9 := Aside0.mk H
            clear H
            go_upto_region 5 with (fail)
            go_cut [30] (fun v30 wc => ∃ (kq : Nat) (x30_8 : Bool), v30 = .bool x30_8 ∧ Aside0 (noriaref11_ParsePoint.j2 kq a0 x4_2 x5_2 x30_8 = some (r1, r2)) ∧ Aside0 (kq ≤ k2) ∧ Drawn0 w wc)
            case first =>
              have H := HC9.out
              clear HC9
              by_cases c10 : x5_2 < (wrap64 ((a0.size : Int) - 1))
              · rw [if_pos c10] at H
                have c10b0 : decide (x5_2 < (wrap64 ((a0.size : Int) - 1))) = true := decide_eq_true c10
                clear c10
                (first | rw [c10b0] | (simp only [i64_w, i32_w]; rw [c10b0]) | skip)
                have H' := Aside0.mk H
                clear H
                go_wp2
                go_meet
                case rel => exact ⟨_, ((x4_2 == 0)), (by first | rfl | (simp; done) | (simp [*]; done)), H', ⟨by have := HJ1.out; have := HK2.out; first | omega | exact Nat.le_refl _⟩, by repeat (first | exact Drawn0.refl _ | apply Drawn0.step)⟩
              · rw [if_neg c10] at H
                have c10b0 : decide (x5_2 < (wrap64 ((a0.size : Int) - 1))) = false := decide_eq_false c10
                clear c10
                (first | rw [c10b0] | (simp only [i64_w, i32_w]; rw [c10b0]) | skip)
                have H' := Aside0.mk H
                clear H
                go_wp2
                go_meet
                case rel => exact ⟨_, (false), (by first | rfl | (simp; done) | (simp [*]; done)), H', ⟨by have := HJ1.out; have := HK2.out; first | omega | exact Nat.le_refl _⟩, by repeat (first | exact Drawn0.refl _ | apply Drawn0.step)⟩
            case rest =>
              clear HC9
              try clear c1
              try clear c2
              try clear p2
              try clear c3
              try clear c3b0
              try clear c3b1
              try clear c5
              try clear c5b0
              try clear c6
              try clear c6b0
              try clear p6
              try clear p7
              try clear q7
              try clear hx7
              try clear c8
              try clear c10
              try clear c10b0
              try clear p2
              try clear p6
              try clear p7
              try clear q7
              obtain ⟨kq, x30_8, rfl, HA, HJ8, ⟨mc8, rfl⟩⟩ := hcut
              cases kq with
              | zero => exact absurd HA.out (by simp [noriaref11_ParsePoint.j2])
              | succ kj8 =>
                have H := HA.out
                clear HA
                simp only [noriaref11_ParsePoint.j2] at H
                by_cases c11 : x30_8 = true
                · subst c11
                  have H1 : (if 0 ≤ x5_2 then (if x5_2 < (a0.size : Int) then (if (bt a0 x5_2) = 43 then (noriaref11_ParsePoint.l0 kj8 a0 x5_2 (wrap64 (x5_2 + 1))) else (if (bt a0 x5_2) = 45 then (noriaref11_ParsePoint.l0 kj8 a0 x5_2 (wrap64 (x5_2 + 1))) else (noriaref11_ParsePoint.l0 kj8 a0 x4_2 (wrap64 (x5_2 + 1))))) else (none)) else (none)) = some (r1, r2) := by rw [if_pos rfl] at H; exact H
                  clear H
                  have H := H1
                  clear H1
                  by_cases c12 : 0 ≤ x5_2
                  · rw [if_pos c12] at H
                    have c12b0 : decide (0 ≤ x5_2) = true := decide_eq_true c12
                    clear c12
                    by_cases c13 : x5_2 < (a0.size : Int)
                    · rw [if_pos c13] at H
                      have c13b0 : decide (x5_2 < (a0.size : Int)) = true := decide_eq_true c13
                      clear c13
                      by_cases c15 : (bt a0 x5_2) = 43
                      · rw [if_pos c15] at H
                        have c15b0 : ((bt a0 x5_2) == 43) = true := beq_iff_eq.mpr c15
                        have c15b1 : ((bt a0 x5_2) != 43) = false := bne_eq_false_iff_eq.mpr c15
                        clear c15
                        have H' := Aside0.mk H
                        clear H
                        have p14 : 0 ≤ (x5_2 : Int) := of_decide_eq_true (by first | (with_reducible assumption) | assumption)
                        have q14 : x5_2 < (a0.size : Int) := of_decide_eq_true (by first | (with_reducible assumption) | assumption)
                        have hx14 := bt_at a0 x5_2
                        replace p14 := eq_true p14
                        replace q14 := eq_true q14
                        go_wp2
                        go_roundg kj8
                        case measure => have := HJ1.out; have := HK2.out; have := HJ8.out; omega
                        case rel => exact ⟨(x5_2), (wrap64 (x5_2 + 1)), (by first | rfl | (simp; done) | (simp [*]; done)), (by first | rfl | (simp; done) | (simp [*]; done)), H', ⟨by have := HJ1.out; have := HK2.out; have := HJ8.out; omega⟩, by repeat (first | exact Drawn0.refl _ | apply Drawn0.step)⟩
                      · rw [if_neg c15] at H
                        have c15b0 : ((bt a0 x5_2) == 43) = false := beq_eq_false_iff_ne.mpr c15
                        have c15b1 : ((bt a0 x5_2) != 43) = true := bne_iff_ne.mpr c15
                        by_cases c17 : (bt a0 x5_2) = 45
                        · rw [if_pos c17] at H
                          have c17b0 : ((bt a0 x5_2) == 45) = true := beq_iff_eq.mpr c17
                          have c17b1 : ((bt a0 x5_2) != 45) = false := bne_eq_false_iff_eq.mpr c17
                          clear c17
                          have H' := Aside0.mk H
                          clear H
                          have p14 : 0 ≤ (x5_2 : Int) := of_decide_eq_true (by first | (with_reducible assumption) | assumption)
                          have q14 : x5_2 < (a0.size : Int) := of_decide_eq_true (by first | (with_reducible assumption) | assumption)
                          have hx14 := bt_at a0 x5_2
                          replace p14 := eq_true p14
                          replace q14 := eq_true q14
                          have p16 : 0 ≤ (x5_2 : Int) := of_decide_eq_true (by first | (with_reducible assumption) | assumption)
                          have q16 : x5_2 < (a0.size : Int) := of_decide_eq_true (by first | (with_reducible assumption) | assumption)
                          have hx16 := bt_at a0 x5_2
                          replace p16 := eq_true p16
                          replace q16 := eq_true q16
                          go_wp2
                          go_roundg kj8
                          case measure => have := HJ1.out; have := HK2.out; have := HJ8.out; omega
                          case rel => exact ⟨(x5_2), (wrap64 (x5_2 + 1)), (by first | rfl | (simp; done) | (simp [*]; done)), (by first | rfl | (simp; done) | (simp [*]; done)), H', ⟨by have := HJ1.out; have := HK2.out; have := HJ8.out; omega⟩, by repeat (first | exact Drawn0.refl _ | apply Drawn0.step)⟩
                        · rw [if_neg c17] at H
                          have c17b0 : ((bt a0 x5_2) == 45) = false := beq_eq_false_iff_ne.mpr c17
                          have c17b1 : ((bt a0 x5_2) != 45) = true := bne_iff_ne.mpr c17
                          have H' := Aside0.mk H
                          clear H
                          have p14 : 0 ≤ (x5_2 : Int) := of_decide_eq_true (by first | (with_reducible assumption) | assumption)
                          have q14 : x5_2 < (a0.size : Int) := of_decide_eq_true (by first | (with_reducible assumption) | assumption)
                          have hx14 := bt_at a0 x5_2
                          replace p14 := eq_true p14
                          replace q14 := eq_true q14
                          have p16 : 0 ≤ (x5_2 : Int) := of_decide_eq_true (by first | (with_reducible assumption) | assumption)
                          have q16 : x5_2 < (a0.size : Int) := of_decide_eq_true (by first | (with_reducible assumption) | assumption)
                          have hx16 := bt_at a0 x5_2
                          replace p16 := eq_true p16
                          replace q16 := eq_true q16
                          go_wp2
                          go_roundg kj8
                          case measure => have := HJ1.out; have := HK2.out; have := HJ8.out; omega
                          case rel => exact ⟨(x4_2), (wrap64 (x5_2 + 1)), (by first | rfl | (simp; done) | (simp [*]; done)), (by first | rfl | (simp; done) | (simp [*]; done)), H', ⟨by have := HJ1.out; have := HK2.out; have := HJ8.out; omega⟩, by repeat (first | exact Drawn0.refl _ | apply Drawn0.step)⟩
                    · rw [if_neg c13] at H
                      exact absurd H (by simp)
                  · rw [if_neg c12] at H
                    exact absurd H (by simp)
                · replace c11 := Bool.eq_false_iff.mpr c11
                  subst c11
                  have H1 : (if x4_2 = 0 then (some (((0, 0) : Nat × Nat), 2)) else (if 0 ≤ x4_2 then (if x4_2 ≤ (wrap64 ((a0.size : Int) - 1)) then (if (wrap64 ((a0.size : Int) - 1)) ≤ (a0.size : Int) then (if 0 < ((a0.extract (x4_2 : Int).toNat ((wrap64 ((a0.size : Int) - 1)) : Int).toNat).size : Int) then (if (bt (a0.extract (x4_2 : Int).toNat ((wrap64 ((a0.size : Int) - 1)) : Int).toNat) 0) = 43 then (if 1 ≤ ((a0.extract (x4_2 : Int).toNat ((wrap64 ((a0.size : Int) - 1)) : Int).toNat).size : Int) then (if (((a0.extract (x4_2 : Int).toNat ((wrap64 ((a0.size : Int) - 1)) : Int).toNat).extract 1 (a0.extract (x4_2 : Int).toNat ((wrap64 ((a0.size : Int) - 1)) : Int).toNat).size).size : Int) > 0 then (if 0 < (((a0.extract (x4_2 : Int).toNat ((wrap64 ((a0.size : Int) - 1)) : Int).toNat).extract 1 (a0.extract (x4_2 : Int).toNat ((wrap64 ((a0.size : Int) - 1)) : Int).toNat).size).size : Int) then (if (bt ((a0.extract (x4_2 : Int).toNat ((wrap64 ((a0.size : Int) - 1)) : Int).toNat).extract 1 (a0.extract (x4_2 : Int).toNat ((wrap64 ((a0.size : Int) - 1)) : Int).toNat).size) 0) = 45 then (some (((0, 0) : Nat × Nat), 2)) else (noriaref11_ParsePoint.j3 kj8 a0 x4_2 ((a0.extract (x4_2 : Int).toNat ((wrap64 ((a0.size : Int) - 1)) : Int).toNat).extract 1 (a0.extract (x4_2 : Int).toNat ((wrap64 ((a0.size : Int) - 1)) : Int).toNat).size))) else (none)) else (noriaref11_ParsePoint.j3 kj8 a0 x4_2 ((a0.extract (x4_2 : Int).toNat ((wrap64 ((a0.size : Int) - 1)) : Int).toNat).extract 1 (a0.extract (x4_2 : Int).toNat ((wrap64 ((a0.size : Int) - 1)) : Int).toNat).size))) else (none)) else (noriaref11_ParsePoint.j3 kj8 a0 x4_2 (a0.extract (x4_2 : Int).toNat ((wrap64 ((a0.size : Int) - 1)) : Int).toNat))) else (none)) else (none)) else (none)) else (none))) = some (r1, r2) := by rw [if_neg (show ¬ (false = true) by decide)] at H; exact H
                  clear H
                  have H := H1
                  clear H1
                  by_cases c18 : x4_2 = 0
                  · rw [if_pos c18] at H
                    have c18b0 : (x4_2 == 0) = true := beq_iff_eq.mpr c18
                    have c18b1 : (x4_2 != 0) = false := bne_eq_false_iff_eq.mpr c18
                    clear c18
                    simp only [Option.some.injEq, Prod.mk.injEq] at H
                    obtain ⟨rfl, rfl⟩ := H
                    go_wp2
                    go_ret2
                    exact ⟨by first | rfl | (simp; done) | (simp [*]; done), by repeat (first | exact Drawn0.refl _ | apply Drawn0.step)⟩
                  · rw [if_neg c18] at H
                    have c18b0 : (x4_2 == 0) = false := beq_eq_false_iff_ne.mpr c18
                    have c18b1 : (x4_2 != 0) = true := bne_iff_ne.mpr c18
                    by_cases c19 : 0 ≤ x4_2
                    · rw [if_pos c19] at H
                      have c19b0 := eq_true c19
                      have c19b1 : decide (0 ≤ x4_2) = true := decide_eq_true c19
                      clear c19
                      by_cases c20 : x4_2 ≤ (wrap64 ((a0.size : Int) - 1))
                      · rw [if_pos c20] at H
                        have c20b0 := eq_true c20
                        have c20b1 : decide (x4_2 ≤ (wrap64 ((a0.size : Int) - 1))) = true := decide_eq_true c20
                        clear c20
                        by_cases c21 : (wrap64 ((a0.size : Int) - 1)) ≤ (a0.size : Int)
                        · rw [if_pos c21] at H
                          have c21b0 := eq_true c21
                          have c21b1 : decide ((wrap64 ((a0.size : Int) - 1)) ≤ (a0.size : Int)) = true := decide_eq_true c21
                          clear c21
                          by_cases c22 : 0 < ((a0.extract (x4_2 : Int).toNat ((wrap64 ((a0.size : Int) - 1)) : Int).toNat).size : Int)
                          · rw [if_pos c22] at H
                            have c22b0 : decide (0 < ((a0.extract (x4_2 : Int).toNat ((wrap64 ((a0.size : Int) - 1)) : Int).toNat).size : Int)) = true := decide_eq_true c22
                            have c22b1 : decide (0 < (a0.extract (x4_2 : Int).toNat ((wrap64 ((a0.size : Int) - 1)) : Int).toNat).size) = true := decide_eq_true (by omega)
                            clear c22
                            have HC24 := Aside0.mk H
                            clear H
                            have p23 : 0 ≤ (0 : Int) := (by omega)
                            have q23 : 0 < (a0.extract (x4_2 : Int).toNat ((wrap64 ((a0.size : Int) - 1)) : Int).toNat).size := (by have : (0 : Int) < ((a0.extract (x4_2 : Int).toNat ((wrap64 ((a0.size : Int) - 1)) : Int).toNat).size : Int) := of_decide_eq_true (by first | (with_reducible assumption) | assumption); omega)
                            have hx23 : ∀ h : 0 < (a0.extract (x4_2 : Int).toNat ((wrap64 ((a0.size : Int) - 1)) : Int).toNat).size, (((a0.extract (x4_2 : Int).toNat ((wrap64 ((a0.size : Int) - 1)) : Int).toNat)[0]'h).toNat : Int) = bt (a0.extract (x4_2 : Int).toNat ((wrap64 ((a0.size : Int) - 1)) : Int).toNat) 0 := bt_at (a0.extract (x4_2 : Int).toNat ((wrap64 ((a0.size : Int) - 1)) : Int).toNat) 0
                            clear p23
                            have qi23 : (0 < ((a0.extract (x4_2 : Int).toNat ((wrap64 ((a0.size : Int) - 1)) : Int).toNat).size : Int)) = True := eq_true (of_decide_eq_true (by first | (with_reducible assumption) | assumption))
                            have qj23 : (0 < ((wrap64 ((a0.size : Int) - 1)) : Int).toNat - (x4_2 : Int).toNat) = True := eq_true (by have h := of_eq_true qi23; rw [ByteArray.size_extract] at h; omega)
                            replace q23 := eq_true q23
                            go_upto_if 54 with (fail)
                            go_cut [6] (fun v6 wc => ∃ (kq : Nat) (x6_23 : ByteArray), v6 = .string x6_23 ∧ Aside0 (noriaref11_ParsePoint.j3 kq a0 x4_2 x6_23 = some (r1, r2)) ∧ Aside0 (kq ≤ kj8) ∧ Drawn0 w wc)
                            case first =>
                              generalize a0.extract (x4_2 : Int).toNat ((wrap64 ((a0.size : Int) - 1)) : Int).toNat = T_ at *
                              have H := HC24.out
                              clear HC24
                              by_cases c25 : (bt T_ 0) = 43
                              · rw [if_pos c25] at H
                                have c25b0 : ((bt T_ 0) == 43) = true := beq_iff_eq.mpr c25
                                have c25b1 : ((bt T_ 0) != 43) = false := bne_eq_false_iff_eq.mpr c25
                                clear c25
                                (first | rw [c25b0] | (simp only [i64_w, i32_w]; rw [c25b0]) | skip)
                                by_cases c26 : 1 ≤ (T_.size : Int)
                                · rw [if_pos c26] at H
                                  have c26b0 := eq_true c26
                                  have c26b1 : decide (1 ≤ (T_.size : Int)) = true := decide_eq_true c26
                                  clear c26
                                  by_cases c27 : ((T_.extract 1 T_.size).size : Int) > 0
                                  · rw [if_pos c27] at H
                                    have c27b0 : decide (0 < ((T_.extract 1 T_.size).size : Int)) = true := decide_eq_true c27
                                    have c27b1 : decide (0 < (T_.extract 1 T_.size).size) = true := decide_eq_true (by omega)
                                    have c27s : (0 < T_.size - 1) = True := eq_true (by have h := c27; rw [ByteArray.size_extract] at h; omega)
                                    clear c27
                                    by_cases c28 : 0 < ((T_.extract 1 T_.size).size : Int)
                                    · rw [if_pos c28] at H
                                      have c28b0 : decide (0 < ((T_.extract 1 T_.size).size : Int)) = true := decide_eq_true c28
                                      have c28b1 : decide (0 < (T_.extract 1 T_.size).size) = true := decide_eq_true (by omega)
                                      have c28s : (0 < T_.size - 1) = True := eq_true (by have h := c28; rw [ByteArray.size_extract] at h; omega)
                                      clear c28
                                      by_cases c30 : (bt (T_.extract 1 T_.size) 0) = 45
                                      · rw [if_pos c30] at H
                                        have c30b0 : ((bt (T_.extract 1 T_.size) 0) == 45) = true := beq_iff_eq.mpr c30
                                        have c30b1 : ((bt (T_.extract 1 T_.size) 0) != 45) = false := bne_eq_false_iff_eq.mpr c30
                                        clear c30
                                        simp only [Option.some.injEq, Prod.mk.injEq] at H
                                        obtain ⟨rfl, rfl⟩ := H
                                        have p29 : 0 ≤ (0 : Int) := (by omega)
                                        have q29 : 0 < (T_.extract 1 T_.size).size := (by have : (0 : Int) < ((T_.extract 1 T_.size).size : Int) := of_decide_eq_true (by first | (with_reducible assumption) | assumption); omega)
                                        have hx29 : ∀ h : 0 < (T_.extract 1 T_.size).size, (((T_.extract 1 T_.size)[0]'h).toNat : Int) = bt (T_.extract 1 T_.size) 0 := bt_at (T_.extract 1 T_.size) 0
                                        clear p29
                                        have qi29 : (0 < ((T_.extract 1 T_.size).size : Int)) = True := eq_true (of_decide_eq_true (by first | (with_reducible assumption) | assumption))
                                        replace q29 := eq_true q29
                                        go_wp2
                                        go_ret2
                                        exact ⟨by first | rfl | (simp; done) | (simp [*]; done), by repeat (first | exact Drawn0.refl _ | apply Drawn0.step)⟩
                                      · rw [if_neg c30] at H
                                        have c30b0 : ((bt (T_.extract 1 T_.size) 0) == 45) = false := beq_eq_false_iff_ne.mpr c30
                                        have c30b1 : ((bt (T_.extract 1 T_.size) 0) != 45) = true := bne_iff_ne.mpr c30
                                        have H' := Aside0.mk H
                                        clear H
                                        have p29 : 0 ≤ (0 : Int) := (by omega)
                                        have q29 : 0 < (T_.extract 1 T_.size).size := (by have : (0 : Int) < ((T_.extract 1 T_.size).size : Int) := of_decide_eq_true (by first | (with_reducible assumption) | assumption); omega)
                                        have hx29 : ∀ h : 0 < (T_.extract 1 T_.size).size, (((T_.extract 1 T_.size)[0]'h).toNat : Int) = bt (T_.extract 1 T_.size) 0 := bt_at (T_.extract 1 T_.size) 0
                                        clear p29
                                        have qi29 : (0 < ((T_.extract 1 T_.size).size : Int)) = True := eq_true (of_decide_eq_true (by first | (with_reducible assumption) | assumption))
                                        replace q29 := eq_true q29
                                        go_wp2
                                        go_meet
                                        case rel => exact ⟨_, (T_.extract 1 T_.size), (by first | rfl | (simp; done) | (simp [*]; done)), H', ⟨by have := HJ1.out; have := HK2.out; have := HJ8.out; first | omega | exact Nat.le_refl _⟩, by repeat (first | exact Drawn0.refl _ | apply Drawn0.step)⟩
                                    · rw [if_neg c28] at H
                                      exact absurd H (by simp)
                                  · rw [if_neg c27] at H
                                    have c27b0 : decide (0 < ((T_.extract 1 T_.size).size : Int)) = false := decide_eq_false c27
                                    have c27b1 : decide (0 < (T_.extract 1 T_.size).size) = false := decide_eq_false (by omega)
                                    have c27s : (0 < T_.size - 1) = False := eq_false (by intro h'; apply c27; rw [ByteArray.size_extract]; omega)
                                    clear c27
                                    have H' := Aside0.mk H
                                    clear H
                                    go_wp2
                                    go_meet
                                    case rel => exact ⟨_, (T_.extract 1 T_.size), (by first | rfl | (simp; done) | (simp [*]; done)), H', ⟨by have := HJ1.out; have := HK2.out; have := HJ8.out; first | omega | exact Nat.le_refl _⟩, by repeat (first | exact Drawn0.refl _ | apply Drawn0.step)⟩
                                · rw [if_neg c26] at H
                                  exact absurd H (by simp)
                              · rw [if_neg c25] at H
                                have c25b0 : ((bt T_ 0) == 43) = false := beq_eq_false_iff_ne.mpr c25
                                have c25b1 : ((bt T_ 0) != 43) = true := bne_iff_ne.mpr c25
                                (first | rw [c25b0] | (simp only [i64_w, i32_w]; rw [c25b0]) | skip)
                                have H' := Aside0.mk H
                                clear H
                                go_wp2
                                go_meet
                                case rel => exact ⟨_, T_, (by first | rfl | (simp; done) | (simp [*]; done)), H', ⟨by have := HJ1.out; have := HK2.out; have := HJ8.out; first | omega | exact Nat.le_refl _⟩, by repeat (first | exact Drawn0.refl _ | apply Drawn0.step)⟩
                            case rest =>
                              clear HC24
                              try clear c1
                              try clear p1
                              try clear q1
                              try clear hx1
                              try clear c2
                              try clear p2
                              try clear q2
                              try clear hx2
                              try clear qi2
                              try clear c3
                              try clear c3b0
                              try clear c3b1
                              try clear c5
                              try clear c5b0
                              try clear c6
                              try clear c6b0
                              try clear p6
                              try clear p7
                              try clear q7
                              try clear hx7
                              try clear c8
                              try clear c10
                              try clear c10b0
                              try clear c11
                              try clear c12
                              try clear c12b0
                              try clear c13
                              try clear c13b0
                              try clear p14
                              try clear q14
                              try clear hx14
                              try clear c15
                              try clear c15b0
                              try clear c15b1
                              try clear p16
                              try clear q16
                              try clear hx16
                              try clear c17
                              try clear c17b0
                              try clear c17b1
                              try clear c18
                              try clear c18b0
                              try clear c18b1
                              try clear c19
                              try clear c19b0
                              try clear c19b1
                              try clear c20
                              try clear c20b0
                              try clear c20b1
                              try clear c21
                              try clear c21b0
                              try clear c21b1
                              try clear c22
                              try clear c22b0
                              try clear c22b1
                              try clear p23
                              try clear q23
                              try clear hx23
                              try clear qi23
                              try clear c24
                              try clear c25
                              try clear c25b0
                              try clear c25b1
                              try clear c26
                              try clear c26b0
                              try clear c26b1
                              try clear c27
                              try clear c27b0
                              try clear c27b1
                              try clear c28
                              try clear c28b0
                              try clear c28b1
                              try clear p29
                              try clear q29
                              try clear hx29
                              try clear qi29
                              try clear c30
                              try clear c30b0
                              try clear c30b1
                              try clear p14
                              try clear p16
                              try clear p2
                              try clear p23
                              try clear p29
                              try clear p6
                              try clear p7
                              try clear q14
                              try clear q16
                              try clear q23
                              try clear q29
                              try clear q7
                              obtain ⟨kq, x6_23, rfl, HA, HJ23, ⟨mc23, rfl⟩⟩ := hcut
                              cases kq with
                              | zero => exact absurd HA.out (by simp [noriaref11_ParsePoint.j3])
                              | succ kj23 =>
                                have H := HA.out
                                clear HA
                                simp only [noriaref11_ParsePoint.j3] at H
                                by_cases c31 : 0 ≤ x4_2
                                · rw [if_pos c31] at H
                                  have c31b0 := eq_true c31
                                  have c31b1 : decide (0 ≤ x4_2) = true := decide_eq_true c31
                                  clear c31
                                  by_cases c32 : x4_2 ≤ (a0.size : Int)
                                  · rw [if_pos c32] at H
                                    have c32b0 := eq_true c32
                                    have c32b1 : decide (x4_2 ≤ (a0.size : Int)) = true := decide_eq_true c32
                                    clear c32
                                    replace H := Option.bind_eq_some_iff.mp H
                                    obtain ⟨⟨t293, t294⟩, A330, H⟩ := H
                                    replace H : ((noriaref11_ParseNum.f kj23 x6_23).bind fun bt295 => (if t294 = 2 then (noriaref11_ParsePoint.j4 kj23 t293 t294 bt295.1 bt295.2 true) else (noriaref11_ParsePoint.j4 kj23 t293 t294 bt295.1 bt295.2 (bt295.2 == 2)))) = some (r1, r2) := H
                                    have A33 := Aside0.mk A330
                                    clear A330
                                    replace H := Option.bind_eq_some_iff.mp H
                                    obtain ⟨⟨t295, t296⟩, A340, H⟩ := H
                                    replace H : (if t294 = 2 then (noriaref11_ParsePoint.j4 kj23 t293 t294 t295 t296 true) else (noriaref11_ParsePoint.j4 kj23 t293 t294 t295 t296 (t296 == 2))) = some (r1, r2) := H
                                    have A34 := Aside0.mk A340
                                    clear A340
                                    have HC35 := Aside0.mk H
                                    clear H
                                    go_upto_region 18 with (first | (go_at_call 25; (with_reducible refine (noriaref11_ParseNum.calls kj23 (a0.extract 0 (x4_2 : Int).toNat) t293 t294 _ A33.out).mono ?_); rintro e w' ⟨rfl, ⟨nd, rfl⟩⟩) | (go_at_call 25; (with_reducible refine (noriaref11_ParseNum.calls kj23 x6_23 t295 t296 _ A34.out).mono ?_); rintro e w' ⟨rfl, ⟨nd, rfl⟩⟩))
                                    (try simp only [Act.put, List.setIfInBounds_toArray, List.set_cons_zero, List.set_cons_succ])
                                    go_cut [82] (fun v82 wc => ∃ (kq : Nat) (x82_34 : Bool), v82 = .bool x82_34 ∧ Aside0 (noriaref11_ParsePoint.j4 kq t293 t294 t295 t296 x82_34 = some (r1, r2)) ∧ Aside0 (kq ≤ kj23) ∧ Drawn0 w wc)
                                    case first =>
                                      have H := HC35.out
                                      clear HC35
                                      by_cases c36 : t294 = 2
                                      · rw [if_pos c36] at H
                                        have c36b0 : (t294 == 2) = true := beq_iff_eq.mpr c36
                                        have c36b1 : (t294 != 2) = false := bne_eq_false_iff_eq.mpr c36
                                        clear c36
                                        (first | rw [c36b0] | (simp only [i64_w, i32_w]; rw [c36b0]) | skip)
                                        have H' := Aside0.mk H
                                        clear H
                                        go_wp2
                                        go_meet
                                        case rel => exact ⟨_, (true), (by first | rfl | (simp; done) | (simp [*]; done)), H', ⟨by have := HJ1.out; have := HK2.out; have := HJ8.out; have := HJ23.out; first | omega | exact Nat.le_refl _⟩, by repeat (first | exact Drawn0.refl _ | apply Drawn0.step)⟩
                                      · rw [if_neg c36] at H
                                        have c36b0 : (t294 == 2) = false := beq_eq_false_iff_ne.mpr c36
                                        have c36b1 : (t294 != 2) = true := bne_iff_ne.mpr c36
                                        (first | rw [c36b0] | (simp only [i64_w, i32_w]; rw [c36b0]) | skip)
                                        have H' := Aside0.mk H
                                        clear H
                                        go_wp2
                                        go_meet
                                        case rel => exact ⟨_, ((t296 == 2)), (by first | rfl | (simp; done) | (simp [*]; done)), H', ⟨by have := HJ1.out; have := HK2.out; have := HJ8.out; have := HJ23.out; first | omega | exact Nat.le_refl _⟩, by repeat (first | exact Drawn0.refl _ | apply Drawn0.step)⟩
                                    case rest =>
                                      clear HC35
                                      try clear c1
                                      try clear p1
                                      try clear q1
                                      try clear hx1
                                      try clear c2
                                      try clear p2
                                      try clear q2
                                      try clear hx2
                                      try clear qi2
                                      try clear c3
                                      try clear c3b0
                                      try clear c3b1
                                      try clear c5
                                      try clear c5b0
                                      try clear c6
                                      try clear c6b0
                                      try clear p6
                                      try clear p7
                                      try clear q7
                                      try clear hx7
                                      try clear c8
                                      try clear c10
                                      try clear c10b0
                                      try clear c11
                                      try clear c12
                                      try clear c12b0
                                      try clear c13
                                      try clear c13b0
                                      try clear p14
                                      try clear q14
                                      try clear hx14
                                      try clear c15
                                      try clear c15b0
                                      try clear c15b1
                                      try clear p16
                                      try clear q16
                                      try clear hx16
                                      try clear c17
                                      try clear c17b0
                                      try clear c17b1
                                      try clear c18
                                      try clear c18b0
                                      try clear c18b1
                                      try clear c19
                                      try clear c19b0
                                      try clear c19b1
                                      try clear c20
                                      try clear c20b0
                                      try clear c20b1
                                      try clear c21
                                      try clear c21b0
                                      try clear c21b1
                                      try clear c22
                                      try clear c22b0
                                      try clear c22b1
                                      try clear c23
                                      try clear p23
                                      try clear q23
                                      try clear hx23
                                      try clear qi23
                                      try clear c24
                                      try clear c25
                                      try clear c25b0
                                      try clear c25b1
                                      try clear c26
                                      try clear c26b0
                                      try clear c26b1
                                      try clear c27
                                      try clear c27b0
                                      try clear c27b1
                                      try clear c28
                                      try clear c28b0
                                      try clear c28b1
                                      try clear p29
                                      try clear q29
                                      try clear hx29
                                      try clear qi29
                                      try clear c30
                                      try clear c30b0
                                      try clear c30b1
                                      try clear c31
                                      try clear c31b0
                                      try clear c31b1
                                      try clear c32
                                      try clear c32b0
                                      try clear c32b1
                                      try clear c36
                                      try clear c36b0
                                      try clear c36b1
                                      try clear p1
                                      try clear p14
                                      try clear p16
                                      try clear p2
                                      try clear p23
                                      try clear p29
                                      try clear p6
                                      try clear p7
                                      try clear q1
                                      try clear q14
                                      try clear q16
                                      try clear q2
                                      try clear q23
                                      try clear q29
                                      try clear q7
                                      obtain ⟨kq, x82_34, rfl, HA, HJ34, ⟨mc34, rfl⟩⟩ := hcut
                                      cases kq with
                                      | zero => exact absurd HA.out (by simp [noriaref11_ParsePoint.j4])
                                      | succ kj34 =>
                                        have H := HA.out
                                        clear HA
                                        simp only [noriaref11_ParsePoint.j4] at H
                                        by_cases c37 : x82_34 = true
                                        · subst c37
                                          have H1 : (some (((0, 0) : Nat × Nat), 2)) = some (r1, r2) := by rw [if_pos rfl] at H; exact H
                                          clear H
                                          have H := H1
                                          clear H1
                                          simp only [Option.some.injEq, Prod.mk.injEq] at H
                                          obtain ⟨rfl, rfl⟩ := H
                                          go_wp2
                                          go_ret2
                                          exact ⟨by first | rfl | (simp; done) | (simp [*]; done), by repeat (first | exact Drawn0.refl _ | apply Drawn0.step)⟩
                                        · replace c37 := Bool.eq_false_iff.mpr c37
                                          subst c37
                                          have H1 : (if t294 = 0 then (if t296 = 0 then (if t293 < (-1048576) then (some (((0, 0) : Nat × Nat), 1)) else (if t293 > 1048576 then (some (((0, 0) : Nat × Nat), 1)) else (if t295 < (-1048576) then (some (((0, 0) : Nat × Nat), 1)) else (if t295 > 1048576 then (some (((0, 0) : Nat × Nat), 1)) else ((noriaref11_Of.f t293 t295).bind fun t297 => (some (t297, 0))))))) else (some (((0, 0) : Nat × Nat), 1))) else (some (((0, 0) : Nat × Nat), 1))) = some (r1, r2) := by rw [if_neg (show ¬ (false = true) by decide)] at H; exact H
                                          clear H
                                          have H := H1
                                          clear H1
                                          by_cases c38 : t294 = 0
                                          · rw [if_pos c38] at H
                                            have c38b0 : (t294 == 0) = true := beq_iff_eq.mpr c38
                                            have c38b1 : (t294 != 0) = false := bne_eq_false_iff_eq.mpr c38
                                            clear c38
                                            by_cases c39 : t296 = 0
                                            · rw [if_pos c39] at H
                                              have c39b0 : (t296 == 0) = true := beq_iff_eq.mpr c39
                                              have c39b1 : (t296 != 0) = false := bne_eq_false_iff_eq.mpr c39
                                              clear c39
                                              by_cases c40 : t293 < (-1048576)
                                              · rw [if_pos c40] at H
                                                have c40b0 : decide (t293 < (-1048576)) = true := decide_eq_true c40
                                                clear c40
                                                simp only [Option.some.injEq, Prod.mk.injEq] at H
                                                obtain ⟨rfl, rfl⟩ := H
                                                go_wp2
                                                go_ret2
                                                exact ⟨by first | rfl | (simp; done) | (simp [*]; done), by repeat (first | exact Drawn0.refl _ | apply Drawn0.step)⟩
                                              · rw [if_neg c40] at H
                                                have c40b0 : decide (t293 < (-1048576)) = false := decide_eq_false c40
                                                clear c40
                                                by_cases c41 : t293 > 1048576
                                                · rw [if_pos c41] at H
                                                  have c41b0 : decide (1048576 < t293) = true := decide_eq_true c41
                                                  clear c41
                                                  simp only [Option.some.injEq, Prod.mk.injEq] at H
                                                  obtain ⟨rfl, rfl⟩ := H
                                                  go_wp2
                                                  go_ret2
                                                  exact ⟨by first | rfl | (simp; done) | (simp [*]; done), by repeat (first | exact Drawn0.refl _ | apply Drawn0.step)⟩
                                                · rw [if_neg c41] at H
                                                  have c41b0 : decide (1048576 < t293) = false := decide_eq_false c41
                                                  clear c41
                                                  by_cases c42 : t295 < (-1048576)
                                                  · rw [if_pos c42] at H
                                                    have c42b0 : decide (t295 < (-1048576)) = true := decide_eq_true c42
                                                    clear c42
                                                    simp only [Option.some.injEq, Prod.mk.injEq] at H
                                                    obtain ⟨rfl, rfl⟩ := H
                                                    go_wp2
                                                    go_ret2
                                                    exact ⟨by first | rfl | (simp; done) | (simp [*]; done), by repeat (first | exact Drawn0.refl _ | apply Drawn0.step)⟩
                                                  · rw [if_neg c42] at H
                                                    have c42b0 : decide (t295 < (-1048576)) = false := decide_eq_false c42
                                                    clear c42
                                                    by_cases c43 : t295 > 1048576
                                                    · rw [if_pos c43] at H
                                                      have c43b0 : decide (1048576 < t295) = true := decide_eq_true c43
                                                      clear c43
                                                      simp only [Option.some.injEq, Prod.mk.injEq] at H
                                                      obtain ⟨rfl, rfl⟩ := H
                                                      go_wp2
                                                      go_ret2
                                                      exact ⟨by first | rfl | (simp; done) | (simp [*]; done), by repeat (first | exact Drawn0.refl _ | apply Drawn0.step)⟩
                                                    · rw [if_neg c43] at H
                                                      have c43b0 : decide (1048576 < t295) = false := decide_eq_false c43
                                                      clear c43
                                                      replace H := Option.bind_eq_some_iff.mp H
                                                      obtain ⟨t297, A440, H⟩ := H
                                                      replace H : (some (t297, 0)) = some (r1, r2) := H
                                                      have A44 := Aside0.mk A440
                                                      clear A440
                                                      simp only [Option.some.injEq, Prod.mk.injEq] at H
                                                      obtain ⟨rfl, rfl⟩ := H
                                                      go_wp2_with (first | (go_at_call 51; (with_reducible refine (noriaref11_Of.calls t293 t295 t297 _ A44.out).mono ?_); rintro e w' ⟨rfl, ⟨nd, rfl⟩⟩))
                                                      go_ret2
                                                      exact ⟨by first | rfl | (simp; done) | (simp [*]; done), by repeat (first | exact Drawn0.refl _ | apply Drawn0.step)⟩
                                            · rw [if_neg c39] at H
                                              have c39b0 : (t296 == 0) = false := beq_eq_false_iff_ne.mpr c39
                                              have c39b1 : (t296 != 0) = true := bne_iff_ne.mpr c39
                                              simp only [Option.some.injEq, Prod.mk.injEq] at H
                                              obtain ⟨rfl, rfl⟩ := H
                                              go_wp2
                                              go_ret2
                                              exact ⟨by first | rfl | (simp; done) | (simp [*]; done), by repeat (first | exact Drawn0.refl _ | apply Drawn0.step)⟩
                                          · rw [if_neg c38] at H
                                            have c38b0 : (t294 == 0) = false := beq_eq_false_iff_ne.mpr c38
                                            have c38b1 : (t294 != 0) = true := bne_iff_ne.mpr c38
                                            simp only [Option.some.injEq, Prod.mk.injEq] at H
                                            obtain ⟨rfl, rfl⟩ := H
                                            go_wp2
                                            go_ret2
                                            exact ⟨by first | rfl | (simp; done) | (simp [*]; done), by repeat (first | exact Drawn0.refl _ | apply Drawn0.step)⟩
                                  · rw [if_neg c32] at H
                                    exact absurd H (by simp)
                                · rw [if_neg c31] at H
                                  exact absurd H (by simp)
                          · rw [if_neg c22] at H
                            exact absurd H (by simp)
                        · rw [if_neg c21] at H
                          exact absurd H (by simp)
                      · rw [if_neg c20] at H
                        exact absurd H (by simp)
                    · rw [if_neg c19] at H
                      exact absurd H (by simp)

end Go.Proofs.YtaflcaillcjmmaaGreatDoor.PAll
