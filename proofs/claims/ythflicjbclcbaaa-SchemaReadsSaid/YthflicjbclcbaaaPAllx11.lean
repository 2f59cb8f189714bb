-- Printed by this session's own program (wip/tools/pp.py): out of the translation. Lean checks it.
import Derived.Test.YthflicjbclcbaaaPAllx0
namespace Go.Proofs.Ythflicjbclcbaaa.PAll
open Go.Proofs.Ythflicjbclcbaaa.Help
open Go.RowKit Go.Proofs.YthflicjbclcbaaaW.PrintWords Go.Proofs.YthflicjbclcbaaaW.PrintLast Go.Proofs.YthflicjbclcbaaaW.PrintMore
attribute [local go_sem] run_fl_eql run_fl_neq run_fl_lss run_fl_leq run_fl_gtr run_fl_geq unary_fl_neg run_cx_eql run_cx_neq run_cx_make run_cx_real run_cx_imag run_fl_of run_fl_to run_fl_add run_fl_sub run_fl_mul run_cx_add run_cx_sub run_cx_store run_fl_store cell_put3_0 cell_put3_1 cell_put4_0 cell_put4_1 max2_int min2_int max_two min_two max_three min_three max_four min_four   -- for this text's walks alone
set_option linter.unusedVariables false
set_option linter.unusedSimpArgs false

/-! ### noriaref11_Get: function 21 -/
mutual
def noriaref11_Get.j0 : Nat → List Int → Int → Bool → Option (Int × Int × Int)
 | 0, _, _, _ => none
 | k + 1, x0, x1, x17 => if x17 = true then (some (0, 0, 1)) else (noriaref11_Get.l0 k x0 x1 0 0)
def noriaref11_Get.l0 : Nat → List Int → Int → Int → Int → Option (Int × Int × Int)
 | 0, _, _, _, _ => none
 | k + 1, x0, x1, x7, x8 => if x8 < 10 then (if (wrap64 ((x0.length : Int) - x1)) ≤ x8 then (some (0, 0, 5)) else (if 0 ≤ (wrap64 (x1 + x8)) then (if (wrap64 (x1 + x8)) < (x0.length : Int) then (if x8 = 9 then (if (rd x0 (wrap64 (x1 + x8))) > 1 then (noriaref11_Get.j2 k x0 x1 x7 x8 (rd x0 (wrap64 (x1 + x8))) true) else (if x8 > 0 then (noriaref11_Get.j2 k x0 x1 x7 x8 (rd x0 (wrap64 (x1 + x8))) ((rd x0 (wrap64 (x1 + x8))) == 0)) else (noriaref11_Get.j2 k x0 x1 x7 x8 (rd x0 (wrap64 (x1 + x8))) false))) else (if x8 > 0 then (noriaref11_Get.j2 k x0 x1 x7 x8 (rd x0 (wrap64 (x1 + x8))) ((rd x0 (wrap64 (x1 + x8))) == 0)) else (noriaref11_Get.j2 k x0 x1 x7 x8 (rd x0 (wrap64 (x1 + x8))) false))) else (none)) else (none))) else (some (0, 0, 2))
def noriaref11_Get.j2 : Nat → List Int → Int → Int → Int → Int → Bool → Option (Int × Int × Int)
 | 0, _, _, _, _, _, _ => none
 | k + 1, x0, x1, x7, x8, x9, x47 => if x47 = true then (some (0, 0, 2)) else (if 0 ≤ (IntKind.u64.wrap (wrap64 (7 * x8))) then (if x9 < 128 then (some (Go.bits .or .u64 x7 (shl .u64 (IntKind.u64.wrap (Go.bits .and .u8 x9 127)) (IntKind.u64.wrap (wrap64 (7 * x8)))), wrap64 (x8 + 1), 0)) else (noriaref11_Get.l0 k x0 x1 (Go.bits .or .u64 x7 (shl .u64 (IntKind.u64.wrap (Go.bits .and .u8 x9 127)) (IntKind.u64.wrap (wrap64 (7 * x8))))) (wrap64 (x8 + 1)))) else (none))
end
def noriaref11_Get.f (k : Nat) (l0 : List Int) (a1 : Int) : Option (Int × Int × Int) := if a1 < 0 then (noriaref11_Get.j0 k l0 a1 true) else (noriaref11_Get.j0 k l0 a1 (decide (a1 > (l0.length : Int))))
theorem noriaref11_Get.mono_l : ∀ k, (∀ y0 y1 y2, LeO (noriaref11_Get.j0 k y0 y1 y2) (noriaref11_Get.j0 (k + 1) y0 y1 y2)) ∧ (∀ y0 y1 y2 y3, LeO (noriaref11_Get.l0 k y0 y1 y2 y3) (noriaref11_Get.l0 (k + 1) y0 y1 y2 y3)) ∧ (∀ y0 y1 y2 y3 y4 y5, LeO (noriaref11_Get.j2 k y0 y1 y2 y3 y4 y5) (noriaref11_Get.j2 (k + 1) y0 y1 y2 y3 y4 y5))
 | 0 => ⟨fun _ _ _ r h => by simp [noriaref11_Get.j0] at h, fun _ _ _ _ r h => by simp [noriaref11_Get.l0] at h, fun _ _ _ _ _ _ r h => by simp [noriaref11_Get.j2] at h⟩
 | k + 1 => by
  obtain ⟨ih0, ih1, ih2⟩ := noriaref11_Get.mono_l k
  refine ⟨?_, ?_, ?_⟩
  ·intro y0 y1 y2
   unfold noriaref11_Get.j0
   repeat' first
   | (with_reducible exact ih0 _ _ _)
   | (with_reducible exact ih1 _ _ _ _)
   | (with_reducible exact ih2 _ _ _ _ _ _)
   | (with_reducible exact LeO.refl _)
   | (with_reducible exact LeO.none _)
   | (with_reducible refine LeO.ite ?_ ?_)
   | (with_reducible refine LeO.bind ?_ (fun _ => ?_))
   | exact ih0 _ _ _
   | exact ih1 _ _ _ _
   | exact ih2 _ _ _ _ _ _
   | exact LeO.none _
   | refine LeO.ite ?_ ?_
   | refine LeO.bind ?_ (fun _ => ?_)
  ·intro y0 y1 y2 y3
   unfold noriaref11_Get.l0
   repeat' first
   | (with_reducible exact ih0 _ _ _)
   | (with_reducible exact ih1 _ _ _ _)
   | (with_reducible exact ih2 _ _ _ _ _ _)
   | (with_reducible exact LeO.refl _)
   | (with_reducible exact LeO.none _)
   | (with_reducible refine LeO.ite ?_ ?_)
   | (with_reducible refine LeO.bind ?_ (fun _ => ?_))
   | exact ih0 _ _ _
   | exact ih1 _ _ _ _
   | exact ih2 _ _ _ _ _ _
   | exact LeO.none _
   | refine LeO.ite ?_ ?_
   | refine LeO.bind ?_ (fun _ => ?_)
  ·intro y0 y1 y2 y3 y4 y5
   unfold noriaref11_Get.j2
   repeat' first
   | (with_reducible exact ih0 _ _ _)
   | (with_reducible exact ih1 _ _ _ _)
   | (with_reducible exact ih2 _ _ _ _ _ _)
   | (with_reducible exact LeO.refl _)
   | (with_reducible exact LeO.none _)
   | (with_reducible refine LeO.ite ?_ ?_)
   | (with_reducible refine LeO.bind ?_ (fun _ => ?_))
   | exact ih0 _ _ _
   | exact ih1 _ _ _ _
   | exact ih2 _ _ _ _ _ _
   | exact LeO.none _
   | refine LeO.ite ?_ ?_
   | refine LeO.bind ?_ (fun _ => ?_)
theorem noriaref11_Get.mono : ∀ a0 a1 k, LeO (noriaref11_Get.f k a0 a1) (noriaref11_Get.f (k + 1) a0 a1) := by
 intro a0 a1 k
 obtain ⟨ih0, ih1, ih2⟩ := noriaref11_Get.mono_l k
 unfold noriaref11_Get.f
 repeat' first
   | (with_reducible exact ih0 _ _ _)
   | (with_reducible exact ih1 _ _ _ _)
   | (with_reducible exact ih2 _ _ _ _ _ _)
   | (with_reducible exact LeO.refl _)
   | (with_reducible exact LeO.none _)
   | (with_reducible refine LeO.ite ?_ ?_)
   | (with_reducible refine LeO.bind ?_ (fun _ => ?_))
   | exact ih0 _ _ _
   | exact ih1 _ _ _ _
   | exact ih2 _ _ _ _ _ _
   | exact LeO.none _
   | refine LeO.ite ?_ ?_
   | refine LeO.bind ?_ (fun _ => ?_)
set_option maxHeartbeats 8000000 in
set_option maxRecDepth 100000 in
theorem noriaref11_Get.calls (k : Nat) (A0 : Option Addr) (c0 : Nat) (l0 : List Int) (a1 : Int) (r1 : Int) (r2 : Int) (r3 : Int) (w : World) (hr0 : Kd.C (Kd.int .u8) w A0 l0.length l0) (hc0 : l0.length ≤ c0) (h : noriaref11_Get.f k l0 a1 = some (r1, r2, r3)) :
  Calls Try.prog 21 #[.slice A0 l0.length c0, .int .i64 a1] w fun e w' => e = .returned (.tuple #[.int .u64 r1, .int .i64 r2, .int .i64 r3]) ∧ Drawn0 w w' := by
 have HR0 := Aside0.mk hr0
 have HC0 := Aside0.mk hc0
 clear hr0 hc0
 have H : (if a1 < 0 then (noriaref11_Get.j0 k l0 a1 true) else (noriaref11_Get.j0 k l0 a1 (decide (a1 > (l0.length : Int))))) = some (r1, r2, r3) := h
 clear h
 have HC3 := Aside0.mk H
 clear H
 go_enter Try.func21, Try.ntmps21
 go_upto_region 1 with (fail)
 go_cut [17] (fun v17 wc => ∃ (kq : Nat) (x17_2 : Bool), v17 = .bool x17_2 ∧ Aside0 (noriaref11_Get.j0 kq l0 a1 x17_2 = some (r1, r2, r3)) ∧ Aside0 (kq ≤ k) ∧ Drawn0 w wc)
 case first =>
  have H := HC3.out
  clear HC3
  by_cases c4 : a1 < 0
  ·rw [if_pos c4] at H
   have c4b0 : decide (a1 < 0) = true := decide_eq_true c4
   clear c4
   (first | rw [c4b0] | (simp only [i64_w, i32_w]; rw [c4b0]) | skip)
   have H' := Aside0.mk H
   clear H
   go_wp2
   go_meet
   case rel => exact ⟨_, (true), (by first | rfl | (simp; done) | (simp [*]; done)), H', ⟨by first | omega | exact Nat.le_refl _⟩, by repeat (first | exact Drawn0.refl _ | apply Drawn0.step)⟩
  ·rw [if_neg c4] at H
   have c4b0 : decide (a1 < 0) = false := decide_eq_false c4
   clear c4
   (first | rw [c4b0] | (simp only [i64_w, i32_w]; rw [c4b0]) | skip)
   have H' := Aside0.mk H
   clear H
   go_wp2
   go_meet
   case rel => exact ⟨_, (decide (a1 > (l0.length : Int))), (by first | rfl | (simp; done) | (simp [*]; done)), H', ⟨by first | omega | exact Nat.le_refl _⟩, by repeat (first | exact Drawn0.refl _ | apply Drawn0.step)⟩
 case rest =>
  clear HC3
  try clear c2
  try clear p2
  try clear c4
  try clear c4b0
  obtain ⟨kq, x17_2, rfl, HA, HJ2, ⟨mc2, rfl⟩⟩ := hcut
  cases kq with
  | zero => exact absurd HA.out (by simp [noriaref11_Get.j0])
  | succ kj2 =>
   have H := HA.out
   clear HA
   simp only [noriaref11_Get.j0] at H
   by_cases c5 : x17_2 = true
   ·subst c5
    have H1 : (some (0, 0, 1)) = some (r1, r2, r3) := by rw [if_pos rfl] at H; exact H
    clear H
    have H := H1
    clear H1
    simp only [Option.some.injEq, Prod.mk.injEq] at H
    obtain ⟨rfl, rfl, rfl⟩ := H
    go_wp2
    go_ret3
    exact ⟨by first | rfl | (simp; done) | (simp [*]; done), by repeat (first | exact Drawn0.refl _ | apply Drawn0.step)⟩
   ·replace c5 := Bool.eq_false_iff.mpr c5
    subst c5
    have H1 : (noriaref11_Get.l0 kj2 l0 a1 0 0) = some (r1, r2, r3) := by rw [if_neg (show ¬ (false = true) by decide)] at H; exact H
    clear H
    have H := H1
    clear H1
    have H' := Aside0.mk H
    clear H
    go_wp2
    go_loopg [7, 8] kj2 (fun kq v7 v8 w' => ∃ (x7_2 : Int) (x8_2 : Int), v7 = .int .u64 x7_2 ∧ v8 = .int .i64 x8_2 ∧ Aside0 (noriaref11_Get.l0 kq l0 a1 x7_2 x8_2 = some (r1, r2, r3)) ∧ Aside0 (kq ≤ kj2) ∧ Drawn0 w w')
    case atStart => exact ⟨(0), (0), (by first | rfl | (simp; done) | (simp [*]; done)), (by first | rfl | (simp; done) | (simp [*]; done)), H', ⟨Nat.le_refl _⟩, by repeat (first | exact Drawn0.refl _ | apply Drawn0.step)⟩
    case round =>
     clear H'
     try clear c2
     try clear p2
     try clear c4
     try clear c4b0
     try clear c5
     try clear p2
     obtain ⟨x7_2, x8_2, rfl, rfl, HA, HK2, ⟨m2, rfl⟩⟩ := hrel
     cases gk with
     | zero => exact absurd HA.out (by simp [noriaref11_Get.l0])
     | succ k2 =>
      have H := HA.out
      clear HA
      simp only [noriaref11_Get.l0] at H
      by_cases c6 : x8_2 < 10
      ·rw [if_pos c6] at H
       have c6b0 : decide (x8_2 < 10) = true := decide_eq_true c6
       clear c6
       by_cases c7 : (wrap64 ((l0.length : Int) - a1)) ≤ x8_2
       ·rw [if_pos c7] at H
        have c7b0 : decide ((wrap64 ((l0.length : Int) - a1)) ≤ x8_2) = true := decide_eq_true c7
        clear c7
        simp only [Option.some.injEq, Prod.mk.injEq] at H
        obtain ⟨rfl, rfl, rfl⟩ := H
        go_wp2
        go_ret3
        exact ⟨by first | rfl | (simp; done) | (simp [*]; done), by repeat (first | exact Drawn0.refl _ | apply Drawn0.step)⟩
       ·rw [if_neg c7] at H
        have c7b0 : decide ((wrap64 ((l0.length : Int) - a1)) ≤ x8_2) = false := decide_eq_false c7
        clear c7
        obtain ⟨ji8, hji8⟩ : ∃ j_ : Int, (wrap64 (a1 + x8_2)) = j_ := ⟨_, rfl⟩
        replace H : (if 0 ≤ (ji8) then (if (ji8) < (l0.length : Int) then (if x8_2 = 9 then (if (rd l0 (ji8)) > 1 then (noriaref11_Get.j2 k2 l0 a1 x7_2 x8_2 (rd l0 (ji8)) true) else (if x8_2 > 0 then (noriaref11_Get.j2 k2 l0 a1 x7_2 x8_2 (rd l0 (ji8)) ((rd l0 (ji8)) == 0)) else (noriaref11_Get.j2 k2 l0 a1 x7_2 x8_2 (rd l0 (ji8)) false))) else (if x8_2 > 0 then (noriaref11_Get.j2 k2 l0 a1 x7_2 x8_2 (rd l0 (ji8)) ((rd l0 (ji8)) == 0)) else (noriaref11_Get.j2 k2 l0 a1 x7_2 x8_2 (rd l0 (ji8)) false))) else (none)) else (none)) = some (r1, r2, r3) := by first | (rw [hji8] at H; exact H) | (simp only [hji8] at H ⊢; exact H)
        have hji8w : (IntKind.i64.wrap (a1 + x8_2)) = ji8 := (i64_w _).trans hji8
        by_cases c9 : 0 ≤ (ji8)
        ·rw [if_pos c9] at H
         have c9b0 : decide (0 ≤ (ji8)) = true := decide_eq_true c9
         clear c9
         by_cases c10 : (ji8) < (l0.length : Int)
         ·rw [if_pos c10] at H
          have c10b0 : decide ((ji8) < (l0.length : Int)) = true := decide_eq_true c10
          clear c10
          have HC11 := Aside0.mk H
          clear H
          have p272 : 0 ≤ ((ji8) : Int) := of_decide_eq_true (by first | (with_reducible assumption) | assumption)
          have q272 : (ji8) < (l0.length : Int) := of_decide_eq_true (by first | (with_reducible assumption) | assumption)
          obtain ⟨ad272, e272, hx272_0⟩ := Kd.at_int HR0.out (ji8) p272 q272
          cases e272
          replace p272 := eq_true p272
          replace q272 := eq_true q272
          go_upto_region 10 with (fail)
          go_cut [47] (fun v47 wc => ∃ (kq : Nat) (x47_10 : Bool), v47 = .bool x47_10 ∧ Aside0 (noriaref11_Get.j2 kq l0 a1 x7_2 x8_2 (rd l0 (ji8)) x47_10 = some (r1, r2, r3)) ∧ Aside0 (kq ≤ k2) ∧ Drawn0 w wc)
          case first =>
           have H := HC11.out
           clear HC11
           by_cases c12 : x8_2 = 9
           ·rw [if_pos c12] at H
            have c12b0 : (x8_2 == 9) = true := beq_iff_eq.mpr c12
            have c12b1 : (x8_2 != 9) = false := bne_eq_false_iff_eq.mpr c12
            clear c12
            (first | rw [c12b0] | (simp only [i64_w, i32_w]; rw [c12b0]) | skip)
            by_cases c13 : (rd l0 (ji8)) > 1
            ·rw [if_pos c13] at H
             have c13b0 : decide (1 < (rd l0 (ji8))) = true := decide_eq_true c13
             clear c13
             have H' := Aside0.mk H
             clear H
             go_wp2
             go_meet
             case rel => exact ⟨_, (true), (by first | rfl | (simp; done) | (simp [*]; done)), H', ⟨by have := HJ2.out; have := HK2.out; first | omega | exact Nat.le_refl _⟩, by repeat (first | exact Drawn0.refl _ | apply Drawn0.step)⟩
            ·rw [if_neg c13] at H
             have c13b0 : decide (1 < (rd l0 (ji8))) = false := decide_eq_false c13
             clear c13
             by_cases c14 : x8_2 > 0
             ·rw [if_pos c14] at H
              have c14b0 : decide (0 < x8_2) = true := decide_eq_true c14
              clear c14
              have H' := Aside0.mk H
              clear H
              go_wp2
              go_meet
              case rel => exact ⟨_, (((rd l0 (ji8)) == 0)), (by first | rfl | (simp; done) | (simp only [← hji8] <;> (first | rfl | simp)) | (simp [*]; done)), H', ⟨by have := HJ2.out; have := HK2.out; first | omega | exact Nat.le_refl _⟩, by repeat (first | exact Drawn0.refl _ | apply Drawn0.step)⟩
             ·rw [if_neg c14] at H
              have c14b0 : decide (0 < x8_2) = false := decide_eq_false c14
              clear c14
              have H' := Aside0.mk H
              clear H
              go_wp2
              go_meet
              case rel => exact ⟨_, (false), (by first | rfl | (simp; done) | (simp [*]; done)), H', ⟨by have := HJ2.out; have := HK2.out; first | omega | exact Nat.le_refl _⟩, by repeat (first | exact Drawn0.refl _ | apply Drawn0.step)⟩
           ·rw [if_neg c12] at H
            have c12b0 : (x8_2 == 9) = false := beq_eq_false_iff_ne.mpr c12
            have c12b1 : (x8_2 != 9) = true := bne_iff_ne.mpr c12
            (first | rw [c12b0] | (simp only [i64_w, i32_w]; rw [c12b0]) | skip)
            by_cases c15 : x8_2 > 0
            ·rw [if_pos c15] at H
             have c15b0 : decide (0 < x8_2) = true := decide_eq_true c15
             clear c15
             have H' := Aside0.mk H
             clear H
             go_wp2
             go_meet
             case rel => exact ⟨_, (((rd l0 (ji8)) == 0)), (by first | rfl | (simp; done) | (simp only [← hji8] <;> (first | rfl | simp)) | (simp [*]; done)), H', ⟨by have := HJ2.out; have := HK2.out; first | omega | exact Nat.le_refl _⟩, by repeat (first | exact Drawn0.refl _ | apply Drawn0.step)⟩
            ·rw [if_neg c15] at H
             have c15b0 : decide (0 < x8_2) = false := decide_eq_false c15
             clear c15
             have H' := Aside0.mk H
             clear H
             go_wp2
             go_meet
             case rel => exact ⟨_, (false), (by first | rfl | (simp; done) | (simp [*]; done)), H', ⟨by have := HJ2.out; have := HK2.out; first | omega | exact Nat.le_refl _⟩, by repeat (first | exact Drawn0.refl _ | apply Drawn0.step)⟩
          case rest =>
           clear HC11
           try clear c1
           try clear c2
           try clear p2
           try clear q2
           try clear hx2
           try clear c4
           try clear c4b0
           try clear c5
           try clear c6
           try clear c6b0
           try clear p6
           try clear c7
           try clear c7b0
           try clear c9
           try clear c9b0
           try clear c10
           try clear c10b0
           try clear c12
           try clear c12b0
           try clear c12b1
           try clear c13
           try clear c13b0
           try clear c14
           try clear c14b0
           try clear c15
           try clear c15b0
           try clear hx272_0
           try clear p2
           try clear p272
           try clear q272
           obtain ⟨kq, x47_10, rfl, HA, HJ10, ⟨mc10, rfl⟩⟩ := hcut
           cases kq with
           | zero => exact absurd HA.out (by simp [noriaref11_Get.j2])
           | succ kj10 =>
            have H := HA.out
            clear HA
            simp only [noriaref11_Get.j2] at H
            by_cases c16 : x47_10 = true
            ·subst c16
             have H1 : (some (0, 0, 2)) = some (r1, r2, r3) := by rw [if_pos rfl] at H; exact H
             clear H
             have H := H1
             clear H1
             simp only [Option.some.injEq, Prod.mk.injEq] at H
             obtain ⟨rfl, rfl, rfl⟩ := H
             go_wp2
             go_ret3
             exact ⟨by first | rfl | (simp; done) | (simp only [← hji8] <;> (first | rfl | simp)) | (simp [*]; done), by repeat (first | exact Drawn0.refl _ | apply Drawn0.step)⟩
            ·replace c16 := Bool.eq_false_iff.mpr c16
             subst c16
             have H1 : (if 0 ≤ (IntKind.u64.wrap (wrap64 (7 * x8_2))) then (if (rd l0 (ji8)) < 128 then (some (Go.bits .or .u64 x7_2 (shl .u64 (IntKind.u64.wrap (Go.bits .and .u8 (rd l0 (ji8)) 127)) (IntKind.u64.wrap (wrap64 (7 * x8_2)))), wrap64 (x8_2 + 1), 0)) else (noriaref11_Get.l0 kj10 l0 a1 (Go.bits .or .u64 x7_2 (shl .u64 (IntKind.u64.wrap (Go.bits .and .u8 (rd l0 (ji8)) 127)) (IntKind.u64.wrap (wrap64 (7 * x8_2))))) (wrap64 (x8_2 + 1)))) else (none)) = some (r1, r2, r3) := by rw [if_neg (show ¬ (false = true) by decide)] at H; exact H
             clear H
             have H := H1
             clear H1
             obtain ⟨ji17, hji17⟩ : ∃ j_ : Int, (IntKind.u64.wrap (wrap64 (7 * x8_2))) = j_ := ⟨_, rfl⟩
             replace H : (if 0 ≤ (ji17) then (if (rd l0 (ji8)) < 128 then (some (Go.bits .or .u64 x7_2 (shl .u64 (IntKind.u64.wrap (Go.bits .and .u8 (rd l0 (ji8)) 127)) (ji17)), wrap64 (x8_2 + 1), 0)) else (noriaref11_Get.l0 kj10 l0 a1 (Go.bits .or .u64 x7_2 (shl .u64 (IntKind.u64.wrap (Go.bits .and .u8 (rd l0 (ji8)) 127)) (ji17))) (wrap64 (x8_2 + 1)))) else (none)) = some (r1, r2, r3) := by first | (rw [hji17] at H; exact H) | (simp only [hji17] at H ⊢; exact H)
             by_cases c18 : 0 ≤ (ji17)
             ·rw [if_pos c18] at H
              have c18b0 := eq_true c18
              have c18b1 : decide (0 ≤ (ji17)) = true := decide_eq_true c18
              clear c18
              obtain ⟨ji19, hji19⟩ : ∃ j_ : Int, (shl .u64 (IntKind.u64.wrap (Go.bits .and .u8 (rd l0 (ji8)) 127)) (ji17)) = j_ := ⟨_, rfl⟩
              replace H : (if (rd l0 (ji8)) < 128 then (some (Go.bits .or .u64 x7_2 (ji19), wrap64 (x8_2 + 1), 0)) else (noriaref11_Get.l0 kj10 l0 a1 (Go.bits .or .u64 x7_2 (ji19)) (wrap64 (x8_2 + 1)))) = some (r1, r2, r3) := by first | (rw [hji19] at H; exact H) | (simp only [hji19] at H ⊢; exact H)
              have hji19_ : (IntKind.u64.wrap ((IntKind.u64.wrap (Go.bits .and .u8 (rd l0 (ji8)) 127)) * 2 ^ min (ji17).toNat 64)) = ji19 := hji19
              have hji19z : (ji17) ≤ 64 → (IntKind.u64.wrap ((IntKind.u64.wrap (Go.bits .and .u8 (rd l0 (ji8)) 127)) * 2 ^ (ji17).toNat)) = ji19 := shl_small hji19
              by_cases c20 : (rd l0 (ji8)) < 128
              ·rw [if_pos c20] at H
               have c20b0 : decide ((rd l0 (ji8)) < 128) = true := decide_eq_true c20
               clear c20
               simp only [Option.some.injEq, Prod.mk.injEq] at H
               obtain ⟨rfl, rfl, rfl⟩ := H
               go_wp2
               go_ret3
               exact ⟨by first | rfl | (simp; done) | (simp only [← hji8, ← hji17, ← hji19] <;> (first | rfl | simp)) | (simp [*]; done), by repeat (first | exact Drawn0.refl _ | apply Drawn0.step)⟩
              ·rw [if_neg c20] at H
               have c20b0 : decide ((rd l0 (ji8)) < 128) = false := decide_eq_false c20
               clear c20
               have H' := Aside0.mk H
               clear H
               go_wp2
               first | go_roundg kj10 | (simp only [← hji8, ← hji17, ← hji19] at H' ⊢; go_roundg kj10)
               case measure => have := HJ2.out; have := HK2.out; have := HJ10.out; omega
               case rel => exact ⟨(Go.bits .or .u64 x7_2 (ji19)), (wrap64 (x8_2 + 1)), (by first | rfl | (simp; done) | (simp only [← hji19] <;> (first | rfl | simp)) | (simp [*]; done)), (by first | rfl | (simp; done) | (simp [*]; done)), H', ⟨by have := HJ2.out; have := HK2.out; have := HJ10.out; omega⟩, by repeat (first | exact Drawn0.refl _ | apply Drawn0.step)⟩
             ·rw [if_neg c18] at H
              exact absurd H (by simp)
         ·rw [if_neg c10] at H
          exact absurd H (by simp)
        ·rw [if_neg c9] at H
         exact absurd H (by simp)
      ·rw [if_neg c6] at H
       have c6b0 : decide (x8_2 < 10) = false := decide_eq_false c6
       clear c6
       simp only [Option.some.injEq, Prod.mk.injEq] at H
       obtain ⟨rfl, rfl, rfl⟩ := H
       go_wp2
       go_ret3
       exact ⟨by first | rfl | (simp; done) | (simp [*]; done), by repeat (first | exact Drawn0.refl _ | apply Drawn0.step)⟩

/-! ### noriaref11_GetWord: function 22 -/
def noriaref11_GetWord.f (k : Nat) (l0 : List Int) (a1 : Int) (a2 : Int) : Option (ByteArray × Int × Int) := (noriaref11_Get.f k l0 a1).bind fun bt273 => (if bt273.2.2 = 0 then (if bt273.1 > a2 then (some ((⟨#[]⟩ : ByteArray), 0, 4)) else (if (IntKind.u64.wrap (wrap64 ((wrap64 ((l0.length : Int) - a1)) - bt273.2.1))) < bt273.1 then (some ((⟨#[]⟩ : ByteArray), 0, 5)) else (if 0 ≤ (wrap64 (a1 + bt273.2.1)) then (if (wrap64 (a1 + bt273.2.1)) ≤ (wrap64 ((wrap64 (a1 + bt273.2.1)) + (wrap64 (bt273.1)))) then (if (wrap64 ((wrap64 (a1 + bt273.2.1)) + (wrap64 (bt273.1)))) ≤ (l0.length : Int) then (some (strOfNums ((l0.take ((wrap64 ((wrap64 (a1 + bt273.2.1)) + (wrap64 (bt273.1)))) : Int).toNat).drop ((wrap64 (a1 + bt273.2.1)) : Int).toNat), wrap64 (bt273.2.1 + (wrap64 (bt273.1))), 0)) else (none)) else (none)) else (none)))) else (some ((⟨#[]⟩ : ByteArray), 0, bt273.2.2)))
theorem noriaref11_GetWord.mono : ∀ a0 a1 a2 k, LeO (noriaref11_GetWord.f k a0 a1 a2) (noriaref11_GetWord.f (k + 1) a0 a1 a2) := by
 intro a0 a1 a2 k
 unfold noriaref11_GetWord.f
 repeat' first
   | (with_reducible exact noriaref11_Get.mono _ _ _)
   | (with_reducible exact LeO.refl _)
   | (with_reducible exact LeO.none _)
   | (with_reducible refine LeO.ite ?_ ?_)
   | (with_reducible refine LeO.bind ?_ (fun _ => ?_))
   | exact noriaref11_Get.mono _ _ _
   | exact LeO.none _
   | refine LeO.ite ?_ ?_
   | refine LeO.bind ?_ (fun _ => ?_)
set_option maxHeartbeats 8000000 in
set_option maxRecDepth 100000 in
theorem noriaref11_GetWord.calls (k : Nat) (A0 : Option Addr) (c0 : Nat) (l0 : List Int) (a1 : Int) (a2 : Int) (r1 : ByteArray) (r2 : Int) (r3 : Int) (w : World) (hr0 : Kd.C (Kd.int .u8) w A0 l0.length l0) (hc0 : l0.length ≤ c0) (h : noriaref11_GetWord.f k l0 a1 a2 = some (r1, r2, r3)) :
  Calls Try.prog 22 #[.slice A0 l0.length c0, .int .i64 a1, .int .u64 a2] w fun e w' => e = .returned (.tuple #[.string r1, .int .i64 r2, .int .i64 r3]) ∧ Drawn0 w w' := by
 have HR0 := Aside0.mk hr0
 have HC0 := Aside0.mk hc0
 clear hr0 hc0
 have H : ((noriaref11_Get.f k l0 a1).bind fun bt273 => (if bt273.2.2 = 0 then (if bt273.1 > a2 then (some ((⟨#[]⟩ : ByteArray), 0, 4)) else (if (IntKind.u64.wrap (wrap64 ((wrap64 ((l0.length : Int) - a1)) - bt273.2.1))) < bt273.1 then (some ((⟨#[]⟩ : ByteArray), 0, 5)) else (if 0 ≤ (wrap64 (a1 + bt273.2.1)) then (if (wrap64 (a1 + bt273.2.1)) ≤ (wrap64 ((wrap64 (a1 + bt273.2.1)) + (wrap64 (bt273.1)))) then (if (wrap64 ((wrap64 (a1 + bt273.2.1)) + (wrap64 (bt273.1)))) ≤ (l0.length : Int) then (some (strOfNums ((l0.take ((wrap64 ((wrap64 (a1 + bt273.2.1)) + (wrap64 (bt273.1)))) : Int).toNat).drop ((wrap64 (a1 + bt273.2.1)) : Int).toNat), wrap64 (bt273.2.1 + (wrap64 (bt273.1))), 0)) else (none)) else (none)) else (none)))) else (some ((⟨#[]⟩ : ByteArray), 0, bt273.2.2)))) = some (r1, r2, r3) := h
 clear h
 replace H := Option.bind_eq_some_iff.mp H
 obtain ⟨⟨t273, t274, t275⟩, A40, H⟩ := H
 replace H : (if t275 = 0 then (if t273 > a2 then (some ((⟨#[]⟩ : ByteArray), 0, 4)) else (if (IntKind.u64.wrap (wrap64 ((wrap64 ((l0.length : Int) - a1)) - t274))) < t273 then (some ((⟨#[]⟩ : ByteArray), 0, 5)) else (if 0 ≤ (wrap64 (a1 + t274)) then (if (wrap64 (a1 + t274)) ≤ (wrap64 ((wrap64 (a1 + t274)) + (wrap64 (t273)))) then (if (wrap64 ((wrap64 (a1 + t274)) + (wrap64 (t273)))) ≤ (l0.length : Int) then (some (strOfNums ((l0.take ((wrap64 ((wrap64 (a1 + t274)) + (wrap64 (t273)))) : Int).toNat).drop ((wrap64 (a1 + t274)) : Int).toNat), wrap64 (t274 + (wrap64 (t273))), 0)) else (none)) else (none)) else (none)))) else (some ((⟨#[]⟩ : ByteArray), 0, t275))) = some (r1, r2, r3) := H
 have A4 := Aside0.mk A40
 clear A40
 by_cases c5 : t275 = 0
 ·rw [if_pos c5] at H
  have c5b0 : (t275 == 0) = true := beq_iff_eq.mpr c5
  have c5b1 : (t275 != 0) = false := bne_eq_false_iff_eq.mpr c5
  clear c5
  by_cases c6 : t273 > a2
  ·rw [if_pos c6] at H
   have c6b0 : decide (a2 < t273) = true := decide_eq_true c6
   clear c6
   simp only [Option.some.injEq, Prod.mk.injEq] at H
   obtain ⟨rfl, rfl, rfl⟩ := H
   go_enter Try.func22, Try.ntmps22
   go_wp2_with (first | (go_at_call 21; (with_reducible refine (noriaref11_Get.calls k _ _ l0 a1 t273 t274 t275 _ ?side1 ?side2 A4.out).mono ?_); (case side1 => repeat (first | exact HR0.out | (with_reducible refine Kd.C_alloc ?_ _) | (with_reducible refine Kd.C_drewN ?_ _) | (with_reducible refine Kd.C_drew ?_))); (case side2 => exact HC0.out); rintro e w' ⟨rfl, ⟨nd, rfl⟩⟩))
   go_ret3
   exact ⟨by first | rfl | (simp; done) | (simp [*]; done), by repeat (first | exact Drawn0.refl _ | apply Drawn0.step)⟩
  ·rw [if_neg c6] at H
   have c6b0 : decide (a2 < t273) = false := decide_eq_false c6
   clear c6
   by_cases c7 : (IntKind.u64.wrap (wrap64 ((wrap64 ((l0.length : Int) - a1)) - t274))) < t273
   ·rw [if_pos c7] at H
    have c7b0 : decide ((IntKind.u64.wrap (wrap64 ((wrap64 ((l0.length : Int) - a1)) - t274))) < t273) = true := decide_eq_true c7
    clear c7
    simp only [Option.some.injEq, Prod.mk.injEq] at H
    obtain ⟨rfl, rfl, rfl⟩ := H
    go_enter Try.func22, Try.ntmps22
    go_wp2_with (first | (go_at_call 21; (with_reducible refine (noriaref11_Get.calls k _ _ l0 a1 t273 t274 t275 _ ?side1 ?side2 A4.out).mono ?_); (case side1 => repeat (first | exact HR0.out | (with_reducible refine Kd.C_alloc ?_ _) | (with_reducible refine Kd.C_drewN ?_ _) | (with_reducible refine Kd.C_drew ?_))); (case side2 => exact HC0.out); rintro e w' ⟨rfl, ⟨nd, rfl⟩⟩))
    go_ret3
    exact ⟨by first | rfl | (simp; done) | (simp [*]; done), by repeat (first | exact Drawn0.refl _ | apply Drawn0.step)⟩
   ·rw [if_neg c7] at H
    have c7b0 : decide ((IntKind.u64.wrap (wrap64 ((wrap64 ((l0.length : Int) - a1)) - t274))) < t273) = false := decide_eq_false c7
    clear c7
    obtain ⟨ji8, hji8⟩ : ∃ j_ : Int, (wrap64 (a1 + t274)) = j_ := ⟨_, rfl⟩
    replace H : (if 0 ≤ (ji8) then (if (ji8) ≤ (wrap64 ((ji8) + (wrap64 (t273)))) then (if (wrap64 ((ji8) + (wrap64 (t273)))) ≤ (l0.length : Int) then (some (strOfNums ((l0.take ((wrap64 ((ji8) + (wrap64 (t273)))) : Int).toNat).drop ((ji8) : Int).toNat), wrap64 (t274 + (wrap64 (t273))), 0)) else (none)) else (none)) else (none)) = some (r1, r2, r3) := by first | (rw [hji8] at H; exact H) | (simp only [hji8] at H ⊢; exact H)
    (try rw [hji8] at A4)
    have hji8w : (IntKind.i64.wrap (a1 + t274)) = ji8 := (i64_w _).trans hji8
    by_cases c9 : 0 ≤ (ji8)
    ·rw [if_pos c9] at H
     have c9b0 := eq_true c9
     have c9b1 : decide (0 ≤ (ji8)) = true := decide_eq_true c9
     clear c9
     by_cases c10 : (ji8) ≤ (wrap64 ((ji8) + (wrap64 (t273))))
     ·rw [if_pos c10] at H
      have c10b0 := eq_true c10
      have c10b1 : decide ((ji8) ≤ (wrap64 ((ji8) + (wrap64 (t273))))) = true := decide_eq_true c10
      by_cases c11 : (wrap64 ((ji8) + (wrap64 (t273)))) ≤ (l0.length : Int)
      ·rw [if_pos c11] at H
       have c11b0 := eq_true c11
       have c11b1 : decide ((wrap64 ((ji8) + (wrap64 (t273)))) ≤ (l0.length : Int)) = true := decide_eq_true c11
       simp only [Option.some.injEq, Prod.mk.injEq] at H
       obtain ⟨rfl, rfl, rfl⟩ := H
       go_enter Try.func22, Try.ntmps22
       go_wp2_with (first | (go_at_call 21; (with_reducible refine (noriaref11_Get.calls k _ _ l0 a1 t273 t274 t275 _ ?side1 ?side2 A4.out).mono ?_); (case side1 => repeat (first | exact HR0.out | (with_reducible refine Kd.C_alloc ?_ _) | (with_reducible refine Kd.C_drewN ?_ _) | (with_reducible refine Kd.C_drew ?_))); (case side2 => exact HC0.out); rintro e w' ⟨rfl, ⟨nd, rfl⟩⟩; obtain ⟨i012, hi012, _, hsz12, _⟩ := info_parts info5; obtain ⟨A12, hcut12, hA12, hC12⟩ := print_mid_of (P := Try.prog) (Value.int .u8) 0 22 5 .i64 .i64 Try.underlying22 hi012 hsz12 A0 c0 l0 (ji8) (wrap64 ((ji8) + (wrap64 (t273)))) (of_decide_eq_true (by first | (with_reducible assumption) | assumption)) (by first | omega | exact of_decide_eq_true (by first | (with_reducible assumption) | assumption)) (of_decide_eq_true (by first | (with_reducible assumption) | assumption)) HC0.out; have HR276 := Aside0.mk (Kd.C_of_reads (h1 := fun _ => rfl) (hA12 _ (Kd.reads_of_C HR0.out))); have HC276 := Aside0.mk hC12; clear hA12 hC12 hi012 hsz12; have hcv13 := fun nd_ => Kd.C_string (P := Try.prog) (A := A12) (c := (c0 - (ji8).toNat)) Try.underlying22 Try.underlying5 Try.underlying9 (Kd.C_drewN HR276.out nd_); have hl_ : (List.drop (ji8).toNat (List.take (wrap64 ((ji8) + (wrap64 (t273)))).toNat l0)).length = (wrap64 ((ji8) + (wrap64 (t273)))).toNat - (ji8).toNat := (by rw [List.length_drop, List.length_take]; omega); rw [hl_] at hcut12; rw [hl_] at hcv13))
       go_ret3
       exact ⟨by first | rfl | (simp; done) | (simp only [← hji8] <;> (first | rfl | simp)) | (simp [*]; done), by repeat (first | exact Drawn0.refl _ | apply Drawn0.step)⟩
      ·rw [if_neg c11] at H
       exact absurd H (by simp)
     ·rw [if_neg c10] at H
      exact absurd H (by simp)
    ·rw [if_neg c9] at H
     exact absurd H (by simp)
 ·rw [if_neg c5] at H
  have c5b0 : (t275 == 0) = false := beq_eq_false_iff_ne.mpr c5
  have c5b1 : (t275 != 0) = true := bne_iff_ne.mpr c5
  simp only [Option.some.injEq, Prod.mk.injEq] at H
  obtain ⟨rfl, rfl, rfl⟩ := H
  go_enter Try.func22, Try.ntmps22
  go_wp2_with (first | (go_at_call 21; (with_reducible refine (noriaref11_Get.calls k _ _ l0 a1 t273 t274 t275 _ ?side1 ?side2 A4.out).mono ?_); (case side1 => repeat (first | exact HR0.out | (with_reducible refine Kd.C_alloc ?_ _) | (with_reducible refine Kd.C_drewN ?_ _) | (with_reducible refine Kd.C_drew ?_))); (case side2 => exact HC0.out); rintro e w' ⟨rfl, ⟨nd, rfl⟩⟩))
  go_ret3
  exact ⟨by first | rfl | (simp; done) | (simp [*]; done), by repeat (first | exact Drawn0.refl _ | apply Drawn0.step)⟩

/-! ### noriaref11_GoodName: function 30 -/
mutual
def noriaref11_GoodName.j0 : Nat → ByteArray → Bool → Option (Bool)
 | 0, _, _ => none
 | k + 1, x0, x11 => if x11 = true then (some false) else (noriaref11_GoodName.l0 k x0 0)
def noriaref11_GoodName.l0 : Nat → ByteArray → Int → Option (Bool)
 | 0, _, _ => none
 | k + 1, x0, x3 => if x3 < (x0.size : Int) then (if 0 ≤ x3 then (if (bt x0 x3) < 97 then (some false) else (if (bt x0 x3) > 122 then (some false) else (noriaref11_GoodName.l0 k x0 (wrap64 (x3 + 1))))) else (none)) else (some true)
end
def noriaref11_GoodName.f (k : Nat) (a0 : ByteArray) : Option (Bool) := if (a0.size : Int) < 1 then (noriaref11_GoodName.j0 k a0 true) else (noriaref11_GoodName.j0 k a0 (decide ((a0.size : Int) > 8)))
theorem noriaref11_GoodName.mono_l : ∀ k, (∀ y0 y1, LeO (noriaref11_GoodName.j0 k y0 y1) (noriaref11_GoodName.j0 (k + 1) y0 y1)) ∧ (∀ y0 y1, LeO (noriaref11_GoodName.l0 k y0 y1) (noriaref11_GoodName.l0 (k + 1) y0 y1))
 | 0 => ⟨fun _ _ r h => by simp [noriaref11_GoodName.j0] at h, fun _ _ r h => by simp [noriaref11_GoodName.l0] at h⟩
 | k + 1 => by
  obtain ⟨ih0, ih1⟩ := noriaref11_GoodName.mono_l k
  refine ⟨?_, ?_⟩
  ·intro y0 y1
   unfold noriaref11_GoodName.j0
   repeat' first
   | (with_reducible exact ih0 _ _)
   | (with_reducible exact ih1 _ _)
   | (with_reducible exact LeO.refl _)
   | (with_reducible exact LeO.none _)
   | (with_reducible refine LeO.ite ?_ ?_)
   | (with_reducible refine LeO.bind ?_ (fun _ => ?_))
   | exact ih0 _ _
   | exact ih1 _ _
   | exact LeO.none _
   | refine LeO.ite ?_ ?_
   | refine LeO.bind ?_ (fun _ => ?_)
  ·intro y0 y1
   unfold noriaref11_GoodName.l0
   repeat' first
   | (with_reducible exact ih0 _ _)
   | (with_reducible exact ih1 _ _)
   | (with_reducible exact LeO.refl _)
   | (with_reducible exact LeO.none _)
   | (with_reducible refine LeO.ite ?_ ?_)
   | (with_reducible refine LeO.bind ?_ (fun _ => ?_))
   | exact ih0 _ _
   | exact ih1 _ _
   | exact LeO.none _
   | refine LeO.ite ?_ ?_
   | refine LeO.bind ?_ (fun _ => ?_)
theorem noriaref11_GoodName.mono : ∀ a0 k, LeO (noriaref11_GoodName.f k a0) (noriaref11_GoodName.f (k + 1) a0) := by
 intro a0 k
 obtain ⟨ih0, ih1⟩ := noriaref11_GoodName.mono_l k
 unfold noriaref11_GoodName.f
 repeat' first
   | (with_reducible exact ih0 _ _)
   | (with_reducible exact ih1 _ _)
   | (with_reducible exact LeO.refl _)
   | (with_reducible exact LeO.none _)
   | (with_reducible refine LeO.ite ?_ ?_)
   | (with_reducible refine LeO.bind ?_ (fun _ => ?_))
   | exact ih0 _ _
   | exact ih1 _ _
   | exact LeO.none _
   | refine LeO.ite ?_ ?_
   | refine LeO.bind ?_ (fun _ => ?_)
set_option maxHeartbeats 8000000 in
set_option maxRecDepth 100000 in
theorem noriaref11_GoodName.calls (k : Nat) (a0 : ByteArray) (r : Bool) (w : World) (h : noriaref11_GoodName.f k a0 = some r) :
  Calls Try.prog 30 #[.string a0] w fun e w' => e = .returned (.bool r) ∧ Drawn0 w w' := by
 have H : (if (a0.size : Int) < 1 then (noriaref11_GoodName.j0 k a0 true) else (noriaref11_GoodName.j0 k a0 (decide ((a0.size : Int) > 8)))) = some r := h
 clear h
 have HC2 := Aside0.mk H
 clear H
 go_enter Try.func30, Try.ntmps30
 go_upto_region 1 with (fail)
 go_cut [11] (fun v11 wc => ∃ (kq : Nat) (x11_1 : Bool), v11 = .bool x11_1 ∧ Aside0 (noriaref11_GoodName.j0 kq a0 x11_1 = some r) ∧ Aside0 (kq ≤ k) ∧ Drawn0 w wc)
 case first =>
  have H := HC2.out
  clear HC2
  by_cases c3 : (a0.size : Int) < 1
  ·rw [if_pos c3] at H
   have c3b0 : decide ((a0.size : Int) < 1) = true := decide_eq_true c3
   have c3b1 : decide (a0.size < 1) = true := decide_eq_true (by omega)
   clear c3
   (first | rw [c3b0] | (simp only [i64_w, i32_w]; rw [c3b0]) | skip)
   have H' := Aside0.mk H
   clear H
   go_wp2
   go_meet
   case rel => exact ⟨_, (true), (by first | rfl | (simp; done) | (simp [*]; done)), H', ⟨by first | omega | exact Nat.le_refl _⟩, by repeat (first | exact Drawn0.refl _ | apply Drawn0.step)⟩
  ·rw [if_neg c3] at H
   have c3b0 : decide ((a0.size : Int) < 1) = false := decide_eq_false c3
   have c3b1 : decide (a0.size < 1) = false := decide_eq_false (by omega)
   clear c3
   (first | rw [c3b0] | (simp only [i64_w, i32_w]; rw [c3b0]) | skip)
   have H' := Aside0.mk H
   clear H
   go_wp2
   go_meet
   case rel => exact ⟨_, (decide ((a0.size : Int) > 8)), (by first | rfl | (simp; done) | (simp [*]; done)), H', ⟨by first | omega | exact Nat.le_refl _⟩, by repeat (first | exact Drawn0.refl _ | apply Drawn0.step)⟩
 case rest =>
  clear HC2
  try clear p2
  try clear c3
  try clear c3b0
  try clear c3b1
  obtain ⟨kq, x11_1, rfl, HA, HJ1, ⟨mc1, rfl⟩⟩ := hcut
  cases kq with
  | zero => exact absurd HA.out (by simp [noriaref11_GoodName.j0])
  | succ kj1 =>
   have H := HA.out
   clear HA
   simp only [noriaref11_GoodName.j0] at H
   by_cases c4 : x11_1 = true
   ·subst c4
    have H1 : (some false) = some r := by rw [if_pos rfl] at H; exact H
    clear H
    have H := H1
    clear H1
    obtain rfl := Option.some.inj H
    go_wp2
    go_ret
    exact ⟨by first | rfl | (simp; done) | (simp [*]; done), by repeat (first | exact Drawn0.refl _ | apply Drawn0.step)⟩
   ·replace c4 := Bool.eq_false_iff.mpr c4
    subst c4
    have H1 : (noriaref11_GoodName.l0 kj1 a0 0) = some r := by rw [if_neg (show ¬ (false = true) by decide)] at H; exact H
    clear H
    have H := H1
    clear H1
    have H' := Aside0.mk H
    clear H
    go_wp2
    go_loopg [3] kj1 (fun kq v3 w' => ∃ (x3_2 : Int), v3 = .int .i64 x3_2 ∧ Aside0 (noriaref11_GoodName.l0 kq a0 x3_2 = some r) ∧ Aside0 (kq ≤ kj1) ∧ Drawn0 w w')
    case atStart => exact ⟨(0), (by first | rfl | (simp; done) | (simp [*]; done)), H', ⟨Nat.le_refl _⟩, by repeat (first | exact Drawn0.refl _ | apply Drawn0.step)⟩
    case round =>
     clear H'
     try clear c1
     try clear p2
     try clear c3
     try clear c3b0
     try clear c3b1
     try clear c4
     try clear p2
     obtain ⟨x3_2, rfl, HA, HK2, ⟨m2, rfl⟩⟩ := hrel
     cases gk with
     | zero => exact absurd HA.out (by simp [noriaref11_GoodName.l0])
     | succ k2 =>
      have H := HA.out
      clear HA
      simp only [noriaref11_GoodName.l0] at H
      by_cases c5 : x3_2 < (a0.size : Int)
      ·rw [if_pos c5] at H
       have c5b0 : decide (x3_2 < (a0.size : Int)) = true := decide_eq_true c5
       clear c5
       by_cases c6 : 0 ≤ x3_2
       ·rw [if_pos c6] at H
        have c6b0 : decide (0 ≤ x3_2) = true := decide_eq_true c6
        clear c6
        by_cases c8 : (bt a0 x3_2) < 97
        ·rw [if_pos c8] at H
         have c8b0 : decide ((bt a0 x3_2) < 97) = true := decide_eq_true c8
         clear c8
         obtain rfl := Option.some.inj H
         have p7 : 0 ≤ (x3_2 : Int) := of_decide_eq_true (by first | (with_reducible assumption) | assumption)
         have q7 : x3_2 < (a0.size : Int) := of_decide_eq_true (by first | (with_reducible assumption) | assumption)
         have hx7 := bt_at a0 x3_2
         replace p7 := eq_true p7
         replace q7 := eq_true q7
         go_wp2
         go_ret
         exact ⟨by first | rfl | (simp; done) | (simp [*]; done), by repeat (first | exact Drawn0.refl _ | apply Drawn0.step)⟩
        ·rw [if_neg c8] at H
         have c8b0 : decide ((bt a0 x3_2) < 97) = false := decide_eq_false c8
         clear c8
         by_cases c10 : (bt a0 x3_2) > 122
         ·rw [if_pos c10] at H
          have c10b0 : decide (122 < (bt a0 x3_2)) = true := decide_eq_true c10
          clear c10
          obtain rfl := Option.some.inj H
          have p7 : 0 ≤ (x3_2 : Int) := of_decide_eq_true (by first | (with_reducible assumption) | assumption)
          have q7 : x3_2 < (a0.size : Int) := of_decide_eq_true (by first | (with_reducible assumption) | assumption)
          have hx7 := bt_at a0 x3_2
          replace p7 := eq_true p7
          replace q7 := eq_true q7
          have p9 : 0 ≤ (x3_2 : Int) := of_decide_eq_true (by first | (with_reducible assumption) | assumption)
          have q9 : x3_2 < (a0.size : Int) := of_decide_eq_true (by first | (with_reducible assumption) | assumption)
          have hx9 := bt_at a0 x3_2
          replace p9 := eq_true p9
          replace q9 := eq_true q9
          go_wp2
          go_ret
          exact ⟨by first | rfl | (simp; done) | (simp [*]; done), by repeat (first | exact Drawn0.refl _ | apply Drawn0.step)⟩
         ·rw [if_neg c10] at H
          have c10b0 : decide (122 < (bt a0 x3_2)) = false := decide_eq_false c10
          clear c10
          have H' := Aside0.mk H
          clear H
          have p7 : 0 ≤ (x3_2 : Int) := of_decide_eq_true (by first | (with_reducible assumption) | assumption)
          have q7 : x3_2 < (a0.size : Int) := of_decide_eq_true (by first | (with_reducible assumption) | assumption)
          have hx7 := bt_at a0 x3_2
          replace p7 := eq_true p7
          replace q7 := eq_true q7
          have p9 : 0 ≤ (x3_2 : Int) := of_decide_eq_true (by first | (with_reducible assumption) | assumption)
          have q9 : x3_2 < (a0.size : Int) := of_decide_eq_true (by first | (with_reducible assumption) | assumption)
          have hx9 := bt_at a0 x3_2
          replace p9 := eq_true p9
          replace q9 := eq_true q9
          go_wp2
          go_roundg k2
          case measure => have := HJ1.out; have := HK2.out; omega
          case rel => exact ⟨(wrap64 (x3_2 + 1)), (by first | rfl | (simp; done) | (simp [*]; done)), H', ⟨by have := HJ1.out; have := HK2.out; omega⟩, by repeat (first | exact Drawn0.refl _ | apply Drawn0.step)⟩
       ·rw [if_neg c6] at H
        exact absurd H (by simp)
      ·rw [if_neg c5] at H
       have c5b0 : decide (x3_2 < (a0.size : Int)) = false := decide_eq_false c5
       clear c5
       obtain rfl := Option.some.inj H
       go_wp2
       go_ret
       exact ⟨by first | rfl | (simp; done) | (simp [*]; done), by repeat (first | exact Drawn0.refl _ | apply Drawn0.step)⟩

end Go.Proofs.Ythflicjbclcbaaa.PAll
