-- Printed by this session's own program (wip/tools/pp.py): out of the translation. Lean checks it.
import Derived.Test.YthflicjbclcbaaaPAllx0
import Derived.Test.YthflicjbclcbaaaPAllx4
namespace Go.Proofs.Ythflicjbclcbaaa.PAll
open Go.Proofs.Ythflicjbclcbaaa.Help
open Go.RowKit Go.Proofs.YthflicjbclcbaaaW.PrintWords Go.Proofs.YthflicjbclcbaaaW.PrintLast Go.Proofs.YthflicjbclcbaaaW.PrintMore
attribute [local go_sem] run_fl_eql run_fl_neq run_fl_lss run_fl_leq run_fl_gtr run_fl_geq unary_fl_neg run_cx_eql run_cx_neq run_cx_make run_cx_real run_cx_imag run_fl_of run_fl_to run_fl_add run_fl_sub run_fl_mul run_cx_add run_cx_sub run_cx_store run_fl_store cell_put3_0 cell_put3_1 cell_put4_0 cell_put4_1 max2_int min2_int max_two min_two max_three min_three max_four min_four   -- for this text's walks alone
set_option linter.unusedVariables false
set_option linter.unusedSimpArgs false

/-! ### num_Get: function 20 -/
mutual
def num_Get.j0 : Nat → List Int → Int → Int → Int → Bool → Option (Int × Int × Int)
 | 0, _, _, _, _, _ => none
 | k + 1, x0, x1, x4, x5, x15 => if x15 = true then (some (0, 0, 1)) else (num_Get.l0 k x0 x1 x4 x5)
def num_Get.l0 : Nat → List Int → Int → Int → Int → Option (Int × Int × Int)
 | 0, _, _, _, _ => none
 | k + 1, x0, x1, x4, x5 => if x5 = (wrap64 ((x0.length : Int) - x1)) then (some (0, 0, 5)) else (if 0 ≤ (wrap64 (x1 + x5)) then (if (wrap64 (x1 + x5)) < (x0.length : Int) then (if x5 = 9 then (num_Get.j2 k x0 x1 x4 x5 (rd x0 (wrap64 (x1 + x5))) (decide ((rd x0 (wrap64 (x1 + x5))) > 1))) else (num_Get.j2 k x0 x1 x4 x5 (rd x0 (wrap64 (x1 + x5))) false)) else (none)) else (none))
def num_Get.j2 : Nat → List Int → Int → Int → Int → Int → Bool → Option (Int × Int × Int)
 | 0, _, _, _, _, _, _ => none
 | k + 1, x0, x1, x4, x5, x7, x33 => if x33 = true then (some (0, 0, 2)) else (if 0 ≤ (wrap64 (7 * x5)) then (if x7 ≥ 128 then (num_Get.l0 k x0 x1 (Go.bits .or .u64 x4 (shl .u64 (IntKind.u64.wrap (Go.bits .and .u8 x7 127)) (wrap64 (7 * x5)))) (wrap64 (x5 + 1))) else (if x7 > 0 then (some (Go.bits .or .u64 x4 (shl .u64 (IntKind.u64.wrap (Go.bits .and .u8 x7 127)) (wrap64 (7 * x5))), wrap64 (x5 + 1), 0)) else (if (wrap64 (x5 + 1)) = 1 then (some (Go.bits .or .u64 x4 (shl .u64 (IntKind.u64.wrap (Go.bits .and .u8 x7 127)) (wrap64 (7 * x5))), wrap64 (x5 + 1), 0)) else (some (0, 0, 2))))) else (none))
end
def num_Get.f (k : Nat) (l0 : List Int) (a1 : Int) : Option (Int × Int × Int) := if a1 < 0 then (num_Get.j0 k l0 a1 0 0 true) else (num_Get.j0 k l0 a1 0 0 (decide (a1 > (l0.length : Int))))
theorem num_Get.mono_l : ∀ k, (∀ y0 y1 y2 y3 y4, LeO (num_Get.j0 k y0 y1 y2 y3 y4) (num_Get.j0 (k + 1) y0 y1 y2 y3 y4)) ∧ (∀ y0 y1 y2 y3, LeO (num_Get.l0 k y0 y1 y2 y3) (num_Get.l0 (k + 1) y0 y1 y2 y3)) ∧ (∀ y0 y1 y2 y3 y4 y5, LeO (num_Get.j2 k y0 y1 y2 y3 y4 y5) (num_Get.j2 (k + 1) y0 y1 y2 y3 y4 y5))
 | 0 => ⟨fun _ _ _ _ _ r h => by simp [num_Get.j0] at h, fun _ _ _ _ r h => by simp [num_Get.l0] at h, fun _ _ _ _ _ _ r h => by simp [num_Get.j2] at h⟩
 | k + 1 => by
  obtain ⟨ih0, ih1, ih2⟩ := num_Get.mono_l k
  refine ⟨?_, ?_, ?_⟩
  ·intro y0 y1 y2 y3 y4
   unfold num_Get.j0
   repeat' first
   | (with_reducible exact ih0 _ _ _ _ _)
   | (with_reducible exact ih1 _ _ _ _)
   | (with_reducible exact ih2 _ _ _ _ _ _)
   | (with_reducible exact LeO.refl _)
   | (with_reducible exact LeO.none _)
   | (with_reducible refine LeO.ite ?_ ?_)
   | (with_reducible refine LeO.bind ?_ (fun _ => ?_))
   | exact ih0 _ _ _ _ _
   | exact ih1 _ _ _ _
   | exact ih2 _ _ _ _ _ _
   | exact LeO.none _
   | refine LeO.ite ?_ ?_
   | refine LeO.bind ?_ (fun _ => ?_)
  ·intro y0 y1 y2 y3
   unfold num_Get.l0
   repeat' first
   | (with_reducible exact ih0 _ _ _ _ _)
   | (with_reducible exact ih1 _ _ _ _)
   | (with_reducible exact ih2 _ _ _ _ _ _)
   | (with_reducible exact LeO.refl _)
   | (with_reducible exact LeO.none _)
   | (with_reducible refine LeO.ite ?_ ?_)
   | (with_reducible refine LeO.bind ?_ (fun _ => ?_))
   | exact ih0 _ _ _ _ _
   | exact ih1 _ _ _ _
   | exact ih2 _ _ _ _ _ _
   | exact LeO.none _
   | refine LeO.ite ?_ ?_
   | refine LeO.bind ?_ (fun _ => ?_)
  ·intro y0 y1 y2 y3 y4 y5
   unfold num_Get.j2
   repeat' first
   | (with_reducible exact ih0 _ _ _ _ _)
   | (with_reducible exact ih1 _ _ _ _)
   | (with_reducible exact ih2 _ _ _ _ _ _)
   | (with_reducible exact LeO.refl _)
   | (with_reducible exact LeO.none _)
   | (with_reducible refine LeO.ite ?_ ?_)
   | (with_reducible refine LeO.bind ?_ (fun _ => ?_))
   | exact ih0 _ _ _ _ _
   | exact ih1 _ _ _ _
   | exact ih2 _ _ _ _ _ _
   | exact LeO.none _
   | refine LeO.ite ?_ ?_
   | refine LeO.bind ?_ (fun _ => ?_)
theorem num_Get.mono : ∀ a0 a1 k, LeO (num_Get.f k a0 a1) (num_Get.f (k + 1) a0 a1) := by
 intro a0 a1 k
 obtain ⟨ih0, ih1, ih2⟩ := num_Get.mono_l k
 unfold num_Get.f
 repeat' first
   | (with_reducible exact ih0 _ _ _ _ _)
   | (with_reducible exact ih1 _ _ _ _)
   | (with_reducible exact ih2 _ _ _ _ _ _)
   | (with_reducible exact LeO.refl _)
   | (with_reducible exact LeO.none _)
   | (with_reducible refine LeO.ite ?_ ?_)
   | (with_reducible refine LeO.bind ?_ (fun _ => ?_))
   | exact ih0 _ _ _ _ _
   | exact ih1 _ _ _ _
   | exact ih2 _ _ _ _ _ _
   | exact LeO.none _
   | refine LeO.ite ?_ ?_
   | refine LeO.bind ?_ (fun _ => ?_)
set_option maxHeartbeats 8000000 in
set_option maxRecDepth 100000 in
theorem num_Get.calls (k : Nat) (A0 : Option Addr) (c0 : Nat) (l0 : List Int) (a1 : Int) (r1 : Int) (r2 : Int) (r3 : Int) (w : World) (hr0 : Kd.C (Kd.int .u8) w A0 l0.length l0) (hc0 : l0.length ≤ c0) (h : num_Get.f k l0 a1 = some (r1, r2, r3)) :
  Calls Try.prog 20 #[.slice A0 l0.length c0, .int .i64 a1] w fun e w' => e = .returned (.tuple #[.int .u64 r1, .int .i64 r2, .int .i64 r3]) ∧ Drawn0 w w' := by
 have HR0 := Aside0.mk hr0
 have HC0 := Aside0.mk hc0
 clear hr0 hc0
 have H : (if a1 < 0 then (num_Get.j0 k l0 a1 0 0 true) else (num_Get.j0 k l0 a1 0 0 (decide (a1 > (l0.length : Int))))) = some (r1, r2, r3) := h
 clear h
 have HC3 := Aside0.mk H
 clear H
 go_enter Try.func20, Try.ntmps20
 try go_wp2
 refine wp_scope_labs ?_
 intro G_ hG_
 go_upto_region 2 with (fail)
 go_cut [15] (fun v15 wc => ∃ (kq : Nat) (x15_2 : Bool), v15 = .bool x15_2 ∧ Aside0 (num_Get.j0 kq l0 a1 0 0 x15_2 = some (r1, r2, r3)) ∧ Aside0 (kq ≤ k) ∧ Drawn0 w wc)
 case first =>
  have H := HC3.out
  clear HC3
  by_cases c4 : a1 < 0
  ·rw [if_pos c4] at H
   have c4b0 : decide (a1 < 0) = true := decide_eq_true c4
   clear c4
   (first | rw [c4b0] | (simp only [i64_w, i32_w]; rw [c4b0]) | skip)
   have H' := Aside0.mk H
   clear H
   go_wp2
   go_meet
   case rel => exact ⟨_, (true), (by first | rfl | (simp; done) | (simp [*]; done)), H', ⟨by first | omega | exact Nat.le_refl _⟩, by repeat (first | exact Drawn0.refl _ | apply Drawn0.step)⟩
  ·rw [if_neg c4] at H
   have c4b0 : decide (a1 < 0) = false := decide_eq_false c4
   clear c4
   (first | rw [c4b0] | (simp only [i64_w, i32_w]; rw [c4b0]) | skip)
   have H' := Aside0.mk H
   clear H
   go_wp2
   go_meet
   case rel => exact ⟨_, (decide (a1 > (l0.length : Int))), (by first | rfl | (simp; done) | (simp [*]; done)), H', ⟨by first | omega | exact Nat.le_refl _⟩, by repeat (first | exact Drawn0.refl _ | apply Drawn0.step)⟩
 case rest =>
  clear HC3
  try clear c2
  try clear p2
  try clear c4
  try clear c4b0
  obtain ⟨kq, x15_2, rfl, HA, HJ2, ⟨mc2, rfl⟩⟩ := hcut
  cases kq with
  | zero => exact absurd HA.out (by simp [num_Get.j0])
  | succ kj2 =>
   have H := HA.out
   clear HA
   simp only [num_Get.j0] at H
   by_cases c5 : x15_2 = true
   ·subst c5
    have H1 : (some (0, 0, 1)) = some (r1, r2, r3) := by rw [if_pos rfl] at H; exact H
    clear H
    have H := H1
    clear H1
    simp only [Option.some.injEq, Prod.mk.injEq] at H
    obtain ⟨rfl, rfl, rfl⟩ := H
    go_wp2
    go_step3
    refine hG_ 0 _ _ _ (by rfl) ?_
    go_wp2
    try rw [labs_ret]
    go_ret3
    exact ⟨by first | rfl | (simp; done) | (simp [*]; done), by repeat (first | exact Drawn0.refl _ | apply Drawn0.step)⟩
   ·replace c5 := Bool.eq_false_iff.mpr c5
    subst c5
    have H1 : (num_Get.l0 kj2 l0 a1 0 0) = some (r1, r2, r3) := by rw [if_neg (show ¬ (false = true) by decide)] at H; exact H
    clear H
    have H := H1
    clear H1
    have H' := Aside0.mk H
    clear H
    go_wp2
    go_step3
    simp only [Exit.then]
    go_step
    refine label_ghost hG_ 1 (by rfl) (fun kq_ a_ w_ => ∃ v4 v5 z2 z3 z6 z7 z8 z9 z10 z11 z12 z13 z14 z15 z16 z17 z18 z19 z20 z21 z22 z23 z24 z25 z26 z27 z28 z29 z30 z31 z32 z33 z34 z35 z36 z37 z38 z39 z40 z41 z42 z43 z44 z45 z46 z47 z48 z49 z50 z51 z52 z53 z54 : Value, (fun kq v4 v5 w' => ∃ (x4_2 : Int) (x5_2 : Int), v4 = .int .u64 x4_2 ∧ v5 = .int .i64 x5_2 ∧ Aside0 (num_Get.l0 kq l0 a1 x4_2 x5_2 = some (r1, r2, r3)) ∧ Aside0 (kq ≤ kj2) ∧ Drawn0 w w') kq_ v4 v5 w_ ∧ a_ = (⟨#[.slice A0 l0.length c0, .int .i64 a1, z2, z3, v4, v5, z6, z7, z8, z9, z10, z11, z12, z13, z14, z15, z16, z17, z18, z19, z20, z21, z22, z23, z24, z25, z26, z27, z28, z29, z30, z31, z32, z33, z34, z35, z36, z37, z38, z39, z40, z41, z42, z43, z44, z45, z46, z47, z48, z49, z50, z51, z52, z53, z54], []⟩ : Act)) kj2 ?_ ?_
    ·((repeat apply Exists.intro); refine ⟨?_, rfl⟩; exact ⟨(0), (0), (by first | rfl | (simp; done) | (simp [*]; done)), (by first | rfl | (simp; done) | (simp [*]; done)), H', ⟨Nat.le_refl _⟩, by repeat (first | exact Drawn0.refl _ | apply Drawn0.step)⟩)
    intro gk a_ wr hinv_ J_1 K_1 hJ_1 hK_1 hKG_1
    obtain ⟨v4, v5, z2, z3, z6, z7, z8, z9, z10, z11, z12, z13, z14, z15, z16, z17, z18, z19, z20, z21, z22, z23, z24, z25, z26, z27, z28, z29, z30, z31, z32, z33, z34, z35, z36, z37, z38, z39, z40, z41, z42, z43, z44, z45, z46, z47, z48, z49, z50, z51, z52, z53, z54, hrel, ha_⟩ := hinv_
    subst ha_
    clear H'
    try clear c2
    try clear p2
    try clear p3
    try clear c4
    try clear c4b0
    try clear c5
    try clear p2
    obtain ⟨x4_2, x5_2, rfl, rfl, HA, HK2, ⟨m2, rfl⟩⟩ := hrel
    cases gk with
    | zero => exact absurd HA.out (by simp [num_Get.l0])
    | succ k2 =>
     have H := HA.out
     clear HA
     simp only [num_Get.l0] at H
     by_cases c6 : x5_2 = (wrap64 ((l0.length : Int) - a1))
     ·rw [if_pos c6] at H
      have c6b0 : (x5_2 == (wrap64 ((l0.length : Int) - a1))) = true := beq_iff_eq.mpr c6
      have c6b1 : (x5_2 != (wrap64 ((l0.length : Int) - a1))) = false := bne_eq_false_iff_eq.mpr c6
      clear c6
      simp only [Option.some.injEq, Prod.mk.injEq] at H
      obtain ⟨rfl, rfl, rfl⟩ := H
      go_wp2
      go_step3
      refine hG_ 0 _ _ _ (by rfl) ?_
      go_wp2
      try rw [labs_ret]
      go_ret3
      exact ⟨by first | rfl | (simp; done) | (simp [*]; done), by repeat (first | exact Drawn0.refl _ | apply Drawn0.step)⟩
     ·rw [if_neg c6] at H
      have c6b0 : (x5_2 == (wrap64 ((l0.length : Int) - a1))) = false := beq_eq_false_iff_ne.mpr c6
      have c6b1 : (x5_2 != (wrap64 ((l0.length : Int) - a1))) = true := bne_iff_ne.mpr c6
      obtain ⟨ji7, hji7⟩ : ∃ j_ : Int, (wrap64 (a1 + x5_2)) = j_ := ⟨_, rfl⟩
      replace H : (if 0 ≤ (ji7) then (if (ji7) < (l0.length : Int) then (if x5_2 = 9 then (num_Get.j2 k2 l0 a1 x4_2 x5_2 (rd l0 (ji7)) (decide ((rd l0 (ji7)) > 1))) else (num_Get.j2 k2 l0 a1 x4_2 x5_2 (rd l0 (ji7)) false)) else (none)) else (none)) = some (r1, r2, r3) := by first | (rw [hji7] at H; exact H) | (simp only [hji7] at H ⊢; exact H)
      have hji7w : (IntKind.i64.wrap (a1 + x5_2)) = ji7 := (i64_w _).trans hji7
      by_cases c8 : 0 ≤ (ji7)
      ·rw [if_pos c8] at H
       have c8b0 : decide (0 ≤ (ji7)) = true := decide_eq_true c8
       clear c8
       by_cases c9 : (ji7) < (l0.length : Int)
       ·rw [if_pos c9] at H
        have c9b0 : decide ((ji7) < (l0.length : Int)) = true := decide_eq_true c9
        clear c9
        have HC10 := Aside0.mk H
        clear H
        have p111 : 0 ≤ ((ji7) : Int) := of_decide_eq_true (by first | (with_reducible assumption) | assumption)
        have q111 : (ji7) < (l0.length : Int) := of_decide_eq_true (by first | (with_reducible assumption) | assumption)
        obtain ⟨ad111, e111, hx111_0⟩ := Kd.at_int HR0.out (ji7) p111 q111
        cases e111
        replace p111 := eq_true p111
        replace q111 := eq_true q111
        go_upto_region 7 with (fail)
        go_cut [33] (fun v33 wc => ∃ (kq : Nat) (x33_9 : Bool), v33 = .bool x33_9 ∧ Aside0 (num_Get.j2 kq l0 a1 x4_2 x5_2 (rd l0 (ji7)) x33_9 = some (r1, r2, r3)) ∧ Aside0 (kq ≤ k2) ∧ Drawn0 w wc)
        case first =>
         have H := HC10.out
         clear HC10
         by_cases c11 : x5_2 = 9
         ·rw [if_pos c11] at H
          have c11b0 : (x5_2 == 9) = true := beq_iff_eq.mpr c11
          have c11b1 : (x5_2 != 9) = false := bne_eq_false_iff_eq.mpr c11
          clear c11
          (first | rw [c11b0] | (simp only [i64_w, i32_w]; rw [c11b0]) | skip)
          have H' := Aside0.mk H
          clear H
          go_wp2
          go_meet
          case rel => exact ⟨_, (decide ((rd l0 (ji7)) > 1)), (by first | rfl | (simp; done) | (simp only [← hji7] <;> (first | rfl | simp)) | (simp [*]; done)), H', ⟨by have := HJ2.out; have := HK2.out; first | omega | exact Nat.le_refl _⟩, by repeat (first | exact Drawn0.refl _ | apply Drawn0.step)⟩
         ·rw [if_neg c11] at H
          have c11b0 : (x5_2 == 9) = false := beq_eq_false_iff_ne.mpr c11
          have c11b1 : (x5_2 != 9) = true := bne_iff_ne.mpr c11
          (first | rw [c11b0] | (simp only [i64_w, i32_w]; rw [c11b0]) | skip)
          have H' := Aside0.mk H
          clear H
          go_wp2
          go_meet
          case rel => exact ⟨_, (false), (by first | rfl | (simp; done) | (simp [*]; done)), H', ⟨by have := HJ2.out; have := HK2.out; first | omega | exact Nat.le_refl _⟩, by repeat (first | exact Drawn0.refl _ | apply Drawn0.step)⟩
        case rest =>
         clear HC10
         try clear c1
         try clear p1
         try clear q1
         try clear hx1
         try clear c2
         try clear p2
         try clear p3
         try clear c4
         try clear c4b0
         try clear c5
         try clear c6
         try clear c6b0
         try clear c6b1
         try clear p6
         try clear c8
         try clear c8b0
         try clear c9
         try clear c9b0
         try clear c11
         try clear c11b0
         try clear c11b1
         try clear p11
         try clear q11
         try clear hx11
         try clear hx111_0
         try clear p111
         try clear p2
         try clear p3
         try clear q111
         obtain ⟨kq, x33_9, rfl, HA, HJ9, ⟨mc9, rfl⟩⟩ := hcut
         cases kq with
         | zero => exact absurd HA.out (by simp [num_Get.j2])
         | succ kj9 =>
          have H := HA.out
          clear HA
          simp only [num_Get.j2] at H
          by_cases c12 : x33_9 = true
          ·subst c12
           have H1 : (some (0, 0, 2)) = some (r1, r2, r3) := by rw [if_pos rfl] at H; exact H
           clear H
           have H := H1
           clear H1
           simp only [Option.some.injEq, Prod.mk.injEq] at H
           obtain ⟨rfl, rfl, rfl⟩ := H
           go_wp2
           go_step3
           refine hG_ 0 _ _ _ (by rfl) ?_
           go_wp2
           try rw [labs_ret]
           go_ret3
           exact ⟨by first | rfl | (simp; done) | (simp only [← hji7] <;> (first | rfl | simp)) | (simp [*]; done), by repeat (first | exact Drawn0.refl _ | apply Drawn0.step)⟩
          ·replace c12 := Bool.eq_false_iff.mpr c12
           subst c12
           have H1 : (if 0 ≤ (wrap64 (7 * x5_2)) then (if (rd l0 (ji7)) ≥ 128 then (num_Get.l0 kj9 l0 a1 (Go.bits .or .u64 x4_2 (shl .u64 (IntKind.u64.wrap (Go.bits .and .u8 (rd l0 (ji7)) 127)) (wrap64 (7 * x5_2)))) (wrap64 (x5_2 + 1))) else (if (rd l0 (ji7)) > 0 then (some (Go.bits .or .u64 x4_2 (shl .u64 (IntKind.u64.wrap (Go.bits .and .u8 (rd l0 (ji7)) 127)) (wrap64 (7 * x5_2))), wrap64 (x5_2 + 1), 0)) else (if (wrap64 (x5_2 + 1)) = 1 then (some (Go.bits .or .u64 x4_2 (shl .u64 (IntKind.u64.wrap (Go.bits .and .u8 (rd l0 (ji7)) 127)) (wrap64 (7 * x5_2))), wrap64 (x5_2 + 1), 0)) else (some (0, 0, 2))))) else (none)) = some (r1, r2, r3) := by rw [if_neg (show ¬ (false = true) by decide)] at H; exact H
           clear H
           have H := H1
           clear H1
           obtain ⟨ji13, hji13⟩ : ∃ j_ : Int, (wrap64 (7 * x5_2)) = j_ := ⟨_, rfl⟩
           replace H : (if 0 ≤ (ji13) then (if (rd l0 (ji7)) ≥ 128 then (num_Get.l0 kj9 l0 a1 (Go.bits .or .u64 x4_2 (shl .u64 (IntKind.u64.wrap (Go.bits .and .u8 (rd l0 (ji7)) 127)) (ji13))) (wrap64 (x5_2 + 1))) else (if (rd l0 (ji7)) > 0 then (some (Go.bits .or .u64 x4_2 (shl .u64 (IntKind.u64.wrap (Go.bits .and .u8 (rd l0 (ji7)) 127)) (ji13)), wrap64 (x5_2 + 1), 0)) else (if (wrap64 (x5_2 + 1)) = 1 then (some (Go.bits .or .u64 x4_2 (shl .u64 (IntKind.u64.wrap (Go.bits .and .u8 (rd l0 (ji7)) 127)) (ji13)), wrap64 (x5_2 + 1), 0)) else (some (0, 0, 2))))) else (none)) = some (r1, r2, r3) := by first | (rw [hji13] at H; exact H) | (simp only [hji13] at H ⊢; exact H)
           have hji13w : (IntKind.i64.wrap (7 * x5_2)) = ji13 := (i64_w _).trans hji13
           by_cases c14 : 0 ≤ (ji13)
           ·rw [if_pos c14] at H
            have c14b0 := eq_true c14
            have c14b1 : decide (0 ≤ (ji13)) = true := decide_eq_true c14
            clear c14
            obtain ⟨ji15, hji15⟩ : ∃ j_ : Int, (shl .u64 (IntKind.u64.wrap (Go.bits .and .u8 (rd l0 (ji7)) 127)) (ji13)) = j_ := ⟨_, rfl⟩
            replace H : (if (rd l0 (ji7)) ≥ 128 then (num_Get.l0 kj9 l0 a1 (Go.bits .or .u64 x4_2 (ji15)) (wrap64 (x5_2 + 1))) else (if (rd l0 (ji7)) > 0 then (some (Go.bits .or .u64 x4_2 (ji15), wrap64 (x5_2 + 1), 0)) else (if (wrap64 (x5_2 + 1)) = 1 then (some (Go.bits .or .u64 x4_2 (ji15), wrap64 (x5_2 + 1), 0)) else (some (0, 0, 2))))) = some (r1, r2, r3) := by first | (rw [hji15] at H; exact H) | (simp only [hji15] at H ⊢; exact H)
            have hji15_ : (IntKind.u64.wrap ((IntKind.u64.wrap (Go.bits .and .u8 (rd l0 (ji7)) 127)) * 2 ^ min (ji13).toNat 64)) = ji15 := hji15
            have hji15z : (ji13) ≤ 64 → (IntKind.u64.wrap ((IntKind.u64.wrap (Go.bits .and .u8 (rd l0 (ji7)) 127)) * 2 ^ (ji13).toNat)) = ji15 := shl_small hji15
            by_cases c16 : (rd l0 (ji7)) ≥ 128
            ·rw [if_pos c16] at H
             have c16b0 : decide (128 ≤ (rd l0 (ji7))) = true := decide_eq_true c16
             clear c16
             have H' := Aside0.mk H
             clear H
             go_wp2
             go_step3
             refine hKG_1 _ _ (hK_1 _ _ (Handed.intro kj9 ?measure (hJ_1 _ _ _ ?rel_)))
             case measure => have := HJ2.out; have := HK2.out; have := HJ9.out; omega
             case rel_ => ((repeat apply Exists.intro); refine ⟨?_, rfl⟩; exact ⟨(Go.bits .or .u64 x4_2 (ji15)), (wrap64 (x5_2 + 1)), (by first | rfl | (simp; done) | (simp only [← hji15] <;> (first | rfl | simp)) | (simp [*]; done)), (by first | rfl | (simp; done) | (simp [*]; done)), H', ⟨by have := HJ2.out; have := HK2.out; have := HJ9.out; omega⟩, by repeat (first | exact Drawn0.refl _ | apply Drawn0.step)⟩)
            ·rw [if_neg c16] at H
             have c16b0 : decide (128 ≤ (rd l0 (ji7))) = false := decide_eq_false c16
             clear c16
             by_cases c17 : (rd l0 (ji7)) > 0
             ·rw [if_pos c17] at H
              have c17b0 : decide (0 < (rd l0 (ji7))) = true := decide_eq_true c17
              clear c17
              simp only [Option.some.injEq, Prod.mk.injEq] at H
              obtain ⟨rfl, rfl, rfl⟩ := H
              go_wp2
              try rw [labs_ret]
              go_ret3
              exact ⟨by first | rfl | (simp; done) | (simp only [← hji7, ← hji13, ← hji15] <;> (first | rfl | simp)) | (simp [*]; done), by repeat (first | exact Drawn0.refl _ | apply Drawn0.step)⟩
             ·rw [if_neg c17] at H
              have c17b0 : decide (0 < (rd l0 (ji7))) = false := decide_eq_false c17
              clear c17
              by_cases c18 : (wrap64 (x5_2 + 1)) = 1
              ·rw [if_pos c18] at H
               have c18b0 : ((wrap64 (x5_2 + 1)) == 1) = true := beq_iff_eq.mpr c18
               have c18b1 : ((wrap64 (x5_2 + 1)) != 1) = false := bne_eq_false_iff_eq.mpr c18
               clear c18
               simp only [Option.some.injEq, Prod.mk.injEq] at H
               obtain ⟨rfl, rfl, rfl⟩ := H
               go_wp2
               try rw [labs_ret]
               go_ret3
               exact ⟨by first | rfl | (simp; done) | (simp only [← hji7, ← hji13, ← hji15] <;> (first | rfl | simp)) | (simp [*]; done), by repeat (first | exact Drawn0.refl _ | apply Drawn0.step)⟩
              ·rw [if_neg c18] at H
               have c18b0 : ((wrap64 (x5_2 + 1)) == 1) = false := beq_eq_false_iff_ne.mpr c18
               have c18b1 : ((wrap64 (x5_2 + 1)) != 1) = true := bne_iff_ne.mpr c18
               simp only [Option.some.injEq, Prod.mk.injEq] at H
               obtain ⟨rfl, rfl, rfl⟩ := H
               go_wp2
               go_step3
               go_wp2
               try rw [labs_ret]
               go_ret3
               exact ⟨by first | rfl | (simp; done) | (simp only [← hji7, ← hji13, ← hji15] <;> (first | rfl | simp)) | (simp [*]; done), by repeat (first | exact Drawn0.refl _ | apply Drawn0.step)⟩
           ·rw [if_neg c14] at H
            exact absurd H (by simp)
       ·rw [if_neg c9] at H
        exact absurd H (by simp)
      ·rw [if_neg c8] at H
       exact absurd H (by simp)

/-! ### schema_Get: function 6 -/
def schema_Get.l0 : Nat → List Int → Int → List (S36) → Int → Int → Int → Option ((List (S36)) × Int × Int)
 | 0, _, _, _, _, _, _ => none
 | k + 1, x0, x1, x4, x5, x22, x23 => if x23 < x22 then ((num_Get.f k x0 (wrap64 (x1 + x5))).bind fun bt116 => (if bt116.2.2 = 0 then (if bt116.1 ≥ (IntKind.u64.wrap (wrap64 ((wrap64 ((x0.length : Int) - x1)) - (wrap64 (x5 + bt116.2.1))))) then (some (([] : List (S36)), 0, 5)) else (if 0 ≤ (wrap64 (x1 + (wrap64 (x5 + bt116.2.1)))) then (if (wrap64 (x1 + (wrap64 (x5 + bt116.2.1)))) ≤ (wrap64 ((wrap64 (x1 + (wrap64 (x5 + bt116.2.1)))) + (wrap64 (bt116.1)))) then (if (wrap64 ((wrap64 (x1 + (wrap64 (x5 + bt116.2.1)))) + (wrap64 (bt116.1)))) ≤ (x0.length : Int) then (if 0 ≤ (wrap64 ((wrap64 (x1 + (wrap64 (x5 + bt116.2.1)))) + (wrap64 (bt116.1)))) then (if (wrap64 ((wrap64 (x1 + (wrap64 (x5 + bt116.2.1)))) + (wrap64 (bt116.1)))) < (x0.length : Int) then (if x4.length < 5864062014805 then (schema_Get.l0 k x0 x1 (x4 ++ [(⟨strOfNums ((x0.take ((wrap64 ((wrap64 (x1 + (wrap64 (x5 + bt116.2.1)))) + (wrap64 (bt116.1)))) : Int).toNat).drop ((wrap64 (x1 + (wrap64 (x5 + bt116.2.1)))) : Int).toNat), wrap64 (rd x0 (wrap64 ((wrap64 (x1 + (wrap64 (x5 + bt116.2.1)))) + (wrap64 (bt116.1)))))⟩ : S36)]) (wrap64 ((wrap64 (x5 + bt116.2.1)) + (wrap64 ((wrap64 (bt116.1)) + 1)))) x22 (IntKind.u64.wrap (x23 + 1))) else (none)) else (none)) else (none)) else (none)) else (none)) else (none))) else (some (([] : List (S36)), 0, bt116.2.2)))) else ((schema_Check.f k x4).bind fun t115 => (if t115 = 0 then (some (x4, x5, 0)) else (some (([] : List (S36)), 0, t115))))
def schema_Get.f (k : Nat) (l0 : List Int) (a1 : Int) : Option ((List (S36)) × Int × Int) := (num_Get.f k l0 a1).bind fun bt112 => (if bt112.2.2 = 0 then (if bt112.1 > 8 then (some (([] : List (S36)), 0, 4)) else (schema_Get.l0 k l0 a1 ([] : List (S36)) bt112.2.1 bt112.1 0)) else (some (([] : List (S36)), 0, bt112.2.2)))
theorem schema_Get.mono_l : ∀ k, (∀ y0 y1 y2 y3 y4 y5, LeO (schema_Get.l0 k y0 y1 y2 y3 y4 y5) (schema_Get.l0 (k + 1) y0 y1 y2 y3 y4 y5))
 | 0 => fun _ _ _ _ _ _ r h => by simp [schema_Get.l0] at h
 | k + 1 => by
  have ih0 := schema_Get.mono_l k
  ·intro y0 y1 y2 y3 y4 y5
   unfold schema_Get.l0
   repeat' first
   | (with_reducible exact ih0 _ _ _ _ _ _)
   | (with_reducible exact num_Get.mono _ _ _)
   | (with_reducible exact schema_Check.mono _ _)
   | (with_reducible exact LeO.refl _)
   | (with_reducible exact LeO.none _)
   | (with_reducible refine LeO.ite ?_ ?_)
   | (with_reducible refine LeO.bind ?_ (fun _ => ?_))
   | exact ih0 _ _ _ _ _ _
   | exact num_Get.mono _ _ _
   | exact schema_Check.mono _ _
   | exact LeO.none _
   | refine LeO.ite ?_ ?_
   | refine LeO.bind ?_ (fun _ => ?_)
theorem schema_Get.mono : ∀ a0 a1 k, LeO (schema_Get.f k a0 a1) (schema_Get.f (k + 1) a0 a1) := by
 intro a0 a1 k
 have ih0 := schema_Get.mono_l k
 unfold schema_Get.f
 repeat' first
   | (with_reducible exact ih0 _ _ _ _ _ _)
   | (with_reducible exact num_Get.mono _ _ _)
   | (with_reducible exact schema_Check.mono _ _)
   | (with_reducible exact LeO.refl _)
   | (with_reducible exact LeO.none _)
   | (with_reducible refine LeO.ite ?_ ?_)
   | (with_reducible refine LeO.bind ?_ (fun _ => ?_))
   | exact ih0 _ _ _ _ _ _
   | exact num_Get.mono _ _ _
   | exact schema_Check.mono _ _
   | exact LeO.none _
   | refine LeO.ite ?_ ?_
   | refine LeO.bind ?_ (fun _ => ?_)
def schema_Get.T16 : Bool × List (List Nat × List Nat) := (true, [([], []), ([], []), ([], []), ([], []), ([2, 3], [2, 3]), ([], []), ([], []), ([5, 6], [5, 6]), ([], []), ([8], [8]), ([7, 9], [7, 9]), ([1, 4, 10], [1, 4, 10]), ([11], [11]), ([], []), ([], []), ([], []), ([14, 15], [14, 15]), ([], []), ([17], [17]), ([16, 18], [16, 18]), ([13, 19], [13, 19]), ([20], [20]), ([21], [21]), ([12, 22], [12, 22]), ([23], [23]), ([0, 24], [0, 24]), ([25, 25, 0, 1, 2, 3, 4, 5, 6, 7, 8, 9, 10, 11, 12, 13, 14, 15, 16, 17, 18, 19, 20, 21, 22, 23, 24, 25], [0, 25])])
def schema_Get.B16 : List Nat := [0, 0, 0, 0, 12, 0, 0, 96, 0, 256, 992, 2046, 4094, 0, 0, 0, 49152, 0, 131072, 507904, 1040384, 2088960, 4186112, 8388606, 16777214, 33554431, 67108863]
theorem schema_Get.tab16 : rtab .any (opsOf Try.f6 16) = schema_Get.T16 := by kernel_rfl
theorem schema_Get.bits16 : waitsOk schema_Get.T16.2 schema_Get.B16 = true := by kernel_rfl
set_option maxHeartbeats 8000000 in
set_option maxRecDepth 100000 in
theorem schema_Get.calls (k : Nat) (A0 : Option Addr) (c0 : Nat) (l0 : List Int) (a1 : Int) (r1 : List (S36)) (r2 : Int) (r3 : Int) (w : World) (hr0 : Kd.C (Kd.int .u8) w A0 l0.length l0) (hc0 : l0.length ≤ c0) (h : schema_Get.f k l0 a1 = some (r1, r2, r3)) :
  Calls Try.prog 6 #[.slice A0 l0.length c0, .int .i64 a1] w fun e w' => ∃ v0_ : Value, e = .returned (.tuple #[v0_, .int .i64 r2, .int .i64 r3]) ∧ Kd.R k36 36 w' w.heap.size (fun _ => True) v0_ r1 ∧ Below w.heap.size w w' := by
 have hu36 := Try.underlying36
 have HR0 := Aside0.mk hr0
 have HC0 := Aside0.mk hc0
 clear hr0 hc0
 have HB := Aside0.mk (Below.refl w.heap.size w)
 have H : ((num_Get.f k l0 a1).bind fun bt112 => (if bt112.2.2 = 0 then (if bt112.1 > 8 then (some (([] : List (S36)), 0, 4)) else (schema_Get.l0 k l0 a1 ([] : List (S36)) bt112.2.1 bt112.1 0)) else (some (([] : List (S36)), 0, bt112.2.2)))) = some (r1, r2, r3) := h
 clear h
 replace H := Option.bind_eq_some_iff.mp H
 obtain ⟨⟨t112, t113, t114⟩, A30, H⟩ := H
 replace H : (if t114 = 0 then (if t112 > 8 then (some (([] : List (S36)), 0, 4)) else (schema_Get.l0 k l0 a1 ([] : List (S36)) t113 t112 0)) else (some (([] : List (S36)), 0, t114))) = some (r1, r2, r3) := H
 have A3 := Aside0.mk A30
 clear A30
 by_cases c4 : t114 = 0
 ·rw [if_pos c4] at H
  have c4b0 : (t114 == 0) = true := beq_iff_eq.mpr c4
  have c4b1 : (t114 != 0) = false := bne_eq_false_iff_eq.mpr c4
  clear c4
  by_cases c5 : t112 > 8
  ·rw [if_pos c5] at H
   have c5b0 : decide (8 < t112) = true := decide_eq_true c5
   clear c5
   simp only [Option.some.injEq, Prod.mk.injEq] at H
   obtain ⟨rfl, rfl, rfl⟩ := H
   go_enter Try.func6, Try.ntmps6
   go_wp2_with (first | (go_at_call 20; (with_reducible refine (num_Get.calls k _ _ l0 a1 t112 t113 t114 _ ?side1 ?side2 A3.out).mono ?_); (case side1 => repeat (first | exact HR0.out | (with_reducible refine Kd.C_alloc ?_ _) | (with_reducible refine Kd.C_drewN ?_ _) | (with_reducible refine Kd.C_drew ?_))); (case side2 => exact HC0.out); rintro e w' ⟨rfl, ⟨nd, rfl⟩⟩))
   go_ret3
   exact ⟨_, by first | rfl | (simp [errW_none, errW_some] <;> rfl) | (simp [*, errW_none, errW_some] <;> rfl), by first | exact Kd.R_nil _ _ _ _ _ | exact Kd.N_nil _ _ _ _ _ | exact Kd.V_nil _ _ _ _ _ | exact Kd.Q_nil _ _ _ _ _ | exact Kd.S_nil _ _ _ _ _, by repeat (first | (with_reducible first | exact HB.out | apply below_alloc | apply pw_below_drewN | apply below_drew1) | exact HB.out)⟩
  ·rw [if_neg c5] at H
   have c5b0 : decide (8 < t112) = false := decide_eq_false c5
   clear c5
   have H' := Aside0.mk H
   clear H
   go_enter Try.func6, Try.ntmps6
   go_wp2_with (first | (go_at_call 20; (with_reducible refine (num_Get.calls k _ _ l0 a1 t112 t113 t114 _ ?side1 ?side2 A3.out).mono ?_); (case side1 => repeat (first | exact HR0.out | (with_reducible refine Kd.C_alloc ?_ _) | (with_reducible refine Kd.C_drewN ?_ _) | (with_reducible refine Kd.C_drew ?_))); (case side2 => exact HC0.out); rintro e w' ⟨rfl, ⟨nd, rfl⟩⟩))
   go_loopg [4, 5, 23] k (fun kq v4 v5 v23 w' => ∃ (x4_1 : List (S36)) (x5_1 : Int) (x23_1 : Int), v5 = .int .i64 x5_1 ∧ v23 = .int .u64 x23_1 ∧ Aside0 (schema_Get.l0 kq l0 a1 x4_1 x5_1 t112 x23_1 = some (r1, r2, r3)) ∧ Aside0 (kq ≤ k) ∧ Aside0 (Kd.R k36 36 w' w.heap.size (fun _ => True) v4 x4_1) ∧ Aside0 (Below w.heap.size w w'))
   case atStart => exact ⟨(([] : List (S36))), (t113), (0), (by first | rfl | (simp; done) | (simp [*]; done)), (by first | rfl | (simp; done) | (simp [*]; done)), H', ⟨Nat.le_refl _⟩, ⟨by first | exact Kd.R_nil _ _ _ _ _ | exact Kd.N_nil _ _ _ _ _ | exact Kd.V_nil _ _ _ _ _ | exact Kd.Q_nil _ _ _ _ _ | exact Kd.S_nil _ _ _ _ _⟩, ⟨by repeat (first | (with_reducible first | exact HB.out | apply below_alloc | apply pw_below_drewN | apply below_drew1) | exact HB.out)⟩⟩
   case round =>
    clear H'
    try clear p2
    try clear c4
    try clear c4b0
    try clear c4b1
    try clear c5
    try clear c5b0
    obtain ⟨x4_1, x5_1, x23_1, rfl, rfl, HA, HK1, HO_4, HB⟩ := hrel
    cases gk with
    | zero => exact absurd HA.out (by simp [schema_Get.l0])
    | succ k1 =>
     have H := HA.out
     clear HA
     simp only [schema_Get.l0] at H
     by_cases c6 : x23_1 < t112
     ·rw [if_pos c6] at H
      have c6b0 : decide (x23_1 < t112) = true := decide_eq_true c6
      clear c6
      replace H := Option.bind_eq_some_iff.mp H
      obtain ⟨⟨t116, t117, t118⟩, A70, H⟩ := H
      replace H : (if t118 = 0 then (if t116 ≥ (IntKind.u64.wrap (wrap64 ((wrap64 ((l0.length : Int) - a1)) - (wrap64 (x5_1 + t117))))) then (some (([] : List (S36)), 0, 5)) else (if 0 ≤ (wrap64 (a1 + (wrap64 (x5_1 + t117)))) then (if (wrap64 (a1 + (wrap64 (x5_1 + t117)))) ≤ (wrap64 ((wrap64 (a1 + (wrap64 (x5_1 + t117)))) + (wrap64 (t116)))) then (if (wrap64 ((wrap64 (a1 + (wrap64 (x5_1 + t117)))) + (wrap64 (t116)))) ≤ (l0.length : Int) then (if 0 ≤ (wrap64 ((wrap64 (a1 + (wrap64 (x5_1 + t117)))) + (wrap64 (t116)))) then (if (wrap64 ((wrap64 (a1 + (wrap64 (x5_1 + t117)))) + (wrap64 (t116)))) < (l0.length : Int) then (if x4_1.length < 5864062014805 then (schema_Get.l0 k1 l0 a1 (x4_1 ++ [(⟨strOfNums ((l0.take ((wrap64 ((wrap64 (a1 + (wrap64 (x5_1 + t117)))) + (wrap64 (t116)))) : Int).toNat).drop ((wrap64 (a1 + (wrap64 (x5_1 + t117)))) : Int).toNat), wrap64 (rd l0 (wrap64 ((wrap64 (a1 + (wrap64 (x5_1 + t117)))) + (wrap64 (t116)))))⟩ : S36)]) (wrap64 ((wrap64 (x5_1 + t117)) + (wrap64 ((wrap64 (t116)) + 1)))) t112 (IntKind.u64.wrap (x23_1 + 1))) else (none)) else (none)) else (none)) else (none)) else (none)) else (none))) else (some (([] : List (S36)), 0, t118))) = some (r1, r2, r3) := H
      have A7 := Aside0.mk A70
      clear A70
      by_cases c8 : t118 = 0
      ·rw [if_pos c8] at H
       have c8b0 : (t118 == 0) = true := beq_iff_eq.mpr c8
       have c8b1 : (t118 != 0) = false := bne_eq_false_iff_eq.mpr c8
       clear c8
       by_cases c9 : t116 ≥ (IntKind.u64.wrap (wrap64 ((wrap64 ((l0.length : Int) - a1)) - (wrap64 (x5_1 + t117)))))
       ·rw [if_pos c9] at H
        have c9b0 : decide ((IntKind.u64.wrap (wrap64 ((wrap64 ((l0.length : Int) - a1)) - (wrap64 (x5_1 + t117))))) ≤ t116) = true := decide_eq_true c9
        clear c9
        simp only [Option.some.injEq, Prod.mk.injEq] at H
        obtain ⟨rfl, rfl, rfl⟩ := H
        go_wp2_with (first | (go_at_call 20; (with_reducible refine (num_Get.calls k1 _ _ l0 (wrap64 (a1 + x5_1)) t116 t117 t118 _ ?side1 ?side2 A7.out).mono ?_); (case side1 => repeat (first | exact (Kd.C_below HR0.out HB.out) | (with_reducible refine Kd.C_alloc ?_ _) | (with_reducible refine Kd.C_drewN ?_ _) | (with_reducible refine Kd.C_drew ?_))); (case side2 => exact HC0.out); rintro e w' ⟨rfl, ⟨nd, rfl⟩⟩))
        go_ret3
        exact ⟨_, by first | rfl | (simp [errW_none, errW_some] <;> rfl) | (simp [*, errW_none, errW_some] <;> rfl), by first | exact Kd.R_nil _ _ _ _ _ | exact Kd.N_nil _ _ _ _ _ | exact Kd.V_nil _ _ _ _ _ | exact Kd.Q_nil _ _ _ _ _ | exact Kd.S_nil _ _ _ _ _, by repeat (first | (with_reducible first | exact HB.out | apply below_alloc | apply pw_below_drewN | apply below_drew1) | exact HB.out)⟩
       ·rw [if_neg c9] at H
        have c9b0 : decide ((IntKind.u64.wrap (wrap64 ((wrap64 ((l0.length : Int) - a1)) - (wrap64 (x5_1 + t117))))) ≤ t116) = false := decide_eq_false c9
        clear c9
        obtain ⟨ji10, hji10⟩ : ∃ j_ : Int, (wrap64 (a1 + (wrap64 (x5_1 + t117)))) = j_ := ⟨_, rfl⟩
        replace H : (if 0 ≤ (ji10) then (if (ji10) ≤ (wrap64 ((ji10) + (wrap64 (t116)))) then (if (wrap64 ((ji10) + (wrap64 (t116)))) ≤ (l0.length : Int) then (if 0 ≤ (wrap64 ((ji10) + (wrap64 (t116)))) then (if (wrap64 ((ji10) + (wrap64 (t116)))) < (l0.length : Int) then (if x4_1.length < 5864062014805 then (schema_Get.l0 k1 l0 a1 (x4_1 ++ [(⟨strOfNums ((l0.take ((wrap64 ((ji10) + (wrap64 (t116)))) : Int).toNat).drop ((ji10) : Int).toNat), wrap64 (rd l0 (wrap64 ((ji10) + (wrap64 (t116)))))⟩ : S36)]) (wrap64 ((wrap64 (x5_1 + t117)) + (wrap64 ((wrap64 (t116)) + 1)))) t112 (IntKind.u64.wrap (x23_1 + 1))) else (none)) else (none)) else (none)) else (none)) else (none)) else (none)) = some (r1, r2, r3) := by first | (rw [hji10] at H; exact H) | (simp only [hji10] at H ⊢; exact H)
        (try rw [hji10] at A7)
        have hji10w : (IntKind.i64.wrap (a1 + (wrap64 (x5_1 + t117)))) = ji10 := (i64_w _).trans hji10
        by_cases c11 : 0 ≤ (ji10)
        ·rw [if_pos c11] at H
         have c11b0 := eq_true c11
         have c11b1 : decide (0 ≤ (ji10)) = true := decide_eq_true c11
         clear c11
         by_cases c12 : (ji10) ≤ (wrap64 ((ji10) + (wrap64 (t116))))
         ·rw [if_pos c12] at H
          have c12b0 := eq_true c12
          have c12b1 : decide ((ji10) ≤ (wrap64 ((ji10) + (wrap64 (t116))))) = true := decide_eq_true c12
          by_cases c13 : (wrap64 ((ji10) + (wrap64 (t116)))) ≤ (l0.length : Int)
          ·rw [if_pos c13] at H
           have c13b0 := eq_true c13
           have c13b1 : decide ((wrap64 ((ji10) + (wrap64 (t116)))) ≤ (l0.length : Int)) = true := decide_eq_true c13
           obtain ⟨ji14, hji14⟩ : ∃ j_ : Int, (wrap64 ((ji10) + (wrap64 (t116)))) = j_ := ⟨_, rfl⟩
           replace H : (if 0 ≤ (ji14) then (if (ji14) < (l0.length : Int) then (if x4_1.length < 5864062014805 then (schema_Get.l0 k1 l0 a1 (x4_1 ++ [(⟨strOfNums ((l0.take ((ji14) : Int).toNat).drop ((ji10) : Int).toNat), wrap64 (rd l0 (ji14))⟩ : S36)]) (wrap64 ((wrap64 (x5_1 + t117)) + (wrap64 ((wrap64 (t116)) + 1)))) t112 (IntKind.u64.wrap (x23_1 + 1))) else (none)) else (none)) else (none)) = some (r1, r2, r3) := by first | (rw [hji14] at H; exact H) | (simp only [hji14] at H ⊢; exact H)
           (try rw [hji14] at c12b0)
           (try rw [hji14] at c12b1)
           (try rw [hji14] at c12)
           (try rw [hji14] at c13b0)
           (try rw [hji14] at c13b1)
           (try rw [hji14] at c13)
           (try rw [hji14] at A7)
           have hji14w : (IntKind.i64.wrap ((ji10) + (wrap64 (t116)))) = ji14 := (i64_w _).trans hji14
           by_cases c15 : 0 ≤ (ji14)
           ·rw [if_pos c15] at H
            have c15b0 : decide (0 ≤ (ji14)) = true := decide_eq_true c15
            clear c15
            by_cases c16 : (ji14) < (l0.length : Int)
            ·rw [if_pos c16] at H
             have c16b0 : decide ((ji14) < (l0.length : Int)) = true := decide_eq_true c16
             clear c16
             by_cases c17 : x4_1.length < 5864062014805
             ·rw [if_pos c17] at H
              have LMc17 := Aside0.mk c17
              clear c17
              obtain ⟨y121, hy121⟩ : ∃ y_ : List (S36), y_ = (x4_1 ++ [(⟨strOfNums ((l0.take ((ji14) : Int).toNat).drop ((ji10) : Int).toNat), wrap64 (rd l0 (ji14))⟩ : S36)]) := ⟨_, rfl⟩
              replace H : (schema_Get.l0 k1 l0 a1 y121 (wrap64 ((wrap64 (x5_1 + t117)) + (wrap64 ((wrap64 (t116)) + 1)))) t112 (IntKind.u64.wrap (x23_1 + 1))) = some (r1, r2, r3) := by first | (rw [hy121]; with_reducible exact H) | (have H2_ := (Option.bind_some _ _).symm.trans H; rw [hy121]; with_reducible exact H2_) | (have H2_ := (Option.bind_some _ _).symm.trans H; with_reducible exact H2_) | with_reducible exact H | (rw [hy121]; exact H) | exact H
              have Ny121 := Aside0.mk hy121
              clear hy121
              have H' := Aside0.mk H
              clear H
              try go_wp2_with (first | (go_at_call 20; (with_reducible refine (num_Get.calls k1 _ _ l0 (wrap64 (a1 + x5_1)) t116 t117 t118 _ ?side1 ?side2 A7.out).mono ?_); (case side1 => repeat (first | exact (Kd.C_below HR0.out HB.out) | (with_reducible refine Kd.C_alloc ?_ _) | (with_reducible refine Kd.C_drewN ?_ _) | (with_reducible refine Kd.C_drew ?_))); (case side2 => exact HC0.out); rintro e w' ⟨rfl, ⟨nd, rfl⟩⟩))
              (try (rw [drewN_self wr]; generalize hq_ : World.drewN wr _ = wr; have n0_ : Aside0 (Kd.R k36 36 wr w.heap.size (fun _ => True) u4 x4_1) := ⟨by rw [← hq_]; exact (by (with_reducible repeat (first | apply Kd.R_alloc | apply Kd.R_drewN | apply Kd.R_drew)); exact HO_4.out)⟩; have n1_ : Aside0 (Below w.heap.size w wr) := ⟨by rw [← hq_]; exact (by repeat (first | (with_reducible first | exact HB.out | apply below_alloc | apply pw_below_drewN | apply below_drew1) | exact HB.out))⟩; clear HO_4 HB hq_; have HO_4 := n0_; have HB := n1_; clear n0_ n1_))
              have n0_ := Aside0.mk (Kd.R_drew HO_4.out)
              have n1_ := Aside0.mk (below_drew1 HB.out)
              clear HO_4
              clear HB
              have HO_4 := n0_
              have HB := n1_
              clear n0_ n1_
              obtain ⟨i019, hi019, _, hsz19, _⟩ := info_parts info5
              obtain ⟨A19, hcut19, hA19, hC19⟩ := print_mid_of (P := Try.prog) (Value.int .u8) 0 22 5 .i64 .i64 Try.underlying22 hi019 hsz19 A0 c0 l0 (ji10) (ji14) (of_decide_eq_true (by first | (with_reducible assumption) | assumption)) (by first | omega | exact of_decide_eq_true (by first | (with_reducible assumption) | assumption)) (of_decide_eq_true (by first | (with_reducible assumption) | assumption)) HC0.out
              have HR119 := Aside0.mk (Kd.C_of_reads (h1 := fun _ => rfl) (hA19 _ (Kd.reads_of_C HR0.out)))
              have HC119 := Aside0.mk hC19
              clear hA19 hC19 hi019 hsz19
              have p120 : 0 ≤ ((ji14) : Int) := of_decide_eq_true (by first | (with_reducible assumption) | assumption)
              have q120 : (ji14) < (l0.length : Int) := of_decide_eq_true (by first | (with_reducible assumption) | assumption)
              obtain ⟨ad120, e120, hx120_0⟩ := Kd.at_int HR0.out (ji14) p120 q120
              have hw120_0 := hx120_0
              cases e120
              replace hx120_0 := (HB.out.cell (World.block_lt_of_cell? w _ hx120_0)).trans hx120_0
              replace p120 := eq_true p120
              replace q120 := eq_true q120
              refine start_ (n := 27) (S := fun w' => w'.cell? (ad120.add ((ji14)).toNat) = some (.int .u8 (rd l0 (ji14)))) (ds := []) #[false, false, false, false, false, false, false, false, false, false, false, false, false, false, false, false, false, false, false, false, false, false, false, false, false, false, false] (by kernel_rfl) rfl rfl (((HB.out.cell (World.block_lt_of_cell? w _ hw120_0)).trans hw120_0)) (fun hHeld => ?_); refine with_tabW schema_Get.tab16 schema_Get.bits16 (fun HT_ HW_ => ?_)
              generalize wr.drew = w18 at HO_4 HB HR119 hx120_0 hHeld ⊢
              refine pure_ (i := 0) (N := some 49) (v := ?_) (a' := ?_) #[true, false, false, false, false, false, false, false, false, false, false, false, false, false, false, false, false, false, false, false, false, false, false, false, false, false, false] rfl rfl (any_of HT_.out (by kernel_rfl)) (fun _ _ _ h => h) (Or.inl ⟨by rfl, ?_⟩) ?_ ?_
              rotate_left
              ·intro w'
               go_simp
               with_reducible rfl
              rotate_left
              ·simp only [Act.put, List.setIfInBounds_toArray, List.set_cons_zero, List.set_cons_succ, i64_w, i32_w]
               rfl
              refine pure_ (i := 1) (N := some 50) (v := ?_) (a' := ?_) #[true, true, false, false, false, false, false, false, false, false, false, false, false, false, false, false, false, false, false, false, false, false, false, false, false, false, false] rfl rfl (any_of HT_.out (by kernel_rfl)) (fun _ _ _ h => h) (Or.inl ⟨by rfl, ?_⟩) ?_ ?_
              rotate_left
              ·intro w'
               go_simp
               with_reducible rfl
              rotate_left
              ·simp only [Act.put, List.setIfInBounds_toArray, List.set_cons_zero, List.set_cons_succ, i64_w, i32_w]
               rfl
              refine pure_ (i := 2) (N := some 51) (v := ?_) (a' := ?_) #[true, true, true, false, false, false, false, false, false, false, false, false, false, false, false, false, false, false, false, false, false, false, false, false, false, false, false] rfl rfl (any_of HT_.out (by kernel_rfl)) (fun _ _ _ h => h) (Or.inl ⟨by rfl, ?_⟩) ?_ ?_
              rotate_left
              ·intro w'
               go_simp
               with_reducible rfl
              rotate_left
              ·simp only [Act.put, List.setIfInBounds_toArray, List.set_cons_zero, List.set_cons_succ, i64_w, i32_w]
               rfl
              refine pure_ (i := 3) (N := some 52) (v := ?_) (a' := ?_) #[true, true, true, true, false, false, false, false, false, false, false, false, false, false, false, false, false, false, false, false, false, false, false, false, false, false, false] rfl rfl (any_of HT_.out (by kernel_rfl)) (fun _ _ _ h => h) (Or.inl ⟨by rfl, ?_⟩) ?_ ?_
              rotate_left
              ·intro w'
               go_simp
               with_reducible rfl
              rotate_left
              ·simp only [Act.put, List.setIfInBounds_toArray, List.set_cons_zero, List.set_cons_succ, i64_w, i32_w]
               rfl
              refine pure_ (i := 4) (N := some 53) (v := ?_) (a' := ?_) #[true, true, true, true, true, false, false, false, false, false, false, false, false, false, false, false, false, false, false, false, false, false, false, false, false, false, false] rfl rfl (any_of HT_.out (by kernel_rfl)) (fun _ _ _ h => h) (Or.inl ⟨by rfl, ?_⟩) ?_ ?_
              rotate_left
              ·intro w'
               go_simp
               with_reducible rfl
              rotate_left
              ·simp only [Act.put, List.setIfInBounds_toArray, List.set_cons_zero, List.set_cons_succ, i64_w, i32_w]
               rfl
              refine pure_ (i := 5) (N := some 54) (v := ?_) (a' := ?_) #[true, true, true, true, true, true, false, false, false, false, false, false, false, false, false, false, false, false, false, false, false, false, false, false, false, false, false] rfl rfl (any_of HT_.out (by kernel_rfl)) (fun _ _ _ h => h) (Or.inl ⟨by rfl, ?_⟩) ?_ ?_
              rotate_left
              ·intro w'
               go_simp
               with_reducible rfl
              rotate_left
              ·simp only [Act.put, List.setIfInBounds_toArray, List.set_cons_zero, List.set_cons_succ, i64_w, i32_w]
               rfl
              refine pure_ (i := 6) (N := some 55) (v := ?_) (a' := ?_) #[true, true, true, true, true, true, true, false, false, false, false, false, false, false, false, false, false, false, false, false, false, false, false, false, false, false, false] rfl rfl (any_of HT_.out (by kernel_rfl)) (fun _ _ _ h => h) (Or.inl ⟨by rfl, ?_⟩) ?_ ?_
              rotate_left
              ·intro w'
               go_simp
               with_reducible rfl
              rotate_left
              ·simp only [Act.put, List.setIfInBounds_toArray, List.set_cons_zero, List.set_cons_succ, i64_w, i32_w]
               rfl
              refine pure_ (i := 7) (N := some 56) (v := ?_) (a' := ?_) #[true, true, true, true, true, true, true, true, false, false, false, false, false, false, false, false, false, false, false, false, false, false, false, false, false, false, false] rfl rfl (any_of HT_.out (by kernel_rfl)) (fun _ _ _ h => h) (Or.inl ⟨by rfl, ?_⟩) ?_ ?_
              rotate_left
              ·intro w'
               go_simp
               with_reducible rfl
              rotate_left
              ·simp only [Act.put, List.setIfInBounds_toArray, List.set_cons_zero, List.set_cons_succ, i64_w, i32_w]
               rfl
              refine pure_ (i := 8) (N := some 57) (v := ?_) (a' := ?_) #[true, true, true, true, true, true, true, true, true, false, false, false, false, false, false, false, false, false, false, false, false, false, false, false, false, false, false] rfl rfl (any_of HT_.out (by kernel_rfl)) (fun _ _ _ h => h) (Or.inl ⟨by rfl, ?_⟩) ?_ ?_
              rotate_left
              ·intro w'
               go_simp
               with_reducible rfl
              rotate_left
              ·simp only [Act.put, List.setIfInBounds_toArray, List.set_cons_zero, List.set_cons_succ, i64_w, i32_w]
               rfl
              refine pure_ (i := 9) (N := some 58) (v := ?_) (a' := ?_) #[true, true, true, true, true, true, true, true, true, true, false, false, false, false, false, false, false, false, false, false, false, false, false, false, false, false, false] rfl rfl (any_of HT_.out (by kernel_rfl)) (fun _ _ _ h => h) (Or.inl ⟨by rfl, ?_⟩) ?_ ?_
              rotate_left
              ·intro w'
               go_simp
               with_reducible rfl
              rotate_left
              ·simp only [Act.put, List.setIfInBounds_toArray, List.set_cons_zero, List.set_cons_succ, i64_w, i32_w]
               rfl
              refine pure_ (i := 10) (N := some 59) (v := ?_) (a' := ?_) #[true, true, true, true, true, true, true, true, true, true, true, false, false, false, false, false, false, false, false, false, false, false, false, false, false, false, false] rfl rfl (any_of HT_.out (by kernel_rfl)) (fun _ _ _ h => h) (Or.inl ⟨by rfl, ?_⟩) ?_ ?_
              rotate_left
              ·intro w'
               go_simp
               with_reducible rfl
              rotate_left
              ·simp only [Act.put, List.setIfInBounds_toArray, List.set_cons_zero, List.set_cons_succ, i64_w, i32_w]
               rfl
              refine pure_ (i := 11) (N := some 60) (v := ?_) (a' := ?_) #[true, true, true, true, true, true, true, true, true, true, true, true, false, false, false, false, false, false, false, false, false, false, false, false, false, false, false] rfl rfl (any_of HT_.out (by kernel_rfl)) (fun _ _ _ h => h) (Or.inl ⟨by rfl, ?_⟩) ?_ ?_
              rotate_left
              ·intro w'
               go_simp
               with_reducible rfl
              rotate_left
              ·simp only [Act.put, List.setIfInBounds_toArray, List.set_cons_zero, List.set_cons_succ, i64_w, i32_w]
               rfl
              refine pure_ (i := 13) (N := some 62) (v := ?_) (a' := ?_) #[true, true, true, true, true, true, true, true, true, true, true, true, false, true, false, false, false, false, false, false, false, false, false, false, false, false, false] rfl rfl (any_of HT_.out (by kernel_rfl)) (fun _ _ _ h => h) (Or.inl ⟨by rfl, ?_⟩) ?_ ?_
              rotate_left
              ·intro w'
               go_simp
               with_reducible rfl
              rotate_left
              ·simp only [Act.put, List.setIfInBounds_toArray, List.set_cons_zero, List.set_cons_succ, i64_w, i32_w]
               rfl
              refine pure_ (i := 14) (N := some 63) (v := ?_) (a' := ?_) #[true, true, true, true, true, true, true, true, true, true, true, true, false, true, true, false, false, false, false, false, false, false, false, false, false, false, false] rfl rfl (any_of HT_.out (by kernel_rfl)) (fun _ _ _ h => h) (Or.inl ⟨by rfl, ?_⟩) ?_ ?_
              rotate_left
              ·intro w'
               go_simp
               with_reducible rfl
              rotate_left
              ·simp only [Act.put, List.setIfInBounds_toArray, List.set_cons_zero, List.set_cons_succ, i64_w, i32_w]
               rfl
              refine pure_ (i := 15) (N := some 64) (v := ?_) (a' := ?_) #[true, true, true, true, true, true, true, true, true, true, true, true, false, true, true, true, false, false, false, false, false, false, false, false, false, false, false] rfl rfl (any_of HT_.out (by kernel_rfl)) (fun _ _ _ h => h) (Or.inl ⟨by rfl, ?_⟩) ?_ ?_
              rotate_left
              ·intro w'
               go_simp
               with_reducible rfl
              rotate_left
              ·simp only [Act.put, List.setIfInBounds_toArray, List.set_cons_zero, List.set_cons_succ, i64_w, i32_w]
               rfl
              refine pure_ (i := 16) (N := some 65) (v := ?_) (a' := ?_) #[true, true, true, true, true, true, true, true, true, true, true, true, false, true, true, true, true, false, false, false, false, false, false, false, false, false, false] rfl rfl (any_of HT_.out (by kernel_rfl)) (fun _ _ _ h => h) (Or.inl ⟨by rfl, ?_⟩) ?_ ?_
              rotate_left
              ·intro w'
               go_simp
               with_reducible rfl
              rotate_left
              ·simp only [Act.put, List.setIfInBounds_toArray, List.set_cons_zero, List.set_cons_succ, i64_w, i32_w]
               rfl
              refine pure_ (i := 17) (N := some 66) (v := ?_) (a' := ?_) #[true, true, true, true, true, true, true, true, true, true, true, true, false, true, true, true, true, true, false, false, false, false, false, false, false, false, false] rfl rfl (any_of HT_.out (by kernel_rfl)) (fun _ _ _ h => h) (Or.inl ⟨by rfl, ?_⟩) ?_ ?_
              rotate_left
              ·intro w'
               go_simp
               with_reducible rfl
              rotate_left
              ·simp only [Act.put, List.setIfInBounds_toArray, List.set_cons_zero, List.set_cons_succ, i64_w, i32_w]
               rfl
              refine pure_ (i := 18) (N := some 67) (v := ?_) (a' := ?_) #[true, true, true, true, true, true, true, true, true, true, true, true, false, true, true, true, true, true, true, false, false, false, false, false, false, false, false] rfl rfl (any_of HT_.out (by kernel_rfl)) (fun _ _ _ h => h) (Or.inl ⟨by rfl, ?_⟩) ?_ ?_
              rotate_left
              ·intro w'
               go_simp
               with_reducible rfl
              rotate_left
              ·simp only [Act.put, List.setIfInBounds_toArray, List.set_cons_zero, List.set_cons_succ, i64_w, i32_w]
               rfl
              refine pure_ (i := 19) (N := some 68) (v := ?_) (a' := ?_) #[true, true, true, true, true, true, true, true, true, true, true, true, false, true, true, true, true, true, true, true, false, false, false, false, false, false, false] rfl rfl (any_of HT_.out (by kernel_rfl)) (fun _ _ _ h => h) (Or.inl ⟨by rfl, ?_⟩) ?_ ?_
              rotate_left
              ·intro w'
               go_simp
               with_reducible rfl
              rotate_left
              ·simp only [Act.put, List.setIfInBounds_toArray, List.set_cons_zero, List.set_cons_succ, i64_w, i32_w]
               rfl
              refine pure_ (i := 20) (N := some 69) (v := ?_) (a' := ?_) #[true, true, true, true, true, true, true, true, true, true, true, true, false, true, true, true, true, true, true, true, true, false, false, false, false, false, false] rfl rfl (any_of HT_.out (by kernel_rfl)) (fun _ _ _ h => h) (Or.inl ⟨by rfl, ?_⟩) ?_ ?_
              rotate_left
              ·intro w'
               go_simp
               with_reducible rfl
              rotate_left
              ·simp only [Act.put, List.setIfInBounds_toArray, List.set_cons_zero, List.set_cons_succ, i64_w, i32_w]
               rfl
              refine take_ (i := 21) (N := some 70) (v := ?_) (a' := ?_) #[true, true, true, true, true, true, true, true, true, true, true, true, false, true, true, true, true, true, true, true, true, true, false, false, false, false, false] rfl rfl (take_ofW HT_.out HW_.out (by kernel_rfl)) (fun _ _ _ h => h) (Or.inl ⟨by rfl, ?_⟩) hHeld ?_ ?_
              rotate_left
              ·intro w' s0
               go_simp
               with_reducible rfl
              rotate_left
              ·simp only [Act.put, List.setIfInBounds_toArray, List.set_cons_zero, List.set_cons_succ, i64_w, i32_w]
               rfl
              refine pure_ (i := 22) (N := some 71) (v := ?_) (a' := ?_) #[true, true, true, true, true, true, true, true, true, true, true, true, false, true, true, true, true, true, true, true, true, true, true, false, false, false, false] rfl rfl (any_of HT_.out (by kernel_rfl)) (fun _ _ _ h => h) (Or.inl ⟨by rfl, ?_⟩) ?_ ?_
              rotate_left
              ·intro w'
               go_simp
               with_reducible rfl
              rotate_left
              ·simp only [Act.put, List.setIfInBounds_toArray, List.set_cons_zero, List.set_cons_succ, i64_w, i32_w]
               rfl
              refine one_ (i := 12) (N := some 61) #[true, true, true, true, true, true, true, true, true, true, true, true, true, true, true, true, true, true, true, true, true, true, true, false, false, false, false] rfl rfl (one_of HT_.out (by kernel_rfl)) (by decide) (fun K hK => ?_)
              have hcv20 := Kd.C_string (P := Try.prog) (A := A19) (c := (c0 - (ji10).toNat)) Try.underlying22 Try.underlying5 Try.underlying9 (Kd.C_below HR119.out HB.out); (try rw [show ((l0.take ((ji14) : Int).toNat).drop ((ji10) : Int).toNat).length = ((ji14).toNat - (ji10).toNat) from (by rw [List.length_drop, List.length_take]; have h_ : ((ji14) : Int) ≤ (l0.length : Int) := of_decide_eq_true (by first | (with_reducible assumption) | assumption); omega)] at hcv20)
              refine value_ (w1 := ?_) (v := ?_) (by rfl) rfl ?_ ?_
              rotate_left 2
              ·go_simp
               constructor
               ·rfl
               ·rfl
              clear hcv20
              refine hK.out _ _ (((HB.out.cell (World.block_lt_of_cell? w _ hw120_0)).trans hw120_0)) (fun hHeld => ?_)
              clear hK K
              refine norm_ (a' := ?_) ?_ ?_
              rotate_left
              ·show Act.put _ (some 61) _ = _
               simp only [Act.put, List.setIfInBounds_toArray, List.set_cons_zero, List.set_cons_succ, i64_w, i32_w]
               rfl
              refine pure_ (i := 23) (N := some 72) (v := ?_) (a' := ?_) #[true, true, true, true, true, true, true, true, true, true, true, true, true, true, true, true, true, true, true, true, true, true, true, true, false, false, false] rfl rfl (any_of HT_.out (by kernel_rfl)) (fun _ _ _ h => h) (Or.inl ⟨by rfl, ?_⟩) ?_ ?_
              rotate_left
              ·intro w'
               go_simp
               with_reducible rfl
              rotate_left
              ·simp only [Act.put, List.setIfInBounds_toArray, List.set_cons_zero, List.set_cons_succ, i64_w, i32_w]
               rfl
              refine one_ (i := 24) (N := some 73) #[true, true, true, true, true, true, true, true, true, true, true, true, true, true, true, true, true, true, true, true, true, true, true, true, true, false, false] rfl rfl (one_of HT_.out (by kernel_rfl)) (by decide) (fun K hK => ?_)
              refine value_ (w1 := ?_) (v := ?_) (by rfl) rfl ?_ ?_
              rotate_left 2
              ·go_simp
               constructor
               ·rfl
               ·rfl
              refine hK.out _ _ ((World.cell?_alloc_lt _ _ _ (World.block_lt_of_cell? _ _ (((HB.out.cell (World.block_lt_of_cell? w _ hw120_0)).trans hw120_0)))).trans (((HB.out.cell (World.block_lt_of_cell? w _ hw120_0)).trans hw120_0))) (fun hHeld => ?_)
              clear hK K
              refine norm_ (a' := ?_) ?_ ?_
              rotate_left
              ·show Act.put _ (some 73) _ = _
               simp only [Act.put, List.setIfInBounds_toArray, List.set_cons_zero, List.set_cons_succ, i64_w, i32_w]
               rfl
              refine one_ (i := 25) (N := some 74) #[true, true, true, true, true, true, true, true, true, true, true, true, true, true, true, true, true, true, true, true, true, true, true, true, true, true, false] rfl rfl (one_of HT_.out (by kernel_rfl)) (by decide) (fun K hK => ?_)
              refine Kd.R_append_step k36 (w0 := w) w.heap.size (by rfl) (.tmp 49) (.tmp 73) 25 36 (.agg #[(.string ⟨#[]⟩), (.int .i64 0)]) 24 rfl Try.underlying25 info36 rfl (by decide) (by omega) u4 x4_1 (⟨strOfNums ((l0.take ((ji14) : Int).toNat).drop ((ji10) : Int).toNat), wrap64 (rd l0 (ji14))⟩ : S36) [.string (strOfNums ((l0.take ((ji14) : Int).toNat).drop ((ji10) : Int).toNat)), .int .i64 (wrap64 (rd l0 (ji14)))] (fun _ => True) (fun _ => False) rfl rfl ?aP (fun _ hk => hk.elim) ?aF ?aO ?aB ?aS ?aL ?_
              (case aP => exact k36_mkM _ _ _ (⟨strOfNums ((l0.take ((ji14) : Int).toNat).drop ((ji10) : Int).toNat), wrap64 (rd l0 (ji14))⟩ : S36))
              (case aB => exact (by repeat (first | (with_reducible first | exact HB.out | apply below_alloc | apply pw_below_drewN | apply below_drew1) | exact HB.out)))
              (case aF => exact (fun _ _ => trivial))
              (case aO => exact (by (with_reducible repeat (first | apply Kd.R_alloc | apply Kd.R_drewN | apply Kd.R_drew)); exact HO_4.out))
              (case aS => exact (below_size (by repeat (first | (with_reducible first | exact HB.out | apply below_alloc | apply pw_below_drewN | apply below_drew1) | exact HB.out))))
              (case aL => have := LMc17.out; omega)
              intro v122 w21 ho hb hg hat
              rw [← Ny121.out] at ho
              have n0_ := Aside0.mk (hb)
              have n1_ := Aside0.mk (ho)
              clear HB
              clear HO_4
              have HB := n0_
              have HO123 := n1_
              clear n0_ n1_
              clear ho hb hg hat
              refine hK.out _ _ (((HB.out.cell (World.block_lt_of_cell? w _ hw120_0)).trans hw120_0)) (fun hHeld => ?_)
              clear hK K
              refine norm_ (a' := ?_) ?_ ?_
              rotate_left
              ·show Act.put _ (some 74) _ = _
               simp only [Act.put, List.setIfInBounds_toArray, List.set_cons_zero, List.set_cons_succ, i64_w, i32_w]
               rfl
              refine pure_ (i := 26) (N := some 4) (v := ?_) (a' := ?_) #[true, true, true, true, true, true, true, true, true, true, true, true, true, true, true, true, true, true, true, true, true, true, true, true, true, true, true] rfl rfl (any_of HT_.out (by kernel_rfl)) (fun _ _ _ h => h) (Or.inl ⟨by rfl, ?_⟩) ?_ ?_
              rotate_left
              ·intro w'
               go_simp
               with_reducible rfl
              rotate_left
              ·simp only [Act.put, List.setIfInBounds_toArray, List.set_cons_zero, List.set_cons_succ, i64_w, i32_w]
               rfl
              refine done_ (done_of HT_.out (by kernel_rfl)) ?_
              try go_wp2
              first | go_roundg k1 | (simp only [← hji10, ← hji14] at H' ⊢; go_roundg k1)
              case measure => have := HK1.out; omega
              case rel => exact ⟨(y121), (wrap64 ((wrap64 (x5_1 + t117)) + (wrap64 ((wrap64 (t116)) + 1)))), (IntKind.u64.wrap (x23_1 + 1)), (by first | rfl | (simp; done) | (simp [*]; done)), (by first | rfl | (simp; done) | (simp [*]; done)), H', ⟨by have := HK1.out; omega⟩, ⟨by (with_reducible repeat (first | apply Kd.R_alloc | apply Kd.R_drewN | apply Kd.R_drew)); exact HO123.out⟩, ⟨by repeat (first | (with_reducible first | exact HB.out | apply below_alloc | apply pw_below_drewN | apply below_drew1) | exact HB.out)⟩⟩
             ·rw [if_neg c17] at H
              exact absurd H (by simp)
            ·rw [if_neg c16] at H
             exact absurd H (by simp)
           ·rw [if_neg c15] at H
            exact absurd H (by simp)
          ·rw [if_neg c13] at H
           exact absurd H (by simp)
         ·rw [if_neg c12] at H
          exact absurd H (by simp)
        ·rw [if_neg c11] at H
         exact absurd H (by simp)
      ·rw [if_neg c8] at H
       have c8b0 : (t118 == 0) = false := beq_eq_false_iff_ne.mpr c8
       have c8b1 : (t118 != 0) = true := bne_iff_ne.mpr c8
       simp only [Option.some.injEq, Prod.mk.injEq] at H
       obtain ⟨rfl, rfl, rfl⟩ := H
       go_wp2_with (first | (go_at_call 20; (with_reducible refine (num_Get.calls k1 _ _ l0 (wrap64 (a1 + x5_1)) t116 t117 t118 _ ?side1 ?side2 A7.out).mono ?_); (case side1 => repeat (first | exact (Kd.C_below HR0.out HB.out) | (with_reducible refine Kd.C_alloc ?_ _) | (with_reducible refine Kd.C_drewN ?_ _) | (with_reducible refine Kd.C_drew ?_))); (case side2 => exact HC0.out); rintro e w' ⟨rfl, ⟨nd, rfl⟩⟩))
       go_ret3
       exact ⟨_, by first | rfl | (simp [errW_none, errW_some] <;> rfl) | (simp [*, errW_none, errW_some] <;> rfl), by first | exact Kd.R_nil _ _ _ _ _ | exact Kd.N_nil _ _ _ _ _ | exact Kd.V_nil _ _ _ _ _ | exact Kd.Q_nil _ _ _ _ _ | exact Kd.S_nil _ _ _ _ _, by repeat (first | (with_reducible first | exact HB.out | apply below_alloc | apply pw_below_drewN | apply below_drew1) | exact HB.out)⟩
     ·rw [if_neg c6] at H
      have c6b0 : decide (x23_1 < t112) = false := decide_eq_false c6
      clear c6
      replace H := Option.bind_eq_some_iff.mp H
      obtain ⟨t115, A220, H⟩ := H
      replace H : (if t115 = 0 then (some (x4_1, x5_1, 0)) else (some (([] : List (S36)), 0, t115))) = some (r1, r2, r3) := H
      have A22 := Aside0.mk A220
      clear A220
      by_cases c23 : t115 = 0
      ·rw [if_pos c23] at H
       have c23b0 : (t115 == 0) = true := beq_iff_eq.mpr c23
       have c23b1 : (t115 != 0) = false := bne_eq_false_iff_eq.mpr c23
       clear c23
       simp only [Option.some.injEq, Prod.mk.injEq] at H
       obtain ⟨rfl, rfl, rfl⟩ := H
       obtain ⟨Ao24, co24, eo24⟩ := Kd.R_slice HO_4.out
       subst eo24
       go_wp2_with (first | ((with_reducible refine gate_callee (f := 10) rfl ?_); refine goesL_ (some 82) rfl rfl Try.func10 (by kernel_rfl) rfl #[.slice Ao24 x4_1.length co24] rfl (by (try simp only [List.map_toArray, List.map_cons, List.map_nil]); first | done | rfl | (simp only [List.length_drop, List.length_take]; rfl)) ?_; (with_reducible refine (schema_Check.calls k1 _ _ x4_1 t115 _ ?side1 ?side2 A22.out).mono ?_); (case side1 => repeat (first | exact (Kd.R_reads' HO_4.out).2.2 | (with_reducible refine Kd.C_alloc ?_ _) | (with_reducible refine Kd.C_drewN ?_ _) | (with_reducible refine Kd.C_drew ?_))); (case side2 => exact (Kd.R_reads' HO_4.out).2.1); rintro e w25 ⟨rfl, hb⟩; refine ⟨_, rfl, ?_⟩; have n0_ := Aside0.mk (Kd.R_below (by (with_reducible repeat (first | apply Kd.R_alloc | apply Kd.R_drewN | apply Kd.R_drew)); exact HO_4.out) hb); have n1_ := Aside0.mk (below_step (by repeat (first | (with_reducible first | exact HB.out | apply below_alloc | apply pw_below_drewN | apply below_drew1) | exact HB.out)) hb); clear HO_4; clear HB; have HO_4 := n0_; have HB := n1_; clear n0_ n1_; (try clear hb); (try clear hb2); (try clear hk); (try clear hi)))
       go_ret3
       exact ⟨_, by first | rfl | (simp [errW_none, errW_some] <;> rfl) | (simp [*, errW_none, errW_some] <;> rfl), by (with_reducible repeat (first | apply Kd.R_alloc | apply Kd.R_drewN | apply Kd.R_drew)); exact HO_4.out, by repeat (first | (with_reducible first | exact HB.out | apply below_alloc | apply pw_below_drewN | apply below_drew1) | exact HB.out)⟩
      ·rw [if_neg c23] at H
       have c23b0 : (t115 == 0) = false := beq_eq_false_iff_ne.mpr c23
       have c23b1 : (t115 != 0) = true := bne_iff_ne.mpr c23
       simp only [Option.some.injEq, Prod.mk.injEq] at H
       obtain ⟨rfl, rfl, rfl⟩ := H
       obtain ⟨Ao26, co26, eo26⟩ := Kd.R_slice HO_4.out
       subst eo26
       go_wp2_with (first | ((with_reducible refine gate_callee (f := 10) rfl ?_); refine goesL_ (some 82) rfl rfl Try.func10 (by kernel_rfl) rfl #[.slice Ao26 x4_1.length co26] rfl (by (try simp only [List.map_toArray, List.map_cons, List.map_nil]); first | done | rfl | (simp only [List.length_drop, List.length_take]; rfl)) ?_; (with_reducible refine (schema_Check.calls k1 _ _ x4_1 t115 _ ?side1 ?side2 A22.out).mono ?_); (case side1 => repeat (first | exact (Kd.R_reads' HO_4.out).2.2 | (with_reducible refine Kd.C_alloc ?_ _) | (with_reducible refine Kd.C_drewN ?_ _) | (with_reducible refine Kd.C_drew ?_))); (case side2 => exact (Kd.R_reads' HO_4.out).2.1); rintro e w27 ⟨rfl, hb⟩; refine ⟨_, rfl, ?_⟩; have n0_ := Aside0.mk (Kd.R_below (by (with_reducible repeat (first | apply Kd.R_alloc | apply Kd.R_drewN | apply Kd.R_drew)); exact HO_4.out) hb); have n1_ := Aside0.mk (below_step (by repeat (first | (with_reducible first | exact HB.out | apply below_alloc | apply pw_below_drewN | apply below_drew1) | exact HB.out)) hb); clear HO_4; clear HB; have HO_4 := n0_; have HB := n1_; clear n0_ n1_; (try clear hb); (try clear hb2); (try clear hk); (try clear hi)))
       go_ret3
       exact ⟨_, by first | rfl | (simp [errW_none, errW_some] <;> rfl) | (simp [*, errW_none, errW_some] <;> rfl), by first | exact Kd.R_nil _ _ _ _ _ | exact Kd.N_nil _ _ _ _ _ | exact Kd.V_nil _ _ _ _ _ | exact Kd.Q_nil _ _ _ _ _ | exact Kd.S_nil _ _ _ _ _, by repeat (first | (with_reducible first | exact HB.out | apply below_alloc | apply pw_below_drewN | apply below_drew1) | exact HB.out)⟩
 ·rw [if_neg c4] at H
  have c4b0 : (t114 == 0) = false := beq_eq_false_iff_ne.mpr c4
  have c4b1 : (t114 != 0) = true := bne_iff_ne.mpr c4
  simp only [Option.some.injEq, Prod.mk.injEq] at H
  obtain ⟨rfl, rfl, rfl⟩ := H
  go_enter Try.func6, Try.ntmps6
  go_wp2_with (first | (go_at_call 20; (with_reducible refine (num_Get.calls k _ _ l0 a1 t112 t113 t114 _ ?side1 ?side2 A3.out).mono ?_); (case side1 => repeat (first | exact HR0.out | (with_reducible refine Kd.C_alloc ?_ _) | (with_reducible refine Kd.C_drewN ?_ _) | (with_reducible refine Kd.C_drew ?_))); (case side2 => exact HC0.out); rintro e w' ⟨rfl, ⟨nd, rfl⟩⟩))
  go_ret3
  exact ⟨_, by first | rfl | (simp [errW_none, errW_some] <;> rfl) | (simp [*, errW_none, errW_some] <;> rfl), by first | exact Kd.R_nil _ _ _ _ _ | exact Kd.N_nil _ _ _ _ _ | exact Kd.V_nil _ _ _ _ _ | exact Kd.Q_nil _ _ _ _ _ | exact Kd.S_nil _ _ _ _ _, by repeat (first | (with_reducible first | exact HB.out | apply below_alloc | apply pw_below_drewN | apply below_drew1) | exact HB.out)⟩

/-! ### norialaw10_Three: function 12 -/
def norialaw10_Three.f  : Option ((List (S36))) := some (([(⟨(⟨#[110]⟩ : ByteArray), 1⟩ : S36), (⟨(⟨#[115]⟩ : ByteArray), 2⟩ : S36), (⟨(⟨#[112]⟩ : ByteArray), 3⟩ : S36)] : List (S36)))
set_option maxHeartbeats 8000000 in
set_option maxRecDepth 100000 in
theorem norialaw10_Three.calls  (r : List (S36)) (w : World) (h : norialaw10_Three.f  = some r) :
  Calls Try.prog 12 #[] w fun e w' => ∃ v0_ : Value, e = .returned (v0_) ∧ Kd.R k36 36 w' w.heap.size (fun _ => True) v0_ r ∧ Below w.heap.size w w' := by
 have hu36 := Try.underlying36
 have HB := Aside0.mk (Below.refl w.heap.size w)
 have H : (some (([(⟨(⟨#[110]⟩ : ByteArray), 1⟩ : S36), (⟨(⟨#[115]⟩ : ByteArray), 2⟩ : S36), (⟨(⟨#[112]⟩ : ByteArray), 3⟩ : S36)] : List (S36)))) = some r := h
 clear h
 obtain ⟨y124, hy124⟩ : ∃ y_ : List (S36), y_ = (([(⟨(⟨#[110]⟩ : ByteArray), 1⟩ : S36), (⟨(⟨#[115]⟩ : ByteArray), 2⟩ : S36), (⟨(⟨#[112]⟩ : ByteArray), 3⟩ : S36)] : List (S36))) := ⟨_, rfl⟩
 replace H : (some y124) = some r := by first | (rw [hy124]; with_reducible exact H) | (have H2_ := (Option.bind_some _ _).symm.trans H; rw [hy124]; with_reducible exact H2_) | (have H2_ := (Option.bind_some _ _).symm.trans H; with_reducible exact H2_) | with_reducible exact H | (rw [hy124]; exact H) | exact H
 have Ny124 := Aside0.mk hy124
 clear hy124
 obtain rfl := Option.some.inj H
 go_enter Try.func12, Try.ntmps12
 go_wp2_with (first | ((with_reducible refine gate_dst (N := 4) rfl ?_); refine Kd.R_lit k36 _ 36 ?hg (N := 4) ?hd (xs := ([(⟨(⟨#[110]⟩ : ByteArray), 1⟩ : S36), (⟨(⟨#[115]⟩ : ByteArray), 2⟩ : S36), (⟨(⟨#[112]⟩ : ByteArray), 3⟩ : S36)] : List (S36))) (inner := [.string (⟨#[110]⟩ : ByteArray), .int .i64 1, .string (⟨#[115]⟩ : ByteArray), .int .i64 2, .string (⟨#[112]⟩ : ByteArray), .int .i64 3]) (ok := fun _ => True) (okp := fun _ => True) ?hr ?hp (fun _ hk => hk) trivial (Below.refl _ _) (Nat.le_refl _) (by simp) ?_; (case hd => rfl); (case hg => rfl); (case hr => first | (go_simp; done) | (go_simp; rfl)); (case hp => exact (Reps.c2 (show Kd.M k36 _ _ _ (⟨(⟨#[110]⟩ : ByteArray), 1⟩ : S36) [.string (⟨#[110]⟩ : ByteArray), .int .i64 1] from (k36_mkM _ _ _ (⟨(⟨#[110]⟩ : ByteArray), 1⟩ : S36) )) (Reps.c2 (show Kd.M k36 _ _ _ (⟨(⟨#[115]⟩ : ByteArray), 2⟩ : S36) [.string (⟨#[115]⟩ : ByteArray), .int .i64 2] from (k36_mkM _ _ _ (⟨(⟨#[115]⟩ : ByteArray), 2⟩ : S36) )) (Reps.c2 (show Kd.M k36 _ _ _ (⟨(⟨#[112]⟩ : ByteArray), 3⟩ : S36) [.string (⟨#[112]⟩ : ByteArray), .int .i64 3] from (k36_mkM _ _ _ (⟨(⟨#[112]⟩ : ByteArray), 3⟩ : S36) )) (Reps.none _ _))))); intro v125 w1 ho2 hb hg_ hnew_; clear hg_ hnew_; (first | rw [← Ny124.out] at ho2 | (simp only [Int.reduceToNat] at ho2; rw [← Ny124.out] at ho2)); have n0_ := Aside0.mk (Kd.R_lower ho2 (below_size (by repeat (first | (with_reducible first | exact HB.out | apply below_alloc | apply pw_below_drewN | apply below_drew1) | exact HB.out)))); have n1_ := Aside0.mk (below_step (by repeat (first | (with_reducible first | exact HB.out | apply below_alloc | apply pw_below_drewN | apply below_drew1) | exact HB.out)) hb); clear HB; have HO126 := n0_; have HB := n1_; clear n0_ n1_; clear hb ho2))
 go_ret
 exact ⟨_, by first | rfl | (simp [errW_none, errW_some] <;> rfl) | (simp [*, errW_none, errW_some] <;> rfl), by (with_reducible repeat (first | apply Kd.R_alloc | apply Kd.R_drewN | apply Kd.R_drew)); exact HO126.out, by repeat (first | (with_reducible first | exact HB.out | apply below_alloc | apply pw_below_drewN | apply below_drew1) | exact HB.out)⟩

end Go.Proofs.Ythflicjbclcbaaa.PAll
