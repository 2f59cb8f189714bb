-- Printed by this session's own program (wip/tools/pp.py): out of the translation. Lean checks it.
import Derived.Test.YthflicjbclcbaaaPAllx0
import Derived.Test.YthflicjbclcbaaaPAllx3
import Derived.Test.YthflicjbclcbaaaPAllx11
namespace Go.Proofs.Ythflicjbclcbaaa.PAll
open Go.Proofs.Ythflicjbclcbaaa.Help
open Go.RowKit Go.Proofs.YthflicjbclcbaaaW.PrintWords Go.Proofs.YthflicjbclcbaaaW.PrintLast Go.Proofs.YthflicjbclcbaaaW.PrintMore
attribute [local go_sem] run_fl_eql run_fl_neq run_fl_lss run_fl_leq run_fl_gtr run_fl_geq unary_fl_neg run_cx_eql run_cx_neq run_cx_make run_cx_real run_cx_imag run_fl_of run_fl_to run_fl_add run_fl_sub run_fl_mul run_cx_add run_cx_sub run_cx_store run_fl_store cell_put3_0 cell_put3_1 cell_put4_0 cell_put4_1 max2_int min2_int max_two min_two max_three min_three max_four min_four   -- for this text's walks alone
set_option linter.unusedVariables false
set_option linter.unusedSimpArgs false

attribute [local go_sem high] eqA63
/-! ### noriaref11_CheckSchema: function 23 -/
mutual
def noriaref11_CheckSchema.j0 : Nat → List (S63) → Bool → Option (Int)
 | 0, _, _ => none
 | k + 1, x0, x12 => if x12 = true then (some 4) else (noriaref11_CheckSchema.l0 k x0 0)
def noriaref11_CheckSchema.l0 : Nat → List (S63) → Int → Option (Int)
 | 0, _, _ => none
 | k + 1, x0, x3 => if x3 < (x0.length : Int) then (if 0 ≤ x3 then ((noriaref11_GoodName.f k ((rd_T63 x0 x3).f0)).bind fun t278 => (if t278 = true then (noriaref11_CheckSchema.l1 k x0 x3 0) else (some 3))) else (none)) else (some 0)
def noriaref11_CheckSchema.l1 : Nat → List (S63) → Int → Int → Option (Int)
 | 0, _, _, _ => none
 | k + 1, x0, x3, x4 => if x4 < x3 then (if 0 ≤ x4 then (if x4 < (x0.length : Int) then (if 0 ≤ x3 then (if x3 < (x0.length : Int) then (if ((rd_T63 x0 x4).f0).toList = ((rd_T63 x0 x3).f0).toList then (some 7) else (noriaref11_CheckSchema.l1 k x0 x3 (wrap64 (x4 + 1)))) else (none)) else (none)) else (none)) else (none)) else (if 0 ≤ x3 then (if x3 < (x0.length : Int) then (if ((rd_T63 x0 x3).f1) < 1 then (some 6) else (if ((rd_T63 x0 x3).f1) > 3 then (some 6) else (noriaref11_CheckSchema.l0 k x0 (wrap64 (x3 + 1))))) else (none)) else (none))
end
def noriaref11_CheckSchema.f (k : Nat) (l0 : List (S63)) : Option (Int) := if (l0.length : Int) < 1 then (noriaref11_CheckSchema.j0 k l0 true) else (noriaref11_CheckSchema.j0 k l0 (decide ((l0.length : Int) > 8)))
theorem noriaref11_CheckSchema.mono_l : ∀ k, (∀ y0 y1, LeO (noriaref11_CheckSchema.j0 k y0 y1) (noriaref11_CheckSchema.j0 (k + 1) y0 y1)) ∧ (∀ y0 y1, LeO (noriaref11_CheckSchema.l0 k y0 y1) (noriaref11_CheckSchema.l0 (k + 1) y0 y1)) ∧ (∀ y0 y1 y2, LeO (noriaref11_CheckSchema.l1 k y0 y1 y2) (noriaref11_CheckSchema.l1 (k + 1) y0 y1 y2))
 | 0 => ⟨fun _ _ r h => by simp [noriaref11_CheckSchema.j0] at h, fun _ _ r h => by simp [noriaref11_CheckSchema.l0] at h, fun _ _ _ r h => by simp [noriaref11_CheckSchema.l1] at h⟩
 | k + 1 => by
  obtain ⟨ih0, ih1, ih2⟩ := noriaref11_CheckSchema.mono_l k
  refine ⟨?_, ?_, ?_⟩
  ·intro y0 y1
   unfold noriaref11_CheckSchema.j0
   repeat' first
   | (with_reducible exact ih0 _ _)
   | (with_reducible exact ih1 _ _)
   | (with_reducible exact ih2 _ _ _)
   | (with_reducible exact noriaref11_GoodName.mono _ _)
   | (with_reducible exact LeO.refl _)
   | (with_reducible exact LeO.none _)
   | (with_reducible refine LeO.ite ?_ ?_)
   | (with_reducible refine LeO.bind ?_ (fun _ => ?_))
   | exact ih0 _ _
   | exact ih1 _ _
   | exact ih2 _ _ _
   | exact noriaref11_GoodName.mono _ _
   | exact LeO.none _
   | refine LeO.ite ?_ ?_
   | refine LeO.bind ?_ (fun _ => ?_)
  ·intro y0 y1
   unfold noriaref11_CheckSchema.l0
   repeat' first
   | (with_reducible exact ih0 _ _)
   | (with_reducible exact ih1 _ _)
   | (with_reducible exact ih2 _ _ _)
   | (with_reducible exact noriaref11_GoodName.mono _ _)
   | (with_reducible exact LeO.refl _)
   | (with_reducible exact LeO.none _)
   | (with_reducible refine LeO.ite ?_ ?_)
   | (with_reducible refine LeO.bind ?_ (fun _ => ?_))
   | exact ih0 _ _
   | exact ih1 _ _
   | exact ih2 _ _ _
   | exact noriaref11_GoodName.mono _ _
   | exact LeO.none _
   | refine LeO.ite ?_ ?_
   | refine LeO.bind ?_ (fun _ => ?_)
  ·intro y0 y1 y2
   unfold noriaref11_CheckSchema.l1
   repeat' first
   | (with_reducible exact ih0 _ _)
   | (with_reducible exact ih1 _ _)
   | (with_reducible exact ih2 _ _ _)
   | (with_reducible exact noriaref11_GoodName.mono _ _)
   | (with_reducible exact LeO.refl _)
   | (with_reducible exact LeO.none _)
   | (with_reducible refine LeO.ite ?_ ?_)
   | (with_reducible refine LeO.bind ?_ (fun _ => ?_))
   | exact ih0 _ _
   | exact ih1 _ _
   | exact ih2 _ _ _
   | exact noriaref11_GoodName.mono _ _
   | exact LeO.none _
   | refine LeO.ite ?_ ?_
   | refine LeO.bind ?_ (fun _ => ?_)
theorem noriaref11_CheckSchema.mono : ∀ a0 k, LeO (noriaref11_CheckSchema.f k a0) (noriaref11_CheckSchema.f (k + 1) a0) := by
 intro a0 k
 obtain ⟨ih0, ih1, ih2⟩ := noriaref11_CheckSchema.mono_l k
 unfold noriaref11_CheckSchema.f
 repeat' first
   | (with_reducible exact ih0 _ _)
   | (with_reducible exact ih1 _ _)
   | (with_reducible exact ih2 _ _ _)
   | (with_reducible exact noriaref11_GoodName.mono _ _)
   | (with_reducible exact LeO.refl _)
   | (with_reducible exact LeO.none _)
   | (with_reducible refine LeO.ite ?_ ?_)
   | (with_reducible refine LeO.bind ?_ (fun _ => ?_))
   | exact ih0 _ _
   | exact ih1 _ _
   | exact ih2 _ _ _
   | exact noriaref11_GoodName.mono _ _
   | exact LeO.none _
   | refine LeO.ite ?_ ?_
   | refine LeO.bind ?_ (fun _ => ?_)
set_option maxHeartbeats 8000000 in
set_option maxRecDepth 100000 in
theorem noriaref11_CheckSchema.calls (k : Nat) (A0 : Option Addr) (c0 : Nat) (l0 : List (S63)) (r : Int) (w : World) (hr0 : Kd.C k63 w A0 l0.length l0) (hc0 : l0.length ≤ c0) (h : noriaref11_CheckSchema.f k l0 = some r) :
  Calls Try.prog 23 #[.slice A0 l0.length c0] w fun e w' => e = .returned (.int .i64 r) ∧ Drawn0 w w' := by
 have HR0 := Aside0.mk hr0
 have HC0 := Aside0.mk hc0
 clear hr0 hc0
 have H : (if (l0.length : Int) < 1 then (noriaref11_CheckSchema.j0 k l0 true) else (noriaref11_CheckSchema.j0 k l0 (decide ((l0.length : Int) > 8)))) = some r := h
 clear h
 have HC2 := Aside0.mk H
 clear H
 go_enter Try.func23, Try.ntmps23
 go_upto_region 1 with (fail)
 repeat (go_quiet (fail); go_upto_region 1 with (fail))
 go_cut [12] (fun v12 wc => ∃ (kq : Nat) (x12_1 : Bool), v12 = .bool x12_1 ∧ Aside0 (noriaref11_CheckSchema.j0 kq l0 x12_1 = some r) ∧ Aside0 (kq ≤ k) ∧ Drawn0 w wc)
 case first =>
  have H := HC2.out
  clear HC2
  by_cases c3 : (l0.length : Int) < 1
  ·rw [if_pos c3] at H
   have c3b0 : decide ((l0.length : Int) < 1) = true := decide_eq_true c3
   have c3b1 : decide (l0.length < 1) = true := decide_eq_true (by omega)
   clear c3
   (first | rw [c3b0] | (simp only [i64_w, i32_w]; rw [c3b0]) | skip)
   have H' := Aside0.mk H
   clear H
   go_wp2
   repeat (go_quiet (fail); try go_wp2)
   go_meet
   case rel => exact ⟨_, (true), (by first | rfl | (simp; done) | (simp [*]; done)), H', ⟨by first | omega | exact Nat.le_refl _⟩, by repeat (first | exact Drawn0.refl _ | apply Drawn0.step)⟩
  ·rw [if_neg c3] at H
   have c3b0 : decide ((l0.length : Int) < 1) = false := decide_eq_false c3
   have c3b1 : decide (l0.length < 1) = false := decide_eq_false (by omega)
   clear c3
   (first | rw [c3b0] | (simp only [i64_w, i32_w]; rw [c3b0]) | skip)
   have H' := Aside0.mk H
   clear H
   go_wp2
   repeat (go_quiet (fail); try go_wp2)
   go_meet
   case rel => exact ⟨_, (decide ((l0.length : Int) > 8)), (by first | rfl | (simp; done) | (simp [*]; done)), H', ⟨by first | omega | exact Nat.le_refl _⟩, by repeat (first | exact Drawn0.refl _ | apply Drawn0.step)⟩
 case rest =>
  clear HC2
  try clear c2
  try clear p2
  try clear c3
  try clear c3b0
  try clear c3b1
  obtain ⟨kq, x12_1, rfl, HA, HJ1, ⟨mc1, rfl⟩⟩ := hcut
  cases kq with
  | zero => exact absurd HA.out (by simp [noriaref11_CheckSchema.j0])
  | succ kj1 =>
   have H := HA.out
   clear HA
   simp only [noriaref11_CheckSchema.j0] at H
   by_cases c4 : x12_1 = true
   ·subst c4
    have H1 : (some 4) = some r := by rw [if_pos rfl] at H; exact H
    clear H
    have H := H1
    clear H1
    obtain rfl := Option.some.inj H
    go_wp2
    repeat (go_quiet (fail); try go_wp2)
    go_ret
    exact ⟨by first | rfl | (simp; done) | (simp [*]; done), by repeat (first | exact Drawn0.refl _ | apply Drawn0.step)⟩
   ·replace c4 := Bool.eq_false_iff.mpr c4
    subst c4
    have H1 : (noriaref11_CheckSchema.l0 kj1 l0 0) = some r := by rw [if_neg (show ¬ (false = true) by decide)] at H; exact H
    clear H
    have H := H1
    clear H1
    have H' := Aside0.mk H
    clear H
    go_wp2
    repeat (go_quiet (fail); try go_wp2)
    go_loopg [3] kj1 (fun kq v3 w' => ∃ (x3_2 : Int), v3 = .int .i64 x3_2 ∧ Aside0 (noriaref11_CheckSchema.l0 kq l0 x3_2 = some r) ∧ Aside0 (kq ≤ kj1) ∧ Drawn0 w w')
    case atStart => exact ⟨(0), (by first | rfl | (simp; done) | (simp [*]; done)), H', ⟨Nat.le_refl _⟩, by repeat (first | exact Drawn0.refl _ | apply Drawn0.step)⟩
    case round =>
     clear H'
     try clear c1
     try clear c2
     try clear p2
     try clear c3
     try clear c3b0
     try clear c3b1
     try clear c4
     try clear p2
     obtain ⟨x3_2, rfl, HA, HK2, ⟨m2, rfl⟩⟩ := hrel
     cases gk with
     | zero => exact absurd HA.out (by simp [noriaref11_CheckSchema.l0])
     | succ k2 =>
      have H := HA.out
      clear HA
      simp only [noriaref11_CheckSchema.l0] at H
      by_cases c5 : x3_2 < (l0.length : Int)
      ·rw [if_pos c5] at H
       have c5b0 : decide (x3_2 < (l0.length : Int)) = true := decide_eq_true c5
       clear c5
       by_cases c6 : 0 ≤ x3_2
       ·rw [if_pos c6] at H
        have c6b0 : decide (0 ≤ x3_2) = true := decide_eq_true c6
        clear c6
        replace H := Option.bind_eq_some_iff.mp H
        obtain ⟨t278, A70, H⟩ := H
        replace H : (if t278 = true then (noriaref11_CheckSchema.l1 k2 l0 x3_2 0) else (some 3)) = some r := H
        have A7 := Aside0.mk A70
        clear A70
        by_cases c8 : t278 = true
        ·subst c8
         have H1 : (noriaref11_CheckSchema.l1 k2 l0 x3_2 0) = some r := by rw [if_pos rfl] at H; exact H
         clear H
         have H := H1
         clear H1
         have H' := Aside0.mk H
         clear H
         have p277 : 0 ≤ (x3_2 : Int) := of_decide_eq_true (by first | (with_reducible assumption) | assumption)
         have q277 : x3_2 < (l0.length : Int) := of_decide_eq_true (by first | (with_reducible assumption) | assumption)
         obtain ⟨ad277, e277, hx277_0, hx277_1⟩ := at_T63 HR0.out x3_2 p277 q277
         cases e277
         replace p277 := eq_true p277
         replace q277 := eq_true q277
         go_wp2_with (first | (go_at_call 30; (with_reducible refine (noriaref11_GoodName.calls k2 ((rd_T63 l0 x3_2).f0) true _ A7.out).mono ?_); rintro e w' ⟨rfl, ⟨nd, rfl⟩⟩; (try first | exact ⟨rfl, _, World.drewN_drewN _ _ _⟩ | exact ⟨rfl, _, Eq.trans (World.drewN_drewN _ _ _) (congrArg (World.drewN _) (Nat.add_assoc _ _ _))⟩)))
         repeat (go_quiet (first | (go_at_call 30; (with_reducible refine (noriaref11_GoodName.calls k2 ((rd_T63 l0 x3_2).f0) true _ A7.out).mono ?_); rintro e w' ⟨rfl, ⟨nd, rfl⟩⟩; (try first | exact ⟨rfl, _, World.drewN_drewN _ _ _⟩ | exact ⟨rfl, _, Eq.trans (World.drewN_drewN _ _ _) (congrArg (World.drewN _) (Nat.add_assoc _ _ _))⟩))); try go_wp2_with (first | (go_at_call 30; (with_reducible refine (noriaref11_GoodName.calls k2 ((rd_T63 l0 x3_2).f0) true _ A7.out).mono ?_); rintro e w' ⟨rfl, ⟨nd, rfl⟩⟩; (try first | exact ⟨rfl, _, World.drewN_drewN _ _ _⟩ | exact ⟨rfl, _, Eq.trans (World.drewN_drewN _ _ _) (congrArg (World.drewN _) (Nat.add_assoc _ _ _))⟩))))
         go_loopg [4] k2 (fun kq v4 w' => ∃ (x4_3 : Int), v4 = .int .i64 x4_3 ∧ Aside0 (noriaref11_CheckSchema.l1 kq l0 x3_2 x4_3 = some r) ∧ Aside0 (kq ≤ k2) ∧ Drawn0 w w')
         case atStart => exact ⟨(0), (by first | rfl | (simp; done) | (simp [*]; done)), H', ⟨Nat.le_refl _⟩, by repeat (first | exact Drawn0.refl _ | apply Drawn0.step)⟩
         case round =>
          clear H'
          try clear c1
          try clear c2
          try clear p2
          try clear q2
          try clear hx2
          try clear c3
          try clear c3b0
          try clear c3b1
          try clear c4
          try clear c5
          try clear c5b0
          try clear c6
          try clear c6b0
          try clear c8
          try clear hx277_0
          try clear hx277_1
          try clear p2
          try clear p277
          try clear q277
          obtain ⟨x4_3, rfl, HA, HK3, ⟨m3, rfl⟩⟩ := hrel
          cases gk with
          | zero => exact absurd HA.out (by simp [noriaref11_CheckSchema.l1])
          | succ k3 =>
           have H := HA.out
           clear HA
           simp only [noriaref11_CheckSchema.l1] at H
           by_cases c9 : x4_3 < x3_2
           ·rw [if_pos c9] at H
            have c9b0 : decide (x4_3 < x3_2) = true := decide_eq_true c9
            clear c9
            by_cases c10 : 0 ≤ x4_3
            ·rw [if_pos c10] at H
             have c10b0 : decide (0 ≤ x4_3) = true := decide_eq_true c10
             clear c10
             by_cases c11 : x4_3 < (l0.length : Int)
             ·rw [if_pos c11] at H
              have c11b0 : decide (x4_3 < (l0.length : Int)) = true := decide_eq_true c11
              clear c11
              by_cases c12 : 0 ≤ x3_2
              ·rw [if_pos c12] at H
               have c12b0 : decide (0 ≤ x3_2) = true := decide_eq_true c12
               clear c12
               by_cases c13 : x3_2 < (l0.length : Int)
               ·rw [if_pos c13] at H
                have c13b0 : decide (x3_2 < (l0.length : Int)) = true := decide_eq_true c13
                clear c13
                by_cases c14 : ((rd_T63 l0 x4_3).f0).toList = ((rd_T63 l0 x3_2).f0).toList
                ·rw [if_pos c14] at H
                 have c14b0 : (((rd_T63 l0 x4_3).f0).toList == ((rd_T63 l0 x3_2).f0).toList) = true := beq_iff_eq.mpr c14
                 have c14b1 : (((rd_T63 l0 x4_3).f0).toList != ((rd_T63 l0 x3_2).f0).toList) = false := bne_eq_false_iff_eq.mpr c14
                 clear c14
                 obtain rfl := Option.some.inj H
                 have p279 : 0 ≤ (x4_3 : Int) := of_decide_eq_true (by first | (with_reducible assumption) | assumption)
                 have q279 : x4_3 < (l0.length : Int) := of_decide_eq_true (by first | (with_reducible assumption) | assumption)
                 obtain ⟨ad279, e279, hx279_0, hx279_1⟩ := at_T63 HR0.out x4_3 p279 q279
                 obtain rfl : ad277 = ad279 := (by injection e279)
                 replace p279 := eq_true p279
                 replace q279 := eq_true q279
                 have p280 : 0 ≤ (x3_2 : Int) := of_decide_eq_true (by first | (with_reducible assumption) | assumption)
                 have q280 : x3_2 < (l0.length : Int) := of_decide_eq_true (by first | (with_reducible assumption) | assumption)
                 obtain ⟨ad280, e280, hx280_0, hx280_1⟩ := at_T63 HR0.out x3_2 p280 q280
                 obtain rfl : ad277 = ad280 := (by injection e280)
                 replace p280 := eq_true p280
                 replace q280 := eq_true q280
                 go_wp2
                 repeat (go_quiet (fail); try go_wp2)
                 go_ret
                 exact ⟨by first | rfl | (simp; done) | (simp [*]; done), by repeat (first | exact Drawn0.refl _ | apply Drawn0.step)⟩
                ·rw [if_neg c14] at H
                 have c14b0 : (((rd_T63 l0 x4_3).f0).toList == ((rd_T63 l0 x3_2).f0).toList) = false := beq_eq_false_iff_ne.mpr c14
                 have c14b1 : (((rd_T63 l0 x4_3).f0).toList != ((rd_T63 l0 x3_2).f0).toList) = true := bne_iff_ne.mpr c14
                 have H' := Aside0.mk H
                 clear H
                 have p279 : 0 ≤ (x4_3 : Int) := of_decide_eq_true (by first | (with_reducible assumption) | assumption)
                 have q279 : x4_3 < (l0.length : Int) := of_decide_eq_true (by first | (with_reducible assumption) | assumption)
                 obtain ⟨ad279, e279, hx279_0, hx279_1⟩ := at_T63 HR0.out x4_3 p279 q279
                 obtain rfl : ad277 = ad279 := (by injection e279)
                 replace p279 := eq_true p279
                 replace q279 := eq_true q279
                 have p280 : 0 ≤ (x3_2 : Int) := of_decide_eq_true (by first | (with_reducible assumption) | assumption)
                 have q280 : x3_2 < (l0.length : Int) := of_decide_eq_true (by first | (with_reducible assumption) | assumption)
                 obtain ⟨ad280, e280, hx280_0, hx280_1⟩ := at_T63 HR0.out x3_2 p280 q280
                 obtain rfl : ad277 = ad280 := (by injection e280)
                 replace p280 := eq_true p280
                 replace q280 := eq_true q280
                 go_wp2
                 repeat (go_quiet (fail); try go_wp2)
                 go_roundg k3
                 case measure => have := HJ1.out; have := HK2.out; have := HK3.out; omega
                 case rel => exact ⟨(wrap64 (x4_3 + 1)), (by first | rfl | (simp; done) | (simp [*]; done)), H', ⟨by have := HJ1.out; have := HK2.out; have := HK3.out; omega⟩, by repeat (first | exact Drawn0.refl _ | apply Drawn0.step)⟩
               ·rw [if_neg c13] at H
                exact absurd H (by simp)
              ·rw [if_neg c12] at H
               exact absurd H (by simp)
             ·rw [if_neg c11] at H
              exact absurd H (by simp)
            ·rw [if_neg c10] at H
             exact absurd H (by simp)
           ·rw [if_neg c9] at H
            have c9b0 : decide (x4_3 < x3_2) = false := decide_eq_false c9
            clear c9
            by_cases c15 : 0 ≤ x3_2
            ·rw [if_pos c15] at H
             have c15b0 : decide (0 ≤ x3_2) = true := decide_eq_true c15
             clear c15
             by_cases c16 : x3_2 < (l0.length : Int)
             ·rw [if_pos c16] at H
              have c16b0 : decide (x3_2 < (l0.length : Int)) = true := decide_eq_true c16
              clear c16
              by_cases c17 : ((rd_T63 l0 x3_2).f1) < 1
              ·rw [if_pos c17] at H
               have c17b0 : decide (((rd_T63 l0 x3_2).f1) < 1) = true := decide_eq_true c17
               clear c17
               obtain rfl := Option.some.inj H
               have p281 : 0 ≤ (x3_2 : Int) := of_decide_eq_true (by first | (with_reducible assumption) | assumption)
               have q281 : x3_2 < (l0.length : Int) := of_decide_eq_true (by first | (with_reducible assumption) | assumption)
               obtain ⟨ad281, e281, hx281_0, hx281_1⟩ := at_T63 HR0.out x3_2 p281 q281
               obtain rfl : ad277 = ad281 := (by injection e281)
               replace p281 := eq_true p281
               replace q281 := eq_true q281
               go_wp2
               repeat (go_quiet (fail); try go_wp2)
               go_ret
               exact ⟨by first | rfl | (simp; done) | (simp [*]; done), by repeat (first | exact Drawn0.refl _ | apply Drawn0.step)⟩
              ·rw [if_neg c17] at H
               have c17b0 : decide (((rd_T63 l0 x3_2).f1) < 1) = false := decide_eq_false c17
               clear c17
               by_cases c18 : ((rd_T63 l0 x3_2).f1) > 3
               ·rw [if_pos c18] at H
                have c18b0 : decide (3 < ((rd_T63 l0 x3_2).f1)) = true := decide_eq_true c18
                clear c18
                obtain rfl := Option.some.inj H
                have p281 : 0 ≤ (x3_2 : Int) := of_decide_eq_true (by first | (with_reducible assumption) | assumption)
                have q281 : x3_2 < (l0.length : Int) := of_decide_eq_true (by first | (with_reducible assumption) | assumption)
                obtain ⟨ad281, e281, hx281_0, hx281_1⟩ := at_T63 HR0.out x3_2 p281 q281
                obtain rfl : ad277 = ad281 := (by injection e281)
                replace p281 := eq_true p281
                replace q281 := eq_true q281
                have p282 : 0 ≤ (x3_2 : Int) := of_decide_eq_true (by first | (with_reducible assumption) | assumption)
                have q282 : x3_2 < (l0.length : Int) := of_decide_eq_true (by first | (with_reducible assumption) | assumption)
                obtain ⟨ad282, e282, hx282_0, hx282_1⟩ := at_T63 HR0.out x3_2 p282 q282
                obtain rfl : ad277 = ad282 := (by injection e282)
                replace p282 := eq_true p282
                replace q282 := eq_true q282
                go_wp2
                repeat (go_quiet (fail); try go_wp2)
                go_ret
                exact ⟨by first | rfl | (simp; done) | (simp [*]; done), by repeat (first | exact Drawn0.refl _ | apply Drawn0.step)⟩
               ·rw [if_neg c18] at H
                have c18b0 : decide (3 < ((rd_T63 l0 x3_2).f1)) = false := decide_eq_false c18
                clear c18
                have H' := Aside0.mk H
                clear H
                have p281 : 0 ≤ (x3_2 : Int) := of_decide_eq_true (by first | (with_reducible assumption) | assumption)
                have q281 : x3_2 < (l0.length : Int) := of_decide_eq_true (by first | (with_reducible assumption) | assumption)
                obtain ⟨ad281, e281, hx281_0, hx281_1⟩ := at_T63 HR0.out x3_2 p281 q281
                obtain rfl : ad277 = ad281 := (by injection e281)
                replace p281 := eq_true p281
                replace q281 := eq_true q281
                have p282 : 0 ≤ (x3_2 : Int) := of_decide_eq_true (by first | (with_reducible assumption) | assumption)
                have q282 : x3_2 < (l0.length : Int) := of_decide_eq_true (by first | (with_reducible assumption) | assumption)
                obtain ⟨ad282, e282, hx282_0, hx282_1⟩ := at_T63 HR0.out x3_2 p282 q282
                obtain rfl : ad277 = ad282 := (by injection e282)
                replace p282 := eq_true p282
                replace q282 := eq_true q282
                go_wp2
                repeat (go_quiet (fail); try go_wp2)
                go_roundg k3
                case measure => have := HJ1.out; have := HK2.out; have := HK3.out; omega
                case rel => exact ⟨(wrap64 (x3_2 + 1)), (by first | rfl | (simp; done) | (simp [*]; done)), H', ⟨by have := HJ1.out; have := HK2.out; have := HK3.out; omega⟩, by repeat (first | exact Drawn0.refl _ | apply Drawn0.step)⟩
             ·rw [if_neg c16] at H
              exact absurd H (by simp)
            ·rw [if_neg c15] at H
             exact absurd H (by simp)
        ·replace c8 := Bool.eq_false_iff.mpr c8
         subst c8
         have H1 : (some 3) = some r := by rw [if_neg (show ¬ (false = true) by decide)] at H; exact H
         clear H
         have H := H1
         clear H1
         obtain rfl := Option.some.inj H
         have p277 : 0 ≤ (x3_2 : Int) := of_decide_eq_true (by first | (with_reducible assumption) | assumption)
         have q277 : x3_2 < (l0.length : Int) := of_decide_eq_true (by first | (with_reducible assumption) | assumption)
         obtain ⟨ad277, e277, hx277_0, hx277_1⟩ := at_T63 HR0.out x3_2 p277 q277
         cases e277
         replace p277 := eq_true p277
         replace q277 := eq_true q277
         go_wp2_with (first | (go_at_call 30; (with_reducible refine (noriaref11_GoodName.calls k2 ((rd_T63 l0 x3_2).f0) false _ A7.out).mono ?_); rintro e w' ⟨rfl, ⟨nd, rfl⟩⟩; (try first | exact ⟨rfl, _, World.drewN_drewN _ _ _⟩ | exact ⟨rfl, _, Eq.trans (World.drewN_drewN _ _ _) (congrArg (World.drewN _) (Nat.add_assoc _ _ _))⟩)))
         repeat (go_quiet (first | (go_at_call 30; (with_reducible refine (noriaref11_GoodName.calls k2 ((rd_T63 l0 x3_2).f0) false _ A7.out).mono ?_); rintro e w' ⟨rfl, ⟨nd, rfl⟩⟩; (try first | exact ⟨rfl, _, World.drewN_drewN _ _ _⟩ | exact ⟨rfl, _, Eq.trans (World.drewN_drewN _ _ _) (congrArg (World.drewN _) (Nat.add_assoc _ _ _))⟩))); try go_wp2_with (first | (go_at_call 30; (with_reducible refine (noriaref11_GoodName.calls k2 ((rd_T63 l0 x3_2).f0) false _ A7.out).mono ?_); rintro e w' ⟨rfl, ⟨nd, rfl⟩⟩; (try first | exact ⟨rfl, _, World.drewN_drewN _ _ _⟩ | exact ⟨rfl, _, Eq.trans (World.drewN_drewN _ _ _) (congrArg (World.drewN _) (Nat.add_assoc _ _ _))⟩))))
         go_ret
         exact ⟨by first | rfl | (simp; done) | (simp [*]; done), by repeat (first | exact Drawn0.refl _ | apply Drawn0.step)⟩
       ·rw [if_neg c6] at H
        exact absurd H (by simp)
      ·rw [if_neg c5] at H
       have c5b0 : decide (x3_2 < (l0.length : Int)) = false := decide_eq_false c5
       clear c5
       obtain rfl := Option.some.inj H
       go_wp2
       repeat (go_quiet (fail); try go_wp2)
       go_ret
       exact ⟨by first | rfl | (simp; done) | (simp [*]; done), by repeat (first | exact Drawn0.refl _ | apply Drawn0.step)⟩

/-! ### noriaref11_GetSchema: function 7 -/
mutual
def noriaref11_GetSchema.j0 : Nat → List Int → Int → Int → Int → Bool → Option ((List (S63)) × Int × Int)
 | 0, _, _, _, _, _ => none
 | k + 1, x0, x1, x7, x8, x30 => if x30 = true then (some (([] : List (S63)), 0, 4)) else (noriaref11_GetSchema.l0 k x0 x1 x7 x8 ([] : List (S63)) 0)
def noriaref11_GetSchema.l0 : Nat → List Int → Int → Int → Int → List (S63) → Int → Option ((List (S63)) × Int × Int)
 | 0, _, _, _, _, _, _ => none
 | k + 1, x0, x1, x7, x8, x10, x11 => if x11 < (wrap64 (x7)) then ((noriaref11_GetWord.f k x0 (wrap64 (x1 + x8)) 18446744073709551615).bind fun bt287 => (if bt287.2.2 = 0 then (if (wrap64 (x1 + (wrap64 (x8 + bt287.2.1)))) = (x0.length : Int) then (some (([] : List (S63)), 0, 5)) else (if 0 ≤ (wrap64 (x1 + (wrap64 (x8 + bt287.2.1)))) then (if (wrap64 (x1 + (wrap64 (x8 + bt287.2.1)))) < (x0.length : Int) then (if x10.length < 5864062014805 then (noriaref11_GetSchema.l0 k x0 x1 x7 (wrap64 ((wrap64 (x8 + bt287.2.1)) + 1)) (x10 ++ [(⟨bt287.1, wrap64 (rd x0 (wrap64 (x1 + (wrap64 (x8 + bt287.2.1)))))⟩ : S63)]) (wrap64 (x11 + 1))) else (none)) else (none)) else (none))) else (some (([] : List (S63)), 0, bt287.2.2)))) else ((noriaref11_CheckSchema.f k x10).bind fun t286 => (if t286 = 0 then (some (x10, x8, 0)) else (some (([] : List (S63)), 0, t286))))
end
def noriaref11_GetSchema.f (k : Nat) (l0 : List Int) (a1 : Int) : Option ((List (S63)) × Int × Int) := (noriaref11_Get.f k l0 a1).bind fun bt283 => (if bt283.2.2 = 0 then (if bt283.1 < 1 then (noriaref11_GetSchema.j0 k l0 a1 bt283.1 bt283.2.1 true) else (noriaref11_GetSchema.j0 k l0 a1 bt283.1 bt283.2.1 (decide (bt283.1 > 8)))) else (some (([] : List (S63)), 0, bt283.2.2)))
theorem noriaref11_GetSchema.mono_l : ∀ k, (∀ y0 y1 y2 y3 y4, LeO (noriaref11_GetSchema.j0 k y0 y1 y2 y3 y4) (noriaref11_GetSchema.j0 (k + 1) y0 y1 y2 y3 y4)) ∧ (∀ y0 y1 y2 y3 y4 y5, LeO (noriaref11_GetSchema.l0 k y0 y1 y2 y3 y4 y5) (noriaref11_GetSchema.l0 (k + 1) y0 y1 y2 y3 y4 y5))
 | 0 => ⟨fun _ _ _ _ _ r h => by simp [noriaref11_GetSchema.j0] at h, fun _ _ _ _ _ _ r h => by simp [noriaref11_GetSchema.l0] at h⟩
 | k + 1 => by
  obtain ⟨ih0, ih1⟩ := noriaref11_GetSchema.mono_l k
  refine ⟨?_, ?_⟩
  ·intro y0 y1 y2 y3 y4
   unfold noriaref11_GetSchema.j0
   repeat' first
   | (with_reducible exact ih0 _ _ _ _ _)
   | (with_reducible exact ih1 _ _ _ _ _ _)
   | (with_reducible exact noriaref11_CheckSchema.mono _ _)
   | (with_reducible exact noriaref11_Get.mono _ _ _)
   | (with_reducible exact noriaref11_GetWord.mono _ _ _ _)
   | (with_reducible exact LeO.refl _)
   | (with_reducible exact LeO.none _)
   | (with_reducible refine LeO.ite ?_ ?_)
   | (with_reducible refine LeO.bind ?_ (fun _ => ?_))
   | exact ih0 _ _ _ _ _
   | exact ih1 _ _ _ _ _ _
   | exact noriaref11_CheckSchema.mono _ _
   | exact noriaref11_Get.mono _ _ _
   | exact noriaref11_GetWord.mono _ _ _ _
   | exact LeO.none _
   | refine LeO.ite ?_ ?_
   | refine LeO.bind ?_ (fun _ => ?_)
  ·intro y0 y1 y2 y3 y4 y5
   unfold noriaref11_GetSchema.l0
   repeat' first
   | (with_reducible exact ih0 _ _ _ _ _)
   | (with_reducible exact ih1 _ _ _ _ _ _)
   | (with_reducible exact noriaref11_CheckSchema.mono _ _)
   | (with_reducible exact noriaref11_Get.mono _ _ _)
   | (with_reducible exact noriaref11_GetWord.mono _ _ _ _)
   | (with_reducible exact LeO.refl _)
   | (with_reducible exact LeO.none _)
   | (with_reducible refine LeO.ite ?_ ?_)
   | (with_reducible refine LeO.bind ?_ (fun _ => ?_))
   | exact ih0 _ _ _ _ _
   | exact ih1 _ _ _ _ _ _
   | exact noriaref11_CheckSchema.mono _ _
   | exact noriaref11_Get.mono _ _ _
   | exact noriaref11_GetWord.mono _ _ _ _
   | exact LeO.none _
   | refine LeO.ite ?_ ?_
   | refine LeO.bind ?_ (fun _ => ?_)
theorem noriaref11_GetSchema.mono : ∀ a0 a1 k, LeO (noriaref11_GetSchema.f k a0 a1) (noriaref11_GetSchema.f (k + 1) a0 a1) := by
 intro a0 a1 k
 obtain ⟨ih0, ih1⟩ := noriaref11_GetSchema.mono_l k
 unfold noriaref11_GetSchema.f
 repeat' first
   | (with_reducible exact ih0 _ _ _ _ _)
   | (with_reducible exact ih1 _ _ _ _ _ _)
   | (with_reducible exact noriaref11_CheckSchema.mono _ _)
   | (with_reducible exact noriaref11_Get.mono _ _ _)
   | (with_reducible exact noriaref11_GetWord.mono _ _ _ _)
   | (with_reducible exact LeO.refl _)
   | (with_reducible exact LeO.none _)
   | (with_reducible refine LeO.ite ?_ ?_)
   | (with_reducible refine LeO.bind ?_ (fun _ => ?_))
   | exact ih0 _ _ _ _ _
   | exact ih1 _ _ _ _ _ _
   | exact noriaref11_CheckSchema.mono _ _
   | exact noriaref11_Get.mono _ _ _
   | exact noriaref11_GetWord.mono _ _ _ _
   | exact LeO.none _
   | refine LeO.ite ?_ ?_
   | refine LeO.bind ?_ (fun _ => ?_)
set_option maxHeartbeats 8000000 in
set_option maxRecDepth 100000 in
theorem noriaref11_GetSchema.calls (k : Nat) (A0 : Option Addr) (c0 : Nat) (l0 : List Int) (a1 : Int) (r1 : List (S63)) (r2 : Int) (r3 : Int) (w : World) (hr0 : Kd.C (Kd.int .u8) w A0 l0.length l0) (hc0 : l0.length ≤ c0) (h : noriaref11_GetSchema.f k l0 a1 = some (r1, r2, r3)) :
  Calls Try.prog 7 #[.slice A0 l0.length c0, .int .i64 a1] w fun e w' => ∃ v0_ : Value, e = .returned (.tuple #[v0_, .int .i64 r2, .int .i64 r3]) ∧ Kd.R k63 63 w' w.heap.size (fun _ => True) v0_ r1 ∧ Below w.heap.size w w' := by
 have hu63 := Try.underlying63
 have HR0 := Aside0.mk hr0
 have HC0 := Aside0.mk hc0
 clear hr0 hc0
 have HB := Aside0.mk (Below.refl w.heap.size w)
 have H : ((noriaref11_Get.f k l0 a1).bind fun bt283 => (if bt283.2.2 = 0 then (if bt283.1 < 1 then (noriaref11_GetSchema.j0 k l0 a1 bt283.1 bt283.2.1 true) else (noriaref11_GetSchema.j0 k l0 a1 bt283.1 bt283.2.1 (decide (bt283.1 > 8)))) else (some (([] : List (S63)), 0, bt283.2.2)))) = some (r1, r2, r3) := h
 clear h
 replace H := Option.bind_eq_some_iff.mp H
 obtain ⟨⟨t283, t284, t285⟩, A30, H⟩ := H
 replace H : (if t285 = 0 then (if t283 < 1 then (noriaref11_GetSchema.j0 k l0 a1 t283 t284 true) else (noriaref11_GetSchema.j0 k l0 a1 t283 t284 (decide (t283 > 8)))) else (some (([] : List (S63)), 0, t285))) = some (r1, r2, r3) := H
 have A3 := Aside0.mk A30
 clear A30
 by_cases c4 : t285 = 0
 ·rw [if_pos c4] at H
  have c4b0 : (t285 == 0) = true := beq_iff_eq.mpr c4
  have c4b1 : (t285 != 0) = false := bne_eq_false_iff_eq.mpr c4
  clear c4
  have HC5 := Aside0.mk H
  clear H
  go_enter Try.func7, Try.ntmps7
  go_upto_region 4 with (first | (go_at_call 21; (with_reducible refine (noriaref11_Get.calls k _ _ l0 a1 t283 t284 t285 _ ?side1 ?side2 A3.out).mono ?_); (case side1 => repeat (first | exact HR0.out | (with_reducible refine Kd.C_alloc ?_ _) | (with_reducible refine Kd.C_drewN ?_ _) | (with_reducible refine Kd.C_drew ?_))); (case side2 => exact HC0.out); rintro e w' ⟨rfl, ⟨nd, rfl⟩⟩))
  (try simp only [Act.put, List.setIfInBounds_toArray, List.set_cons_zero, List.set_cons_succ])
  go_cut [30] (fun v30 wc => ∃ (kq : Nat) (x30_4 : Bool), v30 = .bool x30_4 ∧ Aside0 (noriaref11_GetSchema.j0 kq l0 a1 t283 t284 x30_4 = some (r1, r2, r3)) ∧ Aside0 (kq ≤ k) ∧ Aside0 (Below w.heap.size w wc))
  case first =>
   have H := HC5.out
   clear HC5
   by_cases c6 : t283 < 1
   ·rw [if_pos c6] at H
    have c6b0 : decide (t283 < 1) = true := decide_eq_true c6
    clear c6
    (first | rw [c6b0] | (simp only [i64_w, i32_w]; rw [c6b0]) | skip)
    have H' := Aside0.mk H
    clear H
    go_wp2
    go_meet
    case rel => exact ⟨_, (true), (by first | rfl | (simp; done) | (simp [*]; done)), H', ⟨by first | omega | exact Nat.le_refl _⟩, ⟨by repeat (first | (with_reducible first | exact HB.out | apply below_alloc | apply pw_below_drewN | apply below_drew1) | exact HB.out)⟩⟩
   ·rw [if_neg c6] at H
    have c6b0 : decide (t283 < 1) = false := decide_eq_false c6
    clear c6
    (first | rw [c6b0] | (simp only [i64_w, i32_w]; rw [c6b0]) | skip)
    have H' := Aside0.mk H
    clear H
    go_wp2
    go_meet
    case rel => exact ⟨_, (decide (t283 > 8)), (by first | rfl | (simp; done) | (simp [*]; done)), H', ⟨by first | omega | exact Nat.le_refl _⟩, ⟨by repeat (first | (with_reducible first | exact HB.out | apply below_alloc | apply pw_below_drewN | apply below_drew1) | exact HB.out)⟩⟩
  case rest =>
   clear HC5
   try clear p2
   try clear c4
   try clear c4b0
   try clear c4b1
   try clear c6
   try clear c6b0
   obtain ⟨kq, x30_4, rfl, HA, HJ4, HB⟩ := hcut
   cases kq with
   | zero => exact absurd HA.out (by simp [noriaref11_GetSchema.j0])
   | succ kj4 =>
    have H := HA.out
    clear HA
    simp only [noriaref11_GetSchema.j0] at H
    by_cases c7 : x30_4 = true
    ·subst c7
     have H1 : (some (([] : List (S63)), 0, 4)) = some (r1, r2, r3) := by rw [if_pos rfl] at H; exact H
     clear H
     have H := H1
     clear H1
     simp only [Option.some.injEq, Prod.mk.injEq] at H
     obtain ⟨rfl, rfl, rfl⟩ := H
     go_wp2
     go_ret3
     exact ⟨_, by first | rfl | (simp [errW_none, errW_some] <;> rfl) | (simp [*, errW_none, errW_some] <;> rfl), by first | exact Kd.R_nil _ _ _ _ _ | exact Kd.N_nil _ _ _ _ _ | exact Kd.V_nil _ _ _ _ _ | exact Kd.Q_nil _ _ _ _ _ | exact Kd.S_nil _ _ _ _ _, by repeat (first | (with_reducible first | exact HB.out | apply below_alloc | apply pw_below_drewN | apply below_drew1) | exact HB.out)⟩
    ·replace c7 := Bool.eq_false_iff.mpr c7
     subst c7
     have H1 : (noriaref11_GetSchema.l0 kj4 l0 a1 t283 t284 ([] : List (S63)) 0) = some (r1, r2, r3) := by rw [if_neg (show ¬ (false = true) by decide)] at H; exact H
     clear H
     have H := H1
     clear H1
     have H' := Aside0.mk H
     clear H
     go_wp2
     go_loopg [8, 10, 11] kj4 (fun kq v8 v10 v11 w' => ∃ (x8_2 : Int) (x10_2 : List (S63)) (x11_2 : Int), v8 = .int .i64 x8_2 ∧ v11 = .int .i64 x11_2 ∧ Aside0 (noriaref11_GetSchema.l0 kq l0 a1 t283 x8_2 x10_2 x11_2 = some (r1, r2, r3)) ∧ Aside0 (kq ≤ kj4) ∧ Aside0 (Kd.R k63 63 w' w.heap.size (fun _ => True) v10 x10_2) ∧ Aside0 (Below w.heap.size w w'))
     case atStart => exact ⟨(t284), (([] : List (S63))), (0), (by first | rfl | (simp; done) | (simp [*]; done)), (by first | rfl | (simp; done) | (simp [*]; done)), H', ⟨Nat.le_refl _⟩, ⟨by first | exact Kd.R_nil _ _ _ _ _ | exact Kd.N_nil _ _ _ _ _ | exact Kd.V_nil _ _ _ _ _ | exact Kd.Q_nil _ _ _ _ _ | exact Kd.S_nil _ _ _ _ _⟩, ⟨by repeat (first | (with_reducible first | exact HB.out | apply below_alloc | apply pw_below_drewN | apply below_drew1) | exact HB.out)⟩⟩
     case round =>
      clear H'
      try clear p2
      try clear c4
      try clear c4b0
      try clear c4b1
      try clear c6
      try clear c6b0
      try clear c7
      try clear p2
      obtain ⟨x8_2, x10_2, x11_2, rfl, rfl, HA, HK2, HO_10, HB⟩ := hrel
      cases gk with
      | zero => exact absurd HA.out (by simp [noriaref11_GetSchema.l0])
      | succ k2 =>
       have H := HA.out
       clear HA
       simp only [noriaref11_GetSchema.l0] at H
       by_cases c8 : x11_2 < (wrap64 (t283))
       ·rw [if_pos c8] at H
        have c8b0 : decide (x11_2 < (wrap64 (t283))) = true := decide_eq_true c8
        clear c8
        replace H := Option.bind_eq_some_iff.mp H
        obtain ⟨⟨t287, t288, t289⟩, A90, H⟩ := H
        replace H : (if t289 = 0 then (if (wrap64 (a1 + (wrap64 (x8_2 + t288)))) = (l0.length : Int) then (some (([] : List (S63)), 0, 5)) else (if 0 ≤ (wrap64 (a1 + (wrap64 (x8_2 + t288)))) then (if (wrap64 (a1 + (wrap64 (x8_2 + t288)))) < (l0.length : Int) then (if x10_2.length < 5864062014805 then (noriaref11_GetSchema.l0 k2 l0 a1 t283 (wrap64 ((wrap64 (x8_2 + t288)) + 1)) (x10_2 ++ [(⟨t287, wrap64 (rd l0 (wrap64 (a1 + (wrap64 (x8_2 + t288)))))⟩ : S63)]) (wrap64 (x11_2 + 1))) else (none)) else (none)) else (none))) else (some (([] : List (S63)), 0, t289))) = some (r1, r2, r3) := H
        have A9 := Aside0.mk A90
        clear A90
        by_cases c10 : t289 = 0
        ·rw [if_pos c10] at H
         have c10b0 : (t289 == 0) = true := beq_iff_eq.mpr c10
         have c10b1 : (t289 != 0) = false := bne_eq_false_iff_eq.mpr c10
         clear c10
         by_cases c11 : (wrap64 (a1 + (wrap64 (x8_2 + t288)))) = (l0.length : Int)
         ·rw [if_pos c11] at H
          have c11b0 : ((wrap64 (a1 + (wrap64 (x8_2 + t288)))) == (l0.length : Int)) = true := beq_iff_eq.mpr c11
          have c11b1 : ((wrap64 (a1 + (wrap64 (x8_2 + t288)))) != (l0.length : Int)) = false := bne_eq_false_iff_eq.mpr c11
          clear c11
          simp only [Option.some.injEq, Prod.mk.injEq] at H
          obtain ⟨rfl, rfl, rfl⟩ := H
          go_wp2_with (first | (go_at_call 22; (with_reducible refine (noriaref11_GetWord.calls k2 _ _ l0 (wrap64 (a1 + x8_2)) 18446744073709551615 t287 t288 t289 _ ?side1 ?side2 A9.out).mono ?_); (case side1 => repeat (first | exact (Kd.C_below HR0.out HB.out) | (with_reducible refine Kd.C_alloc ?_ _) | (with_reducible refine Kd.C_drewN ?_ _) | (with_reducible refine Kd.C_drew ?_))); (case side2 => exact HC0.out); rintro e w' ⟨rfl, ⟨nd, rfl⟩⟩))
          go_ret3
          exact ⟨_, by first | rfl | (simp [errW_none, errW_some] <;> rfl) | (simp [*, errW_none, errW_some] <;> rfl), by first | exact Kd.R_nil _ _ _ _ _ | exact Kd.N_nil _ _ _ _ _ | exact Kd.V_nil _ _ _ _ _ | exact Kd.Q_nil _ _ _ _ _ | exact Kd.S_nil _ _ _ _ _, by repeat (first | (with_reducible first | exact HB.out | apply below_alloc | apply pw_below_drewN | apply below_drew1) | exact HB.out)⟩
         ·rw [if_neg c11] at H
          have c11b0 : ((wrap64 (a1 + (wrap64 (x8_2 + t288)))) == (l0.length : Int)) = false := beq_eq_false_iff_ne.mpr c11
          have c11b1 : ((wrap64 (a1 + (wrap64 (x8_2 + t288)))) != (l0.length : Int)) = true := bne_iff_ne.mpr c11
          obtain ⟨ji12, hji12⟩ : ∃ j_ : Int, (wrap64 (a1 + (wrap64 (x8_2 + t288)))) = j_ := ⟨_, rfl⟩
          replace H : (if 0 ≤ (ji12) then (if (ji12) < (l0.length : Int) then (if x10_2.length < 5864062014805 then (noriaref11_GetSchema.l0 k2 l0 a1 t283 (wrap64 ((wrap64 (x8_2 + t288)) + 1)) (x10_2 ++ [(⟨t287, wrap64 (rd l0 (ji12))⟩ : S63)]) (wrap64 (x11_2 + 1))) else (none)) else (none)) else (none)) = some (r1, r2, r3) := by first | (rw [hji12] at H; exact H) | (simp only [hji12] at H ⊢; exact H)
          (try rw [hji12] at c11b0)
          (try rw [hji12] at c11b1)
          (try rw [hji12] at A9)
          have hji12w : (IntKind.i64.wrap (a1 + (wrap64 (x8_2 + t288)))) = ji12 := (i64_w _).trans hji12
          by_cases c13 : 0 ≤ (ji12)
          ·rw [if_pos c13] at H
           have c13b0 : decide (0 ≤ (ji12)) = true := decide_eq_true c13
           clear c13
           by_cases c14 : (ji12) < (l0.length : Int)
           ·rw [if_pos c14] at H
            have c14b0 : decide ((ji12) < (l0.length : Int)) = true := decide_eq_true c14
            clear c14
            by_cases c15 : x10_2.length < 5864062014805
            ·rw [if_pos c15] at H
             have LMc15 := Aside0.mk c15
             clear c15
             obtain ⟨y291, hy291⟩ : ∃ y_ : List (S63), y_ = (x10_2 ++ [(⟨t287, wrap64 (rd l0 (ji12))⟩ : S63)]) := ⟨_, rfl⟩
             replace H : (noriaref11_GetSchema.l0 k2 l0 a1 t283 (wrap64 ((wrap64 (x8_2 + t288)) + 1)) y291 (wrap64 (x11_2 + 1))) = some (r1, r2, r3) := by first | (rw [hy291]; with_reducible exact H) | (have H2_ := (Option.bind_some _ _).symm.trans H; rw [hy291]; with_reducible exact H2_) | (have H2_ := (Option.bind_some _ _).symm.trans H; with_reducible exact H2_) | with_reducible exact H | (rw [hy291]; exact H) | exact H
             have Ny291 := Aside0.mk hy291
             clear hy291
             have H' := Aside0.mk H
             clear H
             go_wp2_with (first | (go_at_call 22; (with_reducible refine (noriaref11_GetWord.calls k2 _ _ l0 (wrap64 (a1 + x8_2)) 18446744073709551615 t287 t288 t289 _ ?side1 ?side2 A9.out).mono ?_); (case side1 => repeat (first | exact (Kd.C_below HR0.out HB.out) | (with_reducible refine Kd.C_alloc ?_ _) | (with_reducible refine Kd.C_drewN ?_ _) | (with_reducible refine Kd.C_drew ?_))); (case side2 => exact HC0.out); rintro e w' ⟨rfl, ⟨nd, rfl⟩⟩; have p290 : 0 ≤ ((ji12) : Int) := of_decide_eq_true (by first | (with_reducible assumption) | assumption); have q290 : (ji12) < (l0.length : Int) := of_decide_eq_true (by first | (with_reducible assumption) | assumption); obtain ⟨ad290, e290, hx290_0⟩ := Kd.at_int HR0.out (ji12) p290 q290; cases e290; replace hx290_0 := (HB.out.cell (World.block_lt_of_cell? w _ hx290_0)).trans hx290_0; replace p290 := eq_true p290; replace q290 := eq_true q290) | ((with_reducible refine gate_builtin (b := .append) (xs := #[.tmp 58, .tmp 68]) rfl ?_); at_builtin; refine Kd.R_append k63 (w0 := w) w.heap.size rfl (.tmp 58) (.tmp 68) 29 63 (.agg #[(.string ⟨#[]⟩), (.int .i64 0)]) 24 rfl Try.underlying29 info63 rfl (by decide) (by omega) u10 x10_2 (⟨t287, wrap64 (rd l0 (ji12))⟩ : S63) [.string t287, .int .i64 (wrap64 (rd l0 (ji12)))] (fun _ => True) (fun _ => False) rfl rfl ?aP (fun _ hk => hk.elim) ?aF ?aO ?aB ?aS ?aL ?_; (case aP => exact k63_mkM _ _ _ (⟨t287, wrap64 (rd l0 (ji12))⟩ : S63)); (case aB => exact (by repeat (first | (with_reducible first | exact HB.out | apply below_alloc | apply pw_below_drewN | apply below_drew1) | exact HB.out))); (case aF => exact (fun _ _ => trivial)); (case aO => exact (by (with_reducible repeat (first | apply Kd.R_alloc | apply Kd.R_drewN | apply Kd.R_drew)); exact HO_10.out)); (case aS => exact (below_size (by repeat (first | (with_reducible first | exact HB.out | apply below_alloc | apply pw_below_drewN | apply below_drew1) | exact HB.out)))); (case aL => have := LMc15.out; omega); intro v292 w16 ho hb hg hat; rw [← Ny291.out] at ho; have n0_ := Aside0.mk (hb); have n1_ := Aside0.mk (ho); clear HB; clear HO_10; have HB := n0_; have HO293 := n1_; clear n0_ n1_; clear ho hb hg hat))
             first | go_roundg k2 | (simp only [← hji12] at H' ⊢; go_roundg k2)
             case measure => have := HJ4.out; have := HK2.out; omega
             case rel => exact ⟨(wrap64 ((wrap64 (x8_2 + t288)) + 1)), (y291), (wrap64 (x11_2 + 1)), (by first | rfl | (simp; done) | (simp [*]; done)), (by first | rfl | (simp; done) | (simp [*]; done)), H', ⟨by have := HJ4.out; have := HK2.out; omega⟩, ⟨by (with_reducible repeat (first | apply Kd.R_alloc | apply Kd.R_drewN | apply Kd.R_drew)); exact HO293.out⟩, ⟨by repeat (first | (with_reducible first | exact HB.out | apply below_alloc | apply pw_below_drewN | apply below_drew1) | exact HB.out)⟩⟩
            ·rw [if_neg c15] at H
             exact absurd H (by simp)
           ·rw [if_neg c14] at H
            exact absurd H (by simp)
          ·rw [if_neg c13] at H
           exact absurd H (by simp)
        ·rw [if_neg c10] at H
         have c10b0 : (t289 == 0) = false := beq_eq_false_iff_ne.mpr c10
         have c10b1 : (t289 != 0) = true := bne_iff_ne.mpr c10
         simp only [Option.some.injEq, Prod.mk.injEq] at H
         obtain ⟨rfl, rfl, rfl⟩ := H
         go_wp2_with (first | (go_at_call 22; (with_reducible refine (noriaref11_GetWord.calls k2 _ _ l0 (wrap64 (a1 + x8_2)) 18446744073709551615 t287 t288 t289 _ ?side1 ?side2 A9.out).mono ?_); (case side1 => repeat (first | exact (Kd.C_below HR0.out HB.out) | (with_reducible refine Kd.C_alloc ?_ _) | (with_reducible refine Kd.C_drewN ?_ _) | (with_reducible refine Kd.C_drew ?_))); (case side2 => exact HC0.out); rintro e w' ⟨rfl, ⟨nd, rfl⟩⟩))
         go_ret3
         exact ⟨_, by first | rfl | (simp [errW_none, errW_some] <;> rfl) | (simp [*, errW_none, errW_some] <;> rfl), by first | exact Kd.R_nil _ _ _ _ _ | exact Kd.N_nil _ _ _ _ _ | exact Kd.V_nil _ _ _ _ _ | exact Kd.Q_nil _ _ _ _ _ | exact Kd.S_nil _ _ _ _ _, by repeat (first | (with_reducible first | exact HB.out | apply below_alloc | apply pw_below_drewN | apply below_drew1) | exact HB.out)⟩
       ·rw [if_neg c8] at H
        have c8b0 : decide (x11_2 < (wrap64 (t283))) = false := decide_eq_false c8
        clear c8
        replace H := Option.bind_eq_some_iff.mp H
        obtain ⟨t286, A170, H⟩ := H
        replace H : (if t286 = 0 then (some (x10_2, x8_2, 0)) else (some (([] : List (S63)), 0, t286))) = some (r1, r2, r3) := H
        have A17 := Aside0.mk A170
        clear A170
        by_cases c18 : t286 = 0
        ·rw [if_pos c18] at H
         have c18b0 : (t286 == 0) = true := beq_iff_eq.mpr c18
         have c18b1 : (t286 != 0) = false := bne_eq_false_iff_eq.mpr c18
         clear c18
         simp only [Option.some.injEq, Prod.mk.injEq] at H
         obtain ⟨rfl, rfl, rfl⟩ := H
         obtain ⟨Ao19, co19, eo19⟩ := Kd.R_slice HO_10.out
         subst eo19
         go_wp2_with (first | (go_at_call 23; (with_reducible refine (noriaref11_CheckSchema.calls k2 _ _ x10_2 t286 _ ?side1 ?side2 A17.out).mono ?_); (case side1 => repeat (first | exact (Kd.R_reads' HO_10.out).2.2 | (with_reducible refine Kd.C_alloc ?_ _) | (with_reducible refine Kd.C_drewN ?_ _) | (with_reducible refine Kd.C_drew ?_))); (case side2 => exact (Kd.R_reads' HO_10.out).2.1); rintro e w' ⟨rfl, ⟨nd, rfl⟩⟩))
         go_ret3
         exact ⟨_, by first | rfl | (simp [errW_none, errW_some] <;> rfl) | (simp [*, errW_none, errW_some] <;> rfl), by (with_reducible repeat (first | apply Kd.R_alloc | apply Kd.R_drewN | apply Kd.R_drew)); exact HO_10.out, by repeat (first | (with_reducible first | exact HB.out | apply below_alloc | apply pw_below_drewN | apply below_drew1) | exact HB.out)⟩
        ·rw [if_neg c18] at H
         have c18b0 : (t286 == 0) = false := beq_eq_false_iff_ne.mpr c18
         have c18b1 : (t286 != 0) = true := bne_iff_ne.mpr c18
         simp only [Option.some.injEq, Prod.mk.injEq] at H
         obtain ⟨rfl, rfl, rfl⟩ := H
         obtain ⟨Ao20, co20, eo20⟩ := Kd.R_slice HO_10.out
         subst eo20
         go_wp2_with (first | (go_at_call 23; (with_reducible refine (noriaref11_CheckSchema.calls k2 _ _ x10_2 t286 _ ?side1 ?side2 A17.out).mono ?_); (case side1 => repeat (first | exact (Kd.R_reads' HO_10.out).2.2 | (with_reducible refine Kd.C_alloc ?_ _) | (with_reducible refine Kd.C_drewN ?_ _) | (with_reducible refine Kd.C_drew ?_))); (case side2 => exact (Kd.R_reads' HO_10.out).2.1); rintro e w' ⟨rfl, ⟨nd, rfl⟩⟩))
         go_ret3
         exact ⟨_, by first | rfl | (simp [errW_none, errW_some] <;> rfl) | (simp [*, errW_none, errW_some] <;> rfl), by first | exact Kd.R_nil _ _ _ _ _ | exact Kd.N_nil _ _ _ _ _ | exact Kd.V_nil _ _ _ _ _ | exact Kd.Q_nil _ _ _ _ _ | exact Kd.S_nil _ _ _ _ _, by repeat (first | (with_reducible first | exact HB.out | apply below_alloc | apply pw_below_drewN | apply below_drew1) | exact HB.out)⟩
 ·rw [if_neg c4] at H
  have c4b0 : (t285 == 0) = false := beq_eq_false_iff_ne.mpr c4
  have c4b1 : (t285 != 0) = true := bne_iff_ne.mpr c4
  simp only [Option.some.injEq, Prod.mk.injEq] at H
  obtain ⟨rfl, rfl, rfl⟩ := H
  go_enter Try.func7, Try.ntmps7
  go_wp2_with (first | (go_at_call 21; (with_reducible refine (noriaref11_Get.calls k _ _ l0 a1 t283 t284 t285 _ ?side1 ?side2 A3.out).mono ?_); (case side1 => repeat (first | exact HR0.out | (with_reducible refine Kd.C_alloc ?_ _) | (with_reducible refine Kd.C_drewN ?_ _) | (with_reducible refine Kd.C_drew ?_))); (case side2 => exact HC0.out); rintro e w' ⟨rfl, ⟨nd, rfl⟩⟩))
  go_ret3
  exact ⟨_, by first | rfl | (simp [errW_none, errW_some] <;> rfl) | (simp [*, errW_none, errW_some] <;> rfl), by first | exact Kd.R_nil _ _ _ _ _ | exact Kd.N_nil _ _ _ _ _ | exact Kd.V_nil _ _ _ _ _ | exact Kd.Q_nil _ _ _ _ _ | exact Kd.S_nil _ _ _ _ _, by repeat (first | (with_reducible first | exact HB.out | apply below_alloc | apply pw_below_drewN | apply below_drew1) | exact HB.out)⟩

/-! ### noriaref11_SameSchema: function 8 -/
def noriaref11_SameSchema.l0 : Nat → List (S63) → List (S63) → Int → Option (Bool)
 | 0, _, _, _ => none
 | k + 1, x0, x1, x5 => if x5 < (x0.length : Int) then (if 0 ≤ x5 then (if x5 < (x1.length : Int) then (if (!((((rd_T63 x0 x5).f0).toList) == (((rd_T63 x1 x5).f0).toList)) || (!(((rd_T63 x0 x5).f1) == ((rd_T63 x1 x5).f1)))) = true then (some false) else (noriaref11_SameSchema.l0 k x0 x1 (wrap64 (x5 + 1)))) else (none)) else (none)) else (some true)
def noriaref11_SameSchema.f (k : Nat) (l0 : List (S63)) (l1 : List (S63)) : Option (Bool) := if (l0.length : Int) = (l1.length : Int) then (noriaref11_SameSchema.l0 k l0 l1 0) else (some false)
theorem noriaref11_SameSchema.mono_l : ∀ k, (∀ y0 y1 y2, LeO (noriaref11_SameSchema.l0 k y0 y1 y2) (noriaref11_SameSchema.l0 (k + 1) y0 y1 y2))
 | 0 => fun _ _ _ r h => by simp [noriaref11_SameSchema.l0] at h
 | k + 1 => by
  have ih0 := noriaref11_SameSchema.mono_l k
  ·intro y0 y1 y2
   unfold noriaref11_SameSchema.l0
   repeat' first
   | (with_reducible exact ih0 _ _ _)
   | (with_reducible exact LeO.refl _)
   | (with_reducible exact LeO.none _)
   | (with_reducible refine LeO.ite ?_ ?_)
   | (with_reducible refine LeO.bind ?_ (fun _ => ?_))
   | exact ih0 _ _ _
   | exact LeO.none _
   | refine LeO.ite ?_ ?_
   | refine LeO.bind ?_ (fun _ => ?_)
theorem noriaref11_SameSchema.mono : ∀ a0 a1 k, LeO (noriaref11_SameSchema.f k a0 a1) (noriaref11_SameSchema.f (k + 1) a0 a1) := by
 intro a0 a1 k
 have ih0 := noriaref11_SameSchema.mono_l k
 unfold noriaref11_SameSchema.f
 repeat' first
   | (with_reducible exact ih0 _ _ _)
   | (with_reducible exact LeO.refl _)
   | (with_reducible exact LeO.none _)
   | (with_reducible refine LeO.ite ?_ ?_)
   | (with_reducible refine LeO.bind ?_ (fun _ => ?_))
   | exact ih0 _ _ _
   | exact LeO.none _
   | refine LeO.ite ?_ ?_
   | refine LeO.bind ?_ (fun _ => ?_)
set_option maxHeartbeats 8000000 in
set_option maxRecDepth 100000 in
theorem noriaref11_SameSchema.calls (k : Nat) (A0 : Option Addr) (c0 : Nat) (l0 : List (S63)) (A1 : Option Addr) (c1 : Nat) (l1 : List (S63)) (r : Bool) (w : World) (hr0 : Kd.C k63 w A0 l0.length l0) (hc0 : l0.length ≤ c0) (hr1 : Kd.C k63 w A1 l1.length l1) (hc1 : l1.length ≤ c1) (h : noriaref11_SameSchema.f k l0 l1 = some r) :
  Calls Try.prog 8 #[.slice A0 l0.length c0, .slice A1 l1.length c1] w fun e w' => e = .returned (.bool r) ∧ Drawn0 w w' := by
 have hu63 := Try.underlying63
 have HR0 := Aside0.mk hr0
 have HC0 := Aside0.mk hc0
 clear hr0 hc0
 have HR1 := Aside0.mk hr1
 have HC1 := Aside0.mk hc1
 clear hr1 hc1
 have H : (if (l0.length : Int) = (l1.length : Int) then (noriaref11_SameSchema.l0 k l0 l1 0) else (some false)) = some r := h
 clear h
 by_cases c3 : (l0.length : Int) = (l1.length : Int)
 ·rw [if_pos c3] at H
  have c3b0 : ((l0.length : Int) == (l1.length : Int)) = true := beq_iff_eq.mpr c3
  have c3b1 : ((l0.length : Int) != (l1.length : Int)) = false := bne_eq_false_iff_eq.mpr c3
  have c3b2 : (l0.length == l1.length) = true := by first | simpa using c3 | (simp at c3 ⊢; omega)
  clear c3
  have H' := Aside0.mk H
  clear H
  go_enter Try.func8, Try.ntmps8
  go_wp2
  repeat (go_quiet (fail); try go_wp2)
  go_loopg [5] k (fun kq v5 w' => ∃ (x5_1 : Int), v5 = .int .i64 x5_1 ∧ Aside0 (noriaref11_SameSchema.l0 kq l0 l1 x5_1 = some r) ∧ Aside0 (kq ≤ k) ∧ Drawn0 w w')
  case atStart => exact ⟨(0), (by first | rfl | (simp; done) | (simp [*]; done)), H', ⟨Nat.le_refl _⟩, by repeat (first | exact Drawn0.refl _ | apply Drawn0.step)⟩
  case round =>
   clear H'
   try clear c1
   try clear p2
   try clear c3
   try clear c3b0
   try clear c3b1
   try clear c3b2
   obtain ⟨x5_1, rfl, HA, HK1, ⟨m1, rfl⟩⟩ := hrel
   cases gk with
   | zero => exact absurd HA.out (by simp [noriaref11_SameSchema.l0])
   | succ k1 =>
    have H := HA.out
    clear HA
    simp only [noriaref11_SameSchema.l0] at H
    by_cases c4 : x5_1 < (l0.length : Int)
    ·rw [if_pos c4] at H
     have c4b0 : decide (x5_1 < (l0.length : Int)) = true := decide_eq_true c4
     clear c4
     by_cases c5 : 0 ≤ x5_1
     ·rw [if_pos c5] at H
      have c5b0 : decide (0 ≤ x5_1) = true := decide_eq_true c5
      clear c5
      by_cases c6 : x5_1 < (l1.length : Int)
      ·rw [if_pos c6] at H
       have c6b0 : decide (x5_1 < (l1.length : Int)) = true := decide_eq_true c6
       clear c6
       by_cases c7 : (!((((rd_T63 l0 x5_1).f0).toList) == (((rd_T63 l1 x5_1).f0).toList)) || (!(((rd_T63 l0 x5_1).f1) == ((rd_T63 l1 x5_1).f1)))) = true
       ·rw [if_pos c7] at H
        have c7b0 : (!((((rd_T63 l0 x5_1).f0).toList) == (((rd_T63 l1 x5_1).f0).toList)) || (!(((rd_T63 l0 x5_1).f1) == ((rd_T63 l1 x5_1).f1)))) = true := c7
        clear c7
        obtain rfl := Option.some.inj H
        have p294 : 0 ≤ (x5_1 : Int) := of_decide_eq_true (by first | (with_reducible assumption) | assumption)
        have q294 : x5_1 < (l0.length : Int) := of_decide_eq_true (by first | (with_reducible assumption) | assumption)
        obtain ⟨ad294, e294, hx294_0, hx294_1⟩ := at_T63 HR0.out x5_1 p294 q294
        cases e294
        replace p294 := eq_true p294
        replace q294 := eq_true q294
        have p295 : 0 ≤ (x5_1 : Int) := of_decide_eq_true (by first | (with_reducible assumption) | assumption)
        have q295 : x5_1 < (l1.length : Int) := of_decide_eq_true (by first | (with_reducible assumption) | assumption)
        obtain ⟨ad295, e295, hx295_0, hx295_1⟩ := at_T63 HR1.out x5_1 p295 q295
        cases e295
        replace p295 := eq_true p295
        replace q295 := eq_true q295
        go_wp2
        repeat (go_quiet (fail); try go_wp2)
        go_ret
        exact ⟨by first | rfl | (simp; done) | (simp [*]; done), by repeat (first | exact Drawn0.refl _ | apply Drawn0.step)⟩
       ·rw [if_neg c7] at H
        have c7b0 : (!((((rd_T63 l0 x5_1).f0).toList) == (((rd_T63 l1 x5_1).f0).toList)) || (!(((rd_T63 l0 x5_1).f1) == ((rd_T63 l1 x5_1).f1)))) = false := by simpa using c7
        clear c7
        have H' := Aside0.mk H
        clear H
        have p294 : 0 ≤ (x5_1 : Int) := of_decide_eq_true (by first | (with_reducible assumption) | assumption)
        have q294 : x5_1 < (l0.length : Int) := of_decide_eq_true (by first | (with_reducible assumption) | assumption)
        obtain ⟨ad294, e294, hx294_0, hx294_1⟩ := at_T63 HR0.out x5_1 p294 q294
        cases e294
        replace p294 := eq_true p294
        replace q294 := eq_true q294
        have p295 : 0 ≤ (x5_1 : Int) := of_decide_eq_true (by first | (with_reducible assumption) | assumption)
        have q295 : x5_1 < (l1.length : Int) := of_decide_eq_true (by first | (with_reducible assumption) | assumption)
        obtain ⟨ad295, e295, hx295_0, hx295_1⟩ := at_T63 HR1.out x5_1 p295 q295
        cases e295
        replace p295 := eq_true p295
        replace q295 := eq_true q295
        go_wp2
        repeat (go_quiet (fail); try go_wp2)
        go_roundg k1
        case measure => have := HK1.out; omega
        case rel => exact ⟨(wrap64 (x5_1 + 1)), (by first | rfl | (simp; done) | (simp [*]; done)), H', ⟨by have := HK1.out; omega⟩, by repeat (first | exact Drawn0.refl _ | apply Drawn0.step)⟩
      ·rw [if_neg c6] at H
       exact absurd H (by simp)
     ·rw [if_neg c5] at H
      exact absurd H (by simp)
    ·rw [if_neg c4] at H
     have c4b0 : decide (x5_1 < (l0.length : Int)) = false := decide_eq_false c4
     clear c4
     obtain rfl := Option.some.inj H
     go_wp2
     repeat (go_quiet (fail); try go_wp2)
     go_ret
     exact ⟨by first | rfl | (simp; done) | (simp [*]; done), by repeat (first | exact Drawn0.refl _ | apply Drawn0.step)⟩
 ·rw [if_neg c3] at H
  have c3b0 : ((l0.length : Int) == (l1.length : Int)) = false := beq_eq_false_iff_ne.mpr c3
  have c3b1 : ((l0.length : Int) != (l1.length : Int)) = true := bne_iff_ne.mpr c3
  have c3b2 : (l0.length == l1.length) = false := by first | simpa using c3 | (simp at c3 ⊢; omega)
  obtain rfl := Option.some.inj H
  go_enter Try.func8, Try.ntmps8
  go_wp2
  repeat (go_quiet (fail); try go_wp2)
  go_ret
  exact ⟨by first | rfl | (simp; done) | (simp [*]; done), by repeat (first | exact Drawn0.refl _ | apply Drawn0.step)⟩

end Go.Proofs.Ythflicjbclcbaaa.PAll
