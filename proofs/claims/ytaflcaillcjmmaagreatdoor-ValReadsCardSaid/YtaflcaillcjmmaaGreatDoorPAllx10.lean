-- Printed by this session's own program (wip/tools/pp.py): out of the translation. Lean checks it.
import Derived.Test.YtaflcaillcjmmaaGreatDoorTd
import Derived.Test.YtaflcaillcjmmaaGreatDoorPAllx0
namespace Go.Proofs.YtaflcaillcjmmaaGreatDoor.PAll
open Go.Proofs.YtaflcaillcjmmaaGreatDoor.Help
open Go.RowKit Go.Proofs.YtaflcaillcjmmaaGreatDoorW.PrintWords Go.Proofs.YtaflcaillcjmmaaGreatDoorW.PrintLast Go.Proofs.YtaflcaillcjmmaaGreatDoorW.PrintMore
attribute [local go_sem] run_fl_eql run_fl_neq run_fl_lss run_fl_leq run_fl_gtr run_fl_geq unary_fl_neg run_cx_eql run_cx_neq run_cx_make run_cx_real run_cx_imag run_fl_of run_fl_to64 run_fl_add run_fl_sub run_fl_mul run_cx_add run_cx_sub run_cx_store run_fl_store str_gtr str_leq str_geq cell_put3_0 cell_put3_1 cell_put4_0 cell_put4_1 max2_int min2_int max_two min_two max_three min_three max_four min_four   -- for this text's walks alone
set_option linter.unusedVariables false
set_option linter.unusedSimpArgs false

/-! ### noriaref11_hex: function 23 -/
def noriaref11_hex.j0 : Nat → Int → Bool → Option (Int)
  | 0, _, _ => none
  | k + 1, x0, x3 => if x3 = true then (some ((x0 - 48) % 256)) else (if x0 ≥ 97 then (if x0 ≤ 102 then (some (((x0 - 97) % 256) + 10)) else (some (-1))) else (some (-1)))
def noriaref11_hex.f (k : Nat) (a0 : Int) : Option (Int) := if a0 ≥ 48 then (noriaref11_hex.j0 k a0 (decide (a0 ≤ 57))) else (noriaref11_hex.j0 k a0 false)
theorem noriaref11_hex.mono_l : ∀ k, (∀ y0 y1, LeO (noriaref11_hex.j0 k y0 y1) (noriaref11_hex.j0 (k + 1) y0 y1))
  | 0 => fun _ _ r h => by simp [noriaref11_hex.j0] at h
  | k + 1 => by
    have ih0 := noriaref11_hex.mono_l k
    · intro y0 y1
      unfold noriaref11_hex.j0
      repeat' first
      | (with_reducible exact ih0 _ _)
      | (with_reducible exact LeO.refl _)
      | (with_reducible exact LeO.none _)
      | (with_reducible refine LeO.ite ?_ ?_)
      | (with_reducible refine LeO.bind ?_ (fun _ => ?_))
      | exact ih0 _ _
      | exact LeO.none _
      | refine LeO.ite ?_ ?_
      | refine LeO.bind ?_ (fun _ => ?_)
theorem noriaref11_hex.mono : ∀ a0 k, LeO (noriaref11_hex.f k a0) (noriaref11_hex.f (k + 1) a0) := by
  intro a0 k
  have ih0 := noriaref11_hex.mono_l k
  unfold noriaref11_hex.f
  repeat' first
      | (with_reducible exact ih0 _ _)
      | (with_reducible exact LeO.refl _)
      | (with_reducible exact LeO.none _)
      | (with_reducible refine LeO.ite ?_ ?_)
      | (with_reducible refine LeO.bind ?_ (fun _ => ?_))
      | exact ih0 _ _
      | exact LeO.none _
      | refine LeO.ite ?_ ?_
      | refine LeO.bind ?_ (fun _ => ?_)
set_option maxHeartbeats 8000000 in
set_option maxRecDepth 100000 in
theorem noriaref11_hex.calls (k : Nat) (a0 : Int) (r : Int) (w : World) (h : noriaref11_hex.f k a0 = some r) :
    Calls Tryz.prog 23 #[.int .u8 a0] w fun e w' => e = .returned (.int .i64 r) ∧ Drawn0 w w' := by
  have H : (if a0 ≥ 48 then (noriaref11_hex.j0 k a0 (decide (a0 ≤ 57))) else (noriaref11_hex.j0 k a0 false)) = some r := h
  clear h
  have HC2 := Aside0.mk H
  clear H
  go_enter Tryz.func23, Tryz.ntmps23
  go_upto_region 1 with (fail)
  go_cut [3] (fun v3 wc => ∃ (kq : Nat) (x3_1 : Bool), v3 = .bool x3_1 ∧ Aside0 (noriaref11_hex.j0 kq a0 x3_1 = some r) ∧ Aside0 (kq ≤ k) ∧ Drawn0 w wc)
  case first =>
    have H := HC2.out
    clear HC2
    by_cases c3 : a0 ≥ 48
    · rw [if_pos c3] at H
      have c3b0 : decide (48 ≤ a0) = true := decide_eq_true c3
      clear c3
      (first | rw [c3b0] | (simp only [i64_w, i32_w]; rw [c3b0]) | skip)
      have H' := Aside0.mk H
      clear H
      go_wp2
      go_meet
      case rel => exact ⟨_, (decide (a0 ≤ 57)), (by first | rfl | (simp; done) | (simp [*]; done)), H', ⟨by first | omega | exact Nat.le_refl _⟩, by repeat (first | exact Drawn0.refl _ | apply Drawn0.step)⟩
    · rw [if_neg c3] at H
      have c3b0 : decide (48 ≤ a0) = false := decide_eq_false c3
      clear c3
      (first | rw [c3b0] | (simp only [i64_w, i32_w]; rw [c3b0]) | skip)
      have H' := Aside0.mk H
      clear H
      go_wp2
      go_meet
      case rel => exact ⟨_, (false), (by first | rfl | (simp; done) | (simp [*]; done)), H', ⟨by first | omega | exact Nat.le_refl _⟩, by repeat (first | exact Drawn0.refl _ | apply Drawn0.step)⟩
  case rest =>
    clear HC2
    try clear c2
    try clear p2
    try clear c3
    try clear c3b0
    obtain ⟨kq, x3_1, rfl, HA, HJ1, ⟨mc1, rfl⟩⟩ := hcut
    cases kq with
    | zero => exact absurd HA.out (by simp [noriaref11_hex.j0])
    | succ kj1 =>
      have H := HA.out
      clear HA
      simp only [noriaref11_hex.j0] at H
      by_cases c4 : x3_1 = true
      · subst c4
        have H1 : (some ((a0 - 48) % 256)) = some r := by rw [if_pos rfl] at H; exact H
        clear H
        have H := H1
        clear H1
        obtain rfl := Option.some.inj H
        go_wp2
        go_ret
        exact ⟨by first | rfl | (simp; done) | (simp [*]; done), by repeat (first | exact Drawn0.refl _ | apply Drawn0.step)⟩
      · replace c4 := Bool.eq_false_iff.mpr c4
        subst c4
        have H1 : (if a0 ≥ 97 then (if a0 ≤ 102 then (some (((a0 - 97) % 256) + 10)) else (some (-1))) else (some (-1))) = some r := by rw [if_neg (show ¬ (false = true) by decide)] at H; exact H
        clear H
        have H := H1
        clear H1
        by_cases c5 : a0 ≥ 97
        · rw [if_pos c5] at H
          have c5b0 : decide (97 ≤ a0) = true := decide_eq_true c5
          clear c5
          by_cases c6 : a0 ≤ 102
          · rw [if_pos c6] at H
            have c6b0 : decide (a0 ≤ 102) = true := decide_eq_true c6
            clear c6
            obtain rfl := Option.some.inj H
            go_wp2
            go_ret
            exact ⟨by first | rfl | (simp; done) | (simp [*]; done), by repeat (first | exact Drawn0.refl _ | apply Drawn0.step)⟩
          · rw [if_neg c6] at H
            have c6b0 : decide (a0 ≤ 102) = false := decide_eq_false c6
            clear c6
            obtain rfl := Option.some.inj H
            go_wp2
            go_ret
            exact ⟨by first | rfl | (simp; done) | (simp [*]; done), by repeat (first | exact Drawn0.refl _ | apply Drawn0.step)⟩
        · rw [if_neg c5] at H
          have c5b0 : decide (97 ≤ a0) = false := decide_eq_false c5
          clear c5
          obtain rfl := Option.some.inj H
          go_wp2
          go_ret
          exact ⟨by first | rfl | (simp; done) | (simp [*]; done), by repeat (first | exact Drawn0.refl _ | apply Drawn0.step)⟩

/-! ### noriaref11_ParseNum: function 25 -/
mutual
def noriaref11_ParseNum.j0 : Nat → ByteArray → ByteArray → Bool → Option (Int × Int)
  | 0, _, _, _ => none
  | k + 1, x0, x4, x5 => if x5 = true then (if 1 ≤ (x0.size : Int) then (noriaref11_ParseNum.j1 k (x0.extract 1 x0.size) x5) else (none)) else (noriaref11_ParseNum.j1 k x4 x5)
def noriaref11_ParseNum.j1 : Nat → ByteArray → Bool → Option (Int × Int)
  | 0, _, _ => none
  | k + 1, x4, x5 => if x4.toList = ([] : List UInt8) then (noriaref11_ParseNum.j2 k x4 x5 true) else (if 0 < (x4.size : Int) then (if (bt x4 0) = 48 then (if (x4.size : Int) > 1 then (noriaref11_ParseNum.j2 k x4 x5 true) else (noriaref11_ParseNum.j2 k x4 x5 x5)) else (noriaref11_ParseNum.j2 k x4 x5 false)) else (none))
def noriaref11_ParseNum.j2 : Nat → ByteArray → Bool → Bool → Option (Int × Int)
  | 0, _, _, _ => none
  | k + 1, x4, x5, x36 => if x36 = true then (some (0, 2)) else (noriaref11_ParseNum.l0 k x4 x5 0)
def noriaref11_ParseNum.l0 : Nat → ByteArray → Bool → Int → Option (Int × Int)
  | 0, _, _, _ => none
  | k + 1, x4, x5, x6 => if x6 < (x4.size : Int) then (if 0 ≤ x6 then (if (bt x4 x6) < 48 then (some (0, 2)) else (if (bt x4 x6) > 57 then (some (0, 2)) else (noriaref11_ParseNum.l0 k x4 x5 (wrap64 (x6 + 1))))) else (none)) else (noriaref11_ParseNum.l1 k x4 x5 0 0)
def noriaref11_ParseNum.l1 : Nat → ByteArray → Bool → Int → Int → Option (Int × Int)
  | 0, _, _, _, _ => none
  | k + 1, x4, x5, x7, x8 => if x8 < (x4.size : Int) then (if 0 ≤ x8 then (if x7 < (wrap64 (Int.tdiv ((-9223372036854775808) + (((bt x4 x8) - 48) % 256)) 10)) then (some (0, 1)) else (noriaref11_ParseNum.l1 k x4 x5 (wrap64 ((wrap64 (10 * x7)) - (((bt x4 x8) - 48) % 256))) (wrap64 (x8 + 1)))) else (none)) else (if x5 = true then (some (x7, 0)) else (if x7 = (-9223372036854775808) then (some (0, 1)) else (some (wrap64 (-x7), 0))))
end
def noriaref11_ParseNum.f (k : Nat) (a0 : ByteArray) : Option (Int × Int) := if (a0.size : Int) > 0 then (if 0 < (a0.size : Int) then (noriaref11_ParseNum.j0 k a0 a0 ((bt a0 0) == 45)) else (none)) else (noriaref11_ParseNum.j0 k a0 a0 false)
theorem noriaref11_ParseNum.mono_l : ∀ k, (∀ y0 y1 y2, LeO (noriaref11_ParseNum.j0 k y0 y1 y2) (noriaref11_ParseNum.j0 (k + 1) y0 y1 y2)) ∧ (∀ y0 y1, LeO (noriaref11_ParseNum.j1 k y0 y1) (noriaref11_ParseNum.j1 (k + 1) y0 y1)) ∧ (∀ y0 y1 y2, LeO (noriaref11_ParseNum.j2 k y0 y1 y2) (noriaref11_ParseNum.j2 (k + 1) y0 y1 y2)) ∧ (∀ y0 y1 y2, LeO (noriaref11_ParseNum.l0 k y0 y1 y2) (noriaref11_ParseNum.l0 (k + 1) y0 y1 y2)) ∧ (∀ y0 y1 y2 y3, LeO (noriaref11_ParseNum.l1 k y0 y1 y2 y3) (noriaref11_ParseNum.l1 (k + 1) y0 y1 y2 y3))
  | 0 => ⟨fun _ _ _ r h => by simp [noriaref11_ParseNum.j0] at h, fun _ _ r h => by simp [noriaref11_ParseNum.j1] at h, fun _ _ _ r h => by simp [noriaref11_ParseNum.j2] at h, fun _ _ _ r h => by simp [noriaref11_ParseNum.l0] at h, fun _ _ _ _ r h => by simp [noriaref11_ParseNum.l1] at h⟩
  | k + 1 => by
    obtain ⟨ih0, ih1, ih2, ih3, ih4⟩ := noriaref11_ParseNum.mono_l k
    refine ⟨?_, ?_, ?_, ?_, ?_⟩
    · intro y0 y1 y2
      unfold noriaref11_ParseNum.j0
      repeat' first
      | (with_reducible exact ih0 _ _ _)
      | (with_reducible exact ih1 _ _)
      | (with_reducible exact ih2 _ _ _)
      | (with_reducible exact ih3 _ _ _)
      | (with_reducible exact ih4 _ _ _ _)
      | (with_reducible exact LeO.refl _)
      | (with_reducible exact LeO.none _)
      | (with_reducible refine LeO.ite ?_ ?_)
      | (with_reducible refine LeO.bind ?_ (fun _ => ?_))
      | exact ih0 _ _ _
      | exact ih1 _ _
      | exact ih2 _ _ _
      | exact ih3 _ _ _
      | exact ih4 _ _ _ _
      | exact LeO.none _
      | refine LeO.ite ?_ ?_
      | refine LeO.bind ?_ (fun _ => ?_)
    · intro y0 y1
      unfold noriaref11_ParseNum.j1
      repeat' first
      | (with_reducible exact ih0 _ _ _)
      | (with_reducible exact ih1 _ _)
      | (with_reducible exact ih2 _ _ _)
      | (with_reducible exact ih3 _ _ _)
      | (with_reducible exact ih4 _ _ _ _)
      | (with_reducible exact LeO.refl _)
      | (with_reducible exact LeO.none _)
      | (with_reducible refine LeO.ite ?_ ?_)
      | (with_reducible refine LeO.bind ?_ (fun _ => ?_))
      | exact ih0 _ _ _
      | exact ih1 _ _
      | exact ih2 _ _ _
      | exact ih3 _ _ _
      | exact ih4 _ _ _ _
      | exact LeO.none _
      | refine LeO.ite ?_ ?_
      | refine LeO.bind ?_ (fun _ => ?_)
    · intro y0 y1 y2
      unfold noriaref11_ParseNum.j2
      repeat' first
      | (with_reducible exact ih0 _ _ _)
      | (with_reducible exact ih1 _ _)
      | (with_reducible exact ih2 _ _ _)
      | (with_reducible exact ih3 _ _ _)
      | (with_reducible exact ih4 _ _ _ _)
      | (with_reducible exact LeO.refl _)
      | (with_reducible exact LeO.none _)
      | (with_reducible refine LeO.ite ?_ ?_)
      | (with_reducible refine LeO.bind ?_ (fun _ => ?_))
      | exact ih0 _ _ _
      | exact ih1 _ _
      | exact ih2 _ _ _
      | exact ih3 _ _ _
      | exact ih4 _ _ _ _
      | exact LeO.none _
      | refine LeO.ite ?_ ?_
      | refine LeO.bind ?_ (fun _ => ?_)
    · intro y0 y1 y2
      unfold noriaref11_ParseNum.l0
      repeat' first
      | (with_reducible exact ih0 _ _ _)
      | (with_reducible exact ih1 _ _)
      | (with_reducible exact ih2 _ _ _)
      | (with_reducible exact ih3 _ _ _)
      | (with_reducible exact ih4 _ _ _ _)
      | (with_reducible exact LeO.refl _)
      | (with_reducible exact LeO.none _)
      | (with_reducible refine LeO.ite ?_ ?_)
      | (with_reducible refine LeO.bind ?_ (fun _ => ?_))
      | exact ih0 _ _ _
      | exact ih1 _ _
      | exact ih2 _ _ _
      | exact ih3 _ _ _
      | exact ih4 _ _ _ _
      | exact LeO.none _
      | refine LeO.ite ?_ ?_
      | refine LeO.bind ?_ (fun _ => ?_)
    · intro y0 y1 y2 y3
      unfold noriaref11_ParseNum.l1
      repeat' first
      | (with_reducible exact ih0 _ _ _)
      | (with_reducible exact ih1 _ _)
      | (with_reducible exact ih2 _ _ _)
      | (with_reducible exact ih3 _ _ _)
      | (with_reducible exact ih4 _ _ _ _)
      | (with_reducible exact LeO.refl _)
      | (with_reducible exact LeO.none _)
      | (with_reducible refine LeO.ite ?_ ?_)
      | (with_reducible refine LeO.bind ?_ (fun _ => ?_))
      | exact ih0 _ _ _
      | exact ih1 _ _
      | exact ih2 _ _ _
      | exact ih3 _ _ _
      | exact ih4 _ _ _ _
      | exact LeO.none _
      | refine LeO.ite ?_ ?_
      | refine LeO.bind ?_ (fun _ => ?_)
theorem noriaref11_ParseNum.mono : ∀ a0 k, LeO (noriaref11_ParseNum.f k a0) (noriaref11_ParseNum.f (k + 1) a0) := by
  intro a0 k
  obtain ⟨ih0, ih1, ih2, ih3, ih4⟩ := noriaref11_ParseNum.mono_l k
  unfold noriaref11_ParseNum.f
  repeat' first
      | (with_reducible exact ih0 _ _ _)
      | (with_reducible exact ih1 _ _)
      | (with_reducible exact ih2 _ _ _)
      | (with_reducible exact ih3 _ _ _)
      | (with_reducible exact ih4 _ _ _ _)
      | (with_reducible exact LeO.refl _)
      | (with_reducible exact LeO.none _)
      | (with_reducible refine LeO.ite ?_ ?_)
      | (with_reducible refine LeO.bind ?_ (fun _ => ?_))
      | exact ih0 _ _ _
      | exact ih1 _ _
      | exact ih2 _ _ _
      | exact ih3 _ _ _
      | exact ih4 _ _ _ _
      | exact LeO.none _
      | refine LeO.ite ?_ ?_
      | refine LeO.bind ?_ (fun _ => ?_)
set_option maxHeartbeats 8000000 in
set_option maxRecDepth 100000 in
theorem noriaref11_ParseNum.calls (k : Nat) (a0 : ByteArray) (r1 : Int) (r2 : Int) (w : World) (h : noriaref11_ParseNum.f k a0 = some (r1, r2)) :
    Calls Tryz.prog 25 #[.string a0] w fun e w' => e = .returned (.tuple #[.int .i64 r1, .int .i64 r2]) ∧ Drawn0 w w' := by
  have H : (if (a0.size : Int) > 0 then (if 0 < (a0.size : Int) then (noriaref11_ParseNum.j0 k a0 a0 ((bt a0 0) == 45)) else (none)) else (noriaref11_ParseNum.j0 k a0 a0 false)) = some (r1, r2) := h
  clear h
  have HC2 := Aside0.mk H
  clear H
  go_enter Tryz.func25, Tryz.ntmps25
  go_upto_region 2 with (fail)
  go_cut [5] (fun v5 wc => ∃ (kq : Nat) (x5_1 : Bool), v5 = .bool x5_1 ∧ Aside0 (noriaref11_ParseNum.j0 kq a0 a0 x5_1 = some (r1, r2)) ∧ Aside0 (kq ≤ k) ∧ Drawn0 w wc)
  case first =>
    have H := HC2.out
    clear HC2
    by_cases c3 : (a0.size : Int) > 0
    · rw [if_pos c3] at H
      have c3b0 : decide (0 < (a0.size : Int)) = true := decide_eq_true c3
      have c3b1 : decide (0 < a0.size) = true := decide_eq_true (by omega)
      clear c3
      (first | rw [c3b0] | (simp only [i64_w, i32_w]; rw [c3b0]) | skip)
      by_cases c4 : 0 < (a0.size : Int)
      · rw [if_pos c4] at H
        have c4b0 : decide (0 < (a0.size : Int)) = true := decide_eq_true c4
        have c4b1 : decide (0 < a0.size) = true := decide_eq_true (by omega)
        clear c4
        have H' := Aside0.mk H
        clear H
        have p5 : 0 ≤ (0 : Int) := (by omega)
        have q5 : 0 < a0.size := (by have : (0 : Int) < (a0.size : Int) := of_decide_eq_true (by first | (with_reducible assumption) | assumption); omega)
        have hx5 : ∀ h : 0 < a0.size, ((a0[0]'h).toNat : Int) = bt a0 0 := bt_at a0 0
        clear p5
        have qi5 : (0 < (a0.size : Int)) = True := eq_true (of_decide_eq_true (by first | (with_reducible assumption) | assumption))
        replace q5 := eq_true q5
        go_wp2
        go_meet
        case rel => exact ⟨_, (((bt a0 0) == 45)), (by first | rfl | (simp; done) | (simp [*]; done)), H', ⟨by first | omega | exact Nat.le_refl _⟩, by repeat (first | exact Drawn0.refl _ | apply Drawn0.step)⟩
      · rw [if_neg c4] at H
        exact absurd H (by simp)
    · rw [if_neg c3] at H
      have c3b0 : decide (0 < (a0.size : Int)) = false := decide_eq_false c3
      have c3b1 : decide (0 < a0.size) = false := decide_eq_false (by omega)
      clear c3
      (first | rw [c3b0] | (simp only [i64_w, i32_w]; rw [c3b0]) | skip)
      have H' := Aside0.mk H
      clear H
      go_wp2
      go_meet
      case rel => exact ⟨_, (false), (by first | rfl | (simp; done) | (simp [*]; done)), H', ⟨by first | omega | exact Nat.le_refl _⟩, by repeat (first | exact Drawn0.refl _ | apply Drawn0.step)⟩
  case rest =>
    clear HC2
    try clear c2
    try clear p2
    try clear c3
    try clear c3b0
    try clear c3b1
    try clear c4
    try clear c4b0
    try clear c4b1
    try clear p5
    try clear q5
    try clear hx5
    try clear qi5
    try clear p5
    try clear q5
    obtain ⟨kq, x5_1, rfl, HA, HJ1, ⟨mc1, rfl⟩⟩ := hcut
    cases kq with
    | zero => exact absurd HA.out (by simp [noriaref11_ParseNum.j0])
    | succ kj1 =>
      have H := HA.out
      clear HA
      simp only [noriaref11_ParseNum.j0] at H
      have HC6 := Aside0.mk H
      clear H
      go_upto_if 19 with (fail)
      go_cut [4] (fun v4 wc => ∃ (kq : Nat) (x4_5 : ByteArray), v4 = .string x4_5 ∧ Aside0 (noriaref11_ParseNum.j1 kq x4_5 x5_1 = some (r1, r2)) ∧ Aside0 (kq ≤ kj1) ∧ Drawn0 w wc)
      case first =>
        have H := HC6.out
        clear HC6
        by_cases c7 : x5_1 = true
        · subst c7
          have H1 : (if 1 ≤ (a0.size : Int) then (noriaref11_ParseNum.j1 kj1 (a0.extract 1 a0.size) true) else (none)) = some (r1, r2) := by rw [if_pos rfl] at H; exact H
          clear H
          have H := H1
          clear H1
          by_cases c8 : 1 ≤ (a0.size : Int)
          · rw [if_pos c8] at H
            have c8b0 := eq_true c8
            have c8b1 : decide (1 ≤ (a0.size : Int)) = true := decide_eq_true c8
            clear c8
            have H' := Aside0.mk H
            clear H
            go_wp2
            go_meet
            case rel => exact ⟨_, (a0.extract 1 a0.size), (by first | rfl | (simp; done) | (simp [*]; done)), H', ⟨by have := HJ1.out; first | omega | exact Nat.le_refl _⟩, by repeat (first | exact Drawn0.refl _ | apply Drawn0.step)⟩
          · rw [if_neg c8] at H
            exact absurd H (by simp)
        · replace c7 := Bool.eq_false_iff.mpr c7
          subst c7
          have H1 : (noriaref11_ParseNum.j1 kj1 a0 false) = some (r1, r2) := by rw [if_neg (show ¬ (false = true) by decide)] at H; exact H
          clear H
          have H := H1
          clear H1
          have H' := Aside0.mk H
          clear H
          go_wp2
          go_meet
          case rel => exact ⟨_, (a0), (by first | rfl | (simp; done) | (simp [*]; done)), H', ⟨by have := HJ1.out; first | omega | exact Nat.le_refl _⟩, by repeat (first | exact Drawn0.refl _ | apply Drawn0.step)⟩
      case rest =>
        clear HC6
        try clear c1
        try clear c2
        try clear p2
        try clear c3
        try clear c3b0
        try clear c3b1
        try clear c4
        try clear c4b0
        try clear c4b1
        try clear p5
        try clear q5
        try clear hx5
        try clear qi5
        try clear c7
        try clear c8
        try clear c8b0
        try clear c8b1
        try clear p2
        try clear p5
        try clear q5
        obtain ⟨kq, x4_5, rfl, HA, HJ5, ⟨mc5, rfl⟩⟩ := hcut
        cases kq with
        | zero => exact absurd HA.out (by simp [noriaref11_ParseNum.j1])
        | succ kj5 =>
          have H := HA.out
          clear HA
          simp only [noriaref11_ParseNum.j1] at H
          have HC9 := Aside0.mk H
          clear H
          go_upto_region 5 with (fail)
          go_cut [36] (fun v36 wc => ∃ (kq : Nat) (x36_8 : Bool), v36 = .bool x36_8 ∧ Aside0 (noriaref11_ParseNum.j2 kq x4_5 x5_1 x36_8 = some (r1, r2)) ∧ Aside0 (kq ≤ kj5) ∧ Drawn0 w wc)
          case first =>
            have H := HC9.out
            clear HC9
            by_cases c10 : x4_5.toList = ([] : List UInt8)
            · rw [if_pos c10] at H
              have c10b0 : (x4_5.toList == ([] : List UInt8)) = true := beq_iff_eq.mpr c10
              have c10b1 : (x4_5.toList != ([] : List UInt8)) = false := bne_eq_false_iff_eq.mpr c10
              clear c10
              (first | rw [c10b0] | (simp only [i64_w, i32_w]; rw [c10b0]) | skip)
              have H' := Aside0.mk H
              clear H
              go_wp2
              go_meet
              case rel => exact ⟨_, (true), (by first | rfl | (simp; done) | (simp [*]; done)), H', ⟨by have := HJ1.out; have := HJ5.out; first | omega | exact Nat.le_refl _⟩, by repeat (first | exact Drawn0.refl _ | apply Drawn0.step)⟩
            · rw [if_neg c10] at H
              have c10b0 : (x4_5.toList == ([] : List UInt8)) = false := beq_eq_false_iff_ne.mpr c10
              have c10b1 : (x4_5.toList != ([] : List UInt8)) = true := bne_iff_ne.mpr c10
              (first | rw [c10b0] | (simp only [i64_w, i32_w]; rw [c10b0]) | skip)
              by_cases c11 : 0 < (x4_5.size : Int)
              · rw [if_pos c11] at H
                have c11b0 : decide (0 < (x4_5.size : Int)) = true := decide_eq_true c11
                have c11b1 : decide (0 < x4_5.size) = true := decide_eq_true (by omega)
                clear c11
                by_cases c13 : (bt x4_5 0) = 48
                · rw [if_pos c13] at H
                  have c13b0 : ((bt x4_5 0) == 48) = true := beq_iff_eq.mpr c13
                  have c13b1 : ((bt x4_5 0) != 48) = false := bne_eq_false_iff_eq.mpr c13
                  clear c13
                  by_cases c14 : (x4_5.size : Int) > 1
                  · rw [if_pos c14] at H
                    have c14b0 : decide (1 < (x4_5.size : Int)) = true := decide_eq_true c14
                    have c14b1 : decide (1 < x4_5.size) = true := decide_eq_true (by omega)
                    clear c14
                    have H' := Aside0.mk H
                    clear H
                    have p12 : 0 ≤ (0 : Int) := (by omega)
                    have q12 : 0 < x4_5.size := (by have : (0 : Int) < (x4_5.size : Int) := of_decide_eq_true (by first | (with_reducible assumption) | assumption); omega)
                    have hx12 : ∀ h : 0 < x4_5.size, ((x4_5[0]'h).toNat : Int) = bt x4_5 0 := bt_at x4_5 0
                    clear p12
                    have qi12 : (0 < (x4_5.size : Int)) = True := eq_true (of_decide_eq_true (by first | (with_reducible assumption) | assumption))
                    replace q12 := eq_true q12
                    go_wp2
                    go_meet
                    case rel => exact ⟨_, (true), (by first | rfl | (simp; done) | (simp [*]; done)), H', ⟨by have := HJ1.out; have := HJ5.out; first | omega | exact Nat.le_refl _⟩, by repeat (first | exact Drawn0.refl _ | apply Drawn0.step)⟩
                  · rw [if_neg c14] at H
                    have c14b0 : decide (1 < (x4_5.size : Int)) = false := decide_eq_false c14
                    have c14b1 : decide (1 < x4_5.size) = false := decide_eq_false (by omega)
                    clear c14
                    have H' := Aside0.mk H
                    clear H
                    have p12 : 0 ≤ (0 : Int) := (by omega)
                    have q12 : 0 < x4_5.size := (by have : (0 : Int) < (x4_5.size : Int) := of_decide_eq_true (by first | (with_reducible assumption) | assumption); omega)
                    have hx12 : ∀ h : 0 < x4_5.size, ((x4_5[0]'h).toNat : Int) = bt x4_5 0 := bt_at x4_5 0
                    clear p12
                    have qi12 : (0 < (x4_5.size : Int)) = True := eq_true (of_decide_eq_true (by first | (with_reducible assumption) | assumption))
                    replace q12 := eq_true q12
                    go_wp2
                    go_meet
                    case rel => exact ⟨_, (x5_1), (by first | rfl | (simp; done) | (simp [*]; done)), H', ⟨by have := HJ1.out; have := HJ5.out; first | omega | exact Nat.le_refl _⟩, by repeat (first | exact Drawn0.refl _ | apply Drawn0.step)⟩
                · rw [if_neg c13] at H
                  have c13b0 : ((bt x4_5 0) == 48) = false := beq_eq_false_iff_ne.mpr c13
                  have c13b1 : ((bt x4_5 0) != 48) = true := bne_iff_ne.mpr c13
                  have H' := Aside0.mk H
                  clear H
                  have p12 : 0 ≤ (0 : Int) := (by omega)
                  have q12 : 0 < x4_5.size := (by have : (0 : Int) < (x4_5.size : Int) := of_decide_eq_true (by first | (with_reducible assumption) | assumption); omega)
                  have hx12 : ∀ h : 0 < x4_5.size, ((x4_5[0]'h).toNat : Int) = bt x4_5 0 := bt_at x4_5 0
                  clear p12
                  have qi12 : (0 < (x4_5.size : Int)) = True := eq_true (of_decide_eq_true (by first | (with_reducible assumption) | assumption))
                  replace q12 := eq_true q12
                  go_wp2
                  go_meet
                  case rel => exact ⟨_, (false), (by first | rfl | (simp; done) | (simp [*]; done)), H', ⟨by have := HJ1.out; have := HJ5.out; first | omega | exact Nat.le_refl _⟩, by repeat (first | exact Drawn0.refl _ | apply Drawn0.step)⟩
              · rw [if_neg c11] at H
                exact absurd H (by simp)
          case rest =>
            clear HC9
            try clear c1
            try clear p1
            try clear q1
            try clear hx1
            try clear qi1
            try clear c2
            try clear p2
            try clear c3
            try clear c3b0
            try clear c3b1
            try clear c4
            try clear c4b0
            try clear c4b1
            try clear c5
            try clear p5
            try clear q5
            try clear hx5
            try clear qi5
            try clear c7
            try clear c8
            try clear c8b0
            try clear c8b1
            try clear c10
            try clear c10b0
            try clear c10b1
            try clear c11
            try clear c11b0
            try clear c11b1
            try clear p12
            try clear q12
            try clear hx12
            try clear qi12
            try clear c13
            try clear c13b0
            try clear c13b1
            try clear c14
            try clear c14b0
            try clear c14b1
            try clear p12
            try clear p2
            try clear p5
            try clear q12
            try clear q5
            obtain ⟨kq, x36_8, rfl, HA, HJ8, ⟨mc8, rfl⟩⟩ := hcut
            cases kq with
            | zero => exact absurd HA.out (by simp [noriaref11_ParseNum.j2])
            | succ kj8 =>
              have H := HA.out
              clear HA
              simp only [noriaref11_ParseNum.j2] at H
              by_cases c15 : x36_8 = true
              · subst c15
                have H1 : (some (0, 2)) = some (r1, r2) := by rw [if_pos rfl] at H; exact H
                clear H
                have H := H1
                clear H1
                simp only [Option.some.injEq, Prod.mk.injEq] at H
                obtain ⟨rfl, rfl⟩ := H
                go_wp2
                go_ret2
                exact ⟨by first | rfl | (simp; done) | (simp [*]; done), by repeat (first | exact Drawn0.refl _ | apply Drawn0.step)⟩
              · replace c15 := Bool.eq_false_iff.mpr c15
                subst c15
                have H1 : (noriaref11_ParseNum.l0 kj8 x4_5 x5_1 0) = some (r1, r2) := by rw [if_neg (show ¬ (false = true) by decide)] at H; exact H
                clear H
                have H := H1
                clear H1
                have H' := Aside0.mk H
                clear H
                go_wp2
                go_loopg [6] kj8 (fun kq v6 w' => ∃ (x6_4 : Int), v6 = .int .i64 x6_4 ∧ Aside0 (noriaref11_ParseNum.l0 kq x4_5 x5_1 x6_4 = some (r1, r2)) ∧ Aside0 (kq ≤ kj8) ∧ Drawn0 w w')
                case atStart => exact ⟨(0), (by first | rfl | (simp; done) | (simp [*]; done)), H', ⟨Nat.le_refl _⟩, by repeat (first | exact Drawn0.refl _ | apply Drawn0.step)⟩
                case round =>
                  clear H'
                  try clear c1
                  try clear p1
                  try clear q1
                  try clear hx1
                  try clear qi1
                  try clear c2
                  try clear p2
                  try clear c3
                  try clear c3b0
                  try clear c3b1
                  try clear c4
                  try clear c4b0
                  try clear c4b1
                  try clear c5
                  try clear p5
                  try clear q5
                  try clear hx5
                  try clear qi5
                  try clear c7
                  try clear c8
                  try clear c8b0
                  try clear c8b1
                  try clear c10
                  try clear c10b0
                  try clear c10b1
                  try clear c11
                  try clear c11b0
                  try clear c11b1
                  try clear p12
                  try clear q12
                  try clear hx12
                  try clear qi12
                  try clear c13
                  try clear c13b0
                  try clear c13b1
                  try clear c14
                  try clear c14b0
                  try clear c14b1
                  try clear c15
                  try clear p1
                  try clear p12
                  try clear p2
                  try clear p5
                  try clear q1
                  try clear q12
                  try clear q5
                  obtain ⟨x6_4, rfl, HA, HK4, ⟨m4, rfl⟩⟩ := hrel
                  cases gk with
                  | zero => exact absurd HA.out (by simp [noriaref11_ParseNum.l0])
                  | succ k4 =>
                    have H := HA.out
                    clear HA
                    simp only [noriaref11_ParseNum.l0] at H
                    by_cases c16 : x6_4 < (x4_5.size : Int)
                    · rw [if_pos c16] at H
                      have c16b0 : decide (x6_4 < (x4_5.size : Int)) = true := decide_eq_true c16
                      clear c16
                      by_cases c17 : 0 ≤ x6_4
                      · rw [if_pos c17] at H
                        have c17b0 : decide (0 ≤ x6_4) = true := decide_eq_true c17
                        clear c17
                        by_cases c19 : (bt x4_5 x6_4) < 48
                        · rw [if_pos c19] at H
                          have c19b0 : decide ((bt x4_5 x6_4) < 48) = true := decide_eq_true c19
                          clear c19
                          simp only [Option.some.injEq, Prod.mk.injEq] at H
                          obtain ⟨rfl, rfl⟩ := H
                          have p18 : 0 ≤ (x6_4 : Int) := of_decide_eq_true (by first | (with_reducible assumption) | assumption)
                          have q18 : x6_4 < (x4_5.size : Int) := of_decide_eq_true (by first | (with_reducible assumption) | assumption)
                          have hx18 := bt_at x4_5 x6_4
                          replace p18 := eq_true p18
                          replace q18 := eq_true q18
                          go_wp2
                          go_ret2
                          exact ⟨by first | rfl | (simp; done) | (simp [*]; done), by repeat (first | exact Drawn0.refl _ | apply Drawn0.step)⟩
                        · rw [if_neg c19] at H
                          have c19b0 : decide ((bt x4_5 x6_4) < 48) = false := decide_eq_false c19
                          clear c19
                          by_cases c21 : (bt x4_5 x6_4) > 57
                          · rw [if_pos c21] at H
                            have c21b0 : decide (57 < (bt x4_5 x6_4)) = true := decide_eq_true c21
                            clear c21
                            simp only [Option.some.injEq, Prod.mk.injEq] at H
                            obtain ⟨rfl, rfl⟩ := H
                            have p18 : 0 ≤ (x6_4 : Int) := of_decide_eq_true (by first | (with_reducible assumption) | assumption)
                            have q18 : x6_4 < (x4_5.size : Int) := of_decide_eq_true (by first | (with_reducible assumption) | assumption)
                            have hx18 := bt_at x4_5 x6_4
                            replace p18 := eq_true p18
                            replace q18 := eq_true q18
                            have p20 : 0 ≤ (x6_4 : Int) := of_decide_eq_true (by first | (with_reducible assumption) | assumption)
                            have q20 : x6_4 < (x4_5.size : Int) := of_decide_eq_true (by first | (with_reducible assumption) | assumption)
                            have hx20 := bt_at x4_5 x6_4
                            replace p20 := eq_true p20
                            replace q20 := eq_true q20
                            go_wp2
                            go_ret2
                            exact ⟨by first | rfl | (simp; done) | (simp [*]; done), by repeat (first | exact Drawn0.refl _ | apply Drawn0.step)⟩
                          · rw [if_neg c21] at H
                            have c21b0 : decide (57 < (bt x4_5 x6_4)) = false := decide_eq_false c21
                            clear c21
                            have H' := Aside0.mk H
                            clear H
                            have p18 : 0 ≤ (x6_4 : Int) := of_decide_eq_true (by first | (with_reducible assumption) | assumption)
                            have q18 : x6_4 < (x4_5.size : Int) := of_decide_eq_true (by first | (with_reducible assumption) | assumption)
                            have hx18 := bt_at x4_5 x6_4
                            replace p18 := eq_true p18
                            replace q18 := eq_true q18
                            have p20 : 0 ≤ (x6_4 : Int) := of_decide_eq_true (by first | (with_reducible assumption) | assumption)
                            have q20 : x6_4 < (x4_5.size : Int) := of_decide_eq_true (by first | (with_reducible assumption) | assumption)
                            have hx20 := bt_at x4_5 x6_4
                            replace p20 := eq_true p20
                            replace q20 := eq_true q20
                            go_wp2
                            go_roundg k4
                            case measure => have := HJ1.out; have := HJ5.out; have := HJ8.out; have := HK4.out; omega
                            case rel => exact ⟨(wrap64 (x6_4 + 1)), (by first | rfl | (simp; done) | (simp [*]; done)), H', ⟨by have := HJ1.out; have := HJ5.out; have := HJ8.out; have := HK4.out; omega⟩, by repeat (first | exact Drawn0.refl _ | apply Drawn0.step)⟩
                      · rw [if_neg c17] at H
                        exact absurd H (by simp)
                    · rw [if_neg c16] at H
                      have c16b0 : decide (x6_4 < (x4_5.size : Int)) = false := decide_eq_false c16
                      clear c16
                      have H' := Aside0.mk H
                      clear H
                      go_wp2
                      go_loopg [7, 8] k4 (fun kq v7 v8 w' => ∃ (x7_5 : Int) (x8_5 : Int), v7 = .int .i64 x7_5 ∧ v8 = .int .i64 x8_5 ∧ Aside0 (noriaref11_ParseNum.l1 kq x4_5 x5_1 x7_5 x8_5 = some (r1, r2)) ∧ Aside0 (kq ≤ k4) ∧ Drawn0 w w')
                      case atStart => exact ⟨(0), (0), (by first | rfl | (simp; done) | (simp [*]; done)), (by first | rfl | (simp; done) | (simp [*]; done)), H', ⟨Nat.le_refl _⟩, by repeat (first | exact Drawn0.refl _ | apply Drawn0.step)⟩
                      case round =>
                        clear H'
                        try clear c1
                        try clear p1
                        try clear q1
                        try clear hx1
                        try clear qi1
                        try clear c2
                        try clear p2
                        try clear q2
                        try clear hx2
                        try clear c3
                        try clear c3b0
                        try clear c3b1
                        try clear c4
                        try clear c4b0
                        try clear c4b1
                        try clear c5
                        try clear p5
                        try clear q5
                        try clear hx5
                        try clear qi5
                        try clear p6
                        try clear c7
                        try clear c8
                        try clear c8b0
                        try clear c8b1
                        try clear c10
                        try clear c10b0
                        try clear c10b1
                        try clear c11
                        try clear c11b0
                        try clear c11b1
                        try clear p12
                        try clear q12
                        try clear hx12
                        try clear qi12
                        try clear c13
                        try clear c13b0
                        try clear c13b1
                        try clear c14
                        try clear c14b0
                        try clear c14b1
                        try clear c15
                        try clear c16
                        try clear c16b0
                        try clear c17
                        try clear c17b0
                        try clear p18
                        try clear q18
                        try clear hx18
                        try clear c19
                        try clear c19b0
                        try clear p20
                        try clear q20
                        try clear hx20
                        try clear c21
                        try clear c21b0
                        try clear p1
                        try clear p12
                        try clear p18
                        try clear p2
                        try clear p20
                        try clear p5
                        try clear q1
                        try clear q12
                        try clear q18
                        try clear q20
                        try clear q5
                        obtain ⟨x7_5, x8_5, rfl, rfl, HA, HK5, ⟨m5, rfl⟩⟩ := hrel
                        cases gk with
                        | zero => exact absurd HA.out (by simp [noriaref11_ParseNum.l1])
                        | succ k5 =>
                          have H := HA.out
                          clear HA
                          simp only [noriaref11_ParseNum.l1] at H
                          by_cases c22 : x8_5 < (x4_5.size : Int)
                          · rw [if_pos c22] at H
                            have c22b0 : decide (x8_5 < (x4_5.size : Int)) = true := decide_eq_true c22
                            clear c22
                            by_cases c23 : 0 ≤ x8_5
                            · rw [if_pos c23] at H
                              have c23b0 : decide (0 ≤ x8_5) = true := decide_eq_true c23
                              clear c23
                              by_cases c25 : x7_5 < (wrap64 (Int.tdiv ((-9223372036854775808) + (((bt x4_5 x8_5) - 48) % 256)) 10))
                              · rw [if_pos c25] at H
                                have c25b0 : decide (x7_5 < (wrap64 (Int.tdiv ((-9223372036854775808) + (((bt x4_5 x8_5) - 48) % 256)) 10))) = true := decide_eq_true c25
                                rw [Td.wrap_td (by omega) (by omega)] at c25b0
                                clear c25
                                simp only [Option.some.injEq, Prod.mk.injEq] at H
                                obtain ⟨rfl, rfl⟩ := H
                                have p24 : 0 ≤ (x8_5 : Int) := of_decide_eq_true (by first | (with_reducible assumption) | assumption)
                                have q24 : x8_5 < (x4_5.size : Int) := of_decide_eq_true (by first | (with_reducible assumption) | assumption)
                                have hx24 := bt_at x4_5 x8_5
                                replace p24 := eq_true p24
                                replace q24 := eq_true q24
                                go_wp2
                                go_ret2
                                exact ⟨by first | rfl | (simp; done) | (simp [*]; done), by repeat (first | exact Drawn0.refl _ | apply Drawn0.step)⟩
                              · rw [if_neg c25] at H
                                have c25b0 : decide (x7_5 < (wrap64 (Int.tdiv ((-9223372036854775808) + (((bt x4_5 x8_5) - 48) % 256)) 10))) = false := decide_eq_false c25
                                rw [Td.wrap_td (by omega) (by omega)] at c25b0
                                clear c25
                                have H' := Aside0.mk H
                                clear H
                                have p24 : 0 ≤ (x8_5 : Int) := of_decide_eq_true (by first | (with_reducible assumption) | assumption)
                                have q24 : x8_5 < (x4_5.size : Int) := of_decide_eq_true (by first | (with_reducible assumption) | assumption)
                                have hx24 := bt_at x4_5 x8_5
                                replace p24 := eq_true p24
                                replace q24 := eq_true q24
                                go_wp2
                                go_roundg k5
                                case measure => have := HJ1.out; have := HJ5.out; have := HJ8.out; have := HK4.out; have := HK5.out; omega
                                case rel => exact ⟨(wrap64 ((wrap64 (10 * x7_5)) - (((bt x4_5 x8_5) - 48) % 256))), (wrap64 (x8_5 + 1)), (by first | rfl | (simp; done) | (simp [*]; done)), (by first | rfl | (simp; done) | (simp [*]; done)), H', ⟨by have := HJ1.out; have := HJ5.out; have := HJ8.out; have := HK4.out; have := HK5.out; omega⟩, by repeat (first | exact Drawn0.refl _ | apply Drawn0.step)⟩
                            · rw [if_neg c23] at H
                              exact absurd H (by simp)
                          · rw [if_neg c22] at H
                            have c22b0 : decide (x8_5 < (x4_5.size : Int)) = false := decide_eq_false c22
                            clear c22
                            by_cases c26 : x5_1 = true
                            · subst c26
                              have H1 : (some (x7_5, 0)) = some (r1, r2) := by rw [if_pos rfl] at H; exact H
                              clear H
                              have H := H1
                              clear H1
                              simp only [Option.some.injEq, Prod.mk.injEq] at H
                              obtain ⟨rfl, rfl⟩ := H
                              go_wp2
                              go_ret2
                              exact ⟨by first | rfl | (simp; done) | (simp [*]; done), by repeat (first | exact Drawn0.refl _ | apply Drawn0.step)⟩
                            · replace c26 := Bool.eq_false_iff.mpr c26
                              subst c26
                              have H1 : (if x7_5 = (-9223372036854775808) then (some (0, 1)) else (some (wrap64 (-x7_5), 0))) = some (r1, r2) := by rw [if_neg (show ¬ (false = true) by decide)] at H; exact H
                              clear H
                              have H := H1
                              clear H1
                              by_cases c27 : x7_5 = (-9223372036854775808)
                              · rw [if_pos c27] at H
                                have c27b0 : (x7_5 == (-9223372036854775808)) = true := beq_iff_eq.mpr c27
                                have c27b1 : (x7_5 != (-9223372036854775808)) = false := bne_eq_false_iff_eq.mpr c27
                                clear c27
                                simp only [Option.some.injEq, Prod.mk.injEq] at H
                                obtain ⟨rfl, rfl⟩ := H
                                go_wp2
                                go_ret2
                                exact ⟨by first | rfl | (simp; done) | (simp [*]; done), by repeat (first | exact Drawn0.refl _ | apply Drawn0.step)⟩
                              · rw [if_neg c27] at H
                                have c27b0 : (x7_5 == (-9223372036854775808)) = false := beq_eq_false_iff_ne.mpr c27
                                have c27b1 : (x7_5 != (-9223372036854775808)) = true := bne_iff_ne.mpr c27
                                simp only [Option.some.injEq, Prod.mk.injEq] at H
                                obtain ⟨rfl, rfl⟩ := H
                                go_wp2
                                go_ret2
                                exact ⟨by first | rfl | (simp; done) | (simp [*]; done), by repeat (first | exact Drawn0.refl _ | apply Drawn0.step)⟩

/-! ### noriaref11_Of: function 51 -/
def noriaref11_Of.f (a0 : Int) (a1 : Int) : Option ((Nat × Nat)) := some ((fOfI a0, fOfI a1) : Nat × Nat)
set_option maxHeartbeats 8000000 in
set_option maxRecDepth 100000 in
theorem noriaref11_Of.calls (a0 : Int) (a1 : Int) (r : (Nat × Nat)) (w : World) (h : noriaref11_Of.f a0 a1 = some r) :
    Calls Tryz.prog 51 #[.int .i64 a0, .int .i64 a1] w fun e w' => e = .returned (.complex .f64 r.1 r.2) ∧ Drawn0 w w' := by
  have H : (some ((fOfI a0, fOfI a1) : Nat × Nat)) = some r := h
  clear h
  obtain rfl := Option.some.inj H
  go_enter Tryz.func51, Tryz.ntmps51
  go_wp2
  go_ret
  exact ⟨by first | rfl | (simp; done) | (simp [*]; done), by repeat (first | exact Drawn0.refl _ | apply Drawn0.step)⟩

end Go.Proofs.YtaflcaillcjmmaaGreatDoor.PAll
