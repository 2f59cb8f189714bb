-- Printed by this session's own program (wip/tools/pp.py): out of the translation. Lean checks it.
import Derived.Test.YtaflcaillcjmmaaDoorPAllx0
import Derived.Test.YtaflcaillcjmmaaDoorPAllx3
import Derived.Test.YtaflcaillcjmmaaDoorPAllx4
namespace Go.Proofs.YtaflcaillcjmmaaDoor.PAll
open Go.Proofs.YtaflcaillcjmmaaDoor.Help
open Go.RowKit Go.Proofs.YtaflcaillcjmmaaDoorW.PrintWords Go.Proofs.YtaflcaillcjmmaaDoorW.PrintLast Go.Proofs.YtaflcaillcjmmaaDoorW.PrintMore
attribute [local go_sem] run_fl_eql run_fl_neq run_fl_lss run_fl_leq run_fl_gtr run_fl_geq unary_fl_neg run_cx_eql run_cx_neq run_cx_make run_cx_real run_cx_imag run_fl_of run_fl_to64 run_fl_add run_fl_sub run_fl_mul run_cx_add run_cx_sub run_cx_store run_fl_store str_gtr str_leq str_geq cell_put3_0 cell_put3_1 cell_put4_0 cell_put4_1 max2_int min2_int max_two min_two max_three min_three max_four min_four   -- for this text's walks alone
set_option linter.unusedVariables false
set_option linter.unusedSimpArgs false

/-! ### point_decimal: function 38 -/
def point_decimal.j0 : Nat → ByteArray → Bool → Option (Nat × Int)
  | 0, _, _ => none
  | k + 1, x0, x31 => if x31 = true then (some (0, 2)) else ((strconv_ParseInt.f x0 10 64).bind fun bt145 => ((point_part.f bt145.1).bind fun bt147 => (if bt145.2.isNone = true then (if bt147.2 = true then (some (bt147.1, 0)) else (some (0, 1))) else (some (0, 1)))))
def point_decimal.f (k : Nat) (a0 : ByteArray) : Option (Nat × Int) := (strings_TrimPrefix.f a0 (⟨#[45]⟩ : ByteArray)).bind fun t143 => (if t143.toList = ([] : List UInt8) then (point_decimal.j0 k a0 true) else ((strings_Trim.f t143 (⟨#[48, 49, 50, 51, 52, 53, 54, 55, 56, 57]⟩ : ByteArray)).bind fun t144 => (if t144.toList = ([] : List UInt8) then (if (t143.size : Int) > 1 then (if 0 < (t143.size : Int) then (if (bt t143 0) = 48 then (point_decimal.j0 k a0 true) else (point_decimal.j0 k a0 (a0.toList == ([45, 48] : List UInt8)))) else (none)) else (point_decimal.j0 k a0 (a0.toList == ([45, 48] : List UInt8)))) else (point_decimal.j0 k a0 true))))
theorem point_decimal.mono_l : ∀ k, (∀ y0 y1, LeO (point_decimal.j0 k y0 y1) (point_decimal.j0 (k + 1) y0 y1))
  | 0 => fun _ _ r h => by simp [point_decimal.j0] at h
  | k + 1 => by
    have ih0 := point_decimal.mono_l k
    · intro y0 y1
      unfold point_decimal.j0
      repeat' first
      | (with_reducible exact ih0 _ _)
      | (with_reducible exact LeO.refl _)
      | (with_reducible exact LeO.none _)
      | (with_reducible refine LeO.ite ?_ ?_)
      | (with_reducible refine LeO.bind ?_ (fun _ => ?_))
      | exact ih0 _ _
      | exact LeO.none _
      | refine LeO.ite ?_ ?_
      | refine LeO.bind ?_ (fun _ => ?_)
theorem point_decimal.mono : ∀ a0 k, LeO (point_decimal.f k a0) (point_decimal.f (k + 1) a0) := by
  intro a0 k
  have ih0 := point_decimal.mono_l k
  unfold point_decimal.f
  repeat' first
      | (with_reducible exact ih0 _ _)
      | (with_reducible exact LeO.refl _)
      | (with_reducible exact LeO.none _)
      | (with_reducible refine LeO.ite ?_ ?_)
      | (with_reducible refine LeO.bind ?_ (fun _ => ?_))
      | exact ih0 _ _
      | exact LeO.none _
      | refine LeO.ite ?_ ?_
      | refine LeO.bind ?_ (fun _ => ?_)
set_option maxHeartbeats 8000000 in
set_option maxRecDepth 100000 in
theorem point_decimal.calls (k : Nat) (a0 : ByteArray) (r1 : Nat) (r2 : Int) (w : World) (h : point_decimal.f k a0 = some (r1, r2)) (hG_ : Glob w) :
    Calls Tryd.prog 38 #[.string a0] w fun e w' => e = .returned (.tuple #[.float .f64 r1, .int .i64 r2]) ∧ Below w.heap.size w w' := by
  have HG_ := Aside0.mk hG_
  clear hG_
  have hu46 := Tryd.underlying46
  have HB := Aside0.mk (Below.refl w.heap.size w)
  have H : ((strings_TrimPrefix.f a0 (⟨#[45]⟩ : ByteArray)).bind fun t143 => (if t143.toList = ([] : List UInt8) then (point_decimal.j0 k a0 true) else ((strings_Trim.f t143 (⟨#[48, 49, 50, 51, 52, 53, 54, 55, 56, 57]⟩ : ByteArray)).bind fun t144 => (if t144.toList = ([] : List UInt8) then (if (t143.size : Int) > 1 then (if 0 < (t143.size : Int) then (if (bt t143 0) = 48 then (point_decimal.j0 k a0 true) else (point_decimal.j0 k a0 (a0.toList == ([45, 48] : List UInt8)))) else (none)) else (point_decimal.j0 k a0 (a0.toList == ([45, 48] : List UInt8)))) else (point_decimal.j0 k a0 true))))) = some (r1, r2) := h
  clear h
  replace H := Option.bind_eq_some_iff.mp H
  obtain ⟨t143, A20, H⟩ := H
  replace H : (if t143.toList = ([] : List UInt8) then (point_decimal.j0 k a0 true) else ((strings_Trim.f t143 (⟨#[48, 49, 50, 51, 52, 53, 54, 55, 56, 57]⟩ : ByteArray)).bind fun t144 => (if t144.toList = ([] : List UInt8) then (if (t143.size : Int) > 1 then (if 0 < (t143.size : Int) then (if (bt t143 0) = 48 then (point_decimal.j0 k a0 true) else (point_decimal.j0 k a0 (a0.toList == ([45, 48] : List UInt8)))) else (none)) else (point_decimal.j0 k a0 (a0.toList == ([45, 48] : List UInt8)))) else (point_decimal.j0 k a0 true)))) = some (r1, r2) := H
  have A2 := Aside0.mk A20
  clear A20
  have HC3 := Aside0.mk H
  clear H
  go_enter Tryd.func38, Tryd.ntmps38
  go_upto_region 2 with (first | (go_at_call 23; (with_reducible refine (strings_TrimPrefix.calls a0 (⟨#[45]⟩ : ByteArray) t143 _ A2.out).mono ?_); rintro e w' ⟨rfl, ⟨nd, rfl⟩⟩))
  (try simp only [Act.put, List.setIfInBounds_toArray, List.set_cons_zero, List.set_cons_succ])
  go_cut [31] (fun v31 wc => ∃ (kq : Nat) (x31_2 : Bool), v31 = .bool x31_2 ∧ Aside0 (point_decimal.j0 kq a0 x31_2 = some (r1, r2)) ∧ Aside0 (kq ≤ k) ∧ Aside0 (Below w.heap.size w wc))
  case first =>
    have H := HC3.out
    clear HC3
    by_cases c4 : t143.toList = ([] : List UInt8)
    · rw [if_pos c4] at H
      have c4b0 : (t143.toList == ([] : List UInt8)) = true := beq_iff_eq.mpr c4
      have c4b1 : (t143.toList != ([] : List UInt8)) = false := bne_eq_false_iff_eq.mpr c4
      clear c4
      (first | rw [c4b0] | (simp only [i64_w, i32_w]; rw [c4b0]) | skip)
      have H' := Aside0.mk H
      clear H
      go_wp2
      go_meet
      case rel => exact ⟨_, (true), (by first | rfl | (simp; done) | (simp [*]; done)), H', ⟨by first | omega | exact Nat.le_refl _⟩, ⟨by repeat (first | (with_reducible first | exact HB.out | apply below_alloc | apply pw_below_drewN | apply below_drew1) | exact HB.out)⟩⟩
    · rw [if_neg c4] at H
      have c4b0 : (t143.toList == ([] : List UInt8)) = false := beq_eq_false_iff_ne.mpr c4
      have c4b1 : (t143.toList != ([] : List UInt8)) = true := bne_iff_ne.mpr c4
      (first | rw [c4b0] | (simp only [i64_w, i32_w]; rw [c4b0]) | skip)
      replace H := Option.bind_eq_some_iff.mp H
      obtain ⟨t144, A50, H⟩ := H
      replace H : (if t144.toList = ([] : List UInt8) then (if (t143.size : Int) > 1 then (if 0 < (t143.size : Int) then (if (bt t143 0) = 48 then (point_decimal.j0 k a0 true) else (point_decimal.j0 k a0 (a0.toList == ([45, 48] : List UInt8)))) else (none)) else (point_decimal.j0 k a0 (a0.toList == ([45, 48] : List UInt8)))) else (point_decimal.j0 k a0 true)) = some (r1, r2) := H
      have A5 := Aside0.mk A50
      clear A50
      by_cases c6 : t144.toList = ([] : List UInt8)
      · rw [if_pos c6] at H
        have c6b0 : (t144.toList == ([] : List UInt8)) = true := beq_iff_eq.mpr c6
        have c6b1 : (t144.toList != ([] : List UInt8)) = false := bne_eq_false_iff_eq.mpr c6
        clear c6
        by_cases c7 : (t143.size : Int) > 1
        · rw [if_pos c7] at H
          have c7b0 : decide (1 < (t143.size : Int)) = true := decide_eq_true c7
          have c7b1 : decide (1 < t143.size) = true := decide_eq_true (by omega)
          clear c7
          by_cases c8 : 0 < (t143.size : Int)
          · rw [if_pos c8] at H
            have c8b0 : decide (0 < (t143.size : Int)) = true := decide_eq_true c8
            have c8b1 : decide (0 < t143.size) = true := decide_eq_true (by omega)
            clear c8
            by_cases c10 : (bt t143 0) = 48
            · rw [if_pos c10] at H
              have c10b0 : ((bt t143 0) == 48) = true := beq_iff_eq.mpr c10
              have c10b1 : ((bt t143 0) != 48) = false := bne_eq_false_iff_eq.mpr c10
              clear c10
              have H' := Aside0.mk H
              clear H
              go_wp2_with (first | (go_at_call 24; (with_reducible refine (strings_Trim.calls t143 (⟨#[48, 49, 50, 51, 52, 53, 54, 55, 56, 57]⟩ : ByteArray) t144 _ A5.out).mono ?_); rintro e w11 ⟨rfl, hb⟩; have n0_ := Aside0.mk (below_step (by repeat (first | (with_reducible first | exact HB.out | apply below_alloc | apply pw_below_drewN | apply below_drew1) | exact HB.out)) hb); clear HB; have HB := n0_; clear n0_; (try clear hb); (try clear hb2); (try clear hk); (try clear hi); have p9 : 0 ≤ (0 : Int) := (by omega); have q9 : 0 < t143.size := (by have : (0 : Int) < (t143.size : Int) := of_decide_eq_true (by first | (with_reducible assumption) | assumption); omega); have hx9 : ∀ h : 0 < t143.size, ((t143[0]'h).toNat : Int) = bt t143 0 := bt_at t143 0; clear p9; have qi9 : (0 < (t143.size : Int)) = True := eq_true (of_decide_eq_true (by first | (with_reducible assumption) | assumption)); replace q9 := eq_true q9))
              go_meet
              case rel => exact ⟨_, (true), (by first | rfl | (simp; done) | (simp [*]; done)), H', ⟨by first | omega | exact Nat.le_refl _⟩, ⟨by repeat (first | (with_reducible first | exact HB.out | apply below_alloc | apply pw_below_drewN | apply below_drew1) | exact HB.out)⟩⟩
            · rw [if_neg c10] at H
              have c10b0 : ((bt t143 0) == 48) = false := beq_eq_false_iff_ne.mpr c10
              have c10b1 : ((bt t143 0) != 48) = true := bne_iff_ne.mpr c10
              have H' := Aside0.mk H
              clear H
              go_wp2_with (first | (go_at_call 24; (with_reducible refine (strings_Trim.calls t143 (⟨#[48, 49, 50, 51, 52, 53, 54, 55, 56, 57]⟩ : ByteArray) t144 _ A5.out).mono ?_); rintro e w12 ⟨rfl, hb⟩; have n0_ := Aside0.mk (below_step (by repeat (first | (with_reducible first | exact HB.out | apply below_alloc | apply pw_below_drewN | apply below_drew1) | exact HB.out)) hb); clear HB; have HB := n0_; clear n0_; (try clear hb); (try clear hb2); (try clear hk); (try clear hi); have p9 : 0 ≤ (0 : Int) := (by omega); have q9 : 0 < t143.size := (by have : (0 : Int) < (t143.size : Int) := of_decide_eq_true (by first | (with_reducible assumption) | assumption); omega); have hx9 : ∀ h : 0 < t143.size, ((t143[0]'h).toNat : Int) = bt t143 0 := bt_at t143 0; clear p9; have qi9 : (0 < (t143.size : Int)) = True := eq_true (of_decide_eq_true (by first | (with_reducible assumption) | assumption)); replace q9 := eq_true q9))
              go_meet
              case rel => exact ⟨_, ((a0.toList == ([45, 48] : List UInt8))), (by first | rfl | (simp; done) | (simp [*]; done)), H', ⟨by first | omega | exact Nat.le_refl _⟩, ⟨by repeat (first | (with_reducible first | exact HB.out | apply below_alloc | apply pw_below_drewN | apply below_drew1) | exact HB.out)⟩⟩
          · rw [if_neg c8] at H
            exact absurd H (by simp)
        · rw [if_neg c7] at H
          have c7b0 : decide (1 < (t143.size : Int)) = false := decide_eq_false c7
          have c7b1 : decide (1 < t143.size) = false := decide_eq_false (by omega)
          clear c7
          have H' := Aside0.mk H
          clear H
          go_wp2_with (first | (go_at_call 24; (with_reducible refine (strings_Trim.calls t143 (⟨#[48, 49, 50, 51, 52, 53, 54, 55, 56, 57]⟩ : ByteArray) t144 _ A5.out).mono ?_); rintro e w13 ⟨rfl, hb⟩; have n0_ := Aside0.mk (below_step (by repeat (first | (with_reducible first | exact HB.out | apply below_alloc | apply pw_below_drewN | apply below_drew1) | exact HB.out)) hb); clear HB; have HB := n0_; clear n0_; (try clear hb); (try clear hb2); (try clear hk); (try clear hi)))
          go_meet
          case rel => exact ⟨_, ((a0.toList == ([45, 48] : List UInt8))), (by first | rfl | (simp; done) | (simp [*]; done)), H', ⟨by first | omega | exact Nat.le_refl _⟩, ⟨by repeat (first | (with_reducible first | exact HB.out | apply below_alloc | apply pw_below_drewN | apply below_drew1) | exact HB.out)⟩⟩
      · rw [if_neg c6] at H
        have c6b0 : (t144.toList == ([] : List UInt8)) = false := beq_eq_false_iff_ne.mpr c6
        have c6b1 : (t144.toList != ([] : List UInt8)) = true := bne_iff_ne.mpr c6
        have H' := Aside0.mk H
        clear H
        go_wp2_with (first | (go_at_call 24; (with_reducible refine (strings_Trim.calls t143 (⟨#[48, 49, 50, 51, 52, 53, 54, 55, 56, 57]⟩ : ByteArray) t144 _ A5.out).mono ?_); rintro e w14 ⟨rfl, hb⟩; have n0_ := Aside0.mk (below_step (by repeat (first | (with_reducible first | exact HB.out | apply below_alloc | apply pw_below_drewN | apply below_drew1) | exact HB.out)) hb); clear HB; have HB := n0_; clear n0_; (try clear hb); (try clear hb2); (try clear hk); (try clear hi)))
        go_meet
        case rel => exact ⟨_, (true), (by first | rfl | (simp; done) | (simp [*]; done)), H', ⟨by first | omega | exact Nat.le_refl _⟩, ⟨by repeat (first | (with_reducible first | exact HB.out | apply below_alloc | apply pw_below_drewN | apply below_drew1) | exact HB.out)⟩⟩
  case rest =>
    clear HC3
    try clear c1
    try clear p2
    try clear c3
    try clear c4
    try clear c4b0
    try clear c4b1
    try clear c6
    try clear c6b0
    try clear c6b1
    try clear c7
    try clear c7b0
    try clear c7b1
    try clear c8
    try clear c8b0
    try clear c8b1
    try clear p9
    try clear q9
    try clear hx9
    try clear qi9
    try clear c10
    try clear c10b0
    try clear c10b1
    try clear p9
    try clear q9
    obtain ⟨kq, x31_2, rfl, HA, HJ2, HB⟩ := hcut
    cases kq with
    | zero => exact absurd HA.out (by simp [point_decimal.j0])
    | succ kj2 =>
      have H := HA.out
      clear HA
      simp only [point_decimal.j0] at H
      by_cases c15 : x31_2 = true
      · subst c15
        have H1 : (some (0, 2)) = some (r1, r2) := by rw [if_pos rfl] at H; exact H
        clear H
        have H := H1
        clear H1
        simp only [Option.some.injEq, Prod.mk.injEq] at H
        obtain ⟨rfl, rfl⟩ := H
        go_wp2
        go_ret2
        exact ⟨by first | rfl | (simp [errW_none, errW_some] <;> rfl) | (simp [*, errW_none, errW_some] <;> rfl), by repeat (first | (with_reducible first | exact HB.out | apply below_alloc | apply pw_below_drewN | apply below_drew1) | exact HB.out)⟩
      · replace c15 := Bool.eq_false_iff.mpr c15
        subst c15
        have H1 : ((strconv_ParseInt.f a0 10 64).bind fun bt145 => ((point_part.f bt145.1).bind fun bt147 => (if bt145.2.isNone = true then (if bt147.2 = true then (some (bt147.1, 0)) else (some (0, 1))) else (some (0, 1))))) = some (r1, r2) := by rw [if_neg (show ¬ (false = true) by decide)] at H; exact H
        clear H
        have H := H1
        clear H1
        replace H := Option.bind_eq_some_iff.mp H
        obtain ⟨⟨t145, t146⟩, A160, H⟩ := H
        replace H : ((point_part.f t145).bind fun bt147 => (if t146.isNone = true then (if bt147.2 = true then (some (bt147.1, 0)) else (some (0, 1))) else (some (0, 1)))) = some (r1, r2) := H
        have A16 := Aside0.mk A160
        clear A160
        replace H := Option.bind_eq_some_iff.mp H
        obtain ⟨⟨t147, t148⟩, A170, H⟩ := H
        replace H : (if t146.isNone = true then (if t148 = true then (some (t147, 0)) else (some (0, 1))) else (some (0, 1))) = some (r1, r2) := H
        have A17 := Aside0.mk A170
        clear A170
        rcases t146 with _ | q149
        · have H1 : (if t148 = true then (some (t147, 0)) else (some (0, 1))) = some (r1, r2) := by rw [if_pos (show (none : Option Int).isNone = true by rfl)] at H; exact H
          clear H
          have H := H1
          clear H1
          try simp only [errW_none, errW_some]
          by_cases c18 : t148 = true
          · subst c18
            have H1 : (some (t147, 0)) = some (r1, r2) := by rw [if_pos rfl] at H; exact H
            clear H
            have H := H1
            clear H1
            simp only [Option.some.injEq, Prod.mk.injEq] at H
            obtain ⟨rfl, rfl⟩ := H
            go_wp2_with (first | ((with_reducible refine gate_callee (f := 25) rfl ?_); refine goesL_ (some 34) rfl rfl Tryd.func25 (by kernel_rfl) rfl #[.string a0, .int .i64 10, .int .i64 64] rfl (by (try simp only [List.map_toArray, List.map_cons, List.map_nil]); first | done | rfl | (simp only [List.length_drop, List.length_take]; rfl)) ?_; (with_reducible refine (strconv_ParseInt.calls a0 10 64 t145 none _ A16.out (Glob.below HG_.out (by repeat (first | (with_reducible first | exact HB.out | apply below_alloc | apply pw_below_drewN | apply below_drew1) | exact HB.out)))).mono ?_); rintro e w19 ⟨q25_, rfl, hb⟩; refine ⟨_, rfl, ?_⟩; (try simp only [Option.map_some, Option.map_none, errW_none, errW_some]); have n0_ := Aside0.mk (below_step (by repeat (first | (with_reducible first | exact HB.out | apply below_alloc | apply pw_below_drewN | apply below_drew1) | exact HB.out)) hb); clear HB; have HB := n0_; clear n0_; (try clear hb); (try clear hb2); (try clear hk); (try clear hi); (try simp only [errW_none, errW_some])) | (go_at_call 65; (with_reducible refine (point_part.calls t145 t147 true _ A17.out).mono ?_); rintro e w' ⟨rfl, ⟨nd, rfl⟩⟩))
            go_ret2
            exact ⟨by first | rfl | (simp [errW_none, errW_some] <;> rfl) | (simp [*, errW_none, errW_some] <;> rfl), by repeat (first | (with_reducible first | exact HB.out | apply below_alloc | apply pw_below_drewN | apply below_drew1) | exact HB.out)⟩
          · replace c18 := Bool.eq_false_iff.mpr c18
            subst c18
            have H1 : (some (0, 1)) = some (r1, r2) := by rw [if_neg (show ¬ (false = true) by decide)] at H; exact H
            clear H
            have H := H1
            clear H1
            simp only [Option.some.injEq, Prod.mk.injEq] at H
            obtain ⟨rfl, rfl⟩ := H
            go_wp2_with (first | ((with_reducible refine gate_callee (f := 25) rfl ?_); refine goesL_ (some 34) rfl rfl Tryd.func25 (by kernel_rfl) rfl #[.string a0, .int .i64 10, .int .i64 64] rfl (by (try simp only [List.map_toArray, List.map_cons, List.map_nil]); first | done | rfl | (simp only [List.length_drop, List.length_take]; rfl)) ?_; (with_reducible refine (strconv_ParseInt.calls a0 10 64 t145 none _ A16.out (Glob.below HG_.out (by repeat (first | (with_reducible first | exact HB.out | apply below_alloc | apply pw_below_drewN | apply below_drew1) | exact HB.out)))).mono ?_); rintro e w20 ⟨q25_, rfl, hb⟩; refine ⟨_, rfl, ?_⟩; (try simp only [Option.map_some, Option.map_none, errW_none, errW_some]); have n0_ := Aside0.mk (below_step (by repeat (first | (with_reducible first | exact HB.out | apply below_alloc | apply pw_below_drewN | apply below_drew1) | exact HB.out)) hb); clear HB; have HB := n0_; clear n0_; (try clear hb); (try clear hb2); (try clear hk); (try clear hi); (try simp only [errW_none, errW_some])) | (go_at_call 65; (with_reducible refine (point_part.calls t145 t147 false _ A17.out).mono ?_); rintro e w' ⟨rfl, ⟨nd, rfl⟩⟩))
            go_ret2
            exact ⟨by first | rfl | (simp [errW_none, errW_some] <;> rfl) | (simp [*, errW_none, errW_some] <;> rfl), by repeat (first | (with_reducible first | exact HB.out | apply below_alloc | apply pw_below_drewN | apply below_drew1) | exact HB.out)⟩
        · have H1 : (some (0, 1)) = some (r1, r2) := by rw [if_neg (show ¬ (some q149).isNone = true by simp)] at H; exact H
          clear H
          have H := H1
          clear H1
          try simp only [errW_none, errW_some]
          simp only [Option.some.injEq, Prod.mk.injEq] at H
          obtain ⟨rfl, rfl⟩ := H
          go_wp2_with (first | ((with_reducible refine gate_callee (f := 25) rfl ?_); refine goesL_ (some 34) rfl rfl Tryd.func25 (by kernel_rfl) rfl #[.string a0, .int .i64 10, .int .i64 64] rfl (by (try simp only [List.map_toArray, List.map_cons, List.map_nil]); first | done | rfl | (simp only [List.length_drop, List.length_take]; rfl)) ?_; (with_reducible refine (strconv_ParseInt.calls a0 10 64 t145 (some q149) _ A16.out (Glob.below HG_.out (by repeat (first | (with_reducible first | exact HB.out | apply below_alloc | apply pw_below_drewN | apply below_drew1) | exact HB.out)))).mono ?_); rintro e w21 ⟨q25_, rfl, hb⟩; refine ⟨_, rfl, ?_⟩; (try simp only [Option.map_some, Option.map_none, errW_none, errW_some]); have n0_ := Aside0.mk (below_step (by repeat (first | (with_reducible first | exact HB.out | apply below_alloc | apply pw_below_drewN | apply below_drew1) | exact HB.out)) hb); clear HB; have HB := n0_; clear n0_; (try clear hb); (try clear hb2); (try clear hk); (try clear hi); (try simp only [errW_none, errW_some])) | (go_at_call 65; (with_reducible refine (point_part.calls t145 t147 t148 _ A17.out).mono ?_); rintro e w' ⟨rfl, ⟨nd, rfl⟩⟩))
          go_ret2
          exact ⟨by first | rfl | (simp [errW_none, errW_some] <;> rfl) | (simp [*, errW_none, errW_some] <;> rfl), by repeat (first | (with_reducible first | exact HB.out | apply below_alloc | apply pw_below_drewN | apply below_drew1) | exact HB.out)⟩

/-! ### point_Parse: function 22 -/
mutual
def point_Parse.j0 : Nat → ByteArray → Int → Bool → Option ((Nat × Nat) × Int)
  | 0, _, _, _ => none
  | k + 1, x4, x6, x23 => if x23 = true then (some (((0, 0) : Nat × Nat), 2)) else (if 0 ≤ x6 then (if x6 ≤ (x4.size : Int) then ((point_decimal.f k (x4.extract 0 (x6 : Int).toNat)).bind fun bt153 => ((strings_TrimPrefix.f (x4.extract (x6 : Int).toNat x4.size) (⟨#[43]⟩ : ByteArray)).bind fun t155 => ((point_decimal.f k t155).bind fun bt156 => (if bt153.2 = 2 then (point_Parse.j1 k bt153.1 bt153.2 bt156.1 bt156.2 true) else (point_Parse.j1 k bt153.1 bt153.2 bt156.1 bt156.2 (bt156.2 == 2)))))) else (none)) else (none))
def point_Parse.j1 : Nat → Nat → Int → Nat → Int → Bool → Option ((Nat × Nat) × Int)
  | 0, _, _, _, _, _ => none
  | k + 1, x7, x8, x9, x10, x39 => if x39 = true then (some (((0, 0) : Nat × Nat), 2)) else (if x8 = 0 then (if x10 = 0 then (some (((x7, x9) : Nat × Nat), 0)) else (some (((0, 0) : Nat × Nat), 1))) else (some (((0, 0) : Nat × Nat), 1)))
end
def point_Parse.f (k : Nat) (a0 : ByteArray) : Option ((Nat × Nat) × Int) := (strings_CutSuffix.f a0 (⟨#[105]⟩ : ByteArray)).bind fun bt150 => ((strings_LastIndexAny.f bt150.1 (⟨#[43, 45]⟩ : ByteArray)).bind fun t152 => (if bt150.2 = true then (point_Parse.j0 k bt150.1 t152 (decide (t152 < 1))) else (point_Parse.j0 k bt150.1 t152 true)))
theorem point_Parse.mono_l : ∀ k, (∀ y0 y1 y2, LeO (point_Parse.j0 k y0 y1 y2) (point_Parse.j0 (k + 1) y0 y1 y2)) ∧ (∀ y0 y1 y2 y3 y4, LeO (point_Parse.j1 k y0 y1 y2 y3 y4) (point_Parse.j1 (k + 1) y0 y1 y2 y3 y4))
  | 0 => ⟨fun _ _ _ r h => by simp [point_Parse.j0] at h, fun _ _ _ _ _ r h => by simp [point_Parse.j1] at h⟩
  | k + 1 => by
    obtain ⟨ih0, ih1⟩ := point_Parse.mono_l k
    refine ⟨?_, ?_⟩
    · intro y0 y1 y2
      unfold point_Parse.j0
      repeat' first
      | (with_reducible exact ih0 _ _ _)
      | (with_reducible exact ih1 _ _ _ _ _)
      | (with_reducible exact point_decimal.mono _ _)
      | (with_reducible exact LeO.refl _)
      | (with_reducible exact LeO.none _)
      | (with_reducible refine LeO.ite ?_ ?_)
      | (with_reducible refine LeO.bind ?_ (fun _ => ?_))
      | exact ih0 _ _ _
      | exact ih1 _ _ _ _ _
      | exact point_decimal.mono _ _
      | exact LeO.none _
      | refine LeO.ite ?_ ?_
      | refine LeO.bind ?_ (fun _ => ?_)
    · intro y0 y1 y2 y3 y4
      unfold point_Parse.j1
      repeat' first
      | (with_reducible exact ih0 _ _ _)
      | (with_reducible exact ih1 _ _ _ _ _)
      | (with_reducible exact point_decimal.mono _ _)
      | (with_reducible exact LeO.refl _)
      | (with_reducible exact LeO.none _)
      | (with_reducible refine LeO.ite ?_ ?_)
      | (with_reducible refine LeO.bind ?_ (fun _ => ?_))
      | exact ih0 _ _ _
      | exact ih1 _ _ _ _ _
      | exact point_decimal.mono _ _
      | exact LeO.none _
      | refine LeO.ite ?_ ?_
      | refine LeO.bind ?_ (fun _ => ?_)
theorem point_Parse.mono : ∀ a0 k, LeO (point_Parse.f k a0) (point_Parse.f (k + 1) a0) := by
  intro a0 k
  obtain ⟨ih0, ih1⟩ := point_Parse.mono_l k
  unfold point_Parse.f
  repeat' first
      | (with_reducible exact ih0 _ _ _)
      | (with_reducible exact ih1 _ _ _ _ _)
      | (with_reducible exact point_decimal.mono _ _)
      | (with_reducible exact LeO.refl _)
      | (with_reducible exact LeO.none _)
      | (with_reducible refine LeO.ite ?_ ?_)
      | (with_reducible refine LeO.bind ?_ (fun _ => ?_))
      | exact ih0 _ _ _
      | exact ih1 _ _ _ _ _
      | exact point_decimal.mono _ _
      | exact LeO.none _
      | refine LeO.ite ?_ ?_
      | refine LeO.bind ?_ (fun _ => ?_)
set_option maxHeartbeats 8000000 in
set_option maxRecDepth 100000 in
theorem point_Parse.calls (k : Nat) (a0 : ByteArray) (r1 : (Nat × Nat)) (r2 : Int) (w : World) (h : point_Parse.f k a0 = some (r1, r2)) (hG_ : Glob w) :
    Calls Tryd.prog 22 #[.string a0] w fun e w' => e = .returned (.tuple #[.complex .f64 r1.1 r1.2, .int .i64 r2]) ∧ Below w.heap.size w w' := by
  have HG_ := Aside0.mk hG_
  clear hG_
  have HB := Aside0.mk (Below.refl w.heap.size w)
  have H : ((strings_CutSuffix.f a0 (⟨#[105]⟩ : ByteArray)).bind fun bt150 => ((strings_LastIndexAny.f bt150.1 (⟨#[43, 45]⟩ : ByteArray)).bind fun t152 => (if bt150.2 = true then (point_Parse.j0 k bt150.1 t152 (decide (t152 < 1))) else (point_Parse.j0 k bt150.1 t152 true)))) = some (r1, r2) := h
  clear h
  replace H := Option.bind_eq_some_iff.mp H
  obtain ⟨⟨t150, t151⟩, A20, H⟩ := H
  replace H : ((strings_LastIndexAny.f t150 (⟨#[43, 45]⟩ : ByteArray)).bind fun t152 => (if t151 = true then (point_Parse.j0 k t150 t152 (decide (t152 < 1))) else (point_Parse.j0 k t150 t152 true))) = some (r1, r2) := H
  have A2 := Aside0.mk A20
  clear A20
  replace H := Option.bind_eq_some_iff.mp H
  obtain ⟨t152, A30, H⟩ := H
  replace H : (if t151 = true then (point_Parse.j0 k t150 t152 (decide (t152 < 1))) else (point_Parse.j0 k t150 t152 true)) = some (r1, r2) := H
  have A3 := Aside0.mk A30
  clear A30
  have HC4 := Aside0.mk H
  clear H
  go_enter Tryd.func22, Tryd.ntmps22
  go_upto_region 3 with (first | (go_at_call 36; (with_reducible refine (strings_CutSuffix.calls a0 (⟨#[105]⟩ : ByteArray) t150 t151 _ A2.out).mono ?_); rintro e w' ⟨rfl, ⟨nd, rfl⟩⟩) | ((with_reducible refine gate_callee (f := 37) rfl ?_); refine goesL_ (some 17) rfl rfl Tryd.func37 (by kernel_rfl) rfl #[.string t150, .string (⟨#[43, 45]⟩ : ByteArray)] rfl (by (try simp only [List.map_toArray, List.map_cons, List.map_nil]); first | done | rfl | (simp only [List.length_drop, List.length_take]; rfl)) ?_; (with_reducible refine (strings_LastIndexAny.calls t150 (⟨#[43, 45]⟩ : ByteArray) t152 _ A3.out (Glob.below HG_.out (by repeat (first | (with_reducible first | exact HB.out | apply below_alloc | apply pw_below_drewN | apply below_drew1) | exact HB.out)))).mono ?_); rintro e w5 ⟨rfl, hb⟩; refine ⟨_, rfl, ?_⟩; have n0_ := Aside0.mk (below_step (by repeat (first | (with_reducible first | exact HB.out | apply below_alloc | apply pw_below_drewN | apply below_drew1) | exact HB.out)) hb); clear HB; have HB := n0_; clear n0_; (try clear hb); (try clear hb2); (try clear hk); (try clear hi)))
  (try simp only [Act.put, List.setIfInBounds_toArray, List.set_cons_zero, List.set_cons_succ])
  go_cut [23] (fun v23 wc => ∃ (kq : Nat) (x23_3 : Bool), v23 = .bool x23_3 ∧ Aside0 (point_Parse.j0 kq t150 t152 x23_3 = some (r1, r2)) ∧ Aside0 (kq ≤ k) ∧ Aside0 (Below w.heap.size w wc))
  case first =>
    have H := HC4.out
    clear HC4
    by_cases c6 : t151 = true
    · subst c6
      have H1 : (point_Parse.j0 k t150 t152 (decide (t152 < 1))) = some (r1, r2) := by rw [if_pos rfl] at H; exact H
      clear H
      have H := H1
      clear H1
      have H' := Aside0.mk H
      clear H
      go_wp2
      go_meet
      case rel => exact ⟨_, (decide (t152 < 1)), (by first | rfl | (simp; done) | (simp [*]; done)), H', ⟨by first | omega | exact Nat.le_refl _⟩, ⟨by repeat (first | (with_reducible first | exact HB.out | apply below_alloc | apply pw_below_drewN | apply below_drew1) | exact HB.out)⟩⟩
    · replace c6 := Bool.eq_false_iff.mpr c6
      subst c6
      have H1 : (point_Parse.j0 k t150 t152 true) = some (r1, r2) := by rw [if_neg (show ¬ (false = true) by decide)] at H; exact H
      clear H
      have H := H1
      clear H1
      have H' := Aside0.mk H
      clear H
      go_wp2
      go_meet
      case rel => exact ⟨_, (true), (by first | rfl | (simp; done) | (simp [*]; done)), H', ⟨by first | omega | exact Nat.le_refl _⟩, ⟨by repeat (first | (with_reducible first | exact HB.out | apply below_alloc | apply pw_below_drewN | apply below_drew1) | exact HB.out)⟩⟩
  case rest =>
    clear HC4
    try clear c2
    try clear p2
    try clear c3
    try clear c6
    obtain ⟨kq, x23_3, rfl, HA, HJ3, HB⟩ := hcut
    cases kq with
    | zero => exact absurd HA.out (by simp [point_Parse.j0])
    | succ kj3 =>
      have H := HA.out
      clear HA
      simp only [point_Parse.j0] at H
      by_cases c7 : x23_3 = true
      · subst c7
        have H1 : (some (((0, 0) : Nat × Nat), 2)) = some (r1, r2) := by rw [if_pos rfl] at H; exact H
        clear H
        have H := H1
        clear H1
        simp only [Option.some.injEq, Prod.mk.injEq] at H
        obtain ⟨rfl, rfl⟩ := H
        go_wp2
        go_ret2
        exact ⟨by first | rfl | (simp [errW_none, errW_some] <;> rfl) | (simp [*, errW_none, errW_some] <;> rfl), by repeat (first | (with_reducible first | exact HB.out | apply below_alloc | apply pw_below_drewN | apply below_drew1) | exact HB.out)⟩
      · replace c7 := Bool.eq_false_iff.mpr c7
        subst c7
        have H1 : (if 0 ≤ t152 then (if t152 ≤ (t150.size : Int) then ((point_decimal.f kj3 (t150.extract 0 (t152 : Int).toNat)).bind fun bt153 => ((strings_TrimPrefix.f (t150.extract (t152 : Int).toNat t150.size) (⟨#[43]⟩ : ByteArray)).bind fun t155 => ((point_decimal.f kj3 t155).bind fun bt156 => (if bt153.2 = 2 then (point_Parse.j1 kj3 bt153.1 bt153.2 bt156.1 bt156.2 true) else (point_Parse.j1 kj3 bt153.1 bt153.2 bt156.1 bt156.2 (bt156.2 == 2)))))) else (none)) else (none)) = some (r1, r2) := by rw [if_neg (show ¬ (false = true) by decide)] at H; exact H
        clear H
        have H := H1
        clear H1
        by_cases c8 : 0 ≤ t152
        · rw [if_pos c8] at H
          have c8b0 := eq_true c8
          have c8b1 : decide (0 ≤ t152) = true := decide_eq_true c8
          clear c8
          by_cases c9 : t152 ≤ (t150.size : Int)
          · rw [if_pos c9] at H
            have c9b0 := eq_true c9
            have c9b1 : decide (t152 ≤ (t150.size : Int)) = true := decide_eq_true c9
            clear c9
            replace H := Option.bind_eq_some_iff.mp H
            obtain ⟨⟨t153, t154⟩, A100, H⟩ := H
            replace H : ((strings_TrimPrefix.f (t150.extract (t152 : Int).toNat t150.size) (⟨#[43]⟩ : ByteArray)).bind fun t155 => ((point_decimal.f kj3 t155).bind fun bt156 => (if t154 = 2 then (point_Parse.j1 kj3 t153 t154 bt156.1 bt156.2 true) else (point_Parse.j1 kj3 t153 t154 bt156.1 bt156.2 (bt156.2 == 2))))) = some (r1, r2) := H
            have A10 := Aside0.mk A100
            clear A100
            have c11b0 := eq_true (of_decide_eq_true (by first | (with_reducible assumption) | assumption) : 0 ≤ t152)
            have c12b0 := eq_true (of_decide_eq_true (by first | (with_reducible assumption) | assumption) : t152 ≤ (t150.size : Int))
            replace H := Option.bind_eq_some_iff.mp H
            obtain ⟨t155, A130, H⟩ := H
            replace H : ((point_decimal.f kj3 t155).bind fun bt156 => (if t154 = 2 then (point_Parse.j1 kj3 t153 t154 bt156.1 bt156.2 true) else (point_Parse.j1 kj3 t153 t154 bt156.1 bt156.2 (bt156.2 == 2)))) = some (r1, r2) := H
            have A13 := Aside0.mk A130
            clear A130
            replace H := Option.bind_eq_some_iff.mp H
            obtain ⟨⟨t156, t157⟩, A140, H⟩ := H
            replace H : (if t154 = 2 then (point_Parse.j1 kj3 t153 t154 t156 t157 true) else (point_Parse.j1 kj3 t153 t154 t156 t157 (t157 == 2))) = some (r1, r2) := H
            have A14 := Aside0.mk A140
            clear A140
            have HC15 := Aside0.mk H
            clear H
            go_upto_region 7 with (first | ((with_reducible refine gate_callee (f := 38) rfl ?_); refine goesL_ (some 28) rfl rfl Tryd.func38 (by kernel_rfl) rfl #[.string (t150.extract 0 (t152 : Int).toNat)] rfl (by (try simp only [List.map_toArray, List.map_cons, List.map_nil]); first | done | rfl | (simp only [List.length_drop, List.length_take]; rfl)) ?_; (with_reducible refine (point_decimal.calls kj3 (t150.extract 0 (t152 : Int).toNat) t153 t154 _ A10.out (Glob.below HG_.out (by repeat (first | (with_reducible first | exact HB.out | apply below_alloc | apply pw_below_drewN | apply below_drew1) | exact HB.out)))).mono ?_); rintro e w16 ⟨rfl, hb⟩; refine ⟨_, rfl, ?_⟩; have n0_ := Aside0.mk (below_step (by repeat (first | (with_reducible first | exact HB.out | apply below_alloc | apply pw_below_drewN | apply below_drew1) | exact HB.out)) hb); clear HB; have HB := n0_; clear n0_; (try clear hb); (try clear hb2); (try clear hk); (try clear hi)) | (go_at_call 23; (with_reducible refine (strings_TrimPrefix.calls (t150.extract (t152 : Int).toNat t150.size) (⟨#[43]⟩ : ByteArray) t155 _ A13.out).mono ?_); rintro e w' ⟨rfl, ⟨nd, rfl⟩⟩) | ((with_reducible refine gate_callee (f := 38) rfl ?_); refine goesL_ (some 36) rfl rfl Tryd.func38 (by kernel_rfl) rfl #[.string t155] rfl (by (try simp only [List.map_toArray, List.map_cons, List.map_nil]); first | done | rfl | (simp only [List.length_drop, List.length_take]; rfl)) ?_; (with_reducible refine (point_decimal.calls kj3 t155 t156 t157 _ A14.out (Glob.below HG_.out (by repeat (first | (with_reducible first | exact HB.out | apply below_alloc | apply pw_below_drewN | apply below_drew1) | exact HB.out)))).mono ?_); rintro e w17 ⟨rfl, hb⟩; refine ⟨_, rfl, ?_⟩; have n0_ := Aside0.mk (below_step (by repeat (first | (with_reducible first | exact HB.out | apply below_alloc | apply pw_below_drewN | apply below_drew1) | exact HB.out)) hb); clear HB; have HB := n0_; clear n0_; (try clear hb); (try clear hb2); (try clear hk); (try clear hi)))
            (try simp only [Act.put, List.setIfInBounds_toArray, List.set_cons_zero, List.set_cons_succ])
            go_cut [39] (fun v39 wc => ∃ (kq : Nat) (x39_14 : Bool), v39 = .bool x39_14 ∧ Aside0 (point_Parse.j1 kq t153 t154 t156 t157 x39_14 = some (r1, r2)) ∧ Aside0 (kq ≤ kj3) ∧ Aside0 (Below w.heap.size w wc))
            case first =>
              have H := HC15.out
              clear HC15
              by_cases c18 : t154 = 2
              · rw [if_pos c18] at H
                have c18b0 : (t154 == 2) = true := beq_iff_eq.mpr c18
                have c18b1 : (t154 != 2) = false := bne_eq_false_iff_eq.mpr c18
                clear c18
                (first | rw [c18b0] | (simp only [i64_w, i32_w]; rw [c18b0]) | skip)
                have H' := Aside0.mk H
                clear H
                go_wp2
                go_meet
                case rel => exact ⟨_, (true), (by first | rfl | (simp; done) | (simp [*]; done)), H', ⟨by have := HJ3.out; first | omega | exact Nat.le_refl _⟩, ⟨by repeat (first | (with_reducible first | exact HB.out | apply below_alloc | apply pw_below_drewN | apply below_drew1) | exact HB.out)⟩⟩
              · rw [if_neg c18] at H
                have c18b0 : (t154 == 2) = false := beq_eq_false_iff_ne.mpr c18
                have c18b1 : (t154 != 2) = true := bne_iff_ne.mpr c18
                (first | rw [c18b0] | (simp only [i64_w, i32_w]; rw [c18b0]) | skip)
                have H' := Aside0.mk H
                clear H
                go_wp2
                go_meet
                case rel => exact ⟨_, ((t157 == 2)), (by first | rfl | (simp; done) | (simp [*]; done)), H', ⟨by have := HJ3.out; first | omega | exact Nat.le_refl _⟩, ⟨by repeat (first | (with_reducible first | exact HB.out | apply below_alloc | apply pw_below_drewN | apply below_drew1) | exact HB.out)⟩⟩
            case rest =>
              clear HC15
              try clear c1
              try clear c2
              try clear p2
              try clear c3
              try clear c6
              try clear c7
              try clear c8
              try clear c8b0
              try clear c8b1
              try clear c9
              try clear c9b0
              try clear c9b1
              try clear c11
              try clear c11b0
              try clear c12
              try clear c12b0
              try clear c18
              try clear c18b0
              try clear c18b1
              try clear p2
              obtain ⟨kq, x39_14, rfl, HA, HJ14, HB⟩ := hcut
              cases kq with
              | zero => exact absurd HA.out (by simp [point_Parse.j1])
              | succ kj14 =>
                have H := HA.out
                clear HA
                simp only [point_Parse.j1] at H
                by_cases c19 : x39_14 = true
                · subst c19
                  have H1 : (some (((0, 0) : Nat × Nat), 2)) = some (r1, r2) := by rw [if_pos rfl] at H; exact H
                  clear H
                  have H := H1
                  clear H1
                  simp only [Option.some.injEq, Prod.mk.injEq] at H
                  obtain ⟨rfl, rfl⟩ := H
                  go_wp2
                  go_ret2
                  exact ⟨by first | rfl | (simp [errW_none, errW_some] <;> rfl) | (simp [*, errW_none, errW_some] <;> rfl), by repeat (first | (with_reducible first | exact HB.out | apply below_alloc | apply pw_below_drewN | apply below_drew1) | exact HB.out)⟩
                · replace c19 := Bool.eq_false_iff.mpr c19
                  subst c19
                  have H1 : (if t154 = 0 then (if t157 = 0 then (some (((t153, t156) : Nat × Nat), 0)) else (some (((0, 0) : Nat × Nat), 1))) else (some (((0, 0) : Nat × Nat), 1))) = some (r1, r2) := by rw [if_neg (show ¬ (false = true) by decide)] at H; exact H
                  clear H
                  have H := H1
                  clear H1
                  by_cases c20 : t154 = 0
                  · rw [if_pos c20] at H
                    have c20b0 : (t154 == 0) = true := beq_iff_eq.mpr c20
                    have c20b1 : (t154 != 0) = false := bne_eq_false_iff_eq.mpr c20
                    clear c20
                    by_cases c21 : t157 = 0
                    · rw [if_pos c21] at H
                      have c21b0 : (t157 == 0) = true := beq_iff_eq.mpr c21
                      have c21b1 : (t157 != 0) = false := bne_eq_false_iff_eq.mpr c21
                      clear c21
                      simp only [Option.some.injEq, Prod.mk.injEq] at H
                      obtain ⟨rfl, rfl⟩ := H
                      go_wp2
                      go_ret2
                      exact ⟨by first | rfl | (simp [errW_none, errW_some] <;> rfl) | (simp [*, errW_none, errW_some] <;> rfl), by repeat (first | (with_reducible first | exact HB.out | apply below_alloc | apply pw_below_drewN | apply below_drew1) | exact HB.out)⟩
                    · rw [if_neg c21] at H
                      have c21b0 : (t157 == 0) = false := beq_eq_false_iff_ne.mpr c21
                      have c21b1 : (t157 != 0) = true := bne_iff_ne.mpr c21
                      simp only [Option.some.injEq, Prod.mk.injEq] at H
                      obtain ⟨rfl, rfl⟩ := H
                      go_wp2
                      go_ret2
                      exact ⟨by first | rfl | (simp [errW_none, errW_some] <;> rfl) | (simp [*, errW_none, errW_some] <;> rfl), by repeat (first | (with_reducible first | exact HB.out | apply below_alloc | apply pw_below_drewN | apply below_drew1) | exact HB.out)⟩
                  · rw [if_neg c20] at H
                    have c20b0 : (t154 == 0) = false := beq_eq_false_iff_ne.mpr c20
                    have c20b1 : (t154 != 0) = true := bne_iff_ne.mpr c20
                    simp only [Option.some.injEq, Prod.mk.injEq] at H
                    obtain ⟨rfl, rfl⟩ := H
                    go_wp2
                    go_ret2
                    exact ⟨by first | rfl | (simp [errW_none, errW_some] <;> rfl) | (simp [*, errW_none, errW_some] <;> rfl), by repeat (first | (with_reducible first | exact HB.out | apply below_alloc | apply pw_below_drewN | apply below_drew1) | exact HB.out)⟩
          · rw [if_neg c9] at H
            exact absurd H (by simp)
        · rw [if_neg c8] at H
          exact absurd H (by simp)

end Go.Proofs.YtaflcaillcjmmaaDoor.PAll
