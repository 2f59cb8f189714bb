-- Printed by this session's own program (wip/tools/pp.py): out of the translation. Lean checks it.
import Derived.Test.YtaflcaillcjmmaaGreatDoorPAllx0
import Derived.Test.YtaflcaillcjmmaaGreatDoorPAllx3
namespace Go.Proofs.YtaflcaillcjmmaaGreatDoor.PAll
open Go.Proofs.YtaflcaillcjmmaaGreatDoor.Help
open Go.RowKit Go.Proofs.YtaflcaillcjmmaaGreatDoorW.PrintWords Go.Proofs.YtaflcaillcjmmaaGreatDoorW.PrintLast Go.Proofs.YtaflcaillcjmmaaGreatDoorW.PrintMore
attribute [local go_sem] run_fl_eql run_fl_neq run_fl_lss run_fl_leq run_fl_gtr run_fl_geq unary_fl_neg run_cx_eql run_cx_neq run_cx_make run_cx_real run_cx_imag run_fl_of run_fl_to64 run_fl_add run_fl_sub run_fl_mul run_cx_add run_cx_sub run_cx_store run_fl_store str_gtr str_leq str_geq cell_put3_0 cell_put3_1 cell_put4_0 cell_put4_1 max2_int min2_int max_two min_two max_three min_three max_four min_four   -- for this text's walks alone
set_option linter.unusedVariables false
set_option linter.unusedSimpArgs false

/-! ### point_decimal: function 40 -/
def point_decimal.j0 : Nat → ByteArray → Bool → Option (Nat × Int)
  | 0, _, _ => none
  | k + 1, x0, x31 => if x31 = true then (some (0, 2)) else ((strconv_ParseInt.f x0 10 64).bind fun bt117 => ((point_part.f bt117.1).bind fun bt119 => (if bt117.2.isNone = true then (if bt119.2 = true then (some (bt119.1, 0)) else (some (0, 1))) else (some (0, 1)))))
def point_decimal.f (k : Nat) (a0 : ByteArray) : Option (Nat × Int) := (strings_TrimPrefix.f a0 (⟨#[45]⟩ : ByteArray)).bind fun t115 => (if t115.toList = ([] : List UInt8) then (point_decimal.j0 k a0 true) else ((strings_Trim.f t115 (⟨#[48, 49, 50, 51, 52, 53, 54, 55, 56, 57]⟩ : ByteArray)).bind fun t116 => (if t116.toList = ([] : List UInt8) then (if (t115.size : Int) > 1 then (if 0 < (t115.size : Int) then (if (bt t115 0) = 48 then (point_decimal.j0 k a0 true) else (point_decimal.j0 k a0 (a0.toList == ([45, 48] : List UInt8)))) else (none)) else (point_decimal.j0 k a0 (a0.toList == ([45, 48] : List UInt8)))) else (point_decimal.j0 k a0 true))))
theorem point_decimal.mono_l : ∀ k, (∀ y0 y1, LeO (point_decimal.j0 k y0 y1) (point_decimal.j0 (k + 1) y0 y1))
  | 0 => fun _ _ r h => by simp [point_decimal.j0] at h
  | k + 1 => by
    have ih0 := point_decimal.mono_l k
    · intro y0 y1
      unfold point_decimal.j0
      repeat' first
      | (with_reducible exact ih0 _ _)
      | (with_reducible exact LeO.refl _)
      | (with_reducible exact LeO.none _)
      | (with_reducible refine LeO.ite ?_ ?_)
      | (with_reducible refine LeO.bind ?_ (fun _ => ?_))
      | exact ih0 _ _
      | exact LeO.none _
      | refine LeO.ite ?_ ?_
      | refine LeO.bind ?_ (fun _ => ?_)
theorem point_decimal.mono : ∀ a0 k, LeO (point_decimal.f k a0) (point_decimal.f (k + 1) a0) := by
  intro a0 k
  have ih0 := point_decimal.mono_l k
  unfold point_decimal.f
  repeat' first
      | (with_reducible exact ih0 _ _)
      | (with_reducible exact LeO.refl _)
      | (with_reducible exact LeO.none _)
      | (with_reducible refine LeO.ite ?_ ?_)
      | (with_reducible refine LeO.bind ?_ (fun _ => ?_))
      | exact ih0 _ _
      | exact LeO.none _
      | refine LeO.ite ?_ ?_
      | refine LeO.bind ?_ (fun _ => ?_)
set_option maxHeartbeats 8000000 in
set_option maxRecDepth 100000 in
theorem point_decimal.calls (k : Nat) (a0 : ByteArray) (r1 : Nat) (r2 : Int) (w : World) (h : point_decimal.f k a0 = some (r1, r2)) (hG_ : Glob w) :
    Calls Tryz.prog 40 #[.string a0] w fun e w' => e = .returned (.tuple #[.float .f64 r1, .int .i64 r2]) ∧ Below w.heap.size w w' := by
  have HG_ := Aside0.mk hG_
  clear hG_
  have hu43 := Tryz.underlying43
  have HB := Aside0.mk (Below.refl w.heap.size w)
  have H : ((strings_TrimPrefix.f a0 (⟨#[45]⟩ : ByteArray)).bind fun t115 => (if t115.toList = ([] : List UInt8) then (point_decimal.j0 k a0 true) else ((strings_Trim.f t115 (⟨#[48, 49, 50, 51, 52, 53, 54, 55, 56, 57]⟩ : ByteArray)).bind fun t116 => (if t116.toList = ([] : List UInt8) then (if (t115.size : Int) > 1 then (if 0 < (t115.size : Int) then (if (bt t115 0) = 48 then (point_decimal.j0 k a0 true) else (point_decimal.j0 k a0 (a0.toList == ([45, 48] : List UInt8)))) else (none)) else (point_decimal.j0 k a0 (a0.toList == ([45, 48] : List UInt8)))) else (point_decimal.j0 k a0 true))))) = some (r1, r2) := h
  clear h
  replace H := Option.bind_eq_some_iff.mp H
  obtain ⟨t115, A20, H⟩ := H
  replace H : (if t115.toList = ([] : List UInt8) then (point_decimal.j0 k a0 true) else ((strings_Trim.f t115 (⟨#[48, 49, 50, 51, 52, 53, 54, 55, 56, 57]⟩ : ByteArray)).bind fun t116 => (if t116.toList = ([] : List UInt8) then (if (t115.size : Int) > 1 then (if 0 < (t115.size : Int) then (if (bt t115 0) = 48 then (point_decimal.j0 k a0 true) else (point_decimal.j0 k a0 (a0.toList == ([45, 48] : List UInt8)))) else (none)) else (point_decimal.j0 k a0 (a0.toList == ([45, 48] : List UInt8)))) else (point_decimal.j0 k a0 true)))) = some (r1, r2) := H
  have A2 := Aside0.mk A20
  clear A20
  have HC3 := Aside0.mk H
  clear H
  go_enter Tryz.func40, Tryz.ntmps40
  go_upto_region 2 with (first | (go_at_call 20; (with_reducible refine (strings_TrimPrefix.calls a0 (⟨#[45]⟩ : ByteArray) t115 _ A2.out).mono ?_); rintro e w' ⟨rfl, ⟨nd, rfl⟩⟩))
  (try simp only [Act.put, List.setIfInBounds_toArray, List.set_cons_zero, List.set_cons_succ])
  go_cut [31] (fun v31 wc => ∃ (kq : Nat) (x31_2 : Bool), v31 = .bool x31_2 ∧ Aside0 (point_decimal.j0 kq a0 x31_2 = some (r1, r2)) ∧ Aside0 (kq ≤ k) ∧ Aside0 (Below w.heap.size w wc))
  case first =>
    have H := HC3.out
    clear HC3
    by_cases c4 : t115.toList = ([] : List UInt8)
    · rw [if_pos c4] at H
      have c4b0 : (t115.toList == ([] : List UInt8)) = true := beq_iff_eq.mpr c4
      have c4b1 : (t115.toList != ([] : List UInt8)) = false := bne_eq_false_iff_eq.mpr c4
      clear c4
      (first | rw [c4b0] | (simp only [i64_w, i32_w]; rw [c4b0]) | skip)
      have H' := Aside0.mk H
      clear H
      go_wp2
      go_meet
      case rel => exact ⟨_, (true), (by first | rfl | (simp; done) | (simp [*]; done)), H', ⟨by first | omega | exact Nat.le_refl _⟩, ⟨by repeat (first | (with_reducible first | exact HB.out | apply below_alloc | apply pw_below_drewN | apply below_drew1) | exact HB.out)⟩⟩
    · rw [if_neg c4] at H
      have c4b0 : (t115.toList == ([] : List UInt8)) = false := beq_eq_false_iff_ne.mpr c4
      have c4b1 : (t115.toList != ([] : List UInt8)) = true := bne_iff_ne.mpr c4
      (first | rw [c4b0] | (simp only [i64_w, i32_w]; rw [c4b0]) | skip)
      replace H := Option.bind_eq_some_iff.mp H
      obtain ⟨t116, A50, H⟩ := H
      replace H : (if t116.toList = ([] : List UInt8) then (if (t115.size : Int) > 1 then (if 0 < (t115.size : Int) then (if (bt t115 0) = 48 then (point_decimal.j0 k a0 true) else (point_decimal.j0 k a0 (a0.toList == ([45, 48] : List UInt8)))) else (none)) else (point_decimal.j0 k a0 (a0.toList == ([45, 48] : List UInt8)))) else (point_decimal.j0 k a0 true)) = some (r1, r2) := H
      have A5 := Aside0.mk A50
      clear A50
      by_cases c6 : t116.toList = ([] : List UInt8)
      · rw [if_pos c6] at H
        have c6b0 : (t116.toList == ([] : List UInt8)) = true := beq_iff_eq.mpr c6
        have c6b1 : (t116.toList != ([] : List UInt8)) = false := bne_eq_false_iff_eq.mpr c6
        clear c6
        by_cases c7 : (t115.size : Int) > 1
        · rw [if_pos c7] at H
          have c7b0 : decide (1 < (t115.size : Int)) = true := decide_eq_true c7
          have c7b1 : decide (1 < t115.size) = true := decide_eq_true (by omega)
          clear c7
          by_cases c8 : 0 < (t115.size : Int)
          · rw [if_pos c8] at H
            have c8b0 : decide (0 < (t115.size : Int)) = true := decide_eq_true c8
            have c8b1 : decide (0 < t115.size) = true := decide_eq_true (by omega)
            clear c8
            by_cases c10 : (bt t115 0) = 48
            · rw [if_pos c10] at H
              have c10b0 : ((bt t115 0) == 48) = true := beq_iff_eq.mpr c10
              have c10b1 : ((bt t115 0) != 48) = false := bne_eq_false_iff_eq.mpr c10
              clear c10
              have H' := Aside0.mk H
              clear H
              go_wp2_with (first | (go_at_call 21; (with_reducible refine (strings_Trim.calls t115 (⟨#[48, 49, 50, 51, 52, 53, 54, 55, 56, 57]⟩ : ByteArray) t116 _ A5.out).mono ?_); rintro e w11 ⟨rfl, hb⟩; have n0_ := Aside0.mk (below_step (by repeat (first | (with_reducible first | exact HB.out | apply below_alloc | apply pw_below_drewN | apply below_drew1) | exact HB.out)) hb); clear HB; have HB := n0_; clear n0_; (try clear hb); (try clear hb2); (try clear hk); (try clear hi); have p9 : 0 ≤ (0 : Int) := (by omega); have q9 : 0 < t115.size := (by have : (0 : Int) < (t115.size : Int) := of_decide_eq_true (by first | (with_reducible assumption) | assumption); omega); have hx9 : ∀ h : 0 < t115.size, ((t115[0]'h).toNat : Int) = bt t115 0 := bt_at t115 0; clear p9; have qi9 : (0 < (t115.size : Int)) = True := eq_true (of_decide_eq_true (by first | (with_reducible assumption) | assumption)); replace q9 := eq_true q9))
              go_meet
              case rel => exact ⟨_, (true), (by first | rfl | (simp; done) | (simp [*]; done)), H', ⟨by first | omega | exact Nat.le_refl _⟩, ⟨by repeat (first | (with_reducible first | exact HB.out | apply below_alloc | apply pw_below_drewN | apply below_drew1) | exact HB.out)⟩⟩
            · rw [if_neg c10] at H
              have c10b0 : ((bt t115 0) == 48) = false := beq_eq_false_iff_ne.mpr c10
              have c10b1 : ((bt t115 0) != 48) = true := bne_iff_ne.mpr c10
              have H' := Aside0.mk H
              clear H
              go_wp2_with (first | (go_at_call 21; (with_reducible refine (strings_Trim.calls t115 (⟨#[48, 49, 50, 51, 52, 53, 54, 55, 56, 57]⟩ : ByteArray) t116 _ A5.out).mono ?_); rintro e w12 ⟨rfl, hb⟩; have n0_ := Aside0.mk (below_step (by repeat (first | (with_reducible first | exact HB.out | apply below_alloc | apply pw_below_drewN | apply below_drew1) | exact HB.out)) hb); clear HB; have HB := n0_; clear n0_; (try clear hb); (try clear hb2); (try clear hk); (try clear hi); have p9 : 0 ≤ (0 : Int) := (by omega); have q9 : 0 < t115.size := (by have : (0 : Int) < (t115.size : Int) := of_decide_eq_true (by first | (with_reducible assumption) | assumption); omega); have hx9 : ∀ h : 0 < t115.size, ((t115[0]'h).toNat : Int) = bt t115 0 := bt_at t115 0; clear p9; have qi9 : (0 < (t115.size : Int)) = True := eq_true (of_decide_eq_true (by first | (with_reducible assumption) | assumption)); replace q9 := eq_true q9))
              go_meet
              case rel => exact ⟨_, ((a0.toList == ([45, 48] : List UInt8))), (by first | rfl | (simp; done) | (simp [*]; done)), H', ⟨by first | omega | exact Nat.le_refl _⟩, ⟨by repeat (first | (with_reducible first | exact HB.out | apply below_alloc | apply pw_below_drewN | apply below_drew1) | exact HB.out)⟩⟩
          · rw [if_neg c8] at H
            exact absurd H (by simp)
        · rw [if_neg c7] at H
          have c7b0 : decide (1 < (t115.size : Int)) = false := decide_eq_false c7
          have c7b1 : decide (1 < t115.size) = false := decide_eq_false (by omega)
          clear c7
          have H' := Aside0.mk H
          clear H
          go_wp2_with (first | (go_at_call 21; (with_reducible refine (strings_Trim.calls t115 (⟨#[48, 49, 50, 51, 52, 53, 54, 55, 56, 57]⟩ : ByteArray) t116 _ A5.out).mono ?_); rintro e w13 ⟨rfl, hb⟩; have n0_ := Aside0.mk (below_step (by repeat (first | (with_reducible first | exact HB.out | apply below_alloc | apply pw_below_drewN | apply below_drew1) | exact HB.out)) hb); clear HB; have HB := n0_; clear n0_; (try clear hb); (try clear hb2); (try clear hk); (try clear hi)))
          go_meet
          case rel => exact ⟨_, ((a0.toList == ([45, 48] : List UInt8))), (by first | rfl | (simp; done) | (simp [*]; done)), H', ⟨by first | omega | exact Nat.le_refl _⟩, ⟨by repeat (first | (with_reducible first | exact HB.out | apply below_alloc | apply pw_below_drewN | apply below_drew1) | exact HB.out)⟩⟩
      · rw [if_neg c6] at H
        have c6b0 : (t116.toList == ([] : List UInt8)) = false := beq_eq_false_iff_ne.mpr c6
        have c6b1 : (t116.toList != ([] : List UInt8)) = true := bne_iff_ne.mpr c6
        have H' := Aside0.mk H
        clear H
        go_wp2_with (first | (go_at_call 21; (with_reducible refine (strings_Trim.calls t115 (⟨#[48, 49, 50, 51, 52, 53, 54, 55, 56, 57]⟩ : ByteArray) t116 _ A5.out).mono ?_); rintro e w14 ⟨rfl, hb⟩; have n0_ := Aside0.mk (below_step (by repeat (first | (with_reducible first | exact HB.out | apply below_alloc | apply pw_below_drewN | apply below_drew1) | exact HB.out)) hb); clear HB; have HB := n0_; clear n0_; (try clear hb); (try clear hb2); (try clear hk); (try clear hi)))
        go_meet
        case rel => exact ⟨_, (true), (by first | rfl | (simp; done) | (simp [*]; done)), H', ⟨by first | omega | exact Nat.le_refl _⟩, ⟨by repeat (first | (with_reducible first | exact HB.out | apply below_alloc | apply pw_below_drewN | apply below_drew1) | exact HB.out)⟩⟩
  case rest =>
    clear HC3
    try clear c1
    try clear p2
    try clear c4
    try clear c4b0
    try clear c4b1
    try clear c6
    try clear c6b0
    try clear c6b1
    try clear c7
    try clear c7b0
    try clear c7b1
    try clear c8
    try clear c8b0
    try clear c8b1
    try clear p9
    try clear q9
    try clear hx9
    try clear qi9
    try clear c10
    try clear c10b0
    try clear c10b1
    try clear p9
    try clear q9
    obtain ⟨kq, x31_2, rfl, HA, HJ2, HB⟩ := hcut
    cases kq with
    | zero => exact absurd HA.out (by simp [point_decimal.j0])
    | succ kj2 =>
      have H := HA.out
      clear HA
      simp only [point_decimal.j0] at H
      by_cases c15 : x31_2 = true
      · subst c15
        have H1 : (some (0, 2)) = some (r1, r2) := by rw [if_pos rfl] at H; exact H
        clear H
        have H := H1
        clear H1
        simp only [Option.some.injEq, Prod.mk.injEq] at H
        obtain ⟨rfl, rfl⟩ := H
        go_wp2
        go_ret2
        exact ⟨by first | rfl | (simp [errW_none, errW_some] <;> rfl) | (simp [*, errW_none, errW_some] <;> rfl), by repeat (first | (with_reducible first | exact HB.out | apply below_alloc | apply pw_below_drewN | apply below_drew1) | exact HB.out)⟩
      · replace c15 := Bool.eq_false_iff.mpr c15
        subst c15
        have H1 : ((strconv_ParseInt.f a0 10 64).bind fun bt117 => ((point_part.f bt117.1).bind fun bt119 => (if bt117.2.isNone = true then (if bt119.2 = true then (some (bt119.1, 0)) else (some (0, 1))) else (some (0, 1))))) = some (r1, r2) := by rw [if_neg (show ¬ (false = true) by decide)] at H; exact H
        clear H
        have H := H1
        clear H1
        replace H := Option.bind_eq_some_iff.mp H
        obtain ⟨⟨t117, t118⟩, A160, H⟩ := H
        replace H : ((point_part.f t117).bind fun bt119 => (if t118.isNone = true then (if bt119.2 = true then (some (bt119.1, 0)) else (some (0, 1))) else (some (0, 1)))) = some (r1, r2) := H
        have A16 := Aside0.mk A160
        clear A160
        replace H := Option.bind_eq_some_iff.mp H
        obtain ⟨⟨t119, t120⟩, A170, H⟩ := H
        replace H : (if t118.isNone = true then (if t120 = true then (some (t119, 0)) else (some (0, 1))) else (some (0, 1))) = some (r1, r2) := H
        have A17 := Aside0.mk A170
        clear A170
        rcases t118 with _ | q121
        · have H1 : (if t120 = true then (some (t119, 0)) else (some (0, 1))) = some (r1, r2) := by rw [if_pos (show (none : Option Int).isNone = true by rfl)] at H; exact H
          clear H
          have H := H1
          clear H1
          try simp only [errW_none, errW_some]
          by_cases c18 : t120 = true
          · subst c18
            have H1 : (some (t119, 0)) = some (r1, r2) := by rw [if_pos rfl] at H; exact H
            clear H
            have H := H1
            clear H1
            simp only [Option.some.injEq, Prod.mk.injEq] at H
            obtain ⟨rfl, rfl⟩ := H
            go_wp2_with (first | ((with_reducible refine gate_callee (f := 22) rfl ?_); refine goesL_ (some 34) rfl rfl Tryz.func22 (by kernel_rfl) rfl #[.string a0, .int .i64 10, .int .i64 64] rfl (by (try simp only [List.map_toArray, List.map_cons, List.map_nil]); first | done | rfl | (simp only [List.length_drop, List.length_take]; rfl)) ?_; (with_reducible refine (strconv_ParseInt.calls a0 10 64 t117 none _ A16.out (Glob.below HG_.out (by repeat (first | (with_reducible first | exact HB.out | apply below_alloc | apply pw_below_drewN | apply below_drew1) | exact HB.out)))).mono ?_); rintro e w19 ⟨q22_, rfl, hb⟩; refine ⟨_, rfl, ?_⟩; (try simp only [Option.map_some, Option.map_none, errW_none, errW_some]); have n0_ := Aside0.mk (below_step (by repeat (first | (with_reducible first | exact HB.out | apply below_alloc | apply pw_below_drewN | apply below_drew1) | exact HB.out)) hb); clear HB; have HB := n0_; clear n0_; (try clear hb); (try clear hb2); (try clear hk); (try clear hi); (try simp only [errW_none, errW_some])) | (go_at_call 64; (with_reducible refine (point_part.calls t117 t119 true _ A17.out).mono ?_); rintro e w' ⟨rfl, ⟨nd, rfl⟩⟩))
            go_ret2
            exact ⟨by first | rfl | (simp [errW_none, errW_some] <;> rfl) | (simp [*, errW_none, errW_some] <;> rfl), by repeat (first | (with_reducible first | exact HB.out | apply below_alloc | apply pw_below_drewN | apply below_drew1) | exact HB.out)⟩
          · replace c18 := Bool.eq_false_iff.mpr c18
            subst c18
            have H1 : (some (0, 1)) = some (r1, r2) := by rw [if_neg (show ¬ (false = true) by decide)] at H; exact H
            clear H
            have H := H1
            clear H1
            simp only [Option.some.injEq, Prod.mk.injEq] at H
            obtain ⟨rfl, rfl⟩ := H
            go_wp2_with (first | ((with_reducible refine gate_callee (f := 22) rfl ?_); refine goesL_ (some 34) rfl rfl Tryz.func22 (by kernel_rfl) rfl #[.string a0, .int .i64 10, .int .i64 64] rfl (by (try simp only [List.map_toArray, List.map_cons, List.map_nil]); first | done | rfl | (simp only [List.length_drop, List.length_take]; rfl)) ?_; (with_reducible refine (strconv_ParseInt.calls a0 10 64 t117 none _ A16.out (Glob.below HG_.out (by repeat (first | (with_reducible first | exact HB.out | apply below_alloc | apply pw_below_drewN | apply below_drew1) | exact HB.out)))).mono ?_); rintro e w20 ⟨q22_, rfl, hb⟩; refine ⟨_, rfl, ?_⟩; (try simp only [Option.map_some, Option.map_none, errW_none, errW_some]); have n0_ := Aside0.mk (below_step (by repeat (first | (with_reducible first | exact HB.out | apply below_alloc | apply pw_below_drewN | apply below_drew1) | exact HB.out)) hb); clear HB; have HB := n0_; clear n0_; (try clear hb); (try clear hb2); (try clear hk); (try clear hi); (try simp only [errW_none, errW_some])) | (go_at_call 64; (with_reducible refine (point_part.calls t117 t119 false _ A17.out).mono ?_); rintro e w' ⟨rfl, ⟨nd, rfl⟩⟩))
            go_ret2
            exact ⟨by first | rfl | (simp [errW_none, errW_some] <;> rfl) | (simp [*, errW_none, errW_some] <;> rfl), by repeat (first | (with_reducible first | exact HB.out | apply below_alloc | apply pw_below_drewN | apply below_drew1) | exact HB.out)⟩
        · have H1 : (some (0, 1)) = some (r1, r2) := by rw [if_neg (show ¬ (some q121).isNone = true by simp)] at H; exact H
          clear H
          have H := H1
          clear H1
          try simp only [errW_none, errW_some]
          simp only [Option.some.injEq, Prod.mk.injEq] at H
          obtain ⟨rfl, rfl⟩ := H
          go_wp2_with (first | ((with_reducible refine gate_callee (f := 22) rfl ?_); refine goesL_ (some 34) rfl rfl Tryz.func22 (by kernel_rfl) rfl #[.string a0, .int .i64 10, .int .i64 64] rfl (by (try simp only [List.map_toArray, List.map_cons, List.map_nil]); first | done | rfl | (simp only [List.length_drop, List.length_take]; rfl)) ?_; (with_reducible refine (strconv_ParseInt.calls a0 10 64 t117 (some q121) _ A16.out (Glob.below HG_.out (by repeat (first | (with_reducible first | exact HB.out | apply below_alloc | apply pw_below_drewN | apply below_drew1) | exact HB.out)))).mono ?_); rintro e w21 ⟨q22_, rfl, hb⟩; refine ⟨_, rfl, ?_⟩; (try simp only [Option.map_some, Option.map_none, errW_none, errW_some]); have n0_ := Aside0.mk (below_step (by repeat (first | (with_reducible first | exact HB.out | apply below_alloc | apply pw_below_drewN | apply below_drew1) | exact HB.out)) hb); clear HB; have HB := n0_; clear n0_; (try clear hb); (try clear hb2); (try clear hk); (try clear hi); (try simp only [errW_none, errW_some])) | (go_at_call 64; (with_reducible refine (point_part.calls t117 t119 t120 _ A17.out).mono ?_); rintro e w' ⟨rfl, ⟨nd, rfl⟩⟩))
          go_ret2
          exact ⟨by first | rfl | (simp [errW_none, errW_some] <;> rfl) | (simp [*, errW_none, errW_some] <;> rfl), by repeat (first | (with_reducible first | exact HB.out | apply below_alloc | apply pw_below_drewN | apply below_drew1) | exact HB.out)⟩

/-! ### point_Parse: function 19 -/
mutual
def point_Parse.j0 : Nat → ByteArray → Int → Bool → Option ((Nat × Nat) × Int)
  | 0, _, _, _ => none
  | k + 1, x4, x6, x23 => if x23 = true then (some (((0, 0) : Nat × Nat), 2)) else (if 0 ≤ x6 then (if x6 ≤ (x4.size : Int) then ((point_decimal.f k (x4.extract 0 (x6 : Int).toNat)).bind fun bt125 => ((strings_TrimPrefix.f (x4.extract (x6 : Int).toNat x4.size) (⟨#[43]⟩ : ByteArray)).bind fun t127 => ((point_decimal.f k t127).bind fun bt128 => (if bt125.2 = 2 then (point_Parse.j1 k bt125.1 bt125.2 bt128.1 bt128.2 true) else (point_Parse.j1 k bt125.1 bt125.2 bt128.1 bt128.2 (bt128.2 == 2)))))) else (none)) else (none))
def point_Parse.j1 : Nat → Nat → Int → Nat → Int → Bool → Option ((Nat × Nat) × Int)
  | 0, _, _, _, _, _ => none
  | k + 1, x7, x8, x9, x10, x39 => if x39 = true then (some (((0, 0) : Nat × Nat), 2)) else (if x8 = 0 then (if x10 = 0 then (some (((x7, x9) : Nat × Nat), 0)) else (some (((0, 0) : Nat × Nat), 1))) else (some (((0, 0) : Nat × Nat), 1)))
end
def point_Parse.f (k : Nat) (a0 : ByteArray) : Option ((Nat × Nat) × Int) := (strings_CutSuffix.f a0 (⟨#[105]⟩ : ByteArray)).bind fun bt122 => ((strings_LastIndexAny.f bt122.1 (⟨#[43, 45]⟩ : ByteArray)).bind fun t124 => (if bt122.2 = true then (point_Parse.j0 k bt122.1 t124 (decide (t124 < 1))) else (point_Parse.j0 k bt122.1 t124 true)))
theorem point_Parse.mono_l : ∀ k, (∀ y0 y1 y2, LeO (point_Parse.j0 k y0 y1 y2) (point_Parse.j0 (k + 1) y0 y1 y2)) ∧ (∀ y0 y1 y2 y3 y4, LeO (point_Parse.j1 k y0 y1 y2 y3 y4) (point_Parse.j1 (k + 1) y0 y1 y2 y3 y4))
  | 0 => ⟨fun _ _ _ r h => by simp [point_Parse.j0] at h, fun _ _ _ _ _ r h => by simp [point_Parse.j1] at h⟩
  | k + 1 => by
    obtain ⟨ih0, ih1⟩ := point_Parse.mono_l k
    refine ⟨?_, ?_⟩
    · intro y0 y1 y2
      unfold point_Parse.j0
      repeat' first
      | (with_reducible exact ih0 _ _ _)
      | (with_reducible exact ih1 _ _ _ _ _)
      | (with_reducible exact point_decimal.mono _ _)
      | (with_reducible exact LeO.refl _)
      | (with_reducible exact LeO.none _)
      | (with_reducible refine LeO.ite ?_ ?_)
      | (with_reducible refine LeO.bind ?_ (fun _ => ?_))
      | exact ih0 _ _ _
      | exact ih1 _ _ _ _ _
      | exact point_decimal.mono _ _
      | exact LeO.none _
      | refine LeO.ite ?_ ?_
      | refine LeO.bind ?_ (fun _ => ?_)
    · intro y0 y1 y2 y3 y4
      unfold point_Parse.j1
      repeat' first
      | (with_reducible exact ih0 _ _ _)
      | (with_reducible exact ih1 _ _ _ _ _)
      | (with_reducible exact point_decimal.mono _ _)
      | (with_reducible exact LeO.refl _)
      | (with_reducible exact LeO.none _)
      | (with_reducible refine LeO.ite ?_ ?_)
      | (with_reducible refine LeO.bind ?_ (fun _ => ?_))
      | exact ih0 _ _ _
      | exact ih1 _ _ _ _ _
      | exact point_decimal.mono _ _
      | exact LeO.none _
      | refine LeO.ite ?_ ?_
      | refine LeO.bind ?_ (fun _ => ?_)
theorem point_Parse.mono : ∀ a0 k, LeO (point_Parse.f k a0) (point_Parse.f (k + 1) a0) := by
  intro a0 k
  obtain ⟨ih0, ih1⟩ := point_Parse.mono_l k
  unfold point_Parse.f
  repeat' first
      | (with_reducible exact ih0 _ _ _)
      | (with_reducible exact ih1 _ _ _ _ _)
      | (with_reducible exact point_decimal.mono _ _)
      | (with_reducible exact LeO.refl _)
      | (with_reducible exact LeO.none _)
      | (with_reducible refine LeO.ite ?_ ?_)
      | (with_reducible refine LeO.bind ?_ (fun _ => ?_))
      | exact ih0 _ _ _
      | exact ih1 _ _ _ _ _
      | exact point_decimal.mono _ _
      | exact LeO.none _
      | refine LeO.ite ?_ ?_
      | refine LeO.bind ?_ (fun _ => ?_)
set_option maxHeartbeats 8000000 in
set_option maxRecDepth 100000 in
theorem point_Parse.calls (k : Nat) (a0 : ByteArray) (r1 : (Nat × Nat)) (r2 : Int) (w : World) (h : point_Parse.f k a0 = some (r1, r2)) (hG_ : Glob w) :
    Calls Tryz.prog 19 #[.string a0] w fun e w' => e = .returned (.tuple #[.complex .f64 r1.1 r1.2, .int .i64 r2]) ∧ Below w.heap.size w w' := by
  have HG_ := Aside0.mk hG_
  clear hG_
  have HB := Aside0.mk (Below.refl w.heap.size w)
  have H : ((strings_CutSuffix.f a0 (⟨#[105]⟩ : ByteArray)).bind fun bt122 => ((strings_LastIndexAny.f bt122.1 (⟨#[43, 45]⟩ : ByteArray)).bind fun t124 => (if bt122.2 = true then (point_Parse.j0 k bt122.1 t124 (decide (t124 < 1))) else (point_Parse.j0 k bt122.1 t124 true)))) = some (r1, r2) := h
  clear h
  replace H := Option.bind_eq_some_iff.mp H
  obtain ⟨⟨t122, t123⟩, A20, H⟩ := H
  replace H : ((strings_LastIndexAny.f t122 (⟨#[43, 45]⟩ : ByteArray)).bind fun t124 => (if t123 = true then (point_Parse.j0 k t122 t124 (decide (t124 < 1))) else (point_Parse.j0 k t122 t124 true))) = some (r1, r2) := H
  have A2 := Aside0.mk A20
  clear A20
  replace H := Option.bind_eq_some_iff.mp H
  obtain ⟨t124, A30, H⟩ := H
  replace H : (if t123 = true then (point_Parse.j0 k t122 t124 (decide (t124 < 1))) else (point_Parse.j0 k t122 t124 true)) = some (r1, r2) := H
  have A3 := Aside0.mk A30
  clear A30
  have HC4 := Aside0.mk H
  clear H
  go_enter Tryz.func19, Tryz.ntmps19
  go_upto_region 3 with (first | (go_at_call 38; (with_reducible refine (strings_CutSuffix.calls a0 (⟨#[105]⟩ : ByteArray) t122 t123 _ A2.out).mono ?_); rintro e w' ⟨rfl, ⟨nd, rfl⟩⟩) | ((with_reducible refine gate_callee (f := 39) rfl ?_); refine goesL_ (some 17) rfl rfl Tryz.func39 (by kernel_rfl) rfl #[.string t122, .string (⟨#[43, 45]⟩ : ByteArray)] rfl (by (try simp only [List.map_toArray, List.map_cons, List.map_nil]); first | done | rfl | (simp only [List.length_drop, List.length_take]; rfl)) ?_; (with_reducible refine (strings_LastIndexAny.calls t122 (⟨#[43, 45]⟩ : ByteArray) t124 _ A3.out (Glob.below HG_.out (by repeat (first | (with_reducible first | exact HB.out | apply below_alloc | apply pw_below_drewN | apply below_drew1) | exact HB.out)))).mono ?_); rintro e w5 ⟨rfl, hb⟩; refine ⟨_, rfl, ?_⟩; have n0_ := Aside0.mk (below_step (by repeat (first | (with_reducible first | exact HB.out | apply below_alloc | apply pw_below_drewN | apply below_drew1) | exact HB.out)) hb); clear HB; have HB := n0_; clear n0_; (try clear hb); (try clear hb2); (try clear hk); (try clear hi)))
  (try simp only [Act.put, List.setIfInBounds_toArray, List.set_cons_zero, List.set_cons_succ])
  go_cut [23] (fun v23 wc => ∃ (kq : Nat) (x23_3 : Bool), v23 = .bool x23_3 ∧ Aside0 (point_Parse.j0 kq t122 t124 x23_3 = some (r1, r2)) ∧ Aside0 (kq ≤ k) ∧ Aside0 (Below w.heap.size w wc))
  case first =>
    have H := HC4.out
    clear HC4
    by_cases c6 : t123 = true
    · subst c6
      have H1 : (point_Parse.j0 k t122 t124 (decide (t124 < 1))) = some (r1, r2) := by rw [if_pos rfl] at H; exact H
      clear H
      have H := H1
      clear H1
      have H' := Aside0.mk H
      clear H
      go_wp2
      go_meet
      case rel => exact ⟨_, (decide (t124 < 1)), (by first | rfl | (simp; done) | (simp [*]; done)), H', ⟨by first | omega | exact Nat.le_refl _⟩, ⟨by repeat (first | (with_reducible first | exact HB.out | apply below_alloc | apply pw_below_drewN | apply below_drew1) | exact HB.out)⟩⟩
    · replace c6 := Bool.eq_false_iff.mpr c6
      subst c6
      have H1 : (point_Parse.j0 k t122 t124 true) = some (r1, r2) := by rw [if_neg (show ¬ (false = true) by decide)] at H; exact H
      clear H
      have H := H1
      clear H1
      have H' := Aside0.mk H
      clear H
      go_wp2
      go_meet
      case rel => exact ⟨_, (true), (by first | rfl | (simp; done) | (simp [*]; done)), H', ⟨by first | omega | exact Nat.le_refl _⟩, ⟨by repeat (first | (with_reducible first | exact HB.out | apply below_alloc | apply pw_below_drewN | apply below_drew1) | exact HB.out)⟩⟩
  case rest =>
    clear HC4
    try clear c1
    try clear p2
    try clear c3
    try clear c6
    obtain ⟨kq, x23_3, rfl, HA, HJ3, HB⟩ := hcut
    cases kq with
    | zero => exact absurd HA.out (by simp [point_Parse.j0])
    | succ kj3 =>
      have H := HA.out
      clear HA
      simp only [point_Parse.j0] at H
      by_cases c7 : x23_3 = true
      · subst c7
        have H1 : (some (((0, 0) : Nat × Nat), 2)) = some (r1, r2) := by rw [if_pos rfl] at H; exact H
        clear H
        have H := H1
        clear H1
        simp only [Option.some.injEq, Prod.mk.injEq] at H
        obtain ⟨rfl, rfl⟩ := H
        go_wp2
        go_ret2
        exact ⟨by first | rfl | (simp [errW_none, errW_some] <;> rfl) | (simp [*, errW_none, errW_some] <;> rfl), by repeat (first | (with_reducible first | exact HB.out | apply below_alloc | apply pw_below_drewN | apply below_drew1) | exact HB.out)⟩
      · replace c7 := Bool.eq_false_iff.mpr c7
        subst c7
        have H1 : (if 0 ≤ t124 then (if t124 ≤ (t122.size : Int) then ((point_decimal.f kj3 (t122.extract 0 (t124 : Int).toNat)).bind fun bt125 => ((strings_TrimPrefix.f (t122.extract (t124 : Int).toNat t122.size) (⟨#[43]⟩ : ByteArray)).bind fun t127 => ((point_decimal.f kj3 t127).bind fun bt128 => (if bt125.2 = 2 then (point_Parse.j1 kj3 bt125.1 bt125.2 bt128.1 bt128.2 true) else (point_Parse.j1 kj3 bt125.1 bt125.2 bt128.1 bt128.2 (bt128.2 == 2)))))) else (none)) else (none)) = some (r1, r2) := by rw [if_neg (show ¬ (false = true) by decide)] at H; exact H
        clear H
        have H := H1
        clear H1
        by_cases c8 : 0 ≤ t124
        · rw [if_pos c8] at H
          have c8b0 := eq_true c8
          have c8b1 : decide (0 ≤ t124) = true := decide_eq_true c8
          clear c8
          by_cases c9 : t124 ≤ (t122.size : Int)
          · rw [if_pos c9] at H
            have c9b0 := eq_true c9
            have c9b1 : decide (t124 ≤ (t122.size : Int)) = true := decide_eq_true c9
            clear c9
            replace H := Option.bind_eq_some_iff.mp H
            obtain ⟨⟨t125, t126⟩, A100, H⟩ := H
            replace H : ((strings_TrimPrefix.f (t122.extract (t124 : Int).toNat t122.size) (⟨#[43]⟩ : ByteArray)).bind fun t127 => ((point_decimal.f kj3 t127).bind fun bt128 => (if t126 = 2 then (point_Parse.j1 kj3 t125 t126 bt128.1 bt128.2 true) else (point_Parse.j1 kj3 t125 t126 bt128.1 bt128.2 (bt128.2 == 2))))) = some (r1, r2) := H
            have A10 := Aside0.mk A100
            clear A100
            have c11b0 := eq_true (of_decide_eq_true (by first | (with_reducible assumption) | assumption) : 0 ≤ t124)
            have c12b0 := eq_true (of_decide_eq_true (by first | (with_reducible assumption) | assumption) : t124 ≤ (t122.size : Int))
            replace H := Option.bind_eq_some_iff.mp H
            obtain ⟨t127, A130, H⟩ := H
            replace H : ((point_decimal.f kj3 t127).bind fun bt128 => (if t126 = 2 then (point_Parse.j1 kj3 t125 t126 bt128.1 bt128.2 true) else (point_Parse.j1 kj3 t125 t126 bt128.1 bt128.2 (bt128.2 == 2)))) = some (r1, r2) := H
            have A13 := Aside0.mk A130
            clear A130
            replace H := Option.bind_eq_some_iff.mp H
            obtain ⟨⟨t128, t129⟩, A140, H⟩ := H
            replace H : (if t126 = 2 then (point_Parse.j1 kj3 t125 t126 t128 t129 true) else (point_Parse.j1 kj3 t125 t126 t128 t129 (t129 == 2))) = some (r1, r2) := H
            have A14 := Aside0.mk A140
            clear A140
            have HC15 := Aside0.mk H
            clear H
            go_upto_region 7 with (first | ((with_reducible refine gate_callee (f := 40) rfl ?_); refine goesL_ (some 28) rfl rfl Tryz.func40 (by kernel_rfl) rfl #[.string (t122.extract 0 (t124 : Int).toNat)] rfl (by (try simp only [List.map_toArray, List.map_cons, List.map_nil]); first | done | rfl | (simp only [List.length_drop, List.length_take]; rfl)) ?_; (with_reducible refine (point_decimal.calls kj3 (t122.extract 0 (t124 : Int).toNat) t125 t126 _ A10.out (Glob.below HG_.out (by repeat (first | (with_reducible first | exact HB.out | apply below_alloc | apply pw_below_drewN | apply below_drew1) | exact HB.out)))).mono ?_); rintro e w16 ⟨rfl, hb⟩; refine ⟨_, rfl, ?_⟩; have n0_ := Aside0.mk (below_step (by repeat (first | (with_reducible first | exact HB.out | apply below_alloc | apply pw_below_drewN | apply below_drew1) | exact HB.out)) hb); clear HB; have HB := n0_; clear n0_; (try clear hb); (try clear hb2); (try clear hk); (try clear hi)) | (go_at_call 20; (with_reducible refine (strings_TrimPrefix.calls (t122.extract (t124 : Int).toNat t122.size) (⟨#[43]⟩ : ByteArray) t127 _ A13.out).mono ?_); rintro e w' ⟨rfl, ⟨nd, rfl⟩⟩) | ((with_reducible refine gate_callee (f := 40) rfl ?_); refine goesL_ (some 36) rfl rfl Tryz.func40 (by kernel_rfl) rfl #[.string t127] rfl (by (try simp only [List.map_toArray, List.map_cons, List.map_nil]); first | done | rfl | (simp only [List.length_drop, List.length_take]; rfl)) ?_; (with_reducible refine (point_decimal.calls kj3 t127 t128 t129 _ A14.out (Glob.below HG_.out (by repeat (first | (with_reducible first | exact HB.out | apply below_alloc | apply pw_below_drewN | apply below_drew1) | exact HB.out)))).mono ?_); rintro e w17 ⟨rfl, hb⟩; refine ⟨_, rfl, ?_⟩; have n0_ := Aside0.mk (below_step (by repeat (first | (with_reducible first | exact HB.out | apply below_alloc | apply pw_below_drewN | apply below_drew1) | exact HB.out)) hb); clear HB; have HB := n0_; clear n0_; (try clear hb); (try clear hb2); (try clear hk); (try clear hi)))
            (try simp only [Act.put, List.setIfInBounds_toArray, List.set_cons_zero, List.set_cons_succ])
            go_cut [39] (fun v39 wc => ∃ (kq : Nat) (x39_14 : Bool), v39 = .bool x39_14 ∧ Aside0 (point_Parse.j1 kq t125 t126 t128 t129 x39_14 = some (r1, r2)) ∧ Aside0 (kq ≤ kj3) ∧ Aside0 (Below w.heap.size w wc))
            case first =>
              have H := HC15.out
              clear HC15
              by_cases c18 : t126 = 2
              · rw [if_pos c18] at H
                have c18b0 : (t126 == 2) = true := beq_iff_eq.mpr c18
                have c18b1 : (t126 != 2) = false := bne_eq_false_iff_eq.mpr c18
                clear c18
                (first | rw [c18b0] | (simp only [i64_w, i32_w]; rw [c18b0]) | skip)
                have H' := Aside0.mk H
                clear H
                go_wp2
                go_meet
                case rel => exact ⟨_, (true), (by first | rfl | (simp; done) | (simp [*]; done)), H', ⟨by have := HJ3.out; first | omega | exact Nat.le_refl _⟩, ⟨by repeat (first | (with_reducible first | exact HB.out | apply below_alloc | apply pw_below_drewN | apply below_drew1) | exact HB.out)⟩⟩
              · rw [if_neg c18] at H
                have c18b0 : (t126 == 2) = false := beq_eq_false_iff_ne.mpr c18
                have c18b1 : (t126 != 2) = true := bne_iff_ne.mpr c18
                (first | rw [c18b0] | (simp only [i64_w, i32_w]; rw [c18b0]) | skip)
                have H' := Aside0.mk H
                clear H
                go_wp2
                go_meet
                case rel => exact ⟨_, ((t129 == 2)), (by first | rfl | (simp; done) | (simp [*]; done)), H', ⟨by have := HJ3.out; first | omega | exact Nat.le_refl _⟩, ⟨by repeat (first | (with_reducible first | exact HB.out | apply below_alloc | apply pw_below_drewN | apply below_drew1) | exact HB.out)⟩⟩
            case rest =>
              clear HC15
              try clear c1
              try clear p2
              try clear c3
              try clear c4
              try clear c6
              try clear c7
              try clear c8
              try clear c8b0
              try clear c8b1
              try clear c9
              try clear c9b0
              try clear c9b1
              try clear c11
              try clear c11b0
              try clear c12
              try clear c12b0
              try clear c18
              try clear c18b0
              try clear c18b1
              try clear p2
              obtain ⟨kq, x39_14, rfl, HA, HJ14, HB⟩ := hcut
              cases kq with
              | zero => exact absurd HA.out (by simp [point_Parse.j1])
              | succ kj14 =>
                have H := HA.out
                clear HA
                simp only [point_Parse.j1] at H
                by_cases c19 : x39_14 = true
                · subst c19
                  have H1 : (some (((0, 0) : Nat × Nat), 2)) = some (r1, r2) := by rw [if_pos rfl] at H; exact H
                  clear H
                  have H := H1
                  clear H1
                  simp only [Option.some.injEq, Prod.mk.injEq] at H
                  obtain ⟨rfl, rfl⟩ := H
                  go_wp2
                  go_ret2
                  exact ⟨by first | rfl | (simp [errW_none, errW_some] <;> rfl) | (simp [*, errW_none, errW_some] <;> rfl), by repeat (first | (with_reducible first | exact HB.out | apply below_alloc | apply pw_below_drewN | apply below_drew1) | exact HB.out)⟩
                · replace c19 := Bool.eq_false_iff.mpr c19
                  subst c19
                  have H1 : (if t126 = 0 then (if t129 = 0 then (some (((t125, t128) : Nat × Nat), 0)) else (some (((0, 0) : Nat × Nat), 1))) else (some (((0, 0) : Nat × Nat), 1))) = some (r1, r2) := by rw [if_neg (show ¬ (false = true) by decide)] at H; exact H
                  clear H
                  have H := H1
                  clear H1
                  by_cases c20 : t126 = 0
                  · rw [if_pos c20] at H
                    have c20b0 : (t126 == 0) = true := beq_iff_eq.mpr c20
                    have c20b1 : (t126 != 0) = false := bne_eq_false_iff_eq.mpr c20
                    clear c20
                    by_cases c21 : t129 = 0
                    · rw [if_pos c21] at H
                      have c21b0 : (t129 == 0) = true := beq_iff_eq.mpr c21
                      have c21b1 : (t129 != 0) = false := bne_eq_false_iff_eq.mpr c21
                      clear c21
                      simp only [Option.some.injEq, Prod.mk.injEq] at H
                      obtain ⟨rfl, rfl⟩ := H
                      go_wp2
                      go_ret2
                      exact ⟨by first | rfl | (simp [errW_none, errW_some] <;> rfl) | (simp [*, errW_none, errW_some] <;> rfl), by repeat (first | (with_reducible first | exact HB.out | apply below_alloc | apply pw_below_drewN | apply below_drew1) | exact HB.out)⟩
                    · rw [if_neg c21] at H
                      have c21b0 : (t129 == 0) = false := beq_eq_false_iff_ne.mpr c21
                      have c21b1 : (t129 != 0) = true := bne_iff_ne.mpr c21
                      simp only [Option.some.injEq, Prod.mk.injEq] at H
                      obtain ⟨rfl, rfl⟩ := H
                      go_wp2
                      go_ret2
                      exact ⟨by first | rfl | (simp [errW_none, errW_some] <;> rfl) | (simp [*, errW_none, errW_some] <;> rfl), by repeat (first | (with_reducible first | exact HB.out | apply below_alloc | apply pw_below_drewN | apply below_drew1) | exact HB.out)⟩
                  · rw [if_neg c20] at H
                    have c20b0 : (t126 == 0) = false := beq_eq_false_iff_ne.mpr c20
                    have c20b1 : (t126 != 0) = true := bne_iff_ne.mpr c20
                    simp only [Option.some.injEq, Prod.mk.injEq] at H
                    obtain ⟨rfl, rfl⟩ := H
                    go_wp2
                    go_ret2
                    exact ⟨by first | rfl | (simp [errW_none, errW_some] <;> rfl) | (simp [*, errW_none, errW_some] <;> rfl), by repeat (first | (with_reducible first | exact HB.out | apply below_alloc | apply pw_below_drewN | apply below_drew1) | exact HB.out)⟩
          · rw [if_neg c9] at H
            exact absurd H (by simp)
        · rw [if_neg c8] at H
          exact absurd H (by simp)

end Go.Proofs.YtaflcaillcjmmaaGreatDoor.PAll
