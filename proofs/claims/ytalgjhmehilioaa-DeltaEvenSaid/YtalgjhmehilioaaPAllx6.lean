-- Printed by this session's own program (wip/tools/pp.py): out of the translation. Lean checks it.
import Derived.Test.YtalgjhmehilioaaPAllx0
import Derived.Test.YtalgjhmehilioaaPAllx5
namespace Go.Proofs.Ytalgjhmehilioaa.PAll
open Go.Proofs.Ytalgjhmehilioaa.Help
open Go.RowKit Go.Proofs.YtalgjhmehilioaaW.PrintWords Go.Proofs.YtalgjhmehilioaaW.PrintLast Go.Proofs.YtalgjhmehilioaaW.PrintMore
attribute [local go_sem] max2_int min2_int max_two min_two max_three min_three max_four min_four   -- for this text's walks alone
set_option linter.unusedVariables false
set_option linter.unusedSimpArgs false

/-! ### noriaref11_PutBits: function 20 -/
mutual
def noriaref11_PutBits.j0 : Nat → List Int → Int → Bool → Option (List Int × Int)
  | 0, _, _, _ => none
  | k + 1, x0, x1, x21 => if x21 = true then (some (([] : List Int), 1)) else (if (x0.length : Int) > 65536 then (some (([] : List Int), 4)) else ((noriaref11_Size.f (x0.length : Int) x1).bind fun t199 => (if 0 ≤ t199 then (if (t199 : Int).toNat ≤ 281474976710656 then (noriaref11_PutBits.l0 k x0 x1 (List.replicate (t199 : Int).toNat 0) 0 0) else (none)) else (none))))
def noriaref11_PutBits.l0 : Nat → List Int → Int → List Int → Int → Int → Option (List Int × Int)
  | 0, _, _, _, _, _ => none
  | k + 1, x0, x1, x6, x7, x8 => if x8 < (x0.length : Int) then (noriaref11_PutBits.l1 k x0 x1 x6 x7 x8 0) else (some (x6, 0))
def noriaref11_PutBits.l1 : Nat → List Int → Int → List Int → Int → Int → Int → Option (List Int × Int)
  | 0, _, _, _, _, _, _ => none
  | k + 1, x0, x1, x6, x7, x8, x9 => if x9 < x1 then (if 0 ≤ x8 then (if x8 < (x0.length : Int) then (if 0 ≤ (IntKind.u64.wrap (x9)) then (if (Go.bits .and .u64 (shr .u64 (rd x0 x8) (IntKind.u64.wrap (x9))) 1) = 1 then (if 0 ≤ (wrap64 (Int.tdiv x7 8)) then (if (wrap64 (Int.tdiv x7 8)) < (x6.length : Int) then (if 0 ≤ (IntKind.u64.wrap (Int.tmod x7 8)) then (noriaref11_PutBits.l1 k x0 x1 (x6.set ((wrap64 (Int.tdiv x7 8)) : Int).toNat (Go.bits .or .u8 (rd x6 (wrap64 (Int.tdiv x7 8))) (shl .u8 1 (IntKind.u64.wrap (Int.tmod x7 8))))) (wrap64 (x7 + 1)) x8 (wrap64 (x9 + 1))) else (none)) else (none)) else (none)) else (noriaref11_PutBits.l1 k x0 x1 x6 (wrap64 (x7 + 1)) x8 (wrap64 (x9 + 1)))) else (none)) else (none)) else (none)) else (noriaref11_PutBits.l0 k x0 x1 x6 x7 (wrap64 (x8 + 1)))
end
def noriaref11_PutBits.f (k : Nat) (l0 : List Int) (a1 : Int) : Option (List Int × Int) := if a1 < 0 then (noriaref11_PutBits.j0 k l0 a1 true) else (if a1 > 64 then (noriaref11_PutBits.j0 k l0 a1 true) else ((noriaref11_Width.f k l0).bind fun t198 => (noriaref11_PutBits.j0 k l0 a1 (decide (t198 > a1)))))
theorem noriaref11_PutBits.mono_l : ∀ k, (∀ y0 y1 y2, LeO (noriaref11_PutBits.j0 k y0 y1 y2) (noriaref11_PutBits.j0 (k + 1) y0 y1 y2)) ∧ (∀ y0 y1 y2 y3 y4, LeO (noriaref11_PutBits.l0 k y0 y1 y2 y3 y4) (noriaref11_PutBits.l0 (k + 1) y0 y1 y2 y3 y4)) ∧ (∀ y0 y1 y2 y3 y4 y5, LeO (noriaref11_PutBits.l1 k y0 y1 y2 y3 y4 y5) (noriaref11_PutBits.l1 (k + 1) y0 y1 y2 y3 y4 y5))
  | 0 => ⟨fun _ _ _ r h => by simp [noriaref11_PutBits.j0] at h, fun _ _ _ _ _ r h => by simp [noriaref11_PutBits.l0] at h, fun _ _ _ _ _ _ r h => by simp [noriaref11_PutBits.l1] at h⟩
  | k + 1 => by
    obtain ⟨ih0, ih1, ih2⟩ := noriaref11_PutBits.mono_l k
    refine ⟨?_, ?_, ?_⟩
    · intro y0 y1 y2
      unfold noriaref11_PutBits.j0
      repeat' first
      | (with_reducible exact ih0 _ _ _)
      | (with_reducible exact ih1 _ _ _ _ _)
      | (with_reducible exact ih2 _ _ _ _ _ _)
      | (with_reducible exact noriaref11_Width.mono _ _)
      | (with_reducible exact LeO.refl _)
      | (with_reducible exact LeO.none _)
      | (with_reducible refine LeO.ite ?_ ?_)
      | (with_reducible refine LeO.bind ?_ (fun _ => ?_))
      | exact ih0 _ _ _
      | exact ih1 _ _ _ _ _
      | exact ih2 _ _ _ _ _ _
      | exact noriaref11_Width.mono _ _
      | exact LeO.none _
      | refine LeO.ite ?_ ?_
      | refine LeO.bind ?_ (fun _ => ?_)
    · intro y0 y1 y2 y3 y4
      unfold noriaref11_PutBits.l0
      repeat' first
      | (with_reducible exact ih0 _ _ _)
      | (with_reducible exact ih1 _ _ _ _ _)
      | (with_reducible exact ih2 _ _ _ _ _ _)
      | (with_reducible exact noriaref11_Width.mono _ _)
      | (with_reducible exact LeO.refl _)
      | (with_reducible exact LeO.none _)
      | (with_reducible refine LeO.ite ?_ ?_)
      | (with_reducible refine LeO.bind ?_ (fun _ => ?_))
      | exact ih0 _ _ _
      | exact ih1 _ _ _ _ _
      | exact ih2 _ _ _ _ _ _
      | exact noriaref11_Width.mono _ _
      | exact LeO.none _
      | refine LeO.ite ?_ ?_
      | refine LeO.bind ?_ (fun _ => ?_)
    · intro y0 y1 y2 y3 y4 y5
      unfold noriaref11_PutBits.l1
      repeat' first
      | (with_reducible exact ih0 _ _ _)
      | (with_reducible exact ih1 _ _ _ _ _)
      | (with_reducible exact ih2 _ _ _ _ _ _)
      | (with_reducible exact noriaref11_Width.mono _ _)
      | (with_reducible exact LeO.refl _)
      | (with_reducible exact LeO.none _)
      | (with_reducible refine LeO.ite ?_ ?_)
      | (with_reducible refine LeO.bind ?_ (fun _ => ?_))
      | exact ih0 _ _ _
      | exact ih1 _ _ _ _ _
      | exact ih2 _ _ _ _ _ _
      | exact noriaref11_Width.mono _ _
      | exact LeO.none _
      | refine LeO.ite ?_ ?_
      | refine LeO.bind ?_ (fun _ => ?_)
theorem noriaref11_PutBits.mono : ∀ a0 a1 k, LeO (noriaref11_PutBits.f k a0 a1) (noriaref11_PutBits.f (k + 1) a0 a1) := by
  intro a0 a1 k
  obtain ⟨ih0, ih1, ih2⟩ := noriaref11_PutBits.mono_l k
  unfold noriaref11_PutBits.f
  repeat' first
      | (with_reducible exact ih0 _ _ _)
      | (with_reducible exact ih1 _ _ _ _ _)
      | (with_reducible exact ih2 _ _ _ _ _ _)
      | (with_reducible exact noriaref11_Width.mono _ _)
      | (with_reducible exact LeO.refl _)
      | (with_reducible exact LeO.none _)
      | (with_reducible refine LeO.ite ?_ ?_)
      | (with_reducible refine LeO.bind ?_ (fun _ => ?_))
      | exact ih0 _ _ _
      | exact ih1 _ _ _ _ _
      | exact ih2 _ _ _ _ _ _
      | exact noriaref11_Width.mono _ _
      | exact LeO.none _
      | refine LeO.ite ?_ ?_
      | refine LeO.bind ?_ (fun _ => ?_)
set_option maxHeartbeats 8000000 in
set_option maxRecDepth 100000 in
theorem noriaref11_PutBits.calls (k : Nat) (A0 : Option Addr) (c0 : Nat) (l0 : List Int) (a1 : Int) (r1 : List Int) (r2 : Int) (w : World) (hr0 : Kd.C (Kd.int .u64) w A0 l0.length l0) (hc0 : l0.length ≤ c0) (h : noriaref11_PutBits.f k l0 a1 = some (r1, r2)) :
    Calls Try.prog 20 #[.slice A0 l0.length c0, .int .i64 a1] w fun e w' => ∃ v0_ : Value, e = .returned (.tuple #[v0_, .int .i64 r2]) ∧ Kd.R (Kd.int .u8) 5 w' w.heap.size (fun _ => True) v0_ r1 ∧ Below w.heap.size w w' := by
  have HR0 := Aside0.mk hr0
  have HC0 := Aside0.mk hc0
  clear hr0 hc0
  have HB := Aside0.mk (Below.refl w.heap.size w)
  have H : (if a1 < 0 then (noriaref11_PutBits.j0 k l0 a1 true) else (if a1 > 64 then (noriaref11_PutBits.j0 k l0 a1 true) else ((noriaref11_Width.f k l0).bind fun t198 => (noriaref11_PutBits.j0 k l0 a1 (decide (t198 > a1)))))) = some (r1, r2) := h
  clear h
  have HC3 := Aside0.mk H
  clear H
  go_enter Try.func20, Try.ntmps20
  go_upto_region 1 with (fail)
  go_cut [21] (fun v21 wc => ∃ (kq : Nat) (x21_2 : Bool), v21 = .bool x21_2 ∧ Aside0 (noriaref11_PutBits.j0 kq l0 a1 x21_2 = some (r1, r2)) ∧ Aside0 (kq ≤ k) ∧ Aside0 (Below w.heap.size w wc))
  case first =>
    have H := HC3.out
    clear HC3
    by_cases c4 : a1 < 0
    · rw [if_pos c4] at H
      have c4b0 : decide (a1 < 0) = true := decide_eq_true c4
      clear c4
      (first | rw [c4b0] | (simp only [i64_w, i32_w]; rw [c4b0]) | skip)
      have H' := Aside0.mk H
      clear H
      go_wp2
      go_meet
      case rel => exact ⟨_, (true), (by first | rfl | (simp; done) | (simp [*]; done)), H', ⟨by first | omega | exact Nat.le_refl _⟩, ⟨by repeat (first | (with_reducible first | exact HB.out | apply below_alloc | apply pw_below_drewN | apply below_drew1) | exact HB.out)⟩⟩
    · rw [if_neg c4] at H
      have c4b0 : decide (a1 < 0) = false := decide_eq_false c4
      clear c4
      (first | rw [c4b0] | (simp only [i64_w, i32_w]; rw [c4b0]) | skip)
      by_cases c5 : a1 > 64
      · rw [if_pos c5] at H
        have c5b0 : decide (64 < a1) = true := decide_eq_true c5
        clear c5
        have H' := Aside0.mk H
        clear H
        go_wp2
        go_meet
        case rel => exact ⟨_, (true), (by first | rfl | (simp; done) | (simp [*]; done)), H', ⟨by first | omega | exact Nat.le_refl _⟩, ⟨by repeat (first | (with_reducible first | exact HB.out | apply below_alloc | apply pw_below_drewN | apply below_drew1) | exact HB.out)⟩⟩
      · rw [if_neg c5] at H
        have c5b0 : decide (64 < a1) = false := decide_eq_false c5
        clear c5
        replace H := Option.bind_eq_some_iff.mp H
        obtain ⟨t198, A60, H⟩ := H
        replace H : (noriaref11_PutBits.j0 k l0 a1 (decide (t198 > a1))) = some (r1, r2) := H
        have A6 := Aside0.mk A60
        clear A60
        have H' := Aside0.mk H
        clear H
        go_wp2_with (first | (go_at_call 21; (with_reducible refine (noriaref11_Width.calls k _ _ l0 t198 _ ?side1 ?side2 A6.out).mono ?_); (case side1 => repeat (first | exact (Kd.C_below HR0.out HB.out) | (with_reducible refine Kd.C_alloc ?_ _) | (with_reducible refine Kd.C_drewN ?_ _) | (with_reducible refine Kd.C_drew ?_))); (case side2 => exact HC0.out); rintro e w' ⟨rfl, ⟨nd, rfl⟩⟩))
        go_meet
        case rel => exact ⟨_, (decide (t198 > a1)), (by first | rfl | (simp; done) | (simp [*]; done)), H', ⟨by first | omega | exact Nat.le_refl _⟩, ⟨by repeat (first | (with_reducible first | exact HB.out | apply below_alloc | apply pw_below_drewN | apply below_drew1) | exact HB.out)⟩⟩
  case rest =>
    clear HC3
    try clear c2
    try clear p2
    try clear c4
    try clear c4b0
    try clear c5
    try clear c5b0
    obtain ⟨kq, x21_2, rfl, HA, HJ2, HB⟩ := hcut
    cases kq with
    | zero => exact absurd HA.out (by simp [noriaref11_PutBits.j0])
    | succ kj2 =>
      have H := HA.out
      clear HA
      simp only [noriaref11_PutBits.j0] at H
      by_cases c7 : x21_2 = true
      · subst c7
        have H1 : (some (([] : List Int), 1)) = some (r1, r2) := by rw [if_pos rfl] at H; exact H
        clear H
        have H := H1
        clear H1
        simp only [Option.some.injEq, Prod.mk.injEq] at H
        obtain ⟨rfl, rfl⟩ := H
        go_wp2
        go_ret2
        exact ⟨_, by first | rfl | (simp [errW_none, errW_some] <;> rfl) | (simp [*, errW_none, errW_some] <;> rfl), by first | exact Kd.R_nil _ _ _ _ _ | exact Kd.N_nil _ _ _ _ _ | exact Kd.V_nil _ _ _ _ _ | exact Kd.Q_nil _ _ _ _ _ | exact Kd.S_nil _ _ _ _ _, by repeat (first | (with_reducible first | exact HB.out | apply below_alloc | apply pw_below_drewN | apply below_drew1) | exact HB.out)⟩
      · replace c7 := Bool.eq_false_iff.mpr c7
        subst c7
        have H1 : (if (l0.length : Int) > 65536 then (some (([] : List Int), 4)) else ((noriaref11_Size.f (l0.length : Int) a1).bind fun t199 => (if 0 ≤ t199 then (if (t199 : Int).toNat ≤ 281474976710656 then (noriaref11_PutBits.l0 kj2 l0 a1 (List.replicate (t199 : Int).toNat 0) 0 0) else (none)) else (none)))) = some (r1, r2) := by rw [if_neg (show ¬ (false = true) by decide)] at H; exact H
        clear H
        have H := H1
        clear H1
        by_cases c8 : (l0.length : Int) > 65536
        · rw [if_pos c8] at H
          have c8b0 : decide (65536 < (l0.length : Int)) = true := decide_eq_true c8
          have c8b1 : decide (65536 < l0.length) = true := decide_eq_true (by omega)
          clear c8
          simp only [Option.some.injEq, Prod.mk.injEq] at H
          obtain ⟨rfl, rfl⟩ := H
          go_wp2
          go_ret2
          exact ⟨_, by first | rfl | (simp [errW_none, errW_some] <;> rfl) | (simp [*, errW_none, errW_some] <;> rfl), by first | exact Kd.R_nil _ _ _ _ _ | exact Kd.N_nil _ _ _ _ _ | exact Kd.V_nil _ _ _ _ _ | exact Kd.Q_nil _ _ _ _ _ | exact Kd.S_nil _ _ _ _ _, by repeat (first | (with_reducible first | exact HB.out | apply below_alloc | apply pw_below_drewN | apply below_drew1) | exact HB.out)⟩
        · rw [if_neg c8] at H
          have c8b0 : decide (65536 < (l0.length : Int)) = false := decide_eq_false c8
          have c8b1 : decide (65536 < l0.length) = false := decide_eq_false (by omega)
          clear c8
          replace H := Option.bind_eq_some_iff.mp H
          obtain ⟨t199, A90, H⟩ := H
          replace H : (if 0 ≤ t199 then (if (t199 : Int).toNat ≤ 281474976710656 then (noriaref11_PutBits.l0 kj2 l0 a1 (List.replicate (t199 : Int).toNat 0) 0 0) else (none)) else (none)) = some (r1, r2) := H
          have A9 := Aside0.mk A90
          clear A90
          by_cases c10 : 0 ≤ t199
          · rw [if_pos c10] at H
            have c10b0 := eq_true c10
            have c10b1 : decide (0 ≤ t199) = true := decide_eq_true c10
            clear c10
            by_cases c11 : (t199 : Int).toNat ≤ 281474976710656
            · rw [if_pos c11] at H
              have c11b0 := eq_true c11
              have c11b1 : decide ((t199 : Int).toNat ≤ 281474976710656) = true := decide_eq_true c11
              clear c11
              obtain ⟨y200, hy200⟩ : ∃ y_ : List Int, y_ = (List.replicate (t199 : Int).toNat 0) := ⟨_, rfl⟩
              replace H : (noriaref11_PutBits.l0 kj2 l0 a1 y200 0 0) = some (r1, r2) := by first | (rw [hy200]; with_reducible exact H) | (have H2_ := (Option.bind_some _ _).symm.trans H; rw [hy200]; with_reducible exact H2_) | (have H2_ := (Option.bind_some _ _).symm.trans H; with_reducible exact H2_) | with_reducible exact H | (rw [hy200]; exact H) | exact H
              have Ny200 := Aside0.mk hy200
              clear hy200
              have H' := Aside0.mk H
              clear H
              go_wp2_with (first | (go_at_call 29; (with_reducible refine (noriaref11_Size.calls (l0.length : Int) a1 t199 _ A9.out).mono ?_); rintro e w' ⟨rfl, ⟨nd, rfl⟩⟩) | ((with_reducible refine gate_dst (N := 29) rfl ?_); refine Kd.R_make (Kd.int .u8) _ 5 rfl (N := 29) rfl 24 _ _ rfl t199 rfl rfl Try.underlying24 (.int .u8 0) 1 info5 rfl (by decide) (by omega) 0 (ok := fun _ => True) (okp := fun _ => True) rfl (fun _ hk => hk) trivial (of_decide_eq_true (by first | (with_reducible assumption) | assumption)) (Nat.le_trans (Nat.mul_le_mul_right _ (of_decide_eq_true (by first | (with_reducible assumption) | assumption) : t199.toNat ≤ 281474976710656)) (by omega)) (Below.refl _ _) (Nat.le_refl _) ?_; intro v201 w12 ho13 hb hg_ hnew_; clear hg_ hnew_; (first | rw [← Ny200.out] at ho13 | (simp only [Int.reduceToNat] at ho13; rw [← Ny200.out] at ho13)); have n0_ := Aside0.mk (Kd.R_lower ho13 (below_size (by repeat (first | (with_reducible first | exact HB.out | apply below_alloc | apply pw_below_drewN | apply below_drew1) | exact HB.out)))); have n1_ := Aside0.mk (below_step (by repeat (first | (with_reducible first | exact HB.out | apply below_alloc | apply pw_below_drewN | apply below_drew1) | exact HB.out)) hb); clear HB; have HO202 := n0_; have HB := n1_; clear n0_ n1_; clear hb ho13))
              go_loopg [7, 8] kj2 (fun kq v7 v8 w' => ∃ (x6_2 : List Int) (x7_2 : Int) (x8_2 : Int), v7 = .int .i64 x7_2 ∧ v8 = .int .i64 x8_2 ∧ Aside0 (noriaref11_PutBits.l0 kq l0 a1 x6_2 x7_2 x8_2 = some (r1, r2)) ∧ Aside0 (kq ≤ kj2) ∧ Aside0 (Kd.R (Kd.int .u8) 5 w' w.heap.size (fun _ => True) v201 x6_2) ∧ Aside0 (Below w.heap.size w w'))
              case atStart => exact ⟨(y200), (0), (0), (by first | rfl | (simp; done) | (simp [*]; done)), (by first | rfl | (simp; done) | (simp [*]; done)), H', ⟨Nat.le_refl _⟩, ⟨by (with_reducible repeat (first | apply Kd.R_alloc | apply Kd.R_drewN | apply Kd.R_drew)); exact HO202.out⟩, ⟨by repeat (first | (with_reducible first | exact HB.out | apply below_alloc | apply pw_below_drewN | apply below_drew1) | exact HB.out)⟩⟩
              case round =>
                clear H'
                try clear c1
                try clear c2
                try clear p2
                try clear c4
                try clear c4b0
                try clear c5
                try clear c5b0
                try clear c7
                try clear c8
                try clear c8b0
                try clear c8b1
                try clear c10
                try clear c10b0
                try clear c10b1
                try clear c11
                try clear c11b0
                try clear c11b1
                try clear p2
                obtain ⟨x6_2, x7_2, x8_2, rfl, rfl, HA, HK2, HO_6, HB⟩ := hrel
                cases gk with
                | zero => exact absurd HA.out (by simp [noriaref11_PutBits.l0])
                | succ k2 =>
                  have H := HA.out
                  clear HA
                  simp only [noriaref11_PutBits.l0] at H
                  by_cases c14 : x8_2 < (l0.length : Int)
                  · rw [if_pos c14] at H
                    have c14b0 : decide (x8_2 < (l0.length : Int)) = true := decide_eq_true c14
                    clear c14
                    have H' := Aside0.mk H
                    clear H
                    go_wp2
                    go_loopg [7, 9] k2 (fun kq v7 v9 w' => ∃ (x6_3 : List Int) (x7_3 : Int) (x9_3 : Int), v7 = .int .i64 x7_3 ∧ v9 = .int .i64 x9_3 ∧ Aside0 (noriaref11_PutBits.l1 kq l0 a1 x6_3 x7_3 x8_2 x9_3 = some (r1, r2)) ∧ Aside0 (kq ≤ k2) ∧ Aside0 (Kd.R (Kd.int .u8) 5 w' w.heap.size (fun _ => True) v201 x6_3) ∧ Aside0 (Below w.heap.size w w'))
                    case atStart => exact ⟨(x6_2), (x7_2), (0), (by first | rfl | (simp; done) | (simp [*]; done)), (by first | rfl | (simp; done) | (simp [*]; done)), H', ⟨Nat.le_refl _⟩, ⟨by (with_reducible repeat (first | apply Kd.R_alloc | apply Kd.R_drewN | apply Kd.R_drew)); exact HO_6.out⟩, ⟨by repeat (first | (with_reducible first | exact HB.out | apply below_alloc | apply pw_below_drewN | apply below_drew1) | exact HB.out)⟩⟩
                    case round =>
                      clear H'
                      try clear c1
                      try clear c2
                      try clear p2
                      try clear c4
                      try clear c4b0
                      try clear c5
                      try clear c5b0
                      try clear c7
                      try clear c8
                      try clear c8b0
                      try clear c8b1
                      try clear c10
                      try clear c10b0
                      try clear c10b1
                      try clear c11
                      try clear c11b0
                      try clear c11b1
                      try clear c14
                      try clear c14b0
                      try clear p2
                      obtain ⟨x6_3, x7_3, x9_3, rfl, rfl, HA, HK3, HO_6, HB⟩ := hrel
                      cases gk with
                      | zero => exact absurd HA.out (by simp [noriaref11_PutBits.l1])
                      | succ k3 =>
                        have H := HA.out
                        clear HA
                        simp only [noriaref11_PutBits.l1] at H
                        by_cases c15 : x9_3 < a1
                        · rw [if_pos c15] at H
                          have c15b0 : decide (x9_3 < a1) = true := decide_eq_true c15
                          clear c15
                          by_cases c16 : 0 ≤ x8_2
                          · rw [if_pos c16] at H
                            have c16b0 : decide (0 ≤ x8_2) = true := decide_eq_true c16
                            clear c16
                            by_cases c17 : x8_2 < (l0.length : Int)
                            · rw [if_pos c17] at H
                              have c17b0 : decide (x8_2 < (l0.length : Int)) = true := decide_eq_true c17
                              clear c17
                              obtain ⟨ji18, hji18⟩ : ∃ j_ : Int, (IntKind.u64.wrap (x9_3)) = j_ := ⟨_, rfl⟩
                              replace H : (if 0 ≤ (ji18) then (if (Go.bits .and .u64 (shr .u64 (rd l0 x8_2) (ji18)) 1) = 1 then (if 0 ≤ (wrap64 (Int.tdiv x7_3 8)) then (if (wrap64 (Int.tdiv x7_3 8)) < (x6_3.length : Int) then (if 0 ≤ (IntKind.u64.wrap (Int.tmod x7_3 8)) then (noriaref11_PutBits.l1 k3 l0 a1 (x6_3.set ((wrap64 (Int.tdiv x7_3 8)) : Int).toNat (Go.bits .or .u8 (rd x6_3 (wrap64 (Int.tdiv x7_3 8))) (shl .u8 1 (IntKind.u64.wrap (Int.tmod x7_3 8))))) (wrap64 (x7_3 + 1)) x8_2 (wrap64 (x9_3 + 1))) else (none)) else (none)) else (none)) else (noriaref11_PutBits.l1 k3 l0 a1 x6_3 (wrap64 (x7_3 + 1)) x8_2 (wrap64 (x9_3 + 1)))) else (none)) = some (r1, r2) := by first | (rw [hji18] at H; exact H) | (simp only [hji18] at H ⊢; exact H)
                              by_cases c19 : 0 ≤ (ji18)
                              · rw [if_pos c19] at H
                                have c19b0 := eq_true c19
                                have c19b1 : decide (0 ≤ (ji18)) = true := decide_eq_true c19
                                clear c19
                                obtain ⟨ji20, hji20⟩ : ∃ j_ : Int, (shr .u64 (rd l0 x8_2) (ji18)) = j_ := ⟨_, rfl⟩
                                replace H : (if (Go.bits .and .u64 (ji20) 1) = 1 then (if 0 ≤ (wrap64 (Int.tdiv x7_3 8)) then (if (wrap64 (Int.tdiv x7_3 8)) < (x6_3.length : Int) then (if 0 ≤ (IntKind.u64.wrap (Int.tmod x7_3 8)) then (noriaref11_PutBits.l1 k3 l0 a1 (x6_3.set ((wrap64 (Int.tdiv x7_3 8)) : Int).toNat (Go.bits .or .u8 (rd x6_3 (wrap64 (Int.tdiv x7_3 8))) (shl .u8 1 (IntKind.u64.wrap (Int.tmod x7_3 8))))) (wrap64 (x7_3 + 1)) x8_2 (wrap64 (x9_3 + 1))) else (none)) else (none)) else (none)) else (noriaref11_PutBits.l1 k3 l0 a1 x6_3 (wrap64 (x7_3 + 1)) x8_2 (wrap64 (x9_3 + 1)))) = some (r1, r2) := by first | (rw [hji20] at H; exact H) | (simp only [hji20] at H ⊢; exact H)
                                have hji20_ : ((rd l0 x8_2) / 2 ^ min (ji18).toNat 64) = ji20 := hji20
                                have hji20z : (ji18) ≤ 64 → ((rd l0 x8_2) / 2 ^ (ji18).toNat) = ji20 := shr_small hji20
                                by_cases c21 : (Go.bits .and .u64 (ji20) 1) = 1
                                · rw [if_pos c21] at H
                                  have c21b0 : ((Go.bits .and .u64 (ji20) 1) == 1) = true := beq_iff_eq.mpr c21
                                  have c21b1 : ((Go.bits .and .u64 (ji20) 1) != 1) = false := bne_eq_false_iff_eq.mpr c21
                                  clear c21
                                  obtain ⟨ji22, hji22⟩ : ∃ j_ : Int, (wrap64 (Int.tdiv x7_3 8)) = j_ := ⟨_, rfl⟩
                                  replace H : (if 0 ≤ (ji22) then (if (ji22) < (x6_3.length : Int) then (if 0 ≤ (IntKind.u64.wrap (Int.tmod x7_3 8)) then (noriaref11_PutBits.l1 k3 l0 a1 (x6_3.set ((ji22) : Int).toNat (Go.bits .or .u8 (rd x6_3 (ji22)) (shl .u8 1 (IntKind.u64.wrap (Int.tmod x7_3 8))))) (wrap64 (x7_3 + 1)) x8_2 (wrap64 (x9_3 + 1))) else (none)) else (none)) else (none)) = some (r1, r2) := by first | (rw [hji22] at H; exact H) | (simp only [hji22] at H ⊢; exact H)
                                  have hji22w : (IntKind.i64.wrap (Int.tdiv x7_3 8)) = ji22 := (i64_w _).trans hji22
                                  by_cases c23 : 0 ≤ (ji22)
                                  · rw [if_pos c23] at H
                                    have c23b0 : decide (0 ≤ (ji22)) = true := decide_eq_true c23
                                    clear c23
                                    by_cases c24 : (ji22) < (x6_3.length : Int)
                                    · rw [if_pos c24] at H
                                      have c24b0 : decide ((ji22) < (x6_3.length : Int)) = true := decide_eq_true c24
                                      clear c24
                                      obtain ⟨ji25, hji25⟩ : ∃ j_ : Int, (IntKind.u64.wrap (Int.tmod x7_3 8)) = j_ := ⟨_, rfl⟩
                                      replace H : (if 0 ≤ (ji25) then (noriaref11_PutBits.l1 k3 l0 a1 (x6_3.set ((ji22) : Int).toNat (Go.bits .or .u8 (rd x6_3 (ji22)) (shl .u8 1 (ji25)))) (wrap64 (x7_3 + 1)) x8_2 (wrap64 (x9_3 + 1))) else (none)) = some (r1, r2) := by first | (rw [hji25] at H; exact H) | (simp only [hji25] at H ⊢; exact H)
                                      by_cases c26 : 0 ≤ (ji25)
                                      · rw [if_pos c26] at H
                                        have c26b0 := eq_true c26
                                        have c26b1 : decide (0 ≤ (ji25)) = true := decide_eq_true c26
                                        clear c26
                                        obtain ⟨ji27, hji27⟩ : ∃ j_ : Int, (shl .u8 1 (ji25)) = j_ := ⟨_, rfl⟩
                                        replace H : (noriaref11_PutBits.l1 k3 l0 a1 (x6_3.set ((ji22) : Int).toNat (Go.bits .or .u8 (rd x6_3 (ji22)) (ji27))) (wrap64 (x7_3 + 1)) x8_2 (wrap64 (x9_3 + 1))) = some (r1, r2) := by first | (rw [hji27] at H; exact H) | (simp only [hji27] at H ⊢; exact H)
                                        have hji27_ : (IntKind.u8.wrap (1 * 2 ^ min (ji25).toNat 8)) = ji27 := hji27
                                        have hji27z : (ji25) ≤ 8 → (IntKind.u8.wrap (1 * 2 ^ (ji25).toNat)) = ji27 := shl_small hji27
                                        have hji27u : (IntKind.u8.wrap (2 ^ min (ji25).toNat 8)) = ji27 := by have h_ := hji27_; rw [Int.one_mul] at h_; exact h_
                                        have hji27v : (ji25) ≤ 8 → (IntKind.u8.wrap (2 ^ (ji25).toNat)) = ji27 := fun hle_ => by have h_ := hji27z hle_; rw [Int.one_mul] at h_; exact h_
                                        have hji27y : ((1 * 2 ^ min (ji25).toNat 8) % 256) = ji27 := (IntKind.wrap_u8' _).symm.trans hji27_
                                        have hji27x : (ji25) ≤ 8 → ((1 * 2 ^ (ji25).toNat) % 256) = ji27 := fun h_ => (IntKind.wrap_u8' _).symm.trans (hji27z h_)
                                        obtain ⟨y205, hy205⟩ : ∃ y_ : List Int, y_ = (x6_3.set ((ji22) : Int).toNat (Go.bits .or .u8 (rd x6_3 (ji22)) (ji27))) := ⟨_, rfl⟩
                                        replace H : (noriaref11_PutBits.l1 k3 l0 a1 y205 (wrap64 (x7_3 + 1)) x8_2 (wrap64 (x9_3 + 1))) = some (r1, r2) := by first | (rw [hy205]; with_reducible exact H) | (have H2_ := (Option.bind_some _ _).symm.trans H; rw [hy205]; with_reducible exact H2_) | (have H2_ := (Option.bind_some _ _).symm.trans H; with_reducible exact H2_) | with_reducible exact H | (rw [hy205]; exact H) | exact H
                                        have Ny205 := Aside0.mk hy205
                                        clear hy205
                                        have H' := Aside0.mk H
                                        clear H
                                        have p203 : 0 ≤ (x8_2 : Int) := of_decide_eq_true (by first | (with_reducible assumption) | assumption)
                                        have q203 : x8_2 < (l0.length : Int) := of_decide_eq_true (by first | (with_reducible assumption) | assumption)
                                        obtain ⟨ad203, e203, hx203_0⟩ := Kd.at_int HR0.out x8_2 p203 q203
                                        cases e203
                                        replace hx203_0 := (HB.out.cell (World.block_lt_of_cell? w _ hx203_0)).trans hx203_0
                                        replace p203 := eq_true p203
                                        replace q203 := eq_true q203
                                        obtain ⟨Ao29, co29, eo29⟩ := Kd.R_slice HO_6.out
                                        subst eo29
                                        have p204 : 0 ≤ ((ji22) : Int) := of_decide_eq_true (by first | (with_reducible assumption) | assumption)
                                        have q204 : (ji22) < (x6_3.length : Int) := of_decide_eq_true (by first | (with_reducible assumption) | assumption)
                                        obtain ⟨ad204, e204, hx204_0⟩ := Kd.at_int (Kd.R_reads' HO_6.out).2.2 (ji22) p204 q204
                                        cases e204
                                        replace p204 := eq_true p204
                                        replace q204 := eq_true q204
                                        have p28 : 0 ≤ ((ji22) : Int) := of_decide_eq_true (by first | (with_reducible assumption) | assumption)
                                        have q28 : ((ji22) : Int) < ((x6_3.length : Int) : Int) := of_decide_eq_true (by first | (with_reducible assumption) | assumption)
                                        obtain ⟨go28, co28, eo28, gb28, gl28, cl28, HG28⟩ := Kd.R_form HO_6.out (by omega)
                                        (first | cases eo28 | (injection eo28 with ea_ en_ ec_; (first | subst ea_ | (injection ea_ with ea_; subst ea_)); subst ec_; clear en_))
                                        have GB28 := Aside0.mk gb28
                                        have GG28 := Aside0.mk HG28
                                        clear gb28 gl28 HG28
                                        (first | simp only [add_plain] at hx204_0 | skip)
                                        obtain ⟨hx28_0, hf28_0⟩ := Kd.R_celln 0 HO_6.out ((ji22) : Int) p28 q28
                                        replace p28 := eq_true p28
                                        replace q28 := eq_true q28
                                        have HP30 := Kd.R_putg HO_6.out ((ji22) : Int) (Go.bits .or .u8 (rd x6_3 (ji22)) (ji27))
                                        go_wp2_with (first | ((with_reducible refine gate_store (t := 5) (p := 63) rfl ?_); refine store_event (t := 5) (p := 63) (v := ?vo_w31) (w1 := (wr.setCell ⟨go28, ((ji22) : Int).toNat, none⟩ (.int .u8 (Go.bits .or .u8 (rd x6_3 (ji22)) (ji27))))) ?hg ?ho ?hn ?hr ?_; (case ho => rfl); (case hg => rfl); (case hn => rfl); (case hr => first | (go_simp; done) | (go_simp; rfl)); intro w31 hw; have hg : wr.grownBy w31 (some go28) := (by rw [hw]; exact HP30.2); have hp_ : Kd.R (Kd.int .u8) 5 w31 w.heap.size (fun _ => True) (.slice (some ⟨go28, 0, none⟩) x6_3.length co29) y205 := (by rw [hw, Ny205.out]; exact HP30.1); clear HP30; have n0_ := Aside0.mk (hp_); have n1_ := Aside0.mk ((by rw [hw]; exact below_set (HB.out) GB28.out : Below w.heap.size w w31)); clear HO_6; clear HB; have HO_6 := n0_; have HB := n1_; clear n0_ n1_; clear hg hw hp_))
                                        first | go_roundg k3 | (simp only [← hji18, ← hji20, ← hji22, ← hji25, ← hji27] at H' ⊢; go_roundg k3)
                                        case measure => have := HJ2.out; have := HK2.out; have := HK3.out; omega
                                        case rel => exact ⟨(y205), (wrap64 (x7_3 + 1)), (wrap64 (x9_3 + 1)), (by first | rfl | (simp; done) | (simp [*]; done)), (by first | rfl | (simp; done) | (simp [*]; done)), H', ⟨by have := HJ2.out; have := HK2.out; have := HK3.out; omega⟩, ⟨by (with_reducible repeat (first | apply Kd.R_alloc | apply Kd.R_drewN | apply Kd.R_drew)); exact HO_6.out⟩, ⟨by repeat (first | (with_reducible first | exact HB.out | apply below_alloc | apply pw_below_drewN | apply below_drew1) | exact HB.out)⟩⟩
                                      · rw [if_neg c26] at H
                                        exact absurd H (by simp)
                                    · rw [if_neg c24] at H
                                      exact absurd H (by simp)
                                  · rw [if_neg c23] at H
                                    exact absurd H (by simp)
                                · rw [if_neg c21] at H
                                  have c21b0 : ((Go.bits .and .u64 (ji20) 1) == 1) = false := beq_eq_false_iff_ne.mpr c21
                                  have c21b1 : ((Go.bits .and .u64 (ji20) 1) != 1) = true := bne_iff_ne.mpr c21
                                  have H' := Aside0.mk H
                                  clear H
                                  have p203 : 0 ≤ (x8_2 : Int) := of_decide_eq_true (by first | (with_reducible assumption) | assumption)
                                  have q203 : x8_2 < (l0.length : Int) := of_decide_eq_true (by first | (with_reducible assumption) | assumption)
                                  obtain ⟨ad203, e203, hx203_0⟩ := Kd.at_int HR0.out x8_2 p203 q203
                                  cases e203
                                  replace hx203_0 := (HB.out.cell (World.block_lt_of_cell? w _ hx203_0)).trans hx203_0
                                  replace p203 := eq_true p203
                                  replace q203 := eq_true q203
                                  go_wp2
                                  first | go_roundg k3 | (simp only [← hji18, ← hji20] at H' ⊢; go_roundg k3)
                                  case measure => have := HJ2.out; have := HK2.out; have := HK3.out; omega
                                  case rel => exact ⟨(x6_3), (wrap64 (x7_3 + 1)), (wrap64 (x9_3 + 1)), (by first | rfl | (simp; done) | (simp [*]; done)), (by first | rfl | (simp; done) | (simp [*]; done)), H', ⟨by have := HJ2.out; have := HK2.out; have := HK3.out; omega⟩, ⟨by (with_reducible repeat (first | apply Kd.R_alloc | apply Kd.R_drewN | apply Kd.R_drew)); exact HO_6.out⟩, ⟨by repeat (first | (with_reducible first | exact HB.out | apply below_alloc | apply pw_below_drewN | apply below_drew1) | exact HB.out)⟩⟩
                              · rw [if_neg c19] at H
                                exact absurd H (by simp)
                            · rw [if_neg c17] at H
                              exact absurd H (by simp)
                          · rw [if_neg c16] at H
                            exact absurd H (by simp)
                        · rw [if_neg c15] at H
                          have c15b0 : decide (x9_3 < a1) = false := decide_eq_false c15
                          clear c15
                          have H' := Aside0.mk H
                          clear H
                          go_wp2
                          go_roundg k3
                          case measure => have := HJ2.out; have := HK2.out; have := HK3.out; omega
                          case rel => exact ⟨(x6_3), (x7_3), (wrap64 (x8_2 + 1)), (by first | rfl | (simp; done) | (simp [*]; done)), (by first | rfl | (simp; done) | (simp [*]; done)), H', ⟨by have := HJ2.out; have := HK2.out; have := HK3.out; omega⟩, ⟨by (with_reducible repeat (first | apply Kd.R_alloc | apply Kd.R_drewN | apply Kd.R_drew)); exact HO_6.out⟩, ⟨by repeat (first | (with_reducible first | exact HB.out | apply below_alloc | apply pw_below_drewN | apply below_drew1) | exact HB.out)⟩⟩
                  · rw [if_neg c14] at H
                    have c14b0 : decide (x8_2 < (l0.length : Int)) = false := decide_eq_false c14
                    clear c14
                    simp only [Option.some.injEq, Prod.mk.injEq] at H
                    obtain ⟨rfl, rfl⟩ := H
                    go_wp2
                    go_ret2
                    exact ⟨_, by first | rfl | (simp [errW_none, errW_some] <;> rfl) | (simp [*, errW_none, errW_some] <;> rfl), by (with_reducible repeat (first | apply Kd.R_alloc | apply Kd.R_drewN | apply Kd.R_drew)); exact HO_6.out, by repeat (first | (with_reducible first | exact HB.out | apply below_alloc | apply pw_below_drewN | apply below_drew1) | exact HB.out)⟩
            · rw [if_neg c11] at H
              exact absurd H (by simp)
          · rw [if_neg c10] at H
            exact absurd H (by simp)

/-! ### noriaref11_PutSteps: function 10 -/
def noriaref11_PutSteps.f (k : Nat) (l0 : List Int) : Option (List Int) := (noriaref11_Steps.f k l0).bind fun t206 => ((noriaref11_Width.f k t206).bind fun t209 => ((noriaref11_PutBits.f k t206 t209).bind fun bt210 => ((some (([(t209) % 256] : List Int) : List Int)).bind fun y214 => (if y214.length + bt210.1.length < 140737488355328 then (some (y214 ++ bt210.1)) else (none)))))
theorem noriaref11_PutSteps.mono : ∀ a0 k, LeO (noriaref11_PutSteps.f k a0) (noriaref11_PutSteps.f (k + 1) a0) := by
  intro a0 k
  unfold noriaref11_PutSteps.f
  repeat' first
      | (with_reducible exact noriaref11_PutBits.mono _ _ _)
      | (with_reducible exact noriaref11_Steps.mono _ _)
      | (with_reducible exact noriaref11_Width.mono _ _)
      | (with_reducible exact LeO.refl _)
      | (with_reducible exact LeO.none _)
      | (with_reducible refine LeO.ite ?_ ?_)
      | (with_reducible refine LeO.bind ?_ (fun _ => ?_))
      | exact noriaref11_PutBits.mono _ _ _
      | exact noriaref11_Steps.mono _ _
      | exact noriaref11_Width.mono _ _
      | exact LeO.none _
      | refine LeO.ite ?_ ?_
      | refine LeO.bind ?_ (fun _ => ?_)
set_option maxHeartbeats 8000000 in
set_option maxRecDepth 100000 in
theorem noriaref11_PutSteps.calls (k : Nat) (A0 : Option Addr) (c0 : Nat) (l0 : List Int) (r : List Int) (w : World) (hr0 : Kd.C (Kd.int .i64) w A0 l0.length l0) (hc0 : l0.length ≤ c0) (h : noriaref11_PutSteps.f k l0 = some r) :
    Calls Try.prog 10 #[.slice A0 l0.length c0] w fun e w' => ∃ v0_ : Value, e = .returned (v0_) ∧ Kd.R (Kd.int .u8) 5 w' w.heap.size (fun _ => True) v0_ r ∧ Below w.heap.size w w' := by
  have HR0 := Aside0.mk hr0
  have HC0 := Aside0.mk hc0
  clear hr0 hc0
  have HB := Aside0.mk (Below.refl w.heap.size w)
  have H : ((noriaref11_Steps.f k l0).bind fun t206 => ((noriaref11_Width.f k t206).bind fun t209 => ((noriaref11_PutBits.f k t206 t209).bind fun bt210 => ((some (([(t209) % 256] : List Int) : List Int)).bind fun y214 => (if y214.length + bt210.1.length < 140737488355328 then (some (y214 ++ bt210.1)) else (none)))))) = some r := h
  clear h
  replace H := Option.bind_eq_some_iff.mp H
  obtain ⟨t206, A20, H⟩ := H
  replace H : ((noriaref11_Width.f k t206).bind fun t209 => ((noriaref11_PutBits.f k t206 t209).bind fun bt210 => ((some (([(t209) % 256] : List Int) : List Int)).bind fun y214 => (if y214.length + bt210.1.length < 140737488355328 then (some (y214 ++ bt210.1)) else (none))))) = some r := H
  have A2 := Aside0.mk A20
  clear A20
  replace H := Option.bind_eq_some_iff.mp H
  obtain ⟨t209, A30, H⟩ := H
  replace H : ((noriaref11_PutBits.f k t206 t209).bind fun bt210 => ((some (([(t209) % 256] : List Int) : List Int)).bind fun y214 => (if y214.length + bt210.1.length < 140737488355328 then (some (y214 ++ bt210.1)) else (none)))) = some r := H
  have A3 := Aside0.mk A30
  clear A30
  replace H := Option.bind_eq_some_iff.mp H
  obtain ⟨⟨t210, t211⟩, A40, H⟩ := H
  replace H : ((some (([(t209) % 256] : List Int) : List Int)).bind fun y214 => (if y214.length + t210.length < 140737488355328 then (some (y214 ++ t210)) else (none))) = some r := H
  have A4 := Aside0.mk A40
  clear A40
  obtain ⟨y214, hy214⟩ : ∃ y_ : List Int, y_ = (([(t209) % 256] : List Int)) := ⟨_, rfl⟩
  replace H : (if y214.length + t210.length < 140737488355328 then (some (y214 ++ t210)) else (none)) = some r := by first | (rw [hy214]; with_reducible exact H) | (have H2_ := (Option.bind_some _ _).symm.trans H; rw [hy214]; with_reducible exact H2_) | (have H2_ := (Option.bind_some _ _).symm.trans H; with_reducible exact H2_) | with_reducible exact H | (rw [hy214]; exact H) | exact H
  have Ny214 := Aside0.mk hy214
  clear hy214
  by_cases c5 : y214.length + t210.length < 140737488355328
  · rw [if_pos c5] at H
    have LMc5 := Aside0.mk c5
    clear c5
    obtain ⟨y217, hy217⟩ : ∃ y_ : List Int, y_ = (y214 ++ t210) := ⟨_, rfl⟩
    replace H : (some y217) = some r := by first | (rw [hy217]; with_reducible exact H) | (have H2_ := (Option.bind_some _ _).symm.trans H; rw [hy217]; with_reducible exact H2_) | (have H2_ := (Option.bind_some _ _).symm.trans H; with_reducible exact H2_) | with_reducible exact H | (rw [hy217]; exact H) | exact H
    have Ny217 := Aside0.mk hy217
    clear hy217
    obtain rfl := Option.some.inj H
    go_enter Try.func10, Try.ntmps10
    go_wp2_with (first | ((with_reducible refine gate_callee (f := 13) rfl ?_); refine goesL_ (some 7) rfl rfl Try.func13 (by kernel_rfl) rfl #[.slice A0 l0.length c0] rfl (by (try simp only [List.map_toArray, List.map_cons, List.map_nil]); first | done | rfl | (simp only [List.length_drop, List.length_take]; rfl)) ?_; (with_reducible refine (noriaref11_Steps.calls k _ _ l0 t206 _ ?side1 ?side2 A2.out).mono ?_); (case side1 => repeat (first | exact HR0.out | (with_reducible refine Kd.C_alloc ?_ _) | (with_reducible refine Kd.C_drewN ?_ _) | (with_reducible refine Kd.C_drew ?_))); (case side2 => exact HC0.out); rintro e w6 ⟨v207, rfl, ho0, hb⟩; refine ⟨_, rfl, ?_⟩; have n0_ := Aside0.mk (Kd.R_lower ho0 (below_size (by repeat (first | (with_reducible first | exact HB.out | apply below_alloc | apply pw_below_drewN | apply below_drew1) | exact HB.out)))); have n1_ := Aside0.mk (below_step (by repeat (first | (with_reducible first | exact HB.out | apply below_alloc | apply pw_below_drewN | apply below_drew1) | exact HB.out)) hb); clear HB; have HO208 := n0_; have HB := n1_; clear n0_ n1_; (try clear hb); (try clear hb2); (try clear hk); (try clear hi); (try clear ho0); obtain ⟨Ao7, co7, eo7⟩ := Kd.R_slice HO208.out; subst eo7) | (go_at_call 21; (with_reducible refine (noriaref11_Width.calls k _ _ t206 t209 _ ?side1 ?side2 A3.out).mono ?_); (case side1 => repeat (first | exact (Kd.R_reads' HO208.out).2.2 | (with_reducible refine Kd.C_alloc ?_ _) | (with_reducible refine Kd.C_drewN ?_ _) | (with_reducible refine Kd.C_drew ?_))); (case side2 => exact (Kd.R_reads' HO208.out).2.1); rintro e w' ⟨rfl, ⟨nd, rfl⟩⟩) | ((with_reducible refine gate_callee (f := 20) rfl ?_); refine goesL_ (some 12) rfl rfl Try.func20 (by kernel_rfl) rfl #[.slice Ao7 t206.length co7, .int .i64 t209] rfl (by (try simp only [List.map_toArray, List.map_cons, List.map_nil]); first | done | rfl | (simp only [List.length_drop, List.length_take]; rfl)) ?_; (with_reducible refine (noriaref11_PutBits.calls k _ _ t206 t209 t210 t211 _ ?side1 ?side2 A4.out).mono ?_); (case side1 => repeat (first | exact (Kd.R_reads' HO208.out).2.2 | (with_reducible refine Kd.C_alloc ?_ _) | (with_reducible refine Kd.C_drewN ?_ _) | (with_reducible refine Kd.C_drew ?_))); (case side2 => exact (Kd.R_reads' HO208.out).2.1); rintro e w8 ⟨v212, rfl, ho0, hb⟩; refine ⟨_, rfl, ?_⟩; have n0_ := Aside0.mk (Kd.R_below (by (with_reducible repeat (first | apply Kd.R_alloc | apply Kd.R_drewN | apply Kd.R_drew)); exact HO208.out) hb); have n1_ := Aside0.mk (Kd.R_lower ho0 (below_size (by repeat (first | (with_reducible first | exact HB.out | apply below_alloc | apply pw_below_drewN | apply below_drew1) | exact HB.out)))); have n2_ := Aside0.mk (below_step (by repeat (first | (with_reducible first | exact HB.out | apply below_alloc | apply pw_below_drewN | apply below_drew1) | exact HB.out)) hb); clear HO208; clear HB; have HO208 := n0_; have HO213 := n1_; have HB := n2_; clear n0_ n1_ n2_; (try clear hb); (try clear hb2); (try clear hk); (try clear hi); (try clear ho0)) | ((with_reducible refine gate_dst (N := 18) rfl ?_); refine Kd.R_lit (Kd.int .u8) _ 5 ?hg (N := 18) ?hd (xs := ([(t209) % 256] : List Int)) (inner := [.int .u8 ((t209) % 256)]) (ok := fun _ => True) (okp := fun _ => True) ?hr ?hp (fun _ hk => hk) trivial (Below.refl _ _) (Nat.le_refl _) (by simp) ?_; (case hd => rfl); (case hg => rfl); (case hr => first | (go_simp; done) | (go_simp; rfl)); (case hp => exact (Reps.one (show Kd.M (Kd.int .u8) _ _ _ ((t209) % 256) [.int .u8 ((t209) % 256)] from rfl) (Reps.none _ _))); intro v215 w9 ho10 hb hg_ hnew_; clear hg_ hnew_; (first | rw [← Ny214.out] at ho10 | (simp only [Int.reduceToNat] at ho10; rw [← Ny214.out] at ho10)); have n0_ := Aside0.mk (Kd.R_below (by (with_reducible repeat (first | apply Kd.R_alloc | apply Kd.R_drewN | apply Kd.R_drew)); exact HO208.out) hb); have n1_ := Aside0.mk (Kd.R_elder' (by (with_reducible repeat (first | apply Kd.R_alloc | apply Kd.R_drewN | apply Kd.R_drew)); exact HO213.out) (Kd.R_base ho10) hb); have n2_ := Aside0.mk (Kd.R_lower (Kd.R_new' ho10 (Kd.R_lt (by (with_reducible repeat (first | apply Kd.R_alloc | apply Kd.R_drewN | apply Kd.R_drew)); exact HO213.out))) (below_size (by repeat (first | (with_reducible first | exact HB.out | apply below_alloc | apply pw_below_drewN | apply below_drew1) | exact HB.out)))); have n3_ := Aside0.mk (below_step (by repeat (first | (with_reducible first | exact HB.out | apply below_alloc | apply pw_below_drewN | apply below_drew1) | exact HB.out)) hb); clear HO208; clear HO213; clear HB; have HO208 := n0_; have HO213 := n1_; have HO216 := n2_; have HB := n3_; clear n0_ n1_ n2_ n3_; clear hb ho10; obtain ⟨Ao12, co12, eo12⟩ := Kd.R_slice HO213.out; subst eo12) | ((with_reducible refine gate_builtin (b := .append) (xs := #[.tmp 18, .tmp 19]) rfl ?_); at_builtin; refine Kd.R_append_rows (Kd.int .u8) (w0 := w) w.heap.size rfl (.tmp 18) (.tmp 19) 24 5 (.int .u8 0) 1 rfl Try.underlying24 info5 rfl (by decide) (by omega) v215 y214 t210 _ _ _ (fun k_ => some k_ ≠ (.slice Ao12 t210.length co12 : Value).ownBlock) (fun _ => False) rfl rfl ?aO ?aR (fun _ _ h => h) (fun _ h => h.elim) ?aF ?aB ?aS ?aL ?_; (case aR => repeat (first | exact (Kd.R_reads' HO213.out).2.2 | (with_reducible refine Kd.C_alloc ?_ _) | (with_reducible refine Kd.C_drewN ?_ _) | (with_reducible refine Kd.C_drew ?_))); (case aB => exact (by repeat (first | (with_reducible first | exact HB.out | apply below_alloc | apply pw_below_drewN | apply below_drew1) | exact HB.out))); (case aF => exact (fun k_ hk => Kd.fresh' (Kd.R_lt (by (with_reducible repeat (first | apply Kd.R_alloc | apply Kd.R_drewN | apply Kd.R_drew)); exact HO213.out)) k_ hk)); (case aO => exact (by (with_reducible repeat (first | apply Kd.R_alloc | apply Kd.R_drewN | apply Kd.R_drew)); exact Kd.R_mono HO216.out (fun _ hk => hk.2))); (case aS => exact (below_size (by repeat (first | (with_reducible first | exact HB.out | apply below_alloc | apply pw_below_drewN | apply below_drew1) | exact HB.out)))); (case aL => have := LMc5.out; omega); intro v218 w11 ho hb hg hat; rw [← Ny217.out] at ho; have n0_ := Aside0.mk (Kd.R_over' (by (with_reducible repeat (first | apply Kd.R_alloc | apply Kd.R_drewN | apply Kd.R_drew)); exact HO208.out) (Kd.R_typed (by (with_reducible repeat (first | apply Kd.R_alloc | apply Kd.R_drewN | apply Kd.R_drew)); exact HO216.out)) (by decide) hg); have n1_ := Aside0.mk (Kd.R_after (ok := (fun _ => True)) (by (with_reducible repeat (first | apply Kd.R_alloc | apply Kd.R_drewN | apply Kd.R_drew)); exact HO213.out) hg hat); have n2_ := Aside0.mk (hb); have n3_ := Aside0.mk (ho); clear HO208; clear HO213; clear HB; clear HO216; have HO208 := n0_; have HO213 := n1_; have HB := n2_; have HO219 := n3_; clear n0_ n1_ n2_ n3_; clear ho hb hg hat))
    go_ret
    exact ⟨_, by first | rfl | (simp [errW_none, errW_some] <;> rfl) | (simp [*, errW_none, errW_some] <;> rfl), by (with_reducible repeat (first | apply Kd.R_alloc | apply Kd.R_drewN | apply Kd.R_drew)); exact Kd.R_mono HO219.out (fun _ hk => trivial), by repeat (first | (with_reducible first | exact HB.out | apply below_alloc | apply pw_below_drewN | apply below_drew1) | exact HB.out)⟩
  · rw [if_neg c5] at H
    exact absurd H (by simp)

end Go.Proofs.Ytalgjhmehilioaa.PAll
