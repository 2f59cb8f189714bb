-- Printed by this session's own program (wip/tools/pp.py): out of the translation. Lean checks it.
import Derived.Test.YtfiihimbkjcflaaPAllx0
import Derived.Test.YtfiihimbkjcflaaPAllx1
import Derived.Test.YtfiihimbkjcflaaPAllx2
import Derived.Test.YtfiihimbkjcflaaPAllx4
namespace Go.Proofs.Ytfiihimbkjcflaa.PAll
open Go.Proofs.Ytfiihimbkjcflaa.Help
open Go.RowKit Go.Proofs.YtfiihimbkjcflaaW.PrintWords Go.Proofs.YtfiihimbkjcflaaW.PrintLast Go.Proofs.YtfiihimbkjcflaaW.PrintMore
attribute [local go_sem] max2_int min2_int max_two min_two max_three min_three max_four min_four   -- for this text's walks alone
set_option linter.unusedVariables false
set_option linter.unusedSimpArgs false

/-! ### norialaw1_NumTurns: function 5 -/
def norialaw1_NumTurns.f (k : Nat) (a0 : Int) (a1 : Int) : Option (Bool) := (norialaw1_known.f k).bind fun t212 => (if t212 = true then ((num_Zig.f a0).bind fun t213 => ((noriaref11_Zig.f a0).bind fun t214 => (if t213 = t214 then ((num_Zag.f a1).bind fun t215 => ((noriaref11_Zag.f a1).bind fun t216 => (if t215 = t216 then ((num_Zag.f t213).bind fun t217 => (if t217 = a0 then ((num_Zig.f t215).bind fun t218 => (if t218 = a1 then (some ((Go.bits .and .u64 t213 1) == ((IntKind.u64.wrap (a0)) / 9223372036854775808))) else (none))) else (none))) else (none)))) else (none)))) else (none))
theorem norialaw1_NumTurns.mono : ∀ a0 a1 k, LeO (norialaw1_NumTurns.f k a0 a1) (norialaw1_NumTurns.f (k + 1) a0 a1) := by
  intro a0 a1 k
  unfold norialaw1_NumTurns.f
  repeat' first
      | (with_reducible exact norialaw1_known.mono _)
      | (with_reducible exact LeO.refl _)
      | (with_reducible exact LeO.none _)
      | (with_reducible refine LeO.ite ?_ ?_)
      | (with_reducible refine LeO.bind ?_ (fun _ => ?_))
      | exact norialaw1_known.mono _
      | exact LeO.none _
      | refine LeO.ite ?_ ?_
      | refine LeO.bind ?_ (fun _ => ?_)
set_option maxHeartbeats 8000000 in
set_option maxRecDepth 100000 in
theorem norialaw1_NumTurns.calls (k : Nat) (a0 : Int) (a1 : Int) (r : Bool) (w : World) (h : norialaw1_NumTurns.f k a0 a1 = some r) :
    Calls Try.prog 5 #[.int .i64 a0, .int .u64 a1] w fun e w' => e = .returned (.bool r) ∧ Below w.heap.size w w' := by
  have HB := Aside0.mk (Below.refl w.heap.size w)
  have H : ((norialaw1_known.f k).bind fun t212 => (if t212 = true then ((num_Zig.f a0).bind fun t213 => ((noriaref11_Zig.f a0).bind fun t214 => (if t213 = t214 then ((num_Zag.f a1).bind fun t215 => ((noriaref11_Zag.f a1).bind fun t216 => (if t215 = t216 then ((num_Zag.f t213).bind fun t217 => (if t217 = a0 then ((num_Zig.f t215).bind fun t218 => (if t218 = a1 then (some ((Go.bits .and .u64 t213 1) == ((IntKind.u64.wrap (a0)) / 9223372036854775808))) else (none))) else (none))) else (none)))) else (none)))) else (none))) = some r := h
  clear h
  replace H := Option.bind_eq_some_iff.mp H
  obtain ⟨t212, A30, H⟩ := H
  replace H : (if t212 = true then ((num_Zig.f a0).bind fun t213 => ((noriaref11_Zig.f a0).bind fun t214 => (if t213 = t214 then ((num_Zag.f a1).bind fun t215 => ((noriaref11_Zag.f a1).bind fun t216 => (if t215 = t216 then ((num_Zag.f t213).bind fun t217 => (if t217 = a0 then ((num_Zig.f t215).bind fun t218 => (if t218 = a1 then (some ((Go.bits .and .u64 t213 1) == ((IntKind.u64.wrap (a0)) / 9223372036854775808))) else (none))) else (none))) else (none)))) else (none)))) else (none)) = some r := H
  have A3 := Aside0.mk A30
  clear A30
  by_cases c4 : t212 = true
  · subst c4
    have H1 : ((num_Zig.f a0).bind fun t213 => ((noriaref11_Zig.f a0).bind fun t214 => (if t213 = t214 then ((num_Zag.f a1).bind fun t215 => ((noriaref11_Zag.f a1).bind fun t216 => (if t215 = t216 then ((num_Zag.f t213).bind fun t217 => (if t217 = a0 then ((num_Zig.f t215).bind fun t218 => (if t218 = a1 then (some ((Go.bits .and .u64 t213 1) == ((IntKind.u64.wrap (a0)) / 9223372036854775808))) else (none))) else (none))) else (none)))) else (none)))) = some r := by rw [if_pos rfl] at H; exact H
    clear H
    have H := H1
    clear H1
    replace H := Option.bind_eq_some_iff.mp H
    obtain ⟨t213, A50, H⟩ := H
    replace H : ((noriaref11_Zig.f a0).bind fun t214 => (if t213 = t214 then ((num_Zag.f a1).bind fun t215 => ((noriaref11_Zag.f a1).bind fun t216 => (if t215 = t216 then ((num_Zag.f t213).bind fun t217 => (if t217 = a0 then ((num_Zig.f t215).bind fun t218 => (if t218 = a1 then (some ((Go.bits .and .u64 t213 1) == ((IntKind.u64.wrap (a0)) / 9223372036854775808))) else (none))) else (none))) else (none)))) else (none))) = some r := H
    have A5 := Aside0.mk A50
    clear A50
    replace H := Option.bind_eq_some_iff.mp H
    obtain ⟨t214, A60, H⟩ := H
    replace H : (if t213 = t214 then ((num_Zag.f a1).bind fun t215 => ((noriaref11_Zag.f a1).bind fun t216 => (if t215 = t216 then ((num_Zag.f t213).bind fun t217 => (if t217 = a0 then ((num_Zig.f t215).bind fun t218 => (if t218 = a1 then (some ((Go.bits .and .u64 t213 1) == ((IntKind.u64.wrap (a0)) / 9223372036854775808))) else (none))) else (none))) else (none)))) else (none)) = some r := H
    have A6 := Aside0.mk A60
    clear A60
    by_cases c7 : t213 = t214
    · rw [if_pos c7] at H
      have c7b0 : (t213 == t214) = true := beq_iff_eq.mpr c7
      have c7b1 : (t213 != t214) = false := bne_eq_false_iff_eq.mpr c7
      clear c7
      replace H := Option.bind_eq_some_iff.mp H
      obtain ⟨t215, A80, H⟩ := H
      replace H : ((noriaref11_Zag.f a1).bind fun t216 => (if t215 = t216 then ((num_Zag.f t213).bind fun t217 => (if t217 = a0 then ((num_Zig.f t215).bind fun t218 => (if t218 = a1 then (some ((Go.bits .and .u64 t213 1) == ((IntKind.u64.wrap (a0)) / 9223372036854775808))) else (none))) else (none))) else (none))) = some r := H
      have A8 := Aside0.mk A80
      clear A80
      replace H := Option.bind_eq_some_iff.mp H
      obtain ⟨t216, A90, H⟩ := H
      replace H : (if t215 = t216 then ((num_Zag.f t213).bind fun t217 => (if t217 = a0 then ((num_Zig.f t215).bind fun t218 => (if t218 = a1 then (some ((Go.bits .and .u64 t213 1) == ((IntKind.u64.wrap (a0)) / 9223372036854775808))) else (none))) else (none))) else (none)) = some r := H
      have A9 := Aside0.mk A90
      clear A90
      by_cases c10 : t215 = t216
      · rw [if_pos c10] at H
        have c10b0 : (t215 == t216) = true := beq_iff_eq.mpr c10
        have c10b1 : (t215 != t216) = false := bne_eq_false_iff_eq.mpr c10
        clear c10
        replace H := Option.bind_eq_some_iff.mp H
        obtain ⟨t217, A110, H⟩ := H
        replace H : (if t217 = a0 then ((num_Zig.f t215).bind fun t218 => (if t218 = a1 then (some ((Go.bits .and .u64 t213 1) == ((IntKind.u64.wrap (a0)) / 9223372036854775808))) else (none))) else (none)) = some r := H
        have A11 := Aside0.mk A110
        clear A110
        by_cases c12 : t217 = a0
        · rw [if_pos c12] at H
          have c12b0 : (t217 == a0) = true := beq_iff_eq.mpr c12
          have c12b1 : (t217 != a0) = false := bne_eq_false_iff_eq.mpr c12
          clear c12
          replace H := Option.bind_eq_some_iff.mp H
          obtain ⟨t218, A130, H⟩ := H
          replace H : (if t218 = a1 then (some ((Go.bits .and .u64 t213 1) == ((IntKind.u64.wrap (a0)) / 9223372036854775808))) else (none)) = some r := H
          have A13 := Aside0.mk A130
          clear A130
          by_cases c14 : t218 = a1
          · rw [if_pos c14] at H
            have c14b0 : (t218 == a1) = true := beq_iff_eq.mpr c14
            have c14b1 : (t218 != a1) = false := bne_eq_false_iff_eq.mpr c14
            clear c14
            obtain rfl := Option.some.inj H
            go_enter Try.func5, Try.ntmps5
            go_wp2_with (first | ((with_reducible refine gate_callee (f := 9) rfl ?_); refine goesL_ (some 5) rfl rfl Try.func9 (by kernel_rfl) rfl #[] rfl (by (try simp only [List.map_toArray, List.map_cons, List.map_nil]); first | done | rfl | (simp only [List.length_drop, List.length_take]; rfl)) ?_; (with_reducible refine (norialaw1_known.calls k  true _ A3.out).mono ?_); rintro e w15 ⟨rfl, hb⟩; refine ⟨_, rfl, ?_⟩; have n0_ := Aside0.mk (below_step (by repeat (first | (with_reducible first | exact HB.out | apply below_alloc | apply pw_below_drewN | apply below_drew1) | exact HB.out)) hb); clear HB; have HB := n0_; clear n0_; (try clear hb); (try clear hb2); (try clear hk); (try clear hi)) | (go_at_call 16; (with_reducible refine (num_Zig.calls a0 t213 _ A5.out).mono ?_); rintro e w' ⟨rfl, ⟨nd, rfl⟩⟩) | (go_at_call 17; (with_reducible refine (noriaref11_Zig.calls a0 t214 _ A6.out).mono ?_); rintro e w' ⟨rfl, ⟨nd, rfl⟩⟩) | (go_at_call 18; (with_reducible refine (num_Zag.calls a1 t215 _ A8.out).mono ?_); rintro e w' ⟨rfl, ⟨nd, rfl⟩⟩) | (go_at_call 19; (with_reducible refine (noriaref11_Zag.calls a1 t216 _ A9.out).mono ?_); rintro e w' ⟨rfl, ⟨nd, rfl⟩⟩) | (go_at_call 18; (with_reducible refine (num_Zag.calls t213 t217 _ A11.out).mono ?_); rintro e w' ⟨rfl, ⟨nd, rfl⟩⟩) | (go_at_call 16; (with_reducible refine (num_Zig.calls t215 t218 _ A13.out).mono ?_); rintro e w' ⟨rfl, ⟨nd, rfl⟩⟩))
            go_ret
            exact ⟨by first | rfl | (simp [errW_none, errW_some] <;> rfl) | (simp [*, errW_none, errW_some] <;> rfl), by repeat (first | (with_reducible first | exact HB.out | apply below_alloc | apply pw_below_drewN | apply below_drew1) | exact HB.out)⟩
          · rw [if_neg c14] at H
            exact absurd H (by simp)
        · rw [if_neg c12] at H
          exact absurd H (by simp)
      · rw [if_neg c10] at H
        exact absurd H (by simp)
    · rw [if_neg c7] at H
      exact absurd H (by simp)
  · replace c4 := Bool.eq_false_iff.mpr c4
    subst c4
    have H1 : (none) = some r := by rw [if_neg (show ¬ (false = true) by decide)] at H; exact H
    clear H
    have H := H1
    clear H1
    exact absurd H (by simp)

/-- THE ONE PURE STATEMENT of norialaw1_NumTurns: yours. -/
def norialaw1_NumTurns.Pure : Prop := ∀ (a0 : Int) (a1 : Int), (Lit.int .i64 a0).wf = true → (Lit.int .u64 a1).wf = true → ∃ k, norialaw1_NumTurns.f k a0 a1 = some true
theorem norialaw1_NumTurns.walk (P : norialaw1_NumTurns.Pure) (a0 : Int) (a1 : Int) (w : World) (w0 : (Lit.int .i64 a0).wf = true) (w1 : (Lit.int .u64 a1).wf = true) :
    Calls Try.prog 5 #[.int .i64 a0, .int .u64 a1] w fun e w' => e = .returned (.bool true) ∧ Below w.heap.size w w' := by
  obtain ⟨k, h⟩ := P a0 a1 w0 w1
  refine (norialaw1_NumTurns.calls k a0 a1 true w h).mono ?_
  rintro e w' ⟨rfl, hd⟩
  exact ⟨rfl, hd⟩

/-! ### noriaref11_Sum: function 21 -/
mutual
def noriaref11_Sum.l0 : Nat → List Int → Int → Int → Option (Int)
  | 0, _, _, _ => none
  | k + 1, x0, x3, x4 => if x4 < (x0.length : Int) then (if 0 ≤ x4 then (noriaref11_Sum.l1 k x0 (Go.bits .xor .u32 x3 ((rd x0 x4) % 4294967296)) x4 0) else (none)) else (some (Go.bits .xor .u32 4294967295 x3))
def noriaref11_Sum.l1 : Nat → List Int → Int → Int → Int → Option (Int)
  | 0, _, _, _, _ => none
  | k + 1, x0, x3, x4, x5 => if x5 < 8 then (if (Go.bits .and .u32 x3 1) = 1 then (noriaref11_Sum.l1 k x0 (Go.bits .xor .u32 (x3 / 2) 3988292384) x4 (wrap64 (x5 + 1))) else (noriaref11_Sum.l1 k x0 (x3 / 2) x4 (wrap64 (x5 + 1)))) else (noriaref11_Sum.l0 k x0 x3 (wrap64 (x4 + 1)))
end
def noriaref11_Sum.f (k : Nat) (l0 : List Int) : Option (Int) := noriaref11_Sum.l0 k l0 4294967295 0
theorem noriaref11_Sum.mono_l : ∀ k, (∀ y0 y1 y2, LeO (noriaref11_Sum.l0 k y0 y1 y2) (noriaref11_Sum.l0 (k + 1) y0 y1 y2)) ∧ (∀ y0 y1 y2 y3, LeO (noriaref11_Sum.l1 k y0 y1 y2 y3) (noriaref11_Sum.l1 (k + 1) y0 y1 y2 y3))
  | 0 => ⟨fun _ _ _ r h => by simp [noriaref11_Sum.l0] at h, fun _ _ _ _ r h => by simp [noriaref11_Sum.l1] at h⟩
  | k + 1 => by
    obtain ⟨ih0, ih1⟩ := noriaref11_Sum.mono_l k
    refine ⟨?_, ?_⟩
    · intro y0 y1 y2
      unfold noriaref11_Sum.l0
      repeat' first
      | (with_reducible exact ih0 _ _ _)
      | (with_reducible exact ih1 _ _ _ _)
      | (with_reducible exact LeO.refl _)
      | (with_reducible exact LeO.none _)
      | (with_reducible refine LeO.ite ?_ ?_)
      | (with_reducible refine LeO.bind ?_ (fun _ => ?_))
      | exact ih0 _ _ _
      | exact ih1 _ _ _ _
      | exact LeO.none _
      | refine LeO.ite ?_ ?_
      | refine LeO.bind ?_ (fun _ => ?_)
    · intro y0 y1 y2 y3
      unfold noriaref11_Sum.l1
      repeat' first
      | (with_reducible exact ih0 _ _ _)
      | (with_reducible exact ih1 _ _ _ _)
      | (with_reducible exact LeO.refl _)
      | (with_reducible exact LeO.none _)
      | (with_reducible refine LeO.ite ?_ ?_)
      | (with_reducible refine LeO.bind ?_ (fun _ => ?_))
      | exact ih0 _ _ _
      | exact ih1 _ _ _ _
      | exact LeO.none _
      | refine LeO.ite ?_ ?_
      | refine LeO.bind ?_ (fun _ => ?_)
theorem noriaref11_Sum.mono : ∀ a0 k, LeO (noriaref11_Sum.f k a0) (noriaref11_Sum.f (k + 1) a0) := by
  intro a0 k
  obtain ⟨ih0, ih1⟩ := noriaref11_Sum.mono_l k
  unfold noriaref11_Sum.f
  repeat' first
      | (with_reducible exact ih0 _ _ _)
      | (with_reducible exact ih1 _ _ _ _)
      | (with_reducible exact LeO.refl _)
      | (with_reducible exact LeO.none _)
      | (with_reducible refine LeO.ite ?_ ?_)
      | (with_reducible refine LeO.bind ?_ (fun _ => ?_))
      | exact ih0 _ _ _
      | exact ih1 _ _ _ _
      | exact LeO.none _
      | refine LeO.ite ?_ ?_
      | refine LeO.bind ?_ (fun _ => ?_)
set_option maxHeartbeats 8000000 in
set_option maxRecDepth 100000 in
theorem noriaref11_Sum.calls (k : Nat) (A0 : Option Addr) (c0 : Nat) (l0 : List Int) (r : Int) (w : World) (hr0 : Kd.C (Kd.int .u8) w A0 l0.length l0) (hc0 : l0.length ≤ c0) (h : noriaref11_Sum.f k l0 = some r) :
    Calls Try.prog 21 #[.slice A0 l0.length c0] w fun e w' => e = .returned (.int .u32 r) ∧ Drawn0 w w' := by
  have HR0 := Aside0.mk hr0
  have HC0 := Aside0.mk hc0
  clear hr0 hc0
  have H : (noriaref11_Sum.l0 k l0 4294967295 0) = some r := h
  clear h
  have H' := Aside0.mk H
  clear H
  go_enter Try.func21, Try.ntmps21
  go_wp2
  go_loopg [3, 4] k (fun kq v3 v4 w' => ∃ (x3_1 : Int) (x4_1 : Int), v3 = .int .u32 x3_1 ∧ v4 = .int .i64 x4_1 ∧ Aside0 (noriaref11_Sum.l0 kq l0 x3_1 x4_1 = some r) ∧ Aside0 (kq ≤ k) ∧ Drawn0 w w')
  case atStart => exact ⟨(4294967295), (0), (by first | rfl | (simp; done) | (simp [*]; done)), (by first | rfl | (simp; done) | (simp [*]; done)), H', ⟨Nat.le_refl _⟩, by repeat (first | exact Drawn0.refl _ | apply Drawn0.step)⟩
  case round =>
    clear H'
    obtain ⟨x3_1, x4_1, rfl, rfl, HA, HK1, ⟨m1, rfl⟩⟩ := hrel
    cases gk with
    | zero => exact absurd HA.out (by simp [noriaref11_Sum.l0])
    | succ k1 =>
      have H := HA.out
      clear HA
      simp only [noriaref11_Sum.l0] at H
      by_cases c2 : x4_1 < (l0.length : Int)
      · rw [if_pos c2] at H
        have c2b0 : decide (x4_1 < (l0.length : Int)) = true := decide_eq_true c2
        clear c2
        by_cases c3 : 0 ≤ x4_1
        · rw [if_pos c3] at H
          have c3b0 : decide (0 ≤ x4_1) = true := decide_eq_true c3
          clear c3
          have H' := Aside0.mk H
          clear H
          have p219 : 0 ≤ (x4_1 : Int) := of_decide_eq_true (by first | (with_reducible assumption) | assumption)
          have q219 : x4_1 < (l0.length : Int) := of_decide_eq_true (by first | (with_reducible assumption) | assumption)
          obtain ⟨ad219, e219, hx219_0⟩ := Kd.at_int HR0.out x4_1 p219 q219
          cases e219
          replace p219 := eq_true p219
          replace q219 := eq_true q219
          go_wp2
          go_loopg [3, 5] k1 (fun kq v3 v5 w' => ∃ (x3_2 : Int) (x5_2 : Int), v3 = .int .u32 x3_2 ∧ v5 = .int .i64 x5_2 ∧ Aside0 (noriaref11_Sum.l1 kq l0 x3_2 x4_1 x5_2 = some r) ∧ Aside0 (kq ≤ k1) ∧ Drawn0 w w')
          case atStart => exact ⟨(Go.bits .xor .u32 x3_1 ((rd l0 x4_1) % 4294967296)), (0), (by first | rfl | (simp; done) | (simp [*]; done)), (by first | rfl | (simp; done) | (simp [*]; done)), H', ⟨Nat.le_refl _⟩, by repeat (first | exact Drawn0.refl _ | apply Drawn0.step)⟩
          case round =>
            clear H'
            try clear c2
            try clear c2b0
            try clear p2
            try clear q2
            try clear hx2
            try clear c3
            try clear c3b0
            try clear hx219_0
            try clear p219
            try clear q219
            obtain ⟨x3_2, x5_2, rfl, rfl, HA, HK2, ⟨m2, rfl⟩⟩ := hrel
            cases gk with
            | zero => exact absurd HA.out (by simp [noriaref11_Sum.l1])
            | succ k2 =>
              have H := HA.out
              clear HA
              simp only [noriaref11_Sum.l1] at H
              by_cases c4 : x5_2 < 8
              · rw [if_pos c4] at H
                have c4b0 : decide (x5_2 < 8) = true := decide_eq_true c4
                clear c4
                by_cases c5 : (Go.bits .and .u32 x3_2 1) = 1
                · rw [if_pos c5] at H
                  have c5b0 : ((Go.bits .and .u32 x3_2 1) == 1) = true := beq_iff_eq.mpr c5
                  have c5b1 : ((Go.bits .and .u32 x3_2 1) != 1) = false := bne_eq_false_iff_eq.mpr c5
                  clear c5
                  have H' := Aside0.mk H
                  clear H
                  go_wp2
                  go_roundg k2
                  case measure => have := HK1.out; have := HK2.out; omega
                  case rel => exact ⟨(Go.bits .xor .u32 (x3_2 / 2) 3988292384), (wrap64 (x5_2 + 1)), (by first | rfl | (simp; done) | (simp [*]; done)), (by first | rfl | (simp; done) | (simp [*]; done)), H', ⟨by have := HK1.out; have := HK2.out; omega⟩, by repeat (first | exact Drawn0.refl _ | apply Drawn0.step)⟩
                · rw [if_neg c5] at H
                  have c5b0 : ((Go.bits .and .u32 x3_2 1) == 1) = false := beq_eq_false_iff_ne.mpr c5
                  have c5b1 : ((Go.bits .and .u32 x3_2 1) != 1) = true := bne_iff_ne.mpr c5
                  have H' := Aside0.mk H
                  clear H
                  go_wp2
                  go_roundg k2
                  case measure => have := HK1.out; have := HK2.out; omega
                  case rel => exact ⟨(x3_2 / 2), (wrap64 (x5_2 + 1)), (by first | rfl | (simp; done) | (simp [*]; done)), (by first | rfl | (simp; done) | (simp [*]; done)), H', ⟨by have := HK1.out; have := HK2.out; omega⟩, by repeat (first | exact Drawn0.refl _ | apply Drawn0.step)⟩
              · rw [if_neg c4] at H
                have c4b0 : decide (x5_2 < 8) = false := decide_eq_false c4
                clear c4
                have H' := Aside0.mk H
                clear H
                go_wp2
                go_roundg k2
                case measure => have := HK1.out; have := HK2.out; omega
                case rel => exact ⟨(x3_2), (wrap64 (x4_1 + 1)), (by first | rfl | (simp; done) | (simp [*]; done)), (by first | rfl | (simp; done) | (simp [*]; done)), H', ⟨by have := HK1.out; have := HK2.out; omega⟩, by repeat (first | exact Drawn0.refl _ | apply Drawn0.step)⟩
        · rw [if_neg c3] at H
          exact absurd H (by simp)
      · rw [if_neg c2] at H
        have c2b0 : decide (x4_1 < (l0.length : Int)) = false := decide_eq_false c2
        clear c2
        obtain rfl := Option.some.inj H
        go_wp2
        go_ret
        exact ⟨by first | rfl | (simp; done) | (simp [*]; done), by repeat (first | exact Drawn0.refl _ | apply Drawn0.step)⟩

/-! ### norialaw1_NumSums: function 6 -/
def norialaw1_NumSums.f (k : Nat) (l0 : List Int) (a1 : Int) : Option (Bool) := (norialaw1_known.f k).bind fun t220 => (if t220 = true then (if (l0.length : Int) > 600 then (some true) else ((num_Sum.f k l0).bind fun t221 => ((noriaref11_Sum.f k l0).bind fun t222 => (if t221 = t222 then (if (l0.length : Int) = 0 then (some true) else ((some (([] : List Int) : List Int)).bind fun y223 => (if y223.length + l0.length < 140737488355328 then ((some (y223 ++ l0 : List Int)).bind fun y226 => (if (wrap64 (8 * (y226.length : Int))) = 0 then (none) else (if 0 ≤ (wrap64 (Int.tdiv (Int.tmod (wrap64 (a1)) (wrap64 (8 * (y226.length : Int)))) 8)) then (if (wrap64 (Int.tdiv (Int.tmod (wrap64 (a1)) (wrap64 (8 * (y226.length : Int)))) 8)) < (y226.length : Int) then (if 0 ≤ (IntKind.u64.wrap (Int.tmod (Int.tmod (wrap64 (a1)) (wrap64 (8 * (y226.length : Int)))) 8)) then ((num_Put4.f l0 t221).bind fun t231 => ((num_Get4.f k t231 (l0.length : Int)).bind fun bt234 => ((num_Sum.f k (y226.set ((wrap64 (Int.tdiv (Int.tmod (wrap64 (a1)) (wrap64 (8 * (y226.length : Int)))) 8)) : Int).toNat (Go.bits .xor .u8 (rd y226 (wrap64 (Int.tdiv (Int.tmod (wrap64 (a1)) (wrap64 (8 * (y226.length : Int)))) 8))) (shl .u8 1 (IntKind.u64.wrap (Int.tmod (Int.tmod (wrap64 (a1)) (wrap64 (8 * (y226.length : Int)))) 8)))))).bind fun t237 => (if t237 = t221 then (none) else (if bt234.2.2 = 0 then (if bt234.2.1 = 4 then (some (bt234.1 == t221)) else (none)) else (none)))))) else (none)) else (none)) else (none)))) else (none)))) else (none))))) else (none))
theorem norialaw1_NumSums.mono : ∀ a0 a1 k, LeO (norialaw1_NumSums.f k a0 a1) (norialaw1_NumSums.f (k + 1) a0 a1) := by
  intro a0 a1 k
  unfold norialaw1_NumSums.f
  repeat' first
      | (with_reducible exact norialaw1_known.mono _)
      | (with_reducible exact noriaref11_Sum.mono _ _)
      | (with_reducible exact num_Get4.mono _ _ _)
      | (with_reducible exact num_Sum.mono _ _)
      | (with_reducible exact LeO.refl _)
      | (with_reducible exact LeO.none _)
      | (with_reducible refine LeO.ite ?_ ?_)
      | (with_reducible refine LeO.bind ?_ (fun _ => ?_))
      | exact norialaw1_known.mono _
      | exact noriaref11_Sum.mono _ _
      | exact num_Get4.mono _ _ _
      | exact num_Sum.mono _ _
      | exact LeO.none _
      | refine LeO.ite ?_ ?_
      | refine LeO.bind ?_ (fun _ => ?_)
set_option maxHeartbeats 8000000 in
set_option maxRecDepth 100000 in
theorem norialaw1_NumSums.calls (k : Nat) (A0 : Option Addr) (c0 : Nat) (l0 : List Int) (a1 : Int) (r : Bool) (w : World) (hr0 : Kd.C (Kd.int .u8) w A0 l0.length l0) (hc0 : l0.length ≤ c0) (h : norialaw1_NumSums.f k l0 a1 = some r) :
    Calls Try.prog 6 #[.slice A0 l0.length c0, .int .u16 a1] w fun e w' => e = .returned (.bool r) ∧ Below w.heap.size w w' := by
  have HR0 := Aside0.mk hr0
  have HC0 := Aside0.mk hc0
  clear hr0 hc0
  have HB := Aside0.mk (Below.refl w.heap.size w)
  have H : ((norialaw1_known.f k).bind fun t220 => (if t220 = true then (if (l0.length : Int) > 600 then (some true) else ((num_Sum.f k l0).bind fun t221 => ((noriaref11_Sum.f k l0).bind fun t222 => (if t221 = t222 then (if (l0.length : Int) = 0 then (some true) else ((some (([] : List Int) : List Int)).bind fun y223 => (if y223.length + l0.length < 140737488355328 then ((some (y223 ++ l0 : List Int)).bind fun y226 => (if (wrap64 (8 * (y226.length : Int))) = 0 then (none) else (if 0 ≤ (wrap64 (Int.tdiv (Int.tmod (wrap64 (a1)) (wrap64 (8 * (y226.length : Int)))) 8)) then (if (wrap64 (Int.tdiv (Int.tmod (wrap64 (a1)) (wrap64 (8 * (y226.length : Int)))) 8)) < (y226.length : Int) then (if 0 ≤ (IntKind.u64.wrap (Int.tmod (Int.tmod (wrap64 (a1)) (wrap64 (8 * (y226.length : Int)))) 8)) then ((num_Put4.f l0 t221).bind fun t231 => ((num_Get4.f k t231 (l0.length : Int)).bind fun bt234 => ((num_Sum.f k (y226.set ((wrap64 (Int.tdiv (Int.tmod (wrap64 (a1)) (wrap64 (8 * (y226.length : Int)))) 8)) : Int).toNat (Go.bits .xor .u8 (rd y226 (wrap64 (Int.tdiv (Int.tmod (wrap64 (a1)) (wrap64 (8 * (y226.length : Int)))) 8))) (shl .u8 1 (IntKind.u64.wrap (Int.tmod (Int.tmod (wrap64 (a1)) (wrap64 (8 * (y226.length : Int)))) 8)))))).bind fun t237 => (if t237 = t221 then (none) else (if bt234.2.2 = 0 then (if bt234.2.1 = 4 then (some (bt234.1 == t221)) else (none)) else (none)))))) else (none)) else (none)) else (none)))) else (none)))) else (none))))) else (none))) = some r := h
  clear h
  replace H := Option.bind_eq_some_iff.mp H
  obtain ⟨t220, A30, H⟩ := H
  replace H : (if t220 = true then (if (l0.length : Int) > 600 then (some true) else ((num_Sum.f k l0).bind fun t221 => ((noriaref11_Sum.f k l0).bind fun t222 => (if t221 = t222 then (if (l0.length : Int) = 0 then (some true) else ((some (([] : List Int) : List Int)).bind fun y223 => (if y223.length + l0.length < 140737488355328 then ((some (y223 ++ l0 : List Int)).bind fun y226 => (if (wrap64 (8 * (y226.length : Int))) = 0 then (none) else (if 0 ≤ (wrap64 (Int.tdiv (Int.tmod (wrap64 (a1)) (wrap64 (8 * (y226.length : Int)))) 8)) then (if (wrap64 (Int.tdiv (Int.tmod (wrap64 (a1)) (wrap64 (8 * (y226.length : Int)))) 8)) < (y226.length : Int) then (if 0 ≤ (IntKind.u64.wrap (Int.tmod (Int.tmod (wrap64 (a1)) (wrap64 (8 * (y226.length : Int)))) 8)) then ((num_Put4.f l0 t221).bind fun t231 => ((num_Get4.f k t231 (l0.length : Int)).bind fun bt234 => ((num_Sum.f k (y226.set ((wrap64 (Int.tdiv (Int.tmod (wrap64 (a1)) (wrap64 (8 * (y226.length : Int)))) 8)) : Int).toNat (Go.bits .xor .u8 (rd y226 (wrap64 (Int.tdiv (Int.tmod (wrap64 (a1)) (wrap64 (8 * (y226.length : Int)))) 8))) (shl .u8 1 (IntKind.u64.wrap (Int.tmod (Int.tmod (wrap64 (a1)) (wrap64 (8 * (y226.length : Int)))) 8)))))).bind fun t237 => (if t237 = t221 then (none) else (if bt234.2.2 = 0 then (if bt234.2.1 = 4 then (some (bt234.1 == t221)) else (none)) else (none)))))) else (none)) else (none)) else (none)))) else (none)))) else (none))))) else (none)) = some r := H
  have A3 := Aside0.mk A30
  clear A30
  by_cases c4 : t220 = true
  · subst c4
    have H1 : (if (l0.length : Int) > 600 then (some true) else ((num_Sum.f k l0).bind fun t221 => ((noriaref11_Sum.f k l0).bind fun t222 => (if t221 = t222 then (if (l0.length : Int) = 0 then (some true) else ((some (([] : List Int) : List Int)).bind fun y223 => (if y223.length + l0.length < 140737488355328 then ((some (y223 ++ l0 : List Int)).bind fun y226 => (if (wrap64 (8 * (y226.length : Int))) = 0 then (none) else (if 0 ≤ (wrap64 (Int.tdiv (Int.tmod (wrap64 (a1)) (wrap64 (8 * (y226.length : Int)))) 8)) then (if (wrap64 (Int.tdiv (Int.tmod (wrap64 (a1)) (wrap64 (8 * (y226.length : Int)))) 8)) < (y226.length : Int) then (if 0 ≤ (IntKind.u64.wrap (Int.tmod (Int.tmod (wrap64 (a1)) (wrap64 (8 * (y226.length : Int)))) 8)) then ((num_Put4.f l0 t221).bind fun t231 => ((num_Get4.f k t231 (l0.length : Int)).bind fun bt234 => ((num_Sum.f k (y226.set ((wrap64 (Int.tdiv (Int.tmod (wrap64 (a1)) (wrap64 (8 * (y226.length : Int)))) 8)) : Int).toNat (Go.bits .xor .u8 (rd y226 (wrap64 (Int.tdiv (Int.tmod (wrap64 (a1)) (wrap64 (8 * (y226.length : Int)))) 8))) (shl .u8 1 (IntKind.u64.wrap (Int.tmod (Int.tmod (wrap64 (a1)) (wrap64 (8 * (y226.length : Int)))) 8)))))).bind fun t237 => (if t237 = t221 then (none) else (if bt234.2.2 = 0 then (if bt234.2.1 = 4 then (some (bt234.1 == t221)) else (none)) else (none)))))) else (none)) else (none)) else (none)))) else (none)))) else (none))))) = some r := by rw [if_pos rfl] at H; exact H
    clear H
    have H := H1
    clear H1
    by_cases c5 : (l0.length : Int) > 600
    · rw [if_pos c5] at H
      have c5b0 : decide (600 < (l0.length : Int)) = true := decide_eq_true c5
      have c5b1 : decide (600 < l0.length) = true := decide_eq_true (by omega)
      clear c5
      obtain rfl := Option.some.inj H
      go_enter Try.func6, Try.ntmps6
      go_wp2_with (first | ((with_reducible refine gate_callee (f := 9) rfl ?_); refine goesL_ (some 11) rfl rfl Try.func9 (by kernel_rfl) rfl #[] rfl (by (try simp only [List.map_toArray, List.map_cons, List.map_nil]); first | done | rfl | (simp only [List.length_drop, List.length_take]; rfl)) ?_; (with_reducible refine (norialaw1_known.calls k  true _ A3.out).mono ?_); rintro e w6 ⟨rfl, hb⟩; refine ⟨_, rfl, ?_⟩; have n0_ := Aside0.mk (below_step (by repeat (first | (with_reducible first | exact HB.out | apply below_alloc | apply pw_below_drewN | apply below_drew1) | exact HB.out)) hb); clear HB; have HB := n0_; clear n0_; (try clear hb); (try clear hb2); (try clear hk); (try clear hi)))
      go_ret
      exact ⟨by first | rfl | (simp [errW_none, errW_some] <;> rfl) | (simp [*, errW_none, errW_some] <;> rfl), by repeat (first | (with_reducible first | exact HB.out | apply below_alloc | apply pw_below_drewN | apply below_drew1) | exact HB.out)⟩
    · rw [if_neg c5] at H
      have c5b0 : decide (600 < (l0.length : Int)) = false := decide_eq_false c5
      have c5b1 : decide (600 < l0.length) = false := decide_eq_false (by omega)
      clear c5
      replace H := Option.bind_eq_some_iff.mp H
      obtain ⟨t221, A70, H⟩ := H
      replace H : ((noriaref11_Sum.f k l0).bind fun t222 => (if t221 = t222 then (if (l0.length : Int) = 0 then (some true) else ((some (([] : List Int) : List Int)).bind fun y223 => (if y223.length + l0.length < 140737488355328 then ((some (y223 ++ l0 : List Int)).bind fun y226 => (if (wrap64 (8 * (y226.length : Int))) = 0 then (none) else (if 0 ≤ (wrap64 (Int.tdiv (Int.tmod (wrap64 (a1)) (wrap64 (8 * (y226.length : Int)))) 8)) then (if (wrap64 (Int.tdiv (Int.tmod (wrap64 (a1)) (wrap64 (8 * (y226.length : Int)))) 8)) < (y226.length : Int) then (if 0 ≤ (IntKind.u64.wrap (Int.tmod (Int.tmod (wrap64 (a1)) (wrap64 (8 * (y226.length : Int)))) 8)) then ((num_Put4.f l0 t221).bind fun t231 => ((num_Get4.f k t231 (l0.length : Int)).bind fun bt234 => ((num_Sum.f k (y226.set ((wrap64 (Int.tdiv (Int.tmod (wrap64 (a1)) (wrap64 (8 * (y226.length : Int)))) 8)) : Int).toNat (Go.bits .xor .u8 (rd y226 (wrap64 (Int.tdiv (Int.tmod (wrap64 (a1)) (wrap64 (8 * (y226.length : Int)))) 8))) (shl .u8 1 (IntKind.u64.wrap (Int.tmod (Int.tmod (wrap64 (a1)) (wrap64 (8 * (y226.length : Int)))) 8)))))).bind fun t237 => (if t237 = t221 then (none) else (if bt234.2.2 = 0 then (if bt234.2.1 = 4 then (some (bt234.1 == t221)) else (none)) else (none)))))) else (none)) else (none)) else (none)))) else (none)))) else (none))) = some r := H
      have A7 := Aside0.mk A70
      clear A70
      replace H := Option.bind_eq_some_iff.mp H
      obtain ⟨t222, A80, H⟩ := H
      replace H : (if t221 = t222 then (if (l0.length : Int) = 0 then (some true) else ((some (([] : List Int) : List Int)).bind fun y223 => (if y223.length + l0.length < 140737488355328 then ((some (y223 ++ l0 : List Int)).bind fun y226 => (if (wrap64 (8 * (y226.length : Int))) = 0 then (none) else (if 0 ≤ (wrap64 (Int.tdiv (Int.tmod (wrap64 (a1)) (wrap64 (8 * (y226.length : Int)))) 8)) then (if (wrap64 (Int.tdiv (Int.tmod (wrap64 (a1)) (wrap64 (8 * (y226.length : Int)))) 8)) < (y226.length : Int) then (if 0 ≤ (IntKind.u64.wrap (Int.tmod (Int.tmod (wrap64 (a1)) (wrap64 (8 * (y226.length : Int)))) 8)) then ((num_Put4.f l0 t221).bind fun t231 => ((num_Get4.f k t231 (l0.length : Int)).bind fun bt234 => ((num_Sum.f k (y226.set ((wrap64 (Int.tdiv (Int.tmod (wrap64 (a1)) (wrap64 (8 * (y226.length : Int)))) 8)) : Int).toNat (Go.bits .xor .u8 (rd y226 (wrap64 (Int.tdiv (Int.tmod (wrap64 (a1)) (wrap64 (8 * (y226.length : Int)))) 8))) (shl .u8 1 (IntKind.u64.wrap (Int.tmod (Int.tmod (wrap64 (a1)) (wrap64 (8 * (y226.length : Int)))) 8)))))).bind fun t237 => (if t237 = t221 then (none) else (if bt234.2.2 = 0 then (if bt234.2.1 = 4 then (some (bt234.1 == t221)) else (none)) else (none)))))) else (none)) else (none)) else (none)))) else (none)))) else (none)) = some r := H
      have A8 := Aside0.mk A80
      clear A80
      by_cases c9 : t221 = t222
      · rw [if_pos c9] at H
        have c9b0 : (t221 == t222) = true := beq_iff_eq.mpr c9
        have c9b1 : (t221 != t222) = false := bne_eq_false_iff_eq.mpr c9
        clear c9
        by_cases c10 : (l0.length : Int) = 0
        · rw [if_pos c10] at H
          have c10b0 : ((l0.length : Int) == 0) = true := beq_iff_eq.mpr c10
          have c10b1 : ((l0.length : Int) != 0) = false := bne_eq_false_iff_eq.mpr c10
          clear c10
          obtain rfl := Option.some.inj H
          go_enter Try.func6, Try.ntmps6
          go_wp2_with (first | ((with_reducible refine gate_callee (f := 9) rfl ?_); refine goesL_ (some 11) rfl rfl Try.func9 (by kernel_rfl) rfl #[] rfl (by (try simp only [List.map_toArray, List.map_cons, List.map_nil]); first | done | rfl | (simp only [List.length_drop, List.length_take]; rfl)) ?_; (with_reducible refine (norialaw1_known.calls k  true _ A3.out).mono ?_); rintro e w11 ⟨rfl, hb⟩; refine ⟨_, rfl, ?_⟩; have n0_ := Aside0.mk (below_step (by repeat (first | (with_reducible first | exact HB.out | apply below_alloc | apply pw_below_drewN | apply below_drew1) | exact HB.out)) hb); clear HB; have HB := n0_; clear n0_; (try clear hb); (try clear hb2); (try clear hk); (try clear hi)) | (go_at_call 20; (with_reducible refine (num_Sum.calls k _ _ l0 t221 _ ?side1 ?side2 A7.out).mono ?_); (case side1 => repeat (first | exact (Kd.C_below HR0.out HB.out) | (with_reducible refine Kd.C_alloc ?_ _) | (with_reducible refine Kd.C_drewN ?_ _) | (with_reducible refine Kd.C_drew ?_))); (case side2 => exact HC0.out); rintro e w' ⟨rfl, ⟨nd, rfl⟩⟩) | (go_at_call 21; (with_reducible refine (noriaref11_Sum.calls k _ _ l0 t222 _ ?side1 ?side2 A8.out).mono ?_); (case side1 => repeat (first | exact (Kd.C_below HR0.out (by repeat (first | (with_reducible first | exact HB.out | apply below_alloc | apply pw_below_drewN | apply below_drew1) | exact HB.out))) | (with_reducible refine Kd.C_alloc ?_ _) | (with_reducible refine Kd.C_drewN ?_ _) | (with_reducible refine Kd.C_drew ?_))); (case side2 => exact HC0.out); rintro e w' ⟨rfl, ⟨nd, rfl⟩⟩))
          go_ret
          exact ⟨by first | rfl | (simp [errW_none, errW_some] <;> rfl) | (simp [*, errW_none, errW_some] <;> rfl), by repeat (first | (with_reducible first | exact HB.out | apply below_alloc | apply pw_below_drewN | apply below_drew1) | exact HB.out)⟩
        · rw [if_neg c10] at H
          have c10b0 : ((l0.length : Int) == 0) = false := beq_eq_false_iff_ne.mpr c10
          have c10b1 : ((l0.length : Int) != 0) = true := bne_iff_ne.mpr c10
          have c10b2 : ¬ (l0 = []) := fun h_ => c10 (by rw [h_]; rfl)
          obtain ⟨y223, hy223⟩ : ∃ y_ : List Int, y_ = (([] : List Int)) := ⟨_, rfl⟩
          replace H : (if y223.length + l0.length < 140737488355328 then ((some (y223 ++ l0 : List Int)).bind fun y226 => (if (wrap64 (8 * (y226.length : Int))) = 0 then (none) else (if 0 ≤ (wrap64 (Int.tdiv (Int.tmod (wrap64 (a1)) (wrap64 (8 * (y226.length : Int)))) 8)) then (if (wrap64 (Int.tdiv (Int.tmod (wrap64 (a1)) (wrap64 (8 * (y226.length : Int)))) 8)) < (y226.length : Int) then (if 0 ≤ (IntKind.u64.wrap (Int.tmod (Int.tmod (wrap64 (a1)) (wrap64 (8 * (y226.length : Int)))) 8)) then ((num_Put4.f l0 t221).bind fun t231 => ((num_Get4.f k t231 (l0.length : Int)).bind fun bt234 => ((num_Sum.f k (y226.set ((wrap64 (Int.tdiv (Int.tmod (wrap64 (a1)) (wrap64 (8 * (y226.length : Int)))) 8)) : Int).toNat (Go.bits .xor .u8 (rd y226 (wrap64 (Int.tdiv (Int.tmod (wrap64 (a1)) (wrap64 (8 * (y226.length : Int)))) 8))) (shl .u8 1 (IntKind.u64.wrap (Int.tmod (Int.tmod (wrap64 (a1)) (wrap64 (8 * (y226.length : Int)))) 8)))))).bind fun t237 => (if t237 = t221 then (none) else (if bt234.2.2 = 0 then (if bt234.2.1 = 4 then (some (bt234.1 == t221)) else (none)) else (none)))))) else (none)) else (none)) else (none)))) else (none)) = some r := by first | (rw [hy223]; with_reducible exact H) | (have H2_ := (Option.bind_some _ _).symm.trans H; rw [hy223]; with_reducible exact H2_) | (have H2_ := (Option.bind_some _ _).symm.trans H; with_reducible exact H2_) | with_reducible exact H | (rw [hy223]; exact H) | exact H
          have Ny223 := Aside0.mk hy223
          clear hy223
          by_cases c12 : y223.length + l0.length < 140737488355328
          · rw [if_pos c12] at H
            have LMc12 := Aside0.mk c12
            clear c12
            obtain ⟨y226, hy226⟩ : ∃ y_ : List Int, y_ = (y223 ++ l0) := ⟨_, rfl⟩
            replace H : (if (wrap64 (8 * (y226.length : Int))) = 0 then (none) else (if 0 ≤ (wrap64 (Int.tdiv (Int.tmod (wrap64 (a1)) (wrap64 (8 * (y226.length : Int)))) 8)) then (if (wrap64 (Int.tdiv (Int.tmod (wrap64 (a1)) (wrap64 (8 * (y226.length : Int)))) 8)) < (y226.length : Int) then (if 0 ≤ (IntKind.u64.wrap (Int.tmod (Int.tmod (wrap64 (a1)) (wrap64 (8 * (y226.length : Int)))) 8)) then ((num_Put4.f l0 t221).bind fun t231 => ((num_Get4.f k t231 (l0.length : Int)).bind fun bt234 => ((num_Sum.f k (y226.set ((wrap64 (Int.tdiv (Int.tmod (wrap64 (a1)) (wrap64 (8 * (y226.length : Int)))) 8)) : Int).toNat (Go.bits .xor .u8 (rd y226 (wrap64 (Int.tdiv (Int.tmod (wrap64 (a1)) (wrap64 (8 * (y226.length : Int)))) 8))) (shl .u8 1 (IntKind.u64.wrap (Int.tmod (Int.tmod (wrap64 (a1)) (wrap64 (8 * (y226.length : Int)))) 8)))))).bind fun t237 => (if t237 = t221 then (none) else (if bt234.2.2 = 0 then (if bt234.2.1 = 4 then (some (bt234.1 == t221)) else (none)) else (none)))))) else (none)) else (none)) else (none))) = some r := by first | (rw [hy226]; with_reducible exact H) | (have H2_ := (Option.bind_some _ _).symm.trans H; rw [hy226]; with_reducible exact H2_) | (have H2_ := (Option.bind_some _ _).symm.trans H; with_reducible exact H2_) | with_reducible exact H | (rw [hy226]; exact H) | exact H
            have Ny226 := Aside0.mk hy226
            clear hy226
            by_cases c13 : (wrap64 (8 * (y226.length : Int))) = 0
            · rw [if_pos c13] at H
              exact absurd H (by simp)
            · rw [if_neg c13] at H
              have c13b0 : ((wrap64 (8 * (y226.length : Int))) == 0) = false := beq_eq_false_iff_ne.mpr c13
              have c13b1 : ((wrap64 (8 * (y226.length : Int))) != 0) = true := bne_iff_ne.mpr c13
              obtain ⟨ji14, hji14⟩ : ∃ j_ : Int, (wrap64 (Int.tdiv (Int.tmod (wrap64 (a1)) (wrap64 (8 * (y226.length : Int)))) 8)) = j_ := ⟨_, rfl⟩
              replace H : (if 0 ≤ (ji14) then (if (ji14) < (y226.length : Int) then (if 0 ≤ (IntKind.u64.wrap (Int.tmod (Int.tmod (wrap64 (a1)) (wrap64 (8 * (y226.length : Int)))) 8)) then ((num_Put4.f l0 t221).bind fun t231 => ((num_Get4.f k t231 (l0.length : Int)).bind fun bt234 => ((num_Sum.f k (y226.set ((ji14) : Int).toNat (Go.bits .xor .u8 (rd y226 (ji14)) (shl .u8 1 (IntKind.u64.wrap (Int.tmod (Int.tmod (wrap64 (a1)) (wrap64 (8 * (y226.length : Int)))) 8)))))).bind fun t237 => (if t237 = t221 then (none) else (if bt234.2.2 = 0 then (if bt234.2.1 = 4 then (some (bt234.1 == t221)) else (none)) else (none)))))) else (none)) else (none)) else (none)) = some r := by first | (rw [hji14] at H; exact H) | (simp only [hji14] at H ⊢; exact H)
              (try rw [hji14] at A3)
              (try rw [hji14] at A7)
              (try rw [hji14] at A8)
              have hji14w : (IntKind.i64.wrap (Int.tdiv (Int.tmod (wrap64 (a1)) (wrap64 (8 * (y226.length : Int)))) 8)) = ji14 := (i64_w _).trans hji14
              by_cases c15 : 0 ≤ (ji14)
              · rw [if_pos c15] at H
                have c15b0 : decide (0 ≤ (ji14)) = true := decide_eq_true c15
                clear c15
                by_cases c16 : (ji14) < (y226.length : Int)
                · rw [if_pos c16] at H
                  have c16b0 : decide ((ji14) < (y226.length : Int)) = true := decide_eq_true c16
                  clear c16
                  obtain ⟨ji17, hji17⟩ : ∃ j_ : Int, (IntKind.u64.wrap (Int.tmod (Int.tmod (wrap64 (a1)) (wrap64 (8 * (y226.length : Int)))) 8)) = j_ := ⟨_, rfl⟩
                  replace H : (if 0 ≤ (ji17) then ((num_Put4.f l0 t221).bind fun t231 => ((num_Get4.f k t231 (l0.length : Int)).bind fun bt234 => ((num_Sum.f k (y226.set ((ji14) : Int).toNat (Go.bits .xor .u8 (rd y226 (ji14)) (shl .u8 1 (ji17))))).bind fun t237 => (if t237 = t221 then (none) else (if bt234.2.2 = 0 then (if bt234.2.1 = 4 then (some (bt234.1 == t221)) else (none)) else (none)))))) else (none)) = some r := by first | (rw [hji17] at H; exact H) | (simp only [hji17] at H ⊢; exact H)
                  (try rw [hji17] at A3)
                  (try rw [hji17] at A7)
                  (try rw [hji17] at A8)
                  by_cases c18 : 0 ≤ (ji17)
                  · rw [if_pos c18] at H
                    have c18b0 := eq_true c18
                    have c18b1 : decide (0 ≤ (ji17)) = true := decide_eq_true c18
                    clear c18
                    obtain ⟨ji19, hji19⟩ : ∃ j_ : Int, (shl .u8 1 (ji17)) = j_ := ⟨_, rfl⟩
                    replace H : ((num_Put4.f l0 t221).bind fun t231 => ((num_Get4.f k t231 (l0.length : Int)).bind fun bt234 => ((num_Sum.f k (y226.set ((ji14) : Int).toNat (Go.bits .xor .u8 (rd y226 (ji14)) (ji19)))).bind fun t237 => (if t237 = t221 then (none) else (if bt234.2.2 = 0 then (if bt234.2.1 = 4 then (some (bt234.1 == t221)) else (none)) else (none)))))) = some r := by first | (rw [hji19] at H; exact H) | (simp only [hji19] at H ⊢; exact H)
                    (try rw [hji19] at A3)
                    (try rw [hji19] at A7)
                    (try rw [hji19] at A8)
                    have hji19_ : (IntKind.u8.wrap (1 * 2 ^ min (ji17).toNat 8)) = ji19 := hji19
                    have hji19z : (ji17) ≤ 8 → (IntKind.u8.wrap (1 * 2 ^ (ji17).toNat)) = ji19 := shl_small hji19
                    have hji19u : (IntKind.u8.wrap (2 ^ min (ji17).toNat 8)) = ji19 := by have h_ := hji19_; rw [Int.one_mul] at h_; exact h_
                    have hji19v : (ji17) ≤ 8 → (IntKind.u8.wrap (2 ^ (ji17).toNat)) = ji19 := fun hle_ => by have h_ := hji19z hle_; rw [Int.one_mul] at h_; exact h_
                    obtain ⟨y230, hy230⟩ : ∃ y_ : List Int, y_ = (y226.set ((ji14) : Int).toNat (Go.bits .xor .u8 (rd y226 (ji14)) (ji19))) := ⟨_, rfl⟩
                    replace H : ((num_Put4.f l0 t221).bind fun t231 => ((num_Get4.f k t231 (l0.length : Int)).bind fun bt234 => ((num_Sum.f k y230).bind fun t237 => (if t237 = t221 then (none) else (if bt234.2.2 = 0 then (if bt234.2.1 = 4 then (some (bt234.1 == t221)) else (none)) else (none)))))) = some r := by first | (rw [hy230]; with_reducible exact H) | (have H2_ := (Option.bind_some _ _).symm.trans H; rw [hy230]; with_reducible exact H2_) | (have H2_ := (Option.bind_some _ _).symm.trans H; with_reducible exact H2_) | with_reducible exact H | (rw [hy230]; exact H) | exact H
                    have Ny230 := Aside0.mk hy230
                    clear hy230
                    replace H := Option.bind_eq_some_iff.mp H
                    obtain ⟨t231, A210, H⟩ := H
                    replace H : ((num_Get4.f k t231 (l0.length : Int)).bind fun bt234 => ((num_Sum.f k y230).bind fun t237 => (if t237 = t221 then (none) else (if bt234.2.2 = 0 then (if bt234.2.1 = 4 then (some (bt234.1 == t221)) else (none)) else (none))))) = some r := H
                    have A21 := Aside0.mk A210
                    clear A210
                    replace H := Option.bind_eq_some_iff.mp H
                    obtain ⟨⟨t234, t235, t236⟩, A220, H⟩ := H
                    replace H : ((num_Sum.f k y230).bind fun t237 => (if t237 = t221 then (none) else (if t236 = 0 then (if t235 = 4 then (some (t234 == t221)) else (none)) else (none)))) = some r := H
                    have A22 := Aside0.mk A220
                    clear A220
                    replace H := Option.bind_eq_some_iff.mp H
                    obtain ⟨t237, A230, H⟩ := H
                    replace H : (if t237 = t221 then (none) else (if t236 = 0 then (if t235 = 4 then (some (t234 == t221)) else (none)) else (none))) = some r := H
                    have A23 := Aside0.mk A230
                    clear A230
                    by_cases c24 : t237 = t221
                    · rw [if_pos c24] at H
                      exact absurd H (by simp)
                    · rw [if_neg c24] at H
                      have c24b0 : (t237 == t221) = false := beq_eq_false_iff_ne.mpr c24
                      have c24b1 : (t237 != t221) = true := bne_iff_ne.mpr c24
                      by_cases c25 : t236 = 0
                      · rw [if_pos c25] at H
                        have c25b0 : (t236 == 0) = true := beq_iff_eq.mpr c25
                        have c25b1 : (t236 != 0) = false := bne_eq_false_iff_eq.mpr c25
                        clear c25
                        by_cases c26 : t235 = 4
                        · rw [if_pos c26] at H
                          have c26b0 : (t235 == 4) = true := beq_iff_eq.mpr c26
                          have c26b1 : (t235 != 4) = false := bne_eq_false_iff_eq.mpr c26
                          clear c26
                          obtain rfl := Option.some.inj H
                          go_enter Try.func6, Try.ntmps6
                          go_wp2_with (first | ((with_reducible refine gate_callee (f := 9) rfl ?_); refine goesL_ (some 11) rfl rfl Try.func9 (by kernel_rfl) rfl #[] rfl (by (try simp only [List.map_toArray, List.map_cons, List.map_nil]); first | done | rfl | (simp only [List.length_drop, List.length_take]; rfl)) ?_; (with_reducible refine (norialaw1_known.calls k  true _ A3.out).mono ?_); rintro e w27 ⟨rfl, hb⟩; refine ⟨_, rfl, ?_⟩; have n0_ := Aside0.mk (below_step (by repeat (first | (with_reducible first | exact HB.out | apply below_alloc | apply pw_below_drewN | apply below_drew1) | exact HB.out)) hb); clear HB; have HB := n0_; clear n0_; (try clear hb); (try clear hb2); (try clear hk); (try clear hi)) | (go_at_call 20; (with_reducible refine (num_Sum.calls k _ _ l0 t221 _ ?side1 ?side2 A7.out).mono ?_); (case side1 => repeat (first | exact (Kd.C_below HR0.out HB.out) | (with_reducible refine Kd.C_alloc ?_ _) | (with_reducible refine Kd.C_drewN ?_ _) | (with_reducible refine Kd.C_drew ?_))); (case side2 => exact HC0.out); rintro e w' ⟨rfl, ⟨nd, rfl⟩⟩; (try (rw [drewN_self w27]; generalize hq_ : World.drewN w27 _ = w27; have n0_ : Aside0 (Below w.heap.size w w27) := ⟨by rw [← hq_]; exact (by repeat (first | (with_reducible first | exact HB.out | apply below_alloc | apply pw_below_drewN | apply below_drew1) | exact HB.out))⟩; clear HB hq_; have HB := n0_; clear n0_))) | (go_at_call 21; (with_reducible refine (noriaref11_Sum.calls k _ _ l0 t222 _ ?side1 ?side2 A8.out).mono ?_); (case side1 => repeat (first | exact (Kd.C_below HR0.out HB.out) | (with_reducible refine Kd.C_alloc ?_ _) | (with_reducible refine Kd.C_drewN ?_ _) | (with_reducible refine Kd.C_drew ?_))); (case side2 => exact HC0.out); rintro e w' ⟨rfl, ⟨nd, rfl⟩⟩; (try (rw [drewN_self w27]; generalize hq_ : World.drewN w27 _ = w27; have n0_ : Aside0 (Below w.heap.size w w27) := ⟨by rw [← hq_]; exact (by repeat (first | (with_reducible first | exact HB.out | apply below_alloc | apply pw_below_drewN | apply below_drew1) | exact HB.out))⟩; clear HB hq_; have HB := n0_; clear n0_))) | ((with_reducible refine gate_dst (N := 25) rfl ?_); refine Kd.R_lit (Kd.int .u8) _ 5 ?hg (N := 25) ?hd (xs := ([] : List Int)) (inner := []) (ok := fun _ => True) (okp := fun _ => True) ?hr ?hp (fun _ hk => hk) trivial (Below.refl _ _) (Nat.le_refl _) (by simp) ?_; (case hd => rfl); (case hg => rfl); (case hr => first | (go_simp; done) | (go_simp; rfl)); (case hp => exact (Reps.none _ _)); intro v224 w28 ho29 hb hg_ hnew_; clear hg_ hnew_; (first | rw [← Ny223.out] at ho29 | (simp only [Int.reduceToNat] at ho29; rw [← Ny223.out] at ho29)); have n0_ := Aside0.mk (Kd.R_lower ho29 (below_size (by repeat (first | (with_reducible first | exact HB.out | apply below_alloc | apply pw_below_drewN | apply below_drew1) | exact HB.out)))); have n1_ := Aside0.mk (below_step (by repeat (first | (with_reducible first | exact HB.out | apply below_alloc | apply pw_below_drewN | apply below_drew1) | exact HB.out)) hb); clear HB; have HO225 := n0_; have HB := n1_; clear n0_ n1_; clear hb ho29) | ((with_reducible refine gate_builtin (b := .append) (xs := #[.tmp 25, .tmp 26]) rfl ?_); at_builtin; refine Kd.R_append_rows (Kd.int .u8) (w0 := w) w.heap.size rfl (.tmp 25) (.tmp 26) 22 5 (.int .u8 0) 1 rfl Try.underlying22 info5 rfl (by decide) (by omega) v224 y223 l0 _ _ _ (fun _ => True) (fun _ => False) rfl rfl ?aO ?aR (fun _ _ h => h) (fun _ h => h.elim) ?aF ?aB ?aS ?aL ?_; (case aR => repeat (first | exact (Kd.C_below HR0.out HB.out) | (with_reducible refine Kd.C_alloc ?_ _) | (with_reducible refine Kd.C_drewN ?_ _) | (with_reducible refine Kd.C_drew ?_))); (case aB => exact (by repeat (first | (with_reducible first | exact HB.out | apply below_alloc | apply pw_below_drewN | apply below_drew1) | exact HB.out))); (case aF => exact (fun _ _ => trivial)); (case aO => exact (by (with_reducible repeat (first | apply Kd.R_alloc | apply Kd.R_drewN | apply Kd.R_drew)); exact HO225.out)); (case aS => exact (below_size (by repeat (first | (with_reducible first | exact HB.out | apply below_alloc | apply pw_below_drewN | apply below_drew1) | exact HB.out)))); (case aL => have := LMc12.out; omega); intro v227 w30 ho hb hg hat; rw [← Ny226.out] at ho; have n0_ := Aside0.mk (hb); have n1_ := Aside0.mk (ho); clear HB; clear HO225; have HB := n0_; have HO228 := n1_; clear n0_ n1_; clear ho hb hg hat; obtain ⟨Ao31, co31, eo31⟩ := Kd.R_slice HO228.out; subst eo31; have p229 : 0 ≤ ((ji14) : Int) := of_decide_eq_true (by first | (with_reducible assumption) | assumption); have q229 : (ji14) < (y226.length : Int) := of_decide_eq_true (by first | (with_reducible assumption) | assumption); obtain ⟨ad229, e229, hx229_0⟩ := Kd.at_int (Kd.R_reads' HO228.out).2.2 (ji14) p229 q229; cases e229; replace p229 := eq_true p229; replace q229 := eq_true q229; have p20 : 0 ≤ ((ji14) : Int) := of_decide_eq_true (by first | (with_reducible assumption) | assumption); have q20 : ((ji14) : Int) < ((y226.length : Int) : Int) := of_decide_eq_true (by first | (with_reducible assumption) | assumption); obtain ⟨go20, co20, eo20, gb20, gl20, cl20, HG20⟩ := Kd.R_form HO228.out (by omega); (first | cases eo20 | (injection eo20 with ea_ en_ ec_; (first | subst ea_ | (injection ea_ with ea_; subst ea_)); subst ec_; clear en_)); have GB20 := Aside0.mk gb20; have GG20 := Aside0.mk HG20; clear gb20 gl20 HG20; (first | simp only [add_plain] at hx229_0 | skip); obtain ⟨hx20_0, hf20_0⟩ := Kd.R_celln 0 HO228.out ((ji14) : Int) p20 q20; replace p20 := eq_true p20; replace q20 := eq_true q20; obtain ⟨hy32_, hz32_⟩ := Kd.R_celln 0 HO228.out ((ji14) : Int) (of_decide_eq_true (by first | (with_reducible assumption) | assumption)) (of_decide_eq_true (by first | (with_reducible assumption) | assumption)); have HP32 := Kd.R_putg HO228.out ((ji14) : Int) (Go.bits .xor .u8 (rd y226 (ji14)) (ji19))) | ((with_reducible refine gate_store (t := 5) (p := 47) rfl ?_); refine store_event (t := 5) (p := 47) (v := ?vo_w33) (w1 := (w30.setCell ⟨go20, ((ji14) : Int).toNat, none⟩ (.int .u8 (Go.bits .xor .u8 (rd y226 (ji14)) (ji19))))) ?hg ?ho ?hn ?hr ?_; (case ho => rfl); (case hg => rfl); (case hn => rfl); (case hr => first | (go_simp; done) | (go_simp; rfl)); intro w33 hw; have hg : w30.grownBy w33 (some go20) := (by rw [hw]; exact HP32.2); have hp_ : Kd.R (Kd.int .u8) 5 w33 w.heap.size (fun _ => True) (.slice (some ⟨go20, 0, none⟩) y226.length co31) y230 := (by rw [hw, Ny230.out]; exact HP32.1); clear HP32; have n0_ := Aside0.mk (hp_); have n1_ := Aside0.mk ((by rw [hw]; exact below_set (HB.out) GB20.out : Below w.heap.size w w33)); clear HO228; clear HB; have HO228 := n0_; have HB := n1_; clear n0_ n1_; clear hg hw hp_) | ((with_reducible refine gate_callee (f := 22) rfl ?_); refine goesL_ (some 51) rfl rfl Try.func22 (by kernel_rfl) rfl #[.slice A0 l0.length c0, .int .u32 t221] rfl (by (try simp only [List.map_toArray, List.map_cons, List.map_nil]); first | done | rfl | (simp only [List.length_drop, List.length_take]; rfl)) ?_; (with_reducible refine (num_Put4.calls _ _ l0 t221 t231 _ ?side1 ?side2 A21.out).mono ?_); (case side1 => repeat (first | exact (Kd.C_below HR0.out HB.out) | (with_reducible refine Kd.C_alloc ?_ _) | (with_reducible refine Kd.C_drewN ?_ _) | (with_reducible refine Kd.C_drew ?_))); (case side2 => exact HC0.out); rintro e w34 ⟨v232, rfl, ho0, hb⟩; refine ⟨_, rfl, ?_⟩; have n0_ := Aside0.mk (Kd.R_elder' (by (with_reducible repeat (first | apply Kd.R_alloc | apply Kd.R_drewN | apply Kd.R_drew)); exact HO228.out) (Kd.R_base ho0) hb); have n1_ := Aside0.mk (Kd.R_lower (Kd.R_new' ho0 (Kd.R_lt (by (with_reducible repeat (first | apply Kd.R_alloc | apply Kd.R_drewN | apply Kd.R_drew)); exact HO228.out))) (below_size (by repeat (first | (with_reducible first | exact HB.out | apply below_alloc | apply pw_below_drewN | apply below_drew1) | exact HB.out)))); have n2_ := Aside0.mk (below_step (by repeat (first | (with_reducible first | exact HB.out | apply below_alloc | apply pw_below_drewN | apply below_drew1) | exact HB.out)) hb); clear HO228; clear HB; have HO228 := n0_; have HO233 := n1_; have HB := n2_; clear n0_ n1_ n2_; (try clear hb); (try clear hb2); (try clear hk); (try clear hi); (try clear ho0); obtain ⟨Ao35, co35, eo35⟩ := Kd.R_slice HO233.out; subst eo35) | (go_at_call 14; (with_reducible refine (num_Get4.calls k _ _ t231 (l0.length : Int) t234 t235 t236 _ ?side1 ?side2 A22.out).mono ?_); (case side1 => repeat (first | exact (Kd.R_reads' HO233.out).2.2 | (with_reducible refine Kd.C_alloc ?_ _) | (with_reducible refine Kd.C_drewN ?_ _) | (with_reducible refine Kd.C_drew ?_))); (case side2 => exact (Kd.R_reads' HO233.out).2.1); rintro e w' ⟨rfl, ⟨nd, rfl⟩⟩) | (go_at_call 20; refine calls_of_args (args' := #[.slice (some ⟨go20, 0, none⟩) y230.length co31]) (by first | (rw [show y230.length = y226.length from (Kd.R_reads' HO228.out).1.symm] <;> rfl) | rfl) ?_; (with_reducible refine (num_Sum.calls k _ _ y230 t237 _ ?side1 ?side2 A23.out).mono ?_); (case side1 => repeat (first | exact (Kd.R_reads' HO228.out).2.2 | (with_reducible refine Kd.C_alloc ?_ _) | (with_reducible refine Kd.C_drewN ?_ _) | (with_reducible refine Kd.C_drew ?_))); (case side2 => rw [show y230.length = y226.length from (Kd.R_reads' HO228.out).1.symm]; exact (Kd.R_reads' HO228.out).2.1); rintro e w' ⟨rfl, ⟨nd, rfl⟩⟩))
                          go_ret
                          exact ⟨by first | rfl | (simp [errW_none, errW_some] <;> rfl) | (simp only [← hji14, ← hji17, ← hji19]; first | rfl | (simp [errW_none, errW_some] <;> rfl)) | (simp [*, errW_none, errW_some] <;> rfl), by repeat (first | (with_reducible first | exact HB.out | apply below_alloc | apply pw_below_drewN | apply below_drew1) | exact HB.out)⟩
                        · rw [if_neg c26] at H
                          exact absurd H (by simp)
                      · rw [if_neg c25] at H
                        exact absurd H (by simp)
                  · rw [if_neg c18] at H
                    exact absurd H (by simp)
                · rw [if_neg c16] at H
                  exact absurd H (by simp)
              · rw [if_neg c15] at H
                exact absurd H (by simp)
          · rw [if_neg c12] at H
            exact absurd H (by simp)
      · rw [if_neg c9] at H
        exact absurd H (by simp)
  · replace c4 := Bool.eq_false_iff.mpr c4
    subst c4
    have H1 : (none) = some r := by rw [if_neg (show ¬ (false = true) by decide)] at H; exact H
    clear H
    have H := H1
    clear H1
    exact absurd H (by simp)

/-- THE ONE PURE STATEMENT of norialaw1_NumSums: yours. -/
def norialaw1_NumSums.Pure : Prop := ∀ (l0 : List Int) (a1 : Int), l0.length ≤ maxLen → l0.length * 1 ≤ 140737488351232 → (∀ x ∈ l0, (Lit.int .u8 x).wf = true) → (Lit.int .u16 a1).wf = true → ∃ k, norialaw1_NumSums.f k l0 a1 = some true
theorem norialaw1_NumSums.walk (P : norialaw1_NumSums.Pure) (a0 : Option Addr) (len0 cap0 : Nat) (z0 : List Int) (a1 : Int) (w : World) (w0 : (a0 = none ∧ len0 = 0 ∧ cap0 = 0 ∧ z0 = []) ∨ ∃ x, a0 = some x ∧ len0 ≤ cap0 ∧ cap0 ≤ maxLen ∧ z0.length = cap0 ∧ (∀ i, i < z0.length → w.cell? (x.add i) = some (.int .u8 (z0.getD i 0))) ∧ ∀ n ∈ z0, (Lit.int .u8 n).wf = true) (y0 : len0 * 1 ≤ 140737488351232) (w1 : (Lit.int .u16 a1).wf = true) :
    Calls Try.prog 6 #[.slice a0 len0 cap0, .int .u16 a1] w fun e w' => e = .returned (.bool true) ∧ Below w.heap.size w w' := by
  obtain ⟨l0, rfl, hr0, hm0, hw0, hc0⟩ := ReadsInt.ofRowC w0
  obtain ⟨k, h⟩ := P l0 a1 hm0 y0 hw0 w1
  refine (norialaw1_NumSums.calls k _ _ l0 a1 true w (Kd.C_of_reads (d := (0 : Int)) (h1 := fun _ => rfl) hr0) hc0 h).mono ?_
  rintro e w' ⟨rfl, hd⟩
  exact ⟨rfl, hd⟩

/-! ### norialaw1_NumRows: function 7 -/
mutual
def norialaw1_NumRows.l0 : Nat → List Int → Int → List Int → List Int → Int → Option (Bool)
  | 0, _, _, _, _, _ => none
  | k + 1, x0, x1, x5, x6, x7 => if x7 < (x0.length : Int) then (if 0 ≤ x7 then ((num_Put.f k x5 (rd x0 x7)).bind fun t240 => (if x6.length < 17592186044416 then (norialaw1_NumRows.l0 k x0 x1 t240 (x6 ++ [(t240.length : Int)]) (wrap64 (x7 + 1))) else (none))) else (none)) else (if (wrap64 ((x5.length : Int) + 1)) = 0 then (none) else (norialaw1_NumRows.l1 k x0 x5 x6 (Int.tmod (wrap64 (x1)) (wrap64 ((x5.length : Int) + 1))) 0 0))
def norialaw1_NumRows.l1 : Nat → List Int → List Int → List Int → Int → Int → Int → Option (Bool)
  | 0, _, _, _, _, _, _ => none
  | k + 1, x0, x5, x6, x8, x9, x10 => if x10 < (x0.length : Int) then (if 0 ≤ x8 then (if x8 ≤ (x5.length : Int) then ((num_Get.f k (x5.take (x8 : Int).toNat) x9).bind fun bt250 => (if 0 ≤ x10 then (if x10 < (x6.length : Int) then (if (rd x6 x10) > x8 then (if bt250.2.2 = 5 then (if bt250.1 = 0 then (some (bt250.2.1 == 0)) else (none)) else (none)) else (if bt250.2.2 = 0 then (if bt250.1 = (rd x0 x10) then (if (wrap64 (x9 + bt250.2.1)) = (rd x6 x10) then (norialaw1_NumRows.l1 k x0 x5 x6 x8 (wrap64 (x9 + bt250.2.1)) (wrap64 (x10 + 1))) else (none)) else (none)) else (none))) else (none)) else (none))) else (none)) else (none)) else (some (x9 == (x5.length : Int)))
end
def norialaw1_NumRows.f (k : Nat) (l0 : List Int) (a1 : Int) : Option (Bool) := (norialaw1_known.f k).bind fun t238 => (if t238 = true then (if (l0.length : Int) > 60 then (some true) else (norialaw1_NumRows.l0 k l0 a1 ([] : List Int) ([] : List Int) 0)) else (none))
theorem norialaw1_NumRows.mono_l : ∀ k, (∀ y0 y1 y2 y3 y4, LeO (norialaw1_NumRows.l0 k y0 y1 y2 y3 y4) (norialaw1_NumRows.l0 (k + 1) y0 y1 y2 y3 y4)) ∧ (∀ y0 y1 y2 y3 y4 y5, LeO (norialaw1_NumRows.l1 k y0 y1 y2 y3 y4 y5) (norialaw1_NumRows.l1 (k + 1) y0 y1 y2 y3 y4 y5))
  | 0 => ⟨fun _ _ _ _ _ r h => by simp [norialaw1_NumRows.l0] at h, fun _ _ _ _ _ _ r h => by simp [norialaw1_NumRows.l1] at h⟩
  | k + 1 => by
    obtain ⟨ih0, ih1⟩ := norialaw1_NumRows.mono_l k
    refine ⟨?_, ?_⟩
    · intro y0 y1 y2 y3 y4
      unfold norialaw1_NumRows.l0
      repeat' first
      | (with_reducible exact ih0 _ _ _ _ _)
      | (with_reducible exact ih1 _ _ _ _ _ _)
      | (with_reducible exact norialaw1_known.mono _)
      | (with_reducible exact num_Get.mono _ _ _)
      | (with_reducible exact num_Put.mono _ _ _)
      | (with_reducible exact LeO.refl _)
      | (with_reducible exact LeO.none _)
      | (with_reducible refine LeO.ite ?_ ?_)
      | (with_reducible refine LeO.bind ?_ (fun _ => ?_))
      | exact ih0 _ _ _ _ _
      | exact ih1 _ _ _ _ _ _
      | exact norialaw1_known.mono _
      | exact num_Get.mono _ _ _
      | exact num_Put.mono _ _ _
      | exact LeO.none _
      | refine LeO.ite ?_ ?_
      | refine LeO.bind ?_ (fun _ => ?_)
    · intro y0 y1 y2 y3 y4 y5
      unfold norialaw1_NumRows.l1
      repeat' first
      | (with_reducible exact ih0 _ _ _ _ _)
      | (with_reducible exact ih1 _ _ _ _ _ _)
      | (with_reducible exact norialaw1_known.mono _)
      | (with_reducible exact num_Get.mono _ _ _)
      | (with_reducible exact num_Put.mono _ _ _)
      | (with_reducible exact LeO.refl _)
      | (with_reducible exact LeO.none _)
      | (with_reducible refine LeO.ite ?_ ?_)
      | (with_reducible refine LeO.bind ?_ (fun _ => ?_))
      | exact ih0 _ _ _ _ _
      | exact ih1 _ _ _ _ _ _
      | exact norialaw1_known.mono _
      | exact num_Get.mono _ _ _
      | exact num_Put.mono _ _ _
      | exact LeO.none _
      | refine LeO.ite ?_ ?_
      | refine LeO.bind ?_ (fun _ => ?_)
theorem norialaw1_NumRows.mono : ∀ a0 a1 k, LeO (norialaw1_NumRows.f k a0 a1) (norialaw1_NumRows.f (k + 1) a0 a1) := by
  intro a0 a1 k
  obtain ⟨ih0, ih1⟩ := norialaw1_NumRows.mono_l k
  unfold norialaw1_NumRows.f
  repeat' first
      | (with_reducible exact ih0 _ _ _ _ _)
      | (with_reducible exact ih1 _ _ _ _ _ _)
      | (with_reducible exact norialaw1_known.mono _)
      | (with_reducible exact num_Get.mono _ _ _)
      | (with_reducible exact num_Put.mono _ _ _)
      | (with_reducible exact LeO.refl _)
      | (with_reducible exact LeO.none _)
      | (with_reducible refine LeO.ite ?_ ?_)
      | (with_reducible refine LeO.bind ?_ (fun _ => ?_))
      | exact ih0 _ _ _ _ _
      | exact ih1 _ _ _ _ _ _
      | exact norialaw1_known.mono _
      | exact num_Get.mono _ _ _
      | exact num_Put.mono _ _ _
      | exact LeO.none _
      | refine LeO.ite ?_ ?_
      | refine LeO.bind ?_ (fun _ => ?_)
set_option maxHeartbeats 8000000 in
set_option maxRecDepth 100000 in
theorem norialaw1_NumRows.calls (k : Nat) (A0 : Option Addr) (c0 : Nat) (l0 : List Int) (a1 : Int) (r : Bool) (w : World) (hr0 : Kd.C (Kd.int .u64) w A0 l0.length l0) (hc0 : l0.length ≤ c0) (h : norialaw1_NumRows.f k l0 a1 = some r) :
    Calls Try.prog 7 #[.slice A0 l0.length c0, .int .u8 a1] w fun e w' => e = .returned (.bool r) ∧ Below w.heap.size w w' := by
  have HR0 := Aside0.mk hr0
  have HC0 := Aside0.mk hc0
  clear hr0 hc0
  have HB := Aside0.mk (Below.refl w.heap.size w)
  have H : ((norialaw1_known.f k).bind fun t238 => (if t238 = true then (if (l0.length : Int) > 60 then (some true) else (norialaw1_NumRows.l0 k l0 a1 ([] : List Int) ([] : List Int) 0)) else (none))) = some r := h
  clear h
  replace H := Option.bind_eq_some_iff.mp H
  obtain ⟨t238, A30, H⟩ := H
  replace H : (if t238 = true then (if (l0.length : Int) > 60 then (some true) else (norialaw1_NumRows.l0 k l0 a1 ([] : List Int) ([] : List Int) 0)) else (none)) = some r := H
  have A3 := Aside0.mk A30
  clear A30
  by_cases c4 : t238 = true
  · subst c4
    have H1 : (if (l0.length : Int) > 60 then (some true) else (norialaw1_NumRows.l0 k l0 a1 ([] : List Int) ([] : List Int) 0)) = some r := by rw [if_pos rfl] at H; exact H
    clear H
    have H := H1
    clear H1
    by_cases c5 : (l0.length : Int) > 60
    · rw [if_pos c5] at H
      have c5b0 : decide (60 < (l0.length : Int)) = true := decide_eq_true c5
      have c5b1 : decide (60 < l0.length) = true := decide_eq_true (by omega)
      clear c5
      obtain rfl := Option.some.inj H
      go_enter Try.func7, Try.ntmps7
      go_wp2_with (first | ((with_reducible refine gate_callee (f := 9) rfl ?_); refine goesL_ (some 14) rfl rfl Try.func9 (by kernel_rfl) rfl #[] rfl (by (try simp only [List.map_toArray, List.map_cons, List.map_nil]); first | done | rfl | (simp only [List.length_drop, List.length_take]; rfl)) ?_; (with_reducible refine (norialaw1_known.calls k  true _ A3.out).mono ?_); rintro e w6 ⟨rfl, hb⟩; refine ⟨_, rfl, ?_⟩; have n0_ := Aside0.mk (below_step (by repeat (first | (with_reducible first | exact HB.out | apply below_alloc | apply pw_below_drewN | apply below_drew1) | exact HB.out)) hb); clear HB; have HB := n0_; clear n0_; (try clear hb); (try clear hb2); (try clear hk); (try clear hi)))
      go_ret
      exact ⟨by first | rfl | (simp [errW_none, errW_some] <;> rfl) | (simp [*, errW_none, errW_some] <;> rfl), by repeat (first | (with_reducible first | exact HB.out | apply below_alloc | apply pw_below_drewN | apply below_drew1) | exact HB.out)⟩
    · rw [if_neg c5] at H
      have c5b0 : decide (60 < (l0.length : Int)) = false := decide_eq_false c5
      have c5b1 : decide (60 < l0.length) = false := decide_eq_false (by omega)
      clear c5
      have H' := Aside0.mk H
      clear H
      go_enter Try.func7, Try.ntmps7
      go_wp2_with (first | ((with_reducible refine gate_callee (f := 9) rfl ?_); refine goesL_ (some 14) rfl rfl Try.func9 (by kernel_rfl) rfl #[] rfl (by (try simp only [List.map_toArray, List.map_cons, List.map_nil]); first | done | rfl | (simp only [List.length_drop, List.length_take]; rfl)) ?_; (with_reducible refine (norialaw1_known.calls k  true _ A3.out).mono ?_); rintro e w7 ⟨rfl, hb⟩; refine ⟨_, rfl, ?_⟩; have n0_ := Aside0.mk (below_step (by repeat (first | (with_reducible first | exact HB.out | apply below_alloc | apply pw_below_drewN | apply below_drew1) | exact HB.out)) hb); clear HB; have HB := n0_; clear n0_; (try clear hb); (try clear hb2); (try clear hk); (try clear hi)))
      go_loopg [5, 6, 7] k (fun kq v5 v6 v7 w' => ∃ (x5_1 : List Int) (x6_1 : List Int) (x7_1 : Int), v7 = .int .i64 x7_1 ∧ Aside0 (norialaw1_NumRows.l0 kq l0 a1 x5_1 x6_1 x7_1 = some r) ∧ Aside0 (kq ≤ k) ∧ Aside0 (Kd.R (Kd.int .u8) 5 w' w.heap.size (fun _ => True) v5 x5_1) ∧ Aside0 (Kd.R (Kd.int .i64) 3 w' w.heap.size (fun _ => True) v6 x6_1) ∧ Aside0 (Below w.heap.size w w'))
      case atStart => exact ⟨(([] : List Int)), (([] : List Int)), (0), (by first | rfl | (simp; done) | (simp [*]; done)), H', ⟨Nat.le_refl _⟩, ⟨by first | exact Kd.R_nil _ _ _ _ _ | exact Kd.N_nil _ _ _ _ _ | exact Kd.V_nil _ _ _ _ _ | exact Kd.Q_nil _ _ _ _ _ | exact Kd.S_nil _ _ _ _ _⟩, ⟨by first | exact Kd.R_nil _ _ _ _ _ | exact Kd.N_nil _ _ _ _ _ | exact Kd.V_nil _ _ _ _ _ | exact Kd.Q_nil _ _ _ _ _ | exact Kd.S_nil _ _ _ _ _⟩, ⟨by repeat (first | (with_reducible first | exact HB.out | apply below_alloc | apply pw_below_drewN | apply below_drew1) | exact HB.out)⟩⟩
      case round =>
        clear H'
        try clear p2
        try clear c4
        try clear c5
        try clear c5b0
        try clear c5b1
        try clear c7
        obtain ⟨x5_1, x6_1, x7_1, rfl, HA, HK1, HO_5, HO_6, HB⟩ := hrel
        cases gk with
        | zero => exact absurd HA.out (by simp [norialaw1_NumRows.l0])
        | succ k1 =>
          have H := HA.out
          clear HA
          simp only [norialaw1_NumRows.l0] at H
          by_cases c8 : x7_1 < (l0.length : Int)
          · rw [if_pos c8] at H
            have c8b0 : decide (x7_1 < (l0.length : Int)) = true := decide_eq_true c8
            clear c8
            by_cases c9 : 0 ≤ x7_1
            · rw [if_pos c9] at H
              have c9b0 : decide (0 ≤ x7_1) = true := decide_eq_true c9
              clear c9
              replace H := Option.bind_eq_some_iff.mp H
              obtain ⟨t240, A100, H⟩ := H
              replace H : (if x6_1.length < 17592186044416 then (norialaw1_NumRows.l0 k1 l0 a1 t240 (x6_1 ++ [(t240.length : Int)]) (wrap64 (x7_1 + 1))) else (none)) = some r := H
              have A10 := Aside0.mk A100
              clear A100
              by_cases c11 : x6_1.length < 17592186044416
              · rw [if_pos c11] at H
                have LMc11 := Aside0.mk c11
                clear c11
                obtain ⟨y243, hy243⟩ : ∃ y_ : List Int, y_ = (x6_1 ++ [(t240.length : Int)]) := ⟨_, rfl⟩
                replace H : (norialaw1_NumRows.l0 k1 l0 a1 t240 y243 (wrap64 (x7_1 + 1))) = some r := by first | (rw [hy243]; with_reducible exact H) | (have H2_ := (Option.bind_some _ _).symm.trans H; rw [hy243]; with_reducible exact H2_) | (have H2_ := (Option.bind_some _ _).symm.trans H; with_reducible exact H2_) | with_reducible exact H | (rw [hy243]; exact H) | exact H
                have Ny243 := Aside0.mk hy243
                clear hy243
                have H' := Aside0.mk H
                clear H
                have p239 : 0 ≤ (x7_1 : Int) := of_decide_eq_true (by first | (with_reducible assumption) | assumption)
                have q239 : x7_1 < (l0.length : Int) := of_decide_eq_true (by first | (with_reducible assumption) | assumption)
                obtain ⟨ad239, e239, hx239_0⟩ := Kd.at_int HR0.out x7_1 p239 q239
                cases e239
                replace hx239_0 := (HB.out.cell (World.block_lt_of_cell? w _ hx239_0)).trans hx239_0
                replace p239 := eq_true p239
                replace q239 := eq_true q239
                obtain ⟨Ao12, co12, eo12⟩ := Kd.R_slice HO_5.out
                subst eo12
                go_wp2_with (first | ((with_reducible refine gate_callee (f := 10) rfl ?_); refine goesL_ (some 30) rfl rfl Try.func10 (by kernel_rfl) rfl #[.slice Ao12 x5_1.length co12, .int .u64 (rd l0 x7_1)] rfl (by (try simp only [List.map_toArray, List.map_cons, List.map_nil]); first | done | rfl | (simp only [List.length_drop, List.length_take]; rfl)) ?_; (with_reducible refine (num_Put.calls k1 _ _ x5_1 (rd l0 x7_1) t240 _ ?side1 ?side2 A10.out).mono ?_); (case side1 => repeat (first | exact (Kd.R_reads' HO_5.out).2.2 | (with_reducible refine Kd.C_alloc ?_ _) | (with_reducible refine Kd.C_drewN ?_ _) | (with_reducible refine Kd.C_drew ?_))); (case side2 => exact (Kd.R_reads' HO_5.out).2.1); rintro e w13 ⟨v241, rfl, ho0, hb⟩; refine ⟨_, rfl, ?_⟩; have n0_ := Aside0.mk (Kd.R_elder' (by (with_reducible repeat (first | apply Kd.R_alloc | apply Kd.R_drewN | apply Kd.R_drew)); exact HO_5.out) (Kd.R_base ho0) hb); have n1_ := Aside0.mk (Kd.R_below (by (with_reducible repeat (first | apply Kd.R_alloc | apply Kd.R_drewN | apply Kd.R_drew)); exact HO_6.out) hb); have n2_ := Aside0.mk (Kd.R_lower (Kd.R_new' ho0 (Kd.R_lt (by (with_reducible repeat (first | apply Kd.R_alloc | apply Kd.R_drewN | apply Kd.R_drew)); exact HO_5.out))) (below_size (by repeat (first | (with_reducible first | exact HB.out | apply below_alloc | apply pw_below_drewN | apply below_drew1) | exact HB.out)))); have n3_ := Aside0.mk (below_step (by repeat (first | (with_reducible first | exact HB.out | apply below_alloc | apply pw_below_drewN | apply below_drew1) | exact HB.out)) hb); clear HO_5; clear HO_6; clear HB; have HO_5 := n0_; have HO_6 := n1_; have HO242 := n2_; have HB := n3_; clear n0_ n1_ n2_ n3_; (try clear hb); (try clear hb2); (try clear hk); (try clear hi); (try clear ho0); obtain ⟨Ao14, co14, eo14⟩ := Kd.R_slice HO242.out; subst eo14) | ((with_reducible refine gate_builtin (b := .append) (xs := #[.tmp 31, .tmp 34]) rfl ?_); at_builtin; refine Kd.R_append (Kd.int .i64) (w0 := w) w.heap.size rfl (.tmp 31) (.tmp 34) 47 3 (.int .i64 0) 8 rfl Try.underlying47 info3 rfl (by decide) (by omega) u6 x6_1 (t240.length : Int) [.int .i64 (t240.length : Int)] (fun _ => True) (fun _ => False) rfl rfl ?aP (fun _ hk => hk.elim) ?aF ?aO ?aB ?aS ?aL ?_; (case aP => exact rfl); (case aB => exact (by repeat (first | (with_reducible first | exact HB.out | apply below_alloc | apply pw_below_drewN | apply below_drew1) | exact HB.out))); (case aF => exact (fun _ _ => trivial)); (case aO => exact (by (with_reducible repeat (first | apply Kd.R_alloc | apply Kd.R_drewN | apply Kd.R_drew)); exact HO_6.out)); (case aS => exact (below_size (by repeat (first | (with_reducible first | exact HB.out | apply below_alloc | apply pw_below_drewN | apply below_drew1) | exact HB.out)))); (case aL => have := LMc11.out; omega); intro v244 w15 ho hb hg hat; rw [← Ny243.out] at ho; have n0_ := Aside0.mk (Kd.R_over' (by (with_reducible repeat (first | apply Kd.R_alloc | apply Kd.R_drewN | apply Kd.R_drew)); exact HO_5.out) (Kd.R_typed (by (with_reducible repeat (first | apply Kd.R_alloc | apply Kd.R_drewN | apply Kd.R_drew)); exact HO_6.out)) (by decide) hg); have n1_ := Aside0.mk (Kd.R_over' (by (with_reducible repeat (first | apply Kd.R_alloc | apply Kd.R_drewN | apply Kd.R_drew)); exact HO242.out) (Kd.R_typed (by (with_reducible repeat (first | apply Kd.R_alloc | apply Kd.R_drewN | apply Kd.R_drew)); exact HO_6.out)) (by decide) hg); have n2_ := Aside0.mk (hb); have n3_ := Aside0.mk (ho); clear HO_5; clear HO242; clear HB; clear HO_6; have HO_5 := n0_; have HO242 := n1_; have HB := n2_; have HO245 := n3_; clear n0_ n1_ n2_ n3_; clear ho hb hg hat))
                go_roundg k1
                case measure => have := HK1.out; omega
                case rel => exact ⟨(t240), (y243), (wrap64 (x7_1 + 1)), (by first | rfl | (simp; done) | (simp [*]; done)), H', ⟨by have := HK1.out; omega⟩, ⟨by (with_reducible repeat (first | apply Kd.R_alloc | apply Kd.R_drewN | apply Kd.R_drew)); exact Kd.R_mono HO242.out (fun _ hk => trivial)⟩, ⟨by (with_reducible repeat (first | apply Kd.R_alloc | apply Kd.R_drewN | apply Kd.R_drew)); exact HO245.out⟩, ⟨by repeat (first | (with_reducible first | exact HB.out | apply below_alloc | apply pw_below_drewN | apply below_drew1) | exact HB.out)⟩⟩
              · rw [if_neg c11] at H
                exact absurd H (by simp)
            · rw [if_neg c9] at H
              exact absurd H (by simp)
          · rw [if_neg c8] at H
            have c8b0 : decide (x7_1 < (l0.length : Int)) = false := decide_eq_false c8
            clear c8
            by_cases c16 : (wrap64 ((x5_1.length : Int) + 1)) = 0
            · rw [if_pos c16] at H
              exact absurd H (by simp)
            · rw [if_neg c16] at H
              have c16b0 : ((wrap64 ((x5_1.length : Int) + 1)) == 0) = false := beq_eq_false_iff_ne.mpr c16
              have c16b1 : ((wrap64 ((x5_1.length : Int) + 1)) != 0) = true := bne_iff_ne.mpr c16
              have H' := Aside0.mk H
              clear H
              obtain ⟨Ao17, co17, eo17⟩ := Kd.R_slice HO_5.out
              subst eo17
              go_wp2
              go_loopg [9, 10] k1 (fun kq v9 v10 w' => ∃ (x9_2 : Int) (x10_2 : Int), v9 = .int .i64 x9_2 ∧ v10 = .int .i64 x10_2 ∧ Aside0 (norialaw1_NumRows.l1 kq l0 x5_1 x6_1 (Int.tmod (wrap64 (a1)) (wrap64 ((x5_1.length : Int) + 1))) x9_2 x10_2 = some r) ∧ Aside0 (kq ≤ k1) ∧ Aside0 (Kd.R (Kd.int .u8) 5 w' w.heap.size (fun _ => True) (.slice Ao17 x5_1.length co17) x5_1) ∧ Aside0 (Kd.R (Kd.int .i64) 3 w' w.heap.size (fun _ => True) u6 x6_1) ∧ Aside0 (Below w.heap.size w w'))
              case atStart => exact ⟨(0), (0), (by first | rfl | (simp; done) | (simp [*]; done)), (by first | rfl | (simp; done) | (simp [*]; done)), H', ⟨Nat.le_refl _⟩, ⟨by (with_reducible repeat (first | apply Kd.R_alloc | apply Kd.R_drewN | apply Kd.R_drew)); exact HO_5.out⟩, ⟨by (with_reducible repeat (first | apply Kd.R_alloc | apply Kd.R_drewN | apply Kd.R_drew)); exact HO_6.out⟩, ⟨by repeat (first | (with_reducible first | exact HB.out | apply below_alloc | apply pw_below_drewN | apply below_drew1) | exact HB.out)⟩⟩
              case round =>
                clear H'
                try clear c1
                try clear p2
                try clear q2
                try clear hx2
                try clear c4
                try clear c5
                try clear c5b0
                try clear c5b1
                try clear p6
                try clear c7
                try clear c8
                try clear c8b0
                try clear c9
                try clear c9b0
                try clear c10
                try clear c11
                try clear c16
                try clear c16b0
                try clear c16b1
                try clear hx239_0
                try clear p2
                try clear p239
                try clear q239
                obtain ⟨x9_2, x10_2, rfl, rfl, HA, HK2, HO_5, HO_6, HB⟩ := hrel
                cases gk with
                | zero => exact absurd HA.out (by simp [norialaw1_NumRows.l1])
                | succ k2 =>
                  have H := HA.out
                  clear HA
                  simp only [norialaw1_NumRows.l1] at H
                  by_cases c18 : x10_2 < (l0.length : Int)
                  · rw [if_pos c18] at H
                    have c18b0 : decide (x10_2 < (l0.length : Int)) = true := decide_eq_true c18
                    clear c18
                    obtain ⟨ji19, hji19⟩ : ∃ j_ : Int, (Int.tmod (wrap64 (a1)) (wrap64 ((x5_1.length : Int) + 1))) = j_ := ⟨_, rfl⟩
                    replace H : (if 0 ≤ (ji19) then (if (ji19) ≤ (x5_1.length : Int) then ((num_Get.f k2 (x5_1.take ((ji19) : Int).toNat) x9_2).bind fun bt250 => (if 0 ≤ x10_2 then (if x10_2 < (x6_1.length : Int) then (if (rd x6_1 x10_2) > (ji19) then (if bt250.2.2 = 5 then (if bt250.1 = 0 then (some (bt250.2.1 == 0)) else (none)) else (none)) else (if bt250.2.2 = 0 then (if bt250.1 = (rd l0 x10_2) then (if (wrap64 (x9_2 + bt250.2.1)) = (rd x6_1 x10_2) then (norialaw1_NumRows.l1 k2 l0 x5_1 x6_1 (ji19) (wrap64 (x9_2 + bt250.2.1)) (wrap64 (x10_2 + 1))) else (none)) else (none)) else (none))) else (none)) else (none))) else (none)) else (none)) = some r := by first | (rw [hji19] at H; exact H) | (simp only [hji19] at H ⊢; exact H)
                    by_cases c20 : 0 ≤ (ji19)
                    · rw [if_pos c20] at H
                      have c20b0 := eq_true c20
                      have c20b1 : decide (0 ≤ (ji19)) = true := decide_eq_true c20
                      clear c20
                      by_cases c21 : (ji19) ≤ (x5_1.length : Int)
                      · rw [if_pos c21] at H
                        have c21b0 := eq_true c21
                        have c21b1 : decide ((ji19) ≤ (x5_1.length : Int)) = true := decide_eq_true c21
                        clear c21
                        obtain ⟨y246, hy246⟩ : ∃ y_ : List Int, y_ = (x5_1.take ((ji19) : Int).toNat) := ⟨_, rfl⟩
                        replace H : ((num_Get.f k2 y246 x9_2).bind fun bt250 => (if 0 ≤ x10_2 then (if x10_2 < (x6_1.length : Int) then (if (rd x6_1 x10_2) > (ji19) then (if bt250.2.2 = 5 then (if bt250.1 = 0 then (some (bt250.2.1 == 0)) else (none)) else (none)) else (if bt250.2.2 = 0 then (if bt250.1 = (rd l0 x10_2) then (if (wrap64 (x9_2 + bt250.2.1)) = (rd x6_1 x10_2) then (norialaw1_NumRows.l1 k2 l0 x5_1 x6_1 (ji19) (wrap64 (x9_2 + bt250.2.1)) (wrap64 (x10_2 + 1))) else (none)) else (none)) else (none))) else (none)) else (none))) = some r := by first | (rw [hy246]; with_reducible exact H) | (have H2_ := (Option.bind_some _ _).symm.trans H; rw [hy246]; with_reducible exact H2_) | (have H2_ := (Option.bind_some _ _).symm.trans H; with_reducible exact H2_) | with_reducible exact H | (rw [hy246]; exact H) | exact H
                        have Ny246 := Aside0.mk hy246
                        clear hy246
                        replace H := Option.bind_eq_some_iff.mp H
                        obtain ⟨⟨t250, t251, t252⟩, A220, H⟩ := H
                        replace H : (if 0 ≤ x10_2 then (if x10_2 < (x6_1.length : Int) then (if (rd x6_1 x10_2) > (ji19) then (if t252 = 5 then (if t250 = 0 then (some (t251 == 0)) else (none)) else (none)) else (if t252 = 0 then (if t250 = (rd l0 x10_2) then (if (wrap64 (x9_2 + t251)) = (rd x6_1 x10_2) then (norialaw1_NumRows.l1 k2 l0 x5_1 x6_1 (ji19) (wrap64 (x9_2 + t251)) (wrap64 (x10_2 + 1))) else (none)) else (none)) else (none))) else (none)) else (none)) = some r := H
                        have A22 := Aside0.mk A220
                        clear A220
                        by_cases c23 : 0 ≤ x10_2
                        · rw [if_pos c23] at H
                          have c23b0 : decide (0 ≤ x10_2) = true := decide_eq_true c23
                          clear c23
                          by_cases c24 : x10_2 < (x6_1.length : Int)
                          · rw [if_pos c24] at H
                            have c24b0 : decide (x10_2 < (x6_1.length : Int)) = true := decide_eq_true c24
                            clear c24
                            by_cases c25 : (rd x6_1 x10_2) > (ji19)
                            · rw [if_pos c25] at H
                              have c25b0 : decide ((ji19) < (rd x6_1 x10_2)) = true := decide_eq_true c25
                              clear c25
                              by_cases c26 : t252 = 5
                              · rw [if_pos c26] at H
                                have c26b0 : (t252 == 5) = true := beq_iff_eq.mpr c26
                                have c26b1 : (t252 != 5) = false := bne_eq_false_iff_eq.mpr c26
                                clear c26
                                by_cases c27 : t250 = 0
                                · rw [if_pos c27] at H
                                  have c27b0 : (t250 == 0) = true := beq_iff_eq.mpr c27
                                  have c27b1 : (t250 != 0) = false := bne_eq_false_iff_eq.mpr c27
                                  clear c27
                                  obtain rfl := Option.some.inj H
                                  have q28 : ((ji19) : Int) ≤ ((x5_1.length : Int) : Int) := of_decide_eq_true (by first | (with_reducible assumption) | assumption)
                                  obtain ⟨i028, hi028, _, hsz28, _⟩ := info_parts info5
                                  have hroom28 : x5_1.length ≤ co17 := (Kd.R_reads' HO_5.out).2.1
                                  have hC28 : Kd.C (Kd.int .u8) _ Ao17 x5_1.length x5_1 := (Kd.R_reads' HO_5.out).2.2
                                  have hcut28 := cut_to (P := Try.prog) 22 5 .i64 Try.underlying22 hi028 Ao17 x5_1.length co17 (ji19) (of_decide_eq_true (by first | (with_reducible assumption) | assumption)) q28 hroom28
                                  have hr28 := Kd.C_take (m := ((ji19) : Int).toNat) hC28 (by omega)
                                  have hy28 : y246.length = ((ji19) : Int).toNat := (by rw [Ny246.out, List.length_take]; omega)
                                  rw [← Ny246.out] at hr28
                                  rw [← hy28] at hcut28
                                  have HR249 := Aside0.mk hr28
                                  have HC249 := Aside0.mk (show y246.length ≤ co17 from by omega)
                                  clear hr28 hC28 hroom28 hi028 hsz28
                                  have KY28 := Aside0.mk hy28
                                  clear hy28
                                  have KL28 := Aside0.mk (show ((ji19) : Int).toNat ≤ x5_1.length from by omega)
                                  replace q28 := eq_true q28
                                  go_wp2_with (first | (go_at_call 11; (with_reducible refine (num_Get.calls k2 _ _ y246 x9_2 t250 t251 t252 _ ?side1 ?side2 A22.out).mono ?_); (case side1 => repeat (first | exact (by repeat (first | (with_reducible exact HR249.out) | (with_reducible refine Kd.C_alloc ?_ _) | (with_reducible refine Kd.C_drewN ?_ _) | (with_reducible refine Kd.C_drew ?_) | exact HR249.out)) | (with_reducible refine Kd.C_alloc ?_ _) | (with_reducible refine Kd.C_drewN ?_ _) | (with_reducible refine Kd.C_drew ?_))); (case side2 => exact HC249.out); rintro e w' ⟨rfl, ⟨nd, rfl⟩⟩; obtain ⟨Ao29, co29, eo29⟩ := Kd.R_slice HO_6.out; subst eo29; have p253 : 0 ≤ (x10_2 : Int) := of_decide_eq_true (by first | (with_reducible assumption) | assumption); have q253 : x10_2 < (x6_1.length : Int) := of_decide_eq_true (by first | (with_reducible assumption) | assumption); obtain ⟨ad253, e253, hx253_0⟩ := Kd.at_int (Kd.R_reads' HO_6.out).2.2 x10_2 p253 q253; cases e253; replace p253 := eq_true p253; replace q253 := eq_true q253))
                                  go_ret
                                  exact ⟨by first | rfl | (simp [errW_none, errW_some] <;> rfl) | (simp only [← hji19]; first | rfl | (simp [errW_none, errW_some] <;> rfl)) | (simp [*, errW_none, errW_some] <;> rfl), by repeat (first | (with_reducible first | exact HB.out | apply below_alloc | apply pw_below_drewN | apply below_drew1) | exact HB.out)⟩
                                · rw [if_neg c27] at H
                                  exact absurd H (by simp)
                              · rw [if_neg c26] at H
                                exact absurd H (by simp)
                            · rw [if_neg c25] at H
                              have c25b0 : decide ((ji19) < (rd x6_1 x10_2)) = false := decide_eq_false c25
                              clear c25
                              by_cases c30 : t252 = 0
                              · rw [if_pos c30] at H
                                have c30b0 : (t252 == 0) = true := beq_iff_eq.mpr c30
                                have c30b1 : (t252 != 0) = false := bne_eq_false_iff_eq.mpr c30
                                clear c30
                                by_cases c31 : t250 = (rd l0 x10_2)
                                · rw [if_pos c31] at H
                                  have c31b0 : (t250 == (rd l0 x10_2)) = true := beq_iff_eq.mpr c31
                                  have c31b1 : (t250 != (rd l0 x10_2)) = false := bne_eq_false_iff_eq.mpr c31
                                  clear c31
                                  by_cases c32 : (wrap64 (x9_2 + t251)) = (rd x6_1 x10_2)
                                  · rw [if_pos c32] at H
                                    have c32b0 : ((wrap64 (x9_2 + t251)) == (rd x6_1 x10_2)) = true := beq_iff_eq.mpr c32
                                    have c32b1 : ((wrap64 (x9_2 + t251)) != (rd x6_1 x10_2)) = false := bne_eq_false_iff_eq.mpr c32
                                    clear c32
                                    have H' := Aside0.mk H
                                    clear H
                                    have q33 : ((ji19) : Int) ≤ ((x5_1.length : Int) : Int) := of_decide_eq_true (by first | (with_reducible assumption) | assumption)
                                    obtain ⟨i033, hi033, _, hsz33, _⟩ := info_parts info5
                                    have hroom33 : x5_1.length ≤ co17 := (Kd.R_reads' HO_5.out).2.1
                                    have hC33 : Kd.C (Kd.int .u8) _ Ao17 x5_1.length x5_1 := (Kd.R_reads' HO_5.out).2.2
                                    have hcut33 := cut_to (P := Try.prog) 22 5 .i64 Try.underlying22 hi033 Ao17 x5_1.length co17 (ji19) (of_decide_eq_true (by first | (with_reducible assumption) | assumption)) q33 hroom33
                                    have hr33 := Kd.C_take (m := ((ji19) : Int).toNat) hC33 (by omega)
                                    have hy33 : y246.length = ((ji19) : Int).toNat := (by rw [Ny246.out, List.length_take]; omega)
                                    rw [← Ny246.out] at hr33
                                    rw [← hy33] at hcut33
                                    have HR249 := Aside0.mk hr33
                                    have HC249 := Aside0.mk (show y246.length ≤ co17 from by omega)
                                    clear hr33 hC33 hroom33 hi033 hsz33
                                    have KY33 := Aside0.mk hy33
                                    clear hy33
                                    have KL33 := Aside0.mk (show ((ji19) : Int).toNat ≤ x5_1.length from by omega)
                                    replace q33 := eq_true q33
                                    go_wp2_with (first | (go_at_call 11; (with_reducible refine (num_Get.calls k2 _ _ y246 x9_2 t250 t251 t252 _ ?side1 ?side2 A22.out).mono ?_); (case side1 => repeat (first | exact (by repeat (first | (with_reducible exact HR249.out) | (with_reducible refine Kd.C_alloc ?_ _) | (with_reducible refine Kd.C_drewN ?_ _) | (with_reducible refine Kd.C_drew ?_) | exact HR249.out)) | (with_reducible refine Kd.C_alloc ?_ _) | (with_reducible refine Kd.C_drewN ?_ _) | (with_reducible refine Kd.C_drew ?_))); (case side2 => exact HC249.out); rintro e w' ⟨rfl, ⟨nd, rfl⟩⟩; obtain ⟨Ao34, co34, eo34⟩ := Kd.R_slice HO_6.out; subst eo34; have p253 : 0 ≤ (x10_2 : Int) := of_decide_eq_true (by first | (with_reducible assumption) | assumption); have q253 : x10_2 < (x6_1.length : Int) := of_decide_eq_true (by first | (with_reducible assumption) | assumption); obtain ⟨ad253, e253, hx253_0⟩ := Kd.at_int (Kd.R_reads' HO_6.out).2.2 x10_2 p253 q253; cases e253; replace p253 := eq_true p253; replace q253 := eq_true q253; have p254 : 0 ≤ (x10_2 : Int) := of_decide_eq_true (by first | (with_reducible assumption) | assumption); have q254 : x10_2 < (l0.length : Int) := of_decide_eq_true (by first | (with_reducible assumption) | assumption); obtain ⟨ad254, e254, hx254_0⟩ := Kd.at_int HR0.out x10_2 p254 q254; cases e254; replace hx254_0 := (HB.out.cell (World.block_lt_of_cell? w _ hx254_0)).trans hx254_0; replace p254 := eq_true p254; replace q254 := eq_true q254; have p255 : 0 ≤ (x10_2 : Int) := of_decide_eq_true (by first | (with_reducible assumption) | assumption); have q255 : x10_2 < (x6_1.length : Int) := of_decide_eq_true (by first | (with_reducible assumption) | assumption); obtain ⟨ad255, e255, hx255_0⟩ := Kd.at_int (Kd.R_reads' HO_6.out).2.2 x10_2 p255 q255; obtain rfl : ad253 = ad255 := (by injection e255); replace p255 := eq_true p255; replace q255 := eq_true q255))
                                    first | go_roundg k2 | (simp only [← hji19] at H' ⊢; go_roundg k2)
                                    case measure => have := HK1.out; have := HK2.out; omega
                                    case rel => exact ⟨(wrap64 (x9_2 + t251)), (wrap64 (x10_2 + 1)), (by first | rfl | (simp; done) | (simp [*]; done)), (by first | rfl | (simp; done) | (simp [*]; done)), H', ⟨by have := HK1.out; have := HK2.out; omega⟩, ⟨by (with_reducible repeat (first | apply Kd.R_alloc | apply Kd.R_drewN | apply Kd.R_drew)); exact HO_5.out⟩, ⟨by (with_reducible repeat (first | apply Kd.R_alloc | apply Kd.R_drewN | apply Kd.R_drew)); exact HO_6.out⟩, ⟨by repeat (first | (with_reducible first | exact HB.out | apply below_alloc | apply pw_below_drewN | apply below_drew1) | exact HB.out)⟩⟩
                                  · rw [if_neg c32] at H
                                    exact absurd H (by simp)
                                · rw [if_neg c31] at H
                                  exact absurd H (by simp)
                              · rw [if_neg c30] at H
                                exact absurd H (by simp)
                          · rw [if_neg c24] at H
                            exact absurd H (by simp)
                        · rw [if_neg c23] at H
                          exact absurd H (by simp)
                      · rw [if_neg c21] at H
                        exact absurd H (by simp)
                    · rw [if_neg c20] at H
                      exact absurd H (by simp)
                  · rw [if_neg c18] at H
                    have c18b0 : decide (x10_2 < (l0.length : Int)) = false := decide_eq_false c18
                    clear c18
                    obtain rfl := Option.some.inj H
                    go_wp2
                    go_ret
                    exact ⟨by first | rfl | (simp [errW_none, errW_some] <;> rfl) | (simp [*, errW_none, errW_some] <;> rfl), by repeat (first | (with_reducible first | exact HB.out | apply below_alloc | apply pw_below_drewN | apply below_drew1) | exact HB.out)⟩
  · replace c4 := Bool.eq_false_iff.mpr c4
    subst c4
    have H1 : (none) = some r := by rw [if_neg (show ¬ (false = true) by decide)] at H; exact H
    clear H
    have H := H1
    clear H1
    exact absurd H (by simp)

/-- THE ONE PURE STATEMENT of norialaw1_NumRows: yours. -/
def norialaw1_NumRows.Pure : Prop := ∀ (l0 : List Int) (a1 : Int), l0.length ≤ maxLen → l0.length * 8 ≤ 140737488351232 → (∀ x ∈ l0, (Lit.int .u64 x).wf = true) → (Lit.int .u8 a1).wf = true → ∃ k, norialaw1_NumRows.f k l0 a1 = some true
theorem norialaw1_NumRows.walk (P : norialaw1_NumRows.Pure) (a0 : Option Addr) (len0 cap0 : Nat) (z0 : List Int) (a1 : Int) (w : World) (w0 : (a0 = none ∧ len0 = 0 ∧ cap0 = 0 ∧ z0 = []) ∨ ∃ x, a0 = some x ∧ len0 ≤ cap0 ∧ cap0 ≤ maxLen ∧ z0.length = cap0 ∧ (∀ i, i < z0.length → w.cell? (x.add i) = some (.int .u64 (z0.getD i 0))) ∧ ∀ n ∈ z0, (Lit.int .u64 n).wf = true) (y0 : len0 * 8 ≤ 140737488351232) (w1 : (Lit.int .u8 a1).wf = true) :
    Calls Try.prog 7 #[.slice a0 len0 cap0, .int .u8 a1] w fun e w' => e = .returned (.bool true) ∧ Below w.heap.size w w' := by
  obtain ⟨l0, rfl, hr0, hm0, hw0, hc0⟩ := ReadsInt.ofRowC w0
  obtain ⟨k, h⟩ := P l0 a1 hm0 y0 hw0 w1
  refine (norialaw1_NumRows.calls k _ _ l0 a1 true w (Kd.C_of_reads (d := (0 : Int)) (h1 := fun _ => rfl) hr0) hc0 h).mono ?_
  rintro e w' ⟨rfl, hd⟩
  exact ⟨rfl, hd⟩

end Go.Proofs.Ytfiihimbkjcflaa.PAll
