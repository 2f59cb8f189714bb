-- Printed by this session's own program (wip/tools/pp.py): out of the translation. Lean checks it.
import Derived.Test.YtfiihimbkjcflaaPAllx0
import Derived.Test.YtfiihimbkjcflaaPAllx1
import Derived.Test.YtfiihimbkjcflaaPAllx2
namespace Go.Proofs.Ytfiihimbkjcflaa.PAll
open Go.Proofs.Ytfiihimbkjcflaa.Help
open Go.RowKit Go.Proofs.YtfiihimbkjcflaaW.PrintWords Go.Proofs.YtfiihimbkjcflaaW.PrintLast Go.Proofs.YtfiihimbkjcflaaW.PrintMore
attribute [local go_sem] max2_int min2_int max_two min_two max_three min_three max_four min_four   -- for this text's walks alone
set_option linter.unusedVariables false
set_option linter.unusedSimpArgs false

/-! ### norialaw1_NumSizes: function 8 -/
def norialaw1_NumSizes.l0 : Nat → Int → Int → Int → Int → Int → Int → Option (Bool)
  | 0, _, _, _, _, _, _ => none
  | k + 1, x0, x1, x5, x6, x7, x8 => if x8 > 0 then (norialaw1_NumSizes.l0 k x0 x1 x5 x6 (wrap64 (x7 + 1)) (x8 / 128)) else (if x5 = x7 then (if x0 > x1 then (if x5 ≥ 1 then (some (decide (x5 ≤ 10))) else (none)) else (if x5 ≤ x6 then (if x5 ≥ 1 then (some (decide (x5 ≤ 10))) else (none)) else (none))) else (none))
def norialaw1_NumSizes.f (k : Nat) (a0 : Int) (a1 : Int) : Option (Bool) := (norialaw1_known.f k).bind fun t256 => (if t256 = true then ((num_Put.f k ([] : List Int) a0).bind fun t257 => ((num_Put.f k ([] : List Int) a1).bind fun t260 => (norialaw1_NumSizes.l0 k a0 a1 (t257.length : Int) (t260.length : Int) 1 (a0 / 128)))) else (none))
theorem norialaw1_NumSizes.mono_l : ∀ k, (∀ y0 y1 y2 y3 y4 y5, LeO (norialaw1_NumSizes.l0 k y0 y1 y2 y3 y4 y5) (norialaw1_NumSizes.l0 (k + 1) y0 y1 y2 y3 y4 y5))
  | 0 => fun _ _ _ _ _ _ r h => by simp [norialaw1_NumSizes.l0] at h
  | k + 1 => by
    have ih0 := norialaw1_NumSizes.mono_l k
    · intro y0 y1 y2 y3 y4 y5
      unfold norialaw1_NumSizes.l0
      repeat' first
      | (with_reducible exact ih0 _ _ _ _ _ _)
      | (with_reducible exact norialaw1_known.mono _)
      | (with_reducible exact num_Put.mono _ _ _)
      | (with_reducible exact LeO.refl _)
      | (with_reducible exact LeO.none _)
      | (with_reducible refine LeO.ite ?_ ?_)
      | (with_reducible refine LeO.bind ?_ (fun _ => ?_))
      | exact ih0 _ _ _ _ _ _
      | exact norialaw1_known.mono _
      | exact num_Put.mono _ _ _
      | exact LeO.none _
      | refine LeO.ite ?_ ?_
      | refine LeO.bind ?_ (fun _ => ?_)
theorem norialaw1_NumSizes.mono : ∀ a0 a1 k, LeO (norialaw1_NumSizes.f k a0 a1) (norialaw1_NumSizes.f (k + 1) a0 a1) := by
  intro a0 a1 k
  have ih0 := norialaw1_NumSizes.mono_l k
  unfold norialaw1_NumSizes.f
  repeat' first
      | (with_reducible exact ih0 _ _ _ _ _ _)
      | (with_reducible exact norialaw1_known.mono _)
      | (with_reducible exact num_Put.mono _ _ _)
      | (with_reducible exact LeO.refl _)
      | (with_reducible exact LeO.none _)
      | (with_reducible refine LeO.ite ?_ ?_)
      | (with_reducible refine LeO.bind ?_ (fun _ => ?_))
      | exact ih0 _ _ _ _ _ _
      | exact norialaw1_known.mono _
      | exact num_Put.mono _ _ _
      | exact LeO.none _
      | refine LeO.ite ?_ ?_
      | refine LeO.bind ?_ (fun _ => ?_)
set_option maxHeartbeats 8000000 in
set_option maxRecDepth 100000 in
theorem norialaw1_NumSizes.calls (k : Nat) (a0 : Int) (a1 : Int) (r : Bool) (w : World) (h : norialaw1_NumSizes.f k a0 a1 = some r) :
    Calls Try.prog 8 #[.int .u64 a0, .int .u64 a1] w fun e w' => e = .returned (.bool r) ∧ Below w.heap.size w w' := by
  have HB := Aside0.mk (Below.refl w.heap.size w)
  have H : ((norialaw1_known.f k).bind fun t256 => (if t256 = true then ((num_Put.f k ([] : List Int) a0).bind fun t257 => ((num_Put.f k ([] : List Int) a1).bind fun t260 => (norialaw1_NumSizes.l0 k a0 a1 (t257.length : Int) (t260.length : Int) 1 (a0 / 128)))) else (none))) = some r := h
  clear h
  replace H := Option.bind_eq_some_iff.mp H
  obtain ⟨t256, A30, H⟩ := H
  replace H : (if t256 = true then ((num_Put.f k ([] : List Int) a0).bind fun t257 => ((num_Put.f k ([] : List Int) a1).bind fun t260 => (norialaw1_NumSizes.l0 k a0 a1 (t257.length : Int) (t260.length : Int) 1 (a0 / 128)))) else (none)) = some r := H
  have A3 := Aside0.mk A30
  clear A30
  by_cases c4 : t256 = true
  · subst c4
    have H1 : ((num_Put.f k ([] : List Int) a0).bind fun t257 => ((num_Put.f k ([] : List Int) a1).bind fun t260 => (norialaw1_NumSizes.l0 k a0 a1 (t257.length : Int) (t260.length : Int) 1 (a0 / 128)))) = some r := by rw [if_pos rfl] at H; exact H
    clear H
    have H := H1
    clear H1
    replace H := Option.bind_eq_some_iff.mp H
    obtain ⟨t257, A50, H⟩ := H
    replace H : ((num_Put.f k ([] : List Int) a1).bind fun t260 => (norialaw1_NumSizes.l0 k a0 a1 (t257.length : Int) (t260.length : Int) 1 (a0 / 128))) = some r := H
    have A5 := Aside0.mk A50
    clear A50
    replace H := Option.bind_eq_some_iff.mp H
    obtain ⟨t260, A60, H⟩ := H
    replace H : (norialaw1_NumSizes.l0 k a0 a1 (t257.length : Int) (t260.length : Int) 1 (a0 / 128)) = some r := H
    have A6 := Aside0.mk A60
    clear A60
    have H' := Aside0.mk H
    clear H
    go_enter Try.func8, Try.ntmps8
    go_wp2_with (first | ((with_reducible refine gate_callee (f := 9) rfl ?_); refine goesL_ (some 9) rfl rfl Try.func9 (by kernel_rfl) rfl #[] rfl (by (try simp only [List.map_toArray, List.map_cons, List.map_nil]); first | done | rfl | (simp only [List.length_drop, List.length_take]; rfl)) ?_; (with_reducible refine (norialaw1_known.calls k  true _ A3.out).mono ?_); rintro e w7 ⟨rfl, hb⟩; refine ⟨_, rfl, ?_⟩; have n0_ := Aside0.mk (below_step (by repeat (first | (with_reducible first | exact HB.out | apply below_alloc | apply pw_below_drewN | apply below_drew1) | exact HB.out)) hb); clear HB; have HB := n0_; clear n0_; (try clear hb); (try clear hb2); (try clear hk); (try clear hi)) | ((with_reducible refine gate_callee (f := 10) rfl ?_); refine goesL_ (some 12) rfl rfl Try.func10 (by kernel_rfl) rfl #[.slice none 0 0, .int .u64 a0] rfl (by (try simp only [List.map_toArray, List.map_cons, List.map_nil]); first | done | rfl | (simp only [List.length_drop, List.length_take]; rfl)) ?_; (refine (num_Put.calls k _ _ ([] : List Int) a0 t257 _ ?side1 ?side2 A5.out).mono ?_); (case side1 => exact Kd.C_nil _ _); (case side2 => exact Nat.le_refl _); rintro e w8 ⟨v258, rfl, ho0, hb⟩; refine ⟨_, rfl, ?_⟩; have n0_ := Aside0.mk (Kd.R_lower ho0 (below_size (by repeat (first | (with_reducible first | exact HB.out | apply below_alloc | apply pw_below_drewN | apply below_drew1) | exact HB.out)))); have n1_ := Aside0.mk (below_step (by repeat (first | (with_reducible first | exact HB.out | apply below_alloc | apply pw_below_drewN | apply below_drew1) | exact HB.out)) hb); clear HB; have HO259 := n0_; have HB := n1_; clear n0_ n1_; (try clear hb); (try clear hb2); (try clear hk); (try clear hi); (try clear ho0); obtain ⟨Ao9, co9, eo9⟩ := Kd.R_slice HO259.out; subst eo9) | ((with_reducible refine gate_callee (f := 10) rfl ?_); refine goesL_ (some 15) rfl rfl Try.func10 (by kernel_rfl) rfl #[.slice none 0 0, .int .u64 a1] rfl (by (try simp only [List.map_toArray, List.map_cons, List.map_nil]); first | done | rfl | (simp only [List.length_drop, List.length_take]; rfl)) ?_; (refine (num_Put.calls k _ _ ([] : List Int) a1 t260 _ ?side1 ?side2 A6.out).mono ?_); (case side1 => exact Kd.C_nil _ _); (case side2 => exact Nat.le_refl _); rintro e w10 ⟨v261, rfl, ho0, hb⟩; refine ⟨_, rfl, ?_⟩; have n0_ := Aside0.mk (Kd.R_elder' (by (with_reducible repeat (first | apply Kd.R_alloc | apply Kd.R_drewN | apply Kd.R_drew)); exact HO259.out) (Kd.R_base ho0) hb); have n1_ := Aside0.mk (Kd.R_lower (Kd.R_new' ho0 (Kd.R_lt (by (with_reducible repeat (first | apply Kd.R_alloc | apply Kd.R_drewN | apply Kd.R_drew)); exact HO259.out))) (below_size (by repeat (first | (with_reducible first | exact HB.out | apply below_alloc | apply pw_below_drewN | apply below_drew1) | exact HB.out)))); have n2_ := Aside0.mk (below_step (by repeat (first | (with_reducible first | exact HB.out | apply below_alloc | apply pw_below_drewN | apply below_drew1) | exact HB.out)) hb); clear HO259; clear HB; have HO259 := n0_; have HO262 := n1_; have HB := n2_; clear n0_ n1_ n2_; (try clear hb); (try clear hb2); (try clear hk); (try clear hi); (try clear ho0); obtain ⟨Ao11, co11, eo11⟩ := Kd.R_slice HO262.out; subst eo11))
    go_loopg [7, 8] k (fun kq v7 v8 w' => ∃ (x7_1 : Int) (x8_1 : Int), v7 = .int .i64 x7_1 ∧ v8 = .int .u64 x8_1 ∧ Aside0 (norialaw1_NumSizes.l0 kq a0 a1 (t257.length : Int) (t260.length : Int) x7_1 x8_1 = some r) ∧ Aside0 (kq ≤ k) ∧ Aside0 (Below w.heap.size w w'))
    case atStart => exact ⟨(1), (a0 / 128), (by first | rfl | (simp; done) | (simp [*]; done)), (by first | rfl | (simp; done) | (simp [*]; done)), H', ⟨Nat.le_refl _⟩, ⟨by repeat (first | (with_reducible first | exact HB.out | apply below_alloc | apply pw_below_drewN | apply below_drew1) | exact HB.out)⟩⟩
    case round =>
      clear H'
      try clear c1
      try clear p2
      try clear c4
      try clear c8
      try clear c9
      try clear c10
      obtain ⟨x7_1, x8_1, rfl, rfl, HA, HK1, HB⟩ := hrel
      cases gk with
      | zero => exact absurd HA.out (by simp [norialaw1_NumSizes.l0])
      | succ k1 =>
        have H := HA.out
        clear HA
        simp only [norialaw1_NumSizes.l0] at H
        by_cases c12 : x8_1 > 0
        · rw [if_pos c12] at H
          have c12b0 : decide (0 < x8_1) = true := decide_eq_true c12
          clear c12
          have H' := Aside0.mk H
          clear H
          go_wp2
          go_roundg k1
          case measure => have := HK1.out; omega
          case rel => exact ⟨(wrap64 (x7_1 + 1)), (x8_1 / 128), (by first | rfl | (simp; done) | (simp [*]; done)), (by first | rfl | (simp; done) | (simp [*]; done)), H', ⟨by have := HK1.out; omega⟩, ⟨by repeat (first | (with_reducible first | exact HB.out | apply below_alloc | apply pw_below_drewN | apply below_drew1) | exact HB.out)⟩⟩
        · rw [if_neg c12] at H
          have c12b0 : decide (0 < x8_1) = false := decide_eq_false c12
          clear c12
          by_cases c13 : (t257.length : Int) = x7_1
          · rw [if_pos c13] at H
            have c13b0 : ((t257.length : Int) == x7_1) = true := beq_iff_eq.mpr c13
            have c13b1 : ((t257.length : Int) != x7_1) = false := bne_eq_false_iff_eq.mpr c13
            clear c13
            by_cases c14 : a0 > a1
            · rw [if_pos c14] at H
              have c14b0 : decide (a1 < a0) = true := decide_eq_true c14
              clear c14
              by_cases c15 : (t257.length : Int) ≥ 1
              · rw [if_pos c15] at H
                have c15b0 : decide (1 ≤ (t257.length : Int)) = true := decide_eq_true c15
                have c15b1 : decide (1 ≤ t257.length) = true := decide_eq_true (by omega)
                clear c15
                obtain rfl := Option.some.inj H
                go_wp2
                go_ret
                exact ⟨by first | rfl | (simp [errW_none, errW_some] <;> rfl) | (simp [*, errW_none, errW_some] <;> rfl), by repeat (first | (with_reducible first | exact HB.out | apply below_alloc | apply pw_below_drewN | apply below_drew1) | exact HB.out)⟩
              · rw [if_neg c15] at H
                exact absurd H (by simp)
            · rw [if_neg c14] at H
              have c14b0 : decide (a1 < a0) = false := decide_eq_false c14
              clear c14
              by_cases c16 : (t257.length : Int) ≤ (t260.length : Int)
              · rw [if_pos c16] at H
                have c16b0 : decide ((t257.length : Int) ≤ (t260.length : Int)) = true := decide_eq_true c16
                have c16b1 : decide (t257.length ≤ t260.length) = true := decide_eq_true (Int.ofNat_le.mp c16)
                clear c16
                by_cases c17 : (t257.length : Int) ≥ 1
                · rw [if_pos c17] at H
                  have c17b0 : decide (1 ≤ (t257.length : Int)) = true := decide_eq_true c17
                  have c17b1 : decide (1 ≤ t257.length) = true := decide_eq_true (by omega)
                  clear c17
                  obtain rfl := Option.some.inj H
                  go_wp2
                  go_ret
                  exact ⟨by first | rfl | (simp [errW_none, errW_some] <;> rfl) | (simp [*, errW_none, errW_some] <;> rfl), by repeat (first | (with_reducible first | exact HB.out | apply below_alloc | apply pw_below_drewN | apply below_drew1) | exact HB.out)⟩
                · rw [if_neg c17] at H
                  exact absurd H (by simp)
              · rw [if_neg c16] at H
                exact absurd H (by simp)
          · rw [if_neg c13] at H
            exact absurd H (by simp)
  · replace c4 := Bool.eq_false_iff.mpr c4
    subst c4
    have H1 : (none) = some r := by rw [if_neg (show ¬ (false = true) by decide)] at H; exact H
    clear H
    have H := H1
    clear H1
    exact absurd H (by simp)

/-- THE ONE PURE STATEMENT of norialaw1_NumSizes: yours. -/
def norialaw1_NumSizes.Pure : Prop := ∀ (a0 : Int) (a1 : Int), (Lit.int .u64 a0).wf = true → (Lit.int .u64 a1).wf = true → ∃ k, norialaw1_NumSizes.f k a0 a1 = some true
theorem norialaw1_NumSizes.walk (P : norialaw1_NumSizes.Pure) (a0 : Int) (a1 : Int) (w : World) (w0 : (Lit.int .u64 a0).wf = true) (w1 : (Lit.int .u64 a1).wf = true) :
    Calls Try.prog 8 #[.int .u64 a0, .int .u64 a1] w fun e w' => e = .returned (.bool true) ∧ Below w.heap.size w w' := by
  obtain ⟨k, h⟩ := P a0 a1 w0 w1
  refine (norialaw1_NumSizes.calls k a0 a1 true w h).mono ?_
  rintro e w' ⟨rfl, hd⟩
  exact ⟨rfl, hd⟩

end Go.Proofs.Ytfiihimbkjcflaa.PAll
