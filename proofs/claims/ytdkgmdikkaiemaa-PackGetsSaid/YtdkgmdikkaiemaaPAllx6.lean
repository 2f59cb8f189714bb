-- Printed by this session's own program (wip/tools/pp.py): out of the translation. Lean checks it.
import Derived.Test.YtdkgmdikkaiemaaPAllx0
import Derived.Test.YtdkgmdikkaiemaaPAllx1
import Derived.Test.YtdkgmdikkaiemaaPAllx2
import Derived.Test.YtdkgmdikkaiemaaPAllx3
import Derived.Test.YtdkgmdikkaiemaaPAllx4
import Derived.Test.YtdkgmdikkaiemaaPAllx5
namespace Go.Proofs.Ytdkgmdikkaiemaa.PAll
open Go.Proofs.Ytdkgmdikkaiemaa.Help
open Go.RowKit Go.Proofs.YtdkgmdikkaiemaaW.PrintWords Go.Proofs.YtdkgmdikkaiemaaW.PrintLast Go.Proofs.YtdkgmdikkaiemaaW.PrintMore
attribute [local go_sem] max2_int min2_int max_two min_two max_three min_three max_four min_four   -- for this text's walks alone
set_option linter.unusedVariables false
set_option linter.unusedSimpArgs false

/-! ### norialaw4_PackGets: function 4 -/
mutual
def norialaw4_PackGets.j0 : Nat → List Int → Int → Int → Bool → Option (Bool)
  | 0, _, _, _, _ => none
  | k + 1, x0, x1, x2, x27 => if x27 = true then (some true) else ((pack_Get.f k x0 x1 x2).bind fun bt195 => ((noriaref11_GetBits.f k x0 x1 x2).bind fun bt199 => (if bt195.2 = bt199.2 then ((norialaw4_Same.f k bt195.1 bt199.1).bind fun t203 => (if t203 = true then ((pack_Size.f x1 x2).bind fun t204 => ((noriaref11_Size.f x1 x2).bind fun t205 => (norialaw4_PackGets.j1 k x0 x2 bt195.1 bt199.2 (t204 != t205)))) else (norialaw4_PackGets.j1 k x0 x2 bt195.1 bt199.2 true))) else (norialaw4_PackGets.j1 k x0 x2 bt195.1 bt199.2 true))))
def norialaw4_PackGets.j1 : Nat → List Int → Int → List Int → Int → Bool → Option (Bool)
  | 0, _, _, _, _, _ => none
  | k + 1, x0, x2, x7, x10, x59 => if x59 = true then (none) else (if x10 = 0 then ((pack_Put.f k x7 x2).bind fun bt206 => (if bt206.2 = 0 then (some ((strOfNums bt206.1).toList == (strOfNums x0).toList)) else (none))) else (some true))
end
def norialaw4_PackGets.f (k : Nat) (l0 : List Int) (a1 : Int) (a2 : Int) : Option (Bool) := (norialaw4_known.f k).bind fun t194 => (if t194 = true then (if (l0.length : Int) > 300 then (some true) else (if a1 > 1000 then (if a1 ≤ 65536 then (norialaw4_PackGets.j0 k l0 a1 a2 (a2 == 0)) else (norialaw4_PackGets.j0 k l0 a1 a2 false)) else (norialaw4_PackGets.j0 k l0 a1 a2 false))) else (none))
theorem norialaw4_PackGets.mono_l : ∀ k, (∀ y0 y1 y2 y3, LeO (norialaw4_PackGets.j0 k y0 y1 y2 y3) (norialaw4_PackGets.j0 (k + 1) y0 y1 y2 y3)) ∧ (∀ y0 y1 y2 y3 y4, LeO (norialaw4_PackGets.j1 k y0 y1 y2 y3 y4) (norialaw4_PackGets.j1 (k + 1) y0 y1 y2 y3 y4))
  | 0 => ⟨fun _ _ _ _ r h => by simp [norialaw4_PackGets.j0] at h, fun _ _ _ _ _ r h => by simp [norialaw4_PackGets.j1] at h⟩
  | k + 1 => by
    obtain ⟨ih0, ih1⟩ := norialaw4_PackGets.mono_l k
    refine ⟨?_, ?_⟩
    · intro y0 y1 y2 y3
      unfold norialaw4_PackGets.j0
      repeat' first
      | (with_reducible exact ih0 _ _ _ _)
      | (with_reducible exact ih1 _ _ _ _ _)
      | (with_reducible exact norialaw4_Same.mono _ _ _)
      | (with_reducible exact norialaw4_known.mono _)
      | (with_reducible exact noriaref11_GetBits.mono _ _ _ _)
      | (with_reducible exact pack_Get.mono _ _ _ _)
      | (with_reducible exact pack_Put.mono _ _ _)
      | (with_reducible exact LeO.refl _)
      | (with_reducible exact LeO.none _)
      | (with_reducible refine LeO.ite ?_ ?_)
      | (with_reducible refine LeO.bind ?_ (fun _ => ?_))
      | exact ih0 _ _ _ _
      | exact ih1 _ _ _ _ _
      | exact norialaw4_Same.mono _ _ _
      | exact norialaw4_known.mono _
      | exact noriaref11_GetBits.mono _ _ _ _
      | exact pack_Get.mono _ _ _ _
      | exact pack_Put.mono _ _ _
      | exact LeO.none _
      | refine LeO.ite ?_ ?_
      | refine LeO.bind ?_ (fun _ => ?_)
    · intro y0 y1 y2 y3 y4
      unfold norialaw4_PackGets.j1
      repeat' first
      | (with_reducible exact ih0 _ _ _ _)
      | (with_reducible exact ih1 _ _ _ _ _)
      | (with_reducible exact norialaw4_Same.mono _ _ _)
      | (with_reducible exact norialaw4_known.mono _)
      | (with_reducible exact noriaref11_GetBits.mono _ _ _ _)
      | (with_reducible exact pack_Get.mono _ _ _ _)
      | (with_reducible exact pack_Put.mono _ _ _)
      | (with_reducible exact LeO.refl _)
      | (with_reducible exact LeO.none _)
      | (with_reducible refine LeO.ite ?_ ?_)
      | (with_reducible refine LeO.bind ?_ (fun _ => ?_))
      | exact ih0 _ _ _ _
      | exact ih1 _ _ _ _ _
      | exact norialaw4_Same.mono _ _ _
      | exact norialaw4_known.mono _
      | exact noriaref11_GetBits.mono _ _ _ _
      | exact pack_Get.mono _ _ _ _
      | exact pack_Put.mono _ _ _
      | exact LeO.none _
      | refine LeO.ite ?_ ?_
      | refine LeO.bind ?_ (fun _ => ?_)
theorem norialaw4_PackGets.mono : ∀ a0 a1 a2 k, LeO (norialaw4_PackGets.f k a0 a1 a2) (norialaw4_PackGets.f (k + 1) a0 a1 a2) := by
  intro a0 a1 a2 k
  obtain ⟨ih0, ih1⟩ := norialaw4_PackGets.mono_l k
  unfold norialaw4_PackGets.f
  repeat' first
      | (with_reducible exact ih0 _ _ _ _)
      | (with_reducible exact ih1 _ _ _ _ _)
      | (with_reducible exact norialaw4_Same.mono _ _ _)
      | (with_reducible exact norialaw4_known.mono _)
      | (with_reducible exact noriaref11_GetBits.mono _ _ _ _)
      | (with_reducible exact pack_Get.mono _ _ _ _)
      | (with_reducible exact pack_Put.mono _ _ _)
      | (with_reducible exact LeO.refl _)
      | (with_reducible exact LeO.none _)
      | (with_reducible refine LeO.ite ?_ ?_)
      | (with_reducible refine LeO.bind ?_ (fun _ => ?_))
      | exact ih0 _ _ _ _
      | exact ih1 _ _ _ _ _
      | exact norialaw4_Same.mono _ _ _
      | exact norialaw4_known.mono _
      | exact noriaref11_GetBits.mono _ _ _ _
      | exact pack_Get.mono _ _ _ _
      | exact pack_Put.mono _ _ _
      | exact LeO.none _
      | refine LeO.ite ?_ ?_
      | refine LeO.bind ?_ (fun _ => ?_)
set_option maxHeartbeats 8000000 in
set_option maxRecDepth 100000 in
theorem norialaw4_PackGets.calls (k : Nat) (A0 : Option Addr) (c0 : Nat) (l0 : List Int) (a1 : Int) (a2 : Int) (r : Bool) (w : World) (hr0 : Kd.C (Kd.int .u8) w A0 l0.length l0) (hc0 : l0.length ≤ c0) (h : norialaw4_PackGets.f k l0 a1 a2 = some r) :
    Calls Try.prog 4 #[.slice A0 l0.length c0, .int .i64 a1, .int .i64 a2] w fun e w' => e = .returned (.bool r) ∧ Below w.heap.size w w' := by
  have HR0 := Aside0.mk hr0
  have HC0 := Aside0.mk hc0
  clear hr0 hc0
  have HB := Aside0.mk (Below.refl w.heap.size w)
  have H : ((norialaw4_known.f k).bind fun t194 => (if t194 = true then (if (l0.length : Int) > 300 then (some true) else (if a1 > 1000 then (if a1 ≤ 65536 then (norialaw4_PackGets.j0 k l0 a1 a2 (a2 == 0)) else (norialaw4_PackGets.j0 k l0 a1 a2 false)) else (norialaw4_PackGets.j0 k l0 a1 a2 false))) else (none))) = some r := h
  clear h
  replace H := Option.bind_eq_some_iff.mp H
  obtain ⟨t194, A40, H⟩ := H
  replace H : (if t194 = true then (if (l0.length : Int) > 300 then (some true) else (if a1 > 1000 then (if a1 ≤ 65536 then (norialaw4_PackGets.j0 k l0 a1 a2 (a2 == 0)) else (norialaw4_PackGets.j0 k l0 a1 a2 false)) else (norialaw4_PackGets.j0 k l0 a1 a2 false))) else (none)) = some r := H
  have A4 := Aside0.mk A40
  clear A40
  by_cases c5 : t194 = true
  · subst c5
    have H1 : (if (l0.length : Int) > 300 then (some true) else (if a1 > 1000 then (if a1 ≤ 65536 then (norialaw4_PackGets.j0 k l0 a1 a2 (a2 == 0)) else (norialaw4_PackGets.j0 k l0 a1 a2 false)) else (norialaw4_PackGets.j0 k l0 a1 a2 false))) = some r := by rw [if_pos rfl] at H; exact H
    clear H
    have H := H1
    clear H1
    by_cases c6 : (l0.length : Int) > 300
    · rw [if_pos c6] at H
      have c6b0 : decide (300 < (l0.length : Int)) = true := decide_eq_true c6
      have c6b1 : decide (300 < l0.length) = true := decide_eq_true (by omega)
      clear c6
      obtain rfl := Option.some.inj H
      go_enter Try.func4, Try.ntmps4
      go_wp2_with (first | ((with_reducible refine gate_callee (f := 8) rfl ?_); refine goesL_ (some 13) rfl rfl Try.func8 (by kernel_rfl) rfl #[] rfl (by (try simp only [List.map_toArray, List.map_cons, List.map_nil]); first | done | rfl | (simp only [List.length_drop, List.length_take]; rfl)) ?_; (with_reducible refine (norialaw4_known.calls k  true _ A4.out).mono ?_); rintro e w7 ⟨rfl, hb⟩; refine ⟨_, rfl, ?_⟩; have n0_ := Aside0.mk (below_step (by repeat (first | (with_reducible first | exact HB.out | apply below_alloc | apply pw_below_drewN | apply below_drew1) | exact HB.out)) hb); clear HB; have HB := n0_; clear n0_; (try clear hb); (try clear hb2); (try clear hk); (try clear hi)))
      go_ret
      exact ⟨by first | rfl | (simp [errW_none, errW_some] <;> rfl) | (simp [*, errW_none, errW_some] <;> rfl), by repeat (first | (with_reducible first | exact HB.out | apply below_alloc | apply pw_below_drewN | apply below_drew1) | exact HB.out)⟩
    · rw [if_neg c6] at H
      have c6b0 : decide (300 < (l0.length : Int)) = false := decide_eq_false c6
      have c6b1 : decide (300 < l0.length) = false := decide_eq_false (by omega)
      clear c6
      have HC8 := Aside0.mk H
      clear H
      go_enter Try.func4, Try.ntmps4
      go_upto_region 5 with (first | ((with_reducible refine gate_callee (f := 8) rfl ?_); refine goesL_ (some 13) rfl rfl Try.func8 (by kernel_rfl) rfl #[] rfl (by (try simp only [List.map_toArray, List.map_cons, List.map_nil]); first | done | rfl | (simp only [List.length_drop, List.length_take]; rfl)) ?_; (with_reducible refine (norialaw4_known.calls k  true _ A4.out).mono ?_); rintro e w9 ⟨rfl, hb⟩; refine ⟨_, rfl, ?_⟩; have n0_ := Aside0.mk (below_step (by repeat (first | (with_reducible first | exact HB.out | apply below_alloc | apply pw_below_drewN | apply below_drew1) | exact HB.out)) hb); clear HB; have HB := n0_; clear n0_; (try clear hb); (try clear hb2); (try clear hk); (try clear hi)))
      (try simp only [Act.put, List.setIfInBounds_toArray, List.set_cons_zero, List.set_cons_succ])
      go_cut [27] (fun v27 wc => ∃ (kq : Nat) (x27_7 : Bool), v27 = .bool x27_7 ∧ Aside0 (norialaw4_PackGets.j0 kq l0 a1 a2 x27_7 = some r) ∧ Aside0 (kq ≤ k) ∧ Aside0 (Below w.heap.size w wc))
      case first =>
        have H := HC8.out
        clear HC8
        by_cases c10 : a1 > 1000
        · rw [if_pos c10] at H
          have c10b0 : decide (1000 < a1) = true := decide_eq_true c10
          clear c10
          (first | rw [c10b0] | (simp only [i64_w, i32_w]; rw [c10b0]) | skip)
          by_cases c11 : a1 ≤ 65536
          · rw [if_pos c11] at H
            have c11b0 : decide (a1 ≤ 65536) = true := decide_eq_true c11
            clear c11
            have H' := Aside0.mk H
            clear H
            go_wp2
            go_meet
            case rel => exact ⟨_, ((a2 == 0)), (by first | rfl | (simp; done) | (simp [*]; done)), H', ⟨by first | omega | exact Nat.le_refl _⟩, ⟨by repeat (first | (with_reducible first | exact HB.out | apply below_alloc | apply pw_below_drewN | apply below_drew1) | exact HB.out)⟩⟩
          · rw [if_neg c11] at H
            have c11b0 : decide (a1 ≤ 65536) = false := decide_eq_false c11
            clear c11
            have H' := Aside0.mk H
            clear H
            go_wp2
            go_meet
            case rel => exact ⟨_, (false), (by first | rfl | (simp; done) | (simp [*]; done)), H', ⟨by first | omega | exact Nat.le_refl _⟩, ⟨by repeat (first | (with_reducible first | exact HB.out | apply below_alloc | apply pw_below_drewN | apply below_drew1) | exact HB.out)⟩⟩
        · rw [if_neg c10] at H
          have c10b0 : decide (1000 < a1) = false := decide_eq_false c10
          clear c10
          (first | rw [c10b0] | (simp only [i64_w, i32_w]; rw [c10b0]) | skip)
          have H' := Aside0.mk H
          clear H
          go_wp2
          go_meet
          case rel => exact ⟨_, (false), (by first | rfl | (simp; done) | (simp [*]; done)), H', ⟨by first | omega | exact Nat.le_refl _⟩, ⟨by repeat (first | (with_reducible first | exact HB.out | apply below_alloc | apply pw_below_drewN | apply below_drew1) | exact HB.out)⟩⟩
      case rest =>
        clear HC8
        try clear c1
        try clear p2
        try clear c4
        try clear c5
        try clear c6
        try clear c6b0
        try clear c6b1
        try clear c8
        try clear c10
        try clear c10b0
        try clear c11
        try clear c11b0
        obtain ⟨kq, x27_7, rfl, HA, HJ7, HB⟩ := hcut
        cases kq with
        | zero => exact absurd HA.out (by simp [norialaw4_PackGets.j0])
        | succ kj7 =>
          have H := HA.out
          clear HA
          simp only [norialaw4_PackGets.j0] at H
          by_cases c12 : x27_7 = true
          · subst c12
            have H1 : (some true) = some r := by rw [if_pos rfl] at H; exact H
            clear H
            have H := H1
            clear H1
            obtain rfl := Option.some.inj H
            go_wp2
            go_ret
            exact ⟨by first | rfl | (simp [errW_none, errW_some] <;> rfl) | (simp [*, errW_none, errW_some] <;> rfl), by repeat (first | (with_reducible first | exact HB.out | apply below_alloc | apply pw_below_drewN | apply below_drew1) | exact HB.out)⟩
          · replace c12 := Bool.eq_false_iff.mpr c12
            subst c12
            have H1 : ((pack_Get.f kj7 l0 a1 a2).bind fun bt195 => ((noriaref11_GetBits.f kj7 l0 a1 a2).bind fun bt199 => (if bt195.2 = bt199.2 then ((norialaw4_Same.f kj7 bt195.1 bt199.1).bind fun t203 => (if t203 = true then ((pack_Size.f a1 a2).bind fun t204 => ((noriaref11_Size.f a1 a2).bind fun t205 => (norialaw4_PackGets.j1 kj7 l0 a2 bt195.1 bt199.2 (t204 != t205)))) else (norialaw4_PackGets.j1 kj7 l0 a2 bt195.1 bt199.2 true))) else (norialaw4_PackGets.j1 kj7 l0 a2 bt195.1 bt199.2 true)))) = some r := by rw [if_neg (show ¬ (false = true) by decide)] at H; exact H
            clear H
            have H := H1
            clear H1
            replace H := Option.bind_eq_some_iff.mp H
            obtain ⟨⟨t195, t196⟩, A130, H⟩ := H
            replace H : ((noriaref11_GetBits.f kj7 l0 a1 a2).bind fun bt199 => (if t196 = bt199.2 then ((norialaw4_Same.f kj7 t195 bt199.1).bind fun t203 => (if t203 = true then ((pack_Size.f a1 a2).bind fun t204 => ((noriaref11_Size.f a1 a2).bind fun t205 => (norialaw4_PackGets.j1 kj7 l0 a2 t195 bt199.2 (t204 != t205)))) else (norialaw4_PackGets.j1 kj7 l0 a2 t195 bt199.2 true))) else (norialaw4_PackGets.j1 kj7 l0 a2 t195 bt199.2 true))) = some r := H
            have A13 := Aside0.mk A130
            clear A130
            replace H := Option.bind_eq_some_iff.mp H
            obtain ⟨⟨t199, t200⟩, A140, H⟩ := H
            replace H : (if t196 = t200 then ((norialaw4_Same.f kj7 t195 t199).bind fun t203 => (if t203 = true then ((pack_Size.f a1 a2).bind fun t204 => ((noriaref11_Size.f a1 a2).bind fun t205 => (norialaw4_PackGets.j1 kj7 l0 a2 t195 t200 (t204 != t205)))) else (norialaw4_PackGets.j1 kj7 l0 a2 t195 t200 true))) else (norialaw4_PackGets.j1 kj7 l0 a2 t195 t200 true)) = some r := H
            have A14 := Aside0.mk A140
            clear A140
            have HC15 := Aside0.mk H
            clear H
            go_upto_region 9 with (first | ((with_reducible refine gate_callee (f := 13) rfl ?_); refine goesL_ (some 32) rfl rfl Try.func13 (by kernel_rfl) rfl #[.slice A0 l0.length c0, .int .i64 a1, .int .i64 a2] rfl (by (try simp only [List.map_toArray, List.map_cons, List.map_nil]); first | done | rfl | (simp only [List.length_drop, List.length_take]; rfl)) ?_; (with_reducible refine (pack_Get.calls kj7 _ _ l0 a1 a2 t195 t196 _ ?side1 ?side2 A13.out).mono ?_); (case side1 => repeat (first | exact (Kd.C_below HR0.out HB.out) | (with_reducible refine Kd.C_alloc ?_ _) | (with_reducible refine Kd.C_drewN ?_ _) | (with_reducible refine Kd.C_drew ?_))); (case side2 => exact HC0.out); rintro e w16 ⟨v197, rfl, ho0, hb⟩; refine ⟨_, rfl, ?_⟩; have n0_ := Aside0.mk (Kd.R_lower ho0 (below_size (by repeat (first | (with_reducible first | exact HB.out | apply below_alloc | apply pw_below_drewN | apply below_drew1) | exact HB.out)))); have n1_ := Aside0.mk (below_step (by repeat (first | (with_reducible first | exact HB.out | apply below_alloc | apply pw_below_drewN | apply below_drew1) | exact HB.out)) hb); clear HB; have HO198 := n0_; have HB := n1_; clear n0_ n1_; (try clear hb); (try clear hb2); (try clear hk); (try clear hi); (try clear ho0)) | ((with_reducible refine gate_callee (f := 16) rfl ?_); refine goesL_ (some 39) rfl rfl Try.func16 (by kernel_rfl) rfl #[.slice A0 l0.length c0, .int .i64 a1, .int .i64 a2] rfl (by (try simp only [List.map_toArray, List.map_cons, List.map_nil]); first | done | rfl | (simp only [List.length_drop, List.length_take]; rfl)) ?_; (with_reducible refine (noriaref11_GetBits.calls kj7 _ _ l0 a1 a2 t199 t200 _ ?side1 ?side2 A14.out).mono ?_); (case side1 => repeat (first | exact (Kd.C_below HR0.out HB.out) | (with_reducible refine Kd.C_alloc ?_ _) | (with_reducible refine Kd.C_drewN ?_ _) | (with_reducible refine Kd.C_drew ?_))); (case side2 => exact HC0.out); rintro e w17 ⟨v201, rfl, ho0, hb⟩; refine ⟨_, rfl, ?_⟩; have n0_ := Aside0.mk (Kd.R_elder' (by (with_reducible repeat (first | apply Kd.R_alloc | apply Kd.R_drewN | apply Kd.R_drew)); exact HO198.out) (Kd.R_base ho0) hb); have n1_ := Aside0.mk (Kd.R_lower (Kd.R_new' ho0 (Kd.R_lt (by (with_reducible repeat (first | apply Kd.R_alloc | apply Kd.R_drewN | apply Kd.R_drew)); exact HO198.out))) (below_size (by repeat (first | (with_reducible first | exact HB.out | apply below_alloc | apply pw_below_drewN | apply below_drew1) | exact HB.out)))); have n2_ := Aside0.mk (below_step (by repeat (first | (with_reducible first | exact HB.out | apply below_alloc | apply pw_below_drewN | apply below_drew1) | exact HB.out)) hb); clear HO198; clear HB; have HO198 := n0_; have HO202 := n1_; have HB := n2_; clear n0_ n1_ n2_; (try clear hb); (try clear hb2); (try clear hk); (try clear hi); (try clear ho0)))
            (try simp only [Act.put, List.setIfInBounds_toArray, List.set_cons_zero, List.set_cons_succ])
            go_cut [59] (fun v59 wc => ∃ (kq : Nat) (x59_14 : Bool), v59 = .bool x59_14 ∧ Aside0 (norialaw4_PackGets.j1 kq l0 a2 t195 t200 x59_14 = some r) ∧ Aside0 (kq ≤ kj7) ∧ Aside0 (Kd.R (Kd.int .u64) 39 wc w.heap.size (fun _ => True) v197 t195) ∧ Aside0 (Below w.heap.size w wc))
            case first =>
              have H := HC15.out
              clear HC15
              by_cases c18 : t196 = t200
              · rw [if_pos c18] at H
                have c18b0 : (t196 == t200) = true := beq_iff_eq.mpr c18
                have c18b1 : (t196 != t200) = false := bne_eq_false_iff_eq.mpr c18
                clear c18
                (first | rw [c18b0] | (simp only [i64_w, i32_w]; rw [c18b0]) | skip)
                replace H := Option.bind_eq_some_iff.mp H
                obtain ⟨t203, A190, H⟩ := H
                replace H : (if t203 = true then ((pack_Size.f a1 a2).bind fun t204 => ((noriaref11_Size.f a1 a2).bind fun t205 => (norialaw4_PackGets.j1 kj7 l0 a2 t195 t200 (t204 != t205)))) else (norialaw4_PackGets.j1 kj7 l0 a2 t195 t200 true)) = some r := H
                have A19 := Aside0.mk A190
                clear A190
                by_cases c20 : t203 = true
                · subst c20
                  have H1 : ((pack_Size.f a1 a2).bind fun t204 => ((noriaref11_Size.f a1 a2).bind fun t205 => (norialaw4_PackGets.j1 kj7 l0 a2 t195 t200 (t204 != t205)))) = some r := by rw [if_pos rfl] at H; exact H
                  clear H
                  have H := H1
                  clear H1
                  replace H := Option.bind_eq_some_iff.mp H
                  obtain ⟨t204, A210, H⟩ := H
                  replace H : ((noriaref11_Size.f a1 a2).bind fun t205 => (norialaw4_PackGets.j1 kj7 l0 a2 t195 t200 (t204 != t205))) = some r := H
                  have A21 := Aside0.mk A210
                  clear A210
                  replace H := Option.bind_eq_some_iff.mp H
                  obtain ⟨t205, A220, H⟩ := H
                  replace H : (norialaw4_PackGets.j1 kj7 l0 a2 t195 t200 (t204 != t205)) = some r := H
                  have A22 := Aside0.mk A220
                  clear A220
                  have H' := Aside0.mk H
                  clear H
                  obtain ⟨Ao23, co23, eo23⟩ := Kd.R_slice HO198.out
                  subst eo23
                  obtain ⟨Ao24, co24, eo24⟩ := Kd.R_slice HO202.out
                  subst eo24
                  go_wp2_with (first | (go_at_call 14; (with_reducible refine (norialaw4_Same.calls kj7 _ _ t195 _ _ t199 true _ ?side1 ?side2 ?side3 ?side4 A19.out).mono ?_); (case side1 => repeat (first | exact (Kd.R_reads' HO198.out).2.2 | (with_reducible refine Kd.C_alloc ?_ _) | (with_reducible refine Kd.C_drewN ?_ _) | (with_reducible refine Kd.C_drew ?_))); (case side2 => exact (Kd.R_reads' HO198.out).2.1); (case side3 => repeat (first | exact (Kd.R_reads' HO202.out).2.2 | (with_reducible refine Kd.C_alloc ?_ _) | (with_reducible refine Kd.C_drewN ?_ _) | (with_reducible refine Kd.C_drew ?_))); (case side4 => exact (Kd.R_reads' HO202.out).2.1); rintro e w' ⟨rfl, ⟨nd, rfl⟩⟩) | (go_at_call 15; (with_reducible refine (pack_Size.calls a1 a2 t204 _ A21.out).mono ?_); rintro e w' ⟨rfl, ⟨nd, rfl⟩⟩) | (go_at_call 17; (with_reducible refine (noriaref11_Size.calls a1 a2 t205 _ A22.out).mono ?_); rintro e w' ⟨rfl, ⟨nd, rfl⟩⟩))
                  go_meet
                  case rel => exact ⟨_, ((t204 != t205)), (by first | rfl | (simp; done) | (simp [*]; done)), H', ⟨by have := HJ7.out; first | omega | exact Nat.le_refl _⟩, ⟨by (with_reducible repeat (first | apply Kd.R_alloc | apply Kd.R_drewN | apply Kd.R_drew)); exact Kd.R_mono HO198.out (fun _ hk => trivial)⟩, ⟨by repeat (first | (with_reducible first | exact HB.out | apply below_alloc | apply pw_below_drewN | apply below_drew1) | exact HB.out)⟩⟩
                · replace c20 := Bool.eq_false_iff.mpr c20
                  subst c20
                  have H1 : (norialaw4_PackGets.j1 kj7 l0 a2 t195 t200 true) = some r := by rw [if_neg (show ¬ (false = true) by decide)] at H; exact H
                  clear H
                  have H := H1
                  clear H1
                  have H' := Aside0.mk H
                  clear H
                  obtain ⟨Ao25, co25, eo25⟩ := Kd.R_slice HO198.out
                  subst eo25
                  obtain ⟨Ao26, co26, eo26⟩ := Kd.R_slice HO202.out
                  subst eo26
                  go_wp2_with (first | (go_at_call 14; (with_reducible refine (norialaw4_Same.calls kj7 _ _ t195 _ _ t199 false _ ?side1 ?side2 ?side3 ?side4 A19.out).mono ?_); (case side1 => repeat (first | exact (Kd.R_reads' HO198.out).2.2 | (with_reducible refine Kd.C_alloc ?_ _) | (with_reducible refine Kd.C_drewN ?_ _) | (with_reducible refine Kd.C_drew ?_))); (case side2 => exact (Kd.R_reads' HO198.out).2.1); (case side3 => repeat (first | exact (Kd.R_reads' HO202.out).2.2 | (with_reducible refine Kd.C_alloc ?_ _) | (with_reducible refine Kd.C_drewN ?_ _) | (with_reducible refine Kd.C_drew ?_))); (case side4 => exact (Kd.R_reads' HO202.out).2.1); rintro e w' ⟨rfl, ⟨nd, rfl⟩⟩))
                  go_meet
                  case rel => exact ⟨_, (true), (by first | rfl | (simp; done) | (simp [*]; done)), H', ⟨by have := HJ7.out; first | omega | exact Nat.le_refl _⟩, ⟨by (with_reducible repeat (first | apply Kd.R_alloc | apply Kd.R_drewN | apply Kd.R_drew)); exact Kd.R_mono HO198.out (fun _ hk => trivial)⟩, ⟨by repeat (first | (with_reducible first | exact HB.out | apply below_alloc | apply pw_below_drewN | apply below_drew1) | exact HB.out)⟩⟩
              · rw [if_neg c18] at H
                have c18b0 : (t196 == t200) = false := beq_eq_false_iff_ne.mpr c18
                have c18b1 : (t196 != t200) = true := bne_iff_ne.mpr c18
                (first | rw [c18b0] | (simp only [i64_w, i32_w]; rw [c18b0]) | skip)
                have H' := Aside0.mk H
                clear H
                go_wp2
                go_meet
                case rel => exact ⟨_, (true), (by first | rfl | (simp; done) | (simp [*]; done)), H', ⟨by have := HJ7.out; first | omega | exact Nat.le_refl _⟩, ⟨by (with_reducible repeat (first | apply Kd.R_alloc | apply Kd.R_drewN | apply Kd.R_drew)); exact Kd.R_mono HO198.out (fun _ hk => trivial)⟩, ⟨by repeat (first | (with_reducible first | exact HB.out | apply below_alloc | apply pw_below_drewN | apply below_drew1) | exact HB.out)⟩⟩
            case rest =>
              clear HC15
              try clear c1
              try clear c2
              try clear p2
              try clear c4
              try clear c5
              try clear c6
              try clear c6b0
              try clear c6b1
              try clear c8
              try clear c10
              try clear c10b0
              try clear c11
              try clear c11b0
              try clear c12
              try clear c13
              try clear c16
              try clear c18
              try clear c18b0
              try clear c18b1
              try clear c20
              try clear p2
              obtain ⟨kq, x59_14, rfl, HA, HJ14, HO_7, HB⟩ := hcut
              cases kq with
              | zero => exact absurd HA.out (by simp [norialaw4_PackGets.j1])
              | succ kj14 =>
                have H := HA.out
                clear HA
                simp only [norialaw4_PackGets.j1] at H
                by_cases c27 : x59_14 = true
                · subst c27
                  have H1 : (none) = some r := by rw [if_pos rfl] at H; exact H
                  clear H
                  have H := H1
                  clear H1
                  exact absurd H (by simp)
                · replace c27 := Bool.eq_false_iff.mpr c27
                  subst c27
                  have H1 : (if t200 = 0 then ((pack_Put.f kj14 t195 a2).bind fun bt206 => (if bt206.2 = 0 then (some ((strOfNums bt206.1).toList == (strOfNums l0).toList)) else (none))) else (some true)) = some r := by rw [if_neg (show ¬ (false = true) by decide)] at H; exact H
                  clear H
                  have H := H1
                  clear H1
                  by_cases c28 : t200 = 0
                  · rw [if_pos c28] at H
                    have c28b0 : (t200 == 0) = true := beq_iff_eq.mpr c28
                    have c28b1 : (t200 != 0) = false := bne_eq_false_iff_eq.mpr c28
                    clear c28
                    replace H := Option.bind_eq_some_iff.mp H
                    obtain ⟨⟨t206, t207⟩, A290, H⟩ := H
                    replace H : (if t207 = 0 then (some ((strOfNums t206).toList == (strOfNums l0).toList)) else (none)) = some r := H
                    have A29 := Aside0.mk A290
                    clear A290
                    by_cases c30 : t207 = 0
                    · rw [if_pos c30] at H
                      have c30b0 : (t207 == 0) = true := beq_iff_eq.mpr c30
                      have c30b1 : (t207 != 0) = false := bne_eq_false_iff_eq.mpr c30
                      clear c30
                      obtain rfl := Option.some.inj H
                      obtain ⟨Ao31, co31, eo31⟩ := Kd.R_slice HO_7.out
                      subst eo31
                      go_wp2_with (first | ((with_reducible refine gate_callee (f := 9) rfl ?_); refine goesL_ (some 65) rfl rfl Try.func9 (by kernel_rfl) rfl #[.slice Ao31 t195.length co31, .int .i64 a2] rfl (by (try simp only [List.map_toArray, List.map_cons, List.map_nil]); first | done | rfl | (simp only [List.length_drop, List.length_take]; rfl)) ?_; (with_reducible refine (pack_Put.calls kj14 _ _ t195 a2 t206 t207 _ ?side1 ?side2 A29.out).mono ?_); (case side1 => repeat (first | exact (Kd.R_reads' HO_7.out).2.2 | (with_reducible refine Kd.C_alloc ?_ _) | (with_reducible refine Kd.C_drewN ?_ _) | (with_reducible refine Kd.C_drew ?_))); (case side2 => exact (Kd.R_reads' HO_7.out).2.1); rintro e w32 ⟨v208, rfl, ho0, hb⟩; refine ⟨_, rfl, ?_⟩; have n0_ := Aside0.mk (Kd.R_below (by (with_reducible repeat (first | apply Kd.R_alloc | apply Kd.R_drewN | apply Kd.R_drew)); exact HO_7.out) hb); have n1_ := Aside0.mk (Kd.R_lower ho0 (below_size (by repeat (first | (with_reducible first | exact HB.out | apply below_alloc | apply pw_below_drewN | apply below_drew1) | exact HB.out)))); have n2_ := Aside0.mk (below_step (by repeat (first | (with_reducible first | exact HB.out | apply below_alloc | apply pw_below_drewN | apply below_drew1) | exact HB.out)) hb); clear HO_7; clear HB; have HO_7 := n0_; have HO209 := n1_; have HB := n2_; clear n0_ n1_ n2_; (try clear hb); (try clear hb2); (try clear hk); (try clear hi); (try clear ho0); have hcv33 := own_string (P := Try.prog) Try.underlying24 Try.underlying5 Try.underlying9 (Kd.own_of_R HO209.out); have hcv33d := fun m_ => own_string (P := Try.prog) Try.underlying24 Try.underlying5 Try.underlying9 (Kd.own_of_R (Kd.R_drewN HO209.out m_)); have hcv34 := Kd.C_string (P := Try.prog) (A := A0) (c := c0) Try.underlying24 Try.underlying5 Try.underlying9 (Kd.C_below HR0.out HB.out)))
                      go_ret
                      exact ⟨by first | rfl | (simp [errW_none, errW_some] <;> rfl) | (simp [*, errW_none, errW_some] <;> rfl), by repeat (first | (with_reducible first | exact HB.out | apply below_alloc | apply pw_below_drewN | apply below_drew1) | exact HB.out)⟩
                    · rw [if_neg c30] at H
                      exact absurd H (by simp)
                  · rw [if_neg c28] at H
                    have c28b0 : (t200 == 0) = false := beq_eq_false_iff_ne.mpr c28
                    have c28b1 : (t200 != 0) = true := bne_iff_ne.mpr c28
                    obtain rfl := Option.some.inj H
                    go_wp2
                    go_ret
                    exact ⟨by first | rfl | (simp [errW_none, errW_some] <;> rfl) | (simp [*, errW_none, errW_some] <;> rfl), by repeat (first | (with_reducible first | exact HB.out | apply below_alloc | apply pw_below_drewN | apply below_drew1) | exact HB.out)⟩
  · replace c5 := Bool.eq_false_iff.mpr c5
    subst c5
    have H1 : (none) = some r := by rw [if_neg (show ¬ (false = true) by decide)] at H; exact H
    clear H
    have H := H1
    clear H1
    exact absurd H (by simp)

/-- THE ONE PURE STATEMENT of norialaw4_PackGets: yours. -/
def norialaw4_PackGets.Pure : Prop := ∀ (l0 : List Int) (a1 : Int) (a2 : Int), l0.length ≤ maxLen → l0.length * 1 ≤ 140737488351232 → (∀ x ∈ l0, (Lit.int .u8 x).wf = true) → (Lit.int .i64 a1).wf = true → (Lit.int .i64 a2).wf = true → ∃ k, norialaw4_PackGets.f k l0 a1 a2 = some true
theorem norialaw4_PackGets.walk (P : norialaw4_PackGets.Pure) (a0 : Option Addr) (len0 cap0 : Nat) (z0 : List Int) (a1 : Int) (a2 : Int) (w : World) (w0 : (a0 = none ∧ len0 = 0 ∧ cap0 = 0 ∧ z0 = []) ∨ ∃ x, a0 = some x ∧ len0 ≤ cap0 ∧ cap0 ≤ maxLen ∧ z0.length = cap0 ∧ (∀ i, i < z0.length → w.cell? (x.add i) = some (.int .u8 (z0.getD i 0))) ∧ ∀ n ∈ z0, (Lit.int .u8 n).wf = true) (y0 : len0 * 1 ≤ 140737488351232) (w1 : (Lit.int .i64 a1).wf = true) (w2 : (Lit.int .i64 a2).wf = true) :
    Calls Try.prog 4 #[.slice a0 len0 cap0, .int .i64 a1, .int .i64 a2] w fun e w' => e = .returned (.bool true) ∧ Below w.heap.size w w' := by
  obtain ⟨l0, rfl, hr0, hm0, hw0, hc0⟩ := ReadsInt.ofRowC w0
  obtain ⟨k, h⟩ := P l0 a1 a2 hm0 y0 hw0 w1 w2
  refine (norialaw4_PackGets.calls k _ _ l0 a1 a2 true w (Kd.C_of_reads (d := (0 : Int)) (h1 := fun _ => rfl) hr0) hc0 h).mono ?_
  rintro e w' ⟨rfl, hd⟩
  exact ⟨rfl, hd⟩

/-! ### norialaw4_PackParts: function 5 -/
mutual
def norialaw4_PackParts.l0 : Nat → List Int → List Int → List Int → Int → Option (Bool)
  | 0, _, _, _, _ => none
  | k + 1, x0, x3, x4, x5 => if x5 < (x0.length : Int) then (if 0 ≤ x5 then (if x3.length < 17592186044416 then (norialaw4_PackParts.l1 k x0 (x3 ++ [IntKind.u64.wrap (rd x0 x5)]) x4 x5 0) else (none)) else (none)) else ((pack_Put.f k x3 8).bind fun bt211 => ((pack_Put.f k x4 1).bind fun bt215 => (if (wrap64 (bt211.2 + bt215.2)) = 0 then (if (strOfNums bt211.1).toList = (strOfNums x0).toList then (some ((strOfNums bt215.1).toList == (strOfNums x0).toList)) else (none)) else (none))))
def norialaw4_PackParts.l1 : Nat → List Int → List Int → List Int → Int → Int → Option (Bool)
  | 0, _, _, _, _, _ => none
  | k + 1, x0, x3, x4, x5, x6 => if x6 < 8 then (if 0 ≤ x5 then (if x5 < (x0.length : Int) then (if 0 ≤ (IntKind.u64.wrap (x6)) then (if x4.length < 17592186044416 then (norialaw4_PackParts.l1 k x0 x3 (x4 ++ [IntKind.u64.wrap (Go.bits .and .u8 (shr .u8 (rd x0 x5) (IntKind.u64.wrap (x6))) 1)]) x5 (wrap64 (x6 + 1))) else (none)) else (none)) else (none)) else (none)) else (norialaw4_PackParts.l0 k x0 x3 x4 (wrap64 (x5 + 1)))
end
def norialaw4_PackParts.f (k : Nat) (l0 : List Int) : Option (Bool) := (norialaw4_known.f k).bind fun t210 => (if t210 = true then (if (l0.length : Int) > 200 then (some true) else (norialaw4_PackParts.l0 k l0 ([] : List Int) ([] : List Int) 0)) else (none))
theorem norialaw4_PackParts.mono_l : ∀ k, (∀ y0 y1 y2 y3, LeO (norialaw4_PackParts.l0 k y0 y1 y2 y3) (norialaw4_PackParts.l0 (k + 1) y0 y1 y2 y3)) ∧ (∀ y0 y1 y2 y3 y4, LeO (norialaw4_PackParts.l1 k y0 y1 y2 y3 y4) (norialaw4_PackParts.l1 (k + 1) y0 y1 y2 y3 y4))
  | 0 => ⟨fun _ _ _ _ r h => by simp [norialaw4_PackParts.l0] at h, fun _ _ _ _ _ r h => by simp [norialaw4_PackParts.l1] at h⟩
  | k + 1 => by
    obtain ⟨ih0, ih1⟩ := norialaw4_PackParts.mono_l k
    refine ⟨?_, ?_⟩
    · intro y0 y1 y2 y3
      unfold norialaw4_PackParts.l0
      repeat' first
      | (with_reducible exact ih0 _ _ _ _)
      | (with_reducible exact ih1 _ _ _ _ _)
      | (with_reducible exact norialaw4_known.mono _)
      | (with_reducible exact pack_Put.mono _ _ _)
      | (with_reducible exact LeO.refl _)
      | (with_reducible exact LeO.none _)
      | (with_reducible refine LeO.ite ?_ ?_)
      | (with_reducible refine LeO.bind ?_ (fun _ => ?_))
      | exact ih0 _ _ _ _
      | exact ih1 _ _ _ _ _
      | exact norialaw4_known.mono _
      | exact pack_Put.mono _ _ _
      | exact LeO.none _
      | refine LeO.ite ?_ ?_
      | refine LeO.bind ?_ (fun _ => ?_)
    · intro y0 y1 y2 y3 y4
      unfold norialaw4_PackParts.l1
      repeat' first
      | (with_reducible exact ih0 _ _ _ _)
      | (with_reducible exact ih1 _ _ _ _ _)
      | (with_reducible exact norialaw4_known.mono _)
      | (with_reducible exact pack_Put.mono _ _ _)
      | (with_reducible exact LeO.refl _)
      | (with_reducible exact LeO.none _)
      | (with_reducible refine LeO.ite ?_ ?_)
      | (with_reducible refine LeO.bind ?_ (fun _ => ?_))
      | exact ih0 _ _ _ _
      | exact ih1 _ _ _ _ _
      | exact norialaw4_known.mono _
      | exact pack_Put.mono _ _ _
      | exact LeO.none _
      | refine LeO.ite ?_ ?_
      | refine LeO.bind ?_ (fun _ => ?_)
theorem norialaw4_PackParts.mono : ∀ a0 k, LeO (norialaw4_PackParts.f k a0) (norialaw4_PackParts.f (k + 1) a0) := by
  intro a0 k
  obtain ⟨ih0, ih1⟩ := norialaw4_PackParts.mono_l k
  unfold norialaw4_PackParts.f
  repeat' first
      | (with_reducible exact ih0 _ _ _ _)
      | (with_reducible exact ih1 _ _ _ _ _)
      | (with_reducible exact norialaw4_known.mono _)
      | (with_reducible exact pack_Put.mono _ _ _)
      | (with_reducible exact LeO.refl _)
      | (with_reducible exact LeO.none _)
      | (with_reducible refine LeO.ite ?_ ?_)
      | (with_reducible refine LeO.bind ?_ (fun _ => ?_))
      | exact ih0 _ _ _ _
      | exact ih1 _ _ _ _ _
      | exact norialaw4_known.mono _
      | exact pack_Put.mono _ _ _
      | exact LeO.none _
      | refine LeO.ite ?_ ?_
      | refine LeO.bind ?_ (fun _ => ?_)
set_option maxHeartbeats 8000000 in
set_option maxRecDepth 100000 in
theorem norialaw4_PackParts.calls (k : Nat) (A0 : Option Addr) (c0 : Nat) (l0 : List Int) (r : Bool) (w : World) (hr0 : Kd.C (Kd.int .u8) w A0 l0.length l0) (hc0 : l0.length ≤ c0) (h : norialaw4_PackParts.f k l0 = some r) :
    Calls Try.prog 5 #[.slice A0 l0.length c0] w fun e w' => e = .returned (.bool r) ∧ Below w.heap.size w w' := by
  have HR0 := Aside0.mk hr0
  have HC0 := Aside0.mk hc0
  clear hr0 hc0
  have HB := Aside0.mk (Below.refl w.heap.size w)
  have H : ((norialaw4_known.f k).bind fun t210 => (if t210 = true then (if (l0.length : Int) > 200 then (some true) else (norialaw4_PackParts.l0 k l0 ([] : List Int) ([] : List Int) 0)) else (none))) = some r := h
  clear h
  replace H := Option.bind_eq_some_iff.mp H
  obtain ⟨t210, A20, H⟩ := H
  replace H : (if t210 = true then (if (l0.length : Int) > 200 then (some true) else (norialaw4_PackParts.l0 k l0 ([] : List Int) ([] : List Int) 0)) else (none)) = some r := H
  have A2 := Aside0.mk A20
  clear A20
  by_cases c3 : t210 = true
  · subst c3
    have H1 : (if (l0.length : Int) > 200 then (some true) else (norialaw4_PackParts.l0 k l0 ([] : List Int) ([] : List Int) 0)) = some r := by rw [if_pos rfl] at H; exact H
    clear H
    have H := H1
    clear H1
    by_cases c4 : (l0.length : Int) > 200
    · rw [if_pos c4] at H
      have c4b0 : decide (200 < (l0.length : Int)) = true := decide_eq_true c4
      have c4b1 : decide (200 < l0.length) = true := decide_eq_true (by omega)
      clear c4
      obtain rfl := Option.some.inj H
      go_enter Try.func5, Try.ntmps5
      go_wp2_with (first | ((with_reducible refine gate_callee (f := 8) rfl ?_); refine goesL_ (some 11) rfl rfl Try.func8 (by kernel_rfl) rfl #[] rfl (by (try simp only [List.map_toArray, List.map_cons, List.map_nil]); first | done | rfl | (simp only [List.length_drop, List.length_take]; rfl)) ?_; (with_reducible refine (norialaw4_known.calls k  true _ A2.out).mono ?_); rintro e w5 ⟨rfl, hb⟩; refine ⟨_, rfl, ?_⟩; have n0_ := Aside0.mk (below_step (by repeat (first | (with_reducible first | exact HB.out | apply below_alloc | apply pw_below_drewN | apply below_drew1) | exact HB.out)) hb); clear HB; have HB := n0_; clear n0_; (try clear hb); (try clear hb2); (try clear hk); (try clear hi)))
      go_ret
      exact ⟨by first | rfl | (simp [errW_none, errW_some] <;> rfl) | (simp [*, errW_none, errW_some] <;> rfl), by repeat (first | (with_reducible first | exact HB.out | apply below_alloc | apply pw_below_drewN | apply below_drew1) | exact HB.out)⟩
    · rw [if_neg c4] at H
      have c4b0 : decide (200 < (l0.length : Int)) = false := decide_eq_false c4
      have c4b1 : decide (200 < l0.length) = false := decide_eq_false (by omega)
      clear c4
      have H' := Aside0.mk H
      clear H
      go_enter Try.func5, Try.ntmps5
      go_wp2_with (first | ((with_reducible refine gate_callee (f := 8) rfl ?_); refine goesL_ (some 11) rfl rfl Try.func8 (by kernel_rfl) rfl #[] rfl (by (try simp only [List.map_toArray, List.map_cons, List.map_nil]); first | done | rfl | (simp only [List.length_drop, List.length_take]; rfl)) ?_; (with_reducible refine (norialaw4_known.calls k  true _ A2.out).mono ?_); rintro e w6 ⟨rfl, hb⟩; refine ⟨_, rfl, ?_⟩; have n0_ := Aside0.mk (below_step (by repeat (first | (with_reducible first | exact HB.out | apply below_alloc | apply pw_below_drewN | apply below_drew1) | exact HB.out)) hb); clear HB; have HB := n0_; clear n0_; (try clear hb); (try clear hb2); (try clear hk); (try clear hi)))
      go_loopg [3, 4, 5] k (fun kq v3 v4 v5 w' => ∃ (x3_1 : List Int) (x4_1 : List Int) (x5_1 : Int), v5 = .int .i64 x5_1 ∧ Aside0 (norialaw4_PackParts.l0 kq l0 x3_1 x4_1 x5_1 = some r) ∧ Aside0 (kq ≤ k) ∧ Aside0 (Kd.R (Kd.int .u64) 39 w' w.heap.size (fun k_ => some k_ ≠ (v4 : Value).ownBlock) v3 x3_1) ∧ Aside0 (Kd.R (Kd.int .u64) 39 w' w.heap.size (fun k_ => some k_ ≠ (v3 : Value).ownBlock) v4 x4_1) ∧ Aside0 (Below w.heap.size w w'))
      case atStart => exact ⟨(([] : List Int)), (([] : List Int)), (0), (by first | rfl | (simp; done) | (simp [*]; done)), H', ⟨Nat.le_refl _⟩, ⟨by first | exact Kd.R_nil _ _ _ _ _ | exact Kd.N_nil _ _ _ _ _ | exact Kd.V_nil _ _ _ _ _ | exact Kd.Q_nil _ _ _ _ _ | exact Kd.S_nil _ _ _ _ _⟩, ⟨by first | exact Kd.R_nil _ _ _ _ _ | exact Kd.N_nil _ _ _ _ _ | exact Kd.V_nil _ _ _ _ _ | exact Kd.Q_nil _ _ _ _ _ | exact Kd.S_nil _ _ _ _ _⟩, ⟨by repeat (first | (with_reducible first | exact HB.out | apply below_alloc | apply pw_below_drewN | apply below_drew1) | exact HB.out)⟩⟩
      case round =>
        clear H'
        try clear p2
        try clear c3
        try clear c4
        try clear c4b0
        try clear c4b1
        try clear c5
        obtain ⟨x3_1, x4_1, x5_1, rfl, HA, HK1, HO_3, HO_4, HB⟩ := hrel
        cases gk with
        | zero => exact absurd HA.out (by simp [norialaw4_PackParts.l0])
        | succ k1 =>
          have H := HA.out
          clear HA
          simp only [norialaw4_PackParts.l0] at H
          by_cases c7 : x5_1 < (l0.length : Int)
          · rw [if_pos c7] at H
            have c7b0 : decide (x5_1 < (l0.length : Int)) = true := decide_eq_true c7
            clear c7
            by_cases c8 : 0 ≤ x5_1
            · rw [if_pos c8] at H
              have c8b0 : decide (0 ≤ x5_1) = true := decide_eq_true c8
              clear c8
              by_cases c9 : x3_1.length < 17592186044416
              · rw [if_pos c9] at H
                have LMc9 := Aside0.mk c9
                clear c9
                obtain ⟨y220, hy220⟩ : ∃ y_ : List Int, y_ = (x3_1 ++ [IntKind.u64.wrap (rd l0 x5_1)]) := ⟨_, rfl⟩
                replace H : (norialaw4_PackParts.l1 k1 l0 y220 x4_1 x5_1 0) = some r := by first | (rw [hy220]; with_reducible exact H) | (have H2_ := (Option.bind_some _ _).symm.trans H; rw [hy220]; with_reducible exact H2_) | (have H2_ := (Option.bind_some _ _).symm.trans H; with_reducible exact H2_) | with_reducible exact H | (rw [hy220]; exact H) | exact H
                have Ny220 := Aside0.mk hy220
                clear hy220
                have H' := Aside0.mk H
                clear H
                have p219 : 0 ≤ (x5_1 : Int) := of_decide_eq_true (by first | (with_reducible assumption) | assumption)
                have q219 : x5_1 < (l0.length : Int) := of_decide_eq_true (by first | (with_reducible assumption) | assumption)
                obtain ⟨ad219, e219, hx219_0⟩ := Kd.at_int HR0.out x5_1 p219 q219
                cases e219
                replace hx219_0 := (HB.out.cell (World.block_lt_of_cell? w _ hx219_0)).trans hx219_0
                replace p219 := eq_true p219
                replace q219 := eq_true q219
                go_wp2_with (first | ((with_reducible refine gate_builtin (b := .append) (xs := #[.tmp 22, .tmp 28]) rfl ?_); at_builtin; refine Kd.R_append (Kd.int .u64) (w0 := w) w.heap.size rfl (.tmp 22) (.tmp 28) 22 39 (.int .u64 0) 8 rfl Try.underlying22 info39 rfl (by decide) (by omega) u3 x3_1 (IntKind.u64.wrap (rd l0 x5_1)) [.int .u64 (IntKind.u64.wrap (rd l0 x5_1))] (fun k_ => some k_ ≠ (u4 : Value).ownBlock) (fun _ => False) rfl rfl ?aP (fun _ hk => hk.elim) ?aF ?aO ?aB ?aS ?aL ?_; (case aP => exact rfl); (case aB => exact (by repeat (first | (with_reducible first | exact HB.out | apply below_alloc | apply pw_below_drewN | apply below_drew1) | exact HB.out))); (case aF => exact (fun k_ hk => Kd.fresh' (Kd.R_lt (by (with_reducible repeat (first | apply Kd.R_alloc | apply Kd.R_drewN | apply Kd.R_drew)); exact HO_4.out)) k_ hk)); (case aO => exact (by (with_reducible repeat (first | apply Kd.R_alloc | apply Kd.R_drewN | apply Kd.R_drew)); exact HO_3.out)); (case aS => exact (below_size (by repeat (first | (with_reducible first | exact HB.out | apply below_alloc | apply pw_below_drewN | apply below_drew1) | exact HB.out)))); (case aL => have := LMc9.out; omega); intro v221 w10 ho hb hg hat; rw [← Ny220.out] at ho; have n0_ := Aside0.mk (Kd.R_after (ok := (fun _ => True)) (by (with_reducible repeat (first | apply Kd.R_alloc | apply Kd.R_drewN | apply Kd.R_drew)); exact Kd.R_mono HO_4.out (fun _ hk => ⟨trivial, hk⟩)) hg hat); have n1_ := Aside0.mk (hb); have n2_ := Aside0.mk (ho); clear HO_4; clear HB; clear HO_3; have HO_4 := n0_; have HB := n1_; have HO222 := n2_; clear n0_ n1_ n2_; clear ho hb hg hat))
                go_loopg [4, 6] k1 (fun kq v4 v6 w' => ∃ (x4_2 : List Int) (x6_2 : Int), v6 = .int .i64 x6_2 ∧ Aside0 (norialaw4_PackParts.l1 kq l0 y220 x4_2 x5_1 x6_2 = some r) ∧ Aside0 (kq ≤ k1) ∧ Aside0 (Kd.R (Kd.int .u64) 39 w' w.heap.size (fun k_ => some k_ ≠ (v4 : Value).ownBlock) v221 y220) ∧ Aside0 (Kd.R (Kd.int .u64) 39 w' w.heap.size (fun k_ => some k_ ≠ (v221 : Value).ownBlock) v4 x4_2) ∧ Aside0 (Below w.heap.size w w'))
                case atStart => exact ⟨(x4_1), (0), (by first | rfl | (simp; done) | (simp [*]; done)), H', ⟨Nat.le_refl _⟩, ⟨by (with_reducible repeat (first | apply Kd.R_alloc | apply Kd.R_drewN | apply Kd.R_drew)); exact HO222.out⟩, ⟨by (with_reducible repeat (first | apply Kd.R_alloc | apply Kd.R_drewN | apply Kd.R_drew)); exact Kd.R_mono HO_4.out (fun _ hk => hk.2)⟩, ⟨by repeat (first | (with_reducible first | exact HB.out | apply below_alloc | apply pw_below_drewN | apply below_drew1) | exact HB.out)⟩⟩
                case round =>
                  clear H'
                  try clear p2
                  try clear q2
                  try clear hx2
                  try clear c3
                  try clear c4
                  try clear c4b0
                  try clear c4b1
                  try clear c5
                  try clear c7
                  try clear c7b0
                  try clear c8
                  try clear c8b0
                  try clear c9
                  try clear hx219_0
                  try clear p2
                  try clear p219
                  try clear q219
                  obtain ⟨x4_2, x6_2, rfl, HA, HK2, HO_3, HO_4, HB⟩ := hrel
                  cases gk with
                  | zero => exact absurd HA.out (by simp [norialaw4_PackParts.l1])
                  | succ k2 =>
                    have H := HA.out
                    clear HA
                    simp only [norialaw4_PackParts.l1] at H
                    by_cases c11 : x6_2 < 8
                    · rw [if_pos c11] at H
                      have c11b0 : decide (x6_2 < 8) = true := decide_eq_true c11
                      clear c11
                      by_cases c12 : 0 ≤ x5_1
                      · rw [if_pos c12] at H
                        have c12b0 : decide (0 ≤ x5_1) = true := decide_eq_true c12
                        clear c12
                        by_cases c13 : x5_1 < (l0.length : Int)
                        · rw [if_pos c13] at H
                          have c13b0 : decide (x5_1 < (l0.length : Int)) = true := decide_eq_true c13
                          clear c13
                          obtain ⟨ji14, hji14⟩ : ∃ j_ : Int, (IntKind.u64.wrap (x6_2)) = j_ := ⟨_, rfl⟩
                          replace H : (if 0 ≤ (ji14) then (if x4_2.length < 17592186044416 then (norialaw4_PackParts.l1 k2 l0 y220 (x4_2 ++ [IntKind.u64.wrap (Go.bits .and .u8 (shr .u8 (rd l0 x5_1) (ji14)) 1)]) x5_1 (wrap64 (x6_2 + 1))) else (none)) else (none)) = some r := by first | (rw [hji14] at H; exact H) | (simp only [hji14] at H ⊢; exact H)
                          by_cases c15 : 0 ≤ (ji14)
                          · rw [if_pos c15] at H
                            have c15b0 := eq_true c15
                            have c15b1 : decide (0 ≤ (ji14)) = true := decide_eq_true c15
                            clear c15
                            obtain ⟨ji16, hji16⟩ : ∃ j_ : Int, (shr .u8 (rd l0 x5_1) (ji14)) = j_ := ⟨_, rfl⟩
                            replace H : (if x4_2.length < 17592186044416 then (norialaw4_PackParts.l1 k2 l0 y220 (x4_2 ++ [IntKind.u64.wrap (Go.bits .and .u8 (ji16) 1)]) x5_1 (wrap64 (x6_2 + 1))) else (none)) = some r := by first | (rw [hji16] at H; exact H) | (simp only [hji16] at H ⊢; exact H)
                            have hji16_ : ((rd l0 x5_1) / 2 ^ min (ji14).toNat 8) = ji16 := hji16
                            have hji16z : (ji14) ≤ 8 → ((rd l0 x5_1) / 2 ^ (ji14).toNat) = ji16 := shr_small hji16
                            by_cases c17 : x4_2.length < 17592186044416
                            · rw [if_pos c17] at H
                              have LMc17 := Aside0.mk c17
                              clear c17
                              obtain ⟨y224, hy224⟩ : ∃ y_ : List Int, y_ = (x4_2 ++ [IntKind.u64.wrap (Go.bits .and .u8 (ji16) 1)]) := ⟨_, rfl⟩
                              replace H : (norialaw4_PackParts.l1 k2 l0 y220 y224 x5_1 (wrap64 (x6_2 + 1))) = some r := by first | (rw [hy224]; with_reducible exact H) | (have H2_ := (Option.bind_some _ _).symm.trans H; rw [hy224]; with_reducible exact H2_) | (have H2_ := (Option.bind_some _ _).symm.trans H; with_reducible exact H2_) | with_reducible exact H | (rw [hy224]; exact H) | exact H
                              have Ny224 := Aside0.mk hy224
                              clear hy224
                              have H' := Aside0.mk H
                              clear H
                              have p223 : 0 ≤ (x5_1 : Int) := of_decide_eq_true (by first | (with_reducible assumption) | assumption)
                              have q223 : x5_1 < (l0.length : Int) := of_decide_eq_true (by first | (with_reducible assumption) | assumption)
                              obtain ⟨ad223, e223, hx223_0⟩ := Kd.at_int HR0.out x5_1 p223 q223
                              obtain rfl : ad219 = ad223 := (by injection e223)
                              replace hx223_0 := (HB.out.cell (World.block_lt_of_cell? w _ hx223_0)).trans hx223_0
                              replace p223 := eq_true p223
                              replace q223 := eq_true q223
                              go_wp2_with (first | ((with_reducible refine gate_builtin (b := .append) (xs := #[.tmp 34, .tmp 44]) rfl ?_); at_builtin; refine Kd.R_append (Kd.int .u64) (w0 := w) w.heap.size rfl (.tmp 34) (.tmp 44) 22 39 (.int .u64 0) 8 rfl Try.underlying22 info39 rfl (by decide) (by omega) u4 x4_2 (IntKind.u64.wrap (Go.bits .and .u8 (ji16) 1)) [.int .u64 (IntKind.u64.wrap (Go.bits .and .u8 (ji16) 1))] (fun k_ => some k_ ≠ (v221 : Value).ownBlock) (fun _ => False) rfl rfl ?aP (fun _ hk => hk.elim) ?aF ?aO ?aB ?aS ?aL ?_; (case aP => exact rfl); (case aB => exact (by repeat (first | (with_reducible first | exact HB.out | apply below_alloc | apply pw_below_drewN | apply below_drew1) | exact HB.out))); (case aF => exact (fun k_ hk => Kd.fresh' (Kd.R_lt (by (with_reducible repeat (first | apply Kd.R_alloc | apply Kd.R_drewN | apply Kd.R_drew)); exact HO_3.out)) k_ hk)); (case aO => exact (by (with_reducible repeat (first | apply Kd.R_alloc | apply Kd.R_drewN | apply Kd.R_drew)); exact HO_4.out)); (case aS => exact (below_size (by repeat (first | (with_reducible first | exact HB.out | apply below_alloc | apply pw_below_drewN | apply below_drew1) | exact HB.out)))); (case aL => have := LMc17.out; omega); intro v225 w18 ho hb hg hat; rw [← Ny224.out] at ho; have n0_ := Aside0.mk (Kd.R_after (ok := (fun _ => True)) (by (with_reducible repeat (first | apply Kd.R_alloc | apply Kd.R_drewN | apply Kd.R_drew)); exact Kd.R_mono HO_3.out (fun _ hk => ⟨trivial, hk⟩)) hg hat); have n1_ := Aside0.mk (hb); have n2_ := Aside0.mk (ho); clear HO_3; clear HB; clear HO_4; have HO_3 := n0_; have HB := n1_; have HO226 := n2_; clear n0_ n1_ n2_; clear ho hb hg hat))
                              first | go_roundg k2 | (simp only [← hji14, ← hji16] at H' ⊢; go_roundg k2)
                              case measure => have := HK1.out; have := HK2.out; omega
                              case rel => exact ⟨(y224), (wrap64 (x6_2 + 1)), (by first | rfl | (simp; done) | (simp [*]; done)), H', ⟨by have := HK1.out; have := HK2.out; omega⟩, ⟨by (with_reducible repeat (first | apply Kd.R_alloc | apply Kd.R_drewN | apply Kd.R_drew)); exact Kd.R_mono HO_3.out (fun _ hk => hk.2)⟩, ⟨by (with_reducible repeat (first | apply Kd.R_alloc | apply Kd.R_drewN | apply Kd.R_drew)); exact HO226.out⟩, ⟨by repeat (first | (with_reducible first | exact HB.out | apply below_alloc | apply pw_below_drewN | apply below_drew1) | exact HB.out)⟩⟩
                            · rw [if_neg c17] at H
                              exact absurd H (by simp)
                          · rw [if_neg c15] at H
                            exact absurd H (by simp)
                        · rw [if_neg c13] at H
                          exact absurd H (by simp)
                      · rw [if_neg c12] at H
                        exact absurd H (by simp)
                    · rw [if_neg c11] at H
                      have c11b0 : decide (x6_2 < 8) = false := decide_eq_false c11
                      clear c11
                      have H' := Aside0.mk H
                      clear H
                      go_wp2
                      go_roundg k2
                      case measure => have := HK1.out; have := HK2.out; omega
                      case rel => exact ⟨(y220), (x4_2), (wrap64 (x5_1 + 1)), (by first | rfl | (simp; done) | (simp [*]; done)), H', ⟨by have := HK1.out; have := HK2.out; omega⟩, ⟨by (with_reducible repeat (first | apply Kd.R_alloc | apply Kd.R_drewN | apply Kd.R_drew)); exact HO_3.out⟩, ⟨by (with_reducible repeat (first | apply Kd.R_alloc | apply Kd.R_drewN | apply Kd.R_drew)); exact HO_4.out⟩, ⟨by repeat (first | (with_reducible first | exact HB.out | apply below_alloc | apply pw_below_drewN | apply below_drew1) | exact HB.out)⟩⟩
              · rw [if_neg c9] at H
                exact absurd H (by simp)
            · rw [if_neg c8] at H
              exact absurd H (by simp)
          · rw [if_neg c7] at H
            have c7b0 : decide (x5_1 < (l0.length : Int)) = false := decide_eq_false c7
            clear c7
            replace H := Option.bind_eq_some_iff.mp H
            obtain ⟨⟨t211, t212⟩, A190, H⟩ := H
            replace H : ((pack_Put.f k1 x4_1 1).bind fun bt215 => (if (wrap64 (t212 + bt215.2)) = 0 then (if (strOfNums t211).toList = (strOfNums l0).toList then (some ((strOfNums bt215.1).toList == (strOfNums l0).toList)) else (none)) else (none))) = some r := H
            have A19 := Aside0.mk A190
            clear A190
            replace H := Option.bind_eq_some_iff.mp H
            obtain ⟨⟨t215, t216⟩, A200, H⟩ := H
            replace H : (if (wrap64 (t212 + t216)) = 0 then (if (strOfNums t211).toList = (strOfNums l0).toList then (some ((strOfNums t215).toList == (strOfNums l0).toList)) else (none)) else (none)) = some r := H
            have A20 := Aside0.mk A200
            clear A200
            by_cases c21 : (wrap64 (t212 + t216)) = 0
            · rw [if_pos c21] at H
              have c21b0 : ((wrap64 (t212 + t216)) == 0) = true := beq_iff_eq.mpr c21
              have c21b1 : ((wrap64 (t212 + t216)) != 0) = false := bne_eq_false_iff_eq.mpr c21
              clear c21
              by_cases c22 : (strOfNums t211).toList = (strOfNums l0).toList
              · rw [if_pos c22] at H
                have c22b0 : ((strOfNums t211).toList == (strOfNums l0).toList) = true := beq_iff_eq.mpr c22
                have c22b1 : ((strOfNums t211).toList != (strOfNums l0).toList) = false := bne_eq_false_iff_eq.mpr c22
                clear c22
                obtain rfl := Option.some.inj H
                obtain ⟨Ao23, co23, eo23⟩ := Kd.R_slice HO_3.out
                subst eo23
                go_wp2_with (first | ((with_reducible refine gate_callee (f := 9) rfl ?_); refine goesL_ (some 48) rfl rfl Try.func9 (by kernel_rfl) rfl #[.slice Ao23 x3_1.length co23, .int .i64 8] rfl (by (try simp only [List.map_toArray, List.map_cons, List.map_nil]); first | done | rfl | (simp only [List.length_drop, List.length_take]; rfl)) ?_; (with_reducible refine (pack_Put.calls k1 _ _ x3_1 8 t211 t212 _ ?side1 ?side2 A19.out).mono ?_); (case side1 => repeat (first | exact (Kd.R_reads' HO_3.out).2.2 | (with_reducible refine Kd.C_alloc ?_ _) | (with_reducible refine Kd.C_drewN ?_ _) | (with_reducible refine Kd.C_drew ?_))); (case side2 => exact (Kd.R_reads' HO_3.out).2.1); rintro e w24 ⟨v213, rfl, ho0, hb⟩; refine ⟨_, rfl, ?_⟩; have n0_ := Aside0.mk (Kd.R_below (by (with_reducible repeat (first | apply Kd.R_alloc | apply Kd.R_drewN | apply Kd.R_drew)); exact HO_3.out) hb); have n1_ := Aside0.mk (Kd.R_below (by (with_reducible repeat (first | apply Kd.R_alloc | apply Kd.R_drewN | apply Kd.R_drew)); exact HO_4.out) hb); have n2_ := Aside0.mk (Kd.R_lower ho0 (below_size (by repeat (first | (with_reducible first | exact HB.out | apply below_alloc | apply pw_below_drewN | apply below_drew1) | exact HB.out)))); have n3_ := Aside0.mk (below_step (by repeat (first | (with_reducible first | exact HB.out | apply below_alloc | apply pw_below_drewN | apply below_drew1) | exact HB.out)) hb); clear HO_3; clear HO_4; clear HB; have HO_3 := n0_; have HO_4 := n1_; have HO214 := n2_; have HB := n3_; clear n0_ n1_ n2_ n3_; (try clear hb); (try clear hb2); (try clear hk); (try clear hi); (try clear ho0); obtain ⟨Ao25, co25, eo25⟩ := Kd.R_slice HO_4.out; subst eo25) | ((with_reducible refine gate_callee (f := 9) rfl ?_); refine goesL_ (some 53) rfl rfl Try.func9 (by kernel_rfl) rfl #[.slice Ao25 x4_1.length co25, .int .i64 1] rfl (by (try simp only [List.map_toArray, List.map_cons, List.map_nil]); first | done | rfl | (simp only [List.length_drop, List.length_take]; rfl)) ?_; (with_reducible refine (pack_Put.calls k1 _ _ x4_1 1 t215 t216 _ ?side1 ?side2 A20.out).mono ?_); (case side1 => repeat (first | exact (Kd.R_reads' HO_4.out).2.2 | (with_reducible refine Kd.C_alloc ?_ _) | (with_reducible refine Kd.C_drewN ?_ _) | (with_reducible refine Kd.C_drew ?_))); (case side2 => exact (Kd.R_reads' HO_4.out).2.1); rintro e w26 ⟨v217, rfl, ho0, hb⟩; refine ⟨_, rfl, ?_⟩; have n0_ := Aside0.mk (Kd.R_below (by (with_reducible repeat (first | apply Kd.R_alloc | apply Kd.R_drewN | apply Kd.R_drew)); exact HO_3.out) hb); have n1_ := Aside0.mk (Kd.R_below (by (with_reducible repeat (first | apply Kd.R_alloc | apply Kd.R_drewN | apply Kd.R_drew)); exact HO_4.out) hb); have n2_ := Aside0.mk (Kd.R_elder' (by (with_reducible repeat (first | apply Kd.R_alloc | apply Kd.R_drewN | apply Kd.R_drew)); exact HO214.out) (Kd.R_base ho0) hb); have n3_ := Aside0.mk (Kd.R_lower (Kd.R_new' ho0 (Kd.R_lt (by (with_reducible repeat (first | apply Kd.R_alloc | apply Kd.R_drewN | apply Kd.R_drew)); exact HO214.out))) (below_size (by repeat (first | (with_reducible first | exact HB.out | apply below_alloc | apply pw_below_drewN | apply below_drew1) | exact HB.out)))); have n4_ := Aside0.mk (below_step (by repeat (first | (with_reducible first | exact HB.out | apply below_alloc | apply pw_below_drewN | apply below_drew1) | exact HB.out)) hb); clear HO_3; clear HO_4; clear HO214; clear HB; have HO_3 := n0_; have HO_4 := n1_; have HO214 := n2_; have HO218 := n3_; have HB := n4_; clear n0_ n1_ n2_ n3_ n4_; (try clear hb); (try clear hb2); (try clear hk); (try clear hi); (try clear ho0); have hcv27 := own_string (P := Try.prog) Try.underlying24 Try.underlying5 Try.underlying9 (Kd.own_of_R HO214.out); have hcv27d := fun m_ => own_string (P := Try.prog) Try.underlying24 Try.underlying5 Try.underlying9 (Kd.own_of_R (Kd.R_drewN HO214.out m_)); have hcv28 := Kd.C_string (P := Try.prog) (A := A0) (c := c0) Try.underlying24 Try.underlying5 Try.underlying9 (Kd.C_below HR0.out HB.out); have hcv29 := own_string (P := Try.prog) Try.underlying24 Try.underlying5 Try.underlying9 (Kd.own_of_R HO218.out); have hcv29d := fun m_ => own_string (P := Try.prog) Try.underlying24 Try.underlying5 Try.underlying9 (Kd.own_of_R (Kd.R_drewN HO218.out m_)); have hcv30 := Kd.C_string (P := Try.prog) (A := A0) (c := c0) Try.underlying24 Try.underlying5 Try.underlying9 (Kd.C_below HR0.out HB.out)))
                go_ret
                exact ⟨by first | rfl | (simp [errW_none, errW_some] <;> rfl) | (simp [*, errW_none, errW_some] <;> rfl), by repeat (first | (with_reducible first | exact HB.out | apply below_alloc | apply pw_below_drewN | apply below_drew1) | exact HB.out)⟩
              · rw [if_neg c22] at H
                exact absurd H (by simp)
            · rw [if_neg c21] at H
              exact absurd H (by simp)
  · replace c3 := Bool.eq_false_iff.mpr c3
    subst c3
    have H1 : (none) = some r := by rw [if_neg (show ¬ (false = true) by decide)] at H; exact H
    clear H
    have H := H1
    clear H1
    exact absurd H (by simp)

/-- THE ONE PURE STATEMENT of norialaw4_PackParts: yours. -/
def norialaw4_PackParts.Pure : Prop := ∀ (l0 : List Int), l0.length ≤ maxLen → l0.length * 1 ≤ 140737488351232 → (∀ x ∈ l0, (Lit.int .u8 x).wf = true) → ∃ k, norialaw4_PackParts.f k l0 = some true
theorem norialaw4_PackParts.walk (P : norialaw4_PackParts.Pure) (a0 : Option Addr) (len0 cap0 : Nat) (z0 : List Int) (w : World) (w0 : (a0 = none ∧ len0 = 0 ∧ cap0 = 0 ∧ z0 = []) ∨ ∃ x, a0 = some x ∧ len0 ≤ cap0 ∧ cap0 ≤ maxLen ∧ z0.length = cap0 ∧ (∀ i, i < z0.length → w.cell? (x.add i) = some (.int .u8 (z0.getD i 0))) ∧ ∀ n ∈ z0, (Lit.int .u8 n).wf = true) (y0 : len0 * 1 ≤ 140737488351232) :
    Calls Try.prog 5 #[.slice a0 len0 cap0] w fun e w' => e = .returned (.bool true) ∧ Below w.heap.size w w' := by
  obtain ⟨l0, rfl, hr0, hm0, hw0, hc0⟩ := ReadsInt.ofRowC w0
  obtain ⟨k, h⟩ := P l0 hm0 y0 hw0
  refine (norialaw4_PackParts.calls k _ _ l0 true w (Kd.C_of_reads (d := (0 : Int)) (h1 := fun _ => rfl) hr0) hc0 h).mono ?_
  rintro e w' ⟨rfl, hd⟩
  exact ⟨rfl, hd⟩

/-! ### norialaw4_PackWide: function 6 -/
def norialaw4_PackWide.f (k : Nat) (l0 : List Int) (a1 : Int) : Option (Bool) := (norialaw4_known.f k).bind fun t227 => (if t227 = true then (if (l0.length : Int) > 200 then (some true) else ((pack_Width.f k l0).bind fun t228 => ((pack_Put.f k l0 t228).bind fun bt229 => ((pack_Put.f k l0 (mn 64 (wrap64 (t228 + (wrap64 (Int.tmod a1 65)))))).bind fun bt233 => ((pack_Get.f k bt233.1 (l0.length : Int) (mn 64 (wrap64 (t228 + (wrap64 (Int.tmod a1 65)))))).bind fun bt237 => (if (wrap64 ((wrap64 (bt229.2 + bt233.2)) + bt237.2)) = 0 then (if (bt229.1.length : Int) ≤ (bt233.1.length : Int) then ((pack_Size.f (l0.length : Int) (mn 64 (wrap64 (t228 + (wrap64 (Int.tmod a1 65)))))).bind fun t241 => (if (bt233.1.length : Int) = t241 then ((norialaw4_Same.f k bt237.1 l0).bind fun t242 => (if t242 = true then (some ((bt233.1.length : Int) == (wrap64 (Int.tdiv (wrap64 ((wrap64 ((l0.length : Int) * (mn 64 (wrap64 (t228 + (wrap64 (Int.tmod a1 65))))))) + 7)) 8)))) else (none))) else (none))) else (none)) else (none))))))) else (none))
theorem norialaw4_PackWide.mono : ∀ a0 a1 k, LeO (norialaw4_PackWide.f k a0 a1) (norialaw4_PackWide.f (k + 1) a0 a1) := by
  intro a0 a1 k
  unfold norialaw4_PackWide.f
  repeat' first
      | (with_reducible exact norialaw4_Same.mono _ _ _)
      | (with_reducible exact norialaw4_known.mono _)
      | (with_reducible exact pack_Get.mono _ _ _ _)
      | (with_reducible exact pack_Put.mono _ _ _)
      | (with_reducible exact pack_Width.mono _ _)
      | (with_reducible exact LeO.refl _)
      | (with_reducible exact LeO.none _)
      | (with_reducible refine LeO.ite ?_ ?_)
      | (with_reducible refine LeO.bind ?_ (fun _ => ?_))
      | exact norialaw4_Same.mono _ _ _
      | exact norialaw4_known.mono _
      | exact pack_Get.mono _ _ _ _
      | exact pack_Put.mono _ _ _
      | exact pack_Width.mono _ _
      | exact LeO.none _
      | refine LeO.ite ?_ ?_
      | refine LeO.bind ?_ (fun _ => ?_)
set_option maxHeartbeats 8000000 in
set_option maxRecDepth 100000 in
theorem norialaw4_PackWide.calls (k : Nat) (A0 : Option Addr) (c0 : Nat) (l0 : List Int) (a1 : Int) (r : Bool) (w : World) (hr0 : Kd.C (Kd.int .u64) w A0 l0.length l0) (hc0 : l0.length ≤ c0) (h : norialaw4_PackWide.f k l0 a1 = some r) :
    Calls Try.prog 6 #[.slice A0 l0.length c0, .int .u8 a1] w fun e w' => e = .returned (.bool r) ∧ Below w.heap.size w w' := by
  have HR0 := Aside0.mk hr0
  have HC0 := Aside0.mk hc0
  clear hr0 hc0
  have HB := Aside0.mk (Below.refl w.heap.size w)
  have H : ((norialaw4_known.f k).bind fun t227 => (if t227 = true then (if (l0.length : Int) > 200 then (some true) else ((pack_Width.f k l0).bind fun t228 => ((pack_Put.f k l0 t228).bind fun bt229 => ((pack_Put.f k l0 (mn 64 (wrap64 (t228 + (wrap64 (Int.tmod a1 65)))))).bind fun bt233 => ((pack_Get.f k bt233.1 (l0.length : Int) (mn 64 (wrap64 (t228 + (wrap64 (Int.tmod a1 65)))))).bind fun bt237 => (if (wrap64 ((wrap64 (bt229.2 + bt233.2)) + bt237.2)) = 0 then (if (bt229.1.length : Int) ≤ (bt233.1.length : Int) then ((pack_Size.f (l0.length : Int) (mn 64 (wrap64 (t228 + (wrap64 (Int.tmod a1 65)))))).bind fun t241 => (if (bt233.1.length : Int) = t241 then ((norialaw4_Same.f k bt237.1 l0).bind fun t242 => (if t242 = true then (some ((bt233.1.length : Int) == (wrap64 (Int.tdiv (wrap64 ((wrap64 ((l0.length : Int) * (mn 64 (wrap64 (t228 + (wrap64 (Int.tmod a1 65))))))) + 7)) 8)))) else (none))) else (none))) else (none)) else (none))))))) else (none))) = some r := h
  clear h
  replace H := Option.bind_eq_some_iff.mp H
  obtain ⟨t227, A30, H⟩ := H
  replace H : (if t227 = true then (if (l0.length : Int) > 200 then (some true) else ((pack_Width.f k l0).bind fun t228 => ((pack_Put.f k l0 t228).bind fun bt229 => ((pack_Put.f k l0 (mn 64 (wrap64 (t228 + (wrap64 (Int.tmod a1 65)))))).bind fun bt233 => ((pack_Get.f k bt233.1 (l0.length : Int) (mn 64 (wrap64 (t228 + (wrap64 (Int.tmod a1 65)))))).bind fun bt237 => (if (wrap64 ((wrap64 (bt229.2 + bt233.2)) + bt237.2)) = 0 then (if (bt229.1.length : Int) ≤ (bt233.1.length : Int) then ((pack_Size.f (l0.length : Int) (mn 64 (wrap64 (t228 + (wrap64 (Int.tmod a1 65)))))).bind fun t241 => (if (bt233.1.length : Int) = t241 then ((norialaw4_Same.f k bt237.1 l0).bind fun t242 => (if t242 = true then (some ((bt233.1.length : Int) == (wrap64 (Int.tdiv (wrap64 ((wrap64 ((l0.length : Int) * (mn 64 (wrap64 (t228 + (wrap64 (Int.tmod a1 65))))))) + 7)) 8)))) else (none))) else (none))) else (none)) else (none))))))) else (none)) = some r := H
  have A3 := Aside0.mk A30
  clear A30
  by_cases c4 : t227 = true
  · subst c4
    have H1 : (if (l0.length : Int) > 200 then (some true) else ((pack_Width.f k l0).bind fun t228 => ((pack_Put.f k l0 t228).bind fun bt229 => ((pack_Put.f k l0 (mn 64 (wrap64 (t228 + (wrap64 (Int.tmod a1 65)))))).bind fun bt233 => ((pack_Get.f k bt233.1 (l0.length : Int) (mn 64 (wrap64 (t228 + (wrap64 (Int.tmod a1 65)))))).bind fun bt237 => (if (wrap64 ((wrap64 (bt229.2 + bt233.2)) + bt237.2)) = 0 then (if (bt229.1.length : Int) ≤ (bt233.1.length : Int) then ((pack_Size.f (l0.length : Int) (mn 64 (wrap64 (t228 + (wrap64 (Int.tmod a1 65)))))).bind fun t241 => (if (bt233.1.length : Int) = t241 then ((norialaw4_Same.f k bt237.1 l0).bind fun t242 => (if t242 = true then (some ((bt233.1.length : Int) == (wrap64 (Int.tdiv (wrap64 ((wrap64 ((l0.length : Int) * (mn 64 (wrap64 (t228 + (wrap64 (Int.tmod a1 65))))))) + 7)) 8)))) else (none))) else (none))) else (none)) else (none))))))) = some r := by rw [if_pos rfl] at H; exact H
    clear H
    have H := H1
    clear H1
    by_cases c5 : (l0.length : Int) > 200
    · rw [if_pos c5] at H
      have c5b0 : decide (200 < (l0.length : Int)) = true := decide_eq_true c5
      have c5b1 : decide (200 < l0.length) = true := decide_eq_true (by omega)
      clear c5
      obtain rfl := Option.some.inj H
      go_enter Try.func6, Try.ntmps6
      go_wp2_with (first | ((with_reducible refine gate_callee (f := 8) rfl ?_); refine goesL_ (some 13) rfl rfl Try.func8 (by kernel_rfl) rfl #[] rfl (by (try simp only [List.map_toArray, List.map_cons, List.map_nil]); first | done | rfl | (simp only [List.length_drop, List.length_take]; rfl)) ?_; (with_reducible refine (norialaw4_known.calls k  true _ A3.out).mono ?_); rintro e w6 ⟨rfl, hb⟩; refine ⟨_, rfl, ?_⟩; have n0_ := Aside0.mk (below_step (by repeat (first | (with_reducible first | exact HB.out | apply below_alloc | apply pw_below_drewN | apply below_drew1) | exact HB.out)) hb); clear HB; have HB := n0_; clear n0_; (try clear hb); (try clear hb2); (try clear hk); (try clear hi)))
      go_ret
      exact ⟨by first | rfl | (simp [errW_none, errW_some] <;> rfl) | (simp [*, errW_none, errW_some] <;> rfl), by repeat (first | (with_reducible first | exact HB.out | apply below_alloc | apply pw_below_drewN | apply below_drew1) | exact HB.out)⟩
    · rw [if_neg c5] at H
      have c5b0 : decide (200 < (l0.length : Int)) = false := decide_eq_false c5
      have c5b1 : decide (200 < l0.length) = false := decide_eq_false (by omega)
      clear c5
      replace H := Option.bind_eq_some_iff.mp H
      obtain ⟨t228, A70, H⟩ := H
      replace H : ((pack_Put.f k l0 t228).bind fun bt229 => ((pack_Put.f k l0 (mn 64 (wrap64 (t228 + (wrap64 (Int.tmod a1 65)))))).bind fun bt233 => ((pack_Get.f k bt233.1 (l0.length : Int) (mn 64 (wrap64 (t228 + (wrap64 (Int.tmod a1 65)))))).bind fun bt237 => (if (wrap64 ((wrap64 (bt229.2 + bt233.2)) + bt237.2)) = 0 then (if (bt229.1.length : Int) ≤ (bt233.1.length : Int) then ((pack_Size.f (l0.length : Int) (mn 64 (wrap64 (t228 + (wrap64 (Int.tmod a1 65)))))).bind fun t241 => (if (bt233.1.length : Int) = t241 then ((norialaw4_Same.f k bt237.1 l0).bind fun t242 => (if t242 = true then (some ((bt233.1.length : Int) == (wrap64 (Int.tdiv (wrap64 ((wrap64 ((l0.length : Int) * (mn 64 (wrap64 (t228 + (wrap64 (Int.tmod a1 65))))))) + 7)) 8)))) else (none))) else (none))) else (none)) else (none))))) = some r := H
      have A7 := Aside0.mk A70
      clear A70
      obtain ⟨ji8, hji8⟩ : ∃ j_ : Int, (mn 64 (wrap64 (t228 + (wrap64 (Int.tmod a1 65))))) = j_ := ⟨_, rfl⟩
      replace H : ((pack_Put.f k l0 t228).bind fun bt229 => ((pack_Put.f k l0 (ji8)).bind fun bt233 => ((pack_Get.f k bt233.1 (l0.length : Int) (ji8)).bind fun bt237 => (if (wrap64 ((wrap64 (bt229.2 + bt233.2)) + bt237.2)) = 0 then (if (bt229.1.length : Int) ≤ (bt233.1.length : Int) then ((pack_Size.f (l0.length : Int) (ji8)).bind fun t241 => (if (bt233.1.length : Int) = t241 then ((norialaw4_Same.f k bt237.1 l0).bind fun t242 => (if t242 = true then (some ((bt233.1.length : Int) == (wrap64 (Int.tdiv (wrap64 ((wrap64 ((l0.length : Int) * (ji8))) + 7)) 8)))) else (none))) else (none))) else (none)) else (none))))) = some r := by first | (rw [hji8] at H; exact H) | (simp only [hji8] at H ⊢; exact H)
      (try rw [hji8] at A3)
      (try rw [hji8] at A7)
      (try (have hji8h : ji8 ≤ 64 := by (rw [← hji8]; unfold mn; (repeat' split) <;> omega)))
      (try (have hji8g : ji8 ≤ 64 := by omega))
      have hji8_ : (if (wrap64 (t228 + (wrap64 (Int.tmod a1 65)))) < 64 then (wrap64 (t228 + (wrap64 (Int.tmod a1 65)))) else 64) = ji8 := hji8
      replace H := Option.bind_eq_some_iff.mp H
      obtain ⟨⟨t229, t230⟩, A90, H⟩ := H
      replace H : ((pack_Put.f k l0 (ji8)).bind fun bt233 => ((pack_Get.f k bt233.1 (l0.length : Int) (ji8)).bind fun bt237 => (if (wrap64 ((wrap64 (t230 + bt233.2)) + bt237.2)) = 0 then (if (t229.length : Int) ≤ (bt233.1.length : Int) then ((pack_Size.f (l0.length : Int) (ji8)).bind fun t241 => (if (bt233.1.length : Int) = t241 then ((norialaw4_Same.f k bt237.1 l0).bind fun t242 => (if t242 = true then (some ((bt233.1.length : Int) == (wrap64 (Int.tdiv (wrap64 ((wrap64 ((l0.length : Int) * (ji8))) + 7)) 8)))) else (none))) else (none))) else (none)) else (none)))) = some r := H
      have A9 := Aside0.mk A90
      clear A90
      replace H := Option.bind_eq_some_iff.mp H
      obtain ⟨⟨t233, t234⟩, A100, H⟩ := H
      replace H : ((pack_Get.f k t233 (l0.length : Int) (ji8)).bind fun bt237 => (if (wrap64 ((wrap64 (t230 + t234)) + bt237.2)) = 0 then (if (t229.length : Int) ≤ (t233.length : Int) then ((pack_Size.f (l0.length : Int) (ji8)).bind fun t241 => (if (t233.length : Int) = t241 then ((norialaw4_Same.f k bt237.1 l0).bind fun t242 => (if t242 = true then (some ((t233.length : Int) == (wrap64 (Int.tdiv (wrap64 ((wrap64 ((l0.length : Int) * (ji8))) + 7)) 8)))) else (none))) else (none))) else (none)) else (none))) = some r := H
      have A10 := Aside0.mk A100
      clear A100
      replace H := Option.bind_eq_some_iff.mp H
      obtain ⟨⟨t237, t238⟩, A110, H⟩ := H
      replace H : (if (wrap64 ((wrap64 (t230 + t234)) + t238)) = 0 then (if (t229.length : Int) ≤ (t233.length : Int) then ((pack_Size.f (l0.length : Int) (ji8)).bind fun t241 => (if (t233.length : Int) = t241 then ((norialaw4_Same.f k t237 l0).bind fun t242 => (if t242 = true then (some ((t233.length : Int) == (wrap64 (Int.tdiv (wrap64 ((wrap64 ((l0.length : Int) * (ji8))) + 7)) 8)))) else (none))) else (none))) else (none)) else (none)) = some r := H
      have A11 := Aside0.mk A110
      clear A110
      by_cases c12 : (wrap64 ((wrap64 (t230 + t234)) + t238)) = 0
      · rw [if_pos c12] at H
        have c12b0 : ((wrap64 ((wrap64 (t230 + t234)) + t238)) == 0) = true := beq_iff_eq.mpr c12
        have c12b1 : ((wrap64 ((wrap64 (t230 + t234)) + t238)) != 0) = false := bne_eq_false_iff_eq.mpr c12
        clear c12
        by_cases c13 : (t229.length : Int) ≤ (t233.length : Int)
        · rw [if_pos c13] at H
          have c13b0 : decide ((t229.length : Int) ≤ (t233.length : Int)) = true := decide_eq_true c13
          have c13b1 : decide (t229.length ≤ t233.length) = true := decide_eq_true (Int.ofNat_le.mp c13)
          clear c13
          replace H := Option.bind_eq_some_iff.mp H
          obtain ⟨t241, A140, H⟩ := H
          replace H : (if (t233.length : Int) = t241 then ((norialaw4_Same.f k t237 l0).bind fun t242 => (if t242 = true then (some ((t233.length : Int) == (wrap64 (Int.tdiv (wrap64 ((wrap64 ((l0.length : Int) * (ji8))) + 7)) 8)))) else (none))) else (none)) = some r := H
          have A14 := Aside0.mk A140
          clear A140
          by_cases c15 : (t233.length : Int) = t241
          · rw [if_pos c15] at H
            have c15b0 : ((t233.length : Int) == t241) = true := beq_iff_eq.mpr c15
            have c15b1 : ((t233.length : Int) != t241) = false := bne_eq_false_iff_eq.mpr c15
            clear c15
            replace H := Option.bind_eq_some_iff.mp H
            obtain ⟨t242, A160, H⟩ := H
            replace H : (if t242 = true then (some ((t233.length : Int) == (wrap64 (Int.tdiv (wrap64 ((wrap64 ((l0.length : Int) * (ji8))) + 7)) 8)))) else (none)) = some r := H
            have A16 := Aside0.mk A160
            clear A160
            by_cases c17 : t242 = true
            · subst c17
              have H1 : (some ((t233.length : Int) == (wrap64 (Int.tdiv (wrap64 ((wrap64 ((l0.length : Int) * (ji8))) + 7)) 8)))) = some r := by rw [if_pos rfl] at H; exact H
              clear H
              have H := H1
              clear H1
              obtain rfl := Option.some.inj H
              go_enter Try.func6, Try.ntmps6
              go_wp2_with (first | ((with_reducible refine gate_callee (f := 8) rfl ?_); refine goesL_ (some 13) rfl rfl Try.func8 (by kernel_rfl) rfl #[] rfl (by (try simp only [List.map_toArray, List.map_cons, List.map_nil]); first | done | rfl | (simp only [List.length_drop, List.length_take]; rfl)) ?_; (with_reducible refine (norialaw4_known.calls k  true _ A3.out).mono ?_); rintro e w18 ⟨rfl, hb⟩; refine ⟨_, rfl, ?_⟩; have n0_ := Aside0.mk (below_step (by repeat (first | (with_reducible first | exact HB.out | apply below_alloc | apply pw_below_drewN | apply below_drew1) | exact HB.out)) hb); clear HB; have HB := n0_; clear n0_; (try clear hb); (try clear hb2); (try clear hk); (try clear hi)) | ((with_reducible refine gate_callee (f := 11) rfl ?_); refine goesL_ (some 19) rfl rfl Try.func11 (by kernel_rfl) rfl #[.slice A0 l0.length c0] rfl (by (try simp only [List.map_toArray, List.map_cons, List.map_nil]); first | done | rfl | (simp only [List.length_drop, List.length_take]; rfl)) ?_; (with_reducible refine (pack_Width.calls k _ _ l0 t228 _ ?side1 ?side2 A7.out).mono ?_); (case side1 => repeat (first | exact (Kd.C_below HR0.out HB.out) | (with_reducible refine Kd.C_alloc ?_ _) | (with_reducible refine Kd.C_drewN ?_ _) | (with_reducible refine Kd.C_drew ?_))); (case side2 => exact HC0.out); rintro e w19 ⟨rfl, hb⟩; refine ⟨_, rfl, ?_⟩; have n0_ := Aside0.mk (below_step (by repeat (first | (with_reducible first | exact HB.out | apply below_alloc | apply pw_below_drewN | apply below_drew1) | exact HB.out)) hb); clear HB; have HB := n0_; clear n0_; (try clear hb); (try clear hb2); (try clear hk); (try clear hi)) | ((with_reducible refine gate_callee (f := 9) rfl ?_); refine goesL_ (some 29) rfl rfl Try.func9 (by kernel_rfl) rfl #[.slice A0 l0.length c0, .int .i64 t228] rfl (by (try simp only [List.map_toArray, List.map_cons, List.map_nil]); first | done | rfl | (simp only [List.length_drop, List.length_take]; rfl)) ?_; (with_reducible refine (pack_Put.calls k _ _ l0 t228 t229 t230 _ ?side1 ?side2 A9.out).mono ?_); (case side1 => repeat (first | exact (Kd.C_below HR0.out HB.out) | (with_reducible refine Kd.C_alloc ?_ _) | (with_reducible refine Kd.C_drewN ?_ _) | (with_reducible refine Kd.C_drew ?_))); (case side2 => exact HC0.out); rintro e w20 ⟨v231, rfl, ho0, hb⟩; refine ⟨_, rfl, ?_⟩; have n0_ := Aside0.mk (Kd.R_lower ho0 (below_size (by repeat (first | (with_reducible first | exact HB.out | apply below_alloc | apply pw_below_drewN | apply below_drew1) | exact HB.out)))); have n1_ := Aside0.mk (below_step (by repeat (first | (with_reducible first | exact HB.out | apply below_alloc | apply pw_below_drewN | apply below_drew1) | exact HB.out)) hb); clear HB; have HO232 := n0_; have HB := n1_; clear n0_ n1_; (try clear hb); (try clear hb2); (try clear hk); (try clear hi); (try clear ho0)) | ((with_reducible refine gate_callee (f := 9) rfl ?_); refine goesL_ (some 35) rfl rfl Try.func9 (by kernel_rfl) rfl #[.slice A0 l0.length c0, .int .i64 ji8] rfl (by (try simp only [List.map_toArray, List.map_cons, List.map_nil]); first | done | (simp only [hji8]; rfl) | rfl | (simp only [List.length_drop, List.length_take]; rfl)) ?_; (with_reducible refine (pack_Put.calls k _ _ l0 ji8 t233 t234 _ ?side1 ?side2 A10.out).mono ?_); (case side1 => repeat (first | exact (Kd.C_below HR0.out HB.out) | (with_reducible refine Kd.C_alloc ?_ _) | (with_reducible refine Kd.C_drewN ?_ _) | (with_reducible refine Kd.C_drew ?_))); (case side2 => exact HC0.out); rintro e w21 ⟨v235, rfl, ho0, hb⟩; refine ⟨_, rfl, ?_⟩; have n0_ := Aside0.mk (Kd.R_elder' (by (with_reducible repeat (first | apply Kd.R_alloc | apply Kd.R_drewN | apply Kd.R_drew)); exact HO232.out) (Kd.R_base ho0) hb); have n1_ := Aside0.mk (Kd.R_lower (Kd.R_new' ho0 (Kd.R_lt (by (with_reducible repeat (first | apply Kd.R_alloc | apply Kd.R_drewN | apply Kd.R_drew)); exact HO232.out))) (below_size (by repeat (first | (with_reducible first | exact HB.out | apply below_alloc | apply pw_below_drewN | apply below_drew1) | exact HB.out)))); have n2_ := Aside0.mk (below_step (by repeat (first | (with_reducible first | exact HB.out | apply below_alloc | apply pw_below_drewN | apply below_drew1) | exact HB.out)) hb); clear HO232; clear HB; have HO232 := n0_; have HO236 := n1_; have HB := n2_; clear n0_ n1_ n2_; (try clear hb); (try clear hb2); (try clear hk); (try clear hi); (try clear ho0); obtain ⟨Ao22, co22, eo22⟩ := Kd.R_slice HO236.out; subst eo22) | ((with_reducible refine gate_callee (f := 13) rfl ?_); refine goesL_ (some 43) rfl rfl Try.func13 (by kernel_rfl) rfl #[.slice Ao22 t233.length co22, .int .i64 (l0.length : Int), .int .i64 ji8] rfl (by (try simp only [List.map_toArray, List.map_cons, List.map_nil]); first | done | (simp only [hji8]; rfl) | rfl | (simp only [List.length_drop, List.length_take]; rfl)) ?_; (with_reducible refine (pack_Get.calls k _ _ t233 (l0.length : Int) ji8 t237 t238 _ ?side1 ?side2 A11.out).mono ?_); (case side1 => repeat (first | exact (Kd.R_reads' HO236.out).2.2 | (with_reducible refine Kd.C_alloc ?_ _) | (with_reducible refine Kd.C_drewN ?_ _) | (with_reducible refine Kd.C_drew ?_))); (case side2 => exact (Kd.R_reads' HO236.out).2.1); rintro e w23 ⟨v239, rfl, ho0, hb⟩; refine ⟨_, rfl, ?_⟩; have n0_ := Aside0.mk (Kd.R_below (by (with_reducible repeat (first | apply Kd.R_alloc | apply Kd.R_drewN | apply Kd.R_drew)); exact HO232.out) hb); have n1_ := Aside0.mk (Kd.R_below (by (with_reducible repeat (first | apply Kd.R_alloc | apply Kd.R_drewN | apply Kd.R_drew)); exact HO236.out) hb); have n2_ := Aside0.mk (Kd.R_lower ho0 (below_size (by repeat (first | (with_reducible first | exact HB.out | apply below_alloc | apply pw_below_drewN | apply below_drew1) | exact HB.out)))); have n3_ := Aside0.mk (below_step (by repeat (first | (with_reducible first | exact HB.out | apply below_alloc | apply pw_below_drewN | apply below_drew1) | exact HB.out)) hb); clear HO232; clear HO236; clear HB; have HO232 := n0_; have HO236 := n1_; have HO240 := n2_; have HB := n3_; clear n0_ n1_ n2_ n3_; (try clear hb); (try clear hb2); (try clear hk); (try clear hi); (try clear ho0); obtain ⟨Ao24, co24, eo24⟩ := Kd.R_slice HO232.out; subst eo24) | (go_at_call 15; (with_reducible refine (pack_Size.calls (l0.length : Int) ji8 t241 _ A14.out).mono ?_); rintro e w' ⟨rfl, ⟨nd, rfl⟩⟩; obtain ⟨Ao25, co25, eo25⟩ := Kd.R_slice HO240.out; subst eo25) | (go_at_call 14; (with_reducible refine (norialaw4_Same.calls k _ _ t237 _ _ l0 true _ ?side1 ?side2 ?side3 ?side4 A16.out).mono ?_); (case side1 => repeat (first | exact (Kd.R_reads' HO240.out).2.2 | (with_reducible refine Kd.C_alloc ?_ _) | (with_reducible refine Kd.C_drewN ?_ _) | (with_reducible refine Kd.C_drew ?_))); (case side2 => exact (Kd.R_reads' HO240.out).2.1); (case side3 => repeat (first | exact (Kd.C_below HR0.out (by repeat (first | (with_reducible first | exact HB.out | apply below_alloc | apply pw_below_drewN | apply below_drew1) | exact HB.out))) | (with_reducible refine Kd.C_alloc ?_ _) | (with_reducible refine Kd.C_drewN ?_ _) | (with_reducible refine Kd.C_drew ?_))); (case side4 => exact HC0.out); rintro e w' ⟨rfl, ⟨nd, rfl⟩⟩))
              go_ret
              exact ⟨by first | rfl | (simp [errW_none, errW_some] <;> rfl) | (simp only [← hji8]; first | rfl | (simp [errW_none, errW_some] <;> rfl)) | (simp [*, errW_none, errW_some] <;> rfl), by repeat (first | (with_reducible first | exact HB.out | apply below_alloc | apply pw_below_drewN | apply below_drew1) | exact HB.out)⟩
            · replace c17 := Bool.eq_false_iff.mpr c17
              subst c17
              have H1 : (none) = some r := by rw [if_neg (show ¬ (false = true) by decide)] at H; exact H
              clear H
              have H := H1
              clear H1
              exact absurd H (by simp)
          · rw [if_neg c15] at H
            exact absurd H (by simp)
        · rw [if_neg c13] at H
          exact absurd H (by simp)
      · rw [if_neg c12] at H
        exact absurd H (by simp)
  · replace c4 := Bool.eq_false_iff.mpr c4
    subst c4
    have H1 : (none) = some r := by rw [if_neg (show ¬ (false = true) by decide)] at H; exact H
    clear H
    have H := H1
    clear H1
    exact absurd H (by simp)

/-- THE ONE PURE STATEMENT of norialaw4_PackWide: yours. -/
def norialaw4_PackWide.Pure : Prop := ∀ (l0 : List Int) (a1 : Int), l0.length ≤ maxLen → l0.length * 8 ≤ 140737488351232 → (∀ x ∈ l0, (Lit.int .u64 x).wf = true) → (Lit.int .u8 a1).wf = true → ∃ k, norialaw4_PackWide.f k l0 a1 = some true
theorem norialaw4_PackWide.walk (P : norialaw4_PackWide.Pure) (a0 : Option Addr) (len0 cap0 : Nat) (z0 : List Int) (a1 : Int) (w : World) (w0 : (a0 = none ∧ len0 = 0 ∧ cap0 = 0 ∧ z0 = []) ∨ ∃ x, a0 = some x ∧ len0 ≤ cap0 ∧ cap0 ≤ maxLen ∧ z0.length = cap0 ∧ (∀ i, i < z0.length → w.cell? (x.add i) = some (.int .u64 (z0.getD i 0))) ∧ ∀ n ∈ z0, (Lit.int .u64 n).wf = true) (y0 : len0 * 8 ≤ 140737488351232) (w1 : (Lit.int .u8 a1).wf = true) :
    Calls Try.prog 6 #[.slice a0 len0 cap0, .int .u8 a1] w fun e w' => e = .returned (.bool true) ∧ Below w.heap.size w w' := by
  obtain ⟨l0, rfl, hr0, hm0, hw0, hc0⟩ := ReadsInt.ofRowC w0
  obtain ⟨k, h⟩ := P l0 a1 hm0 y0 hw0 w1
  refine (norialaw4_PackWide.calls k _ _ l0 a1 true w (Kd.C_of_reads (d := (0 : Int)) (h1 := fun _ => rfl) hr0) hc0 h).mono ?_
  rintro e w' ⟨rfl, hd⟩
  exact ⟨rfl, hd⟩

end Go.Proofs.Ytdkgmdikkaiemaa.PAll
