-- Printed by this session's own program (wip/tools/pp.py): out of the translation. Lean checks it.
import Derived.Test.YthflicjbclcbaaaPAllx0
import Derived.Test.YthflicjbclcbaaaPAllx7
namespace Go.Proofs.Ythflicjbclcbaaa.PAll
open Go.Proofs.Ythflicjbclcbaaa.Help
open Go.RowKit Go.Proofs.YthflicjbclcbaaaW.PrintWords Go.Proofs.YthflicjbclcbaaaW.PrintLast Go.Proofs.YthflicjbclcbaaaW.PrintMore
attribute [local go_sem] run_fl_eql run_fl_neq run_fl_lss run_fl_leq run_fl_gtr run_fl_geq unary_fl_neg run_cx_eql run_cx_neq run_cx_make run_cx_real run_cx_imag run_fl_of run_fl_to run_fl_add run_fl_sub run_fl_mul run_cx_add run_cx_sub run_cx_store run_fl_store cell_put3_0 cell_put3_1 cell_put4_0 cell_put4_1 max2_int min2_int max_two min_two max_three min_three max_four min_four   -- for this text's walks alone
set_option linter.unusedVariables false
set_option linter.unusedSimpArgs false

/-! ### schema_Turned: function 16 -/
mutual
def schema_Turned.j0 : Nat → List (S36) → List (List (S44)) → Bool → Option ((List (List (S44))) × Int)
 | 0, _, _, _ => none
 | k + 1, x0, x1, x19 => if x19 = true then (some (([] : List (List (S44))), 4)) else (if 0 ≤ (x0.length : Int) then (if ((x0.length : Int) : Int).toNat ≤ 11728124029610 then (schema_Turned.l0 k x0 (List.replicate ((x0.length : Int) : Int).toNat []) x1 (x1.length : Int) 0) else (none)) else (none))
def schema_Turned.l0 : Nat → List (S36) → List (List (S44)) → List (List (S44)) → Int → Int → Option ((List (List (S44))) × Int)
 | 0, _, _, _, _, _ => none
 | k + 1, x0, x6, x23, x24, x25 => if x25 < x24 then (if 0 ≤ x25 then (if x25 < (x23.length : Int) then ((schema_Row.f k x0 (rd_L7 x23 x25)).bind fun t153 => (if t153 = 0 then (schema_Turned.l1 k x0 x6 x23 x24 x25 (rd_L7 x23 x25) ((rd_L7 x23 x25).length : Int) 0) else (some (([] : List (List (S44))), t153)))) else (none)) else (none)) else (some (x6, 0))
def schema_Turned.l1 : Nat → List (S36) → List (List (S44)) → List (List (S44)) → Int → Int → List (S44) → Int → Int → Option ((List (List (S44))) × Int)
 | 0, _, _, _, _, _, _, _, _ => none
 | k + 1, x0, x6, x23, x24, x25, x35, x36, x37 => if x37 < x36 then (if 0 ≤ x37 then (if x37 < (x35.length : Int) then (if x37 < (x6.length : Int) then (if (rd_L7 x6 x37).length < 2932031007402 then (schema_Turned.l1 k x0 (x6.set (x37 : Int).toNat ((rd_L7 x6 x37) ++ [(⟨(rd_T44 x35 x37).f0, (rd_T44 x35 x37).f1, (rd_T44 x35 x37).f2, (rd_T44 x35 x37).f3⟩ : S44)])) x23 x24 x25 x35 x36 (wrap64 (x37 + 1))) else (none)) else (none)) else (none)) else (none)) else (schema_Turned.l0 k x0 x6 x23 x24 (wrap64 (x25 + 1)))
end
def schema_Turned.f (k : Nat) (l0 : List (S36)) (l1 : List (List (S44))) : Option ((List (List (S44))) × Int) := if (l1.length : Int) < 1 then (schema_Turned.j0 k l0 l1 true) else (schema_Turned.j0 k l0 l1 (decide ((l1.length : Int) > 64)))
theorem schema_Turned.mono_l : ∀ k, (∀ y0 y1 y2, LeO (schema_Turned.j0 k y0 y1 y2) (schema_Turned.j0 (k + 1) y0 y1 y2)) ∧ (∀ y0 y1 y2 y3 y4, LeO (schema_Turned.l0 k y0 y1 y2 y3 y4) (schema_Turned.l0 (k + 1) y0 y1 y2 y3 y4)) ∧ (∀ y0 y1 y2 y3 y4 y5 y6 y7, LeO (schema_Turned.l1 k y0 y1 y2 y3 y4 y5 y6 y7) (schema_Turned.l1 (k + 1) y0 y1 y2 y3 y4 y5 y6 y7))
 | 0 => ⟨fun _ _ _ r h => by simp [schema_Turned.j0] at h, fun _ _ _ _ _ r h => by simp [schema_Turned.l0] at h, fun _ _ _ _ _ _ _ _ r h => by simp [schema_Turned.l1] at h⟩
 | k + 1 => by
  obtain ⟨ih0, ih1, ih2⟩ := schema_Turned.mono_l k
  refine ⟨?_, ?_, ?_⟩
  ·intro y0 y1 y2
   unfold schema_Turned.j0
   repeat' first
   | (with_reducible exact ih0 _ _ _)
   | (with_reducible exact ih1 _ _ _ _ _)
   | (with_reducible exact ih2 _ _ _ _ _ _ _ _)
   | (with_reducible exact schema_Row.mono _ _ _)
   | (with_reducible exact LeO.refl _)
   | (with_reducible exact LeO.none _)
   | (with_reducible refine LeO.ite ?_ ?_)
   | (with_reducible refine LeO.bind ?_ (fun _ => ?_))
   | exact ih0 _ _ _
   | exact ih1 _ _ _ _ _
   | exact ih2 _ _ _ _ _ _ _ _
   | exact schema_Row.mono _ _ _
   | exact LeO.none _
   | refine LeO.ite ?_ ?_
   | refine LeO.bind ?_ (fun _ => ?_)
  ·intro y0 y1 y2 y3 y4
   unfold schema_Turned.l0
   repeat' first
   | (with_reducible exact ih0 _ _ _)
   | (with_reducible exact ih1 _ _ _ _ _)
   | (with_reducible exact ih2 _ _ _ _ _ _ _ _)
   | (with_reducible exact schema_Row.mono _ _ _)
   | (with_reducible exact LeO.refl _)
   | (with_reducible exact LeO.none _)
   | (with_reducible refine LeO.ite ?_ ?_)
   | (with_reducible refine LeO.bind ?_ (fun _ => ?_))
   | exact ih0 _ _ _
   | exact ih1 _ _ _ _ _
   | exact ih2 _ _ _ _ _ _ _ _
   | exact schema_Row.mono _ _ _
   | exact LeO.none _
   | refine LeO.ite ?_ ?_
   | refine LeO.bind ?_ (fun _ => ?_)
  ·intro y0 y1 y2 y3 y4 y5 y6 y7
   unfold schema_Turned.l1
   repeat' first
   | (with_reducible exact ih0 _ _ _)
   | (with_reducible exact ih1 _ _ _ _ _)
   | (with_reducible exact ih2 _ _ _ _ _ _ _ _)
   | (with_reducible exact schema_Row.mono _ _ _)
   | (with_reducible exact LeO.refl _)
   | (with_reducible exact LeO.none _)
   | (with_reducible refine LeO.ite ?_ ?_)
   | (with_reducible refine LeO.bind ?_ (fun _ => ?_))
   | exact ih0 _ _ _
   | exact ih1 _ _ _ _ _
   | exact ih2 _ _ _ _ _ _ _ _
   | exact schema_Row.mono _ _ _
   | exact LeO.none _
   | refine LeO.ite ?_ ?_
   | refine LeO.bind ?_ (fun _ => ?_)
theorem schema_Turned.mono : ∀ a0 a1 k, LeO (schema_Turned.f k a0 a1) (schema_Turned.f (k + 1) a0 a1) := by
 intro a0 a1 k
 obtain ⟨ih0, ih1, ih2⟩ := schema_Turned.mono_l k
 unfold schema_Turned.f
 repeat' first
   | (with_reducible exact ih0 _ _ _)
   | (with_reducible exact ih1 _ _ _ _ _)
   | (with_reducible exact ih2 _ _ _ _ _ _ _ _)
   | (with_reducible exact schema_Row.mono _ _ _)
   | (with_reducible exact LeO.refl _)
   | (with_reducible exact LeO.none _)
   | (with_reducible refine LeO.ite ?_ ?_)
   | (with_reducible refine LeO.bind ?_ (fun _ => ?_))
   | exact ih0 _ _ _
   | exact ih1 _ _ _ _ _
   | exact ih2 _ _ _ _ _ _ _ _
   | exact schema_Row.mono _ _ _
   | exact LeO.none _
   | refine LeO.ite ?_ ?_
   | refine LeO.bind ?_ (fun _ => ?_)
def schema_Turned.T13 : Bool × List (List Nat × List Nat) := (true, [([], []), ([], []), ([], []), ([], []), ([2, 3], [2, 3]), ([4], [4]), ([], []), ([6], [6]), ([5, 7], [5, 7]), ([0, 1, 0, 1, 2, 3, 4, 5, 6, 7, 8], [0, 1]), ([9, 8, 8, 0, 1, 2, 3, 4, 5, 6, 7, 8], [8, 9])])
def schema_Turned.B13 : List Nat := [0, 0, 0, 0, 12, 28, 0, 64, 252, 511, 1023]
theorem schema_Turned.tab13 : rtab .any (opsOf Try.f16 13) = schema_Turned.T13 := by kernel_rfl
theorem schema_Turned.bits13 : waitsOk schema_Turned.T13.2 schema_Turned.B13 = true := by kernel_rfl
set_option maxHeartbeats 8000000 in
set_option maxRecDepth 100000 in
theorem schema_Turned.calls (k : Nat) (A0 : Option Addr) (c0 : Nat) (l0 : List (S36)) (A1 : Option Addr) (c1 : Nat) (l1 : List (List (S44))) (r1 : List (List (S44))) (r2 : Int) (w : World) (hr0 : Kd.C k36 w A0 l0.length l0) (hc0 : l0.length ≤ c0) (hr1 : Kd.C (Kd.slice 44 k44) w A1 l1.length l1) (hc1 : l1.length ≤ c1) (h : schema_Turned.f k l0 l1 = some (r1, r2)) :
  Calls Try.prog 16 #[.slice A0 l0.length c0, .slice A1 l1.length c1] w fun e w' => ∃ v0_ : Value, e = .returned (.tuple #[v0_, .int .i64 r2]) ∧ Kd.S (Kd.slice 44 k44) 48 w' w.heap.size (fun _ => True) v0_ r1 ∧ Below w.heap.size w w' := by
 have hu44 := Try.underlying44
 have HR0 := Aside0.mk hr0
 have HC0 := Aside0.mk hc0
 clear hr0 hc0
 have HR1 := Aside0.mk hr1
 have HC1 := Aside0.mk hc1
 clear hr1 hc1
 have HB := Aside0.mk (Below.refl w.heap.size w)
 have H : (if (l1.length : Int) < 1 then (schema_Turned.j0 k l0 l1 true) else (schema_Turned.j0 k l0 l1 (decide ((l1.length : Int) > 64)))) = some (r1, r2) := h
 clear h
 have HC3 := Aside0.mk H
 clear H
 go_enter Try.func16, Try.ntmps16
 go_upto_region 1 with (fail)
 go_cut [19] (fun v19 wc => ∃ (kq : Nat) (x19_2 : Bool), v19 = .bool x19_2 ∧ Aside0 (schema_Turned.j0 kq l0 l1 x19_2 = some (r1, r2)) ∧ Aside0 (kq ≤ k) ∧ Aside0 (Below w.heap.size w wc))
 case first =>
  have H := HC3.out
  clear HC3
  by_cases c4 : (l1.length : Int) < 1
  ·rw [if_pos c4] at H
   have c4b0 : decide ((l1.length : Int) < 1) = true := decide_eq_true c4
   have c4b1 : decide (l1.length < 1) = true := decide_eq_true (by omega)
   clear c4
   (first | rw [c4b0] | (simp only [i64_w, i32_w]; rw [c4b0]) | skip)
   have H' := Aside0.mk H
   clear H
   go_wp2
   go_meet
   case rel => exact ⟨_, (true), (by first | rfl | (simp; done) | (simp [*]; done)), H', ⟨by first | omega | exact Nat.le_refl _⟩, ⟨by repeat (first | (with_reducible first | exact HB.out | apply below_alloc | apply pw_below_drewN | apply below_drew1) | exact HB.out)⟩⟩
  ·rw [if_neg c4] at H
   have c4b0 : decide ((l1.length : Int) < 1) = false := decide_eq_false c4
   have c4b1 : decide (l1.length < 1) = false := decide_eq_false (by omega)
   clear c4
   (first | rw [c4b0] | (simp only [i64_w, i32_w]; rw [c4b0]) | skip)
   have H' := Aside0.mk H
   clear H
   go_wp2
   go_meet
   case rel => exact ⟨_, (decide ((l1.length : Int) > 64)), (by first | rfl | (simp; done) | (simp [*]; done)), H', ⟨by first | omega | exact Nat.le_refl _⟩, ⟨by repeat (first | (with_reducible first | exact HB.out | apply below_alloc | apply pw_below_drewN | apply below_drew1) | exact HB.out)⟩⟩
 case rest =>
  clear HC3
  try clear c1
  try clear p2
  try clear c4
  try clear c4b0
  try clear c4b1
  obtain ⟨kq, x19_2, rfl, HA, HJ2, HB⟩ := hcut
  cases kq with
  | zero => exact absurd HA.out (by simp [schema_Turned.j0])
  | succ kj2 =>
   have H := HA.out
   clear HA
   simp only [schema_Turned.j0] at H
   by_cases c5 : x19_2 = true
   ·subst c5
    have H1 : (some (([] : List (List (S44))), 4)) = some (r1, r2) := by rw [if_pos rfl] at H; exact H
    clear H
    have H := H1
    clear H1
    simp only [Option.some.injEq, Prod.mk.injEq] at H
    obtain ⟨rfl, rfl⟩ := H
    go_wp2
    go_ret2
    exact ⟨_, by first | rfl | (simp [errW_none, errW_some] <;> rfl) | (simp [*, errW_none, errW_some] <;> rfl), by first | exact Kd.S_nil _ _ _ _ _ | exact Kd.N_nil _ _ _ _ _ | exact Kd.V_nil _ _ _ _ _ | exact Kd.Q_nil _ _ _ _ _ | exact Kd.R_nil _ _ _ _ _, by repeat (first | (with_reducible first | exact HB.out | apply below_alloc | apply pw_below_drewN | apply below_drew1) | exact HB.out)⟩
   ·replace c5 := Bool.eq_false_iff.mpr c5
    subst c5
    have H1 : (if 0 ≤ (l0.length : Int) then (if ((l0.length : Int) : Int).toNat ≤ 11728124029610 then (schema_Turned.l0 kj2 l0 (List.replicate ((l0.length : Int) : Int).toNat []) l1 (l1.length : Int) 0) else (none)) else (none)) = some (r1, r2) := by rw [if_neg (show ¬ (false = true) by decide)] at H; exact H
    clear H
    have H := H1
    clear H1
    by_cases c6 : 0 ≤ (l0.length : Int)
    ·rw [if_pos c6] at H
     have c6b0 := eq_true c6
     have c6b1 : decide (0 ≤ (l0.length : Int)) = true := decide_eq_true c6
     clear c6
     by_cases c7 : ((l0.length : Int) : Int).toNat ≤ 11728124029610
     ·rw [if_pos c7] at H
      have c7b0 := eq_true c7
      have c7b1 : decide (((l0.length : Int) : Int).toNat ≤ 11728124029610) = true := decide_eq_true c7
      clear c7
      obtain ⟨y149, hy149⟩ : ∃ y_ : List (List (S44)), y_ = (List.replicate ((l0.length : Int) : Int).toNat []) := ⟨_, rfl⟩
      replace H : (schema_Turned.l0 kj2 l0 y149 l1 (l1.length : Int) 0) = some (r1, r2) := by first | (rw [hy149]; with_reducible exact H) | (have H2_ := (Option.bind_some _ _).symm.trans H; rw [hy149]; with_reducible exact H2_) | (have H2_ := (Option.bind_some _ _).symm.trans H; with_reducible exact H2_) | with_reducible exact H | (rw [hy149]; exact H) | exact H
      have Ny149 := Aside0.mk hy149
      clear hy149
      have H' := Aside0.mk H
      clear H
      go_wp2_with (first | ((with_reducible refine gate_dst (N := 22) rfl ?_); (try (refine gate_guard (by rfl) ?_; dsimp only)); refine Kd.S_make (Kd.slice 44 k44) _ 48 rfl (N := 22) rfl 49 _ _ rfl (l0.length : Int) rfl rfl Try.underlying49 (.slice none 0 0) 24 info48 rfl (by decide) (by omega) [] (ok := fun _ => True) (okp := fun _ => True) ⟨_, rfl, Kd.R_nil _ _ _ _ _⟩ (fun _ hk => hk) trivial (of_decide_eq_true (by first | (with_reducible assumption) | assumption)) (Nat.le_trans (Nat.mul_le_mul_right _ (of_decide_eq_true (by first | (with_reducible assumption) | assumption) : (l0.length : Int).toNat ≤ 11728124029610)) (by omega)) (Below.refl _ _) (Nat.le_refl _) ?_; intro v150 w8 ho9 hb hg_ hnew_; clear hg_ hnew_; (first | rw [← Ny149.out] at ho9 | (simp only [Int.reduceToNat] at ho9; rw [← Ny149.out] at ho9)); have n0_ := Aside0.mk (Kd.S_lower ho9 (below_size (by repeat (first | (with_reducible first | exact HB.out | apply below_alloc | apply pw_below_drewN | apply below_drew1) | exact HB.out)))); have n1_ := Aside0.mk (below_step (by repeat (first | (with_reducible first | exact HB.out | apply below_alloc | apply pw_below_drewN | apply below_drew1) | exact HB.out)) hb); clear HB; have HO151 := n0_; have HB := n1_; clear n0_ n1_; clear hb ho9))
      go_loopg [25] kj2 (fun kq v25 w' => ∃ (x6_2 : List (List (S44))) (x25_2 : Int), v25 = .int .i64 x25_2 ∧ Aside0 (schema_Turned.l0 kq l0 x6_2 l1 (l1.length : Int) x25_2 = some (r1, r2)) ∧ Aside0 (kq ≤ kj2) ∧ Aside0 (Kd.S (Kd.slice 44 k44) 48 w' w.heap.size (fun _ => True) v150 x6_2) ∧ Aside0 (Below w.heap.size w w'))
      case atStart => exact ⟨(y149), (0), (by first | rfl | (simp; done) | (simp [*]; done)), H', ⟨Nat.le_refl _⟩, ⟨by (with_reducible repeat (first | apply Kd.S_alloc | apply Kd.S_drewN | apply Kd.S_drew)); exact HO151.out⟩, ⟨by repeat (first | (with_reducible first | exact HB.out | apply below_alloc | apply pw_below_drewN | apply below_drew1) | exact HB.out)⟩⟩
      case round =>
       clear H'
       try clear c1
       try clear p2
       try clear c4
       try clear c4b0
       try clear c4b1
       try clear c5
       try clear c6
       try clear c6b0
       try clear c6b1
       try clear c7
       try clear c7b0
       try clear c7b1
       try clear p2
       obtain ⟨x6_2, x25_2, rfl, HA, HK2, HO_6, HB⟩ := hrel
       cases gk with
       | zero => exact absurd HA.out (by simp [schema_Turned.l0])
       | succ k2 =>
        have H := HA.out
        clear HA
        simp only [schema_Turned.l0] at H
        by_cases c10 : x25_2 < (l1.length : Int)
        ·rw [if_pos c10] at H
         have c10b0 : decide (x25_2 < (l1.length : Int)) = true := decide_eq_true c10
         clear c10
         by_cases c11 : 0 ≤ x25_2
         ·rw [if_pos c11] at H
          have c11b0 : decide (0 ≤ x25_2) = true := decide_eq_true c11
          clear c11
          by_cases c12 : x25_2 < (l1.length : Int)
          ·rw [if_pos c12] at H
           have c12b0 : decide (x25_2 < (l1.length : Int)) = true := decide_eq_true c12
           clear c12
           replace H := Option.bind_eq_some_iff.mp H
           obtain ⟨t153, A130, H⟩ := H
           replace H : (if t153 = 0 then (schema_Turned.l1 k2 l0 x6_2 l1 (l1.length : Int) x25_2 (rd_L7 l1 x25_2) ((rd_L7 l1 x25_2).length : Int) 0) else (some (([] : List (List (S44))), t153))) = some (r1, r2) := H
           have A13 := Aside0.mk A130
           clear A130
           by_cases c14 : t153 = 0
           ·rw [if_pos c14] at H
            have c14b0 : (t153 == 0) = true := beq_iff_eq.mpr c14
            have c14b1 : (t153 != 0) = false := bne_eq_false_iff_eq.mpr c14
            clear c14
            have H' := Aside0.mk H
            clear H
            have p152 : 0 ≤ (x25_2 : Int) := of_decide_eq_true (by first | (with_reducible assumption) | assumption)
            have q152 : x25_2 < (l1.length : Int) := of_decide_eq_true (by first | (with_reducible assumption) | assumption)
            obtain ⟨ad152, A152_0, c152_0, e152, hx152_0, hl152_0, hi152_0⟩ := at_L7 HR1.out x25_2 p152 q152
            cases e152
            replace hx152_0 := (HB.out.cell (World.block_lt_of_cell? w _ hx152_0)).trans hx152_0
            have HR152_0 := Aside0.mk hi152_0
            have HC152_0 := Aside0.mk hl152_0
            clear hi152_0 hl152_0
            replace p152 := eq_true p152
            replace q152 := eq_true q152
            go_wp2_with (first | ((with_reducible refine gate_callee (f := 19) rfl ?_); refine goesL_ (some 31) rfl rfl Try.func19 (by kernel_rfl) rfl #[.slice A0 l0.length c0, .slice A152_0 (rd_L7 l1 x25_2).length c152_0] rfl (by (try simp only [List.map_toArray, List.map_cons, List.map_nil]); first | done | rfl | (simp only [List.length_drop, List.length_take]; rfl)) ?_; (with_reducible refine (schema_Row.calls k2 _ _ l0 _ _ (rd_L7 l1 x25_2) t153 _ ?side1 ?side2 ?side3 ?side4 A13.out).mono ?_); (case side1 => repeat (first | exact (Kd.C_below HR0.out HB.out) | (with_reducible refine Kd.C_alloc ?_ _) | (with_reducible refine Kd.C_drewN ?_ _) | (with_reducible refine Kd.C_drew ?_))); (case side2 => exact HC0.out); (case side3 => repeat (first | exact (Kd.C_below HR152_0.out HB.out) | (with_reducible refine Kd.C_alloc ?_ _) | (with_reducible refine Kd.C_drewN ?_ _) | (with_reducible refine Kd.C_drew ?_))); (case side4 => exact HC152_0.out); rintro e w15 ⟨rfl, hb⟩; refine ⟨_, rfl, ?_⟩; have n0_ := Aside0.mk (Kd.S_below (by (with_reducible repeat (first | apply Kd.S_alloc | apply Kd.S_drewN | apply Kd.S_drew)); exact HO_6.out) hb); have n1_ := Aside0.mk (below_step (by repeat (first | (with_reducible first | exact HB.out | apply below_alloc | apply pw_below_drewN | apply below_drew1) | exact HB.out)) hb); clear HO_6; clear HB; have HO_6 := n0_; have HB := n1_; clear n0_ n1_; (try clear hb); (try clear hb2); (try clear hk); (try clear hi)))
            go_loopg [37] k2 (fun kq v37 w' => ∃ (x6_3 : List (List (S44))) (x37_3 : Int), v37 = .int .i64 x37_3 ∧ Aside0 (schema_Turned.l1 kq l0 x6_3 l1 (l1.length : Int) x25_2 (rd_L7 l1 x25_2) ((rd_L7 l1 x25_2).length : Int) x37_3 = some (r1, r2)) ∧ Aside0 (kq ≤ k2) ∧ Aside0 (Kd.S (Kd.slice 44 k44) 48 w' w.heap.size (fun _ => True) v150 x6_3) ∧ Aside0 (Below w.heap.size w w'))
            case atStart => exact ⟨(x6_2), (0), (by first | rfl | (simp; done) | (simp [*]; done)), H', ⟨Nat.le_refl _⟩, ⟨by (with_reducible repeat (first | apply Kd.S_alloc | apply Kd.S_drewN | apply Kd.S_drew)); exact HO_6.out⟩, ⟨by repeat (first | (with_reducible first | exact HB.out | apply below_alloc | apply pw_below_drewN | apply below_drew1) | exact HB.out)⟩⟩
            case round =>
             clear H'
             try clear c1
             try clear p1
             try clear q1
             try clear hx1
             try clear p2
             try clear c4
             try clear c4b0
             try clear c4b1
             try clear c5
             try clear c6
             try clear c6b0
             try clear c6b1
             try clear c7
             try clear c7b0
             try clear c7b1
             try clear c10
             try clear c10b0
             try clear c11
             try clear c11b0
             try clear c12
             try clear c12b0
             try clear c14
             try clear c14b0
             try clear c14b1
             try clear c15
             try clear p15
             try clear q15
             try clear hx15
             try clear hx152_0
             try clear p152
             try clear p2
             try clear q152
             obtain ⟨x6_3, x37_3, rfl, HA, HK3, HO_6, HB⟩ := hrel
             cases gk with
             | zero => exact absurd HA.out (by simp [schema_Turned.l1])
             | succ k3 =>
              have H := HA.out
              clear HA
              simp only [schema_Turned.l1] at H
              by_cases c16 : x37_3 < ((rd_L7 l1 x25_2).length : Int)
              ·rw [if_pos c16] at H
               have c16b0 : decide (x37_3 < ((rd_L7 l1 x25_2).length : Int)) = true := decide_eq_true c16
               clear c16
               by_cases c17 : 0 ≤ x37_3
               ·rw [if_pos c17] at H
                have c17b0 : decide (0 ≤ x37_3) = true := decide_eq_true c17
                clear c17
                by_cases c18 : x37_3 < ((rd_L7 l1 x25_2).length : Int)
                ·rw [if_pos c18] at H
                 have c18b0 : decide (x37_3 < ((rd_L7 l1 x25_2).length : Int)) = true := decide_eq_true c18
                 clear c18
                 by_cases c19 : x37_3 < (x6_3.length : Int)
                 ·rw [if_pos c19] at H
                  have c19b0 : decide (x37_3 < (x6_3.length : Int)) = true := decide_eq_true c19
                  clear c19
                  by_cases c20 : (rd_L7 x6_3 x37_3).length < 2932031007402
                  ·rw [if_pos c20] at H
                   have LMc20 := Aside0.mk c20
                   clear c20
                   obtain ⟨y157, hy157⟩ : ∃ y_ : List (S44), y_ = ((rd_L7 x6_3 x37_3) ++ [(⟨(rd_T44 (rd_L7 l1 x25_2) x37_3).f0, (rd_T44 (rd_L7 l1 x25_2) x37_3).f1, (rd_T44 (rd_L7 l1 x25_2) x37_3).f2, (rd_T44 (rd_L7 l1 x25_2) x37_3).f3⟩ : S44)]) := ⟨_, rfl⟩
                   replace H : (schema_Turned.l1 k3 l0 (x6_3.set (x37_3 : Int).toNat y157) l1 (l1.length : Int) x25_2 (rd_L7 l1 x25_2) ((rd_L7 l1 x25_2).length : Int) (wrap64 (x37_3 + 1))) = some (r1, r2) := by first | (rw [hy157]; with_reducible exact H) | (have H2_ := (Option.bind_some _ _).symm.trans H; rw [hy157]; with_reducible exact H2_) | (have H2_ := (Option.bind_some _ _).symm.trans H; with_reducible exact H2_) | with_reducible exact H | (rw [hy157]; exact H) | exact H
                   have Ny157 := Aside0.mk hy157
                   clear hy157
                   obtain ⟨y160, hy160⟩ : ∃ y_ : List (List (S44)), y_ = (x6_3.set (x37_3 : Int).toNat y157) := ⟨_, rfl⟩
                   replace H : (schema_Turned.l1 k3 l0 y160 l1 (l1.length : Int) x25_2 (rd_L7 l1 x25_2) ((rd_L7 l1 x25_2).length : Int) (wrap64 (x37_3 + 1))) = some (r1, r2) := by first | (rw [hy160]; with_reducible exact H) | (have H2_ := (Option.bind_some _ _).symm.trans H; rw [hy160]; with_reducible exact H2_) | (have H2_ := (Option.bind_some _ _).symm.trans H; with_reducible exact H2_) | with_reducible exact H | (rw [hy160]; exact H) | exact H
                   have Ny160 := Aside0.mk hy160
                   clear hy160
                   have H' := Aside0.mk H
                   clear H
                   have p154 : 0 ≤ (x37_3 : Int) := of_decide_eq_true (by first | (with_reducible assumption) | assumption)
                   have q154 : x37_3 < ((rd_L7 l1 x25_2).length : Int) := of_decide_eq_true (by first | (with_reducible assumption) | assumption)
                   obtain ⟨ad154, e154, hx154_0, hx154_1, hx154_2, hx154_3⟩ := at_T44 HR152_0.out x37_3 p154 q154
                   cases e154
                   replace hx154_0 := (HB.out.cell (World.block_lt_of_cell? w _ hx154_0)).trans hx154_0
                   replace hx154_1 := (HB.out.cell (World.block_lt_of_cell? w _ hx154_1)).trans hx154_1
                   replace hx154_2 := (HB.out.cell (World.block_lt_of_cell? w _ hx154_2)).trans hx154_2
                   replace hx154_3 := (HB.out.cell (World.block_lt_of_cell? w _ hx154_3)).trans hx154_3
                   replace p154 := eq_true p154
                   replace q154 := eq_true q154
                   try go_wp2_with (first | ((with_reducible refine gate_dst (N := 11) rfl ?_); (try (refine gate_guard (by rfl) ?_; dsimp only)); refine box_event ?hg (N := 11) ?hd (cs := #[.int .i64 0, .int .i64 0, .string (⟨#[]⟩ : ByteArray), .complex .f64 0 0]) (t := 44) ?hr ?_; (case hd => rfl); (case hg => rfl); (case hr => first | (go_simp; done) | (go_simp; rfl)); intro gb155 hg w22 hbox hb; have n0_ := Aside0.mk (Kd.S_below (Kd.S_elderB (by (with_reducible repeat (first | apply Kd.S_alloc | apply Kd.S_drewN | apply Kd.S_drew)); exact HO_6.out) gb155 (Nat.le_of_eq hg.symm)) hb); have n1_ := Aside0.mk (below_step (by repeat (first | (with_reducible first | exact HB.out | apply below_alloc | apply pw_below_drewN | apply below_drew1) | exact HB.out)) hb); have n2_ := Aside0.mk (hbox); have n3_ := Aside0.mk ((by rw [hg]; exact (below_size (by repeat (first | (with_reducible first | exact HB.out | apply below_alloc | apply pw_below_drewN | apply below_drew1) | exact HB.out))) : w.heap.size ≤ gb155)); have n4_ := Aside0.mk ((by rw [hg]; exact (below_size (by repeat (first | (with_reducible first | exact HB.out | apply below_alloc | apply pw_below_drewN | apply below_drew1) | exact HB.out))) : w.heap.size ≤ gb155)); clear HO_6; clear HB; have HO_6 := n0_; have HB := n1_; have BK155 := n2_; have GW155 := n3_; have GE155 := n4_; clear n0_ n1_ n2_ n3_ n4_; clear hb hbox hg; have hcz23_0 : w22.cell? ⟨gb155, 0, none⟩ = some (.int .i64 0) := (blk_cell BK155.out 0).trans rfl; have hcz23_1 : w22.cell? ⟨gb155, 1, none⟩ = some (.int .i64 0) := (blk_cell BK155.out 1).trans rfl; have hcz23_2 : w22.cell? ⟨gb155, 2, none⟩ = some (.string (⟨#[]⟩ : ByteArray)) := (blk_cell BK155.out 2).trans rfl; have hcz23_3 : w22.cell? ⟨gb155, 3, none⟩ = some (.complex .f64 0 0) := (blk_cell BK155.out 3).trans rfl; have hfz23_0 := blk_frozen BK155.out 0; have hfz23_1 := blk_frozen BK155.out 1; have hfz23_2 := blk_frozen BK155.out 2; have hfz23_3 := blk_frozen BK155.out 3))
                   have n0_ : Aside0 (Kd.S (Kd.slice 44 k44) 48 ((((w22.setCell ⟨gb155, 0, none⟩ (.int .i64 ((rd_T44 (rd_L7 l1 x25_2) x37_3).f0))).setCell ⟨gb155, 1, none⟩ (.int .i64 ((rd_T44 (rd_L7 l1 x25_2) x37_3).f1))).setCell ⟨gb155, 2, none⟩ (.string ((rd_T44 (rd_L7 l1 x25_2) x37_3).f2))).setCell ⟨gb155, 3, none⟩ (.complex .f64 (((rd_T44 (rd_L7 l1 x25_2) x37_3).f3).1) (((rd_T44 (rd_L7 l1 x25_2) x37_3).f3).2))) w.heap.size (fun k_ => k_ ≠ gb155) v150 x6_3) := ⟨by (with_reducible repeat (first | apply Kd.S_alloc | apply Kd.S_drewN | apply Kd.S_drew)); exact Kd.S_mono (Kd.S_far (p := ⟨gb155, 3, none⟩) (Kd.S_far (p := ⟨gb155, 2, none⟩) (Kd.S_far (p := ⟨gb155, 1, none⟩) (Kd.S_far (p := ⟨gb155, 0, none⟩) (Kd.S_mono HO_6.out (fun k_ hk => (⟨hk, hk.2⟩ : _ ∧ k_ ≠ gb155))) (fun _ hk => hk.2) (.int .i64 ((rd_T44 (rd_L7 l1 x25_2) x37_3).f0))) (fun _ hk => hk.2) (.int .i64 ((rd_T44 (rd_L7 l1 x25_2) x37_3).f1))) (fun _ hk => hk.2) (.string ((rd_T44 (rd_L7 l1 x25_2) x37_3).f2))) (fun _ hk => hk.2) (.complex .f64 (((rd_T44 (rd_L7 l1 x25_2) x37_3).f3).1) (((rd_T44 (rd_L7 l1 x25_2) x37_3).f3).2))) (fun _ hk => hk.1.2)⟩
                   have n1_ : Aside0 (((((w22.setCell ⟨gb155, 0, none⟩ (.int .i64 ((rd_T44 (rd_L7 l1 x25_2) x37_3).f0))).setCell ⟨gb155, 1, none⟩ (.int .i64 ((rd_T44 (rd_L7 l1 x25_2) x37_3).f1))).setCell ⟨gb155, 2, none⟩ (.string ((rd_T44 (rd_L7 l1 x25_2) x37_3).f2))).setCell ⟨gb155, 3, none⟩ (.complex .f64 (((rd_T44 (rd_L7 l1 x25_2) x37_3).f3).1) (((rd_T44 (rd_L7 l1 x25_2) x37_3).f3).2))).heap[gb155]? = some (.cells #[.int .i64 ((rd_T44 (rd_L7 l1 x25_2) x37_3).f0), .int .i64 ((rd_T44 (rd_L7 l1 x25_2) x37_3).f1), .string ((rd_T44 (rd_L7 l1 x25_2) x37_3).f2), .complex .f64 (((rd_T44 (rd_L7 l1 x25_2) x37_3).f3).1) (((rd_T44 (rd_L7 l1 x25_2) x37_3).f3).2)] 44 (0, 0))) := ⟨by (with_reducible repeat (first | refine blk_drewN ?_ _ | refine blk_drew ?_ | refine blk_alloc ?_ _)); refine blk_put (cs := #[.int .i64 ((rd_T44 (rd_L7 l1 x25_2) x37_3).f0), .int .i64 ((rd_T44 (rd_L7 l1 x25_2) x37_3).f1), .string ((rd_T44 (rd_L7 l1 x25_2) x37_3).f2), .complex .f64 0 0]) ?_ 3 _ rfl; (with_reducible repeat (first | refine blk_drewN ?_ _ | refine blk_drew ?_ | refine blk_alloc ?_ _)); refine blk_put (cs := #[.int .i64 ((rd_T44 (rd_L7 l1 x25_2) x37_3).f0), .int .i64 ((rd_T44 (rd_L7 l1 x25_2) x37_3).f1), .string (⟨#[]⟩ : ByteArray), .complex .f64 0 0]) ?_ 2 _ rfl; (with_reducible repeat (first | refine blk_drewN ?_ _ | refine blk_drew ?_ | refine blk_alloc ?_ _)); refine blk_put (cs := #[.int .i64 ((rd_T44 (rd_L7 l1 x25_2) x37_3).f0), .int .i64 0, .string (⟨#[]⟩ : ByteArray), .complex .f64 0 0]) ?_ 1 _ rfl; (with_reducible repeat (first | refine blk_drewN ?_ _ | refine blk_drew ?_ | refine blk_alloc ?_ _)); refine blk_put (cs := #[.int .i64 0, .int .i64 0, .string (⟨#[]⟩ : ByteArray), .complex .f64 0 0]) ?_ 0 _ rfl; (with_reducible repeat (first | refine blk_drewN ?_ _ | refine blk_drew ?_ | refine blk_alloc ?_ _)); exact BK155.out⟩
                   have n2_ : Aside0 (Below w.heap.size w ((((w22.setCell ⟨gb155, 0, none⟩ (.int .i64 ((rd_T44 (rd_L7 l1 x25_2) x37_3).f0))).setCell ⟨gb155, 1, none⟩ (.int .i64 ((rd_T44 (rd_L7 l1 x25_2) x37_3).f1))).setCell ⟨gb155, 2, none⟩ (.string ((rd_T44 (rd_L7 l1 x25_2) x37_3).f2))).setCell ⟨gb155, 3, none⟩ (.complex .f64 (((rd_T44 (rd_L7 l1 x25_2) x37_3).f3).1) (((rd_T44 (rd_L7 l1 x25_2) x37_3).f3).2)))) := ⟨by repeat (first | (with_reducible first | exact HB.out | apply below_alloc | apply pw_below_drewN | apply below_drew1 | refine below_set ?_ GE155.out) | exact HB.out)⟩
                   (try clear HO_6)
                   (try clear BK155)
                   (try clear HB)
                   generalize ((((w22.setCell ⟨gb155, 0, none⟩ (.int .i64 ((rd_T44 (rd_L7 l1 x25_2) x37_3).f0))).setCell ⟨gb155, 1, none⟩ (.int .i64 ((rd_T44 (rd_L7 l1 x25_2) x37_3).f1))).setCell ⟨gb155, 2, none⟩ (.string ((rd_T44 (rd_L7 l1 x25_2) x37_3).f2))).setCell ⟨gb155, 3, none⟩ (.complex .f64 (((rd_T44 (rd_L7 l1 x25_2) x37_3).f3).1) (((rd_T44 (rd_L7 l1 x25_2) x37_3).f3).2))) = w24 at n0_ n1_ n2_ ⊢
                   have HO_6 := n0_
                   have BK155 := n1_
                   have HB := n2_
                   clear n0_ n1_ n2_
                   have n0_ := Aside0.mk (Kd.S_drew HO_6.out)
                   have n1_ := Aside0.mk (blk_drew BK155.out)
                   have n2_ := Aside0.mk (below_drew1 HB.out)
                   clear HO_6
                   clear BK155
                   clear HB
                   have HO_6 := n0_
                   have BK155 := n1_
                   have HB := n2_
                   clear n0_ n1_ n2_
                   obtain ⟨Ao26, co26, eo26⟩ := Kd.S_slice HO_6.out
                   (first | subst eo26 | (injection eo26 with f1_ f2_ f3_; have f4_ := f1_.symm; have f5_ := f3_.symm; clear f1_ f2_ f3_; subst f4_; subst f5_))
                   have p156 : 0 ≤ (x37_3 : Int) := of_decide_eq_true (by first | (with_reducible assumption) | assumption)
                   have q156 : x37_3 < (x6_3.length : Int) := of_decide_eq_true (by first | (with_reducible assumption) | assumption)
                   obtain ⟨ad156, A156_0, c156_0, e156, hx156_0, hl156_0, hi156_0⟩ := at_L7 (Kd.S_reads' HO_6.out).2.2 x37_3 p156 q156
                   cases e156
                   obtain ⟨ce156, hce156, hMe156, hcc156⟩ := Kd.S_get HO_6.out [] x37_3 p156 (by first | exact q156 | exact of_decide_eq_true (by first | (with_reducible assumption) | assumption) | (have e_ := (Kd.S_reads' HO_6.out).1; omega))
                   obtain ⟨ve156_0, rfl, ge156_0⟩ := hMe156
                   have hv156_0 := hcc156 0 _ rfl
                   rw [Nat.add_zero, show ((Kd.slice 44 k44)).sz = 1 from rfl, Nat.mul_one] at hv156_0
                   replace hv156_0 := Option.some.inj (hv156_0.symm.trans hx156_0)
                   rw [hv156_0] at ge156_0
                   have HL156_0 := Aside0.mk (show Kd.R k44 44 _ _ _ _ (rd_L7 x6_3 x37_3) from ge156_0)
                   clear hv156_0 ge156_0
                   have HX156_0 := Aside0.mk hx156_0
                   clear hcc156 hce156
                   have HR156_0 := Aside0.mk hi156_0
                   have HC156_0 := Aside0.mk hl156_0
                   clear hi156_0 hl156_0
                   replace p156 := eq_true p156
                   replace q156 := eq_true q156
                   obtain ⟨go27, co27, eo27, gb27, gl27, cl27, HG27⟩ := Kd.S_form HO_6.out (by have h_ : (x37_3 : Int) < ((x6_3.length : Int) : Int) := of_decide_eq_true (by first | (with_reducible assumption) | assumption); have h2_ : 0 ≤ (x37_3 : Int) := (of_decide_eq_true (by first | (with_reducible assumption) | assumption)); omega)
                   (first | cases eo27 | (injection eo27 with ea_ en_ ec_; (first | subst ea_ | (injection ea_ with ea_; subst ea_)); subst ec_; clear en_))
                   have GB27 := Aside0.mk gb27
                   have GG27 := Aside0.mk HG27
                   clear gb27 gl27 HG27
                   (first | simp only [add_plain] at hx156_0 | skip)
                   obtain ⟨oki27, ce27, hcl27, hM27, hcc27, _, _, hH27⟩ := Kd.S_elem HO_6.out [] (x37_3 : Int) (of_decide_eq_true (by first | (with_reducible assumption) | assumption)) (by have h_ : (x37_3 : Int) < ((x6_3.length : Int) : Int) := of_decide_eq_true (by first | (with_reducible assumption) | assumption); first | exact h_ | (have e_ := (Kd.S_reads' HO_6.out).1; omega) | simpa using h_)
                   obtain ⟨ve27_0, rfl, ge27_0⟩ := hM27
                   have hv27 := hcc27 0 _ rfl
                   have hX27 := HX156_0.out
                   (try simp only [add_plain] at hX27)
                   (try simp only [Nat.add_zero] at hv27)
                   (try rw [show ((Kd.slice 44 k44)).sz = 1 from rfl, Nat.mul_one] at hv27)
                   replace hv27 := Option.some.inj (hv27.symm.trans hX27)
                   subst hv27
                   clear hX27 hcc27 hcl27
                   have UU27 := Aside0.mk (show Kd.R k44 44 _ w.heap.size oki27 (.slice A156_0 (rd_L7 x6_3 x37_3).length c156_0) (rd_L7 x6_3 x37_3) from ge27_0)
                   have HH27 := Aside0.mk hH27
                   have HN27 := Aside0.mk (Kd.S_reads' HO_6.out).1
                   clear hH27 ge27_0
                   refine start_ (n := 11) (S := fun w' => w'.cell? ⟨gb155, 0, none⟩ = some (.int .i64 ((rd_T44 (rd_L7 l1 x25_2) x37_3).f0)) ∧ w'.cell? ⟨gb155, 1, none⟩ = some (.int .i64 ((rd_T44 (rd_L7 l1 x25_2) x37_3).f1)) ∧ w'.cell? ⟨gb155, 2, none⟩ = some (.string ((rd_T44 (rd_L7 l1 x25_2) x37_3).f2)) ∧ w'.cell? ⟨gb155, 3, none⟩ = some (.complex .f64 (((rd_T44 (rd_L7 l1 x25_2) x37_3).f3).1) (((rd_T44 (rd_L7 l1 x25_2) x37_3).f3).2)) ∧ w'.cell? ⟨go27, (x37_3).toNat, none⟩ = some (.slice A156_0 (rd_L7 x6_3 x37_3).length c156_0)) (ds := [10]) #[false, false, false, false, false, false, false, false, false, false, false] (by kernel_rfl) rfl rfl ⟨(blk_cell BK155.out 0).trans rfl, (blk_cell BK155.out 1).trans rfl, (blk_cell BK155.out 2).trans rfl, (blk_cell BK155.out 3).trans rfl, hx156_0⟩ (fun hHeld => ?_); refine with_tabW schema_Turned.tab13 schema_Turned.bits13 (fun HT_ HW_ => ?_)
                   generalize w24.drew = w25 at HO_6 BK155 HB GG27 HH27 HL156_0 HR156_0 HX156_0 UU27 hx156_0 hHeld ⊢
                   refine pure_ (i := 0) (N := some 42) (v := ?_) (a' := ?_) #[true, false, false, false, false, false, false, false, false, false, false] rfl rfl (any_of HT_.out (by kernel_rfl)) (fun _ _ _ h => h) (Or.inl ⟨by rfl, ?_⟩) ?_ ?_
                   rotate_left
                   ·intro w'
                    go_simp
                    with_reducible rfl
                   rotate_left
                   ·simp only [Act.put, List.setIfInBounds_toArray, List.set_cons_zero, List.set_cons_succ, i64_w, i32_w]
                    rfl
                   refine pure_ (i := 1) (N := some 43) (v := ?_) (a' := ?_) #[true, true, false, false, false, false, false, false, false, false, false] rfl rfl (any_of HT_.out (by kernel_rfl)) (fun _ _ _ h => h) (Or.inl ⟨by rfl, ?_⟩) ?_ ?_
                   rotate_left
                   ·intro w'
                    go_simp
                    with_reducible rfl
                   rotate_left
                   ·simp only [Act.put, List.setIfInBounds_toArray, List.set_cons_zero, List.set_cons_succ, i64_w, i32_w]
                    rfl
                   refine pure_ (i := 2) (N := some 44) (v := ?_) (a' := ?_) #[true, true, true, false, false, false, false, false, false, false, false] rfl rfl (any_of HT_.out (by kernel_rfl)) (fun _ _ _ h => h) (Or.inl ⟨by rfl, ?_⟩) ?_ ?_
                   rotate_left
                   ·intro w'
                    go_simp
                    with_reducible rfl
                   rotate_left
                   ·simp only [Act.put, List.setIfInBounds_toArray, List.set_cons_zero, List.set_cons_succ, i64_w, i32_w]
                    rfl
                   refine pure_ (i := 3) (N := some 45) (v := ?_) (a' := ?_) #[true, true, true, true, false, false, false, false, false, false, false] rfl rfl (any_of HT_.out (by kernel_rfl)) (fun _ _ _ h => h) (Or.inl ⟨by rfl, ?_⟩) ?_ ?_
                   rotate_left
                   ·intro w'
                    go_simp
                    with_reducible rfl
                   rotate_left
                   ·simp only [Act.put, List.setIfInBounds_toArray, List.set_cons_zero, List.set_cons_succ, i64_w, i32_w]
                    rfl
                   refine pure_ (i := 4) (N := some 46) (v := ?_) (a' := ?_) #[true, true, true, true, true, false, false, false, false, false, false] rfl rfl (any_of HT_.out (by kernel_rfl)) (fun _ _ _ h => h) (Or.inl ⟨by rfl, ?_⟩) ?_ ?_
                   rotate_left
                   ·intro w'
                    go_simp
                    with_reducible rfl
                   rotate_left
                   ·simp only [Act.put, List.setIfInBounds_toArray, List.set_cons_zero, List.set_cons_succ, i64_w, i32_w]
                    rfl
                   refine take_ (i := 5) (N := some 47) (v := ?_) (a' := ?_) #[true, true, true, true, true, true, false, false, false, false, false] rfl rfl (take_ofW HT_.out HW_.out (by kernel_rfl)) (fun _ _ _ h => h) (Or.inl ⟨by rfl, ?_⟩) hHeld ?_ ?_
                   rotate_left
                   ·rintro w' ⟨s0, s1, s2, s3, s4⟩
                    go_simp
                    with_reducible rfl
                   rotate_left
                   ·simp only [Act.put, List.setIfInBounds_toArray, List.set_cons_zero, List.set_cons_succ, i64_w, i32_w]
                    rfl
                   refine take_ (i := 6) (N := some 48) (v := ?_) (a' := ?_) #[true, true, true, true, true, true, true, false, false, false, false] rfl rfl (take_ofW HT_.out HW_.out (by kernel_rfl)) (fun _ _ _ h => h) (Or.inl ⟨by rfl, ?_⟩) hHeld ?_ ?_
                   rotate_left
                   ·rintro w' ⟨s0, s1, s2, s3, s4⟩
                    go_simp
                    with_reducible rfl
                   rotate_left
                   ·simp only [Act.put, List.setIfInBounds_toArray, List.set_cons_zero, List.set_cons_succ, i64_w, i32_w]
                    rfl
                   refine one_ (i := 7) (N := some 49) #[true, true, true, true, true, true, true, true, false, false, false] rfl rfl (one_of HT_.out (by kernel_rfl)) (by decide) (fun K hK => ?_)
                   refine value_ (w1 := ?_) (v := ?_) (by rfl) rfl ?_ ?_
                   rotate_left 2
                   ·go_simp
                    constructor
                    ·rfl
                    ·rfl
                   refine hK.out _ _ ⟨(blk_cell (blk_alloc BK155.out _) 0).trans rfl, (blk_cell (blk_alloc BK155.out _) 1).trans rfl, (blk_cell (blk_alloc BK155.out _) 2).trans rfl, (blk_cell (blk_alloc BK155.out _) 3).trans rfl, (World.cell?_alloc_lt _ _ _ (World.block_lt_of_cell? _ _ (hHeld.2.2.2.2))).trans (hHeld.2.2.2.2)⟩ (fun hHeld => ?_)
                   clear hK K
                   refine norm_ (a' := ?_) ?_ ?_
                   rotate_left
                   ·show Act.put _ (some 49) _ = _
                    simp only [Act.put, List.setIfInBounds_toArray, List.set_cons_zero, List.set_cons_succ, i64_w, i32_w]
                    rfl
                   refine one_ (i := 8) (N := some 50) #[true, true, true, true, true, true, true, true, true, false, false] rfl rfl (one_of HT_.out (by kernel_rfl)) (by decide) (fun K hK => ?_)
                   refine Kd.R_append_step k44 (w0 := w) w.heap.size (by rfl) (.tmp 47) (.tmp 49) 48 44 (.agg #[(.int .i64 0), (.int .i64 0), (.string ⟨#[]⟩), (.complex .f64 0 0)]) 48 rfl Try.underlying48 info44 rfl (by decide) (by omega) (.slice A156_0 (rd_L7 x6_3 x37_3).length c156_0) (rd_L7 x6_3 x37_3) (⟨(rd_T44 (rd_L7 l1 x25_2) x37_3).f0, (rd_T44 (rd_L7 l1 x25_2) x37_3).f1, (rd_T44 (rd_L7 l1 x25_2) x37_3).f2, (rd_T44 (rd_L7 l1 x25_2) x37_3).f3⟩ : S44) [.int .i64 ((rd_T44 (rd_L7 l1 x25_2) x37_3).f0), .int .i64 ((rd_T44 (rd_L7 l1 x25_2) x37_3).f1), .string ((rd_T44 (rd_L7 l1 x25_2) x37_3).f2), .complex .f64 (((rd_T44 (rd_L7 l1 x25_2) x37_3).f3).1) (((rd_T44 (rd_L7 l1 x25_2) x37_3).f3).2)] (fun k_ => oki27 k_ ∨ ((fun k_ => k_ ≠ gb155)) k_ ∧ w25.heap.size ≤ k_) (fun _ => False) rfl rfl ?aP (fun _ hk => hk.elim) ?aF ?aO ?aB ?aS ?aL ?_
                   (case aP => exact k44_mkM _ _ _ (⟨(rd_T44 (rd_L7 l1 x25_2) x37_3).f0, (rd_T44 (rd_L7 l1 x25_2) x37_3).f1, (rd_T44 (rd_L7 l1 x25_2) x37_3).f2, (rd_T44 (rd_L7 l1 x25_2) x37_3).f3⟩ : S44))
                   (case aB => exact (by repeat (first | (with_reducible first | exact HB.out | apply below_alloc | apply pw_below_drewN | apply below_drew1 | refine below_set ?_ GE155.out) | exact HB.out)))
                   (case aF => exact (fun k_ hk => .inr ⟨Kd.freshB (g := gb155) (o := .cells #[.int .i64 ((rd_T44 (rd_L7 l1 x25_2) x37_3).f0), .int .i64 ((rd_T44 (rd_L7 l1 x25_2) x37_3).f1), .string ((rd_T44 (rd_L7 l1 x25_2) x37_3).f2), .complex .f64 (((rd_T44 (rd_L7 l1 x25_2) x37_3).f3).1) (((rd_T44 (rd_L7 l1 x25_2) x37_3).f3).2)] 44 (0, 0)) (by (with_reducible repeat (first | refine blk_drewN ?_ _ | refine blk_drew ?_ | refine blk_alloc ?_ _)); exact BK155.out) k_ hk, hk⟩))
                   (case aO => exact (by (with_reducible repeat (first | apply Kd.R_alloc | apply Kd.R_drewN | apply Kd.R_drew)); exact Kd.R_mono UU27.out (fun _ hk => .inl hk)))
                   (case aS => exact (below_size (by repeat (first | (with_reducible first | exact HB.out | apply below_alloc | apply pw_below_drewN | apply below_drew1 | refine below_set ?_ GE155.out) | exact HB.out))))
                   (case aL => have := LMc20.out; omega)
                   intro v158 w28 ho hb hg hat
                   (first | have HS4_ := cell_grown hg (hHeld.2.2.2.2) (by first | (rw [add_block]; exact (fun e_ => ((HL156_0.out.1 _ e_.symm).2) rfl)) | (show some (Addr.add _ _).block ≠ _; rw [add_block]; exact (fun e_ => ((HL156_0.out.1 _ e_.symm).2) rfl)) | exact (fun e_ => ((HL156_0.out.1 _ e_.symm).2) rfl)) | have HS4_ := cell_grown hg (cell_unalloc (hHeld.2.2.2.2) (by first | (rw [add_block]; exact Kd.S_lt HO_6.out _ rfl) | (show (Addr.add _ _).block < _; rw [add_block]; exact Kd.S_lt HO_6.out _ rfl) | exact Kd.S_lt HO_6.out _ rfl)) (by first | (rw [add_block]; exact (fun e_ => ((HL156_0.out.1 _ e_.symm).2) rfl)) | (show some (Addr.add _ _).block ≠ _; rw [add_block]; exact (fun e_ => ((HL156_0.out.1 _ e_.symm).2) rfl)) | exact (fun e_ => ((HL156_0.out.1 _ e_.symm).2) rfl)))
                   rw [← Ny157.out] at ho
                   have n0_ := Aside0.mk (blk_grown (g := gb155) (o := .cells #[.int .i64 ((rd_T44 (rd_L7 l1 x25_2) x37_3).f0), .int .i64 ((rd_T44 (rd_L7 l1 x25_2) x37_3).f1), .string ((rd_T44 (rd_L7 l1 x25_2) x37_3).f2), .complex .f64 (((rd_T44 (rd_L7 l1 x25_2) x37_3).f3).1) (((rd_T44 (rd_L7 l1 x25_2) x37_3).f3).2)] 44 (0, 0)) (by (with_reducible repeat (first | refine blk_drewN ?_ _ | refine blk_drew ?_ | refine blk_alloc ?_ _)); exact BK155.out) hg (Kd.R_away HL156_0.out (fun _ hk => hk.1)))
                   have n1_ := Aside0.mk (hb)
                   have n2_ := Aside0.mk (Kd.H_grown (Kd.H_widen (by repeat (first | exact HH27.out | refine Kd.H_alloc ?_ _ | refine Kd.H_drewN ?_ _ | refine Kd.H_drew ?_))) hg (fun k_ e_ => .inl (UU27.out.1 k_ e_)))
                   have n3_ := Aside0.mk (ho)
                   clear BK155
                   clear HB
                   clear HH27
                   clear HO_6
                   clear UU27
                   clear HL156_0
                   have BK155 := n0_
                   have HB := n1_
                   have HH27 := n2_
                   have HO159 := n3_
                   clear n0_ n1_ n2_ n3_
                   clear ho hb hg hat
                   have p21 : 0 ≤ (x37_3 : Int) := of_decide_eq_true (by first | (with_reducible assumption) | assumption)
                   have q21 : (x37_3 : Int) < ((x6_3.length : Int) : Int) := of_decide_eq_true (by first | (with_reducible assumption) | assumption)
                   replace p21 := eq_true p21
                   replace q21 := eq_true q21
                   obtain ⟨Ao31, co31, eo31⟩ := Kd.R_slice HO159.out
                   (first | subst eo31 | (injection eo31 with f1_ f2_ f3_; have f4_ := f1_.symm; have f5_ := f3_.symm; clear f1_ f2_ f3_; subst f4_; subst f5_))
                   obtain ⟨_, _, hraw29, _, _, hcc29, _⟩ := Kd.H_raw HH27.out (of_decide_eq_true (by first | (with_reducible assumption) | assumption)) (by have h_ : (x37_3 : Int) < ((x6_3.length : Int) : Int) := of_decide_eq_true (by first | (with_reducible assumption) | assumption); first | exact h_ | (have e_ := (HN27.out); omega) | simpa using h_)
                   obtain ⟨_, hfr29⟩ := Kd.H_at HH27.out (of_decide_eq_true (by first | (with_reducible assumption) | assumption)) (by have h_ : (x37_3 : Int) < ((x6_3.length : Int) : Int) := of_decide_eq_true (by first | (with_reducible assumption) | assumption); first | exact h_ | (have e_ := (HN27.out); omega) | simpa using h_)
                   have hx29_0 := hcc29 0 _ rfl
                   have hf29_0 := hfr29 0
                   (try simp only [Nat.add_zero] at hx29_0 hf29_0)
                   (try rw [show ((Kd.slice 44 k44)).sz = 1 from rfl, Nat.mul_one] at hx29_0)
                   (try rw [show ((Kd.slice 44 k44)).sz = 1 from rfl, Nat.mul_one] at hf29_0)
                   have HP29 := Kd.S_seg0 HH27.out (of_decide_eq_true (by first | (with_reducible assumption) | assumption)) (by have h_ : (x37_3 : Int) < ((x6_3.length : Int) : Int) := of_decide_eq_true (by first | (with_reducible assumption) | assumption); first | exact h_ | (have e_ := (HN27.out); omega) | simpa using h_) (seg := [.slice Ao31 y157.length co31]) (j := 0) (show 1 ≤ 1 from by decide) (x' := y157) (Kd.M_row HO159.out) (fun _ hk => hk)
                   (try simp only [show ((Kd.slice 44 k44)).sz = 1 from rfl, Nat.mul_one, Nat.add_zero] at HP29)
                   clear hcc29 hfr29
                   have HNB155_go27 := Aside0.mk (show gb155 ≠ go27 from by have h_ := Kd.R_ne hraw29 BK155.out (by decide); intro e_; exact h_ (by rw [e_]; rfl))
                   have HS29 := HP29.1
                   rw [← Ny160.out] at HS29
                   have HQ29 := Aside0.mk HS29
                   obtain ⟨_, hgg29⟩ := Kd.R_typed hraw29 go27 rfl
                   have GG29_ := Aside0.mk hgg29
                   clear HP29 HS29 hgg29
                   refine hK.out _ _ ⟨(blk_cell BK155.out 0).trans rfl, (blk_cell BK155.out 1).trans rfl, (blk_cell BK155.out 2).trans rfl, (blk_cell BK155.out 3).trans rfl, HS4_⟩ (fun hHeld => ?_)
                   clear hK K
                   refine norm_ (a' := ?_) ?_ ?_
                   rotate_left
                   ·show Act.put _ (some 50) _ = _
                    simp only [Act.put, List.setIfInBounds_toArray, List.set_cons_zero, List.set_cons_succ, i64_w, i32_w]
                    rfl
                   refine pure_ (i := 9) (N := some 51) (v := ?_) (a' := ?_) #[true, true, true, true, true, true, true, true, true, true, false] rfl rfl (any_of HT_.out (by kernel_rfl)) (fun _ _ _ h => h) (Or.inl ⟨by rfl, ?_⟩) ?_ ?_
                   rotate_left
                   ·intro w'
                    go_simp
                    with_reducible rfl
                   rotate_left
                   ·simp only [Act.put, List.setIfInBounds_toArray, List.set_cons_zero, List.set_cons_succ, i64_w, i32_w]
                    rfl
                   refine last_ (i := 10) (N := none) #[true, true, true, true, true, true, true, true, true, true, true] rfl rfl (one_of HT_.out (by kernel_rfl)) (by decide) (fun K hK => ?_)
                   refine skip_ (w1 := ?_) (by rfl) rfl ?_ ?_
                   rotate_left
                   ·go_simp
                    rfl
                   refine hK.out _ _ ?_
                   clear hK K
                   refine done_ (done_of HT_.out (by kernel_rfl)) ?_
                   try go_wp2
                   go_roundg k3
                   case measure => have := HJ2.out; have := HK2.out; have := HK3.out; omega
                   case rel => exact ⟨(y160), (wrap64 (x37_3 + 1)), (by first | rfl | (simp; done) | (simp [*]; done)), H', ⟨by have := HJ2.out; have := HK2.out; have := HK3.out; omega⟩, ⟨by (with_reducible repeat (first | apply Kd.S_alloc | apply Kd.S_drewN | apply Kd.S_drew)); exact Kd.S_mono HQ29.out (fun _ hk => trivial)⟩, ⟨by repeat (first | (with_reducible first | exact HB.out | apply below_alloc | apply pw_below_drewN | apply below_drew1 | refine below_set ?_ GB27.out | refine below_set ?_ GE155.out) | exact HB.out)⟩⟩
                  ·rw [if_neg c20] at H
                   exact absurd H (by simp)
                 ·rw [if_neg c19] at H
                  exact absurd H (by simp)
                ·rw [if_neg c18] at H
                 exact absurd H (by simp)
               ·rw [if_neg c17] at H
                exact absurd H (by simp)
              ·rw [if_neg c16] at H
               have c16b0 : decide (x37_3 < ((rd_L7 l1 x25_2).length : Int)) = false := decide_eq_false c16
               clear c16
               have H' := Aside0.mk H
               clear H
               go_wp2
               go_roundg k3
               case measure => have := HJ2.out; have := HK2.out; have := HK3.out; omega
               case rel => exact ⟨(x6_3), (wrap64 (x25_2 + 1)), (by first | rfl | (simp; done) | (simp [*]; done)), H', ⟨by have := HJ2.out; have := HK2.out; have := HK3.out; omega⟩, ⟨by (with_reducible repeat (first | apply Kd.S_alloc | apply Kd.S_drewN | apply Kd.S_drew)); exact HO_6.out⟩, ⟨by repeat (first | (with_reducible first | exact HB.out | apply below_alloc | apply pw_below_drewN | apply below_drew1) | exact HB.out)⟩⟩
           ·rw [if_neg c14] at H
            have c14b0 : (t153 == 0) = false := beq_eq_false_iff_ne.mpr c14
            have c14b1 : (t153 != 0) = true := bne_iff_ne.mpr c14
            simp only [Option.some.injEq, Prod.mk.injEq] at H
            obtain ⟨rfl, rfl⟩ := H
            have p152 : 0 ≤ (x25_2 : Int) := of_decide_eq_true (by first | (with_reducible assumption) | assumption)
            have q152 : x25_2 < (l1.length : Int) := of_decide_eq_true (by first | (with_reducible assumption) | assumption)
            obtain ⟨ad152, A152_0, c152_0, e152, hx152_0, hl152_0, hi152_0⟩ := at_L7 HR1.out x25_2 p152 q152
            cases e152
            replace hx152_0 := (HB.out.cell (World.block_lt_of_cell? w _ hx152_0)).trans hx152_0
            have HR152_0 := Aside0.mk hi152_0
            have HC152_0 := Aside0.mk hl152_0
            clear hi152_0 hl152_0
            replace p152 := eq_true p152
            replace q152 := eq_true q152
            go_wp2_with (first | ((with_reducible refine gate_callee (f := 19) rfl ?_); refine goesL_ (some 31) rfl rfl Try.func19 (by kernel_rfl) rfl #[.slice A0 l0.length c0, .slice A152_0 (rd_L7 l1 x25_2).length c152_0] rfl (by (try simp only [List.map_toArray, List.map_cons, List.map_nil]); first | done | rfl | (simp only [List.length_drop, List.length_take]; rfl)) ?_; (with_reducible refine (schema_Row.calls k2 _ _ l0 _ _ (rd_L7 l1 x25_2) t153 _ ?side1 ?side2 ?side3 ?side4 A13.out).mono ?_); (case side1 => repeat (first | exact (Kd.C_below HR0.out HB.out) | (with_reducible refine Kd.C_alloc ?_ _) | (with_reducible refine Kd.C_drewN ?_ _) | (with_reducible refine Kd.C_drew ?_))); (case side2 => exact HC0.out); (case side3 => repeat (first | exact (Kd.C_below HR152_0.out HB.out) | (with_reducible refine Kd.C_alloc ?_ _) | (with_reducible refine Kd.C_drewN ?_ _) | (with_reducible refine Kd.C_drew ?_))); (case side4 => exact HC152_0.out); rintro e w32 ⟨rfl, hb⟩; refine ⟨_, rfl, ?_⟩; have n0_ := Aside0.mk (Kd.S_below (by (with_reducible repeat (first | apply Kd.S_alloc | apply Kd.S_drewN | apply Kd.S_drew)); exact HO_6.out) hb); have n1_ := Aside0.mk (below_step (by repeat (first | (with_reducible first | exact HB.out | apply below_alloc | apply pw_below_drewN | apply below_drew1) | exact HB.out)) hb); clear HO_6; clear HB; have HO_6 := n0_; have HB := n1_; clear n0_ n1_; (try clear hb); (try clear hb2); (try clear hk); (try clear hi)))
            go_ret2
            exact ⟨_, by first | rfl | (simp [errW_none, errW_some] <;> rfl) | (simp [*, errW_none, errW_some] <;> rfl), by first | exact Kd.S_nil _ _ _ _ _ | exact Kd.N_nil _ _ _ _ _ | exact Kd.V_nil _ _ _ _ _ | exact Kd.Q_nil _ _ _ _ _ | exact Kd.R_nil _ _ _ _ _, by repeat (first | (with_reducible first | exact HB.out | apply below_alloc | apply pw_below_drewN | apply below_drew1) | exact HB.out)⟩
          ·rw [if_neg c12] at H
           exact absurd H (by simp)
         ·rw [if_neg c11] at H
          exact absurd H (by simp)
        ·rw [if_neg c10] at H
         have c10b0 : decide (x25_2 < (l1.length : Int)) = false := decide_eq_false c10
         clear c10
         simp only [Option.some.injEq, Prod.mk.injEq] at H
         obtain ⟨rfl, rfl⟩ := H
         go_wp2
         go_ret2
         exact ⟨_, by first | rfl | (simp [errW_none, errW_some] <;> rfl) | (simp [*, errW_none, errW_some] <;> rfl), by (with_reducible repeat (first | apply Kd.S_alloc | apply Kd.S_drewN | apply Kd.S_drew)); exact HO_6.out, by repeat (first | (with_reducible first | exact HB.out | apply below_alloc | apply pw_below_drewN | apply below_drew1) | exact HB.out)⟩
     ·rw [if_neg c7] at H
      exact absurd H (by simp)
    ·rw [if_neg c6] at H
     exact absurd H (by simp)

/-! ### slices_Clone_byte_byte: function 25 (given) -/
def slices_Clone_byte_byte.f (l0 : List Int) : Option (List Int) := if l0.length < 140737488355328 then some l0 else none
set_option maxHeartbeats 8000000 in
theorem slices_Clone_byte_byte.calls (A0 : Option Addr) (c0 : Nat) (l0 : List Int) (r : List Int) (w : World) (hr0 : Kd.C (Kd.int .u8) w A0 l0.length l0) (hc0 : l0.length ≤ c0) (h : slices_Clone_byte_byte.f l0 = some r) :
  Calls Try.prog 25 #[.slice A0 l0.length c0] w fun e w' => ∃ v0_ : Value, e = .returned (v0_) ∧ Kd.R (Kd.int .u8) 5 w' w.heap.size (fun _ => True) v0_ r ∧ Below w.heap.size w w' := by
 have HR0 := Aside0.mk hr0
 have HC0 := Aside0.mk hc0
 clear hr0 hc0
 have HB := Aside0.mk (Below.refl w.heap.size w)
 unfold slices_Clone_byte_byte.f at h
 split at h
 ·rename_i hl
  have LM := Aside0.mk hl
  clear hl
  obtain rfl := Option.some.inj h
  clear h
  cases A0 with
  | none =>
   have e0 : l0 = [] := by
    have := HR0.out.2.2
    cases l0 with
    | nil => rfl
    | cons a t => obtain ⟨ad, h, _⟩ := this (by simp); cases h
   subst e0
   have HN := @Lib.run_eql_slice_nil Try.prog w 22 5 none 0 c0 0 0 Try.underlying22
   go_enter Try.func25, Try.ntmps25
   go_wp2
   go_ret
   exact ⟨_, rfl, Kd.R_nil _ _ _ _ _, HB.out⟩
  | some ad =>
   have HN := @Lib.run_eql_slice_nil Try.prog w 22 5 (some ad) l0.length c0 0 0 Try.underlying22
   go_enter Try.func25, Try.ntmps25
   go_wp2_with (first | ((with_reducible refine gate_dst (N := 5) rfl ?_); refine Kd.R_lit (Kd.int .u8) _ 5 ?hg (N := 5) ?hd (xs := ([] : List Int)) (inner := []) (ok := fun _ => True) (okp := fun _ => True) ?hr ?hp (fun _ hk => hk) trivial (Below.refl _ _) (Nat.le_refl _) (by simp) ?_; (case hd => rfl); (case hg => rfl); (case hr => first | (go_simp; done) | (go_simp; rfl)); (case hp => exact (Reps.none _ _)); intro v5 w4 ho5 hb hg_ hnew_; clear hg_ hnew_; have HO5 := Aside0.mk (Kd.R_lower ho5 (below_size HB.out)); have n1_ := Aside0.mk (below_step HB.out hb); clear HB; have HB := n1_; clear n1_; clear hb ho5) | ((with_reducible refine gate_builtin (b := .append) (xs := #[.tmp 5, .tmp 6]) rfl ?_); at_builtin; refine Kd.R_append_rows (Kd.int .u8) (w0 := w) w.heap.size rfl (.tmp 5) (.tmp 6) 22 5 (.int .u8 0) 1 rfl Try.underlying22 info5 rfl (by decide) (by omega) v5 [] l0 _ _ _ (fun _ => True) (fun _ => False) rfl rfl ?aO ?aR (fun _ _ h => h) (fun _ h => h.elim) ?aF ?aB ?aS ?aL ?_; (case aR => exact (Kd.C_below HR0.out HB.out)); (case aB => exact HB.out); (case aF => exact (fun _ _ => trivial)); (case aO => exact HO5.out); (case aS => exact (below_size HB.out)); (case aL => have := LM.out; simp; omega); intro v7 w6 ho hb hg hat; have n0_ := Aside0.mk (hb); have HO7 := Aside0.mk (ho); clear HB; have HB := n0_; clear n0_; clear ho hb hg hat))
   go_ret
   exact ⟨_, rfl, by simpa using HO7.out, HB.out⟩
 ·cases h

/-! ### num_Put: function 26 -/
def num_Put.l0 : Nat → List Int → Int → Option (List Int)
 | 0, _, _ => none
 | k + 1, x0, x1 => if x1 ≥ 128 then (if x0.length < 140737488355328 then (num_Put.l0 k (x0 ++ [Go.bits .or .u8 ((x1) % 256) 128]) (x1 / 128)) else (none)) else (if x0.length < 140737488355328 then (some (x0 ++ [(x1) % 256])) else (none))
def num_Put.f (k : Nat) (l0 : List Int) (a1 : Int) : Option (List Int) := (slices_Clone_byte_byte.f l0).bind fun t161 => (num_Put.l0 k t161 a1)
theorem num_Put.mono_l : ∀ k, (∀ y0 y1, LeO (num_Put.l0 k y0 y1) (num_Put.l0 (k + 1) y0 y1))
 | 0 => fun _ _ r h => by simp [num_Put.l0] at h
 | k + 1 => by
  have ih0 := num_Put.mono_l k
  ·intro y0 y1
   unfold num_Put.l0
   repeat' first
   | (with_reducible exact ih0 _ _)
   | (with_reducible exact LeO.refl _)
   | (with_reducible exact LeO.none _)
   | (with_reducible refine LeO.ite ?_ ?_)
   | (with_reducible refine LeO.bind ?_ (fun _ => ?_))
   | exact ih0 _ _
   | exact LeO.none _
   | refine LeO.ite ?_ ?_
   | refine LeO.bind ?_ (fun _ => ?_)
theorem num_Put.mono : ∀ a0 a1 k, LeO (num_Put.f k a0 a1) (num_Put.f (k + 1) a0 a1) := by
 intro a0 a1 k
 have ih0 := num_Put.mono_l k
 unfold num_Put.f
 repeat' first
   | (with_reducible exact ih0 _ _)
   | (with_reducible exact LeO.refl _)
   | (with_reducible exact LeO.none _)
   | (with_reducible refine LeO.ite ?_ ?_)
   | (with_reducible refine LeO.bind ?_ (fun _ => ?_))
   | exact ih0 _ _
   | exact LeO.none _
   | refine LeO.ite ?_ ?_
   | refine LeO.bind ?_ (fun _ => ?_)
set_option maxHeartbeats 8000000 in
set_option maxRecDepth 100000 in
theorem num_Put.calls (k : Nat) (A0 : Option Addr) (c0 : Nat) (l0 : List Int) (a1 : Int) (r : List Int) (w : World) (hr0 : Kd.C (Kd.int .u8) w A0 l0.length l0) (hc0 : l0.length ≤ c0) (h : num_Put.f k l0 a1 = some r) :
  Calls Try.prog 26 #[.slice A0 l0.length c0, .int .u64 a1] w fun e w' => ∃ v0_ : Value, e = .returned (v0_) ∧ Kd.R (Kd.int .u8) 5 w' w.heap.size (fun _ => True) v0_ r ∧ Below w.heap.size w w' := by
 have HR0 := Aside0.mk hr0
 have HC0 := Aside0.mk hc0
 clear hr0 hc0
 have HB := Aside0.mk (Below.refl w.heap.size w)
 have H : ((slices_Clone_byte_byte.f l0).bind fun t161 => (num_Put.l0 k t161 a1)) = some r := h
 clear h
 replace H := Option.bind_eq_some_iff.mp H
 obtain ⟨t161, A30, H⟩ := H
 replace H : (num_Put.l0 k t161 a1) = some r := H
 have A3 := Aside0.mk A30
 clear A30
 have H' := Aside0.mk H
 clear H
 go_enter Try.func26, Try.ntmps26
 go_wp2_with (first | ((with_reducible refine gate_callee (f := 25) rfl ?_); refine goesL_ (some 6) rfl rfl Try.func25 (by kernel_rfl) rfl #[.slice A0 l0.length c0] rfl (by (try simp only [List.map_toArray, List.map_cons, List.map_nil]); first | done | rfl | (simp only [List.length_drop, List.length_take]; rfl)) ?_; (with_reducible refine (slices_Clone_byte_byte.calls _ _ l0 t161 _ ?side1 ?side2 A3.out).mono ?_); (case side1 => repeat (first | exact HR0.out | (with_reducible refine Kd.C_alloc ?_ _) | (with_reducible refine Kd.C_drewN ?_ _) | (with_reducible refine Kd.C_drew ?_))); (case side2 => exact HC0.out); rintro e w4 ⟨v162, rfl, ho0, hb⟩; refine ⟨_, rfl, ?_⟩; have n0_ := Aside0.mk (Kd.R_lower ho0 (below_size (by repeat (first | (with_reducible first | exact HB.out | apply below_alloc | apply pw_below_drewN | apply below_drew1) | exact HB.out)))); have n1_ := Aside0.mk (below_step (by repeat (first | (with_reducible first | exact HB.out | apply below_alloc | apply pw_below_drewN | apply below_drew1) | exact HB.out)) hb); clear HB; have HO163 := n0_; have HB := n1_; clear n0_ n1_; (try clear hb); (try clear hb2); (try clear hk); (try clear hi); (try clear ho0)))
 go_loopg [0, 1] k (fun kq v0 v1 w' => ∃ (x0_1 : List Int) (x1_1 : Int), v1 = .int .u64 x1_1 ∧ Aside0 (num_Put.l0 kq x0_1 x1_1 = some r) ∧ Aside0 (kq ≤ k) ∧ Aside0 (Kd.R (Kd.int .u8) 5 w' w.heap.size (fun _ => True) v0 x0_1) ∧ Aside0 (Below w.heap.size w w'))
 case atStart => exact ⟨(t161), (a1), (by first | rfl | (simp; done) | (simp [*]; done)), H', ⟨Nat.le_refl _⟩, ⟨by (with_reducible repeat (first | apply Kd.R_alloc | apply Kd.R_drewN | apply Kd.R_drew)); exact HO163.out⟩, ⟨by repeat (first | (with_reducible first | exact HB.out | apply below_alloc | apply pw_below_drewN | apply below_drew1) | exact HB.out)⟩⟩
 case round =>
  clear H'
  try clear c2
  try clear p2
  obtain ⟨x0_1, x1_1, rfl, HA, HK1, HO_0, HB⟩ := hrel
  cases gk with
  | zero => exact absurd HA.out (by simp [num_Put.l0])
  | succ k1 =>
   have H := HA.out
   clear HA
   simp only [num_Put.l0] at H
   by_cases c5 : x1_1 ≥ 128
   ·rw [if_pos c5] at H
    have c5b0 : decide (128 ≤ x1_1) = true := decide_eq_true c5
    clear c5
    by_cases c6 : x0_1.length < 140737488355328
    ·rw [if_pos c6] at H
     have LMc6 := Aside0.mk c6
     clear c6
     obtain ⟨y164, hy164⟩ : ∃ y_ : List Int, y_ = (x0_1 ++ [Go.bits .or .u8 ((x1_1) % 256) 128]) := ⟨_, rfl⟩
     replace H : (num_Put.l0 k1 y164 (x1_1 / 128)) = some r := by first | (rw [hy164]; with_reducible exact H) | (have H2_ := (Option.bind_some _ _).symm.trans H; rw [hy164]; with_reducible exact H2_) | (have H2_ := (Option.bind_some _ _).symm.trans H; with_reducible exact H2_) | with_reducible exact H | (rw [hy164]; exact H) | exact H
     have Ny164 := Aside0.mk hy164
     clear hy164
     have H' := Aside0.mk H
     clear H
     go_wp2_with (first | ((with_reducible refine gate_builtin (b := .append) (xs := #[.tmp 9, .tmp 13]) rfl ?_); at_builtin; refine Kd.R_append (Kd.int .u8) (w0 := w) w.heap.size rfl (.tmp 9) (.tmp 13) 22 5 (.int .u8 0) 1 rfl Try.underlying22 info5 rfl (by decide) (by omega) u0 x0_1 (Go.bits .or .u8 ((x1_1) % 256) 128) [.int .u8 (Go.bits .or .u8 ((x1_1) % 256) 128)] (fun _ => True) (fun _ => False) rfl rfl ?aP (fun _ hk => hk.elim) ?aF ?aO ?aB ?aS ?aL ?_; (case aP => exact rfl); (case aB => exact (by repeat (first | (with_reducible first | exact HB.out | apply below_alloc | apply pw_below_drewN | apply below_drew1) | exact HB.out))); (case aF => exact (fun _ _ => trivial)); (case aO => exact (by (with_reducible repeat (first | apply Kd.R_alloc | apply Kd.R_drewN | apply Kd.R_drew)); exact HO_0.out)); (case aS => exact (below_size (by repeat (first | (with_reducible first | exact HB.out | apply below_alloc | apply pw_below_drewN | apply below_drew1) | exact HB.out)))); (case aL => have := LMc6.out; omega); intro v165 w7 ho hb hg hat; rw [← Ny164.out] at ho; have n0_ := Aside0.mk (hb); have n1_ := Aside0.mk (ho); clear HB; clear HO_0; have HB := n0_; have HO166 := n1_; clear n0_ n1_; clear ho hb hg hat))
     go_roundg k1
     case measure => have := HK1.out; omega
     case rel => exact ⟨(y164), (x1_1 / 128), (by first | rfl | (simp; done) | (simp [*]; done)), H', ⟨by have := HK1.out; omega⟩, ⟨by (with_reducible repeat (first | apply Kd.R_alloc | apply Kd.R_drewN | apply Kd.R_drew)); exact HO166.out⟩, ⟨by repeat (first | (with_reducible first | exact HB.out | apply below_alloc | apply pw_below_drewN | apply below_drew1) | exact HB.out)⟩⟩
    ·rw [if_neg c6] at H
     exact absurd H (by simp)
   ·rw [if_neg c5] at H
    have c5b0 : decide (128 ≤ x1_1) = false := decide_eq_false c5
    clear c5
    by_cases c8 : x0_1.length < 140737488355328
    ·rw [if_pos c8] at H
     have LMc8 := Aside0.mk c8
     clear c8
     obtain ⟨y167, hy167⟩ : ∃ y_ : List Int, y_ = (x0_1 ++ [(x1_1) % 256]) := ⟨_, rfl⟩
     replace H : (some y167) = some r := by first | (rw [hy167]; with_reducible exact H) | (have H2_ := (Option.bind_some _ _).symm.trans H; rw [hy167]; with_reducible exact H2_) | (have H2_ := (Option.bind_some _ _).symm.trans H; with_reducible exact H2_) | with_reducible exact H | (rw [hy167]; exact H) | exact H
     have Ny167 := Aside0.mk hy167
     clear hy167
     obtain rfl := Option.some.inj H
     go_wp2_with (first | ((with_reducible refine gate_builtin (b := .append) (xs := #[.tmp 17, .tmp 20]) rfl ?_); at_builtin; refine Kd.R_append (Kd.int .u8) (w0 := w) w.heap.size rfl (.tmp 17) (.tmp 20) 22 5 (.int .u8 0) 1 rfl Try.underlying22 info5 rfl (by decide) (by omega) u0 x0_1 ((x1_1) % 256) [.int .u8 ((x1_1) % 256)] (fun _ => True) (fun _ => False) rfl rfl ?aP (fun _ hk => hk.elim) ?aF ?aO ?aB ?aS ?aL ?_; (case aP => exact rfl); (case aB => exact (by repeat (first | (with_reducible first | exact HB.out | apply below_alloc | apply pw_below_drewN | apply below_drew1) | exact HB.out))); (case aF => exact (fun _ _ => trivial)); (case aO => exact (by (with_reducible repeat (first | apply Kd.R_alloc | apply Kd.R_drewN | apply Kd.R_drew)); exact HO_0.out)); (case aS => exact (below_size (by repeat (first | (with_reducible first | exact HB.out | apply below_alloc | apply pw_below_drewN | apply below_drew1) | exact HB.out)))); (case aL => have := LMc8.out; omega); intro v168 w9 ho hb hg hat; rw [← Ny167.out] at ho; have n0_ := Aside0.mk (hb); have n1_ := Aside0.mk (ho); clear HB; clear HO_0; have HB := n0_; have HO169 := n1_; clear n0_ n1_; clear ho hb hg hat))
     go_ret
     exact ⟨_, by first | rfl | (simp [errW_none, errW_some] <;> rfl) | (simp [*, errW_none, errW_some] <;> rfl), by (with_reducible repeat (first | apply Kd.R_alloc | apply Kd.R_drewN | apply Kd.R_drew)); exact HO169.out, by repeat (first | (with_reducible first | exact HB.out | apply below_alloc | apply pw_below_drewN | apply below_drew1) | exact HB.out)⟩
    ·rw [if_neg c8] at H
     exact absurd H (by simp)

end Go.Proofs.Ythflicjbclcbaaa.PAll
