-- Printed by this session's own program (wip/tools/pp.py): out of the translation. Lean checks it.
import Derived.Test.YthflicjbclcbaaaPAllx0
import Derived.Test.YthflicjbclcbaaaPAllx4
import Derived.Test.YthflicjbclcbaaaPAllx10
namespace Go.Proofs.Ythflicjbclcbaaa.PAll
open Go.Proofs.Ythflicjbclcbaaa.Help
open Go.RowKit Go.Proofs.YthflicjbclcbaaaW.PrintWords Go.Proofs.YthflicjbclcbaaaW.PrintLast Go.Proofs.YthflicjbclcbaaaW.PrintMore
attribute [local go_sem] run_fl_eql run_fl_neq run_fl_lss run_fl_leq run_fl_gtr run_fl_geq unary_fl_neg run_cx_eql run_cx_neq run_cx_make run_cx_real run_cx_imag run_fl_of run_fl_to run_fl_add run_fl_sub run_fl_mul run_cx_add run_cx_sub run_cx_store run_fl_store cell_put3_0 cell_put3_1 cell_put4_0 cell_put4_1 max2_int min2_int max_two min_two max_three min_three max_four min_four   -- for this text's walks alone
set_option linter.unusedVariables false
set_option linter.unusedSimpArgs false

/-! ### norialaw10_SchemaNames: function 4 -/
mutual
def norialaw10_SchemaNames.l0 : Nat → Int → Int → Int → List (S36) → Int → Option (Bool)
 | 0, _, _, _, _, _ => none
 | k + 1, x2, x7, x8, x9, x10 => if x10 < x7 then (norialaw10_SchemaNames.l1 k x2 x7 x8 x9 x10 (([] : List Int)) 0) else (if x7 < 1 then (norialaw10_SchemaNames.j2 k x2 x7 x8 x9 0 true) else (norialaw10_SchemaNames.j2 k x2 x7 x8 x9 0 (decide (x7 > 8))))
def norialaw10_SchemaNames.l1 : Nat → Int → Int → Int → List (S36) → Int → List Int → Int → Option (Bool)
 | 0, _, _, _, _, _, _, _ => none
 | k + 1, x2, x7, x8, x9, x10, x11, x12 => if x12 < x8 then (if x11.length < 140737488355328 then (norialaw10_SchemaNames.l1 k x2 x7 x8 x9 x10 (x11 ++ [113]) (wrap64 (x12 + 1))) else (none)) else (if x8 > 0 then (if 0 < (x11.length : Int) then (if x9.length < 5864062014805 then (norialaw10_SchemaNames.l0 k x2 x7 x8 (x9 ++ [(⟨strOfNums (x11.set (0 : Int).toNat ((wrap64 (97 + x10)) % 256)), wrap64 (1 + (Int.tmod x10 3))⟩ : S36)]) (wrap64 (x10 + 1))) else (none)) else (none)) else (if x9.length < 5864062014805 then (norialaw10_SchemaNames.l0 k x2 x7 x8 (x9 ++ [(⟨strOfNums x11, wrap64 (1 + (Int.tmod x10 3))⟩ : S36)]) (wrap64 (x10 + 1))) else (none)))
def norialaw10_SchemaNames.j3 : Nat → Int → Int → List (S36) → Int → Option (Bool)
 | 0, _, _, _, _ => none
 | k + 1, x2, x7, x9, x13 => (schema_Check.f k x9).bind fun t330 => (if t330 = x13 then (if x13 = 0 then (if x7 = 0 then (none) else (if 0 ≤ (Int.tmod (wrap64 (x2)) x7) then (if (Int.tmod (wrap64 (x2)) x7) < (x9.length : Int) then ((schema_Find.f k x9 ((rd_T36 x9 (Int.tmod (wrap64 (x2)) x7)).f0)).bind fun bt332 => (if bt332.2 = true then (if bt332.1 = (Int.tmod (wrap64 (x2)) x7) then (if x7 = 1 then (some (bt332.1 == (Int.tmod (wrap64 (x2)) x7))) else (if 0 ≤ (Int.tmod (wrap64 ((Int.tmod (wrap64 (x2)) x7) + 1)) x7) then (if (Int.tmod (wrap64 ((Int.tmod (wrap64 (x2)) x7) + 1)) x7) < (x9.length : Int) then ((schema_Check.f k (x9.set ((Int.tmod (wrap64 ((Int.tmod (wrap64 (x2)) x7) + 1)) x7) : Int).toNat (⟨(rd_T36 x9 (Int.tmod (wrap64 (x2)) x7)).f0, (rd_T36 x9 (Int.tmod (wrap64 ((Int.tmod (wrap64 (x2)) x7) + 1)) x7)).f1⟩ : S36))).bind fun t336 => (some (t336 == 7))) else (none)) else (none))) else (some (bt332.1 == (Int.tmod (wrap64 (x2)) x7)))) else (none))) else (none)) else (none))) else (some true)) else (none))
def norialaw10_SchemaNames.j2 : Nat → Int → Int → Int → List (S36) → Int → Bool → Option (Bool)
 | 0, _, _, _, _, _, _ => none
 | k + 1, x2, x7, x8, x9, x13, x55 => if x55 = true then (norialaw10_SchemaNames.j3 k x2 x7 x9 4) else (if x8 < 1 then (norialaw10_SchemaNames.j3 k x2 x7 x9 3) else (if x8 > 8 then (norialaw10_SchemaNames.j3 k x2 x7 x9 3) else (norialaw10_SchemaNames.j3 k x2 x7 x9 x13)))
end
def norialaw10_SchemaNames.f (k : Nat) (a0 : Int) (a1 : Int) (a2 : Int) : Option (Bool) := (norialaw10_known.f k).bind fun t316 => (if t316 = true then (norialaw10_SchemaNames.l0 k a2 (wrap64 (Int.tmod a0 11)) (wrap64 (Int.tmod a1 11)) ([] : List (S36)) 0) else (none))
theorem norialaw10_SchemaNames.mono_l : ∀ k, (∀ y0 y1 y2 y3 y4, LeO (norialaw10_SchemaNames.l0 k y0 y1 y2 y3 y4) (norialaw10_SchemaNames.l0 (k + 1) y0 y1 y2 y3 y4)) ∧ (∀ y0 y1 y2 y3 y4 y5 y6, LeO (norialaw10_SchemaNames.l1 k y0 y1 y2 y3 y4 y5 y6) (norialaw10_SchemaNames.l1 (k + 1) y0 y1 y2 y3 y4 y5 y6)) ∧ (∀ y0 y1 y2 y3, LeO (norialaw10_SchemaNames.j3 k y0 y1 y2 y3) (norialaw10_SchemaNames.j3 (k + 1) y0 y1 y2 y3)) ∧ (∀ y0 y1 y2 y3 y4 y5, LeO (norialaw10_SchemaNames.j2 k y0 y1 y2 y3 y4 y5) (norialaw10_SchemaNames.j2 (k + 1) y0 y1 y2 y3 y4 y5))
 | 0 => ⟨fun _ _ _ _ _ r h => by simp [norialaw10_SchemaNames.l0] at h, fun _ _ _ _ _ _ _ r h => by simp [norialaw10_SchemaNames.l1] at h, fun _ _ _ _ r h => by simp [norialaw10_SchemaNames.j3] at h, fun _ _ _ _ _ _ r h => by simp [norialaw10_SchemaNames.j2] at h⟩
 | k + 1 => by
  obtain ⟨ih0, ih1, ih2, ih3⟩ := norialaw10_SchemaNames.mono_l k
  refine ⟨?_, ?_, ?_, ?_⟩
  ·intro y0 y1 y2 y3 y4
   unfold norialaw10_SchemaNames.l0
   repeat' first
   | (with_reducible exact ih0 _ _ _ _ _)
   | (with_reducible exact ih1 _ _ _ _ _ _ _)
   | (with_reducible exact ih2 _ _ _ _)
   | (with_reducible exact ih3 _ _ _ _ _ _)
   | (with_reducible exact norialaw10_known.mono _)
   | (with_reducible exact schema_Check.mono _ _)
   | (with_reducible exact schema_Find.mono _ _ _)
   | (with_reducible exact LeO.refl _)
   | (with_reducible exact LeO.none _)
   | (with_reducible refine LeO.ite ?_ ?_)
   | (with_reducible refine LeO.bind ?_ (fun _ => ?_))
   | exact ih0 _ _ _ _ _
   | exact ih1 _ _ _ _ _ _ _
   | exact ih2 _ _ _ _
   | exact ih3 _ _ _ _ _ _
   | exact norialaw10_known.mono _
   | exact schema_Check.mono _ _
   | exact schema_Find.mono _ _ _
   | exact LeO.none _
   | refine LeO.ite ?_ ?_
   | refine LeO.bind ?_ (fun _ => ?_)
  ·intro y0 y1 y2 y3 y4 y5 y6
   unfold norialaw10_SchemaNames.l1
   repeat' first
   | (with_reducible exact ih0 _ _ _ _ _)
   | (with_reducible exact ih1 _ _ _ _ _ _ _)
   | (with_reducible exact ih2 _ _ _ _)
   | (with_reducible exact ih3 _ _ _ _ _ _)
   | (with_reducible exact norialaw10_known.mono _)
   | (with_reducible exact schema_Check.mono _ _)
   | (with_reducible exact schema_Find.mono _ _ _)
   | (with_reducible exact LeO.refl _)
   | (with_reducible exact LeO.none _)
   | (with_reducible refine LeO.ite ?_ ?_)
   | (with_reducible refine LeO.bind ?_ (fun _ => ?_))
   | exact ih0 _ _ _ _ _
   | exact ih1 _ _ _ _ _ _ _
   | exact ih2 _ _ _ _
   | exact ih3 _ _ _ _ _ _
   | exact norialaw10_known.mono _
   | exact schema_Check.mono _ _
   | exact schema_Find.mono _ _ _
   | exact LeO.none _
   | refine LeO.ite ?_ ?_
   | refine LeO.bind ?_ (fun _ => ?_)
  ·intro y0 y1 y2 y3
   unfold norialaw10_SchemaNames.j3
   repeat' first
   | (with_reducible exact ih0 _ _ _ _ _)
   | (with_reducible exact ih1 _ _ _ _ _ _ _)
   | (with_reducible exact ih2 _ _ _ _)
   | (with_reducible exact ih3 _ _ _ _ _ _)
   | (with_reducible exact norialaw10_known.mono _)
   | (with_reducible exact schema_Check.mono _ _)
   | (with_reducible exact schema_Find.mono _ _ _)
   | (with_reducible exact LeO.refl _)
   | (with_reducible exact LeO.none _)
   | (with_reducible refine LeO.ite ?_ ?_)
   | (with_reducible refine LeO.bind ?_ (fun _ => ?_))
   | exact ih0 _ _ _ _ _
   | exact ih1 _ _ _ _ _ _ _
   | exact ih2 _ _ _ _
   | exact ih3 _ _ _ _ _ _
   | exact norialaw10_known.mono _
   | exact schema_Check.mono _ _
   | exact schema_Find.mono _ _ _
   | exact LeO.none _
   | refine LeO.ite ?_ ?_
   | refine LeO.bind ?_ (fun _ => ?_)
  ·intro y0 y1 y2 y3 y4 y5
   unfold norialaw10_SchemaNames.j2
   repeat' first
   | (with_reducible exact ih0 _ _ _ _ _)
   | (with_reducible exact ih1 _ _ _ _ _ _ _)
   | (with_reducible exact ih2 _ _ _ _)
   | (with_reducible exact ih3 _ _ _ _ _ _)
   | (with_reducible exact norialaw10_known.mono _)
   | (with_reducible exact schema_Check.mono _ _)
   | (with_reducible exact schema_Find.mono _ _ _)
   | (with_reducible exact LeO.refl _)
   | (with_reducible exact LeO.none _)
   | (with_reducible refine LeO.ite ?_ ?_)
   | (with_reducible refine LeO.bind ?_ (fun _ => ?_))
   | exact ih0 _ _ _ _ _
   | exact ih1 _ _ _ _ _ _ _
   | exact ih2 _ _ _ _
   | exact ih3 _ _ _ _ _ _
   | exact norialaw10_known.mono _
   | exact schema_Check.mono _ _
   | exact schema_Find.mono _ _ _
   | exact LeO.none _
   | refine LeO.ite ?_ ?_
   | refine LeO.bind ?_ (fun _ => ?_)
theorem norialaw10_SchemaNames.mono : ∀ a0 a1 a2 k, LeO (norialaw10_SchemaNames.f k a0 a1 a2) (norialaw10_SchemaNames.f (k + 1) a0 a1 a2) := by
 intro a0 a1 a2 k
 obtain ⟨ih0, ih1, ih2, ih3⟩ := norialaw10_SchemaNames.mono_l k
 unfold norialaw10_SchemaNames.f
 repeat' first
   | (with_reducible exact ih0 _ _ _ _ _)
   | (with_reducible exact ih1 _ _ _ _ _ _ _)
   | (with_reducible exact ih2 _ _ _ _)
   | (with_reducible exact ih3 _ _ _ _ _ _)
   | (with_reducible exact norialaw10_known.mono _)
   | (with_reducible exact schema_Check.mono _ _)
   | (with_reducible exact schema_Find.mono _ _ _)
   | (with_reducible exact LeO.refl _)
   | (with_reducible exact LeO.none _)
   | (with_reducible refine LeO.ite ?_ ?_)
   | (with_reducible refine LeO.bind ?_ (fun _ => ?_))
   | exact ih0 _ _ _ _ _
   | exact ih1 _ _ _ _ _ _ _
   | exact ih2 _ _ _ _
   | exact ih3 _ _ _ _ _ _
   | exact norialaw10_known.mono _
   | exact schema_Check.mono _ _
   | exact schema_Find.mono _ _ _
   | exact LeO.none _
   | refine LeO.ite ?_ ?_
   | refine LeO.bind ?_ (fun _ => ?_)
def norialaw10_SchemaNames.T29 : Bool × List (List Nat × List Nat) := (true, [([], []), ([], []), ([1], [1]), ([], []), ([2, 3], [2, 3]), ([], []), ([], []), ([5, 6], [5, 6]), ([7], [7]), ([8], [8]), ([0, 4, 0, 1, 2, 3, 4, 5, 6, 7, 8, 9], [0, 4]), ([10, 0, 1, 2, 3, 4, 5, 6, 7, 8, 9], [10]), ([11, 9, 0, 1, 2, 3, 4, 5, 6, 7, 8, 9], [9, 11])])
def norialaw10_SchemaNames.B29 : List Nat := [0, 0, 2, 0, 14, 0, 0, 96, 224, 480, 1023, 2047, 4095]
theorem norialaw10_SchemaNames.tab29 : rtab .any (opsOf Try.f4 29) = norialaw10_SchemaNames.T29 := by kernel_rfl
theorem norialaw10_SchemaNames.bits29 : waitsOk norialaw10_SchemaNames.T29.2 norialaw10_SchemaNames.B29 = true := by kernel_rfl
set_option maxHeartbeats 8000000 in
set_option maxRecDepth 100000 in
theorem norialaw10_SchemaNames.calls (k : Nat) (a0 : Int) (a1 : Int) (a2 : Int) (r : Bool) (w : World) (h : norialaw10_SchemaNames.f k a0 a1 a2 = some r) :
  Calls Try.prog 4 #[.int .u8 a0, .int .u8 a1, .int .u8 a2] w fun e w' => e = .returned (.bool r) ∧ Below w.heap.size w w' := by
 have hu36 := Try.underlying36
 have HB := Aside0.mk (Below.refl w.heap.size w)
 have H : ((norialaw10_known.f k).bind fun t316 => (if t316 = true then (norialaw10_SchemaNames.l0 k a2 (wrap64 (Int.tmod a0 11)) (wrap64 (Int.tmod a1 11)) ([] : List (S36)) 0) else (none))) = some r := h
 clear h
 replace H := Option.bind_eq_some_iff.mp H
 obtain ⟨t316, A40, H⟩ := H
 replace H : (if t316 = true then (norialaw10_SchemaNames.l0 k a2 (wrap64 (Int.tmod a0 11)) (wrap64 (Int.tmod a1 11)) ([] : List (S36)) 0) else (none)) = some r := H
 have A4 := Aside0.mk A40
 clear A40
 by_cases c5 : t316 = true
 ·subst c5
  have H1 : (norialaw10_SchemaNames.l0 k a2 (wrap64 (Int.tmod a0 11)) (wrap64 (Int.tmod a1 11)) ([] : List (S36)) 0) = some r := by rw [if_pos rfl] at H; exact H
  clear H
  have H := H1
  clear H1
  have H' := Aside0.mk H
  clear H
  go_enter Try.func4, Try.ntmps4
  go_wp2_with (first | ((with_reducible refine gate_callee (f := 5) rfl ?_); refine goesL_ (some 17) rfl rfl Try.func5 (by kernel_rfl) rfl #[] rfl (by (try simp only [List.map_toArray, List.map_cons, List.map_nil]); first | done | rfl | (simp only [List.length_drop, List.length_take]; rfl)) ?_; (with_reducible refine (norialaw10_known.calls k  true _ A4.out).mono ?_); rintro e w6 ⟨rfl, hb⟩; refine ⟨_, rfl, ?_⟩; have n0_ := Aside0.mk (below_step (by repeat (first | (with_reducible first | exact HB.out | apply below_alloc | apply pw_below_drewN | apply below_drew1) | exact HB.out)) hb); clear HB; have HB := n0_; clear n0_; (try clear hb); (try clear hb2); (try clear hk); (try clear hi)))
  go_loopg [9, 10] k (fun kq v9 v10 w' => ∃ (x9_1 : List (S36)) (x10_1 : Int), v10 = .int .i64 x10_1 ∧ Aside0 (norialaw10_SchemaNames.l0 kq a2 (wrap64 (Int.tmod a0 11)) (wrap64 (Int.tmod a1 11)) x9_1 x10_1 = some r) ∧ Aside0 (kq ≤ k) ∧ Aside0 (Kd.R k36 36 w' w.heap.size (fun _ => True) v9 x9_1) ∧ Aside0 (Below w.heap.size w w'))
  case atStart => exact ⟨(([] : List (S36))), (0), (by first | rfl | (simp; done) | (simp [*]; done)), H', ⟨Nat.le_refl _⟩, ⟨by first | exact Kd.R_nil _ _ _ _ _ | exact Kd.N_nil _ _ _ _ _ | exact Kd.V_nil _ _ _ _ _ | exact Kd.Q_nil _ _ _ _ _ | exact Kd.S_nil _ _ _ _ _⟩, ⟨by repeat (first | (with_reducible first | exact HB.out | apply below_alloc | apply pw_below_drewN | apply below_drew1) | exact HB.out)⟩⟩
  case round =>
   clear H'
   try clear p2
   try clear c4
   try clear c5
   try clear p6
   obtain ⟨x9_1, x10_1, rfl, HA, HK1, HO_9, HB⟩ := hrel
   cases gk with
   | zero => exact absurd HA.out (by simp [norialaw10_SchemaNames.l0])
   | succ k1 =>
    have H := HA.out
    clear HA
    simp only [norialaw10_SchemaNames.l0] at H
    by_cases c7 : x10_1 < (wrap64 (Int.tmod a0 11))
    ·rw [if_pos c7] at H
     have c7b0 : decide (x10_1 < (wrap64 (Int.tmod a0 11))) = true := decide_eq_true c7
     clear c7
     obtain ⟨y317, hy317⟩ : ∃ y_ : List Int, y_ = (([] : List Int)) := ⟨_, rfl⟩
     replace H : (norialaw10_SchemaNames.l1 k1 a2 (wrap64 (Int.tmod a0 11)) (wrap64 (Int.tmod a1 11)) x9_1 x10_1 y317 0) = some r := by first | (rw [hy317]; with_reducible exact H) | (have H2_ := (Option.bind_some _ _).symm.trans H; rw [hy317]; with_reducible exact H2_) | (have H2_ := (Option.bind_some _ _).symm.trans H; with_reducible exact H2_) | with_reducible exact H | (rw [hy317]; exact H) | exact H
     have Ny317 := Aside0.mk hy317
     clear hy317
     have H' := Aside0.mk H
     clear H
     go_wp2_with (first | ((with_reducible refine gate_dst (N := 30) rfl ?_); refine Kd.R_lit (Kd.int .u8) _ 5 ?hg (N := 30) ?hd (xs := ([] : List Int)) (inner := []) (ok := fun _ => True) (okp := fun _ => True) ?hr ?hp (fun _ hk => hk) trivial (Below.refl _ _) (Nat.le_refl _) (by simp) ?_; (case hd => rfl); (case hg => rfl); (case hr => first | (go_simp; done) | (go_simp; rfl)); (case hp => exact (Reps.none _ _)); intro v318 w8 ho9 hb hg_ hnew_; clear hg_ hnew_; (first | rw [← Ny317.out] at ho9 | (simp only [Int.reduceToNat] at ho9; rw [← Ny317.out] at ho9)); have n0_ := Aside0.mk (Kd.R_below (by (with_reducible repeat (first | apply Kd.R_alloc | apply Kd.R_drewN | apply Kd.R_drew)); exact HO_9.out) hb); have n1_ := Aside0.mk (Kd.R_lower ho9 (below_size (by repeat (first | (with_reducible first | exact HB.out | apply below_alloc | apply pw_below_drewN | apply below_drew1) | exact HB.out)))); have n2_ := Aside0.mk (below_step (by repeat (first | (with_reducible first | exact HB.out | apply below_alloc | apply pw_below_drewN | apply below_drew1) | exact HB.out)) hb); clear HO_9; clear HB; have HO_9 := n0_; have HO319 := n1_; have HB := n2_; clear n0_ n1_ n2_; clear hb ho9))
     go_loopg [11, 12] k1 (fun kq v11 v12 w' => ∃ (x11_2 : List Int) (x12_2 : Int), v12 = .int .i64 x12_2 ∧ Aside0 (norialaw10_SchemaNames.l1 kq a2 (wrap64 (Int.tmod a0 11)) (wrap64 (Int.tmod a1 11)) x9_1 x10_1 x11_2 x12_2 = some r) ∧ Aside0 (kq ≤ k1) ∧ Aside0 (Kd.R k36 36 w' w.heap.size (fun _ => True) u9 x9_1) ∧ Aside0 (Kd.R (Kd.int .u8) 5 w' w.heap.size (fun _ => True) v11 x11_2) ∧ Aside0 (Below w.heap.size w w'))
     case atStart => exact ⟨(y317), (0), (by first | rfl | (simp; done) | (simp [*]; done)), H', ⟨Nat.le_refl _⟩, ⟨by (with_reducible repeat (first | apply Kd.R_alloc | apply Kd.R_drewN | apply Kd.R_drew)); exact HO_9.out⟩, ⟨by (with_reducible repeat (first | apply Kd.R_alloc | apply Kd.R_drewN | apply Kd.R_drew)); exact HO319.out⟩, ⟨by repeat (first | (with_reducible first | exact HB.out | apply below_alloc | apply pw_below_drewN | apply below_drew1) | exact HB.out)⟩⟩
     case round =>
      clear H'
      try clear p2
      try clear c4
      try clear c5
      try clear p6
      try clear c7
      try clear c7b0
      try clear p2
      try clear p6
      obtain ⟨x11_2, x12_2, rfl, HA, HK2, HO_9, HO_11, HB⟩ := hrel
      cases gk with
      | zero => exact absurd HA.out (by simp [norialaw10_SchemaNames.l1])
      | succ k2 =>
       have H := HA.out
       clear HA
       simp only [norialaw10_SchemaNames.l1] at H
       by_cases c10 : x12_2 < (wrap64 (Int.tmod a1 11))
       ·rw [if_pos c10] at H
        have c10b0 : decide (x12_2 < (wrap64 (Int.tmod a1 11))) = true := decide_eq_true c10
        clear c10
        by_cases c11 : x11_2.length < 140737488355328
        ·rw [if_pos c11] at H
         have LMc11 := Aside0.mk c11
         clear c11
         obtain ⟨y320, hy320⟩ : ∃ y_ : List Int, y_ = (x11_2 ++ [113]) := ⟨_, rfl⟩
         replace H : (norialaw10_SchemaNames.l1 k2 a2 (wrap64 (Int.tmod a0 11)) (wrap64 (Int.tmod a1 11)) x9_1 x10_1 y320 (wrap64 (x12_2 + 1))) = some r := by first | (rw [hy320]; with_reducible exact H) | (have H2_ := (Option.bind_some _ _).symm.trans H; rw [hy320]; with_reducible exact H2_) | (have H2_ := (Option.bind_some _ _).symm.trans H; with_reducible exact H2_) | with_reducible exact H | (rw [hy320]; exact H) | exact H
         have Ny320 := Aside0.mk hy320
         clear hy320
         have H' := Aside0.mk H
         clear H
         go_wp2_with (first | ((with_reducible refine gate_builtin (b := .append) (xs := #[.tmp 36, .tmp 37]) rfl ?_); at_builtin; refine Kd.R_append (Kd.int .u8) (w0 := w) w.heap.size rfl (.tmp 36) (.tmp 37) 22 5 (.int .u8 0) 1 rfl Try.underlying22 info5 rfl (by decide) (by omega) u11 x11_2 113 [.int .u8 113] (fun _ => True) (fun _ => False) rfl rfl ?aP (fun _ hk => hk.elim) ?aF ?aO ?aB ?aS ?aL ?_; (case aP => exact rfl); (case aB => exact (by repeat (first | (with_reducible first | exact HB.out | apply below_alloc | apply pw_below_drewN | apply below_drew1) | exact HB.out))); (case aF => exact (fun _ _ => trivial)); (case aO => exact (by (with_reducible repeat (first | apply Kd.R_alloc | apply Kd.R_drewN | apply Kd.R_drew)); exact HO_11.out)); (case aS => exact (below_size (by repeat (first | (with_reducible first | exact HB.out | apply below_alloc | apply pw_below_drewN | apply below_drew1) | exact HB.out)))); (case aL => have := LMc11.out; omega); intro v321 w12 ho hb hg hat; rw [← Ny320.out] at ho; have n0_ := Aside0.mk (Kd.R_over' (by (with_reducible repeat (first | apply Kd.R_alloc | apply Kd.R_drewN | apply Kd.R_drew)); exact HO_9.out) (Kd.R_typed (by (with_reducible repeat (first | apply Kd.R_alloc | apply Kd.R_drewN | apply Kd.R_drew)); exact HO_11.out)) (by decide) hg); have n1_ := Aside0.mk (hb); have n2_ := Aside0.mk (ho); clear HO_9; clear HB; clear HO_11; have HO_9 := n0_; have HB := n1_; have HO322 := n2_; clear n0_ n1_ n2_; clear ho hb hg hat))
         go_roundg k2
         case measure => have := HK1.out; have := HK2.out; omega
         case rel => exact ⟨(y320), (wrap64 (x12_2 + 1)), (by first | rfl | (simp; done) | (simp [*]; done)), H', ⟨by have := HK1.out; have := HK2.out; omega⟩, ⟨by (with_reducible repeat (first | apply Kd.R_alloc | apply Kd.R_drewN | apply Kd.R_drew)); exact HO_9.out⟩, ⟨by (with_reducible repeat (first | apply Kd.R_alloc | apply Kd.R_drewN | apply Kd.R_drew)); exact HO322.out⟩, ⟨by repeat (first | (with_reducible first | exact HB.out | apply below_alloc | apply pw_below_drewN | apply below_drew1) | exact HB.out)⟩⟩
        ·rw [if_neg c11] at H
         exact absurd H (by simp)
       ·rw [if_neg c10] at H
        have c10b0 : decide (x12_2 < (wrap64 (Int.tmod a1 11))) = false := decide_eq_false c10
        clear c10
        by_cases c13 : (wrap64 (Int.tmod a1 11)) > 0
        ·rw [if_pos c13] at H
         have c13b0 : decide (0 < (wrap64 (Int.tmod a1 11))) = true := decide_eq_true c13
         clear c13
         by_cases c14 : 0 < (x11_2.length : Int)
         ·rw [if_pos c14] at H
          have c14b0 : decide (0 < (x11_2.length : Int)) = true := decide_eq_true c14
          have c14b1 : decide (0 < x11_2.length) = true := decide_eq_true (by omega)
          clear c14
          obtain ⟨y323, hy323⟩ : ∃ y_ : List Int, y_ = (x11_2.set (0 : Int).toNat ((wrap64 (97 + x10_1)) % 256)) := ⟨_, rfl⟩
          replace H : (if x9_1.length < 5864062014805 then (norialaw10_SchemaNames.l0 k2 a2 (wrap64 (Int.tmod a0 11)) (wrap64 (Int.tmod a1 11)) (x9_1 ++ [(⟨strOfNums y323, wrap64 (1 + (Int.tmod x10_1 3))⟩ : S36)]) (wrap64 (x10_1 + 1))) else (none)) = some r := by first | (rw [hy323]; with_reducible exact H) | (have H2_ := (Option.bind_some _ _).symm.trans H; rw [hy323]; with_reducible exact H2_) | (have H2_ := (Option.bind_some _ _).symm.trans H; with_reducible exact H2_) | with_reducible exact H | (rw [hy323]; exact H) | exact H
          have Ny323 := Aside0.mk hy323
          clear hy323
          by_cases c16 : x9_1.length < 5864062014805
          ·rw [if_pos c16] at H
           have LMc16 := Aside0.mk c16
           clear c16
           obtain ⟨y324, hy324⟩ : ∃ y_ : List (S36), y_ = (x9_1 ++ [(⟨strOfNums y323, wrap64 (1 + (Int.tmod x10_1 3))⟩ : S36)]) := ⟨_, rfl⟩
           replace H : (norialaw10_SchemaNames.l0 k2 a2 (wrap64 (Int.tmod a0 11)) (wrap64 (Int.tmod a1 11)) y324 (wrap64 (x10_1 + 1))) = some r := by first | (rw [hy324]; with_reducible exact H) | (have H2_ := (Option.bind_some _ _).symm.trans H; rw [hy324]; with_reducible exact H2_) | (have H2_ := (Option.bind_some _ _).symm.trans H; with_reducible exact H2_) | with_reducible exact H | (rw [hy324]; exact H) | exact H
           have Ny324 := Aside0.mk hy324
           clear hy324
           have H' := Aside0.mk H
           clear H
           have p15 : 0 ≤ (0 : Int) := (by omega)
           have q15 : (0 : Int) < ((x11_2.length : Int) : Int) := of_decide_eq_true (by first | (with_reducible assumption) | assumption)
           have qi15 : (0 < x11_2.length) = True := eq_true (by omega)
           obtain ⟨go15, co15, eo15, gb15, gl15, cl15, HG15⟩ := Kd.R_form HO_11.out (by omega)
           (first | cases eo15 | (injection eo15 with ea_ en_ ec_; (first | subst ea_ | (injection ea_ with ea_; subst ea_)); subst ec_; clear en_))
           have GB15 := Aside0.mk gb15
           have GG15 := Aside0.mk HG15
           clear gb15 gl15 HG15
           obtain ⟨hx15_0, hf15_0⟩ := Kd.R_celln 0 HO_11.out (0 : Int) p15 q15
           (try rw [show ((0 : Int)).toNat = 0 from rfl] at hx15_0)
           (try simp only [Nat.reduceMul, Nat.zero_mul, Nat.zero_add, Nat.reduceAdd] at hx15_0)
           (try rw [show ((0 : Int)).toNat = 0 from rfl] at hf15_0)
           (try simp only [Nat.reduceMul, Nat.zero_mul, Nat.zero_add, Nat.reduceAdd] at hf15_0)
           replace p15 := eq_true p15
           replace q15 := eq_true q15
           have HP17 := Kd.R_putg HO_11.out (0 : Int) ((wrap64 (97 + x10_1)) % 256)
           go_wp2_with (first | ((with_reducible refine gate_store (t := 5) (p := 45) rfl ?_); refine store_event (t := 5) (p := 45) (v := ?vo_w18) (w1 := (wr.setCell ⟨go15, (0 : Int).toNat, none⟩ (.int .u8 ((wrap64 (97 + x10_1)) % 256)))) ?hg ?ho ?hn ?hr ?_; (case ho => rfl); (case hg => rfl); (case hn => rfl); (case hr => first | (go_simp; done) | (go_simp; rfl)); intro w18 hw; have hg : wr.grownBy w18 (some go15) := (by rw [hw]; exact HP17.2); have hp_ : Kd.R (Kd.int .u8) 5 w18 w.heap.size (fun _ => True) (.slice (some ⟨go15, 0, none⟩) x11_2.length co15) y323 := (by rw [hw, Ny323.out]; exact HP17.1); clear HP17; have n0_ := Aside0.mk (Kd.R_over' (v := (.slice (some ⟨go15, 0, none⟩) x11_2.length co15)) (by (with_reducible repeat (first | apply Kd.R_alloc | apply Kd.R_drewN | apply Kd.R_drew)); exact HO_9.out) (Kd.R_typed HO_11.out) (by decide) hg); have n1_ := Aside0.mk (hp_); have n2_ := Aside0.mk ((by rw [hw]; exact below_set (HB.out) GB15.out : Below w.heap.size w w18)); clear HO_9; clear HO_11; clear HB; have HO_9 := n0_; have HO_11 := n1_; have HB := n2_; clear n0_ n1_ n2_; clear hg hw hp_; have hcv19 := own_string (P := Try.prog) Try.underlying22 Try.underlying5 Try.underlying9 (Kd.own_of_R HO_11.out); have hcv19d := fun m_ => own_string (P := Try.prog) Try.underlying22 Try.underlying5 Try.underlying9 (Kd.own_of_R (Kd.R_drewN HO_11.out m_))) | ((with_reducible refine gate_builtin (b := .append) (xs := #[.tmp 46, .tmp 53]) rfl ?_); at_builtin; refine Kd.R_append k36 (w0 := w) w.heap.size rfl (.tmp 46) (.tmp 53) 25 36 (.agg #[(.string ⟨#[]⟩), (.int .i64 0)]) 24 rfl Try.underlying25 info36 rfl (by decide) (by omega) u9 x9_1 (⟨strOfNums y323, wrap64 (1 + (Int.tmod x10_1 3))⟩ : S36) [.string (strOfNums y323), .int .i64 (wrap64 (1 + (Int.tmod x10_1 3)))] (fun _ => True) (fun _ => False) rfl rfl ?aP (fun _ hk => hk.elim) ?aF ?aO ?aB ?aS ?aL ?_; (case aP => exact k36_mkM _ _ _ (⟨strOfNums y323, wrap64 (1 + (Int.tmod x10_1 3))⟩ : S36)); (case aB => exact (by repeat (first | (with_reducible first | exact HB.out | apply below_alloc | apply pw_below_drewN | apply below_drew1) | exact HB.out))); (case aF => exact (fun _ _ => trivial)); (case aO => exact (by (with_reducible repeat (first | apply Kd.R_alloc | apply Kd.R_drewN | apply Kd.R_drew)); exact HO_9.out)); (case aS => exact (below_size (by repeat (first | (with_reducible first | exact HB.out | apply below_alloc | apply pw_below_drewN | apply below_drew1) | exact HB.out)))); (case aL => have := LMc16.out; omega); intro v325 w20 ho hb hg hat; rw [← Ny324.out] at ho; have n0_ := Aside0.mk (Kd.R_over' (by (with_reducible repeat (first | apply Kd.R_alloc | apply Kd.R_drewN | apply Kd.R_drew)); exact HO_11.out) (Kd.R_typed (by (with_reducible repeat (first | apply Kd.R_alloc | apply Kd.R_drewN | apply Kd.R_drew)); exact HO_9.out)) (by decide) hg); have n1_ := Aside0.mk (hb); have n2_ := Aside0.mk (ho); clear HO_11; clear HB; clear HO_9; have HO_11 := n0_; have HB := n1_; have HO326 := n2_; clear n0_ n1_ n2_; clear ho hb hg hat))
           go_roundg k2
           case measure => have := HK1.out; have := HK2.out; omega
           case rel => exact ⟨(y324), (wrap64 (x10_1 + 1)), (by first | rfl | (simp; done) | (simp [*]; done)), H', ⟨by have := HK1.out; have := HK2.out; omega⟩, ⟨by (with_reducible repeat (first | apply Kd.R_alloc | apply Kd.R_drewN | apply Kd.R_drew)); exact HO326.out⟩, ⟨by repeat (first | (with_reducible first | exact HB.out | apply below_alloc | apply pw_below_drewN | apply below_drew1) | exact HB.out)⟩⟩
          ·rw [if_neg c16] at H
           exact absurd H (by simp)
         ·rw [if_neg c14] at H
          exact absurd H (by simp)
        ·rw [if_neg c13] at H
         have c13b0 : decide (0 < (wrap64 (Int.tmod a1 11))) = false := decide_eq_false c13
         clear c13
         by_cases c21 : x9_1.length < 5864062014805
         ·rw [if_pos c21] at H
          have LMc21 := Aside0.mk c21
          clear c21
          obtain ⟨y327, hy327⟩ : ∃ y_ : List (S36), y_ = (x9_1 ++ [(⟨strOfNums x11_2, wrap64 (1 + (Int.tmod x10_1 3))⟩ : S36)]) := ⟨_, rfl⟩
          replace H : (norialaw10_SchemaNames.l0 k2 a2 (wrap64 (Int.tmod a0 11)) (wrap64 (Int.tmod a1 11)) y327 (wrap64 (x10_1 + 1))) = some r := by first | (rw [hy327]; with_reducible exact H) | (have H2_ := (Option.bind_some _ _).symm.trans H; rw [hy327]; with_reducible exact H2_) | (have H2_ := (Option.bind_some _ _).symm.trans H; with_reducible exact H2_) | with_reducible exact H | (rw [hy327]; exact H) | exact H
          have Ny327 := Aside0.mk hy327
          clear hy327
          have H' := Aside0.mk H
          clear H
          have hcv22 := own_string (P := Try.prog) Try.underlying22 Try.underlying5 Try.underlying9 (Kd.own_of_R HO_11.out)
          have hcv22d := fun m_ => own_string (P := Try.prog) Try.underlying22 Try.underlying5 Try.underlying9 (Kd.own_of_R (Kd.R_drewN HO_11.out m_))
          go_wp2_with (first | ((with_reducible refine gate_builtin (b := .append) (xs := #[.tmp 46, .tmp 53]) rfl ?_); at_builtin; refine Kd.R_append k36 (w0 := w) w.heap.size rfl (.tmp 46) (.tmp 53) 25 36 (.agg #[(.string ⟨#[]⟩), (.int .i64 0)]) 24 rfl Try.underlying25 info36 rfl (by decide) (by omega) u9 x9_1 (⟨strOfNums x11_2, wrap64 (1 + (Int.tmod x10_1 3))⟩ : S36) [.string (strOfNums x11_2), .int .i64 (wrap64 (1 + (Int.tmod x10_1 3)))] (fun _ => True) (fun _ => False) rfl rfl ?aP (fun _ hk => hk.elim) ?aF ?aO ?aB ?aS ?aL ?_; (case aP => exact k36_mkM _ _ _ (⟨strOfNums x11_2, wrap64 (1 + (Int.tmod x10_1 3))⟩ : S36)); (case aB => exact (by repeat (first | (with_reducible first | exact HB.out | apply below_alloc | apply pw_below_drewN | apply below_drew1) | exact HB.out))); (case aF => exact (fun _ _ => trivial)); (case aO => exact (by (with_reducible repeat (first | apply Kd.R_alloc | apply Kd.R_drewN | apply Kd.R_drew)); exact HO_9.out)); (case aS => exact (below_size (by repeat (first | (with_reducible first | exact HB.out | apply below_alloc | apply pw_below_drewN | apply below_drew1) | exact HB.out)))); (case aL => have := LMc21.out; omega); intro v328 w23 ho hb hg hat; rw [← Ny327.out] at ho; have n0_ := Aside0.mk (Kd.R_over' (by (with_reducible repeat (first | apply Kd.R_alloc | apply Kd.R_drewN | apply Kd.R_drew)); exact HO_11.out) (Kd.R_typed (by (with_reducible repeat (first | apply Kd.R_alloc | apply Kd.R_drewN | apply Kd.R_drew)); exact HO_9.out)) (by decide) hg); have n1_ := Aside0.mk (hb); have n2_ := Aside0.mk (ho); clear HO_11; clear HB; clear HO_9; have HO_11 := n0_; have HB := n1_; have HO329 := n2_; clear n0_ n1_ n2_; clear ho hb hg hat))
          go_roundg k2
          case measure => have := HK1.out; have := HK2.out; omega
          case rel => exact ⟨(y327), (wrap64 (x10_1 + 1)), (by first | rfl | (simp; done) | (simp [*]; done)), H', ⟨by have := HK1.out; have := HK2.out; omega⟩, ⟨by (with_reducible repeat (first | apply Kd.R_alloc | apply Kd.R_drewN | apply Kd.R_drew)); exact HO329.out⟩, ⟨by repeat (first | (with_reducible first | exact HB.out | apply below_alloc | apply pw_below_drewN | apply below_drew1) | exact HB.out)⟩⟩
         ·rw [if_neg c21] at H
          exact absurd H (by simp)
    ·rw [if_neg c7] at H
     have c7b0 : decide (x10_1 < (wrap64 (Int.tmod a0 11))) = false := decide_eq_false c7
     clear c7
     have HC24 := Aside0.mk H
     clear H
     go_upto_block 4 with (fail)
     go_cut [13] (fun v13 wc => ∃ (kq : Nat) (x13_23 : Int), v13 = .int .i64 x13_23 ∧ Aside0 (norialaw10_SchemaNames.j3 kq a2 (wrap64 (Int.tmod a0 11)) x9_1 x13_23 = some r) ∧ Aside0 (kq ≤ k1) ∧ Aside0 (Kd.R k36 36 wc w.heap.size (fun _ => True) u9 x9_1) ∧ Aside0 (Below w.heap.size w wc))
     case first =>
      have H := HC24.out
      clear HC24
      have HC25 := Aside0.mk H
      clear H
      go_upto_region 17 with (fail)
      go_cut [55] (fun v55 wc => ∃ (kq : Nat) (x55_24 : Bool), v55 = .bool x55_24 ∧ Aside0 (norialaw10_SchemaNames.j2 kq a2 (wrap64 (Int.tmod a0 11)) (wrap64 (Int.tmod a1 11)) x9_1 0 x55_24 = some r) ∧ Aside0 (kq ≤ k1) ∧ Aside0 (Kd.R k36 36 wc w.heap.size (fun _ => True) u9 x9_1) ∧ Aside0 (Below w.heap.size w wc))
      case first =>
       have H := HC25.out
       clear HC25
       by_cases c26 : (wrap64 (Int.tmod a0 11)) < 1
       ·rw [if_pos c26] at H
        have c26b0 : decide ((wrap64 (Int.tmod a0 11)) < 1) = true := decide_eq_true c26
        clear c26
        (first | rw [c26b0] | (simp only [i64_w, i32_w]; rw [c26b0]) | skip)
        have H' := Aside0.mk H
        clear H
        go_wp2
        go_meet
        case rel => exact ⟨_, (true), (by first | rfl | (simp; done) | (simp [*]; done)), H', ⟨by have := HK1.out; first | omega | exact Nat.le_refl _⟩, ⟨by (with_reducible repeat (first | apply Kd.R_alloc | apply Kd.R_drewN | apply Kd.R_drew)); exact HO_9.out⟩, ⟨by repeat (first | (with_reducible first | exact HB.out | apply below_alloc | apply pw_below_drewN | apply below_drew1) | exact HB.out)⟩⟩
       ·rw [if_neg c26] at H
        have c26b0 : decide ((wrap64 (Int.tmod a0 11)) < 1) = false := decide_eq_false c26
        clear c26
        (first | rw [c26b0] | (simp only [i64_w, i32_w]; rw [c26b0]) | skip)
        have H' := Aside0.mk H
        clear H
        go_wp2
        go_meet
        case rel => exact ⟨_, (decide ((wrap64 (Int.tmod a0 11)) > 8)), (by first | rfl | (simp; done) | (simp [*]; done)), H', ⟨by have := HK1.out; first | omega | exact Nat.le_refl _⟩, ⟨by (with_reducible repeat (first | apply Kd.R_alloc | apply Kd.R_drewN | apply Kd.R_drew)); exact HO_9.out⟩, ⟨by repeat (first | (with_reducible first | exact HB.out | apply below_alloc | apply pw_below_drewN | apply below_drew1) | exact HB.out)⟩⟩
      case rest =>
       clear HC25
       try clear c1
       try clear p1
       try clear q1
       try clear hx1
       try clear hcv1
       try clear qi1
       try clear c2
       try clear p2
       try clear hcv2
       try clear c4
       try clear c5
       try clear p6
       try clear c7
       try clear c7b0
       try clear c10
       try clear c10b0
       try clear c11
       try clear c13
       try clear c13b0
       try clear c14
       try clear c14b0
       try clear c14b1
       try clear p15
       try clear q15
       try clear hx15
       try clear qi15
       try clear hf15
       try clear c16
       try clear hcv19
       try clear c21
       try clear hcv22
       try clear c26
       try clear c26b0
       try clear hx15_0
       try clear p15
       try clear p2
       try clear p6
       try clear q15
       obtain ⟨kq, x55_24, rfl, HA, HJ24, HO_9, HB⟩ := hcut
       cases kq with
       | zero => exact absurd HA.out (by simp [norialaw10_SchemaNames.j2])
       | succ kj24 =>
        have H := HA.out
        clear HA
        simp only [norialaw10_SchemaNames.j2] at H
        by_cases c27 : x55_24 = true
        ·subst c27
         have H1 : (norialaw10_SchemaNames.j3 kj24 a2 (wrap64 (Int.tmod a0 11)) x9_1 4) = some r := by rw [if_pos rfl] at H; exact H
         clear H
         have H := H1
         clear H1
         have H' := Aside0.mk H
         clear H
         go_wp2
         go_meet
         case rel => exact ⟨_, (4), (by first | rfl | (simp; done) | (simp [*]; done)), H', ⟨by have := HK1.out; have := HJ24.out; first | omega | exact Nat.le_refl _⟩, ⟨by (with_reducible repeat (first | apply Kd.R_alloc | apply Kd.R_drewN | apply Kd.R_drew)); exact HO_9.out⟩, ⟨by repeat (first | (with_reducible first | exact HB.out | apply below_alloc | apply pw_below_drewN | apply below_drew1) | exact HB.out)⟩⟩
        ·replace c27 := Bool.eq_false_iff.mpr c27
         subst c27
         have H1 : (if (wrap64 (Int.tmod a1 11)) < 1 then (norialaw10_SchemaNames.j3 kj24 a2 (wrap64 (Int.tmod a0 11)) x9_1 3) else (if (wrap64 (Int.tmod a1 11)) > 8 then (norialaw10_SchemaNames.j3 kj24 a2 (wrap64 (Int.tmod a0 11)) x9_1 3) else (norialaw10_SchemaNames.j3 kj24 a2 (wrap64 (Int.tmod a0 11)) x9_1 0))) = some r := by rw [if_neg (show ¬ (false = true) by decide)] at H; exact H
         clear H
         have H := H1
         clear H1
         by_cases c28 : (wrap64 (Int.tmod a1 11)) < 1
         ·rw [if_pos c28] at H
          have c28b0 : decide ((wrap64 (Int.tmod a1 11)) < 1) = true := decide_eq_true c28
          clear c28
          have H' := Aside0.mk H
          clear H
          go_wp2
          go_meet
          case rel => exact ⟨_, (3), (by first | rfl | (simp; done) | (simp [*]; done)), H', ⟨by have := HK1.out; have := HJ24.out; first | omega | exact Nat.le_refl _⟩, ⟨by (with_reducible repeat (first | apply Kd.R_alloc | apply Kd.R_drewN | apply Kd.R_drew)); exact HO_9.out⟩, ⟨by repeat (first | (with_reducible first | exact HB.out | apply below_alloc | apply pw_below_drewN | apply below_drew1) | exact HB.out)⟩⟩
         ·rw [if_neg c28] at H
          have c28b0 : decide ((wrap64 (Int.tmod a1 11)) < 1) = false := decide_eq_false c28
          clear c28
          by_cases c29 : (wrap64 (Int.tmod a1 11)) > 8
          ·rw [if_pos c29] at H
           have c29b0 : decide (8 < (wrap64 (Int.tmod a1 11))) = true := decide_eq_true c29
           clear c29
           have H' := Aside0.mk H
           clear H
           go_wp2
           go_meet
           case rel => exact ⟨_, (3), (by first | rfl | (simp; done) | (simp [*]; done)), H', ⟨by have := HK1.out; have := HJ24.out; first | omega | exact Nat.le_refl _⟩, ⟨by (with_reducible repeat (first | apply Kd.R_alloc | apply Kd.R_drewN | apply Kd.R_drew)); exact HO_9.out⟩, ⟨by repeat (first | (with_reducible first | exact HB.out | apply below_alloc | apply pw_below_drewN | apply below_drew1) | exact HB.out)⟩⟩
          ·rw [if_neg c29] at H
           have c29b0 : decide (8 < (wrap64 (Int.tmod a1 11))) = false := decide_eq_false c29
           clear c29
           have H' := Aside0.mk H
           clear H
           go_wp2
           go_meet
           case rel => exact ⟨_, (0), (by first | rfl | (simp; done) | (simp [*]; done)), H', ⟨by have := HK1.out; have := HJ24.out; first | omega | exact Nat.le_refl _⟩, ⟨by (with_reducible repeat (first | apply Kd.R_alloc | apply Kd.R_drewN | apply Kd.R_drew)); exact HO_9.out⟩, ⟨by repeat (first | (with_reducible first | exact HB.out | apply below_alloc | apply pw_below_drewN | apply below_drew1) | exact HB.out)⟩⟩
     case rest =>
      clear HC24
      try clear c1
      try clear p1
      try clear q1
      try clear hx1
      try clear hcv1
      try clear qi1
      try clear c2
      try clear p2
      try clear hcv2
      try clear c4
      try clear c5
      try clear p6
      try clear c7
      try clear c7b0
      try clear c10
      try clear c10b0
      try clear c11
      try clear c13
      try clear c13b0
      try clear c14
      try clear c14b0
      try clear c14b1
      try clear p15
      try clear q15
      try clear hx15
      try clear qi15
      try clear hf15
      try clear c16
      try clear hcv19
      try clear c21
      try clear hcv22
      try clear c26
      try clear c26b0
      try clear c27
      try clear c28
      try clear c28b0
      try clear c29
      try clear c29b0
      try clear hx15_0
      try clear p1
      try clear p15
      try clear p2
      try clear p6
      try clear q1
      try clear q15
      obtain ⟨kq, x13_23, rfl, HA, HJ23, HO_9, HB⟩ := hcut
      cases kq with
      | zero => exact absurd HA.out (by simp [norialaw10_SchemaNames.j3])
      | succ kj23 =>
       have H := HA.out
       clear HA
       simp only [norialaw10_SchemaNames.j3] at H
       replace H := Option.bind_eq_some_iff.mp H
       obtain ⟨t330, A300, H⟩ := H
       replace H : (if t330 = x13_23 then (if x13_23 = 0 then (if (wrap64 (Int.tmod a0 11)) = 0 then (none) else (if 0 ≤ (Int.tmod (wrap64 (a2)) (wrap64 (Int.tmod a0 11))) then (if (Int.tmod (wrap64 (a2)) (wrap64 (Int.tmod a0 11))) < (x9_1.length : Int) then ((schema_Find.f kj23 x9_1 ((rd_T36 x9_1 (Int.tmod (wrap64 (a2)) (wrap64 (Int.tmod a0 11)))).f0)).bind fun bt332 => (if bt332.2 = true then (if bt332.1 = (Int.tmod (wrap64 (a2)) (wrap64 (Int.tmod a0 11))) then (if (wrap64 (Int.tmod a0 11)) = 1 then (some (bt332.1 == (Int.tmod (wrap64 (a2)) (wrap64 (Int.tmod a0 11))))) else (if 0 ≤ (Int.tmod (wrap64 ((Int.tmod (wrap64 (a2)) (wrap64 (Int.tmod a0 11))) + 1)) (wrap64 (Int.tmod a0 11))) then (if (Int.tmod (wrap64 ((Int.tmod (wrap64 (a2)) (wrap64 (Int.tmod a0 11))) + 1)) (wrap64 (Int.tmod a0 11))) < (x9_1.length : Int) then ((schema_Check.f kj23 (x9_1.set ((Int.tmod (wrap64 ((Int.tmod (wrap64 (a2)) (wrap64 (Int.tmod a0 11))) + 1)) (wrap64 (Int.tmod a0 11))) : Int).toNat (⟨(rd_T36 x9_1 (Int.tmod (wrap64 (a2)) (wrap64 (Int.tmod a0 11)))).f0, (rd_T36 x9_1 (Int.tmod (wrap64 ((Int.tmod (wrap64 (a2)) (wrap64 (Int.tmod a0 11))) + 1)) (wrap64 (Int.tmod a0 11)))).f1⟩ : S36))).bind fun t336 => (some (t336 == 7))) else (none)) else (none))) else (some (bt332.1 == (Int.tmod (wrap64 (a2)) (wrap64 (Int.tmod a0 11)))))) else (none))) else (none)) else (none))) else (some true)) else (none)) = some r := H
       have A30 := Aside0.mk A300
       clear A300
       by_cases c31 : t330 = x13_23
       ·rw [if_pos c31] at H
        have c31b0 : (t330 == x13_23) = true := beq_iff_eq.mpr c31
        have c31b1 : (t330 != x13_23) = false := bne_eq_false_iff_eq.mpr c31
        clear c31
        by_cases c32 : x13_23 = 0
        ·rw [if_pos c32] at H
         have c32b0 : (x13_23 == 0) = true := beq_iff_eq.mpr c32
         have c32b1 : (x13_23 != 0) = false := bne_eq_false_iff_eq.mpr c32
         clear c32
         by_cases c33 : (wrap64 (Int.tmod a0 11)) = 0
         ·rw [if_pos c33] at H
          exact absurd H (by simp)
         ·rw [if_neg c33] at H
          have c33b0 : ((wrap64 (Int.tmod a0 11)) == 0) = false := beq_eq_false_iff_ne.mpr c33
          have c33b1 : ((wrap64 (Int.tmod a0 11)) != 0) = true := bne_iff_ne.mpr c33
          obtain ⟨ji34, hji34⟩ : ∃ j_ : Int, (Int.tmod (wrap64 (a2)) (wrap64 (Int.tmod a0 11))) = j_ := ⟨_, rfl⟩
          replace H : (if 0 ≤ (ji34) then (if (ji34) < (x9_1.length : Int) then ((schema_Find.f kj23 x9_1 ((rd_T36 x9_1 (ji34)).f0)).bind fun bt332 => (if bt332.2 = true then (if bt332.1 = (ji34) then (if (wrap64 (Int.tmod a0 11)) = 1 then (some (bt332.1 == (ji34))) else (if 0 ≤ (Int.tmod (wrap64 ((ji34) + 1)) (wrap64 (Int.tmod a0 11))) then (if (Int.tmod (wrap64 ((ji34) + 1)) (wrap64 (Int.tmod a0 11))) < (x9_1.length : Int) then ((schema_Check.f kj23 (x9_1.set ((Int.tmod (wrap64 ((ji34) + 1)) (wrap64 (Int.tmod a0 11))) : Int).toNat (⟨(rd_T36 x9_1 (ji34)).f0, (rd_T36 x9_1 (Int.tmod (wrap64 ((ji34) + 1)) (wrap64 (Int.tmod a0 11)))).f1⟩ : S36))).bind fun t336 => (some (t336 == 7))) else (none)) else (none))) else (some (bt332.1 == (ji34)))) else (none))) else (none)) else (none)) = some r := by first | (rw [hji34] at H; exact H) | (simp only [hji34] at H ⊢; exact H)
          (try rw [hji34] at A30)
          by_cases c35 : 0 ≤ (ji34)
          ·rw [if_pos c35] at H
           have c35b0 : decide (0 ≤ (ji34)) = true := decide_eq_true c35
           clear c35
           by_cases c36 : (ji34) < (x9_1.length : Int)
           ·rw [if_pos c36] at H
            have c36b0 : decide ((ji34) < (x9_1.length : Int)) = true := decide_eq_true c36
            clear c36
            replace H := Option.bind_eq_some_iff.mp H
            obtain ⟨⟨t332, t333⟩, A370, H⟩ := H
            replace H : (if t333 = true then (if t332 = (ji34) then (if (wrap64 (Int.tmod a0 11)) = 1 then (some (t332 == (ji34))) else (if 0 ≤ (Int.tmod (wrap64 ((ji34) + 1)) (wrap64 (Int.tmod a0 11))) then (if (Int.tmod (wrap64 ((ji34) + 1)) (wrap64 (Int.tmod a0 11))) < (x9_1.length : Int) then ((schema_Check.f kj23 (x9_1.set ((Int.tmod (wrap64 ((ji34) + 1)) (wrap64 (Int.tmod a0 11))) : Int).toNat (⟨(rd_T36 x9_1 (ji34)).f0, (rd_T36 x9_1 (Int.tmod (wrap64 ((ji34) + 1)) (wrap64 (Int.tmod a0 11)))).f1⟩ : S36))).bind fun t336 => (some (t336 == 7))) else (none)) else (none))) else (some (t332 == (ji34)))) else (none)) = some r := H
            have A37 := Aside0.mk A370
            clear A370
            by_cases c38 : t333 = true
            ·subst c38
             have H1 : (if t332 = (ji34) then (if (wrap64 (Int.tmod a0 11)) = 1 then (some (t332 == (ji34))) else (if 0 ≤ (Int.tmod (wrap64 ((ji34) + 1)) (wrap64 (Int.tmod a0 11))) then (if (Int.tmod (wrap64 ((ji34) + 1)) (wrap64 (Int.tmod a0 11))) < (x9_1.length : Int) then ((schema_Check.f kj23 (x9_1.set ((Int.tmod (wrap64 ((ji34) + 1)) (wrap64 (Int.tmod a0 11))) : Int).toNat (⟨(rd_T36 x9_1 (ji34)).f0, (rd_T36 x9_1 (Int.tmod (wrap64 ((ji34) + 1)) (wrap64 (Int.tmod a0 11)))).f1⟩ : S36))).bind fun t336 => (some (t336 == 7))) else (none)) else (none))) else (some (t332 == (ji34)))) = some r := by rw [if_pos rfl] at H; exact H
             clear H
             have H := H1
             clear H1
             by_cases c39 : t332 = (ji34)
             ·rw [if_pos c39] at H
              have c39b0 : (t332 == (ji34)) = true := beq_iff_eq.mpr c39
              have c39b1 : (t332 != (ji34)) = false := bne_eq_false_iff_eq.mpr c39
              clear c39
              by_cases c40 : (wrap64 (Int.tmod a0 11)) = 1
              ·rw [if_pos c40] at H
               have c40b0 : ((wrap64 (Int.tmod a0 11)) == 1) = true := beq_iff_eq.mpr c40
               have c40b1 : ((wrap64 (Int.tmod a0 11)) != 1) = false := bne_eq_false_iff_eq.mpr c40
               clear c40
               obtain rfl := Option.some.inj H
               obtain ⟨Ao41, co41, eo41⟩ := Kd.R_slice HO_9.out
               subst eo41
               go_wp2_with (first | ((with_reducible refine gate_callee (f := 10) rfl ?_); refine goesL_ (some 70) rfl rfl Try.func10 (by kernel_rfl) rfl #[.slice Ao41 x9_1.length co41] rfl (by (try simp only [List.map_toArray, List.map_cons, List.map_nil]); first | done | rfl | (simp only [List.length_drop, List.length_take]; rfl)) ?_; (with_reducible refine (schema_Check.calls kj23 _ _ x9_1 t330 _ ?side1 ?side2 A30.out).mono ?_); (case side1 => repeat (first | exact (Kd.R_reads' HO_9.out).2.2 | (with_reducible refine Kd.C_alloc ?_ _) | (with_reducible refine Kd.C_drewN ?_ _) | (with_reducible refine Kd.C_drew ?_))); (case side2 => exact (Kd.R_reads' HO_9.out).2.1); rintro e w42 ⟨rfl, hb⟩; refine ⟨_, rfl, ?_⟩; have n0_ := Aside0.mk (Kd.R_below (by (with_reducible repeat (first | apply Kd.R_alloc | apply Kd.R_drewN | apply Kd.R_drew)); exact HO_9.out) hb); have n1_ := Aside0.mk (below_step (by repeat (first | (with_reducible first | exact HB.out | apply below_alloc | apply pw_below_drewN | apply below_drew1) | exact HB.out)) hb); clear HO_9; clear HB; have HO_9 := n0_; have HB := n1_; clear n0_ n1_; (try clear hb); (try clear hb2); (try clear hk); (try clear hi); have p331 : 0 ≤ ((ji34) : Int) := of_decide_eq_true (by first | (with_reducible assumption) | assumption); have q331 : (ji34) < (x9_1.length : Int) := of_decide_eq_true (by first | (with_reducible assumption) | assumption); obtain ⟨ad331, e331, hx331_0, hx331_1⟩ := at_T36 (Kd.R_reads' HO_9.out).2.2 (ji34) p331 q331; cases e331; replace p331 := eq_true p331; replace q331 := eq_true q331) | (go_at_call 11; (with_reducible refine (schema_Find.calls kj23 _ _ x9_1 ((rd_T36 x9_1 (ji34)).f0) t332 true _ ?side1 ?side2 A37.out).mono ?_); (case side1 => repeat (first | exact (Kd.R_reads' HO_9.out).2.2 | (with_reducible refine Kd.C_alloc ?_ _) | (with_reducible refine Kd.C_drewN ?_ _) | (with_reducible refine Kd.C_drew ?_))); (case side2 => exact (Kd.R_reads' HO_9.out).2.1); rintro e w' ⟨rfl, ⟨nd, rfl⟩⟩))
               go_ret
               exact ⟨by first | rfl | (simp [errW_none, errW_some] <;> rfl) | (simp only [← hji34]; first | rfl | (simp [errW_none, errW_some] <;> rfl)) | (simp [*, errW_none, errW_some] <;> rfl), by repeat (first | (with_reducible first | exact HB.out | apply below_alloc | apply pw_below_drewN | apply below_drew1) | exact HB.out)⟩
              ·rw [if_neg c40] at H
               have c40b0 : ((wrap64 (Int.tmod a0 11)) == 1) = false := beq_eq_false_iff_ne.mpr c40
               have c40b1 : ((wrap64 (Int.tmod a0 11)) != 1) = true := bne_iff_ne.mpr c40
               obtain ⟨ji43, hji43⟩ : ∃ j_ : Int, (Int.tmod (wrap64 ((ji34) + 1)) (wrap64 (Int.tmod a0 11))) = j_ := ⟨_, rfl⟩
               replace H : (if 0 ≤ (ji43) then (if (ji43) < (x9_1.length : Int) then ((schema_Check.f kj23 (x9_1.set ((ji43) : Int).toNat (⟨(rd_T36 x9_1 (ji34)).f0, (rd_T36 x9_1 (ji43)).f1⟩ : S36))).bind fun t336 => (some (t336 == 7))) else (none)) else (none)) = some r := by first | (rw [hji43] at H; exact H) | (simp only [hji43] at H ⊢; exact H)
               (try rw [hji43] at A30)
               (try rw [hji43] at A37)
               by_cases c44 : 0 ≤ (ji43)
               ·rw [if_pos c44] at H
                have c44b0 : decide (0 ≤ (ji43)) = true := decide_eq_true c44
                clear c44
                by_cases c45 : (ji43) < (x9_1.length : Int)
                ·rw [if_pos c45] at H
                 have c45b0 : decide ((ji43) < (x9_1.length : Int)) = true := decide_eq_true c45
                 clear c45
                 obtain ⟨y335, hy335⟩ : ∃ y_ : List (S36), y_ = (x9_1.set ((ji43) : Int).toNat (⟨(rd_T36 x9_1 (ji34)).f0, (rd_T36 x9_1 (ji43)).f1⟩ : S36)) := ⟨_, rfl⟩
                 replace H : ((schema_Check.f kj23 y335).bind fun t336 => (some (t336 == 7))) = some r := by first | (rw [hy335]; with_reducible exact H) | (have H2_ := (Option.bind_some _ _).symm.trans H; rw [hy335]; with_reducible exact H2_) | (have H2_ := (Option.bind_some _ _).symm.trans H; with_reducible exact H2_) | with_reducible exact H | (rw [hy335]; exact H) | exact H
                 have Ny335 := Aside0.mk hy335
                 clear hy335
                 replace H := Option.bind_eq_some_iff.mp H
                 obtain ⟨t336, A470, H⟩ := H
                 replace H : (some (t336 == 7)) = some r := H
                 have A47 := Aside0.mk A470
                 clear A470
                 obtain rfl := Option.some.inj H
                 obtain ⟨Ao48, co48, eo48⟩ := Kd.R_slice HO_9.out
                 subst eo48
                 try go_wp2_with (first | ((with_reducible refine gate_callee (f := 10) rfl ?_); refine goesL_ (some 70) rfl rfl Try.func10 (by kernel_rfl) rfl #[.slice Ao48 x9_1.length co48] rfl (by (try simp only [List.map_toArray, List.map_cons, List.map_nil]); first | done | rfl | (simp only [List.length_drop, List.length_take]; rfl)) ?_; (with_reducible refine (schema_Check.calls kj23 _ _ x9_1 t330 _ ?side1 ?side2 A30.out).mono ?_); (case side1 => repeat (first | exact (Kd.R_reads' HO_9.out).2.2 | (with_reducible refine Kd.C_alloc ?_ _) | (with_reducible refine Kd.C_drewN ?_ _) | (with_reducible refine Kd.C_drew ?_))); (case side2 => exact (Kd.R_reads' HO_9.out).2.1); rintro e w49 ⟨rfl, hb⟩; refine ⟨_, rfl, ?_⟩; have n0_ := Aside0.mk (Kd.R_below (by (with_reducible repeat (first | apply Kd.R_alloc | apply Kd.R_drewN | apply Kd.R_drew)); exact HO_9.out) hb); have n1_ := Aside0.mk (below_step (by repeat (first | (with_reducible first | exact HB.out | apply below_alloc | apply pw_below_drewN | apply below_drew1) | exact HB.out)) hb); clear HO_9; clear HB; have HO_9 := n0_; have HB := n1_; clear n0_ n1_; (try clear hb); (try clear hb2); (try clear hk); (try clear hi); have p331 : 0 ≤ ((ji34) : Int) := of_decide_eq_true (by first | (with_reducible assumption) | assumption); have q331 : (ji34) < (x9_1.length : Int) := of_decide_eq_true (by first | (with_reducible assumption) | assumption); obtain ⟨ad331, e331, hx331_0, hx331_1⟩ := at_T36 (Kd.R_reads' HO_9.out).2.2 (ji34) p331 q331; cases e331; replace p331 := eq_true p331; replace q331 := eq_true q331) | (go_at_call 11; (with_reducible refine (schema_Find.calls kj23 _ _ x9_1 ((rd_T36 x9_1 (ji34)).f0) t332 true _ ?side1 ?side2 A37.out).mono ?_); (case side1 => repeat (first | exact (Kd.R_reads' HO_9.out).2.2 | (with_reducible refine Kd.C_alloc ?_ _) | (with_reducible refine Kd.C_drewN ?_ _) | (with_reducible refine Kd.C_drew ?_))); (case side2 => exact (Kd.R_reads' HO_9.out).2.1); rintro e w' ⟨rfl, ⟨nd, rfl⟩⟩; (try (rw [drewN_self w49]; generalize hq_ : World.drewN w49 _ = w49; have n0_ : Aside0 (Kd.R k36 36 w49 w.heap.size (fun _ => True) (.slice (some ad331) x9_1.length co48) x9_1) := ⟨by rw [← hq_]; exact (by (with_reducible repeat (first | apply Kd.R_alloc | apply Kd.R_drewN | apply Kd.R_drew)); exact HO_9.out)⟩; have n1_ : Aside0 (Below w.heap.size w w49) := ⟨by rw [← hq_]; exact (by repeat (first | (with_reducible first | exact HB.out | apply below_alloc | apply pw_below_drewN | apply below_drew1) | exact HB.out))⟩; clear HO_9 HB hq_; have HO_9 := n0_; have HB := n1_; clear n0_ n1_))))
                 have n0_ := Aside0.mk (Kd.R_drew HO_9.out)
                 have n1_ := Aside0.mk (below_drew1 HB.out)
                 clear HO_9
                 clear HB
                 have HO_9 := n0_
                 have HB := n1_
                 clear n0_ n1_
                 have p334 : 0 ≤ ((ji34) : Int) := of_decide_eq_true (by first | (with_reducible assumption) | assumption)
                 have q334 : (ji34) < (x9_1.length : Int) := of_decide_eq_true (by first | (with_reducible assumption) | assumption)
                 obtain ⟨ad334, e334, hx334_0, hx334_1⟩ := at_T36 (Kd.R_reads' HO_9.out).2.2 (ji34) p334 q334
                 obtain rfl : ad331 = ad334 := (by injection e334)
                 replace p334 := eq_true p334
                 replace q334 := eq_true q334
                 have p46 : 0 ≤ ((ji43) : Int) := of_decide_eq_true (by first | (with_reducible assumption) | assumption)
                 have q46 : ((ji43) : Int) < ((x9_1.length : Int) : Int) := of_decide_eq_true (by first | (with_reducible assumption) | assumption)
                 obtain ⟨go46, co46, eo46, gb46, gl46, cl46, HG46⟩ := Kd.R_form HO_9.out (by omega)
                 (first | cases eo46 | (injection eo46 with ea_ en_ ec_; (first | subst ea_ | (injection ea_ with ea_; subst ea_)); subst ec_; clear en_))
                 have GB46 := Aside0.mk gb46
                 have GG46 := Aside0.mk HG46
                 clear gb46 gl46 HG46
                 (first | simp only [add_plain] at hx331_0 | skip)
                 (first | simp only [add_plain] at hx331_1 | skip)
                 (first | simp only [add_plain] at hx334_0 | skip)
                 (first | simp only [add_plain] at hx334_1 | skip)
                 obtain ⟨ce46, hcl46, hM46, hcc46, hfr46⟩ := Kd.R_elem HO_9.out z36 ((ji43) : Int) p46 q46
                 obtain rfl := k36_openM hM46
                 have hx46_0 : World.cell? _ ⟨go46, ((ji43) : Int).toNat * 2, none⟩ = some (.string ((rd_T36 x9_1 (ji43)).f0)) := hcc46 0 _ rfl
                 have hx46_1 : World.cell? _ ⟨go46, ((ji43) : Int).toNat * 2 + 1, none⟩ = some (.int .i64 ((rd_T36 x9_1 (ji43)).f1)) := hcc46 1 _ rfl
                 have hf46_0 : World.frozen? _ ⟨go46, ((ji43) : Int).toNat * 2, none⟩ = false := hfr46 0
                 have hf46_1 : World.frozen? _ ⟨go46, ((ji43) : Int).toNat * 2 + 1, none⟩ = false := hfr46 1
                 clear hcl46 hcc46 hfr46 hM46
                 replace p46 := eq_true p46
                 replace q46 := eq_true q46
                 obtain ⟨ce51, hcl51, hM51, hcc51, hfr51⟩ := Kd.R_elem HO_9.out z36 ((ji43) : Int) (of_decide_eq_true (by first | (with_reducible assumption) | assumption)) (by have h_ : ((ji43) : Int) < ((x9_1.length : Int) : Int) := of_decide_eq_true (by first | (with_reducible assumption) | assumption); first | exact h_ | (have e_ := (Kd.R_reads' HO_9.out).1; omega) | simpa using h_)
                 obtain rfl := k36_openM hM51
                 have HP51 := (Kd.R_seg HO_9.out ((ji43) : Int) (of_decide_eq_true (by first | (with_reducible assumption) | assumption)) (by have h_ : ((ji43) : Int) < ((x9_1.length : Int) : Int) := of_decide_eq_true (by first | (with_reducible assumption) | assumption); first | exact h_ | (have e_ := (Kd.R_reads' HO_9.out).1; omega) | simpa using h_) (seg := [.string ((rd_T36 x9_1 (ji34)).f0)]) (j := 0) hcl51 hcc51 (show 1 ≤ 2 from by decide) (x' := (⟨(rd_T36 x9_1 (ji34)).f0, (rd_T36 x9_1 (ji43)).f1⟩ : S36)) (k36_mkM _ _ _ (⟨(rd_T36 x9_1 (ji34)).f0, (rd_T36 x9_1 (ji43)).f1⟩ : S36) ) (fun _ hk => hk)).1
                 rw [← Ny335.out] at HP51
                 have HQ51 := Aside0.mk HP51
                 clear hcl51 hcc51 hfr51 hM51 HP51
                 refine start_ (n := 13) (S := fun w' => w'.cell? ⟨go46, ((ji34)).toNat * 2, none⟩ = some (.string ((rd_T36 x9_1 (ji34)).f0)) ∧ w'.cell? ⟨go46, ((ji34)).toNat * 2 + 1, none⟩ = some (.int .i64 ((rd_T36 x9_1 (ji34)).f1))) (ds := [12]) #[false, false, false, false, false, false, false, false, false, false, false, false, false] (by kernel_rfl) rfl rfl ⟨hx334_0, hx334_1⟩ (fun hHeld => ?_); refine with_tabW norialaw10_SchemaNames.tab29 norialaw10_SchemaNames.bits29 (fun HT_ HW_ => ?_)
                 generalize w49.drew = w50 at HO_9 HB GG46 HQ51 hf46_0 hf46_1 hx331_0 hx331_1 hx334_0 hx334_1 hx46_0 hx46_1 hHeld ⊢
                 refine pure_ (i := 0) (N := some 106) (v := ?_) (a' := ?_) #[true, false, false, false, false, false, false, false, false, false, false, false, false] rfl rfl (any_of HT_.out (by kernel_rfl)) (fun _ _ _ h => h) (Or.inl ⟨by rfl, ?_⟩) ?_ ?_
                 rotate_left
                 ·intro w'
                  go_simp
                  with_reducible rfl
                 rotate_left
                 ·simp only [Act.put, List.setIfInBounds_toArray, List.set_cons_zero, List.set_cons_succ, i64_w, i32_w]
                  rfl
                 refine pure_ (i := 1) (N := some 107) (v := ?_) (a' := ?_) #[true, true, false, false, false, false, false, false, false, false, false, false, false] rfl rfl (any_of HT_.out (by kernel_rfl)) (fun _ _ _ h => h) (Or.inl ⟨by rfl, ?_⟩) ?_ ?_
                 rotate_left
                 ·intro w'
                  go_simp
                  with_reducible rfl
                 rotate_left
                 ·simp only [Act.put, List.setIfInBounds_toArray, List.set_cons_zero, List.set_cons_succ, i64_w, i32_w]
                  rfl
                 refine pure_ (i := 2) (N := some 108) (v := ?_) (a' := ?_) #[true, true, true, false, false, false, false, false, false, false, false, false, false] rfl rfl (any_of HT_.out (by kernel_rfl)) (fun _ _ _ h => h) (Or.inl ⟨by rfl, ?_⟩) ?_ ?_
                 rotate_left
                 ·intro w'
                  go_simp
                  with_reducible rfl
                 rotate_left
                 ·simp only [Act.put, List.setIfInBounds_toArray, List.set_cons_zero, List.set_cons_succ, i64_w, i32_w]
                  rfl
                 refine pure_ (i := 3) (N := some 109) (v := ?_) (a' := ?_) #[true, true, true, true, false, false, false, false, false, false, false, false, false] rfl rfl (any_of HT_.out (by kernel_rfl)) (fun _ _ _ h => h) (Or.inl ⟨by rfl, ?_⟩) ?_ ?_
                 rotate_left
                 ·intro w'
                  go_simp
                  with_reducible rfl
                 rotate_left
                 ·simp only [Act.put, List.setIfInBounds_toArray, List.set_cons_zero, List.set_cons_succ, i64_w, i32_w]
                  rfl
                 refine pure_ (i := 4) (N := some 110) (v := ?_) (a' := ?_) #[true, true, true, true, true, false, false, false, false, false, false, false, false] rfl rfl (any_of HT_.out (by kernel_rfl)) (fun _ _ _ h => h) (Or.inl ⟨by rfl, ?_⟩) ?_ ?_
                 rotate_left
                 ·intro w'
                  go_simp
                  with_reducible rfl
                 rotate_left
                 ·simp only [Act.put, List.setIfInBounds_toArray, List.set_cons_zero, List.set_cons_succ, i64_w, i32_w]
                  rfl
                 refine pure_ (i := 5) (N := some 111) (v := ?_) (a' := ?_) #[true, true, true, true, true, true, false, false, false, false, false, false, false] rfl rfl (any_of HT_.out (by kernel_rfl)) (fun _ _ _ h => h) (Or.inl ⟨by rfl, ?_⟩) ?_ ?_
                 rotate_left
                 ·intro w'
                  go_simp
                  with_reducible rfl
                 rotate_left
                 ·simp only [Act.put, List.setIfInBounds_toArray, List.set_cons_zero, List.set_cons_succ, i64_w, i32_w]
                  rfl
                 refine pure_ (i := 6) (N := some 112) (v := ?_) (a' := ?_) #[true, true, true, true, true, true, true, false, false, false, false, false, false] rfl rfl (any_of HT_.out (by kernel_rfl)) (fun _ _ _ h => h) (Or.inl ⟨by rfl, ?_⟩) ?_ ?_
                 rotate_left
                 ·intro w'
                  go_simp
                  with_reducible rfl
                 rotate_left
                 ·simp only [Act.put, List.setIfInBounds_toArray, List.set_cons_zero, List.set_cons_succ, i64_w, i32_w]
                  rfl
                 refine pure_ (i := 7) (N := some 113) (v := ?_) (a' := ?_) #[true, true, true, true, true, true, true, true, false, false, false, false, false] rfl rfl (any_of HT_.out (by kernel_rfl)) (fun _ _ _ h => h) (Or.inl ⟨by rfl, ?_⟩) ?_ ?_
                 rotate_left
                 ·intro w'
                  go_simp
                  with_reducible rfl
                 rotate_left
                 ·simp only [Act.put, List.setIfInBounds_toArray, List.set_cons_zero, List.set_cons_succ, i64_w, i32_w]
                  rfl
                 refine pure_ (i := 8) (N := some 114) (v := ?_) (a' := ?_) #[true, true, true, true, true, true, true, true, true, false, false, false, false] rfl rfl (any_of HT_.out (by kernel_rfl)) (fun _ _ _ h => h) (Or.inl ⟨by rfl, ?_⟩) ?_ ?_
                 rotate_left
                 ·intro w'
                  go_simp
                  with_reducible rfl
                 rotate_left
                 ·simp only [Act.put, List.setIfInBounds_toArray, List.set_cons_zero, List.set_cons_succ, i64_w, i32_w]
                  rfl
                 refine take_ (i := 9) (N := some 115) (v := ?_) (a' := ?_) #[true, true, true, true, true, true, true, true, true, true, false, false, false] rfl rfl (take_ofW HT_.out HW_.out (by kernel_rfl)) (fun _ _ _ h => h) (Or.inl ⟨by rfl, ?_⟩) hHeld ?_ ?_
                 rotate_left
                 ·rintro w' ⟨s0, s1⟩
                  go_simp
                  with_reducible rfl
                 rotate_left
                 ·simp only [Act.put, List.setIfInBounds_toArray, List.set_cons_zero, List.set_cons_succ, i64_w, i32_w]
                  rfl
                 refine pure_ (i := 10) (N := some 116) (v := ?_) (a' := ?_) #[true, true, true, true, true, true, true, true, true, true, true, false, false] rfl rfl (any_of HT_.out (by kernel_rfl)) (fun _ _ _ h => h) (Or.inl ⟨by rfl, ?_⟩) ?_ ?_
                 rotate_left
                 ·intro w'
                  go_simp
                  with_reducible rfl
                 rotate_left
                 ·simp only [Act.put, List.setIfInBounds_toArray, List.set_cons_zero, List.set_cons_succ, i64_w, i32_w]
                  rfl
                 refine pure_ (i := 11) (N := some 117) (v := ?_) (a' := ?_) #[true, true, true, true, true, true, true, true, true, true, true, true, false] rfl rfl (any_of HT_.out (by kernel_rfl)) (fun _ _ _ h => h) (Or.inl ⟨by rfl, ?_⟩) ?_ ?_
                 rotate_left
                 ·intro w'
                  go_simp
                  with_reducible rfl
                 rotate_left
                 ·simp only [Act.put, List.setIfInBounds_toArray, List.set_cons_zero, List.set_cons_succ, i64_w, i32_w]
                  rfl
                 refine last_ (i := 12) (N := none) #[true, true, true, true, true, true, true, true, true, true, true, true, true] rfl rfl (one_of HT_.out (by kernel_rfl)) (by decide) (fun K hK => ?_)
                 refine skip_ (w1 := ?_) (by rfl) rfl ?_ ?_
                 rotate_left
                 ·go_simp
                  rfl
                 refine hK.out _ _ ?_
                 clear hK K
                 refine done_ (done_of HT_.out (by kernel_rfl)) ?_
                 try go_wp2_with (first | ((with_reducible refine gate_callee (f := 10) rfl ?_); refine goesL_ (some 119) rfl rfl Try.func10 (by kernel_rfl) rfl #[.slice (some ⟨go46, 0, none⟩) y335.length co48] rfl (by (try simp only [List.map_toArray, List.map_cons, List.map_nil]); first | done | (rw [show y335.length = x9_1.length from (Kd.R_reads' HQ51.out).1.symm] <;> rfl) | rfl | (simp only [List.length_drop, List.length_take]; rfl)) ?_; (with_reducible refine (schema_Check.calls kj23 _ _ y335 t336 _ ?side1 ?side2 A47.out).mono ?_); (case side1 => refine (Kd.R_reads' (e := 36) (base := w.heap.size) (ok := fun k_ => True) (n := x9_1.length) (c := co48) ?_).2.2; exact (by (with_reducible repeat (first | apply Kd.R_alloc | apply Kd.R_drewN | apply Kd.R_drew)); exact HQ51.out)); (case side2 => rw [show y335.length = x9_1.length from (Kd.R_reads' HQ51.out).1.symm]; exact (Kd.R_reads' HO_9.out).2.1); rintro e w52 ⟨rfl, hb⟩; refine ⟨_, rfl, ?_⟩; have n0_ := Aside0.mk (Kd.R_below (by (with_reducible repeat (first | apply Kd.R_alloc | apply Kd.R_drewN | apply Kd.R_drew)); exact HQ51.out) hb); have n1_ := Aside0.mk (below_step (by repeat (first | (with_reducible first | exact HB.out | apply below_alloc | apply pw_below_drewN | apply below_drew1 | refine below_set ?_ GB46.out) | exact HB.out)) hb); clear HO_9; clear HB; have HO_9 := n0_; have HB := n1_; clear n0_ n1_; (try clear hb); (try clear hb2); (try clear hk); (try clear hi)))
                 go_ret
                 exact ⟨by first | rfl | (simp [errW_none, errW_some] <;> rfl) | (simp only [← hji34, ← hji43]; first | rfl | (simp [errW_none, errW_some] <;> rfl)) | (simp [*, errW_none, errW_some] <;> rfl), by repeat (first | (with_reducible first | exact HB.out | apply below_alloc | apply pw_below_drewN | apply below_drew1) | exact HB.out)⟩
                ·rw [if_neg c45] at H
                 exact absurd H (by simp)
               ·rw [if_neg c44] at H
                exact absurd H (by simp)
             ·rw [if_neg c39] at H
              have c39b0 : (t332 == (ji34)) = false := beq_eq_false_iff_ne.mpr c39
              have c39b1 : (t332 != (ji34)) = true := bne_iff_ne.mpr c39
              obtain rfl := Option.some.inj H
              obtain ⟨Ao53, co53, eo53⟩ := Kd.R_slice HO_9.out
              subst eo53
              go_wp2_with (first | ((with_reducible refine gate_callee (f := 10) rfl ?_); refine goesL_ (some 70) rfl rfl Try.func10 (by kernel_rfl) rfl #[.slice Ao53 x9_1.length co53] rfl (by (try simp only [List.map_toArray, List.map_cons, List.map_nil]); first | done | rfl | (simp only [List.length_drop, List.length_take]; rfl)) ?_; (with_reducible refine (schema_Check.calls kj23 _ _ x9_1 t330 _ ?side1 ?side2 A30.out).mono ?_); (case side1 => repeat (first | exact (Kd.R_reads' HO_9.out).2.2 | (with_reducible refine Kd.C_alloc ?_ _) | (with_reducible refine Kd.C_drewN ?_ _) | (with_reducible refine Kd.C_drew ?_))); (case side2 => exact (Kd.R_reads' HO_9.out).2.1); rintro e w54 ⟨rfl, hb⟩; refine ⟨_, rfl, ?_⟩; have n0_ := Aside0.mk (Kd.R_below (by (with_reducible repeat (first | apply Kd.R_alloc | apply Kd.R_drewN | apply Kd.R_drew)); exact HO_9.out) hb); have n1_ := Aside0.mk (below_step (by repeat (first | (with_reducible first | exact HB.out | apply below_alloc | apply pw_below_drewN | apply below_drew1) | exact HB.out)) hb); clear HO_9; clear HB; have HO_9 := n0_; have HB := n1_; clear n0_ n1_; (try clear hb); (try clear hb2); (try clear hk); (try clear hi); have p331 : 0 ≤ ((ji34) : Int) := of_decide_eq_true (by first | (with_reducible assumption) | assumption); have q331 : (ji34) < (x9_1.length : Int) := of_decide_eq_true (by first | (with_reducible assumption) | assumption); obtain ⟨ad331, e331, hx331_0, hx331_1⟩ := at_T36 (Kd.R_reads' HO_9.out).2.2 (ji34) p331 q331; cases e331; replace p331 := eq_true p331; replace q331 := eq_true q331) | (go_at_call 11; (with_reducible refine (schema_Find.calls kj23 _ _ x9_1 ((rd_T36 x9_1 (ji34)).f0) t332 true _ ?side1 ?side2 A37.out).mono ?_); (case side1 => repeat (first | exact (Kd.R_reads' HO_9.out).2.2 | (with_reducible refine Kd.C_alloc ?_ _) | (with_reducible refine Kd.C_drewN ?_ _) | (with_reducible refine Kd.C_drew ?_))); (case side2 => exact (Kd.R_reads' HO_9.out).2.1); rintro e w' ⟨rfl, ⟨nd, rfl⟩⟩))
              go_ret
              exact ⟨by first | rfl | (simp [errW_none, errW_some] <;> rfl) | (simp only [← hji34]; first | rfl | (simp [errW_none, errW_some] <;> rfl)) | (simp [*, errW_none, errW_some] <;> rfl), by repeat (first | (with_reducible first | exact HB.out | apply below_alloc | apply pw_below_drewN | apply below_drew1) | exact HB.out)⟩
            ·replace c38 := Bool.eq_false_iff.mpr c38
             subst c38
             have H1 : (none) = some r := by rw [if_neg (show ¬ (false = true) by decide)] at H; exact H
             clear H
             have H := H1
             clear H1
             exact absurd H (by simp)
           ·rw [if_neg c36] at H
            exact absurd H (by simp)
          ·rw [if_neg c35] at H
           exact absurd H (by simp)
        ·rw [if_neg c32] at H
         have c32b0 : (x13_23 == 0) = false := beq_eq_false_iff_ne.mpr c32
         have c32b1 : (x13_23 != 0) = true := bne_iff_ne.mpr c32
         obtain rfl := Option.some.inj H
         obtain ⟨Ao55, co55, eo55⟩ := Kd.R_slice HO_9.out
         subst eo55
         go_wp2_with (first | ((with_reducible refine gate_callee (f := 10) rfl ?_); refine goesL_ (some 70) rfl rfl Try.func10 (by kernel_rfl) rfl #[.slice Ao55 x9_1.length co55] rfl (by (try simp only [List.map_toArray, List.map_cons, List.map_nil]); first | done | rfl | (simp only [List.length_drop, List.length_take]; rfl)) ?_; (with_reducible refine (schema_Check.calls kj23 _ _ x9_1 t330 _ ?side1 ?side2 A30.out).mono ?_); (case side1 => repeat (first | exact (Kd.R_reads' HO_9.out).2.2 | (with_reducible refine Kd.C_alloc ?_ _) | (with_reducible refine Kd.C_drewN ?_ _) | (with_reducible refine Kd.C_drew ?_))); (case side2 => exact (Kd.R_reads' HO_9.out).2.1); rintro e w56 ⟨rfl, hb⟩; refine ⟨_, rfl, ?_⟩; have n0_ := Aside0.mk (Kd.R_below (by (with_reducible repeat (first | apply Kd.R_alloc | apply Kd.R_drewN | apply Kd.R_drew)); exact HO_9.out) hb); have n1_ := Aside0.mk (below_step (by repeat (first | (with_reducible first | exact HB.out | apply below_alloc | apply pw_below_drewN | apply below_drew1) | exact HB.out)) hb); clear HO_9; clear HB; have HO_9 := n0_; have HB := n1_; clear n0_ n1_; (try clear hb); (try clear hb2); (try clear hk); (try clear hi)))
         go_ret
         exact ⟨by first | rfl | (simp [errW_none, errW_some] <;> rfl) | (simp [*, errW_none, errW_some] <;> rfl), by repeat (first | (with_reducible first | exact HB.out | apply below_alloc | apply pw_below_drewN | apply below_drew1) | exact HB.out)⟩
       ·rw [if_neg c31] at H
        exact absurd H (by simp)
 ·replace c5 := Bool.eq_false_iff.mpr c5
  subst c5
  have H1 : (none) = some r := by rw [if_neg (show ¬ (false = true) by decide)] at H; exact H
  clear H
  have H := H1
  clear H1
  exact absurd H (by simp)

/-- THE ONE PURE STATEMENT of norialaw10_SchemaNames: yours. -/
def norialaw10_SchemaNames.Pure : Prop := ∀ (a0 : Int) (a1 : Int) (a2 : Int), (Lit.int .u8 a0).wf = true → (Lit.int .u8 a1).wf = true → (Lit.int .u8 a2).wf = true → ∃ k, norialaw10_SchemaNames.f k a0 a1 a2 = some true
theorem norialaw10_SchemaNames.walk (P : norialaw10_SchemaNames.Pure) (a0 : Int) (a1 : Int) (a2 : Int) (w : World) (w0 : (Lit.int .u8 a0).wf = true) (w1 : (Lit.int .u8 a1).wf = true) (w2 : (Lit.int .u8 a2).wf = true) :
  Calls Try.prog 4 #[.int .u8 a0, .int .u8 a1, .int .u8 a2] w fun e w' => e = .returned (.bool true) ∧ Below w.heap.size w w' := by
 obtain ⟨k, h⟩ := P a0 a1 a2 w0 w1 w2
 refine (norialaw10_SchemaNames.calls k a0 a1 a2 true w h).mono ?_
 rintro e w' ⟨rfl, hd⟩
 exact ⟨rfl, hd⟩

end Go.Proofs.Ythflicjbclcbaaa.PAll
