-- Printed by this session's own program (wip/tools/pp.py): out of the translation. Lean checks it.
import Derived.Test.YtaflcaillcjmmaaDoorPAllx0
import Derived.Test.YtaflcaillcjmmaaDoorPAllx1
import Derived.Test.YtaflcaillcjmmaaDoorPAllx3
import Derived.Test.YtaflcaillcjmmaaDoorPAllx6
import Derived.Test.YtaflcaillcjmmaaDoorPAllx7
import Derived.Test.YtaflcaillcjmmaaDoorPAllx8
namespace Go.Proofs.YtaflcaillcjmmaaDoor.PAll
open Go.Proofs.YtaflcaillcjmmaaDoor.Help
open Go.RowKit Go.Proofs.YtaflcaillcjmmaaDoorW.PrintWords Go.Proofs.YtaflcaillcjmmaaDoorW.PrintLast Go.Proofs.YtaflcaillcjmmaaDoorW.PrintMore
attribute [local go_sem] run_fl_eql run_fl_neq run_fl_lss run_fl_leq run_fl_gtr run_fl_geq unary_fl_neg run_cx_eql run_cx_neq run_cx_make run_cx_real run_cx_imag run_fl_of run_fl_to64 run_fl_add run_fl_sub run_fl_mul run_cx_add run_cx_sub run_cx_store run_fl_store str_gtr str_leq str_geq cell_put3_0 cell_put3_1 cell_put4_0 cell_put4_1 max2_int min2_int max_two min_two max_three min_three max_four min_four   -- for this text's walks alone
set_option linter.unusedVariables false
set_option linter.unusedSimpArgs false

attribute [local go_sem high] eqA27
/-! ### norialaw3_ValNumbers: function 4 -/
def norialaw3_ValNumbers.f (k : Nat) (a0 : Int) (a1 : Int) : Option (Bool) := (norialaw3_known.f k).bind fun t328 => (if t328 = true then ((norialaw3_N.f a0).bind fun bt329 => ((val_Text.f k bt329.1 bt329.2.1 bt329.2.2.1 bt329.2.2.2).bind fun t333 => ((val_Parse.f k t333).bind fun bt334 => ((norialaw3_N.f a0).bind fun bt340 => ((norialaw3_N.f a1).bind fun bt344 => ((val_Compare.f k bt340.1 bt340.2.1 bt340.2.2.1 bt340.2.2.2 bt344.1 bt344.2.1 bt344.2.2.1 bt344.2.2.2).bind fun t348 => (if bt334.2.2.2.2 = 0 then ((norialaw3_N.f a0).bind fun bt349 => (if (bt334.1 == bt349.1 && (bt334.2.1 == bt349.2.1 && (bt334.2.2.1.toList == bt349.2.2.1.toList && (cEq bt334.2.2.2.1.1 bt334.2.2.2.1.2 bt349.2.2.2.1 bt349.2.2.2.2)))) = true then (if ((decide (t348 < 0)) == (decide (a0 < a1))) = true then (if ((t348 == 0) == (a0 == a1)) = true then ((norialaw3_N.f a0).bind fun bt353 => ((val_Text.f k bt353.1 bt353.2.1 bt353.2.2.1 bt353.2.2.2).bind fun t357 => ((norialaw3_N.f a1).bind fun bt358 => ((val_Text.f k bt358.1 bt358.2.1 bt358.2.2.1 bt358.2.2.2).bind fun t362 => (if ((t357.toList == t362.toList) == (a0 == a1)) = true then ((norialaw3_N.f a0).bind fun bt363 => ((norialaw3_N.f a1).bind fun bt367 => ((val_Same.f k bt363.1 bt363.2.1 bt363.2.2.1 bt363.2.2.2 bt367.1 bt367.2.1 bt367.2.2.1 bt367.2.2.2).bind fun t371 => (some (t371 == (a0 == a1)))))) else (none)))))) else (none)) else (none)) else (none))) else (none)))))))) else (none))
theorem norialaw3_ValNumbers.mono : ∀ a0 a1 k, LeO (norialaw3_ValNumbers.f k a0 a1) (norialaw3_ValNumbers.f (k + 1) a0 a1) := by
  intro a0 a1 k
  unfold norialaw3_ValNumbers.f
  repeat' first
      | (with_reducible exact norialaw3_known.mono _)
      | (with_reducible exact val_Compare.mono _ _ _ _ _ _ _ _ _)
      | (with_reducible exact val_Parse.mono _ _)
      | (with_reducible exact val_Same.mono _ _ _ _ _ _ _ _ _)
      | (with_reducible exact val_Text.mono _ _ _ _ _)
      | (with_reducible exact LeO.refl _)
      | (with_reducible exact LeO.none _)
      | (with_reducible refine LeO.ite ?_ ?_)
      | (with_reducible refine LeO.bind ?_ (fun _ => ?_))
      | exact norialaw3_known.mono _
      | exact val_Compare.mono _ _ _ _ _ _ _ _ _
      | exact val_Parse.mono _ _
      | exact val_Same.mono _ _ _ _ _ _ _ _ _
      | exact val_Text.mono _ _ _ _ _
      | exact LeO.none _
      | refine LeO.ite ?_ ?_
      | refine LeO.bind ?_ (fun _ => ?_)
def norialaw3_ValNumbers.T5 : Bool × List (List Nat × List Nat) := (true, [([], []), ([0], [0]), ([1], [1]), ([2], [2]), ([2], [2]), ([4, 2, 2], [2, 4]), ([3, 5, 2], [2, 3, 5]), ([2, 6], [2, 6]), ([7, 5], [7]), ([8], [8]), ([9, 8], [8, 9]), ([8], [8]), ([8], [8]), ([11, 12, 8], [8, 11, 12]), ([10, 13, 8], [8, 10, 13]), ([8, 14], [8, 14]), ([15, 8], [15]), ([16], [16]), ([17, 16], [16, 17]), ([16], [16]), ([16], [16]), ([19, 20, 16], [16, 19, 20]), ([18, 21, 16], [16, 18, 21]), ([16, 22], [16, 22]), ([23, 16], [23]), ([24], [24]), ([25, 24, 24], [24, 25]), ([26, 26, 24], [24, 26]), ([24], [24]), ([28, 27, 24], [24, 28]), ([29, 29, 24], [24, 29]), ([27, 30, 24], [24, 27, 30]), ([24], [24]), ([24], [24]), ([32, 33, 24], [24, 32, 33]), ([31, 34, 24], [24, 31, 34]), ([24, 35], [24, 35]), ([36, 30], [36]), ([37], [37]), ([38, 37, 37], [37, 38]), ([37], [37]), ([40, 39, 37], [37, 40]), ([39, 41, 41, 37], [37, 39, 41]), ([37], [37]), ([37], [37]), ([43, 44, 37], [37, 43, 44]), ([42, 45, 37], [37, 42, 45]), ([37, 46], [37, 46]), ([47, 42, 0, 1, 2, 3, 4, 5, 6, 7, 8, 9, 10, 11, 12, 13, 14, 15, 16, 17, 18, 19, 20, 21, 22, 23, 24, 25, 26, 27, 28, 29, 30, 31, 32, 33, 34, 35, 36, 37, 38, 39, 40, 41, 42, 43, 44, 45, 46, 47], [47])])
def norialaw3_ValNumbers.B5 : List Nat := [0, 1, 3, 7, 7, 23, 63, 127, 255, 511, 1023, 511, 511, 6655, 16383, 32767, 65535, 131071, 262143, 131071, 131071, 1703935, 4194303, 8388607, 16777215, 33554431, 67108863, 134217727, 33554431, 536870911, 1073741823, 2147483647, 33554431, 33554431, 12918456319, 34359738367, 68719476735, 137438953471, 274877906943, 549755813887, 274877906943, 2199023255551, 4398046511103, 274877906943, 274877906943, 26663156973567, 70368744177663, 140737488355327, 281474976710655]
theorem norialaw3_ValNumbers.tab5 : rtab .any (opsOf Tryd.f4 5) = norialaw3_ValNumbers.T5 := by kernel_rfl
theorem norialaw3_ValNumbers.bits5 : waitsOk norialaw3_ValNumbers.T5.2 norialaw3_ValNumbers.B5 = true := by kernel_rfl
set_option maxHeartbeats 8000000 in
set_option maxRecDepth 100000 in
theorem norialaw3_ValNumbers.calls (k : Nat) (a0 : Int) (a1 : Int) (r : Bool) (w : World) (h : norialaw3_ValNumbers.f k a0 a1 = some r) (hG_ : Glob w) :
    Calls Tryd.prog 4 #[.int .i64 a0, .int .i64 a1] w fun e w' => e = .returned (.bool r) ∧ Below w.heap.size w w' := by
  have HG_ := Aside0.mk hG_
  clear hG_
  have hu27 := Tryd.underlying27
  have HB := Aside0.mk (Below.refl w.heap.size w)
  have H : ((norialaw3_known.f k).bind fun t328 => (if t328 = true then ((norialaw3_N.f a0).bind fun bt329 => ((val_Text.f k bt329.1 bt329.2.1 bt329.2.2.1 bt329.2.2.2).bind fun t333 => ((val_Parse.f k t333).bind fun bt334 => ((norialaw3_N.f a0).bind fun bt340 => ((norialaw3_N.f a1).bind fun bt344 => ((val_Compare.f k bt340.1 bt340.2.1 bt340.2.2.1 bt340.2.2.2 bt344.1 bt344.2.1 bt344.2.2.1 bt344.2.2.2).bind fun t348 => (if bt334.2.2.2.2 = 0 then ((norialaw3_N.f a0).bind fun bt349 => (if (bt334.1 == bt349.1 && (bt334.2.1 == bt349.2.1 && (bt334.2.2.1.toList == bt349.2.2.1.toList && (cEq bt334.2.2.2.1.1 bt334.2.2.2.1.2 bt349.2.2.2.1 bt349.2.2.2.2)))) = true then (if ((decide (t348 < 0)) == (decide (a0 < a1))) = true then (if ((t348 == 0) == (a0 == a1)) = true then ((norialaw3_N.f a0).bind fun bt353 => ((val_Text.f k bt353.1 bt353.2.1 bt353.2.2.1 bt353.2.2.2).bind fun t357 => ((norialaw3_N.f a1).bind fun bt358 => ((val_Text.f k bt358.1 bt358.2.1 bt358.2.2.1 bt358.2.2.2).bind fun t362 => (if ((t357.toList == t362.toList) == (a0 == a1)) = true then ((norialaw3_N.f a0).bind fun bt363 => ((norialaw3_N.f a1).bind fun bt367 => ((val_Same.f k bt363.1 bt363.2.1 bt363.2.2.1 bt363.2.2.2 bt367.1 bt367.2.1 bt367.2.2.1 bt367.2.2.2).bind fun t371 => (some (t371 == (a0 == a1)))))) else (none)))))) else (none)) else (none)) else (none))) else (none)))))))) else (none))) = some r := h
  clear h
  replace H := Option.bind_eq_some_iff.mp H
  obtain ⟨t328, A30, H⟩ := H
  replace H : (if t328 = true then ((norialaw3_N.f a0).bind fun bt329 => ((val_Text.f k bt329.1 bt329.2.1 bt329.2.2.1 bt329.2.2.2).bind fun t333 => ((val_Parse.f k t333).bind fun bt334 => ((norialaw3_N.f a0).bind fun bt340 => ((norialaw3_N.f a1).bind fun bt344 => ((val_Compare.f k bt340.1 bt340.2.1 bt340.2.2.1 bt340.2.2.2 bt344.1 bt344.2.1 bt344.2.2.1 bt344.2.2.2).bind fun t348 => (if bt334.2.2.2.2 = 0 then ((norialaw3_N.f a0).bind fun bt349 => (if (bt334.1 == bt349.1 && (bt334.2.1 == bt349.2.1 && (bt334.2.2.1.toList == bt349.2.2.1.toList && (cEq bt334.2.2.2.1.1 bt334.2.2.2.1.2 bt349.2.2.2.1 bt349.2.2.2.2)))) = true then (if ((decide (t348 < 0)) == (decide (a0 < a1))) = true then (if ((t348 == 0) == (a0 == a1)) = true then ((norialaw3_N.f a0).bind fun bt353 => ((val_Text.f k bt353.1 bt353.2.1 bt353.2.2.1 bt353.2.2.2).bind fun t357 => ((norialaw3_N.f a1).bind fun bt358 => ((val_Text.f k bt358.1 bt358.2.1 bt358.2.2.1 bt358.2.2.2).bind fun t362 => (if ((t357.toList == t362.toList) == (a0 == a1)) = true then ((norialaw3_N.f a0).bind fun bt363 => ((norialaw3_N.f a1).bind fun bt367 => ((val_Same.f k bt363.1 bt363.2.1 bt363.2.2.1 bt363.2.2.2 bt367.1 bt367.2.1 bt367.2.2.1 bt367.2.2.2).bind fun t371 => (some (t371 == (a0 == a1)))))) else (none)))))) else (none)) else (none)) else (none))) else (none)))))))) else (none)) = some r := H
  have A3 := Aside0.mk A30
  clear A30
  by_cases c4 : t328 = true
  · subst c4
    have H1 : ((norialaw3_N.f a0).bind fun bt329 => ((val_Text.f k bt329.1 bt329.2.1 bt329.2.2.1 bt329.2.2.2).bind fun t333 => ((val_Parse.f k t333).bind fun bt334 => ((norialaw3_N.f a0).bind fun bt340 => ((norialaw3_N.f a1).bind fun bt344 => ((val_Compare.f k bt340.1 bt340.2.1 bt340.2.2.1 bt340.2.2.2 bt344.1 bt344.2.1 bt344.2.2.1 bt344.2.2.2).bind fun t348 => (if bt334.2.2.2.2 = 0 then ((norialaw3_N.f a0).bind fun bt349 => (if (bt334.1 == bt349.1 && (bt334.2.1 == bt349.2.1 && (bt334.2.2.1.toList == bt349.2.2.1.toList && (cEq bt334.2.2.2.1.1 bt334.2.2.2.1.2 bt349.2.2.2.1 bt349.2.2.2.2)))) = true then (if ((decide (t348 < 0)) == (decide (a0 < a1))) = true then (if ((t348 == 0) == (a0 == a1)) = true then ((norialaw3_N.f a0).bind fun bt353 => ((val_Text.f k bt353.1 bt353.2.1 bt353.2.2.1 bt353.2.2.2).bind fun t357 => ((norialaw3_N.f a1).bind fun bt358 => ((val_Text.f k bt358.1 bt358.2.1 bt358.2.2.1 bt358.2.2.2).bind fun t362 => (if ((t357.toList == t362.toList) == (a0 == a1)) = true then ((norialaw3_N.f a0).bind fun bt363 => ((norialaw3_N.f a1).bind fun bt367 => ((val_Same.f k bt363.1 bt363.2.1 bt363.2.2.1 bt363.2.2.2 bt367.1 bt367.2.1 bt367.2.2.1 bt367.2.2.2).bind fun t371 => (some (t371 == (a0 == a1)))))) else (none)))))) else (none)) else (none)) else (none))) else (none)))))))) = some r := by rw [if_pos rfl] at H; exact H
    clear H
    have H := H1
    clear H1
    replace H := Option.bind_eq_some_iff.mp H
    obtain ⟨⟨t329, t330, t331, t332⟩, A50, H⟩ := H
    replace H : ((val_Text.f k t329 t330 t331 t332).bind fun t333 => ((val_Parse.f k t333).bind fun bt334 => ((norialaw3_N.f a0).bind fun bt340 => ((norialaw3_N.f a1).bind fun bt344 => ((val_Compare.f k bt340.1 bt340.2.1 bt340.2.2.1 bt340.2.2.2 bt344.1 bt344.2.1 bt344.2.2.1 bt344.2.2.2).bind fun t348 => (if bt334.2.2.2.2 = 0 then ((norialaw3_N.f a0).bind fun bt349 => (if (bt334.1 == bt349.1 && (bt334.2.1 == bt349.2.1 && (bt334.2.2.1.toList == bt349.2.2.1.toList && (cEq bt334.2.2.2.1.1 bt334.2.2.2.1.2 bt349.2.2.2.1 bt349.2.2.2.2)))) = true then (if ((decide (t348 < 0)) == (decide (a0 < a1))) = true then (if ((t348 == 0) == (a0 == a1)) = true then ((norialaw3_N.f a0).bind fun bt353 => ((val_Text.f k bt353.1 bt353.2.1 bt353.2.2.1 bt353.2.2.2).bind fun t357 => ((norialaw3_N.f a1).bind fun bt358 => ((val_Text.f k bt358.1 bt358.2.1 bt358.2.2.1 bt358.2.2.2).bind fun t362 => (if ((t357.toList == t362.toList) == (a0 == a1)) = true then ((norialaw3_N.f a0).bind fun bt363 => ((norialaw3_N.f a1).bind fun bt367 => ((val_Same.f k bt363.1 bt363.2.1 bt363.2.2.1 bt363.2.2.2 bt367.1 bt367.2.1 bt367.2.2.1 bt367.2.2.2).bind fun t371 => (some (t371 == (a0 == a1)))))) else (none)))))) else (none)) else (none)) else (none))) else (none))))))) = some r := H
    have A5 := Aside0.mk A50
    clear A50
    replace H := Option.bind_eq_some_iff.mp H
    obtain ⟨t333, A60, H⟩ := H
    replace H : ((val_Parse.f k t333).bind fun bt334 => ((norialaw3_N.f a0).bind fun bt340 => ((norialaw3_N.f a1).bind fun bt344 => ((val_Compare.f k bt340.1 bt340.2.1 bt340.2.2.1 bt340.2.2.2 bt344.1 bt344.2.1 bt344.2.2.1 bt344.2.2.2).bind fun t348 => (if bt334.2.2.2.2 = 0 then ((norialaw3_N.f a0).bind fun bt349 => (if (bt334.1 == bt349.1 && (bt334.2.1 == bt349.2.1 && (bt334.2.2.1.toList == bt349.2.2.1.toList && (cEq bt334.2.2.2.1.1 bt334.2.2.2.1.2 bt349.2.2.2.1 bt349.2.2.2.2)))) = true then (if ((decide (t348 < 0)) == (decide (a0 < a1))) = true then (if ((t348 == 0) == (a0 == a1)) = true then ((norialaw3_N.f a0).bind fun bt353 => ((val_Text.f k bt353.1 bt353.2.1 bt353.2.2.1 bt353.2.2.2).bind fun t357 => ((norialaw3_N.f a1).bind fun bt358 => ((val_Text.f k bt358.1 bt358.2.1 bt358.2.2.1 bt358.2.2.2).bind fun t362 => (if ((t357.toList == t362.toList) == (a0 == a1)) = true then ((norialaw3_N.f a0).bind fun bt363 => ((norialaw3_N.f a1).bind fun bt367 => ((val_Same.f k bt363.1 bt363.2.1 bt363.2.2.1 bt363.2.2.2 bt367.1 bt367.2.1 bt367.2.2.1 bt367.2.2.2).bind fun t371 => (some (t371 == (a0 == a1)))))) else (none)))))) else (none)) else (none)) else (none))) else (none)))))) = some r := H
    have A6 := Aside0.mk A60
    clear A60
    replace H := Option.bind_eq_some_iff.mp H
    obtain ⟨⟨t334, t335, t336, t337, t338⟩, A70, H⟩ := H
    replace H : ((norialaw3_N.f a0).bind fun bt340 => ((norialaw3_N.f a1).bind fun bt344 => ((val_Compare.f k bt340.1 bt340.2.1 bt340.2.2.1 bt340.2.2.2 bt344.1 bt344.2.1 bt344.2.2.1 bt344.2.2.2).bind fun t348 => (if t338 = 0 then ((norialaw3_N.f a0).bind fun bt349 => (if (t334 == bt349.1 && (t335 == bt349.2.1 && (t336.toList == bt349.2.2.1.toList && (cEq t337.1 t337.2 bt349.2.2.2.1 bt349.2.2.2.2)))) = true then (if ((decide (t348 < 0)) == (decide (a0 < a1))) = true then (if ((t348 == 0) == (a0 == a1)) = true then ((norialaw3_N.f a0).bind fun bt353 => ((val_Text.f k bt353.1 bt353.2.1 bt353.2.2.1 bt353.2.2.2).bind fun t357 => ((norialaw3_N.f a1).bind fun bt358 => ((val_Text.f k bt358.1 bt358.2.1 bt358.2.2.1 bt358.2.2.2).bind fun t362 => (if ((t357.toList == t362.toList) == (a0 == a1)) = true then ((norialaw3_N.f a0).bind fun bt363 => ((norialaw3_N.f a1).bind fun bt367 => ((val_Same.f k bt363.1 bt363.2.1 bt363.2.2.1 bt363.2.2.2 bt367.1 bt367.2.1 bt367.2.2.1 bt367.2.2.2).bind fun t371 => (some (t371 == (a0 == a1)))))) else (none)))))) else (none)) else (none)) else (none))) else (none))))) = some r := H
    have A7 := Aside0.mk A70
    clear A70
    replace H := Option.bind_eq_some_iff.mp H
    obtain ⟨⟨t340, t341, t342, t343⟩, A80, H⟩ := H
    replace H : ((norialaw3_N.f a1).bind fun bt344 => ((val_Compare.f k t340 t341 t342 t343 bt344.1 bt344.2.1 bt344.2.2.1 bt344.2.2.2).bind fun t348 => (if t338 = 0 then ((norialaw3_N.f a0).bind fun bt349 => (if (t334 == bt349.1 && (t335 == bt349.2.1 && (t336.toList == bt349.2.2.1.toList && (cEq t337.1 t337.2 bt349.2.2.2.1 bt349.2.2.2.2)))) = true then (if ((decide (t348 < 0)) == (decide (a0 < a1))) = true then (if ((t348 == 0) == (a0 == a1)) = true then ((norialaw3_N.f a0).bind fun bt353 => ((val_Text.f k bt353.1 bt353.2.1 bt353.2.2.1 bt353.2.2.2).bind fun t357 => ((norialaw3_N.f a1).bind fun bt358 => ((val_Text.f k bt358.1 bt358.2.1 bt358.2.2.1 bt358.2.2.2).bind fun t362 => (if ((t357.toList == t362.toList) == (a0 == a1)) = true then ((norialaw3_N.f a0).bind fun bt363 => ((norialaw3_N.f a1).bind fun bt367 => ((val_Same.f k bt363.1 bt363.2.1 bt363.2.2.1 bt363.2.2.2 bt367.1 bt367.2.1 bt367.2.2.1 bt367.2.2.2).bind fun t371 => (some (t371 == (a0 == a1)))))) else (none)))))) else (none)) else (none)) else (none))) else (none)))) = some r := H
    have A8 := Aside0.mk A80
    clear A80
    replace H := Option.bind_eq_some_iff.mp H
    obtain ⟨⟨t344, t345, t346, t347⟩, A90, H⟩ := H
    replace H : ((val_Compare.f k t340 t341 t342 t343 t344 t345 t346 t347).bind fun t348 => (if t338 = 0 then ((norialaw3_N.f a0).bind fun bt349 => (if (t334 == bt349.1 && (t335 == bt349.2.1 && (t336.toList == bt349.2.2.1.toList && (cEq t337.1 t337.2 bt349.2.2.2.1 bt349.2.2.2.2)))) = true then (if ((decide (t348 < 0)) == (decide (a0 < a1))) = true then (if ((t348 == 0) == (a0 == a1)) = true then ((norialaw3_N.f a0).bind fun bt353 => ((val_Text.f k bt353.1 bt353.2.1 bt353.2.2.1 bt353.2.2.2).bind fun t357 => ((norialaw3_N.f a1).bind fun bt358 => ((val_Text.f k bt358.1 bt358.2.1 bt358.2.2.1 bt358.2.2.2).bind fun t362 => (if ((t357.toList == t362.toList) == (a0 == a1)) = true then ((norialaw3_N.f a0).bind fun bt363 => ((norialaw3_N.f a1).bind fun bt367 => ((val_Same.f k bt363.1 bt363.2.1 bt363.2.2.1 bt363.2.2.2 bt367.1 bt367.2.1 bt367.2.2.1 bt367.2.2.2).bind fun t371 => (some (t371 == (a0 == a1)))))) else (none)))))) else (none)) else (none)) else (none))) else (none))) = some r := H
    have A9 := Aside0.mk A90
    clear A90
    replace H := Option.bind_eq_some_iff.mp H
    obtain ⟨t348, A100, H⟩ := H
    replace H : (if t338 = 0 then ((norialaw3_N.f a0).bind fun bt349 => (if (t334 == bt349.1 && (t335 == bt349.2.1 && (t336.toList == bt349.2.2.1.toList && (cEq t337.1 t337.2 bt349.2.2.2.1 bt349.2.2.2.2)))) = true then (if ((decide (t348 < 0)) == (decide (a0 < a1))) = true then (if ((t348 == 0) == (a0 == a1)) = true then ((norialaw3_N.f a0).bind fun bt353 => ((val_Text.f k bt353.1 bt353.2.1 bt353.2.2.1 bt353.2.2.2).bind fun t357 => ((norialaw3_N.f a1).bind fun bt358 => ((val_Text.f k bt358.1 bt358.2.1 bt358.2.2.1 bt358.2.2.2).bind fun t362 => (if ((t357.toList == t362.toList) == (a0 == a1)) = true then ((norialaw3_N.f a0).bind fun bt363 => ((norialaw3_N.f a1).bind fun bt367 => ((val_Same.f k bt363.1 bt363.2.1 bt363.2.2.1 bt363.2.2.2 bt367.1 bt367.2.1 bt367.2.2.1 bt367.2.2.2).bind fun t371 => (some (t371 == (a0 == a1)))))) else (none)))))) else (none)) else (none)) else (none))) else (none)) = some r := H
    have A10 := Aside0.mk A100
    clear A100
    by_cases c11 : t338 = 0
    · rw [if_pos c11] at H
      have c11b0 : (t338 == 0) = true := beq_iff_eq.mpr c11
      have c11b1 : (t338 != 0) = false := bne_eq_false_iff_eq.mpr c11
      clear c11
      replace H := Option.bind_eq_some_iff.mp H
      obtain ⟨⟨t349, t350, t351, t352⟩, A120, H⟩ := H
      replace H : (if (t334 == t349 && (t335 == t350 && (t336.toList == t351.toList && (cEq t337.1 t337.2 t352.1 t352.2)))) = true then (if ((decide (t348 < 0)) == (decide (a0 < a1))) = true then (if ((t348 == 0) == (a0 == a1)) = true then ((norialaw3_N.f a0).bind fun bt353 => ((val_Text.f k bt353.1 bt353.2.1 bt353.2.2.1 bt353.2.2.2).bind fun t357 => ((norialaw3_N.f a1).bind fun bt358 => ((val_Text.f k bt358.1 bt358.2.1 bt358.2.2.1 bt358.2.2.2).bind fun t362 => (if ((t357.toList == t362.toList) == (a0 == a1)) = true then ((norialaw3_N.f a0).bind fun bt363 => ((norialaw3_N.f a1).bind fun bt367 => ((val_Same.f k bt363.1 bt363.2.1 bt363.2.2.1 bt363.2.2.2 bt367.1 bt367.2.1 bt367.2.2.1 bt367.2.2.2).bind fun t371 => (some (t371 == (a0 == a1)))))) else (none)))))) else (none)) else (none)) else (none)) = some r := H
      have A12 := Aside0.mk A120
      clear A120
      by_cases c13 : (t334 == t349 && (t335 == t350 && (t336.toList == t351.toList && (cEq t337.1 t337.2 t352.1 t352.2)))) = true
      · rw [if_pos c13] at H
        have c13b0 : (t334 == t349 && (t335 == t350 && (t336.toList == t351.toList && (cEq t337.1 t337.2 t352.1 t352.2)))) = true := c13
        (try (have c13b1 : decide (t334 = t349 && (t335 == t350 && (t336.toList == t351.toList && (cEq t337.1 t337.2 t352.1 t352.2)))) = true := by simpa using c13))
        (try (have c13b2 : (t334 == t349 && (t335 == t350 && (t336.toList == t351.toList && (cEq t337.1 t337.2 t352.1 t352.2)))) = true := by simpa using c13))
        clear c13
        by_cases c14 : ((decide (t348 < 0)) == (decide (a0 < a1))) = true
        · rw [if_pos c14] at H
          have c14b0 : ((decide (t348 < 0)) == (decide (a0 < a1))) = true := c14
          (try (have c14b1 : decide ((decide (t348 < 0)) = (decide (a0 < a1))) = true := by simpa using c14))
          (try (have c14b2 : ((decide (t348 < 0)) == (decide (a0 < a1))) = true := by simpa using c14))
          clear c14
          by_cases c15 : ((t348 == 0) == (a0 == a1)) = true
          · rw [if_pos c15] at H
            have c15b0 : ((t348 == 0) == (a0 == a1)) = true := c15
            (try (have c15b1 : decide ((t348 == 0) = (a0 == a1)) = true := by simpa using c15))
            (try (have c15b2 : ((t348 == 0) == (a0 == a1)) = true := by simpa using c15))
            clear c15
            replace H := Option.bind_eq_some_iff.mp H
            obtain ⟨⟨t353, t354, t355, t356⟩, A160, H⟩ := H
            replace H : ((val_Text.f k t353 t354 t355 t356).bind fun t357 => ((norialaw3_N.f a1).bind fun bt358 => ((val_Text.f k bt358.1 bt358.2.1 bt358.2.2.1 bt358.2.2.2).bind fun t362 => (if ((t357.toList == t362.toList) == (a0 == a1)) = true then ((norialaw3_N.f a0).bind fun bt363 => ((norialaw3_N.f a1).bind fun bt367 => ((val_Same.f k bt363.1 bt363.2.1 bt363.2.2.1 bt363.2.2.2 bt367.1 bt367.2.1 bt367.2.2.1 bt367.2.2.2).bind fun t371 => (some (t371 == (a0 == a1)))))) else (none))))) = some r := H
            have A16 := Aside0.mk A160
            clear A160
            replace H := Option.bind_eq_some_iff.mp H
            obtain ⟨t357, A170, H⟩ := H
            replace H : ((norialaw3_N.f a1).bind fun bt358 => ((val_Text.f k bt358.1 bt358.2.1 bt358.2.2.1 bt358.2.2.2).bind fun t362 => (if ((t357.toList == t362.toList) == (a0 == a1)) = true then ((norialaw3_N.f a0).bind fun bt363 => ((norialaw3_N.f a1).bind fun bt367 => ((val_Same.f k bt363.1 bt363.2.1 bt363.2.2.1 bt363.2.2.2 bt367.1 bt367.2.1 bt367.2.2.1 bt367.2.2.2).bind fun t371 => (some (t371 == (a0 == a1)))))) else (none)))) = some r := H
            have A17 := Aside0.mk A170
            clear A170
            replace H := Option.bind_eq_some_iff.mp H
            obtain ⟨⟨t358, t359, t360, t361⟩, A180, H⟩ := H
            replace H : ((val_Text.f k t358 t359 t360 t361).bind fun t362 => (if ((t357.toList == t362.toList) == (a0 == a1)) = true then ((norialaw3_N.f a0).bind fun bt363 => ((norialaw3_N.f a1).bind fun bt367 => ((val_Same.f k bt363.1 bt363.2.1 bt363.2.2.1 bt363.2.2.2 bt367.1 bt367.2.1 bt367.2.2.1 bt367.2.2.2).bind fun t371 => (some (t371 == (a0 == a1)))))) else (none))) = some r := H
            have A18 := Aside0.mk A180
            clear A180
            replace H := Option.bind_eq_some_iff.mp H
            obtain ⟨t362, A190, H⟩ := H
            replace H : (if ((t357.toList == t362.toList) == (a0 == a1)) = true then ((norialaw3_N.f a0).bind fun bt363 => ((norialaw3_N.f a1).bind fun bt367 => ((val_Same.f k bt363.1 bt363.2.1 bt363.2.2.1 bt363.2.2.2 bt367.1 bt367.2.1 bt367.2.2.1 bt367.2.2.2).bind fun t371 => (some (t371 == (a0 == a1)))))) else (none)) = some r := H
            have A19 := Aside0.mk A190
            clear A190
            by_cases c20 : ((t357.toList == t362.toList) == (a0 == a1)) = true
            · rw [if_pos c20] at H
              have c20b0 : ((t357.toList == t362.toList) == (a0 == a1)) = true := c20
              (try (have c20b1 : decide ((t357.toList == t362.toList) = (a0 == a1)) = true := by simpa using c20))
              (try (have c20b2 : ((t357.toList == t362.toList) == (a0 == a1)) = true := by simpa using c20))
              clear c20
              replace H := Option.bind_eq_some_iff.mp H
              obtain ⟨⟨t363, t364, t365, t366⟩, A210, H⟩ := H
              replace H : ((norialaw3_N.f a1).bind fun bt367 => ((val_Same.f k t363 t364 t365 t366 bt367.1 bt367.2.1 bt367.2.2.1 bt367.2.2.2).bind fun t371 => (some (t371 == (a0 == a1))))) = some r := H
              have A21 := Aside0.mk A210
              clear A210
              replace H := Option.bind_eq_some_iff.mp H
              obtain ⟨⟨t367, t368, t369, t370⟩, A220, H⟩ := H
              replace H : ((val_Same.f k t363 t364 t365 t366 t367 t368 t369 t370).bind fun t371 => (some (t371 == (a0 == a1)))) = some r := H
              have A22 := Aside0.mk A220
              clear A220
              replace H := Option.bind_eq_some_iff.mp H
              obtain ⟨t371, A230, H⟩ := H
              replace H : (some (t371 == (a0 == a1))) = some r := H
              have A23 := Aside0.mk A230
              clear A230
              obtain rfl := Option.some.inj H
              go_enter Tryd.func4, Tryd.ntmps4
              try go_wp2_with (first | ((with_reducible refine gate_callee (f := 5) rfl ?_); refine goesL_ (some 8) rfl rfl Tryd.func5 (by kernel_rfl) rfl #[] rfl (by (try simp only [List.map_toArray, List.map_cons, List.map_nil]); first | done | rfl | (simp only [List.length_drop, List.length_take]; rfl)) ?_; (with_reducible refine (norialaw3_known.calls k  true _ A3.out (Glob.below HG_.out (by repeat (first | (with_reducible first | exact HB.out | apply below_alloc | apply pw_below_drewN | apply below_drew1) | exact HB.out)))).mono ?_); rintro e w24 ⟨rfl, hb⟩; refine ⟨_, rfl, ?_⟩; have n0_ := Aside0.mk (below_step (by repeat (first | (with_reducible first | exact HB.out | apply below_alloc | apply pw_below_drewN | apply below_drew1) | exact HB.out)) hb); clear HB; have HB := n0_; clear n0_; (try clear hb); (try clear hb2); (try clear hk); (try clear hi)) | ((with_reducible refine gate_callee (f := 11) rfl ?_); refine goesL_ (some 12) rfl rfl Tryd.func11 (by kernel_rfl) rfl #[.int .i64 a0] rfl (by (try simp only [List.map_toArray, List.map_cons, List.map_nil]); first | done | rfl | (simp only [List.length_drop, List.length_take]; rfl)) ?_; (with_reducible refine (norialaw3_N.calls a0 t329 t330 t331 t332 _ A5.out).mono ?_); rintro e w25 ⟨rfl, hb⟩; refine ⟨_, rfl, ?_⟩; have n0_ := Aside0.mk (below_step (by repeat (first | (with_reducible first | exact HB.out | apply below_alloc | apply pw_below_drewN | apply below_drew1) | exact HB.out)) hb); clear HB; have HB := n0_; clear n0_; (try clear hb); (try clear hb2); (try clear hk); (try clear hi)) | ((with_reducible refine gate_callee (f := 8) rfl ?_); refine goesL_ (some 13) rfl rfl Tryd.func8 (by kernel_rfl) rfl #[.agg #[.int .i64 t329, .int .i64 t330, .string t331, .complex .f64 t332.1 t332.2]] rfl (by (try simp only [List.map_toArray, List.map_cons, List.map_nil]); first | done | rfl | (simp only [List.length_drop, List.length_take]; rfl)) ?_; (with_reducible refine (val_Text.calls k t329 t330 t331 t332 t333 _ A6.out (Glob.below HG_.out (by repeat (first | (with_reducible first | exact HB.out | apply below_alloc | apply pw_below_drewN | apply below_drew1) | exact HB.out)))).mono ?_); rintro e w26 ⟨rfl, hb⟩; refine ⟨_, rfl, ?_⟩; have n0_ := Aside0.mk (below_step (by repeat (first | (with_reducible first | exact HB.out | apply below_alloc | apply pw_below_drewN | apply below_drew1) | exact HB.out)) hb); clear HB; have HB := n0_; clear n0_; (try clear hb); (try clear hb2); (try clear hk); (try clear hi)) | ((with_reducible refine gate_callee (f := 9) rfl ?_); refine goesL_ (some 14) rfl rfl Tryd.func9 (by kernel_rfl) rfl #[.string t333] rfl (by (try simp only [List.map_toArray, List.map_cons, List.map_nil]); first | done | rfl | (simp only [List.length_drop, List.length_take]; rfl)) ?_; (with_reducible refine (val_Parse.calls k t333 t334 t335 t336 t337 t338 _ A7.out (Glob.below HG_.out (by repeat (first | (with_reducible first | exact HB.out | apply below_alloc | apply pw_below_drewN | apply below_drew1) | exact HB.out)))).mono ?_); rintro e w27 ⟨rfl, hb⟩; refine ⟨_, rfl, ?_⟩; have n0_ := Aside0.mk (below_step (by repeat (first | (with_reducible first | exact HB.out | apply below_alloc | apply pw_below_drewN | apply below_drew1) | exact HB.out)) hb); clear HB; have HB := n0_; clear n0_; (try clear hb); (try clear hb2); (try clear hk); (try clear hi)) | ((with_reducible refine gate_dst (N := 5) rfl ?_); refine box_event ?hg (N := 5) ?hd (cs := #[.int .i64 0, .int .i64 0, .string (⟨#[]⟩ : ByteArray), .complex .f64 0 0]) (t := 27) ?hr ?_; (case hd => rfl); (case hg => rfl); (case hr => first | (go_simp; done) | (go_simp; rfl)); intro gb339 hg w28 hbox hb; have n0_ := Aside0.mk (below_step (by repeat (first | (with_reducible first | exact HB.out | apply below_alloc | apply pw_below_drewN | apply below_drew1) | exact HB.out)) hb); have n1_ := Aside0.mk (hbox); have n2_ := Aside0.mk ((by rw [hg]; exact (below_size (by repeat (first | (with_reducible first | exact HB.out | apply below_alloc | apply pw_below_drewN | apply below_drew1) | exact HB.out))) : w.heap.size ≤ gb339)); have n3_ := Aside0.mk ((by rw [hg]; exact (below_size (by repeat (first | (with_reducible first | exact HB.out | apply below_alloc | apply pw_below_drewN | apply below_drew1) | exact HB.out))) : w.heap.size ≤ gb339)); clear HB; have HB := n0_; have BK339 := n1_; have GW339 := n2_; have GE339 := n3_; clear n0_ n1_ n2_ n3_; clear hb hbox hg; have hcz29_0 : w28.cell? ⟨gb339, 0, none⟩ = some (.int .i64 0) := (blk_cell BK339.out 0).trans rfl; have hcz29_1 : w28.cell? ⟨gb339, 1, none⟩ = some (.int .i64 0) := (blk_cell BK339.out 1).trans rfl; have hcz29_2 : w28.cell? ⟨gb339, 2, none⟩ = some (.string (⟨#[]⟩ : ByteArray)) := (blk_cell BK339.out 2).trans rfl; have hcz29_3 : w28.cell? ⟨gb339, 3, none⟩ = some (.complex .f64 0 0) := (blk_cell BK339.out 3).trans rfl; have hfz29_0 := blk_frozen BK339.out 0; have hfz29_1 := blk_frozen BK339.out 1; have hfz29_2 := blk_frozen BK339.out 2; have hfz29_3 := blk_frozen BK339.out 3) | ((with_reducible refine gate_callee (f := 11) rfl ?_); refine goesL_ (some 18) rfl rfl Tryd.func11 (by kernel_rfl) rfl #[.int .i64 a0] rfl (by (try simp only [List.map_toArray, List.map_cons, List.map_nil]); first | done | rfl | (simp only [List.length_drop, List.length_take]; rfl)) ?_; (with_reducible refine (norialaw3_N.calls a0 t340 t341 t342 t343 _ A8.out).mono ?_); rintro e w30 ⟨rfl, hb⟩; refine ⟨_, rfl, ?_⟩; have n0_ := Aside0.mk (blk_below (g := gb339) (o := .cells #[.int .i64 t334, .int .i64 t335, .string t336, .complex .f64 t337.1 t337.2] 27 (0, 0)) (by (with_reducible repeat (first | refine blk_drewN ?_ _ | refine blk_drew ?_ | refine blk_alloc ?_ _)); refine blk_put (cs := #[.int .i64 t334, .int .i64 t335, .string t336, .complex .f64 0 0]) ?_ 3 _ rfl; (with_reducible repeat (first | refine blk_drewN ?_ _ | refine blk_drew ?_ | refine blk_alloc ?_ _)); refine blk_put (cs := #[.int .i64 t334, .int .i64 t335, .string (⟨#[]⟩ : ByteArray), .complex .f64 0 0]) ?_ 2 _ rfl; (with_reducible repeat (first | refine blk_drewN ?_ _ | refine blk_drew ?_ | refine blk_alloc ?_ _)); refine blk_put (cs := #[.int .i64 t334, .int .i64 0, .string (⟨#[]⟩ : ByteArray), .complex .f64 0 0]) ?_ 1 _ rfl; (with_reducible repeat (first | refine blk_drewN ?_ _ | refine blk_drew ?_ | refine blk_alloc ?_ _)); refine blk_put (cs := #[.int .i64 0, .int .i64 0, .string (⟨#[]⟩ : ByteArray), .complex .f64 0 0]) ?_ 0 _ rfl; (with_reducible repeat (first | refine blk_drewN ?_ _ | refine blk_drew ?_ | refine blk_alloc ?_ _)); exact BK339.out) hb); have n1_ := Aside0.mk (below_step (by repeat (first | (with_reducible first | exact HB.out | apply below_alloc | apply pw_below_drewN | apply below_drew1 | refine below_set ?_ GE339.out) | exact HB.out)) hb); clear BK339; clear HB; have BK339 := n0_; have HB := n1_; clear n0_ n1_; (try clear hb); (try clear hb2); (try clear hk); (try clear hi)) | ((with_reducible refine gate_callee (f := 11) rfl ?_); refine goesL_ (some 20) rfl rfl Tryd.func11 (by kernel_rfl) rfl #[.int .i64 a1] rfl (by (try simp only [List.map_toArray, List.map_cons, List.map_nil]); first | done | rfl | (simp only [List.length_drop, List.length_take]; rfl)) ?_; (with_reducible refine (norialaw3_N.calls a1 t344 t345 t346 t347 _ A9.out).mono ?_); rintro e w31 ⟨rfl, hb⟩; refine ⟨_, rfl, ?_⟩; have n0_ := Aside0.mk (blk_below (g := gb339) (o := .cells #[.int .i64 t334, .int .i64 t335, .string t336, .complex .f64 t337.1 t337.2] 27 (0, 0)) (by (with_reducible repeat (first | refine blk_drewN ?_ _ | refine blk_drew ?_ | refine blk_alloc ?_ _)); exact BK339.out) hb); have n1_ := Aside0.mk (below_step (by repeat (first | (with_reducible first | exact HB.out | apply below_alloc | apply pw_below_drewN | apply below_drew1 | refine below_set ?_ GE339.out) | exact HB.out)) hb); clear BK339; clear HB; have BK339 := n0_; have HB := n1_; clear n0_ n1_; (try clear hb); (try clear hb2); (try clear hk); (try clear hi)) | ((with_reducible refine gate_callee (f := 10) rfl ?_); refine goesL_ (some 21) rfl rfl Tryd.func10 (by kernel_rfl) rfl #[.agg #[.int .i64 t340, .int .i64 t341, .string t342, .complex .f64 t343.1 t343.2], .agg #[.int .i64 t344, .int .i64 t345, .string t346, .complex .f64 t347.1 t347.2]] rfl (by (try simp only [List.map_toArray, List.map_cons, List.map_nil]); first | done | rfl | (simp only [List.length_drop, List.length_take]; rfl)) ?_; (with_reducible refine (val_Compare.calls k t340 t341 t342 t343 t344 t345 t346 t347 t348 _ A10.out).mono ?_); rintro e w32 ⟨rfl, hb⟩; refine ⟨_, rfl, ?_⟩; have n0_ := Aside0.mk (blk_below (g := gb339) (o := .cells #[.int .i64 t334, .int .i64 t335, .string t336, .complex .f64 t337.1 t337.2] 27 (0, 0)) (by (with_reducible repeat (first | refine blk_drewN ?_ _ | refine blk_drew ?_ | refine blk_alloc ?_ _)); exact BK339.out) hb); have n1_ := Aside0.mk (below_step (by repeat (first | (with_reducible first | exact HB.out | apply below_alloc | apply pw_below_drewN | apply below_drew1 | refine below_set ?_ GE339.out) | exact HB.out)) hb); clear BK339; clear HB; have BK339 := n0_; have HB := n1_; clear n0_ n1_; (try clear hb); (try clear hb2); (try clear hk); (try clear hi)))
              have n0_ := Aside0.mk (blk_drew BK339.out)
              have n1_ := Aside0.mk (below_drew1 HB.out)
              clear BK339
              clear HB
              have BK339 := n0_
              have HB := n1_
              clear n0_ n1_
              refine start_ (n := 49) (S := fun w' => w'.cell? ⟨gb339, 0, none⟩ = some (.int .i64 t334) ∧ w'.cell? ⟨gb339, 1, none⟩ = some (.int .i64 t335) ∧ w'.cell? ⟨gb339, 2, none⟩ = some (.string t336) ∧ w'.cell? ⟨gb339, 3, none⟩ = some (.complex .f64 t337.1 t337.2)) (ds := []) #[false, false, false, false, false, false, false, false, false, false, false, false, false, false, false, false, false, false, false, false, false, false, false, false, false, false, false, false, false, false, false, false, false, false, false, false, false, false, false, false, false, false, false, false, false, false, false, false, false] (by kernel_rfl) rfl rfl ⟨(blk_cell BK339.out 0).trans rfl, (blk_cell BK339.out 1).trans rfl, (blk_cell BK339.out 2).trans rfl, (blk_cell BK339.out 3).trans rfl⟩ (fun hHeld => ?_); refine with_tabW norialaw3_ValNumbers.tab5 norialaw3_ValNumbers.bits5 (fun HT_ HW_ => ?_)
              generalize w32.drew = w33 at BK339 HB hHeld ⊢
              refine pure_ (i := 0) (N := some 22) (v := ?_) (a' := ?_) #[true, false, false, false, false, false, false, false, false, false, false, false, false, false, false, false, false, false, false, false, false, false, false, false, false, false, false, false, false, false, false, false, false, false, false, false, false, false, false, false, false, false, false, false, false, false, false, false, false] rfl rfl (any_of HT_.out (by kernel_rfl)) (fun _ _ _ h => h) (Or.inl ⟨by rfl, ?_⟩) ?_ ?_
              rotate_left
              · intro w'
                go_simp
                with_reducible rfl
              rotate_left
              · simp only [Act.put, List.setIfInBounds_toArray, List.set_cons_zero, List.set_cons_succ, i64_w, i32_w]
                rfl
              refine pure_ (i := 1) (N := some 23) (v := ?_) (a' := ?_) #[true, true, false, false, false, false, false, false, false, false, false, false, false, false, false, false, false, false, false, false, false, false, false, false, false, false, false, false, false, false, false, false, false, false, false, false, false, false, false, false, false, false, false, false, false, false, false, false, false] rfl rfl (any_of HT_.out (by kernel_rfl)) (fun _ _ _ h => h) (Or.inl ⟨by rfl, ?_⟩) ?_ ?_
              rotate_left
              · intro w'
                go_simp
                with_reducible rfl
              rotate_left
              · simp only [Act.put, List.setIfInBounds_toArray, List.set_cons_zero, List.set_cons_succ, i64_w, i32_w]
                rfl
              refine pure_ (i := 2) (N := some 24) (v := ?_) (a' := ?_) #[true, true, true, false, false, false, false, false, false, false, false, false, false, false, false, false, false, false, false, false, false, false, false, false, false, false, false, false, false, false, false, false, false, false, false, false, false, false, false, false, false, false, false, false, false, false, false, false, false] rfl rfl (any_of HT_.out (by kernel_rfl)) (fun _ _ _ h => h) (Or.inl ⟨by rfl, ?_⟩) ?_ ?_
              rotate_left
              · intro w'
                go_simp
                with_reducible rfl
              rotate_left
              · simp only [Act.put, List.setIfInBounds_toArray, List.set_cons_zero, List.set_cons_succ, i64_w, i32_w]
                rfl
              refine pure_ (i := 4) (N := some 26) (v := ?_) (a' := ?_) #[true, true, true, false, true, false, false, false, false, false, false, false, false, false, false, false, false, false, false, false, false, false, false, false, false, false, false, false, false, false, false, false, false, false, false, false, false, false, false, false, false, false, false, false, false, false, false, false, false] rfl rfl (any_of HT_.out (by kernel_rfl)) (fun _ _ _ h => h) (Or.inl ⟨by rfl, ?_⟩) ?_ ?_
              rotate_left
              · intro w'
                go_simp
                with_reducible rfl
              rotate_left
              · simp only [Act.put, List.setIfInBounds_toArray, List.set_cons_zero, List.set_cons_succ, i64_w, i32_w]
                rfl
              refine take_ (i := 3) (N := some 25) (v := ?_) (a' := ?_) #[true, true, true, true, true, false, false, false, false, false, false, false, false, false, false, false, false, false, false, false, false, false, false, false, false, false, false, false, false, false, false, false, false, false, false, false, false, false, false, false, false, false, false, false, false, false, false, false, false] rfl rfl (take_ofW HT_.out HW_.out (by kernel_rfl)) (fun _ _ _ h => h) (Or.inl ⟨by rfl, ?_⟩) hHeld ?_ ?_
              rotate_left
              · rintro w' ⟨s0, s1, s2, s3⟩
                go_simp
                with_reducible rfl
              rotate_left
              · simp only [Act.put, List.setIfInBounds_toArray, List.set_cons_zero, List.set_cons_succ, i64_w, i32_w]
                rfl
              refine one_ (i := 5) (N := some 27) #[true, true, true, true, true, true, false, false, false, false, false, false, false, false, false, false, false, false, false, false, false, false, false, false, false, false, false, false, false, false, false, false, false, false, false, false, false, false, false, false, false, false, false, false, false, false, false, false, false] rfl rfl (one_of HT_.out (by kernel_rfl)) (by decide) (fun K hK => ?_)
              refine goes_ Tryd.func11 (by kernel_rfl) rfl #[.int .i64 a0] (by rfl) rfl rfl (by (try simp only [List.map_toArray, List.map_cons, List.map_nil]); first | done | rfl | (simp only [List.length_drop, List.length_take]; rfl)) ?_
              with_reducible refine (norialaw3_N.calls a0 t349 t350 t351 t352 _ A12.out).mono ?_
              rintro e w34 ⟨rfl, hb⟩
              refine ⟨_, rfl, ?_⟩
              have n0_ := Aside0.mk (blk_below (g := gb339) (o := .cells #[.int .i64 t334, .int .i64 t335, .string t336, .complex .f64 t337.1 t337.2] 27 (0, 0)) (by (with_reducible repeat (first | refine blk_drewN ?_ _ | refine blk_drew ?_ | refine blk_alloc ?_ _)); exact BK339.out) hb)
              have n1_ := Aside0.mk (below_step (by repeat (first | (with_reducible first | exact HB.out | apply below_alloc | apply pw_below_drewN | apply below_drew1 | refine below_set ?_ GE339.out) | exact HB.out)) hb)
              clear BK339
              clear HB
              have BK339 := n0_
              have HB := n1_
              clear n0_ n1_
              (try clear hb)
              (try clear hb2)
              (try clear hk)
              (try clear hi)
              refine hK.out _ _ ⟨(blk_cell BK339.out 0).trans rfl, (blk_cell BK339.out 1).trans rfl, (blk_cell BK339.out 2).trans rfl, (blk_cell BK339.out 3).trans rfl⟩ (fun hHeld => ?_)
              clear hK K
              refine norm_ (a' := ?_) ?_ ?_
              rotate_left
              · show Act.put _ (some 27) _ = _
                simp only [Act.put, List.setIfInBounds_toArray, List.set_cons_zero, List.set_cons_succ, i64_w, i32_w]
                rfl
              refine pure_ (i := 6) (N := some 28) (v := ?_) (a' := ?_) #[true, true, true, true, true, true, true, false, false, false, false, false, false, false, false, false, false, false, false, false, false, false, false, false, false, false, false, false, false, false, false, false, false, false, false, false, false, false, false, false, false, false, false, false, false, false, false, false, false] rfl rfl (any_of HT_.out (by kernel_rfl)) (fun _ _ _ h => h) (Or.inl ⟨by rfl, ?_⟩) ?_ ?_
              rotate_left
              · intro w'
                go_simp
                with_reducible rfl
              rotate_left
              · simp only [Act.put, List.setIfInBounds_toArray, List.set_cons_zero, List.set_cons_succ, i64_w, i32_w]
                rfl
              refine pure_ (i := 7) (N := some 29) (v := ?_) (a' := ?_) #[true, true, true, true, true, true, true, true, false, false, false, false, false, false, false, false, false, false, false, false, false, false, false, false, false, false, false, false, false, false, false, false, false, false, false, false, false, false, false, false, false, false, false, false, false, false, false, false, false] rfl rfl (any_of HT_.out (by kernel_rfl)) (fun _ _ _ h => h) (Or.inl ⟨by rfl, ?_⟩) ?_ ?_
              rotate_left
              · intro w'
                go_simp
                with_reducible rfl
              rotate_left
              · simp only [Act.put, List.setIfInBounds_toArray, List.set_cons_zero, List.set_cons_succ, i64_w, i32_w]
                rfl
              refine pure_ (i := 8) (N := some 30) (v := ?_) (a' := ?_) #[true, true, true, true, true, true, true, true, true, false, false, false, false, false, false, false, false, false, false, false, false, false, false, false, false, false, false, false, false, false, false, false, false, false, false, false, false, false, false, false, false, false, false, false, false, false, false, false, false] rfl rfl (any_of HT_.out (by kernel_rfl)) (fun _ _ _ h => h) (Or.inl ⟨by rfl, ?_⟩) ?_ ?_
              rotate_left
              · intro w'
                go_simp
                with_reducible rfl
              rotate_left
              · simp only [Act.put, List.setIfInBounds_toArray, List.set_cons_zero, List.set_cons_succ, i64_w, i32_w]
                rfl
              refine pure_ (i := 9) (N := some 31) (v := ?_) (a' := ?_) #[true, true, true, true, true, true, true, true, true, true, false, false, false, false, false, false, false, false, false, false, false, false, false, false, false, false, false, false, false, false, false, false, false, false, false, false, false, false, false, false, false, false, false, false, false, false, false, false, false] rfl rfl (any_of HT_.out (by kernel_rfl)) (fun _ _ _ h => h) (Or.inl ⟨by rfl, ?_⟩) ?_ ?_
              rotate_left
              · intro w'
                go_simp
                with_reducible rfl
              rotate_left
              · simp only [Act.put, List.setIfInBounds_toArray, List.set_cons_zero, List.set_cons_succ, i64_w, i32_w]
                rfl
              refine pure_ (i := 10) (N := some 32) (v := ?_) (a' := ?_) #[true, true, true, true, true, true, true, true, true, true, true, false, false, false, false, false, false, false, false, false, false, false, false, false, false, false, false, false, false, false, false, false, false, false, false, false, false, false, false, false, false, false, false, false, false, false, false, false, false] rfl rfl (any_of HT_.out (by kernel_rfl)) (fun _ _ _ h => h) (Or.inl ⟨by rfl, ?_⟩) ?_ ?_
              rotate_left
              · intro w'
                go_simp
                with_reducible rfl
              rotate_left
              · simp only [Act.put, List.setIfInBounds_toArray, List.set_cons_zero, List.set_cons_succ, i64_w, i32_w]
                rfl
              refine pure_ (i := 11) (N := some 33) (v := ?_) (a' := ?_) #[true, true, true, true, true, true, true, true, true, true, true, true, false, false, false, false, false, false, false, false, false, false, false, false, false, false, false, false, false, false, false, false, false, false, false, false, false, false, false, false, false, false, false, false, false, false, false, false, false] rfl rfl (any_of HT_.out (by kernel_rfl)) (fun _ _ _ h => h) (Or.inl ⟨by rfl, ?_⟩) ?_ ?_
              rotate_left
              · intro w'
                go_simp
                with_reducible rfl
              rotate_left
              · simp only [Act.put, List.setIfInBounds_toArray, List.set_cons_zero, List.set_cons_succ, i64_w, i32_w]
                rfl
              refine pure_ (i := 12) (N := some 34) (v := ?_) (a' := ?_) #[true, true, true, true, true, true, true, true, true, true, true, true, true, false, false, false, false, false, false, false, false, false, false, false, false, false, false, false, false, false, false, false, false, false, false, false, false, false, false, false, false, false, false, false, false, false, false, false, false] rfl rfl (any_of HT_.out (by kernel_rfl)) (fun _ _ _ h => h) (Or.inl ⟨by rfl, ?_⟩) ?_ ?_
              rotate_left
              · intro w'
                go_simp
                with_reducible rfl
              rotate_left
              · simp only [Act.put, List.setIfInBounds_toArray, List.set_cons_zero, List.set_cons_succ, i64_w, i32_w]
                rfl
              refine pure_ (i := 13) (N := some 35) (v := ?_) (a' := ?_) #[true, true, true, true, true, true, true, true, true, true, true, true, true, true, false, false, false, false, false, false, false, false, false, false, false, false, false, false, false, false, false, false, false, false, false, false, false, false, false, false, false, false, false, false, false, false, false, false, false] rfl rfl (any_of HT_.out (by kernel_rfl)) (fun _ _ _ h => h) (Or.inl ⟨by rfl, ?_⟩) ?_ ?_
              rotate_left
              · intro w'
                go_simp
                with_reducible rfl
              rotate_left
              · simp only [Act.put, List.setIfInBounds_toArray, List.set_cons_zero, List.set_cons_succ, i64_w, i32_w]
                rfl
              refine pure_ (i := 14) (N := some 36) (v := ?_) (a' := ?_) #[true, true, true, true, true, true, true, true, true, true, true, true, true, true, true, false, false, false, false, false, false, false, false, false, false, false, false, false, false, false, false, false, false, false, false, false, false, false, false, false, false, false, false, false, false, false, false, false, false] rfl rfl (any_of HT_.out (by kernel_rfl)) (fun _ _ _ h => h) (Or.inl ⟨by rfl, ?_⟩) ?_ ?_
              rotate_left
              · intro w'
                go_simp
                with_reducible rfl
              rotate_left
              · simp only [Act.put, List.setIfInBounds_toArray, List.set_cons_zero, List.set_cons_succ, i64_w, i32_w]
                rfl
              refine pure_ (i := 15) (N := some 37) (v := ?_) (a' := ?_) #[true, true, true, true, true, true, true, true, true, true, true, true, true, true, true, true, false, false, false, false, false, false, false, false, false, false, false, false, false, false, false, false, false, false, false, false, false, false, false, false, false, false, false, false, false, false, false, false, false] rfl rfl (any_of HT_.out (by kernel_rfl)) (fun _ _ _ h => h) (Or.inl ⟨by rfl, ?_⟩) ?_ ?_
              rotate_left
              · intro w'
                go_simp
                with_reducible rfl
              rotate_left
              · simp only [Act.put, List.setIfInBounds_toArray, List.set_cons_zero, List.set_cons_succ, i64_w, i32_w]
                rfl
              refine pure_ (i := 16) (N := some 38) (v := ?_) (a' := ?_) #[true, true, true, true, true, true, true, true, true, true, true, true, true, true, true, true, true, false, false, false, false, false, false, false, false, false, false, false, false, false, false, false, false, false, false, false, false, false, false, false, false, false, false, false, false, false, false, false, false] rfl rfl (any_of HT_.out (by kernel_rfl)) (fun _ _ _ h => h) (Or.inl ⟨by rfl, ?_⟩) ?_ ?_
              rotate_left
              · intro w'
                go_simp
                with_reducible rfl
              rotate_left
              · simp only [Act.put, List.setIfInBounds_toArray, List.set_cons_zero, List.set_cons_succ, i64_w, i32_w]
                rfl
              refine pure_ (i := 17) (N := some 39) (v := ?_) (a' := ?_) #[true, true, true, true, true, true, true, true, true, true, true, true, true, true, true, true, true, true, false, false, false, false, false, false, false, false, false, false, false, false, false, false, false, false, false, false, false, false, false, false, false, false, false, false, false, false, false, false, false] rfl rfl (any_of HT_.out (by kernel_rfl)) (fun _ _ _ h => h) (Or.inl ⟨by rfl, ?_⟩) ?_ ?_
              rotate_left
              · intro w'
                go_simp
                with_reducible rfl
              rotate_left
              · simp only [Act.put, List.setIfInBounds_toArray, List.set_cons_zero, List.set_cons_succ, i64_w, i32_w]
                rfl
              refine pure_ (i := 18) (N := some 40) (v := ?_) (a' := ?_) #[true, true, true, true, true, true, true, true, true, true, true, true, true, true, true, true, true, true, true, false, false, false, false, false, false, false, false, false, false, false, false, false, false, false, false, false, false, false, false, false, false, false, false, false, false, false, false, false, false] rfl rfl (any_of HT_.out (by kernel_rfl)) (fun _ _ _ h => h) (Or.inl ⟨by rfl, ?_⟩) ?_ ?_
              rotate_left
              · intro w'
                go_simp
                with_reducible rfl
              rotate_left
              · simp only [Act.put, List.setIfInBounds_toArray, List.set_cons_zero, List.set_cons_succ, i64_w, i32_w]
                rfl
              refine pure_ (i := 19) (N := some 41) (v := ?_) (a' := ?_) #[true, true, true, true, true, true, true, true, true, true, true, true, true, true, true, true, true, true, true, true, false, false, false, false, false, false, false, false, false, false, false, false, false, false, false, false, false, false, false, false, false, false, false, false, false, false, false, false, false] rfl rfl (any_of HT_.out (by kernel_rfl)) (fun _ _ _ h => h) (Or.inl ⟨by rfl, ?_⟩) ?_ ?_
              rotate_left
              · intro w'
                go_simp
                with_reducible rfl
              rotate_left
              · simp only [Act.put, List.setIfInBounds_toArray, List.set_cons_zero, List.set_cons_succ, i64_w, i32_w]
                rfl
              refine pure_ (i := 20) (N := some 42) (v := ?_) (a' := ?_) #[true, true, true, true, true, true, true, true, true, true, true, true, true, true, true, true, true, true, true, true, true, false, false, false, false, false, false, false, false, false, false, false, false, false, false, false, false, false, false, false, false, false, false, false, false, false, false, false, false] rfl rfl (any_of HT_.out (by kernel_rfl)) (fun _ _ _ h => h) (Or.inl ⟨by rfl, ?_⟩) ?_ ?_
              rotate_left
              · intro w'
                go_simp
                with_reducible rfl
              rotate_left
              · simp only [Act.put, List.setIfInBounds_toArray, List.set_cons_zero, List.set_cons_succ, i64_w, i32_w]
                rfl
              refine pure_ (i := 21) (N := some 43) (v := ?_) (a' := ?_) #[true, true, true, true, true, true, true, true, true, true, true, true, true, true, true, true, true, true, true, true, true, true, false, false, false, false, false, false, false, false, false, false, false, false, false, false, false, false, false, false, false, false, false, false, false, false, false, false, false] rfl rfl (any_of HT_.out (by kernel_rfl)) (fun _ _ _ h => h) (Or.inl ⟨by rfl, ?_⟩) ?_ ?_
              rotate_left
              · intro w'
                go_simp
                with_reducible rfl
              rotate_left
              · simp only [Act.put, List.setIfInBounds_toArray, List.set_cons_zero, List.set_cons_succ, i64_w, i32_w]
                rfl
              refine pure_ (i := 22) (N := some 44) (v := ?_) (a' := ?_) #[true, true, true, true, true, true, true, true, true, true, true, true, true, true, true, true, true, true, true, true, true, true, true, false, false, false, false, false, false, false, false, false, false, false, false, false, false, false, false, false, false, false, false, false, false, false, false, false, false] rfl rfl (any_of HT_.out (by kernel_rfl)) (fun _ _ _ h => h) (Or.inl ⟨by rfl, ?_⟩) ?_ ?_
              rotate_left
              · intro w'
                go_simp
                with_reducible rfl
              rotate_left
              · simp only [Act.put, List.setIfInBounds_toArray, List.set_cons_zero, List.set_cons_succ, i64_w, i32_w]
                rfl
              refine pure_ (i := 23) (N := some 45) (v := ?_) (a' := ?_) #[true, true, true, true, true, true, true, true, true, true, true, true, true, true, true, true, true, true, true, true, true, true, true, true, false, false, false, false, false, false, false, false, false, false, false, false, false, false, false, false, false, false, false, false, false, false, false, false, false] rfl rfl (any_of HT_.out (by kernel_rfl)) (fun _ _ _ h => h) (Or.inl ⟨by rfl, ?_⟩) ?_ ?_
              rotate_left
              · intro w'
                go_simp
                with_reducible rfl
              rotate_left
              · simp only [Act.put, List.setIfInBounds_toArray, List.set_cons_zero, List.set_cons_succ, i64_w, i32_w]
                rfl
              refine pure_ (i := 24) (N := some 46) (v := ?_) (a' := ?_) #[true, true, true, true, true, true, true, true, true, true, true, true, true, true, true, true, true, true, true, true, true, true, true, true, true, false, false, false, false, false, false, false, false, false, false, false, false, false, false, false, false, false, false, false, false, false, false, false, false] rfl rfl (any_of HT_.out (by kernel_rfl)) (fun _ _ _ h => h) (Or.inl ⟨by rfl, ?_⟩) ?_ ?_
              rotate_left
              · intro w'
                go_simp
                with_reducible rfl
              rotate_left
              · simp only [Act.put, List.setIfInBounds_toArray, List.set_cons_zero, List.set_cons_succ, i64_w, i32_w]
                rfl
              refine pure_ (i := 25) (N := some 47) (v := ?_) (a' := ?_) #[true, true, true, true, true, true, true, true, true, true, true, true, true, true, true, true, true, true, true, true, true, true, true, true, true, true, false, false, false, false, false, false, false, false, false, false, false, false, false, false, false, false, false, false, false, false, false, false, false] rfl rfl (any_of HT_.out (by kernel_rfl)) (fun _ _ _ h => h) (Or.inl ⟨by rfl, ?_⟩) ?_ ?_
              rotate_left
              · intro w'
                go_simp
                with_reducible rfl
              rotate_left
              · simp only [Act.put, List.setIfInBounds_toArray, List.set_cons_zero, List.set_cons_succ, i64_w, i32_w]
                rfl
              refine pure_ (i := 28) (N := some 50) (v := ?_) (a' := ?_) #[true, true, true, true, true, true, true, true, true, true, true, true, true, true, true, true, true, true, true, true, true, true, true, true, true, true, false, false, true, false, false, false, false, false, false, false, false, false, false, false, false, false, false, false, false, false, false, false, false] rfl rfl (any_of HT_.out (by kernel_rfl)) (fun _ _ _ h => h) (Or.inl ⟨by rfl, ?_⟩) ?_ ?_
              rotate_left
              · intro w'
                go_simp
                with_reducible rfl
              rotate_left
              · simp only [Act.put, List.setIfInBounds_toArray, List.set_cons_zero, List.set_cons_succ, i64_w, i32_w]
                rfl
              refine pure_ (i := 32) (N := some 54) (v := ?_) (a' := ?_) #[true, true, true, true, true, true, true, true, true, true, true, true, true, true, true, true, true, true, true, true, true, true, true, true, true, true, false, false, true, false, false, false, true, false, false, false, false, false, false, false, false, false, false, false, false, false, false, false, false] rfl rfl (any_of HT_.out (by kernel_rfl)) (fun _ _ _ h => h) (Or.inl ⟨by rfl, ?_⟩) ?_ ?_
              rotate_left
              · intro w'
                go_simp
                with_reducible rfl
              rotate_left
              · simp only [Act.put, List.setIfInBounds_toArray, List.set_cons_zero, List.set_cons_succ, i64_w, i32_w]
                rfl
              refine pure_ (i := 33) (N := some 55) (v := ?_) (a' := ?_) #[true, true, true, true, true, true, true, true, true, true, true, true, true, true, true, true, true, true, true, true, true, true, true, true, true, true, false, false, true, false, false, false, true, true, false, false, false, false, false, false, false, false, false, false, false, false, false, false, false] rfl rfl (any_of HT_.out (by kernel_rfl)) (fun _ _ _ h => h) (Or.inl ⟨by rfl, ?_⟩) ?_ ?_
              rotate_left
              · intro w'
                go_simp
                with_reducible rfl
              rotate_left
              · simp only [Act.put, List.setIfInBounds_toArray, List.set_cons_zero, List.set_cons_succ, i64_w, i32_w]
                rfl
              refine pure_ (i := 34) (N := some 56) (v := ?_) (a' := ?_) #[true, true, true, true, true, true, true, true, true, true, true, true, true, true, true, true, true, true, true, true, true, true, true, true, true, true, false, false, true, false, false, false, true, true, true, false, false, false, false, false, false, false, false, false, false, false, false, false, false] rfl rfl (any_of HT_.out (by kernel_rfl)) (fun _ _ _ h => h) (Or.inl ⟨by rfl, ?_⟩) ?_ ?_
              rotate_left
              · intro w'
                go_simp
                with_reducible rfl
              rotate_left
              · simp only [Act.put, List.setIfInBounds_toArray, List.set_cons_zero, List.set_cons_succ, i64_w, i32_w]
                rfl
              refine one_ (i := 26) (N := some 48) #[true, true, true, true, true, true, true, true, true, true, true, true, true, true, true, true, true, true, true, true, true, true, true, true, true, true, true, false, true, false, false, false, true, true, true, false, false, false, false, false, false, false, false, false, false, false, false, false, false] rfl rfl (one_of HT_.out (by kernel_rfl)) (by decide) (fun K hK => ?_)
              refine goes_ Tryd.func11 (by kernel_rfl) rfl #[.int .i64 a0] (by rfl) rfl rfl (by (try simp only [List.map_toArray, List.map_cons, List.map_nil]); first | done | rfl | (simp only [List.length_drop, List.length_take]; rfl)) ?_
              with_reducible refine (norialaw3_N.calls a0 t353 t354 t355 t356 _ A16.out).mono ?_
              rintro e w35 ⟨rfl, hb⟩
              refine ⟨_, rfl, ?_⟩
              have n0_ := Aside0.mk (blk_below (g := gb339) (o := .cells #[.int .i64 t334, .int .i64 t335, .string t336, .complex .f64 t337.1 t337.2] 27 (0, 0)) (by (with_reducible repeat (first | refine blk_drewN ?_ _ | refine blk_drew ?_ | refine blk_alloc ?_ _)); exact BK339.out) hb)
              have n1_ := Aside0.mk (below_step (by repeat (first | (with_reducible first | exact HB.out | apply below_alloc | apply pw_below_drewN | apply below_drew1 | refine below_set ?_ GE339.out) | exact HB.out)) hb)
              clear BK339
              clear HB
              have BK339 := n0_
              have HB := n1_
              clear n0_ n1_
              (try clear hb)
              (try clear hb2)
              (try clear hk)
              (try clear hi)
              refine hK.out _ _ ⟨(blk_cell BK339.out 0).trans rfl, (blk_cell BK339.out 1).trans rfl, (blk_cell BK339.out 2).trans rfl, (blk_cell BK339.out 3).trans rfl⟩ (fun hHeld => ?_)
              clear hK K
              refine norm_ (a' := ?_) ?_ ?_
              rotate_left
              · show Act.put _ (some 48) _ = _
                simp only [Act.put, List.setIfInBounds_toArray, List.set_cons_zero, List.set_cons_succ, i64_w, i32_w]
                rfl
              refine one_ (i := 27) (N := some 49) #[true, true, true, true, true, true, true, true, true, true, true, true, true, true, true, true, true, true, true, true, true, true, true, true, true, true, true, true, true, false, false, false, true, true, true, false, false, false, false, false, false, false, false, false, false, false, false, false, false] rfl rfl (one_of HT_.out (by kernel_rfl)) (by decide) (fun K hK => ?_)
              refine goes_ Tryd.func8 (by kernel_rfl) rfl #[.agg #[.int .i64 t353, .int .i64 t354, .string t355, .complex .f64 t356.1 t356.2]] (by rfl) rfl rfl (by (try simp only [List.map_toArray, List.map_cons, List.map_nil]); first | done | rfl | (simp only [List.length_drop, List.length_take]; rfl)) ?_
              with_reducible refine (val_Text.calls k t353 t354 t355 t356 t357 _ A17.out (Glob.below HG_.out (by repeat (first | (with_reducible first | exact HB.out | apply below_alloc | apply pw_below_drewN | apply below_drew1 | refine below_set ?_ GE339.out) | exact HB.out)))).mono ?_
              rintro e w36 ⟨rfl, hb⟩
              refine ⟨_, rfl, ?_⟩
              have n0_ := Aside0.mk (blk_below (g := gb339) (o := .cells #[.int .i64 t334, .int .i64 t335, .string t336, .complex .f64 t337.1 t337.2] 27 (0, 0)) (by (with_reducible repeat (first | refine blk_drewN ?_ _ | refine blk_drew ?_ | refine blk_alloc ?_ _)); exact BK339.out) hb)
              have n1_ := Aside0.mk (below_step (by repeat (first | (with_reducible first | exact HB.out | apply below_alloc | apply pw_below_drewN | apply below_drew1 | refine below_set ?_ GE339.out) | exact HB.out)) hb)
              clear BK339
              clear HB
              have BK339 := n0_
              have HB := n1_
              clear n0_ n1_
              (try clear hb)
              (try clear hb2)
              (try clear hk)
              (try clear hi)
              refine hK.out _ _ ⟨(blk_cell BK339.out 0).trans rfl, (blk_cell BK339.out 1).trans rfl, (blk_cell BK339.out 2).trans rfl, (blk_cell BK339.out 3).trans rfl⟩ (fun hHeld => ?_)
              clear hK K
              refine norm_ (a' := ?_) ?_ ?_
              rotate_left
              · show Act.put _ (some 49) _ = _
                simp only [Act.put, List.setIfInBounds_toArray, List.set_cons_zero, List.set_cons_succ, i64_w, i32_w]
                rfl
              refine one_ (i := 29) (N := some 51) #[true, true, true, true, true, true, true, true, true, true, true, true, true, true, true, true, true, true, true, true, true, true, true, true, true, true, true, true, true, true, false, false, true, true, true, false, false, false, false, false, false, false, false, false, false, false, false, false, false] rfl rfl (one_of HT_.out (by kernel_rfl)) (by decide) (fun K hK => ?_)
              refine goes_ Tryd.func11 (by kernel_rfl) rfl #[.int .i64 a1] (by rfl) rfl rfl (by (try simp only [List.map_toArray, List.map_cons, List.map_nil]); first | done | rfl | (simp only [List.length_drop, List.length_take]; rfl)) ?_
              with_reducible refine (norialaw3_N.calls a1 t358 t359 t360 t361 _ A18.out).mono ?_
              rintro e w37 ⟨rfl, hb⟩
              refine ⟨_, rfl, ?_⟩
              have n0_ := Aside0.mk (blk_below (g := gb339) (o := .cells #[.int .i64 t334, .int .i64 t335, .string t336, .complex .f64 t337.1 t337.2] 27 (0, 0)) (by (with_reducible repeat (first | refine blk_drewN ?_ _ | refine blk_drew ?_ | refine blk_alloc ?_ _)); exact BK339.out) hb)
              have n1_ := Aside0.mk (below_step (by repeat (first | (with_reducible first | exact HB.out | apply below_alloc | apply pw_below_drewN | apply below_drew1 | refine below_set ?_ GE339.out) | exact HB.out)) hb)
              clear BK339
              clear HB
              have BK339 := n0_
              have HB := n1_
              clear n0_ n1_
              (try clear hb)
              (try clear hb2)
              (try clear hk)
              (try clear hi)
              refine hK.out _ _ ⟨(blk_cell BK339.out 0).trans rfl, (blk_cell BK339.out 1).trans rfl, (blk_cell BK339.out 2).trans rfl, (blk_cell BK339.out 3).trans rfl⟩ (fun hHeld => ?_)
              clear hK K
              refine norm_ (a' := ?_) ?_ ?_
              rotate_left
              · show Act.put _ (some 51) _ = _
                simp only [Act.put, List.setIfInBounds_toArray, List.set_cons_zero, List.set_cons_succ, i64_w, i32_w]
                rfl
              refine one_ (i := 30) (N := some 52) #[true, true, true, true, true, true, true, true, true, true, true, true, true, true, true, true, true, true, true, true, true, true, true, true, true, true, true, true, true, true, true, false, true, true, true, false, false, false, false, false, false, false, false, false, false, false, false, false, false] rfl rfl (one_of HT_.out (by kernel_rfl)) (by decide) (fun K hK => ?_)
              refine goes_ Tryd.func8 (by kernel_rfl) rfl #[.agg #[.int .i64 t358, .int .i64 t359, .string t360, .complex .f64 t361.1 t361.2]] (by rfl) rfl rfl (by (try simp only [List.map_toArray, List.map_cons, List.map_nil]); first | done | rfl | (simp only [List.length_drop, List.length_take]; rfl)) ?_
              with_reducible refine (val_Text.calls k t358 t359 t360 t361 t362 _ A19.out (Glob.below HG_.out (by repeat (first | (with_reducible first | exact HB.out | apply below_alloc | apply pw_below_drewN | apply below_drew1 | refine below_set ?_ GE339.out) | exact HB.out)))).mono ?_
              rintro e w38 ⟨rfl, hb⟩
              refine ⟨_, rfl, ?_⟩
              have n0_ := Aside0.mk (blk_below (g := gb339) (o := .cells #[.int .i64 t334, .int .i64 t335, .string t336, .complex .f64 t337.1 t337.2] 27 (0, 0)) (by (with_reducible repeat (first | refine blk_drewN ?_ _ | refine blk_drew ?_ | refine blk_alloc ?_ _)); exact BK339.out) hb)
              have n1_ := Aside0.mk (below_step (by repeat (first | (with_reducible first | exact HB.out | apply below_alloc | apply pw_below_drewN | apply below_drew1 | refine below_set ?_ GE339.out) | exact HB.out)) hb)
              clear BK339
              clear HB
              have BK339 := n0_
              have HB := n1_
              clear n0_ n1_
              (try clear hb)
              (try clear hb2)
              (try clear hk)
              (try clear hi)
              refine hK.out _ _ ⟨(blk_cell BK339.out 0).trans rfl, (blk_cell BK339.out 1).trans rfl, (blk_cell BK339.out 2).trans rfl, (blk_cell BK339.out 3).trans rfl⟩ (fun hHeld => ?_)
              clear hK K
              refine norm_ (a' := ?_) ?_ ?_
              rotate_left
              · show Act.put _ (some 52) _ = _
                simp only [Act.put, List.setIfInBounds_toArray, List.set_cons_zero, List.set_cons_succ, i64_w, i32_w]
                rfl
              refine pure_ (i := 31) (N := some 53) (v := ?_) (a' := ?_) #[true, true, true, true, true, true, true, true, true, true, true, true, true, true, true, true, true, true, true, true, true, true, true, true, true, true, true, true, true, true, true, true, true, true, true, false, false, false, false, false, false, false, false, false, false, false, false, false, false] rfl rfl (any_of HT_.out (by kernel_rfl)) (fun _ _ _ h => h) (Or.inl ⟨by rfl, ?_⟩) ?_ ?_
              rotate_left
              · intro w'
                go_simp
                with_reducible rfl
              rotate_left
              · simp only [Act.put, List.setIfInBounds_toArray, List.set_cons_zero, List.set_cons_succ, i64_w, i32_w]
                rfl
              refine pure_ (i := 35) (N := some 57) (v := ?_) (a' := ?_) #[true, true, true, true, true, true, true, true, true, true, true, true, true, true, true, true, true, true, true, true, true, true, true, true, true, true, true, true, true, true, true, true, true, true, true, true, false, false, false, false, false, false, false, false, false, false, false, false, false] rfl rfl (any_of HT_.out (by kernel_rfl)) (fun _ _ _ h => h) (Or.inl ⟨by rfl, ?_⟩) ?_ ?_
              rotate_left
              · intro w'
                go_simp
                with_reducible rfl
              rotate_left
              · simp only [Act.put, List.setIfInBounds_toArray, List.set_cons_zero, List.set_cons_succ, i64_w, i32_w]
                rfl
              refine pure_ (i := 36) (N := some 58) (v := ?_) (a' := ?_) #[true, true, true, true, true, true, true, true, true, true, true, true, true, true, true, true, true, true, true, true, true, true, true, true, true, true, true, true, true, true, true, true, true, true, true, true, true, false, false, false, false, false, false, false, false, false, false, false, false] rfl rfl (any_of HT_.out (by kernel_rfl)) (fun _ _ _ h => h) (Or.inl ⟨by rfl, ?_⟩) ?_ ?_
              rotate_left
              · intro w'
                go_simp
                with_reducible rfl
              rotate_left
              · simp only [Act.put, List.setIfInBounds_toArray, List.set_cons_zero, List.set_cons_succ, i64_w, i32_w]
                rfl
              refine pure_ (i := 37) (N := some 59) (v := ?_) (a' := ?_) #[true, true, true, true, true, true, true, true, true, true, true, true, true, true, true, true, true, true, true, true, true, true, true, true, true, true, true, true, true, true, true, true, true, true, true, true, true, true, false, false, false, false, false, false, false, false, false, false, false] rfl rfl (any_of HT_.out (by kernel_rfl)) (fun _ _ _ h => h) (Or.inl ⟨by rfl, ?_⟩) ?_ ?_
              rotate_left
              · intro w'
                go_simp
                with_reducible rfl
              rotate_left
              · simp only [Act.put, List.setIfInBounds_toArray, List.set_cons_zero, List.set_cons_succ, i64_w, i32_w]
                rfl
              refine pure_ (i := 38) (N := some 60) (v := ?_) (a' := ?_) #[true, true, true, true, true, true, true, true, true, true, true, true, true, true, true, true, true, true, true, true, true, true, true, true, true, true, true, true, true, true, true, true, true, true, true, true, true, true, true, false, false, false, false, false, false, false, false, false, false] rfl rfl (any_of HT_.out (by kernel_rfl)) (fun _ _ _ h => h) (Or.inl ⟨by rfl, ?_⟩) ?_ ?_
              rotate_left
              · intro w'
                go_simp
                with_reducible rfl
              rotate_left
              · simp only [Act.put, List.setIfInBounds_toArray, List.set_cons_zero, List.set_cons_succ, i64_w, i32_w]
                rfl
              refine pure_ (i := 40) (N := some 62) (v := ?_) (a' := ?_) #[true, true, true, true, true, true, true, true, true, true, true, true, true, true, true, true, true, true, true, true, true, true, true, true, true, true, true, true, true, true, true, true, true, true, true, true, true, true, true, false, true, false, false, false, false, false, false, false, false] rfl rfl (any_of HT_.out (by kernel_rfl)) (fun _ _ _ h => h) (Or.inl ⟨by rfl, ?_⟩) ?_ ?_
              rotate_left
              · intro w'
                go_simp
                with_reducible rfl
              rotate_left
              · simp only [Act.put, List.setIfInBounds_toArray, List.set_cons_zero, List.set_cons_succ, i64_w, i32_w]
                rfl
              refine pure_ (i := 43) (N := some 65) (v := ?_) (a' := ?_) #[true, true, true, true, true, true, true, true, true, true, true, true, true, true, true, true, true, true, true, true, true, true, true, true, true, true, true, true, true, true, true, true, true, true, true, true, true, true, true, false, true, false, false, true, false, false, false, false, false] rfl rfl (any_of HT_.out (by kernel_rfl)) (fun _ _ _ h => h) (Or.inl ⟨by rfl, ?_⟩) ?_ ?_
              rotate_left
              · intro w'
                go_simp
                with_reducible rfl
              rotate_left
              · simp only [Act.put, List.setIfInBounds_toArray, List.set_cons_zero, List.set_cons_succ, i64_w, i32_w]
                rfl
              refine pure_ (i := 44) (N := some 66) (v := ?_) (a' := ?_) #[true, true, true, true, true, true, true, true, true, true, true, true, true, true, true, true, true, true, true, true, true, true, true, true, true, true, true, true, true, true, true, true, true, true, true, true, true, true, true, false, true, false, false, true, true, false, false, false, false] rfl rfl (any_of HT_.out (by kernel_rfl)) (fun _ _ _ h => h) (Or.inl ⟨by rfl, ?_⟩) ?_ ?_
              rotate_left
              · intro w'
                go_simp
                with_reducible rfl
              rotate_left
              · simp only [Act.put, List.setIfInBounds_toArray, List.set_cons_zero, List.set_cons_succ, i64_w, i32_w]
                rfl
              refine pure_ (i := 45) (N := some 67) (v := ?_) (a' := ?_) #[true, true, true, true, true, true, true, true, true, true, true, true, true, true, true, true, true, true, true, true, true, true, true, true, true, true, true, true, true, true, true, true, true, true, true, true, true, true, true, false, true, false, false, true, true, true, false, false, false] rfl rfl (any_of HT_.out (by kernel_rfl)) (fun _ _ _ h => h) (Or.inl ⟨by rfl, ?_⟩) ?_ ?_
              rotate_left
              · intro w'
                go_simp
                with_reducible rfl
              rotate_left
              · simp only [Act.put, List.setIfInBounds_toArray, List.set_cons_zero, List.set_cons_succ, i64_w, i32_w]
                rfl
              refine one_ (i := 39) (N := some 61) #[true, true, true, true, true, true, true, true, true, true, true, true, true, true, true, true, true, true, true, true, true, true, true, true, true, true, true, true, true, true, true, true, true, true, true, true, true, true, true, true, true, false, false, true, true, true, false, false, false] rfl rfl (one_of HT_.out (by kernel_rfl)) (by decide) (fun K hK => ?_)
              refine goes_ Tryd.func11 (by kernel_rfl) rfl #[.int .i64 a0] (by rfl) rfl rfl (by (try simp only [List.map_toArray, List.map_cons, List.map_nil]); first | done | rfl | (simp only [List.length_drop, List.length_take]; rfl)) ?_
              with_reducible refine (norialaw3_N.calls a0 t363 t364 t365 t366 _ A21.out).mono ?_
              rintro e w39 ⟨rfl, hb⟩
              refine ⟨_, rfl, ?_⟩
              have n0_ := Aside0.mk (blk_below (g := gb339) (o := .cells #[.int .i64 t334, .int .i64 t335, .string t336, .complex .f64 t337.1 t337.2] 27 (0, 0)) (by (with_reducible repeat (first | refine blk_drewN ?_ _ | refine blk_drew ?_ | refine blk_alloc ?_ _)); exact BK339.out) hb)
              have n1_ := Aside0.mk (below_step (by repeat (first | (with_reducible first | exact HB.out | apply below_alloc | apply pw_below_drewN | apply below_drew1 | refine below_set ?_ GE339.out) | exact HB.out)) hb)
              clear BK339
              clear HB
              have BK339 := n0_
              have HB := n1_
              clear n0_ n1_
              (try clear hb)
              (try clear hb2)
              (try clear hk)
              (try clear hi)
              refine hK.out _ _ ⟨(blk_cell BK339.out 0).trans rfl, (blk_cell BK339.out 1).trans rfl, (blk_cell BK339.out 2).trans rfl, (blk_cell BK339.out 3).trans rfl⟩ (fun hHeld => ?_)
              clear hK K
              refine norm_ (a' := ?_) ?_ ?_
              rotate_left
              · show Act.put _ (some 61) _ = _
                simp only [Act.put, List.setIfInBounds_toArray, List.set_cons_zero, List.set_cons_succ, i64_w, i32_w]
                rfl
              refine one_ (i := 41) (N := some 63) #[true, true, true, true, true, true, true, true, true, true, true, true, true, true, true, true, true, true, true, true, true, true, true, true, true, true, true, true, true, true, true, true, true, true, true, true, true, true, true, true, true, true, false, true, true, true, false, false, false] rfl rfl (one_of HT_.out (by kernel_rfl)) (by decide) (fun K hK => ?_)
              refine goes_ Tryd.func11 (by kernel_rfl) rfl #[.int .i64 a1] (by rfl) rfl rfl (by (try simp only [List.map_toArray, List.map_cons, List.map_nil]); first | done | rfl | (simp only [List.length_drop, List.length_take]; rfl)) ?_
              with_reducible refine (norialaw3_N.calls a1 t367 t368 t369 t370 _ A22.out).mono ?_
              rintro e w40 ⟨rfl, hb⟩
              refine ⟨_, rfl, ?_⟩
              have n0_ := Aside0.mk (blk_below (g := gb339) (o := .cells #[.int .i64 t334, .int .i64 t335, .string t336, .complex .f64 t337.1 t337.2] 27 (0, 0)) (by (with_reducible repeat (first | refine blk_drewN ?_ _ | refine blk_drew ?_ | refine blk_alloc ?_ _)); exact BK339.out) hb)
              have n1_ := Aside0.mk (below_step (by repeat (first | (with_reducible first | exact HB.out | apply below_alloc | apply pw_below_drewN | apply below_drew1 | refine below_set ?_ GE339.out) | exact HB.out)) hb)
              clear BK339
              clear HB
              have BK339 := n0_
              have HB := n1_
              clear n0_ n1_
              (try clear hb)
              (try clear hb2)
              (try clear hk)
              (try clear hi)
              refine hK.out _ _ ⟨(blk_cell BK339.out 0).trans rfl, (blk_cell BK339.out 1).trans rfl, (blk_cell BK339.out 2).trans rfl, (blk_cell BK339.out 3).trans rfl⟩ (fun hHeld => ?_)
              clear hK K
              refine norm_ (a' := ?_) ?_ ?_
              rotate_left
              · show Act.put _ (some 63) _ = _
                simp only [Act.put, List.setIfInBounds_toArray, List.set_cons_zero, List.set_cons_succ, i64_w, i32_w]
                rfl
              refine one_ (i := 42) (N := some 64) #[true, true, true, true, true, true, true, true, true, true, true, true, true, true, true, true, true, true, true, true, true, true, true, true, true, true, true, true, true, true, true, true, true, true, true, true, true, true, true, true, true, true, true, true, true, true, false, false, false] rfl rfl (one_of HT_.out (by kernel_rfl)) (by decide) (fun K hK => ?_)
              refine goes_ Tryd.func12 (by kernel_rfl) rfl #[.agg #[.int .i64 t363, .int .i64 t364, .string t365, .complex .f64 t366.1 t366.2], .agg #[.int .i64 t367, .int .i64 t368, .string t369, .complex .f64 t370.1 t370.2]] (by rfl) rfl rfl (by (try simp only [List.map_toArray, List.map_cons, List.map_nil]); first | done | rfl | (simp only [List.length_drop, List.length_take]; rfl)) ?_
              with_reducible refine (val_Same.calls k t363 t364 t365 t366 t367 t368 t369 t370 t371 _ A23.out).mono ?_
              rintro e w41 ⟨rfl, hb⟩
              refine ⟨_, rfl, ?_⟩
              have n0_ := Aside0.mk (blk_below (g := gb339) (o := .cells #[.int .i64 t334, .int .i64 t335, .string t336, .complex .f64 t337.1 t337.2] 27 (0, 0)) (by (with_reducible repeat (first | refine blk_drewN ?_ _ | refine blk_drew ?_ | refine blk_alloc ?_ _)); exact BK339.out) hb)
              have n1_ := Aside0.mk (below_step (by repeat (first | (with_reducible first | exact HB.out | apply below_alloc | apply pw_below_drewN | apply below_drew1 | refine below_set ?_ GE339.out) | exact HB.out)) hb)
              clear BK339
              clear HB
              have BK339 := n0_
              have HB := n1_
              clear n0_ n1_
              (try clear hb)
              (try clear hb2)
              (try clear hk)
              (try clear hi)
              refine hK.out _ _ ⟨(blk_cell BK339.out 0).trans rfl, (blk_cell BK339.out 1).trans rfl, (blk_cell BK339.out 2).trans rfl, (blk_cell BK339.out 3).trans rfl⟩ (fun hHeld => ?_)
              clear hK K
              refine norm_ (a' := ?_) ?_ ?_
              rotate_left
              · show Act.put _ (some 64) _ = _
                simp only [Act.put, List.setIfInBounds_toArray, List.set_cons_zero, List.set_cons_succ, i64_w, i32_w]
                rfl
              refine pure_ (i := 46) (N := some 68) (v := ?_) (a' := ?_) #[true, true, true, true, true, true, true, true, true, true, true, true, true, true, true, true, true, true, true, true, true, true, true, true, true, true, true, true, true, true, true, true, true, true, true, true, true, true, true, true, true, true, true, true, true, true, true, false, false] rfl rfl (any_of HT_.out (by kernel_rfl)) (fun _ _ _ h => h) (Or.inl ⟨by rfl, ?_⟩) ?_ ?_
              rotate_left
              · intro w'
                go_simp
                with_reducible rfl
              rotate_left
              · simp only [Act.put, List.setIfInBounds_toArray, List.set_cons_zero, List.set_cons_succ, i64_w, i32_w]
                rfl
              refine pure_ (i := 47) (N := some 69) (v := ?_) (a' := ?_) #[true, true, true, true, true, true, true, true, true, true, true, true, true, true, true, true, true, true, true, true, true, true, true, true, true, true, true, true, true, true, true, true, true, true, true, true, true, true, true, true, true, true, true, true, true, true, true, true, false] rfl rfl (any_of HT_.out (by kernel_rfl)) (fun _ _ _ h => h) (Or.inl ⟨by rfl, ?_⟩) ?_ ?_
              rotate_left
              · intro w'
                go_simp
                with_reducible rfl
              rotate_left
              · simp only [Act.put, List.setIfInBounds_toArray, List.set_cons_zero, List.set_cons_succ, i64_w, i32_w]
                rfl
              refine pure_ (i := 48) (N := some 4) (v := ?_) (a' := ?_) #[true, true, true, true, true, true, true, true, true, true, true, true, true, true, true, true, true, true, true, true, true, true, true, true, true, true, true, true, true, true, true, true, true, true, true, true, true, true, true, true, true, true, true, true, true, true, true, true, true] rfl rfl (any_of HT_.out (by kernel_rfl)) (fun _ _ _ h => h) (Or.inl ⟨by rfl, ?_⟩) ?_ ?_
              rotate_left
              · intro w'
                go_simp
                with_reducible rfl
              rotate_left
              · simp only [Act.put, List.setIfInBounds_toArray, List.set_cons_zero, List.set_cons_succ, i64_w, i32_w]
                rfl
              refine done_ (done_of HT_.out (by kernel_rfl)) ?_
              try go_wp2
              go_ret
              exact ⟨by first | rfl | (simp [errW_none, errW_some] <;> rfl) | (simp [*, errW_none, errW_some] <;> rfl), by repeat (first | (with_reducible first | exact HB.out | apply below_alloc | apply pw_below_drewN | apply below_drew1 | refine below_set ?_ GE339.out) | exact HB.out)⟩
            · rw [if_neg c20] at H
              exact absurd H (by simp)
          · rw [if_neg c15] at H
            exact absurd H (by simp)
        · rw [if_neg c14] at H
          exact absurd H (by simp)
      · rw [if_neg c13] at H
        exact absurd H (by simp)
    · rw [if_neg c11] at H
      exact absurd H (by simp)
  · replace c4 := Bool.eq_false_iff.mpr c4
    subst c4
    have H1 : (none) = some r := by rw [if_neg (show ¬ (false = true) by decide)] at H; exact H
    clear H
    have H := H1
    clear H1
    exact absurd H (by simp)

/-- THE ONE PURE STATEMENT of norialaw3_ValNumbers: yours. -/
def norialaw3_ValNumbers.Pure : Prop := ∀ (a0 : Int) (a1 : Int), (Lit.int .i64 a0).wf = true → (Lit.int .i64 a1).wf = true → ∃ k, norialaw3_ValNumbers.f k a0 a1 = some true
theorem norialaw3_ValNumbers.walk (P : norialaw3_ValNumbers.Pure) (a0 : Int) (a1 : Int) (w : World) (w0 : (Lit.int .i64 a0).wf = true) (w1 : (Lit.int .i64 a1).wf = true) (hG_ : Glob w) :
    Calls Tryd.prog 4 #[.int .i64 a0, .int .i64 a1] w fun e w' => e = .returned (.bool true) ∧ Below w.heap.size w w' := by
  obtain ⟨k, h⟩ := P a0 a1 w0 w1
  refine (norialaw3_ValNumbers.calls k a0 a1 true w h hG_).mono ?_
  rintro e w' ⟨rfl, hd⟩
  exact ⟨rfl, hd⟩

end Go.Proofs.YtaflcaillcjmmaaDoor.PAll
