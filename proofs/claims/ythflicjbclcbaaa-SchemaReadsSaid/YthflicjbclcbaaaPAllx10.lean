-- Printed by this session's own program (wip/tools/pp.py): out of the translation. Lean checks it.
import Derived.Test.YthflicjbclcbaaaPAllx0
import Derived.Test.YthflicjbclcbaaaPAllx2
import Derived.Test.YthflicjbclcbaaaPAllx4
import Derived.Test.YthflicjbclcbaaaPAllx5
import Derived.Test.YthflicjbclcbaaaPAllx6
import Derived.Test.YthflicjbclcbaaaPAllx7
import Derived.Test.YthflicjbclcbaaaPAllx8
import Derived.Test.YthflicjbclcbaaaPAllx9
namespace Go.Proofs.Ythflicjbclcbaaa.PAll
open Go.Proofs.Ythflicjbclcbaaa.Help
open Go.RowKit Go.Proofs.YthflicjbclcbaaaW.PrintWords Go.Proofs.YthflicjbclcbaaaW.PrintLast Go.Proofs.YthflicjbclcbaaaW.PrintMore
attribute [local go_sem] run_fl_eql run_fl_neq run_fl_lss run_fl_leq run_fl_gtr run_fl_geq unary_fl_neg run_cx_eql run_cx_neq run_cx_make run_cx_real run_cx_imag run_fl_of run_fl_to run_fl_add run_fl_sub run_fl_mul run_cx_add run_cx_sub run_cx_store run_fl_store cell_put3_0 cell_put3_1 cell_put4_0 cell_put4_1 max2_int min2_int max_two min_two max_three min_three max_four min_four   -- for this text's walks alone
set_option linter.unusedVariables false
set_option linter.unusedSimpArgs false

attribute [local go_sem high] eqA44
/-! ### norialaw10_known: function 5 -/
def norialaw10_known.j0 : Nat → List (S36) → List (S44) → List (List (S44)) → Int → Int → Bool → Bool → List Int → Int → List (S36) → Int → Int → Int → Bool → Option (Bool)
 | 0, _, _, _, _, _, _, _, _, _, _, _, _, _, _ => none
 | k + 1, x1, x2, x3, x4, x5, x6, x8, x9, x10, x11, x12, x13, x16, x69 => if x69 = true then (none) else (if (wrap64 ((wrap64 (x4 + x10)) + x13)) = 0 then (if x6 = true then (if x5 = 2 then (if x8 = true then (none) else (if 2 < (x3.length : Int) then (if 0 < ((rd_L7 x3 2).length : Int) then ((norialaw3_C.f 2 3).bind fun bt243 => (if (((rd_T44 (rd_L7 x3 2) 0).f0) == bt243.1 && (((rd_T44 (rd_L7 x3 2) 0).f1) == bt243.2.1 && ((((rd_T44 (rd_L7 x3 2) 0).f2).toList) == bt243.2.2.1.toList && (cEq (((rd_T44 (rd_L7 x3 2) 0).f3).1) (((rd_T44 (rd_L7 x3 2) 0).f3).2) bt243.2.2.2.1 bt243.2.2.2.2)))) = true then (if 0 < (x3.length : Int) then (if 1 < ((rd_L7 x3 0).length : Int) then (if (((rd_T44 (rd_L7 x3 0) 1).f0) == 0 && (((rd_T44 (rd_L7 x3 0) 1).f1) == 0 && ((((rd_T44 (rd_L7 x3 0) 1).f2).toList).isEmpty && (cEq (((rd_T44 (rd_L7 x3 0) 1).f3).1) (((rd_T44 (rd_L7 x3 0) 1).f3).2) 0 0)))) = true then (if (strOfNums x9).toList = ([3, 1, 110, 1, 1, 115, 2, 1, 112, 3] : List UInt8) then ((schema_Same.f k x11 x1).bind fun t249 => (if t249 = true then (if x12 = 10 then (if x16 = 4 then (if 2 ≤ (x2.length : Int) then ((schema_Row.f k x1 (x2.take 2)).bind fun t255 => (if t255 = 4 then (if 1 < (x2.length : Int) then (if 2 < (x2.length : Int) then ((schema_Row.f k x1 (([(⟨(rd_T44 x2 1).f0, (rd_T44 x2 1).f1, (rd_T44 x2 1).f2, (rd_T44 x2 1).f3⟩ : S44), (⟨(rd_T44 x2 1).f0, (rd_T44 x2 1).f1, (rd_T44 x2 1).f2, (rd_T44 x2 1).f3⟩ : S44), (⟨(rd_T44 x2 2).f0, (rd_T44 x2 2).f1, (rd_T44 x2 2).f2, (rd_T44 x2 2).f3⟩ : S44)] : List (S44)))).bind fun t262 => (if t262 = 6 then ((schema_Check.f k (([(⟨(⟨#[78]⟩ : ByteArray), 1⟩ : S36)] : List (S36)))).bind fun t266 => (if t266 = 3 then ((schema_Check.f k (([(⟨(⟨#[110]⟩ : ByteArray), 1⟩ : S36), (⟨(⟨#[110]⟩ : ByteArray), 2⟩ : S36)] : List (S36)))).bind fun t270 => (if t270 = 7 then ((schema_Check.f k ([] : List (S36))).bind fun t271 => (some (t271 == 4))) else (none))) else (none))) else (none))) else (none)) else (none)) else (none))) else (none)) else (none)) else (none)) else (none))) else (none)) else (none)) else (none)) else (none)) else (none))) else (none)) else (none))) else (none)) else (none)) else (none))
def norialaw10_known.f (k : Nat)  : Option (Bool) := (norialaw10_Three.f).bind fun t191 => ((norialaw3_N.f 1).bind fun bt194 => ((norialaw3_S.f (⟨#[120]⟩ : ByteArray)).bind fun bt198 => ((norialaw3_C.f 2 3).bind fun bt202 => ((some (([(⟨bt194.1, bt194.2.1, bt194.2.2.1, bt194.2.2.2⟩ : S44), (⟨bt198.1, bt198.2.1, bt198.2.2.1, bt198.2.2.2⟩ : S44), (⟨bt202.1, bt202.2.1, bt202.2.2.1, bt202.2.2.2⟩ : S44)] : List (S44)) : List (S44))).bind fun y206 => ((schema_Turned.f k t191 (([y206, (([(⟨0, 0, (⟨#[]⟩ : ByteArray), ((0, 0) : Nat × Nat)⟩ : S44), (⟨0, 0, (⟨#[]⟩ : ByteArray), ((0, 0) : Nat × Nat)⟩ : S44), (⟨0, 0, (⟨#[]⟩ : ByteArray), ((0, 0) : Nat × Nat)⟩ : S44)] : List (S44)))] : List (List (S44))))).bind fun bt215 => ((schema_Find.f k t191 (⟨#[112]⟩ : ByteArray)).bind fun bt219 => ((schema_Find.f k t191 (⟨#[113]⟩ : ByteArray)).bind fun bt221 => ((schema_Put.f k ([] : List Int) t191).bind fun bt223 => ((schema_Get.f k bt223.1 0).bind fun bt227 => ((schema_Get.f k (([9] : List Int)) 0).bind fun bt235 => (if (bt215.1.length : Int) = 3 then (if 2 < (bt215.1.length : Int) then (norialaw10_known.j0 k t191 y206 bt215.1 bt215.2 bt219.1 bt219.2 bt221.2 bt223.1 bt223.2 bt227.1 bt227.2.1 bt227.2.2 bt235.2.2 (((rd_L7 bt215.1 2).length : Int) != 2)) else (none)) else (norialaw10_known.j0 k t191 y206 bt215.1 bt215.2 bt219.1 bt219.2 bt221.2 bt223.1 bt223.2 bt227.1 bt227.2.1 bt227.2.2 bt235.2.2 true))))))))))))
theorem norialaw10_known.mono_l : ∀ k, (∀ y0 y1 y2 y3 y4 y5 y6 y7 y8 y9 y10 y11 y12 y13, LeO (norialaw10_known.j0 k y0 y1 y2 y3 y4 y5 y6 y7 y8 y9 y10 y11 y12 y13) (norialaw10_known.j0 (k + 1) y0 y1 y2 y3 y4 y5 y6 y7 y8 y9 y10 y11 y12 y13))
 | 0 => fun _ _ _ _ _ _ _ _ _ _ _ _ _ _ r h => by simp [norialaw10_known.j0] at h
 | k + 1 => by
  have ih0 := norialaw10_known.mono_l k
  ·intro y0 y1 y2 y3 y4 y5 y6 y7 y8 y9 y10 y11 y12 y13
   unfold norialaw10_known.j0
   repeat' first
   | (with_reducible exact ih0 _ _ _ _ _ _ _ _ _ _ _ _ _ _)
   | (with_reducible exact schema_Check.mono _ _)
   | (with_reducible exact schema_Find.mono _ _ _)
   | (with_reducible exact schema_Get.mono _ _ _)
   | (with_reducible exact schema_Put.mono _ _ _)
   | (with_reducible exact schema_Row.mono _ _ _)
   | (with_reducible exact schema_Same.mono _ _ _)
   | (with_reducible exact schema_Turned.mono _ _ _)
   | (with_reducible exact LeO.refl _)
   | (with_reducible exact LeO.none _)
   | (with_reducible refine LeO.ite ?_ ?_)
   | (with_reducible refine LeO.bind ?_ (fun _ => ?_))
   | exact ih0 _ _ _ _ _ _ _ _ _ _ _ _ _ _
   | exact schema_Check.mono _ _
   | exact schema_Find.mono _ _ _
   | exact schema_Get.mono _ _ _
   | exact schema_Put.mono _ _ _
   | exact schema_Row.mono _ _ _
   | exact schema_Same.mono _ _ _
   | exact schema_Turned.mono _ _ _
   | exact LeO.none _
   | refine LeO.ite ?_ ?_
   | refine LeO.bind ?_ (fun _ => ?_)
theorem norialaw10_known.mono : ∀ k, LeO (norialaw10_known.f k ) (norialaw10_known.f (k + 1) ) := by
 intro  k
 have ih0 := norialaw10_known.mono_l k
 unfold norialaw10_known.f
 repeat' first
   | (with_reducible exact ih0 _ _ _ _ _ _ _ _ _ _ _ _ _ _)
   | (with_reducible exact schema_Check.mono _ _)
   | (with_reducible exact schema_Find.mono _ _ _)
   | (with_reducible exact schema_Get.mono _ _ _)
   | (with_reducible exact schema_Put.mono _ _ _)
   | (with_reducible exact schema_Row.mono _ _ _)
   | (with_reducible exact schema_Same.mono _ _ _)
   | (with_reducible exact schema_Turned.mono _ _ _)
   | (with_reducible exact LeO.refl _)
   | (with_reducible exact LeO.none _)
   | (with_reducible refine LeO.ite ?_ ?_)
   | (with_reducible refine LeO.bind ?_ (fun _ => ?_))
   | exact ih0 _ _ _ _ _ _ _ _ _ _ _ _ _ _
   | exact schema_Check.mono _ _
   | exact schema_Find.mono _ _ _
   | exact schema_Get.mono _ _ _
   | exact schema_Put.mono _ _ _
   | exact schema_Row.mono _ _ _
   | exact schema_Same.mono _ _ _
   | exact schema_Turned.mono _ _ _
   | exact LeO.none _
   | refine LeO.ite ?_ ?_
   | refine LeO.bind ?_ (fun _ => ?_)
def norialaw10_known.T11 : Bool × List (List Nat × List Nat) := (true, [([], []), ([], []), ([0, 1], [0, 1]), ([], []), ([2, 3], [2, 3]), ([4], [4]), ([5], [5]), ([6], [6]), ([6, 7], [6, 7]), ([8, 6], [8]), ([9], [9]), ([10, 9], [9, 10]), ([9, 11], [9, 11]), ([12, 9], [12]), ([13], [13]), ([14, 13], [13, 14]), ([13, 15], [13, 15]), ([16, 13], [16]), ([17], [17]), ([18, 17], [17, 18]), ([19, 17], [17, 19]), ([20, 17], [17, 20]), ([21, 17], [17, 21]), ([17, 17], [17]), ([22, 23, 17], [17, 22, 23]), ([17, 24], [17, 24]), ([25, 23], [25]), ([26], [26]), ([27, 26], [26, 27]), ([28, 26], [26, 28]), ([29, 26], [26, 29]), ([30, 26], [26, 30]), ([26], [26]), ([31, 32, 26], [26, 31, 32]), ([26, 33], [26, 33]), ([34, 26], [34]), ([35], [35]), ([36, 35], [35, 36]), ([37, 35], [35, 37]), ([35, 38], [35, 38]), ([39, 35], [39]), ([40], [40]), ([40], [40]), ([41, 42, 40, 40], [40, 41, 42]), ([40, 43], [40, 43]), ([44, 43], [44]), ([45], [45]), ([46, 45], [45, 46]), ([45, 47], [45, 47]), ([48, 45], [48]), ([49], [49]), ([50, 49], [49, 50]), ([49, 51], [49, 51]), ([52, 49], [52]), ([53], [53]), ([53], [53]), ([55, 53], [53, 55]), ([54, 56, 53, 53], [53, 54, 56]), ([57, 53], [53, 57]), ([53, 58], [53, 58]), ([59, 57], [59]), ([60], [60]), ([60], [60]), ([62, 60], [60, 62]), ([63, 60], [60, 63]), ([60], [60]), ([65, 60], [60, 65]), ([66, 60], [60, 66]), ([60], [60]), ([68, 60], [60, 68]), ([69, 60], [60, 69]), ([64, 67, 70, 60], [60, 64, 67, 70]), ([61, 71, 60, 60], [60, 61, 71]), ([72, 60], [60, 72]), ([60, 73], [60, 73]), ([74, 72], [74]), ([75], [75]), ([76, 75], [75, 76]), ([77, 75, 75], [75, 77]), ([78, 75], [75, 78]), ([75, 79], [75, 79]), ([80, 78], [80]), ([81], [81]), ([81], [81]), ([82, 83, 81], [81, 82, 83]), ([84, 81, 81], [81, 84]), ([85, 81], [81, 85]), ([81, 86], [81, 86]), ([87, 85], [87]), ([88, 88], [88]), ([89, 88], [88, 89]), ([88, 90], [88, 90]), ([91, 89, 0, 1, 2, 3, 4, 5, 6, 7, 8, 9, 10, 11, 12, 13, 14, 15, 16, 17, 18, 19, 20, 21, 22, 23, 24, 25, 26, 27, 28, 29, 30, 31, 32, 33, 34, 35, 36, 37, 38, 39, 40, 41, 42, 43, 44, 45, 46, 47, 48, 49, 50, 51, 52, 53, 54, 55, 56, 57, 58, 59, 60, 61, 62, 63, 64, 65, 66, 67, 68, 69, 70, 71, 72, 73, 74, 75, 76, 77, 78, 79, 80, 81, 82, 83, 84, 85, 86, 87, 88, 89, 90, 91], [91])])
def norialaw10_known.B11 : List Nat := [0, 0, 3, 0, 15, 31, 63, 127, 255, 511, 1023, 2047, 4095, 8191, 16383, 32767, 65535, 131071, 262143, 524287, 1048575, 2097151, 4194303, 262143, 16777215, 33554431, 67108863, 134217727, 268435455, 536870911, 1073741823, 2147483647, 134217727, 8589934591, 17179869183, 34359738367, 68719476735, 137438953471, 274877906943, 549755813887, 1099511627775, 2199023255551, 2199023255551, 8796093022207, 17592186044415, 35184372088831, 70368744177663, 140737488355327, 281474976710655, 562949953421311, 1125899906842623, 2251799813685247, 4503599627370495, 9007199254740991, 18014398509481983, 18014398509481983, 54043195528445951, 144115188075855871, 288230376151711743, 576460752303423487, 1152921504606846975, 2305843009213693951, 2305843009213693951, 6917529027641081855, 16140901064495857663, 2305843009213693951, 39199331156632797183, 112986307451471003647, 2305843009213693951, 297453748188566519807, 887749558547272171519, 2358877398425608912895, 4722366482869645213695, 9444732965739290427391, 18889465931478580854783, 37778931862957161709567, 75557863725914323419135, 151115727451828646838271, 302231454903657293676543, 604462909807314587353087, 1208925819614629174706175, 2417851639229258349412351, 4835703278458516698824703, 4835703278458516698824703, 19342813113834066795298815, 38685626227668133590597631, 77371252455336267181195263, 154742504910672534362390527, 309485009821345068724781055, 618970019642690137449562111, 1237940039285380274899124223, 2475880078570760549798248447, 4951760157141521099596496895]
theorem norialaw10_known.tab11 : rtab .any (opsOf Try.f5 11) = norialaw10_known.T11 := by kernel_rfl
theorem norialaw10_known.bits11 : waitsOk norialaw10_known.T11.2 norialaw10_known.B11 = true := by kernel_rfl
set_option maxHeartbeats 8000000 in
set_option maxRecDepth 100000 in
theorem norialaw10_known.calls (k : Nat)  (r : Bool) (w : World) (h : norialaw10_known.f k  = some r) :
  Calls Try.prog 5 #[] w fun e w' => e = .returned (.bool r) ∧ Below w.heap.size w w' := by
 have hu44 := Try.underlying44
 have hu36 := Try.underlying36
 have HB := Aside0.mk (Below.refl w.heap.size w)
 have H : ((norialaw10_Three.f).bind fun t191 => ((norialaw3_N.f 1).bind fun bt194 => ((norialaw3_S.f (⟨#[120]⟩ : ByteArray)).bind fun bt198 => ((norialaw3_C.f 2 3).bind fun bt202 => ((some (([(⟨bt194.1, bt194.2.1, bt194.2.2.1, bt194.2.2.2⟩ : S44), (⟨bt198.1, bt198.2.1, bt198.2.2.1, bt198.2.2.2⟩ : S44), (⟨bt202.1, bt202.2.1, bt202.2.2.1, bt202.2.2.2⟩ : S44)] : List (S44)) : List (S44))).bind fun y206 => ((schema_Turned.f k t191 (([y206, (([(⟨0, 0, (⟨#[]⟩ : ByteArray), ((0, 0) : Nat × Nat)⟩ : S44), (⟨0, 0, (⟨#[]⟩ : ByteArray), ((0, 0) : Nat × Nat)⟩ : S44), (⟨0, 0, (⟨#[]⟩ : ByteArray), ((0, 0) : Nat × Nat)⟩ : S44)] : List (S44)))] : List (List (S44))))).bind fun bt215 => ((schema_Find.f k t191 (⟨#[112]⟩ : ByteArray)).bind fun bt219 => ((schema_Find.f k t191 (⟨#[113]⟩ : ByteArray)).bind fun bt221 => ((schema_Put.f k ([] : List Int) t191).bind fun bt223 => ((schema_Get.f k bt223.1 0).bind fun bt227 => ((schema_Get.f k (([9] : List Int)) 0).bind fun bt235 => (if (bt215.1.length : Int) = 3 then (if 2 < (bt215.1.length : Int) then (norialaw10_known.j0 k t191 y206 bt215.1 bt215.2 bt219.1 bt219.2 bt221.2 bt223.1 bt223.2 bt227.1 bt227.2.1 bt227.2.2 bt235.2.2 (((rd_L7 bt215.1 2).length : Int) != 2)) else (none)) else (norialaw10_known.j0 k t191 y206 bt215.1 bt215.2 bt219.1 bt219.2 bt221.2 bt223.1 bt223.2 bt227.1 bt227.2.1 bt227.2.2 bt235.2.2 true))))))))))))) = some r := h
 clear h
 replace H := Option.bind_eq_some_iff.mp H
 obtain ⟨t191, A10, H⟩ := H
 replace H : ((norialaw3_N.f 1).bind fun bt194 => ((norialaw3_S.f (⟨#[120]⟩ : ByteArray)).bind fun bt198 => ((norialaw3_C.f 2 3).bind fun bt202 => ((some (([(⟨bt194.1, bt194.2.1, bt194.2.2.1, bt194.2.2.2⟩ : S44), (⟨bt198.1, bt198.2.1, bt198.2.2.1, bt198.2.2.2⟩ : S44), (⟨bt202.1, bt202.2.1, bt202.2.2.1, bt202.2.2.2⟩ : S44)] : List (S44)) : List (S44))).bind fun y206 => ((schema_Turned.f k t191 (([y206, (([(⟨0, 0, (⟨#[]⟩ : ByteArray), ((0, 0) : Nat × Nat)⟩ : S44), (⟨0, 0, (⟨#[]⟩ : ByteArray), ((0, 0) : Nat × Nat)⟩ : S44), (⟨0, 0, (⟨#[]⟩ : ByteArray), ((0, 0) : Nat × Nat)⟩ : S44)] : List (S44)))] : List (List (S44))))).bind fun bt215 => ((schema_Find.f k t191 (⟨#[112]⟩ : ByteArray)).bind fun bt219 => ((schema_Find.f k t191 (⟨#[113]⟩ : ByteArray)).bind fun bt221 => ((schema_Put.f k ([] : List Int) t191).bind fun bt223 => ((schema_Get.f k bt223.1 0).bind fun bt227 => ((schema_Get.f k (([9] : List Int)) 0).bind fun bt235 => (if (bt215.1.length : Int) = 3 then (if 2 < (bt215.1.length : Int) then (norialaw10_known.j0 k t191 y206 bt215.1 bt215.2 bt219.1 bt219.2 bt221.2 bt223.1 bt223.2 bt227.1 bt227.2.1 bt227.2.2 bt235.2.2 (((rd_L7 bt215.1 2).length : Int) != 2)) else (none)) else (norialaw10_known.j0 k t191 y206 bt215.1 bt215.2 bt219.1 bt219.2 bt221.2 bt223.1 bt223.2 bt227.1 bt227.2.1 bt227.2.2 bt235.2.2 true)))))))))))) = some r := H
 have A1 := Aside0.mk A10
 clear A10
 replace H := Option.bind_eq_some_iff.mp H
 obtain ⟨⟨t194, t195, t196, t197⟩, A20, H⟩ := H
 replace H : ((norialaw3_S.f (⟨#[120]⟩ : ByteArray)).bind fun bt198 => ((norialaw3_C.f 2 3).bind fun bt202 => ((some (([(⟨t194, t195, t196, t197⟩ : S44), (⟨bt198.1, bt198.2.1, bt198.2.2.1, bt198.2.2.2⟩ : S44), (⟨bt202.1, bt202.2.1, bt202.2.2.1, bt202.2.2.2⟩ : S44)] : List (S44)) : List (S44))).bind fun y206 => ((schema_Turned.f k t191 (([y206, (([(⟨0, 0, (⟨#[]⟩ : ByteArray), ((0, 0) : Nat × Nat)⟩ : S44), (⟨0, 0, (⟨#[]⟩ : ByteArray), ((0, 0) : Nat × Nat)⟩ : S44), (⟨0, 0, (⟨#[]⟩ : ByteArray), ((0, 0) : Nat × Nat)⟩ : S44)] : List (S44)))] : List (List (S44))))).bind fun bt215 => ((schema_Find.f k t191 (⟨#[112]⟩ : ByteArray)).bind fun bt219 => ((schema_Find.f k t191 (⟨#[113]⟩ : ByteArray)).bind fun bt221 => ((schema_Put.f k ([] : List Int) t191).bind fun bt223 => ((schema_Get.f k bt223.1 0).bind fun bt227 => ((schema_Get.f k (([9] : List Int)) 0).bind fun bt235 => (if (bt215.1.length : Int) = 3 then (if 2 < (bt215.1.length : Int) then (norialaw10_known.j0 k t191 y206 bt215.1 bt215.2 bt219.1 bt219.2 bt221.2 bt223.1 bt223.2 bt227.1 bt227.2.1 bt227.2.2 bt235.2.2 (((rd_L7 bt215.1 2).length : Int) != 2)) else (none)) else (norialaw10_known.j0 k t191 y206 bt215.1 bt215.2 bt219.1 bt219.2 bt221.2 bt223.1 bt223.2 bt227.1 bt227.2.1 bt227.2.2 bt235.2.2 true))))))))))) = some r := H
 have A2 := Aside0.mk A20
 clear A20
 replace H := Option.bind_eq_some_iff.mp H
 obtain ⟨⟨t198, t199, t200, t201⟩, A30, H⟩ := H
 replace H : ((norialaw3_C.f 2 3).bind fun bt202 => ((some (([(⟨t194, t195, t196, t197⟩ : S44), (⟨t198, t199, t200, t201⟩ : S44), (⟨bt202.1, bt202.2.1, bt202.2.2.1, bt202.2.2.2⟩ : S44)] : List (S44)) : List (S44))).bind fun y206 => ((schema_Turned.f k t191 (([y206, (([(⟨0, 0, (⟨#[]⟩ : ByteArray), ((0, 0) : Nat × Nat)⟩ : S44), (⟨0, 0, (⟨#[]⟩ : ByteArray), ((0, 0) : Nat × Nat)⟩ : S44), (⟨0, 0, (⟨#[]⟩ : ByteArray), ((0, 0) : Nat × Nat)⟩ : S44)] : List (S44)))] : List (List (S44))))).bind fun bt215 => ((schema_Find.f k t191 (⟨#[112]⟩ : ByteArray)).bind fun bt219 => ((schema_Find.f k t191 (⟨#[113]⟩ : ByteArray)).bind fun bt221 => ((schema_Put.f k ([] : List Int) t191).bind fun bt223 => ((schema_Get.f k bt223.1 0).bind fun bt227 => ((schema_Get.f k (([9] : List Int)) 0).bind fun bt235 => (if (bt215.1.length : Int) = 3 then (if 2 < (bt215.1.length : Int) then (norialaw10_known.j0 k t191 y206 bt215.1 bt215.2 bt219.1 bt219.2 bt221.2 bt223.1 bt223.2 bt227.1 bt227.2.1 bt227.2.2 bt235.2.2 (((rd_L7 bt215.1 2).length : Int) != 2)) else (none)) else (norialaw10_known.j0 k t191 y206 bt215.1 bt215.2 bt219.1 bt219.2 bt221.2 bt223.1 bt223.2 bt227.1 bt227.2.1 bt227.2.2 bt235.2.2 true)))))))))) = some r := H
 have A3 := Aside0.mk A30
 clear A30
 replace H := Option.bind_eq_some_iff.mp H
 obtain ⟨⟨t202, t203, t204, t205⟩, A40, H⟩ := H
 replace H : ((some (([(⟨t194, t195, t196, t197⟩ : S44), (⟨t198, t199, t200, t201⟩ : S44), (⟨t202, t203, t204, t205⟩ : S44)] : List (S44)) : List (S44))).bind fun y206 => ((schema_Turned.f k t191 (([y206, (([(⟨0, 0, (⟨#[]⟩ : ByteArray), ((0, 0) : Nat × Nat)⟩ : S44), (⟨0, 0, (⟨#[]⟩ : ByteArray), ((0, 0) : Nat × Nat)⟩ : S44), (⟨0, 0, (⟨#[]⟩ : ByteArray), ((0, 0) : Nat × Nat)⟩ : S44)] : List (S44)))] : List (List (S44))))).bind fun bt215 => ((schema_Find.f k t191 (⟨#[112]⟩ : ByteArray)).bind fun bt219 => ((schema_Find.f k t191 (⟨#[113]⟩ : ByteArray)).bind fun bt221 => ((schema_Put.f k ([] : List Int) t191).bind fun bt223 => ((schema_Get.f k bt223.1 0).bind fun bt227 => ((schema_Get.f k (([9] : List Int)) 0).bind fun bt235 => (if (bt215.1.length : Int) = 3 then (if 2 < (bt215.1.length : Int) then (norialaw10_known.j0 k t191 y206 bt215.1 bt215.2 bt219.1 bt219.2 bt221.2 bt223.1 bt223.2 bt227.1 bt227.2.1 bt227.2.2 bt235.2.2 (((rd_L7 bt215.1 2).length : Int) != 2)) else (none)) else (norialaw10_known.j0 k t191 y206 bt215.1 bt215.2 bt219.1 bt219.2 bt221.2 bt223.1 bt223.2 bt227.1 bt227.2.1 bt227.2.2 bt235.2.2 true))))))))) = some r := H
 have A4 := Aside0.mk A40
 clear A40
 obtain ⟨y206, hy206⟩ : ∃ y_ : List (S44), y_ = (([(⟨t194, t195, t196, t197⟩ : S44), (⟨t198, t199, t200, t201⟩ : S44), (⟨t202, t203, t204, t205⟩ : S44)] : List (S44))) := ⟨_, rfl⟩
 replace H : ((schema_Turned.f k t191 (([y206, (([(⟨0, 0, (⟨#[]⟩ : ByteArray), ((0, 0) : Nat × Nat)⟩ : S44), (⟨0, 0, (⟨#[]⟩ : ByteArray), ((0, 0) : Nat × Nat)⟩ : S44), (⟨0, 0, (⟨#[]⟩ : ByteArray), ((0, 0) : Nat × Nat)⟩ : S44)] : List (S44)))] : List (List (S44))))).bind fun bt215 => ((schema_Find.f k t191 (⟨#[112]⟩ : ByteArray)).bind fun bt219 => ((schema_Find.f k t191 (⟨#[113]⟩ : ByteArray)).bind fun bt221 => ((schema_Put.f k ([] : List Int) t191).bind fun bt223 => ((schema_Get.f k bt223.1 0).bind fun bt227 => ((schema_Get.f k (([9] : List Int)) 0).bind fun bt235 => (if (bt215.1.length : Int) = 3 then (if 2 < (bt215.1.length : Int) then (norialaw10_known.j0 k t191 y206 bt215.1 bt215.2 bt219.1 bt219.2 bt221.2 bt223.1 bt223.2 bt227.1 bt227.2.1 bt227.2.2 bt235.2.2 (((rd_L7 bt215.1 2).length : Int) != 2)) else (none)) else (norialaw10_known.j0 k t191 y206 bt215.1 bt215.2 bt219.1 bt219.2 bt221.2 bt223.1 bt223.2 bt227.1 bt227.2.1 bt227.2.2 bt235.2.2 true)))))))) = some r := by first | (rw [hy206]; with_reducible exact H) | (have H2_ := (Option.bind_some _ _).symm.trans H; rw [hy206]; with_reducible exact H2_) | (have H2_ := (Option.bind_some _ _).symm.trans H; with_reducible exact H2_) | with_reducible exact H | (rw [hy206]; exact H) | exact H
 have Ny206 := Aside0.mk hy206
 clear hy206
 obtain ⟨y209, hy209⟩ : ∃ y_ : List (S44), y_ = (([(⟨0, 0, (⟨#[]⟩ : ByteArray), ((0, 0) : Nat × Nat)⟩ : S44), (⟨0, 0, (⟨#[]⟩ : ByteArray), ((0, 0) : Nat × Nat)⟩ : S44), (⟨0, 0, (⟨#[]⟩ : ByteArray), ((0, 0) : Nat × Nat)⟩ : S44)] : List (S44))) := ⟨_, rfl⟩
 replace H : ((schema_Turned.f k t191 (([y206, y209] : List (List (S44))))).bind fun bt215 => ((schema_Find.f k t191 (⟨#[112]⟩ : ByteArray)).bind fun bt219 => ((schema_Find.f k t191 (⟨#[113]⟩ : ByteArray)).bind fun bt221 => ((schema_Put.f k ([] : List Int) t191).bind fun bt223 => ((schema_Get.f k bt223.1 0).bind fun bt227 => ((schema_Get.f k (([9] : List Int)) 0).bind fun bt235 => (if (bt215.1.length : Int) = 3 then (if 2 < (bt215.1.length : Int) then (norialaw10_known.j0 k t191 y206 bt215.1 bt215.2 bt219.1 bt219.2 bt221.2 bt223.1 bt223.2 bt227.1 bt227.2.1 bt227.2.2 bt235.2.2 (((rd_L7 bt215.1 2).length : Int) != 2)) else (none)) else (norialaw10_known.j0 k t191 y206 bt215.1 bt215.2 bt219.1 bt219.2 bt221.2 bt223.1 bt223.2 bt227.1 bt227.2.1 bt227.2.2 bt235.2.2 true)))))))) = some r := by first | (rw [hy209]; with_reducible exact H) | (have H2_ := (Option.bind_some _ _).symm.trans H; rw [hy209]; with_reducible exact H2_) | (have H2_ := (Option.bind_some _ _).symm.trans H; with_reducible exact H2_) | with_reducible exact H | (rw [hy209]; exact H) | exact H
 have Ny209 := Aside0.mk hy209
 clear hy209
 obtain ⟨y212, hy212⟩ : ∃ y_ : List (List (S44)), y_ = (([y206, y209] : List (List (S44)))) := ⟨_, rfl⟩
 replace H : ((schema_Turned.f k t191 y212).bind fun bt215 => ((schema_Find.f k t191 (⟨#[112]⟩ : ByteArray)).bind fun bt219 => ((schema_Find.f k t191 (⟨#[113]⟩ : ByteArray)).bind fun bt221 => ((schema_Put.f k ([] : List Int) t191).bind fun bt223 => ((schema_Get.f k bt223.1 0).bind fun bt227 => ((schema_Get.f k (([9] : List Int)) 0).bind fun bt235 => (if (bt215.1.length : Int) = 3 then (if 2 < (bt215.1.length : Int) then (norialaw10_known.j0 k t191 y206 bt215.1 bt215.2 bt219.1 bt219.2 bt221.2 bt223.1 bt223.2 bt227.1 bt227.2.1 bt227.2.2 bt235.2.2 (((rd_L7 bt215.1 2).length : Int) != 2)) else (none)) else (norialaw10_known.j0 k t191 y206 bt215.1 bt215.2 bt219.1 bt219.2 bt221.2 bt223.1 bt223.2 bt227.1 bt227.2.1 bt227.2.2 bt235.2.2 true)))))))) = some r := by first | (rw [hy212]; with_reducible exact H) | (have H2_ := (Option.bind_some _ _).symm.trans H; rw [hy212]; with_reducible exact H2_) | (have H2_ := (Option.bind_some _ _).symm.trans H; with_reducible exact H2_) | with_reducible exact H | (rw [hy212]; exact H) | exact H
 have Ny212 := Aside0.mk hy212
 clear hy212
 replace H := Option.bind_eq_some_iff.mp H
 obtain ⟨⟨t215, t216⟩, A50, H⟩ := H
 replace H : ((schema_Find.f k t191 (⟨#[112]⟩ : ByteArray)).bind fun bt219 => ((schema_Find.f k t191 (⟨#[113]⟩ : ByteArray)).bind fun bt221 => ((schema_Put.f k ([] : List Int) t191).bind fun bt223 => ((schema_Get.f k bt223.1 0).bind fun bt227 => ((schema_Get.f k (([9] : List Int)) 0).bind fun bt235 => (if (t215.length : Int) = 3 then (if 2 < (t215.length : Int) then (norialaw10_known.j0 k t191 y206 t215 t216 bt219.1 bt219.2 bt221.2 bt223.1 bt223.2 bt227.1 bt227.2.1 bt227.2.2 bt235.2.2 (((rd_L7 t215 2).length : Int) != 2)) else (none)) else (norialaw10_known.j0 k t191 y206 t215 t216 bt219.1 bt219.2 bt221.2 bt223.1 bt223.2 bt227.1 bt227.2.1 bt227.2.2 bt235.2.2 true))))))) = some r := H
 have A5 := Aside0.mk A50
 clear A50
 replace H := Option.bind_eq_some_iff.mp H
 obtain ⟨⟨t219, t220⟩, A60, H⟩ := H
 replace H : ((schema_Find.f k t191 (⟨#[113]⟩ : ByteArray)).bind fun bt221 => ((schema_Put.f k ([] : List Int) t191).bind fun bt223 => ((schema_Get.f k bt223.1 0).bind fun bt227 => ((schema_Get.f k (([9] : List Int)) 0).bind fun bt235 => (if (t215.length : Int) = 3 then (if 2 < (t215.length : Int) then (norialaw10_known.j0 k t191 y206 t215 t216 t219 t220 bt221.2 bt223.1 bt223.2 bt227.1 bt227.2.1 bt227.2.2 bt235.2.2 (((rd_L7 t215 2).length : Int) != 2)) else (none)) else (norialaw10_known.j0 k t191 y206 t215 t216 t219 t220 bt221.2 bt223.1 bt223.2 bt227.1 bt227.2.1 bt227.2.2 bt235.2.2 true)))))) = some r := H
 have A6 := Aside0.mk A60
 clear A60
 replace H := Option.bind_eq_some_iff.mp H
 obtain ⟨⟨t221, t222⟩, A70, H⟩ := H
 replace H : ((schema_Put.f k ([] : List Int) t191).bind fun bt223 => ((schema_Get.f k bt223.1 0).bind fun bt227 => ((schema_Get.f k (([9] : List Int)) 0).bind fun bt235 => (if (t215.length : Int) = 3 then (if 2 < (t215.length : Int) then (norialaw10_known.j0 k t191 y206 t215 t216 t219 t220 t222 bt223.1 bt223.2 bt227.1 bt227.2.1 bt227.2.2 bt235.2.2 (((rd_L7 t215 2).length : Int) != 2)) else (none)) else (norialaw10_known.j0 k t191 y206 t215 t216 t219 t220 t222 bt223.1 bt223.2 bt227.1 bt227.2.1 bt227.2.2 bt235.2.2 true))))) = some r := H
 have A7 := Aside0.mk A70
 clear A70
 replace H := Option.bind_eq_some_iff.mp H
 obtain ⟨⟨t223, t224⟩, A80, H⟩ := H
 replace H : ((schema_Get.f k t223 0).bind fun bt227 => ((schema_Get.f k (([9] : List Int)) 0).bind fun bt235 => (if (t215.length : Int) = 3 then (if 2 < (t215.length : Int) then (norialaw10_known.j0 k t191 y206 t215 t216 t219 t220 t222 t223 t224 bt227.1 bt227.2.1 bt227.2.2 bt235.2.2 (((rd_L7 t215 2).length : Int) != 2)) else (none)) else (norialaw10_known.j0 k t191 y206 t215 t216 t219 t220 t222 t223 t224 bt227.1 bt227.2.1 bt227.2.2 bt235.2.2 true)))) = some r := H
 have A8 := Aside0.mk A80
 clear A80
 replace H := Option.bind_eq_some_iff.mp H
 obtain ⟨⟨t227, t228, t229⟩, A90, H⟩ := H
 replace H : ((schema_Get.f k (([9] : List Int)) 0).bind fun bt235 => (if (t215.length : Int) = 3 then (if 2 < (t215.length : Int) then (norialaw10_known.j0 k t191 y206 t215 t216 t219 t220 t222 t223 t224 t227 t228 t229 bt235.2.2 (((rd_L7 t215 2).length : Int) != 2)) else (none)) else (norialaw10_known.j0 k t191 y206 t215 t216 t219 t220 t222 t223 t224 t227 t228 t229 bt235.2.2 true))) = some r := H
 have A9 := Aside0.mk A90
 clear A90
 obtain ⟨y232, hy232⟩ : ∃ y_ : List Int, y_ = (([9] : List Int)) := ⟨_, rfl⟩
 replace H : ((schema_Get.f k y232 0).bind fun bt235 => (if (t215.length : Int) = 3 then (if 2 < (t215.length : Int) then (norialaw10_known.j0 k t191 y206 t215 t216 t219 t220 t222 t223 t224 t227 t228 t229 bt235.2.2 (((rd_L7 t215 2).length : Int) != 2)) else (none)) else (norialaw10_known.j0 k t191 y206 t215 t216 t219 t220 t222 t223 t224 t227 t228 t229 bt235.2.2 true))) = some r := by first | (rw [hy232]; with_reducible exact H) | (have H2_ := (Option.bind_some _ _).symm.trans H; rw [hy232]; with_reducible exact H2_) | (have H2_ := (Option.bind_some _ _).symm.trans H; with_reducible exact H2_) | with_reducible exact H | (rw [hy232]; exact H) | exact H
 have Ny232 := Aside0.mk hy232
 clear hy232
 replace H := Option.bind_eq_some_iff.mp H
 obtain ⟨⟨t235, t236, t237⟩, A100, H⟩ := H
 replace H : (if (t215.length : Int) = 3 then (if 2 < (t215.length : Int) then (norialaw10_known.j0 k t191 y206 t215 t216 t219 t220 t222 t223 t224 t227 t228 t229 t237 (((rd_L7 t215 2).length : Int) != 2)) else (none)) else (norialaw10_known.j0 k t191 y206 t215 t216 t219 t220 t222 t223 t224 t227 t228 t229 t237 true)) = some r := H
 have A10 := Aside0.mk A100
 clear A100
 have HC11 := Aside0.mk H
 clear H
 go_enter Try.func5, Try.ntmps5
 go_upto_region 9 with (first | ((with_reducible refine gate_callee (f := 12) rfl ?_); refine goesL_ (some 17) rfl rfl Try.func12 (by kernel_rfl) rfl #[] rfl (by (try simp only [List.map_toArray, List.map_cons, List.map_nil]); first | done | rfl | (simp only [List.length_drop, List.length_take]; rfl)) ?_; (with_reducible refine (norialaw10_Three.calls  t191 _ A1.out).mono ?_); rintro e w12 ⟨v192, rfl, ho0, hb⟩; refine ⟨_, rfl, ?_⟩; have n0_ := Aside0.mk (Kd.R_lower ho0 (below_size (by repeat (first | (with_reducible first | exact HB.out | apply below_alloc | apply pw_below_drewN | apply below_drew1) | exact HB.out)))); have n1_ := Aside0.mk (below_step (by repeat (first | (with_reducible first | exact HB.out | apply below_alloc | apply pw_below_drewN | apply below_drew1) | exact HB.out)) hb); clear HB; have HO193 := n0_; have HB := n1_; clear n0_ n1_; (try clear hb); (try clear hb2); (try clear hk); (try clear hi); (try clear ho0)) | ((with_reducible refine gate_callee (f := 13) rfl ?_); refine goesL_ (some 18) rfl rfl Try.func13 (by kernel_rfl) rfl #[.int .i64 1] rfl (by (try simp only [List.map_toArray, List.map_cons, List.map_nil]); first | done | rfl | (simp only [List.length_drop, List.length_take]; rfl)) ?_; (with_reducible refine (norialaw3_N.calls 1 t194 t195 t196 t197 _ A2.out).mono ?_); rintro e w13 ⟨rfl, hb⟩; refine ⟨_, rfl, ?_⟩; have n0_ := Aside0.mk (Kd.R_below (by (with_reducible repeat (first | apply Kd.R_alloc | apply Kd.R_drewN | apply Kd.R_drew)); exact HO193.out) hb); have n1_ := Aside0.mk (below_step (by repeat (first | (with_reducible first | exact HB.out | apply below_alloc | apply pw_below_drewN | apply below_drew1) | exact HB.out)) hb); clear HO193; clear HB; have HO193 := n0_; have HB := n1_; clear n0_ n1_; (try clear hb); (try clear hb2); (try clear hk); (try clear hi)) | ((with_reducible refine gate_callee (f := 14) rfl ?_); refine goesL_ (some 19) rfl rfl Try.func14 (by kernel_rfl) rfl #[.string (⟨#[120]⟩ : ByteArray)] rfl (by (try simp only [List.map_toArray, List.map_cons, List.map_nil]); first | done | rfl | (simp only [List.length_drop, List.length_take]; rfl)) ?_; (with_reducible refine (norialaw3_S.calls (⟨#[120]⟩ : ByteArray) t198 t199 t200 t201 _ A3.out).mono ?_); rintro e w14 ⟨rfl, hb⟩; refine ⟨_, rfl, ?_⟩; have n0_ := Aside0.mk (Kd.R_below (by (with_reducible repeat (first | apply Kd.R_alloc | apply Kd.R_drewN | apply Kd.R_drew)); exact HO193.out) hb); have n1_ := Aside0.mk (below_step (by repeat (first | (with_reducible first | exact HB.out | apply below_alloc | apply pw_below_drewN | apply below_drew1) | exact HB.out)) hb); clear HO193; clear HB; have HO193 := n0_; have HB := n1_; clear n0_ n1_; (try clear hb); (try clear hb2); (try clear hk); (try clear hi)) | ((with_reducible refine gate_callee (f := 15) rfl ?_); refine goesL_ (some 20) rfl rfl Try.func15 (by kernel_rfl) rfl #[.int .i64 2, .int .i64 3] rfl (by (try simp only [List.map_toArray, List.map_cons, List.map_nil]); first | done | rfl | (simp only [List.length_drop, List.length_take]; rfl)) ?_; (with_reducible refine (norialaw3_C.calls 2 3 t202 t203 t204 t205 _ A4.out).mono ?_); rintro e w15 ⟨rfl, hb⟩; refine ⟨_, rfl, ?_⟩; have n0_ := Aside0.mk (Kd.R_below (by (with_reducible repeat (first | apply Kd.R_alloc | apply Kd.R_drewN | apply Kd.R_drew)); exact HO193.out) hb); have n1_ := Aside0.mk (below_step (by repeat (first | (with_reducible first | exact HB.out | apply below_alloc | apply pw_below_drewN | apply below_drew1) | exact HB.out)) hb); clear HO193; clear HB; have HO193 := n0_; have HB := n1_; clear n0_ n1_; (try clear hb); (try clear hb2); (try clear hk); (try clear hi)) | ((with_reducible refine gate_dst (N := 21) rfl ?_); (try (refine gate_guard (by rfl) ?_; dsimp only)); refine Kd.R_lit k44 _ 44 ?hg (N := 21) ?hd (xs := ([(⟨t194, t195, t196, t197⟩ : S44), (⟨t198, t199, t200, t201⟩ : S44), (⟨t202, t203, t204, t205⟩ : S44)] : List (S44))) (inner := [.int .i64 t194, .int .i64 t195, .string t196, .complex .f64 t197.1 t197.2, .int .i64 t198, .int .i64 t199, .string t200, .complex .f64 t201.1 t201.2, .int .i64 t202, .int .i64 t203, .string t204, .complex .f64 t205.1 t205.2]) (ok := fun _ => True) (okp := fun _ => True) ?hr ?hp (fun _ hk => hk) trivial (Below.refl _ _) (Nat.le_refl _) (by simp) ?_; (case hd => rfl); (case hg => rfl); (case hr => first | (go_simp; done) | (go_simp; rfl)); (case hp => exact (Reps.c4 (show Kd.M k44 _ _ _ (⟨t194, t195, t196, t197⟩ : S44) [.int .i64 t194, .int .i64 t195, .string t196, .complex .f64 t197.1 t197.2] from (k44_mkM _ _ _ (⟨t194, t195, t196, t197⟩ : S44) )) (Reps.c4 (show Kd.M k44 _ _ _ (⟨t198, t199, t200, t201⟩ : S44) [.int .i64 t198, .int .i64 t199, .string t200, .complex .f64 t201.1 t201.2] from (k44_mkM _ _ _ (⟨t198, t199, t200, t201⟩ : S44) )) (Reps.c4 (show Kd.M k44 _ _ _ (⟨t202, t203, t204, t205⟩ : S44) [.int .i64 t202, .int .i64 t203, .string t204, .complex .f64 t205.1 t205.2] from (k44_mkM _ _ _ (⟨t202, t203, t204, t205⟩ : S44) )) (Reps.none _ _))))); intro v207 w16 ho17 hb hg_ hnew_; clear hg_ hnew_; (first | rw [← Ny206.out] at ho17 | (simp only [Int.reduceToNat] at ho17; rw [← Ny206.out] at ho17)); have n0_ := Aside0.mk (Kd.R_below (by (with_reducible repeat (first | apply Kd.R_alloc | apply Kd.R_drewN | apply Kd.R_drew)); exact HO193.out) hb); have n1_ := Aside0.mk (Kd.R_lower ho17 (below_size (by repeat (first | (with_reducible first | exact HB.out | apply below_alloc | apply pw_below_drewN | apply below_drew1) | exact HB.out)))); have n2_ := Aside0.mk (below_step (by repeat (first | (with_reducible first | exact HB.out | apply below_alloc | apply pw_below_drewN | apply below_drew1) | exact HB.out)) hb); clear HO193; clear HB; have HO193 := n0_; have HO208 := n1_; have HB := n2_; clear n0_ n1_ n2_; clear hb ho17) | ((with_reducible refine gate_dst (N := 28) rfl ?_); (try (refine gate_guard (by rfl) ?_; dsimp only)); refine Kd.R_lit k44 _ 44 ?hg (N := 28) ?hd (xs := ([(⟨0, 0, (⟨#[]⟩ : ByteArray), ((0, 0) : Nat × Nat)⟩ : S44), (⟨0, 0, (⟨#[]⟩ : ByteArray), ((0, 0) : Nat × Nat)⟩ : S44), (⟨0, 0, (⟨#[]⟩ : ByteArray), ((0, 0) : Nat × Nat)⟩ : S44)] : List (S44))) (inner := [.int .i64 0, .int .i64 0, .string (⟨#[]⟩ : ByteArray), .complex .f64 0 0, .int .i64 0, .int .i64 0, .string (⟨#[]⟩ : ByteArray), .complex .f64 0 0, .int .i64 0, .int .i64 0, .string (⟨#[]⟩ : ByteArray), .complex .f64 0 0]) (ok := fun _ => True) (okp := fun _ => True) ?hr ?hp (fun _ hk => hk) trivial (Below.refl _ _) (Nat.le_refl _) (by simp) ?_; (case hd => rfl); (case hg => rfl); (case hr => first | (go_simp; done) | (go_simp; rfl)); (case hp => exact (Reps.c4 (show Kd.M k44 _ _ _ (⟨0, 0, (⟨#[]⟩ : ByteArray), ((0, 0) : Nat × Nat)⟩ : S44) [.int .i64 0, .int .i64 0, .string (⟨#[]⟩ : ByteArray), .complex .f64 0 0] from (k44_mkM _ _ _ (⟨0, 0, (⟨#[]⟩ : ByteArray), ((0, 0) : Nat × Nat)⟩ : S44) )) (Reps.c4 (show Kd.M k44 _ _ _ (⟨0, 0, (⟨#[]⟩ : ByteArray), ((0, 0) : Nat × Nat)⟩ : S44) [.int .i64 0, .int .i64 0, .string (⟨#[]⟩ : ByteArray), .complex .f64 0 0] from (k44_mkM _ _ _ (⟨0, 0, (⟨#[]⟩ : ByteArray), ((0, 0) : Nat × Nat)⟩ : S44) )) (Reps.c4 (show Kd.M k44 _ _ _ (⟨0, 0, (⟨#[]⟩ : ByteArray), ((0, 0) : Nat × Nat)⟩ : S44) [.int .i64 0, .int .i64 0, .string (⟨#[]⟩ : ByteArray), .complex .f64 0 0] from (k44_mkM _ _ _ (⟨0, 0, (⟨#[]⟩ : ByteArray), ((0, 0) : Nat × Nat)⟩ : S44) )) (Reps.none _ _))))); intro v210 w18 ho19 hb hg_ hnew_; clear hg_ hnew_; (first | rw [← Ny209.out] at ho19 | (simp only [Int.reduceToNat] at ho19; rw [← Ny209.out] at ho19)); have n0_ := Aside0.mk (Kd.R_below (by (with_reducible repeat (first | apply Kd.R_alloc | apply Kd.R_drewN | apply Kd.R_drew)); exact HO193.out) hb); have n1_ := Aside0.mk (Kd.R_elder' (by (with_reducible repeat (first | apply Kd.R_alloc | apply Kd.R_drewN | apply Kd.R_drew)); exact HO208.out) (Kd.R_base ho19) hb); have n2_ := Aside0.mk (Kd.R_lower (Kd.R_new' ho19 (Kd.R_lt (by (with_reducible repeat (first | apply Kd.R_alloc | apply Kd.R_drewN | apply Kd.R_drew)); exact HO208.out))) (below_size (by repeat (first | (with_reducible first | exact HB.out | apply below_alloc | apply pw_below_drewN | apply below_drew1) | exact HB.out)))); have n3_ := Aside0.mk (below_step (by repeat (first | (with_reducible first | exact HB.out | apply below_alloc | apply pw_below_drewN | apply below_drew1) | exact HB.out)) hb); clear HO193; clear HO208; clear HB; have HO193 := n0_; have HO208 := n1_; have HO211 := n2_; have HB := n3_; clear n0_ n1_ n2_ n3_; clear hb ho19; obtain ⟨Ao20, co20, eo20⟩ := Kd.R_slice HO208.out; subst eo20; obtain ⟨Ao21, co21, eo21⟩ := Kd.R_slice HO211.out; subst eo21) | ((with_reducible refine gate_dst (N := 29) rfl ?_); (try (refine gate_guard (by rfl) ?_; dsimp only)); refine Kd.N_lit (Kd.slice 44 k44) _ 48 ?hg (N' := 29) ?hd (xs := ([y206, y209] : List (List (S44)))) (inner := [.slice Ao20 y206.length co20, .slice Ao21 y209.length co21]) (ok := (fun k_ => some k_ ≠ (v192 : Value).ownBlock)) (okp := (fun k_ => some k_ ≠ (v192 : Value).ownBlock)) ?hr ?hp (fun _ hk => hk) ((show ∀ k_, w18.heap.size ≤ k_ → (fun k_ => some k_ ≠ (v192 : Value).ownBlock) k_ from fun k_ hk => Kd.fresh' (Kd.R_lt (by (with_reducible repeat (first | apply Kd.R_alloc | apply Kd.R_drewN | apply Kd.R_drew)); exact HO193.out)) k_ hk) _ (Nat.le_refl _)) (Below.refl _ _) (Nat.le_refl _) (by simp) ?_; (case hd => rfl); (case hg => rfl); (case hr => first | (go_simp; done) | (go_simp; rfl)); (case hp => exact (Reps.one (show Kd.FK (Kd.slice 44 k44) _ _ y206 [.slice Ao20 y206.length co20] from (Kd.FK_slice_mk (Kd.R_reads' (Kd.R_mono (ok' := (fun k_ => some k_ ≠ (v192 : Value).ownBlock)) (Kd.R_apart' (HO208.out) (Kd.R_typed HO193.out) (by decide)) (fun k_ hk => hk.2))).2.1 (Kd.R_F (Kd.R_mono (ok' := (fun k_ => some k_ ≠ (v192 : Value).ownBlock)) (Kd.R_apart' (HO208.out) (Kd.R_typed HO193.out) (by decide)) (fun k_ hk => hk.2))))) (Reps.one (show Kd.FK (Kd.slice 44 k44) _ _ y209 [.slice Ao21 y209.length co21] from (Kd.FK_slice_mk (Kd.R_reads' (Kd.R_mono (ok' := (fun k_ => some k_ ≠ (v192 : Value).ownBlock)) (Kd.R_apart' (HO211.out) (Kd.R_typed HO193.out) (by decide)) (fun k_ hk => hk.2))).2.1 (Kd.R_F (Kd.R_mono (ok' := (fun k_ => some k_ ≠ (v192 : Value).ownBlock)) (Kd.R_apart' (HO211.out) (Kd.R_typed HO193.out) (by decide)) (fun k_ hk => hk.2))))) (Reps.none _ _)))); intro v213 w22 ho23 hb hg_ hnew_; clear hg_ hnew_; (first | rw [← Ny212.out] at ho23 | (simp only [Int.reduceToNat] at ho23; rw [← Ny212.out] at ho23)); have n0_ := Aside0.mk (Kd.R_below (by (with_reducible repeat (first | apply Kd.R_alloc | apply Kd.R_drewN | apply Kd.R_drew)); exact HO193.out) hb); have n1_ := Aside0.mk (Kd.R_below (by (with_reducible repeat (first | apply Kd.R_alloc | apply Kd.R_drewN | apply Kd.R_drew)); exact HO208.out) hb); have n2_ := Aside0.mk (Kd.R_below (by (with_reducible repeat (first | apply Kd.R_alloc | apply Kd.R_drewN | apply Kd.R_drew)); exact HO211.out) hb); have n3_ := Aside0.mk (Kd.N_lower ho23 (below_size (by repeat (first | (with_reducible first | exact HB.out | apply below_alloc | apply pw_below_drewN | apply below_drew1) | exact HB.out)))); have n4_ := Aside0.mk (below_step (by repeat (first | (with_reducible first | exact HB.out | apply below_alloc | apply pw_below_drewN | apply below_drew1) | exact HB.out)) hb); clear HO193; clear HO208; clear HO211; clear HB; have HO193 := n0_; have HO208 := n1_; have HO211 := n2_; have HO214 := n3_; have HB := n4_; clear n0_ n1_ n2_ n3_ n4_; clear hb ho23; obtain ⟨Ao24, co24, eo24⟩ := Kd.R_slice HO193.out; subst eo24; obtain ⟨Ao25, co25, eo25⟩ := Kd.N_slice HO214.out; subst eo25) | ((with_reducible refine gate_callee (f := 16) rfl ?_); refine goesL_ (some 30) rfl rfl Try.func16 (by kernel_rfl) rfl #[.slice Ao24 t191.length co24, .slice Ao25 y212.length co25] rfl (by (try simp only [List.map_toArray, List.map_cons, List.map_nil]); first | done | rfl | (simp only [List.length_drop, List.length_take]; rfl)) ?_; (with_reducible refine (schema_Turned.calls k _ _ t191 _ _ y212 t215 t216 _ ?side1 ?side2 ?side3 ?side4 A5.out).mono ?_); (case side1 => repeat (first | exact (Kd.R_reads' HO193.out).2.2 | (with_reducible refine Kd.C_alloc ?_ _) | (with_reducible refine Kd.C_drewN ?_ _) | (with_reducible refine Kd.C_drew ?_))); (case side2 => exact (Kd.R_reads' HO193.out).2.1); (case side3 => repeat (first | exact (Kd.N_reads' HO214.out).2.2 | (with_reducible refine Kd.C_alloc ?_ _) | (with_reducible refine Kd.C_drewN ?_ _) | (with_reducible refine Kd.C_drew ?_))); (case side4 => exact (Kd.N_reads' HO214.out).2.1); rintro e w26 ⟨v217, rfl, ho0, hb⟩; refine ⟨_, rfl, ?_⟩; have n0_ := Aside0.mk (Kd.R_below (by (with_reducible repeat (first | apply Kd.R_alloc | apply Kd.R_drewN | apply Kd.R_drew)); exact HO193.out) hb); have n1_ := Aside0.mk (Kd.R_below (by (with_reducible repeat (first | apply Kd.R_alloc | apply Kd.R_drewN | apply Kd.R_drew)); exact HO208.out) hb); have n2_ := Aside0.mk (Kd.R_below (by (with_reducible repeat (first | apply Kd.R_alloc | apply Kd.R_drewN | apply Kd.R_drew)); exact HO211.out) hb); have n3_ := Aside0.mk (Kd.N_elder' (by (with_reducible repeat (first | apply Kd.N_alloc | apply Kd.N_drewN | apply Kd.N_drew)); exact HO214.out) (Kd.S_base ho0) hb); have n4_ := Aside0.mk (Kd.N_lower (Kd.N_mono (ok' := fun k_ => some k_ ≠ (.slice Ao24 t191.length co24 : Value).ownBlock ∧ some k_ ≠ (.slice Ao20 y206.length co20 : Value).ownBlock ∧ some k_ ≠ (.slice Ao21 y209.length co21 : Value).ownBlock ∧ some k_ ≠ (.slice Ao25 y212.length co25 : Value).ownBlock) (Kd.S_N (Kd.S_bound ho0)) (fun k_ hk_ => ⟨(Kd.fresh' (Kd.R_lt (by (with_reducible repeat (first | apply Kd.R_alloc | apply Kd.R_drewN | apply Kd.R_drew)); exact HO193.out)) k_ hk_.2.1), (Kd.fresh' (Kd.R_lt (by (with_reducible repeat (first | apply Kd.R_alloc | apply Kd.R_drewN | apply Kd.R_drew)); exact HO208.out)) k_ hk_.2.1), (Kd.fresh' (Kd.R_lt (by (with_reducible repeat (first | apply Kd.R_alloc | apply Kd.R_drewN | apply Kd.R_drew)); exact HO211.out)) k_ hk_.2.1), (Kd.fresh' (Kd.N_lt (by (with_reducible repeat (first | apply Kd.N_alloc | apply Kd.N_drewN | apply Kd.N_drew)); exact HO214.out)) k_ hk_.2.1)⟩)) (below_size (by repeat (first | (with_reducible first | exact HB.out | apply below_alloc | apply pw_below_drewN | apply below_drew1) | exact HB.out)))); have n5_ := Aside0.mk (below_step (by repeat (first | (with_reducible first | exact HB.out | apply below_alloc | apply pw_below_drewN | apply below_drew1) | exact HB.out)) hb); clear HO193; clear HO208; clear HO211; clear HO214; clear HB; have HO193 := n0_; have HO208 := n1_; have HO211 := n2_; have HO214 := n3_; have HO218 := n4_; have HB := n5_; clear n0_ n1_ n2_ n3_ n4_ n5_; (try clear hb); (try clear hb2); (try clear hk); (try clear hi); (try clear ho0)) | (go_at_call 11; (with_reducible refine (schema_Find.calls k _ _ t191 (⟨#[112]⟩ : ByteArray) t219 t220 _ ?side1 ?side2 A6.out).mono ?_); (case side1 => repeat (first | exact (Kd.R_reads' HO193.out).2.2 | (with_reducible refine Kd.C_alloc ?_ _) | (with_reducible refine Kd.C_drewN ?_ _) | (with_reducible refine Kd.C_drew ?_))); (case side2 => exact (Kd.R_reads' HO193.out).2.1); rintro e w' ⟨rfl, ⟨nd, rfl⟩⟩) | (go_at_call 11; (with_reducible refine (schema_Find.calls k _ _ t191 (⟨#[113]⟩ : ByteArray) t221 t222 _ ?side1 ?side2 A7.out).mono ?_); (case side1 => repeat (first | exact (Kd.R_reads' HO193.out).2.2 | (with_reducible refine Kd.C_alloc ?_ _) | (with_reducible refine Kd.C_drewN ?_ _) | (with_reducible refine Kd.C_drew ?_))); (case side2 => exact (Kd.R_reads' HO193.out).2.1); rintro e w' ⟨rfl, ⟨nd, rfl⟩⟩) | ((with_reducible refine gate_callee (f := 17) rfl ?_); refine goesL_ (some 45) rfl rfl Try.func17 (by kernel_rfl) rfl #[.slice none 0 0, .slice Ao24 t191.length co24] rfl (by (try simp only [List.map_toArray, List.map_cons, List.map_nil]); first | done | rfl | (simp only [List.length_drop, List.length_take]; rfl)) ?_; (refine (schema_Put.calls k _ _ ([] : List Int) _ _ t191 t223 t224 _ ?side1 ?side2 ?side3 ?side4 A8.out).mono ?_); (case side1 => exact Kd.C_nil _ _); (case side2 => exact Nat.le_refl _); (case side3 => repeat (first | exact (Kd.R_reads' HO193.out).2.2 | (with_reducible refine Kd.C_alloc ?_ _) | (with_reducible refine Kd.C_drewN ?_ _) | (with_reducible refine Kd.C_drew ?_))); (case side4 => exact (Kd.R_reads' HO193.out).2.1); rintro e w27 ⟨v225, rfl, ho0, hb⟩; refine ⟨_, rfl, ?_⟩; have n0_ := Aside0.mk (Kd.R_below (by (with_reducible repeat (first | apply Kd.R_alloc | apply Kd.R_drewN | apply Kd.R_drew)); exact HO193.out) hb); have n1_ := Aside0.mk (Kd.R_below (by (with_reducible repeat (first | apply Kd.R_alloc | apply Kd.R_drewN | apply Kd.R_drew)); exact HO208.out) hb); have n2_ := Aside0.mk (Kd.R_below (by (with_reducible repeat (first | apply Kd.R_alloc | apply Kd.R_drewN | apply Kd.R_drew)); exact HO211.out) hb); have n3_ := Aside0.mk (Kd.N_elder' (by (with_reducible repeat (first | apply Kd.N_alloc | apply Kd.N_drewN | apply Kd.N_drew)); exact HO214.out) (Kd.R_base ho0) hb); have n4_ := Aside0.mk (Kd.N_elder' (by (with_reducible repeat (first | apply Kd.N_alloc | apply Kd.N_drewN | apply Kd.N_drew)); exact HO218.out) (Kd.R_base ho0) hb); have n5_ := Aside0.mk (Kd.R_lower ho0 (below_size (by repeat (first | (with_reducible first | exact HB.out | apply below_alloc | apply pw_below_drewN | apply below_drew1) | exact HB.out)))); have n6_ := Aside0.mk (below_step (by repeat (first | (with_reducible first | exact HB.out | apply below_alloc | apply pw_below_drewN | apply below_drew1) | exact HB.out)) hb); clear HO193; clear HO208; clear HO211; clear HO214; clear HO218; clear HB; have HO193 := n0_; have HO208 := n1_; have HO211 := n2_; have HO214 := n3_; have HO218 := n4_; have HO226 := n5_; have HB := n6_; clear n0_ n1_ n2_ n3_ n4_ n5_ n6_; (try clear hb); (try clear hb2); (try clear hk); (try clear hi); (try clear ho0); obtain ⟨Ao28, co28, eo28⟩ := Kd.R_slice HO226.out; subst eo28) | ((with_reducible refine gate_callee (f := 6) rfl ?_); refine goesL_ (some 50) rfl rfl Try.func6 (by kernel_rfl) rfl #[.slice Ao28 t223.length co28, .int .i64 0] rfl (by (try simp only [List.map_toArray, List.map_cons, List.map_nil]); first | done | rfl | (simp only [List.length_drop, List.length_take]; rfl)) ?_; (with_reducible refine (schema_Get.calls k _ _ t223 0 t227 t228 t229 _ ?side1 ?side2 A9.out).mono ?_); (case side1 => repeat (first | exact (Kd.R_reads' HO226.out).2.2 | (with_reducible refine Kd.C_alloc ?_ _) | (with_reducible refine Kd.C_drewN ?_ _) | (with_reducible refine Kd.C_drew ?_))); (case side2 => exact (Kd.R_reads' HO226.out).2.1); rintro e w29 ⟨v230, rfl, ho0, hb⟩; refine ⟨_, rfl, ?_⟩; have n0_ := Aside0.mk (Kd.R_elder' (by (with_reducible repeat (first | apply Kd.R_alloc | apply Kd.R_drewN | apply Kd.R_drew)); exact HO193.out) (Kd.R_base ho0) hb); have n1_ := Aside0.mk (Kd.R_below (by (with_reducible repeat (first | apply Kd.R_alloc | apply Kd.R_drewN | apply Kd.R_drew)); exact HO208.out) hb); have n2_ := Aside0.mk (Kd.R_below (by (with_reducible repeat (first | apply Kd.R_alloc | apply Kd.R_drewN | apply Kd.R_drew)); exact HO211.out) hb); have n3_ := Aside0.mk (Kd.N_elder' (by (with_reducible repeat (first | apply Kd.N_alloc | apply Kd.N_drewN | apply Kd.N_drew)); exact HO214.out) (Kd.R_base ho0) hb); have n4_ := Aside0.mk (Kd.N_elder' (by (with_reducible repeat (first | apply Kd.N_alloc | apply Kd.N_drewN | apply Kd.N_drew)); exact HO218.out) (Kd.R_base ho0) hb); have n5_ := Aside0.mk (Kd.R_below (by (with_reducible repeat (first | apply Kd.R_alloc | apply Kd.R_drewN | apply Kd.R_drew)); exact HO226.out) hb); have n6_ := Aside0.mk (Kd.R_lower (Kd.R_new' ho0 (Kd.R_lt (by (with_reducible repeat (first | apply Kd.R_alloc | apply Kd.R_drewN | apply Kd.R_drew)); exact HO193.out))) (below_size (by repeat (first | (with_reducible first | exact HB.out | apply below_alloc | apply pw_below_drewN | apply below_drew1) | exact HB.out)))); have n7_ := Aside0.mk (below_step (by repeat (first | (with_reducible first | exact HB.out | apply below_alloc | apply pw_below_drewN | apply below_drew1) | exact HB.out)) hb); clear HO193; clear HO208; clear HO211; clear HO214; clear HO218; clear HO226; clear HB; have HO193 := n0_; have HO208 := n1_; have HO211 := n2_; have HO214 := n3_; have HO218 := n4_; have HO226 := n5_; have HO231 := n6_; have HB := n7_; clear n0_ n1_ n2_ n3_ n4_ n5_ n6_ n7_; (try clear hb); (try clear hb2); (try clear hk); (try clear hi); (try clear ho0)) | ((with_reducible refine gate_dst (N := 55) rfl ?_); (try (refine gate_guard (by rfl) ?_; dsimp only)); refine Kd.R_lit (Kd.int .u8) _ 5 ?hg (N := 55) ?hd (xs := ([9] : List Int)) (inner := [.int .u8 9]) (ok := fun _ => True) (okp := fun _ => True) ?hr ?hp (fun _ hk => hk) trivial (Below.refl _ _) (Nat.le_refl _) (by simp) ?_; (case hd => rfl); (case hg => rfl); (case hr => first | (go_simp; done) | (go_simp; rfl)); (case hp => exact (Reps.one (show Kd.M (Kd.int .u8) _ _ _ 9 [.int .u8 9] from rfl) (Reps.none _ _))); intro v233 w30 ho31 hb hg_ hnew_; clear hg_ hnew_; (first | rw [← Ny232.out] at ho31 | (simp only [Int.reduceToNat] at ho31; rw [← Ny232.out] at ho31)); have n0_ := Aside0.mk (Kd.R_below (by (with_reducible repeat (first | apply Kd.R_alloc | apply Kd.R_drewN | apply Kd.R_drew)); exact HO193.out) hb); have n1_ := Aside0.mk (Kd.R_below (by (with_reducible repeat (first | apply Kd.R_alloc | apply Kd.R_drewN | apply Kd.R_drew)); exact HO208.out) hb); have n2_ := Aside0.mk (Kd.R_below (by (with_reducible repeat (first | apply Kd.R_alloc | apply Kd.R_drewN | apply Kd.R_drew)); exact HO211.out) hb); have n3_ := Aside0.mk (Kd.N_elder' (by (with_reducible repeat (first | apply Kd.N_alloc | apply Kd.N_drewN | apply Kd.N_drew)); exact HO214.out) (Kd.R_base ho31) hb); have n4_ := Aside0.mk (Kd.N_elder' (by (with_reducible repeat (first | apply Kd.N_alloc | apply Kd.N_drewN | apply Kd.N_drew)); exact HO218.out) (Kd.R_base ho31) hb); have n5_ := Aside0.mk (Kd.R_elder' (by (with_reducible repeat (first | apply Kd.R_alloc | apply Kd.R_drewN | apply Kd.R_drew)); exact HO226.out) (Kd.R_base ho31) hb); have n6_ := Aside0.mk (Kd.R_below (by (with_reducible repeat (first | apply Kd.R_alloc | apply Kd.R_drewN | apply Kd.R_drew)); exact HO231.out) hb); have n7_ := Aside0.mk (Kd.R_lower (Kd.R_new' ho31 (Kd.R_lt (by (with_reducible repeat (first | apply Kd.R_alloc | apply Kd.R_drewN | apply Kd.R_drew)); exact HO226.out))) (below_size (by repeat (first | (with_reducible first | exact HB.out | apply below_alloc | apply pw_below_drewN | apply below_drew1) | exact HB.out)))); have n8_ := Aside0.mk (below_step (by repeat (first | (with_reducible first | exact HB.out | apply below_alloc | apply pw_below_drewN | apply below_drew1) | exact HB.out)) hb); clear HO193; clear HO208; clear HO211; clear HO214; clear HO218; clear HO226; clear HO231; clear HB; have HO193 := n0_; have HO208 := n1_; have HO211 := n2_; have HO214 := n3_; have HO218 := n4_; have HO226 := n5_; have HO231 := n6_; have HO234 := n7_; have HB := n8_; clear n0_ n1_ n2_ n3_ n4_ n5_ n6_ n7_ n8_; clear hb ho31; obtain ⟨Ao32, co32, eo32⟩ := Kd.R_slice HO234.out; subst eo32) | ((with_reducible refine gate_callee (f := 6) rfl ?_); refine goesL_ (some 56) rfl rfl Try.func6 (by kernel_rfl) rfl #[.slice Ao32 y232.length co32, .int .i64 0] rfl (by (try simp only [List.map_toArray, List.map_cons, List.map_nil]); first | done | rfl | (simp only [List.length_drop, List.length_take]; rfl)) ?_; (with_reducible refine (schema_Get.calls k _ _ y232 0 t235 t236 t237 _ ?side1 ?side2 A10.out).mono ?_); (case side1 => repeat (first | exact (Kd.R_reads' HO234.out).2.2 | (with_reducible refine Kd.C_alloc ?_ _) | (with_reducible refine Kd.C_drewN ?_ _) | (with_reducible refine Kd.C_drew ?_))); (case side2 => exact (Kd.R_reads' HO234.out).2.1); rintro e w33 ⟨v238, rfl, ho0, hb⟩; refine ⟨_, rfl, ?_⟩; have n0_ := Aside0.mk (Kd.R_elder' (by (with_reducible repeat (first | apply Kd.R_alloc | apply Kd.R_drewN | apply Kd.R_drew)); exact HO193.out) (Kd.R_base ho0) hb); have n1_ := Aside0.mk (Kd.R_below (by (with_reducible repeat (first | apply Kd.R_alloc | apply Kd.R_drewN | apply Kd.R_drew)); exact HO208.out) hb); have n2_ := Aside0.mk (Kd.R_below (by (with_reducible repeat (first | apply Kd.R_alloc | apply Kd.R_drewN | apply Kd.R_drew)); exact HO211.out) hb); have n3_ := Aside0.mk (Kd.N_elder' (by (with_reducible repeat (first | apply Kd.N_alloc | apply Kd.N_drewN | apply Kd.N_drew)); exact HO214.out) (Kd.R_base ho0) hb); have n4_ := Aside0.mk (Kd.N_elder' (by (with_reducible repeat (first | apply Kd.N_alloc | apply Kd.N_drewN | apply Kd.N_drew)); exact HO218.out) (Kd.R_base ho0) hb); have n5_ := Aside0.mk (Kd.R_below (by (with_reducible repeat (first | apply Kd.R_alloc | apply Kd.R_drewN | apply Kd.R_drew)); exact HO226.out) hb); have n6_ := Aside0.mk (Kd.R_elder' (by (with_reducible repeat (first | apply Kd.R_alloc | apply Kd.R_drewN | apply Kd.R_drew)); exact HO231.out) (Kd.R_base ho0) hb); have n7_ := Aside0.mk (Kd.R_below (by (with_reducible repeat (first | apply Kd.R_alloc | apply Kd.R_drewN | apply Kd.R_drew)); exact HO234.out) hb); have n8_ := Aside0.mk (Kd.R_lower (Kd.R_new' (Kd.R_new' ho0 (Kd.R_lt (by (with_reducible repeat (first | apply Kd.R_alloc | apply Kd.R_drewN | apply Kd.R_drew)); exact HO193.out))) (Kd.R_lt (by (with_reducible repeat (first | apply Kd.R_alloc | apply Kd.R_drewN | apply Kd.R_drew)); exact HO231.out))) (below_size (by repeat (first | (with_reducible first | exact HB.out | apply below_alloc | apply pw_below_drewN | apply below_drew1) | exact HB.out)))); have n9_ := Aside0.mk (below_step (by repeat (first | (with_reducible first | exact HB.out | apply below_alloc | apply pw_below_drewN | apply below_drew1) | exact HB.out)) hb); clear HO193; clear HO208; clear HO211; clear HO214; clear HO218; clear HO226; clear HO231; clear HO234; clear HB; have HO193 := n0_; have HO208 := n1_; have HO211 := n2_; have HO214 := n3_; have HO218 := n4_; have HO226 := n5_; have HO231 := n6_; have HO234 := n7_; have HO239 := n8_; have HB := n9_; clear n0_ n1_ n2_ n3_ n4_ n5_ n6_ n7_ n8_ n9_; (try clear hb); (try clear hb2); (try clear hk); (try clear hi); (try clear ho0)))
 (try simp only [Act.put, List.setIfInBounds_toArray, List.set_cons_zero, List.set_cons_succ])
 go_cut [69] (fun v69 wc => ∃ (kq : Nat) (x69_10 : Bool), v69 = .bool x69_10 ∧ Aside0 (norialaw10_known.j0 kq t191 y206 t215 t216 t219 t220 t222 t223 t224 t227 t228 t229 t237 x69_10 = some r) ∧ Aside0 (kq ≤ k) ∧ Aside0 (Kd.R k36 36 wc w.heap.size (fun k_ => some k_ ≠ (v230 : Value).ownBlock) (.slice Ao24 t191.length co24) t191) ∧ Aside0 (Kd.R k44 44 wc w.heap.size (fun _ => True) (.slice Ao20 y206.length co20) y206) ∧ Aside0 (Kd.N (Kd.slice 44 k44) 48 wc w.heap.size (fun k_ => some k_ ≠ ((.slice Ao24 t191.length co24) : Value).ownBlock ∧ some k_ ≠ ((.slice Ao20 y206.length co20) : Value).ownBlock ∧ some k_ ≠ ((.slice Ao28 t223.length co28) : Value).ownBlock ∧ some k_ ≠ (v230 : Value).ownBlock) v217 t215) ∧ Aside0 (Kd.R (Kd.int .u8) 5 wc w.heap.size (fun _ => True) (.slice Ao28 t223.length co28) t223) ∧ Aside0 (Kd.R k36 36 wc w.heap.size (fun k_ => some k_ ≠ ((.slice Ao24 t191.length co24) : Value).ownBlock) v230 t227) ∧ Aside0 (Below w.heap.size w wc))
 case first =>
  have H := HC11.out
  clear HC11
  by_cases c34 : (t215.length : Int) = 3
  ·rw [if_pos c34] at H
   have c34b0 : ((t215.length : Int) == 3) = true := beq_iff_eq.mpr c34
   have c34b1 : ((t215.length : Int) != 3) = false := bne_eq_false_iff_eq.mpr c34
   clear c34
   (first | rw [c34b0] | (simp only [i64_w, i32_w]; rw [c34b0]) | skip)
   by_cases c35 : 2 < (t215.length : Int)
   ·rw [if_pos c35] at H
    have c35b0 : decide (2 < (t215.length : Int)) = true := decide_eq_true c35
    have c35b1 : decide (2 < t215.length) = true := decide_eq_true (by omega)
    clear c35
    have H' := Aside0.mk H
    clear H
    obtain ⟨Ao36, co36, eo36⟩ := Kd.N_slice HO218.out
    subst eo36
    have p240 : 0 ≤ (2 : Int) := (by omega)
    have q240 : 2 < (t215.length : Int) := of_decide_eq_true (by first | (with_reducible assumption) | assumption)
    obtain ⟨ad240, A240_0, c240_0, e240, hx240_0, hl240_0, hi240_0⟩ := at_L7 (Kd.N_reads' HO218.out).2.2 2 p240 q240
    cases e240
    obtain ⟨ce240, hce240, hMe240, hcc240⟩ := Kd.N_get HO218.out [] 2 p240 (by first | exact q240 | exact of_decide_eq_true (by first | (with_reducible assumption) | assumption) | (have e_ := (Kd.N_reads' HO218.out).1; omega))
    obtain ⟨ua240_0, uc240_0, rfl, ul240_0, ge240_0⟩ := Kd.FK_slice_open hMe240
    have hv240_0 := hcc240 0 _ rfl
    rw [Nat.add_zero, show ((Kd.slice 44 k44)).sz = 1 from rfl, Nat.mul_one] at hv240_0
    replace hv240_0 := Option.some.inj (hv240_0.symm.trans hx240_0)
    injection hv240_0 with hva_ hvn_ hvc_
    rw [hva_] at ge240_0
    rw [hvc_] at ul240_0
    have HL240_0 := Aside0.mk (show Kd.V k44 44 _ w.heap.size _ _ (rd_L7 t215 2) from Kd.V_mk ul240_0 ge240_0)
    clear hva_ hvn_ hvc_ ge240_0 ul240_0
    clear hcc240 hce240
    (try simp only [show (2 : Int).toNat = 2 from rfl, Nat.reduceMul, Nat.reduceEqDiff, Go.Addr.add, ↓reduceIte] at hx240_0)
    have qi240 : (2 < t215.length) = True := eq_true (by omega)
    (try rw [show ((2 : Int)).toNat = 2 from rfl] at hx240_0)
    have HR240_0 := Aside0.mk hi240_0
    have HC240_0 := Aside0.mk hl240_0
    clear hi240_0 hl240_0
    replace p240 := eq_true p240
    replace q240 := eq_true q240
    go_wp2
    go_meet
    case rel => exact ⟨_, ((((rd_L7 t215 2).length : Int) != 2)), (by first | rfl | (simp; done) | (simp [*]; done)), H', ⟨by first | omega | exact Nat.le_refl _⟩, ⟨by (with_reducible repeat (first | apply Kd.R_alloc | apply Kd.R_drewN | apply Kd.R_drew)); exact Kd.R_mono HO193.out (fun _ hk => hk.1.2)⟩, ⟨by (with_reducible repeat (first | apply Kd.R_alloc | apply Kd.R_drewN | apply Kd.R_drew)); exact Kd.R_mono HO208.out (fun _ hk => trivial)⟩, ⟨by (with_reducible repeat (first | apply Kd.N_alloc | apply Kd.N_drewN | apply Kd.N_drew)); exact Kd.N_mono HO218.out (fun _ hk => ⟨hk.1.1.1.1.1, ⟨hk.1.1.1.1.2.1, ⟨hk.1.1.1.2, hk.1.1.2⟩⟩⟩)⟩, ⟨by (with_reducible repeat (first | apply Kd.R_alloc | apply Kd.R_drewN | apply Kd.R_drew)); exact Kd.R_mono HO226.out (fun _ hk => trivial)⟩, ⟨by (with_reducible repeat (first | apply Kd.R_alloc | apply Kd.R_drewN | apply Kd.R_drew)); exact Kd.R_mono HO231.out (fun _ hk => hk.1.2)⟩, ⟨by repeat (first | (with_reducible first | exact HB.out | apply below_alloc | apply pw_below_drewN | apply below_drew1) | exact HB.out)⟩⟩
   ·rw [if_neg c35] at H
    exact absurd H (by simp)
  ·rw [if_neg c34] at H
   have c34b0 : ((t215.length : Int) == 3) = false := beq_eq_false_iff_ne.mpr c34
   have c34b1 : ((t215.length : Int) != 3) = true := bne_iff_ne.mpr c34
   (first | rw [c34b0] | (simp only [i64_w, i32_w]; rw [c34b0]) | skip)
   have H' := Aside0.mk H
   clear H
   obtain ⟨Ao37, co37, eo37⟩ := Kd.N_slice HO218.out
   subst eo37
   go_wp2
   go_meet
   case rel => exact ⟨_, (true), (by first | rfl | (simp; done) | (simp [*]; done)), H', ⟨by first | omega | exact Nat.le_refl _⟩, ⟨by (with_reducible repeat (first | apply Kd.R_alloc | apply Kd.R_drewN | apply Kd.R_drew)); exact Kd.R_mono HO193.out (fun _ hk => hk.1.2)⟩, ⟨by (with_reducible repeat (first | apply Kd.R_alloc | apply Kd.R_drewN | apply Kd.R_drew)); exact Kd.R_mono HO208.out (fun _ hk => trivial)⟩, ⟨by (with_reducible repeat (first | apply Kd.N_alloc | apply Kd.N_drewN | apply Kd.N_drew)); exact Kd.N_mono HO218.out (fun _ hk => ⟨hk.1.1.1.1.1, ⟨hk.1.1.1.1.2.1, ⟨hk.1.1.1.2, hk.1.1.2⟩⟩⟩)⟩, ⟨by (with_reducible repeat (first | apply Kd.R_alloc | apply Kd.R_drewN | apply Kd.R_drew)); exact Kd.R_mono HO226.out (fun _ hk => trivial)⟩, ⟨by (with_reducible repeat (first | apply Kd.R_alloc | apply Kd.R_drewN | apply Kd.R_drew)); exact Kd.R_mono HO231.out (fun _ hk => hk.1.2)⟩, ⟨by repeat (first | (with_reducible first | exact HB.out | apply below_alloc | apply pw_below_drewN | apply below_drew1) | exact HB.out)⟩⟩
 case rest =>
  clear HC11
  try clear c1
  try clear c2
  try clear p2
  try clear q2
  try clear hx2
  try clear qi2
  try clear c3
  try clear c4
  try clear c5
  try clear c6
  try clear c12
  try clear c13
  try clear c14
  try clear c15
  try clear c16
  try clear c17
  try clear c24
  try clear p24
  try clear q24
  try clear hx24
  try clear qi24
  try clear c34
  try clear c34b0
  try clear c34b1
  try clear c35
  try clear c35b0
  try clear c35b1
  try clear hx240_0
  try clear p240
  try clear q240
  obtain ⟨kq, x69_10, rfl, HA, HJ10, HO_1, HO_2, HO_3, HO_9, HO_11, HB⟩ := hcut
  cases kq with
  | zero => exact absurd HA.out (by simp [norialaw10_known.j0])
  | succ kj10 =>
   have H := HA.out
   clear HA
   simp only [norialaw10_known.j0] at H
   by_cases c38 : x69_10 = true
   ·subst c38
    have H1 : (none) = some r := by rw [if_pos rfl] at H; exact H
    clear H
    have H := H1
    clear H1
    exact absurd H (by simp)
   ·replace c38 := Bool.eq_false_iff.mpr c38
    subst c38
    have H1 : (if (wrap64 ((wrap64 (t216 + t224)) + t229)) = 0 then (if t220 = true then (if t219 = 2 then (if t222 = true then (none) else (if 2 < (t215.length : Int) then (if 0 < ((rd_L7 t215 2).length : Int) then ((norialaw3_C.f 2 3).bind fun bt243 => (if (((rd_T44 (rd_L7 t215 2) 0).f0) == bt243.1 && (((rd_T44 (rd_L7 t215 2) 0).f1) == bt243.2.1 && ((((rd_T44 (rd_L7 t215 2) 0).f2).toList) == bt243.2.2.1.toList && (cEq (((rd_T44 (rd_L7 t215 2) 0).f3).1) (((rd_T44 (rd_L7 t215 2) 0).f3).2) bt243.2.2.2.1 bt243.2.2.2.2)))) = true then (if 0 < (t215.length : Int) then (if 1 < ((rd_L7 t215 0).length : Int) then (if (((rd_T44 (rd_L7 t215 0) 1).f0) == 0 && (((rd_T44 (rd_L7 t215 0) 1).f1) == 0 && ((((rd_T44 (rd_L7 t215 0) 1).f2).toList).isEmpty && (cEq (((rd_T44 (rd_L7 t215 0) 1).f3).1) (((rd_T44 (rd_L7 t215 0) 1).f3).2) 0 0)))) = true then (if (strOfNums t223).toList = ([3, 1, 110, 1, 1, 115, 2, 1, 112, 3] : List UInt8) then ((schema_Same.f kj10 t227 t191).bind fun t249 => (if t249 = true then (if t228 = 10 then (if t237 = 4 then (if 2 ≤ (y206.length : Int) then ((schema_Row.f kj10 t191 (y206.take 2)).bind fun t255 => (if t255 = 4 then (if 1 < (y206.length : Int) then (if 2 < (y206.length : Int) then ((schema_Row.f kj10 t191 (([(⟨(rd_T44 y206 1).f0, (rd_T44 y206 1).f1, (rd_T44 y206 1).f2, (rd_T44 y206 1).f3⟩ : S44), (⟨(rd_T44 y206 1).f0, (rd_T44 y206 1).f1, (rd_T44 y206 1).f2, (rd_T44 y206 1).f3⟩ : S44), (⟨(rd_T44 y206 2).f0, (rd_T44 y206 2).f1, (rd_T44 y206 2).f2, (rd_T44 y206 2).f3⟩ : S44)] : List (S44)))).bind fun t262 => (if t262 = 6 then ((schema_Check.f kj10 (([(⟨(⟨#[78]⟩ : ByteArray), 1⟩ : S36)] : List (S36)))).bind fun t266 => (if t266 = 3 then ((schema_Check.f kj10 (([(⟨(⟨#[110]⟩ : ByteArray), 1⟩ : S36), (⟨(⟨#[110]⟩ : ByteArray), 2⟩ : S36)] : List (S36)))).bind fun t270 => (if t270 = 7 then ((schema_Check.f kj10 ([] : List (S36))).bind fun t271 => (some (t271 == 4))) else (none))) else (none))) else (none))) else (none)) else (none)) else (none))) else (none)) else (none)) else (none)) else (none))) else (none)) else (none)) else (none)) else (none)) else (none))) else (none)) else (none))) else (none)) else (none)) else (none)) = some r := by rw [if_neg (show ¬ (false = true) by decide)] at H; exact H
    clear H
    have H := H1
    clear H1
    by_cases c39 : (wrap64 ((wrap64 (t216 + t224)) + t229)) = 0
    ·rw [if_pos c39] at H
     have c39b0 : ((wrap64 ((wrap64 (t216 + t224)) + t229)) == 0) = true := beq_iff_eq.mpr c39
     have c39b1 : ((wrap64 ((wrap64 (t216 + t224)) + t229)) != 0) = false := bne_eq_false_iff_eq.mpr c39
     clear c39
     by_cases c40 : t220 = true
     ·subst c40
      have H1 : (if t219 = 2 then (if t222 = true then (none) else (if 2 < (t215.length : Int) then (if 0 < ((rd_L7 t215 2).length : Int) then ((norialaw3_C.f 2 3).bind fun bt243 => (if (((rd_T44 (rd_L7 t215 2) 0).f0) == bt243.1 && (((rd_T44 (rd_L7 t215 2) 0).f1) == bt243.2.1 && ((((rd_T44 (rd_L7 t215 2) 0).f2).toList) == bt243.2.2.1.toList && (cEq (((rd_T44 (rd_L7 t215 2) 0).f3).1) (((rd_T44 (rd_L7 t215 2) 0).f3).2) bt243.2.2.2.1 bt243.2.2.2.2)))) = true then (if 0 < (t215.length : Int) then (if 1 < ((rd_L7 t215 0).length : Int) then (if (((rd_T44 (rd_L7 t215 0) 1).f0) == 0 && (((rd_T44 (rd_L7 t215 0) 1).f1) == 0 && ((((rd_T44 (rd_L7 t215 0) 1).f2).toList).isEmpty && (cEq (((rd_T44 (rd_L7 t215 0) 1).f3).1) (((rd_T44 (rd_L7 t215 0) 1).f3).2) 0 0)))) = true then (if (strOfNums t223).toList = ([3, 1, 110, 1, 1, 115, 2, 1, 112, 3] : List UInt8) then ((schema_Same.f kj10 t227 t191).bind fun t249 => (if t249 = true then (if t228 = 10 then (if t237 = 4 then (if 2 ≤ (y206.length : Int) then ((schema_Row.f kj10 t191 (y206.take 2)).bind fun t255 => (if t255 = 4 then (if 1 < (y206.length : Int) then (if 2 < (y206.length : Int) then ((schema_Row.f kj10 t191 (([(⟨(rd_T44 y206 1).f0, (rd_T44 y206 1).f1, (rd_T44 y206 1).f2, (rd_T44 y206 1).f3⟩ : S44), (⟨(rd_T44 y206 1).f0, (rd_T44 y206 1).f1, (rd_T44 y206 1).f2, (rd_T44 y206 1).f3⟩ : S44), (⟨(rd_T44 y206 2).f0, (rd_T44 y206 2).f1, (rd_T44 y206 2).f2, (rd_T44 y206 2).f3⟩ : S44)] : List (S44)))).bind fun t262 => (if t262 = 6 then ((schema_Check.f kj10 (([(⟨(⟨#[78]⟩ : ByteArray), 1⟩ : S36)] : List (S36)))).bind fun t266 => (if t266 = 3 then ((schema_Check.f kj10 (([(⟨(⟨#[110]⟩ : ByteArray), 1⟩ : S36), (⟨(⟨#[110]⟩ : ByteArray), 2⟩ : S36)] : List (S36)))).bind fun t270 => (if t270 = 7 then ((schema_Check.f kj10 ([] : List (S36))).bind fun t271 => (some (t271 == 4))) else (none))) else (none))) else (none))) else (none)) else (none)) else (none))) else (none)) else (none)) else (none)) else (none))) else (none)) else (none)) else (none)) else (none)) else (none))) else (none)) else (none))) else (none)) = some r := by rw [if_pos rfl] at H; exact H
      clear H
      have H := H1
      clear H1
      by_cases c41 : t219 = 2
      ·rw [if_pos c41] at H
       have c41b0 : (t219 == 2) = true := beq_iff_eq.mpr c41
       have c41b1 : (t219 != 2) = false := bne_eq_false_iff_eq.mpr c41
       clear c41
       by_cases c42 : t222 = true
       ·subst c42
        have H1 : (none) = some r := by rw [if_pos rfl] at H; exact H
        clear H
        have H := H1
        clear H1
        exact absurd H (by simp)
       ·replace c42 := Bool.eq_false_iff.mpr c42
        subst c42
        have H1 : (if 2 < (t215.length : Int) then (if 0 < ((rd_L7 t215 2).length : Int) then ((norialaw3_C.f 2 3).bind fun bt243 => (if (((rd_T44 (rd_L7 t215 2) 0).f0) == bt243.1 && (((rd_T44 (rd_L7 t215 2) 0).f1) == bt243.2.1 && ((((rd_T44 (rd_L7 t215 2) 0).f2).toList) == bt243.2.2.1.toList && (cEq (((rd_T44 (rd_L7 t215 2) 0).f3).1) (((rd_T44 (rd_L7 t215 2) 0).f3).2) bt243.2.2.2.1 bt243.2.2.2.2)))) = true then (if 0 < (t215.length : Int) then (if 1 < ((rd_L7 t215 0).length : Int) then (if (((rd_T44 (rd_L7 t215 0) 1).f0) == 0 && (((rd_T44 (rd_L7 t215 0) 1).f1) == 0 && ((((rd_T44 (rd_L7 t215 0) 1).f2).toList).isEmpty && (cEq (((rd_T44 (rd_L7 t215 0) 1).f3).1) (((rd_T44 (rd_L7 t215 0) 1).f3).2) 0 0)))) = true then (if (strOfNums t223).toList = ([3, 1, 110, 1, 1, 115, 2, 1, 112, 3] : List UInt8) then ((schema_Same.f kj10 t227 t191).bind fun t249 => (if t249 = true then (if t228 = 10 then (if t237 = 4 then (if 2 ≤ (y206.length : Int) then ((schema_Row.f kj10 t191 (y206.take 2)).bind fun t255 => (if t255 = 4 then (if 1 < (y206.length : Int) then (if 2 < (y206.length : Int) then ((schema_Row.f kj10 t191 (([(⟨(rd_T44 y206 1).f0, (rd_T44 y206 1).f1, (rd_T44 y206 1).f2, (rd_T44 y206 1).f3⟩ : S44), (⟨(rd_T44 y206 1).f0, (rd_T44 y206 1).f1, (rd_T44 y206 1).f2, (rd_T44 y206 1).f3⟩ : S44), (⟨(rd_T44 y206 2).f0, (rd_T44 y206 2).f1, (rd_T44 y206 2).f2, (rd_T44 y206 2).f3⟩ : S44)] : List (S44)))).bind fun t262 => (if t262 = 6 then ((schema_Check.f kj10 (([(⟨(⟨#[78]⟩ : ByteArray), 1⟩ : S36)] : List (S36)))).bind fun t266 => (if t266 = 3 then ((schema_Check.f kj10 (([(⟨(⟨#[110]⟩ : ByteArray), 1⟩ : S36), (⟨(⟨#[110]⟩ : ByteArray), 2⟩ : S36)] : List (S36)))).bind fun t270 => (if t270 = 7 then ((schema_Check.f kj10 ([] : List (S36))).bind fun t271 => (some (t271 == 4))) else (none))) else (none))) else (none))) else (none)) else (none)) else (none))) else (none)) else (none)) else (none)) else (none))) else (none)) else (none)) else (none)) else (none)) else (none))) else (none)) else (none)) = some r := by rw [if_neg (show ¬ (false = true) by decide)] at H; exact H
        clear H
        have H := H1
        clear H1
        by_cases c43 : 2 < (t215.length : Int)
        ·rw [if_pos c43] at H
         have c43b0 : decide (2 < (t215.length : Int)) = true := decide_eq_true c43
         have c43b1 : decide (2 < t215.length) = true := decide_eq_true (by omega)
         clear c43
         by_cases c44 : 0 < ((rd_L7 t215 2).length : Int)
         ·rw [if_pos c44] at H
          have c44b0 : decide (0 < ((rd_L7 t215 2).length : Int)) = true := decide_eq_true c44
          have c44b1 : decide (0 < (rd_L7 t215 2).length) = true := decide_eq_true (by omega)
          clear c44
          replace H := Option.bind_eq_some_iff.mp H
          obtain ⟨⟨t243, t244, t245, t246⟩, A450, H⟩ := H
          replace H : (if (((rd_T44 (rd_L7 t215 2) 0).f0) == t243 && (((rd_T44 (rd_L7 t215 2) 0).f1) == t244 && ((((rd_T44 (rd_L7 t215 2) 0).f2).toList) == t245.toList && (cEq (((rd_T44 (rd_L7 t215 2) 0).f3).1) (((rd_T44 (rd_L7 t215 2) 0).f3).2) t246.1 t246.2)))) = true then (if 0 < (t215.length : Int) then (if 1 < ((rd_L7 t215 0).length : Int) then (if (((rd_T44 (rd_L7 t215 0) 1).f0) == 0 && (((rd_T44 (rd_L7 t215 0) 1).f1) == 0 && ((((rd_T44 (rd_L7 t215 0) 1).f2).toList).isEmpty && (cEq (((rd_T44 (rd_L7 t215 0) 1).f3).1) (((rd_T44 (rd_L7 t215 0) 1).f3).2) 0 0)))) = true then (if (strOfNums t223).toList = ([3, 1, 110, 1, 1, 115, 2, 1, 112, 3] : List UInt8) then ((schema_Same.f kj10 t227 t191).bind fun t249 => (if t249 = true then (if t228 = 10 then (if t237 = 4 then (if 2 ≤ (y206.length : Int) then ((schema_Row.f kj10 t191 (y206.take 2)).bind fun t255 => (if t255 = 4 then (if 1 < (y206.length : Int) then (if 2 < (y206.length : Int) then ((schema_Row.f kj10 t191 (([(⟨(rd_T44 y206 1).f0, (rd_T44 y206 1).f1, (rd_T44 y206 1).f2, (rd_T44 y206 1).f3⟩ : S44), (⟨(rd_T44 y206 1).f0, (rd_T44 y206 1).f1, (rd_T44 y206 1).f2, (rd_T44 y206 1).f3⟩ : S44), (⟨(rd_T44 y206 2).f0, (rd_T44 y206 2).f1, (rd_T44 y206 2).f2, (rd_T44 y206 2).f3⟩ : S44)] : List (S44)))).bind fun t262 => (if t262 = 6 then ((schema_Check.f kj10 (([(⟨(⟨#[78]⟩ : ByteArray), 1⟩ : S36)] : List (S36)))).bind fun t266 => (if t266 = 3 then ((schema_Check.f kj10 (([(⟨(⟨#[110]⟩ : ByteArray), 1⟩ : S36), (⟨(⟨#[110]⟩ : ByteArray), 2⟩ : S36)] : List (S36)))).bind fun t270 => (if t270 = 7 then ((schema_Check.f kj10 ([] : List (S36))).bind fun t271 => (some (t271 == 4))) else (none))) else (none))) else (none))) else (none)) else (none)) else (none))) else (none)) else (none)) else (none)) else (none))) else (none)) else (none)) else (none)) else (none)) else (none)) = some r := H
          have A45 := Aside0.mk A450
          clear A450
          by_cases c46 : (((rd_T44 (rd_L7 t215 2) 0).f0) == t243 && (((rd_T44 (rd_L7 t215 2) 0).f1) == t244 && ((((rd_T44 (rd_L7 t215 2) 0).f2).toList) == t245.toList && (cEq (((rd_T44 (rd_L7 t215 2) 0).f3).1) (((rd_T44 (rd_L7 t215 2) 0).f3).2) t246.1 t246.2)))) = true
          ·rw [if_pos c46] at H
           have c46b0 : (((rd_T44 (rd_L7 t215 2) 0).f0) == t243 && (((rd_T44 (rd_L7 t215 2) 0).f1) == t244 && ((((rd_T44 (rd_L7 t215 2) 0).f2).toList) == t245.toList && (cEq (((rd_T44 (rd_L7 t215 2) 0).f3).1) (((rd_T44 (rd_L7 t215 2) 0).f3).2) t246.1 t246.2)))) = true := c46
           (try (have c46b1 : decide (((rd_T44 (rd_L7 t215 2) 0).f0) = t243 && (((rd_T44 (rd_L7 t215 2) 0).f1) == t244 && ((((rd_T44 (rd_L7 t215 2) 0).f2).toList) == t245.toList && (cEq (((rd_T44 (rd_L7 t215 2) 0).f3).1) (((rd_T44 (rd_L7 t215 2) 0).f3).2) t246.1 t246.2)))) = true := by simpa using c46))
           (try (have c46b2 : (((rd_T44 (rd_L7 t215 2) 0).f0) == t243 && (((rd_T44 (rd_L7 t215 2) 0).f1) == t244 && ((((rd_T44 (rd_L7 t215 2) 0).f2).toList) == t245.toList && (cEq (((rd_T44 (rd_L7 t215 2) 0).f3).1) (((rd_T44 (rd_L7 t215 2) 0).f3).2) t246.1 t246.2)))) = true := by simpa using c46))
           clear c46
           by_cases c47 : 0 < (t215.length : Int)
           ·rw [if_pos c47] at H
            have c47b0 : decide (0 < (t215.length : Int)) = true := decide_eq_true c47
            have c47b1 : decide (0 < t215.length) = true := decide_eq_true (by omega)
            clear c47
            by_cases c48 : 1 < ((rd_L7 t215 0).length : Int)
            ·rw [if_pos c48] at H
             have c48b0 : decide (1 < ((rd_L7 t215 0).length : Int)) = true := decide_eq_true c48
             have c48b1 : decide (1 < (rd_L7 t215 0).length) = true := decide_eq_true (by omega)
             clear c48
             by_cases c49 : (((rd_T44 (rd_L7 t215 0) 1).f0) == 0 && (((rd_T44 (rd_L7 t215 0) 1).f1) == 0 && ((((rd_T44 (rd_L7 t215 0) 1).f2).toList).isEmpty && (cEq (((rd_T44 (rd_L7 t215 0) 1).f3).1) (((rd_T44 (rd_L7 t215 0) 1).f3).2) 0 0)))) = true
             ·rw [if_pos c49] at H
              have c49b0 : (((rd_T44 (rd_L7 t215 0) 1).f0) == 0 && (((rd_T44 (rd_L7 t215 0) 1).f1) == 0 && ((((rd_T44 (rd_L7 t215 0) 1).f2).toList).isEmpty && (cEq (((rd_T44 (rd_L7 t215 0) 1).f3).1) (((rd_T44 (rd_L7 t215 0) 1).f3).2) 0 0)))) = true := c49
              (try (have c49b1 : decide (((rd_T44 (rd_L7 t215 0) 1).f0) = 0 && (((rd_T44 (rd_L7 t215 0) 1).f1) == 0 && ((((rd_T44 (rd_L7 t215 0) 1).f2).toList).isEmpty && (cEq (((rd_T44 (rd_L7 t215 0) 1).f3).1) (((rd_T44 (rd_L7 t215 0) 1).f3).2) 0 0)))) = true := by simpa using c49))
              (try (have c49b2 : (((rd_T44 (rd_L7 t215 0) 1).f0) == 0 && (((rd_T44 (rd_L7 t215 0) 1).f1) == 0 && ((((rd_T44 (rd_L7 t215 0) 1).f2).toList).isEmpty && (cEq (((rd_T44 (rd_L7 t215 0) 1).f3).1) (((rd_T44 (rd_L7 t215 0) 1).f3).2) 0 0)))) = true := by simpa using c49))
              clear c49
              by_cases c50 : (strOfNums t223).toList = ([3, 1, 110, 1, 1, 115, 2, 1, 112, 3] : List UInt8)
              ·rw [if_pos c50] at H
               have c50b0 : ((strOfNums t223).toList == ([3, 1, 110, 1, 1, 115, 2, 1, 112, 3] : List UInt8)) = true := beq_iff_eq.mpr c50
               have c50b1 : ((strOfNums t223).toList != ([3, 1, 110, 1, 1, 115, 2, 1, 112, 3] : List UInt8)) = false := bne_eq_false_iff_eq.mpr c50
               clear c50
               replace H := Option.bind_eq_some_iff.mp H
               obtain ⟨t249, A510, H⟩ := H
               replace H : (if t249 = true then (if t228 = 10 then (if t237 = 4 then (if 2 ≤ (y206.length : Int) then ((schema_Row.f kj10 t191 (y206.take 2)).bind fun t255 => (if t255 = 4 then (if 1 < (y206.length : Int) then (if 2 < (y206.length : Int) then ((schema_Row.f kj10 t191 (([(⟨(rd_T44 y206 1).f0, (rd_T44 y206 1).f1, (rd_T44 y206 1).f2, (rd_T44 y206 1).f3⟩ : S44), (⟨(rd_T44 y206 1).f0, (rd_T44 y206 1).f1, (rd_T44 y206 1).f2, (rd_T44 y206 1).f3⟩ : S44), (⟨(rd_T44 y206 2).f0, (rd_T44 y206 2).f1, (rd_T44 y206 2).f2, (rd_T44 y206 2).f3⟩ : S44)] : List (S44)))).bind fun t262 => (if t262 = 6 then ((schema_Check.f kj10 (([(⟨(⟨#[78]⟩ : ByteArray), 1⟩ : S36)] : List (S36)))).bind fun t266 => (if t266 = 3 then ((schema_Check.f kj10 (([(⟨(⟨#[110]⟩ : ByteArray), 1⟩ : S36), (⟨(⟨#[110]⟩ : ByteArray), 2⟩ : S36)] : List (S36)))).bind fun t270 => (if t270 = 7 then ((schema_Check.f kj10 ([] : List (S36))).bind fun t271 => (some (t271 == 4))) else (none))) else (none))) else (none))) else (none)) else (none)) else (none))) else (none)) else (none)) else (none)) else (none)) = some r := H
               have A51 := Aside0.mk A510
               clear A510
               by_cases c52 : t249 = true
               ·subst c52
                have H1 : (if t228 = 10 then (if t237 = 4 then (if 2 ≤ (y206.length : Int) then ((schema_Row.f kj10 t191 (y206.take 2)).bind fun t255 => (if t255 = 4 then (if 1 < (y206.length : Int) then (if 2 < (y206.length : Int) then ((schema_Row.f kj10 t191 (([(⟨(rd_T44 y206 1).f0, (rd_T44 y206 1).f1, (rd_T44 y206 1).f2, (rd_T44 y206 1).f3⟩ : S44), (⟨(rd_T44 y206 1).f0, (rd_T44 y206 1).f1, (rd_T44 y206 1).f2, (rd_T44 y206 1).f3⟩ : S44), (⟨(rd_T44 y206 2).f0, (rd_T44 y206 2).f1, (rd_T44 y206 2).f2, (rd_T44 y206 2).f3⟩ : S44)] : List (S44)))).bind fun t262 => (if t262 = 6 then ((schema_Check.f kj10 (([(⟨(⟨#[78]⟩ : ByteArray), 1⟩ : S36)] : List (S36)))).bind fun t266 => (if t266 = 3 then ((schema_Check.f kj10 (([(⟨(⟨#[110]⟩ : ByteArray), 1⟩ : S36), (⟨(⟨#[110]⟩ : ByteArray), 2⟩ : S36)] : List (S36)))).bind fun t270 => (if t270 = 7 then ((schema_Check.f kj10 ([] : List (S36))).bind fun t271 => (some (t271 == 4))) else (none))) else (none))) else (none))) else (none)) else (none)) else (none))) else (none)) else (none)) else (none)) = some r := by rw [if_pos rfl] at H; exact H
                clear H
                have H := H1
                clear H1
                by_cases c53 : t228 = 10
                ·rw [if_pos c53] at H
                 have c53b0 : (t228 == 10) = true := beq_iff_eq.mpr c53
                 have c53b1 : (t228 != 10) = false := bne_eq_false_iff_eq.mpr c53
                 clear c53
                 by_cases c54 : t237 = 4
                 ·rw [if_pos c54] at H
                  have c54b0 : (t237 == 4) = true := beq_iff_eq.mpr c54
                  have c54b1 : (t237 != 4) = false := bne_eq_false_iff_eq.mpr c54
                  clear c54
                  by_cases c55 : 2 ≤ (y206.length : Int)
                  ·rw [if_pos c55] at H
                   have c55b0 := eq_true c55
                   have c55b1 : decide (2 ≤ (y206.length : Int)) = true := decide_eq_true c55
                   clear c55
                   obtain ⟨y250, hy250⟩ : ∃ y_ : List (S44), y_ = (y206.take 2) := ⟨_, rfl⟩
                   replace H : ((schema_Row.f kj10 t191 y250).bind fun t255 => (if t255 = 4 then (if 1 < (y206.length : Int) then (if 2 < (y206.length : Int) then ((schema_Row.f kj10 t191 (([(⟨(rd_T44 y206 1).f0, (rd_T44 y206 1).f1, (rd_T44 y206 1).f2, (rd_T44 y206 1).f3⟩ : S44), (⟨(rd_T44 y206 1).f0, (rd_T44 y206 1).f1, (rd_T44 y206 1).f2, (rd_T44 y206 1).f3⟩ : S44), (⟨(rd_T44 y206 2).f0, (rd_T44 y206 2).f1, (rd_T44 y206 2).f2, (rd_T44 y206 2).f3⟩ : S44)] : List (S44)))).bind fun t262 => (if t262 = 6 then ((schema_Check.f kj10 (([(⟨(⟨#[78]⟩ : ByteArray), 1⟩ : S36)] : List (S36)))).bind fun t266 => (if t266 = 3 then ((schema_Check.f kj10 (([(⟨(⟨#[110]⟩ : ByteArray), 1⟩ : S36), (⟨(⟨#[110]⟩ : ByteArray), 2⟩ : S36)] : List (S36)))).bind fun t270 => (if t270 = 7 then ((schema_Check.f kj10 ([] : List (S36))).bind fun t271 => (some (t271 == 4))) else (none))) else (none))) else (none))) else (none)) else (none)) else (none))) = some r := by first | (rw [hy250]; with_reducible exact H) | (have H2_ := (Option.bind_some _ _).symm.trans H; rw [hy250]; with_reducible exact H2_) | (have H2_ := (Option.bind_some _ _).symm.trans H; with_reducible exact H2_) | with_reducible exact H | (rw [hy250]; exact H) | exact H
                   have Ny250 := Aside0.mk hy250
                   clear hy250
                   replace H := Option.bind_eq_some_iff.mp H
                   obtain ⟨t255, A560, H⟩ := H
                   replace H : (if t255 = 4 then (if 1 < (y206.length : Int) then (if 2 < (y206.length : Int) then ((schema_Row.f kj10 t191 (([(⟨(rd_T44 y206 1).f0, (rd_T44 y206 1).f1, (rd_T44 y206 1).f2, (rd_T44 y206 1).f3⟩ : S44), (⟨(rd_T44 y206 1).f0, (rd_T44 y206 1).f1, (rd_T44 y206 1).f2, (rd_T44 y206 1).f3⟩ : S44), (⟨(rd_T44 y206 2).f0, (rd_T44 y206 2).f1, (rd_T44 y206 2).f2, (rd_T44 y206 2).f3⟩ : S44)] : List (S44)))).bind fun t262 => (if t262 = 6 then ((schema_Check.f kj10 (([(⟨(⟨#[78]⟩ : ByteArray), 1⟩ : S36)] : List (S36)))).bind fun t266 => (if t266 = 3 then ((schema_Check.f kj10 (([(⟨(⟨#[110]⟩ : ByteArray), 1⟩ : S36), (⟨(⟨#[110]⟩ : ByteArray), 2⟩ : S36)] : List (S36)))).bind fun t270 => (if t270 = 7 then ((schema_Check.f kj10 ([] : List (S36))).bind fun t271 => (some (t271 == 4))) else (none))) else (none))) else (none))) else (none)) else (none)) else (none)) = some r := H
                   have A56 := Aside0.mk A560
                   clear A560
                   by_cases c57 : t255 = 4
                   ·rw [if_pos c57] at H
                    have c57b0 : (t255 == 4) = true := beq_iff_eq.mpr c57
                    have c57b1 : (t255 != 4) = false := bne_eq_false_iff_eq.mpr c57
                    clear c57
                    by_cases c58 : 1 < (y206.length : Int)
                    ·rw [if_pos c58] at H
                     have c58b0 : decide (1 < (y206.length : Int)) = true := decide_eq_true c58
                     have c58b1 : decide (1 < y206.length) = true := decide_eq_true (by omega)
                     clear c58
                     by_cases c59 : 2 < (y206.length : Int)
                     ·rw [if_pos c59] at H
                      have c59b0 : decide (2 < (y206.length : Int)) = true := decide_eq_true c59
                      have c59b1 : decide (2 < y206.length) = true := decide_eq_true (by omega)
                      clear c59
                      obtain ⟨y259, hy259⟩ : ∃ y_ : List (S44), y_ = (([(⟨(rd_T44 y206 1).f0, (rd_T44 y206 1).f1, (rd_T44 y206 1).f2, (rd_T44 y206 1).f3⟩ : S44), (⟨(rd_T44 y206 1).f0, (rd_T44 y206 1).f1, (rd_T44 y206 1).f2, (rd_T44 y206 1).f3⟩ : S44), (⟨(rd_T44 y206 2).f0, (rd_T44 y206 2).f1, (rd_T44 y206 2).f2, (rd_T44 y206 2).f3⟩ : S44)] : List (S44))) := ⟨_, rfl⟩
                      replace H : ((schema_Row.f kj10 t191 y259).bind fun t262 => (if t262 = 6 then ((schema_Check.f kj10 (([(⟨(⟨#[78]⟩ : ByteArray), 1⟩ : S36)] : List (S36)))).bind fun t266 => (if t266 = 3 then ((schema_Check.f kj10 (([(⟨(⟨#[110]⟩ : ByteArray), 1⟩ : S36), (⟨(⟨#[110]⟩ : ByteArray), 2⟩ : S36)] : List (S36)))).bind fun t270 => (if t270 = 7 then ((schema_Check.f kj10 ([] : List (S36))).bind fun t271 => (some (t271 == 4))) else (none))) else (none))) else (none))) = some r := by first | (rw [hy259]; with_reducible exact H) | (have H2_ := (Option.bind_some _ _).symm.trans H; rw [hy259]; with_reducible exact H2_) | (have H2_ := (Option.bind_some _ _).symm.trans H; with_reducible exact H2_) | with_reducible exact H | (rw [hy259]; exact H) | exact H
                      have Ny259 := Aside0.mk hy259
                      clear hy259
                      replace H := Option.bind_eq_some_iff.mp H
                      obtain ⟨t262, A600, H⟩ := H
                      replace H : (if t262 = 6 then ((schema_Check.f kj10 (([(⟨(⟨#[78]⟩ : ByteArray), 1⟩ : S36)] : List (S36)))).bind fun t266 => (if t266 = 3 then ((schema_Check.f kj10 (([(⟨(⟨#[110]⟩ : ByteArray), 1⟩ : S36), (⟨(⟨#[110]⟩ : ByteArray), 2⟩ : S36)] : List (S36)))).bind fun t270 => (if t270 = 7 then ((schema_Check.f kj10 ([] : List (S36))).bind fun t271 => (some (t271 == 4))) else (none))) else (none))) else (none)) = some r := H
                      have A60 := Aside0.mk A600
                      clear A600
                      by_cases c61 : t262 = 6
                      ·rw [if_pos c61] at H
                       have c61b0 : (t262 == 6) = true := beq_iff_eq.mpr c61
                       have c61b1 : (t262 != 6) = false := bne_eq_false_iff_eq.mpr c61
                       clear c61
                       obtain ⟨y263, hy263⟩ : ∃ y_ : List (S36), y_ = (([(⟨(⟨#[78]⟩ : ByteArray), 1⟩ : S36)] : List (S36))) := ⟨_, rfl⟩
                       replace H : ((schema_Check.f kj10 y263).bind fun t266 => (if t266 = 3 then ((schema_Check.f kj10 (([(⟨(⟨#[110]⟩ : ByteArray), 1⟩ : S36), (⟨(⟨#[110]⟩ : ByteArray), 2⟩ : S36)] : List (S36)))).bind fun t270 => (if t270 = 7 then ((schema_Check.f kj10 ([] : List (S36))).bind fun t271 => (some (t271 == 4))) else (none))) else (none))) = some r := by first | (rw [hy263]; with_reducible exact H) | (have H2_ := (Option.bind_some _ _).symm.trans H; rw [hy263]; with_reducible exact H2_) | (have H2_ := (Option.bind_some _ _).symm.trans H; with_reducible exact H2_) | with_reducible exact H | (rw [hy263]; exact H) | exact H
                       have Ny263 := Aside0.mk hy263
                       clear hy263
                       replace H := Option.bind_eq_some_iff.mp H
                       obtain ⟨t266, A620, H⟩ := H
                       replace H : (if t266 = 3 then ((schema_Check.f kj10 (([(⟨(⟨#[110]⟩ : ByteArray), 1⟩ : S36), (⟨(⟨#[110]⟩ : ByteArray), 2⟩ : S36)] : List (S36)))).bind fun t270 => (if t270 = 7 then ((schema_Check.f kj10 ([] : List (S36))).bind fun t271 => (some (t271 == 4))) else (none))) else (none)) = some r := H
                       have A62 := Aside0.mk A620
                       clear A620
                       by_cases c63 : t266 = 3
                       ·rw [if_pos c63] at H
                        have c63b0 : (t266 == 3) = true := beq_iff_eq.mpr c63
                        have c63b1 : (t266 != 3) = false := bne_eq_false_iff_eq.mpr c63
                        clear c63
                        obtain ⟨y267, hy267⟩ : ∃ y_ : List (S36), y_ = (([(⟨(⟨#[110]⟩ : ByteArray), 1⟩ : S36), (⟨(⟨#[110]⟩ : ByteArray), 2⟩ : S36)] : List (S36))) := ⟨_, rfl⟩
                        replace H : ((schema_Check.f kj10 y267).bind fun t270 => (if t270 = 7 then ((schema_Check.f kj10 ([] : List (S36))).bind fun t271 => (some (t271 == 4))) else (none))) = some r := by first | (rw [hy267]; with_reducible exact H) | (have H2_ := (Option.bind_some _ _).symm.trans H; rw [hy267]; with_reducible exact H2_) | (have H2_ := (Option.bind_some _ _).symm.trans H; with_reducible exact H2_) | with_reducible exact H | (rw [hy267]; exact H) | exact H
                        have Ny267 := Aside0.mk hy267
                        clear hy267
                        replace H := Option.bind_eq_some_iff.mp H
                        obtain ⟨t270, A640, H⟩ := H
                        replace H : (if t270 = 7 then ((schema_Check.f kj10 ([] : List (S36))).bind fun t271 => (some (t271 == 4))) else (none)) = some r := H
                        have A64 := Aside0.mk A640
                        clear A640
                        by_cases c65 : t270 = 7
                        ·rw [if_pos c65] at H
                         have c65b0 : (t270 == 7) = true := beq_iff_eq.mpr c65
                         have c65b1 : (t270 != 7) = false := bne_eq_false_iff_eq.mpr c65
                         clear c65
                         replace H := Option.bind_eq_some_iff.mp H
                         obtain ⟨t271, A660, H⟩ := H
                         replace H : (some (t271 == 4)) = some r := H
                         have A66 := Aside0.mk A660
                         clear A660
                         obtain rfl := Option.some.inj H
                         try go_wp2
                         have n0_ := Aside0.mk (Kd.R_drew HO_1.out)
                         have n1_ := Aside0.mk (Kd.R_drew HO_2.out)
                         have n2_ := Aside0.mk (Kd.N_drew HO_3.out)
                         have n3_ := Aside0.mk (Kd.R_drew HO_9.out)
                         have n4_ := Aside0.mk (Kd.R_drew HO_11.out)
                         have n5_ := Aside0.mk (below_drew1 HB.out)
                         clear HO_1
                         clear HO_2
                         clear HO_3
                         clear HO_9
                         clear HO_11
                         clear HB
                         have HO_1 := n0_
                         have HO_2 := n1_
                         have HO_3 := n2_
                         have HO_9 := n3_
                         have HO_11 := n4_
                         have HB := n5_
                         clear n0_ n1_ n2_ n3_ n4_ n5_
                         obtain ⟨Ao68, co68, eo68⟩ := Kd.N_slice HO_3.out
                         (first | subst eo68 | (injection eo68 with f1_ f2_ f3_; have f4_ := f1_.symm; have f5_ := f3_.symm; clear f1_ f2_ f3_; subst f4_; subst f5_))
                         have p241 : 0 ≤ (2 : Int) := (by omega)
                         have q241 : 2 < (t215.length : Int) := of_decide_eq_true (by first | (with_reducible assumption) | assumption)
                         obtain ⟨ad241, A241_0, c241_0, e241, hx241_0, hl241_0, hi241_0⟩ := at_L7 (Kd.N_reads' HO_3.out).2.2 2 p241 q241
                         cases e241
                         obtain ⟨ce241, hce241, hMe241, hcc241⟩ := Kd.N_get HO_3.out [] 2 p241 (by first | exact q241 | exact of_decide_eq_true (by first | (with_reducible assumption) | assumption) | (have e_ := (Kd.N_reads' HO_3.out).1; omega))
                         obtain ⟨ua241_0, uc241_0, rfl, ul241_0, ge241_0⟩ := Kd.FK_slice_open hMe241
                         have hv241_0 := hcc241 0 _ rfl
                         rw [Nat.add_zero, show ((Kd.slice 44 k44)).sz = 1 from rfl, Nat.mul_one] at hv241_0
                         replace hv241_0 := Option.some.inj (hv241_0.symm.trans hx241_0)
                         injection hv241_0 with hva_ hvn_ hvc_
                         rw [hva_] at ge241_0
                         rw [hvc_] at ul241_0
                         have HL241_0 := Aside0.mk (show Kd.V k44 44 _ w.heap.size _ _ (rd_L7 t215 2) from Kd.V_mk ul241_0 ge241_0)
                         clear hva_ hvn_ hvc_ ge241_0 ul241_0
                         clear hcc241 hce241
                         (try simp only [show (2 : Int).toNat = 2 from rfl, Nat.reduceMul, Nat.reduceEqDiff, Go.Addr.add, ↓reduceIte] at hx241_0)
                         have qi241 : (2 < t215.length) = True := eq_true (by omega)
                         (try rw [show ((2 : Int)).toNat = 2 from rfl] at hx241_0)
                         have HR241_0 := Aside0.mk hi241_0
                         have HC241_0 := Aside0.mk hl241_0
                         clear hi241_0 hl241_0
                         replace p241 := eq_true p241
                         replace q241 := eq_true q241
                         have p242 : 0 ≤ (0 : Int) := (by omega)
                         have q242 : 0 < ((rd_L7 t215 2).length : Int) := of_decide_eq_true (by first | (with_reducible assumption) | assumption)
                         obtain ⟨ad242, e242, hx242_0, hx242_1, hx242_2, hx242_3⟩ := at_T44 (by repeat (first | (with_reducible exact HR241_0.out) | (with_reducible refine Kd.C_alloc ?_ _) | (with_reducible refine Kd.C_drewN ?_ _) | (with_reducible refine Kd.C_drew ?_) | exact HR241_0.out)) 0 p242 q242
                         cases e242
                         have qi242 : (0 < (rd_L7 t215 2).length) = True := eq_true (by omega)
                         (try rw [show ((0 : Int)).toNat = 0 from rfl] at hx242_0)
                         (try rw [show 0 * 4 = 0 from rfl] at hx242_0)
                         (try rw [Addr.add_zero'] at hx242_0)
                         (try rw [show ((0 : Int)).toNat = 0 from rfl] at hx242_1)
                         (try rw [show 0 * 4 = 0 from rfl] at hx242_1)
                         (try rw [Addr.add_zero'] at hx242_1)
                         (try rw [show ((0 : Int)).toNat = 0 from rfl] at hx242_2)
                         (try rw [show 0 * 4 = 0 from rfl] at hx242_2)
                         (try rw [Addr.add_zero'] at hx242_2)
                         (try rw [show ((0 : Int)).toNat = 0 from rfl] at hx242_3)
                         (try rw [show 0 * 4 = 0 from rfl] at hx242_3)
                         (try rw [Addr.add_zero'] at hx242_3)
                         replace p242 := eq_true p242
                         replace q242 := eq_true q242
                         have p247 : 0 ≤ (0 : Int) := (by omega)
                         have q247 : 0 < (t215.length : Int) := of_decide_eq_true (by first | (with_reducible assumption) | assumption)
                         obtain ⟨ad247, A247_0, c247_0, e247, hx247_0, hl247_0, hi247_0⟩ := at_L7 (Kd.N_reads' HO_3.out).2.2 0 p247 q247
                         obtain rfl : ad241 = ad247 := (by injection e247)
                         obtain ⟨ce247, hce247, hMe247, hcc247⟩ := Kd.N_get HO_3.out [] 0 p247 (by first | exact q247 | exact of_decide_eq_true (by first | (with_reducible assumption) | assumption) | (have e_ := (Kd.N_reads' HO_3.out).1; omega))
                         obtain ⟨ua247_0, uc247_0, rfl, ul247_0, ge247_0⟩ := Kd.FK_slice_open hMe247
                         have hv247_0 := hcc247 0 _ rfl
                         rw [Nat.add_zero, show ((Kd.slice 44 k44)).sz = 1 from rfl, Nat.mul_one] at hv247_0
                         replace hv247_0 := Option.some.inj (hv247_0.symm.trans hx247_0)
                         injection hv247_0 with hva_ hvn_ hvc_
                         rw [hva_] at ge247_0
                         rw [hvc_] at ul247_0
                         have HL247_0 := Aside0.mk (show Kd.V k44 44 _ w.heap.size _ _ (rd_L7 t215 0) from Kd.V_mk ul247_0 ge247_0)
                         clear hva_ hvn_ hvc_ ge247_0 ul247_0
                         clear hcc247 hce247
                         have qi247 : (0 < t215.length) = True := eq_true (by omega)
                         (try rw [show ((0 : Int)).toNat = 0 from rfl] at hx247_0)
                         (try rw [Addr.add_zero'] at hx247_0)
                         have HR247_0 := Aside0.mk hi247_0
                         have HC247_0 := Aside0.mk hl247_0
                         clear hi247_0 hl247_0
                         replace p247 := eq_true p247
                         replace q247 := eq_true q247
                         have p248 : 0 ≤ (1 : Int) := (by omega)
                         have q248 : 1 < ((rd_L7 t215 0).length : Int) := of_decide_eq_true (by first | (with_reducible assumption) | assumption)
                         obtain ⟨ad248, e248, hx248_0, hx248_1, hx248_2, hx248_3⟩ := at_T44 (by repeat (first | (with_reducible exact HR247_0.out) | (with_reducible refine Kd.C_alloc ?_ _) | (with_reducible refine Kd.C_drewN ?_ _) | (with_reducible refine Kd.C_drew ?_) | exact HR247_0.out)) 1 p248 q248
                         cases e248
                         (try simp only [show (1 : Int).toNat = 1 from rfl, Nat.reduceMul, Nat.reduceEqDiff, Go.Addr.add, ↓reduceIte] at hx248_0)
                         (try simp only [show (1 : Int).toNat = 1 from rfl, Nat.reduceMul, Nat.reduceEqDiff, Go.Addr.add, ↓reduceIte] at hx248_1)
                         (try simp only [show (1 : Int).toNat = 1 from rfl, Nat.reduceMul, Nat.reduceEqDiff, Go.Addr.add, ↓reduceIte] at hx248_2)
                         (try simp only [show (1 : Int).toNat = 1 from rfl, Nat.reduceMul, Nat.reduceEqDiff, Go.Addr.add, ↓reduceIte] at hx248_3)
                         have qi248 : (1 < (rd_L7 t215 0).length) = True := eq_true (by omega)
                         (try rw [show ((1 : Int)).toNat = 1 from rfl] at hx248_0)
                         (try rw [show 1 * 4 = 4 from rfl] at hx248_0)
                         (try rw [show ((1 : Int)).toNat = 1 from rfl] at hx248_1)
                         (try rw [show 1 * 4 = 4 from rfl] at hx248_1)
                         (try rw [show ((1 : Int)).toNat = 1 from rfl] at hx248_2)
                         (try rw [show 1 * 4 = 4 from rfl] at hx248_2)
                         (try rw [show ((1 : Int)).toNat = 1 from rfl] at hx248_3)
                         (try rw [show 1 * 4 = 4 from rfl] at hx248_3)
                         replace p248 := eq_true p248
                         replace q248 := eq_true q248
                         have p256 : 0 ≤ (1 : Int) := (by omega)
                         have q256 : 1 < (y206.length : Int) := of_decide_eq_true (by first | (with_reducible assumption) | assumption)
                         obtain ⟨ad256, e256, hx256_0, hx256_1, hx256_2, hx256_3⟩ := at_T44 (Kd.R_reads' HO_2.out).2.2 1 p256 q256
                         cases e256
                         (try simp only [show (1 : Int).toNat = 1 from rfl, Nat.reduceMul, Nat.reduceEqDiff, Go.Addr.add, ↓reduceIte] at hx256_0)
                         (try simp only [show (1 : Int).toNat = 1 from rfl, Nat.reduceMul, Nat.reduceEqDiff, Go.Addr.add, ↓reduceIte] at hx256_1)
                         (try simp only [show (1 : Int).toNat = 1 from rfl, Nat.reduceMul, Nat.reduceEqDiff, Go.Addr.add, ↓reduceIte] at hx256_2)
                         (try simp only [show (1 : Int).toNat = 1 from rfl, Nat.reduceMul, Nat.reduceEqDiff, Go.Addr.add, ↓reduceIte] at hx256_3)
                         have qi256 : (1 < y206.length) = True := eq_true (by omega)
                         (try rw [show ((1 : Int)).toNat = 1 from rfl] at hx256_0)
                         (try rw [show 1 * 4 = 4 from rfl] at hx256_0)
                         (try rw [show ((1 : Int)).toNat = 1 from rfl] at hx256_1)
                         (try rw [show 1 * 4 = 4 from rfl] at hx256_1)
                         (try rw [show ((1 : Int)).toNat = 1 from rfl] at hx256_2)
                         (try rw [show 1 * 4 = 4 from rfl] at hx256_2)
                         (try rw [show ((1 : Int)).toNat = 1 from rfl] at hx256_3)
                         (try rw [show 1 * 4 = 4 from rfl] at hx256_3)
                         replace p256 := eq_true p256
                         replace q256 := eq_true q256
                         have p257 : 0 ≤ (1 : Int) := (by omega)
                         have q257 : 1 < (y206.length : Int) := of_decide_eq_true (by first | (with_reducible assumption) | assumption)
                         obtain ⟨ad257, e257, hx257_0, hx257_1, hx257_2, hx257_3⟩ := at_T44 (Kd.R_reads' HO_2.out).2.2 1 p257 q257
                         obtain rfl : ad256 = ad257 := (by injection e257)
                         (try simp only [show (1 : Int).toNat = 1 from rfl, Nat.reduceMul, Nat.reduceEqDiff, Go.Addr.add, ↓reduceIte] at hx257_0)
                         (try simp only [show (1 : Int).toNat = 1 from rfl, Nat.reduceMul, Nat.reduceEqDiff, Go.Addr.add, ↓reduceIte] at hx257_1)
                         (try simp only [show (1 : Int).toNat = 1 from rfl, Nat.reduceMul, Nat.reduceEqDiff, Go.Addr.add, ↓reduceIte] at hx257_2)
                         (try simp only [show (1 : Int).toNat = 1 from rfl, Nat.reduceMul, Nat.reduceEqDiff, Go.Addr.add, ↓reduceIte] at hx257_3)
                         have qi257 : (1 < y206.length) = True := eq_true (by omega)
                         (try rw [show ((1 : Int)).toNat = 1 from rfl] at hx257_0)
                         (try rw [show 1 * 4 = 4 from rfl] at hx257_0)
                         (try rw [show ((1 : Int)).toNat = 1 from rfl] at hx257_1)
                         (try rw [show 1 * 4 = 4 from rfl] at hx257_1)
                         (try rw [show ((1 : Int)).toNat = 1 from rfl] at hx257_2)
                         (try rw [show 1 * 4 = 4 from rfl] at hx257_2)
                         (try rw [show ((1 : Int)).toNat = 1 from rfl] at hx257_3)
                         (try rw [show 1 * 4 = 4 from rfl] at hx257_3)
                         replace p257 := eq_true p257
                         replace q257 := eq_true q257
                         have p258 : 0 ≤ (2 : Int) := (by omega)
                         have q258 : 2 < (y206.length : Int) := of_decide_eq_true (by first | (with_reducible assumption) | assumption)
                         obtain ⟨ad258, e258, hx258_0, hx258_1, hx258_2, hx258_3⟩ := at_T44 (Kd.R_reads' HO_2.out).2.2 2 p258 q258
                         obtain rfl : ad256 = ad258 := (by injection e258)
                         (try simp only [show (2 : Int).toNat = 2 from rfl, Nat.reduceMul, Nat.reduceEqDiff, Go.Addr.add, ↓reduceIte] at hx258_0)
                         (try simp only [show (2 : Int).toNat = 2 from rfl, Nat.reduceMul, Nat.reduceEqDiff, Go.Addr.add, ↓reduceIte] at hx258_1)
                         (try simp only [show (2 : Int).toNat = 2 from rfl, Nat.reduceMul, Nat.reduceEqDiff, Go.Addr.add, ↓reduceIte] at hx258_2)
                         (try simp only [show (2 : Int).toNat = 2 from rfl, Nat.reduceMul, Nat.reduceEqDiff, Go.Addr.add, ↓reduceIte] at hx258_3)
                         have qi258 : (2 < y206.length) = True := eq_true (by omega)
                         (try rw [show ((2 : Int)).toNat = 2 from rfl] at hx258_0)
                         (try rw [show 2 * 4 = 8 from rfl] at hx258_0)
                         (try rw [show ((2 : Int)).toNat = 2 from rfl] at hx258_1)
                         (try rw [show 2 * 4 = 8 from rfl] at hx258_1)
                         (try rw [show ((2 : Int)).toNat = 2 from rfl] at hx258_2)
                         (try rw [show 2 * 4 = 8 from rfl] at hx258_2)
                         (try rw [show ((2 : Int)).toNat = 2 from rfl] at hx258_3)
                         (try rw [show 2 * 4 = 8 from rfl] at hx258_3)
                         replace p258 := eq_true p258
                         replace q258 := eq_true q258
                         refine start_ (n := 93) (S := fun w' => w'.cell? ⟨ad241.block, ad241.off + 2, none⟩ = some (.slice (some ad242) (rd_L7 t215 2).length c241_0) ∧ w'.cell? ad242 = some (.int .i64 ((rd_T44 (rd_L7 t215 2) 0).f0)) ∧ w'.cell? ⟨ad242.block, ad242.off + 1, none⟩ = some (.int .i64 ((rd_T44 (rd_L7 t215 2) 0).f1)) ∧ w'.cell? ⟨ad242.block, ad242.off + 2, none⟩ = some (.string ((rd_T44 (rd_L7 t215 2) 0).f2)) ∧ w'.cell? ⟨ad242.block, ad242.off + 3, none⟩ = some (.complex .f64 (((rd_T44 (rd_L7 t215 2) 0).f3).1) (((rd_T44 (rd_L7 t215 2) 0).f3).2)) ∧ w'.cell? ad241 = some (.slice (some ad248) (rd_L7 t215 0).length c247_0) ∧ w'.cell? ⟨ad248.block, ad248.off + 4, none⟩ = some (.int .i64 ((rd_T44 (rd_L7 t215 0) 1).f0)) ∧ w'.cell? ⟨ad248.block, ad248.off + 4 + 1, none⟩ = some (.int .i64 ((rd_T44 (rd_L7 t215 0) 1).f1)) ∧ w'.cell? ⟨ad248.block, ad248.off + 4 + 2, none⟩ = some (.string ((rd_T44 (rd_L7 t215 0) 1).f2)) ∧ w'.cell? ⟨ad248.block, ad248.off + 4 + 3, none⟩ = some (.complex .f64 (((rd_T44 (rd_L7 t215 0) 1).f3).1) (((rd_T44 (rd_L7 t215 0) 1).f3).2)) ∧ w'.cell? ⟨ad256.block, ad256.off + 4, none⟩ = some (.int .i64 ((rd_T44 y206 1).f0)) ∧ w'.cell? ⟨ad256.block, ad256.off + 4 + 1, none⟩ = some (.int .i64 ((rd_T44 y206 1).f1)) ∧ w'.cell? ⟨ad256.block, ad256.off + 4 + 2, none⟩ = some (.string ((rd_T44 y206 1).f2)) ∧ w'.cell? ⟨ad256.block, ad256.off + 4 + 3, none⟩ = some (.complex .f64 (((rd_T44 y206 1).f3).1) (((rd_T44 y206 1).f3).2)) ∧ w'.cell? ⟨ad256.block, ad256.off + 4, none⟩ = some (.int .i64 ((rd_T44 y206 1).f0)) ∧ w'.cell? ⟨ad256.block, ad256.off + 4 + 1, none⟩ = some (.int .i64 ((rd_T44 y206 1).f1)) ∧ w'.cell? ⟨ad256.block, ad256.off + 4 + 2, none⟩ = some (.string ((rd_T44 y206 1).f2)) ∧ w'.cell? ⟨ad256.block, ad256.off + 4 + 3, none⟩ = some (.complex .f64 (((rd_T44 y206 1).f3).1) (((rd_T44 y206 1).f3).2)) ∧ w'.cell? ⟨ad256.block, ad256.off + 8, none⟩ = some (.int .i64 ((rd_T44 y206 2).f0)) ∧ w'.cell? ⟨ad256.block, ad256.off + 8 + 1, none⟩ = some (.int .i64 ((rd_T44 y206 2).f1)) ∧ w'.cell? ⟨ad256.block, ad256.off + 8 + 2, none⟩ = some (.string ((rd_T44 y206 2).f2)) ∧ w'.cell? ⟨ad256.block, ad256.off + 8 + 3, none⟩ = some (.complex .f64 (((rd_T44 y206 2).f3).1) (((rd_T44 y206 2).f3).2))) (ds := []) #[false, false, false, false, false, false, false, false, false, false, false, false, false, false, false, false, false, false, false, false, false, false, false, false, false, false, false, false, false, false, false, false, false, false, false, false, false, false, false, false, false, false, false, false, false, false, false, false, false, false, false, false, false, false, false, false, false, false, false, false, false, false, false, false, false, false, false, false, false, false, false, false, false, false, false, false, false, false, false, false, false, false, false, false, false, false, false, false, false, false, false, false, false] (by kernel_rfl) rfl rfl ⟨hx241_0, hx242_0, hx242_1, hx242_2, hx242_3, hx247_0, hx248_0, hx248_1, hx248_2, hx248_3, hx256_0, hx256_1, hx256_2, hx256_3, hx257_0, hx257_1, hx257_2, hx257_3, hx258_0, hx258_1, hx258_2, hx258_3⟩ (fun hHeld => ?_); refine with_tabW norialaw10_known.tab11 norialaw10_known.bits11 (fun HT_ HW_ => ?_)
                         generalize wc.drew = w67 at HO_1 HO_2 HO_3 HO_9 HO_11 HB HL241_0 HL247_0 HR241_0 HR247_0 hx241_0 hx242_0 hx242_1 hx242_2 hx242_3 hx247_0 hx248_0 hx248_1 hx248_2 hx248_3 hx256_0 hx256_1 hx256_2 hx256_3 hx257_0 hx257_1 hx257_2 hx257_3 hx258_0 hx258_1 hx258_2 hx258_3 hHeld ⊢
                         refine pure_ (i := 0) (N := some 70) (v := ?_) (a' := ?_) #[true, false, false, false, false, false, false, false, false, false, false, false, false, false, false, false, false, false, false, false, false, false, false, false, false, false, false, false, false, false, false, false, false, false, false, false, false, false, false, false, false, false, false, false, false, false, false, false, false, false, false, false, false, false, false, false, false, false, false, false, false, false, false, false, false, false, false, false, false, false, false, false, false, false, false, false, false, false, false, false, false, false, false, false, false, false, false, false, false, false, false, false, false] rfl rfl (any_of HT_.out (by kernel_rfl)) (fun _ _ _ h => h) (Or.inl ⟨by rfl, ?_⟩) ?_ ?_
                         rotate_left
                         ·intro w'
                          go_simp
                          with_reducible rfl
                         rotate_left
                         ·simp only [Act.put, List.setIfInBounds_toArray, List.set_cons_zero, List.set_cons_succ, i64_w, i32_w]
                          rfl
                         refine pure_ (i := 1) (N := some 71) (v := ?_) (a' := ?_) #[true, true, false, false, false, false, false, false, false, false, false, false, false, false, false, false, false, false, false, false, false, false, false, false, false, false, false, false, false, false, false, false, false, false, false, false, false, false, false, false, false, false, false, false, false, false, false, false, false, false, false, false, false, false, false, false, false, false, false, false, false, false, false, false, false, false, false, false, false, false, false, false, false, false, false, false, false, false, false, false, false, false, false, false, false, false, false, false, false, false, false, false, false] rfl rfl (any_of HT_.out (by kernel_rfl)) (fun _ _ _ h => h) (Or.inl ⟨by rfl, ?_⟩) ?_ ?_
                         rotate_left
                         ·intro w'
                          go_simp
                          with_reducible rfl
                         rotate_left
                         ·simp only [Act.put, List.setIfInBounds_toArray, List.set_cons_zero, List.set_cons_succ, i64_w, i32_w]
                          rfl
                         refine pure_ (i := 2) (N := some 72) (v := ?_) (a' := ?_) #[true, true, true, false, false, false, false, false, false, false, false, false, false, false, false, false, false, false, false, false, false, false, false, false, false, false, false, false, false, false, false, false, false, false, false, false, false, false, false, false, false, false, false, false, false, false, false, false, false, false, false, false, false, false, false, false, false, false, false, false, false, false, false, false, false, false, false, false, false, false, false, false, false, false, false, false, false, false, false, false, false, false, false, false, false, false, false, false, false, false, false, false, false] rfl rfl (any_of HT_.out (by kernel_rfl)) (fun _ _ _ h => h) (Or.inl ⟨by rfl, ?_⟩) ?_ ?_
                         rotate_left
                         ·intro w'
                          go_simp
                          with_reducible rfl
                         rotate_left
                         ·simp only [Act.put, List.setIfInBounds_toArray, List.set_cons_zero, List.set_cons_succ, i64_w, i32_w]
                          rfl
                         refine pure_ (i := 3) (N := some 73) (v := ?_) (a' := ?_) #[true, true, true, true, false, false, false, false, false, false, false, false, false, false, false, false, false, false, false, false, false, false, false, false, false, false, false, false, false, false, false, false, false, false, false, false, false, false, false, false, false, false, false, false, false, false, false, false, false, false, false, false, false, false, false, false, false, false, false, false, false, false, false, false, false, false, false, false, false, false, false, false, false, false, false, false, false, false, false, false, false, false, false, false, false, false, false, false, false, false, false, false, false] rfl rfl (any_of HT_.out (by kernel_rfl)) (fun _ _ _ h => h) (Or.inl ⟨by rfl, ?_⟩) ?_ ?_
                         rotate_left
                         ·intro w'
                          go_simp
                          with_reducible rfl
                         rotate_left
                         ·simp only [Act.put, List.setIfInBounds_toArray, List.set_cons_zero, List.set_cons_succ, i64_w, i32_w]
                          rfl
                         refine pure_ (i := 4) (N := some 74) (v := ?_) (a' := ?_) #[true, true, true, true, true, false, false, false, false, false, false, false, false, false, false, false, false, false, false, false, false, false, false, false, false, false, false, false, false, false, false, false, false, false, false, false, false, false, false, false, false, false, false, false, false, false, false, false, false, false, false, false, false, false, false, false, false, false, false, false, false, false, false, false, false, false, false, false, false, false, false, false, false, false, false, false, false, false, false, false, false, false, false, false, false, false, false, false, false, false, false, false, false] rfl rfl (any_of HT_.out (by kernel_rfl)) (fun _ _ _ h => h) (Or.inl ⟨by rfl, ?_⟩) ?_ ?_
                         rotate_left
                         ·intro w'
                          go_simp
                          with_reducible rfl
                         rotate_left
                         ·simp only [Act.put, List.setIfInBounds_toArray, List.set_cons_zero, List.set_cons_succ, i64_w, i32_w]
                          rfl
                         refine pure_ (i := 5) (N := some 75) (v := ?_) (a' := ?_) #[true, true, true, true, true, true, false, false, false, false, false, false, false, false, false, false, false, false, false, false, false, false, false, false, false, false, false, false, false, false, false, false, false, false, false, false, false, false, false, false, false, false, false, false, false, false, false, false, false, false, false, false, false, false, false, false, false, false, false, false, false, false, false, false, false, false, false, false, false, false, false, false, false, false, false, false, false, false, false, false, false, false, false, false, false, false, false, false, false, false, false, false, false] rfl rfl (any_of HT_.out (by kernel_rfl)) (fun _ _ _ h => h) (Or.inl ⟨by rfl, ?_⟩) ?_ ?_
                         rotate_left
                         ·intro w'
                          go_simp
                          with_reducible rfl
                         rotate_left
                         ·simp only [Act.put, List.setIfInBounds_toArray, List.set_cons_zero, List.set_cons_succ, i64_w, i32_w]
                          rfl
                         refine pure_ (i := 6) (N := some 76) (v := ?_) (a' := ?_) #[true, true, true, true, true, true, true, false, false, false, false, false, false, false, false, false, false, false, false, false, false, false, false, false, false, false, false, false, false, false, false, false, false, false, false, false, false, false, false, false, false, false, false, false, false, false, false, false, false, false, false, false, false, false, false, false, false, false, false, false, false, false, false, false, false, false, false, false, false, false, false, false, false, false, false, false, false, false, false, false, false, false, false, false, false, false, false, false, false, false, false, false, false] rfl rfl (any_of HT_.out (by kernel_rfl)) (fun _ _ _ h => h) (Or.inl ⟨by rfl, ?_⟩) ?_ ?_
                         rotate_left
                         ·intro w'
                          go_simp
                          with_reducible rfl
                         rotate_left
                         ·simp only [Act.put, List.setIfInBounds_toArray, List.set_cons_zero, List.set_cons_succ, i64_w, i32_w]
                          rfl
                         refine pure_ (i := 7) (N := some 77) (v := ?_) (a' := ?_) #[true, true, true, true, true, true, true, true, false, false, false, false, false, false, false, false, false, false, false, false, false, false, false, false, false, false, false, false, false, false, false, false, false, false, false, false, false, false, false, false, false, false, false, false, false, false, false, false, false, false, false, false, false, false, false, false, false, false, false, false, false, false, false, false, false, false, false, false, false, false, false, false, false, false, false, false, false, false, false, false, false, false, false, false, false, false, false, false, false, false, false, false, false] rfl rfl (any_of HT_.out (by kernel_rfl)) (fun _ _ _ h => h) (Or.inl ⟨by rfl, ?_⟩) ?_ ?_
                         rotate_left
                         ·intro w'
                          go_simp
                          with_reducible rfl
                         rotate_left
                         ·simp only [Act.put, List.setIfInBounds_toArray, List.set_cons_zero, List.set_cons_succ, i64_w, i32_w]
                          rfl
                         refine pure_ (i := 8) (N := some 78) (v := ?_) (a' := ?_) #[true, true, true, true, true, true, true, true, true, false, false, false, false, false, false, false, false, false, false, false, false, false, false, false, false, false, false, false, false, false, false, false, false, false, false, false, false, false, false, false, false, false, false, false, false, false, false, false, false, false, false, false, false, false, false, false, false, false, false, false, false, false, false, false, false, false, false, false, false, false, false, false, false, false, false, false, false, false, false, false, false, false, false, false, false, false, false, false, false, false, false, false, false] rfl rfl (any_of HT_.out (by kernel_rfl)) (fun _ _ _ h => h) (Or.inl ⟨by rfl, ?_⟩) ?_ ?_
                         rotate_left
                         ·intro w'
                          go_simp
                          with_reducible rfl
                         rotate_left
                         ·simp only [Act.put, List.setIfInBounds_toArray, List.set_cons_zero, List.set_cons_succ, i64_w, i32_w]
                          rfl
                         refine pure_ (i := 9) (N := some 79) (v := ?_) (a' := ?_) #[true, true, true, true, true, true, true, true, true, true, false, false, false, false, false, false, false, false, false, false, false, false, false, false, false, false, false, false, false, false, false, false, false, false, false, false, false, false, false, false, false, false, false, false, false, false, false, false, false, false, false, false, false, false, false, false, false, false, false, false, false, false, false, false, false, false, false, false, false, false, false, false, false, false, false, false, false, false, false, false, false, false, false, false, false, false, false, false, false, false, false, false, false] rfl rfl (any_of HT_.out (by kernel_rfl)) (fun _ _ _ h => h) (Or.inl ⟨by rfl, ?_⟩) ?_ ?_
                         rotate_left
                         ·intro w'
                          go_simp
                          with_reducible rfl
                         rotate_left
                         ·simp only [Act.put, List.setIfInBounds_toArray, List.set_cons_zero, List.set_cons_succ, i64_w, i32_w]
                          rfl
                         refine pure_ (i := 10) (N := some 80) (v := ?_) (a' := ?_) #[true, true, true, true, true, true, true, true, true, true, true, false, false, false, false, false, false, false, false, false, false, false, false, false, false, false, false, false, false, false, false, false, false, false, false, false, false, false, false, false, false, false, false, false, false, false, false, false, false, false, false, false, false, false, false, false, false, false, false, false, false, false, false, false, false, false, false, false, false, false, false, false, false, false, false, false, false, false, false, false, false, false, false, false, false, false, false, false, false, false, false, false, false] rfl rfl (any_of HT_.out (by kernel_rfl)) (fun _ _ _ h => h) (Or.inl ⟨by rfl, ?_⟩) ?_ ?_
                         rotate_left
                         ·intro w'
                          go_simp
                          with_reducible rfl
                         rotate_left
                         ·simp only [Act.put, List.setIfInBounds_toArray, List.set_cons_zero, List.set_cons_succ, i64_w, i32_w]
                          rfl
                         refine pure_ (i := 11) (N := some 81) (v := ?_) (a' := ?_) #[true, true, true, true, true, true, true, true, true, true, true, true, false, false, false, false, false, false, false, false, false, false, false, false, false, false, false, false, false, false, false, false, false, false, false, false, false, false, false, false, false, false, false, false, false, false, false, false, false, false, false, false, false, false, false, false, false, false, false, false, false, false, false, false, false, false, false, false, false, false, false, false, false, false, false, false, false, false, false, false, false, false, false, false, false, false, false, false, false, false, false, false, false] rfl rfl (any_of HT_.out (by kernel_rfl)) (fun _ _ _ h => h) (Or.inl ⟨by rfl, ?_⟩) ?_ ?_
                         rotate_left
                         ·intro w'
                          go_simp
                          with_reducible rfl
                         rotate_left
                         ·simp only [Act.put, List.setIfInBounds_toArray, List.set_cons_zero, List.set_cons_succ, i64_w, i32_w]
                          rfl
                         refine pure_ (i := 12) (N := some 82) (v := ?_) (a' := ?_) #[true, true, true, true, true, true, true, true, true, true, true, true, true, false, false, false, false, false, false, false, false, false, false, false, false, false, false, false, false, false, false, false, false, false, false, false, false, false, false, false, false, false, false, false, false, false, false, false, false, false, false, false, false, false, false, false, false, false, false, false, false, false, false, false, false, false, false, false, false, false, false, false, false, false, false, false, false, false, false, false, false, false, false, false, false, false, false, false, false, false, false, false, false] rfl rfl (any_of HT_.out (by kernel_rfl)) (fun _ _ _ h => h) (Or.inl ⟨by rfl, ?_⟩) ?_ ?_
                         rotate_left
                         ·intro w'
                          go_simp
                          with_reducible rfl
                         rotate_left
                         ·simp only [Act.put, List.setIfInBounds_toArray, List.set_cons_zero, List.set_cons_succ, i64_w, i32_w]
                          rfl
                         refine pure_ (i := 13) (N := some 83) (v := ?_) (a' := ?_) #[true, true, true, true, true, true, true, true, true, true, true, true, true, true, false, false, false, false, false, false, false, false, false, false, false, false, false, false, false, false, false, false, false, false, false, false, false, false, false, false, false, false, false, false, false, false, false, false, false, false, false, false, false, false, false, false, false, false, false, false, false, false, false, false, false, false, false, false, false, false, false, false, false, false, false, false, false, false, false, false, false, false, false, false, false, false, false, false, false, false, false, false, false] rfl rfl (any_of HT_.out (by kernel_rfl)) (fun _ _ _ h => h) (Or.inl ⟨by rfl, ?_⟩) ?_ ?_
                         rotate_left
                         ·intro w'
                          go_simp
                          with_reducible rfl
                         rotate_left
                         ·simp only [Act.put, List.setIfInBounds_toArray, List.set_cons_zero, List.set_cons_succ, i64_w, i32_w]
                          rfl
                         refine pure_ (i := 14) (N := some 84) (v := ?_) (a' := ?_) #[true, true, true, true, true, true, true, true, true, true, true, true, true, true, true, false, false, false, false, false, false, false, false, false, false, false, false, false, false, false, false, false, false, false, false, false, false, false, false, false, false, false, false, false, false, false, false, false, false, false, false, false, false, false, false, false, false, false, false, false, false, false, false, false, false, false, false, false, false, false, false, false, false, false, false, false, false, false, false, false, false, false, false, false, false, false, false, false, false, false, false, false, false] rfl rfl (any_of HT_.out (by kernel_rfl)) (fun _ _ _ h => h) (Or.inl ⟨by rfl, ?_⟩) ?_ ?_
                         rotate_left
                         ·intro w'
                          go_simp
                          with_reducible rfl
                         rotate_left
                         ·simp only [Act.put, List.setIfInBounds_toArray, List.set_cons_zero, List.set_cons_succ, i64_w, i32_w]
                          rfl
                         refine pure_ (i := 15) (N := some 85) (v := ?_) (a' := ?_) #[true, true, true, true, true, true, true, true, true, true, true, true, true, true, true, true, false, false, false, false, false, false, false, false, false, false, false, false, false, false, false, false, false, false, false, false, false, false, false, false, false, false, false, false, false, false, false, false, false, false, false, false, false, false, false, false, false, false, false, false, false, false, false, false, false, false, false, false, false, false, false, false, false, false, false, false, false, false, false, false, false, false, false, false, false, false, false, false, false, false, false, false, false] rfl rfl (any_of HT_.out (by kernel_rfl)) (fun _ _ _ h => h) (Or.inl ⟨by rfl, ?_⟩) ?_ ?_
                         rotate_left
                         ·intro w'
                          go_simp
                          with_reducible rfl
                         rotate_left
                         ·simp only [Act.put, List.setIfInBounds_toArray, List.set_cons_zero, List.set_cons_succ, i64_w, i32_w]
                          rfl
                         refine pure_ (i := 16) (N := some 86) (v := ?_) (a' := ?_) #[true, true, true, true, true, true, true, true, true, true, true, true, true, true, true, true, true, false, false, false, false, false, false, false, false, false, false, false, false, false, false, false, false, false, false, false, false, false, false, false, false, false, false, false, false, false, false, false, false, false, false, false, false, false, false, false, false, false, false, false, false, false, false, false, false, false, false, false, false, false, false, false, false, false, false, false, false, false, false, false, false, false, false, false, false, false, false, false, false, false, false, false, false] rfl rfl (any_of HT_.out (by kernel_rfl)) (fun _ _ _ h => h) (Or.inl ⟨by rfl, ?_⟩) ?_ ?_
                         rotate_left
                         ·intro w'
                          go_simp
                          with_reducible rfl
                         rotate_left
                         ·simp only [Act.put, List.setIfInBounds_toArray, List.set_cons_zero, List.set_cons_succ, i64_w, i32_w]
                          rfl
                         refine pure_ (i := 17) (N := some 87) (v := ?_) (a' := ?_) #[true, true, true, true, true, true, true, true, true, true, true, true, true, true, true, true, true, true, false, false, false, false, false, false, false, false, false, false, false, false, false, false, false, false, false, false, false, false, false, false, false, false, false, false, false, false, false, false, false, false, false, false, false, false, false, false, false, false, false, false, false, false, false, false, false, false, false, false, false, false, false, false, false, false, false, false, false, false, false, false, false, false, false, false, false, false, false, false, false, false, false, false, false] rfl rfl (any_of HT_.out (by kernel_rfl)) (fun _ _ _ h => h) (Or.inl ⟨by rfl, ?_⟩) ?_ ?_
                         rotate_left
                         ·intro w'
                          go_simp
                          with_reducible rfl
                         rotate_left
                         ·simp only [Act.put, List.setIfInBounds_toArray, List.set_cons_zero, List.set_cons_succ, i64_w, i32_w]
                          rfl
                         refine pure_ (i := 18) (N := some 88) (v := ?_) (a' := ?_) #[true, true, true, true, true, true, true, true, true, true, true, true, true, true, true, true, true, true, true, false, false, false, false, false, false, false, false, false, false, false, false, false, false, false, false, false, false, false, false, false, false, false, false, false, false, false, false, false, false, false, false, false, false, false, false, false, false, false, false, false, false, false, false, false, false, false, false, false, false, false, false, false, false, false, false, false, false, false, false, false, false, false, false, false, false, false, false, false, false, false, false, false, false] rfl rfl (any_of HT_.out (by kernel_rfl)) (fun _ _ _ h => h) (Or.inl ⟨by rfl, ?_⟩) ?_ ?_
                         rotate_left
                         ·intro w'
                          go_simp
                          with_reducible rfl
                         rotate_left
                         ·simp only [Act.put, List.setIfInBounds_toArray, List.set_cons_zero, List.set_cons_succ, i64_w, i32_w]
                          rfl
                         refine pure_ (i := 19) (N := some 89) (v := ?_) (a' := ?_) #[true, true, true, true, true, true, true, true, true, true, true, true, true, true, true, true, true, true, true, true, false, false, false, false, false, false, false, false, false, false, false, false, false, false, false, false, false, false, false, false, false, false, false, false, false, false, false, false, false, false, false, false, false, false, false, false, false, false, false, false, false, false, false, false, false, false, false, false, false, false, false, false, false, false, false, false, false, false, false, false, false, false, false, false, false, false, false, false, false, false, false, false, false] rfl rfl (any_of HT_.out (by kernel_rfl)) (fun _ _ _ h => h) (Or.inl ⟨by rfl, ?_⟩) ?_ ?_
                         rotate_left
                         ·intro w'
                          go_simp
                          with_reducible rfl
                         rotate_left
                         ·simp only [Act.put, List.setIfInBounds_toArray, List.set_cons_zero, List.set_cons_succ, i64_w, i32_w]
                          rfl
                         refine take_ (i := 20) (N := some 90) (v := ?_) (a' := ?_) #[true, true, true, true, true, true, true, true, true, true, true, true, true, true, true, true, true, true, true, true, true, false, false, false, false, false, false, false, false, false, false, false, false, false, false, false, false, false, false, false, false, false, false, false, false, false, false, false, false, false, false, false, false, false, false, false, false, false, false, false, false, false, false, false, false, false, false, false, false, false, false, false, false, false, false, false, false, false, false, false, false, false, false, false, false, false, false, false, false, false, false, false, false] rfl rfl (take_ofW HT_.out HW_.out (by kernel_rfl)) (fun _ _ _ h => h) (Or.inl ⟨by rfl, ?_⟩) hHeld ?_ ?_
                         rotate_left
                         ·rintro w' ⟨s0, s1, s2, s3, s4, s5, s6, s7, s8, s9, s10, s11, s12, s13, s14, s15, s16, s17, s18, s19, s20, s21⟩
                          go_simp
                          with_reducible rfl
                         rotate_left
                         ·simp only [Act.put, List.setIfInBounds_toArray, List.set_cons_zero, List.set_cons_succ, i64_w, i32_w]
                          rfl
                         refine pure_ (i := 21) (N := some 91) (v := ?_) (a' := ?_) #[true, true, true, true, true, true, true, true, true, true, true, true, true, true, true, true, true, true, true, true, true, true, false, false, false, false, false, false, false, false, false, false, false, false, false, false, false, false, false, false, false, false, false, false, false, false, false, false, false, false, false, false, false, false, false, false, false, false, false, false, false, false, false, false, false, false, false, false, false, false, false, false, false, false, false, false, false, false, false, false, false, false, false, false, false, false, false, false, false, false, false, false, false] rfl rfl (any_of HT_.out (by kernel_rfl)) (fun _ _ _ h => h) (Or.inl ⟨by rfl, ?_⟩) ?_ ?_
                         rotate_left
                         ·intro w'
                          go_simp
                          with_reducible rfl
                         rotate_left
                         ·simp only [Act.put, List.setIfInBounds_toArray, List.set_cons_zero, List.set_cons_succ, i64_w, i32_w]
                          rfl
                         refine take_ (i := 22) (N := some 92) (v := ?_) (a' := ?_) #[true, true, true, true, true, true, true, true, true, true, true, true, true, true, true, true, true, true, true, true, true, true, true, false, false, false, false, false, false, false, false, false, false, false, false, false, false, false, false, false, false, false, false, false, false, false, false, false, false, false, false, false, false, false, false, false, false, false, false, false, false, false, false, false, false, false, false, false, false, false, false, false, false, false, false, false, false, false, false, false, false, false, false, false, false, false, false, false, false, false, false, false, false] rfl rfl (take_ofW HT_.out HW_.out (by kernel_rfl)) (fun _ _ _ h => h) (Or.inl ⟨by rfl, ?_⟩) hHeld ?_ ?_
                         rotate_left
                         ·rintro w' ⟨s0, s1, s2, s3, s4, s5, s6, s7, s8, s9, s10, s11, s12, s13, s14, s15, s16, s17, s18, s19, s20, s21⟩
                          go_simp
                          with_reducible rfl
                         rotate_left
                         ·simp only [Act.put, List.setIfInBounds_toArray, List.set_cons_zero, List.set_cons_succ, i64_w, i32_w]
                          rfl
                         refine one_ (i := 23) (N := some 93) #[true, true, true, true, true, true, true, true, true, true, true, true, true, true, true, true, true, true, true, true, true, true, true, true, false, false, false, false, false, false, false, false, false, false, false, false, false, false, false, false, false, false, false, false, false, false, false, false, false, false, false, false, false, false, false, false, false, false, false, false, false, false, false, false, false, false, false, false, false, false, false, false, false, false, false, false, false, false, false, false, false, false, false, false, false, false, false, false, false, false, false, false, false] rfl rfl (one_of HT_.out (by kernel_rfl)) (by decide) (fun K hK => ?_)
                         refine goes_ Try.func15 (by kernel_rfl) rfl #[.int .i64 2, .int .i64 3] (by rfl) rfl rfl (by (try simp only [List.map_toArray, List.map_cons, List.map_nil]); first | done | rfl | (simp only [List.length_drop, List.length_take]; rfl)) ?_
                         with_reducible refine (norialaw3_C.calls 2 3 t243 t244 t245 t246 _ A45.out).mono ?_
                         rintro e w69 ⟨rfl, hb⟩
                         have HS0_ := (hb.cell (World.block_lt_of_cell? _ _ (hHeld.1))).trans (hHeld.1)
                         have HS1_ := (hb.cell (World.block_lt_of_cell? _ _ (hHeld.2.1))).trans (hHeld.2.1)
                         have HS2_ := (hb.cell (World.block_lt_of_cell? _ _ (hHeld.2.2.1))).trans (hHeld.2.2.1)
                         have HS3_ := (hb.cell (World.block_lt_of_cell? _ _ (hHeld.2.2.2.1))).trans (hHeld.2.2.2.1)
                         have HS4_ := (hb.cell (World.block_lt_of_cell? _ _ (hHeld.2.2.2.2.1))).trans (hHeld.2.2.2.2.1)
                         have HS5_ := (hb.cell (World.block_lt_of_cell? _ _ (hHeld.2.2.2.2.2.1))).trans (hHeld.2.2.2.2.2.1)
                         have HS6_ := (hb.cell (World.block_lt_of_cell? _ _ (hHeld.2.2.2.2.2.2.1))).trans (hHeld.2.2.2.2.2.2.1)
                         have HS7_ := (hb.cell (World.block_lt_of_cell? _ _ (hHeld.2.2.2.2.2.2.2.1))).trans (hHeld.2.2.2.2.2.2.2.1)
                         have HS8_ := (hb.cell (World.block_lt_of_cell? _ _ (hHeld.2.2.2.2.2.2.2.2.1))).trans (hHeld.2.2.2.2.2.2.2.2.1)
                         have HS9_ := (hb.cell (World.block_lt_of_cell? _ _ (hHeld.2.2.2.2.2.2.2.2.2.1))).trans (hHeld.2.2.2.2.2.2.2.2.2.1)
                         have HS10_ := (hb.cell (World.block_lt_of_cell? _ _ (hHeld.2.2.2.2.2.2.2.2.2.2.1))).trans (hHeld.2.2.2.2.2.2.2.2.2.2.1)
                         have HS11_ := (hb.cell (World.block_lt_of_cell? _ _ (hHeld.2.2.2.2.2.2.2.2.2.2.2.1))).trans (hHeld.2.2.2.2.2.2.2.2.2.2.2.1)
                         have HS12_ := (hb.cell (World.block_lt_of_cell? _ _ (hHeld.2.2.2.2.2.2.2.2.2.2.2.2.1))).trans (hHeld.2.2.2.2.2.2.2.2.2.2.2.2.1)
                         have HS13_ := (hb.cell (World.block_lt_of_cell? _ _ (hHeld.2.2.2.2.2.2.2.2.2.2.2.2.2.1))).trans (hHeld.2.2.2.2.2.2.2.2.2.2.2.2.2.1)
                         have HS14_ := (hb.cell (World.block_lt_of_cell? _ _ (hHeld.2.2.2.2.2.2.2.2.2.2.2.2.2.2.1))).trans (hHeld.2.2.2.2.2.2.2.2.2.2.2.2.2.2.1)
                         have HS15_ := (hb.cell (World.block_lt_of_cell? _ _ (hHeld.2.2.2.2.2.2.2.2.2.2.2.2.2.2.2.1))).trans (hHeld.2.2.2.2.2.2.2.2.2.2.2.2.2.2.2.1)
                         have HS16_ := (hb.cell (World.block_lt_of_cell? _ _ (hHeld.2.2.2.2.2.2.2.2.2.2.2.2.2.2.2.2.1))).trans (hHeld.2.2.2.2.2.2.2.2.2.2.2.2.2.2.2.2.1)
                         have HS17_ := (hb.cell (World.block_lt_of_cell? _ _ (hHeld.2.2.2.2.2.2.2.2.2.2.2.2.2.2.2.2.2.1))).trans (hHeld.2.2.2.2.2.2.2.2.2.2.2.2.2.2.2.2.2.1)
                         have HS18_ := (hb.cell (World.block_lt_of_cell? _ _ (hHeld.2.2.2.2.2.2.2.2.2.2.2.2.2.2.2.2.2.2.1))).trans (hHeld.2.2.2.2.2.2.2.2.2.2.2.2.2.2.2.2.2.2.1)
                         have HS19_ := (hb.cell (World.block_lt_of_cell? _ _ (hHeld.2.2.2.2.2.2.2.2.2.2.2.2.2.2.2.2.2.2.2.1))).trans (hHeld.2.2.2.2.2.2.2.2.2.2.2.2.2.2.2.2.2.2.2.1)
                         have HS20_ := (hb.cell (World.block_lt_of_cell? _ _ (hHeld.2.2.2.2.2.2.2.2.2.2.2.2.2.2.2.2.2.2.2.2.1))).trans (hHeld.2.2.2.2.2.2.2.2.2.2.2.2.2.2.2.2.2.2.2.2.1)
                         have HS21_ := (hb.cell (World.block_lt_of_cell? _ _ (hHeld.2.2.2.2.2.2.2.2.2.2.2.2.2.2.2.2.2.2.2.2.2))).trans (hHeld.2.2.2.2.2.2.2.2.2.2.2.2.2.2.2.2.2.2.2.2.2)
                         refine ⟨_, rfl, ?_⟩
                         have n0_ := Aside0.mk (Kd.R_below (by (with_reducible repeat (first | apply Kd.R_alloc | apply Kd.R_drewN | apply Kd.R_drew)); exact HO_1.out) hb)
                         have n1_ := Aside0.mk (Kd.R_below (by (with_reducible repeat (first | apply Kd.R_alloc | apply Kd.R_drewN | apply Kd.R_drew)); exact HO_2.out) hb)
                         have n2_ := Aside0.mk (Kd.N_below (by (with_reducible repeat (first | apply Kd.N_alloc | apply Kd.N_drewN | apply Kd.N_drew)); exact HO_3.out) hb)
                         have n3_ := Aside0.mk (Kd.R_below (by (with_reducible repeat (first | apply Kd.R_alloc | apply Kd.R_drewN | apply Kd.R_drew)); exact HO_9.out) hb)
                         have n4_ := Aside0.mk (Kd.R_below (by (with_reducible repeat (first | apply Kd.R_alloc | apply Kd.R_drewN | apply Kd.R_drew)); exact HO_11.out) hb)
                         have n5_ := Aside0.mk (Kd.V_below (by (with_reducible repeat (first | apply Kd.V_alloc | apply Kd.V_drewN | apply Kd.V_drew)); exact HL241_0.out) hb)
                         have n6_ := Aside0.mk (Kd.V_below (by (with_reducible repeat (first | apply Kd.V_alloc | apply Kd.V_drewN | apply Kd.V_drew)); exact HL247_0.out) hb)
                         have n7_ := Aside0.mk (Kd.C_below (d := k44) (xs := rd_L7 t215 2) (A := (some ad242)) (n := (rd_L7 t215 2).length) (by repeat (first | (with_reducible exact HR241_0.out) | (with_reducible refine Kd.C_alloc ?_ _) | (with_reducible refine Kd.C_drewN ?_ _) | (with_reducible refine Kd.C_drew ?_) | exact HR241_0.out)) hb)
                         have n8_ := Aside0.mk (Kd.C_below (d := k44) (xs := rd_L7 t215 0) (A := (some ad248)) (n := (rd_L7 t215 0).length) (by repeat (first | (with_reducible exact HR247_0.out) | (with_reducible refine Kd.C_alloc ?_ _) | (with_reducible refine Kd.C_drewN ?_ _) | (with_reducible refine Kd.C_drew ?_) | exact HR247_0.out)) hb)
                         have n9_ := Aside0.mk (below_step (by repeat (first | (with_reducible first | exact HB.out | apply below_alloc | apply pw_below_drewN | apply below_drew1) | exact HB.out)) hb)
                         clear HO_1
                         clear HO_2
                         clear HO_3
                         clear HO_9
                         clear HO_11
                         clear HL241_0
                         clear HL247_0
                         clear HR241_0
                         clear HR247_0
                         clear HB
                         have HO_1 := n0_
                         have HO_2 := n1_
                         have HO_3 := n2_
                         have HO_9 := n3_
                         have HO_11 := n4_
                         have HL241_0 := n5_
                         have HL247_0 := n6_
                         have HR241_0 := n7_
                         have HR247_0 := n8_
                         have HB := n9_
                         clear n0_ n1_ n2_ n3_ n4_ n5_ n6_ n7_ n8_ n9_
                         (try clear hb)
                         (try clear hb2)
                         (try clear hk)
                         (try clear hi)
                         obtain ⟨Ao71, co71, eo71⟩ := Kd.R_slice HO_11.out
                         (first | subst eo71 | (injection eo71 with f1_ f2_ f3_; have f4_ := f1_.symm; have f5_ := f3_.symm; clear f1_ f2_ f3_; subst f4_; subst f5_))
                         refine hK.out _ _ ⟨HS0_, HS1_, HS2_, HS3_, HS4_, HS5_, HS6_, HS7_, HS8_, HS9_, HS10_, HS11_, HS12_, HS13_, HS14_, HS15_, HS16_, HS17_, HS18_, HS19_, HS20_, HS21_⟩ (fun hHeld => ?_)
                         clear hK K
                         refine norm_ (a' := ?_) ?_ ?_
                         rotate_left
                         ·show Act.put _ (some 93) _ = _
                          simp only [Act.put, List.setIfInBounds_toArray, List.set_cons_zero, List.set_cons_succ, i64_w, i32_w]
                          rfl
                         refine pure_ (i := 24) (N := some 94) (v := ?_) (a' := ?_) #[true, true, true, true, true, true, true, true, true, true, true, true, true, true, true, true, true, true, true, true, true, true, true, true, true, false, false, false, false, false, false, false, false, false, false, false, false, false, false, false, false, false, false, false, false, false, false, false, false, false, false, false, false, false, false, false, false, false, false, false, false, false, false, false, false, false, false, false, false, false, false, false, false, false, false, false, false, false, false, false, false, false, false, false, false, false, false, false, false, false, false, false, false] rfl rfl (any_of HT_.out (by kernel_rfl)) (fun _ _ _ h => h) (Or.inl ⟨by rfl, ?_⟩) ?_ ?_
                         rotate_left
                         ·intro w'
                          go_simp
                          with_reducible rfl
                         rotate_left
                         ·simp only [Act.put, List.setIfInBounds_toArray, List.set_cons_zero, List.set_cons_succ, i64_w, i32_w]
                          rfl
                         refine pure_ (i := 25) (N := some 95) (v := ?_) (a' := ?_) #[true, true, true, true, true, true, true, true, true, true, true, true, true, true, true, true, true, true, true, true, true, true, true, true, true, true, false, false, false, false, false, false, false, false, false, false, false, false, false, false, false, false, false, false, false, false, false, false, false, false, false, false, false, false, false, false, false, false, false, false, false, false, false, false, false, false, false, false, false, false, false, false, false, false, false, false, false, false, false, false, false, false, false, false, false, false, false, false, false, false, false, false, false] rfl rfl (any_of HT_.out (by kernel_rfl)) (fun _ _ _ h => h) (Or.inl ⟨by rfl, ?_⟩) ?_ ?_
                         rotate_left
                         ·intro w'
                          go_simp
                          with_reducible rfl
                         rotate_left
                         ·simp only [Act.put, List.setIfInBounds_toArray, List.set_cons_zero, List.set_cons_succ, i64_w, i32_w]
                          rfl
                         refine pure_ (i := 26) (N := some 96) (v := ?_) (a' := ?_) #[true, true, true, true, true, true, true, true, true, true, true, true, true, true, true, true, true, true, true, true, true, true, true, true, true, true, true, false, false, false, false, false, false, false, false, false, false, false, false, false, false, false, false, false, false, false, false, false, false, false, false, false, false, false, false, false, false, false, false, false, false, false, false, false, false, false, false, false, false, false, false, false, false, false, false, false, false, false, false, false, false, false, false, false, false, false, false, false, false, false, false, false, false] rfl rfl (any_of HT_.out (by kernel_rfl)) (fun _ _ _ h => h) (Or.inl ⟨by rfl, ?_⟩) ?_ ?_
                         rotate_left
                         ·intro w'
                          go_simp
                          with_reducible rfl
                         rotate_left
                         ·simp only [Act.put, List.setIfInBounds_toArray, List.set_cons_zero, List.set_cons_succ, i64_w, i32_w]
                          rfl
                         refine pure_ (i := 27) (N := some 97) (v := ?_) (a' := ?_) #[true, true, true, true, true, true, true, true, true, true, true, true, true, true, true, true, true, true, true, true, true, true, true, true, true, true, true, true, false, false, false, false, false, false, false, false, false, false, false, false, false, false, false, false, false, false, false, false, false, false, false, false, false, false, false, false, false, false, false, false, false, false, false, false, false, false, false, false, false, false, false, false, false, false, false, false, false, false, false, false, false, false, false, false, false, false, false, false, false, false, false, false, false] rfl rfl (any_of HT_.out (by kernel_rfl)) (fun _ _ _ h => h) (Or.inl ⟨by rfl, ?_⟩) ?_ ?_
                         rotate_left
                         ·intro w'
                          go_simp
                          with_reducible rfl
                         rotate_left
                         ·simp only [Act.put, List.setIfInBounds_toArray, List.set_cons_zero, List.set_cons_succ, i64_w, i32_w]
                          rfl
                         refine pure_ (i := 28) (N := some 98) (v := ?_) (a' := ?_) #[true, true, true, true, true, true, true, true, true, true, true, true, true, true, true, true, true, true, true, true, true, true, true, true, true, true, true, true, true, false, false, false, false, false, false, false, false, false, false, false, false, false, false, false, false, false, false, false, false, false, false, false, false, false, false, false, false, false, false, false, false, false, false, false, false, false, false, false, false, false, false, false, false, false, false, false, false, false, false, false, false, false, false, false, false, false, false, false, false, false, false, false, false] rfl rfl (any_of HT_.out (by kernel_rfl)) (fun _ _ _ h => h) (Or.inl ⟨by rfl, ?_⟩) ?_ ?_
                         rotate_left
                         ·intro w'
                          go_simp
                          with_reducible rfl
                         rotate_left
                         ·simp only [Act.put, List.setIfInBounds_toArray, List.set_cons_zero, List.set_cons_succ, i64_w, i32_w]
                          rfl
                         refine pure_ (i := 32) (N := some 102) (v := ?_) (a' := ?_) #[true, true, true, true, true, true, true, true, true, true, true, true, true, true, true, true, true, true, true, true, true, true, true, true, true, true, true, true, true, false, false, false, true, false, false, false, false, false, false, false, false, false, false, false, false, false, false, false, false, false, false, false, false, false, false, false, false, false, false, false, false, false, false, false, false, false, false, false, false, false, false, false, false, false, false, false, false, false, false, false, false, false, false, false, false, false, false, false, false, false, false, false, false] rfl rfl (any_of HT_.out (by kernel_rfl)) (fun _ _ _ h => h) (Or.inl ⟨by rfl, ?_⟩) ?_ ?_
                         rotate_left
                         ·intro w'
                          go_simp
                          with_reducible rfl
                         rotate_left
                         ·simp only [Act.put, List.setIfInBounds_toArray, List.set_cons_zero, List.set_cons_succ, i64_w, i32_w]
                          rfl
                         refine take_ (i := 29) (N := some 99) (v := ?_) (a' := ?_) #[true, true, true, true, true, true, true, true, true, true, true, true, true, true, true, true, true, true, true, true, true, true, true, true, true, true, true, true, true, true, false, false, true, false, false, false, false, false, false, false, false, false, false, false, false, false, false, false, false, false, false, false, false, false, false, false, false, false, false, false, false, false, false, false, false, false, false, false, false, false, false, false, false, false, false, false, false, false, false, false, false, false, false, false, false, false, false, false, false, false, false, false, false] rfl rfl (take_ofW HT_.out HW_.out (by kernel_rfl)) (fun _ _ _ h => h) (Or.inl ⟨by rfl, ?_⟩) hHeld ?_ ?_
                         rotate_left
                         ·rintro w' ⟨s0, s1, s2, s3, s4, s5, s6, s7, s8, s9, s10, s11, s12, s13, s14, s15, s16, s17, s18, s19, s20, s21⟩
                          go_simp
                          with_reducible rfl
                         rotate_left
                         ·simp only [Act.put, List.setIfInBounds_toArray, List.set_cons_zero, List.set_cons_succ, i64_w, i32_w]
                          rfl
                         refine pure_ (i := 30) (N := some 100) (v := ?_) (a' := ?_) #[true, true, true, true, true, true, true, true, true, true, true, true, true, true, true, true, true, true, true, true, true, true, true, true, true, true, true, true, true, true, true, false, true, false, false, false, false, false, false, false, false, false, false, false, false, false, false, false, false, false, false, false, false, false, false, false, false, false, false, false, false, false, false, false, false, false, false, false, false, false, false, false, false, false, false, false, false, false, false, false, false, false, false, false, false, false, false, false, false, false, false, false, false] rfl rfl (any_of HT_.out (by kernel_rfl)) (fun _ _ _ h => h) (Or.inl ⟨by rfl, ?_⟩) ?_ ?_
                         rotate_left
                         ·intro w'
                          go_simp
                          with_reducible rfl
                         rotate_left
                         ·simp only [Act.put, List.setIfInBounds_toArray, List.set_cons_zero, List.set_cons_succ, i64_w, i32_w]
                          rfl
                         refine take_ (i := 31) (N := some 101) (v := ?_) (a' := ?_) #[true, true, true, true, true, true, true, true, true, true, true, true, true, true, true, true, true, true, true, true, true, true, true, true, true, true, true, true, true, true, true, true, true, false, false, false, false, false, false, false, false, false, false, false, false, false, false, false, false, false, false, false, false, false, false, false, false, false, false, false, false, false, false, false, false, false, false, false, false, false, false, false, false, false, false, false, false, false, false, false, false, false, false, false, false, false, false, false, false, false, false, false, false] rfl rfl (take_ofW HT_.out HW_.out (by kernel_rfl)) (fun _ _ _ h => h) (Or.inl ⟨by rfl, ?_⟩) hHeld ?_ ?_
                         rotate_left
                         ·rintro w' ⟨s0, s1, s2, s3, s4, s5, s6, s7, s8, s9, s10, s11, s12, s13, s14, s15, s16, s17, s18, s19, s20, s21⟩
                          go_simp
                          with_reducible rfl
                         rotate_left
                         ·simp only [Act.put, List.setIfInBounds_toArray, List.set_cons_zero, List.set_cons_succ, i64_w, i32_w]
                          rfl
                         refine pure_ (i := 33) (N := some 103) (v := ?_) (a' := ?_) #[true, true, true, true, true, true, true, true, true, true, true, true, true, true, true, true, true, true, true, true, true, true, true, true, true, true, true, true, true, true, true, true, true, true, false, false, false, false, false, false, false, false, false, false, false, false, false, false, false, false, false, false, false, false, false, false, false, false, false, false, false, false, false, false, false, false, false, false, false, false, false, false, false, false, false, false, false, false, false, false, false, false, false, false, false, false, false, false, false, false, false, false, false] rfl rfl (any_of HT_.out (by kernel_rfl)) (fun _ _ _ h => h) (Or.inl ⟨by rfl, ?_⟩) ?_ ?_
                         rotate_left
                         ·intro w'
                          go_simp
                          with_reducible rfl
                         rotate_left
                         ·simp only [Act.put, List.setIfInBounds_toArray, List.set_cons_zero, List.set_cons_succ, i64_w, i32_w]
                          rfl
                         refine pure_ (i := 34) (N := some 104) (v := ?_) (a' := ?_) #[true, true, true, true, true, true, true, true, true, true, true, true, true, true, true, true, true, true, true, true, true, true, true, true, true, true, true, true, true, true, true, true, true, true, true, false, false, false, false, false, false, false, false, false, false, false, false, false, false, false, false, false, false, false, false, false, false, false, false, false, false, false, false, false, false, false, false, false, false, false, false, false, false, false, false, false, false, false, false, false, false, false, false, false, false, false, false, false, false, false, false, false, false] rfl rfl (any_of HT_.out (by kernel_rfl)) (fun _ _ _ h => h) (Or.inl ⟨by rfl, ?_⟩) ?_ ?_
                         rotate_left
                         ·intro w'
                          go_simp
                          with_reducible rfl
                         rotate_left
                         ·simp only [Act.put, List.setIfInBounds_toArray, List.set_cons_zero, List.set_cons_succ, i64_w, i32_w]
                          rfl
                         refine pure_ (i := 35) (N := some 105) (v := ?_) (a' := ?_) #[true, true, true, true, true, true, true, true, true, true, true, true, true, true, true, true, true, true, true, true, true, true, true, true, true, true, true, true, true, true, true, true, true, true, true, true, false, false, false, false, false, false, false, false, false, false, false, false, false, false, false, false, false, false, false, false, false, false, false, false, false, false, false, false, false, false, false, false, false, false, false, false, false, false, false, false, false, false, false, false, false, false, false, false, false, false, false, false, false, false, false, false, false] rfl rfl (any_of HT_.out (by kernel_rfl)) (fun _ _ _ h => h) (Or.inl ⟨by rfl, ?_⟩) ?_ ?_
                         rotate_left
                         ·intro w'
                          go_simp
                          with_reducible rfl
                         rotate_left
                         ·simp only [Act.put, List.setIfInBounds_toArray, List.set_cons_zero, List.set_cons_succ, i64_w, i32_w]
                          rfl
                         refine pure_ (i := 36) (N := some 106) (v := ?_) (a' := ?_) #[true, true, true, true, true, true, true, true, true, true, true, true, true, true, true, true, true, true, true, true, true, true, true, true, true, true, true, true, true, true, true, true, true, true, true, true, true, false, false, false, false, false, false, false, false, false, false, false, false, false, false, false, false, false, false, false, false, false, false, false, false, false, false, false, false, false, false, false, false, false, false, false, false, false, false, false, false, false, false, false, false, false, false, false, false, false, false, false, false, false, false, false, false] rfl rfl (any_of HT_.out (by kernel_rfl)) (fun _ _ _ h => h) (Or.inl ⟨by rfl, ?_⟩) ?_ ?_
                         rotate_left
                         ·intro w'
                          go_simp
                          with_reducible rfl
                         rotate_left
                         ·simp only [Act.put, List.setIfInBounds_toArray, List.set_cons_zero, List.set_cons_succ, i64_w, i32_w]
                          rfl
                         refine one_ (i := 37) (N := some 107) #[true, true, true, true, true, true, true, true, true, true, true, true, true, true, true, true, true, true, true, true, true, true, true, true, true, true, true, true, true, true, true, true, true, true, true, true, true, true, false, false, false, false, false, false, false, false, false, false, false, false, false, false, false, false, false, false, false, false, false, false, false, false, false, false, false, false, false, false, false, false, false, false, false, false, false, false, false, false, false, false, false, false, false, false, false, false, false, false, false, false, false, false, false] rfl rfl (one_of HT_.out (by kernel_rfl)) (by decide) (fun K hK => ?_)
                         have hcv70 := own_string (P := Try.prog) Try.underlying22 Try.underlying5 Try.underlying9 (Kd.own_of_R HO_9.out)
                         refine value_ (w1 := ?_) (v := ?_) (by rfl) rfl ?_ ?_
                         rotate_left 2
                         ·go_simp
                          constructor
                          ·rfl
                          ·rfl
                         clear hcv70
                         refine hK.out _ _ ⟨hHeld.1, hHeld.2.1, hHeld.2.2.1, hHeld.2.2.2.1, hHeld.2.2.2.2.1, hHeld.2.2.2.2.2.1, hHeld.2.2.2.2.2.2.1, hHeld.2.2.2.2.2.2.2.1, hHeld.2.2.2.2.2.2.2.2.1, hHeld.2.2.2.2.2.2.2.2.2.1, hHeld.2.2.2.2.2.2.2.2.2.2.1, hHeld.2.2.2.2.2.2.2.2.2.2.2.1, hHeld.2.2.2.2.2.2.2.2.2.2.2.2.1, hHeld.2.2.2.2.2.2.2.2.2.2.2.2.2.1, hHeld.2.2.2.2.2.2.2.2.2.2.2.2.2.2.1, hHeld.2.2.2.2.2.2.2.2.2.2.2.2.2.2.2.1, hHeld.2.2.2.2.2.2.2.2.2.2.2.2.2.2.2.2.1, hHeld.2.2.2.2.2.2.2.2.2.2.2.2.2.2.2.2.2.1, hHeld.2.2.2.2.2.2.2.2.2.2.2.2.2.2.2.2.2.2.1, hHeld.2.2.2.2.2.2.2.2.2.2.2.2.2.2.2.2.2.2.2.1, hHeld.2.2.2.2.2.2.2.2.2.2.2.2.2.2.2.2.2.2.2.2.1, hHeld.2.2.2.2.2.2.2.2.2.2.2.2.2.2.2.2.2.2.2.2.2⟩ (fun hHeld => ?_)
                         clear hK K
                         refine norm_ (a' := ?_) ?_ ?_
                         rotate_left
                         ·show Act.put _ (some 107) _ = _
                          simp only [Act.put, List.setIfInBounds_toArray, List.set_cons_zero, List.set_cons_succ, i64_w, i32_w]
                          rfl
                         refine pure_ (i := 38) (N := some 108) (v := ?_) (a' := ?_) #[true, true, true, true, true, true, true, true, true, true, true, true, true, true, true, true, true, true, true, true, true, true, true, true, true, true, true, true, true, true, true, true, true, true, true, true, true, true, true, false, false, false, false, false, false, false, false, false, false, false, false, false, false, false, false, false, false, false, false, false, false, false, false, false, false, false, false, false, false, false, false, false, false, false, false, false, false, false, false, false, false, false, false, false, false, false, false, false, false, false, false, false, false] rfl rfl (any_of HT_.out (by kernel_rfl)) (fun _ _ _ h => h) (Or.inl ⟨by rfl, ?_⟩) ?_ ?_
                         rotate_left
                         ·intro w'
                          go_simp
                          with_reducible rfl
                         rotate_left
                         ·simp only [Act.put, List.setIfInBounds_toArray, List.set_cons_zero, List.set_cons_succ, i64_w, i32_w]
                          rfl
                         refine pure_ (i := 39) (N := some 109) (v := ?_) (a' := ?_) #[true, true, true, true, true, true, true, true, true, true, true, true, true, true, true, true, true, true, true, true, true, true, true, true, true, true, true, true, true, true, true, true, true, true, true, true, true, true, true, true, false, false, false, false, false, false, false, false, false, false, false, false, false, false, false, false, false, false, false, false, false, false, false, false, false, false, false, false, false, false, false, false, false, false, false, false, false, false, false, false, false, false, false, false, false, false, false, false, false, false, false, false, false] rfl rfl (any_of HT_.out (by kernel_rfl)) (fun _ _ _ h => h) (Or.inl ⟨by rfl, ?_⟩) ?_ ?_
                         rotate_left
                         ·intro w'
                          go_simp
                          with_reducible rfl
                         rotate_left
                         ·simp only [Act.put, List.setIfInBounds_toArray, List.set_cons_zero, List.set_cons_succ, i64_w, i32_w]
                          rfl
                         refine pure_ (i := 40) (N := some 110) (v := ?_) (a' := ?_) #[true, true, true, true, true, true, true, true, true, true, true, true, true, true, true, true, true, true, true, true, true, true, true, true, true, true, true, true, true, true, true, true, true, true, true, true, true, true, true, true, true, false, false, false, false, false, false, false, false, false, false, false, false, false, false, false, false, false, false, false, false, false, false, false, false, false, false, false, false, false, false, false, false, false, false, false, false, false, false, false, false, false, false, false, false, false, false, false, false, false, false, false, false] rfl rfl (any_of HT_.out (by kernel_rfl)) (fun _ _ _ h => h) (Or.inl ⟨by rfl, ?_⟩) ?_ ?_
                         rotate_left
                         ·intro w'
                          go_simp
                          with_reducible rfl
                         rotate_left
                         ·simp only [Act.put, List.setIfInBounds_toArray, List.set_cons_zero, List.set_cons_succ, i64_w, i32_w]
                          rfl
                         refine pure_ (i := 41) (N := some 111) (v := ?_) (a' := ?_) #[true, true, true, true, true, true, true, true, true, true, true, true, true, true, true, true, true, true, true, true, true, true, true, true, true, true, true, true, true, true, true, true, true, true, true, true, true, true, true, true, true, true, false, false, false, false, false, false, false, false, false, false, false, false, false, false, false, false, false, false, false, false, false, false, false, false, false, false, false, false, false, false, false, false, false, false, false, false, false, false, false, false, false, false, false, false, false, false, false, false, false, false, false] rfl rfl (any_of HT_.out (by kernel_rfl)) (fun _ _ _ h => h) (Or.inl ⟨by rfl, ?_⟩) ?_ ?_
                         rotate_left
                         ·intro w'
                          go_simp
                          with_reducible rfl
                         rotate_left
                         ·simp only [Act.put, List.setIfInBounds_toArray, List.set_cons_zero, List.set_cons_succ, i64_w, i32_w]
                          rfl
                         refine pure_ (i := 42) (N := some 112) (v := ?_) (a' := ?_) #[true, true, true, true, true, true, true, true, true, true, true, true, true, true, true, true, true, true, true, true, true, true, true, true, true, true, true, true, true, true, true, true, true, true, true, true, true, true, true, true, true, true, true, false, false, false, false, false, false, false, false, false, false, false, false, false, false, false, false, false, false, false, false, false, false, false, false, false, false, false, false, false, false, false, false, false, false, false, false, false, false, false, false, false, false, false, false, false, false, false, false, false, false] rfl rfl (any_of HT_.out (by kernel_rfl)) (fun _ _ _ h => h) (Or.inl ⟨by rfl, ?_⟩) ?_ ?_
                         rotate_left
                         ·intro w'
                          go_simp
                          with_reducible rfl
                         rotate_left
                         ·simp only [Act.put, List.setIfInBounds_toArray, List.set_cons_zero, List.set_cons_succ, i64_w, i32_w]
                          rfl
                         refine one_ (i := 43) (N := some 113) #[true, true, true, true, true, true, true, true, true, true, true, true, true, true, true, true, true, true, true, true, true, true, true, true, true, true, true, true, true, true, true, true, true, true, true, true, true, true, true, true, true, true, true, true, false, false, false, false, false, false, false, false, false, false, false, false, false, false, false, false, false, false, false, false, false, false, false, false, false, false, false, false, false, false, false, false, false, false, false, false, false, false, false, false, false, false, false, false, false, false, false, false, false] rfl rfl (one_of HT_.out (by kernel_rfl)) (by decide) (fun K hK => ?_)
                         refine goes_ Try.func18 (by kernel_rfl) rfl #[.slice Ao71 t227.length co71, .slice Ao24 t191.length co24] (by rfl) rfl rfl (by (try simp only [List.map_toArray, List.map_cons, List.map_nil]); first | done | rfl | (simp only [List.length_drop, List.length_take]; rfl)) ?_
                         with_reducible refine (schema_Same.calls kj10 _ _ t227 _ _ t191 true _ ?side1 ?side2 ?side3 ?side4 A51.out).mono ?_
                         (case side1 => repeat (first | exact (Kd.R_reads' HO_11.out).2.2 | (with_reducible refine Kd.C_alloc ?_ _) | (with_reducible refine Kd.C_drewN ?_ _) | (with_reducible refine Kd.C_drew ?_)))
                         (case side2 => exact (Kd.R_reads' HO_11.out).2.1)
                         (case side3 => repeat (first | exact (Kd.R_reads' HO_1.out).2.2 | (with_reducible refine Kd.C_alloc ?_ _) | (with_reducible refine Kd.C_drewN ?_ _) | (with_reducible refine Kd.C_drew ?_)))
                         (case side4 => exact (Kd.R_reads' HO_1.out).2.1)
                         rintro e w' ⟨rfl, ⟨nd, rfl⟩⟩
                         refine ⟨_, rfl, ?_⟩
                         have q72 : (2 : Int) ≤ ((y206.length : Int) : Int) := of_decide_eq_true (by first | (with_reducible assumption) | assumption)
                         obtain ⟨i072, hi072, _, hsz72, _⟩ := info_parts info44
                         have hroom72 : y206.length ≤ co20 := (Kd.R_reads' HO_2.out).2.1
                         have hC72 : Kd.F k44 _ _ (some ad256) y206.length y206 := (Kd.V_at (base := w.heap.size) (Kd.R_V (Kd.R_apart' (Kd.R_apart' (Kd.R_apart' (Kd.R_apart' (HO_2.out) (Kd.R_typed HO_1.out) (by decide)) (Kd.N_typed HO_3.out) (by decide)) (Kd.R_typed HO_9.out) (by decide)) (Kd.R_typed HO_11.out) (by decide)))).2.2
                         have hcut72 := cut_to (P := Try.prog) 48 44 .i64 Try.underlying48 hi072 (some ad256) y206.length co20 2 (by omega) q72 hroom72
                         have hr72 := Kd.F_take (m := 2) hC72 (by omega)
                         have hy72 : y250.length = (2 : Int).toNat := (by rw [Ny250.out, List.length_take]; omega)
                         rw [← Ny250.out] at hr72
                         rw [← hy72] at hcut72
                         have HO254 := Aside0.mk (show Kd.V k44 44 _ w.heap.size _ (.slice (some ad256) y250.length co20) y250 from Kd.V_mk (by omega) hr72)
                         have HC254 := Aside0.mk (show y250.length ≤ co20 from by omega)
                         clear hr72 hC72 hroom72 hi072 hsz72
                         have KY72 := Aside0.mk hy72
                         clear hy72
                         replace q72 := eq_true q72
                         refine hK.out _ _ ⟨hHeld.1, hHeld.2.1, hHeld.2.2.1, hHeld.2.2.2.1, hHeld.2.2.2.2.1, hHeld.2.2.2.2.2.1, hHeld.2.2.2.2.2.2.1, hHeld.2.2.2.2.2.2.2.1, hHeld.2.2.2.2.2.2.2.2.1, hHeld.2.2.2.2.2.2.2.2.2.1, hHeld.2.2.2.2.2.2.2.2.2.2.1, hHeld.2.2.2.2.2.2.2.2.2.2.2.1, hHeld.2.2.2.2.2.2.2.2.2.2.2.2.1, hHeld.2.2.2.2.2.2.2.2.2.2.2.2.2.1, hHeld.2.2.2.2.2.2.2.2.2.2.2.2.2.2.1, hHeld.2.2.2.2.2.2.2.2.2.2.2.2.2.2.2.1, hHeld.2.2.2.2.2.2.2.2.2.2.2.2.2.2.2.2.1, hHeld.2.2.2.2.2.2.2.2.2.2.2.2.2.2.2.2.2.1, hHeld.2.2.2.2.2.2.2.2.2.2.2.2.2.2.2.2.2.2.1, hHeld.2.2.2.2.2.2.2.2.2.2.2.2.2.2.2.2.2.2.2.1, hHeld.2.2.2.2.2.2.2.2.2.2.2.2.2.2.2.2.2.2.2.2.1, hHeld.2.2.2.2.2.2.2.2.2.2.2.2.2.2.2.2.2.2.2.2.2⟩ (fun hHeld => ?_)
                         clear hK K
                         refine norm_ (a' := ?_) ?_ ?_
                         rotate_left
                         ·show Act.put _ (some 113) _ = _
                          simp only [Act.put, List.setIfInBounds_toArray, List.set_cons_zero, List.set_cons_succ, i64_w, i32_w]
                          rfl
                         refine pure_ (i := 44) (N := some 114) (v := ?_) (a' := ?_) #[true, true, true, true, true, true, true, true, true, true, true, true, true, true, true, true, true, true, true, true, true, true, true, true, true, true, true, true, true, true, true, true, true, true, true, true, true, true, true, true, true, true, true, true, true, false, false, false, false, false, false, false, false, false, false, false, false, false, false, false, false, false, false, false, false, false, false, false, false, false, false, false, false, false, false, false, false, false, false, false, false, false, false, false, false, false, false, false, false, false, false, false, false] rfl rfl (any_of HT_.out (by kernel_rfl)) (fun _ _ _ h => h) (Or.inl ⟨by rfl, ?_⟩) ?_ ?_
                         rotate_left
                         ·intro w'
                          go_simp
                          with_reducible rfl
                         rotate_left
                         ·simp only [Act.put, List.setIfInBounds_toArray, List.set_cons_zero, List.set_cons_succ, i64_w, i32_w]
                          rfl
                         refine pure_ (i := 45) (N := some 115) (v := ?_) (a' := ?_) #[true, true, true, true, true, true, true, true, true, true, true, true, true, true, true, true, true, true, true, true, true, true, true, true, true, true, true, true, true, true, true, true, true, true, true, true, true, true, true, true, true, true, true, true, true, true, false, false, false, false, false, false, false, false, false, false, false, false, false, false, false, false, false, false, false, false, false, false, false, false, false, false, false, false, false, false, false, false, false, false, false, false, false, false, false, false, false, false, false, false, false, false, false] rfl rfl (any_of HT_.out (by kernel_rfl)) (fun _ _ _ h => h) (Or.inl ⟨by rfl, ?_⟩) ?_ ?_
                         rotate_left
                         ·intro w'
                          go_simp
                          with_reducible rfl
                         rotate_left
                         ·simp only [Act.put, List.setIfInBounds_toArray, List.set_cons_zero, List.set_cons_succ, i64_w, i32_w]
                          rfl
                         refine pure_ (i := 46) (N := some 116) (v := ?_) (a' := ?_) #[true, true, true, true, true, true, true, true, true, true, true, true, true, true, true, true, true, true, true, true, true, true, true, true, true, true, true, true, true, true, true, true, true, true, true, true, true, true, true, true, true, true, true, true, true, true, true, false, false, false, false, false, false, false, false, false, false, false, false, false, false, false, false, false, false, false, false, false, false, false, false, false, false, false, false, false, false, false, false, false, false, false, false, false, false, false, false, false, false, false, false, false, false] rfl rfl (any_of HT_.out (by kernel_rfl)) (fun _ _ _ h => h) (Or.inl ⟨by rfl, ?_⟩) ?_ ?_
                         rotate_left
                         ·intro w'
                          go_simp
                          with_reducible rfl
                         rotate_left
                         ·simp only [Act.put, List.setIfInBounds_toArray, List.set_cons_zero, List.set_cons_succ, i64_w, i32_w]
                          rfl
                         refine pure_ (i := 47) (N := some 117) (v := ?_) (a' := ?_) #[true, true, true, true, true, true, true, true, true, true, true, true, true, true, true, true, true, true, true, true, true, true, true, true, true, true, true, true, true, true, true, true, true, true, true, true, true, true, true, true, true, true, true, true, true, true, true, true, false, false, false, false, false, false, false, false, false, false, false, false, false, false, false, false, false, false, false, false, false, false, false, false, false, false, false, false, false, false, false, false, false, false, false, false, false, false, false, false, false, false, false, false, false] rfl rfl (any_of HT_.out (by kernel_rfl)) (fun _ _ _ h => h) (Or.inl ⟨by rfl, ?_⟩) ?_ ?_
                         rotate_left
                         ·intro w'
                          go_simp
                          with_reducible rfl
                         rotate_left
                         ·simp only [Act.put, List.setIfInBounds_toArray, List.set_cons_zero, List.set_cons_succ, i64_w, i32_w]
                          rfl
                         refine pure_ (i := 48) (N := some 118) (v := ?_) (a' := ?_) #[true, true, true, true, true, true, true, true, true, true, true, true, true, true, true, true, true, true, true, true, true, true, true, true, true, true, true, true, true, true, true, true, true, true, true, true, true, true, true, true, true, true, true, true, true, true, true, true, true, false, false, false, false, false, false, false, false, false, false, false, false, false, false, false, false, false, false, false, false, false, false, false, false, false, false, false, false, false, false, false, false, false, false, false, false, false, false, false, false, false, false, false, false] rfl rfl (any_of HT_.out (by kernel_rfl)) (fun _ _ _ h => h) (Or.inl ⟨by rfl, ?_⟩) ?_ ?_
                         rotate_left
                         ·intro w'
                          go_simp
                          with_reducible rfl
                         rotate_left
                         ·simp only [Act.put, List.setIfInBounds_toArray, List.set_cons_zero, List.set_cons_succ, i64_w, i32_w]
                          rfl
                         refine pure_ (i := 49) (N := some 119) (v := ?_) (a' := ?_) #[true, true, true, true, true, true, true, true, true, true, true, true, true, true, true, true, true, true, true, true, true, true, true, true, true, true, true, true, true, true, true, true, true, true, true, true, true, true, true, true, true, true, true, true, true, true, true, true, true, true, false, false, false, false, false, false, false, false, false, false, false, false, false, false, false, false, false, false, false, false, false, false, false, false, false, false, false, false, false, false, false, false, false, false, false, false, false, false, false, false, false, false, false] rfl rfl (any_of HT_.out (by kernel_rfl)) (fun _ _ _ h => h) (Or.inl ⟨by rfl, ?_⟩) ?_ ?_
                         rotate_left
                         ·intro w'
                          go_simp
                          with_reducible rfl
                         rotate_left
                         ·simp only [Act.put, List.setIfInBounds_toArray, List.set_cons_zero, List.set_cons_succ, i64_w, i32_w]
                          rfl
                         refine pure_ (i := 50) (N := some 120) (v := ?_) (a' := ?_) #[true, true, true, true, true, true, true, true, true, true, true, true, true, true, true, true, true, true, true, true, true, true, true, true, true, true, true, true, true, true, true, true, true, true, true, true, true, true, true, true, true, true, true, true, true, true, true, true, true, true, true, false, false, false, false, false, false, false, false, false, false, false, false, false, false, false, false, false, false, false, false, false, false, false, false, false, false, false, false, false, false, false, false, false, false, false, false, false, false, false, false, false, false] rfl rfl (any_of HT_.out (by kernel_rfl)) (fun _ _ _ h => h) (Or.inl ⟨by rfl, ?_⟩) ?_ ?_
                         rotate_left
                         ·intro w'
                          go_simp
                          with_reducible rfl
                         rotate_left
                         ·simp only [Act.put, List.setIfInBounds_toArray, List.set_cons_zero, List.set_cons_succ, i64_w, i32_w]
                          rfl
                         refine pure_ (i := 51) (N := some 121) (v := ?_) (a' := ?_) #[true, true, true, true, true, true, true, true, true, true, true, true, true, true, true, true, true, true, true, true, true, true, true, true, true, true, true, true, true, true, true, true, true, true, true, true, true, true, true, true, true, true, true, true, true, true, true, true, true, true, true, true, false, false, false, false, false, false, false, false, false, false, false, false, false, false, false, false, false, false, false, false, false, false, false, false, false, false, false, false, false, false, false, false, false, false, false, false, false, false, false, false, false] rfl rfl (any_of HT_.out (by kernel_rfl)) (fun _ _ _ h => h) (Or.inl ⟨by rfl, ?_⟩) ?_ ?_
                         rotate_left
                         ·intro w'
                          go_simp
                          with_reducible rfl
                         rotate_left
                         ·simp only [Act.put, List.setIfInBounds_toArray, List.set_cons_zero, List.set_cons_succ, i64_w, i32_w]
                          rfl
                         refine pure_ (i := 52) (N := some 122) (v := ?_) (a' := ?_) #[true, true, true, true, true, true, true, true, true, true, true, true, true, true, true, true, true, true, true, true, true, true, true, true, true, true, true, true, true, true, true, true, true, true, true, true, true, true, true, true, true, true, true, true, true, true, true, true, true, true, true, true, true, false, false, false, false, false, false, false, false, false, false, false, false, false, false, false, false, false, false, false, false, false, false, false, false, false, false, false, false, false, false, false, false, false, false, false, false, false, false, false, false] rfl rfl (any_of HT_.out (by kernel_rfl)) (fun _ _ _ h => h) (Or.inl ⟨by rfl, ?_⟩) ?_ ?_
                         rotate_left
                         ·intro w'
                          go_simp
                          with_reducible rfl
                         rotate_left
                         ·simp only [Act.put, List.setIfInBounds_toArray, List.set_cons_zero, List.set_cons_succ, i64_w, i32_w]
                          rfl
                         refine pure_ (i := 53) (N := some 123) (v := ?_) (a' := ?_) #[true, true, true, true, true, true, true, true, true, true, true, true, true, true, true, true, true, true, true, true, true, true, true, true, true, true, true, true, true, true, true, true, true, true, true, true, true, true, true, true, true, true, true, true, true, true, true, true, true, true, true, true, true, true, false, false, false, false, false, false, false, false, false, false, false, false, false, false, false, false, false, false, false, false, false, false, false, false, false, false, false, false, false, false, false, false, false, false, false, false, false, false, false] rfl rfl (any_of HT_.out (by kernel_rfl)) (fun _ _ _ h => h) (Or.inl ⟨by rfl, ?_⟩) ?_ ?_
                         rotate_left
                         ·intro w'
                          go_simp
                          with_reducible rfl
                         rotate_left
                         ·simp only [Act.put, List.setIfInBounds_toArray, List.set_cons_zero, List.set_cons_succ, i64_w, i32_w]
                          rfl
                         refine pure_ (i := 54) (N := some 124) (v := ?_) (a' := ?_) #[true, true, true, true, true, true, true, true, true, true, true, true, true, true, true, true, true, true, true, true, true, true, true, true, true, true, true, true, true, true, true, true, true, true, true, true, true, true, true, true, true, true, true, true, true, true, true, true, true, true, true, true, true, true, true, false, false, false, false, false, false, false, false, false, false, false, false, false, false, false, false, false, false, false, false, false, false, false, false, false, false, false, false, false, false, false, false, false, false, false, false, false, false] rfl rfl (any_of HT_.out (by kernel_rfl)) (fun _ _ _ h => h) (Or.inl ⟨by rfl, ?_⟩) ?_ ?_
                         rotate_left
                         ·intro w'
                          go_simp
                          with_reducible rfl
                         rotate_left
                         ·simp only [Act.put, List.setIfInBounds_toArray, List.set_cons_zero, List.set_cons_succ, i64_w, i32_w]
                          rfl
                         refine pure_ (i := 55) (N := some 125) (v := ?_) (a' := ?_) #[true, true, true, true, true, true, true, true, true, true, true, true, true, true, true, true, true, true, true, true, true, true, true, true, true, true, true, true, true, true, true, true, true, true, true, true, true, true, true, true, true, true, true, true, true, true, true, true, true, true, true, true, true, true, true, true, false, false, false, false, false, false, false, false, false, false, false, false, false, false, false, false, false, false, false, false, false, false, false, false, false, false, false, false, false, false, false, false, false, false, false, false, false] rfl rfl (any_of HT_.out (by kernel_rfl)) (fun _ _ _ h => h) (Or.inl ⟨by rfl, ?_⟩) ?_ ?_
                         rotate_left
                         ·intro w'
                          go_simp
                          with_reducible rfl
                         rotate_left
                         ·simp only [Act.put, List.setIfInBounds_toArray, List.set_cons_zero, List.set_cons_succ, i64_w, i32_w]
                          rfl
                         refine pure_ (i := 56) (N := some 126) (v := ?_) (a' := ?_) #[true, true, true, true, true, true, true, true, true, true, true, true, true, true, true, true, true, true, true, true, true, true, true, true, true, true, true, true, true, true, true, true, true, true, true, true, true, true, true, true, true, true, true, true, true, true, true, true, true, true, true, true, true, true, true, true, true, false, false, false, false, false, false, false, false, false, false, false, false, false, false, false, false, false, false, false, false, false, false, false, false, false, false, false, false, false, false, false, false, false, false, false, false] rfl rfl (any_of HT_.out (by kernel_rfl)) (fun _ _ _ h => h) (Or.inl ⟨by rfl, ?_⟩) ?_ ?_
                         rotate_left
                         ·intro w'
                          go_simp
                          with_reducible rfl
                         rotate_left
                         ·simp only [Act.put, List.setIfInBounds_toArray, List.set_cons_zero, List.set_cons_succ, i64_w, i32_w]
                          rfl
                         refine one_ (i := 57) (N := some 127) #[true, true, true, true, true, true, true, true, true, true, true, true, true, true, true, true, true, true, true, true, true, true, true, true, true, true, true, true, true, true, true, true, true, true, true, true, true, true, true, true, true, true, true, true, true, true, true, true, true, true, true, true, true, true, true, true, true, true, false, false, false, false, false, false, false, false, false, false, false, false, false, false, false, false, false, false, false, false, false, false, false, false, false, false, false, false, false, false, false, false, false, false, false] rfl rfl (one_of HT_.out (by kernel_rfl)) (by decide) (fun K hK => ?_)
                         refine goes_ Try.func19 (by kernel_rfl) rfl #[.slice Ao24 t191.length co24, .slice (some ad256) y250.length co20] (by rfl) rfl rfl (by (try simp only [List.map_toArray, List.map_cons, List.map_nil]); first | done | rfl | (simp only [List.length_drop, List.length_take]; rfl)) ?_
                         with_reducible refine (schema_Row.calls kj10 _ _ t191 _ _ y250 t255 _ ?side1 ?side2 ?side3 ?side4 A56.out).mono ?_
                         (case side1 => repeat (first | exact (Kd.R_reads' HO_1.out).2.2 | (with_reducible refine Kd.C_alloc ?_ _) | (with_reducible refine Kd.C_drewN ?_ _) | (with_reducible refine Kd.C_drew ?_)))
                         (case side2 => exact (Kd.R_reads' HO_1.out).2.1)
                         (case side3 => repeat (first | exact (Kd.V_reads' HO254.out).2.2 | (with_reducible refine Kd.C_alloc ?_ _) | (with_reducible refine Kd.C_drewN ?_ _) | (with_reducible refine Kd.C_drew ?_)))
                         (case side4 => exact (Kd.V_reads' HO254.out).2.1)
                         rintro e w73 ⟨rfl, hb⟩
                         have HS0_ := (hb.cell (World.block_lt_of_cell? _ _ (hHeld.1))).trans (hHeld.1)
                         have HS1_ := (hb.cell (World.block_lt_of_cell? _ _ (hHeld.2.1))).trans (hHeld.2.1)
                         have HS2_ := (hb.cell (World.block_lt_of_cell? _ _ (hHeld.2.2.1))).trans (hHeld.2.2.1)
                         have HS3_ := (hb.cell (World.block_lt_of_cell? _ _ (hHeld.2.2.2.1))).trans (hHeld.2.2.2.1)
                         have HS4_ := (hb.cell (World.block_lt_of_cell? _ _ (hHeld.2.2.2.2.1))).trans (hHeld.2.2.2.2.1)
                         have HS5_ := (hb.cell (World.block_lt_of_cell? _ _ (hHeld.2.2.2.2.2.1))).trans (hHeld.2.2.2.2.2.1)
                         have HS6_ := (hb.cell (World.block_lt_of_cell? _ _ (hHeld.2.2.2.2.2.2.1))).trans (hHeld.2.2.2.2.2.2.1)
                         have HS7_ := (hb.cell (World.block_lt_of_cell? _ _ (hHeld.2.2.2.2.2.2.2.1))).trans (hHeld.2.2.2.2.2.2.2.1)
                         have HS8_ := (hb.cell (World.block_lt_of_cell? _ _ (hHeld.2.2.2.2.2.2.2.2.1))).trans (hHeld.2.2.2.2.2.2.2.2.1)
                         have HS9_ := (hb.cell (World.block_lt_of_cell? _ _ (hHeld.2.2.2.2.2.2.2.2.2.1))).trans (hHeld.2.2.2.2.2.2.2.2.2.1)
                         have HS10_ := (hb.cell (World.block_lt_of_cell? _ _ (hHeld.2.2.2.2.2.2.2.2.2.2.1))).trans (hHeld.2.2.2.2.2.2.2.2.2.2.1)
                         have HS11_ := (hb.cell (World.block_lt_of_cell? _ _ (hHeld.2.2.2.2.2.2.2.2.2.2.2.1))).trans (hHeld.2.2.2.2.2.2.2.2.2.2.2.1)
                         have HS12_ := (hb.cell (World.block_lt_of_cell? _ _ (hHeld.2.2.2.2.2.2.2.2.2.2.2.2.1))).trans (hHeld.2.2.2.2.2.2.2.2.2.2.2.2.1)
                         have HS13_ := (hb.cell (World.block_lt_of_cell? _ _ (hHeld.2.2.2.2.2.2.2.2.2.2.2.2.2.1))).trans (hHeld.2.2.2.2.2.2.2.2.2.2.2.2.2.1)
                         have HS14_ := (hb.cell (World.block_lt_of_cell? _ _ (hHeld.2.2.2.2.2.2.2.2.2.2.2.2.2.2.1))).trans (hHeld.2.2.2.2.2.2.2.2.2.2.2.2.2.2.1)
                         have HS15_ := (hb.cell (World.block_lt_of_cell? _ _ (hHeld.2.2.2.2.2.2.2.2.2.2.2.2.2.2.2.1))).trans (hHeld.2.2.2.2.2.2.2.2.2.2.2.2.2.2.2.1)
                         have HS16_ := (hb.cell (World.block_lt_of_cell? _ _ (hHeld.2.2.2.2.2.2.2.2.2.2.2.2.2.2.2.2.1))).trans (hHeld.2.2.2.2.2.2.2.2.2.2.2.2.2.2.2.2.1)
                         have HS17_ := (hb.cell (World.block_lt_of_cell? _ _ (hHeld.2.2.2.2.2.2.2.2.2.2.2.2.2.2.2.2.2.1))).trans (hHeld.2.2.2.2.2.2.2.2.2.2.2.2.2.2.2.2.2.1)
                         have HS18_ := (hb.cell (World.block_lt_of_cell? _ _ (hHeld.2.2.2.2.2.2.2.2.2.2.2.2.2.2.2.2.2.2.1))).trans (hHeld.2.2.2.2.2.2.2.2.2.2.2.2.2.2.2.2.2.2.1)
                         have HS19_ := (hb.cell (World.block_lt_of_cell? _ _ (hHeld.2.2.2.2.2.2.2.2.2.2.2.2.2.2.2.2.2.2.2.1))).trans (hHeld.2.2.2.2.2.2.2.2.2.2.2.2.2.2.2.2.2.2.2.1)
                         have HS20_ := (hb.cell (World.block_lt_of_cell? _ _ (hHeld.2.2.2.2.2.2.2.2.2.2.2.2.2.2.2.2.2.2.2.2.1))).trans (hHeld.2.2.2.2.2.2.2.2.2.2.2.2.2.2.2.2.2.2.2.2.1)
                         have HS21_ := (hb.cell (World.block_lt_of_cell? _ _ (hHeld.2.2.2.2.2.2.2.2.2.2.2.2.2.2.2.2.2.2.2.2.2))).trans (hHeld.2.2.2.2.2.2.2.2.2.2.2.2.2.2.2.2.2.2.2.2.2)
                         refine ⟨_, rfl, ?_⟩
                         have n0_ := Aside0.mk (Kd.R_below (by (with_reducible repeat (first | apply Kd.R_alloc | apply Kd.R_drewN | apply Kd.R_drew)); exact HO_1.out) hb)
                         have n1_ := Aside0.mk (Kd.R_below (by (with_reducible repeat (first | apply Kd.R_alloc | apply Kd.R_drewN | apply Kd.R_drew)); exact HO_2.out) hb)
                         have n2_ := Aside0.mk (Kd.N_below (by (with_reducible repeat (first | apply Kd.N_alloc | apply Kd.N_drewN | apply Kd.N_drew)); exact HO_3.out) hb)
                         have n3_ := Aside0.mk (Kd.R_below (by (with_reducible repeat (first | apply Kd.R_alloc | apply Kd.R_drewN | apply Kd.R_drew)); exact HO_9.out) hb)
                         have n4_ := Aside0.mk (Kd.R_below (by (with_reducible repeat (first | apply Kd.R_alloc | apply Kd.R_drewN | apply Kd.R_drew)); exact HO_11.out) hb)
                         have n5_ := Aside0.mk (Kd.V_below (by (with_reducible repeat (first | apply Kd.V_alloc | apply Kd.V_drewN | apply Kd.V_drew)); exact HL241_0.out) hb)
                         have n6_ := Aside0.mk (Kd.V_below (by (with_reducible repeat (first | apply Kd.V_alloc | apply Kd.V_drewN | apply Kd.V_drew)); exact HL247_0.out) hb)
                         have n7_ := Aside0.mk (Kd.V_below (by (with_reducible repeat (first | apply Kd.V_alloc | apply Kd.V_drewN | apply Kd.V_drew)); exact HO254.out) hb)
                         have n8_ := Aside0.mk (Kd.C_below (d := k44) (xs := rd_L7 t215 2) (A := (some ad242)) (n := (rd_L7 t215 2).length) (by repeat (first | (with_reducible exact HR241_0.out) | (with_reducible refine Kd.C_alloc ?_ _) | (with_reducible refine Kd.C_drewN ?_ _) | (with_reducible refine Kd.C_drew ?_) | exact HR241_0.out)) hb)
                         have n9_ := Aside0.mk (Kd.C_below (d := k44) (xs := rd_L7 t215 0) (A := (some ad248)) (n := (rd_L7 t215 0).length) (by repeat (first | (with_reducible exact HR247_0.out) | (with_reducible refine Kd.C_alloc ?_ _) | (with_reducible refine Kd.C_drewN ?_ _) | (with_reducible refine Kd.C_drew ?_) | exact HR247_0.out)) hb)
                         have n10_ := Aside0.mk (below_step (by repeat (first | (with_reducible first | exact HB.out | apply below_alloc | apply pw_below_drewN | apply below_drew1) | exact HB.out)) hb)
                         clear HO_1
                         clear HO_2
                         clear HO_3
                         clear HO_9
                         clear HO_11
                         clear HL241_0
                         clear HL247_0
                         clear HO254
                         clear HR241_0
                         clear HR247_0
                         clear HB
                         have HO_1 := n0_
                         have HO_2 := n1_
                         have HO_3 := n2_
                         have HO_9 := n3_
                         have HO_11 := n4_
                         have HL241_0 := n5_
                         have HL247_0 := n6_
                         have HO254 := n7_
                         have HR241_0 := n8_
                         have HR247_0 := n9_
                         have HB := n10_
                         clear n0_ n1_ n2_ n3_ n4_ n5_ n6_ n7_ n8_ n9_ n10_
                         (try clear hb)
                         (try clear hb2)
                         (try clear hk)
                         (try clear hi)
                         refine hK.out _ _ ⟨HS0_, HS1_, HS2_, HS3_, HS4_, HS5_, HS6_, HS7_, HS8_, HS9_, HS10_, HS11_, HS12_, HS13_, HS14_, HS15_, HS16_, HS17_, HS18_, HS19_, HS20_, HS21_⟩ (fun hHeld => ?_)
                         clear hK K
                         refine norm_ (a' := ?_) ?_ ?_
                         rotate_left
                         ·show Act.put _ (some 127) _ = _
                          simp only [Act.put, List.setIfInBounds_toArray, List.set_cons_zero, List.set_cons_succ, i64_w, i32_w]
                          rfl
                         refine pure_ (i := 58) (N := some 128) (v := ?_) (a' := ?_) #[true, true, true, true, true, true, true, true, true, true, true, true, true, true, true, true, true, true, true, true, true, true, true, true, true, true, true, true, true, true, true, true, true, true, true, true, true, true, true, true, true, true, true, true, true, true, true, true, true, true, true, true, true, true, true, true, true, true, true, false, false, false, false, false, false, false, false, false, false, false, false, false, false, false, false, false, false, false, false, false, false, false, false, false, false, false, false, false, false, false, false, false, false] rfl rfl (any_of HT_.out (by kernel_rfl)) (fun _ _ _ h => h) (Or.inl ⟨by rfl, ?_⟩) ?_ ?_
                         rotate_left
                         ·intro w'
                          go_simp
                          with_reducible rfl
                         rotate_left
                         ·simp only [Act.put, List.setIfInBounds_toArray, List.set_cons_zero, List.set_cons_succ, i64_w, i32_w]
                          rfl
                         refine pure_ (i := 59) (N := some 129) (v := ?_) (a' := ?_) #[true, true, true, true, true, true, true, true, true, true, true, true, true, true, true, true, true, true, true, true, true, true, true, true, true, true, true, true, true, true, true, true, true, true, true, true, true, true, true, true, true, true, true, true, true, true, true, true, true, true, true, true, true, true, true, true, true, true, true, true, false, false, false, false, false, false, false, false, false, false, false, false, false, false, false, false, false, false, false, false, false, false, false, false, false, false, false, false, false, false, false, false, false] rfl rfl (any_of HT_.out (by kernel_rfl)) (fun _ _ _ h => h) (Or.inl ⟨by rfl, ?_⟩) ?_ ?_
                         rotate_left
                         ·intro w'
                          go_simp
                          with_reducible rfl
                         rotate_left
                         ·simp only [Act.put, List.setIfInBounds_toArray, List.set_cons_zero, List.set_cons_succ, i64_w, i32_w]
                          rfl
                         refine pure_ (i := 60) (N := some 130) (v := ?_) (a' := ?_) #[true, true, true, true, true, true, true, true, true, true, true, true, true, true, true, true, true, true, true, true, true, true, true, true, true, true, true, true, true, true, true, true, true, true, true, true, true, true, true, true, true, true, true, true, true, true, true, true, true, true, true, true, true, true, true, true, true, true, true, true, true, false, false, false, false, false, false, false, false, false, false, false, false, false, false, false, false, false, false, false, false, false, false, false, false, false, false, false, false, false, false, false, false] rfl rfl (any_of HT_.out (by kernel_rfl)) (fun _ _ _ h => h) (Or.inl ⟨by rfl, ?_⟩) ?_ ?_
                         rotate_left
                         ·intro w'
                          go_simp
                          with_reducible rfl
                         rotate_left
                         ·simp only [Act.put, List.setIfInBounds_toArray, List.set_cons_zero, List.set_cons_succ, i64_w, i32_w]
                          rfl
                         refine pure_ (i := 61) (N := some 131) (v := ?_) (a' := ?_) #[true, true, true, true, true, true, true, true, true, true, true, true, true, true, true, true, true, true, true, true, true, true, true, true, true, true, true, true, true, true, true, true, true, true, true, true, true, true, true, true, true, true, true, true, true, true, true, true, true, true, true, true, true, true, true, true, true, true, true, true, true, true, false, false, false, false, false, false, false, false, false, false, false, false, false, false, false, false, false, false, false, false, false, false, false, false, false, false, false, false, false, false, false] rfl rfl (any_of HT_.out (by kernel_rfl)) (fun _ _ _ h => h) (Or.inl ⟨by rfl, ?_⟩) ?_ ?_
                         rotate_left
                         ·intro w'
                          go_simp
                          with_reducible rfl
                         rotate_left
                         ·simp only [Act.put, List.setIfInBounds_toArray, List.set_cons_zero, List.set_cons_succ, i64_w, i32_w]
                          rfl
                         refine pure_ (i := 62) (N := some 132) (v := ?_) (a' := ?_) #[true, true, true, true, true, true, true, true, true, true, true, true, true, true, true, true, true, true, true, true, true, true, true, true, true, true, true, true, true, true, true, true, true, true, true, true, true, true, true, true, true, true, true, true, true, true, true, true, true, true, true, true, true, true, true, true, true, true, true, true, true, true, true, false, false, false, false, false, false, false, false, false, false, false, false, false, false, false, false, false, false, false, false, false, false, false, false, false, false, false, false, false, false] rfl rfl (any_of HT_.out (by kernel_rfl)) (fun _ _ _ h => h) (Or.inl ⟨by rfl, ?_⟩) ?_ ?_
                         rotate_left
                         ·intro w'
                          go_simp
                          with_reducible rfl
                         rotate_left
                         ·simp only [Act.put, List.setIfInBounds_toArray, List.set_cons_zero, List.set_cons_succ, i64_w, i32_w]
                          rfl
                         refine pure_ (i := 63) (N := some 133) (v := ?_) (a' := ?_) #[true, true, true, true, true, true, true, true, true, true, true, true, true, true, true, true, true, true, true, true, true, true, true, true, true, true, true, true, true, true, true, true, true, true, true, true, true, true, true, true, true, true, true, true, true, true, true, true, true, true, true, true, true, true, true, true, true, true, true, true, true, true, true, true, false, false, false, false, false, false, false, false, false, false, false, false, false, false, false, false, false, false, false, false, false, false, false, false, false, false, false, false, false] rfl rfl (any_of HT_.out (by kernel_rfl)) (fun _ _ _ h => h) (Or.inl ⟨by rfl, ?_⟩) ?_ ?_
                         rotate_left
                         ·intro w'
                          go_simp
                          with_reducible rfl
                         rotate_left
                         ·simp only [Act.put, List.setIfInBounds_toArray, List.set_cons_zero, List.set_cons_succ, i64_w, i32_w]
                          rfl
                         refine pure_ (i := 65) (N := some 135) (v := ?_) (a' := ?_) #[true, true, true, true, true, true, true, true, true, true, true, true, true, true, true, true, true, true, true, true, true, true, true, true, true, true, true, true, true, true, true, true, true, true, true, true, true, true, true, true, true, true, true, true, true, true, true, true, true, true, true, true, true, true, true, true, true, true, true, true, true, true, true, true, false, true, false, false, false, false, false, false, false, false, false, false, false, false, false, false, false, false, false, false, false, false, false, false, false, false, false, false, false] rfl rfl (any_of HT_.out (by kernel_rfl)) (fun _ _ _ h => h) (Or.inl ⟨by rfl, ?_⟩) ?_ ?_
                         rotate_left
                         ·intro w'
                          go_simp
                          with_reducible rfl
                         rotate_left
                         ·simp only [Act.put, List.setIfInBounds_toArray, List.set_cons_zero, List.set_cons_succ, i64_w, i32_w]
                          rfl
                         refine pure_ (i := 66) (N := some 136) (v := ?_) (a' := ?_) #[true, true, true, true, true, true, true, true, true, true, true, true, true, true, true, true, true, true, true, true, true, true, true, true, true, true, true, true, true, true, true, true, true, true, true, true, true, true, true, true, true, true, true, true, true, true, true, true, true, true, true, true, true, true, true, true, true, true, true, true, true, true, true, true, false, true, true, false, false, false, false, false, false, false, false, false, false, false, false, false, false, false, false, false, false, false, false, false, false, false, false, false, false] rfl rfl (any_of HT_.out (by kernel_rfl)) (fun _ _ _ h => h) (Or.inl ⟨by rfl, ?_⟩) ?_ ?_
                         rotate_left
                         ·intro w'
                          go_simp
                          with_reducible rfl
                         rotate_left
                         ·simp only [Act.put, List.setIfInBounds_toArray, List.set_cons_zero, List.set_cons_succ, i64_w, i32_w]
                          rfl
                         refine pure_ (i := 68) (N := some 138) (v := ?_) (a' := ?_) #[true, true, true, true, true, true, true, true, true, true, true, true, true, true, true, true, true, true, true, true, true, true, true, true, true, true, true, true, true, true, true, true, true, true, true, true, true, true, true, true, true, true, true, true, true, true, true, true, true, true, true, true, true, true, true, true, true, true, true, true, true, true, true, true, false, true, true, false, true, false, false, false, false, false, false, false, false, false, false, false, false, false, false, false, false, false, false, false, false, false, false, false, false] rfl rfl (any_of HT_.out (by kernel_rfl)) (fun _ _ _ h => h) (Or.inl ⟨by rfl, ?_⟩) ?_ ?_
                         rotate_left
                         ·intro w'
                          go_simp
                          with_reducible rfl
                         rotate_left
                         ·simp only [Act.put, List.setIfInBounds_toArray, List.set_cons_zero, List.set_cons_succ, i64_w, i32_w]
                          rfl
                         refine pure_ (i := 69) (N := some 139) (v := ?_) (a' := ?_) #[true, true, true, true, true, true, true, true, true, true, true, true, true, true, true, true, true, true, true, true, true, true, true, true, true, true, true, true, true, true, true, true, true, true, true, true, true, true, true, true, true, true, true, true, true, true, true, true, true, true, true, true, true, true, true, true, true, true, true, true, true, true, true, true, false, true, true, false, true, true, false, false, false, false, false, false, false, false, false, false, false, false, false, false, false, false, false, false, false, false, false, false, false] rfl rfl (any_of HT_.out (by kernel_rfl)) (fun _ _ _ h => h) (Or.inl ⟨by rfl, ?_⟩) ?_ ?_
                         rotate_left
                         ·intro w'
                          go_simp
                          with_reducible rfl
                         rotate_left
                         ·simp only [Act.put, List.setIfInBounds_toArray, List.set_cons_zero, List.set_cons_succ, i64_w, i32_w]
                          rfl
                         refine take_ (i := 64) (N := some 134) (v := ?_) (a' := ?_) #[true, true, true, true, true, true, true, true, true, true, true, true, true, true, true, true, true, true, true, true, true, true, true, true, true, true, true, true, true, true, true, true, true, true, true, true, true, true, true, true, true, true, true, true, true, true, true, true, true, true, true, true, true, true, true, true, true, true, true, true, true, true, true, true, true, true, true, false, true, true, false, false, false, false, false, false, false, false, false, false, false, false, false, false, false, false, false, false, false, false, false, false, false] rfl rfl (take_ofW HT_.out HW_.out (by kernel_rfl)) (fun _ _ _ h => h) (Or.inl ⟨by rfl, ?_⟩) hHeld ?_ ?_
                         rotate_left
                         ·rintro w' ⟨s0, s1, s2, s3, s4, s5, s6, s7, s8, s9, s10, s11, s12, s13, s14, s15, s16, s17, s18, s19, s20, s21⟩
                          go_simp
                          with_reducible rfl
                         rotate_left
                         ·simp only [Act.put, List.setIfInBounds_toArray, List.set_cons_zero, List.set_cons_succ, i64_w, i32_w]
                          rfl
                         refine take_ (i := 67) (N := some 137) (v := ?_) (a' := ?_) #[true, true, true, true, true, true, true, true, true, true, true, true, true, true, true, true, true, true, true, true, true, true, true, true, true, true, true, true, true, true, true, true, true, true, true, true, true, true, true, true, true, true, true, true, true, true, true, true, true, true, true, true, true, true, true, true, true, true, true, true, true, true, true, true, true, true, true, true, true, true, false, false, false, false, false, false, false, false, false, false, false, false, false, false, false, false, false, false, false, false, false, false, false] rfl rfl (take_ofW HT_.out HW_.out (by kernel_rfl)) (fun _ _ _ h => h) (Or.inl ⟨by rfl, ?_⟩) hHeld ?_ ?_
                         rotate_left
                         ·rintro w' ⟨s0, s1, s2, s3, s4, s5, s6, s7, s8, s9, s10, s11, s12, s13, s14, s15, s16, s17, s18, s19, s20, s21⟩
                          go_simp
                          with_reducible rfl
                         rotate_left
                         ·simp only [Act.put, List.setIfInBounds_toArray, List.set_cons_zero, List.set_cons_succ, i64_w, i32_w]
                          rfl
                         refine take_ (i := 70) (N := some 140) (v := ?_) (a' := ?_) #[true, true, true, true, true, true, true, true, true, true, true, true, true, true, true, true, true, true, true, true, true, true, true, true, true, true, true, true, true, true, true, true, true, true, true, true, true, true, true, true, true, true, true, true, true, true, true, true, true, true, true, true, true, true, true, true, true, true, true, true, true, true, true, true, true, true, true, true, true, true, true, false, false, false, false, false, false, false, false, false, false, false, false, false, false, false, false, false, false, false, false, false, false] rfl rfl (take_ofW HT_.out HW_.out (by kernel_rfl)) (fun _ _ _ h => h) (Or.inl ⟨by rfl, ?_⟩) hHeld ?_ ?_
                         rotate_left
                         ·rintro w' ⟨s0, s1, s2, s3, s4, s5, s6, s7, s8, s9, s10, s11, s12, s13, s14, s15, s16, s17, s18, s19, s20, s21⟩
                          go_simp
                          with_reducible rfl
                         rotate_left
                         ·simp only [Act.put, List.setIfInBounds_toArray, List.set_cons_zero, List.set_cons_succ, i64_w, i32_w]
                          rfl
                         refine one_ (i := 71) (N := some 141) #[true, true, true, true, true, true, true, true, true, true, true, true, true, true, true, true, true, true, true, true, true, true, true, true, true, true, true, true, true, true, true, true, true, true, true, true, true, true, true, true, true, true, true, true, true, true, true, true, true, true, true, true, true, true, true, true, true, true, true, true, true, true, true, true, true, true, true, true, true, true, true, true, false, false, false, false, false, false, false, false, false, false, false, false, false, false, false, false, false, false, false, false, false] rfl rfl (one_of HT_.out (by kernel_rfl)) (by decide) (fun K hK => ?_)
                         refine Kd.R_lit_step k44 _ 44 ?hg (N := 141) ?hd (xs := ([(⟨(rd_T44 y206 1).f0, (rd_T44 y206 1).f1, (rd_T44 y206 1).f2, (rd_T44 y206 1).f3⟩ : S44), (⟨(rd_T44 y206 1).f0, (rd_T44 y206 1).f1, (rd_T44 y206 1).f2, (rd_T44 y206 1).f3⟩ : S44), (⟨(rd_T44 y206 2).f0, (rd_T44 y206 2).f1, (rd_T44 y206 2).f2, (rd_T44 y206 2).f3⟩ : S44)] : List (S44))) (inner := [.int .i64 ((rd_T44 y206 1).f0), .int .i64 ((rd_T44 y206 1).f1), .string ((rd_T44 y206 1).f2), .complex .f64 (((rd_T44 y206 1).f3).1) (((rd_T44 y206 1).f3).2), .int .i64 ((rd_T44 y206 1).f0), .int .i64 ((rd_T44 y206 1).f1), .string ((rd_T44 y206 1).f2), .complex .f64 (((rd_T44 y206 1).f3).1) (((rd_T44 y206 1).f3).2), .int .i64 ((rd_T44 y206 2).f0), .int .i64 ((rd_T44 y206 2).f1), .string ((rd_T44 y206 2).f2), .complex .f64 (((rd_T44 y206 2).f3).1) (((rd_T44 y206 2).f3).2)]) (ok := fun _ => True) (okp := fun _ => True) ?hr ?hp (fun _ hk => hk) trivial (Below.refl _ _) (Nat.le_refl _) (by simp) ?_; (case hd => rfl); (case hg => rfl); (case hr => first | (go_simp; done) | (go_simp; rfl)); (case hp => exact (Reps.c4 (show Kd.M k44 _ _ _ (⟨(rd_T44 y206 1).f0, (rd_T44 y206 1).f1, (rd_T44 y206 1).f2, (rd_T44 y206 1).f3⟩ : S44) [.int .i64 ((rd_T44 y206 1).f0), .int .i64 ((rd_T44 y206 1).f1), .string ((rd_T44 y206 1).f2), .complex .f64 (((rd_T44 y206 1).f3).1) (((rd_T44 y206 1).f3).2)] from (k44_mkM _ _ _ (⟨(rd_T44 y206 1).f0, (rd_T44 y206 1).f1, (rd_T44 y206 1).f2, (rd_T44 y206 1).f3⟩ : S44) )) (Reps.c4 (show Kd.M k44 _ _ _ (⟨(rd_T44 y206 1).f0, (rd_T44 y206 1).f1, (rd_T44 y206 1).f2, (rd_T44 y206 1).f3⟩ : S44) [.int .i64 ((rd_T44 y206 1).f0), .int .i64 ((rd_T44 y206 1).f1), .string ((rd_T44 y206 1).f2), .complex .f64 (((rd_T44 y206 1).f3).1) (((rd_T44 y206 1).f3).2)] from (k44_mkM _ _ _ (⟨(rd_T44 y206 1).f0, (rd_T44 y206 1).f1, (rd_T44 y206 1).f2, (rd_T44 y206 1).f3⟩ : S44) )) (Reps.c4 (show Kd.M k44 _ _ _ (⟨(rd_T44 y206 2).f0, (rd_T44 y206 2).f1, (rd_T44 y206 2).f2, (rd_T44 y206 2).f3⟩ : S44) [.int .i64 ((rd_T44 y206 2).f0), .int .i64 ((rd_T44 y206 2).f1), .string ((rd_T44 y206 2).f2), .complex .f64 (((rd_T44 y206 2).f3).1) (((rd_T44 y206 2).f3).2)] from (k44_mkM _ _ _ (⟨(rd_T44 y206 2).f0, (rd_T44 y206 2).f1, (rd_T44 y206 2).f2, (rd_T44 y206 2).f3⟩ : S44) )) (Reps.none _ _)))))
                         intro v260 w74 ho75 hb hg_ hnew_
                         have HS0_ := (hb.cell (World.block_lt_of_cell? _ _ (hHeld.1))).trans (hHeld.1)
                         have HS1_ := (hb.cell (World.block_lt_of_cell? _ _ (hHeld.2.1))).trans (hHeld.2.1)
                         have HS2_ := (hb.cell (World.block_lt_of_cell? _ _ (hHeld.2.2.1))).trans (hHeld.2.2.1)
                         have HS3_ := (hb.cell (World.block_lt_of_cell? _ _ (hHeld.2.2.2.1))).trans (hHeld.2.2.2.1)
                         have HS4_ := (hb.cell (World.block_lt_of_cell? _ _ (hHeld.2.2.2.2.1))).trans (hHeld.2.2.2.2.1)
                         have HS5_ := (hb.cell (World.block_lt_of_cell? _ _ (hHeld.2.2.2.2.2.1))).trans (hHeld.2.2.2.2.2.1)
                         have HS6_ := (hb.cell (World.block_lt_of_cell? _ _ (hHeld.2.2.2.2.2.2.1))).trans (hHeld.2.2.2.2.2.2.1)
                         have HS7_ := (hb.cell (World.block_lt_of_cell? _ _ (hHeld.2.2.2.2.2.2.2.1))).trans (hHeld.2.2.2.2.2.2.2.1)
                         have HS8_ := (hb.cell (World.block_lt_of_cell? _ _ (hHeld.2.2.2.2.2.2.2.2.1))).trans (hHeld.2.2.2.2.2.2.2.2.1)
                         have HS9_ := (hb.cell (World.block_lt_of_cell? _ _ (hHeld.2.2.2.2.2.2.2.2.2.1))).trans (hHeld.2.2.2.2.2.2.2.2.2.1)
                         have HS10_ := (hb.cell (World.block_lt_of_cell? _ _ (hHeld.2.2.2.2.2.2.2.2.2.2.1))).trans (hHeld.2.2.2.2.2.2.2.2.2.2.1)
                         have HS11_ := (hb.cell (World.block_lt_of_cell? _ _ (hHeld.2.2.2.2.2.2.2.2.2.2.2.1))).trans (hHeld.2.2.2.2.2.2.2.2.2.2.2.1)
                         have HS12_ := (hb.cell (World.block_lt_of_cell? _ _ (hHeld.2.2.2.2.2.2.2.2.2.2.2.2.1))).trans (hHeld.2.2.2.2.2.2.2.2.2.2.2.2.1)
                         have HS13_ := (hb.cell (World.block_lt_of_cell? _ _ (hHeld.2.2.2.2.2.2.2.2.2.2.2.2.2.1))).trans (hHeld.2.2.2.2.2.2.2.2.2.2.2.2.2.1)
                         have HS14_ := (hb.cell (World.block_lt_of_cell? _ _ (hHeld.2.2.2.2.2.2.2.2.2.2.2.2.2.2.1))).trans (hHeld.2.2.2.2.2.2.2.2.2.2.2.2.2.2.1)
                         have HS15_ := (hb.cell (World.block_lt_of_cell? _ _ (hHeld.2.2.2.2.2.2.2.2.2.2.2.2.2.2.2.1))).trans (hHeld.2.2.2.2.2.2.2.2.2.2.2.2.2.2.2.1)
                         have HS16_ := (hb.cell (World.block_lt_of_cell? _ _ (hHeld.2.2.2.2.2.2.2.2.2.2.2.2.2.2.2.2.1))).trans (hHeld.2.2.2.2.2.2.2.2.2.2.2.2.2.2.2.2.1)
                         have HS17_ := (hb.cell (World.block_lt_of_cell? _ _ (hHeld.2.2.2.2.2.2.2.2.2.2.2.2.2.2.2.2.2.1))).trans (hHeld.2.2.2.2.2.2.2.2.2.2.2.2.2.2.2.2.2.1)
                         have HS18_ := (hb.cell (World.block_lt_of_cell? _ _ (hHeld.2.2.2.2.2.2.2.2.2.2.2.2.2.2.2.2.2.2.1))).trans (hHeld.2.2.2.2.2.2.2.2.2.2.2.2.2.2.2.2.2.2.1)
                         have HS19_ := (hb.cell (World.block_lt_of_cell? _ _ (hHeld.2.2.2.2.2.2.2.2.2.2.2.2.2.2.2.2.2.2.2.1))).trans (hHeld.2.2.2.2.2.2.2.2.2.2.2.2.2.2.2.2.2.2.2.1)
                         have HS20_ := (hb.cell (World.block_lt_of_cell? _ _ (hHeld.2.2.2.2.2.2.2.2.2.2.2.2.2.2.2.2.2.2.2.2.1))).trans (hHeld.2.2.2.2.2.2.2.2.2.2.2.2.2.2.2.2.2.2.2.2.1)
                         have HS21_ := (hb.cell (World.block_lt_of_cell? _ _ (hHeld.2.2.2.2.2.2.2.2.2.2.2.2.2.2.2.2.2.2.2.2.2))).trans (hHeld.2.2.2.2.2.2.2.2.2.2.2.2.2.2.2.2.2.2.2.2.2)
                         clear hg_ hnew_
                         (first | rw [← Ny259.out] at ho75 | (simp only [Int.reduceToNat] at ho75; rw [← Ny259.out] at ho75))
                         have n0_ := Aside0.mk (Kd.R_below (by (with_reducible repeat (first | apply Kd.R_alloc | apply Kd.R_drewN | apply Kd.R_drew)); exact HO_1.out) hb)
                         have n1_ := Aside0.mk (Kd.R_elder' (by (with_reducible repeat (first | apply Kd.R_alloc | apply Kd.R_drewN | apply Kd.R_drew)); exact HO_2.out) (Kd.R_base ho75) hb)
                         have n2_ := Aside0.mk (Kd.N_elder' (by (with_reducible repeat (first | apply Kd.N_alloc | apply Kd.N_drewN | apply Kd.N_drew)); exact HO_3.out) (Kd.R_base ho75) hb)
                         have n3_ := Aside0.mk (Kd.R_below (by (with_reducible repeat (first | apply Kd.R_alloc | apply Kd.R_drewN | apply Kd.R_drew)); exact HO_9.out) hb)
                         have n4_ := Aside0.mk (Kd.R_below (by (with_reducible repeat (first | apply Kd.R_alloc | apply Kd.R_drewN | apply Kd.R_drew)); exact HO_11.out) hb)
                         have n5_ := Aside0.mk (Kd.V_elder' (by (with_reducible repeat (first | apply Kd.V_alloc | apply Kd.V_drewN | apply Kd.V_drew)); exact HL241_0.out) (Kd.R_base ho75) hb)
                         have n6_ := Aside0.mk (Kd.V_elder' (by (with_reducible repeat (first | apply Kd.V_alloc | apply Kd.V_drewN | apply Kd.V_drew)); exact HL247_0.out) (Kd.R_base ho75) hb)
                         have n7_ := Aside0.mk (Kd.V_elder' (by (with_reducible repeat (first | apply Kd.V_alloc | apply Kd.V_drewN | apply Kd.V_drew)); exact HO254.out) (Kd.R_base ho75) hb)
                         have n8_ := Aside0.mk (Kd.R_lower (Kd.R_new' ho75 (Kd.R_lt (by (with_reducible repeat (first | apply Kd.R_alloc | apply Kd.R_drewN | apply Kd.R_drew)); exact HO_2.out))) (below_size (by repeat (first | (with_reducible first | exact HB.out | apply below_alloc | apply pw_below_drewN | apply below_drew1) | exact HB.out))))
                         have n9_ := Aside0.mk (Kd.C_below (d := k44) (xs := rd_L7 t215 2) (A := (some ad242)) (n := (rd_L7 t215 2).length) (by repeat (first | (with_reducible exact HR241_0.out) | (with_reducible refine Kd.C_alloc ?_ _) | (with_reducible refine Kd.C_drewN ?_ _) | (with_reducible refine Kd.C_drew ?_) | exact HR241_0.out)) hb)
                         have n10_ := Aside0.mk (Kd.C_below (d := k44) (xs := rd_L7 t215 0) (A := (some ad248)) (n := (rd_L7 t215 0).length) (by repeat (first | (with_reducible exact HR247_0.out) | (with_reducible refine Kd.C_alloc ?_ _) | (with_reducible refine Kd.C_drewN ?_ _) | (with_reducible refine Kd.C_drew ?_) | exact HR247_0.out)) hb)
                         have n11_ := Aside0.mk (below_step (by repeat (first | (with_reducible first | exact HB.out | apply below_alloc | apply pw_below_drewN | apply below_drew1) | exact HB.out)) hb)
                         clear HO_1
                         clear HO_2
                         clear HO_3
                         clear HO_9
                         clear HO_11
                         clear HL241_0
                         clear HL247_0
                         clear HO254
                         clear HR241_0
                         clear HR247_0
                         clear HB
                         have HO_1 := n0_
                         have HO_2 := n1_
                         have HO_3 := n2_
                         have HO_9 := n3_
                         have HO_11 := n4_
                         have HL241_0 := n5_
                         have HL247_0 := n6_
                         have HO254 := n7_
                         have HO261 := n8_
                         have HR241_0 := n9_
                         have HR247_0 := n10_
                         have HB := n11_
                         clear n0_ n1_ n2_ n3_ n4_ n5_ n6_ n7_ n8_ n9_ n10_ n11_
                         clear hb ho75
                         obtain ⟨Ao76, co76, eo76⟩ := Kd.R_slice HO261.out
                         (first | subst eo76 | (injection eo76 with f1_ f2_ f3_; have f4_ := f1_.symm; have f5_ := f3_.symm; clear f1_ f2_ f3_; subst f4_; subst f5_))
                         refine hK.out _ _ ⟨HS0_, HS1_, HS2_, HS3_, HS4_, HS5_, HS6_, HS7_, HS8_, HS9_, HS10_, HS11_, HS12_, HS13_, HS14_, HS15_, HS16_, HS17_, HS18_, HS19_, HS20_, HS21_⟩ (fun hHeld => ?_)
                         clear hK K
                         refine norm_ (a' := ?_) ?_ ?_
                         rotate_left
                         ·show Act.put _ (some 141) _ = _
                          simp only [Act.put, List.setIfInBounds_toArray, List.set_cons_zero, List.set_cons_succ, i64_w, i32_w]
                          rfl
                         refine one_ (i := 72) (N := some 142) #[true, true, true, true, true, true, true, true, true, true, true, true, true, true, true, true, true, true, true, true, true, true, true, true, true, true, true, true, true, true, true, true, true, true, true, true, true, true, true, true, true, true, true, true, true, true, true, true, true, true, true, true, true, true, true, true, true, true, true, true, true, true, true, true, true, true, true, true, true, true, true, true, true, false, false, false, false, false, false, false, false, false, false, false, false, false, false, false, false, false, false, false, false] rfl rfl (one_of HT_.out (by kernel_rfl)) (by decide) (fun K hK => ?_)
                         refine goes_ Try.func19 (by kernel_rfl) rfl #[.slice Ao24 t191.length co24, .slice Ao76 y259.length co76] (by rfl) rfl rfl (by (try simp only [List.map_toArray, List.map_cons, List.map_nil]); first | done | rfl | (simp only [List.length_drop, List.length_take]; rfl)) ?_
                         with_reducible refine (schema_Row.calls kj10 _ _ t191 _ _ y259 t262 _ ?side1 ?side2 ?side3 ?side4 A60.out).mono ?_
                         (case side1 => repeat (first | exact (Kd.R_reads' HO_1.out).2.2 | (with_reducible refine Kd.C_alloc ?_ _) | (with_reducible refine Kd.C_drewN ?_ _) | (with_reducible refine Kd.C_drew ?_)))
                         (case side2 => exact (Kd.R_reads' HO_1.out).2.1)
                         (case side3 => repeat (first | exact (Kd.R_reads' HO261.out).2.2 | (with_reducible refine Kd.C_alloc ?_ _) | (with_reducible refine Kd.C_drewN ?_ _) | (with_reducible refine Kd.C_drew ?_)))
                         (case side4 => exact (Kd.R_reads' HO261.out).2.1)
                         rintro e w77 ⟨rfl, hb⟩
                         have HS0_ := (hb.cell (World.block_lt_of_cell? _ _ (hHeld.1))).trans (hHeld.1)
                         have HS1_ := (hb.cell (World.block_lt_of_cell? _ _ (hHeld.2.1))).trans (hHeld.2.1)
                         have HS2_ := (hb.cell (World.block_lt_of_cell? _ _ (hHeld.2.2.1))).trans (hHeld.2.2.1)
                         have HS3_ := (hb.cell (World.block_lt_of_cell? _ _ (hHeld.2.2.2.1))).trans (hHeld.2.2.2.1)
                         have HS4_ := (hb.cell (World.block_lt_of_cell? _ _ (hHeld.2.2.2.2.1))).trans (hHeld.2.2.2.2.1)
                         have HS5_ := (hb.cell (World.block_lt_of_cell? _ _ (hHeld.2.2.2.2.2.1))).trans (hHeld.2.2.2.2.2.1)
                         have HS6_ := (hb.cell (World.block_lt_of_cell? _ _ (hHeld.2.2.2.2.2.2.1))).trans (hHeld.2.2.2.2.2.2.1)
                         have HS7_ := (hb.cell (World.block_lt_of_cell? _ _ (hHeld.2.2.2.2.2.2.2.1))).trans (hHeld.2.2.2.2.2.2.2.1)
                         have HS8_ := (hb.cell (World.block_lt_of_cell? _ _ (hHeld.2.2.2.2.2.2.2.2.1))).trans (hHeld.2.2.2.2.2.2.2.2.1)
                         have HS9_ := (hb.cell (World.block_lt_of_cell? _ _ (hHeld.2.2.2.2.2.2.2.2.2.1))).trans (hHeld.2.2.2.2.2.2.2.2.2.1)
                         have HS10_ := (hb.cell (World.block_lt_of_cell? _ _ (hHeld.2.2.2.2.2.2.2.2.2.2.1))).trans (hHeld.2.2.2.2.2.2.2.2.2.2.1)
                         have HS11_ := (hb.cell (World.block_lt_of_cell? _ _ (hHeld.2.2.2.2.2.2.2.2.2.2.2.1))).trans (hHeld.2.2.2.2.2.2.2.2.2.2.2.1)
                         have HS12_ := (hb.cell (World.block_lt_of_cell? _ _ (hHeld.2.2.2.2.2.2.2.2.2.2.2.2.1))).trans (hHeld.2.2.2.2.2.2.2.2.2.2.2.2.1)
                         have HS13_ := (hb.cell (World.block_lt_of_cell? _ _ (hHeld.2.2.2.2.2.2.2.2.2.2.2.2.2.1))).trans (hHeld.2.2.2.2.2.2.2.2.2.2.2.2.2.1)
                         have HS14_ := (hb.cell (World.block_lt_of_cell? _ _ (hHeld.2.2.2.2.2.2.2.2.2.2.2.2.2.2.1))).trans (hHeld.2.2.2.2.2.2.2.2.2.2.2.2.2.2.1)
                         have HS15_ := (hb.cell (World.block_lt_of_cell? _ _ (hHeld.2.2.2.2.2.2.2.2.2.2.2.2.2.2.2.1))).trans (hHeld.2.2.2.2.2.2.2.2.2.2.2.2.2.2.2.1)
                         have HS16_ := (hb.cell (World.block_lt_of_cell? _ _ (hHeld.2.2.2.2.2.2.2.2.2.2.2.2.2.2.2.2.1))).trans (hHeld.2.2.2.2.2.2.2.2.2.2.2.2.2.2.2.2.1)
                         have HS17_ := (hb.cell (World.block_lt_of_cell? _ _ (hHeld.2.2.2.2.2.2.2.2.2.2.2.2.2.2.2.2.2.1))).trans (hHeld.2.2.2.2.2.2.2.2.2.2.2.2.2.2.2.2.2.1)
                         have HS18_ := (hb.cell (World.block_lt_of_cell? _ _ (hHeld.2.2.2.2.2.2.2.2.2.2.2.2.2.2.2.2.2.2.1))).trans (hHeld.2.2.2.2.2.2.2.2.2.2.2.2.2.2.2.2.2.2.1)
                         have HS19_ := (hb.cell (World.block_lt_of_cell? _ _ (hHeld.2.2.2.2.2.2.2.2.2.2.2.2.2.2.2.2.2.2.2.1))).trans (hHeld.2.2.2.2.2.2.2.2.2.2.2.2.2.2.2.2.2.2.2.1)
                         have HS20_ := (hb.cell (World.block_lt_of_cell? _ _ (hHeld.2.2.2.2.2.2.2.2.2.2.2.2.2.2.2.2.2.2.2.2.1))).trans (hHeld.2.2.2.2.2.2.2.2.2.2.2.2.2.2.2.2.2.2.2.2.1)
                         have HS21_ := (hb.cell (World.block_lt_of_cell? _ _ (hHeld.2.2.2.2.2.2.2.2.2.2.2.2.2.2.2.2.2.2.2.2.2))).trans (hHeld.2.2.2.2.2.2.2.2.2.2.2.2.2.2.2.2.2.2.2.2.2)
                         refine ⟨_, rfl, ?_⟩
                         have n0_ := Aside0.mk (Kd.R_below (by (with_reducible repeat (first | apply Kd.R_alloc | apply Kd.R_drewN | apply Kd.R_drew)); exact HO_1.out) hb)
                         have n1_ := Aside0.mk (Kd.R_below (by (with_reducible repeat (first | apply Kd.R_alloc | apply Kd.R_drewN | apply Kd.R_drew)); exact HO_2.out) hb)
                         have n2_ := Aside0.mk (Kd.N_below (by (with_reducible repeat (first | apply Kd.N_alloc | apply Kd.N_drewN | apply Kd.N_drew)); exact HO_3.out) hb)
                         have n3_ := Aside0.mk (Kd.R_below (by (with_reducible repeat (first | apply Kd.R_alloc | apply Kd.R_drewN | apply Kd.R_drew)); exact HO_9.out) hb)
                         have n4_ := Aside0.mk (Kd.R_below (by (with_reducible repeat (first | apply Kd.R_alloc | apply Kd.R_drewN | apply Kd.R_drew)); exact HO_11.out) hb)
                         have n5_ := Aside0.mk (Kd.V_below (by (with_reducible repeat (first | apply Kd.V_alloc | apply Kd.V_drewN | apply Kd.V_drew)); exact HL241_0.out) hb)
                         have n6_ := Aside0.mk (Kd.V_below (by (with_reducible repeat (first | apply Kd.V_alloc | apply Kd.V_drewN | apply Kd.V_drew)); exact HL247_0.out) hb)
                         have n7_ := Aside0.mk (Kd.V_below (by (with_reducible repeat (first | apply Kd.V_alloc | apply Kd.V_drewN | apply Kd.V_drew)); exact HO254.out) hb)
                         have n8_ := Aside0.mk (Kd.R_below (by (with_reducible repeat (first | apply Kd.R_alloc | apply Kd.R_drewN | apply Kd.R_drew)); exact HO261.out) hb)
                         have n9_ := Aside0.mk (Kd.C_below (d := k44) (xs := rd_L7 t215 2) (A := (some ad242)) (n := (rd_L7 t215 2).length) (by repeat (first | (with_reducible exact HR241_0.out) | (with_reducible refine Kd.C_alloc ?_ _) | (with_reducible refine Kd.C_drewN ?_ _) | (with_reducible refine Kd.C_drew ?_) | exact HR241_0.out)) hb)
                         have n10_ := Aside0.mk (Kd.C_below (d := k44) (xs := rd_L7 t215 0) (A := (some ad248)) (n := (rd_L7 t215 0).length) (by repeat (first | (with_reducible exact HR247_0.out) | (with_reducible refine Kd.C_alloc ?_ _) | (with_reducible refine Kd.C_drewN ?_ _) | (with_reducible refine Kd.C_drew ?_) | exact HR247_0.out)) hb)
                         have n11_ := Aside0.mk (below_step (by repeat (first | (with_reducible first | exact HB.out | apply below_alloc | apply pw_below_drewN | apply below_drew1) | exact HB.out)) hb)
                         clear HO_1
                         clear HO_2
                         clear HO_3
                         clear HO_9
                         clear HO_11
                         clear HL241_0
                         clear HL247_0
                         clear HO254
                         clear HO261
                         clear HR241_0
                         clear HR247_0
                         clear HB
                         have HO_1 := n0_
                         have HO_2 := n1_
                         have HO_3 := n2_
                         have HO_9 := n3_
                         have HO_11 := n4_
                         have HL241_0 := n5_
                         have HL247_0 := n6_
                         have HO254 := n7_
                         have HO261 := n8_
                         have HR241_0 := n9_
                         have HR247_0 := n10_
                         have HB := n11_
                         clear n0_ n1_ n2_ n3_ n4_ n5_ n6_ n7_ n8_ n9_ n10_ n11_
                         (try clear hb)
                         (try clear hb2)
                         (try clear hk)
                         (try clear hi)
                         refine hK.out _ _ ⟨HS0_, HS1_, HS2_, HS3_, HS4_, HS5_, HS6_, HS7_, HS8_, HS9_, HS10_, HS11_, HS12_, HS13_, HS14_, HS15_, HS16_, HS17_, HS18_, HS19_, HS20_, HS21_⟩ (fun hHeld => ?_)
                         clear hK K
                         refine norm_ (a' := ?_) ?_ ?_
                         rotate_left
                         ·show Act.put _ (some 142) _ = _
                          simp only [Act.put, List.setIfInBounds_toArray, List.set_cons_zero, List.set_cons_succ, i64_w, i32_w]
                          rfl
                         refine pure_ (i := 73) (N := some 143) (v := ?_) (a' := ?_) #[true, true, true, true, true, true, true, true, true, true, true, true, true, true, true, true, true, true, true, true, true, true, true, true, true, true, true, true, true, true, true, true, true, true, true, true, true, true, true, true, true, true, true, true, true, true, true, true, true, true, true, true, true, true, true, true, true, true, true, true, true, true, true, true, true, true, true, true, true, true, true, true, true, true, false, false, false, false, false, false, false, false, false, false, false, false, false, false, false, false, false, false, false] rfl rfl (any_of HT_.out (by kernel_rfl)) (fun _ _ _ h => h) (Or.inl ⟨by rfl, ?_⟩) ?_ ?_
                         rotate_left
                         ·intro w'
                          go_simp
                          with_reducible rfl
                         rotate_left
                         ·simp only [Act.put, List.setIfInBounds_toArray, List.set_cons_zero, List.set_cons_succ, i64_w, i32_w]
                          rfl
                         refine pure_ (i := 74) (N := some 144) (v := ?_) (a' := ?_) #[true, true, true, true, true, true, true, true, true, true, true, true, true, true, true, true, true, true, true, true, true, true, true, true, true, true, true, true, true, true, true, true, true, true, true, true, true, true, true, true, true, true, true, true, true, true, true, true, true, true, true, true, true, true, true, true, true, true, true, true, true, true, true, true, true, true, true, true, true, true, true, true, true, true, true, false, false, false, false, false, false, false, false, false, false, false, false, false, false, false, false, false, false] rfl rfl (any_of HT_.out (by kernel_rfl)) (fun _ _ _ h => h) (Or.inl ⟨by rfl, ?_⟩) ?_ ?_
                         rotate_left
                         ·intro w'
                          go_simp
                          with_reducible rfl
                         rotate_left
                         ·simp only [Act.put, List.setIfInBounds_toArray, List.set_cons_zero, List.set_cons_succ, i64_w, i32_w]
                          rfl
                         refine pure_ (i := 75) (N := some 145) (v := ?_) (a' := ?_) #[true, true, true, true, true, true, true, true, true, true, true, true, true, true, true, true, true, true, true, true, true, true, true, true, true, true, true, true, true, true, true, true, true, true, true, true, true, true, true, true, true, true, true, true, true, true, true, true, true, true, true, true, true, true, true, true, true, true, true, true, true, true, true, true, true, true, true, true, true, true, true, true, true, true, true, true, false, false, false, false, false, false, false, false, false, false, false, false, false, false, false, false, false] rfl rfl (any_of HT_.out (by kernel_rfl)) (fun _ _ _ h => h) (Or.inl ⟨by rfl, ?_⟩) ?_ ?_
                         rotate_left
                         ·intro w'
                          go_simp
                          with_reducible rfl
                         rotate_left
                         ·simp only [Act.put, List.setIfInBounds_toArray, List.set_cons_zero, List.set_cons_succ, i64_w, i32_w]
                          rfl
                         refine pure_ (i := 76) (N := some 146) (v := ?_) (a' := ?_) #[true, true, true, true, true, true, true, true, true, true, true, true, true, true, true, true, true, true, true, true, true, true, true, true, true, true, true, true, true, true, true, true, true, true, true, true, true, true, true, true, true, true, true, true, true, true, true, true, true, true, true, true, true, true, true, true, true, true, true, true, true, true, true, true, true, true, true, true, true, true, true, true, true, true, true, true, true, false, false, false, false, false, false, false, false, false, false, false, false, false, false, false, false] rfl rfl (any_of HT_.out (by kernel_rfl)) (fun _ _ _ h => h) (Or.inl ⟨by rfl, ?_⟩) ?_ ?_
                         rotate_left
                         ·intro w'
                          go_simp
                          with_reducible rfl
                         rotate_left
                         ·simp only [Act.put, List.setIfInBounds_toArray, List.set_cons_zero, List.set_cons_succ, i64_w, i32_w]
                          rfl
                         refine one_ (i := 77) (N := some 147) #[true, true, true, true, true, true, true, true, true, true, true, true, true, true, true, true, true, true, true, true, true, true, true, true, true, true, true, true, true, true, true, true, true, true, true, true, true, true, true, true, true, true, true, true, true, true, true, true, true, true, true, true, true, true, true, true, true, true, true, true, true, true, true, true, true, true, true, true, true, true, true, true, true, true, true, true, true, true, false, false, false, false, false, false, false, false, false, false, false, false, false, false, false] rfl rfl (one_of HT_.out (by kernel_rfl)) (by decide) (fun K hK => ?_)
                         refine Kd.R_lit_step k36 _ 36 ?hg (N := 147) ?hd (xs := ([(⟨(⟨#[78]⟩ : ByteArray), 1⟩ : S36)] : List (S36))) (inner := [.string (⟨#[78]⟩ : ByteArray), .int .i64 1]) (ok := fun _ => True) (okp := fun _ => True) ?hr ?hp (fun _ hk => hk) trivial (Below.refl _ _) (Nat.le_refl _) (by simp) ?_; (case hd => rfl); (case hg => rfl); (case hr => first | (go_simp; done) | (go_simp; rfl)); (case hp => exact (Reps.c2 (show Kd.M k36 _ _ _ (⟨(⟨#[78]⟩ : ByteArray), 1⟩ : S36) [.string (⟨#[78]⟩ : ByteArray), .int .i64 1] from (k36_mkM _ _ _ (⟨(⟨#[78]⟩ : ByteArray), 1⟩ : S36) )) (Reps.none _ _)))
                         intro v264 w78 ho79 hb hg_ hnew_
                         have HS0_ := (hb.cell (World.block_lt_of_cell? _ _ (hHeld.1))).trans (hHeld.1)
                         have HS1_ := (hb.cell (World.block_lt_of_cell? _ _ (hHeld.2.1))).trans (hHeld.2.1)
                         have HS2_ := (hb.cell (World.block_lt_of_cell? _ _ (hHeld.2.2.1))).trans (hHeld.2.2.1)
                         have HS3_ := (hb.cell (World.block_lt_of_cell? _ _ (hHeld.2.2.2.1))).trans (hHeld.2.2.2.1)
                         have HS4_ := (hb.cell (World.block_lt_of_cell? _ _ (hHeld.2.2.2.2.1))).trans (hHeld.2.2.2.2.1)
                         have HS5_ := (hb.cell (World.block_lt_of_cell? _ _ (hHeld.2.2.2.2.2.1))).trans (hHeld.2.2.2.2.2.1)
                         have HS6_ := (hb.cell (World.block_lt_of_cell? _ _ (hHeld.2.2.2.2.2.2.1))).trans (hHeld.2.2.2.2.2.2.1)
                         have HS7_ := (hb.cell (World.block_lt_of_cell? _ _ (hHeld.2.2.2.2.2.2.2.1))).trans (hHeld.2.2.2.2.2.2.2.1)
                         have HS8_ := (hb.cell (World.block_lt_of_cell? _ _ (hHeld.2.2.2.2.2.2.2.2.1))).trans (hHeld.2.2.2.2.2.2.2.2.1)
                         have HS9_ := (hb.cell (World.block_lt_of_cell? _ _ (hHeld.2.2.2.2.2.2.2.2.2.1))).trans (hHeld.2.2.2.2.2.2.2.2.2.1)
                         have HS10_ := (hb.cell (World.block_lt_of_cell? _ _ (hHeld.2.2.2.2.2.2.2.2.2.2.1))).trans (hHeld.2.2.2.2.2.2.2.2.2.2.1)
                         have HS11_ := (hb.cell (World.block_lt_of_cell? _ _ (hHeld.2.2.2.2.2.2.2.2.2.2.2.1))).trans (hHeld.2.2.2.2.2.2.2.2.2.2.2.1)
                         have HS12_ := (hb.cell (World.block_lt_of_cell? _ _ (hHeld.2.2.2.2.2.2.2.2.2.2.2.2.1))).trans (hHeld.2.2.2.2.2.2.2.2.2.2.2.2.1)
                         have HS13_ := (hb.cell (World.block_lt_of_cell? _ _ (hHeld.2.2.2.2.2.2.2.2.2.2.2.2.2.1))).trans (hHeld.2.2.2.2.2.2.2.2.2.2.2.2.2.1)
                         have HS14_ := (hb.cell (World.block_lt_of_cell? _ _ (hHeld.2.2.2.2.2.2.2.2.2.2.2.2.2.2.1))).trans (hHeld.2.2.2.2.2.2.2.2.2.2.2.2.2.2.1)
                         have HS15_ := (hb.cell (World.block_lt_of_cell? _ _ (hHeld.2.2.2.2.2.2.2.2.2.2.2.2.2.2.2.1))).trans (hHeld.2.2.2.2.2.2.2.2.2.2.2.2.2.2.2.1)
                         have HS16_ := (hb.cell (World.block_lt_of_cell? _ _ (hHeld.2.2.2.2.2.2.2.2.2.2.2.2.2.2.2.2.1))).trans (hHeld.2.2.2.2.2.2.2.2.2.2.2.2.2.2.2.2.1)
                         have HS17_ := (hb.cell (World.block_lt_of_cell? _ _ (hHeld.2.2.2.2.2.2.2.2.2.2.2.2.2.2.2.2.2.1))).trans (hHeld.2.2.2.2.2.2.2.2.2.2.2.2.2.2.2.2.2.1)
                         have HS18_ := (hb.cell (World.block_lt_of_cell? _ _ (hHeld.2.2.2.2.2.2.2.2.2.2.2.2.2.2.2.2.2.2.1))).trans (hHeld.2.2.2.2.2.2.2.2.2.2.2.2.2.2.2.2.2.2.1)
                         have HS19_ := (hb.cell (World.block_lt_of_cell? _ _ (hHeld.2.2.2.2.2.2.2.2.2.2.2.2.2.2.2.2.2.2.2.1))).trans (hHeld.2.2.2.2.2.2.2.2.2.2.2.2.2.2.2.2.2.2.2.1)
                         have HS20_ := (hb.cell (World.block_lt_of_cell? _ _ (hHeld.2.2.2.2.2.2.2.2.2.2.2.2.2.2.2.2.2.2.2.2.1))).trans (hHeld.2.2.2.2.2.2.2.2.2.2.2.2.2.2.2.2.2.2.2.2.1)
                         have HS21_ := (hb.cell (World.block_lt_of_cell? _ _ (hHeld.2.2.2.2.2.2.2.2.2.2.2.2.2.2.2.2.2.2.2.2.2))).trans (hHeld.2.2.2.2.2.2.2.2.2.2.2.2.2.2.2.2.2.2.2.2.2)
                         clear hg_ hnew_
                         (first | rw [← Ny263.out] at ho79 | (simp only [Int.reduceToNat] at ho79; rw [← Ny263.out] at ho79))
                         have n0_ := Aside0.mk (Kd.R_elder' (by (with_reducible repeat (first | apply Kd.R_alloc | apply Kd.R_drewN | apply Kd.R_drew)); exact HO_1.out) (Kd.R_base ho79) hb)
                         have n1_ := Aside0.mk (Kd.R_below (by (with_reducible repeat (first | apply Kd.R_alloc | apply Kd.R_drewN | apply Kd.R_drew)); exact HO_2.out) hb)
                         have n2_ := Aside0.mk (Kd.N_elder' (by (with_reducible repeat (first | apply Kd.N_alloc | apply Kd.N_drewN | apply Kd.N_drew)); exact HO_3.out) (Kd.R_base ho79) hb)
                         have n3_ := Aside0.mk (Kd.R_below (by (with_reducible repeat (first | apply Kd.R_alloc | apply Kd.R_drewN | apply Kd.R_drew)); exact HO_9.out) hb)
                         have n4_ := Aside0.mk (Kd.R_elder' (by (with_reducible repeat (first | apply Kd.R_alloc | apply Kd.R_drewN | apply Kd.R_drew)); exact HO_11.out) (Kd.R_base ho79) hb)
                         have n5_ := Aside0.mk (Kd.V_elder' (by (with_reducible repeat (first | apply Kd.V_alloc | apply Kd.V_drewN | apply Kd.V_drew)); exact HL241_0.out) (Kd.R_base ho79) hb)
                         have n6_ := Aside0.mk (Kd.V_elder' (by (with_reducible repeat (first | apply Kd.V_alloc | apply Kd.V_drewN | apply Kd.V_drew)); exact HL247_0.out) (Kd.R_base ho79) hb)
                         have n7_ := Aside0.mk (Kd.V_elder' (by (with_reducible repeat (first | apply Kd.V_alloc | apply Kd.V_drewN | apply Kd.V_drew)); exact HO254.out) (Kd.R_base ho79) hb)
                         have n8_ := Aside0.mk (Kd.R_below (by (with_reducible repeat (first | apply Kd.R_alloc | apply Kd.R_drewN | apply Kd.R_drew)); exact HO261.out) hb)
                         have n9_ := Aside0.mk (Kd.R_lower (Kd.R_new' (Kd.R_new' ho79 (Kd.R_lt (by (with_reducible repeat (first | apply Kd.R_alloc | apply Kd.R_drewN | apply Kd.R_drew)); exact HO_1.out))) (Kd.R_lt (by (with_reducible repeat (first | apply Kd.R_alloc | apply Kd.R_drewN | apply Kd.R_drew)); exact HO_11.out))) (below_size (by repeat (first | (with_reducible first | exact HB.out | apply below_alloc | apply pw_below_drewN | apply below_drew1) | exact HB.out))))
                         have n10_ := Aside0.mk (Kd.C_below (d := k44) (xs := rd_L7 t215 2) (A := (some ad242)) (n := (rd_L7 t215 2).length) (by repeat (first | (with_reducible exact HR241_0.out) | (with_reducible refine Kd.C_alloc ?_ _) | (with_reducible refine Kd.C_drewN ?_ _) | (with_reducible refine Kd.C_drew ?_) | exact HR241_0.out)) hb)
                         have n11_ := Aside0.mk (Kd.C_below (d := k44) (xs := rd_L7 t215 0) (A := (some ad248)) (n := (rd_L7 t215 0).length) (by repeat (first | (with_reducible exact HR247_0.out) | (with_reducible refine Kd.C_alloc ?_ _) | (with_reducible refine Kd.C_drewN ?_ _) | (with_reducible refine Kd.C_drew ?_) | exact HR247_0.out)) hb)
                         have n12_ := Aside0.mk (below_step (by repeat (first | (with_reducible first | exact HB.out | apply below_alloc | apply pw_below_drewN | apply below_drew1) | exact HB.out)) hb)
                         clear HO_1
                         clear HO_2
                         clear HO_3
                         clear HO_9
                         clear HO_11
                         clear HL241_0
                         clear HL247_0
                         clear HO254
                         clear HO261
                         clear HR241_0
                         clear HR247_0
                         clear HB
                         have HO_1 := n0_
                         have HO_2 := n1_
                         have HO_3 := n2_
                         have HO_9 := n3_
                         have HO_11 := n4_
                         have HL241_0 := n5_
                         have HL247_0 := n6_
                         have HO254 := n7_
                         have HO261 := n8_
                         have HO265 := n9_
                         have HR241_0 := n10_
                         have HR247_0 := n11_
                         have HB := n12_
                         clear n0_ n1_ n2_ n3_ n4_ n5_ n6_ n7_ n8_ n9_ n10_ n11_ n12_
                         clear hb ho79
                         obtain ⟨Ao80, co80, eo80⟩ := Kd.R_slice HO265.out
                         (first | subst eo80 | (injection eo80 with f1_ f2_ f3_; have f4_ := f1_.symm; have f5_ := f3_.symm; clear f1_ f2_ f3_; subst f4_; subst f5_))
                         refine hK.out _ _ ⟨HS0_, HS1_, HS2_, HS3_, HS4_, HS5_, HS6_, HS7_, HS8_, HS9_, HS10_, HS11_, HS12_, HS13_, HS14_, HS15_, HS16_, HS17_, HS18_, HS19_, HS20_, HS21_⟩ (fun hHeld => ?_)
                         clear hK K
                         refine norm_ (a' := ?_) ?_ ?_
                         rotate_left
                         ·show Act.put _ (some 147) _ = _
                          simp only [Act.put, List.setIfInBounds_toArray, List.set_cons_zero, List.set_cons_succ, i64_w, i32_w]
                          rfl
                         refine one_ (i := 78) (N := some 148) #[true, true, true, true, true, true, true, true, true, true, true, true, true, true, true, true, true, true, true, true, true, true, true, true, true, true, true, true, true, true, true, true, true, true, true, true, true, true, true, true, true, true, true, true, true, true, true, true, true, true, true, true, true, true, true, true, true, true, true, true, true, true, true, true, true, true, true, true, true, true, true, true, true, true, true, true, true, true, true, false, false, false, false, false, false, false, false, false, false, false, false, false, false] rfl rfl (one_of HT_.out (by kernel_rfl)) (by decide) (fun K hK => ?_)
                         refine goes_ Try.func10 (by kernel_rfl) rfl #[.slice Ao80 y263.length co80] (by rfl) rfl rfl (by (try simp only [List.map_toArray, List.map_cons, List.map_nil]); first | done | rfl | (simp only [List.length_drop, List.length_take]; rfl)) ?_
                         with_reducible refine (schema_Check.calls kj10 _ _ y263 t266 _ ?side1 ?side2 A62.out).mono ?_
                         (case side1 => repeat (first | exact (Kd.R_reads' HO265.out).2.2 | (with_reducible refine Kd.C_alloc ?_ _) | (with_reducible refine Kd.C_drewN ?_ _) | (with_reducible refine Kd.C_drew ?_)))
                         (case side2 => exact (Kd.R_reads' HO265.out).2.1)
                         rintro e w81 ⟨rfl, hb⟩
                         have HS0_ := (hb.cell (World.block_lt_of_cell? _ _ (hHeld.1))).trans (hHeld.1)
                         have HS1_ := (hb.cell (World.block_lt_of_cell? _ _ (hHeld.2.1))).trans (hHeld.2.1)
                         have HS2_ := (hb.cell (World.block_lt_of_cell? _ _ (hHeld.2.2.1))).trans (hHeld.2.2.1)
                         have HS3_ := (hb.cell (World.block_lt_of_cell? _ _ (hHeld.2.2.2.1))).trans (hHeld.2.2.2.1)
                         have HS4_ := (hb.cell (World.block_lt_of_cell? _ _ (hHeld.2.2.2.2.1))).trans (hHeld.2.2.2.2.1)
                         have HS5_ := (hb.cell (World.block_lt_of_cell? _ _ (hHeld.2.2.2.2.2.1))).trans (hHeld.2.2.2.2.2.1)
                         have HS6_ := (hb.cell (World.block_lt_of_cell? _ _ (hHeld.2.2.2.2.2.2.1))).trans (hHeld.2.2.2.2.2.2.1)
                         have HS7_ := (hb.cell (World.block_lt_of_cell? _ _ (hHeld.2.2.2.2.2.2.2.1))).trans (hHeld.2.2.2.2.2.2.2.1)
                         have HS8_ := (hb.cell (World.block_lt_of_cell? _ _ (hHeld.2.2.2.2.2.2.2.2.1))).trans (hHeld.2.2.2.2.2.2.2.2.1)
                         have HS9_ := (hb.cell (World.block_lt_of_cell? _ _ (hHeld.2.2.2.2.2.2.2.2.2.1))).trans (hHeld.2.2.2.2.2.2.2.2.2.1)
                         have HS10_ := (hb.cell (World.block_lt_of_cell? _ _ (hHeld.2.2.2.2.2.2.2.2.2.2.1))).trans (hHeld.2.2.2.2.2.2.2.2.2.2.1)
                         have HS11_ := (hb.cell (World.block_lt_of_cell? _ _ (hHeld.2.2.2.2.2.2.2.2.2.2.2.1))).trans (hHeld.2.2.2.2.2.2.2.2.2.2.2.1)
                         have HS12_ := (hb.cell (World.block_lt_of_cell? _ _ (hHeld.2.2.2.2.2.2.2.2.2.2.2.2.1))).trans (hHeld.2.2.2.2.2.2.2.2.2.2.2.2.1)
                         have HS13_ := (hb.cell (World.block_lt_of_cell? _ _ (hHeld.2.2.2.2.2.2.2.2.2.2.2.2.2.1))).trans (hHeld.2.2.2.2.2.2.2.2.2.2.2.2.2.1)
                         have HS14_ := (hb.cell (World.block_lt_of_cell? _ _ (hHeld.2.2.2.2.2.2.2.2.2.2.2.2.2.2.1))).trans (hHeld.2.2.2.2.2.2.2.2.2.2.2.2.2.2.1)
                         have HS15_ := (hb.cell (World.block_lt_of_cell? _ _ (hHeld.2.2.2.2.2.2.2.2.2.2.2.2.2.2.2.1))).trans (hHeld.2.2.2.2.2.2.2.2.2.2.2.2.2.2.2.1)
                         have HS16_ := (hb.cell (World.block_lt_of_cell? _ _ (hHeld.2.2.2.2.2.2.2.2.2.2.2.2.2.2.2.2.1))).trans (hHeld.2.2.2.2.2.2.2.2.2.2.2.2.2.2.2.2.1)
                         have HS17_ := (hb.cell (World.block_lt_of_cell? _ _ (hHeld.2.2.2.2.2.2.2.2.2.2.2.2.2.2.2.2.2.1))).trans (hHeld.2.2.2.2.2.2.2.2.2.2.2.2.2.2.2.2.2.1)
                         have HS18_ := (hb.cell (World.block_lt_of_cell? _ _ (hHeld.2.2.2.2.2.2.2.2.2.2.2.2.2.2.2.2.2.2.1))).trans (hHeld.2.2.2.2.2.2.2.2.2.2.2.2.2.2.2.2.2.2.1)
                         have HS19_ := (hb.cell (World.block_lt_of_cell? _ _ (hHeld.2.2.2.2.2.2.2.2.2.2.2.2.2.2.2.2.2.2.2.1))).trans (hHeld.2.2.2.2.2.2.2.2.2.2.2.2.2.2.2.2.2.2.2.1)
                         have HS20_ := (hb.cell (World.block_lt_of_cell? _ _ (hHeld.2.2.2.2.2.2.2.2.2.2.2.2.2.2.2.2.2.2.2.2.1))).trans (hHeld.2.2.2.2.2.2.2.2.2.2.2.2.2.2.2.2.2.2.2.2.1)
                         have HS21_ := (hb.cell (World.block_lt_of_cell? _ _ (hHeld.2.2.2.2.2.2.2.2.2.2.2.2.2.2.2.2.2.2.2.2.2))).trans (hHeld.2.2.2.2.2.2.2.2.2.2.2.2.2.2.2.2.2.2.2.2.2)
                         refine ⟨_, rfl, ?_⟩
                         have n0_ := Aside0.mk (Kd.R_below (by (with_reducible repeat (first | apply Kd.R_alloc | apply Kd.R_drewN | apply Kd.R_drew)); exact HO_1.out) hb)
                         have n1_ := Aside0.mk (Kd.R_below (by (with_reducible repeat (first | apply Kd.R_alloc | apply Kd.R_drewN | apply Kd.R_drew)); exact HO_2.out) hb)
                         have n2_ := Aside0.mk (Kd.N_below (by (with_reducible repeat (first | apply Kd.N_alloc | apply Kd.N_drewN | apply Kd.N_drew)); exact HO_3.out) hb)
                         have n3_ := Aside0.mk (Kd.R_below (by (with_reducible repeat (first | apply Kd.R_alloc | apply Kd.R_drewN | apply Kd.R_drew)); exact HO_9.out) hb)
                         have n4_ := Aside0.mk (Kd.R_below (by (with_reducible repeat (first | apply Kd.R_alloc | apply Kd.R_drewN | apply Kd.R_drew)); exact HO_11.out) hb)
                         have n5_ := Aside0.mk (Kd.V_below (by (with_reducible repeat (first | apply Kd.V_alloc | apply Kd.V_drewN | apply Kd.V_drew)); exact HL241_0.out) hb)
                         have n6_ := Aside0.mk (Kd.V_below (by (with_reducible repeat (first | apply Kd.V_alloc | apply Kd.V_drewN | apply Kd.V_drew)); exact HL247_0.out) hb)
                         have n7_ := Aside0.mk (Kd.V_below (by (with_reducible repeat (first | apply Kd.V_alloc | apply Kd.V_drewN | apply Kd.V_drew)); exact HO254.out) hb)
                         have n8_ := Aside0.mk (Kd.R_below (by (with_reducible repeat (first | apply Kd.R_alloc | apply Kd.R_drewN | apply Kd.R_drew)); exact HO261.out) hb)
                         have n9_ := Aside0.mk (Kd.R_below (by (with_reducible repeat (first | apply Kd.R_alloc | apply Kd.R_drewN | apply Kd.R_drew)); exact HO265.out) hb)
                         have n10_ := Aside0.mk (Kd.C_below (d := k44) (xs := rd_L7 t215 2) (A := (some ad242)) (n := (rd_L7 t215 2).length) (by repeat (first | (with_reducible exact HR241_0.out) | (with_reducible refine Kd.C_alloc ?_ _) | (with_reducible refine Kd.C_drewN ?_ _) | (with_reducible refine Kd.C_drew ?_) | exact HR241_0.out)) hb)
                         have n11_ := Aside0.mk (Kd.C_below (d := k44) (xs := rd_L7 t215 0) (A := (some ad248)) (n := (rd_L7 t215 0).length) (by repeat (first | (with_reducible exact HR247_0.out) | (with_reducible refine Kd.C_alloc ?_ _) | (with_reducible refine Kd.C_drewN ?_ _) | (with_reducible refine Kd.C_drew ?_) | exact HR247_0.out)) hb)
                         have n12_ := Aside0.mk (below_step (by repeat (first | (with_reducible first | exact HB.out | apply below_alloc | apply pw_below_drewN | apply below_drew1) | exact HB.out)) hb)
                         clear HO_1
                         clear HO_2
                         clear HO_3
                         clear HO_9
                         clear HO_11
                         clear HL241_0
                         clear HL247_0
                         clear HO254
                         clear HO261
                         clear HO265
                         clear HR241_0
                         clear HR247_0
                         clear HB
                         have HO_1 := n0_
                         have HO_2 := n1_
                         have HO_3 := n2_
                         have HO_9 := n3_
                         have HO_11 := n4_
                         have HL241_0 := n5_
                         have HL247_0 := n6_
                         have HO254 := n7_
                         have HO261 := n8_
                         have HO265 := n9_
                         have HR241_0 := n10_
                         have HR247_0 := n11_
                         have HB := n12_
                         clear n0_ n1_ n2_ n3_ n4_ n5_ n6_ n7_ n8_ n9_ n10_ n11_ n12_
                         (try clear hb)
                         (try clear hb2)
                         (try clear hk)
                         (try clear hi)
                         refine hK.out _ _ ⟨HS0_, HS1_, HS2_, HS3_, HS4_, HS5_, HS6_, HS7_, HS8_, HS9_, HS10_, HS11_, HS12_, HS13_, HS14_, HS15_, HS16_, HS17_, HS18_, HS19_, HS20_, HS21_⟩ (fun hHeld => ?_)
                         clear hK K
                         refine norm_ (a' := ?_) ?_ ?_
                         rotate_left
                         ·show Act.put _ (some 148) _ = _
                          simp only [Act.put, List.setIfInBounds_toArray, List.set_cons_zero, List.set_cons_succ, i64_w, i32_w]
                          rfl
                         refine pure_ (i := 79) (N := some 149) (v := ?_) (a' := ?_) #[true, true, true, true, true, true, true, true, true, true, true, true, true, true, true, true, true, true, true, true, true, true, true, true, true, true, true, true, true, true, true, true, true, true, true, true, true, true, true, true, true, true, true, true, true, true, true, true, true, true, true, true, true, true, true, true, true, true, true, true, true, true, true, true, true, true, true, true, true, true, true, true, true, true, true, true, true, true, true, true, false, false, false, false, false, false, false, false, false, false, false, false, false] rfl rfl (any_of HT_.out (by kernel_rfl)) (fun _ _ _ h => h) (Or.inl ⟨by rfl, ?_⟩) ?_ ?_
                         rotate_left
                         ·intro w'
                          go_simp
                          with_reducible rfl
                         rotate_left
                         ·simp only [Act.put, List.setIfInBounds_toArray, List.set_cons_zero, List.set_cons_succ, i64_w, i32_w]
                          rfl
                         refine pure_ (i := 80) (N := some 150) (v := ?_) (a' := ?_) #[true, true, true, true, true, true, true, true, true, true, true, true, true, true, true, true, true, true, true, true, true, true, true, true, true, true, true, true, true, true, true, true, true, true, true, true, true, true, true, true, true, true, true, true, true, true, true, true, true, true, true, true, true, true, true, true, true, true, true, true, true, true, true, true, true, true, true, true, true, true, true, true, true, true, true, true, true, true, true, true, true, false, false, false, false, false, false, false, false, false, false, false, false] rfl rfl (any_of HT_.out (by kernel_rfl)) (fun _ _ _ h => h) (Or.inl ⟨by rfl, ?_⟩) ?_ ?_
                         rotate_left
                         ·intro w'
                          go_simp
                          with_reducible rfl
                         rotate_left
                         ·simp only [Act.put, List.setIfInBounds_toArray, List.set_cons_zero, List.set_cons_succ, i64_w, i32_w]
                          rfl
                         refine pure_ (i := 81) (N := some 151) (v := ?_) (a' := ?_) #[true, true, true, true, true, true, true, true, true, true, true, true, true, true, true, true, true, true, true, true, true, true, true, true, true, true, true, true, true, true, true, true, true, true, true, true, true, true, true, true, true, true, true, true, true, true, true, true, true, true, true, true, true, true, true, true, true, true, true, true, true, true, true, true, true, true, true, true, true, true, true, true, true, true, true, true, true, true, true, true, true, true, false, false, false, false, false, false, false, false, false, false, false] rfl rfl (any_of HT_.out (by kernel_rfl)) (fun _ _ _ h => h) (Or.inl ⟨by rfl, ?_⟩) ?_ ?_
                         rotate_left
                         ·intro w'
                          go_simp
                          with_reducible rfl
                         rotate_left
                         ·simp only [Act.put, List.setIfInBounds_toArray, List.set_cons_zero, List.set_cons_succ, i64_w, i32_w]
                          rfl
                         refine pure_ (i := 82) (N := some 152) (v := ?_) (a' := ?_) #[true, true, true, true, true, true, true, true, true, true, true, true, true, true, true, true, true, true, true, true, true, true, true, true, true, true, true, true, true, true, true, true, true, true, true, true, true, true, true, true, true, true, true, true, true, true, true, true, true, true, true, true, true, true, true, true, true, true, true, true, true, true, true, true, true, true, true, true, true, true, true, true, true, true, true, true, true, true, true, true, true, true, true, false, false, false, false, false, false, false, false, false, false] rfl rfl (any_of HT_.out (by kernel_rfl)) (fun _ _ _ h => h) (Or.inl ⟨by rfl, ?_⟩) ?_ ?_
                         rotate_left
                         ·intro w'
                          go_simp
                          with_reducible rfl
                         rotate_left
                         ·simp only [Act.put, List.setIfInBounds_toArray, List.set_cons_zero, List.set_cons_succ, i64_w, i32_w]
                          rfl
                         refine pure_ (i := 83) (N := some 153) (v := ?_) (a' := ?_) #[true, true, true, true, true, true, true, true, true, true, true, true, true, true, true, true, true, true, true, true, true, true, true, true, true, true, true, true, true, true, true, true, true, true, true, true, true, true, true, true, true, true, true, true, true, true, true, true, true, true, true, true, true, true, true, true, true, true, true, true, true, true, true, true, true, true, true, true, true, true, true, true, true, true, true, true, true, true, true, true, true, true, true, true, false, false, false, false, false, false, false, false, false] rfl rfl (any_of HT_.out (by kernel_rfl)) (fun _ _ _ h => h) (Or.inl ⟨by rfl, ?_⟩) ?_ ?_
                         rotate_left
                         ·intro w'
                          go_simp
                          with_reducible rfl
                         rotate_left
                         ·simp only [Act.put, List.setIfInBounds_toArray, List.set_cons_zero, List.set_cons_succ, i64_w, i32_w]
                          rfl
                         refine one_ (i := 84) (N := some 154) #[true, true, true, true, true, true, true, true, true, true, true, true, true, true, true, true, true, true, true, true, true, true, true, true, true, true, true, true, true, true, true, true, true, true, true, true, true, true, true, true, true, true, true, true, true, true, true, true, true, true, true, true, true, true, true, true, true, true, true, true, true, true, true, true, true, true, true, true, true, true, true, true, true, true, true, true, true, true, true, true, true, true, true, true, true, false, false, false, false, false, false, false, false] rfl rfl (one_of HT_.out (by kernel_rfl)) (by decide) (fun K hK => ?_)
                         refine Kd.R_lit_step k36 _ 36 ?hg (N := 154) ?hd (xs := ([(⟨(⟨#[110]⟩ : ByteArray), 1⟩ : S36), (⟨(⟨#[110]⟩ : ByteArray), 2⟩ : S36)] : List (S36))) (inner := [.string (⟨#[110]⟩ : ByteArray), .int .i64 1, .string (⟨#[110]⟩ : ByteArray), .int .i64 2]) (ok := fun _ => True) (okp := fun _ => True) ?hr ?hp (fun _ hk => hk) trivial (Below.refl _ _) (Nat.le_refl _) (by simp) ?_; (case hd => rfl); (case hg => rfl); (case hr => first | (go_simp; done) | (go_simp; rfl)); (case hp => exact (Reps.c2 (show Kd.M k36 _ _ _ (⟨(⟨#[110]⟩ : ByteArray), 1⟩ : S36) [.string (⟨#[110]⟩ : ByteArray), .int .i64 1] from (k36_mkM _ _ _ (⟨(⟨#[110]⟩ : ByteArray), 1⟩ : S36) )) (Reps.c2 (show Kd.M k36 _ _ _ (⟨(⟨#[110]⟩ : ByteArray), 2⟩ : S36) [.string (⟨#[110]⟩ : ByteArray), .int .i64 2] from (k36_mkM _ _ _ (⟨(⟨#[110]⟩ : ByteArray), 2⟩ : S36) )) (Reps.none _ _))))
                         intro v268 w82 ho83 hb hg_ hnew_
                         have HS0_ := (hb.cell (World.block_lt_of_cell? _ _ (hHeld.1))).trans (hHeld.1)
                         have HS1_ := (hb.cell (World.block_lt_of_cell? _ _ (hHeld.2.1))).trans (hHeld.2.1)
                         have HS2_ := (hb.cell (World.block_lt_of_cell? _ _ (hHeld.2.2.1))).trans (hHeld.2.2.1)
                         have HS3_ := (hb.cell (World.block_lt_of_cell? _ _ (hHeld.2.2.2.1))).trans (hHeld.2.2.2.1)
                         have HS4_ := (hb.cell (World.block_lt_of_cell? _ _ (hHeld.2.2.2.2.1))).trans (hHeld.2.2.2.2.1)
                         have HS5_ := (hb.cell (World.block_lt_of_cell? _ _ (hHeld.2.2.2.2.2.1))).trans (hHeld.2.2.2.2.2.1)
                         have HS6_ := (hb.cell (World.block_lt_of_cell? _ _ (hHeld.2.2.2.2.2.2.1))).trans (hHeld.2.2.2.2.2.2.1)
                         have HS7_ := (hb.cell (World.block_lt_of_cell? _ _ (hHeld.2.2.2.2.2.2.2.1))).trans (hHeld.2.2.2.2.2.2.2.1)
                         have HS8_ := (hb.cell (World.block_lt_of_cell? _ _ (hHeld.2.2.2.2.2.2.2.2.1))).trans (hHeld.2.2.2.2.2.2.2.2.1)
                         have HS9_ := (hb.cell (World.block_lt_of_cell? _ _ (hHeld.2.2.2.2.2.2.2.2.2.1))).trans (hHeld.2.2.2.2.2.2.2.2.2.1)
                         have HS10_ := (hb.cell (World.block_lt_of_cell? _ _ (hHeld.2.2.2.2.2.2.2.2.2.2.1))).trans (hHeld.2.2.2.2.2.2.2.2.2.2.1)
                         have HS11_ := (hb.cell (World.block_lt_of_cell? _ _ (hHeld.2.2.2.2.2.2.2.2.2.2.2.1))).trans (hHeld.2.2.2.2.2.2.2.2.2.2.2.1)
                         have HS12_ := (hb.cell (World.block_lt_of_cell? _ _ (hHeld.2.2.2.2.2.2.2.2.2.2.2.2.1))).trans (hHeld.2.2.2.2.2.2.2.2.2.2.2.2.1)
                         have HS13_ := (hb.cell (World.block_lt_of_cell? _ _ (hHeld.2.2.2.2.2.2.2.2.2.2.2.2.2.1))).trans (hHeld.2.2.2.2.2.2.2.2.2.2.2.2.2.1)
                         have HS14_ := (hb.cell (World.block_lt_of_cell? _ _ (hHeld.2.2.2.2.2.2.2.2.2.2.2.2.2.2.1))).trans (hHeld.2.2.2.2.2.2.2.2.2.2.2.2.2.2.1)
                         have HS15_ := (hb.cell (World.block_lt_of_cell? _ _ (hHeld.2.2.2.2.2.2.2.2.2.2.2.2.2.2.2.1))).trans (hHeld.2.2.2.2.2.2.2.2.2.2.2.2.2.2.2.1)
                         have HS16_ := (hb.cell (World.block_lt_of_cell? _ _ (hHeld.2.2.2.2.2.2.2.2.2.2.2.2.2.2.2.2.1))).trans (hHeld.2.2.2.2.2.2.2.2.2.2.2.2.2.2.2.2.1)
                         have HS17_ := (hb.cell (World.block_lt_of_cell? _ _ (hHeld.2.2.2.2.2.2.2.2.2.2.2.2.2.2.2.2.2.1))).trans (hHeld.2.2.2.2.2.2.2.2.2.2.2.2.2.2.2.2.2.1)
                         have HS18_ := (hb.cell (World.block_lt_of_cell? _ _ (hHeld.2.2.2.2.2.2.2.2.2.2.2.2.2.2.2.2.2.2.1))).trans (hHeld.2.2.2.2.2.2.2.2.2.2.2.2.2.2.2.2.2.2.1)
                         have HS19_ := (hb.cell (World.block_lt_of_cell? _ _ (hHeld.2.2.2.2.2.2.2.2.2.2.2.2.2.2.2.2.2.2.2.1))).trans (hHeld.2.2.2.2.2.2.2.2.2.2.2.2.2.2.2.2.2.2.2.1)
                         have HS20_ := (hb.cell (World.block_lt_of_cell? _ _ (hHeld.2.2.2.2.2.2.2.2.2.2.2.2.2.2.2.2.2.2.2.2.1))).trans (hHeld.2.2.2.2.2.2.2.2.2.2.2.2.2.2.2.2.2.2.2.2.1)
                         have HS21_ := (hb.cell (World.block_lt_of_cell? _ _ (hHeld.2.2.2.2.2.2.2.2.2.2.2.2.2.2.2.2.2.2.2.2.2))).trans (hHeld.2.2.2.2.2.2.2.2.2.2.2.2.2.2.2.2.2.2.2.2.2)
                         clear hg_ hnew_
                         (first | rw [← Ny267.out] at ho83 | (simp only [Int.reduceToNat] at ho83; rw [← Ny267.out] at ho83))
                         have n0_ := Aside0.mk (Kd.R_elder' (by (with_reducible repeat (first | apply Kd.R_alloc | apply Kd.R_drewN | apply Kd.R_drew)); exact HO_1.out) (Kd.R_base ho83) hb)
                         have n1_ := Aside0.mk (Kd.R_below (by (with_reducible repeat (first | apply Kd.R_alloc | apply Kd.R_drewN | apply Kd.R_drew)); exact HO_2.out) hb)
                         have n2_ := Aside0.mk (Kd.N_elder' (by (with_reducible repeat (first | apply Kd.N_alloc | apply Kd.N_drewN | apply Kd.N_drew)); exact HO_3.out) (Kd.R_base ho83) hb)
                         have n3_ := Aside0.mk (Kd.R_below (by (with_reducible repeat (first | apply Kd.R_alloc | apply Kd.R_drewN | apply Kd.R_drew)); exact HO_9.out) hb)
                         have n4_ := Aside0.mk (Kd.R_elder' (by (with_reducible repeat (first | apply Kd.R_alloc | apply Kd.R_drewN | apply Kd.R_drew)); exact HO_11.out) (Kd.R_base ho83) hb)
                         have n5_ := Aside0.mk (Kd.V_elder' (by (with_reducible repeat (first | apply Kd.V_alloc | apply Kd.V_drewN | apply Kd.V_drew)); exact HL241_0.out) (Kd.R_base ho83) hb)
                         have n6_ := Aside0.mk (Kd.V_elder' (by (with_reducible repeat (first | apply Kd.V_alloc | apply Kd.V_drewN | apply Kd.V_drew)); exact HL247_0.out) (Kd.R_base ho83) hb)
                         have n7_ := Aside0.mk (Kd.V_elder' (by (with_reducible repeat (first | apply Kd.V_alloc | apply Kd.V_drewN | apply Kd.V_drew)); exact HO254.out) (Kd.R_base ho83) hb)
                         have n8_ := Aside0.mk (Kd.R_below (by (with_reducible repeat (first | apply Kd.R_alloc | apply Kd.R_drewN | apply Kd.R_drew)); exact HO261.out) hb)
                         have n9_ := Aside0.mk (Kd.R_elder' (by (with_reducible repeat (first | apply Kd.R_alloc | apply Kd.R_drewN | apply Kd.R_drew)); exact HO265.out) (Kd.R_base ho83) hb)
                         have n10_ := Aside0.mk (Kd.R_lower (Kd.R_new' (Kd.R_new' (Kd.R_new' ho83 (Kd.R_lt (by (with_reducible repeat (first | apply Kd.R_alloc | apply Kd.R_drewN | apply Kd.R_drew)); exact HO_1.out))) (Kd.R_lt (by (with_reducible repeat (first | apply Kd.R_alloc | apply Kd.R_drewN | apply Kd.R_drew)); exact HO_11.out))) (Kd.R_lt (by (with_reducible repeat (first | apply Kd.R_alloc | apply Kd.R_drewN | apply Kd.R_drew)); exact HO265.out))) (below_size (by repeat (first | (with_reducible first | exact HB.out | apply below_alloc | apply pw_below_drewN | apply below_drew1) | exact HB.out))))
                         have n11_ := Aside0.mk (Kd.C_below (d := k44) (xs := rd_L7 t215 2) (A := (some ad242)) (n := (rd_L7 t215 2).length) (by repeat (first | (with_reducible exact HR241_0.out) | (with_reducible refine Kd.C_alloc ?_ _) | (with_reducible refine Kd.C_drewN ?_ _) | (with_reducible refine Kd.C_drew ?_) | exact HR241_0.out)) hb)
                         have n12_ := Aside0.mk (Kd.C_below (d := k44) (xs := rd_L7 t215 0) (A := (some ad248)) (n := (rd_L7 t215 0).length) (by repeat (first | (with_reducible exact HR247_0.out) | (with_reducible refine Kd.C_alloc ?_ _) | (with_reducible refine Kd.C_drewN ?_ _) | (with_reducible refine Kd.C_drew ?_) | exact HR247_0.out)) hb)
                         have n13_ := Aside0.mk (below_step (by repeat (first | (with_reducible first | exact HB.out | apply below_alloc | apply pw_below_drewN | apply below_drew1) | exact HB.out)) hb)
                         clear HO_1
                         clear HO_2
                         clear HO_3
                         clear HO_9
                         clear HO_11
                         clear HL241_0
                         clear HL247_0
                         clear HO254
                         clear HO261
                         clear HO265
                         clear HR241_0
                         clear HR247_0
                         clear HB
                         have HO_1 := n0_
                         have HO_2 := n1_
                         have HO_3 := n2_
                         have HO_9 := n3_
                         have HO_11 := n4_
                         have HL241_0 := n5_
                         have HL247_0 := n6_
                         have HO254 := n7_
                         have HO261 := n8_
                         have HO265 := n9_
                         have HO269 := n10_
                         have HR241_0 := n11_
                         have HR247_0 := n12_
                         have HB := n13_
                         clear n0_ n1_ n2_ n3_ n4_ n5_ n6_ n7_ n8_ n9_ n10_ n11_ n12_ n13_
                         clear hb ho83
                         obtain ⟨Ao84, co84, eo84⟩ := Kd.R_slice HO269.out
                         (first | subst eo84 | (injection eo84 with f1_ f2_ f3_; have f4_ := f1_.symm; have f5_ := f3_.symm; clear f1_ f2_ f3_; subst f4_; subst f5_))
                         refine hK.out _ _ ⟨HS0_, HS1_, HS2_, HS3_, HS4_, HS5_, HS6_, HS7_, HS8_, HS9_, HS10_, HS11_, HS12_, HS13_, HS14_, HS15_, HS16_, HS17_, HS18_, HS19_, HS20_, HS21_⟩ (fun hHeld => ?_)
                         clear hK K
                         refine norm_ (a' := ?_) ?_ ?_
                         rotate_left
                         ·show Act.put _ (some 154) _ = _
                          simp only [Act.put, List.setIfInBounds_toArray, List.set_cons_zero, List.set_cons_succ, i64_w, i32_w]
                          rfl
                         refine one_ (i := 85) (N := some 155) #[true, true, true, true, true, true, true, true, true, true, true, true, true, true, true, true, true, true, true, true, true, true, true, true, true, true, true, true, true, true, true, true, true, true, true, true, true, true, true, true, true, true, true, true, true, true, true, true, true, true, true, true, true, true, true, true, true, true, true, true, true, true, true, true, true, true, true, true, true, true, true, true, true, true, true, true, true, true, true, true, true, true, true, true, true, true, false, false, false, false, false, false, false] rfl rfl (one_of HT_.out (by kernel_rfl)) (by decide) (fun K hK => ?_)
                         refine goes_ Try.func10 (by kernel_rfl) rfl #[.slice Ao84 y267.length co84] (by rfl) rfl rfl (by (try simp only [List.map_toArray, List.map_cons, List.map_nil]); first | done | rfl | (simp only [List.length_drop, List.length_take]; rfl)) ?_
                         with_reducible refine (schema_Check.calls kj10 _ _ y267 t270 _ ?side1 ?side2 A64.out).mono ?_
                         (case side1 => repeat (first | exact (Kd.R_reads' HO269.out).2.2 | (with_reducible refine Kd.C_alloc ?_ _) | (with_reducible refine Kd.C_drewN ?_ _) | (with_reducible refine Kd.C_drew ?_)))
                         (case side2 => exact (Kd.R_reads' HO269.out).2.1)
                         rintro e w85 ⟨rfl, hb⟩
                         have HS0_ := (hb.cell (World.block_lt_of_cell? _ _ (hHeld.1))).trans (hHeld.1)
                         have HS1_ := (hb.cell (World.block_lt_of_cell? _ _ (hHeld.2.1))).trans (hHeld.2.1)
                         have HS2_ := (hb.cell (World.block_lt_of_cell? _ _ (hHeld.2.2.1))).trans (hHeld.2.2.1)
                         have HS3_ := (hb.cell (World.block_lt_of_cell? _ _ (hHeld.2.2.2.1))).trans (hHeld.2.2.2.1)
                         have HS4_ := (hb.cell (World.block_lt_of_cell? _ _ (hHeld.2.2.2.2.1))).trans (hHeld.2.2.2.2.1)
                         have HS5_ := (hb.cell (World.block_lt_of_cell? _ _ (hHeld.2.2.2.2.2.1))).trans (hHeld.2.2.2.2.2.1)
                         have HS6_ := (hb.cell (World.block_lt_of_cell? _ _ (hHeld.2.2.2.2.2.2.1))).trans (hHeld.2.2.2.2.2.2.1)
                         have HS7_ := (hb.cell (World.block_lt_of_cell? _ _ (hHeld.2.2.2.2.2.2.2.1))).trans (hHeld.2.2.2.2.2.2.2.1)
                         have HS8_ := (hb.cell (World.block_lt_of_cell? _ _ (hHeld.2.2.2.2.2.2.2.2.1))).trans (hHeld.2.2.2.2.2.2.2.2.1)
                         have HS9_ := (hb.cell (World.block_lt_of_cell? _ _ (hHeld.2.2.2.2.2.2.2.2.2.1))).trans (hHeld.2.2.2.2.2.2.2.2.2.1)
                         have HS10_ := (hb.cell (World.block_lt_of_cell? _ _ (hHeld.2.2.2.2.2.2.2.2.2.2.1))).trans (hHeld.2.2.2.2.2.2.2.2.2.2.1)
                         have HS11_ := (hb.cell (World.block_lt_of_cell? _ _ (hHeld.2.2.2.2.2.2.2.2.2.2.2.1))).trans (hHeld.2.2.2.2.2.2.2.2.2.2.2.1)
                         have HS12_ := (hb.cell (World.block_lt_of_cell? _ _ (hHeld.2.2.2.2.2.2.2.2.2.2.2.2.1))).trans (hHeld.2.2.2.2.2.2.2.2.2.2.2.2.1)
                         have HS13_ := (hb.cell (World.block_lt_of_cell? _ _ (hHeld.2.2.2.2.2.2.2.2.2.2.2.2.2.1))).trans (hHeld.2.2.2.2.2.2.2.2.2.2.2.2.2.1)
                         have HS14_ := (hb.cell (World.block_lt_of_cell? _ _ (hHeld.2.2.2.2.2.2.2.2.2.2.2.2.2.2.1))).trans (hHeld.2.2.2.2.2.2.2.2.2.2.2.2.2.2.1)
                         have HS15_ := (hb.cell (World.block_lt_of_cell? _ _ (hHeld.2.2.2.2.2.2.2.2.2.2.2.2.2.2.2.1))).trans (hHeld.2.2.2.2.2.2.2.2.2.2.2.2.2.2.2.1)
                         have HS16_ := (hb.cell (World.block_lt_of_cell? _ _ (hHeld.2.2.2.2.2.2.2.2.2.2.2.2.2.2.2.2.1))).trans (hHeld.2.2.2.2.2.2.2.2.2.2.2.2.2.2.2.2.1)
                         have HS17_ := (hb.cell (World.block_lt_of_cell? _ _ (hHeld.2.2.2.2.2.2.2.2.2.2.2.2.2.2.2.2.2.1))).trans (hHeld.2.2.2.2.2.2.2.2.2.2.2.2.2.2.2.2.2.1)
                         have HS18_ := (hb.cell (World.block_lt_of_cell? _ _ (hHeld.2.2.2.2.2.2.2.2.2.2.2.2.2.2.2.2.2.2.1))).trans (hHeld.2.2.2.2.2.2.2.2.2.2.2.2.2.2.2.2.2.2.1)
                         have HS19_ := (hb.cell (World.block_lt_of_cell? _ _ (hHeld.2.2.2.2.2.2.2.2.2.2.2.2.2.2.2.2.2.2.2.1))).trans (hHeld.2.2.2.2.2.2.2.2.2.2.2.2.2.2.2.2.2.2.2.1)
                         have HS20_ := (hb.cell (World.block_lt_of_cell? _ _ (hHeld.2.2.2.2.2.2.2.2.2.2.2.2.2.2.2.2.2.2.2.2.1))).trans (hHeld.2.2.2.2.2.2.2.2.2.2.2.2.2.2.2.2.2.2.2.2.1)
                         have HS21_ := (hb.cell (World.block_lt_of_cell? _ _ (hHeld.2.2.2.2.2.2.2.2.2.2.2.2.2.2.2.2.2.2.2.2.2))).trans (hHeld.2.2.2.2.2.2.2.2.2.2.2.2.2.2.2.2.2.2.2.2.2)
                         refine ⟨_, rfl, ?_⟩
                         have n0_ := Aside0.mk (Kd.R_below (by (with_reducible repeat (first | apply Kd.R_alloc | apply Kd.R_drewN | apply Kd.R_drew)); exact HO_1.out) hb)
                         have n1_ := Aside0.mk (Kd.R_below (by (with_reducible repeat (first | apply Kd.R_alloc | apply Kd.R_drewN | apply Kd.R_drew)); exact HO_2.out) hb)
                         have n2_ := Aside0.mk (Kd.N_below (by (with_reducible repeat (first | apply Kd.N_alloc | apply Kd.N_drewN | apply Kd.N_drew)); exact HO_3.out) hb)
                         have n3_ := Aside0.mk (Kd.R_below (by (with_reducible repeat (first | apply Kd.R_alloc | apply Kd.R_drewN | apply Kd.R_drew)); exact HO_9.out) hb)
                         have n4_ := Aside0.mk (Kd.R_below (by (with_reducible repeat (first | apply Kd.R_alloc | apply Kd.R_drewN | apply Kd.R_drew)); exact HO_11.out) hb)
                         have n5_ := Aside0.mk (Kd.V_below (by (with_reducible repeat (first | apply Kd.V_alloc | apply Kd.V_drewN | apply Kd.V_drew)); exact HL241_0.out) hb)
                         have n6_ := Aside0.mk (Kd.V_below (by (with_reducible repeat (first | apply Kd.V_alloc | apply Kd.V_drewN | apply Kd.V_drew)); exact HL247_0.out) hb)
                         have n7_ := Aside0.mk (Kd.V_below (by (with_reducible repeat (first | apply Kd.V_alloc | apply Kd.V_drewN | apply Kd.V_drew)); exact HO254.out) hb)
                         have n8_ := Aside0.mk (Kd.R_below (by (with_reducible repeat (first | apply Kd.R_alloc | apply Kd.R_drewN | apply Kd.R_drew)); exact HO261.out) hb)
                         have n9_ := Aside0.mk (Kd.R_below (by (with_reducible repeat (first | apply Kd.R_alloc | apply Kd.R_drewN | apply Kd.R_drew)); exact HO265.out) hb)
                         have n10_ := Aside0.mk (Kd.R_below (by (with_reducible repeat (first | apply Kd.R_alloc | apply Kd.R_drewN | apply Kd.R_drew)); exact HO269.out) hb)
                         have n11_ := Aside0.mk (Kd.C_below (d := k44) (xs := rd_L7 t215 2) (A := (some ad242)) (n := (rd_L7 t215 2).length) (by repeat (first | (with_reducible exact HR241_0.out) | (with_reducible refine Kd.C_alloc ?_ _) | (with_reducible refine Kd.C_drewN ?_ _) | (with_reducible refine Kd.C_drew ?_) | exact HR241_0.out)) hb)
                         have n12_ := Aside0.mk (Kd.C_below (d := k44) (xs := rd_L7 t215 0) (A := (some ad248)) (n := (rd_L7 t215 0).length) (by repeat (first | (with_reducible exact HR247_0.out) | (with_reducible refine Kd.C_alloc ?_ _) | (with_reducible refine Kd.C_drewN ?_ _) | (with_reducible refine Kd.C_drew ?_) | exact HR247_0.out)) hb)
                         have n13_ := Aside0.mk (below_step (by repeat (first | (with_reducible first | exact HB.out | apply below_alloc | apply pw_below_drewN | apply below_drew1) | exact HB.out)) hb)
                         clear HO_1
                         clear HO_2
                         clear HO_3
                         clear HO_9
                         clear HO_11
                         clear HL241_0
                         clear HL247_0
                         clear HO254
                         clear HO261
                         clear HO265
                         clear HO269
                         clear HR241_0
                         clear HR247_0
                         clear HB
                         have HO_1 := n0_
                         have HO_2 := n1_
                         have HO_3 := n2_
                         have HO_9 := n3_
                         have HO_11 := n4_
                         have HL241_0 := n5_
                         have HL247_0 := n6_
                         have HO254 := n7_
                         have HO261 := n8_
                         have HO265 := n9_
                         have HO269 := n10_
                         have HR241_0 := n11_
                         have HR247_0 := n12_
                         have HB := n13_
                         clear n0_ n1_ n2_ n3_ n4_ n5_ n6_ n7_ n8_ n9_ n10_ n11_ n12_ n13_
                         (try clear hb)
                         (try clear hb2)
                         (try clear hk)
                         (try clear hi)
                         refine hK.out _ _ ⟨HS0_, HS1_, HS2_, HS3_, HS4_, HS5_, HS6_, HS7_, HS8_, HS9_, HS10_, HS11_, HS12_, HS13_, HS14_, HS15_, HS16_, HS17_, HS18_, HS19_, HS20_, HS21_⟩ (fun hHeld => ?_)
                         clear hK K
                         refine norm_ (a' := ?_) ?_ ?_
                         rotate_left
                         ·show Act.put _ (some 155) _ = _
                          simp only [Act.put, List.setIfInBounds_toArray, List.set_cons_zero, List.set_cons_succ, i64_w, i32_w]
                          rfl
                         refine pure_ (i := 86) (N := some 156) (v := ?_) (a' := ?_) #[true, true, true, true, true, true, true, true, true, true, true, true, true, true, true, true, true, true, true, true, true, true, true, true, true, true, true, true, true, true, true, true, true, true, true, true, true, true, true, true, true, true, true, true, true, true, true, true, true, true, true, true, true, true, true, true, true, true, true, true, true, true, true, true, true, true, true, true, true, true, true, true, true, true, true, true, true, true, true, true, true, true, true, true, true, true, true, false, false, false, false, false, false] rfl rfl (any_of HT_.out (by kernel_rfl)) (fun _ _ _ h => h) (Or.inl ⟨by rfl, ?_⟩) ?_ ?_
                         rotate_left
                         ·intro w'
                          go_simp
                          with_reducible rfl
                         rotate_left
                         ·simp only [Act.put, List.setIfInBounds_toArray, List.set_cons_zero, List.set_cons_succ, i64_w, i32_w]
                          rfl
                         refine pure_ (i := 87) (N := some 157) (v := ?_) (a' := ?_) #[true, true, true, true, true, true, true, true, true, true, true, true, true, true, true, true, true, true, true, true, true, true, true, true, true, true, true, true, true, true, true, true, true, true, true, true, true, true, true, true, true, true, true, true, true, true, true, true, true, true, true, true, true, true, true, true, true, true, true, true, true, true, true, true, true, true, true, true, true, true, true, true, true, true, true, true, true, true, true, true, true, true, true, true, true, true, true, true, false, false, false, false, false] rfl rfl (any_of HT_.out (by kernel_rfl)) (fun _ _ _ h => h) (Or.inl ⟨by rfl, ?_⟩) ?_ ?_
                         rotate_left
                         ·intro w'
                          go_simp
                          with_reducible rfl
                         rotate_left
                         ·simp only [Act.put, List.setIfInBounds_toArray, List.set_cons_zero, List.set_cons_succ, i64_w, i32_w]
                          rfl
                         refine pure_ (i := 88) (N := some 158) (v := ?_) (a' := ?_) #[true, true, true, true, true, true, true, true, true, true, true, true, true, true, true, true, true, true, true, true, true, true, true, true, true, true, true, true, true, true, true, true, true, true, true, true, true, true, true, true, true, true, true, true, true, true, true, true, true, true, true, true, true, true, true, true, true, true, true, true, true, true, true, true, true, true, true, true, true, true, true, true, true, true, true, true, true, true, true, true, true, true, true, true, true, true, true, true, true, false, false, false, false] rfl rfl (any_of HT_.out (by kernel_rfl)) (fun _ _ _ h => h) (Or.inl ⟨by rfl, ?_⟩) ?_ ?_
                         rotate_left
                         ·intro w'
                          go_simp
                          with_reducible rfl
                         rotate_left
                         ·simp only [Act.put, List.setIfInBounds_toArray, List.set_cons_zero, List.set_cons_succ, i64_w, i32_w]
                          rfl
                         refine one_ (i := 89) (N := some 159) #[true, true, true, true, true, true, true, true, true, true, true, true, true, true, true, true, true, true, true, true, true, true, true, true, true, true, true, true, true, true, true, true, true, true, true, true, true, true, true, true, true, true, true, true, true, true, true, true, true, true, true, true, true, true, true, true, true, true, true, true, true, true, true, true, true, true, true, true, true, true, true, true, true, true, true, true, true, true, true, true, true, true, true, true, true, true, true, true, true, true, false, false, false] rfl rfl (one_of HT_.out (by kernel_rfl)) (by decide) (fun K hK => ?_)
                         refine goes_ Try.func10 (by kernel_rfl) rfl #[.slice none 0 0] (by rfl) rfl rfl (by (try simp only [List.map_toArray, List.map_cons, List.map_nil]); first | done | rfl | (simp only [List.length_drop, List.length_take]; rfl)) ?_
                         refine (schema_Check.calls kj10 _ _ ([] : List (S36)) t271 _ ?side1 ?side2 A66.out).mono ?_
                         (case side1 => exact Kd.C_nil _ _)
                         (case side2 => exact Nat.le_refl _)
                         rintro e w86 ⟨rfl, hb⟩
                         have HS0_ := (hb.cell (World.block_lt_of_cell? _ _ (hHeld.1))).trans (hHeld.1)
                         have HS1_ := (hb.cell (World.block_lt_of_cell? _ _ (hHeld.2.1))).trans (hHeld.2.1)
                         have HS2_ := (hb.cell (World.block_lt_of_cell? _ _ (hHeld.2.2.1))).trans (hHeld.2.2.1)
                         have HS3_ := (hb.cell (World.block_lt_of_cell? _ _ (hHeld.2.2.2.1))).trans (hHeld.2.2.2.1)
                         have HS4_ := (hb.cell (World.block_lt_of_cell? _ _ (hHeld.2.2.2.2.1))).trans (hHeld.2.2.2.2.1)
                         have HS5_ := (hb.cell (World.block_lt_of_cell? _ _ (hHeld.2.2.2.2.2.1))).trans (hHeld.2.2.2.2.2.1)
                         have HS6_ := (hb.cell (World.block_lt_of_cell? _ _ (hHeld.2.2.2.2.2.2.1))).trans (hHeld.2.2.2.2.2.2.1)
                         have HS7_ := (hb.cell (World.block_lt_of_cell? _ _ (hHeld.2.2.2.2.2.2.2.1))).trans (hHeld.2.2.2.2.2.2.2.1)
                         have HS8_ := (hb.cell (World.block_lt_of_cell? _ _ (hHeld.2.2.2.2.2.2.2.2.1))).trans (hHeld.2.2.2.2.2.2.2.2.1)
                         have HS9_ := (hb.cell (World.block_lt_of_cell? _ _ (hHeld.2.2.2.2.2.2.2.2.2.1))).trans (hHeld.2.2.2.2.2.2.2.2.2.1)
                         have HS10_ := (hb.cell (World.block_lt_of_cell? _ _ (hHeld.2.2.2.2.2.2.2.2.2.2.1))).trans (hHeld.2.2.2.2.2.2.2.2.2.2.1)
                         have HS11_ := (hb.cell (World.block_lt_of_cell? _ _ (hHeld.2.2.2.2.2.2.2.2.2.2.2.1))).trans (hHeld.2.2.2.2.2.2.2.2.2.2.2.1)
                         have HS12_ := (hb.cell (World.block_lt_of_cell? _ _ (hHeld.2.2.2.2.2.2.2.2.2.2.2.2.1))).trans (hHeld.2.2.2.2.2.2.2.2.2.2.2.2.1)
                         have HS13_ := (hb.cell (World.block_lt_of_cell? _ _ (hHeld.2.2.2.2.2.2.2.2.2.2.2.2.2.1))).trans (hHeld.2.2.2.2.2.2.2.2.2.2.2.2.2.1)
                         have HS14_ := (hb.cell (World.block_lt_of_cell? _ _ (hHeld.2.2.2.2.2.2.2.2.2.2.2.2.2.2.1))).trans (hHeld.2.2.2.2.2.2.2.2.2.2.2.2.2.2.1)
                         have HS15_ := (hb.cell (World.block_lt_of_cell? _ _ (hHeld.2.2.2.2.2.2.2.2.2.2.2.2.2.2.2.1))).trans (hHeld.2.2.2.2.2.2.2.2.2.2.2.2.2.2.2.1)
                         have HS16_ := (hb.cell (World.block_lt_of_cell? _ _ (hHeld.2.2.2.2.2.2.2.2.2.2.2.2.2.2.2.2.1))).trans (hHeld.2.2.2.2.2.2.2.2.2.2.2.2.2.2.2.2.1)
                         have HS17_ := (hb.cell (World.block_lt_of_cell? _ _ (hHeld.2.2.2.2.2.2.2.2.2.2.2.2.2.2.2.2.2.1))).trans (hHeld.2.2.2.2.2.2.2.2.2.2.2.2.2.2.2.2.2.1)
                         have HS18_ := (hb.cell (World.block_lt_of_cell? _ _ (hHeld.2.2.2.2.2.2.2.2.2.2.2.2.2.2.2.2.2.2.1))).trans (hHeld.2.2.2.2.2.2.2.2.2.2.2.2.2.2.2.2.2.2.1)
                         have HS19_ := (hb.cell (World.block_lt_of_cell? _ _ (hHeld.2.2.2.2.2.2.2.2.2.2.2.2.2.2.2.2.2.2.2.1))).trans (hHeld.2.2.2.2.2.2.2.2.2.2.2.2.2.2.2.2.2.2.2.1)
                         have HS20_ := (hb.cell (World.block_lt_of_cell? _ _ (hHeld.2.2.2.2.2.2.2.2.2.2.2.2.2.2.2.2.2.2.2.2.1))).trans (hHeld.2.2.2.2.2.2.2.2.2.2.2.2.2.2.2.2.2.2.2.2.1)
                         have HS21_ := (hb.cell (World.block_lt_of_cell? _ _ (hHeld.2.2.2.2.2.2.2.2.2.2.2.2.2.2.2.2.2.2.2.2.2))).trans (hHeld.2.2.2.2.2.2.2.2.2.2.2.2.2.2.2.2.2.2.2.2.2)
                         refine ⟨_, rfl, ?_⟩
                         have n0_ := Aside0.mk (Kd.R_below (by (with_reducible repeat (first | apply Kd.R_alloc | apply Kd.R_drewN | apply Kd.R_drew)); exact HO_1.out) hb)
                         have n1_ := Aside0.mk (Kd.R_below (by (with_reducible repeat (first | apply Kd.R_alloc | apply Kd.R_drewN | apply Kd.R_drew)); exact HO_2.out) hb)
                         have n2_ := Aside0.mk (Kd.N_below (by (with_reducible repeat (first | apply Kd.N_alloc | apply Kd.N_drewN | apply Kd.N_drew)); exact HO_3.out) hb)
                         have n3_ := Aside0.mk (Kd.R_below (by (with_reducible repeat (first | apply Kd.R_alloc | apply Kd.R_drewN | apply Kd.R_drew)); exact HO_9.out) hb)
                         have n4_ := Aside0.mk (Kd.R_below (by (with_reducible repeat (first | apply Kd.R_alloc | apply Kd.R_drewN | apply Kd.R_drew)); exact HO_11.out) hb)
                         have n5_ := Aside0.mk (Kd.V_below (by (with_reducible repeat (first | apply Kd.V_alloc | apply Kd.V_drewN | apply Kd.V_drew)); exact HL241_0.out) hb)
                         have n6_ := Aside0.mk (Kd.V_below (by (with_reducible repeat (first | apply Kd.V_alloc | apply Kd.V_drewN | apply Kd.V_drew)); exact HL247_0.out) hb)
                         have n7_ := Aside0.mk (Kd.V_below (by (with_reducible repeat (first | apply Kd.V_alloc | apply Kd.V_drewN | apply Kd.V_drew)); exact HO254.out) hb)
                         have n8_ := Aside0.mk (Kd.R_below (by (with_reducible repeat (first | apply Kd.R_alloc | apply Kd.R_drewN | apply Kd.R_drew)); exact HO261.out) hb)
                         have n9_ := Aside0.mk (Kd.R_below (by (with_reducible repeat (first | apply Kd.R_alloc | apply Kd.R_drewN | apply Kd.R_drew)); exact HO265.out) hb)
                         have n10_ := Aside0.mk (Kd.R_below (by (with_reducible repeat (first | apply Kd.R_alloc | apply Kd.R_drewN | apply Kd.R_drew)); exact HO269.out) hb)
                         have n11_ := Aside0.mk (Kd.C_below (d := k44) (xs := rd_L7 t215 2) (A := (some ad242)) (n := (rd_L7 t215 2).length) (by repeat (first | (with_reducible exact HR241_0.out) | (with_reducible refine Kd.C_alloc ?_ _) | (with_reducible refine Kd.C_drewN ?_ _) | (with_reducible refine Kd.C_drew ?_) | exact HR241_0.out)) hb)
                         have n12_ := Aside0.mk (Kd.C_below (d := k44) (xs := rd_L7 t215 0) (A := (some ad248)) (n := (rd_L7 t215 0).length) (by repeat (first | (with_reducible exact HR247_0.out) | (with_reducible refine Kd.C_alloc ?_ _) | (with_reducible refine Kd.C_drewN ?_ _) | (with_reducible refine Kd.C_drew ?_) | exact HR247_0.out)) hb)
                         have n13_ := Aside0.mk (below_step (by repeat (first | (with_reducible first | exact HB.out | apply below_alloc | apply pw_below_drewN | apply below_drew1) | exact HB.out)) hb)
                         clear HO_1
                         clear HO_2
                         clear HO_3
                         clear HO_9
                         clear HO_11
                         clear HL241_0
                         clear HL247_0
                         clear HO254
                         clear HO261
                         clear HO265
                         clear HO269
                         clear HR241_0
                         clear HR247_0
                         clear HB
                         have HO_1 := n0_
                         have HO_2 := n1_
                         have HO_3 := n2_
                         have HO_9 := n3_
                         have HO_11 := n4_
                         have HL241_0 := n5_
                         have HL247_0 := n6_
                         have HO254 := n7_
                         have HO261 := n8_
                         have HO265 := n9_
                         have HO269 := n10_
                         have HR241_0 := n11_
                         have HR247_0 := n12_
                         have HB := n13_
                         clear n0_ n1_ n2_ n3_ n4_ n5_ n6_ n7_ n8_ n9_ n10_ n11_ n12_ n13_
                         (try clear hb)
                         (try clear hb2)
                         (try clear hk)
                         (try clear hi)
                         refine hK.out _ _ ⟨HS0_, HS1_, HS2_, HS3_, HS4_, HS5_, HS6_, HS7_, HS8_, HS9_, HS10_, HS11_, HS12_, HS13_, HS14_, HS15_, HS16_, HS17_, HS18_, HS19_, HS20_, HS21_⟩ (fun hHeld => ?_)
                         clear hK K
                         refine norm_ (a' := ?_) ?_ ?_
                         rotate_left
                         ·show Act.put _ (some 159) _ = _
                          simp only [Act.put, List.setIfInBounds_toArray, List.set_cons_zero, List.set_cons_succ, i64_w, i32_w]
                          rfl
                         refine pure_ (i := 90) (N := some 160) (v := ?_) (a' := ?_) #[true, true, true, true, true, true, true, true, true, true, true, true, true, true, true, true, true, true, true, true, true, true, true, true, true, true, true, true, true, true, true, true, true, true, true, true, true, true, true, true, true, true, true, true, true, true, true, true, true, true, true, true, true, true, true, true, true, true, true, true, true, true, true, true, true, true, true, true, true, true, true, true, true, true, true, true, true, true, true, true, true, true, true, true, true, true, true, true, true, true, true, false, false] rfl rfl (any_of HT_.out (by kernel_rfl)) (fun _ _ _ h => h) (Or.inl ⟨by rfl, ?_⟩) ?_ ?_
                         rotate_left
                         ·intro w'
                          go_simp
                          with_reducible rfl
                         rotate_left
                         ·simp only [Act.put, List.setIfInBounds_toArray, List.set_cons_zero, List.set_cons_succ, i64_w, i32_w]
                          rfl
                         refine pure_ (i := 91) (N := some 161) (v := ?_) (a' := ?_) #[true, true, true, true, true, true, true, true, true, true, true, true, true, true, true, true, true, true, true, true, true, true, true, true, true, true, true, true, true, true, true, true, true, true, true, true, true, true, true, true, true, true, true, true, true, true, true, true, true, true, true, true, true, true, true, true, true, true, true, true, true, true, true, true, true, true, true, true, true, true, true, true, true, true, true, true, true, true, true, true, true, true, true, true, true, true, true, true, true, true, true, true, false] rfl rfl (any_of HT_.out (by kernel_rfl)) (fun _ _ _ h => h) (Or.inl ⟨by rfl, ?_⟩) ?_ ?_
                         rotate_left
                         ·intro w'
                          go_simp
                          with_reducible rfl
                         rotate_left
                         ·simp only [Act.put, List.setIfInBounds_toArray, List.set_cons_zero, List.set_cons_succ, i64_w, i32_w]
                          rfl
                         refine pure_ (i := 92) (N := some 0) (v := ?_) (a' := ?_) #[true, true, true, true, true, true, true, true, true, true, true, true, true, true, true, true, true, true, true, true, true, true, true, true, true, true, true, true, true, true, true, true, true, true, true, true, true, true, true, true, true, true, true, true, true, true, true, true, true, true, true, true, true, true, true, true, true, true, true, true, true, true, true, true, true, true, true, true, true, true, true, true, true, true, true, true, true, true, true, true, true, true, true, true, true, true, true, true, true, true, true, true, true] rfl rfl (any_of HT_.out (by kernel_rfl)) (fun _ _ _ h => h) (Or.inl ⟨by rfl, ?_⟩) ?_ ?_
                         rotate_left
                         ·intro w'
                          go_simp
                          with_reducible rfl
                         rotate_left
                         ·simp only [Act.put, List.setIfInBounds_toArray, List.set_cons_zero, List.set_cons_succ, i64_w, i32_w]
                          rfl
                         refine done_ (done_of HT_.out (by kernel_rfl)) ?_
                         try go_wp2
                         go_ret
                         exact ⟨by first | rfl | (simp [errW_none, errW_some] <;> rfl) | (simp [*, errW_none, errW_some] <;> rfl), by repeat (first | (with_reducible first | exact HB.out | apply below_alloc | apply pw_below_drewN | apply below_drew1) | exact HB.out)⟩
                        ·rw [if_neg c65] at H
                         exact absurd H (by simp)
                       ·rw [if_neg c63] at H
                        exact absurd H (by simp)
                      ·rw [if_neg c61] at H
                       exact absurd H (by simp)
                     ·rw [if_neg c59] at H
                      exact absurd H (by simp)
                    ·rw [if_neg c58] at H
                     exact absurd H (by simp)
                   ·rw [if_neg c57] at H
                    exact absurd H (by simp)
                  ·rw [if_neg c55] at H
                   exact absurd H (by simp)
                 ·rw [if_neg c54] at H
                  exact absurd H (by simp)
                ·rw [if_neg c53] at H
                 exact absurd H (by simp)
               ·replace c52 := Bool.eq_false_iff.mpr c52
                subst c52
                have H1 : (none) = some r := by rw [if_neg (show ¬ (false = true) by decide)] at H; exact H
                clear H
                have H := H1
                clear H1
                exact absurd H (by simp)
              ·rw [if_neg c50] at H
               exact absurd H (by simp)
             ·rw [if_neg c49] at H
              exact absurd H (by simp)
            ·rw [if_neg c48] at H
             exact absurd H (by simp)
           ·rw [if_neg c47] at H
            exact absurd H (by simp)
          ·rw [if_neg c46] at H
           exact absurd H (by simp)
         ·rw [if_neg c44] at H
          exact absurd H (by simp)
        ·rw [if_neg c43] at H
         exact absurd H (by simp)
      ·rw [if_neg c41] at H
       exact absurd H (by simp)
     ·replace c40 := Bool.eq_false_iff.mpr c40
      subst c40
      have H1 : (none) = some r := by rw [if_neg (show ¬ (false = true) by decide)] at H; exact H
      clear H
      have H := H1
      clear H1
      exact absurd H (by simp)
    ·rw [if_neg c39] at H
     exact absurd H (by simp)

end Go.Proofs.Ythflicjbclcbaaa.PAll
