-- Printed by this session's own program (wip/tools/pp.py): out of the translation. Lean checks it.
import Derived.Test.YtaflcaillcjmmaaGreatDoorPAllx0
import Derived.Test.YtaflcaillcjmmaaGreatDoorPAllx1
import Derived.Test.YtaflcaillcjmmaaGreatDoorPAllx5
import Derived.Test.YtaflcaillcjmmaaGreatDoorPAllx6
import Derived.Test.YtaflcaillcjmmaaGreatDoorPAllx7
import Derived.Test.YtaflcaillcjmmaaGreatDoorPAllx8
namespace Go.Proofs.YtaflcaillcjmmaaGreatDoor.PAll
open Go.Proofs.YtaflcaillcjmmaaGreatDoor.Help
open Go.RowKit Go.Proofs.YtaflcaillcjmmaaGreatDoorW.PrintWords Go.Proofs.YtaflcaillcjmmaaGreatDoorW.PrintLast Go.Proofs.YtaflcaillcjmmaaGreatDoorW.PrintMore
attribute [local go_sem] run_fl_eql run_fl_neq run_fl_lss run_fl_leq run_fl_gtr run_fl_geq unary_fl_neg run_cx_eql run_cx_neq run_cx_make run_cx_real run_cx_imag run_fl_of run_fl_to64 run_fl_add run_fl_sub run_fl_mul run_cx_add run_cx_sub run_cx_store run_fl_store str_gtr str_leq str_geq cell_put3_0 cell_put3_1 cell_put4_0 cell_put4_1 max2_int min2_int max_two min_two max_three min_three max_four min_four   -- for this text's walks alone
set_option linter.unusedVariables false
set_option linter.unusedSimpArgs false

attribute [local go_sem high] eqA25
/-! ### norialaw3_known: function 4 -/
def norialaw3_known.f (k : Nat)  : Option (Bool) := (val_Parse.f k (⟨#[34, 54, 49, 54, 102]⟩ : ByteArray)).bind fun bt199 => ((val_Parse.f k (⟨#[45, 55]⟩ : ByteArray)).bind fun bt205 => ((val_Parse.f k (⟨#[45, 49, 43, 50, 105]⟩ : ByteArray)).bind fun bt211 => ((val_Parse.f k (⟨#[45]⟩ : ByteArray)).bind fun bt217 => ((val_Parse.f k (⟨#[34, 54]⟩ : ByteArray)).bind fun bt223 => ((val_Parse.f k (⟨#[57, 50, 50, 51, 51, 55, 50, 48, 51, 54, 56, 53, 52, 55, 55, 53, 56, 48, 56]⟩ : ByteArray)).bind fun bt229 => ((val_Parse.f k (⟨#[34, 54, 65]⟩ : ByteArray)).bind fun bt235 => (if (wrap64 ((wrap64 ((wrap64 (bt199.2.2.2.2 + bt205.2.2.2.2)) + bt211.2.2.2.2)) + bt217.2.2.2.2)) = 0 then ((norialaw3_S.f (⟨#[97, 111]⟩ : ByteArray)).bind fun bt241 => (if (bt199.1 == bt241.1 && (bt199.2.1 == bt241.2.1 && (bt199.2.2.1.toList == bt241.2.2.1.toList && (cEq bt199.2.2.2.1.1 bt199.2.2.2.1.2 bt241.2.2.2.1 bt241.2.2.2.2)))) = true then ((norialaw3_N.f (-7)).bind fun bt245 => (if (bt205.1 == bt245.1 && (bt205.2.1 == bt245.2.1 && (bt205.2.2.1.toList == bt245.2.2.1.toList && (cEq bt205.2.2.2.1.1 bt205.2.2.2.1.2 bt245.2.2.2.1 bt245.2.2.2.2)))) = true then ((norialaw3_C.f (-1) 2).bind fun bt249 => (if (bt211.1 == bt249.1 && (bt211.2.1 == bt249.2.1 && (bt211.2.2.1.toList == bt249.2.2.1.toList && (cEq bt211.2.2.2.1.1 bt211.2.2.2.1.2 bt249.2.2.2.1 bt249.2.2.2.2)))) = true then (if (bt217.1 == 0 && (bt217.2.1 == 0 && (bt217.2.2.1.toList.isEmpty && (cEq bt217.2.2.2.1.1 bt217.2.2.2.1.2 0 0)))) = true then (if bt223.2.2.2.2 = 2 then (if bt229.2.2.2.2 = 1 then (if bt235.2.2.2.2 = 2 then ((val_Text.f k bt199.1 bt199.2.1 bt199.2.2.1 bt199.2.2.2.1).bind fun t253 => (if t253.toList = ([34, 54, 49, 54, 102] : List UInt8) then ((val_Text.f k bt211.1 bt211.2.1 bt211.2.2.1 bt211.2.2.2.1).bind fun t254 => (if t254.toList = ([45, 49, 43, 50, 105] : List UInt8) then ((val_Text.f k bt217.1 bt217.2.1 bt217.2.2.1 bt217.2.2.2.1).bind fun t255 => (if t255.toList = ([45] : List UInt8) then ((norialaw3_N.f 9).bind fun bt256 => ((norialaw3_S.f (⟨#[]⟩ : ByteArray)).bind fun bt260 => ((val_Compare.f k bt256.1 bt256.2.1 bt256.2.2.1 bt256.2.2.2 bt260.1 bt260.2.1 bt260.2.2.1 bt260.2.2.2).bind fun t264 => (if t264 = (-1) then ((norialaw3_C.f 1 9).bind fun bt265 => ((norialaw3_C.f 2 0).bind fun bt269 => ((val_Compare.f k bt265.1 bt265.2.1 bt265.2.2.1 bt265.2.2.2 bt269.1 bt269.2.1 bt269.2.2.1 bt269.2.2.2).bind fun t273 => (if t273 = (-1) then ((norialaw3_C.f 1 9).bind fun bt274 => ((norialaw3_C.f 1 8).bind fun bt278 => ((val_Compare.f k bt274.1 bt274.2.1 bt274.2.2.1 bt274.2.2.2 bt278.1 bt278.2.1 bt278.2.2.1 bt278.2.2.2).bind fun t282 => (if t282 = 1 then ((norialaw3_N.f (-7)).bind fun bt283 => ((val_Same.f k bt205.1 bt205.2.1 bt205.2.2.1 bt205.2.2.2.1 bt283.1 bt283.2.1 bt283.2.2.1 bt283.2.2.2).bind fun t287 => (if t287 = true then ((val_Fits.f bt217.1 bt217.2.1 bt217.2.2.1 bt217.2.2.2.1 1).bind fun t288 => (if t288 = true then ((val_Fits.f bt199.1 bt199.2.1 bt199.2.2.1 bt199.2.2.2.1 1).bind fun t289 => (if t289 = true then (none) else ((val_Check.f k bt199.1 bt199.2.1 bt199.2.2.1 bt199.2.2.2.1).bind fun t290 => (if t290 = 0 then ((val_Check.f k 0 1 (⟨#[]⟩ : ByteArray) ((0, 0) : Nat × Nat)).bind fun t291 => (if t291 = 1 then ((val_Check.f k 4 0 (⟨#[]⟩ : ByteArray) ((0, 0) : Nat × Nat)).bind fun t292 => (some (t292 == 6))) else (none))) else (none))))) else (none))) else (none)))) else (none))))) else (none))))) else (none))))) else (none))) else (none))) else (none))) else (none)) else (none)) else (none)) else (none)) else (none))) else (none))) else (none))) else (none))))))))
theorem norialaw3_known.mono : ∀ k, LeO (norialaw3_known.f k ) (norialaw3_known.f (k + 1) ) := by
  intro  k
  unfold norialaw3_known.f
  repeat' first
      | (with_reducible exact val_Check.mono _ _ _ _ _)
      | (with_reducible exact val_Compare.mono _ _ _ _ _ _ _ _ _)
      | (with_reducible exact val_Parse.mono _ _)
      | (with_reducible exact val_Same.mono _ _ _ _ _ _ _ _ _)
      | (with_reducible exact val_Text.mono _ _ _ _ _)
      | (with_reducible exact LeO.refl _)
      | (with_reducible exact LeO.none _)
      | (with_reducible refine LeO.ite ?_ ?_)
      | (with_reducible refine LeO.bind ?_ (fun _ => ?_))
      | exact val_Check.mono _ _ _ _ _
      | exact val_Compare.mono _ _ _ _ _ _ _ _ _
      | exact val_Parse.mono _ _
      | exact val_Same.mono _ _ _ _ _ _ _ _ _
      | exact val_Text.mono _ _ _ _ _
      | exact LeO.none _
      | refine LeO.ite ?_ ?_
      | refine LeO.bind ?_ (fun _ => ?_)
def norialaw3_known.T8 : Bool × List (List Nat × List Nat) := (true, [([], []), ([], []), ([0, 1], [0, 1]), ([], []), ([2, 3], [2, 3]), ([], []), ([4, 5], [4, 5]), ([6], [6]), ([7], [7]), ([8], [8]), ([8, 8], [8]), ([9, 10, 8], [8, 9, 10]), ([8, 11], [8, 11]), ([12, 10], [12]), ([13], [13]), ([13, 13], [13]), ([14, 15, 13], [13, 14, 15]), ([13, 16], [13, 16]), ([17, 15], [17]), ([18], [18]), ([18, 18], [18]), ([19, 20, 18], [18, 19, 20]), ([18, 21], [18, 21]), ([22, 20], [22]), ([23], [23]), ([23], [23]), ([24, 25, 23], [23, 24, 25]), ([23, 26], [23, 26]), ([27, 23], [27]), ([28], [28]), ([29, 28], [28, 29]), ([28, 30], [28, 30]), ([31, 28], [31]), ([32], [32]), ([33, 32], [32, 33]), ([32, 34], [32, 34]), ([35, 32], [35]), ([36], [36]), ([37, 36], [36, 37]), ([36, 38], [36, 38]), ([39, 36], [39]), ([40], [40]), ([41, 40, 40], [40, 41]), ([42, 40], [40, 42]), ([40, 43], [40, 43]), ([44, 42], [44]), ([45], [45]), ([46, 45, 45], [45, 46]), ([47, 45], [45, 47]), ([45, 48], [45, 48]), ([49, 47], [49]), ([50], [50]), ([51, 50, 50], [50, 51]), ([52, 50], [50, 52]), ([50, 53], [50, 53]), ([54, 52], [54]), ([55, 55], [55]), ([56, 55], [55]), ([56, 57, 57, 55], [55, 56, 57]), ([58, 55], [55, 58]), ([55, 59], [55, 59]), ([60, 58], [60]), ([61, 61], [61]), ([62, 61], [61]), ([62, 63, 63, 61], [61, 62, 63]), ([64, 61], [61, 64]), ([61, 65], [61, 65]), ([66, 64], [66]), ([67, 67], [67]), ([68, 67], [67]), ([68, 69, 69, 67], [67, 68, 69]), ([70, 67], [67, 70]), ([67, 71], [67, 71]), ([72, 70], [72]), ([73], [73]), ([73, 73], [73]), ([74, 75, 75, 73], [73, 74, 75]), ([73, 76], [73, 76]), ([77, 76], [77]), ([78], [78]), ([79, 78, 78], [78, 79]), ([78, 80], [78, 80]), ([81, 80], [81]), ([82], [82]), ([83, 82, 82], [82, 83]), ([84, 82], [82, 84]), ([82, 85], [82, 85]), ([86, 84], [86]), ([87], [87]), ([88, 87, 87], [87, 88]), ([89, 87], [87, 89]), ([87, 90], [87, 90]), ([91, 89], [91]), ([92], [92]), ([93, 92, 92], [92, 93]), ([94, 92], [92, 94]), ([92, 95], [92, 95]), ([96, 94], [96]), ([97], [97]), ([98, 97, 97], [97, 98]), ([99, 97], [97, 99]), ([97, 100], [97, 100]), ([101, 99, 0, 1, 2, 3, 4, 5, 6, 7, 8, 9, 10, 11, 12, 13, 14, 15, 16, 17, 18, 19, 20, 21, 22, 23, 24, 25, 26, 27, 28, 29, 30, 31, 32, 33, 34, 35, 36, 37, 38, 39, 40, 41, 42, 43, 44, 45, 46, 47, 48, 49, 50, 51, 52, 53, 54, 55, 56, 57, 58, 59, 60, 61, 62, 63, 64, 65, 66, 67, 68, 69, 70, 71, 72, 73, 74, 75, 76, 77, 78, 79, 80, 81, 82, 83, 84, 85, 86, 87, 88, 89, 90, 91, 92, 93, 94, 95, 96, 97, 98, 99, 100, 101], [101])])
def norialaw3_known.B8 : List Nat := [0, 0, 3, 0, 15, 0, 63, 127, 255, 511, 511, 2047, 4095, 8191, 16383, 16383, 65535, 131071, 262143, 524287, 524287, 2097151, 4194303, 8388607, 16777215, 16777215, 67108863, 134217727, 268435455, 536870911, 1073741823, 2147483647, 4294967295, 8589934591, 17179869183, 34359738367, 68719476735, 137438953471, 274877906943, 549755813887, 1099511627775, 2199023255551, 4398046511103, 8796093022207, 17592186044415, 35184372088831, 70368744177663, 140737488355327, 281474976710655, 562949953421311, 1125899906842623, 2251799813685247, 4503599627370495, 9007199254740991, 18014398509481983, 36028797018963967, 72057594037927935, 144115188075855871, 288230376151711743, 576460752303423487, 1152921504606846975, 2305843009213693951, 4611686018427387903, 9223372036854775807, 18446744073709551615, 36893488147419103231, 73786976294838206463, 147573952589676412927, 295147905179352825855, 590295810358705651711, 1180591620717411303423, 2361183241434822606847, 4722366482869645213695, 9444732965739290427391, 18889465931478580854783, 18889465931478580854783, 75557863725914323419135, 151115727451828646838271, 302231454903657293676543, 604462909807314587353087, 1208925819614629174706175, 2417851639229258349412351, 4835703278458516698824703, 9671406556917033397649407, 19342813113834066795298815, 38685626227668133590597631, 77371252455336267181195263, 154742504910672534362390527, 309485009821345068724781055, 618970019642690137449562111, 1237940039285380274899124223, 2475880078570760549798248447, 4951760157141521099596496895, 9903520314283042199192993791, 19807040628566084398385987583, 39614081257132168796771975167, 79228162514264337593543950335, 158456325028528675187087900671, 316912650057057350374175801343, 633825300114114700748351602687, 1267650600228229401496703205375, 2535301200456458802993406410751, 5070602400912917605986812821503]
theorem norialaw3_known.tab8 : rtab .any (opsOf Tryz.f4 8) = norialaw3_known.T8 := by kernel_rfl
theorem norialaw3_known.bits8 : waitsOk norialaw3_known.T8.2 norialaw3_known.B8 = true := by kernel_rfl
set_option maxHeartbeats 8000000 in
set_option maxRecDepth 100000 in
theorem norialaw3_known.calls (k : Nat)  (r : Bool) (w : World) (h : norialaw3_known.f k  = some r) (hG_ : Glob w) :
    Calls Tryz.prog 4 #[] w fun e w' => e = .returned (.bool r) ∧ Below w.heap.size w w' := by
  have HG_ := Aside0.mk hG_
  clear hG_
  have hu25 := Tryz.underlying25
  have HB := Aside0.mk (Below.refl w.heap.size w)
  have H : ((val_Parse.f k (⟨#[34, 54, 49, 54, 102]⟩ : ByteArray)).bind fun bt199 => ((val_Parse.f k (⟨#[45, 55]⟩ : ByteArray)).bind fun bt205 => ((val_Parse.f k (⟨#[45, 49, 43, 50, 105]⟩ : ByteArray)).bind fun bt211 => ((val_Parse.f k (⟨#[45]⟩ : ByteArray)).bind fun bt217 => ((val_Parse.f k (⟨#[34, 54]⟩ : ByteArray)).bind fun bt223 => ((val_Parse.f k (⟨#[57, 50, 50, 51, 51, 55, 50, 48, 51, 54, 56, 53, 52, 55, 55, 53, 56, 48, 56]⟩ : ByteArray)).bind fun bt229 => ((val_Parse.f k (⟨#[34, 54, 65]⟩ : ByteArray)).bind fun bt235 => (if (wrap64 ((wrap64 ((wrap64 (bt199.2.2.2.2 + bt205.2.2.2.2)) + bt211.2.2.2.2)) + bt217.2.2.2.2)) = 0 then ((norialaw3_S.f (⟨#[97, 111]⟩ : ByteArray)).bind fun bt241 => (if (bt199.1 == bt241.1 && (bt199.2.1 == bt241.2.1 && (bt199.2.2.1.toList == bt241.2.2.1.toList && (cEq bt199.2.2.2.1.1 bt199.2.2.2.1.2 bt241.2.2.2.1 bt241.2.2.2.2)))) = true then ((norialaw3_N.f (-7)).bind fun bt245 => (if (bt205.1 == bt245.1 && (bt205.2.1 == bt245.2.1 && (bt205.2.2.1.toList == bt245.2.2.1.toList && (cEq bt205.2.2.2.1.1 bt205.2.2.2.1.2 bt245.2.2.2.1 bt245.2.2.2.2)))) = true then ((norialaw3_C.f (-1) 2).bind fun bt249 => (if (bt211.1 == bt249.1 && (bt211.2.1 == bt249.2.1 && (bt211.2.2.1.toList == bt249.2.2.1.toList && (cEq bt211.2.2.2.1.1 bt211.2.2.2.1.2 bt249.2.2.2.1 bt249.2.2.2.2)))) = true then (if (bt217.1 == 0 && (bt217.2.1 == 0 && (bt217.2.2.1.toList.isEmpty && (cEq bt217.2.2.2.1.1 bt217.2.2.2.1.2 0 0)))) = true then (if bt223.2.2.2.2 = 2 then (if bt229.2.2.2.2 = 1 then (if bt235.2.2.2.2 = 2 then ((val_Text.f k bt199.1 bt199.2.1 bt199.2.2.1 bt199.2.2.2.1).bind fun t253 => (if t253.toList = ([34, 54, 49, 54, 102] : List UInt8) then ((val_Text.f k bt211.1 bt211.2.1 bt211.2.2.1 bt211.2.2.2.1).bind fun t254 => (if t254.toList = ([45, 49, 43, 50, 105] : List UInt8) then ((val_Text.f k bt217.1 bt217.2.1 bt217.2.2.1 bt217.2.2.2.1).bind fun t255 => (if t255.toList = ([45] : List UInt8) then ((norialaw3_N.f 9).bind fun bt256 => ((norialaw3_S.f (⟨#[]⟩ : ByteArray)).bind fun bt260 => ((val_Compare.f k bt256.1 bt256.2.1 bt256.2.2.1 bt256.2.2.2 bt260.1 bt260.2.1 bt260.2.2.1 bt260.2.2.2).bind fun t264 => (if t264 = (-1) then ((norialaw3_C.f 1 9).bind fun bt265 => ((norialaw3_C.f 2 0).bind fun bt269 => ((val_Compare.f k bt265.1 bt265.2.1 bt265.2.2.1 bt265.2.2.2 bt269.1 bt269.2.1 bt269.2.2.1 bt269.2.2.2).bind fun t273 => (if t273 = (-1) then ((norialaw3_C.f 1 9).bind fun bt274 => ((norialaw3_C.f 1 8).bind fun bt278 => ((val_Compare.f k bt274.1 bt274.2.1 bt274.2.2.1 bt274.2.2.2 bt278.1 bt278.2.1 bt278.2.2.1 bt278.2.2.2).bind fun t282 => (if t282 = 1 then ((norialaw3_N.f (-7)).bind fun bt283 => ((val_Same.f k bt205.1 bt205.2.1 bt205.2.2.1 bt205.2.2.2.1 bt283.1 bt283.2.1 bt283.2.2.1 bt283.2.2.2).bind fun t287 => (if t287 = true then ((val_Fits.f bt217.1 bt217.2.1 bt217.2.2.1 bt217.2.2.2.1 1).bind fun t288 => (if t288 = true then ((val_Fits.f bt199.1 bt199.2.1 bt199.2.2.1 bt199.2.2.2.1 1).bind fun t289 => (if t289 = true then (none) else ((val_Check.f k bt199.1 bt199.2.1 bt199.2.2.1 bt199.2.2.2.1).bind fun t290 => (if t290 = 0 then ((val_Check.f k 0 1 (⟨#[]⟩ : ByteArray) ((0, 0) : Nat × Nat)).bind fun t291 => (if t291 = 1 then ((val_Check.f k 4 0 (⟨#[]⟩ : ByteArray) ((0, 0) : Nat × Nat)).bind fun t292 => (some (t292 == 6))) else (none))) else (none))))) else (none))) else (none)))) else (none))))) else (none))))) else (none))))) else (none))) else (none))) else (none))) else (none)) else (none)) else (none)) else (none)) else (none))) else (none))) else (none))) else (none))))))))) = some r := h
  clear h
  replace H := Option.bind_eq_some_iff.mp H
  obtain ⟨⟨t199, t200, t201, t202, t203⟩, A10, H⟩ := H
  replace H : ((val_Parse.f k (⟨#[45, 55]⟩ : ByteArray)).bind fun bt205 => ((val_Parse.f k (⟨#[45, 49, 43, 50, 105]⟩ : ByteArray)).bind fun bt211 => ((val_Parse.f k (⟨#[45]⟩ : ByteArray)).bind fun bt217 => ((val_Parse.f k (⟨#[34, 54]⟩ : ByteArray)).bind fun bt223 => ((val_Parse.f k (⟨#[57, 50, 50, 51, 51, 55, 50, 48, 51, 54, 56, 53, 52, 55, 55, 53, 56, 48, 56]⟩ : ByteArray)).bind fun bt229 => ((val_Parse.f k (⟨#[34, 54, 65]⟩ : ByteArray)).bind fun bt235 => (if (wrap64 ((wrap64 ((wrap64 (t203 + bt205.2.2.2.2)) + bt211.2.2.2.2)) + bt217.2.2.2.2)) = 0 then ((norialaw3_S.f (⟨#[97, 111]⟩ : ByteArray)).bind fun bt241 => (if (t199 == bt241.1 && (t200 == bt241.2.1 && (t201.toList == bt241.2.2.1.toList && (cEq t202.1 t202.2 bt241.2.2.2.1 bt241.2.2.2.2)))) = true then ((norialaw3_N.f (-7)).bind fun bt245 => (if (bt205.1 == bt245.1 && (bt205.2.1 == bt245.2.1 && (bt205.2.2.1.toList == bt245.2.2.1.toList && (cEq bt205.2.2.2.1.1 bt205.2.2.2.1.2 bt245.2.2.2.1 bt245.2.2.2.2)))) = true then ((norialaw3_C.f (-1) 2).bind fun bt249 => (if (bt211.1 == bt249.1 && (bt211.2.1 == bt249.2.1 && (bt211.2.2.1.toList == bt249.2.2.1.toList && (cEq bt211.2.2.2.1.1 bt211.2.2.2.1.2 bt249.2.2.2.1 bt249.2.2.2.2)))) = true then (if (bt217.1 == 0 && (bt217.2.1 == 0 && (bt217.2.2.1.toList.isEmpty && (cEq bt217.2.2.2.1.1 bt217.2.2.2.1.2 0 0)))) = true then (if bt223.2.2.2.2 = 2 then (if bt229.2.2.2.2 = 1 then (if bt235.2.2.2.2 = 2 then ((val_Text.f k t199 t200 t201 t202).bind fun t253 => (if t253.toList = ([34, 54, 49, 54, 102] : List UInt8) then ((val_Text.f k bt211.1 bt211.2.1 bt211.2.2.1 bt211.2.2.2.1).bind fun t254 => (if t254.toList = ([45, 49, 43, 50, 105] : List UInt8) then ((val_Text.f k bt217.1 bt217.2.1 bt217.2.2.1 bt217.2.2.2.1).bind fun t255 => (if t255.toList = ([45] : List UInt8) then ((norialaw3_N.f 9).bind fun bt256 => ((norialaw3_S.f (⟨#[]⟩ : ByteArray)).bind fun bt260 => ((val_Compare.f k bt256.1 bt256.2.1 bt256.2.2.1 bt256.2.2.2 bt260.1 bt260.2.1 bt260.2.2.1 bt260.2.2.2).bind fun t264 => (if t264 = (-1) then ((norialaw3_C.f 1 9).bind fun bt265 => ((norialaw3_C.f 2 0).bind fun bt269 => ((val_Compare.f k bt265.1 bt265.2.1 bt265.2.2.1 bt265.2.2.2 bt269.1 bt269.2.1 bt269.2.2.1 bt269.2.2.2).bind fun t273 => (if t273 = (-1) then ((norialaw3_C.f 1 9).bind fun bt274 => ((norialaw3_C.f 1 8).bind fun bt278 => ((val_Compare.f k bt274.1 bt274.2.1 bt274.2.2.1 bt274.2.2.2 bt278.1 bt278.2.1 bt278.2.2.1 bt278.2.2.2).bind fun t282 => (if t282 = 1 then ((norialaw3_N.f (-7)).bind fun bt283 => ((val_Same.f k bt205.1 bt205.2.1 bt205.2.2.1 bt205.2.2.2.1 bt283.1 bt283.2.1 bt283.2.2.1 bt283.2.2.2).bind fun t287 => (if t287 = true then ((val_Fits.f bt217.1 bt217.2.1 bt217.2.2.1 bt217.2.2.2.1 1).bind fun t288 => (if t288 = true then ((val_Fits.f t199 t200 t201 t202 1).bind fun t289 => (if t289 = true then (none) else ((val_Check.f k t199 t200 t201 t202).bind fun t290 => (if t290 = 0 then ((val_Check.f k 0 1 (⟨#[]⟩ : ByteArray) ((0, 0) : Nat × Nat)).bind fun t291 => (if t291 = 1 then ((val_Check.f k 4 0 (⟨#[]⟩ : ByteArray) ((0, 0) : Nat × Nat)).bind fun t292 => (some (t292 == 6))) else (none))) else (none))))) else (none))) else (none)))) else (none))))) else (none))))) else (none))))) else (none))) else (none))) else (none))) else (none)) else (none)) else (none)) else (none)) else (none))) else (none))) else (none))) else (none)))))))) = some r := H
  have A1 := Aside0.mk A10
  clear A10
  replace H := Option.bind_eq_some_iff.mp H
  obtain ⟨⟨t205, t206, t207, t208, t209⟩, A20, H⟩ := H
  replace H : ((val_Parse.f k (⟨#[45, 49, 43, 50, 105]⟩ : ByteArray)).bind fun bt211 => ((val_Parse.f k (⟨#[45]⟩ : ByteArray)).bind fun bt217 => ((val_Parse.f k (⟨#[34, 54]⟩ : ByteArray)).bind fun bt223 => ((val_Parse.f k (⟨#[57, 50, 50, 51, 51, 55, 50, 48, 51, 54, 56, 53, 52, 55, 55, 53, 56, 48, 56]⟩ : ByteArray)).bind fun bt229 => ((val_Parse.f k (⟨#[34, 54, 65]⟩ : ByteArray)).bind fun bt235 => (if (wrap64 ((wrap64 ((wrap64 (t203 + t209)) + bt211.2.2.2.2)) + bt217.2.2.2.2)) = 0 then ((norialaw3_S.f (⟨#[97, 111]⟩ : ByteArray)).bind fun bt241 => (if (t199 == bt241.1 && (t200 == bt241.2.1 && (t201.toList == bt241.2.2.1.toList && (cEq t202.1 t202.2 bt241.2.2.2.1 bt241.2.2.2.2)))) = true then ((norialaw3_N.f (-7)).bind fun bt245 => (if (t205 == bt245.1 && (t206 == bt245.2.1 && (t207.toList == bt245.2.2.1.toList && (cEq t208.1 t208.2 bt245.2.2.2.1 bt245.2.2.2.2)))) = true then ((norialaw3_C.f (-1) 2).bind fun bt249 => (if (bt211.1 == bt249.1 && (bt211.2.1 == bt249.2.1 && (bt211.2.2.1.toList == bt249.2.2.1.toList && (cEq bt211.2.2.2.1.1 bt211.2.2.2.1.2 bt249.2.2.2.1 bt249.2.2.2.2)))) = true then (if (bt217.1 == 0 && (bt217.2.1 == 0 && (bt217.2.2.1.toList.isEmpty && (cEq bt217.2.2.2.1.1 bt217.2.2.2.1.2 0 0)))) = true then (if bt223.2.2.2.2 = 2 then (if bt229.2.2.2.2 = 1 then (if bt235.2.2.2.2 = 2 then ((val_Text.f k t199 t200 t201 t202).bind fun t253 => (if t253.toList = ([34, 54, 49, 54, 102] : List UInt8) then ((val_Text.f k bt211.1 bt211.2.1 bt211.2.2.1 bt211.2.2.2.1).bind fun t254 => (if t254.toList = ([45, 49, 43, 50, 105] : List UInt8) then ((val_Text.f k bt217.1 bt217.2.1 bt217.2.2.1 bt217.2.2.2.1).bind fun t255 => (if t255.toList = ([45] : List UInt8) then ((norialaw3_N.f 9).bind fun bt256 => ((norialaw3_S.f (⟨#[]⟩ : ByteArray)).bind fun bt260 => ((val_Compare.f k bt256.1 bt256.2.1 bt256.2.2.1 bt256.2.2.2 bt260.1 bt260.2.1 bt260.2.2.1 bt260.2.2.2).bind fun t264 => (if t264 = (-1) then ((norialaw3_C.f 1 9).bind fun bt265 => ((norialaw3_C.f 2 0).bind fun bt269 => ((val_Compare.f k bt265.1 bt265.2.1 bt265.2.2.1 bt265.2.2.2 bt269.1 bt269.2.1 bt269.2.2.1 bt269.2.2.2).bind fun t273 => (if t273 = (-1) then ((norialaw3_C.f 1 9).bind fun bt274 => ((norialaw3_C.f 1 8).bind fun bt278 => ((val_Compare.f k bt274.1 bt274.2.1 bt274.2.2.1 bt274.2.2.2 bt278.1 bt278.2.1 bt278.2.2.1 bt278.2.2.2).bind fun t282 => (if t282 = 1 then ((norialaw3_N.f (-7)).bind fun bt283 => ((val_Same.f k t205 t206 t207 t208 bt283.1 bt283.2.1 bt283.2.2.1 bt283.2.2.2).bind fun t287 => (if t287 = true then ((val_Fits.f bt217.1 bt217.2.1 bt217.2.2.1 bt217.2.2.2.1 1).bind fun t288 => (if t288 = true then ((val_Fits.f t199 t200 t201 t202 1).bind fun t289 => (if t289 = true then (none) else ((val_Check.f k t199 t200 t201 t202).bind fun t290 => (if t290 = 0 then ((val_Check.f k 0 1 (⟨#[]⟩ : ByteArray) ((0, 0) : Nat × Nat)).bind fun t291 => (if t291 = 1 then ((val_Check.f k 4 0 (⟨#[]⟩ : ByteArray) ((0, 0) : Nat × Nat)).bind fun t292 => (some (t292 == 6))) else (none))) else (none))))) else (none))) else (none)))) else (none))))) else (none))))) else (none))))) else (none))) else (none))) else (none))) else (none)) else (none)) else (none)) else (none)) else (none))) else (none))) else (none))) else (none))))))) = some r := H
  have A2 := Aside0.mk A20
  clear A20
  replace H := Option.bind_eq_some_iff.mp H
  obtain ⟨⟨t211, t212, t213, t214, t215⟩, A30, H⟩ := H
  replace H : ((val_Parse.f k (⟨#[45]⟩ : ByteArray)).bind fun bt217 => ((val_Parse.f k (⟨#[34, 54]⟩ : ByteArray)).bind fun bt223 => ((val_Parse.f k (⟨#[57, 50, 50, 51, 51, 55, 50, 48, 51, 54, 56, 53, 52, 55, 55, 53, 56, 48, 56]⟩ : ByteArray)).bind fun bt229 => ((val_Parse.f k (⟨#[34, 54, 65]⟩ : ByteArray)).bind fun bt235 => (if (wrap64 ((wrap64 ((wrap64 (t203 + t209)) + t215)) + bt217.2.2.2.2)) = 0 then ((norialaw3_S.f (⟨#[97, 111]⟩ : ByteArray)).bind fun bt241 => (if (t199 == bt241.1 && (t200 == bt241.2.1 && (t201.toList == bt241.2.2.1.toList && (cEq t202.1 t202.2 bt241.2.2.2.1 bt241.2.2.2.2)))) = true then ((norialaw3_N.f (-7)).bind fun bt245 => (if (t205 == bt245.1 && (t206 == bt245.2.1 && (t207.toList == bt245.2.2.1.toList && (cEq t208.1 t208.2 bt245.2.2.2.1 bt245.2.2.2.2)))) = true then ((norialaw3_C.f (-1) 2).bind fun bt249 => (if (t211 == bt249.1 && (t212 == bt249.2.1 && (t213.toList == bt249.2.2.1.toList && (cEq t214.1 t214.2 bt249.2.2.2.1 bt249.2.2.2.2)))) = true then (if (bt217.1 == 0 && (bt217.2.1 == 0 && (bt217.2.2.1.toList.isEmpty && (cEq bt217.2.2.2.1.1 bt217.2.2.2.1.2 0 0)))) = true then (if bt223.2.2.2.2 = 2 then (if bt229.2.2.2.2 = 1 then (if bt235.2.2.2.2 = 2 then ((val_Text.f k t199 t200 t201 t202).bind fun t253 => (if t253.toList = ([34, 54, 49, 54, 102] : List UInt8) then ((val_Text.f k t211 t212 t213 t214).bind fun t254 => (if t254.toList = ([45, 49, 43, 50, 105] : List UInt8) then ((val_Text.f k bt217.1 bt217.2.1 bt217.2.2.1 bt217.2.2.2.1).bind fun t255 => (if t255.toList = ([45] : List UInt8) then ((norialaw3_N.f 9).bind fun bt256 => ((norialaw3_S.f (⟨#[]⟩ : ByteArray)).bind fun bt260 => ((val_Compare.f k bt256.1 bt256.2.1 bt256.2.2.1 bt256.2.2.2 bt260.1 bt260.2.1 bt260.2.2.1 bt260.2.2.2).bind fun t264 => (if t264 = (-1) then ((norialaw3_C.f 1 9).bind fun bt265 => ((norialaw3_C.f 2 0).bind fun bt269 => ((val_Compare.f k bt265.1 bt265.2.1 bt265.2.2.1 bt265.2.2.2 bt269.1 bt269.2.1 bt269.2.2.1 bt269.2.2.2).bind fun t273 => (if t273 = (-1) then ((norialaw3_C.f 1 9).bind fun bt274 => ((norialaw3_C.f 1 8).bind fun bt278 => ((val_Compare.f k bt274.1 bt274.2.1 bt274.2.2.1 bt274.2.2.2 bt278.1 bt278.2.1 bt278.2.2.1 bt278.2.2.2).bind fun t282 => (if t282 = 1 then ((norialaw3_N.f (-7)).bind fun bt283 => ((val_Same.f k t205 t206 t207 t208 bt283.1 bt283.2.1 bt283.2.2.1 bt283.2.2.2).bind fun t287 => (if t287 = true then ((val_Fits.f bt217.1 bt217.2.1 bt217.2.2.1 bt217.2.2.2.1 1).bind fun t288 => (if t288 = true then ((val_Fits.f t199 t200 t201 t202 1).bind fun t289 => (if t289 = true then (none) else ((val_Check.f k t199 t200 t201 t202).bind fun t290 => (if t290 = 0 then ((val_Check.f k 0 1 (⟨#[]⟩ : ByteArray) ((0, 0) : Nat × Nat)).bind fun t291 => (if t291 = 1 then ((val_Check.f k 4 0 (⟨#[]⟩ : ByteArray) ((0, 0) : Nat × Nat)).bind fun t292 => (some (t292 == 6))) else (none))) else (none))))) else (none))) else (none)))) else (none))))) else (none))))) else (none))))) else (none))) else (none))) else (none))) else (none)) else (none)) else (none)) else (none)) else (none))) else (none))) else (none))) else (none)))))) = some r := H
  have A3 := Aside0.mk A30
  clear A30
  replace H := Option.bind_eq_some_iff.mp H
  obtain ⟨⟨t217, t218, t219, t220, t221⟩, A40, H⟩ := H
  replace H : ((val_Parse.f k (⟨#[34, 54]⟩ : ByteArray)).bind fun bt223 => ((val_Parse.f k (⟨#[57, 50, 50, 51, 51, 55, 50, 48, 51, 54, 56, 53, 52, 55, 55, 53, 56, 48, 56]⟩ : ByteArray)).bind fun bt229 => ((val_Parse.f k (⟨#[34, 54, 65]⟩ : ByteArray)).bind fun bt235 => (if (wrap64 ((wrap64 ((wrap64 (t203 + t209)) + t215)) + t221)) = 0 then ((norialaw3_S.f (⟨#[97, 111]⟩ : ByteArray)).bind fun bt241 => (if (t199 == bt241.1 && (t200 == bt241.2.1 && (t201.toList == bt241.2.2.1.toList && (cEq t202.1 t202.2 bt241.2.2.2.1 bt241.2.2.2.2)))) = true then ((norialaw3_N.f (-7)).bind fun bt245 => (if (t205 == bt245.1 && (t206 == bt245.2.1 && (t207.toList == bt245.2.2.1.toList && (cEq t208.1 t208.2 bt245.2.2.2.1 bt245.2.2.2.2)))) = true then ((norialaw3_C.f (-1) 2).bind fun bt249 => (if (t211 == bt249.1 && (t212 == bt249.2.1 && (t213.toList == bt249.2.2.1.toList && (cEq t214.1 t214.2 bt249.2.2.2.1 bt249.2.2.2.2)))) = true then (if (t217 == 0 && (t218 == 0 && (t219.toList.isEmpty && (cEq t220.1 t220.2 0 0)))) = true then (if bt223.2.2.2.2 = 2 then (if bt229.2.2.2.2 = 1 then (if bt235.2.2.2.2 = 2 then ((val_Text.f k t199 t200 t201 t202).bind fun t253 => (if t253.toList = ([34, 54, 49, 54, 102] : List UInt8) then ((val_Text.f k t211 t212 t213 t214).bind fun t254 => (if t254.toList = ([45, 49, 43, 50, 105] : List UInt8) then ((val_Text.f k t217 t218 t219 t220).bind fun t255 => (if t255.toList = ([45] : List UInt8) then ((norialaw3_N.f 9).bind fun bt256 => ((norialaw3_S.f (⟨#[]⟩ : ByteArray)).bind fun bt260 => ((val_Compare.f k bt256.1 bt256.2.1 bt256.2.2.1 bt256.2.2.2 bt260.1 bt260.2.1 bt260.2.2.1 bt260.2.2.2).bind fun t264 => (if t264 = (-1) then ((norialaw3_C.f 1 9).bind fun bt265 => ((norialaw3_C.f 2 0).bind fun bt269 => ((val_Compare.f k bt265.1 bt265.2.1 bt265.2.2.1 bt265.2.2.2 bt269.1 bt269.2.1 bt269.2.2.1 bt269.2.2.2).bind fun t273 => (if t273 = (-1) then ((norialaw3_C.f 1 9).bind fun bt274 => ((norialaw3_C.f 1 8).bind fun bt278 => ((val_Compare.f k bt274.1 bt274.2.1 bt274.2.2.1 bt274.2.2.2 bt278.1 bt278.2.1 bt278.2.2.1 bt278.2.2.2).bind fun t282 => (if t282 = 1 then ((norialaw3_N.f (-7)).bind fun bt283 => ((val_Same.f k t205 t206 t207 t208 bt283.1 bt283.2.1 bt283.2.2.1 bt283.2.2.2).bind fun t287 => (if t287 = true then ((val_Fits.f t217 t218 t219 t220 1).bind fun t288 => (if t288 = true then ((val_Fits.f t199 t200 t201 t202 1).bind fun t289 => (if t289 = true then (none) else ((val_Check.f k t199 t200 t201 t202).bind fun t290 => (if t290 = 0 then ((val_Check.f k 0 1 (⟨#[]⟩ : ByteArray) ((0, 0) : Nat × Nat)).bind fun t291 => (if t291 = 1 then ((val_Check.f k 4 0 (⟨#[]⟩ : ByteArray) ((0, 0) : Nat × Nat)).bind fun t292 => (some (t292 == 6))) else (none))) else (none))))) else (none))) else (none)))) else (none))))) else (none))))) else (none))))) else (none))) else (none))) else (none))) else (none)) else (none)) else (none)) else (none)) else (none))) else (none))) else (none))) else (none))))) = some r := H
  have A4 := Aside0.mk A40
  clear A40
  replace H := Option.bind_eq_some_iff.mp H
  obtain ⟨⟨t223, t224, t225, t226, t227⟩, A50, H⟩ := H
  replace H : ((val_Parse.f k (⟨#[57, 50, 50, 51, 51, 55, 50, 48, 51, 54, 56, 53, 52, 55, 55, 53, 56, 48, 56]⟩ : ByteArray)).bind fun bt229 => ((val_Parse.f k (⟨#[34, 54, 65]⟩ : ByteArray)).bind fun bt235 => (if (wrap64 ((wrap64 ((wrap64 (t203 + t209)) + t215)) + t221)) = 0 then ((norialaw3_S.f (⟨#[97, 111]⟩ : ByteArray)).bind fun bt241 => (if (t199 == bt241.1 && (t200 == bt241.2.1 && (t201.toList == bt241.2.2.1.toList && (cEq t202.1 t202.2 bt241.2.2.2.1 bt241.2.2.2.2)))) = true then ((norialaw3_N.f (-7)).bind fun bt245 => (if (t205 == bt245.1 && (t206 == bt245.2.1 && (t207.toList == bt245.2.2.1.toList && (cEq t208.1 t208.2 bt245.2.2.2.1 bt245.2.2.2.2)))) = true then ((norialaw3_C.f (-1) 2).bind fun bt249 => (if (t211 == bt249.1 && (t212 == bt249.2.1 && (t213.toList == bt249.2.2.1.toList && (cEq t214.1 t214.2 bt249.2.2.2.1 bt249.2.2.2.2)))) = true then (if (t217 == 0 && (t218 == 0 && (t219.toList.isEmpty && (cEq t220.1 t220.2 0 0)))) = true then (if t227 = 2 then (if bt229.2.2.2.2 = 1 then (if bt235.2.2.2.2 = 2 then ((val_Text.f k t199 t200 t201 t202).bind fun t253 => (if t253.toList = ([34, 54, 49, 54, 102] : List UInt8) then ((val_Text.f k t211 t212 t213 t214).bind fun t254 => (if t254.toList = ([45, 49, 43, 50, 105] : List UInt8) then ((val_Text.f k t217 t218 t219 t220).bind fun t255 => (if t255.toList = ([45] : List UInt8) then ((norialaw3_N.f 9).bind fun bt256 => ((norialaw3_S.f (⟨#[]⟩ : ByteArray)).bind fun bt260 => ((val_Compare.f k bt256.1 bt256.2.1 bt256.2.2.1 bt256.2.2.2 bt260.1 bt260.2.1 bt260.2.2.1 bt260.2.2.2).bind fun t264 => (if t264 = (-1) then ((norialaw3_C.f 1 9).bind fun bt265 => ((norialaw3_C.f 2 0).bind fun bt269 => ((val_Compare.f k bt265.1 bt265.2.1 bt265.2.2.1 bt265.2.2.2 bt269.1 bt269.2.1 bt269.2.2.1 bt269.2.2.2).bind fun t273 => (if t273 = (-1) then ((norialaw3_C.f 1 9).bind fun bt274 => ((norialaw3_C.f 1 8).bind fun bt278 => ((val_Compare.f k bt274.1 bt274.2.1 bt274.2.2.1 bt274.2.2.2 bt278.1 bt278.2.1 bt278.2.2.1 bt278.2.2.2).bind fun t282 => (if t282 = 1 then ((norialaw3_N.f (-7)).bind fun bt283 => ((val_Same.f k t205 t206 t207 t208 bt283.1 bt283.2.1 bt283.2.2.1 bt283.2.2.2).bind fun t287 => (if t287 = true then ((val_Fits.f t217 t218 t219 t220 1).bind fun t288 => (if t288 = true then ((val_Fits.f t199 t200 t201 t202 1).bind fun t289 => (if t289 = true then (none) else ((val_Check.f k t199 t200 t201 t202).bind fun t290 => (if t290 = 0 then ((val_Check.f k 0 1 (⟨#[]⟩ : ByteArray) ((0, 0) : Nat × Nat)).bind fun t291 => (if t291 = 1 then ((val_Check.f k 4 0 (⟨#[]⟩ : ByteArray) ((0, 0) : Nat × Nat)).bind fun t292 => (some (t292 == 6))) else (none))) else (none))))) else (none))) else (none)))) else (none))))) else (none))))) else (none))))) else (none))) else (none))) else (none))) else (none)) else (none)) else (none)) else (none)) else (none))) else (none))) else (none))) else (none)))) = some r := H
  have A5 := Aside0.mk A50
  clear A50
  replace H := Option.bind_eq_some_iff.mp H
  obtain ⟨⟨t229, t230, t231, t232, t233⟩, A60, H⟩ := H
  replace H : ((val_Parse.f k (⟨#[34, 54, 65]⟩ : ByteArray)).bind fun bt235 => (if (wrap64 ((wrap64 ((wrap64 (t203 + t209)) + t215)) + t221)) = 0 then ((norialaw3_S.f (⟨#[97, 111]⟩ : ByteArray)).bind fun bt241 => (if (t199 == bt241.1 && (t200 == bt241.2.1 && (t201.toList == bt241.2.2.1.toList && (cEq t202.1 t202.2 bt241.2.2.2.1 bt241.2.2.2.2)))) = true then ((norialaw3_N.f (-7)).bind fun bt245 => (if (t205 == bt245.1 && (t206 == bt245.2.1 && (t207.toList == bt245.2.2.1.toList && (cEq t208.1 t208.2 bt245.2.2.2.1 bt245.2.2.2.2)))) = true then ((norialaw3_C.f (-1) 2).bind fun bt249 => (if (t211 == bt249.1 && (t212 == bt249.2.1 && (t213.toList == bt249.2.2.1.toList && (cEq t214.1 t214.2 bt249.2.2.2.1 bt249.2.2.2.2)))) = true then (if (t217 == 0 && (t218 == 0 && (t219.toList.isEmpty && (cEq t220.1 t220.2 0 0)))) = true then (if t227 = 2 then (if t233 = 1 then (if bt235.2.2.2.2 = 2 then ((val_Text.f k t199 t200 t201 t202).bind fun t253 => (if t253.toList = ([34, 54, 49, 54, 102] : List UInt8) then ((val_Text.f k t211 t212 t213 t214).bind fun t254 => (if t254.toList = ([45, 49, 43, 50, 105] : List UInt8) then ((val_Text.f k t217 t218 t219 t220).bind fun t255 => (if t255.toList = ([45] : List UInt8) then ((norialaw3_N.f 9).bind fun bt256 => ((norialaw3_S.f (⟨#[]⟩ : ByteArray)).bind fun bt260 => ((val_Compare.f k bt256.1 bt256.2.1 bt256.2.2.1 bt256.2.2.2 bt260.1 bt260.2.1 bt260.2.2.1 bt260.2.2.2).bind fun t264 => (if t264 = (-1) then ((norialaw3_C.f 1 9).bind fun bt265 => ((norialaw3_C.f 2 0).bind fun bt269 => ((val_Compare.f k bt265.1 bt265.2.1 bt265.2.2.1 bt265.2.2.2 bt269.1 bt269.2.1 bt269.2.2.1 bt269.2.2.2).bind fun t273 => (if t273 = (-1) then ((norialaw3_C.f 1 9).bind fun bt274 => ((norialaw3_C.f 1 8).bind fun bt278 => ((val_Compare.f k bt274.1 bt274.2.1 bt274.2.2.1 bt274.2.2.2 bt278.1 bt278.2.1 bt278.2.2.1 bt278.2.2.2).bind fun t282 => (if t282 = 1 then ((norialaw3_N.f (-7)).bind fun bt283 => ((val_Same.f k t205 t206 t207 t208 bt283.1 bt283.2.1 bt283.2.2.1 bt283.2.2.2).bind fun t287 => (if t287 = true then ((val_Fits.f t217 t218 t219 t220 1).bind fun t288 => (if t288 = true then ((val_Fits.f t199 t200 t201 t202 1).bind fun t289 => (if t289 = true then (none) else ((val_Check.f k t199 t200 t201 t202).bind fun t290 => (if t290 = 0 then ((val_Check.f k 0 1 (⟨#[]⟩ : ByteArray) ((0, 0) : Nat × Nat)).bind fun t291 => (if t291 = 1 then ((val_Check.f k 4 0 (⟨#[]⟩ : ByteArray) ((0, 0) : Nat × Nat)).bind fun t292 => (some (t292 == 6))) else (none))) else (none))))) else (none))) else (none)))) else (none))))) else (none))))) else (none))))) else (none))) else (none))) else (none))) else (none)) else (none)) else (none)) else (none)) else (none))) else (none))) else (none))) else (none))) = some r := H
  have A6 := Aside0.mk A60
  clear A60
  replace H := Option.bind_eq_some_iff.mp H
  obtain ⟨⟨t235, t236, t237, t238, t239⟩, A70, H⟩ := H
  replace H : (if (wrap64 ((wrap64 ((wrap64 (t203 + t209)) + t215)) + t221)) = 0 then ((norialaw3_S.f (⟨#[97, 111]⟩ : ByteArray)).bind fun bt241 => (if (t199 == bt241.1 && (t200 == bt241.2.1 && (t201.toList == bt241.2.2.1.toList && (cEq t202.1 t202.2 bt241.2.2.2.1 bt241.2.2.2.2)))) = true then ((norialaw3_N.f (-7)).bind fun bt245 => (if (t205 == bt245.1 && (t206 == bt245.2.1 && (t207.toList == bt245.2.2.1.toList && (cEq t208.1 t208.2 bt245.2.2.2.1 bt245.2.2.2.2)))) = true then ((norialaw3_C.f (-1) 2).bind fun bt249 => (if (t211 == bt249.1 && (t212 == bt249.2.1 && (t213.toList == bt249.2.2.1.toList && (cEq t214.1 t214.2 bt249.2.2.2.1 bt249.2.2.2.2)))) = true then (if (t217 == 0 && (t218 == 0 && (t219.toList.isEmpty && (cEq t220.1 t220.2 0 0)))) = true then (if t227 = 2 then (if t233 = 1 then (if t239 = 2 then ((val_Text.f k t199 t200 t201 t202).bind fun t253 => (if t253.toList = ([34, 54, 49, 54, 102] : List UInt8) then ((val_Text.f k t211 t212 t213 t214).bind fun t254 => (if t254.toList = ([45, 49, 43, 50, 105] : List UInt8) then ((val_Text.f k t217 t218 t219 t220).bind fun t255 => (if t255.toList = ([45] : List UInt8) then ((norialaw3_N.f 9).bind fun bt256 => ((norialaw3_S.f (⟨#[]⟩ : ByteArray)).bind fun bt260 => ((val_Compare.f k bt256.1 bt256.2.1 bt256.2.2.1 bt256.2.2.2 bt260.1 bt260.2.1 bt260.2.2.1 bt260.2.2.2).bind fun t264 => (if t264 = (-1) then ((norialaw3_C.f 1 9).bind fun bt265 => ((norialaw3_C.f 2 0).bind fun bt269 => ((val_Compare.f k bt265.1 bt265.2.1 bt265.2.2.1 bt265.2.2.2 bt269.1 bt269.2.1 bt269.2.2.1 bt269.2.2.2).bind fun t273 => (if t273 = (-1) then ((norialaw3_C.f 1 9).bind fun bt274 => ((norialaw3_C.f 1 8).bind fun bt278 => ((val_Compare.f k bt274.1 bt274.2.1 bt274.2.2.1 bt274.2.2.2 bt278.1 bt278.2.1 bt278.2.2.1 bt278.2.2.2).bind fun t282 => (if t282 = 1 then ((norialaw3_N.f (-7)).bind fun bt283 => ((val_Same.f k t205 t206 t207 t208 bt283.1 bt283.2.1 bt283.2.2.1 bt283.2.2.2).bind fun t287 => (if t287 = true then ((val_Fits.f t217 t218 t219 t220 1).bind fun t288 => (if t288 = true then ((val_Fits.f t199 t200 t201 t202 1).bind fun t289 => (if t289 = true then (none) else ((val_Check.f k t199 t200 t201 t202).bind fun t290 => (if t290 = 0 then ((val_Check.f k 0 1 (⟨#[]⟩ : ByteArray) ((0, 0) : Nat × Nat)).bind fun t291 => (if t291 = 1 then ((val_Check.f k 4 0 (⟨#[]⟩ : ByteArray) ((0, 0) : Nat × Nat)).bind fun t292 => (some (t292 == 6))) else (none))) else (none))))) else (none))) else (none)))) else (none))))) else (none))))) else (none))))) else (none))) else (none))) else (none))) else (none)) else (none)) else (none)) else (none)) else (none))) else (none))) else (none))) else (none)) = some r := H
  have A7 := Aside0.mk A70
  clear A70
  by_cases c8 : (wrap64 ((wrap64 ((wrap64 (t203 + t209)) + t215)) + t221)) = 0
  rotate_left
  · rw [if_neg c8] at H
    exact absurd H (by simp)


  rw [if_pos c8] at H
  have c8b0 : ((wrap64 ((wrap64 ((wrap64 (t203 + t209)) + t215)) + t221)) == 0) = true := beq_iff_eq.mpr c8
  have c8b1 : ((wrap64 ((wrap64 ((wrap64 (t203 + t209)) + t215)) + t221)) != 0) = false := bne_eq_false_iff_eq.mpr c8
  clear c8
  replace H := Option.bind_eq_some_iff.mp H
  obtain ⟨⟨t241, t242, t243, t244⟩, A90, H⟩ := H
  replace H : (if (t199 == t241 && (t200 == t242 && (t201.toList == t243.toList && (cEq t202.1 t202.2 t244.1 t244.2)))) = true then ((norialaw3_N.f (-7)).bind fun bt245 => (if (t205 == bt245.1 && (t206 == bt245.2.1 && (t207.toList == bt245.2.2.1.toList && (cEq t208.1 t208.2 bt245.2.2.2.1 bt245.2.2.2.2)))) = true then ((norialaw3_C.f (-1) 2).bind fun bt249 => (if (t211 == bt249.1 && (t212 == bt249.2.1 && (t213.toList == bt249.2.2.1.toList && (cEq t214.1 t214.2 bt249.2.2.2.1 bt249.2.2.2.2)))) = true then (if (t217 == 0 && (t218 == 0 && (t219.toList.isEmpty && (cEq t220.1 t220.2 0 0)))) = true then (if t227 = 2 then (if t233 = 1 then (if t239 = 2 then ((val_Text.f k t199 t200 t201 t202).bind fun t253 => (if t253.toList = ([34, 54, 49, 54, 102] : List UInt8) then ((val_Text.f k t211 t212 t213 t214).bind fun t254 => (if t254.toList = ([45, 49, 43, 50, 105] : List UInt8) then ((val_Text.f k t217 t218 t219 t220).bind fun t255 => (if t255.toList = ([45] : List UInt8) then ((norialaw3_N.f 9).bind fun bt256 => ((norialaw3_S.f (⟨#[]⟩ : ByteArray)).bind fun bt260 => ((val_Compare.f k bt256.1 bt256.2.1 bt256.2.2.1 bt256.2.2.2 bt260.1 bt260.2.1 bt260.2.2.1 bt260.2.2.2).bind fun t264 => (if t264 = (-1) then ((norialaw3_C.f 1 9).bind fun bt265 => ((norialaw3_C.f 2 0).bind fun bt269 => ((val_Compare.f k bt265.1 bt265.2.1 bt265.2.2.1 bt265.2.2.2 bt269.1 bt269.2.1 bt269.2.2.1 bt269.2.2.2).bind fun t273 => (if t273 = (-1) then ((norialaw3_C.f 1 9).bind fun bt274 => ((norialaw3_C.f 1 8).bind fun bt278 => ((val_Compare.f k bt274.1 bt274.2.1 bt274.2.2.1 bt274.2.2.2 bt278.1 bt278.2.1 bt278.2.2.1 bt278.2.2.2).bind fun t282 => (if t282 = 1 then ((norialaw3_N.f (-7)).bind fun bt283 => ((val_Same.f k t205 t206 t207 t208 bt283.1 bt283.2.1 bt283.2.2.1 bt283.2.2.2).bind fun t287 => (if t287 = true then ((val_Fits.f t217 t218 t219 t220 1).bind fun t288 => (if t288 = true then ((val_Fits.f t199 t200 t201 t202 1).bind fun t289 => (if t289 = true then (none) else ((val_Check.f k t199 t200 t201 t202).bind fun t290 => (if t290 = 0 then ((val_Check.f k 0 1 (⟨#[]⟩ : ByteArray) ((0, 0) : Nat × Nat)).bind fun t291 => (if t291 = 1 then ((val_Check.f k 4 0 (⟨#[]⟩ : ByteArray) ((0, 0) : Nat × Nat)).bind fun t292 => (some (t292 == 6))) else (none))) else (none))))) else (none))) else (none)))) else (none))))) else (none))))) else (none))))) else (none))) else (none))) else (none))) else (none)) else (none)) else (none)) else (none)) else (none))) else (none))) else (none)) = some r := H
  have A9 := Aside0.mk A90
  clear A90
  by_cases c10 : (t199 == t241 && (t200 == t242 && (t201.toList == t243.toList && (cEq t202.1 t202.2 t244.1 t244.2)))) = true
  rotate_left
  · rw [if_neg c10] at H
    exact absurd H (by simp)
  rw [if_pos c10] at H
  have c10b0 : (t199 == t241 && (t200 == t242 && (t201.toList == t243.toList && (cEq t202.1 t202.2 t244.1 t244.2)))) = true := c10
  (try (have c10b1 : decide (t199 = t241 && (t200 == t242 && (t201.toList == t243.toList && (cEq t202.1 t202.2 t244.1 t244.2)))) = true := by simpa using c10))
  (try (have c10b2 : (t199 == t241 && (t200 == t242 && (t201.toList == t243.toList && (cEq t202.1 t202.2 t244.1 t244.2)))) = true := by simpa using c10))
  clear c10
  replace H := Option.bind_eq_some_iff.mp H
  obtain ⟨⟨t245, t246, t247, t248⟩, A110, H⟩ := H
  replace H : (if (t205 == t245 && (t206 == t246 && (t207.toList == t247.toList && (cEq t208.1 t208.2 t248.1 t248.2)))) = true then ((norialaw3_C.f (-1) 2).bind fun bt249 => (if (t211 == bt249.1 && (t212 == bt249.2.1 && (t213.toList == bt249.2.2.1.toList && (cEq t214.1 t214.2 bt249.2.2.2.1 bt249.2.2.2.2)))) = true then (if (t217 == 0 && (t218 == 0 && (t219.toList.isEmpty && (cEq t220.1 t220.2 0 0)))) = true then (if t227 = 2 then (if t233 = 1 then (if t239 = 2 then ((val_Text.f k t199 t200 t201 t202).bind fun t253 => (if t253.toList = ([34, 54, 49, 54, 102] : List UInt8) then ((val_Text.f k t211 t212 t213 t214).bind fun t254 => (if t254.toList = ([45, 49, 43, 50, 105] : List UInt8) then ((val_Text.f k t217 t218 t219 t220).bind fun t255 => (if t255.toList = ([45] : List UInt8) then ((norialaw3_N.f 9).bind fun bt256 => ((norialaw3_S.f (⟨#[]⟩ : ByteArray)).bind fun bt260 => ((val_Compare.f k bt256.1 bt256.2.1 bt256.2.2.1 bt256.2.2.2 bt260.1 bt260.2.1 bt260.2.2.1 bt260.2.2.2).bind fun t264 => (if t264 = (-1) then ((norialaw3_C.f 1 9).bind fun bt265 => ((norialaw3_C.f 2 0).bind fun bt269 => ((val_Compare.f k bt265.1 bt265.2.1 bt265.2.2.1 bt265.2.2.2 bt269.1 bt269.2.1 bt269.2.2.1 bt269.2.2.2).bind fun t273 => (if t273 = (-1) then ((norialaw3_C.f 1 9).bind fun bt274 => ((norialaw3_C.f 1 8).bind fun bt278 => ((val_Compare.f k bt274.1 bt274.2.1 bt274.2.2.1 bt274.2.2.2 bt278.1 bt278.2.1 bt278.2.2.1 bt278.2.2.2).bind fun t282 => (if t282 = 1 then ((norialaw3_N.f (-7)).bind fun bt283 => ((val_Same.f k t205 t206 t207 t208 bt283.1 bt283.2.1 bt283.2.2.1 bt283.2.2.2).bind fun t287 => (if t287 = true then ((val_Fits.f t217 t218 t219 t220 1).bind fun t288 => (if t288 = true then ((val_Fits.f t199 t200 t201 t202 1).bind fun t289 => (if t289 = true then (none) else ((val_Check.f k t199 t200 t201 t202).bind fun t290 => (if t290 = 0 then ((val_Check.f k 0 1 (⟨#[]⟩ : ByteArray) ((0, 0) : Nat × Nat)).bind fun t291 => (if t291 = 1 then ((val_Check.f k 4 0 (⟨#[]⟩ : ByteArray) ((0, 0) : Nat × Nat)).bind fun t292 => (some (t292 == 6))) else (none))) else (none))))) else (none))) else (none)))) else (none))))) else (none))))) else (none))))) else (none))) else (none))) else (none))) else (none)) else (none)) else (none)) else (none)) else (none))) else (none)) = some r := H
  have A11 := Aside0.mk A110
  clear A110
  by_cases c12 : (t205 == t245 && (t206 == t246 && (t207.toList == t247.toList && (cEq t208.1 t208.2 t248.1 t248.2)))) = true
  rotate_left
  · rw [if_neg c12] at H
    exact absurd H (by simp)
  rw [if_pos c12] at H
  have c12b0 : (t205 == t245 && (t206 == t246 && (t207.toList == t247.toList && (cEq t208.1 t208.2 t248.1 t248.2)))) = true := c12
  (try (have c12b1 : decide (t205 = t245 && (t206 == t246 && (t207.toList == t247.toList && (cEq t208.1 t208.2 t248.1 t248.2)))) = true := by simpa using c12))
  (try (have c12b2 : (t205 == t245 && (t206 == t246 && (t207.toList == t247.toList && (cEq t208.1 t208.2 t248.1 t248.2)))) = true := by simpa using c12))
  clear c12
  replace H := Option.bind_eq_some_iff.mp H
  obtain ⟨⟨t249, t250, t251, t252⟩, A130, H⟩ := H
  replace H : (if (t211 == t249 && (t212 == t250 && (t213.toList == t251.toList && (cEq t214.1 t214.2 t252.1 t252.2)))) = true then (if (t217 == 0 && (t218 == 0 && (t219.toList.isEmpty && (cEq t220.1 t220.2 0 0)))) = true then (if t227 = 2 then (if t233 = 1 then (if t239 = 2 then ((val_Text.f k t199 t200 t201 t202).bind fun t253 => (if t253.toList = ([34, 54, 49, 54, 102] : List UInt8) then ((val_Text.f k t211 t212 t213 t214).bind fun t254 => (if t254.toList = ([45, 49, 43, 50, 105] : List UInt8) then ((val_Text.f k t217 t218 t219 t220).bind fun t255 => (if t255.toList = ([45] : List UInt8) then ((norialaw3_N.f 9).bind fun bt256 => ((norialaw3_S.f (⟨#[]⟩ : ByteArray)).bind fun bt260 => ((val_Compare.f k bt256.1 bt256.2.1 bt256.2.2.1 bt256.2.2.2 bt260.1 bt260.2.1 bt260.2.2.1 bt260.2.2.2).bind fun t264 => (if t264 = (-1) then ((norialaw3_C.f 1 9).bind fun bt265 => ((norialaw3_C.f 2 0).bind fun bt269 => ((val_Compare.f k bt265.1 bt265.2.1 bt265.2.2.1 bt265.2.2.2 bt269.1 bt269.2.1 bt269.2.2.1 bt269.2.2.2).bind fun t273 => (if t273 = (-1) then ((norialaw3_C.f 1 9).bind fun bt274 => ((norialaw3_C.f 1 8).bind fun bt278 => ((val_Compare.f k bt274.1 bt274.2.1 bt274.2.2.1 bt274.2.2.2 bt278.1 bt278.2.1 bt278.2.2.1 bt278.2.2.2).bind fun t282 => (if t282 = 1 then ((norialaw3_N.f (-7)).bind fun bt283 => ((val_Same.f k t205 t206 t207 t208 bt283.1 bt283.2.1 bt283.2.2.1 bt283.2.2.2).bind fun t287 => (if t287 = true then ((val_Fits.f t217 t218 t219 t220 1).bind fun t288 => (if t288 = true then ((val_Fits.f t199 t200 t201 t202 1).bind fun t289 => (if t289 = true then (none) else ((val_Check.f k t199 t200 t201 t202).bind fun t290 => (if t290 = 0 then ((val_Check.f k 0 1 (⟨#[]⟩ : ByteArray) ((0, 0) : Nat × Nat)).bind fun t291 => (if t291 = 1 then ((val_Check.f k 4 0 (⟨#[]⟩ : ByteArray) ((0, 0) : Nat × Nat)).bind fun t292 => (some (t292 == 6))) else (none))) else (none))))) else (none))) else (none)))) else (none))))) else (none))))) else (none))))) else (none))) else (none))) else (none))) else (none)) else (none)) else (none)) else (none)) else (none)) = some r := H
  have A13 := Aside0.mk A130
  clear A130
  by_cases c14 : (t211 == t249 && (t212 == t250 && (t213.toList == t251.toList && (cEq t214.1 t214.2 t252.1 t252.2)))) = true
  rotate_left
  · rw [if_neg c14] at H
    exact absurd H (by simp)
  rw [if_pos c14] at H
  have c14b0 : (t211 == t249 && (t212 == t250 && (t213.toList == t251.toList && (cEq t214.1 t214.2 t252.1 t252.2)))) = true := c14
  (try (have c14b1 : decide (t211 = t249 && (t212 == t250 && (t213.toList == t251.toList && (cEq t214.1 t214.2 t252.1 t252.2)))) = true := by simpa using c14))
  (try (have c14b2 : (t211 == t249 && (t212 == t250 && (t213.toList == t251.toList && (cEq t214.1 t214.2 t252.1 t252.2)))) = true := by simpa using c14))
  clear c14
  by_cases c15 : (t217 == 0 && (t218 == 0 && (t219.toList.isEmpty && (cEq t220.1 t220.2 0 0)))) = true
  rotate_left
  · rw [if_neg c15] at H
    exact absurd H (by simp)
  rw [if_pos c15] at H
  have c15b0 : (t217 == 0 && (t218 == 0 && (t219.toList.isEmpty && (cEq t220.1 t220.2 0 0)))) = true := c15
  (try (have c15b1 : decide (t217 = 0 && (t218 == 0 && (t219.toList.isEmpty && (cEq t220.1 t220.2 0 0)))) = true := by simpa using c15))
  (try (have c15b2 : (t217 == 0 && (t218 == 0 && (t219.toList.isEmpty && (cEq t220.1 t220.2 0 0)))) = true := by simpa using c15))
  clear c15
  by_cases c16 : t227 = 2
  rotate_left
  · rw [if_neg c16] at H
    exact absurd H (by simp)
  rw [if_pos c16] at H
  have c16b0 : (t227 == 2) = true := beq_iff_eq.mpr c16
  have c16b1 : (t227 != 2) = false := bne_eq_false_iff_eq.mpr c16
  clear c16
  by_cases c17 : t233 = 1
  rotate_left
  · rw [if_neg c17] at H
    exact absurd H (by simp)
  rw [if_pos c17] at H
  have c17b0 : (t233 == 1) = true := beq_iff_eq.mpr c17
  have c17b1 : (t233 != 1) = false := bne_eq_false_iff_eq.mpr c17
  clear c17
  by_cases c18 : t239 = 2
  rotate_left
  · rw [if_neg c18] at H
    exact absurd H (by simp)
  rw [if_pos c18] at H
  have c18b0 : (t239 == 2) = true := beq_iff_eq.mpr c18
  have c18b1 : (t239 != 2) = false := bne_eq_false_iff_eq.mpr c18
  clear c18
  replace H := Option.bind_eq_some_iff.mp H
  obtain ⟨t253, A190, H⟩ := H
  replace H : (if t253.toList = ([34, 54, 49, 54, 102] : List UInt8) then ((val_Text.f k t211 t212 t213 t214).bind fun t254 => (if t254.toList = ([45, 49, 43, 50, 105] : List UInt8) then ((val_Text.f k t217 t218 t219 t220).bind fun t255 => (if t255.toList = ([45] : List UInt8) then ((norialaw3_N.f 9).bind fun bt256 => ((norialaw3_S.f (⟨#[]⟩ : ByteArray)).bind fun bt260 => ((val_Compare.f k bt256.1 bt256.2.1 bt256.2.2.1 bt256.2.2.2 bt260.1 bt260.2.1 bt260.2.2.1 bt260.2.2.2).bind fun t264 => (if t264 = (-1) then ((norialaw3_C.f 1 9).bind fun bt265 => ((norialaw3_C.f 2 0).bind fun bt269 => ((val_Compare.f k bt265.1 bt265.2.1 bt265.2.2.1 bt265.2.2.2 bt269.1 bt269.2.1 bt269.2.2.1 bt269.2.2.2).bind fun t273 => (if t273 = (-1) then ((norialaw3_C.f 1 9).bind fun bt274 => ((norialaw3_C.f 1 8).bind fun bt278 => ((val_Compare.f k bt274.1 bt274.2.1 bt274.2.2.1 bt274.2.2.2 bt278.1 bt278.2.1 bt278.2.2.1 bt278.2.2.2).bind fun t282 => (if t282 = 1 then ((norialaw3_N.f (-7)).bind fun bt283 => ((val_Same.f k t205 t206 t207 t208 bt283.1 bt283.2.1 bt283.2.2.1 bt283.2.2.2).bind fun t287 => (if t287 = true then ((val_Fits.f t217 t218 t219 t220 1).bind fun t288 => (if t288 = true then ((val_Fits.f t199 t200 t201 t202 1).bind fun t289 => (if t289 = true then (none) else ((val_Check.f k t199 t200 t201 t202).bind fun t290 => (if t290 = 0 then ((val_Check.f k 0 1 (⟨#[]⟩ : ByteArray) ((0, 0) : Nat × Nat)).bind fun t291 => (if t291 = 1 then ((val_Check.f k 4 0 (⟨#[]⟩ : ByteArray) ((0, 0) : Nat × Nat)).bind fun t292 => (some (t292 == 6))) else (none))) else (none))))) else (none))) else (none)))) else (none))))) else (none))))) else (none))))) else (none))) else (none))) else (none)) = some r := H
  have A19 := Aside0.mk A190
  clear A190
  by_cases c20 : t253.toList = ([34, 54, 49, 54, 102] : List UInt8)
  rotate_left
  · rw [if_neg c20] at H
    exact absurd H (by simp)
  rw [if_pos c20] at H
  have c20b0 : (t253.toList == ([34, 54, 49, 54, 102] : List UInt8)) = true := beq_iff_eq.mpr c20
  have c20b1 : (t253.toList != ([34, 54, 49, 54, 102] : List UInt8)) = false := bne_eq_false_iff_eq.mpr c20
  clear c20
  replace H := Option.bind_eq_some_iff.mp H
  obtain ⟨t254, A210, H⟩ := H
  replace H : (if t254.toList = ([45, 49, 43, 50, 105] : List UInt8) then ((val_Text.f k t217 t218 t219 t220).bind fun t255 => (if t255.toList = ([45] : List UInt8) then ((norialaw3_N.f 9).bind fun bt256 => ((norialaw3_S.f (⟨#[]⟩ : ByteArray)).bind fun bt260 => ((val_Compare.f k bt256.1 bt256.2.1 bt256.2.2.1 bt256.2.2.2 bt260.1 bt260.2.1 bt260.2.2.1 bt260.2.2.2).bind fun t264 => (if t264 = (-1) then ((norialaw3_C.f 1 9).bind fun bt265 => ((norialaw3_C.f 2 0).bind fun bt269 => ((val_Compare.f k bt265.1 bt265.2.1 bt265.2.2.1 bt265.2.2.2 bt269.1 bt269.2.1 bt269.2.2.1 bt269.2.2.2).bind fun t273 => (if t273 = (-1) then ((norialaw3_C.f 1 9).bind fun bt274 => ((norialaw3_C.f 1 8).bind fun bt278 => ((val_Compare.f k bt274.1 bt274.2.1 bt274.2.2.1 bt274.2.2.2 bt278.1 bt278.2.1 bt278.2.2.1 bt278.2.2.2).bind fun t282 => (if t282 = 1 then ((norialaw3_N.f (-7)).bind fun bt283 => ((val_Same.f k t205 t206 t207 t208 bt283.1 bt283.2.1 bt283.2.2.1 bt283.2.2.2).bind fun t287 => (if t287 = true then ((val_Fits.f t217 t218 t219 t220 1).bind fun t288 => (if t288 = true then ((val_Fits.f t199 t200 t201 t202 1).bind fun t289 => (if t289 = true then (none) else ((val_Check.f k t199 t200 t201 t202).bind fun t290 => (if t290 = 0 then ((val_Check.f k 0 1 (⟨#[]⟩ : ByteArray) ((0, 0) : Nat × Nat)).bind fun t291 => (if t291 = 1 then ((val_Check.f k 4 0 (⟨#[]⟩ : ByteArray) ((0, 0) : Nat × Nat)).bind fun t292 => (some (t292 == 6))) else (none))) else (none))))) else (none))) else (none)))) else (none))))) else (none))))) else (none))))) else (none))) else (none)) = some r := H
  have A21 := Aside0.mk A210
  clear A210
  by_cases c22 : t254.toList = ([45, 49, 43, 50, 105] : List UInt8)
  rotate_left
  · rw [if_neg c22] at H
    exact absurd H (by simp)
  rw [if_pos c22] at H
  have c22b0 : (t254.toList == ([45, 49, 43, 50, 105] : List UInt8)) = true := beq_iff_eq.mpr c22
  have c22b1 : (t254.toList != ([45, 49, 43, 50, 105] : List UInt8)) = false := bne_eq_false_iff_eq.mpr c22
  clear c22
  replace H := Option.bind_eq_some_iff.mp H
  obtain ⟨t255, A230, H⟩ := H
  replace H : (if t255.toList = ([45] : List UInt8) then ((norialaw3_N.f 9).bind fun bt256 => ((norialaw3_S.f (⟨#[]⟩ : ByteArray)).bind fun bt260 => ((val_Compare.f k bt256.1 bt256.2.1 bt256.2.2.1 bt256.2.2.2 bt260.1 bt260.2.1 bt260.2.2.1 bt260.2.2.2).bind fun t264 => (if t264 = (-1) then ((norialaw3_C.f 1 9).bind fun bt265 => ((norialaw3_C.f 2 0).bind fun bt269 => ((val_Compare.f k bt265.1 bt265.2.1 bt265.2.2.1 bt265.2.2.2 bt269.1 bt269.2.1 bt269.2.2.1 bt269.2.2.2).bind fun t273 => (if t273 = (-1) then ((norialaw3_C.f 1 9).bind fun bt274 => ((norialaw3_C.f 1 8).bind fun bt278 => ((val_Compare.f k bt274.1 bt274.2.1 bt274.2.2.1 bt274.2.2.2 bt278.1 bt278.2.1 bt278.2.2.1 bt278.2.2.2).bind fun t282 => (if t282 = 1 then ((norialaw3_N.f (-7)).bind fun bt283 => ((val_Same.f k t205 t206 t207 t208 bt283.1 bt283.2.1 bt283.2.2.1 bt283.2.2.2).bind fun t287 => (if t287 = true then ((val_Fits.f t217 t218 t219 t220 1).bind fun t288 => (if t288 = true then ((val_Fits.f t199 t200 t201 t202 1).bind fun t289 => (if t289 = true then (none) else ((val_Check.f k t199 t200 t201 t202).bind fun t290 => (if t290 = 0 then ((val_Check.f k 0 1 (⟨#[]⟩ : ByteArray) ((0, 0) : Nat × Nat)).bind fun t291 => (if t291 = 1 then ((val_Check.f k 4 0 (⟨#[]⟩ : ByteArray) ((0, 0) : Nat × Nat)).bind fun t292 => (some (t292 == 6))) else (none))) else (none))))) else (none))) else (none)))) else (none))))) else (none))))) else (none))))) else (none)) = some r := H
  have A23 := Aside0.mk A230
  clear A230
  by_cases c24 : t255.toList = ([45] : List UInt8)
  rotate_left
  · rw [if_neg c24] at H
    exact absurd H (by simp)
  rw [if_pos c24] at H
  have c24b0 : (t255.toList == ([45] : List UInt8)) = true := beq_iff_eq.mpr c24
  have c24b1 : (t255.toList != ([45] : List UInt8)) = false := bne_eq_false_iff_eq.mpr c24
  clear c24
  replace H := Option.bind_eq_some_iff.mp H
  obtain ⟨⟨t256, t257, t258, t259⟩, A250, H⟩ := H
  replace H : ((norialaw3_S.f (⟨#[]⟩ : ByteArray)).bind fun bt260 => ((val_Compare.f k t256 t257 t258 t259 bt260.1 bt260.2.1 bt260.2.2.1 bt260.2.2.2).bind fun t264 => (if t264 = (-1) then ((norialaw3_C.f 1 9).bind fun bt265 => ((norialaw3_C.f 2 0).bind fun bt269 => ((val_Compare.f k bt265.1 bt265.2.1 bt265.2.2.1 bt265.2.2.2 bt269.1 bt269.2.1 bt269.2.2.1 bt269.2.2.2).bind fun t273 => (if t273 = (-1) then ((norialaw3_C.f 1 9).bind fun bt274 => ((norialaw3_C.f 1 8).bind fun bt278 => ((val_Compare.f k bt274.1 bt274.2.1 bt274.2.2.1 bt274.2.2.2 bt278.1 bt278.2.1 bt278.2.2.1 bt278.2.2.2).bind fun t282 => (if t282 = 1 then ((norialaw3_N.f (-7)).bind fun bt283 => ((val_Same.f k t205 t206 t207 t208 bt283.1 bt283.2.1 bt283.2.2.1 bt283.2.2.2).bind fun t287 => (if t287 = true then ((val_Fits.f t217 t218 t219 t220 1).bind fun t288 => (if t288 = true then ((val_Fits.f t199 t200 t201 t202 1).bind fun t289 => (if t289 = true then (none) else ((val_Check.f k t199 t200 t201 t202).bind fun t290 => (if t290 = 0 then ((val_Check.f k 0 1 (⟨#[]⟩ : ByteArray) ((0, 0) : Nat × Nat)).bind fun t291 => (if t291 = 1 then ((val_Check.f k 4 0 (⟨#[]⟩ : ByteArray) ((0, 0) : Nat × Nat)).bind fun t292 => (some (t292 == 6))) else (none))) else (none))))) else (none))) else (none)))) else (none))))) else (none))))) else (none)))) = some r := H
  have A25 := Aside0.mk A250
  clear A250
  replace H := Option.bind_eq_some_iff.mp H
  obtain ⟨⟨t260, t261, t262, t263⟩, A260, H⟩ := H
  replace H : ((val_Compare.f k t256 t257 t258 t259 t260 t261 t262 t263).bind fun t264 => (if t264 = (-1) then ((norialaw3_C.f 1 9).bind fun bt265 => ((norialaw3_C.f 2 0).bind fun bt269 => ((val_Compare.f k bt265.1 bt265.2.1 bt265.2.2.1 bt265.2.2.2 bt269.1 bt269.2.1 bt269.2.2.1 bt269.2.2.2).bind fun t273 => (if t273 = (-1) then ((norialaw3_C.f 1 9).bind fun bt274 => ((norialaw3_C.f 1 8).bind fun bt278 => ((val_Compare.f k bt274.1 bt274.2.1 bt274.2.2.1 bt274.2.2.2 bt278.1 bt278.2.1 bt278.2.2.1 bt278.2.2.2).bind fun t282 => (if t282 = 1 then ((norialaw3_N.f (-7)).bind fun bt283 => ((val_Same.f k t205 t206 t207 t208 bt283.1 bt283.2.1 bt283.2.2.1 bt283.2.2.2).bind fun t287 => (if t287 = true then ((val_Fits.f t217 t218 t219 t220 1).bind fun t288 => (if t288 = true then ((val_Fits.f t199 t200 t201 t202 1).bind fun t289 => (if t289 = true then (none) else ((val_Check.f k t199 t200 t201 t202).bind fun t290 => (if t290 = 0 then ((val_Check.f k 0 1 (⟨#[]⟩ : ByteArray) ((0, 0) : Nat × Nat)).bind fun t291 => (if t291 = 1 then ((val_Check.f k 4 0 (⟨#[]⟩ : ByteArray) ((0, 0) : Nat × Nat)).bind fun t292 => (some (t292 == 6))) else (none))) else (none))))) else (none))) else (none)))) else (none))))) else (none))))) else (none))) = some r := H
  have A26 := Aside0.mk A260
  clear A260
  replace H := Option.bind_eq_some_iff.mp H
  obtain ⟨t264, A270, H⟩ := H
  replace H : (if t264 = (-1) then ((norialaw3_C.f 1 9).bind fun bt265 => ((norialaw3_C.f 2 0).bind fun bt269 => ((val_Compare.f k bt265.1 bt265.2.1 bt265.2.2.1 bt265.2.2.2 bt269.1 bt269.2.1 bt269.2.2.1 bt269.2.2.2).bind fun t273 => (if t273 = (-1) then ((norialaw3_C.f 1 9).bind fun bt274 => ((norialaw3_C.f 1 8).bind fun bt278 => ((val_Compare.f k bt274.1 bt274.2.1 bt274.2.2.1 bt274.2.2.2 bt278.1 bt278.2.1 bt278.2.2.1 bt278.2.2.2).bind fun t282 => (if t282 = 1 then ((norialaw3_N.f (-7)).bind fun bt283 => ((val_Same.f k t205 t206 t207 t208 bt283.1 bt283.2.1 bt283.2.2.1 bt283.2.2.2).bind fun t287 => (if t287 = true then ((val_Fits.f t217 t218 t219 t220 1).bind fun t288 => (if t288 = true then ((val_Fits.f t199 t200 t201 t202 1).bind fun t289 => (if t289 = true then (none) else ((val_Check.f k t199 t200 t201 t202).bind fun t290 => (if t290 = 0 then ((val_Check.f k 0 1 (⟨#[]⟩ : ByteArray) ((0, 0) : Nat × Nat)).bind fun t291 => (if t291 = 1 then ((val_Check.f k 4 0 (⟨#[]⟩ : ByteArray) ((0, 0) : Nat × Nat)).bind fun t292 => (some (t292 == 6))) else (none))) else (none))))) else (none))) else (none)))) else (none))))) else (none))))) else (none)) = some r := H
  have A27 := Aside0.mk A270
  clear A270
  by_cases c28 : t264 = (-1)
  rotate_left
  · rw [if_neg c28] at H
    exact absurd H (by simp)
  rw [if_pos c28] at H
  have c28b0 : (t264 == (-1)) = true := beq_iff_eq.mpr c28
  have c28b1 : (t264 != (-1)) = false := bne_eq_false_iff_eq.mpr c28
  clear c28
  replace H := Option.bind_eq_some_iff.mp H
  obtain ⟨⟨t265, t266, t267, t268⟩, A290, H⟩ := H
  replace H : ((norialaw3_C.f 2 0).bind fun bt269 => ((val_Compare.f k t265 t266 t267 t268 bt269.1 bt269.2.1 bt269.2.2.1 bt269.2.2.2).bind fun t273 => (if t273 = (-1) then ((norialaw3_C.f 1 9).bind fun bt274 => ((norialaw3_C.f 1 8).bind fun bt278 => ((val_Compare.f k bt274.1 bt274.2.1 bt274.2.2.1 bt274.2.2.2 bt278.1 bt278.2.1 bt278.2.2.1 bt278.2.2.2).bind fun t282 => (if t282 = 1 then ((norialaw3_N.f (-7)).bind fun bt283 => ((val_Same.f k t205 t206 t207 t208 bt283.1 bt283.2.1 bt283.2.2.1 bt283.2.2.2).bind fun t287 => (if t287 = true then ((val_Fits.f t217 t218 t219 t220 1).bind fun t288 => (if t288 = true then ((val_Fits.f t199 t200 t201 t202 1).bind fun t289 => (if t289 = true then (none) else ((val_Check.f k t199 t200 t201 t202).bind fun t290 => (if t290 = 0 then ((val_Check.f k 0 1 (⟨#[]⟩ : ByteArray) ((0, 0) : Nat × Nat)).bind fun t291 => (if t291 = 1 then ((val_Check.f k 4 0 (⟨#[]⟩ : ByteArray) ((0, 0) : Nat × Nat)).bind fun t292 => (some (t292 == 6))) else (none))) else (none))))) else (none))) else (none)))) else (none))))) else (none)))) = some r := H
  have A29 := Aside0.mk A290
  clear A290
  replace H := Option.bind_eq_some_iff.mp H
  obtain ⟨⟨t269, t270, t271, t272⟩, A300, H⟩ := H
  replace H : ((val_Compare.f k t265 t266 t267 t268 t269 t270 t271 t272).bind fun t273 => (if t273 = (-1) then ((norialaw3_C.f 1 9).bind fun bt274 => ((norialaw3_C.f 1 8).bind fun bt278 => ((val_Compare.f k bt274.1 bt274.2.1 bt274.2.2.1 bt274.2.2.2 bt278.1 bt278.2.1 bt278.2.2.1 bt278.2.2.2).bind fun t282 => (if t282 = 1 then ((norialaw3_N.f (-7)).bind fun bt283 => ((val_Same.f k t205 t206 t207 t208 bt283.1 bt283.2.1 bt283.2.2.1 bt283.2.2.2).bind fun t287 => (if t287 = true then ((val_Fits.f t217 t218 t219 t220 1).bind fun t288 => (if t288 = true then ((val_Fits.f t199 t200 t201 t202 1).bind fun t289 => (if t289 = true then (none) else ((val_Check.f k t199 t200 t201 t202).bind fun t290 => (if t290 = 0 then ((val_Check.f k 0 1 (⟨#[]⟩ : ByteArray) ((0, 0) : Nat × Nat)).bind fun t291 => (if t291 = 1 then ((val_Check.f k 4 0 (⟨#[]⟩ : ByteArray) ((0, 0) : Nat × Nat)).bind fun t292 => (some (t292 == 6))) else (none))) else (none))))) else (none))) else (none)))) else (none))))) else (none))) = some r := H
  have A30 := Aside0.mk A300
  clear A300
  replace H := Option.bind_eq_some_iff.mp H
  obtain ⟨t273, A310, H⟩ := H
  replace H : (if t273 = (-1) then ((norialaw3_C.f 1 9).bind fun bt274 => ((norialaw3_C.f 1 8).bind fun bt278 => ((val_Compare.f k bt274.1 bt274.2.1 bt274.2.2.1 bt274.2.2.2 bt278.1 bt278.2.1 bt278.2.2.1 bt278.2.2.2).bind fun t282 => (if t282 = 1 then ((norialaw3_N.f (-7)).bind fun bt283 => ((val_Same.f k t205 t206 t207 t208 bt283.1 bt283.2.1 bt283.2.2.1 bt283.2.2.2).bind fun t287 => (if t287 = true then ((val_Fits.f t217 t218 t219 t220 1).bind fun t288 => (if t288 = true then ((val_Fits.f t199 t200 t201 t202 1).bind fun t289 => (if t289 = true then (none) else ((val_Check.f k t199 t200 t201 t202).bind fun t290 => (if t290 = 0 then ((val_Check.f k 0 1 (⟨#[]⟩ : ByteArray) ((0, 0) : Nat × Nat)).bind fun t291 => (if t291 = 1 then ((val_Check.f k 4 0 (⟨#[]⟩ : ByteArray) ((0, 0) : Nat × Nat)).bind fun t292 => (some (t292 == 6))) else (none))) else (none))))) else (none))) else (none)))) else (none))))) else (none)) = some r := H
  have A31 := Aside0.mk A310
  clear A310
  by_cases c32 : t273 = (-1)
  rotate_left
  · rw [if_neg c32] at H
    exact absurd H (by simp)
  rw [if_pos c32] at H
  have c32b0 : (t273 == (-1)) = true := beq_iff_eq.mpr c32
  have c32b1 : (t273 != (-1)) = false := bne_eq_false_iff_eq.mpr c32
  clear c32
  replace H := Option.bind_eq_some_iff.mp H
  obtain ⟨⟨t274, t275, t276, t277⟩, A330, H⟩ := H
  replace H : ((norialaw3_C.f 1 8).bind fun bt278 => ((val_Compare.f k t274 t275 t276 t277 bt278.1 bt278.2.1 bt278.2.2.1 bt278.2.2.2).bind fun t282 => (if t282 = 1 then ((norialaw3_N.f (-7)).bind fun bt283 => ((val_Same.f k t205 t206 t207 t208 bt283.1 bt283.2.1 bt283.2.2.1 bt283.2.2.2).bind fun t287 => (if t287 = true then ((val_Fits.f t217 t218 t219 t220 1).bind fun t288 => (if t288 = true then ((val_Fits.f t199 t200 t201 t202 1).bind fun t289 => (if t289 = true then (none) else ((val_Check.f k t199 t200 t201 t202).bind fun t290 => (if t290 = 0 then ((val_Check.f k 0 1 (⟨#[]⟩ : ByteArray) ((0, 0) : Nat × Nat)).bind fun t291 => (if t291 = 1 then ((val_Check.f k 4 0 (⟨#[]⟩ : ByteArray) ((0, 0) : Nat × Nat)).bind fun t292 => (some (t292 == 6))) else (none))) else (none))))) else (none))) else (none)))) else (none)))) = some r := H
  have A33 := Aside0.mk A330
  clear A330
  replace H := Option.bind_eq_some_iff.mp H
  obtain ⟨⟨t278, t279, t280, t281⟩, A340, H⟩ := H
  replace H : ((val_Compare.f k t274 t275 t276 t277 t278 t279 t280 t281).bind fun t282 => (if t282 = 1 then ((norialaw3_N.f (-7)).bind fun bt283 => ((val_Same.f k t205 t206 t207 t208 bt283.1 bt283.2.1 bt283.2.2.1 bt283.2.2.2).bind fun t287 => (if t287 = true then ((val_Fits.f t217 t218 t219 t220 1).bind fun t288 => (if t288 = true then ((val_Fits.f t199 t200 t201 t202 1).bind fun t289 => (if t289 = true then (none) else ((val_Check.f k t199 t200 t201 t202).bind fun t290 => (if t290 = 0 then ((val_Check.f k 0 1 (⟨#[]⟩ : ByteArray) ((0, 0) : Nat × Nat)).bind fun t291 => (if t291 = 1 then ((val_Check.f k 4 0 (⟨#[]⟩ : ByteArray) ((0, 0) : Nat × Nat)).bind fun t292 => (some (t292 == 6))) else (none))) else (none))))) else (none))) else (none)))) else (none))) = some r := H
  have A34 := Aside0.mk A340
  clear A340
  replace H := Option.bind_eq_some_iff.mp H
  obtain ⟨t282, A350, H⟩ := H
  replace H : (if t282 = 1 then ((norialaw3_N.f (-7)).bind fun bt283 => ((val_Same.f k t205 t206 t207 t208 bt283.1 bt283.2.1 bt283.2.2.1 bt283.2.2.2).bind fun t287 => (if t287 = true then ((val_Fits.f t217 t218 t219 t220 1).bind fun t288 => (if t288 = true then ((val_Fits.f t199 t200 t201 t202 1).bind fun t289 => (if t289 = true then (none) else ((val_Check.f k t199 t200 t201 t202).bind fun t290 => (if t290 = 0 then ((val_Check.f k 0 1 (⟨#[]⟩ : ByteArray) ((0, 0) : Nat × Nat)).bind fun t291 => (if t291 = 1 then ((val_Check.f k 4 0 (⟨#[]⟩ : ByteArray) ((0, 0) : Nat × Nat)).bind fun t292 => (some (t292 == 6))) else (none))) else (none))))) else (none))) else (none)))) else (none)) = some r := H
  have A35 := Aside0.mk A350
  clear A350
  by_cases c36 : t282 = 1
  rotate_left
  · rw [if_neg c36] at H
    exact absurd H (by simp)
  rw [if_pos c36] at H
  have c36b0 : (t282 == 1) = true := beq_iff_eq.mpr c36
  have c36b1 : (t282 != 1) = false := bne_eq_false_iff_eq.mpr c36
  clear c36
  replace H := Option.bind_eq_some_iff.mp H
  obtain ⟨⟨t283, t284, t285, t286⟩, A370, H⟩ := H
  replace H : ((val_Same.f k t205 t206 t207 t208 t283 t284 t285 t286).bind fun t287 => (if t287 = true then ((val_Fits.f t217 t218 t219 t220 1).bind fun t288 => (if t288 = true then ((val_Fits.f t199 t200 t201 t202 1).bind fun t289 => (if t289 = true then (none) else ((val_Check.f k t199 t200 t201 t202).bind fun t290 => (if t290 = 0 then ((val_Check.f k 0 1 (⟨#[]⟩ : ByteArray) ((0, 0) : Nat × Nat)).bind fun t291 => (if t291 = 1 then ((val_Check.f k 4 0 (⟨#[]⟩ : ByteArray) ((0, 0) : Nat × Nat)).bind fun t292 => (some (t292 == 6))) else (none))) else (none))))) else (none))) else (none))) = some r := H
  have A37 := Aside0.mk A370
  clear A370
  replace H := Option.bind_eq_some_iff.mp H
  obtain ⟨t287, A380, H⟩ := H
  replace H : (if t287 = true then ((val_Fits.f t217 t218 t219 t220 1).bind fun t288 => (if t288 = true then ((val_Fits.f t199 t200 t201 t202 1).bind fun t289 => (if t289 = true then (none) else ((val_Check.f k t199 t200 t201 t202).bind fun t290 => (if t290 = 0 then ((val_Check.f k 0 1 (⟨#[]⟩ : ByteArray) ((0, 0) : Nat × Nat)).bind fun t291 => (if t291 = 1 then ((val_Check.f k 4 0 (⟨#[]⟩ : ByteArray) ((0, 0) : Nat × Nat)).bind fun t292 => (some (t292 == 6))) else (none))) else (none))))) else (none))) else (none)) = some r := H
  have A38 := Aside0.mk A380
  clear A380
  by_cases c39 : t287 = true
  rotate_left
  · replace c39 := Bool.eq_false_iff.mpr c39
    subst c39
    have H1 : (none) = some r := by rw [if_neg (show ¬ (false = true) by decide)] at H; exact H
    clear H
    have H := H1
    clear H1
    exact absurd H (by simp)
  subst c39
  have H1 : ((val_Fits.f t217 t218 t219 t220 1).bind fun t288 => (if t288 = true then ((val_Fits.f t199 t200 t201 t202 1).bind fun t289 => (if t289 = true then (none) else ((val_Check.f k t199 t200 t201 t202).bind fun t290 => (if t290 = 0 then ((val_Check.f k 0 1 (⟨#[]⟩ : ByteArray) ((0, 0) : Nat × Nat)).bind fun t291 => (if t291 = 1 then ((val_Check.f k 4 0 (⟨#[]⟩ : ByteArray) ((0, 0) : Nat × Nat)).bind fun t292 => (some (t292 == 6))) else (none))) else (none))))) else (none))) = some r := by rw [if_pos rfl] at H; exact H
  clear H
  have H := H1
  clear H1
  replace H := Option.bind_eq_some_iff.mp H
  obtain ⟨t288, A400, H⟩ := H
  replace H : (if t288 = true then ((val_Fits.f t199 t200 t201 t202 1).bind fun t289 => (if t289 = true then (none) else ((val_Check.f k t199 t200 t201 t202).bind fun t290 => (if t290 = 0 then ((val_Check.f k 0 1 (⟨#[]⟩ : ByteArray) ((0, 0) : Nat × Nat)).bind fun t291 => (if t291 = 1 then ((val_Check.f k 4 0 (⟨#[]⟩ : ByteArray) ((0, 0) : Nat × Nat)).bind fun t292 => (some (t292 == 6))) else (none))) else (none))))) else (none)) = some r := H
  have A40 := Aside0.mk A400
  clear A400
  by_cases c41 : t288 = true
  rotate_left
  · replace c41 := Bool.eq_false_iff.mpr c41
    subst c41
    have H1 : (none) = some r := by rw [if_neg (show ¬ (false = true) by decide)] at H; exact H
    clear H
    have H := H1
    clear H1
    exact absurd H (by simp)
  subst c41
  have H1 : ((val_Fits.f t199 t200 t201 t202 1).bind fun t289 => (if t289 = true then (none) else ((val_Check.f k t199 t200 t201 t202).bind fun t290 => (if t290 = 0 then ((val_Check.f k 0 1 (⟨#[]⟩ : ByteArray) ((0, 0) : Nat × Nat)).bind fun t291 => (if t291 = 1 then ((val_Check.f k 4 0 (⟨#[]⟩ : ByteArray) ((0, 0) : Nat × Nat)).bind fun t292 => (some (t292 == 6))) else (none))) else (none))))) = some r := by rw [if_pos rfl] at H; exact H
  clear H
  have H := H1
  clear H1
  replace H := Option.bind_eq_some_iff.mp H
  obtain ⟨t289, A420, H⟩ := H
  replace H : (if t289 = true then (none) else ((val_Check.f k t199 t200 t201 t202).bind fun t290 => (if t290 = 0 then ((val_Check.f k 0 1 (⟨#[]⟩ : ByteArray) ((0, 0) : Nat × Nat)).bind fun t291 => (if t291 = 1 then ((val_Check.f k 4 0 (⟨#[]⟩ : ByteArray) ((0, 0) : Nat × Nat)).bind fun t292 => (some (t292 == 6))) else (none))) else (none)))) = some r := H
  have A42 := Aside0.mk A420
  clear A420
  by_cases c43 : t289 = true
  · subst c43
    have H1 : (none) = some r := by rw [if_pos rfl] at H; exact H
    clear H
    have H := H1
    clear H1
    exact absurd H (by simp)
  · replace c43 := Bool.eq_false_iff.mpr c43
    subst c43
    have H1 : ((val_Check.f k t199 t200 t201 t202).bind fun t290 => (if t290 = 0 then ((val_Check.f k 0 1 (⟨#[]⟩ : ByteArray) ((0, 0) : Nat × Nat)).bind fun t291 => (if t291 = 1 then ((val_Check.f k 4 0 (⟨#[]⟩ : ByteArray) ((0, 0) : Nat × Nat)).bind fun t292 => (some (t292 == 6))) else (none))) else (none))) = some r := by rw [if_neg (show ¬ (false = true) by decide)] at H; exact H
    clear H
    have H := H1
    clear H1
    replace H := Option.bind_eq_some_iff.mp H
    obtain ⟨t290, A440, H⟩ := H
    replace H : (if t290 = 0 then ((val_Check.f k 0 1 (⟨#[]⟩ : ByteArray) ((0, 0) : Nat × Nat)).bind fun t291 => (if t291 = 1 then ((val_Check.f k 4 0 (⟨#[]⟩ : ByteArray) ((0, 0) : Nat × Nat)).bind fun t292 => (some (t292 == 6))) else (none))) else (none)) = some r := H
    have A44 := Aside0.mk A440
    clear A440
    by_cases c45 : t290 = 0
    · rw [if_pos c45] at H
      have c45b0 : (t290 == 0) = true := beq_iff_eq.mpr c45
      have c45b1 : (t290 != 0) = false := bne_eq_false_iff_eq.mpr c45
      clear c45
      replace H := Option.bind_eq_some_iff.mp H
      obtain ⟨t291, A460, H⟩ := H
      replace H : (if t291 = 1 then ((val_Check.f k 4 0 (⟨#[]⟩ : ByteArray) ((0, 0) : Nat × Nat)).bind fun t292 => (some (t292 == 6))) else (none)) = some r := H
      have A46 := Aside0.mk A460
      clear A460
      by_cases c47 : t291 = 1
      · rw [if_pos c47] at H
        have c47b0 : (t291 == 1) = true := beq_iff_eq.mpr c47
        have c47b1 : (t291 != 1) = false := bne_eq_false_iff_eq.mpr c47
        clear c47
        replace H := Option.bind_eq_some_iff.mp H
        obtain ⟨t292, A480, H⟩ := H
        replace H : (some (t292 == 6)) = some r := H
        have A48 := Aside0.mk A480
        clear A480
        obtain rfl := Option.some.inj H
        go_enter Tryz.func4, Tryz.ntmps4
        try go_wp2_with (first | ((with_reducible refine gate_callee (f := 5) rfl ?_); refine goesL_ (some 16) rfl rfl Tryz.func5 (by kernel_rfl) rfl #[.string (⟨#[34, 54, 49, 54, 102]⟩ : ByteArray)] rfl (by (try simp only [List.map_toArray, List.map_cons, List.map_nil]); first | done | rfl | (simp only [List.length_drop, List.length_take]; rfl)) ?_; (with_reducible refine (val_Parse.calls k (⟨#[34, 54, 49, 54, 102]⟩ : ByteArray) t199 t200 t201 t202 t203 _ A1.out (Glob.below HG_.out (by repeat (first | (with_reducible first | exact HB.out | apply below_alloc | apply pw_below_drewN | apply below_drew1) | exact HB.out)))).mono ?_); rintro e w49 ⟨rfl, hb⟩; refine ⟨_, rfl, ?_⟩; have n0_ := Aside0.mk (below_step (by repeat (first | (with_reducible first | exact HB.out | apply below_alloc | apply pw_below_drewN | apply below_drew1) | exact HB.out)) hb); clear HB; have HB := n0_; clear n0_; (try clear hb); (try clear hb2); (try clear hk); (try clear hi)) | ((with_reducible refine gate_dst (N := 1) rfl ?_); refine box_event ?hg (N := 1) ?hd (cs := #[.int .i64 0, .int .i64 0, .string (⟨#[]⟩ : ByteArray), .complex .f64 0 0]) (t := 25) ?hr ?_; (case hd => rfl); (case hg => rfl); (case hr => first | (go_simp; done) | (go_simp; rfl)); intro gb204 hg w50 hbox hb; have n0_ := Aside0.mk (below_step (by repeat (first | (with_reducible first | exact HB.out | apply below_alloc | apply pw_below_drewN | apply below_drew1) | exact HB.out)) hb); have n1_ := Aside0.mk (hbox); have n2_ := Aside0.mk ((by rw [hg]; exact (below_size (by repeat (first | (with_reducible first | exact HB.out | apply below_alloc | apply pw_below_drewN | apply below_drew1) | exact HB.out))) : w.heap.size ≤ gb204)); have n3_ := Aside0.mk ((by rw [hg]; exact (below_size (by repeat (first | (with_reducible first | exact HB.out | apply below_alloc | apply pw_below_drewN | apply below_drew1) | exact HB.out))) : w.heap.size ≤ gb204)); clear HB; have HB := n0_; have BK204 := n1_; have GW204 := n2_; have GE204 := n3_; clear n0_ n1_ n2_ n3_; clear hb hbox hg; have hcz51_0 : w50.cell? ⟨gb204, 0, none⟩ = some (.int .i64 0) := (blk_cell BK204.out 0).trans rfl; have hcz51_1 : w50.cell? ⟨gb204, 1, none⟩ = some (.int .i64 0) := (blk_cell BK204.out 1).trans rfl; have hcz51_2 : w50.cell? ⟨gb204, 2, none⟩ = some (.string (⟨#[]⟩ : ByteArray)) := (blk_cell BK204.out 2).trans rfl; have hcz51_3 : w50.cell? ⟨gb204, 3, none⟩ = some (.complex .f64 0 0) := (blk_cell BK204.out 3).trans rfl; have hfz51_0 := blk_frozen BK204.out 0; have hfz51_1 := blk_frozen BK204.out 1; have hfz51_2 := blk_frozen BK204.out 2; have hfz51_3 := blk_frozen BK204.out 3) | ((with_reducible refine gate_callee (f := 5) rfl ?_); refine goesL_ (some 20) rfl rfl Tryz.func5 (by kernel_rfl) rfl #[.string (⟨#[45, 55]⟩ : ByteArray)] rfl (by (try simp only [List.map_toArray, List.map_cons, List.map_nil]); first | done | rfl | (simp only [List.length_drop, List.length_take]; rfl)) ?_; (with_reducible refine (val_Parse.calls k (⟨#[45, 55]⟩ : ByteArray) t205 t206 t207 t208 t209 _ A2.out (Glob.below HG_.out (by repeat (first | (with_reducible first | exact HB.out | apply below_alloc | apply pw_below_drewN | apply below_drew1 | refine below_set ?_ GE204.out) | exact HB.out)))).mono ?_); rintro e w52 ⟨rfl, hb⟩; refine ⟨_, rfl, ?_⟩; have n0_ := Aside0.mk (blk_below (g := gb204) (o := .cells #[.int .i64 t199, .int .i64 t200, .string t201, .complex .f64 t202.1 t202.2] 25 (0, 0)) (by (with_reducible repeat (first | refine blk_drewN ?_ _ | refine blk_drew ?_ | refine blk_alloc ?_ _)); refine blk_put (cs := #[.int .i64 t199, .int .i64 t200, .string t201, .complex .f64 0 0]) ?_ 3 _ rfl; (with_reducible repeat (first | refine blk_drewN ?_ _ | refine blk_drew ?_ | refine blk_alloc ?_ _)); refine blk_put (cs := #[.int .i64 t199, .int .i64 t200, .string (⟨#[]⟩ : ByteArray), .complex .f64 0 0]) ?_ 2 _ rfl; (with_reducible repeat (first | refine blk_drewN ?_ _ | refine blk_drew ?_ | refine blk_alloc ?_ _)); refine blk_put (cs := #[.int .i64 t199, .int .i64 0, .string (⟨#[]⟩ : ByteArray), .complex .f64 0 0]) ?_ 1 _ rfl; (with_reducible repeat (first | refine blk_drewN ?_ _ | refine blk_drew ?_ | refine blk_alloc ?_ _)); refine blk_put (cs := #[.int .i64 0, .int .i64 0, .string (⟨#[]⟩ : ByteArray), .complex .f64 0 0]) ?_ 0 _ rfl; (with_reducible repeat (first | refine blk_drewN ?_ _ | refine blk_drew ?_ | refine blk_alloc ?_ _)); exact BK204.out) hb); have n1_ := Aside0.mk (below_step (by repeat (first | (with_reducible first | exact HB.out | apply below_alloc | apply pw_below_drewN | apply below_drew1 | refine below_set ?_ GE204.out) | exact HB.out)) hb); clear BK204; clear HB; have BK204 := n0_; have HB := n1_; clear n0_ n1_; (try clear hb); (try clear hb2); (try clear hk); (try clear hi)) | ((with_reducible refine gate_dst (N := 3) rfl ?_); refine box_event ?hg (N := 3) ?hd (cs := #[.int .i64 0, .int .i64 0, .string (⟨#[]⟩ : ByteArray), .complex .f64 0 0]) (t := 25) ?hr ?_; (case hd => rfl); (case hg => rfl); (case hr => first | (go_simp; done) | (go_simp; rfl)); intro gb210 hg w53 hbox hb; have n0_ := Aside0.mk (blk_below (g := gb204) (o := .cells #[.int .i64 t199, .int .i64 t200, .string t201, .complex .f64 t202.1 t202.2] 25 (0, 0)) (by (with_reducible repeat (first | refine blk_drewN ?_ _ | refine blk_drew ?_ | refine blk_alloc ?_ _)); exact BK204.out) hb); have n1_ := Aside0.mk (below_step (by repeat (first | (with_reducible first | exact HB.out | apply below_alloc | apply pw_below_drewN | apply below_drew1 | refine below_set ?_ GE204.out) | exact HB.out)) hb); have n2_ := Aside0.mk (hbox); have n3_ := Aside0.mk ((by rw [hg]; exact (below_size (by repeat (first | (with_reducible first | exact HB.out | apply below_alloc | apply pw_below_drewN | apply below_drew1 | refine below_set ?_ GE204.out) | exact HB.out))) : w.heap.size ≤ gb210)); have n4_ := Aside0.mk ((by rw [hg]; exact (below_size (by repeat (first | (with_reducible first | exact HB.out | apply below_alloc | apply pw_below_drewN | apply below_drew1 | refine below_set ?_ GE204.out) | exact HB.out))) : w.heap.size ≤ gb210)); have n5_ := Aside0.mk ((by rw [hg]; exact Nat.ne_of_lt (blk_lt (g := gb204) (o := .cells #[.int .i64 t199, .int .i64 t200, .string t201, .complex .f64 t202.1 t202.2] 25 (0, 0)) (by (with_reducible repeat (first | refine blk_drewN ?_ _ | refine blk_drew ?_ | refine blk_alloc ?_ _)); exact BK204.out)) : gb204 ≠ gb210)); have n6_ := Aside0.mk ((by rw [hg]; exact Nat.ne_of_gt (blk_lt (g := gb204) (o := .cells #[.int .i64 t199, .int .i64 t200, .string t201, .complex .f64 t202.1 t202.2] 25 (0, 0)) (by (with_reducible repeat (first | refine blk_drewN ?_ _ | refine blk_drew ?_ | refine blk_alloc ?_ _)); exact BK204.out)) : gb210 ≠ gb204)); clear BK204; clear HB; have BK204 := n0_; have HB := n1_; have BK210 := n2_; have GW210 := n3_; have GE210 := n4_; have NB204_210 := n5_; have NB210_204 := n6_; clear n0_ n1_ n2_ n3_ n4_ n5_ n6_; clear hb hbox hg; have hnb54 := NB210_204.out; have hnc54 := NB204_210.out; have hcz55_0 : w53.cell? ⟨gb210, 0, none⟩ = some (.int .i64 0) := (blk_cell BK210.out 0).trans rfl; have hcz55_1 : w53.cell? ⟨gb210, 1, none⟩ = some (.int .i64 0) := (blk_cell BK210.out 1).trans rfl; have hcz55_2 : w53.cell? ⟨gb210, 2, none⟩ = some (.string (⟨#[]⟩ : ByteArray)) := (blk_cell BK210.out 2).trans rfl; have hcz55_3 : w53.cell? ⟨gb210, 3, none⟩ = some (.complex .f64 0 0) := (blk_cell BK210.out 3).trans rfl; have hfz55_0 := blk_frozen BK210.out 0; have hfz55_1 := blk_frozen BK210.out 1; have hfz55_2 := blk_frozen BK210.out 2; have hfz55_3 := blk_frozen BK210.out 3) | ((with_reducible refine gate_callee (f := 5) rfl ?_); refine goesL_ (some 24) rfl rfl Tryz.func5 (by kernel_rfl) rfl #[.string (⟨#[45, 49, 43, 50, 105]⟩ : ByteArray)] rfl (by (try simp only [List.map_toArray, List.map_cons, List.map_nil]); first | done | rfl | (simp only [List.length_drop, List.length_take]; rfl)) ?_; (with_reducible refine (val_Parse.calls k (⟨#[45, 49, 43, 50, 105]⟩ : ByteArray) t211 t212 t213 t214 t215 _ A3.out (Glob.below HG_.out (by repeat (first | (with_reducible first | exact HB.out | apply below_alloc | apply pw_below_drewN | apply below_drew1 | refine below_set ?_ GE204.out | refine below_set ?_ GE210.out) | exact HB.out)))).mono ?_); rintro e w56 ⟨rfl, hb⟩; refine ⟨_, rfl, ?_⟩; have n0_ := Aside0.mk (blk_below (g := gb204) (o := .cells #[.int .i64 t199, .int .i64 t200, .string t201, .complex .f64 t202.1 t202.2] 25 (0, 0)) (by (with_reducible repeat (first | refine blk_drewN ?_ _ | refine blk_drew ?_ | refine blk_alloc ?_ _)); refine blk_far ?_ NB204_210.out _; (with_reducible repeat (first | refine blk_drewN ?_ _ | refine blk_drew ?_ | refine blk_alloc ?_ _)); refine blk_far ?_ NB204_210.out _; (with_reducible repeat (first | refine blk_drewN ?_ _ | refine blk_drew ?_ | refine blk_alloc ?_ _)); refine blk_far ?_ NB204_210.out _; (with_reducible repeat (first | refine blk_drewN ?_ _ | refine blk_drew ?_ | refine blk_alloc ?_ _)); refine blk_far ?_ NB204_210.out _; (with_reducible repeat (first | refine blk_drewN ?_ _ | refine blk_drew ?_ | refine blk_alloc ?_ _)); exact BK204.out) hb); have n1_ := Aside0.mk (blk_below (g := gb210) (o := .cells #[.int .i64 t205, .int .i64 t206, .string t207, .complex .f64 t208.1 t208.2] 25 (0, 0)) (by (with_reducible repeat (first | refine blk_drewN ?_ _ | refine blk_drew ?_ | refine blk_alloc ?_ _)); refine blk_put (cs := #[.int .i64 t205, .int .i64 t206, .string t207, .complex .f64 0 0]) ?_ 3 _ rfl; (with_reducible repeat (first | refine blk_drewN ?_ _ | refine blk_drew ?_ | refine blk_alloc ?_ _)); refine blk_put (cs := #[.int .i64 t205, .int .i64 t206, .string (⟨#[]⟩ : ByteArray), .complex .f64 0 0]) ?_ 2 _ rfl; (with_reducible repeat (first | refine blk_drewN ?_ _ | refine blk_drew ?_ | refine blk_alloc ?_ _)); refine blk_put (cs := #[.int .i64 t205, .int .i64 0, .string (⟨#[]⟩ : ByteArray), .complex .f64 0 0]) ?_ 1 _ rfl; (with_reducible repeat (first | refine blk_drewN ?_ _ | refine blk_drew ?_ | refine blk_alloc ?_ _)); refine blk_put (cs := #[.int .i64 0, .int .i64 0, .string (⟨#[]⟩ : ByteArray), .complex .f64 0 0]) ?_ 0 _ rfl; (with_reducible repeat (first | refine blk_drewN ?_ _ | refine blk_drew ?_ | refine blk_alloc ?_ _)); exact BK210.out) hb); have n2_ := Aside0.mk (below_step (by repeat (first | (with_reducible first | exact HB.out | apply below_alloc | apply pw_below_drewN | apply below_drew1 | refine below_set ?_ GE204.out | refine below_set ?_ GE210.out) | exact HB.out)) hb); clear BK204; clear BK210; clear HB; have BK204 := n0_; have BK210 := n1_; have HB := n2_; clear n0_ n1_ n2_; (try clear hb); (try clear hb2); (try clear hk); (try clear hi)) | ((with_reducible refine gate_dst (N := 5) rfl ?_); refine box_event ?hg (N := 5) ?hd (cs := #[.int .i64 0, .int .i64 0, .string (⟨#[]⟩ : ByteArray), .complex .f64 0 0]) (t := 25) ?hr ?_; (case hd => rfl); (case hg => rfl); (case hr => first | (go_simp; done) | (go_simp; rfl)); intro gb216 hg w57 hbox hb; have n0_ := Aside0.mk (blk_below (g := gb204) (o := .cells #[.int .i64 t199, .int .i64 t200, .string t201, .complex .f64 t202.1 t202.2] 25 (0, 0)) (by (with_reducible repeat (first | refine blk_drewN ?_ _ | refine blk_drew ?_ | refine blk_alloc ?_ _)); exact BK204.out) hb); have n1_ := Aside0.mk (blk_below (g := gb210) (o := .cells #[.int .i64 t205, .int .i64 t206, .string t207, .complex .f64 t208.1 t208.2] 25 (0, 0)) (by (with_reducible repeat (first | refine blk_drewN ?_ _ | refine blk_drew ?_ | refine blk_alloc ?_ _)); exact BK210.out) hb); have n2_ := Aside0.mk (below_step (by repeat (first | (with_reducible first | exact HB.out | apply below_alloc | apply pw_below_drewN | apply below_drew1 | refine below_set ?_ GE204.out | refine below_set ?_ GE210.out) | exact HB.out)) hb); have n3_ := Aside0.mk (hbox); have n4_ := Aside0.mk ((by rw [hg]; exact (below_size (by repeat (first | (with_reducible first | exact HB.out | apply below_alloc | apply pw_below_drewN | apply below_drew1 | refine below_set ?_ GE204.out | refine below_set ?_ GE210.out) | exact HB.out))) : w.heap.size ≤ gb216)); have n5_ := Aside0.mk ((by rw [hg]; exact (below_size (by repeat (first | (with_reducible first | exact HB.out | apply below_alloc | apply pw_below_drewN | apply below_drew1 | refine below_set ?_ GE204.out | refine below_set ?_ GE210.out) | exact HB.out))) : w.heap.size ≤ gb216)); have n6_ := Aside0.mk ((by rw [hg]; exact Nat.ne_of_lt (blk_lt (g := gb204) (o := .cells #[.int .i64 t199, .int .i64 t200, .string t201, .complex .f64 t202.1 t202.2] 25 (0, 0)) (by (with_reducible repeat (first | refine blk_drewN ?_ _ | refine blk_drew ?_ | refine blk_alloc ?_ _)); exact BK204.out)) : gb204 ≠ gb216)); have n7_ := Aside0.mk ((by rw [hg]; exact Nat.ne_of_gt (blk_lt (g := gb204) (o := .cells #[.int .i64 t199, .int .i64 t200, .string t201, .complex .f64 t202.1 t202.2] 25 (0, 0)) (by (with_reducible repeat (first | refine blk_drewN ?_ _ | refine blk_drew ?_ | refine blk_alloc ?_ _)); exact BK204.out)) : gb216 ≠ gb204)); have n8_ := Aside0.mk ((by rw [hg]; exact Nat.ne_of_lt (blk_lt (g := gb210) (o := .cells #[.int .i64 t205, .int .i64 t206, .string t207, .complex .f64 t208.1 t208.2] 25 (0, 0)) (by (with_reducible repeat (first | refine blk_drewN ?_ _ | refine blk_drew ?_ | refine blk_alloc ?_ _)); exact BK210.out)) : gb210 ≠ gb216)); have n9_ := Aside0.mk ((by rw [hg]; exact Nat.ne_of_gt (blk_lt (g := gb210) (o := .cells #[.int .i64 t205, .int .i64 t206, .string t207, .complex .f64 t208.1 t208.2] 25 (0, 0)) (by (with_reducible repeat (first | refine blk_drewN ?_ _ | refine blk_drew ?_ | refine blk_alloc ?_ _)); exact BK210.out)) : gb216 ≠ gb210)); clear BK204; clear BK210; clear HB; have BK204 := n0_; have BK210 := n1_; have HB := n2_; have BK216 := n3_; have GW216 := n4_; have GE216 := n5_; have NB204_216 := n6_; have NB216_204 := n7_; have NB210_216 := n8_; have NB216_210 := n9_; clear n0_ n1_ n2_ n3_ n4_ n5_ n6_ n7_ n8_ n9_; clear hb hbox hg; have hnb58 := NB216_204.out; have hnc58 := NB204_216.out; have hnb59 := NB216_210.out; have hnc59 := NB210_216.out; have hcz60_0 : w57.cell? ⟨gb216, 0, none⟩ = some (.int .i64 0) := (blk_cell BK216.out 0).trans rfl; have hcz60_1 : w57.cell? ⟨gb216, 1, none⟩ = some (.int .i64 0) := (blk_cell BK216.out 1).trans rfl; have hcz60_2 : w57.cell? ⟨gb216, 2, none⟩ = some (.string (⟨#[]⟩ : ByteArray)) := (blk_cell BK216.out 2).trans rfl; have hcz60_3 : w57.cell? ⟨gb216, 3, none⟩ = some (.complex .f64 0 0) := (blk_cell BK216.out 3).trans rfl; have hfz60_0 := blk_frozen BK216.out 0; have hfz60_1 := blk_frozen BK216.out 1; have hfz60_2 := blk_frozen BK216.out 2; have hfz60_3 := blk_frozen BK216.out 3) | ((with_reducible refine gate_callee (f := 5) rfl ?_); refine goesL_ (some 28) rfl rfl Tryz.func5 (by kernel_rfl) rfl #[.string (⟨#[45]⟩ : ByteArray)] rfl (by (try simp only [List.map_toArray, List.map_cons, List.map_nil]); first | done | rfl | (simp only [List.length_drop, List.length_take]; rfl)) ?_; (with_reducible refine (val_Parse.calls k (⟨#[45]⟩ : ByteArray) t217 t218 t219 t220 t221 _ A4.out (Glob.below HG_.out (by repeat (first | (with_reducible first | exact HB.out | apply below_alloc | apply pw_below_drewN | apply below_drew1 | refine below_set ?_ GE204.out | refine below_set ?_ GE210.out | refine below_set ?_ GE216.out) | exact HB.out)))).mono ?_); rintro e w61 ⟨rfl, hb⟩; refine ⟨_, rfl, ?_⟩; have n0_ := Aside0.mk (blk_below (g := gb204) (o := .cells #[.int .i64 t199, .int .i64 t200, .string t201, .complex .f64 t202.1 t202.2] 25 (0, 0)) (by (with_reducible repeat (first | refine blk_drewN ?_ _ | refine blk_drew ?_ | refine blk_alloc ?_ _)); refine blk_far ?_ NB204_216.out _; (with_reducible repeat (first | refine blk_drewN ?_ _ | refine blk_drew ?_ | refine blk_alloc ?_ _)); refine blk_far ?_ NB204_216.out _; (with_reducible repeat (first | refine blk_drewN ?_ _ | refine blk_drew ?_ | refine blk_alloc ?_ _)); refine blk_far ?_ NB204_216.out _; (with_reducible repeat (first | refine blk_drewN ?_ _ | refine blk_drew ?_ | refine blk_alloc ?_ _)); refine blk_far ?_ NB204_216.out _; (with_reducible repeat (first | refine blk_drewN ?_ _ | refine blk_drew ?_ | refine blk_alloc ?_ _)); exact BK204.out) hb); have n1_ := Aside0.mk (blk_below (g := gb210) (o := .cells #[.int .i64 t205, .int .i64 t206, .string t207, .complex .f64 t208.1 t208.2] 25 (0, 0)) (by (with_reducible repeat (first | refine blk_drewN ?_ _ | refine blk_drew ?_ | refine blk_alloc ?_ _)); refine blk_far ?_ NB210_216.out _; (with_reducible repeat (first | refine blk_drewN ?_ _ | refine blk_drew ?_ | refine blk_alloc ?_ _)); refine blk_far ?_ NB210_216.out _; (with_reducible repeat (first | refine blk_drewN ?_ _ | refine blk_drew ?_ | refine blk_alloc ?_ _)); refine blk_far ?_ NB210_216.out _; (with_reducible repeat (first | refine blk_drewN ?_ _ | refine blk_drew ?_ | refine blk_alloc ?_ _)); refine blk_far ?_ NB210_216.out _; (with_reducible repeat (first | refine blk_drewN ?_ _ | refine blk_drew ?_ | refine blk_alloc ?_ _)); exact BK210.out) hb); have n2_ := Aside0.mk (blk_below (g := gb216) (o := .cells #[.int .i64 t211, .int .i64 t212, .string t213, .complex .f64 t214.1 t214.2] 25 (0, 0)) (by (with_reducible repeat (first | refine blk_drewN ?_ _ | refine blk_drew ?_ | refine blk_alloc ?_ _)); refine blk_put (cs := #[.int .i64 t211, .int .i64 t212, .string t213, .complex .f64 0 0]) ?_ 3 _ rfl; (with_reducible repeat (first | refine blk_drewN ?_ _ | refine blk_drew ?_ | refine blk_alloc ?_ _)); refine blk_put (cs := #[.int .i64 t211, .int .i64 t212, .string (⟨#[]⟩ : ByteArray), .complex .f64 0 0]) ?_ 2 _ rfl; (with_reducible repeat (first | refine blk_drewN ?_ _ | refine blk_drew ?_ | refine blk_alloc ?_ _)); refine blk_put (cs := #[.int .i64 t211, .int .i64 0, .string (⟨#[]⟩ : ByteArray), .complex .f64 0 0]) ?_ 1 _ rfl; (with_reducible repeat (first | refine blk_drewN ?_ _ | refine blk_drew ?_ | refine blk_alloc ?_ _)); refine blk_put (cs := #[.int .i64 0, .int .i64 0, .string (⟨#[]⟩ : ByteArray), .complex .f64 0 0]) ?_ 0 _ rfl; (with_reducible repeat (first | refine blk_drewN ?_ _ | refine blk_drew ?_ | refine blk_alloc ?_ _)); exact BK216.out) hb); have n3_ := Aside0.mk (below_step (by repeat (first | (with_reducible first | exact HB.out | apply below_alloc | apply pw_below_drewN | apply below_drew1 | refine below_set ?_ GE204.out | refine below_set ?_ GE210.out | refine below_set ?_ GE216.out) | exact HB.out)) hb); clear BK204; clear BK210; clear BK216; clear HB; have BK204 := n0_; have BK210 := n1_; have BK216 := n2_; have HB := n3_; clear n0_ n1_ n2_ n3_; (try clear hb); (try clear hb2); (try clear hk); (try clear hi)) | ((with_reducible refine gate_dst (N := 7) rfl ?_); refine box_event ?hg (N := 7) ?hd (cs := #[.int .i64 0, .int .i64 0, .string (⟨#[]⟩ : ByteArray), .complex .f64 0 0]) (t := 25) ?hr ?_; (case hd => rfl); (case hg => rfl); (case hr => first | (go_simp; done) | (go_simp; rfl)); intro gb222 hg w62 hbox hb; have n0_ := Aside0.mk (blk_below (g := gb204) (o := .cells #[.int .i64 t199, .int .i64 t200, .string t201, .complex .f64 t202.1 t202.2] 25 (0, 0)) (by (with_reducible repeat (first | refine blk_drewN ?_ _ | refine blk_drew ?_ | refine blk_alloc ?_ _)); exact BK204.out) hb); have n1_ := Aside0.mk (blk_below (g := gb210) (o := .cells #[.int .i64 t205, .int .i64 t206, .string t207, .complex .f64 t208.1 t208.2] 25 (0, 0)) (by (with_reducible repeat (first | refine blk_drewN ?_ _ | refine blk_drew ?_ | refine blk_alloc ?_ _)); exact BK210.out) hb); have n2_ := Aside0.mk (blk_below (g := gb216) (o := .cells #[.int .i64 t211, .int .i64 t212, .string t213, .complex .f64 t214.1 t214.2] 25 (0, 0)) (by (with_reducible repeat (first | refine blk_drewN ?_ _ | refine blk_drew ?_ | refine blk_alloc ?_ _)); exact BK216.out) hb); have n3_ := Aside0.mk (below_step (by repeat (first | (with_reducible first | exact HB.out | apply below_alloc | apply pw_below_drewN | apply below_drew1 | refine below_set ?_ GE204.out | refine below_set ?_ GE210.out | refine below_set ?_ GE216.out) | exact HB.out)) hb); have n4_ := Aside0.mk (hbox); have n5_ := Aside0.mk ((by rw [hg]; exact (below_size (by repeat (first | (with_reducible first | exact HB.out | apply below_alloc | apply pw_below_drewN | apply below_drew1 | refine below_set ?_ GE204.out | refine below_set ?_ GE210.out | refine below_set ?_ GE216.out) | exact HB.out))) : w.heap.size ≤ gb222)); have n6_ := Aside0.mk ((by rw [hg]; exact (below_size (by repeat (first | (with_reducible first | exact HB.out | apply below_alloc | apply pw_below_drewN | apply below_drew1 | refine below_set ?_ GE204.out | refine below_set ?_ GE210.out | refine below_set ?_ GE216.out) | exact HB.out))) : w.heap.size ≤ gb222)); have n7_ := Aside0.mk ((by rw [hg]; exact Nat.ne_of_lt (blk_lt (g := gb204) (o := .cells #[.int .i64 t199, .int .i64 t200, .string t201, .complex .f64 t202.1 t202.2] 25 (0, 0)) (by (with_reducible repeat (first | refine blk_drewN ?_ _ | refine blk_drew ?_ | refine blk_alloc ?_ _)); exact BK204.out)) : gb204 ≠ gb222)); have n8_ := Aside0.mk ((by rw [hg]; exact Nat.ne_of_gt (blk_lt (g := gb204) (o := .cells #[.int .i64 t199, .int .i64 t200, .string t201, .complex .f64 t202.1 t202.2] 25 (0, 0)) (by (with_reducible repeat (first | refine blk_drewN ?_ _ | refine blk_drew ?_ | refine blk_alloc ?_ _)); exact BK204.out)) : gb222 ≠ gb204)); have n9_ := Aside0.mk ((by rw [hg]; exact Nat.ne_of_lt (blk_lt (g := gb210) (o := .cells #[.int .i64 t205, .int .i64 t206, .string t207, .complex .f64 t208.1 t208.2] 25 (0, 0)) (by (with_reducible repeat (first | refine blk_drewN ?_ _ | refine blk_drew ?_ | refine blk_alloc ?_ _)); exact BK210.out)) : gb210 ≠ gb222)); have n10_ := Aside0.mk ((by rw [hg]; exact Nat.ne_of_gt (blk_lt (g := gb210) (o := .cells #[.int .i64 t205, .int .i64 t206, .string t207, .complex .f64 t208.1 t208.2] 25 (0, 0)) (by (with_reducible repeat (first | refine blk_drewN ?_ _ | refine blk_drew ?_ | refine blk_alloc ?_ _)); exact BK210.out)) : gb222 ≠ gb210)); have n11_ := Aside0.mk ((by rw [hg]; exact Nat.ne_of_lt (blk_lt (g := gb216) (o := .cells #[.int .i64 t211, .int .i64 t212, .string t213, .complex .f64 t214.1 t214.2] 25 (0, 0)) (by (with_reducible repeat (first | refine blk_drewN ?_ _ | refine blk_drew ?_ | refine blk_alloc ?_ _)); exact BK216.out)) : gb216 ≠ gb222)); have n12_ := Aside0.mk ((by rw [hg]; exact Nat.ne_of_gt (blk_lt (g := gb216) (o := .cells #[.int .i64 t211, .int .i64 t212, .string t213, .complex .f64 t214.1 t214.2] 25 (0, 0)) (by (with_reducible repeat (first | refine blk_drewN ?_ _ | refine blk_drew ?_ | refine blk_alloc ?_ _)); exact BK216.out)) : gb222 ≠ gb216)); clear BK204; clear BK210; clear BK216; clear HB; have BK204 := n0_; have BK210 := n1_; have BK216 := n2_; have HB := n3_; have BK222 := n4_; have GW222 := n5_; have GE222 := n6_; have NB204_222 := n7_; have NB222_204 := n8_; have NB210_222 := n9_; have NB222_210 := n10_; have NB216_222 := n11_; have NB222_216 := n12_; clear n0_ n1_ n2_ n3_ n4_ n5_ n6_ n7_ n8_ n9_ n10_ n11_ n12_; clear hb hbox hg; have hnb63 := NB222_204.out; have hnc63 := NB204_222.out; have hnb64 := NB222_210.out; have hnc64 := NB210_222.out; have hnb65 := NB222_216.out; have hnc65 := NB216_222.out; have hcz66_0 : w62.cell? ⟨gb222, 0, none⟩ = some (.int .i64 0) := (blk_cell BK222.out 0).trans rfl; have hcz66_1 : w62.cell? ⟨gb222, 1, none⟩ = some (.int .i64 0) := (blk_cell BK222.out 1).trans rfl; have hcz66_2 : w62.cell? ⟨gb222, 2, none⟩ = some (.string (⟨#[]⟩ : ByteArray)) := (blk_cell BK222.out 2).trans rfl; have hcz66_3 : w62.cell? ⟨gb222, 3, none⟩ = some (.complex .f64 0 0) := (blk_cell BK222.out 3).trans rfl; have hfz66_0 := blk_frozen BK222.out 0; have hfz66_1 := blk_frozen BK222.out 1; have hfz66_2 := blk_frozen BK222.out 2; have hfz66_3 := blk_frozen BK222.out 3) | ((with_reducible refine gate_callee (f := 5) rfl ?_); refine goesL_ (some 32) rfl rfl Tryz.func5 (by kernel_rfl) rfl #[.string (⟨#[34, 54]⟩ : ByteArray)] rfl (by (try simp only [List.map_toArray, List.map_cons, List.map_nil]); first | done | rfl | (simp only [List.length_drop, List.length_take]; rfl)) ?_; (with_reducible refine (val_Parse.calls k (⟨#[34, 54]⟩ : ByteArray) t223 t224 t225 t226 t227 _ A5.out (Glob.below HG_.out (by repeat (first | (with_reducible first | exact HB.out | apply below_alloc | apply pw_below_drewN | apply below_drew1 | refine below_set ?_ GE204.out | refine below_set ?_ GE210.out | refine below_set ?_ GE216.out | refine below_set ?_ GE222.out) | exact HB.out)))).mono ?_); rintro e w67 ⟨rfl, hb⟩; refine ⟨_, rfl, ?_⟩; have n0_ := Aside0.mk (blk_below (g := gb204) (o := .cells #[.int .i64 t199, .int .i64 t200, .string t201, .complex .f64 t202.1 t202.2] 25 (0, 0)) (by (with_reducible repeat (first | refine blk_drewN ?_ _ | refine blk_drew ?_ | refine blk_alloc ?_ _)); refine blk_far ?_ NB204_222.out _; (with_reducible repeat (first | refine blk_drewN ?_ _ | refine blk_drew ?_ | refine blk_alloc ?_ _)); refine blk_far ?_ NB204_222.out _; (with_reducible repeat (first | refine blk_drewN ?_ _ | refine blk_drew ?_ | refine blk_alloc ?_ _)); refine blk_far ?_ NB204_222.out _; (with_reducible repeat (first | refine blk_drewN ?_ _ | refine blk_drew ?_ | refine blk_alloc ?_ _)); refine blk_far ?_ NB204_222.out _; (with_reducible repeat (first | refine blk_drewN ?_ _ | refine blk_drew ?_ | refine blk_alloc ?_ _)); exact BK204.out) hb); have n1_ := Aside0.mk (blk_below (g := gb210) (o := .cells #[.int .i64 t205, .int .i64 t206, .string t207, .complex .f64 t208.1 t208.2] 25 (0, 0)) (by (with_reducible repeat (first | refine blk_drewN ?_ _ | refine blk_drew ?_ | refine blk_alloc ?_ _)); refine blk_far ?_ NB210_222.out _; (with_reducible repeat (first | refine blk_drewN ?_ _ | refine blk_drew ?_ | refine blk_alloc ?_ _)); refine blk_far ?_ NB210_222.out _; (with_reducible repeat (first | refine blk_drewN ?_ _ | refine blk_drew ?_ | refine blk_alloc ?_ _)); refine blk_far ?_ NB210_222.out _; (with_reducible repeat (first | refine blk_drewN ?_ _ | refine blk_drew ?_ | refine blk_alloc ?_ _)); refine blk_far ?_ NB210_222.out _; (with_reducible repeat (first | refine blk_drewN ?_ _ | refine blk_drew ?_ | refine blk_alloc ?_ _)); exact BK210.out) hb); have n2_ := Aside0.mk (blk_below (g := gb216) (o := .cells #[.int .i64 t211, .int .i64 t212, .string t213, .complex .f64 t214.1 t214.2] 25 (0, 0)) (by (with_reducible repeat (first | refine blk_drewN ?_ _ | refine blk_drew ?_ | refine blk_alloc ?_ _)); refine blk_far ?_ NB216_222.out _; (with_reducible repeat (first | refine blk_drewN ?_ _ | refine blk_drew ?_ | refine blk_alloc ?_ _)); refine blk_far ?_ NB216_222.out _; (with_reducible repeat (first | refine blk_drewN ?_ _ | refine blk_drew ?_ | refine blk_alloc ?_ _)); refine blk_far ?_ NB216_222.out _; (with_reducible repeat (first | refine blk_drewN ?_ _ | refine blk_drew ?_ | refine blk_alloc ?_ _)); refine blk_far ?_ NB216_222.out _; (with_reducible repeat (first | refine blk_drewN ?_ _ | refine blk_drew ?_ | refine blk_alloc ?_ _)); exact BK216.out) hb); have n3_ := Aside0.mk (blk_below (g := gb222) (o := .cells #[.int .i64 t217, .int .i64 t218, .string t219, .complex .f64 t220.1 t220.2] 25 (0, 0)) (by (with_reducible repeat (first | refine blk_drewN ?_ _ | refine blk_drew ?_ | refine blk_alloc ?_ _)); refine blk_put (cs := #[.int .i64 t217, .int .i64 t218, .string t219, .complex .f64 0 0]) ?_ 3 _ rfl; (with_reducible repeat (first | refine blk_drewN ?_ _ | refine blk_drew ?_ | refine blk_alloc ?_ _)); refine blk_put (cs := #[.int .i64 t217, .int .i64 t218, .string (⟨#[]⟩ : ByteArray), .complex .f64 0 0]) ?_ 2 _ rfl; (with_reducible repeat (first | refine blk_drewN ?_ _ | refine blk_drew ?_ | refine blk_alloc ?_ _)); refine blk_put (cs := #[.int .i64 t217, .int .i64 0, .string (⟨#[]⟩ : ByteArray), .complex .f64 0 0]) ?_ 1 _ rfl; (with_reducible repeat (first | refine blk_drewN ?_ _ | refine blk_drew ?_ | refine blk_alloc ?_ _)); refine blk_put (cs := #[.int .i64 0, .int .i64 0, .string (⟨#[]⟩ : ByteArray), .complex .f64 0 0]) ?_ 0 _ rfl; (with_reducible repeat (first | refine blk_drewN ?_ _ | refine blk_drew ?_ | refine blk_alloc ?_ _)); exact BK222.out) hb); have n4_ := Aside0.mk (below_step (by repeat (first | (with_reducible first | exact HB.out | apply below_alloc | apply pw_below_drewN | apply below_drew1 | refine below_set ?_ GE204.out | refine below_set ?_ GE210.out | refine below_set ?_ GE216.out | refine below_set ?_ GE222.out) | exact HB.out)) hb); clear BK204; clear BK210; clear BK216; clear BK222; clear HB; have BK204 := n0_; have BK210 := n1_; have BK216 := n2_; have BK222 := n3_; have HB := n4_; clear n0_ n1_ n2_ n3_ n4_; (try clear hb); (try clear hb2); (try clear hk); (try clear hi)) | ((with_reducible refine gate_dst (N := 9) rfl ?_); refine box_event ?hg (N := 9) ?hd (cs := #[.int .i64 0, .int .i64 0, .string (⟨#[]⟩ : ByteArray), .complex .f64 0 0]) (t := 25) ?hr ?_; (case hd => rfl); (case hg => rfl); (case hr => first | (go_simp; done) | (go_simp; rfl)); intro gb228 hg w68 hbox hb; have n0_ := Aside0.mk (blk_below (g := gb204) (o := .cells #[.int .i64 t199, .int .i64 t200, .string t201, .complex .f64 t202.1 t202.2] 25 (0, 0)) (by (with_reducible repeat (first | refine blk_drewN ?_ _ | refine blk_drew ?_ | refine blk_alloc ?_ _)); exact BK204.out) hb); have n1_ := Aside0.mk (blk_below (g := gb210) (o := .cells #[.int .i64 t205, .int .i64 t206, .string t207, .complex .f64 t208.1 t208.2] 25 (0, 0)) (by (with_reducible repeat (first | refine blk_drewN ?_ _ | refine blk_drew ?_ | refine blk_alloc ?_ _)); exact BK210.out) hb); have n2_ := Aside0.mk (blk_below (g := gb216) (o := .cells #[.int .i64 t211, .int .i64 t212, .string t213, .complex .f64 t214.1 t214.2] 25 (0, 0)) (by (with_reducible repeat (first | refine blk_drewN ?_ _ | refine blk_drew ?_ | refine blk_alloc ?_ _)); exact BK216.out) hb); have n3_ := Aside0.mk (blk_below (g := gb222) (o := .cells #[.int .i64 t217, .int .i64 t218, .string t219, .complex .f64 t220.1 t220.2] 25 (0, 0)) (by (with_reducible repeat (first | refine blk_drewN ?_ _ | refine blk_drew ?_ | refine blk_alloc ?_ _)); exact BK222.out) hb); have n4_ := Aside0.mk (below_step (by repeat (first | (with_reducible first | exact HB.out | apply below_alloc | apply pw_below_drewN | apply below_drew1 | refine below_set ?_ GE204.out | refine below_set ?_ GE210.out | refine below_set ?_ GE216.out | refine below_set ?_ GE222.out) | exact HB.out)) hb); have n5_ := Aside0.mk (hbox); have n6_ := Aside0.mk ((by rw [hg]; exact (below_size (by repeat (first | (with_reducible first | exact HB.out | apply below_alloc | apply pw_below_drewN | apply below_drew1 | refine below_set ?_ GE204.out | refine below_set ?_ GE210.out | refine below_set ?_ GE216.out | refine below_set ?_ GE222.out) | exact HB.out))) : w.heap.size ≤ gb228)); have n7_ := Aside0.mk ((by rw [hg]; exact (below_size (by repeat (first | (with_reducible first | exact HB.out | apply below_alloc | apply pw_below_drewN | apply below_drew1 | refine below_set ?_ GE204.out | refine below_set ?_ GE210.out | refine below_set ?_ GE216.out | refine below_set ?_ GE222.out) | exact HB.out))) : w.heap.size ≤ gb228)); have n8_ := Aside0.mk ((by rw [hg]; exact Nat.ne_of_lt (blk_lt (g := gb204) (o := .cells #[.int .i64 t199, .int .i64 t200, .string t201, .complex .f64 t202.1 t202.2] 25 (0, 0)) (by (with_reducible repeat (first | refine blk_drewN ?_ _ | refine blk_drew ?_ | refine blk_alloc ?_ _)); exact BK204.out)) : gb204 ≠ gb228)); have n9_ := Aside0.mk ((by rw [hg]; exact Nat.ne_of_gt (blk_lt (g := gb204) (o := .cells #[.int .i64 t199, .int .i64 t200, .string t201, .complex .f64 t202.1 t202.2] 25 (0, 0)) (by (with_reducible repeat (first | refine blk_drewN ?_ _ | refine blk_drew ?_ | refine blk_alloc ?_ _)); exact BK204.out)) : gb228 ≠ gb204)); have n10_ := Aside0.mk ((by rw [hg]; exact Nat.ne_of_lt (blk_lt (g := gb210) (o := .cells #[.int .i64 t205, .int .i64 t206, .string t207, .complex .f64 t208.1 t208.2] 25 (0, 0)) (by (with_reducible repeat (first | refine blk_drewN ?_ _ | refine blk_drew ?_ | refine blk_alloc ?_ _)); exact BK210.out)) : gb210 ≠ gb228)); have n11_ := Aside0.mk ((by rw [hg]; exact Nat.ne_of_gt (blk_lt (g := gb210) (o := .cells #[.int .i64 t205, .int .i64 t206, .string t207, .complex .f64 t208.1 t208.2] 25 (0, 0)) (by (with_reducible repeat (first | refine blk_drewN ?_ _ | refine blk_drew ?_ | refine blk_alloc ?_ _)); exact BK210.out)) : gb228 ≠ gb210)); have n12_ := Aside0.mk ((by rw [hg]; exact Nat.ne_of_lt (blk_lt (g := gb216) (o := .cells #[.int .i64 t211, .int .i64 t212, .string t213, .complex .f64 t214.1 t214.2] 25 (0, 0)) (by (with_reducible repeat (first | refine blk_drewN ?_ _ | refine blk_drew ?_ | refine blk_alloc ?_ _)); exact BK216.out)) : gb216 ≠ gb228)); have n13_ := Aside0.mk ((by rw [hg]; exact Nat.ne_of_gt (blk_lt (g := gb216) (o := .cells #[.int .i64 t211, .int .i64 t212, .string t213, .complex .f64 t214.1 t214.2] 25 (0, 0)) (by (with_reducible repeat (first | refine blk_drewN ?_ _ | refine blk_drew ?_ | refine blk_alloc ?_ _)); exact BK216.out)) : gb228 ≠ gb216)); have n14_ := Aside0.mk ((by rw [hg]; exact Nat.ne_of_lt (blk_lt (g := gb222) (o := .cells #[.int .i64 t217, .int .i64 t218, .string t219, .complex .f64 t220.1 t220.2] 25 (0, 0)) (by (with_reducible repeat (first | refine blk_drewN ?_ _ | refine blk_drew ?_ | refine blk_alloc ?_ _)); exact BK222.out)) : gb222 ≠ gb228)); have n15_ := Aside0.mk ((by rw [hg]; exact Nat.ne_of_gt (blk_lt (g := gb222) (o := .cells #[.int .i64 t217, .int .i64 t218, .string t219, .complex .f64 t220.1 t220.2] 25 (0, 0)) (by (with_reducible repeat (first | refine blk_drewN ?_ _ | refine blk_drew ?_ | refine blk_alloc ?_ _)); exact BK222.out)) : gb228 ≠ gb222)); clear BK204; clear BK210; clear BK216; clear BK222; clear HB; have BK204 := n0_; have BK210 := n1_; have BK216 := n2_; have BK222 := n3_; have HB := n4_; have BK228 := n5_; have GW228 := n6_; have GE228 := n7_; have NB204_228 := n8_; have NB228_204 := n9_; have NB210_228 := n10_; have NB228_210 := n11_; have NB216_228 := n12_; have NB228_216 := n13_; have NB222_228 := n14_; have NB228_222 := n15_; clear n0_ n1_ n2_ n3_ n4_ n5_ n6_ n7_ n8_ n9_ n10_ n11_ n12_ n13_ n14_ n15_; clear hb hbox hg; have hnb69 := NB228_204.out; have hnc69 := NB204_228.out; have hnb70 := NB228_210.out; have hnc70 := NB210_228.out; have hnb71 := NB228_216.out; have hnc71 := NB216_228.out; have hnb72 := NB228_222.out; have hnc72 := NB222_228.out; have hcz73_0 : w68.cell? ⟨gb228, 0, none⟩ = some (.int .i64 0) := (blk_cell BK228.out 0).trans rfl; have hcz73_1 : w68.cell? ⟨gb228, 1, none⟩ = some (.int .i64 0) := (blk_cell BK228.out 1).trans rfl; have hcz73_2 : w68.cell? ⟨gb228, 2, none⟩ = some (.string (⟨#[]⟩ : ByteArray)) := (blk_cell BK228.out 2).trans rfl; have hcz73_3 : w68.cell? ⟨gb228, 3, none⟩ = some (.complex .f64 0 0) := (blk_cell BK228.out 3).trans rfl; have hfz73_0 := blk_frozen BK228.out 0; have hfz73_1 := blk_frozen BK228.out 1; have hfz73_2 := blk_frozen BK228.out 2; have hfz73_3 := blk_frozen BK228.out 3) | ((with_reducible refine gate_callee (f := 5) rfl ?_); refine goesL_ (some 36) rfl rfl Tryz.func5 (by kernel_rfl) rfl #[.string (⟨#[57, 50, 50, 51, 51, 55, 50, 48, 51, 54, 56, 53, 52, 55, 55, 53, 56, 48, 56]⟩ : ByteArray)] rfl (by (try simp only [List.map_toArray, List.map_cons, List.map_nil]); first | done | rfl | (simp only [List.length_drop, List.length_take]; rfl)) ?_; (with_reducible refine (val_Parse.calls k (⟨#[57, 50, 50, 51, 51, 55, 50, 48, 51, 54, 56, 53, 52, 55, 55, 53, 56, 48, 56]⟩ : ByteArray) t229 t230 t231 t232 t233 _ A6.out (Glob.below HG_.out (by repeat (first | (with_reducible first | exact HB.out | apply below_alloc | apply pw_below_drewN | apply below_drew1 | refine below_set ?_ GE204.out | refine below_set ?_ GE210.out | refine below_set ?_ GE216.out | refine below_set ?_ GE222.out | refine below_set ?_ GE228.out) | exact HB.out)))).mono ?_); rintro e w74 ⟨rfl, hb⟩; refine ⟨_, rfl, ?_⟩; have n0_ := Aside0.mk (blk_below (g := gb204) (o := .cells #[.int .i64 t199, .int .i64 t200, .string t201, .complex .f64 t202.1 t202.2] 25 (0, 0)) (by (with_reducible repeat (first | refine blk_drewN ?_ _ | refine blk_drew ?_ | refine blk_alloc ?_ _)); refine blk_far ?_ NB204_228.out _; (with_reducible repeat (first | refine blk_drewN ?_ _ | refine blk_drew ?_ | refine blk_alloc ?_ _)); refine blk_far ?_ NB204_228.out _; (with_reducible repeat (first | refine blk_drewN ?_ _ | refine blk_drew ?_ | refine blk_alloc ?_ _)); refine blk_far ?_ NB204_228.out _; (with_reducible repeat (first | refine blk_drewN ?_ _ | refine blk_drew ?_ | refine blk_alloc ?_ _)); refine blk_far ?_ NB204_228.out _; (with_reducible repeat (first | refine blk_drewN ?_ _ | refine blk_drew ?_ | refine blk_alloc ?_ _)); exact BK204.out) hb); have n1_ := Aside0.mk (blk_below (g := gb210) (o := .cells #[.int .i64 t205, .int .i64 t206, .string t207, .complex .f64 t208.1 t208.2] 25 (0, 0)) (by (with_reducible repeat (first | refine blk_drewN ?_ _ | refine blk_drew ?_ | refine blk_alloc ?_ _)); refine blk_far ?_ NB210_228.out _; (with_reducible repeat (first | refine blk_drewN ?_ _ | refine blk_drew ?_ | refine blk_alloc ?_ _)); refine blk_far ?_ NB210_228.out _; (with_reducible repeat (first | refine blk_drewN ?_ _ | refine blk_drew ?_ | refine blk_alloc ?_ _)); refine blk_far ?_ NB210_228.out _; (with_reducible repeat (first | refine blk_drewN ?_ _ | refine blk_drew ?_ | refine blk_alloc ?_ _)); refine blk_far ?_ NB210_228.out _; (with_reducible repeat (first | refine blk_drewN ?_ _ | refine blk_drew ?_ | refine blk_alloc ?_ _)); exact BK210.out) hb); have n2_ := Aside0.mk (blk_below (g := gb216) (o := .cells #[.int .i64 t211, .int .i64 t212, .string t213, .complex .f64 t214.1 t214.2] 25 (0, 0)) (by (with_reducible repeat (first | refine blk_drewN ?_ _ | refine blk_drew ?_ | refine blk_alloc ?_ _)); refine blk_far ?_ NB216_228.out _; (with_reducible repeat (first | refine blk_drewN ?_ _ | refine blk_drew ?_ | refine blk_alloc ?_ _)); refine blk_far ?_ NB216_228.out _; (with_reducible repeat (first | refine blk_drewN ?_ _ | refine blk_drew ?_ | refine blk_alloc ?_ _)); refine blk_far ?_ NB216_228.out _; (with_reducible repeat (first | refine blk_drewN ?_ _ | refine blk_drew ?_ | refine blk_alloc ?_ _)); refine blk_far ?_ NB216_228.out _; (with_reducible repeat (first | refine blk_drewN ?_ _ | refine blk_drew ?_ | refine blk_alloc ?_ _)); exact BK216.out) hb); have n3_ := Aside0.mk (blk_below (g := gb222) (o := .cells #[.int .i64 t217, .int .i64 t218, .string t219, .complex .f64 t220.1 t220.2] 25 (0, 0)) (by (with_reducible repeat (first | refine blk_drewN ?_ _ | refine blk_drew ?_ | refine blk_alloc ?_ _)); refine blk_far ?_ NB222_228.out _; (with_reducible repeat (first | refine blk_drewN ?_ _ | refine blk_drew ?_ | refine blk_alloc ?_ _)); refine blk_far ?_ NB222_228.out _; (with_reducible repeat (first | refine blk_drewN ?_ _ | refine blk_drew ?_ | refine blk_alloc ?_ _)); refine blk_far ?_ NB222_228.out _; (with_reducible repeat (first | refine blk_drewN ?_ _ | refine blk_drew ?_ | refine blk_alloc ?_ _)); refine blk_far ?_ NB222_228.out _; (with_reducible repeat (first | refine blk_drewN ?_ _ | refine blk_drew ?_ | refine blk_alloc ?_ _)); exact BK222.out) hb); have n4_ := Aside0.mk (blk_below (g := gb228) (o := .cells #[.int .i64 t223, .int .i64 t224, .string t225, .complex .f64 t226.1 t226.2] 25 (0, 0)) (by (with_reducible repeat (first | refine blk_drewN ?_ _ | refine blk_drew ?_ | refine blk_alloc ?_ _)); refine blk_put (cs := #[.int .i64 t223, .int .i64 t224, .string t225, .complex .f64 0 0]) ?_ 3 _ rfl; (with_reducible repeat (first | refine blk_drewN ?_ _ | refine blk_drew ?_ | refine blk_alloc ?_ _)); refine blk_put (cs := #[.int .i64 t223, .int .i64 t224, .string (⟨#[]⟩ : ByteArray), .complex .f64 0 0]) ?_ 2 _ rfl; (with_reducible repeat (first | refine blk_drewN ?_ _ | refine blk_drew ?_ | refine blk_alloc ?_ _)); refine blk_put (cs := #[.int .i64 t223, .int .i64 0, .string (⟨#[]⟩ : ByteArray), .complex .f64 0 0]) ?_ 1 _ rfl; (with_reducible repeat (first | refine blk_drewN ?_ _ | refine blk_drew ?_ | refine blk_alloc ?_ _)); refine blk_put (cs := #[.int .i64 0, .int .i64 0, .string (⟨#[]⟩ : ByteArray), .complex .f64 0 0]) ?_ 0 _ rfl; (with_reducible repeat (first | refine blk_drewN ?_ _ | refine blk_drew ?_ | refine blk_alloc ?_ _)); exact BK228.out) hb); have n5_ := Aside0.mk (below_step (by repeat (first | (with_reducible first | exact HB.out | apply below_alloc | apply pw_below_drewN | apply below_drew1 | refine below_set ?_ GE204.out | refine below_set ?_ GE210.out | refine below_set ?_ GE216.out | refine below_set ?_ GE222.out | refine below_set ?_ GE228.out) | exact HB.out)) hb); clear BK204; clear BK210; clear BK216; clear BK222; clear BK228; clear HB; have BK204 := n0_; have BK210 := n1_; have BK216 := n2_; have BK222 := n3_; have BK228 := n4_; have HB := n5_; clear n0_ n1_ n2_ n3_ n4_ n5_; (try clear hb); (try clear hb2); (try clear hk); (try clear hi)) | ((with_reducible refine gate_dst (N := 11) rfl ?_); refine box_event ?hg (N := 11) ?hd (cs := #[.int .i64 0, .int .i64 0, .string (⟨#[]⟩ : ByteArray), .complex .f64 0 0]) (t := 25) ?hr ?_; (case hd => rfl); (case hg => rfl); (case hr => first | (go_simp; done) | (go_simp; rfl)); intro gb234 hg w75 hbox hb; have n0_ := Aside0.mk (blk_below (g := gb204) (o := .cells #[.int .i64 t199, .int .i64 t200, .string t201, .complex .f64 t202.1 t202.2] 25 (0, 0)) (by (with_reducible repeat (first | refine blk_drewN ?_ _ | refine blk_drew ?_ | refine blk_alloc ?_ _)); exact BK204.out) hb); have n1_ := Aside0.mk (blk_below (g := gb210) (o := .cells #[.int .i64 t205, .int .i64 t206, .string t207, .complex .f64 t208.1 t208.2] 25 (0, 0)) (by (with_reducible repeat (first | refine blk_drewN ?_ _ | refine blk_drew ?_ | refine blk_alloc ?_ _)); exact BK210.out) hb); have n2_ := Aside0.mk (blk_below (g := gb216) (o := .cells #[.int .i64 t211, .int .i64 t212, .string t213, .complex .f64 t214.1 t214.2] 25 (0, 0)) (by (with_reducible repeat (first | refine blk_drewN ?_ _ | refine blk_drew ?_ | refine blk_alloc ?_ _)); exact BK216.out) hb); have n3_ := Aside0.mk (blk_below (g := gb222) (o := .cells #[.int .i64 t217, .int .i64 t218, .string t219, .complex .f64 t220.1 t220.2] 25 (0, 0)) (by (with_reducible repeat (first | refine blk_drewN ?_ _ | refine blk_drew ?_ | refine blk_alloc ?_ _)); exact BK222.out) hb); have n4_ := Aside0.mk (blk_below (g := gb228) (o := .cells #[.int .i64 t223, .int .i64 t224, .string t225, .complex .f64 t226.1 t226.2] 25 (0, 0)) (by (with_reducible repeat (first | refine blk_drewN ?_ _ | refine blk_drew ?_ | refine blk_alloc ?_ _)); exact BK228.out) hb); have n5_ := Aside0.mk (below_step (by repeat (first | (with_reducible first | exact HB.out | apply below_alloc | apply pw_below_drewN | apply below_drew1 | refine below_set ?_ GE204.out | refine below_set ?_ GE210.out | refine below_set ?_ GE216.out | refine below_set ?_ GE222.out | refine below_set ?_ GE228.out) | exact HB.out)) hb); have n6_ := Aside0.mk (hbox); have n7_ := Aside0.mk ((by rw [hg]; exact (below_size (by repeat (first | (with_reducible first | exact HB.out | apply below_alloc | apply pw_below_drewN | apply below_drew1 | refine below_set ?_ GE204.out | refine below_set ?_ GE210.out | refine below_set ?_ GE216.out | refine below_set ?_ GE222.out | refine below_set ?_ GE228.out) | exact HB.out))) : w.heap.size ≤ gb234)); have n8_ := Aside0.mk ((by rw [hg]; exact (below_size (by repeat (first | (with_reducible first | exact HB.out | apply below_alloc | apply pw_below_drewN | apply below_drew1 | refine below_set ?_ GE204.out | refine below_set ?_ GE210.out | refine below_set ?_ GE216.out | refine below_set ?_ GE222.out | refine below_set ?_ GE228.out) | exact HB.out))) : w.heap.size ≤ gb234)); have n9_ := Aside0.mk ((by rw [hg]; exact Nat.ne_of_lt (blk_lt (g := gb204) (o := .cells #[.int .i64 t199, .int .i64 t200, .string t201, .complex .f64 t202.1 t202.2] 25 (0, 0)) (by (with_reducible repeat (first | refine blk_drewN ?_ _ | refine blk_drew ?_ | refine blk_alloc ?_ _)); exact BK204.out)) : gb204 ≠ gb234)); have n10_ := Aside0.mk ((by rw [hg]; exact Nat.ne_of_gt (blk_lt (g := gb204) (o := .cells #[.int .i64 t199, .int .i64 t200, .string t201, .complex .f64 t202.1 t202.2] 25 (0, 0)) (by (with_reducible repeat (first | refine blk_drewN ?_ _ | refine blk_drew ?_ | refine blk_alloc ?_ _)); exact BK204.out)) : gb234 ≠ gb204)); have n11_ := Aside0.mk ((by rw [hg]; exact Nat.ne_of_lt (blk_lt (g := gb210) (o := .cells #[.int .i64 t205, .int .i64 t206, .string t207, .complex .f64 t208.1 t208.2] 25 (0, 0)) (by (with_reducible repeat (first | refine blk_drewN ?_ _ | refine blk_drew ?_ | refine blk_alloc ?_ _)); exact BK210.out)) : gb210 ≠ gb234)); have n12_ := Aside0.mk ((by rw [hg]; exact Nat.ne_of_gt (blk_lt (g := gb210) (o := .cells #[.int .i64 t205, .int .i64 t206, .string t207, .complex .f64 t208.1 t208.2] 25 (0, 0)) (by (with_reducible repeat (first | refine blk_drewN ?_ _ | refine blk_drew ?_ | refine blk_alloc ?_ _)); exact BK210.out)) : gb234 ≠ gb210)); have n13_ := Aside0.mk ((by rw [hg]; exact Nat.ne_of_lt (blk_lt (g := gb216) (o := .cells #[.int .i64 t211, .int .i64 t212, .string t213, .complex .f64 t214.1 t214.2] 25 (0, 0)) (by (with_reducible repeat (first | refine blk_drewN ?_ _ | refine blk_drew ?_ | refine blk_alloc ?_ _)); exact BK216.out)) : gb216 ≠ gb234)); have n14_ := Aside0.mk ((by rw [hg]; exact Nat.ne_of_gt (blk_lt (g := gb216) (o := .cells #[.int .i64 t211, .int .i64 t212, .string t213, .complex .f64 t214.1 t214.2] 25 (0, 0)) (by (with_reducible repeat (first | refine blk_drewN ?_ _ | refine blk_drew ?_ | refine blk_alloc ?_ _)); exact BK216.out)) : gb234 ≠ gb216)); have n15_ := Aside0.mk ((by rw [hg]; exact Nat.ne_of_lt (blk_lt (g := gb222) (o := .cells #[.int .i64 t217, .int .i64 t218, .string t219, .complex .f64 t220.1 t220.2] 25 (0, 0)) (by (with_reducible repeat (first | refine blk_drewN ?_ _ | refine blk_drew ?_ | refine blk_alloc ?_ _)); exact BK222.out)) : gb222 ≠ gb234)); have n16_ := Aside0.mk ((by rw [hg]; exact Nat.ne_of_gt (blk_lt (g := gb222) (o := .cells #[.int .i64 t217, .int .i64 t218, .string t219, .complex .f64 t220.1 t220.2] 25 (0, 0)) (by (with_reducible repeat (first | refine blk_drewN ?_ _ | refine blk_drew ?_ | refine blk_alloc ?_ _)); exact BK222.out)) : gb234 ≠ gb222)); have n17_ := Aside0.mk ((by rw [hg]; exact Nat.ne_of_lt (blk_lt (g := gb228) (o := .cells #[.int .i64 t223, .int .i64 t224, .string t225, .complex .f64 t226.1 t226.2] 25 (0, 0)) (by (with_reducible repeat (first | refine blk_drewN ?_ _ | refine blk_drew ?_ | refine blk_alloc ?_ _)); exact BK228.out)) : gb228 ≠ gb234)); have n18_ := Aside0.mk ((by rw [hg]; exact Nat.ne_of_gt (blk_lt (g := gb228) (o := .cells #[.int .i64 t223, .int .i64 t224, .string t225, .complex .f64 t226.1 t226.2] 25 (0, 0)) (by (with_reducible repeat (first | refine blk_drewN ?_ _ | refine blk_drew ?_ | refine blk_alloc ?_ _)); exact BK228.out)) : gb234 ≠ gb228)); clear BK204; clear BK210; clear BK216; clear BK222; clear BK228; clear HB; have BK204 := n0_; have BK210 := n1_; have BK216 := n2_; have BK222 := n3_; have BK228 := n4_; have HB := n5_; have BK234 := n6_; have GW234 := n7_; have GE234 := n8_; have NB204_234 := n9_; have NB234_204 := n10_; have NB210_234 := n11_; have NB234_210 := n12_; have NB216_234 := n13_; have NB234_216 := n14_; have NB222_234 := n15_; have NB234_222 := n16_; have NB228_234 := n17_; have NB234_228 := n18_; clear n0_ n1_ n2_ n3_ n4_ n5_ n6_ n7_ n8_ n9_ n10_ n11_ n12_ n13_ n14_ n15_ n16_ n17_ n18_; clear hb hbox hg; have hnb76 := NB234_204.out; have hnc76 := NB204_234.out; have hnb77 := NB234_210.out; have hnc77 := NB210_234.out; have hnb78 := NB234_216.out; have hnc78 := NB216_234.out; have hnb79 := NB234_222.out; have hnc79 := NB222_234.out; have hnb80 := NB234_228.out; have hnc80 := NB228_234.out; have hcz81_0 : w75.cell? ⟨gb234, 0, none⟩ = some (.int .i64 0) := (blk_cell BK234.out 0).trans rfl; have hcz81_1 : w75.cell? ⟨gb234, 1, none⟩ = some (.int .i64 0) := (blk_cell BK234.out 1).trans rfl; have hcz81_2 : w75.cell? ⟨gb234, 2, none⟩ = some (.string (⟨#[]⟩ : ByteArray)) := (blk_cell BK234.out 2).trans rfl; have hcz81_3 : w75.cell? ⟨gb234, 3, none⟩ = some (.complex .f64 0 0) := (blk_cell BK234.out 3).trans rfl; have hfz81_0 := blk_frozen BK234.out 0; have hfz81_1 := blk_frozen BK234.out 1; have hfz81_2 := blk_frozen BK234.out 2; have hfz81_3 := blk_frozen BK234.out 3) | ((with_reducible refine gate_callee (f := 5) rfl ?_); refine goesL_ (some 40) rfl rfl Tryz.func5 (by kernel_rfl) rfl #[.string (⟨#[34, 54, 65]⟩ : ByteArray)] rfl (by (try simp only [List.map_toArray, List.map_cons, List.map_nil]); first | done | rfl | (simp only [List.length_drop, List.length_take]; rfl)) ?_; (with_reducible refine (val_Parse.calls k (⟨#[34, 54, 65]⟩ : ByteArray) t235 t236 t237 t238 t239 _ A7.out (Glob.below HG_.out (by repeat (first | (with_reducible first | exact HB.out | apply below_alloc | apply pw_below_drewN | apply below_drew1 | refine below_set ?_ GE204.out | refine below_set ?_ GE210.out | refine below_set ?_ GE216.out | refine below_set ?_ GE222.out | refine below_set ?_ GE228.out | refine below_set ?_ GE234.out) | exact HB.out)))).mono ?_); rintro e w82 ⟨rfl, hb⟩; refine ⟨_, rfl, ?_⟩; have n0_ := Aside0.mk (blk_below (g := gb204) (o := .cells #[.int .i64 t199, .int .i64 t200, .string t201, .complex .f64 t202.1 t202.2] 25 (0, 0)) (by (with_reducible repeat (first | refine blk_drewN ?_ _ | refine blk_drew ?_ | refine blk_alloc ?_ _)); refine blk_far ?_ NB204_234.out _; (with_reducible repeat (first | refine blk_drewN ?_ _ | refine blk_drew ?_ | refine blk_alloc ?_ _)); refine blk_far ?_ NB204_234.out _; (with_reducible repeat (first | refine blk_drewN ?_ _ | refine blk_drew ?_ | refine blk_alloc ?_ _)); refine blk_far ?_ NB204_234.out _; (with_reducible repeat (first | refine blk_drewN ?_ _ | refine blk_drew ?_ | refine blk_alloc ?_ _)); refine blk_far ?_ NB204_234.out _; (with_reducible repeat (first | refine blk_drewN ?_ _ | refine blk_drew ?_ | refine blk_alloc ?_ _)); exact BK204.out) hb); have n1_ := Aside0.mk (blk_below (g := gb210) (o := .cells #[.int .i64 t205, .int .i64 t206, .string t207, .complex .f64 t208.1 t208.2] 25 (0, 0)) (by (with_reducible repeat (first | refine blk_drewN ?_ _ | refine blk_drew ?_ | refine blk_alloc ?_ _)); refine blk_far ?_ NB210_234.out _; (with_reducible repeat (first | refine blk_drewN ?_ _ | refine blk_drew ?_ | refine blk_alloc ?_ _)); refine blk_far ?_ NB210_234.out _; (with_reducible repeat (first | refine blk_drewN ?_ _ | refine blk_drew ?_ | refine blk_alloc ?_ _)); refine blk_far ?_ NB210_234.out _; (with_reducible repeat (first | refine blk_drewN ?_ _ | refine blk_drew ?_ | refine blk_alloc ?_ _)); refine blk_far ?_ NB210_234.out _; (with_reducible repeat (first | refine blk_drewN ?_ _ | refine blk_drew ?_ | refine blk_alloc ?_ _)); exact BK210.out) hb); have n2_ := Aside0.mk (blk_below (g := gb216) (o := .cells #[.int .i64 t211, .int .i64 t212, .string t213, .complex .f64 t214.1 t214.2] 25 (0, 0)) (by (with_reducible repeat (first | refine blk_drewN ?_ _ | refine blk_drew ?_ | refine blk_alloc ?_ _)); refine blk_far ?_ NB216_234.out _; (with_reducible repeat (first | refine blk_drewN ?_ _ | refine blk_drew ?_ | refine blk_alloc ?_ _)); refine blk_far ?_ NB216_234.out _; (with_reducible repeat (first | refine blk_drewN ?_ _ | refine blk_drew ?_ | refine blk_alloc ?_ _)); refine blk_far ?_ NB216_234.out _; (with_reducible repeat (first | refine blk_drewN ?_ _ | refine blk_drew ?_ | refine blk_alloc ?_ _)); refine blk_far ?_ NB216_234.out _; (with_reducible repeat (first | refine blk_drewN ?_ _ | refine blk_drew ?_ | refine blk_alloc ?_ _)); exact BK216.out) hb); have n3_ := Aside0.mk (blk_below (g := gb222) (o := .cells #[.int .i64 t217, .int .i64 t218, .string t219, .complex .f64 t220.1 t220.2] 25 (0, 0)) (by (with_reducible repeat (first | refine blk_drewN ?_ _ | refine blk_drew ?_ | refine blk_alloc ?_ _)); refine blk_far ?_ NB222_234.out _; (with_reducible repeat (first | refine blk_drewN ?_ _ | refine blk_drew ?_ | refine blk_alloc ?_ _)); refine blk_far ?_ NB222_234.out _; (with_reducible repeat (first | refine blk_drewN ?_ _ | refine blk_drew ?_ | refine blk_alloc ?_ _)); refine blk_far ?_ NB222_234.out _; (with_reducible repeat (first | refine blk_drewN ?_ _ | refine blk_drew ?_ | refine blk_alloc ?_ _)); refine blk_far ?_ NB222_234.out _; (with_reducible repeat (first | refine blk_drewN ?_ _ | refine blk_drew ?_ | refine blk_alloc ?_ _)); exact BK222.out) hb); have n4_ := Aside0.mk (blk_below (g := gb228) (o := .cells #[.int .i64 t223, .int .i64 t224, .string t225, .complex .f64 t226.1 t226.2] 25 (0, 0)) (by (with_reducible repeat (first | refine blk_drewN ?_ _ | refine blk_drew ?_ | refine blk_alloc ?_ _)); refine blk_far ?_ NB228_234.out _; (with_reducible repeat (first | refine blk_drewN ?_ _ | refine blk_drew ?_ | refine blk_alloc ?_ _)); refine blk_far ?_ NB228_234.out _; (with_reducible repeat (first | refine blk_drewN ?_ _ | refine blk_drew ?_ | refine blk_alloc ?_ _)); refine blk_far ?_ NB228_234.out _; (with_reducible repeat (first | refine blk_drewN ?_ _ | refine blk_drew ?_ | refine blk_alloc ?_ _)); refine blk_far ?_ NB228_234.out _; (with_reducible repeat (first | refine blk_drewN ?_ _ | refine blk_drew ?_ | refine blk_alloc ?_ _)); exact BK228.out) hb); have n5_ := Aside0.mk (blk_below (g := gb234) (o := .cells #[.int .i64 t229, .int .i64 t230, .string t231, .complex .f64 t232.1 t232.2] 25 (0, 0)) (by (with_reducible repeat (first | refine blk_drewN ?_ _ | refine blk_drew ?_ | refine blk_alloc ?_ _)); refine blk_put (cs := #[.int .i64 t229, .int .i64 t230, .string t231, .complex .f64 0 0]) ?_ 3 _ rfl; (with_reducible repeat (first | refine blk_drewN ?_ _ | refine blk_drew ?_ | refine blk_alloc ?_ _)); refine blk_put (cs := #[.int .i64 t229, .int .i64 t230, .string (⟨#[]⟩ : ByteArray), .complex .f64 0 0]) ?_ 2 _ rfl; (with_reducible repeat (first | refine blk_drewN ?_ _ | refine blk_drew ?_ | refine blk_alloc ?_ _)); refine blk_put (cs := #[.int .i64 t229, .int .i64 0, .string (⟨#[]⟩ : ByteArray), .complex .f64 0 0]) ?_ 1 _ rfl; (with_reducible repeat (first | refine blk_drewN ?_ _ | refine blk_drew ?_ | refine blk_alloc ?_ _)); refine blk_put (cs := #[.int .i64 0, .int .i64 0, .string (⟨#[]⟩ : ByteArray), .complex .f64 0 0]) ?_ 0 _ rfl; (with_reducible repeat (first | refine blk_drewN ?_ _ | refine blk_drew ?_ | refine blk_alloc ?_ _)); exact BK234.out) hb); have n6_ := Aside0.mk (below_step (by repeat (first | (with_reducible first | exact HB.out | apply below_alloc | apply pw_below_drewN | apply below_drew1 | refine below_set ?_ GE204.out | refine below_set ?_ GE210.out | refine below_set ?_ GE216.out | refine below_set ?_ GE222.out | refine below_set ?_ GE228.out | refine below_set ?_ GE234.out) | exact HB.out)) hb); clear BK204; clear BK210; clear BK216; clear BK222; clear BK228; clear BK234; clear HB; have BK204 := n0_; have BK210 := n1_; have BK216 := n2_; have BK222 := n3_; have BK228 := n4_; have BK234 := n5_; have HB := n6_; clear n0_ n1_ n2_ n3_ n4_ n5_ n6_; (try clear hb); (try clear hb2); (try clear hk); (try clear hi)) | ((with_reducible refine gate_dst (N := 13) rfl ?_); refine box_event ?hg (N := 13) ?hd (cs := #[.int .i64 0, .int .i64 0, .string (⟨#[]⟩ : ByteArray), .complex .f64 0 0]) (t := 25) ?hr ?_; (case hd => rfl); (case hg => rfl); (case hr => first | (go_simp; done) | (go_simp; rfl)); intro gb240 hg w83 hbox hb; have n0_ := Aside0.mk (blk_below (g := gb204) (o := .cells #[.int .i64 t199, .int .i64 t200, .string t201, .complex .f64 t202.1 t202.2] 25 (0, 0)) (by (with_reducible repeat (first | refine blk_drewN ?_ _ | refine blk_drew ?_ | refine blk_alloc ?_ _)); exact BK204.out) hb); have n1_ := Aside0.mk (blk_below (g := gb210) (o := .cells #[.int .i64 t205, .int .i64 t206, .string t207, .complex .f64 t208.1 t208.2] 25 (0, 0)) (by (with_reducible repeat (first | refine blk_drewN ?_ _ | refine blk_drew ?_ | refine blk_alloc ?_ _)); exact BK210.out) hb); have n2_ := Aside0.mk (blk_below (g := gb216) (o := .cells #[.int .i64 t211, .int .i64 t212, .string t213, .complex .f64 t214.1 t214.2] 25 (0, 0)) (by (with_reducible repeat (first | refine blk_drewN ?_ _ | refine blk_drew ?_ | refine blk_alloc ?_ _)); exact BK216.out) hb); have n3_ := Aside0.mk (blk_below (g := gb222) (o := .cells #[.int .i64 t217, .int .i64 t218, .string t219, .complex .f64 t220.1 t220.2] 25 (0, 0)) (by (with_reducible repeat (first | refine blk_drewN ?_ _ | refine blk_drew ?_ | refine blk_alloc ?_ _)); exact BK222.out) hb); have n4_ := Aside0.mk (blk_below (g := gb228) (o := .cells #[.int .i64 t223, .int .i64 t224, .string t225, .complex .f64 t226.1 t226.2] 25 (0, 0)) (by (with_reducible repeat (first | refine blk_drewN ?_ _ | refine blk_drew ?_ | refine blk_alloc ?_ _)); exact BK228.out) hb); have n5_ := Aside0.mk (blk_below (g := gb234) (o := .cells #[.int .i64 t229, .int .i64 t230, .string t231, .complex .f64 t232.1 t232.2] 25 (0, 0)) (by (with_reducible repeat (first | refine blk_drewN ?_ _ | refine blk_drew ?_ | refine blk_alloc ?_ _)); exact BK234.out) hb); have n6_ := Aside0.mk (below_step (by repeat (first | (with_reducible first | exact HB.out | apply below_alloc | apply pw_below_drewN | apply below_drew1 | refine below_set ?_ GE204.out | refine below_set ?_ GE210.out | refine below_set ?_ GE216.out | refine below_set ?_ GE222.out | refine below_set ?_ GE228.out | refine below_set ?_ GE234.out) | exact HB.out)) hb); have n7_ := Aside0.mk (hbox); have n8_ := Aside0.mk ((by rw [hg]; exact (below_size (by repeat (first | (with_reducible first | exact HB.out | apply below_alloc | apply pw_below_drewN | apply below_drew1 | refine below_set ?_ GE204.out | refine below_set ?_ GE210.out | refine below_set ?_ GE216.out | refine below_set ?_ GE222.out | refine below_set ?_ GE228.out | refine below_set ?_ GE234.out) | exact HB.out))) : w.heap.size ≤ gb240)); have n9_ := Aside0.mk ((by rw [hg]; exact (below_size (by repeat (first | (with_reducible first | exact HB.out | apply below_alloc | apply pw_below_drewN | apply below_drew1 | refine below_set ?_ GE204.out | refine below_set ?_ GE210.out | refine below_set ?_ GE216.out | refine below_set ?_ GE222.out | refine below_set ?_ GE228.out | refine below_set ?_ GE234.out) | exact HB.out))) : w.heap.size ≤ gb240)); have n10_ := Aside0.mk ((by rw [hg]; exact Nat.ne_of_lt (blk_lt (g := gb204) (o := .cells #[.int .i64 t199, .int .i64 t200, .string t201, .complex .f64 t202.1 t202.2] 25 (0, 0)) (by (with_reducible repeat (first | refine blk_drewN ?_ _ | refine blk_drew ?_ | refine blk_alloc ?_ _)); exact BK204.out)) : gb204 ≠ gb240)); have n11_ := Aside0.mk ((by rw [hg]; exact Nat.ne_of_gt (blk_lt (g := gb204) (o := .cells #[.int .i64 t199, .int .i64 t200, .string t201, .complex .f64 t202.1 t202.2] 25 (0, 0)) (by (with_reducible repeat (first | refine blk_drewN ?_ _ | refine blk_drew ?_ | refine blk_alloc ?_ _)); exact BK204.out)) : gb240 ≠ gb204)); have n12_ := Aside0.mk ((by rw [hg]; exact Nat.ne_of_lt (blk_lt (g := gb210) (o := .cells #[.int .i64 t205, .int .i64 t206, .string t207, .complex .f64 t208.1 t208.2] 25 (0, 0)) (by (with_reducible repeat (first | refine blk_drewN ?_ _ | refine blk_drew ?_ | refine blk_alloc ?_ _)); exact BK210.out)) : gb210 ≠ gb240)); have n13_ := Aside0.mk ((by rw [hg]; exact Nat.ne_of_gt (blk_lt (g := gb210) (o := .cells #[.int .i64 t205, .int .i64 t206, .string t207, .complex .f64 t208.1 t208.2] 25 (0, 0)) (by (with_reducible repeat (first | refine blk_drewN ?_ _ | refine blk_drew ?_ | refine blk_alloc ?_ _)); exact BK210.out)) : gb240 ≠ gb210)); have n14_ := Aside0.mk ((by rw [hg]; exact Nat.ne_of_lt (blk_lt (g := gb216) (o := .cells #[.int .i64 t211, .int .i64 t212, .string t213, .complex .f64 t214.1 t214.2] 25 (0, 0)) (by (with_reducible repeat (first | refine blk_drewN ?_ _ | refine blk_drew ?_ | refine blk_alloc ?_ _)); exact BK216.out)) : gb216 ≠ gb240)); have n15_ := Aside0.mk ((by rw [hg]; exact Nat.ne_of_gt (blk_lt (g := gb216) (o := .cells #[.int .i64 t211, .int .i64 t212, .string t213, .complex .f64 t214.1 t214.2] 25 (0, 0)) (by (with_reducible repeat (first | refine blk_drewN ?_ _ | refine blk_drew ?_ | refine blk_alloc ?_ _)); exact BK216.out)) : gb240 ≠ gb216)); have n16_ := Aside0.mk ((by rw [hg]; exact Nat.ne_of_lt (blk_lt (g := gb222) (o := .cells #[.int .i64 t217, .int .i64 t218, .string t219, .complex .f64 t220.1 t220.2] 25 (0, 0)) (by (with_reducible repeat (first | refine blk_drewN ?_ _ | refine blk_drew ?_ | refine blk_alloc ?_ _)); exact BK222.out)) : gb222 ≠ gb240)); have n17_ := Aside0.mk ((by rw [hg]; exact Nat.ne_of_gt (blk_lt (g := gb222) (o := .cells #[.int .i64 t217, .int .i64 t218, .string t219, .complex .f64 t220.1 t220.2] 25 (0, 0)) (by (with_reducible repeat (first | refine blk_drewN ?_ _ | refine blk_drew ?_ | refine blk_alloc ?_ _)); exact BK222.out)) : gb240 ≠ gb222)); have n18_ := Aside0.mk ((by rw [hg]; exact Nat.ne_of_lt (blk_lt (g := gb228) (o := .cells #[.int .i64 t223, .int .i64 t224, .string t225, .complex .f64 t226.1 t226.2] 25 (0, 0)) (by (with_reducible repeat (first | refine blk_drewN ?_ _ | refine blk_drew ?_ | refine blk_alloc ?_ _)); exact BK228.out)) : gb228 ≠ gb240)); have n19_ := Aside0.mk ((by rw [hg]; exact Nat.ne_of_gt (blk_lt (g := gb228) (o := .cells #[.int .i64 t223, .int .i64 t224, .string t225, .complex .f64 t226.1 t226.2] 25 (0, 0)) (by (with_reducible repeat (first | refine blk_drewN ?_ _ | refine blk_drew ?_ | refine blk_alloc ?_ _)); exact BK228.out)) : gb240 ≠ gb228)); have n20_ := Aside0.mk ((by rw [hg]; exact Nat.ne_of_lt (blk_lt (g := gb234) (o := .cells #[.int .i64 t229, .int .i64 t230, .string t231, .complex .f64 t232.1 t232.2] 25 (0, 0)) (by (with_reducible repeat (first | refine blk_drewN ?_ _ | refine blk_drew ?_ | refine blk_alloc ?_ _)); exact BK234.out)) : gb234 ≠ gb240)); have n21_ := Aside0.mk ((by rw [hg]; exact Nat.ne_of_gt (blk_lt (g := gb234) (o := .cells #[.int .i64 t229, .int .i64 t230, .string t231, .complex .f64 t232.1 t232.2] 25 (0, 0)) (by (with_reducible repeat (first | refine blk_drewN ?_ _ | refine blk_drew ?_ | refine blk_alloc ?_ _)); exact BK234.out)) : gb240 ≠ gb234)); clear BK204; clear BK210; clear BK216; clear BK222; clear BK228; clear BK234; clear HB; have BK204 := n0_; have BK210 := n1_; have BK216 := n2_; have BK222 := n3_; have BK228 := n4_; have BK234 := n5_; have HB := n6_; have BK240 := n7_; have GW240 := n8_; have GE240 := n9_; have NB204_240 := n10_; have NB240_204 := n11_; have NB210_240 := n12_; have NB240_210 := n13_; have NB216_240 := n14_; have NB240_216 := n15_; have NB222_240 := n16_; have NB240_222 := n17_; have NB228_240 := n18_; have NB240_228 := n19_; have NB234_240 := n20_; have NB240_234 := n21_; clear n0_ n1_ n2_ n3_ n4_ n5_ n6_ n7_ n8_ n9_ n10_ n11_ n12_ n13_ n14_ n15_ n16_ n17_ n18_ n19_ n20_ n21_; clear hb hbox hg; have hnb84 := NB240_204.out; have hnc84 := NB204_240.out; have hnb85 := NB240_210.out; have hnc85 := NB210_240.out; have hnb86 := NB240_216.out; have hnc86 := NB216_240.out; have hnb87 := NB240_222.out; have hnc87 := NB222_240.out; have hnb88 := NB240_228.out; have hnc88 := NB228_240.out; have hnb89 := NB240_234.out; have hnc89 := NB234_240.out; have hcz90_0 : w83.cell? ⟨gb240, 0, none⟩ = some (.int .i64 0) := (blk_cell BK240.out 0).trans rfl; have hcz90_1 : w83.cell? ⟨gb240, 1, none⟩ = some (.int .i64 0) := (blk_cell BK240.out 1).trans rfl; have hcz90_2 : w83.cell? ⟨gb240, 2, none⟩ = some (.string (⟨#[]⟩ : ByteArray)) := (blk_cell BK240.out 2).trans rfl; have hcz90_3 : w83.cell? ⟨gb240, 3, none⟩ = some (.complex .f64 0 0) := (blk_cell BK240.out 3).trans rfl; have hfz90_0 := blk_frozen BK240.out 0; have hfz90_1 := blk_frozen BK240.out 1; have hfz90_2 := blk_frozen BK240.out 2; have hfz90_3 := blk_frozen BK240.out 3))
        have n0_ : Aside0 (((((w83.setCell ⟨gb240, 0, none⟩ (.int .i64 t235)).setCell ⟨gb240, 1, none⟩ (.int .i64 t236)).setCell ⟨gb240, 2, none⟩ (.string t237)).setCell ⟨gb240, 3, none⟩ (.complex .f64 t238.1 t238.2)).heap[gb204]? = some (.cells #[.int .i64 t199, .int .i64 t200, .string t201, .complex .f64 t202.1 t202.2] 25 (0, 0))) := ⟨by (with_reducible repeat (first | refine blk_drewN ?_ _ | refine blk_drew ?_ | refine blk_alloc ?_ _)); refine blk_far ?_ NB204_240.out _; (with_reducible repeat (first | refine blk_drewN ?_ _ | refine blk_drew ?_ | refine blk_alloc ?_ _)); refine blk_far ?_ NB204_240.out _; (with_reducible repeat (first | refine blk_drewN ?_ _ | refine blk_drew ?_ | refine blk_alloc ?_ _)); refine blk_far ?_ NB204_240.out _; (with_reducible repeat (first | refine blk_drewN ?_ _ | refine blk_drew ?_ | refine blk_alloc ?_ _)); refine blk_far ?_ NB204_240.out _; (with_reducible repeat (first | refine blk_drewN ?_ _ | refine blk_drew ?_ | refine blk_alloc ?_ _)); exact BK204.out⟩
        have n1_ : Aside0 (((((w83.setCell ⟨gb240, 0, none⟩ (.int .i64 t235)).setCell ⟨gb240, 1, none⟩ (.int .i64 t236)).setCell ⟨gb240, 2, none⟩ (.string t237)).setCell ⟨gb240, 3, none⟩ (.complex .f64 t238.1 t238.2)).heap[gb210]? = some (.cells #[.int .i64 t205, .int .i64 t206, .string t207, .complex .f64 t208.1 t208.2] 25 (0, 0))) := ⟨by (with_reducible repeat (first | refine blk_drewN ?_ _ | refine blk_drew ?_ | refine blk_alloc ?_ _)); refine blk_far ?_ NB210_240.out _; (with_reducible repeat (first | refine blk_drewN ?_ _ | refine blk_drew ?_ | refine blk_alloc ?_ _)); refine blk_far ?_ NB210_240.out _; (with_reducible repeat (first | refine blk_drewN ?_ _ | refine blk_drew ?_ | refine blk_alloc ?_ _)); refine blk_far ?_ NB210_240.out _; (with_reducible repeat (first | refine blk_drewN ?_ _ | refine blk_drew ?_ | refine blk_alloc ?_ _)); refine blk_far ?_ NB210_240.out _; (with_reducible repeat (first | refine blk_drewN ?_ _ | refine blk_drew ?_ | refine blk_alloc ?_ _)); exact BK210.out⟩
        have n2_ : Aside0 (((((w83.setCell ⟨gb240, 0, none⟩ (.int .i64 t235)).setCell ⟨gb240, 1, none⟩ (.int .i64 t236)).setCell ⟨gb240, 2, none⟩ (.string t237)).setCell ⟨gb240, 3, none⟩ (.complex .f64 t238.1 t238.2)).heap[gb216]? = some (.cells #[.int .i64 t211, .int .i64 t212, .string t213, .complex .f64 t214.1 t214.2] 25 (0, 0))) := ⟨by (with_reducible repeat (first | refine blk_drewN ?_ _ | refine blk_drew ?_ | refine blk_alloc ?_ _)); refine blk_far ?_ NB216_240.out _; (with_reducible repeat (first | refine blk_drewN ?_ _ | refine blk_drew ?_ | refine blk_alloc ?_ _)); refine blk_far ?_ NB216_240.out _; (with_reducible repeat (first | refine blk_drewN ?_ _ | refine blk_drew ?_ | refine blk_alloc ?_ _)); refine blk_far ?_ NB216_240.out _; (with_reducible repeat (first | refine blk_drewN ?_ _ | refine blk_drew ?_ | refine blk_alloc ?_ _)); refine blk_far ?_ NB216_240.out _; (with_reducible repeat (first | refine blk_drewN ?_ _ | refine blk_drew ?_ | refine blk_alloc ?_ _)); exact BK216.out⟩
        have n3_ : Aside0 (((((w83.setCell ⟨gb240, 0, none⟩ (.int .i64 t235)).setCell ⟨gb240, 1, none⟩ (.int .i64 t236)).setCell ⟨gb240, 2, none⟩ (.string t237)).setCell ⟨gb240, 3, none⟩ (.complex .f64 t238.1 t238.2)).heap[gb222]? = some (.cells #[.int .i64 t217, .int .i64 t218, .string t219, .complex .f64 t220.1 t220.2] 25 (0, 0))) := ⟨by (with_reducible repeat (first | refine blk_drewN ?_ _ | refine blk_drew ?_ | refine blk_alloc ?_ _)); refine blk_far ?_ NB222_240.out _; (with_reducible repeat (first | refine blk_drewN ?_ _ | refine blk_drew ?_ | refine blk_alloc ?_ _)); refine blk_far ?_ NB222_240.out _; (with_reducible repeat (first | refine blk_drewN ?_ _ | refine blk_drew ?_ | refine blk_alloc ?_ _)); refine blk_far ?_ NB222_240.out _; (with_reducible repeat (first | refine blk_drewN ?_ _ | refine blk_drew ?_ | refine blk_alloc ?_ _)); refine blk_far ?_ NB222_240.out _; (with_reducible repeat (first | refine blk_drewN ?_ _ | refine blk_drew ?_ | refine blk_alloc ?_ _)); exact BK222.out⟩
        have n4_ : Aside0 (((((w83.setCell ⟨gb240, 0, none⟩ (.int .i64 t235)).setCell ⟨gb240, 1, none⟩ (.int .i64 t236)).setCell ⟨gb240, 2, none⟩ (.string t237)).setCell ⟨gb240, 3, none⟩ (.complex .f64 t238.1 t238.2)).heap[gb228]? = some (.cells #[.int .i64 t223, .int .i64 t224, .string t225, .complex .f64 t226.1 t226.2] 25 (0, 0))) := ⟨by (with_reducible repeat (first | refine blk_drewN ?_ _ | refine blk_drew ?_ | refine blk_alloc ?_ _)); refine blk_far ?_ NB228_240.out _; (with_reducible repeat (first | refine blk_drewN ?_ _ | refine blk_drew ?_ | refine blk_alloc ?_ _)); refine blk_far ?_ NB228_240.out _; (with_reducible repeat (first | refine blk_drewN ?_ _ | refine blk_drew ?_ | refine blk_alloc ?_ _)); refine blk_far ?_ NB228_240.out _; (with_reducible repeat (first | refine blk_drewN ?_ _ | refine blk_drew ?_ | refine blk_alloc ?_ _)); refine blk_far ?_ NB228_240.out _; (with_reducible repeat (first | refine blk_drewN ?_ _ | refine blk_drew ?_ | refine blk_alloc ?_ _)); exact BK228.out⟩
        have n5_ : Aside0 (((((w83.setCell ⟨gb240, 0, none⟩ (.int .i64 t235)).setCell ⟨gb240, 1, none⟩ (.int .i64 t236)).setCell ⟨gb240, 2, none⟩ (.string t237)).setCell ⟨gb240, 3, none⟩ (.complex .f64 t238.1 t238.2)).heap[gb234]? = some (.cells #[.int .i64 t229, .int .i64 t230, .string t231, .complex .f64 t232.1 t232.2] 25 (0, 0))) := ⟨by (with_reducible repeat (first | refine blk_drewN ?_ _ | refine blk_drew ?_ | refine blk_alloc ?_ _)); refine blk_far ?_ NB234_240.out _; (with_reducible repeat (first | refine blk_drewN ?_ _ | refine blk_drew ?_ | refine blk_alloc ?_ _)); refine blk_far ?_ NB234_240.out _; (with_reducible repeat (first | refine blk_drewN ?_ _ | refine blk_drew ?_ | refine blk_alloc ?_ _)); refine blk_far ?_ NB234_240.out _; (with_reducible repeat (first | refine blk_drewN ?_ _ | refine blk_drew ?_ | refine blk_alloc ?_ _)); refine blk_far ?_ NB234_240.out _; (with_reducible repeat (first | refine blk_drewN ?_ _ | refine blk_drew ?_ | refine blk_alloc ?_ _)); exact BK234.out⟩
        have n6_ : Aside0 (((((w83.setCell ⟨gb240, 0, none⟩ (.int .i64 t235)).setCell ⟨gb240, 1, none⟩ (.int .i64 t236)).setCell ⟨gb240, 2, none⟩ (.string t237)).setCell ⟨gb240, 3, none⟩ (.complex .f64 t238.1 t238.2)).heap[gb240]? = some (.cells #[.int .i64 t235, .int .i64 t236, .string t237, .complex .f64 t238.1 t238.2] 25 (0, 0))) := ⟨by (with_reducible repeat (first | refine blk_drewN ?_ _ | refine blk_drew ?_ | refine blk_alloc ?_ _)); refine blk_put (cs := #[.int .i64 t235, .int .i64 t236, .string t237, .complex .f64 0 0]) ?_ 3 _ rfl; (with_reducible repeat (first | refine blk_drewN ?_ _ | refine blk_drew ?_ | refine blk_alloc ?_ _)); refine blk_put (cs := #[.int .i64 t235, .int .i64 t236, .string (⟨#[]⟩ : ByteArray), .complex .f64 0 0]) ?_ 2 _ rfl; (with_reducible repeat (first | refine blk_drewN ?_ _ | refine blk_drew ?_ | refine blk_alloc ?_ _)); refine blk_put (cs := #[.int .i64 t235, .int .i64 0, .string (⟨#[]⟩ : ByteArray), .complex .f64 0 0]) ?_ 1 _ rfl; (with_reducible repeat (first | refine blk_drewN ?_ _ | refine blk_drew ?_ | refine blk_alloc ?_ _)); refine blk_put (cs := #[.int .i64 0, .int .i64 0, .string (⟨#[]⟩ : ByteArray), .complex .f64 0 0]) ?_ 0 _ rfl; (with_reducible repeat (first | refine blk_drewN ?_ _ | refine blk_drew ?_ | refine blk_alloc ?_ _)); exact BK240.out⟩
        have n7_ : Aside0 (Below w.heap.size w ((((w83.setCell ⟨gb240, 0, none⟩ (.int .i64 t235)).setCell ⟨gb240, 1, none⟩ (.int .i64 t236)).setCell ⟨gb240, 2, none⟩ (.string t237)).setCell ⟨gb240, 3, none⟩ (.complex .f64 t238.1 t238.2))) := ⟨by repeat (first | (with_reducible first | exact HB.out | apply below_alloc | apply pw_below_drewN | apply below_drew1 | refine below_set ?_ GE204.out | refine below_set ?_ GE210.out | refine below_set ?_ GE216.out | refine below_set ?_ GE222.out | refine below_set ?_ GE228.out | refine below_set ?_ GE234.out | refine below_set ?_ GE240.out) | exact HB.out)⟩
        (try clear BK204)
        (try clear BK210)
        (try clear BK216)
        (try clear BK222)
        (try clear BK228)
        (try clear BK234)
        (try clear BK240)
        (try clear HB)
        generalize ((((w83.setCell ⟨gb240, 0, none⟩ (.int .i64 t235)).setCell ⟨gb240, 1, none⟩ (.int .i64 t236)).setCell ⟨gb240, 2, none⟩ (.string t237)).setCell ⟨gb240, 3, none⟩ (.complex .f64 t238.1 t238.2)) = w91 at n0_ n1_ n2_ n3_ n4_ n5_ n6_ n7_ ⊢
        have BK204 := n0_
        have BK210 := n1_
        have BK216 := n2_
        have BK222 := n3_
        have BK228 := n4_
        have BK234 := n5_
        have BK240 := n6_
        have HB := n7_
        clear n0_ n1_ n2_ n3_ n4_ n5_ n6_ n7_
        have n0_ := Aside0.mk (blk_drew BK204.out)
        have n1_ := Aside0.mk (blk_drew BK210.out)
        have n2_ := Aside0.mk (blk_drew BK216.out)
        have n3_ := Aside0.mk (blk_drew BK222.out)
        have n4_ := Aside0.mk (blk_drew BK228.out)
        have n5_ := Aside0.mk (blk_drew BK234.out)
        have n6_ := Aside0.mk (blk_drew BK240.out)
        have n7_ := Aside0.mk (below_drew1 HB.out)
        clear BK204
        clear BK210
        clear BK216
        clear BK222
        clear BK228
        clear BK234
        clear BK240
        clear HB
        have BK204 := n0_
        have BK210 := n1_
        have BK216 := n2_
        have BK222 := n3_
        have BK228 := n4_
        have BK234 := n5_
        have BK240 := n6_
        have HB := n7_
        clear n0_ n1_ n2_ n3_ n4_ n5_ n6_ n7_
        refine start_ (n := 103) (S := fun w' => w'.cell? ⟨gb204, 0, none⟩ = some (.int .i64 t199) ∧ w'.cell? ⟨gb204, 1, none⟩ = some (.int .i64 t200) ∧ w'.cell? ⟨gb204, 2, none⟩ = some (.string t201) ∧ w'.cell? ⟨gb204, 3, none⟩ = some (.complex .f64 t202.1 t202.2) ∧ w'.cell? ⟨gb210, 0, none⟩ = some (.int .i64 t205) ∧ w'.cell? ⟨gb210, 1, none⟩ = some (.int .i64 t206) ∧ w'.cell? ⟨gb210, 2, none⟩ = some (.string t207) ∧ w'.cell? ⟨gb210, 3, none⟩ = some (.complex .f64 t208.1 t208.2) ∧ w'.cell? ⟨gb216, 0, none⟩ = some (.int .i64 t211) ∧ w'.cell? ⟨gb216, 1, none⟩ = some (.int .i64 t212) ∧ w'.cell? ⟨gb216, 2, none⟩ = some (.string t213) ∧ w'.cell? ⟨gb216, 3, none⟩ = some (.complex .f64 t214.1 t214.2) ∧ w'.cell? ⟨gb222, 0, none⟩ = some (.int .i64 t217) ∧ w'.cell? ⟨gb222, 1, none⟩ = some (.int .i64 t218) ∧ w'.cell? ⟨gb222, 2, none⟩ = some (.string t219) ∧ w'.cell? ⟨gb222, 3, none⟩ = some (.complex .f64 t220.1 t220.2)) (ds := []) #[b0, b0, b0, b0, b0, b0, b0, b0, b0, b0, b0, b0, b0, b0, b0, b0, b0, b0, b0, b0, b0, b0, b0, b0, b0, b0, b0, b0, b0, b0, b0, b0, b0, b0, b0, b0, b0, b0, b0, b0, b0, b0, b0, b0, b0, b0, b0, b0, b0, b0, b0, b0, b0, b0, b0, b0, b0, b0, b0, b0, b0, b0, b0, b0, b0, b0, b0, b0, b0, b0, b0, b0, b0, b0, b0, b0, b0, b0, b0, b0, b0, b0, b0, b0, b0, b0, b0, b0, b0, b0, b0, b0, b0, b0, b0, b0, b0, b0, b0, b0, b0, b0, b0] (by kernel_rfl) rfl rfl ⟨(blk_cell BK204.out 0).trans rfl, (blk_cell BK204.out 1).trans rfl, (blk_cell BK204.out 2).trans rfl, (blk_cell BK204.out 3).trans rfl, (blk_cell BK210.out 0).trans rfl, (blk_cell BK210.out 1).trans rfl, (blk_cell BK210.out 2).trans rfl, (blk_cell BK210.out 3).trans rfl, (blk_cell BK216.out 0).trans rfl, (blk_cell BK216.out 1).trans rfl, (blk_cell BK216.out 2).trans rfl, (blk_cell BK216.out 3).trans rfl, (blk_cell BK222.out 0).trans rfl, (blk_cell BK222.out 1).trans rfl, (blk_cell BK222.out 2).trans rfl, (blk_cell BK222.out 3).trans rfl⟩ (fun hHeld => ?_); refine with_tabW norialaw3_known.tab8 norialaw3_known.bits8 (fun HT_ HW_ => ?_)
        generalize w91.drew = w92 at BK204 BK210 BK216 BK222 BK228 BK234 BK240 HB hHeld ⊢
        refine pure_ (i := 0) (N := some 43) (v := ?_) (a' := ?_) #[b1, b0, b0, b0, b0, b0, b0, b0, b0, b0, b0, b0, b0, b0, b0, b0, b0, b0, b0, b0, b0, b0, b0, b0, b0, b0, b0, b0, b0, b0, b0, b0, b0, b0, b0, b0, b0, b0, b0, b0, b0, b0, b0, b0, b0, b0, b0, b0, b0, b0, b0, b0, b0, b0, b0, b0, b0, b0, b0, b0, b0, b0, b0, b0, b0, b0, b0, b0, b0, b0, b0, b0, b0, b0, b0, b0, b0, b0, b0, b0, b0, b0, b0, b0, b0, b0, b0, b0, b0, b0, b0, b0, b0, b0, b0, b0, b0, b0, b0, b0, b0, b0, b0] rfl rfl (any_of HT_.out (by kernel_rfl)) (fun _ _ _ h => h) (Or.inl ⟨by rfl, ?_⟩) ?_ ?_
        rotate_left
        · intro w'
          go_simp
          with_reducible rfl
        rotate_left
        · simp only [Act.put, List.setIfInBounds_toArray, List.set_cons_zero, List.set_cons_succ, i64_w, i32_w]
          rfl
        refine pure_ (i := 1) (N := some 44) (v := ?_) (a' := ?_) #[b1, b1, b0, b0, b0, b0, b0, b0, b0, b0, b0, b0, b0, b0, b0, b0, b0, b0, b0, b0, b0, b0, b0, b0, b0, b0, b0, b0, b0, b0, b0, b0, b0, b0, b0, b0, b0, b0, b0, b0, b0, b0, b0, b0, b0, b0, b0, b0, b0, b0, b0, b0, b0, b0, b0, b0, b0, b0, b0, b0, b0, b0, b0, b0, b0, b0, b0, b0, b0, b0, b0, b0, b0, b0, b0, b0, b0, b0, b0, b0, b0, b0, b0, b0, b0, b0, b0, b0, b0, b0, b0, b0, b0, b0, b0, b0, b0, b0, b0, b0, b0, b0, b0] rfl rfl (any_of HT_.out (by kernel_rfl)) (fun _ _ _ h => h) (Or.inl ⟨by rfl, ?_⟩) ?_ ?_
        rotate_left
        · intro w'
          go_simp
          with_reducible rfl
        rotate_left
        · simp only [Act.put, List.setIfInBounds_toArray, List.set_cons_zero, List.set_cons_succ, i64_w, i32_w]
          rfl
        refine pure_ (i := 2) (N := some 45) (v := ?_) (a' := ?_) #[b1, b1, b1, b0, b0, b0, b0, b0, b0, b0, b0, b0, b0, b0, b0, b0, b0, b0, b0, b0, b0, b0, b0, b0, b0, b0, b0, b0, b0, b0, b0, b0, b0, b0, b0, b0, b0, b0, b0, b0, b0, b0, b0, b0, b0, b0, b0, b0, b0, b0, b0, b0, b0, b0, b0, b0, b0, b0, b0, b0, b0, b0, b0, b0, b0, b0, b0, b0, b0, b0, b0, b0, b0, b0, b0, b0, b0, b0, b0, b0, b0, b0, b0, b0, b0, b0, b0, b0, b0, b0, b0, b0, b0, b0, b0, b0, b0, b0, b0, b0, b0, b0, b0] rfl rfl (any_of HT_.out (by kernel_rfl)) (fun _ _ _ h => h) (Or.inl ⟨by rfl, ?_⟩) ?_ ?_
        rotate_left
        · intro w'
          go_simp
          with_reducible rfl
        rotate_left
        · simp only [Act.put, List.setIfInBounds_toArray, List.set_cons_zero, List.set_cons_succ, i64_w, i32_w]
          rfl
        refine pure_ (i := 3) (N := some 46) (v := ?_) (a' := ?_) #[b1, b1, b1, b1, b0, b0, b0, b0, b0, b0, b0, b0, b0, b0, b0, b0, b0, b0, b0, b0, b0, b0, b0, b0, b0, b0, b0, b0, b0, b0, b0, b0, b0, b0, b0, b0, b0, b0, b0, b0, b0, b0, b0, b0, b0, b0, b0, b0, b0, b0, b0, b0, b0, b0, b0, b0, b0, b0, b0, b0, b0, b0, b0, b0, b0, b0, b0, b0, b0, b0, b0, b0, b0, b0, b0, b0, b0, b0, b0, b0, b0, b0, b0, b0, b0, b0, b0, b0, b0, b0, b0, b0, b0, b0, b0, b0, b0, b0, b0, b0, b0, b0, b0] rfl rfl (any_of HT_.out (by kernel_rfl)) (fun _ _ _ h => h) (Or.inl ⟨by rfl, ?_⟩) ?_ ?_
        rotate_left
        · intro w'
          go_simp
          with_reducible rfl
        rotate_left
        · simp only [Act.put, List.setIfInBounds_toArray, List.set_cons_zero, List.set_cons_succ, i64_w, i32_w]
          rfl
        refine pure_ (i := 4) (N := some 47) (v := ?_) (a' := ?_) #[b1, b1, b1, b1, b1, b0, b0, b0, b0, b0, b0, b0, b0, b0, b0, b0, b0, b0, b0, b0, b0, b0, b0, b0, b0, b0, b0, b0, b0, b0, b0, b0, b0, b0, b0, b0, b0, b0, b0, b0, b0, b0, b0, b0, b0, b0, b0, b0, b0, b0, b0, b0, b0, b0, b0, b0, b0, b0, b0, b0, b0, b0, b0, b0, b0, b0, b0, b0, b0, b0, b0, b0, b0, b0, b0, b0, b0, b0, b0, b0, b0, b0, b0, b0, b0, b0, b0, b0, b0, b0, b0, b0, b0, b0, b0, b0, b0, b0, b0, b0, b0, b0, b0] rfl rfl (any_of HT_.out (by kernel_rfl)) (fun _ _ _ h => h) (Or.inl ⟨by rfl, ?_⟩) ?_ ?_
        rotate_left
        · intro w'
          go_simp
          with_reducible rfl
        rotate_left
        · simp only [Act.put, List.setIfInBounds_toArray, List.set_cons_zero, List.set_cons_succ, i64_w, i32_w]
          rfl
        refine pure_ (i := 5) (N := some 48) (v := ?_) (a' := ?_) #[b1, b1, b1, b1, b1, b1, b0, b0, b0, b0, b0, b0, b0, b0, b0, b0, b0, b0, b0, b0, b0, b0, b0, b0, b0, b0, b0, b0, b0, b0, b0, b0, b0, b0, b0, b0, b0, b0, b0, b0, b0, b0, b0, b0, b0, b0, b0, b0, b0, b0, b0, b0, b0, b0, b0, b0, b0, b0, b0, b0, b0, b0, b0, b0, b0, b0, b0, b0, b0, b0, b0, b0, b0, b0, b0, b0, b0, b0, b0, b0, b0, b0, b0, b0, b0, b0, b0, b0, b0, b0, b0, b0, b0, b0, b0, b0, b0, b0, b0, b0, b0, b0, b0] rfl rfl (any_of HT_.out (by kernel_rfl)) (fun _ _ _ h => h) (Or.inl ⟨by rfl, ?_⟩) ?_ ?_
        rotate_left
        · intro w'
          go_simp
          with_reducible rfl
        rotate_left
        · simp only [Act.put, List.setIfInBounds_toArray, List.set_cons_zero, List.set_cons_succ, i64_w, i32_w]
          rfl
        refine pure_ (i := 6) (N := some 49) (v := ?_) (a' := ?_) #[b1, b1, b1, b1, b1, b1, b1, b0, b0, b0, b0, b0, b0, b0, b0, b0, b0, b0, b0, b0, b0, b0, b0, b0, b0, b0, b0, b0, b0, b0, b0, b0, b0, b0, b0, b0, b0, b0, b0, b0, b0, b0, b0, b0, b0, b0, b0, b0, b0, b0, b0, b0, b0, b0, b0, b0, b0, b0, b0, b0, b0, b0, b0, b0, b0, b0, b0, b0, b0, b0, b0, b0, b0, b0, b0, b0, b0, b0, b0, b0, b0, b0, b0, b0, b0, b0, b0, b0, b0, b0, b0, b0, b0, b0, b0, b0, b0, b0, b0, b0, b0, b0, b0] rfl rfl (any_of HT_.out (by kernel_rfl)) (fun _ _ _ h => h) (Or.inl ⟨by rfl, ?_⟩) ?_ ?_
        rotate_left
        · intro w'
          go_simp
          with_reducible rfl
        rotate_left
        · simp only [Act.put, List.setIfInBounds_toArray, List.set_cons_zero, List.set_cons_succ, i64_w, i32_w]
          rfl
        refine pure_ (i := 7) (N := some 50) (v := ?_) (a' := ?_) #[b1, b1, b1, b1, b1, b1, b1, b1, b0, b0, b0, b0, b0, b0, b0, b0, b0, b0, b0, b0, b0, b0, b0, b0, b0, b0, b0, b0, b0, b0, b0, b0, b0, b0, b0, b0, b0, b0, b0, b0, b0, b0, b0, b0, b0, b0, b0, b0, b0, b0, b0, b0, b0, b0, b0, b0, b0, b0, b0, b0, b0, b0, b0, b0, b0, b0, b0, b0, b0, b0, b0, b0, b0, b0, b0, b0, b0, b0, b0, b0, b0, b0, b0, b0, b0, b0, b0, b0, b0, b0, b0, b0, b0, b0, b0, b0, b0, b0, b0, b0, b0, b0, b0] rfl rfl (any_of HT_.out (by kernel_rfl)) (fun _ _ _ h => h) (Or.inl ⟨by rfl, ?_⟩) ?_ ?_
        rotate_left
        · intro w'
          go_simp
          with_reducible rfl
        rotate_left
        · simp only [Act.put, List.setIfInBounds_toArray, List.set_cons_zero, List.set_cons_succ, i64_w, i32_w]
          rfl
        refine pure_ (i := 8) (N := some 51) (v := ?_) (a' := ?_) #[b1, b1, b1, b1, b1, b1, b1, b1, b1, b0, b0, b0, b0, b0, b0, b0, b0, b0, b0, b0, b0, b0, b0, b0, b0, b0, b0, b0, b0, b0, b0, b0, b0, b0, b0, b0, b0, b0, b0, b0, b0, b0, b0, b0, b0, b0, b0, b0, b0, b0, b0, b0, b0, b0, b0, b0, b0, b0, b0, b0, b0, b0, b0, b0, b0, b0, b0, b0, b0, b0, b0, b0, b0, b0, b0, b0, b0, b0, b0, b0, b0, b0, b0, b0, b0, b0, b0, b0, b0, b0, b0, b0, b0, b0, b0, b0, b0, b0, b0, b0, b0, b0, b0] rfl rfl (any_of HT_.out (by kernel_rfl)) (fun _ _ _ h => h) (Or.inl ⟨by rfl, ?_⟩) ?_ ?_
        rotate_left
        · intro w'
          go_simp
          with_reducible rfl
        rotate_left
        · simp only [Act.put, List.setIfInBounds_toArray, List.set_cons_zero, List.set_cons_succ, i64_w, i32_w]
          rfl
        refine take_ (i := 9) (N := some 52) (v := ?_) (a' := ?_) #[b1, b1, b1, b1, b1, b1, b1, b1, b1, b1, b0, b0, b0, b0, b0, b0, b0, b0, b0, b0, b0, b0, b0, b0, b0, b0, b0, b0, b0, b0, b0, b0, b0, b0, b0, b0, b0, b0, b0, b0, b0, b0, b0, b0, b0, b0, b0, b0, b0, b0, b0, b0, b0, b0, b0, b0, b0, b0, b0, b0, b0, b0, b0, b0, b0, b0, b0, b0, b0, b0, b0, b0, b0, b0, b0, b0, b0, b0, b0, b0, b0, b0, b0, b0, b0, b0, b0, b0, b0, b0, b0, b0, b0, b0, b0, b0, b0, b0, b0, b0, b0, b0, b0] rfl rfl (take_ofW HT_.out HW_.out (by kernel_rfl)) (fun _ _ _ h => h) (Or.inl ⟨by rfl, ?_⟩) hHeld ?_ ?_
        rotate_left
        · rintro w' ⟨s0, s1, s2, s3, s4, s5, s6, s7, s8, s9, s10, s11, s12, s13, s14, s15⟩
          go_simp
          with_reducible rfl
        rotate_left
        · simp only [Act.put, List.setIfInBounds_toArray, List.set_cons_zero, List.set_cons_succ, i64_w, i32_w]
          rfl
        refine one_ (i := 10) (N := some 53) #[b1, b1, b1, b1, b1, b1, b1, b1, b1, b1, b1, b0, b0, b0, b0, b0, b0, b0, b0, b0, b0, b0, b0, b0, b0, b0, b0, b0, b0, b0, b0, b0, b0, b0, b0, b0, b0, b0, b0, b0, b0, b0, b0, b0, b0, b0, b0, b0, b0, b0, b0, b0, b0, b0, b0, b0, b0, b0, b0, b0, b0, b0, b0, b0, b0, b0, b0, b0, b0, b0, b0, b0, b0, b0, b0, b0, b0, b0, b0, b0, b0, b0, b0, b0, b0, b0, b0, b0, b0, b0, b0, b0, b0, b0, b0, b0, b0, b0, b0, b0, b0, b0, b0] rfl rfl (one_of HT_.out (by kernel_rfl)) (by decide) (fun K hK => ?_)
        refine goes_ Tryz.func10 (by kernel_rfl) rfl #[.string (⟨#[97, 111]⟩ : ByteArray)] (by rfl) rfl rfl (by (try simp only [List.map_toArray, List.map_cons, List.map_nil]); first | done | rfl | (simp only [List.length_drop, List.length_take]; rfl)) ?_
        with_reducible refine (norialaw3_S.calls (⟨#[97, 111]⟩ : ByteArray) t241 t242 t243 t244 _ A9.out).mono ?_
        rintro e w93 ⟨rfl, hb⟩
        refine ⟨_, rfl, ?_⟩
        have n0_ := Aside0.mk (blk_below (g := gb204) (o := .cells #[.int .i64 t199, .int .i64 t200, .string t201, .complex .f64 t202.1 t202.2] 25 (0, 0)) BK204.out hb)
        have n1_ := Aside0.mk (blk_below (g := gb210) (o := .cells #[.int .i64 t205, .int .i64 t206, .string t207, .complex .f64 t208.1 t208.2] 25 (0, 0)) BK210.out hb)
        have n2_ := Aside0.mk (blk_below (g := gb216) (o := .cells #[.int .i64 t211, .int .i64 t212, .string t213, .complex .f64 t214.1 t214.2] 25 (0, 0)) BK216.out hb)
        have n3_ := Aside0.mk (blk_below (g := gb222) (o := .cells #[.int .i64 t217, .int .i64 t218, .string t219, .complex .f64 t220.1 t220.2] 25 (0, 0)) BK222.out hb)
        have n4_ := Aside0.mk (blk_below (g := gb228) (o := .cells #[.int .i64 t223, .int .i64 t224, .string t225, .complex .f64 t226.1 t226.2] 25 (0, 0)) BK228.out hb)
        have n5_ := Aside0.mk (blk_below (g := gb234) (o := .cells #[.int .i64 t229, .int .i64 t230, .string t231, .complex .f64 t232.1 t232.2] 25 (0, 0)) BK234.out hb)
        have n6_ := Aside0.mk (blk_below (g := gb240) (o := .cells #[.int .i64 t235, .int .i64 t236, .string t237, .complex .f64 t238.1 t238.2] 25 (0, 0)) BK240.out hb)
        have n7_ := Aside0.mk (below_step HB.out hb)
        clear BK204
        clear BK210
        clear BK216
        clear BK222
        clear BK228
        clear BK234
        clear BK240
        clear HB
        have BK204 := n0_
        have BK210 := n1_
        have BK216 := n2_
        have BK222 := n3_
        have BK228 := n4_
        have BK234 := n5_
        have BK240 := n6_
        have HB := n7_
        clear n0_ n1_ n2_ n3_ n4_ n5_ n6_ n7_
        (try clear hb)
        (try clear hb2)
        (try clear hk)
        (try clear hi)
        refine hK.out _ _ ⟨(blk_cell BK204.out 0).trans rfl, (blk_cell BK204.out 1).trans rfl, (blk_cell BK204.out 2).trans rfl, (blk_cell BK204.out 3).trans rfl, (blk_cell BK210.out 0).trans rfl, (blk_cell BK210.out 1).trans rfl, (blk_cell BK210.out 2).trans rfl, (blk_cell BK210.out 3).trans rfl, (blk_cell BK216.out 0).trans rfl, (blk_cell BK216.out 1).trans rfl, (blk_cell BK216.out 2).trans rfl, (blk_cell BK216.out 3).trans rfl, (blk_cell BK222.out 0).trans rfl, (blk_cell BK222.out 1).trans rfl, (blk_cell BK222.out 2).trans rfl, (blk_cell BK222.out 3).trans rfl⟩ (fun hHeld => ?_)
        clear hK K
        refine norm_ (a' := ?_) ?_ ?_
        rotate_left
        · show Act.put _ (some 53) _ = _
          simp only [Act.put, List.setIfInBounds_toArray, List.set_cons_zero, List.set_cons_succ, i64_w, i32_w]
          rfl
        refine pure_ (i := 11) (N := some 54) (v := ?_) (a' := ?_) #[b1, b1, b1, b1, b1, b1, b1, b1, b1, b1, b1, b1, b0, b0, b0, b0, b0, b0, b0, b0, b0, b0, b0, b0, b0, b0, b0, b0, b0, b0, b0, b0, b0, b0, b0, b0, b0, b0, b0, b0, b0, b0, b0, b0, b0, b0, b0, b0, b0, b0, b0, b0, b0, b0, b0, b0, b0, b0, b0, b0, b0, b0, b0, b0, b0, b0, b0, b0, b0, b0, b0, b0, b0, b0, b0, b0, b0, b0, b0, b0, b0, b0, b0, b0, b0, b0, b0, b0, b0, b0, b0, b0, b0, b0, b0, b0, b0, b0, b0, b0, b0, b0, b0] rfl rfl (any_of HT_.out (by kernel_rfl)) (fun _ _ _ h => h) (Or.inl ⟨by rfl, ?_⟩) ?_ ?_
        rotate_left
        · intro w'
          go_simp
          with_reducible rfl
        rotate_left
        · simp only [Act.put, List.setIfInBounds_toArray, List.set_cons_zero, List.set_cons_succ, i64_w, i32_w]
          rfl
        refine pure_ (i := 12) (N := some 55) (v := ?_) (a' := ?_) #[b1, b1, b1, b1, b1, b1, b1, b1, b1, b1, b1, b1, b1, b0, b0, b0, b0, b0, b0, b0, b0, b0, b0, b0, b0, b0, b0, b0, b0, b0, b0, b0, b0, b0, b0, b0, b0, b0, b0, b0, b0, b0, b0, b0, b0, b0, b0, b0, b0, b0, b0, b0, b0, b0, b0, b0, b0, b0, b0, b0, b0, b0, b0, b0, b0, b0, b0, b0, b0, b0, b0, b0, b0, b0, b0, b0, b0, b0, b0, b0, b0, b0, b0, b0, b0, b0, b0, b0, b0, b0, b0, b0, b0, b0, b0, b0, b0, b0, b0, b0, b0, b0, b0] rfl rfl (any_of HT_.out (by kernel_rfl)) (fun _ _ _ h => h) (Or.inl ⟨by rfl, ?_⟩) ?_ ?_
        rotate_left
        · intro w'
          go_simp
          with_reducible rfl
        rotate_left
        · simp only [Act.put, List.setIfInBounds_toArray, List.set_cons_zero, List.set_cons_succ, i64_w, i32_w]
          rfl
        refine pure_ (i := 13) (N := some 56) (v := ?_) (a' := ?_) #[b1, b1, b1, b1, b1, b1, b1, b1, b1, b1, b1, b1, b1, b1, b0, b0, b0, b0, b0, b0, b0, b0, b0, b0, b0, b0, b0, b0, b0, b0, b0, b0, b0, b0, b0, b0, b0, b0, b0, b0, b0, b0, b0, b0, b0, b0, b0, b0, b0, b0, b0, b0, b0, b0, b0, b0, b0, b0, b0, b0, b0, b0, b0, b0, b0, b0, b0, b0, b0, b0, b0, b0, b0, b0, b0, b0, b0, b0, b0, b0, b0, b0, b0, b0, b0, b0, b0, b0, b0, b0, b0, b0, b0, b0, b0, b0, b0, b0, b0, b0, b0, b0, b0] rfl rfl (any_of HT_.out (by kernel_rfl)) (fun _ _ _ h => h) (Or.inl ⟨by rfl, ?_⟩) ?_ ?_
        rotate_left
        · intro w'
          go_simp
          with_reducible rfl
        rotate_left
        · simp only [Act.put, List.setIfInBounds_toArray, List.set_cons_zero, List.set_cons_succ, i64_w, i32_w]
          rfl
        refine take_ (i := 14) (N := some 57) (v := ?_) (a' := ?_) #[b1, b1, b1, b1, b1, b1, b1, b1, b1, b1, b1, b1, b1, b1, b1, b0, b0, b0, b0, b0, b0, b0, b0, b0, b0, b0, b0, b0, b0, b0, b0, b0, b0, b0, b0, b0, b0, b0, b0, b0, b0, b0, b0, b0, b0, b0, b0, b0, b0, b0, b0, b0, b0, b0, b0, b0, b0, b0, b0, b0, b0, b0, b0, b0, b0, b0, b0, b0, b0, b0, b0, b0, b0, b0, b0, b0, b0, b0, b0, b0, b0, b0, b0, b0, b0, b0, b0, b0, b0, b0, b0, b0, b0, b0, b0, b0, b0, b0, b0, b0, b0, b0, b0] rfl rfl (take_ofW HT_.out HW_.out (by kernel_rfl)) (fun _ _ _ h => h) (Or.inl ⟨by rfl, ?_⟩) hHeld ?_ ?_
        rotate_left
        · rintro w' ⟨s0, s1, s2, s3, s4, s5, s6, s7, s8, s9, s10, s11, s12, s13, s14, s15⟩
          go_simp
          with_reducible rfl
        rotate_left
        · simp only [Act.put, List.setIfInBounds_toArray, List.set_cons_zero, List.set_cons_succ, i64_w, i32_w]
          rfl
        refine one_ (i := 15) (N := some 58) #[b1, b1, b1, b1, b1, b1, b1, b1, b1, b1, b1, b1, b1, b1, b1, b1, b0, b0, b0, b0, b0, b0, b0, b0, b0, b0, b0, b0, b0, b0, b0, b0, b0, b0, b0, b0, b0, b0, b0, b0, b0, b0, b0, b0, b0, b0, b0, b0, b0, b0, b0, b0, b0, b0, b0, b0, b0, b0, b0, b0, b0, b0, b0, b0, b0, b0, b0, b0, b0, b0, b0, b0, b0, b0, b0, b0, b0, b0, b0, b0, b0, b0, b0, b0, b0, b0, b0, b0, b0, b0, b0, b0, b0, b0, b0, b0, b0, b0, b0, b0, b0, b0, b0] rfl rfl (one_of HT_.out (by kernel_rfl)) (by decide) (fun K hK => ?_)
        refine goes_ Tryz.func11 (by kernel_rfl) rfl #[.int .i64 (-7)] (by rfl) rfl rfl (by (try simp only [List.map_toArray, List.map_cons, List.map_nil]); first | done | rfl | (simp only [List.length_drop, List.length_take]; rfl)) ?_
        with_reducible refine (norialaw3_N.calls (-7) t245 t246 t247 t248 _ A11.out).mono ?_
        rintro e w94 ⟨rfl, hb⟩
        refine ⟨_, rfl, ?_⟩
        have n0_ := Aside0.mk (blk_below (g := gb204) (o := .cells #[.int .i64 t199, .int .i64 t200, .string t201, .complex .f64 t202.1 t202.2] 25 (0, 0)) BK204.out hb)
        have n1_ := Aside0.mk (blk_below (g := gb210) (o := .cells #[.int .i64 t205, .int .i64 t206, .string t207, .complex .f64 t208.1 t208.2] 25 (0, 0)) BK210.out hb)
        have n2_ := Aside0.mk (blk_below (g := gb216) (o := .cells #[.int .i64 t211, .int .i64 t212, .string t213, .complex .f64 t214.1 t214.2] 25 (0, 0)) BK216.out hb)
        have n3_ := Aside0.mk (blk_below (g := gb222) (o := .cells #[.int .i64 t217, .int .i64 t218, .string t219, .complex .f64 t220.1 t220.2] 25 (0, 0)) BK222.out hb)
        have n4_ := Aside0.mk (blk_below (g := gb228) (o := .cells #[.int .i64 t223, .int .i64 t224, .string t225, .complex .f64 t226.1 t226.2] 25 (0, 0)) BK228.out hb)
        have n5_ := Aside0.mk (blk_below (g := gb234) (o := .cells #[.int .i64 t229, .int .i64 t230, .string t231, .complex .f64 t232.1 t232.2] 25 (0, 0)) BK234.out hb)
        have n6_ := Aside0.mk (blk_below (g := gb240) (o := .cells #[.int .i64 t235, .int .i64 t236, .string t237, .complex .f64 t238.1 t238.2] 25 (0, 0)) BK240.out hb)
        have n7_ := Aside0.mk (below_step HB.out hb)
        clear BK204
        clear BK210
        clear BK216
        clear BK222
        clear BK228
        clear BK234
        clear BK240
        clear HB
        have BK204 := n0_
        have BK210 := n1_
        have BK216 := n2_
        have BK222 := n3_
        have BK228 := n4_
        have BK234 := n5_
        have BK240 := n6_
        have HB := n7_
        clear n0_ n1_ n2_ n3_ n4_ n5_ n6_ n7_
        (try clear hb)
        (try clear hb2)
        (try clear hk)
        (try clear hi)
        refine hK.out _ _ ⟨(blk_cell BK204.out 0).trans rfl, (blk_cell BK204.out 1).trans rfl, (blk_cell BK204.out 2).trans rfl, (blk_cell BK204.out 3).trans rfl, (blk_cell BK210.out 0).trans rfl, (blk_cell BK210.out 1).trans rfl, (blk_cell BK210.out 2).trans rfl, (blk_cell BK210.out 3).trans rfl, (blk_cell BK216.out 0).trans rfl, (blk_cell BK216.out 1).trans rfl, (blk_cell BK216.out 2).trans rfl, (blk_cell BK216.out 3).trans rfl, (blk_cell BK222.out 0).trans rfl, (blk_cell BK222.out 1).trans rfl, (blk_cell BK222.out 2).trans rfl, (blk_cell BK222.out 3).trans rfl⟩ (fun hHeld => ?_)
        clear hK K
        refine norm_ (a' := ?_) ?_ ?_
        rotate_left
        · show Act.put _ (some 58) _ = _
          simp only [Act.put, List.setIfInBounds_toArray, List.set_cons_zero, List.set_cons_succ, i64_w, i32_w]
          rfl
        refine pure_ (i := 16) (N := some 59) (v := ?_) (a' := ?_) #[b1, b1, b1, b1, b1, b1, b1, b1, b1, b1, b1, b1, b1, b1, b1, b1, b1, b0, b0, b0, b0, b0, b0, b0, b0, b0, b0, b0, b0, b0, b0, b0, b0, b0, b0, b0, b0, b0, b0, b0, b0, b0, b0, b0, b0, b0, b0, b0, b0, b0, b0, b0, b0, b0, b0, b0, b0, b0, b0, b0, b0, b0, b0, b0, b0, b0, b0, b0, b0, b0, b0, b0, b0, b0, b0, b0, b0, b0, b0, b0, b0, b0, b0, b0, b0, b0, b0, b0, b0, b0, b0, b0, b0, b0, b0, b0, b0, b0, b0, b0, b0, b0, b0] rfl rfl (any_of HT_.out (by kernel_rfl)) (fun _ _ _ h => h) (Or.inl ⟨by rfl, ?_⟩) ?_ ?_
        rotate_left
        · intro w'
          go_simp
          with_reducible rfl
        rotate_left
        · simp only [Act.put, List.setIfInBounds_toArray, List.set_cons_zero, List.set_cons_succ, i64_w, i32_w]
          rfl
        refine pure_ (i := 17) (N := some 60) (v := ?_) (a' := ?_) #[b1, b1, b1, b1, b1, b1, b1, b1, b1, b1, b1, b1, b1, b1, b1, b1, b1, b1, b0, b0, b0, b0, b0, b0, b0, b0, b0, b0, b0, b0, b0, b0, b0, b0, b0, b0, b0, b0, b0, b0, b0, b0, b0, b0, b0, b0, b0, b0, b0, b0, b0, b0, b0, b0, b0, b0, b0, b0, b0, b0, b0, b0, b0, b0, b0, b0, b0, b0, b0, b0, b0, b0, b0, b0, b0, b0, b0, b0, b0, b0, b0, b0, b0, b0, b0, b0, b0, b0, b0, b0, b0, b0, b0, b0, b0, b0, b0, b0, b0, b0, b0, b0, b0] rfl rfl (any_of HT_.out (by kernel_rfl)) (fun _ _ _ h => h) (Or.inl ⟨by rfl, ?_⟩) ?_ ?_
        rotate_left
        · intro w'
          go_simp
          with_reducible rfl
        rotate_left
        · simp only [Act.put, List.setIfInBounds_toArray, List.set_cons_zero, List.set_cons_succ, i64_w, i32_w]
          rfl
        refine pure_ (i := 18) (N := some 61) (v := ?_) (a' := ?_) #[b1, b1, b1, b1, b1, b1, b1, b1, b1, b1, b1, b1, b1, b1, b1, b1, b1, b1, b1, b0, b0, b0, b0, b0, b0, b0, b0, b0, b0, b0, b0, b0, b0, b0, b0, b0, b0, b0, b0, b0, b0, b0, b0, b0, b0, b0, b0, b0, b0, b0, b0, b0, b0, b0, b0, b0, b0, b0, b0, b0, b0, b0, b0, b0, b0, b0, b0, b0, b0, b0, b0, b0, b0, b0, b0, b0, b0, b0, b0, b0, b0, b0, b0, b0, b0, b0, b0, b0, b0, b0, b0, b0, b0, b0, b0, b0, b0, b0, b0, b0, b0, b0, b0] rfl rfl (any_of HT_.out (by kernel_rfl)) (fun _ _ _ h => h) (Or.inl ⟨by rfl, ?_⟩) ?_ ?_
        rotate_left
        · intro w'
          go_simp
          with_reducible rfl
        rotate_left
        · simp only [Act.put, List.setIfInBounds_toArray, List.set_cons_zero, List.set_cons_succ, i64_w, i32_w]
          rfl
        refine take_ (i := 19) (N := some 62) (v := ?_) (a' := ?_) #[b1, b1, b1, b1, b1, b1, b1, b1, b1, b1, b1, b1, b1, b1, b1, b1, b1, b1, b1, b1, b0, b0, b0, b0, b0, b0, b0, b0, b0, b0, b0, b0, b0, b0, b0, b0, b0, b0, b0, b0, b0, b0, b0, b0, b0, b0, b0, b0, b0, b0, b0, b0, b0, b0, b0, b0, b0, b0, b0, b0, b0, b0, b0, b0, b0, b0, b0, b0, b0, b0, b0, b0, b0, b0, b0, b0, b0, b0, b0, b0, b0, b0, b0, b0, b0, b0, b0, b0, b0, b0, b0, b0, b0, b0, b0, b0, b0, b0, b0, b0, b0, b0, b0] rfl rfl (take_ofW HT_.out HW_.out (by kernel_rfl)) (fun _ _ _ h => h) (Or.inl ⟨by rfl, ?_⟩) hHeld ?_ ?_
        rotate_left
        · rintro w' ⟨s0, s1, s2, s3, s4, s5, s6, s7, s8, s9, s10, s11, s12, s13, s14, s15⟩
          go_simp
          with_reducible rfl
        rotate_left
        · simp only [Act.put, List.setIfInBounds_toArray, List.set_cons_zero, List.set_cons_succ, i64_w, i32_w]
          rfl
        refine one_ (i := 20) (N := some 63) #[b1, b1, b1, b1, b1, b1, b1, b1, b1, b1, b1, b1, b1, b1, b1, b1, b1, b1, b1, b1, b1, b0, b0, b0, b0, b0, b0, b0, b0, b0, b0, b0, b0, b0, b0, b0, b0, b0, b0, b0, b0, b0, b0, b0, b0, b0, b0, b0, b0, b0, b0, b0, b0, b0, b0, b0, b0, b0, b0, b0, b0, b0, b0, b0, b0, b0, b0, b0, b0, b0, b0, b0, b0, b0, b0, b0, b0, b0, b0, b0, b0, b0, b0, b0, b0, b0, b0, b0, b0, b0, b0, b0, b0, b0, b0, b0, b0, b0, b0, b0, b0, b0, b0] rfl rfl (one_of HT_.out (by kernel_rfl)) (by decide) (fun K hK => ?_)
        refine goes_ Tryz.func12 (by kernel_rfl) rfl #[.int .i64 (-1), .int .i64 2] (by rfl) rfl rfl (by (try simp only [List.map_toArray, List.map_cons, List.map_nil]); first | done | rfl | (simp only [List.length_drop, List.length_take]; rfl)) ?_
        with_reducible refine (norialaw3_C.calls (-1) 2 t249 t250 t251 t252 _ A13.out).mono ?_
        rintro e w95 ⟨rfl, hb⟩
        refine ⟨_, rfl, ?_⟩
        have n0_ := Aside0.mk (blk_below (g := gb204) (o := .cells #[.int .i64 t199, .int .i64 t200, .string t201, .complex .f64 t202.1 t202.2] 25 (0, 0)) BK204.out hb)
        have n1_ := Aside0.mk (blk_below (g := gb210) (o := .cells #[.int .i64 t205, .int .i64 t206, .string t207, .complex .f64 t208.1 t208.2] 25 (0, 0)) BK210.out hb)
        have n2_ := Aside0.mk (blk_below (g := gb216) (o := .cells #[.int .i64 t211, .int .i64 t212, .string t213, .complex .f64 t214.1 t214.2] 25 (0, 0)) BK216.out hb)
        have n3_ := Aside0.mk (blk_below (g := gb222) (o := .cells #[.int .i64 t217, .int .i64 t218, .string t219, .complex .f64 t220.1 t220.2] 25 (0, 0)) BK222.out hb)
        have n4_ := Aside0.mk (blk_below (g := gb228) (o := .cells #[.int .i64 t223, .int .i64 t224, .string t225, .complex .f64 t226.1 t226.2] 25 (0, 0)) BK228.out hb)
        have n5_ := Aside0.mk (blk_below (g := gb234) (o := .cells #[.int .i64 t229, .int .i64 t230, .string t231, .complex .f64 t232.1 t232.2] 25 (0, 0)) BK234.out hb)
        have n6_ := Aside0.mk (blk_below (g := gb240) (o := .cells #[.int .i64 t235, .int .i64 t236, .string t237, .complex .f64 t238.1 t238.2] 25 (0, 0)) BK240.out hb)
        have n7_ := Aside0.mk (below_step HB.out hb)
        clear BK204
        clear BK210
        clear BK216
        clear BK222
        clear BK228
        clear BK234
        clear BK240
        clear HB
        have BK204 := n0_
        have BK210 := n1_
        have BK216 := n2_
        have BK222 := n3_
        have BK228 := n4_
        have BK234 := n5_
        have BK240 := n6_
        have HB := n7_
        clear n0_ n1_ n2_ n3_ n4_ n5_ n6_ n7_
        (try clear hb)
        (try clear hb2)
        (try clear hk)
        (try clear hi)
        refine hK.out _ _ ⟨(blk_cell BK204.out 0).trans rfl, (blk_cell BK204.out 1).trans rfl, (blk_cell BK204.out 2).trans rfl, (blk_cell BK204.out 3).trans rfl, (blk_cell BK210.out 0).trans rfl, (blk_cell BK210.out 1).trans rfl, (blk_cell BK210.out 2).trans rfl, (blk_cell BK210.out 3).trans rfl, (blk_cell BK216.out 0).trans rfl, (blk_cell BK216.out 1).trans rfl, (blk_cell BK216.out 2).trans rfl, (blk_cell BK216.out 3).trans rfl, (blk_cell BK222.out 0).trans rfl, (blk_cell BK222.out 1).trans rfl, (blk_cell BK222.out 2).trans rfl, (blk_cell BK222.out 3).trans rfl⟩ (fun hHeld => ?_)
        clear hK K
        refine norm_ (a' := ?_) ?_ ?_
        rotate_left
        · show Act.put _ (some 63) _ = _
          simp only [Act.put, List.setIfInBounds_toArray, List.set_cons_zero, List.set_cons_succ, i64_w, i32_w]
          rfl
        refine pure_ (i := 21) (N := some 64) (v := ?_) (a' := ?_) #[b1, b1, b1, b1, b1, b1, b1, b1, b1, b1, b1, b1, b1, b1, b1, b1, b1, b1, b1, b1, b1, b1, b0, b0, b0, b0, b0, b0, b0, b0, b0, b0, b0, b0, b0, b0, b0, b0, b0, b0, b0, b0, b0, b0, b0, b0, b0, b0, b0, b0, b0, b0, b0, b0, b0, b0, b0, b0, b0, b0, b0, b0, b0, b0, b0, b0, b0, b0, b0, b0, b0, b0, b0, b0, b0, b0, b0, b0, b0, b0, b0, b0, b0, b0, b0, b0, b0, b0, b0, b0, b0, b0, b0, b0, b0, b0, b0, b0, b0, b0, b0, b0, b0] rfl rfl (any_of HT_.out (by kernel_rfl)) (fun _ _ _ h => h) (Or.inl ⟨by rfl, ?_⟩) ?_ ?_
        rotate_left
        · intro w'
          go_simp
          with_reducible rfl
        rotate_left
        · simp only [Act.put, List.setIfInBounds_toArray, List.set_cons_zero, List.set_cons_succ, i64_w, i32_w]
          rfl
        refine pure_ (i := 22) (N := some 65) (v := ?_) (a' := ?_) #[b1, b1, b1, b1, b1, b1, b1, b1, b1, b1, b1, b1, b1, b1, b1, b1, b1, b1, b1, b1, b1, b1, b1, b0, b0, b0, b0, b0, b0, b0, b0, b0, b0, b0, b0, b0, b0, b0, b0, b0, b0, b0, b0, b0, b0, b0, b0, b0, b0, b0, b0, b0, b0, b0, b0, b0, b0, b0, b0, b0, b0, b0, b0, b0, b0, b0, b0, b0, b0, b0, b0, b0, b0, b0, b0, b0, b0, b0, b0, b0, b0, b0, b0, b0, b0, b0, b0, b0, b0, b0, b0, b0, b0, b0, b0, b0, b0, b0, b0, b0, b0, b0, b0] rfl rfl (any_of HT_.out (by kernel_rfl)) (fun _ _ _ h => h) (Or.inl ⟨by rfl, ?_⟩) ?_ ?_
        rotate_left
        · intro w'
          go_simp
          with_reducible rfl
        rotate_left
        · simp only [Act.put, List.setIfInBounds_toArray, List.set_cons_zero, List.set_cons_succ, i64_w, i32_w]
          rfl
        refine pure_ (i := 23) (N := some 66) (v := ?_) (a' := ?_) #[b1, b1, b1, b1, b1, b1, b1, b1, b1, b1, b1, b1, b1, b1, b1, b1, b1, b1, b1, b1, b1, b1, b1, b1, b0, b0, b0, b0, b0, b0, b0, b0, b0, b0, b0, b0, b0, b0, b0, b0, b0, b0, b0, b0, b0, b0, b0, b0, b0, b0, b0, b0, b0, b0, b0, b0, b0, b0, b0, b0, b0, b0, b0, b0, b0, b0, b0, b0, b0, b0, b0, b0, b0, b0, b0, b0, b0, b0, b0, b0, b0, b0, b0, b0, b0, b0, b0, b0, b0, b0, b0, b0, b0, b0, b0, b0, b0, b0, b0, b0, b0, b0, b0] rfl rfl (any_of HT_.out (by kernel_rfl)) (fun _ _ _ h => h) (Or.inl ⟨by rfl, ?_⟩) ?_ ?_
        rotate_left
        · intro w'
          go_simp
          with_reducible rfl
        rotate_left
        · simp only [Act.put, List.setIfInBounds_toArray, List.set_cons_zero, List.set_cons_succ, i64_w, i32_w]
          rfl
        refine pure_ (i := 25) (N := some 68) (v := ?_) (a' := ?_) #[b1, b1, b1, b1, b1, b1, b1, b1, b1, b1, b1, b1, b1, b1, b1, b1, b1, b1, b1, b1, b1, b1, b1, b1, b0, b1, b0, b0, b0, b0, b0, b0, b0, b0, b0, b0, b0, b0, b0, b0, b0, b0, b0, b0, b0, b0, b0, b0, b0, b0, b0, b0, b0, b0, b0, b0, b0, b0, b0, b0, b0, b0, b0, b0, b0, b0, b0, b0, b0, b0, b0, b0, b0, b0, b0, b0, b0, b0, b0, b0, b0, b0, b0, b0, b0, b0, b0, b0, b0, b0, b0, b0, b0, b0, b0, b0, b0, b0, b0, b0, b0, b0, b0] rfl rfl (any_of HT_.out (by kernel_rfl)) (fun _ _ _ h => h) (Or.inl ⟨by rfl, ?_⟩) ?_ ?_
        rotate_left
        · intro w'
          go_simp
          with_reducible rfl
        rotate_left
        · simp only [Act.put, List.setIfInBounds_toArray, List.set_cons_zero, List.set_cons_succ, i64_w, i32_w]
          rfl
        refine take_ (i := 24) (N := some 67) (v := ?_) (a' := ?_) #[b1, b1, b1, b1, b1, b1, b1, b1, b1, b1, b1, b1, b1, b1, b1, b1, b1, b1, b1, b1, b1, b1, b1, b1, b1, b1, b0, b0, b0, b0, b0, b0, b0, b0, b0, b0, b0, b0, b0, b0, b0, b0, b0, b0, b0, b0, b0, b0, b0, b0, b0, b0, b0, b0, b0, b0, b0, b0, b0, b0, b0, b0, b0, b0, b0, b0, b0, b0, b0, b0, b0, b0, b0, b0, b0, b0, b0, b0, b0, b0, b0, b0, b0, b0, b0, b0, b0, b0, b0, b0, b0, b0, b0, b0, b0, b0, b0, b0, b0, b0, b0, b0, b0] rfl rfl (take_ofW HT_.out HW_.out (by kernel_rfl)) (fun _ _ _ h => h) (Or.inl ⟨by rfl, ?_⟩) hHeld ?_ ?_
        rotate_left
        · rintro w' ⟨s0, s1, s2, s3, s4, s5, s6, s7, s8, s9, s10, s11, s12, s13, s14, s15⟩
          go_simp
          with_reducible rfl
        rotate_left
        · simp only [Act.put, List.setIfInBounds_toArray, List.set_cons_zero, List.set_cons_succ, i64_w, i32_w]
          rfl
        refine pure_ (i := 26) (N := some 69) (v := ?_) (a' := ?_) #[b1, b1, b1, b1, b1, b1, b1, b1, b1, b1, b1, b1, b1, b1, b1, b1, b1, b1, b1, b1, b1, b1, b1, b1, b1, b1, b1, b0, b0, b0, b0, b0, b0, b0, b0, b0, b0, b0, b0, b0, b0, b0, b0, b0, b0, b0, b0, b0, b0, b0, b0, b0, b0, b0, b0, b0, b0, b0, b0, b0, b0, b0, b0, b0, b0, b0, b0, b0, b0, b0, b0, b0, b0, b0, b0, b0, b0, b0, b0, b0, b0, b0, b0, b0, b0, b0, b0, b0, b0, b0, b0, b0, b0, b0, b0, b0, b0, b0, b0, b0, b0, b0, b0] rfl rfl (any_of HT_.out (by kernel_rfl)) (fun _ _ _ h => h) (Or.inl ⟨by rfl, ?_⟩) ?_ ?_
        rotate_left
        · intro w'
          go_simp
          with_reducible rfl
        rotate_left
        · simp only [Act.put, List.setIfInBounds_toArray, List.set_cons_zero, List.set_cons_succ, i64_w, i32_w]
          rfl
        refine pure_ (i := 27) (N := some 70) (v := ?_) (a' := ?_) #[b1, b1, b1, b1, b1, b1, b1, b1, b1, b1, b1, b1, b1, b1, b1, b1, b1, b1, b1, b1, b1, b1, b1, b1, b1, b1, b1, b1, b0, b0, b0, b0, b0, b0, b0, b0, b0, b0, b0, b0, b0, b0, b0, b0, b0, b0, b0, b0, b0, b0, b0, b0, b0, b0, b0, b0, b0, b0, b0, b0, b0, b0, b0, b0, b0, b0, b0, b0, b0, b0, b0, b0, b0, b0, b0, b0, b0, b0, b0, b0, b0, b0, b0, b0, b0, b0, b0, b0, b0, b0, b0, b0, b0, b0, b0, b0, b0, b0, b0, b0, b0, b0, b0] rfl rfl (any_of HT_.out (by kernel_rfl)) (fun _ _ _ h => h) (Or.inl ⟨by rfl, ?_⟩) ?_ ?_
        rotate_left
        · intro w'
          go_simp
          with_reducible rfl
        rotate_left
        · simp only [Act.put, List.setIfInBounds_toArray, List.set_cons_zero, List.set_cons_succ, i64_w, i32_w]
          rfl
        refine pure_ (i := 28) (N := some 71) (v := ?_) (a' := ?_) #[b1, b1, b1, b1, b1, b1, b1, b1, b1, b1, b1, b1, b1, b1, b1, b1, b1, b1, b1, b1, b1, b1, b1, b1, b1, b1, b1, b1, b1, b0, b0, b0, b0, b0, b0, b0, b0, b0, b0, b0, b0, b0, b0, b0, b0, b0, b0, b0, b0, b0, b0, b0, b0, b0, b0, b0, b0, b0, b0, b0, b0, b0, b0, b0, b0, b0, b0, b0, b0, b0, b0, b0, b0, b0, b0, b0, b0, b0, b0, b0, b0, b0, b0, b0, b0, b0, b0, b0, b0, b0, b0, b0, b0, b0, b0, b0, b0, b0, b0, b0, b0, b0, b0] rfl rfl (any_of HT_.out (by kernel_rfl)) (fun _ _ _ h => h) (Or.inl ⟨by rfl, ?_⟩) ?_ ?_
        rotate_left
        · intro w'
          go_simp
          with_reducible rfl
        rotate_left
        · simp only [Act.put, List.setIfInBounds_toArray, List.set_cons_zero, List.set_cons_succ, i64_w, i32_w]
          rfl
        refine pure_ (i := 29) (N := some 72) (v := ?_) (a' := ?_) #[b1, b1, b1, b1, b1, b1, b1, b1, b1, b1, b1, b1, b1, b1, b1, b1, b1, b1, b1, b1, b1, b1, b1, b1, b1, b1, b1, b1, b1, b1, b0, b0, b0, b0, b0, b0, b0, b0, b0, b0, b0, b0, b0, b0, b0, b0, b0, b0, b0, b0, b0, b0, b0, b0, b0, b0, b0, b0, b0, b0, b0, b0, b0, b0, b0, b0, b0, b0, b0, b0, b0, b0, b0, b0, b0, b0, b0, b0, b0, b0, b0, b0, b0, b0, b0, b0, b0, b0, b0, b0, b0, b0, b0, b0, b0, b0, b0, b0, b0, b0, b0, b0, b0] rfl rfl (any_of HT_.out (by kernel_rfl)) (fun _ _ _ h => h) (Or.inl ⟨by rfl, ?_⟩) ?_ ?_
        rotate_left
        · intro w'
          go_simp
          with_reducible rfl
        rotate_left
        · simp only [Act.put, List.setIfInBounds_toArray, List.set_cons_zero, List.set_cons_succ, i64_w, i32_w]
          rfl
        refine pure_ (i := 30) (N := some 73) (v := ?_) (a' := ?_) #[b1, b1, b1, b1, b1, b1, b1, b1, b1, b1, b1, b1, b1, b1, b1, b1, b1, b1, b1, b1, b1, b1, b1, b1, b1, b1, b1, b1, b1, b1, b1, b0, b0, b0, b0, b0, b0, b0, b0, b0, b0, b0, b0, b0, b0, b0, b0, b0, b0, b0, b0, b0, b0, b0, b0, b0, b0, b0, b0, b0, b0, b0, b0, b0, b0, b0, b0, b0, b0, b0, b0, b0, b0, b0, b0, b0, b0, b0, b0, b0, b0, b0, b0, b0, b0, b0, b0, b0, b0, b0, b0, b0, b0, b0, b0, b0, b0, b0, b0, b0, b0, b0, b0] rfl rfl (any_of HT_.out (by kernel_rfl)) (fun _ _ _ h => h) (Or.inl ⟨by rfl, ?_⟩) ?_ ?_
        rotate_left
        · intro w'
          go_simp
          with_reducible rfl
        rotate_left
        · simp only [Act.put, List.setIfInBounds_toArray, List.set_cons_zero, List.set_cons_succ, i64_w, i32_w]
          rfl
        refine pure_ (i := 31) (N := some 74) (v := ?_) (a' := ?_) #[b1, b1, b1, b1, b1, b1, b1, b1, b1, b1, b1, b1, b1, b1, b1, b1, b1, b1, b1, b1, b1, b1, b1, b1, b1, b1, b1, b1, b1, b1, b1, b1, b0, b0, b0, b0, b0, b0, b0, b0, b0, b0, b0, b0, b0, b0, b0, b0, b0, b0, b0, b0, b0, b0, b0, b0, b0, b0, b0, b0, b0, b0, b0, b0, b0, b0, b0, b0, b0, b0, b0, b0, b0, b0, b0, b0, b0, b0, b0, b0, b0, b0, b0, b0, b0, b0, b0, b0, b0, b0, b0, b0, b0, b0, b0, b0, b0, b0, b0, b0, b0, b0, b0] rfl rfl (any_of HT_.out (by kernel_rfl)) (fun _ _ _ h => h) (Or.inl ⟨by rfl, ?_⟩) ?_ ?_
        rotate_left
        · intro w'
          go_simp
          with_reducible rfl
        rotate_left
        · simp only [Act.put, List.setIfInBounds_toArray, List.set_cons_zero, List.set_cons_succ, i64_w, i32_w]
          rfl
        refine pure_ (i := 32) (N := some 75) (v := ?_) (a' := ?_) #[b1, b1, b1, b1, b1, b1, b1, b1, b1, b1, b1, b1, b1, b1, b1, b1, b1, b1, b1, b1, b1, b1, b1, b1, b1, b1, b1, b1, b1, b1, b1, b1, b1, b0, b0, b0, b0, b0, b0, b0, b0, b0, b0, b0, b0, b0, b0, b0, b0, b0, b0, b0, b0, b0, b0, b0, b0, b0, b0, b0, b0, b0, b0, b0, b0, b0, b0, b0, b0, b0, b0, b0, b0, b0, b0, b0, b0, b0, b0, b0, b0, b0, b0, b0, b0, b0, b0, b0, b0, b0, b0, b0, b0, b0, b0, b0, b0, b0, b0, b0, b0, b0, b0] rfl rfl (any_of HT_.out (by kernel_rfl)) (fun _ _ _ h => h) (Or.inl ⟨by rfl, ?_⟩) ?_ ?_
        rotate_left
        · intro w'
          go_simp
          with_reducible rfl
        rotate_left
        · simp only [Act.put, List.setIfInBounds_toArray, List.set_cons_zero, List.set_cons_succ, i64_w, i32_w]
          rfl
        refine pure_ (i := 33) (N := some 76) (v := ?_) (a' := ?_) #[b1, b1, b1, b1, b1, b1, b1, b1, b1, b1, b1, b1, b1, b1, b1, b1, b1, b1, b1, b1, b1, b1, b1, b1, b1, b1, b1, b1, b1, b1, b1, b1, b1, b1, b0, b0, b0, b0, b0, b0, b0, b0, b0, b0, b0, b0, b0, b0, b0, b0, b0, b0, b0, b0, b0, b0, b0, b0, b0, b0, b0, b0, b0, b0, b0, b0, b0, b0, b0, b0, b0, b0, b0, b0, b0, b0, b0, b0, b0, b0, b0, b0, b0, b0, b0, b0, b0, b0, b0, b0, b0, b0, b0, b0, b0, b0, b0, b0, b0, b0, b0, b0, b0] rfl rfl (any_of HT_.out (by kernel_rfl)) (fun _ _ _ h => h) (Or.inl ⟨by rfl, ?_⟩) ?_ ?_
        rotate_left
        · intro w'
          go_simp
          with_reducible rfl
        rotate_left
        · simp only [Act.put, List.setIfInBounds_toArray, List.set_cons_zero, List.set_cons_succ, i64_w, i32_w]
          rfl
        refine pure_ (i := 34) (N := some 77) (v := ?_) (a' := ?_) #[b1, b1, b1, b1, b1, b1, b1, b1, b1, b1, b1, b1, b1, b1, b1, b1, b1, b1, b1, b1, b1, b1, b1, b1, b1, b1, b1, b1, b1, b1, b1, b1, b1, b1, b1, b0, b0, b0, b0, b0, b0, b0, b0, b0, b0, b0, b0, b0, b0, b0, b0, b0, b0, b0, b0, b0, b0, b0, b0, b0, b0, b0, b0, b0, b0, b0, b0, b0, b0, b0, b0, b0, b0, b0, b0, b0, b0, b0, b0, b0, b0, b0, b0, b0, b0, b0, b0, b0, b0, b0, b0, b0, b0, b0, b0, b0, b0, b0, b0, b0, b0, b0, b0] rfl rfl (any_of HT_.out (by kernel_rfl)) (fun _ _ _ h => h) (Or.inl ⟨by rfl, ?_⟩) ?_ ?_
        rotate_left
        · intro w'
          go_simp
          with_reducible rfl
        rotate_left
        · simp only [Act.put, List.setIfInBounds_toArray, List.set_cons_zero, List.set_cons_succ, i64_w, i32_w]
          rfl
        refine pure_ (i := 35) (N := some 78) (v := ?_) (a' := ?_) #[b1, b1, b1, b1, b1, b1, b1, b1, b1, b1, b1, b1, b1, b1, b1, b1, b1, b1, b1, b1, b1, b1, b1, b1, b1, b1, b1, b1, b1, b1, b1, b1, b1, b1, b1, b1, b0, b0, b0, b0, b0, b0, b0, b0, b0, b0, b0, b0, b0, b0, b0, b0, b0, b0, b0, b0, b0, b0, b0, b0, b0, b0, b0, b0, b0, b0, b0, b0, b0, b0, b0, b0, b0, b0, b0, b0, b0, b0, b0, b0, b0, b0, b0, b0, b0, b0, b0, b0, b0, b0, b0, b0, b0, b0, b0, b0, b0, b0, b0, b0, b0, b0, b0] rfl rfl (any_of HT_.out (by kernel_rfl)) (fun _ _ _ h => h) (Or.inl ⟨by rfl, ?_⟩) ?_ ?_
        rotate_left
        · intro w'
          go_simp
          with_reducible rfl
        rotate_left
        · simp only [Act.put, List.setIfInBounds_toArray, List.set_cons_zero, List.set_cons_succ, i64_w, i32_w]
          rfl
        refine pure_ (i := 36) (N := some 79) (v := ?_) (a' := ?_) #[b1, b1, b1, b1, b1, b1, b1, b1, b1, b1, b1, b1, b1, b1, b1, b1, b1, b1, b1, b1, b1, b1, b1, b1, b1, b1, b1, b1, b1, b1, b1, b1, b1, b1, b1, b1, b1, b0, b0, b0, b0, b0, b0, b0, b0, b0, b0, b0, b0, b0, b0, b0, b0, b0, b0, b0, b0, b0, b0, b0, b0, b0, b0, b0, b0, b0, b0, b0, b0, b0, b0, b0, b0, b0, b0, b0, b0, b0, b0, b0, b0, b0, b0, b0, b0, b0, b0, b0, b0, b0, b0, b0, b0, b0, b0, b0, b0, b0, b0, b0, b0, b0, b0] rfl rfl (any_of HT_.out (by kernel_rfl)) (fun _ _ _ h => h) (Or.inl ⟨by rfl, ?_⟩) ?_ ?_
        rotate_left
        · intro w'
          go_simp
          with_reducible rfl
        rotate_left
        · simp only [Act.put, List.setIfInBounds_toArray, List.set_cons_zero, List.set_cons_succ, i64_w, i32_w]
          rfl
        refine pure_ (i := 37) (N := some 80) (v := ?_) (a' := ?_) #[b1, b1, b1, b1, b1, b1, b1, b1, b1, b1, b1, b1, b1, b1, b1, b1, b1, b1, b1, b1, b1, b1, b1, b1, b1, b1, b1, b1, b1, b1, b1, b1, b1, b1, b1, b1, b1, b1, b0, b0, b0, b0, b0, b0, b0, b0, b0, b0, b0, b0, b0, b0, b0, b0, b0, b0, b0, b0, b0, b0, b0, b0, b0, b0, b0, b0, b0, b0, b0, b0, b0, b0, b0, b0, b0, b0, b0, b0, b0, b0, b0, b0, b0, b0, b0, b0, b0, b0, b0, b0, b0, b0, b0, b0, b0, b0, b0, b0, b0, b0, b0, b0, b0] rfl rfl (any_of HT_.out (by kernel_rfl)) (fun _ _ _ h => h) (Or.inl ⟨by rfl, ?_⟩) ?_ ?_
        rotate_left
        · intro w'
          go_simp
          with_reducible rfl
        rotate_left
        · simp only [Act.put, List.setIfInBounds_toArray, List.set_cons_zero, List.set_cons_succ, i64_w, i32_w]
          rfl
        refine pure_ (i := 38) (N := some 81) (v := ?_) (a' := ?_) #[b1, b1, b1, b1, b1, b1, b1, b1, b1, b1, b1, b1, b1, b1, b1, b1, b1, b1, b1, b1, b1, b1, b1, b1, b1, b1, b1, b1, b1, b1, b1, b1, b1, b1, b1, b1, b1, b1, b1, b0, b0, b0, b0, b0, b0, b0, b0, b0, b0, b0, b0, b0, b0, b0, b0, b0, b0, b0, b0, b0, b0, b0, b0, b0, b0, b0, b0, b0, b0, b0, b0, b0, b0, b0, b0, b0, b0, b0, b0, b0, b0, b0, b0, b0, b0, b0, b0, b0, b0, b0, b0, b0, b0, b0, b0, b0, b0, b0, b0, b0, b0, b0, b0] rfl rfl (any_of HT_.out (by kernel_rfl)) (fun _ _ _ h => h) (Or.inl ⟨by rfl, ?_⟩) ?_ ?_
        rotate_left
        · intro w'
          go_simp
          with_reducible rfl
        rotate_left
        · simp only [Act.put, List.setIfInBounds_toArray, List.set_cons_zero, List.set_cons_succ, i64_w, i32_w]
          rfl
        refine pure_ (i := 39) (N := some 82) (v := ?_) (a' := ?_) #[b1, b1, b1, b1, b1, b1, b1, b1, b1, b1, b1, b1, b1, b1, b1, b1, b1, b1, b1, b1, b1, b1, b1, b1, b1, b1, b1, b1, b1, b1, b1, b1, b1, b1, b1, b1, b1, b1, b1, b1, b0, b0, b0, b0, b0, b0, b0, b0, b0, b0, b0, b0, b0, b0, b0, b0, b0, b0, b0, b0, b0, b0, b0, b0, b0, b0, b0, b0, b0, b0, b0, b0, b0, b0, b0, b0, b0, b0, b0, b0, b0, b0, b0, b0, b0, b0, b0, b0, b0, b0, b0, b0, b0, b0, b0, b0, b0, b0, b0, b0, b0, b0, b0] rfl rfl (any_of HT_.out (by kernel_rfl)) (fun _ _ _ h => h) (Or.inl ⟨by rfl, ?_⟩) ?_ ?_
        rotate_left
        · intro w'
          go_simp
          with_reducible rfl
        rotate_left
        · simp only [Act.put, List.setIfInBounds_toArray, List.set_cons_zero, List.set_cons_succ, i64_w, i32_w]
          rfl
        refine pure_ (i := 40) (N := some 83) (v := ?_) (a' := ?_) #[b1, b1, b1, b1, b1, b1, b1, b1, b1, b1, b1, b1, b1, b1, b1, b1, b1, b1, b1, b1, b1, b1, b1, b1, b1, b1, b1, b1, b1, b1, b1, b1, b1, b1, b1, b1, b1, b1, b1, b1, b1, b0, b0, b0, b0, b0, b0, b0, b0, b0, b0, b0, b0, b0, b0, b0, b0, b0, b0, b0, b0, b0, b0, b0, b0, b0, b0, b0, b0, b0, b0, b0, b0, b0, b0, b0, b0, b0, b0, b0, b0, b0, b0, b0, b0, b0, b0, b0, b0, b0, b0, b0, b0, b0, b0, b0, b0, b0, b0, b0, b0, b0, b0] rfl rfl (any_of HT_.out (by kernel_rfl)) (fun _ _ _ h => h) (Or.inl ⟨by rfl, ?_⟩) ?_ ?_
        rotate_left
        · intro w'
          go_simp
          with_reducible rfl
        rotate_left
        · simp only [Act.put, List.setIfInBounds_toArray, List.set_cons_zero, List.set_cons_succ, i64_w, i32_w]
          rfl
        refine take_ (i := 41) (N := some 84) (v := ?_) (a' := ?_) #[b1, b1, b1, b1, b1, b1, b1, b1, b1, b1, b1, b1, b1, b1, b1, b1, b1, b1, b1, b1, b1, b1, b1, b1, b1, b1, b1, b1, b1, b1, b1, b1, b1, b1, b1, b1, b1, b1, b1, b1, b1, b1, b0, b0, b0, b0, b0, b0, b0, b0, b0, b0, b0, b0, b0, b0, b0, b0, b0, b0, b0, b0, b0, b0, b0, b0, b0, b0, b0, b0, b0, b0, b0, b0, b0, b0, b0, b0, b0, b0, b0, b0, b0, b0, b0, b0, b0, b0, b0, b0, b0, b0, b0, b0, b0, b0, b0, b0, b0, b0, b0, b0, b0] rfl rfl (take_ofW HT_.out HW_.out (by kernel_rfl)) (fun _ _ _ h => h) (Or.inl ⟨by rfl, ?_⟩) hHeld ?_ ?_
        rotate_left
        · rintro w' ⟨s0, s1, s2, s3, s4, s5, s6, s7, s8, s9, s10, s11, s12, s13, s14, s15⟩
          go_simp
          with_reducible rfl
        rotate_left
        · simp only [Act.put, List.setIfInBounds_toArray, List.set_cons_zero, List.set_cons_succ, i64_w, i32_w]
          rfl
        refine one_ (i := 42) (N := some 85) #[b1, b1, b1, b1, b1, b1, b1, b1, b1, b1, b1, b1, b1, b1, b1, b1, b1, b1, b1, b1, b1, b1, b1, b1, b1, b1, b1, b1, b1, b1, b1, b1, b1, b1, b1, b1, b1, b1, b1, b1, b1, b1, b1, b0, b0, b0, b0, b0, b0, b0, b0, b0, b0, b0, b0, b0, b0, b0, b0, b0, b0, b0, b0, b0, b0, b0, b0, b0, b0, b0, b0, b0, b0, b0, b0, b0, b0, b0, b0, b0, b0, b0, b0, b0, b0, b0, b0, b0, b0, b0, b0, b0, b0, b0, b0, b0, b0, b0, b0, b0, b0, b0, b0] rfl rfl (one_of HT_.out (by kernel_rfl)) (by decide) (fun K hK => ?_)
        refine goes_ Tryz.func8 (by kernel_rfl) rfl #[.agg #[.int .i64 t199, .int .i64 t200, .string t201, .complex .f64 t202.1 t202.2]] (by rfl) rfl rfl (by (try simp only [List.map_toArray, List.map_cons, List.map_nil]); first | done | rfl | (simp only [List.length_drop, List.length_take]; rfl)) ?_
        with_reducible refine (val_Text.calls k t199 t200 t201 t202 t253 _ A19.out (Glob.below HG_.out (by repeat (first | (with_reducible first | exact HB.out | apply below_alloc | apply pw_below_drewN | apply below_drew1 | refine below_set ?_ GE204.out | refine below_set ?_ GE210.out | refine below_set ?_ GE216.out | refine below_set ?_ GE222.out | refine below_set ?_ GE228.out | refine below_set ?_ GE234.out | refine below_set ?_ GE240.out) | exact HB.out)))).mono ?_
        rintro e w96 ⟨rfl, hb⟩
        refine ⟨_, rfl, ?_⟩
        have n0_ := Aside0.mk (blk_below (g := gb204) (o := .cells #[.int .i64 t199, .int .i64 t200, .string t201, .complex .f64 t202.1 t202.2] 25 (0, 0)) BK204.out hb)
        have n1_ := Aside0.mk (blk_below (g := gb210) (o := .cells #[.int .i64 t205, .int .i64 t206, .string t207, .complex .f64 t208.1 t208.2] 25 (0, 0)) BK210.out hb)
        have n2_ := Aside0.mk (blk_below (g := gb216) (o := .cells #[.int .i64 t211, .int .i64 t212, .string t213, .complex .f64 t214.1 t214.2] 25 (0, 0)) BK216.out hb)
        have n3_ := Aside0.mk (blk_below (g := gb222) (o := .cells #[.int .i64 t217, .int .i64 t218, .string t219, .complex .f64 t220.1 t220.2] 25 (0, 0)) BK222.out hb)
        have n4_ := Aside0.mk (blk_below (g := gb228) (o := .cells #[.int .i64 t223, .int .i64 t224, .string t225, .complex .f64 t226.1 t226.2] 25 (0, 0)) BK228.out hb)
        have n5_ := Aside0.mk (blk_below (g := gb234) (o := .cells #[.int .i64 t229, .int .i64 t230, .string t231, .complex .f64 t232.1 t232.2] 25 (0, 0)) BK234.out hb)
        have n6_ := Aside0.mk (blk_below (g := gb240) (o := .cells #[.int .i64 t235, .int .i64 t236, .string t237, .complex .f64 t238.1 t238.2] 25 (0, 0)) BK240.out hb)
        have n7_ := Aside0.mk (below_step HB.out hb)
        clear BK204
        clear BK210
        clear BK216
        clear BK222
        clear BK228
        clear BK234
        clear BK240
        clear HB
        have BK204 := n0_
        have BK210 := n1_
        have BK216 := n2_
        have BK222 := n3_
        have BK228 := n4_
        have BK234 := n5_
        have BK240 := n6_
        have HB := n7_
        clear n0_ n1_ n2_ n3_ n4_ n5_ n6_ n7_
        (try clear hb)
        (try clear hb2)
        (try clear hk)
        (try clear hi)
        refine hK.out _ _ ⟨(blk_cell BK204.out 0).trans rfl, (blk_cell BK204.out 1).trans rfl, (blk_cell BK204.out 2).trans rfl, (blk_cell BK204.out 3).trans rfl, (blk_cell BK210.out 0).trans rfl, (blk_cell BK210.out 1).trans rfl, (blk_cell BK210.out 2).trans rfl, (blk_cell BK210.out 3).trans rfl, (blk_cell BK216.out 0).trans rfl, (blk_cell BK216.out 1).trans rfl, (blk_cell BK216.out 2).trans rfl, (blk_cell BK216.out 3).trans rfl, (blk_cell BK222.out 0).trans rfl, (blk_cell BK222.out 1).trans rfl, (blk_cell BK222.out 2).trans rfl, (blk_cell BK222.out 3).trans rfl⟩ (fun hHeld => ?_)
        clear hK K
        refine norm_ (a' := ?_) ?_ ?_
        rotate_left
        · show Act.put _ (some 85) _ = _
          simp only [Act.put, List.setIfInBounds_toArray, List.set_cons_zero, List.set_cons_succ, i64_w, i32_w]
          rfl
        refine pure_ (i := 43) (N := some 86) (v := ?_) (a' := ?_) #[b1, b1, b1, b1, b1, b1, b1, b1, b1, b1, b1, b1, b1, b1, b1, b1, b1, b1, b1, b1, b1, b1, b1, b1, b1, b1, b1, b1, b1, b1, b1, b1, b1, b1, b1, b1, b1, b1, b1, b1, b1, b1, b1, b1, b0, b0, b0, b0, b0, b0, b0, b0, b0, b0, b0, b0, b0, b0, b0, b0, b0, b0, b0, b0, b0, b0, b0, b0, b0, b0, b0, b0, b0, b0, b0, b0, b0, b0, b0, b0, b0, b0, b0, b0, b0, b0, b0, b0, b0, b0, b0, b0, b0, b0, b0, b0, b0, b0, b0, b0, b0, b0, b0] rfl rfl (any_of HT_.out (by kernel_rfl)) (fun _ _ _ h => h) (Or.inl ⟨by rfl, ?_⟩) ?_ ?_
        rotate_left
        · intro w'
          go_simp
          with_reducible rfl
        rotate_left
        · simp only [Act.put, List.setIfInBounds_toArray, List.set_cons_zero, List.set_cons_succ, i64_w, i32_w]
          rfl
        refine pure_ (i := 44) (N := some 87) (v := ?_) (a' := ?_) #[b1, b1, b1, b1, b1, b1, b1, b1, b1, b1, b1, b1, b1, b1, b1, b1, b1, b1, b1, b1, b1, b1, b1, b1, b1, b1, b1, b1, b1, b1, b1, b1, b1, b1, b1, b1, b1, b1, b1, b1, b1, b1, b1, b1, b1, b0, b0, b0, b0, b0, b0, b0, b0, b0, b0, b0, b0, b0, b0, b0, b0, b0, b0, b0, b0, b0, b0, b0, b0, b0, b0, b0, b0, b0, b0, b0, b0, b0, b0, b0, b0, b0, b0, b0, b0, b0, b0, b0, b0, b0, b0, b0, b0, b0, b0, b0, b0, b0, b0, b0, b0, b0, b0] rfl rfl (any_of HT_.out (by kernel_rfl)) (fun _ _ _ h => h) (Or.inl ⟨by rfl, ?_⟩) ?_ ?_
        rotate_left
        · intro w'
          go_simp
          with_reducible rfl
        rotate_left
        · simp only [Act.put, List.setIfInBounds_toArray, List.set_cons_zero, List.set_cons_succ, i64_w, i32_w]
          rfl
        refine pure_ (i := 45) (N := some 88) (v := ?_) (a' := ?_) #[b1, b1, b1, b1, b1, b1, b1, b1, b1, b1, b1, b1, b1, b1, b1, b1, b1, b1, b1, b1, b1, b1, b1, b1, b1, b1, b1, b1, b1, b1, b1, b1, b1, b1, b1, b1, b1, b1, b1, b1, b1, b1, b1, b1, b1, b1, b0, b0, b0, b0, b0, b0, b0, b0, b0, b0, b0, b0, b0, b0, b0, b0, b0, b0, b0, b0, b0, b0, b0, b0, b0, b0, b0, b0, b0, b0, b0, b0, b0, b0, b0, b0, b0, b0, b0, b0, b0, b0, b0, b0, b0, b0, b0, b0, b0, b0, b0, b0, b0, b0, b0, b0, b0] rfl rfl (any_of HT_.out (by kernel_rfl)) (fun _ _ _ h => h) (Or.inl ⟨by rfl, ?_⟩) ?_ ?_
        rotate_left
        · intro w'
          go_simp
          with_reducible rfl
        rotate_left
        · simp only [Act.put, List.setIfInBounds_toArray, List.set_cons_zero, List.set_cons_succ, i64_w, i32_w]
          rfl
        refine take_ (i := 46) (N := some 89) (v := ?_) (a' := ?_) #[b1, b1, b1, b1, b1, b1, b1, b1, b1, b1, b1, b1, b1, b1, b1, b1, b1, b1, b1, b1, b1, b1, b1, b1, b1, b1, b1, b1, b1, b1, b1, b1, b1, b1, b1, b1, b1, b1, b1, b1, b1, b1, b1, b1, b1, b1, b1, b0, b0, b0, b0, b0, b0, b0, b0, b0, b0, b0, b0, b0, b0, b0, b0, b0, b0, b0, b0, b0, b0, b0, b0, b0, b0, b0, b0, b0, b0, b0, b0, b0, b0, b0, b0, b0, b0, b0, b0, b0, b0, b0, b0, b0, b0, b0, b0, b0, b0, b0, b0, b0, b0, b0, b0] rfl rfl (take_ofW HT_.out HW_.out (by kernel_rfl)) (fun _ _ _ h => h) (Or.inl ⟨by rfl, ?_⟩) hHeld ?_ ?_
        rotate_left
        · rintro w' ⟨s0, s1, s2, s3, s4, s5, s6, s7, s8, s9, s10, s11, s12, s13, s14, s15⟩
          go_simp
          with_reducible rfl
        rotate_left
        · simp only [Act.put, List.setIfInBounds_toArray, List.set_cons_zero, List.set_cons_succ, i64_w, i32_w]
          rfl
        refine one_ (i := 47) (N := some 90) #[b1, b1, b1, b1, b1, b1, b1, b1, b1, b1, b1, b1, b1, b1, b1, b1, b1, b1, b1, b1, b1, b1, b1, b1, b1, b1, b1, b1, b1, b1, b1, b1, b1, b1, b1, b1, b1, b1, b1, b1, b1, b1, b1, b1, b1, b1, b1, b1, b0, b0, b0, b0, b0, b0, b0, b0, b0, b0, b0, b0, b0, b0, b0, b0, b0, b0, b0, b0, b0, b0, b0, b0, b0, b0, b0, b0, b0, b0, b0, b0, b0, b0, b0, b0, b0, b0, b0, b0, b0, b0, b0, b0, b0, b0, b0, b0, b0, b0, b0, b0, b0, b0, b0] rfl rfl (one_of HT_.out (by kernel_rfl)) (by decide) (fun K hK => ?_)
        refine goes_ Tryz.func8 (by kernel_rfl) rfl #[.agg #[.int .i64 t211, .int .i64 t212, .string t213, .complex .f64 t214.1 t214.2]] (by rfl) rfl rfl (by (try simp only [List.map_toArray, List.map_cons, List.map_nil]); first | done | rfl | (simp only [List.length_drop, List.length_take]; rfl)) ?_
        with_reducible refine (val_Text.calls k t211 t212 t213 t214 t254 _ A21.out (Glob.below HG_.out (by repeat (first | (with_reducible first | exact HB.out | apply below_alloc | apply pw_below_drewN | apply below_drew1 | refine below_set ?_ GE204.out | refine below_set ?_ GE210.out | refine below_set ?_ GE216.out | refine below_set ?_ GE222.out | refine below_set ?_ GE228.out | refine below_set ?_ GE234.out | refine below_set ?_ GE240.out) | exact HB.out)))).mono ?_
        rintro e w97 ⟨rfl, hb⟩
        refine ⟨_, rfl, ?_⟩
        have n0_ := Aside0.mk (blk_below (g := gb204) (o := .cells #[.int .i64 t199, .int .i64 t200, .string t201, .complex .f64 t202.1 t202.2] 25 (0, 0)) BK204.out hb)
        have n1_ := Aside0.mk (blk_below (g := gb210) (o := .cells #[.int .i64 t205, .int .i64 t206, .string t207, .complex .f64 t208.1 t208.2] 25 (0, 0)) BK210.out hb)
        have n2_ := Aside0.mk (blk_below (g := gb216) (o := .cells #[.int .i64 t211, .int .i64 t212, .string t213, .complex .f64 t214.1 t214.2] 25 (0, 0)) BK216.out hb)
        have n3_ := Aside0.mk (blk_below (g := gb222) (o := .cells #[.int .i64 t217, .int .i64 t218, .string t219, .complex .f64 t220.1 t220.2] 25 (0, 0)) BK222.out hb)
        have n4_ := Aside0.mk (blk_below (g := gb228) (o := .cells #[.int .i64 t223, .int .i64 t224, .string t225, .complex .f64 t226.1 t226.2] 25 (0, 0)) BK228.out hb)
        have n5_ := Aside0.mk (blk_below (g := gb234) (o := .cells #[.int .i64 t229, .int .i64 t230, .string t231, .complex .f64 t232.1 t232.2] 25 (0, 0)) BK234.out hb)
        have n6_ := Aside0.mk (blk_below (g := gb240) (o := .cells #[.int .i64 t235, .int .i64 t236, .string t237, .complex .f64 t238.1 t238.2] 25 (0, 0)) BK240.out hb)
        have n7_ := Aside0.mk (below_step HB.out hb)
        clear BK204
        clear BK210
        clear BK216
        clear BK222
        clear BK228
        clear BK234
        clear BK240
        clear HB
        have BK204 := n0_
        have BK210 := n1_
        have BK216 := n2_
        have BK222 := n3_
        have BK228 := n4_
        have BK234 := n5_
        have BK240 := n6_
        have HB := n7_
        clear n0_ n1_ n2_ n3_ n4_ n5_ n6_ n7_
        (try clear hb)
        (try clear hb2)
        (try clear hk)
        (try clear hi)
        refine hK.out _ _ ⟨(blk_cell BK204.out 0).trans rfl, (blk_cell BK204.out 1).trans rfl, (blk_cell BK204.out 2).trans rfl, (blk_cell BK204.out 3).trans rfl, (blk_cell BK210.out 0).trans rfl, (blk_cell BK210.out 1).trans rfl, (blk_cell BK210.out 2).trans rfl, (blk_cell BK210.out 3).trans rfl, (blk_cell BK216.out 0).trans rfl, (blk_cell BK216.out 1).trans rfl, (blk_cell BK216.out 2).trans rfl, (blk_cell BK216.out 3).trans rfl, (blk_cell BK222.out 0).trans rfl, (blk_cell BK222.out 1).trans rfl, (blk_cell BK222.out 2).trans rfl, (blk_cell BK222.out 3).trans rfl⟩ (fun hHeld => ?_)
        clear hK K
        refine norm_ (a' := ?_) ?_ ?_
        rotate_left
        · show Act.put _ (some 90) _ = _
          simp only [Act.put, List.setIfInBounds_toArray, List.set_cons_zero, List.set_cons_succ, i64_w, i32_w]
          rfl
        refine pure_ (i := 48) (N := some 91) (v := ?_) (a' := ?_) #[b1, b1, b1, b1, b1, b1, b1, b1, b1, b1, b1, b1, b1, b1, b1, b1, b1, b1, b1, b1, b1, b1, b1, b1, b1, b1, b1, b1, b1, b1, b1, b1, b1, b1, b1, b1, b1, b1, b1, b1, b1, b1, b1, b1, b1, b1, b1, b1, b1, b0, b0, b0, b0, b0, b0, b0, b0, b0, b0, b0, b0, b0, b0, b0, b0, b0, b0, b0, b0, b0, b0, b0, b0, b0, b0, b0, b0, b0, b0, b0, b0, b0, b0, b0, b0, b0, b0, b0, b0, b0, b0, b0, b0, b0, b0, b0, b0, b0, b0, b0, b0, b0, b0] rfl rfl (any_of HT_.out (by kernel_rfl)) (fun _ _ _ h => h) (Or.inl ⟨by rfl, ?_⟩) ?_ ?_
        rotate_left
        · intro w'
          go_simp
          with_reducible rfl
        rotate_left
        · simp only [Act.put, List.setIfInBounds_toArray, List.set_cons_zero, List.set_cons_succ, i64_w, i32_w]
          rfl
        refine pure_ (i := 49) (N := some 92) (v := ?_) (a' := ?_) #[b1, b1, b1, b1, b1, b1, b1, b1, b1, b1, b1, b1, b1, b1, b1, b1, b1, b1, b1, b1, b1, b1, b1, b1, b1, b1, b1, b1, b1, b1, b1, b1, b1, b1, b1, b1, b1, b1, b1, b1, b1, b1, b1, b1, b1, b1, b1, b1, b1, b1, b0, b0, b0, b0, b0, b0, b0, b0, b0, b0, b0, b0, b0, b0, b0, b0, b0, b0, b0, b0, b0, b0, b0, b0, b0, b0, b0, b0, b0, b0, b0, b0, b0, b0, b0, b0, b0, b0, b0, b0, b0, b0, b0, b0, b0, b0, b0, b0, b0, b0, b0, b0, b0] rfl rfl (any_of HT_.out (by kernel_rfl)) (fun _ _ _ h => h) (Or.inl ⟨by rfl, ?_⟩) ?_ ?_
        rotate_left
        · intro w'
          go_simp
          with_reducible rfl
        rotate_left
        · simp only [Act.put, List.setIfInBounds_toArray, List.set_cons_zero, List.set_cons_succ, i64_w, i32_w]
          rfl
        refine pure_ (i := 50) (N := some 93) (v := ?_) (a' := ?_) #[b1, b1, b1, b1, b1, b1, b1, b1, b1, b1, b1, b1, b1, b1, b1, b1, b1, b1, b1, b1, b1, b1, b1, b1, b1, b1, b1, b1, b1, b1, b1, b1, b1, b1, b1, b1, b1, b1, b1, b1, b1, b1, b1, b1, b1, b1, b1, b1, b1, b1, b1, b0, b0, b0, b0, b0, b0, b0, b0, b0, b0, b0, b0, b0, b0, b0, b0, b0, b0, b0, b0, b0, b0, b0, b0, b0, b0, b0, b0, b0, b0, b0, b0, b0, b0, b0, b0, b0, b0, b0, b0, b0, b0, b0, b0, b0, b0, b0, b0, b0, b0, b0, b0] rfl rfl (any_of HT_.out (by kernel_rfl)) (fun _ _ _ h => h) (Or.inl ⟨by rfl, ?_⟩) ?_ ?_
        rotate_left
        · intro w'
          go_simp
          with_reducible rfl
        rotate_left
        · simp only [Act.put, List.setIfInBounds_toArray, List.set_cons_zero, List.set_cons_succ, i64_w, i32_w]
          rfl
        refine take_ (i := 51) (N := some 94) (v := ?_) (a' := ?_) #[b1, b1, b1, b1, b1, b1, b1, b1, b1, b1, b1, b1, b1, b1, b1, b1, b1, b1, b1, b1, b1, b1, b1, b1, b1, b1, b1, b1, b1, b1, b1, b1, b1, b1, b1, b1, b1, b1, b1, b1, b1, b1, b1, b1, b1, b1, b1, b1, b1, b1, b1, b1, b0, b0, b0, b0, b0, b0, b0, b0, b0, b0, b0, b0, b0, b0, b0, b0, b0, b0, b0, b0, b0, b0, b0, b0, b0, b0, b0, b0, b0, b0, b0, b0, b0, b0, b0, b0, b0, b0, b0, b0, b0, b0, b0, b0, b0, b0, b0, b0, b0, b0, b0] rfl rfl (take_ofW HT_.out HW_.out (by kernel_rfl)) (fun _ _ _ h => h) (Or.inl ⟨by rfl, ?_⟩) hHeld ?_ ?_
        rotate_left
        · rintro w' ⟨s0, s1, s2, s3, s4, s5, s6, s7, s8, s9, s10, s11, s12, s13, s14, s15⟩
          go_simp
          with_reducible rfl
        rotate_left
        · simp only [Act.put, List.setIfInBounds_toArray, List.set_cons_zero, List.set_cons_succ, i64_w, i32_w]
          rfl
        refine one_ (i := 52) (N := some 95) #[b1, b1, b1, b1, b1, b1, b1, b1, b1, b1, b1, b1, b1, b1, b1, b1, b1, b1, b1, b1, b1, b1, b1, b1, b1, b1, b1, b1, b1, b1, b1, b1, b1, b1, b1, b1, b1, b1, b1, b1, b1, b1, b1, b1, b1, b1, b1, b1, b1, b1, b1, b1, b1, b0, b0, b0, b0, b0, b0, b0, b0, b0, b0, b0, b0, b0, b0, b0, b0, b0, b0, b0, b0, b0, b0, b0, b0, b0, b0, b0, b0, b0, b0, b0, b0, b0, b0, b0, b0, b0, b0, b0, b0, b0, b0, b0, b0, b0, b0, b0, b0, b0, b0] rfl rfl (one_of HT_.out (by kernel_rfl)) (by decide) (fun K hK => ?_)
        refine goes_ Tryz.func8 (by kernel_rfl) rfl #[.agg #[.int .i64 t217, .int .i64 t218, .string t219, .complex .f64 t220.1 t220.2]] (by rfl) rfl rfl (by (try simp only [List.map_toArray, List.map_cons, List.map_nil]); first | done | rfl | (simp only [List.length_drop, List.length_take]; rfl)) ?_
        with_reducible refine (val_Text.calls k t217 t218 t219 t220 t255 _ A23.out (Glob.below HG_.out (by repeat (first | (with_reducible first | exact HB.out | apply below_alloc | apply pw_below_drewN | apply below_drew1 | refine below_set ?_ GE204.out | refine below_set ?_ GE210.out | refine below_set ?_ GE216.out | refine below_set ?_ GE222.out | refine below_set ?_ GE228.out | refine below_set ?_ GE234.out | refine below_set ?_ GE240.out) | exact HB.out)))).mono ?_
        rintro e w98 ⟨rfl, hb⟩
        refine ⟨_, rfl, ?_⟩
        have n0_ := Aside0.mk (blk_below (g := gb204) (o := .cells #[.int .i64 t199, .int .i64 t200, .string t201, .complex .f64 t202.1 t202.2] 25 (0, 0)) BK204.out hb)
        have n1_ := Aside0.mk (blk_below (g := gb210) (o := .cells #[.int .i64 t205, .int .i64 t206, .string t207, .complex .f64 t208.1 t208.2] 25 (0, 0)) BK210.out hb)
        have n2_ := Aside0.mk (blk_below (g := gb216) (o := .cells #[.int .i64 t211, .int .i64 t212, .string t213, .complex .f64 t214.1 t214.2] 25 (0, 0)) BK216.out hb)
        have n3_ := Aside0.mk (blk_below (g := gb222) (o := .cells #[.int .i64 t217, .int .i64 t218, .string t219, .complex .f64 t220.1 t220.2] 25 (0, 0)) BK222.out hb)
        have n4_ := Aside0.mk (blk_below (g := gb228) (o := .cells #[.int .i64 t223, .int .i64 t224, .string t225, .complex .f64 t226.1 t226.2] 25 (0, 0)) BK228.out hb)
        have n5_ := Aside0.mk (blk_below (g := gb234) (o := .cells #[.int .i64 t229, .int .i64 t230, .string t231, .complex .f64 t232.1 t232.2] 25 (0, 0)) BK234.out hb)
        have n6_ := Aside0.mk (blk_below (g := gb240) (o := .cells #[.int .i64 t235, .int .i64 t236, .string t237, .complex .f64 t238.1 t238.2] 25 (0, 0)) BK240.out hb)
        have n7_ := Aside0.mk (below_step HB.out hb)
        clear BK204
        clear BK210
        clear BK216
        clear BK222
        clear BK228
        clear BK234
        clear BK240
        clear HB
        have BK204 := n0_
        have BK210 := n1_
        have BK216 := n2_
        have BK222 := n3_
        have BK228 := n4_
        have BK234 := n5_
        have BK240 := n6_
        have HB := n7_
        clear n0_ n1_ n2_ n3_ n4_ n5_ n6_ n7_
        (try clear hb)
        (try clear hb2)
        (try clear hk)
        (try clear hi)
        refine hK.out _ _ ⟨(blk_cell BK204.out 0).trans rfl, (blk_cell BK204.out 1).trans rfl, (blk_cell BK204.out 2).trans rfl, (blk_cell BK204.out 3).trans rfl, (blk_cell BK210.out 0).trans rfl, (blk_cell BK210.out 1).trans rfl, (blk_cell BK210.out 2).trans rfl, (blk_cell BK210.out 3).trans rfl, (blk_cell BK216.out 0).trans rfl, (blk_cell BK216.out 1).trans rfl, (blk_cell BK216.out 2).trans rfl, (blk_cell BK216.out 3).trans rfl, (blk_cell BK222.out 0).trans rfl, (blk_cell BK222.out 1).trans rfl, (blk_cell BK222.out 2).trans rfl, (blk_cell BK222.out 3).trans rfl⟩ (fun hHeld => ?_)
        clear hK K
        refine norm_ (a' := ?_) ?_ ?_
        rotate_left
        · show Act.put _ (some 95) _ = _
          simp only [Act.put, List.setIfInBounds_toArray, List.set_cons_zero, List.set_cons_succ, i64_w, i32_w]
          rfl
        refine pure_ (i := 53) (N := some 96) (v := ?_) (a' := ?_) #[b1, b1, b1, b1, b1, b1, b1, b1, b1, b1, b1, b1, b1, b1, b1, b1, b1, b1, b1, b1, b1, b1, b1, b1, b1, b1, b1, b1, b1, b1, b1, b1, b1, b1, b1, b1, b1, b1, b1, b1, b1, b1, b1, b1, b1, b1, b1, b1, b1, b1, b1, b1, b1, b1, b0, b0, b0, b0, b0, b0, b0, b0, b0, b0, b0, b0, b0, b0, b0, b0, b0, b0, b0, b0, b0, b0, b0, b0, b0, b0, b0, b0, b0, b0, b0, b0, b0, b0, b0, b0, b0, b0, b0, b0, b0, b0, b0, b0, b0, b0, b0, b0, b0] rfl rfl (any_of HT_.out (by kernel_rfl)) (fun _ _ _ h => h) (Or.inl ⟨by rfl, ?_⟩) ?_ ?_
        rotate_left
        · intro w'
          go_simp
          with_reducible rfl
        rotate_left
        · simp only [Act.put, List.setIfInBounds_toArray, List.set_cons_zero, List.set_cons_succ, i64_w, i32_w]
          rfl
        refine pure_ (i := 54) (N := some 97) (v := ?_) (a' := ?_) #[b1, b1, b1, b1, b1, b1, b1, b1, b1, b1, b1, b1, b1, b1, b1, b1, b1, b1, b1, b1, b1, b1, b1, b1, b1, b1, b1, b1, b1, b1, b1, b1, b1, b1, b1, b1, b1, b1, b1, b1, b1, b1, b1, b1, b1, b1, b1, b1, b1, b1, b1, b1, b1, b1, b1, b0, b0, b0, b0, b0, b0, b0, b0, b0, b0, b0, b0, b0, b0, b0, b0, b0, b0, b0, b0, b0, b0, b0, b0, b0, b0, b0, b0, b0, b0, b0, b0, b0, b0, b0, b0, b0, b0, b0, b0, b0, b0, b0, b0, b0, b0, b0, b0] rfl rfl (any_of HT_.out (by kernel_rfl)) (fun _ _ _ h => h) (Or.inl ⟨by rfl, ?_⟩) ?_ ?_
        rotate_left
        · intro w'
          go_simp
          with_reducible rfl
        rotate_left
        · simp only [Act.put, List.setIfInBounds_toArray, List.set_cons_zero, List.set_cons_succ, i64_w, i32_w]
          rfl
        refine pure_ (i := 55) (N := some 98) (v := ?_) (a' := ?_) #[b1, b1, b1, b1, b1, b1, b1, b1, b1, b1, b1, b1, b1, b1, b1, b1, b1, b1, b1, b1, b1, b1, b1, b1, b1, b1, b1, b1, b1, b1, b1, b1, b1, b1, b1, b1, b1, b1, b1, b1, b1, b1, b1, b1, b1, b1, b1, b1, b1, b1, b1, b1, b1, b1, b1, b1, b0, b0, b0, b0, b0, b0, b0, b0, b0, b0, b0, b0, b0, b0, b0, b0, b0, b0, b0, b0, b0, b0, b0, b0, b0, b0, b0, b0, b0, b0, b0, b0, b0, b0, b0, b0, b0, b0, b0, b0, b0, b0, b0, b0, b0, b0, b0] rfl rfl (any_of HT_.out (by kernel_rfl)) (fun _ _ _ h => h) (Or.inl ⟨by rfl, ?_⟩) ?_ ?_
        rotate_left
        · intro w'
          go_simp
          with_reducible rfl
        rotate_left
        · simp only [Act.put, List.setIfInBounds_toArray, List.set_cons_zero, List.set_cons_succ, i64_w, i32_w]
          rfl
        refine one_ (i := 56) (N := some 99) #[b1, b1, b1, b1, b1, b1, b1, b1, b1, b1, b1, b1, b1, b1, b1, b1, b1, b1, b1, b1, b1, b1, b1, b1, b1, b1, b1, b1, b1, b1, b1, b1, b1, b1, b1, b1, b1, b1, b1, b1, b1, b1, b1, b1, b1, b1, b1, b1, b1, b1, b1, b1, b1, b1, b1, b1, b1, b0, b0, b0, b0, b0, b0, b0, b0, b0, b0, b0, b0, b0, b0, b0, b0, b0, b0, b0, b0, b0, b0, b0, b0, b0, b0, b0, b0, b0, b0, b0, b0, b0, b0, b0, b0, b0, b0, b0, b0, b0, b0, b0, b0, b0, b0] rfl rfl (one_of HT_.out (by kernel_rfl)) (by decide) (fun K hK => ?_)
        refine goes_ Tryz.func11 (by kernel_rfl) rfl #[.int .i64 9] (by rfl) rfl rfl (by (try simp only [List.map_toArray, List.map_cons, List.map_nil]); first | done | rfl | (simp only [List.length_drop, List.length_take]; rfl)) ?_
        with_reducible refine (norialaw3_N.calls 9 t256 t257 t258 t259 _ A25.out).mono ?_
        rintro e w99 ⟨rfl, hb⟩
        refine ⟨_, rfl, ?_⟩
        have n0_ := Aside0.mk (blk_below (g := gb204) (o := .cells #[.int .i64 t199, .int .i64 t200, .string t201, .complex .f64 t202.1 t202.2] 25 (0, 0)) BK204.out hb)
        have n1_ := Aside0.mk (blk_below (g := gb210) (o := .cells #[.int .i64 t205, .int .i64 t206, .string t207, .complex .f64 t208.1 t208.2] 25 (0, 0)) BK210.out hb)
        have n2_ := Aside0.mk (blk_below (g := gb216) (o := .cells #[.int .i64 t211, .int .i64 t212, .string t213, .complex .f64 t214.1 t214.2] 25 (0, 0)) BK216.out hb)
        have n3_ := Aside0.mk (blk_below (g := gb222) (o := .cells #[.int .i64 t217, .int .i64 t218, .string t219, .complex .f64 t220.1 t220.2] 25 (0, 0)) BK222.out hb)
        have n4_ := Aside0.mk (blk_below (g := gb228) (o := .cells #[.int .i64 t223, .int .i64 t224, .string t225, .complex .f64 t226.1 t226.2] 25 (0, 0)) BK228.out hb)
        have n5_ := Aside0.mk (blk_below (g := gb234) (o := .cells #[.int .i64 t229, .int .i64 t230, .string t231, .complex .f64 t232.1 t232.2] 25 (0, 0)) BK234.out hb)
        have n6_ := Aside0.mk (blk_below (g := gb240) (o := .cells #[.int .i64 t235, .int .i64 t236, .string t237, .complex .f64 t238.1 t238.2] 25 (0, 0)) BK240.out hb)
        have n7_ := Aside0.mk (below_step HB.out hb)
        clear BK204
        clear BK210
        clear BK216
        clear BK222
        clear BK228
        clear BK234
        clear BK240
        clear HB
        have BK204 := n0_
        have BK210 := n1_
        have BK216 := n2_
        have BK222 := n3_
        have BK228 := n4_
        have BK234 := n5_
        have BK240 := n6_
        have HB := n7_
        clear n0_ n1_ n2_ n3_ n4_ n5_ n6_ n7_
        (try clear hb)
        (try clear hb2)
        (try clear hk)
        (try clear hi)
        refine hK.out _ _ ⟨(blk_cell BK204.out 0).trans rfl, (blk_cell BK204.out 1).trans rfl, (blk_cell BK204.out 2).trans rfl, (blk_cell BK204.out 3).trans rfl, (blk_cell BK210.out 0).trans rfl, (blk_cell BK210.out 1).trans rfl, (blk_cell BK210.out 2).trans rfl, (blk_cell BK210.out 3).trans rfl, (blk_cell BK216.out 0).trans rfl, (blk_cell BK216.out 1).trans rfl, (blk_cell BK216.out 2).trans rfl, (blk_cell BK216.out 3).trans rfl, (blk_cell BK222.out 0).trans rfl, (blk_cell BK222.out 1).trans rfl, (blk_cell BK222.out 2).trans rfl, (blk_cell BK222.out 3).trans rfl⟩ (fun hHeld => ?_)
        clear hK K
        refine norm_ (a' := ?_) ?_ ?_
        rotate_left
        · show Act.put _ (some 99) _ = _
          simp only [Act.put, List.setIfInBounds_toArray, List.set_cons_zero, List.set_cons_succ, i64_w, i32_w]
          rfl
        refine one_ (i := 57) (N := some 100) #[b1, b1, b1, b1, b1, b1, b1, b1, b1, b1, b1, b1, b1, b1, b1, b1, b1, b1, b1, b1, b1, b1, b1, b1, b1, b1, b1, b1, b1, b1, b1, b1, b1, b1, b1, b1, b1, b1, b1, b1, b1, b1, b1, b1, b1, b1, b1, b1, b1, b1, b1, b1, b1, b1, b1, b1, b1, b1, b0, b0, b0, b0, b0, b0, b0, b0, b0, b0, b0, b0, b0, b0, b0, b0, b0, b0, b0, b0, b0, b0, b0, b0, b0, b0, b0, b0, b0, b0, b0, b0, b0, b0, b0, b0, b0, b0, b0, b0, b0, b0, b0, b0, b0] rfl rfl (one_of HT_.out (by kernel_rfl)) (by decide) (fun K hK => ?_)
        refine goes_ Tryz.func10 (by kernel_rfl) rfl #[.string (⟨#[]⟩ : ByteArray)] (by rfl) rfl rfl (by (try simp only [List.map_toArray, List.map_cons, List.map_nil]); first | done | rfl | (simp only [List.length_drop, List.length_take]; rfl)) ?_
        with_reducible refine (norialaw3_S.calls (⟨#[]⟩ : ByteArray) t260 t261 t262 t263 _ A26.out).mono ?_
        rintro e w100 ⟨rfl, hb⟩
        refine ⟨_, rfl, ?_⟩
        have n0_ := Aside0.mk (blk_below (g := gb204) (o := .cells #[.int .i64 t199, .int .i64 t200, .string t201, .complex .f64 t202.1 t202.2] 25 (0, 0)) BK204.out hb)
        have n1_ := Aside0.mk (blk_below (g := gb210) (o := .cells #[.int .i64 t205, .int .i64 t206, .string t207, .complex .f64 t208.1 t208.2] 25 (0, 0)) BK210.out hb)
        have n2_ := Aside0.mk (blk_below (g := gb216) (o := .cells #[.int .i64 t211, .int .i64 t212, .string t213, .complex .f64 t214.1 t214.2] 25 (0, 0)) BK216.out hb)
        have n3_ := Aside0.mk (blk_below (g := gb222) (o := .cells #[.int .i64 t217, .int .i64 t218, .string t219, .complex .f64 t220.1 t220.2] 25 (0, 0)) BK222.out hb)
        have n4_ := Aside0.mk (blk_below (g := gb228) (o := .cells #[.int .i64 t223, .int .i64 t224, .string t225, .complex .f64 t226.1 t226.2] 25 (0, 0)) BK228.out hb)
        have n5_ := Aside0.mk (blk_below (g := gb234) (o := .cells #[.int .i64 t229, .int .i64 t230, .string t231, .complex .f64 t232.1 t232.2] 25 (0, 0)) BK234.out hb)
        have n6_ := Aside0.mk (blk_below (g := gb240) (o := .cells #[.int .i64 t235, .int .i64 t236, .string t237, .complex .f64 t238.1 t238.2] 25 (0, 0)) BK240.out hb)
        have n7_ := Aside0.mk (below_step HB.out hb)
        clear BK204
        clear BK210
        clear BK216
        clear BK222
        clear BK228
        clear BK234
        clear BK240
        clear HB
        have BK204 := n0_
        have BK210 := n1_
        have BK216 := n2_
        have BK222 := n3_
        have BK228 := n4_
        have BK234 := n5_
        have BK240 := n6_
        have HB := n7_
        clear n0_ n1_ n2_ n3_ n4_ n5_ n6_ n7_
        (try clear hb)
        (try clear hb2)
        (try clear hk)
        (try clear hi)
        refine hK.out _ _ ⟨(blk_cell BK204.out 0).trans rfl, (blk_cell BK204.out 1).trans rfl, (blk_cell BK204.out 2).trans rfl, (blk_cell BK204.out 3).trans rfl, (blk_cell BK210.out 0).trans rfl, (blk_cell BK210.out 1).trans rfl, (blk_cell BK210.out 2).trans rfl, (blk_cell BK210.out 3).trans rfl, (blk_cell BK216.out 0).trans rfl, (blk_cell BK216.out 1).trans rfl, (blk_cell BK216.out 2).trans rfl, (blk_cell BK216.out 3).trans rfl, (blk_cell BK222.out 0).trans rfl, (blk_cell BK222.out 1).trans rfl, (blk_cell BK222.out 2).trans rfl, (blk_cell BK222.out 3).trans rfl⟩ (fun hHeld => ?_)
        clear hK K
        refine norm_ (a' := ?_) ?_ ?_
        rotate_left
        · show Act.put _ (some 100) _ = _
          simp only [Act.put, List.setIfInBounds_toArray, List.set_cons_zero, List.set_cons_succ, i64_w, i32_w]
          rfl
        refine one_ (i := 58) (N := some 101) #[b1, b1, b1, b1, b1, b1, b1, b1, b1, b1, b1, b1, b1, b1, b1, b1, b1, b1, b1, b1, b1, b1, b1, b1, b1, b1, b1, b1, b1, b1, b1, b1, b1, b1, b1, b1, b1, b1, b1, b1, b1, b1, b1, b1, b1, b1, b1, b1, b1, b1, b1, b1, b1, b1, b1, b1, b1, b1, b1, b0, b0, b0, b0, b0, b0, b0, b0, b0, b0, b0, b0, b0, b0, b0, b0, b0, b0, b0, b0, b0, b0, b0, b0, b0, b0, b0, b0, b0, b0, b0, b0, b0, b0, b0, b0, b0, b0, b0, b0, b0, b0, b0, b0] rfl rfl (one_of HT_.out (by kernel_rfl)) (by decide) (fun K hK => ?_)
        refine goes_ Tryz.func13 (by kernel_rfl) rfl #[.agg #[.int .i64 t256, .int .i64 t257, .string t258, .complex .f64 t259.1 t259.2], .agg #[.int .i64 t260, .int .i64 t261, .string t262, .complex .f64 t263.1 t263.2]] (by rfl) rfl rfl (by (try simp only [List.map_toArray, List.map_cons, List.map_nil]); first | done | rfl | (simp only [List.length_drop, List.length_take]; rfl)) ?_
        with_reducible refine (val_Compare.calls k t256 t257 t258 t259 t260 t261 t262 t263 t264 _ A27.out).mono ?_
        rintro e w101 ⟨rfl, hb⟩
        refine ⟨_, rfl, ?_⟩
        have n0_ := Aside0.mk (blk_below (g := gb204) (o := .cells #[.int .i64 t199, .int .i64 t200, .string t201, .complex .f64 t202.1 t202.2] 25 (0, 0)) BK204.out hb)
        have n1_ := Aside0.mk (blk_below (g := gb210) (o := .cells #[.int .i64 t205, .int .i64 t206, .string t207, .complex .f64 t208.1 t208.2] 25 (0, 0)) BK210.out hb)
        have n2_ := Aside0.mk (blk_below (g := gb216) (o := .cells #[.int .i64 t211, .int .i64 t212, .string t213, .complex .f64 t214.1 t214.2] 25 (0, 0)) BK216.out hb)
        have n3_ := Aside0.mk (blk_below (g := gb222) (o := .cells #[.int .i64 t217, .int .i64 t218, .string t219, .complex .f64 t220.1 t220.2] 25 (0, 0)) BK222.out hb)
        have n4_ := Aside0.mk (blk_below (g := gb228) (o := .cells #[.int .i64 t223, .int .i64 t224, .string t225, .complex .f64 t226.1 t226.2] 25 (0, 0)) BK228.out hb)
        have n5_ := Aside0.mk (blk_below (g := gb234) (o := .cells #[.int .i64 t229, .int .i64 t230, .string t231, .complex .f64 t232.1 t232.2] 25 (0, 0)) BK234.out hb)
        have n6_ := Aside0.mk (blk_below (g := gb240) (o := .cells #[.int .i64 t235, .int .i64 t236, .string t237, .complex .f64 t238.1 t238.2] 25 (0, 0)) BK240.out hb)
        have n7_ := Aside0.mk (below_step HB.out hb)
        clear BK204
        clear BK210
        clear BK216
        clear BK222
        clear BK228
        clear BK234
        clear BK240
        clear HB
        have BK204 := n0_
        have BK210 := n1_
        have BK216 := n2_
        have BK222 := n3_
        have BK228 := n4_
        have BK234 := n5_
        have BK240 := n6_
        have HB := n7_
        clear n0_ n1_ n2_ n3_ n4_ n5_ n6_ n7_
        (try clear hb)
        (try clear hb2)
        (try clear hk)
        (try clear hi)
        refine hK.out _ _ ⟨(blk_cell BK204.out 0).trans rfl, (blk_cell BK204.out 1).trans rfl, (blk_cell BK204.out 2).trans rfl, (blk_cell BK204.out 3).trans rfl, (blk_cell BK210.out 0).trans rfl, (blk_cell BK210.out 1).trans rfl, (blk_cell BK210.out 2).trans rfl, (blk_cell BK210.out 3).trans rfl, (blk_cell BK216.out 0).trans rfl, (blk_cell BK216.out 1).trans rfl, (blk_cell BK216.out 2).trans rfl, (blk_cell BK216.out 3).trans rfl, (blk_cell BK222.out 0).trans rfl, (blk_cell BK222.out 1).trans rfl, (blk_cell BK222.out 2).trans rfl, (blk_cell BK222.out 3).trans rfl⟩ (fun hHeld => ?_)
        clear hK K
        refine norm_ (a' := ?_) ?_ ?_
        rotate_left
        · show Act.put _ (some 101) _ = _
          simp only [Act.put, List.setIfInBounds_toArray, List.set_cons_zero, List.set_cons_succ, i64_w, i32_w]
          rfl
        refine pure_ (i := 59) (N := some 102) (v := ?_) (a' := ?_) #[b1, b1, b1, b1, b1, b1, b1, b1, b1, b1, b1, b1, b1, b1, b1, b1, b1, b1, b1, b1, b1, b1, b1, b1, b1, b1, b1, b1, b1, b1, b1, b1, b1, b1, b1, b1, b1, b1, b1, b1, b1, b1, b1, b1, b1, b1, b1, b1, b1, b1, b1, b1, b1, b1, b1, b1, b1, b1, b1, b1, b0, b0, b0, b0, b0, b0, b0, b0, b0, b0, b0, b0, b0, b0, b0, b0, b0, b0, b0, b0, b0, b0, b0, b0, b0, b0, b0, b0, b0, b0, b0, b0, b0, b0, b0, b0, b0, b0, b0, b0, b0, b0, b0] rfl rfl (any_of HT_.out (by kernel_rfl)) (fun _ _ _ h => h) (Or.inl ⟨by rfl, ?_⟩) ?_ ?_
        rotate_left
        · intro w'
          go_simp
          with_reducible rfl
        rotate_left
        · simp only [Act.put, List.setIfInBounds_toArray, List.set_cons_zero, List.set_cons_succ, i64_w, i32_w]
          rfl
        refine pure_ (i := 60) (N := some 103) (v := ?_) (a' := ?_) #[b1, b1, b1, b1, b1, b1, b1, b1, b1, b1, b1, b1, b1, b1, b1, b1, b1, b1, b1, b1, b1, b1, b1, b1, b1, b1, b1, b1, b1, b1, b1, b1, b1, b1, b1, b1, b1, b1, b1, b1, b1, b1, b1, b1, b1, b1, b1, b1, b1, b1, b1, b1, b1, b1, b1, b1, b1, b1, b1, b1, b1, b0, b0, b0, b0, b0, b0, b0, b0, b0, b0, b0, b0, b0, b0, b0, b0, b0, b0, b0, b0, b0, b0, b0, b0, b0, b0, b0, b0, b0, b0, b0, b0, b0, b0, b0, b0, b0, b0, b0, b0, b0, b0] rfl rfl (any_of HT_.out (by kernel_rfl)) (fun _ _ _ h => h) (Or.inl ⟨by rfl, ?_⟩) ?_ ?_
        rotate_left
        · intro w'
          go_simp
          with_reducible rfl
        rotate_left
        · simp only [Act.put, List.setIfInBounds_toArray, List.set_cons_zero, List.set_cons_succ, i64_w, i32_w]
          rfl
        refine pure_ (i := 61) (N := some 104) (v := ?_) (a' := ?_) #[b1, b1, b1, b1, b1, b1, b1, b1, b1, b1, b1, b1, b1, b1, b1, b1, b1, b1, b1, b1, b1, b1, b1, b1, b1, b1, b1, b1, b1, b1, b1, b1, b1, b1, b1, b1, b1, b1, b1, b1, b1, b1, b1, b1, b1, b1, b1, b1, b1, b1, b1, b1, b1, b1, b1, b1, b1, b1, b1, b1, b1, b1, b0, b0, b0, b0, b0, b0, b0, b0, b0, b0, b0, b0, b0, b0, b0, b0, b0, b0, b0, b0, b0, b0, b0, b0, b0, b0, b0, b0, b0, b0, b0, b0, b0, b0, b0, b0, b0, b0, b0, b0, b0] rfl rfl (any_of HT_.out (by kernel_rfl)) (fun _ _ _ h => h) (Or.inl ⟨by rfl, ?_⟩) ?_ ?_
        rotate_left
        · intro w'
          go_simp
          with_reducible rfl
        rotate_left
        · simp only [Act.put, List.setIfInBounds_toArray, List.set_cons_zero, List.set_cons_succ, i64_w, i32_w]
          rfl
        refine one_ (i := 62) (N := some 105) #[b1, b1, b1, b1, b1, b1, b1, b1, b1, b1, b1, b1, b1, b1, b1, b1, b1, b1, b1, b1, b1, b1, b1, b1, b1, b1, b1, b1, b1, b1, b1, b1, b1, b1, b1, b1, b1, b1, b1, b1, b1, b1, b1, b1, b1, b1, b1, b1, b1, b1, b1, b1, b1, b1, b1, b1, b1, b1, b1, b1, b1, b1, b1, b0, b0, b0, b0, b0, b0, b0, b0, b0, b0, b0, b0, b0, b0, b0, b0, b0, b0, b0, b0, b0, b0, b0, b0, b0, b0, b0, b0, b0, b0, b0, b0, b0, b0, b0, b0, b0, b0, b0, b0] rfl rfl (one_of HT_.out (by kernel_rfl)) (by decide) (fun K hK => ?_)
        refine goes_ Tryz.func12 (by kernel_rfl) rfl #[.int .i64 1, .int .i64 9] (by rfl) rfl rfl (by (try simp only [List.map_toArray, List.map_cons, List.map_nil]); first | done | rfl | (simp only [List.length_drop, List.length_take]; rfl)) ?_
        with_reducible refine (norialaw3_C.calls 1 9 t265 t266 t267 t268 _ A29.out).mono ?_
        rintro e w102 ⟨rfl, hb⟩
        refine ⟨_, rfl, ?_⟩
        have n0_ := Aside0.mk (blk_below (g := gb204) (o := .cells #[.int .i64 t199, .int .i64 t200, .string t201, .complex .f64 t202.1 t202.2] 25 (0, 0)) BK204.out hb)
        have n1_ := Aside0.mk (blk_below (g := gb210) (o := .cells #[.int .i64 t205, .int .i64 t206, .string t207, .complex .f64 t208.1 t208.2] 25 (0, 0)) BK210.out hb)
        have n2_ := Aside0.mk (blk_below (g := gb216) (o := .cells #[.int .i64 t211, .int .i64 t212, .string t213, .complex .f64 t214.1 t214.2] 25 (0, 0)) BK216.out hb)
        have n3_ := Aside0.mk (blk_below (g := gb222) (o := .cells #[.int .i64 t217, .int .i64 t218, .string t219, .complex .f64 t220.1 t220.2] 25 (0, 0)) BK222.out hb)
        have n4_ := Aside0.mk (blk_below (g := gb228) (o := .cells #[.int .i64 t223, .int .i64 t224, .string t225, .complex .f64 t226.1 t226.2] 25 (0, 0)) BK228.out hb)
        have n5_ := Aside0.mk (blk_below (g := gb234) (o := .cells #[.int .i64 t229, .int .i64 t230, .string t231, .complex .f64 t232.1 t232.2] 25 (0, 0)) BK234.out hb)
        have n6_ := Aside0.mk (blk_below (g := gb240) (o := .cells #[.int .i64 t235, .int .i64 t236, .string t237, .complex .f64 t238.1 t238.2] 25 (0, 0)) BK240.out hb)
        have n7_ := Aside0.mk (below_step HB.out hb)
        clear BK204
        clear BK210
        clear BK216
        clear BK222
        clear BK228
        clear BK234
        clear BK240
        clear HB
        have BK204 := n0_
        have BK210 := n1_
        have BK216 := n2_
        have BK222 := n3_
        have BK228 := n4_
        have BK234 := n5_
        have BK240 := n6_
        have HB := n7_
        clear n0_ n1_ n2_ n3_ n4_ n5_ n6_ n7_
        (try clear hb)
        (try clear hb2)
        (try clear hk)
        (try clear hi)
        refine hK.out _ _ ⟨(blk_cell BK204.out 0).trans rfl, (blk_cell BK204.out 1).trans rfl, (blk_cell BK204.out 2).trans rfl, (blk_cell BK204.out 3).trans rfl, (blk_cell BK210.out 0).trans rfl, (blk_cell BK210.out 1).trans rfl, (blk_cell BK210.out 2).trans rfl, (blk_cell BK210.out 3).trans rfl, (blk_cell BK216.out 0).trans rfl, (blk_cell BK216.out 1).trans rfl, (blk_cell BK216.out 2).trans rfl, (blk_cell BK216.out 3).trans rfl, (blk_cell BK222.out 0).trans rfl, (blk_cell BK222.out 1).trans rfl, (blk_cell BK222.out 2).trans rfl, (blk_cell BK222.out 3).trans rfl⟩ (fun hHeld => ?_)
        clear hK K
        refine norm_ (a' := ?_) ?_ ?_
        rotate_left
        · show Act.put _ (some 105) _ = _
          simp only [Act.put, List.setIfInBounds_toArray, List.set_cons_zero, List.set_cons_succ, i64_w, i32_w]
          rfl
        refine one_ (i := 63) (N := some 106) #[b1, b1, b1, b1, b1, b1, b1, b1, b1, b1, b1, b1, b1, b1, b1, b1, b1, b1, b1, b1, b1, b1, b1, b1, b1, b1, b1, b1, b1, b1, b1, b1, b1, b1, b1, b1, b1, b1, b1, b1, b1, b1, b1, b1, b1, b1, b1, b1, b1, b1, b1, b1, b1, b1, b1, b1, b1, b1, b1, b1, b1, b1, b1, b1, b0, b0, b0, b0, b0, b0, b0, b0, b0, b0, b0, b0, b0, b0, b0, b0, b0, b0, b0, b0, b0, b0, b0, b0, b0, b0, b0, b0, b0, b0, b0, b0, b0, b0, b0, b0, b0, b0, b0] rfl rfl (one_of HT_.out (by kernel_rfl)) (by decide) (fun K hK => ?_)
        refine goes_ Tryz.func12 (by kernel_rfl) rfl #[.int .i64 2, .int .i64 0] (by rfl) rfl rfl (by (try simp only [List.map_toArray, List.map_cons, List.map_nil]); first | done | rfl | (simp only [List.length_drop, List.length_take]; rfl)) ?_
        with_reducible refine (norialaw3_C.calls 2 0 t269 t270 t271 t272 _ A30.out).mono ?_
        rintro e w103 ⟨rfl, hb⟩
        refine ⟨_, rfl, ?_⟩
        have n0_ := Aside0.mk (blk_below (g := gb204) (o := .cells #[.int .i64 t199, .int .i64 t200, .string t201, .complex .f64 t202.1 t202.2] 25 (0, 0)) BK204.out hb)
        have n1_ := Aside0.mk (blk_below (g := gb210) (o := .cells #[.int .i64 t205, .int .i64 t206, .string t207, .complex .f64 t208.1 t208.2] 25 (0, 0)) BK210.out hb)
        have n2_ := Aside0.mk (blk_below (g := gb216) (o := .cells #[.int .i64 t211, .int .i64 t212, .string t213, .complex .f64 t214.1 t214.2] 25 (0, 0)) BK216.out hb)
        have n3_ := Aside0.mk (blk_below (g := gb222) (o := .cells #[.int .i64 t217, .int .i64 t218, .string t219, .complex .f64 t220.1 t220.2] 25 (0, 0)) BK222.out hb)
        have n4_ := Aside0.mk (blk_below (g := gb228) (o := .cells #[.int .i64 t223, .int .i64 t224, .string t225, .complex .f64 t226.1 t226.2] 25 (0, 0)) BK228.out hb)
        have n5_ := Aside0.mk (blk_below (g := gb234) (o := .cells #[.int .i64 t229, .int .i64 t230, .string t231, .complex .f64 t232.1 t232.2] 25 (0, 0)) BK234.out hb)
        have n6_ := Aside0.mk (blk_below (g := gb240) (o := .cells #[.int .i64 t235, .int .i64 t236, .string t237, .complex .f64 t238.1 t238.2] 25 (0, 0)) BK240.out hb)
        have n7_ := Aside0.mk (below_step HB.out hb)
        clear BK204
        clear BK210
        clear BK216
        clear BK222
        clear BK228
        clear BK234
        clear BK240
        clear HB
        have BK204 := n0_
        have BK210 := n1_
        have BK216 := n2_
        have BK222 := n3_
        have BK228 := n4_
        have BK234 := n5_
        have BK240 := n6_
        have HB := n7_
        clear n0_ n1_ n2_ n3_ n4_ n5_ n6_ n7_
        (try clear hb)
        (try clear hb2)
        (try clear hk)
        (try clear hi)
        refine hK.out _ _ ⟨(blk_cell BK204.out 0).trans rfl, (blk_cell BK204.out 1).trans rfl, (blk_cell BK204.out 2).trans rfl, (blk_cell BK204.out 3).trans rfl, (blk_cell BK210.out 0).trans rfl, (blk_cell BK210.out 1).trans rfl, (blk_cell BK210.out 2).trans rfl, (blk_cell BK210.out 3).trans rfl, (blk_cell BK216.out 0).trans rfl, (blk_cell BK216.out 1).trans rfl, (blk_cell BK216.out 2).trans rfl, (blk_cell BK216.out 3).trans rfl, (blk_cell BK222.out 0).trans rfl, (blk_cell BK222.out 1).trans rfl, (blk_cell BK222.out 2).trans rfl, (blk_cell BK222.out 3).trans rfl⟩ (fun hHeld => ?_)
        clear hK K
        refine norm_ (a' := ?_) ?_ ?_
        rotate_left
        · show Act.put _ (some 106) _ = _
          simp only [Act.put, List.setIfInBounds_toArray, List.set_cons_zero, List.set_cons_succ, i64_w, i32_w]
          rfl
        refine one_ (i := 64) (N := some 107) #[b1, b1, b1, b1, b1, b1, b1, b1, b1, b1, b1, b1, b1, b1, b1, b1, b1, b1, b1, b1, b1, b1, b1, b1, b1, b1, b1, b1, b1, b1, b1, b1, b1, b1, b1, b1, b1, b1, b1, b1, b1, b1, b1, b1, b1, b1, b1, b1, b1, b1, b1, b1, b1, b1, b1, b1, b1, b1, b1, b1, b1, b1, b1, b1, b1, b0, b0, b0, b0, b0, b0, b0, b0, b0, b0, b0, b0, b0, b0, b0, b0, b0, b0, b0, b0, b0, b0, b0, b0, b0, b0, b0, b0, b0, b0, b0, b0, b0, b0, b0, b0, b0, b0] rfl rfl (one_of HT_.out (by kernel_rfl)) (by decide) (fun K hK => ?_)
        refine goes_ Tryz.func13 (by kernel_rfl) rfl #[.agg #[.int .i64 t265, .int .i64 t266, .string t267, .complex .f64 t268.1 t268.2], .agg #[.int .i64 t269, .int .i64 t270, .string t271, .complex .f64 t272.1 t272.2]] (by rfl) rfl rfl (by (try simp only [List.map_toArray, List.map_cons, List.map_nil]); first | done | rfl | (simp only [List.length_drop, List.length_take]; rfl)) ?_
        with_reducible refine (val_Compare.calls k t265 t266 t267 t268 t269 t270 t271 t272 t273 _ A31.out).mono ?_
        rintro e w104 ⟨rfl, hb⟩
        refine ⟨_, rfl, ?_⟩
        have n0_ := Aside0.mk (blk_below (g := gb204) (o := .cells #[.int .i64 t199, .int .i64 t200, .string t201, .complex .f64 t202.1 t202.2] 25 (0, 0)) BK204.out hb)
        have n1_ := Aside0.mk (blk_below (g := gb210) (o := .cells #[.int .i64 t205, .int .i64 t206, .string t207, .complex .f64 t208.1 t208.2] 25 (0, 0)) BK210.out hb)
        have n2_ := Aside0.mk (blk_below (g := gb216) (o := .cells #[.int .i64 t211, .int .i64 t212, .string t213, .complex .f64 t214.1 t214.2] 25 (0, 0)) BK216.out hb)
        have n3_ := Aside0.mk (blk_below (g := gb222) (o := .cells #[.int .i64 t217, .int .i64 t218, .string t219, .complex .f64 t220.1 t220.2] 25 (0, 0)) BK222.out hb)
        have n4_ := Aside0.mk (blk_below (g := gb228) (o := .cells #[.int .i64 t223, .int .i64 t224, .string t225, .complex .f64 t226.1 t226.2] 25 (0, 0)) BK228.out hb)
        have n5_ := Aside0.mk (blk_below (g := gb234) (o := .cells #[.int .i64 t229, .int .i64 t230, .string t231, .complex .f64 t232.1 t232.2] 25 (0, 0)) BK234.out hb)
        have n6_ := Aside0.mk (blk_below (g := gb240) (o := .cells #[.int .i64 t235, .int .i64 t236, .string t237, .complex .f64 t238.1 t238.2] 25 (0, 0)) BK240.out hb)
        have n7_ := Aside0.mk (below_step HB.out hb)
        clear BK204
        clear BK210
        clear BK216
        clear BK222
        clear BK228
        clear BK234
        clear BK240
        clear HB
        have BK204 := n0_
        have BK210 := n1_
        have BK216 := n2_
        have BK222 := n3_
        have BK228 := n4_
        have BK234 := n5_
        have BK240 := n6_
        have HB := n7_
        clear n0_ n1_ n2_ n3_ n4_ n5_ n6_ n7_
        (try clear hb)
        (try clear hb2)
        (try clear hk)
        (try clear hi)
        refine hK.out _ _ ⟨(blk_cell BK204.out 0).trans rfl, (blk_cell BK204.out 1).trans rfl, (blk_cell BK204.out 2).trans rfl, (blk_cell BK204.out 3).trans rfl, (blk_cell BK210.out 0).trans rfl, (blk_cell BK210.out 1).trans rfl, (blk_cell BK210.out 2).trans rfl, (blk_cell BK210.out 3).trans rfl, (blk_cell BK216.out 0).trans rfl, (blk_cell BK216.out 1).trans rfl, (blk_cell BK216.out 2).trans rfl, (blk_cell BK216.out 3).trans rfl, (blk_cell BK222.out 0).trans rfl, (blk_cell BK222.out 1).trans rfl, (blk_cell BK222.out 2).trans rfl, (blk_cell BK222.out 3).trans rfl⟩ (fun hHeld => ?_)
        clear hK K
        refine norm_ (a' := ?_) ?_ ?_
        rotate_left
        · show Act.put _ (some 107) _ = _
          simp only [Act.put, List.setIfInBounds_toArray, List.set_cons_zero, List.set_cons_succ, i64_w, i32_w]
          rfl
        refine pure_ (i := 65) (N := some 108) (v := ?_) (a' := ?_) #[b1, b1, b1, b1, b1, b1, b1, b1, b1, b1, b1, b1, b1, b1, b1, b1, b1, b1, b1, b1, b1, b1, b1, b1, b1, b1, b1, b1, b1, b1, b1, b1, b1, b1, b1, b1, b1, b1, b1, b1, b1, b1, b1, b1, b1, b1, b1, b1, b1, b1, b1, b1, b1, b1, b1, b1, b1, b1, b1, b1, b1, b1, b1, b1, b1, b1, b0, b0, b0, b0, b0, b0, b0, b0, b0, b0, b0, b0, b0, b0, b0, b0, b0, b0, b0, b0, b0, b0, b0, b0, b0, b0, b0, b0, b0, b0, b0, b0, b0, b0, b0, b0, b0] rfl rfl (any_of HT_.out (by kernel_rfl)) (fun _ _ _ h => h) (Or.inl ⟨by rfl, ?_⟩) ?_ ?_
        rotate_left
        · intro w'
          go_simp
          with_reducible rfl
        rotate_left
        · simp only [Act.put, List.setIfInBounds_toArray, List.set_cons_zero, List.set_cons_succ, i64_w, i32_w]
          rfl
        refine pure_ (i := 66) (N := some 109) (v := ?_) (a' := ?_) #[b1, b1, b1, b1, b1, b1, b1, b1, b1, b1, b1, b1, b1, b1, b1, b1, b1, b1, b1, b1, b1, b1, b1, b1, b1, b1, b1, b1, b1, b1, b1, b1, b1, b1, b1, b1, b1, b1, b1, b1, b1, b1, b1, b1, b1, b1, b1, b1, b1, b1, b1, b1, b1, b1, b1, b1, b1, b1, b1, b1, b1, b1, b1, b1, b1, b1, b1, b0, b0, b0, b0, b0, b0, b0, b0, b0, b0, b0, b0, b0, b0, b0, b0, b0, b0, b0, b0, b0, b0, b0, b0, b0, b0, b0, b0, b0, b0, b0, b0, b0, b0, b0, b0] rfl rfl (any_of HT_.out (by kernel_rfl)) (fun _ _ _ h => h) (Or.inl ⟨by rfl, ?_⟩) ?_ ?_
        rotate_left
        · intro w'
          go_simp
          with_reducible rfl
        rotate_left
        · simp only [Act.put, List.setIfInBounds_toArray, List.set_cons_zero, List.set_cons_succ, i64_w, i32_w]
          rfl
        refine pure_ (i := 67) (N := some 110) (v := ?_) (a' := ?_) #[b1, b1, b1, b1, b1, b1, b1, b1, b1, b1, b1, b1, b1, b1, b1, b1, b1, b1, b1, b1, b1, b1, b1, b1, b1, b1, b1, b1, b1, b1, b1, b1, b1, b1, b1, b1, b1, b1, b1, b1, b1, b1, b1, b1, b1, b1, b1, b1, b1, b1, b1, b1, b1, b1, b1, b1, b1, b1, b1, b1, b1, b1, b1, b1, b1, b1, b1, b1, b0, b0, b0, b0, b0, b0, b0, b0, b0, b0, b0, b0, b0, b0, b0, b0, b0, b0, b0, b0, b0, b0, b0, b0, b0, b0, b0, b0, b0, b0, b0, b0, b0, b0, b0] rfl rfl (any_of HT_.out (by kernel_rfl)) (fun _ _ _ h => h) (Or.inl ⟨by rfl, ?_⟩) ?_ ?_
        rotate_left
        · intro w'
          go_simp
          with_reducible rfl
        rotate_left
        · simp only [Act.put, List.setIfInBounds_toArray, List.set_cons_zero, List.set_cons_succ, i64_w, i32_w]
          rfl
        refine one_ (i := 68) (N := some 111) #[b1, b1, b1, b1, b1, b1, b1, b1, b1, b1, b1, b1, b1, b1, b1, b1, b1, b1, b1, b1, b1, b1, b1, b1, b1, b1, b1, b1, b1, b1, b1, b1, b1, b1, b1, b1, b1, b1, b1, b1, b1, b1, b1, b1, b1, b1, b1, b1, b1, b1, b1, b1, b1, b1, b1, b1, b1, b1, b1, b1, b1, b1, b1, b1, b1, b1, b1, b1, b1, b0, b0, b0, b0, b0, b0, b0, b0, b0, b0, b0, b0, b0, b0, b0, b0, b0, b0, b0, b0, b0, b0, b0, b0, b0, b0, b0, b0, b0, b0, b0, b0, b0, b0] rfl rfl (one_of HT_.out (by kernel_rfl)) (by decide) (fun K hK => ?_)
        refine goes_ Tryz.func12 (by kernel_rfl) rfl #[.int .i64 1, .int .i64 9] (by rfl) rfl rfl (by (try simp only [List.map_toArray, List.map_cons, List.map_nil]); first | done | rfl | (simp only [List.length_drop, List.length_take]; rfl)) ?_
        with_reducible refine (norialaw3_C.calls 1 9 t274 t275 t276 t277 _ A33.out).mono ?_
        rintro e w105 ⟨rfl, hb⟩
        refine ⟨_, rfl, ?_⟩
        have n0_ := Aside0.mk (blk_below (g := gb204) (o := .cells #[.int .i64 t199, .int .i64 t200, .string t201, .complex .f64 t202.1 t202.2] 25 (0, 0)) BK204.out hb)
        have n1_ := Aside0.mk (blk_below (g := gb210) (o := .cells #[.int .i64 t205, .int .i64 t206, .string t207, .complex .f64 t208.1 t208.2] 25 (0, 0)) BK210.out hb)
        have n2_ := Aside0.mk (blk_below (g := gb216) (o := .cells #[.int .i64 t211, .int .i64 t212, .string t213, .complex .f64 t214.1 t214.2] 25 (0, 0)) BK216.out hb)
        have n3_ := Aside0.mk (blk_below (g := gb222) (o := .cells #[.int .i64 t217, .int .i64 t218, .string t219, .complex .f64 t220.1 t220.2] 25 (0, 0)) BK222.out hb)
        have n4_ := Aside0.mk (blk_below (g := gb228) (o := .cells #[.int .i64 t223, .int .i64 t224, .string t225, .complex .f64 t226.1 t226.2] 25 (0, 0)) BK228.out hb)
        have n5_ := Aside0.mk (blk_below (g := gb234) (o := .cells #[.int .i64 t229, .int .i64 t230, .string t231, .complex .f64 t232.1 t232.2] 25 (0, 0)) BK234.out hb)
        have n6_ := Aside0.mk (blk_below (g := gb240) (o := .cells #[.int .i64 t235, .int .i64 t236, .string t237, .complex .f64 t238.1 t238.2] 25 (0, 0)) BK240.out hb)
        have n7_ := Aside0.mk (below_step HB.out hb)
        clear BK204
        clear BK210
        clear BK216
        clear BK222
        clear BK228
        clear BK234
        clear BK240
        clear HB
        have BK204 := n0_
        have BK210 := n1_
        have BK216 := n2_
        have BK222 := n3_
        have BK228 := n4_
        have BK234 := n5_
        have BK240 := n6_
        have HB := n7_
        clear n0_ n1_ n2_ n3_ n4_ n5_ n6_ n7_
        (try clear hb)
        (try clear hb2)
        (try clear hk)
        (try clear hi)
        refine hK.out _ _ ⟨(blk_cell BK204.out 0).trans rfl, (blk_cell BK204.out 1).trans rfl, (blk_cell BK204.out 2).trans rfl, (blk_cell BK204.out 3).trans rfl, (blk_cell BK210.out 0).trans rfl, (blk_cell BK210.out 1).trans rfl, (blk_cell BK210.out 2).trans rfl, (blk_cell BK210.out 3).trans rfl, (blk_cell BK216.out 0).trans rfl, (blk_cell BK216.out 1).trans rfl, (blk_cell BK216.out 2).trans rfl, (blk_cell BK216.out 3).trans rfl, (blk_cell BK222.out 0).trans rfl, (blk_cell BK222.out 1).trans rfl, (blk_cell BK222.out 2).trans rfl, (blk_cell BK222.out 3).trans rfl⟩ (fun hHeld => ?_)
        clear hK K
        refine norm_ (a' := ?_) ?_ ?_
        rotate_left
        · show Act.put _ (some 111) _ = _
          simp only [Act.put, List.setIfInBounds_toArray, List.set_cons_zero, List.set_cons_succ, i64_w, i32_w]
          rfl
        refine one_ (i := 69) (N := some 112) #[b1, b1, b1, b1, b1, b1, b1, b1, b1, b1, b1, b1, b1, b1, b1, b1, b1, b1, b1, b1, b1, b1, b1, b1, b1, b1, b1, b1, b1, b1, b1, b1, b1, b1, b1, b1, b1, b1, b1, b1, b1, b1, b1, b1, b1, b1, b1, b1, b1, b1, b1, b1, b1, b1, b1, b1, b1, b1, b1, b1, b1, b1, b1, b1, b1, b1, b1, b1, b1, b1, b0, b0, b0, b0, b0, b0, b0, b0, b0, b0, b0, b0, b0, b0, b0, b0, b0, b0, b0, b0, b0, b0, b0, b0, b0, b0, b0, b0, b0, b0, b0, b0, b0] rfl rfl (one_of HT_.out (by kernel_rfl)) (by decide) (fun K hK => ?_)
        refine goes_ Tryz.func12 (by kernel_rfl) rfl #[.int .i64 1, .int .i64 8] (by rfl) rfl rfl (by (try simp only [List.map_toArray, List.map_cons, List.map_nil]); first | done | rfl | (simp only [List.length_drop, List.length_take]; rfl)) ?_
        with_reducible refine (norialaw3_C.calls 1 8 t278 t279 t280 t281 _ A34.out).mono ?_
        rintro e w106 ⟨rfl, hb⟩
        refine ⟨_, rfl, ?_⟩
        have n0_ := Aside0.mk (blk_below (g := gb204) (o := .cells #[.int .i64 t199, .int .i64 t200, .string t201, .complex .f64 t202.1 t202.2] 25 (0, 0)) BK204.out hb)
        have n1_ := Aside0.mk (blk_below (g := gb210) (o := .cells #[.int .i64 t205, .int .i64 t206, .string t207, .complex .f64 t208.1 t208.2] 25 (0, 0)) BK210.out hb)
        have n2_ := Aside0.mk (blk_below (g := gb216) (o := .cells #[.int .i64 t211, .int .i64 t212, .string t213, .complex .f64 t214.1 t214.2] 25 (0, 0)) BK216.out hb)
        have n3_ := Aside0.mk (blk_below (g := gb222) (o := .cells #[.int .i64 t217, .int .i64 t218, .string t219, .complex .f64 t220.1 t220.2] 25 (0, 0)) BK222.out hb)
        have n4_ := Aside0.mk (blk_below (g := gb228) (o := .cells #[.int .i64 t223, .int .i64 t224, .string t225, .complex .f64 t226.1 t226.2] 25 (0, 0)) BK228.out hb)
        have n5_ := Aside0.mk (blk_below (g := gb234) (o := .cells #[.int .i64 t229, .int .i64 t230, .string t231, .complex .f64 t232.1 t232.2] 25 (0, 0)) BK234.out hb)
        have n6_ := Aside0.mk (blk_below (g := gb240) (o := .cells #[.int .i64 t235, .int .i64 t236, .string t237, .complex .f64 t238.1 t238.2] 25 (0, 0)) BK240.out hb)
        have n7_ := Aside0.mk (below_step HB.out hb)
        clear BK204
        clear BK210
        clear BK216
        clear BK222
        clear BK228
        clear BK234
        clear BK240
        clear HB
        have BK204 := n0_
        have BK210 := n1_
        have BK216 := n2_
        have BK222 := n3_
        have BK228 := n4_
        have BK234 := n5_
        have BK240 := n6_
        have HB := n7_
        clear n0_ n1_ n2_ n3_ n4_ n5_ n6_ n7_
        (try clear hb)
        (try clear hb2)
        (try clear hk)
        (try clear hi)
        refine hK.out _ _ ⟨(blk_cell BK204.out 0).trans rfl, (blk_cell BK204.out 1).trans rfl, (blk_cell BK204.out 2).trans rfl, (blk_cell BK204.out 3).trans rfl, (blk_cell BK210.out 0).trans rfl, (blk_cell BK210.out 1).trans rfl, (blk_cell BK210.out 2).trans rfl, (blk_cell BK210.out 3).trans rfl, (blk_cell BK216.out 0).trans rfl, (blk_cell BK216.out 1).trans rfl, (blk_cell BK216.out 2).trans rfl, (blk_cell BK216.out 3).trans rfl, (blk_cell BK222.out 0).trans rfl, (blk_cell BK222.out 1).trans rfl, (blk_cell BK222.out 2).trans rfl, (blk_cell BK222.out 3).trans rfl⟩ (fun hHeld => ?_)
        clear hK K
        refine norm_ (a' := ?_) ?_ ?_
        rotate_left
        · show Act.put _ (some 112) _ = _
          simp only [Act.put, List.setIfInBounds_toArray, List.set_cons_zero, List.set_cons_succ, i64_w, i32_w]
          rfl
        refine one_ (i := 70) (N := some 113) #[b1, b1, b1, b1, b1, b1, b1, b1, b1, b1, b1, b1, b1, b1, b1, b1, b1, b1, b1, b1, b1, b1, b1, b1, b1, b1, b1, b1, b1, b1, b1, b1, b1, b1, b1, b1, b1, b1, b1, b1, b1, b1, b1, b1, b1, b1, b1, b1, b1, b1, b1, b1, b1, b1, b1, b1, b1, b1, b1, b1, b1, b1, b1, b1, b1, b1, b1, b1, b1, b1, b1, b0, b0, b0, b0, b0, b0, b0, b0, b0, b0, b0, b0, b0, b0, b0, b0, b0, b0, b0, b0, b0, b0, b0, b0, b0, b0, b0, b0, b0, b0, b0, b0] rfl rfl (one_of HT_.out (by kernel_rfl)) (by decide) (fun K hK => ?_)
        refine goes_ Tryz.func13 (by kernel_rfl) rfl #[.agg #[.int .i64 t274, .int .i64 t275, .string t276, .complex .f64 t277.1 t277.2], .agg #[.int .i64 t278, .int .i64 t279, .string t280, .complex .f64 t281.1 t281.2]] (by rfl) rfl rfl (by (try simp only [List.map_toArray, List.map_cons, List.map_nil]); first | done | rfl | (simp only [List.length_drop, List.length_take]; rfl)) ?_
        with_reducible refine (val_Compare.calls k t274 t275 t276 t277 t278 t279 t280 t281 t282 _ A35.out).mono ?_
        rintro e w107 ⟨rfl, hb⟩
        refine ⟨_, rfl, ?_⟩
        have n0_ := Aside0.mk (blk_below (g := gb204) (o := .cells #[.int .i64 t199, .int .i64 t200, .string t201, .complex .f64 t202.1 t202.2] 25 (0, 0)) BK204.out hb)
        have n1_ := Aside0.mk (blk_below (g := gb210) (o := .cells #[.int .i64 t205, .int .i64 t206, .string t207, .complex .f64 t208.1 t208.2] 25 (0, 0)) BK210.out hb)
        have n2_ := Aside0.mk (blk_below (g := gb216) (o := .cells #[.int .i64 t211, .int .i64 t212, .string t213, .complex .f64 t214.1 t214.2] 25 (0, 0)) BK216.out hb)
        have n3_ := Aside0.mk (blk_below (g := gb222) (o := .cells #[.int .i64 t217, .int .i64 t218, .string t219, .complex .f64 t220.1 t220.2] 25 (0, 0)) BK222.out hb)
        have n4_ := Aside0.mk (blk_below (g := gb228) (o := .cells #[.int .i64 t223, .int .i64 t224, .string t225, .complex .f64 t226.1 t226.2] 25 (0, 0)) BK228.out hb)
        have n5_ := Aside0.mk (blk_below (g := gb234) (o := .cells #[.int .i64 t229, .int .i64 t230, .string t231, .complex .f64 t232.1 t232.2] 25 (0, 0)) BK234.out hb)
        have n6_ := Aside0.mk (blk_below (g := gb240) (o := .cells #[.int .i64 t235, .int .i64 t236, .string t237, .complex .f64 t238.1 t238.2] 25 (0, 0)) BK240.out hb)
        have n7_ := Aside0.mk (below_step HB.out hb)
        clear BK204
        clear BK210
        clear BK216
        clear BK222
        clear BK228
        clear BK234
        clear BK240
        clear HB
        have BK204 := n0_
        have BK210 := n1_
        have BK216 := n2_
        have BK222 := n3_
        have BK228 := n4_
        have BK234 := n5_
        have BK240 := n6_
        have HB := n7_
        clear n0_ n1_ n2_ n3_ n4_ n5_ n6_ n7_
        (try clear hb)
        (try clear hb2)
        (try clear hk)
        (try clear hi)
        refine hK.out _ _ ⟨(blk_cell BK204.out 0).trans rfl, (blk_cell BK204.out 1).trans rfl, (blk_cell BK204.out 2).trans rfl, (blk_cell BK204.out 3).trans rfl, (blk_cell BK210.out 0).trans rfl, (blk_cell BK210.out 1).trans rfl, (blk_cell BK210.out 2).trans rfl, (blk_cell BK210.out 3).trans rfl, (blk_cell BK216.out 0).trans rfl, (blk_cell BK216.out 1).trans rfl, (blk_cell BK216.out 2).trans rfl, (blk_cell BK216.out 3).trans rfl, (blk_cell BK222.out 0).trans rfl, (blk_cell BK222.out 1).trans rfl, (blk_cell BK222.out 2).trans rfl, (blk_cell BK222.out 3).trans rfl⟩ (fun hHeld => ?_)
        clear hK K
        refine norm_ (a' := ?_) ?_ ?_
        rotate_left
        · show Act.put _ (some 113) _ = _
          simp only [Act.put, List.setIfInBounds_toArray, List.set_cons_zero, List.set_cons_succ, i64_w, i32_w]
          rfl
        refine pure_ (i := 71) (N := some 114) (v := ?_) (a' := ?_) #[b1, b1, b1, b1, b1, b1, b1, b1, b1, b1, b1, b1, b1, b1, b1, b1, b1, b1, b1, b1, b1, b1, b1, b1, b1, b1, b1, b1, b1, b1, b1, b1, b1, b1, b1, b1, b1, b1, b1, b1, b1, b1, b1, b1, b1, b1, b1, b1, b1, b1, b1, b1, b1, b1, b1, b1, b1, b1, b1, b1, b1, b1, b1, b1, b1, b1, b1, b1, b1, b1, b1, b1, b0, b0, b0, b0, b0, b0, b0, b0, b0, b0, b0, b0, b0, b0, b0, b0, b0, b0, b0, b0, b0, b0, b0, b0, b0, b0, b0, b0, b0, b0, b0] rfl rfl (any_of HT_.out (by kernel_rfl)) (fun _ _ _ h => h) (Or.inl ⟨by rfl, ?_⟩) ?_ ?_
        rotate_left
        · intro w'
          go_simp
          with_reducible rfl
        rotate_left
        · simp only [Act.put, List.setIfInBounds_toArray, List.set_cons_zero, List.set_cons_succ, i64_w, i32_w]
          rfl
        refine pure_ (i := 72) (N := some 115) (v := ?_) (a' := ?_) #[b1, b1, b1, b1, b1, b1, b1, b1, b1, b1, b1, b1, b1, b1, b1, b1, b1, b1, b1, b1, b1, b1, b1, b1, b1, b1, b1, b1, b1, b1, b1, b1, b1, b1, b1, b1, b1, b1, b1, b1, b1, b1, b1, b1, b1, b1, b1, b1, b1, b1, b1, b1, b1, b1, b1, b1, b1, b1, b1, b1, b1, b1, b1, b1, b1, b1, b1, b1, b1, b1, b1, b1, b1, b0, b0, b0, b0, b0, b0, b0, b0, b0, b0, b0, b0, b0, b0, b0, b0, b0, b0, b0, b0, b0, b0, b0, b0, b0, b0, b0, b0, b0, b0] rfl rfl (any_of HT_.out (by kernel_rfl)) (fun _ _ _ h => h) (Or.inl ⟨by rfl, ?_⟩) ?_ ?_
        rotate_left
        · intro w'
          go_simp
          with_reducible rfl
        rotate_left
        · simp only [Act.put, List.setIfInBounds_toArray, List.set_cons_zero, List.set_cons_succ, i64_w, i32_w]
          rfl
        refine pure_ (i := 73) (N := some 116) (v := ?_) (a' := ?_) #[b1, b1, b1, b1, b1, b1, b1, b1, b1, b1, b1, b1, b1, b1, b1, b1, b1, b1, b1, b1, b1, b1, b1, b1, b1, b1, b1, b1, b1, b1, b1, b1, b1, b1, b1, b1, b1, b1, b1, b1, b1, b1, b1, b1, b1, b1, b1, b1, b1, b1, b1, b1, b1, b1, b1, b1, b1, b1, b1, b1, b1, b1, b1, b1, b1, b1, b1, b1, b1, b1, b1, b1, b1, b1, b0, b0, b0, b0, b0, b0, b0, b0, b0, b0, b0, b0, b0, b0, b0, b0, b0, b0, b0, b0, b0, b0, b0, b0, b0, b0, b0, b0, b0] rfl rfl (any_of HT_.out (by kernel_rfl)) (fun _ _ _ h => h) (Or.inl ⟨by rfl, ?_⟩) ?_ ?_
        rotate_left
        · intro w'
          go_simp
          with_reducible rfl
        rotate_left
        · simp only [Act.put, List.setIfInBounds_toArray, List.set_cons_zero, List.set_cons_succ, i64_w, i32_w]
          rfl
        refine take_ (i := 74) (N := some 117) (v := ?_) (a' := ?_) #[b1, b1, b1, b1, b1, b1, b1, b1, b1, b1, b1, b1, b1, b1, b1, b1, b1, b1, b1, b1, b1, b1, b1, b1, b1, b1, b1, b1, b1, b1, b1, b1, b1, b1, b1, b1, b1, b1, b1, b1, b1, b1, b1, b1, b1, b1, b1, b1, b1, b1, b1, b1, b1, b1, b1, b1, b1, b1, b1, b1, b1, b1, b1, b1, b1, b1, b1, b1, b1, b1, b1, b1, b1, b1, b1, b0, b0, b0, b0, b0, b0, b0, b0, b0, b0, b0, b0, b0, b0, b0, b0, b0, b0, b0, b0, b0, b0, b0, b0, b0, b0, b0, b0] rfl rfl (take_ofW HT_.out HW_.out (by kernel_rfl)) (fun _ _ _ h => h) (Or.inl ⟨by rfl, ?_⟩) hHeld ?_ ?_
        rotate_left
        · rintro w' ⟨s0, s1, s2, s3, s4, s5, s6, s7, s8, s9, s10, s11, s12, s13, s14, s15⟩
          go_simp
          with_reducible rfl
        rotate_left
        · simp only [Act.put, List.setIfInBounds_toArray, List.set_cons_zero, List.set_cons_succ, i64_w, i32_w]
          rfl
        refine one_ (i := 75) (N := some 118) #[b1, b1, b1, b1, b1, b1, b1, b1, b1, b1, b1, b1, b1, b1, b1, b1, b1, b1, b1, b1, b1, b1, b1, b1, b1, b1, b1, b1, b1, b1, b1, b1, b1, b1, b1, b1, b1, b1, b1, b1, b1, b1, b1, b1, b1, b1, b1, b1, b1, b1, b1, b1, b1, b1, b1, b1, b1, b1, b1, b1, b1, b1, b1, b1, b1, b1, b1, b1, b1, b1, b1, b1, b1, b1, b1, b1, b0, b0, b0, b0, b0, b0, b0, b0, b0, b0, b0, b0, b0, b0, b0, b0, b0, b0, b0, b0, b0, b0, b0, b0, b0, b0, b0] rfl rfl (one_of HT_.out (by kernel_rfl)) (by decide) (fun K hK => ?_)
        refine goes_ Tryz.func11 (by kernel_rfl) rfl #[.int .i64 (-7)] (by rfl) rfl rfl (by (try simp only [List.map_toArray, List.map_cons, List.map_nil]); first | done | rfl | (simp only [List.length_drop, List.length_take]; rfl)) ?_
        with_reducible refine (norialaw3_N.calls (-7) t283 t284 t285 t286 _ A37.out).mono ?_
        rintro e w108 ⟨rfl, hb⟩
        refine ⟨_, rfl, ?_⟩
        have n0_ := Aside0.mk (blk_below (g := gb204) (o := .cells #[.int .i64 t199, .int .i64 t200, .string t201, .complex .f64 t202.1 t202.2] 25 (0, 0)) BK204.out hb)
        have n1_ := Aside0.mk (blk_below (g := gb210) (o := .cells #[.int .i64 t205, .int .i64 t206, .string t207, .complex .f64 t208.1 t208.2] 25 (0, 0)) BK210.out hb)
        have n2_ := Aside0.mk (blk_below (g := gb216) (o := .cells #[.int .i64 t211, .int .i64 t212, .string t213, .complex .f64 t214.1 t214.2] 25 (0, 0)) BK216.out hb)
        have n3_ := Aside0.mk (blk_below (g := gb222) (o := .cells #[.int .i64 t217, .int .i64 t218, .string t219, .complex .f64 t220.1 t220.2] 25 (0, 0)) BK222.out hb)
        have n4_ := Aside0.mk (blk_below (g := gb228) (o := .cells #[.int .i64 t223, .int .i64 t224, .string t225, .complex .f64 t226.1 t226.2] 25 (0, 0)) BK228.out hb)
        have n5_ := Aside0.mk (blk_below (g := gb234) (o := .cells #[.int .i64 t229, .int .i64 t230, .string t231, .complex .f64 t232.1 t232.2] 25 (0, 0)) BK234.out hb)
        have n6_ := Aside0.mk (blk_below (g := gb240) (o := .cells #[.int .i64 t235, .int .i64 t236, .string t237, .complex .f64 t238.1 t238.2] 25 (0, 0)) BK240.out hb)
        have n7_ := Aside0.mk (below_step HB.out hb)
        clear BK204
        clear BK210
        clear BK216
        clear BK222
        clear BK228
        clear BK234
        clear BK240
        clear HB
        have BK204 := n0_
        have BK210 := n1_
        have BK216 := n2_
        have BK222 := n3_
        have BK228 := n4_
        have BK234 := n5_
        have BK240 := n6_
        have HB := n7_
        clear n0_ n1_ n2_ n3_ n4_ n5_ n6_ n7_
        (try clear hb)
        (try clear hb2)
        (try clear hk)
        (try clear hi)
        refine hK.out _ _ ⟨(blk_cell BK204.out 0).trans rfl, (blk_cell BK204.out 1).trans rfl, (blk_cell BK204.out 2).trans rfl, (blk_cell BK204.out 3).trans rfl, (blk_cell BK210.out 0).trans rfl, (blk_cell BK210.out 1).trans rfl, (blk_cell BK210.out 2).trans rfl, (blk_cell BK210.out 3).trans rfl, (blk_cell BK216.out 0).trans rfl, (blk_cell BK216.out 1).trans rfl, (blk_cell BK216.out 2).trans rfl, (blk_cell BK216.out 3).trans rfl, (blk_cell BK222.out 0).trans rfl, (blk_cell BK222.out 1).trans rfl, (blk_cell BK222.out 2).trans rfl, (blk_cell BK222.out 3).trans rfl⟩ (fun hHeld => ?_)
        clear hK K
        refine norm_ (a' := ?_) ?_ ?_
        rotate_left
        · show Act.put _ (some 118) _ = _
          simp only [Act.put, List.setIfInBounds_toArray, List.set_cons_zero, List.set_cons_succ, i64_w, i32_w]
          rfl
        refine one_ (i := 76) (N := some 119) #[b1, b1, b1, b1, b1, b1, b1, b1, b1, b1, b1, b1, b1, b1, b1, b1, b1, b1, b1, b1, b1, b1, b1, b1, b1, b1, b1, b1, b1, b1, b1, b1, b1, b1, b1, b1, b1, b1, b1, b1, b1, b1, b1, b1, b1, b1, b1, b1, b1, b1, b1, b1, b1, b1, b1, b1, b1, b1, b1, b1, b1, b1, b1, b1, b1, b1, b1, b1, b1, b1, b1, b1, b1, b1, b1, b1, b1, b0, b0, b0, b0, b0, b0, b0, b0, b0, b0, b0, b0, b0, b0, b0, b0, b0, b0, b0, b0, b0, b0, b0, b0, b0, b0] rfl rfl (one_of HT_.out (by kernel_rfl)) (by decide) (fun K hK => ?_)
        refine goes_ Tryz.func14 (by kernel_rfl) rfl #[.agg #[.int .i64 t205, .int .i64 t206, .string t207, .complex .f64 t208.1 t208.2], .agg #[.int .i64 t283, .int .i64 t284, .string t285, .complex .f64 t286.1 t286.2]] (by rfl) rfl rfl (by (try simp only [List.map_toArray, List.map_cons, List.map_nil]); first | done | rfl | (simp only [List.length_drop, List.length_take]; rfl)) ?_
        with_reducible refine (val_Same.calls k t205 t206 t207 t208 t283 t284 t285 t286 true _ A38.out).mono ?_
        rintro e w109 ⟨rfl, hb⟩
        refine ⟨_, rfl, ?_⟩
        have n0_ := Aside0.mk (blk_below (g := gb204) (o := .cells #[.int .i64 t199, .int .i64 t200, .string t201, .complex .f64 t202.1 t202.2] 25 (0, 0)) BK204.out hb)
        have n1_ := Aside0.mk (blk_below (g := gb210) (o := .cells #[.int .i64 t205, .int .i64 t206, .string t207, .complex .f64 t208.1 t208.2] 25 (0, 0)) BK210.out hb)
        have n2_ := Aside0.mk (blk_below (g := gb216) (o := .cells #[.int .i64 t211, .int .i64 t212, .string t213, .complex .f64 t214.1 t214.2] 25 (0, 0)) BK216.out hb)
        have n3_ := Aside0.mk (blk_below (g := gb222) (o := .cells #[.int .i64 t217, .int .i64 t218, .string t219, .complex .f64 t220.1 t220.2] 25 (0, 0)) BK222.out hb)
        have n4_ := Aside0.mk (blk_below (g := gb228) (o := .cells #[.int .i64 t223, .int .i64 t224, .string t225, .complex .f64 t226.1 t226.2] 25 (0, 0)) BK228.out hb)
        have n5_ := Aside0.mk (blk_below (g := gb234) (o := .cells #[.int .i64 t229, .int .i64 t230, .string t231, .complex .f64 t232.1 t232.2] 25 (0, 0)) BK234.out hb)
        have n6_ := Aside0.mk (blk_below (g := gb240) (o := .cells #[.int .i64 t235, .int .i64 t236, .string t237, .complex .f64 t238.1 t238.2] 25 (0, 0)) BK240.out hb)
        have n7_ := Aside0.mk (below_step HB.out hb)
        clear BK204
        clear BK210
        clear BK216
        clear BK222
        clear BK228
        clear BK234
        clear BK240
        clear HB
        have BK204 := n0_
        have BK210 := n1_
        have BK216 := n2_
        have BK222 := n3_
        have BK228 := n4_
        have BK234 := n5_
        have BK240 := n6_
        have HB := n7_
        clear n0_ n1_ n2_ n3_ n4_ n5_ n6_ n7_
        (try clear hb)
        (try clear hb2)
        (try clear hk)
        (try clear hi)
        refine hK.out _ _ ⟨(blk_cell BK204.out 0).trans rfl, (blk_cell BK204.out 1).trans rfl, (blk_cell BK204.out 2).trans rfl, (blk_cell BK204.out 3).trans rfl, (blk_cell BK210.out 0).trans rfl, (blk_cell BK210.out 1).trans rfl, (blk_cell BK210.out 2).trans rfl, (blk_cell BK210.out 3).trans rfl, (blk_cell BK216.out 0).trans rfl, (blk_cell BK216.out 1).trans rfl, (blk_cell BK216.out 2).trans rfl, (blk_cell BK216.out 3).trans rfl, (blk_cell BK222.out 0).trans rfl, (blk_cell BK222.out 1).trans rfl, (blk_cell BK222.out 2).trans rfl, (blk_cell BK222.out 3).trans rfl⟩ (fun hHeld => ?_)
        clear hK K
        refine norm_ (a' := ?_) ?_ ?_
        rotate_left
        · show Act.put _ (some 119) _ = _
          simp only [Act.put, List.setIfInBounds_toArray, List.set_cons_zero, List.set_cons_succ, i64_w, i32_w]
          rfl
        refine pure_ (i := 77) (N := some 120) (v := ?_) (a' := ?_) #[b1, b1, b1, b1, b1, b1, b1, b1, b1, b1, b1, b1, b1, b1, b1, b1, b1, b1, b1, b1, b1, b1, b1, b1, b1, b1, b1, b1, b1, b1, b1, b1, b1, b1, b1, b1, b1, b1, b1, b1, b1, b1, b1, b1, b1, b1, b1, b1, b1, b1, b1, b1, b1, b1, b1, b1, b1, b1, b1, b1, b1, b1, b1, b1, b1, b1, b1, b1, b1, b1, b1, b1, b1, b1, b1, b1, b1, b1, b0, b0, b0, b0, b0, b0, b0, b0, b0, b0, b0, b0, b0, b0, b0, b0, b0, b0, b0, b0, b0, b0, b0, b0, b0] rfl rfl (any_of HT_.out (by kernel_rfl)) (fun _ _ _ h => h) (Or.inl ⟨by rfl, ?_⟩) ?_ ?_
        rotate_left
        · intro w'
          go_simp
          with_reducible rfl
        rotate_left
        · simp only [Act.put, List.setIfInBounds_toArray, List.set_cons_zero, List.set_cons_succ, i64_w, i32_w]
          rfl
        refine pure_ (i := 78) (N := some 121) (v := ?_) (a' := ?_) #[b1, b1, b1, b1, b1, b1, b1, b1, b1, b1, b1, b1, b1, b1, b1, b1, b1, b1, b1, b1, b1, b1, b1, b1, b1, b1, b1, b1, b1, b1, b1, b1, b1, b1, b1, b1, b1, b1, b1, b1, b1, b1, b1, b1, b1, b1, b1, b1, b1, b1, b1, b1, b1, b1, b1, b1, b1, b1, b1, b1, b1, b1, b1, b1, b1, b1, b1, b1, b1, b1, b1, b1, b1, b1, b1, b1, b1, b1, b1, b0, b0, b0, b0, b0, b0, b0, b0, b0, b0, b0, b0, b0, b0, b0, b0, b0, b0, b0, b0, b0, b0, b0, b0] rfl rfl (any_of HT_.out (by kernel_rfl)) (fun _ _ _ h => h) (Or.inl ⟨by rfl, ?_⟩) ?_ ?_
        rotate_left
        · intro w'
          go_simp
          with_reducible rfl
        rotate_left
        · simp only [Act.put, List.setIfInBounds_toArray, List.set_cons_zero, List.set_cons_succ, i64_w, i32_w]
          rfl
        refine take_ (i := 79) (N := some 122) (v := ?_) (a' := ?_) #[b1, b1, b1, b1, b1, b1, b1, b1, b1, b1, b1, b1, b1, b1, b1, b1, b1, b1, b1, b1, b1, b1, b1, b1, b1, b1, b1, b1, b1, b1, b1, b1, b1, b1, b1, b1, b1, b1, b1, b1, b1, b1, b1, b1, b1, b1, b1, b1, b1, b1, b1, b1, b1, b1, b1, b1, b1, b1, b1, b1, b1, b1, b1, b1, b1, b1, b1, b1, b1, b1, b1, b1, b1, b1, b1, b1, b1, b1, b1, b1, b0, b0, b0, b0, b0, b0, b0, b0, b0, b0, b0, b0, b0, b0, b0, b0, b0, b0, b0, b0, b0, b0, b0] rfl rfl (take_ofW HT_.out HW_.out (by kernel_rfl)) (fun _ _ _ h => h) (Or.inl ⟨by rfl, ?_⟩) hHeld ?_ ?_
        rotate_left
        · rintro w' ⟨s0, s1, s2, s3, s4, s5, s6, s7, s8, s9, s10, s11, s12, s13, s14, s15⟩
          go_simp
          with_reducible rfl
        rotate_left
        · simp only [Act.put, List.setIfInBounds_toArray, List.set_cons_zero, List.set_cons_succ, i64_w, i32_w]
          rfl
        refine one_ (i := 80) (N := some 123) #[b1, b1, b1, b1, b1, b1, b1, b1, b1, b1, b1, b1, b1, b1, b1, b1, b1, b1, b1, b1, b1, b1, b1, b1, b1, b1, b1, b1, b1, b1, b1, b1, b1, b1, b1, b1, b1, b1, b1, b1, b1, b1, b1, b1, b1, b1, b1, b1, b1, b1, b1, b1, b1, b1, b1, b1, b1, b1, b1, b1, b1, b1, b1, b1, b1, b1, b1, b1, b1, b1, b1, b1, b1, b1, b1, b1, b1, b1, b1, b1, b1, b0, b0, b0, b0, b0, b0, b0, b0, b0, b0, b0, b0, b0, b0, b0, b0, b0, b0, b0, b0, b0, b0] rfl rfl (one_of HT_.out (by kernel_rfl)) (by decide) (fun K hK => ?_)
        refine goes_ Tryz.func15 (by kernel_rfl) rfl #[.agg #[.int .i64 t217, .int .i64 t218, .string t219, .complex .f64 t220.1 t220.2], .int .i64 1] (by rfl) rfl rfl (by (try simp only [List.map_toArray, List.map_cons, List.map_nil]); first | done | rfl | (simp only [List.length_drop, List.length_take]; rfl)) ?_
        with_reducible refine (val_Fits.calls t217 t218 t219 t220 1 true _ A40.out).mono ?_
        rintro e w110 ⟨rfl, hb⟩
        refine ⟨_, rfl, ?_⟩
        have n0_ := Aside0.mk (blk_below (g := gb204) (o := .cells #[.int .i64 t199, .int .i64 t200, .string t201, .complex .f64 t202.1 t202.2] 25 (0, 0)) BK204.out hb)
        have n1_ := Aside0.mk (blk_below (g := gb210) (o := .cells #[.int .i64 t205, .int .i64 t206, .string t207, .complex .f64 t208.1 t208.2] 25 (0, 0)) BK210.out hb)
        have n2_ := Aside0.mk (blk_below (g := gb216) (o := .cells #[.int .i64 t211, .int .i64 t212, .string t213, .complex .f64 t214.1 t214.2] 25 (0, 0)) BK216.out hb)
        have n3_ := Aside0.mk (blk_below (g := gb222) (o := .cells #[.int .i64 t217, .int .i64 t218, .string t219, .complex .f64 t220.1 t220.2] 25 (0, 0)) BK222.out hb)
        have n4_ := Aside0.mk (blk_below (g := gb228) (o := .cells #[.int .i64 t223, .int .i64 t224, .string t225, .complex .f64 t226.1 t226.2] 25 (0, 0)) BK228.out hb)
        have n5_ := Aside0.mk (blk_below (g := gb234) (o := .cells #[.int .i64 t229, .int .i64 t230, .string t231, .complex .f64 t232.1 t232.2] 25 (0, 0)) BK234.out hb)
        have n6_ := Aside0.mk (blk_below (g := gb240) (o := .cells #[.int .i64 t235, .int .i64 t236, .string t237, .complex .f64 t238.1 t238.2] 25 (0, 0)) BK240.out hb)
        have n7_ := Aside0.mk (below_step HB.out hb)
        clear BK204
        clear BK210
        clear BK216
        clear BK222
        clear BK228
        clear BK234
        clear BK240
        clear HB
        have BK204 := n0_
        have BK210 := n1_
        have BK216 := n2_
        have BK222 := n3_
        have BK228 := n4_
        have BK234 := n5_
        have BK240 := n6_
        have HB := n7_
        clear n0_ n1_ n2_ n3_ n4_ n5_ n6_ n7_
        (try clear hb)
        (try clear hb2)
        (try clear hk)
        (try clear hi)
        refine hK.out _ _ ⟨(blk_cell BK204.out 0).trans rfl, (blk_cell BK204.out 1).trans rfl, (blk_cell BK204.out 2).trans rfl, (blk_cell BK204.out 3).trans rfl, (blk_cell BK210.out 0).trans rfl, (blk_cell BK210.out 1).trans rfl, (blk_cell BK210.out 2).trans rfl, (blk_cell BK210.out 3).trans rfl, (blk_cell BK216.out 0).trans rfl, (blk_cell BK216.out 1).trans rfl, (blk_cell BK216.out 2).trans rfl, (blk_cell BK216.out 3).trans rfl, (blk_cell BK222.out 0).trans rfl, (blk_cell BK222.out 1).trans rfl, (blk_cell BK222.out 2).trans rfl, (blk_cell BK222.out 3).trans rfl⟩ (fun hHeld => ?_)
        clear hK K
        refine norm_ (a' := ?_) ?_ ?_
        rotate_left
        · show Act.put _ (some 123) _ = _
          simp only [Act.put, List.setIfInBounds_toArray, List.set_cons_zero, List.set_cons_succ, i64_w, i32_w]
          rfl
        refine pure_ (i := 81) (N := some 124) (v := ?_) (a' := ?_) #[b1, b1, b1, b1, b1, b1, b1, b1, b1, b1, b1, b1, b1, b1, b1, b1, b1, b1, b1, b1, b1, b1, b1, b1, b1, b1, b1, b1, b1, b1, b1, b1, b1, b1, b1, b1, b1, b1, b1, b1, b1, b1, b1, b1, b1, b1, b1, b1, b1, b1, b1, b1, b1, b1, b1, b1, b1, b1, b1, b1, b1, b1, b1, b1, b1, b1, b1, b1, b1, b1, b1, b1, b1, b1, b1, b1, b1, b1, b1, b1, b1, b1, b0, b0, b0, b0, b0, b0, b0, b0, b0, b0, b0, b0, b0, b0, b0, b0, b0, b0, b0, b0, b0] rfl rfl (any_of HT_.out (by kernel_rfl)) (fun _ _ _ h => h) (Or.inl ⟨by rfl, ?_⟩) ?_ ?_
        rotate_left
        · intro w'
          go_simp
          with_reducible rfl
        rotate_left
        · simp only [Act.put, List.setIfInBounds_toArray, List.set_cons_zero, List.set_cons_succ, i64_w, i32_w]
          rfl
        refine pure_ (i := 82) (N := some 125) (v := ?_) (a' := ?_) #[b1, b1, b1, b1, b1, b1, b1, b1, b1, b1, b1, b1, b1, b1, b1, b1, b1, b1, b1, b1, b1, b1, b1, b1, b1, b1, b1, b1, b1, b1, b1, b1, b1, b1, b1, b1, b1, b1, b1, b1, b1, b1, b1, b1, b1, b1, b1, b1, b1, b1, b1, b1, b1, b1, b1, b1, b1, b1, b1, b1, b1, b1, b1, b1, b1, b1, b1, b1, b1, b1, b1, b1, b1, b1, b1, b1, b1, b1, b1, b1, b1, b1, b1, b0, b0, b0, b0, b0, b0, b0, b0, b0, b0, b0, b0, b0, b0, b0, b0, b0, b0, b0, b0] rfl rfl (any_of HT_.out (by kernel_rfl)) (fun _ _ _ h => h) (Or.inl ⟨by rfl, ?_⟩) ?_ ?_
        rotate_left
        · intro w'
          go_simp
          with_reducible rfl
        rotate_left
        · simp only [Act.put, List.setIfInBounds_toArray, List.set_cons_zero, List.set_cons_succ, i64_w, i32_w]
          rfl
        refine take_ (i := 83) (N := some 126) (v := ?_) (a' := ?_) #[b1, b1, b1, b1, b1, b1, b1, b1, b1, b1, b1, b1, b1, b1, b1, b1, b1, b1, b1, b1, b1, b1, b1, b1, b1, b1, b1, b1, b1, b1, b1, b1, b1, b1, b1, b1, b1, b1, b1, b1, b1, b1, b1, b1, b1, b1, b1, b1, b1, b1, b1, b1, b1, b1, b1, b1, b1, b1, b1, b1, b1, b1, b1, b1, b1, b1, b1, b1, b1, b1, b1, b1, b1, b1, b1, b1, b1, b1, b1, b1, b1, b1, b1, b1, b0, b0, b0, b0, b0, b0, b0, b0, b0, b0, b0, b0, b0, b0, b0, b0, b0, b0, b0] rfl rfl (take_ofW HT_.out HW_.out (by kernel_rfl)) (fun _ _ _ h => h) (Or.inl ⟨by rfl, ?_⟩) hHeld ?_ ?_
        rotate_left
        · rintro w' ⟨s0, s1, s2, s3, s4, s5, s6, s7, s8, s9, s10, s11, s12, s13, s14, s15⟩
          go_simp
          with_reducible rfl
        rotate_left
        · simp only [Act.put, List.setIfInBounds_toArray, List.set_cons_zero, List.set_cons_succ, i64_w, i32_w]
          rfl
        refine one_ (i := 84) (N := some 127) #[b1, b1, b1, b1, b1, b1, b1, b1, b1, b1, b1, b1, b1, b1, b1, b1, b1, b1, b1, b1, b1, b1, b1, b1, b1, b1, b1, b1, b1, b1, b1, b1, b1, b1, b1, b1, b1, b1, b1, b1, b1, b1, b1, b1, b1, b1, b1, b1, b1, b1, b1, b1, b1, b1, b1, b1, b1, b1, b1, b1, b1, b1, b1, b1, b1, b1, b1, b1, b1, b1, b1, b1, b1, b1, b1, b1, b1, b1, b1, b1, b1, b1, b1, b1, b1, b0, b0, b0, b0, b0, b0, b0, b0, b0, b0, b0, b0, b0, b0, b0, b0, b0, b0] rfl rfl (one_of HT_.out (by kernel_rfl)) (by decide) (fun K hK => ?_)
        refine goes_ Tryz.func15 (by kernel_rfl) rfl #[.agg #[.int .i64 t199, .int .i64 t200, .string t201, .complex .f64 t202.1 t202.2], .int .i64 1] (by rfl) rfl rfl (by (try simp only [List.map_toArray, List.map_cons, List.map_nil]); first | done | rfl | (simp only [List.length_drop, List.length_take]; rfl)) ?_
        with_reducible refine (val_Fits.calls t199 t200 t201 t202 1 false _ A42.out).mono ?_
        rintro e w111 ⟨rfl, hb⟩
        refine ⟨_, rfl, ?_⟩
        have n0_ := Aside0.mk (blk_below (g := gb204) (o := .cells #[.int .i64 t199, .int .i64 t200, .string t201, .complex .f64 t202.1 t202.2] 25 (0, 0)) BK204.out hb)
        have n1_ := Aside0.mk (blk_below (g := gb210) (o := .cells #[.int .i64 t205, .int .i64 t206, .string t207, .complex .f64 t208.1 t208.2] 25 (0, 0)) BK210.out hb)
        have n2_ := Aside0.mk (blk_below (g := gb216) (o := .cells #[.int .i64 t211, .int .i64 t212, .string t213, .complex .f64 t214.1 t214.2] 25 (0, 0)) BK216.out hb)
        have n3_ := Aside0.mk (blk_below (g := gb222) (o := .cells #[.int .i64 t217, .int .i64 t218, .string t219, .complex .f64 t220.1 t220.2] 25 (0, 0)) BK222.out hb)
        have n4_ := Aside0.mk (blk_below (g := gb228) (o := .cells #[.int .i64 t223, .int .i64 t224, .string t225, .complex .f64 t226.1 t226.2] 25 (0, 0)) BK228.out hb)
        have n5_ := Aside0.mk (blk_below (g := gb234) (o := .cells #[.int .i64 t229, .int .i64 t230, .string t231, .complex .f64 t232.1 t232.2] 25 (0, 0)) BK234.out hb)
        have n6_ := Aside0.mk (blk_below (g := gb240) (o := .cells #[.int .i64 t235, .int .i64 t236, .string t237, .complex .f64 t238.1 t238.2] 25 (0, 0)) BK240.out hb)
        have n7_ := Aside0.mk (below_step HB.out hb)
        clear BK204
        clear BK210
        clear BK216
        clear BK222
        clear BK228
        clear BK234
        clear BK240
        clear HB
        have BK204 := n0_
        have BK210 := n1_
        have BK216 := n2_
        have BK222 := n3_
        have BK228 := n4_
        have BK234 := n5_
        have BK240 := n6_
        have HB := n7_
        clear n0_ n1_ n2_ n3_ n4_ n5_ n6_ n7_
        (try clear hb)
        (try clear hb2)
        (try clear hk)
        (try clear hi)
        refine hK.out _ _ ⟨(blk_cell BK204.out 0).trans rfl, (blk_cell BK204.out 1).trans rfl, (blk_cell BK204.out 2).trans rfl, (blk_cell BK204.out 3).trans rfl, (blk_cell BK210.out 0).trans rfl, (blk_cell BK210.out 1).trans rfl, (blk_cell BK210.out 2).trans rfl, (blk_cell BK210.out 3).trans rfl, (blk_cell BK216.out 0).trans rfl, (blk_cell BK216.out 1).trans rfl, (blk_cell BK216.out 2).trans rfl, (blk_cell BK216.out 3).trans rfl, (blk_cell BK222.out 0).trans rfl, (blk_cell BK222.out 1).trans rfl, (blk_cell BK222.out 2).trans rfl, (blk_cell BK222.out 3).trans rfl⟩ (fun hHeld => ?_)
        clear hK K
        refine norm_ (a' := ?_) ?_ ?_
        rotate_left
        · show Act.put _ (some 127) _ = _
          simp only [Act.put, List.setIfInBounds_toArray, List.set_cons_zero, List.set_cons_succ, i64_w, i32_w]
          rfl
        refine pure_ (i := 85) (N := some 128) (v := ?_) (a' := ?_) #[b1, b1, b1, b1, b1, b1, b1, b1, b1, b1, b1, b1, b1, b1, b1, b1, b1, b1, b1, b1, b1, b1, b1, b1, b1, b1, b1, b1, b1, b1, b1, b1, b1, b1, b1, b1, b1, b1, b1, b1, b1, b1, b1, b1, b1, b1, b1, b1, b1, b1, b1, b1, b1, b1, b1, b1, b1, b1, b1, b1, b1, b1, b1, b1, b1, b1, b1, b1, b1, b1, b1, b1, b1, b1, b1, b1, b1, b1, b1, b1, b1, b1, b1, b1, b1, b1, b0, b0, b0, b0, b0, b0, b0, b0, b0, b0, b0, b0, b0, b0, b0, b0, b0] rfl rfl (any_of HT_.out (by kernel_rfl)) (fun _ _ _ h => h) (Or.inl ⟨by rfl, ?_⟩) ?_ ?_
        rotate_left
        · intro w'
          go_simp
          with_reducible rfl
        rotate_left
        · simp only [Act.put, List.setIfInBounds_toArray, List.set_cons_zero, List.set_cons_succ, i64_w, i32_w]
          rfl
        refine pure_ (i := 86) (N := some 129) (v := ?_) (a' := ?_) #[b1, b1, b1, b1, b1, b1, b1, b1, b1, b1, b1, b1, b1, b1, b1, b1, b1, b1, b1, b1, b1, b1, b1, b1, b1, b1, b1, b1, b1, b1, b1, b1, b1, b1, b1, b1, b1, b1, b1, b1, b1, b1, b1, b1, b1, b1, b1, b1, b1, b1, b1, b1, b1, b1, b1, b1, b1, b1, b1, b1, b1, b1, b1, b1, b1, b1, b1, b1, b1, b1, b1, b1, b1, b1, b1, b1, b1, b1, b1, b1, b1, b1, b1, b1, b1, b1, b1, b0, b0, b0, b0, b0, b0, b0, b0, b0, b0, b0, b0, b0, b0, b0, b0] rfl rfl (any_of HT_.out (by kernel_rfl)) (fun _ _ _ h => h) (Or.inl ⟨by rfl, ?_⟩) ?_ ?_
        rotate_left
        · intro w'
          go_simp
          with_reducible rfl
        rotate_left
        · simp only [Act.put, List.setIfInBounds_toArray, List.set_cons_zero, List.set_cons_succ, i64_w, i32_w]
          rfl
        refine pure_ (i := 87) (N := some 130) (v := ?_) (a' := ?_) #[b1, b1, b1, b1, b1, b1, b1, b1, b1, b1, b1, b1, b1, b1, b1, b1, b1, b1, b1, b1, b1, b1, b1, b1, b1, b1, b1, b1, b1, b1, b1, b1, b1, b1, b1, b1, b1, b1, b1, b1, b1, b1, b1, b1, b1, b1, b1, b1, b1, b1, b1, b1, b1, b1, b1, b1, b1, b1, b1, b1, b1, b1, b1, b1, b1, b1, b1, b1, b1, b1, b1, b1, b1, b1, b1, b1, b1, b1, b1, b1, b1, b1, b1, b1, b1, b1, b1, b1, b0, b0, b0, b0, b0, b0, b0, b0, b0, b0, b0, b0, b0, b0, b0] rfl rfl (any_of HT_.out (by kernel_rfl)) (fun _ _ _ h => h) (Or.inl ⟨by rfl, ?_⟩) ?_ ?_
        rotate_left
        · intro w'
          go_simp
          with_reducible rfl
        rotate_left
        · simp only [Act.put, List.setIfInBounds_toArray, List.set_cons_zero, List.set_cons_succ, i64_w, i32_w]
          rfl
        refine take_ (i := 88) (N := some 131) (v := ?_) (a' := ?_) #[b1, b1, b1, b1, b1, b1, b1, b1, b1, b1, b1, b1, b1, b1, b1, b1, b1, b1, b1, b1, b1, b1, b1, b1, b1, b1, b1, b1, b1, b1, b1, b1, b1, b1, b1, b1, b1, b1, b1, b1, b1, b1, b1, b1, b1, b1, b1, b1, b1, b1, b1, b1, b1, b1, b1, b1, b1, b1, b1, b1, b1, b1, b1, b1, b1, b1, b1, b1, b1, b1, b1, b1, b1, b1, b1, b1, b1, b1, b1, b1, b1, b1, b1, b1, b1, b1, b1, b1, b1, b0, b0, b0, b0, b0, b0, b0, b0, b0, b0, b0, b0, b0, b0] rfl rfl (take_ofW HT_.out HW_.out (by kernel_rfl)) (fun _ _ _ h => h) (Or.inl ⟨by rfl, ?_⟩) hHeld ?_ ?_
        rotate_left
        · rintro w' ⟨s0, s1, s2, s3, s4, s5, s6, s7, s8, s9, s10, s11, s12, s13, s14, s15⟩
          go_simp
          with_reducible rfl
        rotate_left
        · simp only [Act.put, List.setIfInBounds_toArray, List.set_cons_zero, List.set_cons_succ, i64_w, i32_w]
          rfl
        refine one_ (i := 89) (N := some 132) #[b1, b1, b1, b1, b1, b1, b1, b1, b1, b1, b1, b1, b1, b1, b1, b1, b1, b1, b1, b1, b1, b1, b1, b1, b1, b1, b1, b1, b1, b1, b1, b1, b1, b1, b1, b1, b1, b1, b1, b1, b1, b1, b1, b1, b1, b1, b1, b1, b1, b1, b1, b1, b1, b1, b1, b1, b1, b1, b1, b1, b1, b1, b1, b1, b1, b1, b1, b1, b1, b1, b1, b1, b1, b1, b1, b1, b1, b1, b1, b1, b1, b1, b1, b1, b1, b1, b1, b1, b1, b1, b0, b0, b0, b0, b0, b0, b0, b0, b0, b0, b0, b0, b0] rfl rfl (one_of HT_.out (by kernel_rfl)) (by decide) (fun K hK => ?_)
        refine goes_ Tryz.func9 (by kernel_rfl) rfl #[.agg #[.int .i64 t199, .int .i64 t200, .string t201, .complex .f64 t202.1 t202.2]] (by rfl) rfl rfl (by (try simp only [List.map_toArray, List.map_cons, List.map_nil]); first | done | rfl | (simp only [List.length_drop, List.length_take]; rfl)) ?_
        with_reducible refine (val_Check.calls k t199 t200 t201 t202 t290 _ A44.out).mono ?_
        rintro e w112 ⟨rfl, hb⟩
        refine ⟨_, rfl, ?_⟩
        have n0_ := Aside0.mk (blk_below (g := gb204) (o := .cells #[.int .i64 t199, .int .i64 t200, .string t201, .complex .f64 t202.1 t202.2] 25 (0, 0)) BK204.out hb)
        have n1_ := Aside0.mk (blk_below (g := gb210) (o := .cells #[.int .i64 t205, .int .i64 t206, .string t207, .complex .f64 t208.1 t208.2] 25 (0, 0)) BK210.out hb)
        have n2_ := Aside0.mk (blk_below (g := gb216) (o := .cells #[.int .i64 t211, .int .i64 t212, .string t213, .complex .f64 t214.1 t214.2] 25 (0, 0)) BK216.out hb)
        have n3_ := Aside0.mk (blk_below (g := gb222) (o := .cells #[.int .i64 t217, .int .i64 t218, .string t219, .complex .f64 t220.1 t220.2] 25 (0, 0)) BK222.out hb)
        have n4_ := Aside0.mk (blk_below (g := gb228) (o := .cells #[.int .i64 t223, .int .i64 t224, .string t225, .complex .f64 t226.1 t226.2] 25 (0, 0)) BK228.out hb)
        have n5_ := Aside0.mk (blk_below (g := gb234) (o := .cells #[.int .i64 t229, .int .i64 t230, .string t231, .complex .f64 t232.1 t232.2] 25 (0, 0)) BK234.out hb)
        have n6_ := Aside0.mk (blk_below (g := gb240) (o := .cells #[.int .i64 t235, .int .i64 t236, .string t237, .complex .f64 t238.1 t238.2] 25 (0, 0)) BK240.out hb)
        have n7_ := Aside0.mk (below_step HB.out hb)
        clear BK204
        clear BK210
        clear BK216
        clear BK222
        clear BK228
        clear BK234
        clear BK240
        clear HB
        have BK204 := n0_
        have BK210 := n1_
        have BK216 := n2_
        have BK222 := n3_
        have BK228 := n4_
        have BK234 := n5_
        have BK240 := n6_
        have HB := n7_
        clear n0_ n1_ n2_ n3_ n4_ n5_ n6_ n7_
        (try clear hb)
        (try clear hb2)
        (try clear hk)
        (try clear hi)
        refine hK.out _ _ ⟨(blk_cell BK204.out 0).trans rfl, (blk_cell BK204.out 1).trans rfl, (blk_cell BK204.out 2).trans rfl, (blk_cell BK204.out 3).trans rfl, (blk_cell BK210.out 0).trans rfl, (blk_cell BK210.out 1).trans rfl, (blk_cell BK210.out 2).trans rfl, (blk_cell BK210.out 3).trans rfl, (blk_cell BK216.out 0).trans rfl, (blk_cell BK216.out 1).trans rfl, (blk_cell BK216.out 2).trans rfl, (blk_cell BK216.out 3).trans rfl, (blk_cell BK222.out 0).trans rfl, (blk_cell BK222.out 1).trans rfl, (blk_cell BK222.out 2).trans rfl, (blk_cell BK222.out 3).trans rfl⟩ (fun hHeld => ?_)
        clear hK K
        refine norm_ (a' := ?_) ?_ ?_
        rotate_left
        · show Act.put _ (some 132) _ = _
          simp only [Act.put, List.setIfInBounds_toArray, List.set_cons_zero, List.set_cons_succ, i64_w, i32_w]
          rfl
        refine pure_ (i := 90) (N := some 133) (v := ?_) (a' := ?_) #[b1, b1, b1, b1, b1, b1, b1, b1, b1, b1, b1, b1, b1, b1, b1, b1, b1, b1, b1, b1, b1, b1, b1, b1, b1, b1, b1, b1, b1, b1, b1, b1, b1, b1, b1, b1, b1, b1, b1, b1, b1, b1, b1, b1, b1, b1, b1, b1, b1, b1, b1, b1, b1, b1, b1, b1, b1, b1, b1, b1, b1, b1, b1, b1, b1, b1, b1, b1, b1, b1, b1, b1, b1, b1, b1, b1, b1, b1, b1, b1, b1, b1, b1, b1, b1, b1, b1, b1, b1, b1, b1, b0, b0, b0, b0, b0, b0, b0, b0, b0, b0, b0, b0] rfl rfl (any_of HT_.out (by kernel_rfl)) (fun _ _ _ h => h) (Or.inl ⟨by rfl, ?_⟩) ?_ ?_
        rotate_left
        · intro w'
          go_simp
          with_reducible rfl
        rotate_left
        · simp only [Act.put, List.setIfInBounds_toArray, List.set_cons_zero, List.set_cons_succ, i64_w, i32_w]
          rfl
        refine pure_ (i := 91) (N := some 134) (v := ?_) (a' := ?_) #[b1, b1, b1, b1, b1, b1, b1, b1, b1, b1, b1, b1, b1, b1, b1, b1, b1, b1, b1, b1, b1, b1, b1, b1, b1, b1, b1, b1, b1, b1, b1, b1, b1, b1, b1, b1, b1, b1, b1, b1, b1, b1, b1, b1, b1, b1, b1, b1, b1, b1, b1, b1, b1, b1, b1, b1, b1, b1, b1, b1, b1, b1, b1, b1, b1, b1, b1, b1, b1, b1, b1, b1, b1, b1, b1, b1, b1, b1, b1, b1, b1, b1, b1, b1, b1, b1, b1, b1, b1, b1, b1, b1, b0, b0, b0, b0, b0, b0, b0, b0, b0, b0, b0] rfl rfl (any_of HT_.out (by kernel_rfl)) (fun _ _ _ h => h) (Or.inl ⟨by rfl, ?_⟩) ?_ ?_
        rotate_left
        · intro w'
          go_simp
          with_reducible rfl
        rotate_left
        · simp only [Act.put, List.setIfInBounds_toArray, List.set_cons_zero, List.set_cons_succ, i64_w, i32_w]
          rfl
        refine pure_ (i := 92) (N := some 135) (v := ?_) (a' := ?_) #[b1, b1, b1, b1, b1, b1, b1, b1, b1, b1, b1, b1, b1, b1, b1, b1, b1, b1, b1, b1, b1, b1, b1, b1, b1, b1, b1, b1, b1, b1, b1, b1, b1, b1, b1, b1, b1, b1, b1, b1, b1, b1, b1, b1, b1, b1, b1, b1, b1, b1, b1, b1, b1, b1, b1, b1, b1, b1, b1, b1, b1, b1, b1, b1, b1, b1, b1, b1, b1, b1, b1, b1, b1, b1, b1, b1, b1, b1, b1, b1, b1, b1, b1, b1, b1, b1, b1, b1, b1, b1, b1, b1, b1, b0, b0, b0, b0, b0, b0, b0, b0, b0, b0] rfl rfl (any_of HT_.out (by kernel_rfl)) (fun _ _ _ h => h) (Or.inl ⟨by rfl, ?_⟩) ?_ ?_
        rotate_left
        · intro w'
          go_simp
          with_reducible rfl
        rotate_left
        · simp only [Act.put, List.setIfInBounds_toArray, List.set_cons_zero, List.set_cons_succ, i64_w, i32_w]
          rfl
        refine pure_ (i := 93) (N := some 136) (v := ?_) (a' := ?_) #[b1, b1, b1, b1, b1, b1, b1, b1, b1, b1, b1, b1, b1, b1, b1, b1, b1, b1, b1, b1, b1, b1, b1, b1, b1, b1, b1, b1, b1, b1, b1, b1, b1, b1, b1, b1, b1, b1, b1, b1, b1, b1, b1, b1, b1, b1, b1, b1, b1, b1, b1, b1, b1, b1, b1, b1, b1, b1, b1, b1, b1, b1, b1, b1, b1, b1, b1, b1, b1, b1, b1, b1, b1, b1, b1, b1, b1, b1, b1, b1, b1, b1, b1, b1, b1, b1, b1, b1, b1, b1, b1, b1, b1, b1, b0, b0, b0, b0, b0, b0, b0, b0, b0] rfl rfl (any_of HT_.out (by kernel_rfl)) (fun _ _ _ h => h) (Or.inl ⟨by rfl, ?_⟩) ?_ ?_
        rotate_left
        · intro w'
          go_simp
          with_reducible rfl
        rotate_left
        · simp only [Act.put, List.setIfInBounds_toArray, List.set_cons_zero, List.set_cons_succ, i64_w, i32_w]
          rfl
        refine one_ (i := 94) (N := some 137) #[b1, b1, b1, b1, b1, b1, b1, b1, b1, b1, b1, b1, b1, b1, b1, b1, b1, b1, b1, b1, b1, b1, b1, b1, b1, b1, b1, b1, b1, b1, b1, b1, b1, b1, b1, b1, b1, b1, b1, b1, b1, b1, b1, b1, b1, b1, b1, b1, b1, b1, b1, b1, b1, b1, b1, b1, b1, b1, b1, b1, b1, b1, b1, b1, b1, b1, b1, b1, b1, b1, b1, b1, b1, b1, b1, b1, b1, b1, b1, b1, b1, b1, b1, b1, b1, b1, b1, b1, b1, b1, b1, b1, b1, b1, b1, b0, b0, b0, b0, b0, b0, b0, b0] rfl rfl (one_of HT_.out (by kernel_rfl)) (by decide) (fun K hK => ?_)
        refine goes_ Tryz.func9 (by kernel_rfl) rfl #[.agg #[.int .i64 0, .int .i64 1, .string (⟨#[]⟩ : ByteArray), .complex .f64 0 0]] (by rfl) rfl rfl (by (try simp only [List.map_toArray, List.map_cons, List.map_nil]); first | done | rfl | (simp only [List.length_drop, List.length_take]; rfl)) ?_
        with_reducible refine (val_Check.calls k 0 1 (⟨#[]⟩ : ByteArray) ((0, 0) : Nat × Nat) t291 _ A46.out).mono ?_
        rintro e w113 ⟨rfl, hb⟩
        refine ⟨_, rfl, ?_⟩
        have n0_ := Aside0.mk (blk_below (g := gb204) (o := .cells #[.int .i64 t199, .int .i64 t200, .string t201, .complex .f64 t202.1 t202.2] 25 (0, 0)) BK204.out hb)
        have n1_ := Aside0.mk (blk_below (g := gb210) (o := .cells #[.int .i64 t205, .int .i64 t206, .string t207, .complex .f64 t208.1 t208.2] 25 (0, 0)) BK210.out hb)
        have n2_ := Aside0.mk (blk_below (g := gb216) (o := .cells #[.int .i64 t211, .int .i64 t212, .string t213, .complex .f64 t214.1 t214.2] 25 (0, 0)) BK216.out hb)
        have n3_ := Aside0.mk (blk_below (g := gb222) (o := .cells #[.int .i64 t217, .int .i64 t218, .string t219, .complex .f64 t220.1 t220.2] 25 (0, 0)) BK222.out hb)
        have n4_ := Aside0.mk (blk_below (g := gb228) (o := .cells #[.int .i64 t223, .int .i64 t224, .string t225, .complex .f64 t226.1 t226.2] 25 (0, 0)) BK228.out hb)
        have n5_ := Aside0.mk (blk_below (g := gb234) (o := .cells #[.int .i64 t229, .int .i64 t230, .string t231, .complex .f64 t232.1 t232.2] 25 (0, 0)) BK234.out hb)
        have n6_ := Aside0.mk (blk_below (g := gb240) (o := .cells #[.int .i64 t235, .int .i64 t236, .string t237, .complex .f64 t238.1 t238.2] 25 (0, 0)) BK240.out hb)
        have n7_ := Aside0.mk (below_step HB.out hb)
        clear BK204
        clear BK210
        clear BK216
        clear BK222
        clear BK228
        clear BK234
        clear BK240
        clear HB
        have BK204 := n0_
        have BK210 := n1_
        have BK216 := n2_
        have BK222 := n3_
        have BK228 := n4_
        have BK234 := n5_
        have BK240 := n6_
        have HB := n7_
        clear n0_ n1_ n2_ n3_ n4_ n5_ n6_ n7_
        (try clear hb)
        (try clear hb2)
        (try clear hk)
        (try clear hi)
        refine hK.out _ _ ⟨(blk_cell BK204.out 0).trans rfl, (blk_cell BK204.out 1).trans rfl, (blk_cell BK204.out 2).trans rfl, (blk_cell BK204.out 3).trans rfl, (blk_cell BK210.out 0).trans rfl, (blk_cell BK210.out 1).trans rfl, (blk_cell BK210.out 2).trans rfl, (blk_cell BK210.out 3).trans rfl, (blk_cell BK216.out 0).trans rfl, (blk_cell BK216.out 1).trans rfl, (blk_cell BK216.out 2).trans rfl, (blk_cell BK216.out 3).trans rfl, (blk_cell BK222.out 0).trans rfl, (blk_cell BK222.out 1).trans rfl, (blk_cell BK222.out 2).trans rfl, (blk_cell BK222.out 3).trans rfl⟩ (fun hHeld => ?_)
        clear hK K
        refine norm_ (a' := ?_) ?_ ?_
        rotate_left
        · show Act.put _ (some 137) _ = _
          simp only [Act.put, List.setIfInBounds_toArray, List.set_cons_zero, List.set_cons_succ, i64_w, i32_w]
          rfl
        refine pure_ (i := 95) (N := some 138) (v := ?_) (a' := ?_) #[b1, b1, b1, b1, b1, b1, b1, b1, b1, b1, b1, b1, b1, b1, b1, b1, b1, b1, b1, b1, b1, b1, b1, b1, b1, b1, b1, b1, b1, b1, b1, b1, b1, b1, b1, b1, b1, b1, b1, b1, b1, b1, b1, b1, b1, b1, b1, b1, b1, b1, b1, b1, b1, b1, b1, b1, b1, b1, b1, b1, b1, b1, b1, b1, b1, b1, b1, b1, b1, b1, b1, b1, b1, b1, b1, b1, b1, b1, b1, b1, b1, b1, b1, b1, b1, b1, b1, b1, b1, b1, b1, b1, b1, b1, b1, b1, b0, b0, b0, b0, b0, b0, b0] rfl rfl (any_of HT_.out (by kernel_rfl)) (fun _ _ _ h => h) (Or.inl ⟨by rfl, ?_⟩) ?_ ?_
        rotate_left
        · intro w'
          go_simp
          with_reducible rfl
        rotate_left
        · simp only [Act.put, List.setIfInBounds_toArray, List.set_cons_zero, List.set_cons_succ, i64_w, i32_w]
          rfl
        refine pure_ (i := 96) (N := some 139) (v := ?_) (a' := ?_) #[b1, b1, b1, b1, b1, b1, b1, b1, b1, b1, b1, b1, b1, b1, b1, b1, b1, b1, b1, b1, b1, b1, b1, b1, b1, b1, b1, b1, b1, b1, b1, b1, b1, b1, b1, b1, b1, b1, b1, b1, b1, b1, b1, b1, b1, b1, b1, b1, b1, b1, b1, b1, b1, b1, b1, b1, b1, b1, b1, b1, b1, b1, b1, b1, b1, b1, b1, b1, b1, b1, b1, b1, b1, b1, b1, b1, b1, b1, b1, b1, b1, b1, b1, b1, b1, b1, b1, b1, b1, b1, b1, b1, b1, b1, b1, b1, b1, b0, b0, b0, b0, b0, b0] rfl rfl (any_of HT_.out (by kernel_rfl)) (fun _ _ _ h => h) (Or.inl ⟨by rfl, ?_⟩) ?_ ?_
        rotate_left
        · intro w'
          go_simp
          with_reducible rfl
        rotate_left
        · simp only [Act.put, List.setIfInBounds_toArray, List.set_cons_zero, List.set_cons_succ, i64_w, i32_w]
          rfl
        refine pure_ (i := 97) (N := some 140) (v := ?_) (a' := ?_) #[b1, b1, b1, b1, b1, b1, b1, b1, b1, b1, b1, b1, b1, b1, b1, b1, b1, b1, b1, b1, b1, b1, b1, b1, b1, b1, b1, b1, b1, b1, b1, b1, b1, b1, b1, b1, b1, b1, b1, b1, b1, b1, b1, b1, b1, b1, b1, b1, b1, b1, b1, b1, b1, b1, b1, b1, b1, b1, b1, b1, b1, b1, b1, b1, b1, b1, b1, b1, b1, b1, b1, b1, b1, b1, b1, b1, b1, b1, b1, b1, b1, b1, b1, b1, b1, b1, b1, b1, b1, b1, b1, b1, b1, b1, b1, b1, b1, b1, b0, b0, b0, b0, b0] rfl rfl (any_of HT_.out (by kernel_rfl)) (fun _ _ _ h => h) (Or.inl ⟨by rfl, ?_⟩) ?_ ?_
        rotate_left
        · intro w'
          go_simp
          with_reducible rfl
        rotate_left
        · simp only [Act.put, List.setIfInBounds_toArray, List.set_cons_zero, List.set_cons_succ, i64_w, i32_w]
          rfl
        refine pure_ (i := 98) (N := some 141) (v := ?_) (a' := ?_) #[b1, b1, b1, b1, b1, b1, b1, b1, b1, b1, b1, b1, b1, b1, b1, b1, b1, b1, b1, b1, b1, b1, b1, b1, b1, b1, b1, b1, b1, b1, b1, b1, b1, b1, b1, b1, b1, b1, b1, b1, b1, b1, b1, b1, b1, b1, b1, b1, b1, b1, b1, b1, b1, b1, b1, b1, b1, b1, b1, b1, b1, b1, b1, b1, b1, b1, b1, b1, b1, b1, b1, b1, b1, b1, b1, b1, b1, b1, b1, b1, b1, b1, b1, b1, b1, b1, b1, b1, b1, b1, b1, b1, b1, b1, b1, b1, b1, b1, b1, b0, b0, b0, b0] rfl rfl (any_of HT_.out (by kernel_rfl)) (fun _ _ _ h => h) (Or.inl ⟨by rfl, ?_⟩) ?_ ?_
        rotate_left
        · intro w'
          go_simp
          with_reducible rfl
        rotate_left
        · simp only [Act.put, List.setIfInBounds_toArray, List.set_cons_zero, List.set_cons_succ, i64_w, i32_w]
          rfl
        refine one_ (i := 99) (N := some 142) #[b1, b1, b1, b1, b1, b1, b1, b1, b1, b1, b1, b1, b1, b1, b1, b1, b1, b1, b1, b1, b1, b1, b1, b1, b1, b1, b1, b1, b1, b1, b1, b1, b1, b1, b1, b1, b1, b1, b1, b1, b1, b1, b1, b1, b1, b1, b1, b1, b1, b1, b1, b1, b1, b1, b1, b1, b1, b1, b1, b1, b1, b1, b1, b1, b1, b1, b1, b1, b1, b1, b1, b1, b1, b1, b1, b1, b1, b1, b1, b1, b1, b1, b1, b1, b1, b1, b1, b1, b1, b1, b1, b1, b1, b1, b1, b1, b1, b1, b1, b1, b0, b0, b0] rfl rfl (one_of HT_.out (by kernel_rfl)) (by decide) (fun K hK => ?_)
        refine goes_ Tryz.func9 (by kernel_rfl) rfl #[.agg #[.int .i64 4, .int .i64 0, .string (⟨#[]⟩ : ByteArray), .complex .f64 0 0]] (by rfl) rfl rfl (by (try simp only [List.map_toArray, List.map_cons, List.map_nil]); first | done | rfl | (simp only [List.length_drop, List.length_take]; rfl)) ?_
        with_reducible refine (val_Check.calls k 4 0 (⟨#[]⟩ : ByteArray) ((0, 0) : Nat × Nat) t292 _ A48.out).mono ?_
        rintro e w114 ⟨rfl, hb⟩
        refine ⟨_, rfl, ?_⟩
        have n0_ := Aside0.mk (blk_below (g := gb204) (o := .cells #[.int .i64 t199, .int .i64 t200, .string t201, .complex .f64 t202.1 t202.2] 25 (0, 0)) BK204.out hb)
        have n1_ := Aside0.mk (blk_below (g := gb210) (o := .cells #[.int .i64 t205, .int .i64 t206, .string t207, .complex .f64 t208.1 t208.2] 25 (0, 0)) BK210.out hb)
        have n2_ := Aside0.mk (blk_below (g := gb216) (o := .cells #[.int .i64 t211, .int .i64 t212, .string t213, .complex .f64 t214.1 t214.2] 25 (0, 0)) BK216.out hb)
        have n3_ := Aside0.mk (blk_below (g := gb222) (o := .cells #[.int .i64 t217, .int .i64 t218, .string t219, .complex .f64 t220.1 t220.2] 25 (0, 0)) BK222.out hb)
        have n4_ := Aside0.mk (blk_below (g := gb228) (o := .cells #[.int .i64 t223, .int .i64 t224, .string t225, .complex .f64 t226.1 t226.2] 25 (0, 0)) BK228.out hb)
        have n5_ := Aside0.mk (blk_below (g := gb234) (o := .cells #[.int .i64 t229, .int .i64 t230, .string t231, .complex .f64 t232.1 t232.2] 25 (0, 0)) BK234.out hb)
        have n6_ := Aside0.mk (blk_below (g := gb240) (o := .cells #[.int .i64 t235, .int .i64 t236, .string t237, .complex .f64 t238.1 t238.2] 25 (0, 0)) BK240.out hb)
        have n7_ := Aside0.mk (below_step HB.out hb)
        clear BK204
        clear BK210
        clear BK216
        clear BK222
        clear BK228
        clear BK234
        clear BK240
        clear HB
        have BK204 := n0_
        have BK210 := n1_
        have BK216 := n2_
        have BK222 := n3_
        have BK228 := n4_
        have BK234 := n5_
        have BK240 := n6_
        have HB := n7_
        clear n0_ n1_ n2_ n3_ n4_ n5_ n6_ n7_
        (try clear hb)
        (try clear hb2)
        (try clear hk)
        (try clear hi)
        refine hK.out _ _ ⟨(blk_cell BK204.out 0).trans rfl, (blk_cell BK204.out 1).trans rfl, (blk_cell BK204.out 2).trans rfl, (blk_cell BK204.out 3).trans rfl, (blk_cell BK210.out 0).trans rfl, (blk_cell BK210.out 1).trans rfl, (blk_cell BK210.out 2).trans rfl, (blk_cell BK210.out 3).trans rfl, (blk_cell BK216.out 0).trans rfl, (blk_cell BK216.out 1).trans rfl, (blk_cell BK216.out 2).trans rfl, (blk_cell BK216.out 3).trans rfl, (blk_cell BK222.out 0).trans rfl, (blk_cell BK222.out 1).trans rfl, (blk_cell BK222.out 2).trans rfl, (blk_cell BK222.out 3).trans rfl⟩ (fun hHeld => ?_)
        clear hK K
        refine norm_ (a' := ?_) ?_ ?_
        rotate_left
        · show Act.put _ (some 142) _ = _
          simp only [Act.put, List.setIfInBounds_toArray, List.set_cons_zero, List.set_cons_succ, i64_w, i32_w]
          rfl
        refine pure_ (i := 100) (N := some 143) (v := ?_) (a' := ?_) #[b1, b1, b1, b1, b1, b1, b1, b1, b1, b1, b1, b1, b1, b1, b1, b1, b1, b1, b1, b1, b1, b1, b1, b1, b1, b1, b1, b1, b1, b1, b1, b1, b1, b1, b1, b1, b1, b1, b1, b1, b1, b1, b1, b1, b1, b1, b1, b1, b1, b1, b1, b1, b1, b1, b1, b1, b1, b1, b1, b1, b1, b1, b1, b1, b1, b1, b1, b1, b1, b1, b1, b1, b1, b1, b1, b1, b1, b1, b1, b1, b1, b1, b1, b1, b1, b1, b1, b1, b1, b1, b1, b1, b1, b1, b1, b1, b1, b1, b1, b1, b1, b0, b0] rfl rfl (any_of HT_.out (by kernel_rfl)) (fun _ _ _ h => h) (Or.inl ⟨by rfl, ?_⟩) ?_ ?_
        rotate_left
        · intro w'
          go_simp
          with_reducible rfl
        rotate_left
        · simp only [Act.put, List.setIfInBounds_toArray, List.set_cons_zero, List.set_cons_succ, i64_w, i32_w]
          rfl
        refine pure_ (i := 101) (N := some 144) (v := ?_) (a' := ?_) #[b1, b1, b1, b1, b1, b1, b1, b1, b1, b1, b1, b1, b1, b1, b1, b1, b1, b1, b1, b1, b1, b1, b1, b1, b1, b1, b1, b1, b1, b1, b1, b1, b1, b1, b1, b1, b1, b1, b1, b1, b1, b1, b1, b1, b1, b1, b1, b1, b1, b1, b1, b1, b1, b1, b1, b1, b1, b1, b1, b1, b1, b1, b1, b1, b1, b1, b1, b1, b1, b1, b1, b1, b1, b1, b1, b1, b1, b1, b1, b1, b1, b1, b1, b1, b1, b1, b1, b1, b1, b1, b1, b1, b1, b1, b1, b1, b1, b1, b1, b1, b1, b1, b0] rfl rfl (any_of HT_.out (by kernel_rfl)) (fun _ _ _ h => h) (Or.inl ⟨by rfl, ?_⟩) ?_ ?_
        rotate_left
        · intro w'
          go_simp
          with_reducible rfl
        rotate_left
        · simp only [Act.put, List.setIfInBounds_toArray, List.set_cons_zero, List.set_cons_succ, i64_w, i32_w]
          rfl
        refine pure_ (i := 102) (N := some 0) (v := ?_) (a' := ?_) #[b1, b1, b1, b1, b1, b1, b1, b1, b1, b1, b1, b1, b1, b1, b1, b1, b1, b1, b1, b1, b1, b1, b1, b1, b1, b1, b1, b1, b1, b1, b1, b1, b1, b1, b1, b1, b1, b1, b1, b1, b1, b1, b1, b1, b1, b1, b1, b1, b1, b1, b1, b1, b1, b1, b1, b1, b1, b1, b1, b1, b1, b1, b1, b1, b1, b1, b1, b1, b1, b1, b1, b1, b1, b1, b1, b1, b1, b1, b1, b1, b1, b1, b1, b1, b1, b1, b1, b1, b1, b1, b1, b1, b1, b1, b1, b1, b1, b1, b1, b1, b1, b1, b1] rfl rfl (any_of HT_.out (by kernel_rfl)) (fun _ _ _ h => h) (Or.inl ⟨by rfl, ?_⟩) ?_ ?_
        rotate_left
        · intro w'
          go_simp
          with_reducible rfl
        rotate_left
        · simp only [Act.put, List.setIfInBounds_toArray, List.set_cons_zero, List.set_cons_succ, i64_w, i32_w]
          rfl
        refine done_ (done_of HT_.out (by kernel_rfl)) ?_
        try go_wp2
        go_ret
        exact ⟨by first | rfl | (simp [errW_none, errW_some] <;> rfl) | (simp [*, errW_none, errW_some] <;> rfl), by repeat (first | (with_reducible first | exact HB.out | apply below_alloc | apply pw_below_drewN | apply below_drew1 | refine below_set ?_ GE204.out | refine below_set ?_ GE210.out | refine below_set ?_ GE216.out | refine below_set ?_ GE222.out | refine below_set ?_ GE228.out | refine below_set ?_ GE234.out | refine below_set ?_ GE240.out) | exact HB.out)⟩
      · rw [if_neg c47] at H
        exact absurd H (by simp)
    · rw [if_neg c45] at H
      exact absurd H (by simp)end Go.Proofs.YtaflcaillcjmmaaGreatDoor.PAll
