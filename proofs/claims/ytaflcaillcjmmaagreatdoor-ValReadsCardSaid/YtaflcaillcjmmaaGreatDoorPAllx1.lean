-- Printed by this session's own program (wip/tools/pp.py): out of the translation. Lean checks it.
import Derived.Test.YtaflcaillcjmmaaGreatDoorPAllx0
namespace Go.Proofs.YtaflcaillcjmmaaGreatDoor.PAll
open Go.Proofs.YtaflcaillcjmmaaGreatDoor.Help
open Go.RowKit Go.Proofs.YtaflcaillcjmmaaGreatDoorW.PrintWords Go.Proofs.YtaflcaillcjmmaaGreatDoorW.PrintLast Go.Proofs.YtaflcaillcjmmaaGreatDoorW.PrintMore
attribute [local go_sem] run_fl_eql run_fl_neq run_fl_lss run_fl_leq run_fl_gtr run_fl_geq unary_fl_neg run_cx_eql run_cx_neq run_cx_make run_cx_real run_cx_imag run_fl_of run_fl_to64 run_fl_add run_fl_sub run_fl_mul run_cx_add run_cx_sub run_cx_store run_fl_store str_gtr str_leq str_geq cell_put3_0 cell_put3_1 cell_put4_0 cell_put4_1 max2_int min2_int max_two min_two max_three min_three max_four min_four   -- for this text's walks alone
set_option linter.unusedVariables false
set_option linter.unusedSimpArgs false

theorem eqA25 (d : Nat) (w : World) (x0 y0 : Int) (x1 y1 : Int) (x2 y2 : ByteArray) (x3r x3i y3r y3i : Nat) :
    (Op.equalIn (d + 2) 25 (.agg #[.int .i64 x0, .int .i64 x1, .string x2, .complex .f64 x3r x3i]) (.agg #[.int .i64 y0, .int .i64 y1, .string y2, .complex .f64 y3r y3i])).run Tryz.prog w = .ok (x0 == y0 && (x1 == y1 && (x2.toList == y2.toList && (cEq x3r x3i y3r y3i)))) w := by
  refine eqA_of Tryz.underlying25 (by kernel_rfl) ?_
  refine eqf_cons (by rfl) (by go_simp; rfl) (by go_simp; rfl) (by go_simp) ?_
  refine eqf_cons (by rfl) (by go_simp; rfl) (by go_simp; rfl) (by go_simp) ?_
  refine eqf_cons (by rfl) (by go_simp; rfl) (by go_simp; rfl) (by go_simp) ?_
  exact eqf_last (by rfl) (by first | (go_simp; done) | (go_simp; rfl)) (by first | (go_simp; done) | (go_simp; rfl)) (run_cx_eqIn _ _ _ _ _ _ _ .f64 Tryz.underlying23)
end Go.Proofs.YtaflcaillcjmmaaGreatDoor.PAll
