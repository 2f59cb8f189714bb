import Derived.Test.YtcpjlbdjnaaaiaaGreatDoorPAllx0
namespace Go.Proofs.YtcpjlbdjnaaaiaaGreatDoor.PAll
open Go.Proofs.YtcpjlbdjnaaaiaaGreatDoor.Help
open Go.RowKit Go.Proofs.YtcpjlbdjnaaaiaaGreatDoorW.PrintWords Go.Proofs.YtcpjlbdjnaaaiaaGreatDoorW.PrintLast Go.Proofs.YtcpjlbdjnaaaiaaGreatDoorW.PrintMore
set_option linter.unusedVariables false
set_option linter.unusedSimpArgs false
theorem eqA25 (d:Nat) (w:World) (x0 y0:Int) (x1 y1:Int) (x2 y2:ByteArray) (x3r x3i y3r y3i:Nat):
  (Op.equalIn (d+2) 25 (.agg #[.int .i64 x0,.int .i64 x1,.string x2,.complex .f64 x3r x3i]) (.agg #[.int .i64 y0,.int .i64 y1,.string y2,.complex .f64 y3r y3i])).run Tryz.prog w = .ok (x0 == y0 && (x1 == y1 && (x2.toList == y2.toList && (cEq x3r x3i y3r y3i)))) w:=by
 refine eqA_of Tryz.underlying25 kR ?_;refine eqf_cons (by rfl) (by go_simp;rfl) (by go_simp;rfl) (by go_simp) ?_;refine eqf_cons (by rfl) (by go_simp;rfl) (by go_simp;rfl) (by go_simp) ?_;refine eqf_cons (by rfl) (by go_simp;rfl) (by go_simp;rfl) (by go_simp) ?_;exact eqf_last (by rfl) hR hR (run_cx_eqIn _ _ _ _ _ _ _ .f64 Tryz.underlying23)
end Go.Proofs.YtcpjlbdjnaaaiaaGreatDoor.PAll
namespace Go.Proofs.YtcpjlbdjnaaaiaaGreatDoor.PAll
open Go.Proofs.YtcpjlbdjnaaaiaaGreatDoor.Help
open Go.RowKit Go.Proofs.YtcpjlbdjnaaaiaaGreatDoorW.PrintWords Go.Proofs.YtcpjlbdjnaaaiaaGreatDoorW.PrintLast Go.Proofs.YtcpjlbdjnaaaiaaGreatDoorW.PrintMore
set_option linter.unusedVariables false
set_option linter.unusedSimpArgs false
theorem eqA27 (d:Nat) (w:World) (x0r x0i y0r y0i:Nat) (x1r x1i y1r y1i:Nat):
  (Op.equalIn (d+2) 27 (.agg #[.complex .f64 x0r x0i,.complex .f64 x1r x1i]) (.agg #[.complex .f64 y0r y0i,.complex .f64 y1r y1i])).run Tryz.prog w = .ok (cEq x0r x0i y0r y0i && (cEq x1r x1i y1r y1i)) w:=by
 refine eqA_of Tryz.underlying27 kR ?_;refine eqf_cons (by rfl) hR hR (run_cx_eqIn _ _ _ _ _ _ _ .f64 Tryz.underlying23) ?_;exact eqf_last (by rfl) hR hR (run_cx_eqIn _ _ _ _ _ _ _ .f64 Tryz.underlying23)
end Go.Proofs.YtcpjlbdjnaaaiaaGreatDoor.PAll
namespace Go.Proofs.YtcpjlbdjnaaaiaaGreatDoor.PAll
open Go.Proofs.YtcpjlbdjnaaaiaaGreatDoor.Help
open Go.RowKit Go.Proofs.YtcpjlbdjnaaaiaaGreatDoorW.PrintWords Go.Proofs.YtcpjlbdjnaaaiaaGreatDoorW.PrintLast Go.Proofs.YtcpjlbdjnaaaiaaGreatDoorW.PrintMore
set_option linter.unusedVariables false
set_option linter.unusedSimpArgs false
theorem eqA117 (d:Nat) (w:World) (x0 y0:Int) (x1 y1:Int) (x2 y2:ByteArray) (x3r x3i y3r y3i:Nat):
  (Op.equalIn (d+2) 117 (.agg #[.int .i64 x0,.int .i64 x1,.string x2,.complex .f64 x3r x3i]) (.agg #[.int .i64 y0,.int .i64 y1,.string y2,.complex .f64 y3r y3i])).run Tryz.prog w = .ok (x0 == y0 && (x1 == y1 && (x2.toList == y2.toList && (cEq x3r x3i y3r y3i)))) w:=by
 refine eqA_of Tryz.underlying117 kR ?_;refine eqf_cons (by rfl) (by go_simp;rfl) (by go_simp;rfl) (by go_simp) ?_;refine eqf_cons (by rfl) (by go_simp;rfl) (by go_simp;rfl) (by go_simp) ?_;refine eqf_cons (by rfl) (by go_simp;rfl) (by go_simp;rfl) (by go_simp) ?_;exact eqf_last (by rfl) hR hR (run_cx_eqIn _ _ _ _ _ _ _ .f64 Tryz.underlying23)
end Go.Proofs.YtcpjlbdjnaaaiaaGreatDoor.PAll
