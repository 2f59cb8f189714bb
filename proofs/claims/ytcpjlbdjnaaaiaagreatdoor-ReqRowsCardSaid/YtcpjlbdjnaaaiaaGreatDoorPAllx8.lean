import Derived.Test.YtcpjlbdjnaaaiaaGreatDoorPAllxM
namespace Go.Proofs.YtcpjlbdjnaaaiaaGreatDoor.PAll
open Go.Proofs.YtcpjlbdjnaaaiaaGreatDoor.Help
open Go.RowKit Go.Proofs.YtcpjlbdjnaaaiaaGreatDoorW.PrintWords Go.Proofs.YtcpjlbdjnaaaiaaGreatDoorW.PrintLast Go.Proofs.YtcpjlbdjnaaaiaaGreatDoorW.PrintMore
set_option linter.unusedVariables false
set_option linter.unusedSimpArgs false
attribute [local go_sem high] eqA25
def val_own.f (a0_0:Int) (a0_1:Int) (a0_2:ByteArray) (a0_3:(Nat×Nat)):Option (Int×Int×ByteArray×(Nat×Nat)):=if a0_0=1 then (some (1,a0_1,(⟨#[]⟩:ByteArray),((0,0):Nat×Nat))) else (if a0_0=2 then (some (2,0,a0_2,((0,0):Nat×Nat))) else (if a0_0=3 then (some (3,0,(⟨#[]⟩:ByteArray),a0_3)) else (some (a0_0,0,(⟨#[]⟩:ByteArray),((0,0):Nat×Nat)))))
set_option maxHeartbeats 8000000 in
set_option maxRecDepth 100000 in
theorem val_own.calls (a0_0:Int) (a0_1:Int) (a0_2:ByteArray) (a0_3:(Nat×Nat)) (r1:Int) (r2:Int) (r3:ByteArray) (r4:(Nat×Nat)) (w:World) (h:val_own.f a0_0 a0_1 a0_2 a0_3=some (r1,r2,r3,r4)):
  Calls Tryz.prog 76 #[.agg #[.int .i64 a0_0,.int .i64 a0_1,.string a0_2,.complex .f64 a0_3.1 a0_3.2]] w fun e w'=>e = .returned (.agg #[.int .i64 r1,.int .i64 r2,.string r3,.complex .f64 r4.1 r4.2])∧Below w.heap.size w w':=by
 have hu25:=Tryz.underlying25;have HB:=Mk (Below.refl w.heap.size w);have H:(if a0_0=1 then (some (1,a0_1,(⟨#[]⟩:ByteArray),((0,0):Nat×Nat))) else (if a0_0=2 then (some (2,0,a0_2,((0,0):Nat×Nat))) else (if a0_0=3 then (some (3,0,(⟨#[]⟩:ByteArray),a0_3)) else (some (a0_0,0,(⟨#[]⟩:ByteArray),((0,0):Nat×Nat))))))=some (r1,r2,r3,r4):=h;clear h;by_cases c2:a0_0=1
 ·rw [if_pos c2] at H
  have c2b0:=beq_iff_eq.mpr c2;have c2b1:=bne_eq_false_iff_eq.mpr c2;clear c2;simp only [Option.some.injEq,Prod.mk.injEq] at H;obtain ⟨rfl,rfl,rfl,rfl⟩:=H;go_enter Tryz.func76,Tryz.ntmps76
  go_wp2_with (first|((with_reducible refine gate_dst (N:=1) rfl ?_);refine boxE 1 #[.int .i64 a0_0,.int .i64 a0_1,.string a0_2,.complex .f64 a0_3.1 a0_3.2] 25 ?_;intro gb156 hg w3 hbox hb;have BK156:=Mk (hbox);have GW156:=Mk ((gS:w.heap.size≤gb156));have GE156:=Mk ((gS:w.heap.size≤gb156));replace HB:=Mk (below_step bB hb);clear hb hbox hg)|((with_reducible refine gate_dst (N:=2) rfl ?_);refine boxE 2 #[.int .i64 0,.int .i64 0,.string (⟨#[]⟩:ByteArray),.complex .f64 0 0] 25 ?_;intro gb157 hg w4 hbox hb;have BK157:=Mk (hbox);have GW157:=Mk ((gS:w.heap.size≤gb157));have GE157:=Mk ((gS:w.heap.size≤gb157));have NB156_157:=(gL BK156:Aside0 (gb156≠gb157));have NB157_156:=(gG BK156:Aside0 (gb157≠gb156));replace BK156:=bkb BK156 hb;replace HB:=Mk (below_step bB hb);clear hb hbox hg;have hnb5:=NB156_157.out;have hnc5:=NB157_156.out;obtain ⟨_,_,_,_,_,_,_,_⟩:=z4 BK156;obtain ⟨_,_,_,_,_,_,_,_⟩:=z4 BK157))
  refine bodyPost_ret (results_cell_row rfl _ _ gb157 25 #[.int .i64 1,.int .i64 a0_1,.string (⟨#[]⟩:ByteArray),.complex .f64 0 0] (0,0) _ rfl (bP BK157) Tryz.underlying25 rfl kR) rfl ?_;exact ⟨eW,bB⟩
 ·rw [if_neg c2] at H
  have c2b0:=beq_eq_false_iff_ne.mpr c2;have c2b1:=bne_iff_ne.mpr c2;by_cases c8:a0_0=2
  ·rw [if_pos c8] at H
   have c8b0:=beq_iff_eq.mpr c8;have c8b1:=bne_eq_false_iff_eq.mpr c8;clear c8;simp only [Option.some.injEq,Prod.mk.injEq] at H;obtain ⟨rfl,rfl,rfl,rfl⟩:=H;go_enter Tryz.func76,Tryz.ntmps76
   go_wp2_with (first|((with_reducible refine gate_dst (N:=1) rfl ?_);refine boxE 1 #[.int .i64 a0_0,.int .i64 a0_1,.string a0_2,.complex .f64 a0_3.1 a0_3.2] 25 ?_;intro gb156 hg w9 hbox hb;have BK156:=Mk (hbox);have GW156:=Mk ((gS:w.heap.size≤gb156));have GE156:=Mk ((gS:w.heap.size≤gb156));replace HB:=Mk (below_step bB hb);clear hb hbox hg)|((with_reducible refine gate_dst (N:=2) rfl ?_);refine boxE 2 #[.int .i64 0,.int .i64 0,.string (⟨#[]⟩:ByteArray),.complex .f64 0 0] 25 ?_;intro gb157 hg w10 hbox hb;have BK157:=Mk (hbox);have GW157:=Mk ((gS:w.heap.size≤gb157));have GE157:=Mk ((gS:w.heap.size≤gb157));have NB156_157:=(gL BK156:Aside0 (gb156≠gb157));have NB157_156:=(gG BK156:Aside0 (gb157≠gb156));replace BK156:=bkb BK156 hb;replace HB:=Mk (below_step bB hb);clear hb hbox hg;have hnb11:=NB156_157.out;have hnc11:=NB157_156.out;obtain ⟨_,_,_,_,_,_,_,_⟩:=z4 BK156;obtain ⟨_,_,_,_,_,_,_,_⟩:=z4 BK157))
   refine bodyPost_ret (results_cell_row rfl _ _ gb157 25 #[.int .i64 2,.int .i64 0,.string a0_2,.complex .f64 0 0] (0,0) _ rfl (bP BK157) Tryz.underlying25 rfl kR) rfl ?_;exact ⟨eW,bB⟩
  ·rw [if_neg c8] at H
   have c8b0:=beq_eq_false_iff_ne.mpr c8;have c8b1:=bne_iff_ne.mpr c8;by_cases c14:a0_0=3
   ·rw [if_pos c14] at H
    have c14b0:=beq_iff_eq.mpr c14;have c14b1:=bne_eq_false_iff_eq.mpr c14;clear c14;simp only [Option.some.injEq,Prod.mk.injEq] at H;obtain ⟨rfl,rfl,rfl,rfl⟩:=H;go_enter Tryz.func76,Tryz.ntmps76
    go_wp2_with (first|((with_reducible refine gate_dst (N:=1) rfl ?_);refine boxE 1 #[.int .i64 a0_0,.int .i64 a0_1,.string a0_2,.complex .f64 a0_3.1 a0_3.2] 25 ?_;intro gb156 hg w15 hbox hb;have BK156:=Mk (hbox);have GW156:=Mk ((gS:w.heap.size≤gb156));have GE156:=Mk ((gS:w.heap.size≤gb156));replace HB:=Mk (below_step bB hb);clear hb hbox hg)|((with_reducible refine gate_dst (N:=2) rfl ?_);refine boxE 2 #[.int .i64 0,.int .i64 0,.string (⟨#[]⟩:ByteArray),.complex .f64 0 0] 25 ?_;intro gb157 hg w16 hbox hb;have BK157:=Mk (hbox);have GW157:=Mk ((gS:w.heap.size≤gb157));have GE157:=Mk ((gS:w.heap.size≤gb157));have NB156_157:=(gL BK156:Aside0 (gb156≠gb157));have NB157_156:=(gG BK156:Aside0 (gb157≠gb156));replace BK156:=bkb BK156 hb;replace HB:=Mk (below_step bB hb);clear hb hbox hg;have hnb17:=NB156_157.out;have hnc17:=NB157_156.out;obtain ⟨_,_,_,_,_,_,_,_⟩:=z4 BK156;obtain ⟨_,_,_,_,_,_,_,_⟩:=z4 BK157))
    refine bodyPost_ret (results_cell_row rfl _ _ gb157 25 #[.int .i64 3,.int .i64 0,.string (⟨#[]⟩:ByteArray),.complex .f64 a0_3.1 a0_3.2] (0,0) _ rfl (bP BK157) Tryz.underlying25 rfl kR) rfl ?_;exact ⟨eW,bB⟩
   ·rw [if_neg c14] at H
    have c14b0:=beq_eq_false_iff_ne.mpr c14;have c14b1:=bne_iff_ne.mpr c14;simp only [Option.some.injEq,Prod.mk.injEq] at H;obtain ⟨rfl,rfl,rfl,rfl⟩:=H;go_enter Tryz.func76,Tryz.ntmps76
    go_wp2_with (first|((with_reducible refine gate_dst (N:=1) rfl ?_);refine boxE 1 #[.int .i64 a0_0,.int .i64 a0_1,.string a0_2,.complex .f64 a0_3.1 a0_3.2] 25 ?_;intro gb156 hg w20 hbox hb;have BK156:=Mk (hbox);have GW156:=Mk ((gS:w.heap.size≤gb156));have GE156:=Mk ((gS:w.heap.size≤gb156));replace HB:=Mk (below_step bB hb);clear hb hbox hg)|((with_reducible refine gate_dst (N:=2) rfl ?_);refine boxE 2 #[.int .i64 0,.int .i64 0,.string (⟨#[]⟩:ByteArray),.complex .f64 0 0] 25 ?_;intro gb157 hg w21 hbox hb;have BK157:=Mk (hbox);have GW157:=Mk ((gS:w.heap.size≤gb157));have GE157:=Mk ((gS:w.heap.size≤gb157));have NB156_157:=(gL BK156:Aside0 (gb156≠gb157));have NB157_156:=(gG BK156:Aside0 (gb157≠gb156));replace BK156:=bkb BK156 hb;replace HB:=Mk (below_step bB hb);clear hb hbox hg;have hnb22:=NB156_157.out;have hnc22:=NB157_156.out;obtain ⟨_,_,_,_,_,_,_,_⟩:=z4 BK156;obtain ⟨_,_,_,_,_,_,_,_⟩:=z4 BK157))
    refine bodyPost_ret (results_cell_row rfl _ _ gb157 25 #[.int .i64 a0_0,.int .i64 0,.string (⟨#[]⟩:ByteArray),.complex .f64 0 0] (0,0) _ rfl (bP BK157) Tryz.underlying25 rfl kR) rfl ?_;exact ⟨eW,bB⟩
def truncWay (a:Nat):Ieee.Datum→Sem Value
 | .nan s t=>(if FloatKind.f64.format.quiet t=t then pure (.float .f64 a) else do
   let kept←choose (.extern "math.Floor,Ceil,Trunc,RoundToEven.signallingNaN kept" 2)
   pure (.float .f64 (if kept == 1 then a else FloatKind.f64.encode (.nan s (FloatKind.f64.format.quiet t)))))
 |d=>pure (.float .f64 (FloatKind.f64.encode (d.integral .zero)))
theorem f_toIntegral (a:Nat):Extern.MathFloor.toIntegral "math.archTrunc" .zero #[.float .f64 a]=truncWay a (FloatKind.f64.decode a):=by kernel_rfl
theorem f_archTrunc {a:Nat} (h:fNaN a=false) (W:World):(callFunc 145 #[.float .f64 a]).run Tryz.prog W = .ok (.value (.float .f64 (fTrunc a))) W:=by
 rw [run_callFunc_extern Tryz.func145 kR kR kR (e:=Extern.MathFloor.toIntegral "math.archTrunc" .zero) kR]
 rw [f_toIntegral];unfold fTrunc;unfold fNaN at h
 generalize FloatKind.f64.decode a=d at *
 cases d with
 |nan s t=>cases h
 |number s m e=>rfl
 |infinity s=>rfl
def math_Trunc.f (a0:Nat):Option Nat:=if fNaN a0=true then none else some (fTrunc a0)
theorem math_Trunc.calls (a0:Nat) (r:Nat) (w:World) (h:math_Trunc.f a0=some r):
  Calls Tryz.prog 125 #[.float .f64 a0] w fun e w'=>e = .returned (.float .f64 r)∧Drawn0 w w':=by
 unfold math_Trunc.f at h
 split at h
 ·cases h
 ·rename_i hn
  obtain rfl:=Option.some.inj h;clear h;have h:=f_archTrunc (a:=a0) (by simpa using hn);clear hn;go_enter Tryz.func125,Tryz.ntmps125
  go_wp2
  all_goals go_ret
  all_goals exact ⟨rfl,Drawn0.refl _⟩
theorem f_bits (b:Nat) (W:World):(callFunc 148 #[.float .f64 b]).run Tryz.prog W = .ok (.value (.int .u64 b)) W:=by
 rw [run_callFunc_extern Tryz.func148 kR kR kR (e:=Extern.MathFloatBits.float64bits) kR];rfl
theorem f_frombits (n:Int) (W:World):(callFunc 147 #[.int .u64 n]).run Tryz.prog W = .ok (.value (.float .f64 n.toNat)) W:=by
 rw [run_callFunc_extern Tryz.func147 kR kR kR (e:=Extern.MathFloatBits.float64frombits) kR];rfl
def math_Abs.f (a0:Nat):Option Nat:=some (fAbs a0)
theorem math_Abs.calls (a0:Nat) (r:Nat) (w:World) (h:math_Abs.f a0=some r):
  Calls Tryz.prog 126 #[.float .f64 a0] w fun e w'=>e = .returned (.float .f64 r)∧Drawn0 w w':=by
 unfold math_Abs.f at h;obtain rfl:=Option.some.inj h;clear h;have h:=f_bits a0;have h2:∀ W,(callFunc 147 #[.int .u64 (Go.bits .andNot .u64 (a0:Int) 9223372036854775808)]).run Tryz.prog W = .ok (.value (.float .f64 (fAbs a0))) W:=f_frombits _;go_enter Tryz.func126,Tryz.ntmps126
 go_wp2
 all_goals go_ret
 all_goals exact ⟨rfl,Drawn0.refl _⟩
def point_whole.f (a0:Nat):Option (Bool):=(math_Trunc.f a0).bind fun t158=>(if fEq a0 t158=true then ((math_Abs.f a0).bind fun t159=>(some (fLe t159 4697254411347427328))) else (some false))
set_option maxHeartbeats 8000000 in
set_option maxRecDepth 100000 in
theorem point_whole.calls (a0:Nat) (r:Bool) (w:World) (h:point_whole.f a0=some r):
  Calls Tryz.prog 96 #[.float .f64 a0] w fun e w'=>e = .returned (.bool r)∧Drawn0 w w':=by
 have H:((math_Trunc.f a0).bind fun t158=>(if fEq a0 t158=true then ((math_Abs.f a0).bind fun t159=>(some (fLe t159 4697254411347427328))) else (some false)))=some r:=h;clear h;replace H:=Option.bind_eq_some_iff.mp H;obtain ⟨t158,A20,H⟩:=H;try dsimp only at H
 have A2:=Mk A20;clear A20;by_cases c3:fEq a0 t158=true
 ·rw [if_pos c3] at H
  have c3b0:fEq a0 t158=true:=c3;clear c3;replace H:=Option.bind_eq_some_iff.mp H;obtain ⟨t159,A40,H⟩:=H;try dsimp only at H
  have A4:=Mk A40;clear A40;obtain rfl:=Option.some.inj H;go_enter Tryz.func96,Tryz.ntmps96
  go_wp2_with (first|(go_at_call 125;(with_reducible refine (math_Trunc.calls a0 t158 _ A2.out).mono ?_);rintro e w' ⟨rfl,⟨nd,rfl⟩⟩)|(go_at_call 126;(with_reducible refine (math_Abs.calls a0 t159 _ A4.out).mono ?_);rintro e w' ⟨rfl,⟨nd,rfl⟩⟩))
  go_ret
  exact ⟨by first|rfl|(simp;done)|(simp [*];done),by repeat (first|exact Drawn0.refl _|apply Drawn0.step)⟩
 ·rw [if_neg c3] at H
  have c3b0:fEq a0 t158=false:=by simpa using c3
  clear c3;obtain rfl:=Option.some.inj H;go_enter Tryz.func96,Tryz.ntmps96
  go_wp2_with (first|(go_at_call 125;(with_reducible refine (math_Trunc.calls a0 t158 _ A2.out).mono ?_);rintro e w' ⟨rfl,⟨nd,rfl⟩⟩))
  go_ret
  exact ⟨by first|rfl|(simp;done)|(simp [*];done),by repeat (first|exact Drawn0.refl _|apply Drawn0.step)⟩
def point_Good.f (a0:(Nat×Nat)):Option (Bool):=(point_whole.f a0.1).bind fun t160=>(if t160=true then ((point_whole.f a0.2).bind fun t161=>(some t161)) else (some false))
set_option maxHeartbeats 8000000 in
set_option maxRecDepth 100000 in
theorem point_Good.calls (a0:(Nat×Nat)) (r:Bool) (w:World) (h:point_Good.f a0=some r):
  Calls Tryz.prog 77 #[.complex .f64 a0.1 a0.2] w fun e w'=>e = .returned (.bool r)∧Drawn0 w w':=by
 have H:((point_whole.f a0.1).bind fun t160=>(if t160=true then ((point_whole.f a0.2).bind fun t161=>(some t161)) else (some false)))=some r:=h;clear h;replace H:=Option.bind_eq_some_iff.mp H;obtain ⟨t160,A20,H⟩:=H;try dsimp only at H
 have A2:=Mk A20;clear A20;by_cases c3:t160=true
 ·subst c3
  rw [if_pos rfl] at H;try dsimp only at H
  replace H:=Option.bind_eq_some_iff.mp H;obtain ⟨t161,A40,H⟩:=H;try dsimp only at H
  have A4:=Mk A40;clear A40;obtain rfl:=Option.some.inj H;go_enter Tryz.func77,Tryz.ntmps77
  go_wp2_with (first|(go_at_call 96;(with_reducible refine (point_whole.calls a0.1 true _ A2.out).mono ?_);rintro e w' ⟨rfl,⟨nd,rfl⟩⟩)|(go_at_call 96;(with_reducible refine (point_whole.calls a0.2 t161 _ A4.out).mono ?_);rintro e w' ⟨rfl,⟨nd,rfl⟩⟩))
  go_ret
  exact ⟨by first|rfl|(simp;done)|(simp [*];done),by repeat (first|exact Drawn0.refl _|apply Drawn0.step)⟩
 ·replace c3:=Bool.eq_false_iff.mpr c3
  subst c3;rw [if_neg (show ¬ (false=true) by decide)] at H;try dsimp only at H
  obtain rfl:=Option.some.inj H;go_enter Tryz.func77,Tryz.ntmps77
  go_wp2_with (first|(go_at_call 96;(with_reducible refine (point_whole.calls a0.1 false _ A2.out).mono ?_);rintro e w' ⟨rfl,⟨nd,rfl⟩⟩))
  go_ret
  exact ⟨by first|rfl|(simp;done)|(simp [*];done),by repeat (first|exact Drawn0.refl _|apply Drawn0.step)⟩
mutual
def val_Check.j0:Nat→Int→Bool→Int→Int→ByteArray→(Nat×Nat)→Option (Int)
 | 0,_,_,_,_,_,_=>none
 |k+1,x2,x10,x163000,x163001,x163002,x163003=>if x10=true then (some 6) else ((val_own.f x163000 x163001 x163002 x163003).bind fun bt163=>(if (!(x163000 == bt163.1) || (!(x163001 == bt163.2.1) || (!(x163002.toList == bt163.2.2.1.toList) || (!cEq x163003.1 x163003.2 bt163.2.2.2.1 bt163.2.2.2.2))))=true then (val_Check.j1 k x2 true x163000 x163001 x163002 x163003) else ((point_Good.f x163003).bind fun t167=>(val_Check.j1 k x2 (!t167) x163000 x163001 x163002 x163003))))
def val_Check.j1:Nat→Int→Bool→Int→Int→ByteArray→(Nat×Nat)→Option (Int)
 | 0,_,_,_,_,_,_=>none
 |k+1,x2,x20,x163000,x163001,x163002,x163003=>if x20=true then (some 1) else (if (x163002.size:Int) > 255 then (some 4) else (some x2))
end
def val_Check.f (k:Nat) (a0_0:Int) (a0_1:Int) (a0_2:ByteArray) (a0_3:(Nat×Nat)):Option (Int):=if a0_0 < 0 then (val_Check.j0 k 0 true a0_0 a0_1 a0_2 a0_3) else (val_Check.j0 k 0 (decide (a0_0 > 3)) a0_0 a0_1 a0_2 a0_3)
def val_Check.T3:Bool×List (List Nat×List Nat):=(true,[([],[]),([],[]),([1],[1]),([0,2],[0,2]),([3,2],[3]),([4],[4]),([5,4],[4,5]),([6,4,4],[4,6]),([7,4],[4,7]),([4,8],[4,8])])
def val_Check.B3:List Nat:=[0,0,2,7,15,31,63,127,255,511]
theorem val_Check.tab3:rtab .any (opsOf Tryz.f51 3)=val_Check.T3:=by kernel_rfl
theorem val_Check.bits3:waitsOk val_Check.T3.2 val_Check.B3=true:=by kernel_rfl
set_option maxHeartbeats 8000000 in
set_option maxRecDepth 100000 in
theorem val_Check.calls (k:Nat) (a0_0:Int) (a0_1:Int) (a0_2:ByteArray) (a0_3:(Nat×Nat)) (r:Int) (w:World) (h:val_Check.f k a0_0 a0_1 a0_2 a0_3=some r):
  Calls Tryz.prog 51 #[.agg #[.int .i64 a0_0,.int .i64 a0_1,.string a0_2,.complex .f64 a0_3.1 a0_3.2]] w fun e w'=>e = .returned (.int .i64 r)∧Below w.heap.size w w':=by
 have hu25:=Tryz.underlying25;have HB:=Mk (Below.refl w.heap.size w);have H:(if a0_0 < 0 then (val_Check.j0 k 0 true a0_0 a0_1 a0_2 a0_3) else (val_Check.j0 k 0 (decide (a0_0 > 3)) a0_0 a0_1 a0_2 a0_3))=some r:=h;clear h;have HC2:=Mk H;clear H;go_enter Tryz.func51,Tryz.ntmps51
 try go_wp2_with (first|((with_reducible refine gate_dst (N:=1) rfl ?_);refine boxE 1 #[.int .i64 a0_0,.int .i64 a0_1,.string a0_2,.complex .f64 a0_3.1 a0_3.2] 25 ?_;intro gb162 hg w3 hbox hb;have BK162:=Mk (hbox);have GW162:=Mk ((gS:w.heap.size≤gb162));have GE162:=Mk ((gS:w.heap.size≤gb162));replace HB:=Mk (below_step bB hb);clear hb hbox hg))
 refine wp_scope_labs ?_;intro G_ hG_
 go_upto_region 1 with (fail)
 go_cut [10] (fun v10 wc=>∃ (kq:Nat) (x10_1:Bool),v10 = .bool x10_1∧Aside0 (val_Check.j0 kq 0 x10_1 a0_0 a0_1 a0_2 a0_3=some r)∧Aside0 (kq≤k)∧Aside0 (wc.heap[gb162]?=some (.cells #[.int .i64 a0_0,.int .i64 a0_1,.string a0_2,.complex .f64 a0_3.1 a0_3.2] 25 (0,0)))∧Aside0 (Below w.heap.size w wc))
 case first=>
  have H:=HC2.out;clear HC2;by_cases c4:a0_0 < 0
  ·rw [if_pos c4] at H
   have c4b0:=decide_eq_true c4;clear c4;(first|rw [c4b0]|(simp only [i64_w,i32_w];rw [c4b0])|skip);have H':=Mk H;clear H;obtain ⟨_,_,_,_,_,_,_,_⟩:=z4 BK162
   go_wp2
   go_meet
   case rel=>exact ⟨_,(true),sS,H',⟨by first|omega|exact Nat.le_refl _⟩,⟨by (with_reducible repeat refine bU ?_);exact BK162.out⟩,⟨bB⟩⟩
  ·rw [if_neg c4] at H
   have c4b0:=decide_eq_false c4;clear c4;(first|rw [c4b0]|(simp only [i64_w,i32_w];rw [c4b0])|skip);have H':=Mk H;clear H;obtain ⟨_,_,_,_,_,_,_,_⟩:=z4 BK162
   go_wp2
   go_meet
   case rel=>exact ⟨_,(decide (a0_0 > 3)),sS,H',⟨by first|omega|exact Nat.le_refl _⟩,⟨by (with_reducible repeat refine bU ?_);exact BK162.out⟩,⟨bB⟩⟩
 case rest=>
  clear HC2;try clear p2
  try clear c4
  try clear c4b0
  try clear c5
  obtain ⟨kq,x10_1,rfl,HA,HJ1,BK162,HB⟩:=hcut
  cases kq with
  |zero=>exact absurd HA.out (by simp [val_Check.j0])
  |succ kj1=>
   have H:=HA.out;clear HA;simp only [val_Check.j0] at H;by_cases c7:x10_1=true
   ·subst c7
    rw [if_pos rfl] at H;try dsimp only at H
    obtain rfl:=Option.some.inj H;try go_wp2
    go_step3
    refine hG_ 0 _ _ _ (by rfl) ?_;try go_wp2
    try rw [labs_ret]
    go_ret
    exact ⟨eW,bB⟩
   ·replace c7:=Bool.eq_false_iff.mpr c7
    subst c7;rw [if_neg (show ¬ (false=true) by decide)] at H;try dsimp only at H
    have HC8:=Mk H;clear H
    go_upto_region 3 with (fail)
    go_cut [20] (fun v20 wc=>∃ (kq:Nat) (x20_7:Bool),v20 = .bool x20_7∧Aside0 (val_Check.j1 kq 0 x20_7 a0_0 a0_1 a0_2 a0_3=some r)∧Aside0 (kq≤kj1)∧Aside0 (wc.heap[gb162]?=some (.cells #[.int .i64 a0_0,.int .i64 a0_1,.string a0_2,.complex .f64 a0_3.1 a0_3.2] 25 (0,0)))∧Aside0 (Below w.heap.size w wc))
    case first=>
     have H:=HC8.out;clear HC8;replace H:=Option.bind_eq_some_iff.mp H;obtain ⟨⟨t163,t164,t165,t166⟩,A90,H⟩:=H;try dsimp only at H
     have A9:=Mk A90;clear A90;by_cases c10:(!(a0_0 == t163) || (!(a0_1 == t164) || (!(a0_2.toList == t165.toList) || (!cEq a0_3.1 a0_3.2 t166.1 t166.2))))=true
     ·rw [if_pos c10] at H
      have c10b0:(!(a0_0 == t163) || (!(a0_1 == t164) || (!(a0_2.toList == t165.toList) || (!cEq a0_3.1 a0_3.2 t166.1 t166.2))))=true:=c10;clear c10;(first|rw [c10b0]|(simp only [i64_w,i32_w];rw [c10b0])|skip);have H':=Mk H;clear H;try go_wp2
      replace BK162:=Mk (blk_drew BK162.out);replace HB:=Mk (below_drew1 HB.out);refine start_ (n:=10) (S:=fun w'=>w'.cell? ⟨gb162,0,none⟩=some (.int .i64 a0_0)∧w'.cell? ⟨gb162,1,none⟩=some (.int .i64 a0_1)∧w'.cell? ⟨gb162,2,none⟩=some (.string a0_2)∧w'.cell? ⟨gb162,3,none⟩=some (.complex .f64 a0_3.1 a0_3.2)) (ds:=[]) #[b0,b0,b0,b0,b0,b0,b0,b0,b0,b0] kR rfl rfl ⟨(blk_cell BK162.out 0).trans rfl,(blk_cell BK162.out 1).trans rfl,(blk_cell BK162.out 2).trans rfl,(blk_cell BK162.out 3).trans rfl⟩ (fun hHeld=>?_);refine with_tabW val_Check.tab3 val_Check.bits3 (fun HT_ HW_=>?_)
      generalize wc.drew=w11 at BK162 HB hHeld ⊢
      refine take_ (i:=0) (N:=some 11) (v:=?_) (a':=?_) (fl 10 1) rfl rfl (tO HT_ HW_) fI (Or.inl ⟨by rfl,?_⟩) hHeld ?_ ?_;rotate_left
      ·rintro w' ⟨s0,s1,s2,s3⟩
       go_simp
       with_reducible rfl
      rotate_left
      ·exact pA
      refine take_ (i:=1) (N:=some 12) (v:=?_) (a':=?_) (fl 10 3) rfl rfl (tO HT_ HW_) fI (Or.inl ⟨by rfl,?_⟩) hHeld ?_ ?_;rotate_left
      ·rintro w' ⟨s0,s1,s2,s3⟩
       go_simp
       with_reducible rfl
      rotate_left
      ·exact pA
      refine one_ (i:=2) (N:=some 13) (fl 10 7) rfl rfl (oO HT_) (by decide) (fun K hK=>?_);refine goes_ Tryz.func76 kR rfl #[.agg #[.int .i64 a0_0,.int .i64 a0_1,.string a0_2,.complex .f64 a0_3.1 a0_3.2]] (by rfl) rfl rfl mA ?_;with_reducible refine (val_own.calls a0_0 a0_1 a0_2 a0_3 t163 t164 t165 t166 _ A9.out).mono ?_
      rintro e w12 ⟨rfl,hb⟩;refine ⟨_,rfl,?_⟩;replace BK162:=bkb BK162 hb;replace HB:=Mk (below_step bB hb);(try clear hb);(try clear hb2);(try clear hk);(try clear hi);refine hK.out _ _ ⟨(blk_cell BK162.out 0).trans rfl,(blk_cell BK162.out 1).trans rfl,(blk_cell BK162.out 2).trans rfl,(blk_cell BK162.out 3).trans rfl⟩ (fun hHeld=>?_);clear hK K;refine norm_ (a':=?_) ?_ ?_;rotate_left
      ·show Act.put _ (some 13) _=_
       simp only [Act.put,List.setIfInBounds_toArray,List.set_cons_zero,List.set_cons_succ,i64_w,i32_w];rfl
      refine pure_ (i:=3) (N:=some 14) (v:=?_) (a':=?_) (fl 10 15) rfl rfl (aO HT_) fI (Or.inl ⟨by rfl,?_⟩) ?_ ?_;rotate_left
      ·intro w'
       go_simp
       with_reducible rfl
      rotate_left
      ·exact pA
      refine pure_ (i:=4) (N:=some 15) (v:=?_) (a':=?_) (fl 10 31) rfl rfl (aO HT_) fI (Or.inl ⟨by rfl,?_⟩) ?_ ?_;rotate_left
      ·intro w'
       go_simp
       with_reducible rfl
      rotate_left
      ·exact pA
      refine pure_ (i:=5) (N:=some 16) (v:=undef) (a':=?_) (fl 10 63) rfl rfl (aO HT_) fI (Or.inr ⟨by rfl,rfl⟩) ?_ ?_;rotate_left
      ·exact pA
      refine pure_ (i:=6) (N:=some 17) (v:=undef) (a':=?_) (fl 10 127) rfl rfl (aO HT_) fI (Or.inr ⟨by rfl,rfl⟩) ?_ ?_;rotate_left
      ·exact pA
      refine pure_ (i:=7) (N:=some 18) (v:=undef) (a':=?_) (fl 10 255) rfl rfl (aO HT_) fI (Or.inr ⟨by rfl,rfl⟩) ?_ ?_;rotate_left
      ·exact pA
      refine pure_ (i:=8) (N:=some 19) (v:=undef) (a':=?_) (fl 10 511) rfl rfl (aO HT_) fI (Or.inr ⟨by rfl,rfl⟩) ?_ ?_;rotate_left
      ·exact pA
      refine pure_ (i:=9) (N:=some 20) (v:=?_) (a':=?_) (fl 10 1023) rfl rfl (aO HT_) fI (Or.inl ⟨by rfl,?_⟩) ?_ ?_;rotate_left
      ·intro w'
       go_simp
       with_reducible rfl
      rotate_left
      ·exact pA
      refine done_ (done_of HT_.out kR) ?_;try go_wp2
      go_meet
      case rel=>exact ⟨_,(true),sS,H',⟨by have:=HJ1.out;first|omega|exact Nat.le_refl _⟩,⟨by (with_reducible repeat refine bU ?_);exact BK162.out⟩,⟨bB⟩⟩
     ·rw [if_neg c10] at H
      have c10b0:(!(a0_0 == t163) || (!(a0_1 == t164) || (!(a0_2.toList == t165.toList) || (!cEq a0_3.1 a0_3.2 t166.1 t166.2))))=false:=by simpa using c10
      clear c10;(first|rw [c10b0]|(simp only [i64_w,i32_w];rw [c10b0])|skip);replace H:=Option.bind_eq_some_iff.mp H;obtain ⟨t167,A130,H⟩:=H;try dsimp only at H
      have A13:=Mk A130;clear A130;have H':=Mk H;clear H;try go_wp2
      replace BK162:=Mk (blk_drew BK162.out);replace HB:=Mk (below_drew1 HB.out);refine start_ (n:=10) (S:=fun w'=>w'.cell? ⟨gb162,0,none⟩=some (.int .i64 a0_0)∧w'.cell? ⟨gb162,1,none⟩=some (.int .i64 a0_1)∧w'.cell? ⟨gb162,2,none⟩=some (.string a0_2)∧w'.cell? ⟨gb162,3,none⟩=some (.complex .f64 a0_3.1 a0_3.2)) (ds:=[]) #[b0,b0,b0,b0,b0,b0,b0,b0,b0,b0] kR rfl rfl ⟨(blk_cell BK162.out 0).trans rfl,(blk_cell BK162.out 1).trans rfl,(blk_cell BK162.out 2).trans rfl,(blk_cell BK162.out 3).trans rfl⟩ (fun hHeld=>?_);refine with_tabW val_Check.tab3 val_Check.bits3 (fun HT_ HW_=>?_)
      generalize wc.drew=w14 at BK162 HB hHeld ⊢
      refine take_ (i:=0) (N:=some 11) (v:=?_) (a':=?_) (fl 10 1) rfl rfl (tO HT_ HW_) fI (Or.inl ⟨by rfl,?_⟩) hHeld ?_ ?_;rotate_left
      ·rintro w' ⟨s0,s1,s2,s3⟩
       go_simp
       with_reducible rfl
      rotate_left
      ·exact pA
      refine take_ (i:=1) (N:=some 12) (v:=?_) (a':=?_) (fl 10 3) rfl rfl (tO HT_ HW_) fI (Or.inl ⟨by rfl,?_⟩) hHeld ?_ ?_;rotate_left
      ·rintro w' ⟨s0,s1,s2,s3⟩
       go_simp
       with_reducible rfl
      rotate_left
      ·exact pA
      refine one_ (i:=2) (N:=some 13) (fl 10 7) rfl rfl (oO HT_) (by decide) (fun K hK=>?_);refine goes_ Tryz.func76 kR rfl #[.agg #[.int .i64 a0_0,.int .i64 a0_1,.string a0_2,.complex .f64 a0_3.1 a0_3.2]] (by rfl) rfl rfl mA ?_;with_reducible refine (val_own.calls a0_0 a0_1 a0_2 a0_3 t163 t164 t165 t166 _ A9.out).mono ?_
      rintro e w15 ⟨rfl,hb⟩;refine ⟨_,rfl,?_⟩;replace BK162:=bkb BK162 hb;replace HB:=Mk (below_step bB hb);(try clear hb);(try clear hb2);(try clear hk);(try clear hi);refine hK.out _ _ ⟨(blk_cell BK162.out 0).trans rfl,(blk_cell BK162.out 1).trans rfl,(blk_cell BK162.out 2).trans rfl,(blk_cell BK162.out 3).trans rfl⟩ (fun hHeld=>?_);clear hK K;refine norm_ (a':=?_) ?_ ?_;rotate_left
      ·show Act.put _ (some 13) _=_
       simp only [Act.put,List.setIfInBounds_toArray,List.set_cons_zero,List.set_cons_succ,i64_w,i32_w];rfl
      refine pure_ (i:=3) (N:=some 14) (v:=?_) (a':=?_) (fl 10 15) rfl rfl (aO HT_) fI (Or.inl ⟨by rfl,?_⟩) ?_ ?_;rotate_left
      ·intro w'
       go_simp
       with_reducible rfl
      rotate_left
      ·exact pA
      refine pure_ (i:=4) (N:=some 15) (v:=?_) (a':=?_) (fl 10 31) rfl rfl (aO HT_) fI (Or.inl ⟨by rfl,?_⟩) ?_ ?_;rotate_left
      ·intro w'
       go_simp
       with_reducible rfl
      rotate_left
      ·exact pA
      refine pure_ (i:=5) (N:=some 16) (v:=?_) (a':=?_) (fl 10 63) rfl rfl (aO HT_) fI (Or.inl ⟨by rfl,?_⟩) ?_ ?_;rotate_left
      ·intro w'
       go_simp
       with_reducible rfl
      rotate_left
      ·exact pA
      refine take_ (i:=6) (N:=some 17) (v:=?_) (a':=?_) (fl 10 127) rfl rfl (tO HT_ HW_) fI (Or.inl ⟨by rfl,?_⟩) hHeld ?_ ?_;rotate_left
      ·rintro w' ⟨s0,s1,s2,s3⟩
       go_simp
       with_reducible rfl
      rotate_left
      ·exact pA
      refine one_ (i:=7) (N:=some 18) (fl 10 255) rfl rfl (oO HT_) (by decide) (fun K hK=>?_);refine goes_ Tryz.func77 kR rfl #[.complex .f64 a0_3.1 a0_3.2] (by rfl) rfl rfl mA ?_;with_reducible refine (point_Good.calls a0_3 t167 _ A13.out).mono ?_
      rintro e w' ⟨rfl,⟨nd,rfl⟩⟩;refine ⟨_,rfl,?_⟩;refine hK.out _ _ ⟨(blk_cell BK162.out 0).trans rfl,(blk_cell BK162.out 1).trans rfl,(blk_cell BK162.out 2).trans rfl,(blk_cell BK162.out 3).trans rfl⟩ (fun hHeld=>?_);clear hK K;refine norm_ (a':=?_) ?_ ?_;rotate_left
      ·show Act.put _ (some 18) _=_
       simp only [Act.put,List.setIfInBounds_toArray,List.set_cons_zero,List.set_cons_succ,i64_w,i32_w];rfl
      refine pure_ (i:=8) (N:=some 19) (v:=?_) (a':=?_) (fl 10 511) rfl rfl (aO HT_) fI (Or.inl ⟨by rfl,?_⟩) ?_ ?_;rotate_left
      ·intro w'
       go_simp
       with_reducible rfl
      rotate_left
      ·exact pA
      refine pure_ (i:=9) (N:=some 20) (v:=?_) (a':=?_) (fl 10 1023) rfl rfl (aO HT_) fI (Or.inl ⟨by rfl,?_⟩) ?_ ?_;rotate_left
      ·intro w'
       go_simp
       with_reducible rfl
      rotate_left
      ·exact pA
      refine done_ (done_of HT_.out kR) ?_;try go_wp2
      go_meet
      case rel=>exact ⟨_,(!t167),sS,H',⟨by have:=HJ1.out;first|omega|exact Nat.le_refl _⟩,⟨by (with_reducible repeat refine bU ?_);exact BK162.out⟩,⟨bB⟩⟩
    case rest=>
     clear HC8;try clear c1
     try clear p2
     try clear p3
     try clear c4
     try clear c4b0
     try clear c5
     try clear c7
     try clear c10
     try clear c10b0
     try clear p2
     obtain ⟨kq,x20_7,rfl,HA,HJ7,BK162,HB⟩:=hcut
     cases kq with
     |zero=>exact absurd HA.out (by simp [val_Check.j1])
     |succ kj7=>
      have H:=HA.out;clear HA;simp only [val_Check.j1] at H;by_cases c16:x20_7=true
      ·subst c16
       rw [if_pos rfl] at H;try dsimp only at H
       obtain rfl:=Option.some.inj H;try go_wp2
       go_step3
       refine hG_ 0 _ _ _ (by rfl) ?_;try go_wp2
       try rw [labs_ret]
       go_ret
       exact ⟨eW,bB⟩
      ·replace c16:=Bool.eq_false_iff.mpr c16
       subst c16;rw [if_neg (show ¬ (false=true) by decide)] at H;try dsimp only at H
       by_cases c17:(a0_2.size:Int) > 255
       ·rw [if_pos c17] at H
        have c17b0:=decide_eq_true c17;have c17b1:decide (255 < a0_2.size)=true:=decide_eq_true (by omega);clear c17;obtain rfl:=Option.some.inj H;obtain ⟨_,_,_,_,_,_,_,_⟩:=z4 BK162;try go_wp2
        go_step3
        try go_wp2
        try rw [labs_ret]
        go_ret
        exact ⟨eW,bB⟩
       ·rw [if_neg c17] at H
        have c17b0:=decide_eq_false c17;have c17b1:decide (255 < a0_2.size)=false:=decide_eq_false (by omega);clear c17;obtain rfl:=Option.some.inj H;obtain ⟨_,_,_,_,_,_,_,_⟩:=z4 BK162;try go_wp2
        go_step3
        try go_wp2
        try rw [labs_ret]
        go_ret
        exact ⟨eW,bB⟩
end Go.Proofs.YtcpjlbdjnaaaiaaGreatDoor.PAll
