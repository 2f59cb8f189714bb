import Derived.Test.YtcpjlbdjnaaaiaaGreatDoorHelp
namespace Go.Proofs.YtcpjlbdjnaaaiaaGreatDoor.Help
open Go
def fEq (x y:Nat):Bool:=FloatKind.f64.format.order x y == some .eq
def fLt (x y:Nat):Bool:=FloatKind.f64.format.order x y == some .lt
def fLe (x y:Nat):Bool:=FloatKind.f64.format.order x y == some .lt || FloatKind.f64.format.order x y == some .eq
def fGt (x y:Nat):Bool:=FloatKind.f64.format.order x y == some .gt
def fGe (x y:Nat):Bool:=FloatKind.f64.format.order x y == some .gt || FloatKind.f64.format.order x y == some .eq
def cEq (a b c d:Nat):Bool:=fEq a c && fEq b d
def fNeg (x:Nat):Nat:=Op.negFloat .f64 x
def fTrunc (x:Nat):Nat:=FloatKind.f64.encode ((FloatKind.f64.decode x).integral .zero)
def fNaN (x:Nat):Bool:=(FloatKind.f64.decode x).isNaN
def fAbs (x:Nat):Nat:=(Go.bits .andNot .u64 (x:Int) 9223372036854775808).toNat
def fOfI (n:Int):Nat:=FloatKind.f64.nearest n
def fToIq (k:IntKind) (x:Nat):Option Int:=
  match (FloatKind.f64.decode x).toInt .zero with
  |some n=>if k.min≤n∧n≤k.max then some n else none
  |none=>none
def fToIok (k:IntKind) (x:Nat):Bool:=(fToIq k x).isSome
def fToI (k:IntKind) (x:Nat):Int:=(fToIq k x).getD 0
def fOpq (op:BinOp) (x y:Nat):Option Nat:=
  match op with
  | .add=>FloatKind.f64.format.add x y
  | .sub=>FloatKind.f64.format.sub x y
  | .mul=>FloatKind.f64.format.mul x y
  | .quo=>FloatKind.f64.format.div x y
  |_=>none
def fOpok (op:BinOp) (x y:Nat):Bool:=(fOpq op x y).isSome
def fOp (op:BinOp) (x y:Nat):Nat:=(fOpq op x y).getD 0
set_option linter.unusedVariables false
set_option linter.unusedSimpArgs false
section
variable {P:Program} (w:World)
theorem run_fl_eql (t:TypeId) (x y:Nat):(binOp .eql t (.float .f64 x) (.float .f64 y)).run P w = .ok (.bool (fEq x y)) w:=by simp [binOp,Op.floatCmp,fEq]
theorem run_fl_neq (t:TypeId) (x y:Nat):(binOp .neq t (.float .f64 x) (.float .f64 y)).run P w = .ok (.bool (!fEq x y)) w:=by simp [binOp,Op.floatCmp,fEq,bne]
theorem run_fl_lss (t:TypeId) (x y:Nat):(binOp .lss t (.float .f64 x) (.float .f64 y)).run P w = .ok (.bool (fLt x y)) w:=by simp [binOp,Op.floatCmp,fLt]
theorem run_fl_leq (t:TypeId) (x y:Nat):(binOp .leq t (.float .f64 x) (.float .f64 y)).run P w = .ok (.bool (fLe x y)) w:=by simp [binOp,Op.floatCmp,fLe]
theorem run_fl_gtr (t:TypeId) (x y:Nat):(binOp .gtr t (.float .f64 x) (.float .f64 y)).run P w = .ok (.bool (fGt x y)) w:=by simp [binOp,Op.floatCmp,fGt]
theorem run_fl_geq (t:TypeId) (x y:Nat):(binOp .geq t (.float .f64 x) (.float .f64 y)).run P w = .ok (.bool (fGe x y)) w:=by simp [binOp,Op.floatCmp,fGe]
theorem unary_fl_neg (x:Nat):Op.unary .neg (.float .f64 x)=pure (.float .f64 (fNeg x)):=rfl
theorem run_cx_eql (t:TypeId) (a b c d:Nat):(binOp .eql t (.complex .f64 a b) (.complex .f64 c d)).run P w = .ok (.bool (cEq a b c d)) w:=by
  simp [binOp,Op.complexOp,Op.Complex.cmp,Op.floatCmp,asBool,cEq,fEq]
theorem run_cx_neq (t:TypeId) (a b c d:Nat):(binOp .neq t (.complex .f64 a b) (.complex .f64 c d)).run P w = .ok (.bool (!cEq a b c d)) w:=by
  simp [binOp,Op.complexOp,Op.Complex.cmp,Op.floatCmp,asBool,cEq,fEq]
theorem run_cx_make (ts:Array TypeId) (t:TypeId) (a b:Nat):(Builtin.complex_ ts t #[.float .f64 a,.float .f64 b]).run P w = .ok (.complex .f64 a b) w:=rfl
theorem run_cx_real (ts:Array TypeId) (t:TypeId) (a b:Nat):(Builtin.real_ ts t #[.complex .f64 a b]).run P w = .ok (.float .f64 a) w:=rfl
theorem run_cx_imag (ts:Array TypeId) (t:TypeId) (a b:Nat):(Builtin.imag_ ts t #[.complex .f64 a b]).run P w = .ok (.float .f64 b) w:=rfl
theorem run_fl_of (src dst:TypeId) (q:IntKind) (n:Int) (hs:(P.underlying src).isSome=true) (hd:P.underlying dst=some (.float .f64)):
    (convert src dst (.int q n)).run P w = .ok (.float .f64 (fOfI n)) w:=by
  obtain ⟨s,hs'⟩:=Option.isSome_iff_exists.1 hs;cases s<;>simp [convert,run_underlying hs',run_underlying hd,Conv.intToFloat,fOfI]
theorem run_fl_to (src dst:TypeId) (k:IntKind) (b:Nat) (hs:(P.underlying src).isSome=true) (hd:P.underlying dst=some (.int k)) (h:fToIok k b=true):
    (convert src dst (.float .f64 b)).run P w = .ok (.int k (fToI k b)) w:=by
  obtain ⟨u,hs'⟩:=Option.isSome_iff_exists.1 hs;obtain ⟨n,hn⟩:=Option.isSome_iff_exists.1 (show (fToIq k b).isSome=true from h);have hv:fToI k b=n:=by unfold fToI;rw [hn];rfl
  rw [hv];unfold fToIq at hn
  split at hn
  ·rename_i m he
   split at hn
   ·rename_i hb
    cases hn
    cases u<;>simp [convert,run_underlying hs',run_underlying hd,Conv.floatToInt,he,hb.1,hb.2]
   ·cases hn
  ·cases hn
theorem run_fl_to64 (src dst:TypeId) (b:Nat) (hs:(P.underlying src).isSome=true) (hd:P.underlying dst=some (.int .i64)) (h:fToIok .i64 b=true):
    (convert src dst (.float .f64 b)).run P w = .ok (.int .i64 (fToI .i64 b)) w:=run_fl_to w src dst .i64 b hs hd h
theorem run_fl_op (op:BinOp) (t:TypeId) (x y:Nat) (h:fOpok op x y=true):(binOp op t (.float .f64 x) (.float .f64 y)).run P w = .ok (.float .f64 (fOp op x y)) w:=by
  obtain ⟨r,hr⟩:=Option.isSome_iff_exists.1 (show (fOpq op x y).isSome=true from h);have hv:fOp op x y=r:=by unfold fOp;rw [hr];rfl
  rw [hv];unfold fOpq at hr;cases op<;>simp only at hr<;>first|(cases hr;done)|skip
  all_goals simp [binOp,Op.floatArith,hr]
theorem run_fl_add (t:TypeId) (x y:Nat) (h:fOpok .add x y=true):(binOp .add t (.float .f64 x) (.float .f64 y)).run P w = .ok (.float .f64 (fOp .add x y)) w:=run_fl_op w .add t x y h
theorem run_fl_sub (t:TypeId) (x y:Nat) (h:fOpok .sub x y=true):(binOp .sub t (.float .f64 x) (.float .f64 y)).run P w = .ok (.float .f64 (fOp .sub x y)) w:=run_fl_op w .sub t x y h
theorem run_fl_mul (t:TypeId) (x y:Nat) (h:fOpok .mul x y=true):(binOp .mul t (.float .f64 x) (.float .f64 y)).run P w = .ok (.float .f64 (fOp .mul x y)) w:=run_fl_op w .mul t x y h
theorem run_arith_fl {op:BinOp} {x y:Nat} (h:fOpok op x y=true):(Op.Complex.arith op .f64 x y).run P w = .ok (fOp op x y) w:=by
  obtain ⟨r,hr⟩:=Option.isSome_iff_exists.1 (show (fOpq op x y).isSome=true from h);have hv:fOp op x y=r:=by unfold fOp;rw [hr];rfl
  rw [hv];unfold fOpq at hr;cases op<;>simp only at hr<;>first|(cases hr;done)|skip
  all_goals simp [Op.Complex.arith,Op.floatArith,hr]
theorem run_cx_add (t:TypeId) (a b c d:Nat) (h1:fOpok .add a c=true) (h2:fOpok .add b d=true):
    (binOp .add t (.complex .f64 a b) (.complex .f64 c d)).run P w = .ok (.complex .f64 (fOp .add a c) (fOp .add b d)) w:=by
  simp [binOp,Op.complexOp,run_arith_fl w h1,run_arith_fl w h2]
theorem run_cx_sub (t:TypeId) (a b c d:Nat) (h1:fOpok .sub a c=true) (h2:fOpok .sub b d=true):
    (binOp .sub t (.complex .f64 a b) (.complex .f64 c d)).run P w = .ok (.complex .f64 (fOp .sub a c) (fOp .sub b d)) w:=by
  simp [binOp,Op.complexOp,run_arith_fl w h1,run_arith_fl w h2]
theorem run_cx_store (P:Program) (w:World) (a:Addr) (m:Mode) (x y:Nat):(store a (.complex .f64 x y) m).run P w=stored P w a (.complex .f64 x y) m:=run_store P w a _ m rfl
theorem run_fl_store (P:Program) (w:World) (a:Addr) (m:Mode) (x:Nat):(store a (.float .f64 x) m).run P w=stored P w a (.float .f64 x) m:=run_store P w a _ m rfl
theorem run_cx_eqIn (d:Nat) (t:TypeId) (a b c e:Nat) (k:FloatKind) (ht:P.underlying t=some (.complex k)):(Op.equalIn (d+1) t (.complex .f64 a b) (.complex .f64 c e)).run P w = .ok (cEq a b c e) w:=by
  simp [Op.equalIn,run_underlying ht,Op.floatEq,cEq,fEq]
end
theorem bytesLess_flip:∀ a b:List UInt8,Op.bytesLess b a = !(Op.bytesLess a b || a == b)
  | [],[]=>rfl
  | [],_ :: _=>rfl
  |_ :: _,[]=>rfl
  |x :: a,y :: b=>by
   have ih:=bytesLess_flip a b;simp only [Op.bytesLess,ih];have h1:(x :: a == y :: b)=(x == y && a == b):=rfl;rw [h1];rcases Nat.lt_trichotomy x.toNat y.toNat with h|h|h
   ·have a1:decide (x < y)=true:=decide_eq_true (UInt8.lt_iff_toNat_lt.2 h)
    have a2:decide (y < x)=false:=decide_eq_false (fun h'=>by have:=UInt8.lt_iff_toNat_lt.1 h';omega);have a3:(x == y)=false:=by rw [beq_eq_false_iff_ne];intro h';rw [h'] at h;omega
    have a4:(y == x)=false:=by rw [beq_eq_false_iff_ne];intro h';rw [h'] at h;omega
    simp [a1,a2,a3,a4]
   ·obtain rfl:x=y:=UInt8.toNat_inj.1 h
    have a1:decide (x < x)=false:=decide_eq_false (fun h'=>by have:=UInt8.lt_iff_toNat_lt.1 h';omega);simp [a1]
   ·have a1:decide (y < x)=true:=decide_eq_true (UInt8.lt_iff_toNat_lt.2 h)
    have a2:decide (x < y)=false:=decide_eq_false (fun h'=>by have:=UInt8.lt_iff_toNat_lt.1 h';omega);have a3:(x == y)=false:=by rw [beq_eq_false_iff_ne];intro h';rw [h'] at h;omega
    have a4:(y == x)=false:=by rw [beq_eq_false_iff_ne];intro h';rw [h'] at h;omega
    simp [a1,a2,a3,a4]
theorem str_gtr (t:TypeId) (a b:ByteArray):binOp .gtr t (.string a) (.string b)=pure (.bool (Op.bytesLess b.toList a.toList)):=by
  rw [bytesLess_flip a.toList b.toList];simp [binOp,Op.stringOp]
theorem str_leq (t:TypeId) (a b:ByteArray):binOp .leq t (.string a) (.string b)=pure (.bool (!Op.bytesLess b.toList a.toList)):=by
  rw [bytesLess_flip a.toList b.toList];simp [binOp,Op.stringOp]
theorem str_geq (t:TypeId) (a b:ByteArray):binOp .geq t (.string a) (.string b)=pure (.bool (!Op.bytesLess a.toList b.toList)):=by simp [binOp,Op.stringOp]
section
open Go.Proofs.YtcpjlbdjnaaaiaaGreatDoorW.PrintWords
def vCx (p:Nat×Nat):Value:=.complex .f64 p.1 p.2
def kCx:Kd (Nat×Nat):=Kd.scalar vCx (fun _=>rfl)
end
end Go.Proofs.YtcpjlbdjnaaaiaaGreatDoor.Help
