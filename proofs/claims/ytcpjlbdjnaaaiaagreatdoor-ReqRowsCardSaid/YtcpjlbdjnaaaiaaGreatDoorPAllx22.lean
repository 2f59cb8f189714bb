import Derived.Test.YtcpjlbdjnaaaiaaGreatDoorPAllx7
namespace Go.Proofs.YtcpjlbdjnaaaiaaGreatDoor.PAll
open Go.Proofs.YtcpjlbdjnaaaiaaGreatDoor.Help
open Go.RowKit Go.Proofs.YtcpjlbdjnaaaiaaGreatDoorW.PrintWords Go.Proofs.YtcpjlbdjnaaaiaaGreatDoorW.PrintLast Go.Proofs.YtcpjlbdjnaaaiaaGreatDoorW.PrintMore
set_option linter.unusedVariables false
set_option linter.unusedSimpArgs false
attribute [local go_sem high] eqA25
def norialaw3_N.f (a0:Int):Option (Int×Int×ByteArray×(Nat×Nat)):=some (1,a0,(⟨#[]⟩:ByteArray),((0,0):Nat×Nat))
set_option maxHeartbeats 8000000 in
set_option maxRecDepth 100000 in
theorem norialaw3_N.calls (a0:Int) (r1:Int) (r2:Int) (r3:ByteArray) (r4:(Nat×Nat)) (w:World) (h:norialaw3_N.f a0=some (r1,r2,r3,r4)):
  Calls Tryz.prog 12 #[.int .i64 a0] w fun e w'=>e = .returned (.agg #[.int .i64 r1,.int .i64 r2,.string r3,.complex .f64 r4.1 r4.2])∧Below w.heap.size w w':=by
 have hu25:=Tryz.underlying25;have HB:=Mk (Below.refl w.heap.size w);have H:(some (1,a0,(⟨#[]⟩:ByteArray),((0,0):Nat×Nat)))=some (r1,r2,r3,r4):=h;clear h;simp only [Option.some.injEq,Prod.mk.injEq] at H;obtain ⟨rfl,rfl,rfl,rfl⟩:=H;go_enter Tryz.func12,Tryz.ntmps12
 go_wp2_with (first|((with_reducible refine gate_dst (N:=2) rfl ?_);refine boxE 2 #[.int .i64 0,.int .i64 0,.string (⟨#[]⟩:ByteArray),.complex .f64 0 0] 25 ?_;intro gb511 hg w2 hbox hb;have BK511:=Mk (hbox);have GW511:=Mk ((gS:w.heap.size≤gb511));have GE511:=Mk ((gS:w.heap.size≤gb511));replace HB:=Mk (below_step bB hb);clear hb hbox hg;obtain ⟨_,_,_,_,_,_,_,_⟩:=z4 BK511))
 refine bodyPost_ret (results_cell_row rfl _ _ gb511 25 #[.int .i64 1,.int .i64 a0,.string (⟨#[]⟩:ByteArray),.complex .f64 0 0] (0,0) _ rfl (bP BK511) Tryz.underlying25 rfl kR) rfl ?_;exact ⟨eW,bB⟩
def norialaw11_Cmp.f (a0:Int) (a1:Int) (a2:Int):Option (Int×Int×Int×Int×ByteArray×(Nat×Nat)×(Nat×Nat)×(Nat×Nat)×(List (S30))):=(norialaw3_N.f a2).bind fun bt513=>(some (a0,a1,bt513.1,bt513.2.1,bt513.2.2.1,bt513.2.2.2,((0,0):Nat×Nat),((0,0):Nat×Nat),([]:List (S30))))
set_option maxHeartbeats 8000000 in
set_option maxRecDepth 100000 in
theorem norialaw11_Cmp.calls (a0:Int) (a1:Int) (a2:Int) (r1:Int) (r2:Int) (r3:Int) (r4:Int) (r5:ByteArray) (r6:(Nat×Nat)) (r7:(Nat×Nat)) (r8:(Nat×Nat)) (r9:List (S30)) (w:World) (h:norialaw11_Cmp.f a0 a1 a2=some (r1,r2,r3,r4,r5,r6,r7,r8,r9)):
  Calls Tryz.prog 16 #[.int .i64 a0,.int .i64 a1,.int .i64 a2] w fun e w'=>∃ v8_:Value,e = .returned (.agg #[.int .i64 r1,.int .i64 r2,.int .i64 r3,.int .i64 r4,.string r5,.complex .f64 r6.1 r6.2,.complex .f64 r7.1 r7.2,.complex .f64 r8.1 r8.2,v8_])∧Kd.R k30 30 w' w.heap.size (fun _=>True) v8_ r9∧Below w.heap.size w w':=by
 have hu30:=Tryz.underlying30;have HB:=Mk (Below.refl w.heap.size w);have H:((norialaw3_N.f a2).bind fun bt513=>(some (a0,a1,bt513.1,bt513.2.1,bt513.2.2.1,bt513.2.2.2,((0,0):Nat×Nat),((0,0):Nat×Nat),([]:List (S30)))))=some (r1,r2,r3,r4,r5,r6,r7,r8,r9):=h;clear h;replace H:=Option.bind_eq_some_iff.mp H;obtain ⟨⟨t513,t514,t515,t516⟩,A40,H⟩:=H;try dsimp only at H
 have A4:=Mk A40;clear A40;simp only [Option.some.injEq,Prod.mk.injEq] at H;obtain ⟨rfl,rfl,rfl,rfl,rfl,rfl,rfl,rfl,rfl⟩:=H;go_enter Tryz.func16,Tryz.ntmps16
 go_wp2_with (first|((with_reducible refine gate_dst (N:=6) rfl ?_);refine boxE 6 #[.int .i64 0,.int .i64 0,.int .i64 0,.int .i64 0,.string (⟨#[]⟩:ByteArray),.complex .f64 0 0,.complex .f64 0 0,.complex .f64 0 0,.slice none 0 0] 30 ?_;intro gb512 hg w5 hbox hb;have BK512:=Mk (hbox);have GW512:=Mk ((gS:w.heap.size≤gb512));have GE512:=Mk ((gS:w.heap.size≤gb512));replace HB:=Mk (below_step bB hb);clear hb hbox hg)|((with_reducible refine gate_callee (f:=12) rfl ?_);refine goesL_ (some 10) rfl rfl Tryz.func12 kR rfl #[.int .i64 a2] rfl mA ?_;(with_reducible refine (norialaw3_N.calls a2 t513 t514 t515 t516 _ A4.out).mono ?_);rintro e w6 ⟨rfl,hb⟩;refine ⟨_,rfl,?_⟩;replace BK512:=bkb BK512 hb;replace HB:=Mk (below_step bB hb);clear hb;obtain ⟨_,_,_,_,_,_,_,_,_,_,_,_,_,_,_,_,_,_⟩:=z9 BK512))
 refine bodyPost_ret (results_cell_row rfl _ _ gb512 30 #[.int .i64 a0,.int .i64 a1,.int .i64 t513,.int .i64 t514,.string t515,.complex .f64 t516.1 t516.2,.complex .f64 0 0,.complex .f64 0 0,.slice none 0 0] (0,0) _ rfl (bP BK512) Tryz.underlying30 rfl kR) rfl ?_;exact ⟨_,eW,by first|exact Kd.R_nil _ _ _ _ _|exact Kd.N_nil _ _ _ _ _|exact Kd.V_nil _ _ _ _ _|exact Kd.Q_nil _ _ _ _ _|exact Kd.S_nil _ _ _ _ _,bB⟩
def slices_Equal_string_string.l0:Nat→List ByteArray→List ByteArray→Int→Int→Option (Bool)
 | 0,_,_,_,_=>none
 |k+1,x0,x1,x12,x13=>if x13 < x12 then (if 0≤x13 then (if x13 < (x0.length:Int) then (if x13 < (x1.length:Int) then (if (rdOf ByteArray.empty x0 x13).toList=(rdOf ByteArray.empty x1 x13).toList then (slices_Equal_string_string.l0 k x0 x1 x12 (wrap64 (x13+1))) else (some false)) else (none)) else (none)) else (none)) else (some true)
def slices_Equal_string_string.f (k:Nat) (l0:List ByteArray) (l1:List ByteArray):Option (Bool):=if (l0.length:Int)=(l1.length:Int) then (slices_Equal_string_string.l0 k l0 l1 (l0.length:Int) 0) else (some false)
set_option maxHeartbeats 8000000 in
set_option maxRecDepth 100000 in
theorem slices_Equal_string_string.calls (k:Nat) (A0:Option Addr) (c0:Nat) (l0:List ByteArray) (A1:Option Addr) (c1:Nat) (l1:List ByteArray) (r:Bool) (w:World) (hr0:Kd.C Kd.string w A0 l0.length l0) (hc0:l0.length≤c0) (hr1:Kd.C Kd.string w A1 l1.length l1) (hc1:l1.length≤c1) (h:slices_Equal_string_string.f k l0 l1=some r):
  Calls Tryz.prog 39 #[.slice A0 l0.length c0,.slice A1 l1.length c1] w fun e w'=>e = .returned (.bool r)∧Drawn0 w w':=by
 have HR0:=Mk hr0;have HC0:=Mk hc0;clear hr0 hc0;have HR1:=Mk hr1;have HC1:=Mk hc1;clear hr1 hc1;have H:(if (l0.length:Int)=(l1.length:Int) then (slices_Equal_string_string.l0 k l0 l1 (l0.length:Int) 0) else (some false))=some r:=h;clear h;by_cases c3:(l0.length:Int)=(l1.length:Int)
 ·rw [if_pos c3] at H
  have c3b0:=beq_iff_eq.mpr c3;have c3b1:=bne_eq_false_iff_eq.mpr c3;have c3b2:(l0.length == l1.length)=true:=by first|simpa using c3|(simp at c3 ⊢;omega)
  clear c3;have H':=Mk H;clear H;go_enter Tryz.func39,Tryz.ntmps39
  go_wp2
  repeat (go_quiet (fail);try go_wp2)
  go_loopg [13] k (fun kq v13 w'=>∃ (x13_1:Int),v13 = .int .i64 x13_1∧Aside0 (slices_Equal_string_string.l0 kq l0 l1 (l0.length:Int) x13_1=some r)∧Aside0 (kq≤k)∧Drawn0 w w')
  case atStart=>exact ⟨(0),sS,H',⟨Nat.le_refl _⟩,by repeat (first|exact Drawn0.refl _|apply Drawn0.step)⟩
  case round=>
   clear H';try clear c1
   try clear p2
   try clear c3
   try clear c3b0
   try clear c3b1
   try clear c3b2
   obtain ⟨x13_1,rfl,HA,HK1,⟨m1,rfl⟩⟩:=hrel
   cases gk with
   |zero=>exact absurd HA.out (by simp [slices_Equal_string_string.l0])
   |succ k1=>
    have H:=HA.out;clear HA;simp only [slices_Equal_string_string.l0] at H;by_cases c4:x13_1 < (l0.length:Int)
    ·rw [if_pos c4] at H
     have c4b0:=decide_eq_true c4;clear c4;by_cases c5:0≤x13_1
     ·rw [if_pos c5] at H
      have c5b0:=decide_eq_true c5;clear c5;by_cases c6:x13_1 < (l0.length:Int)
      ·rw [if_pos c6] at H
       have c6b0:=decide_eq_true c6;clear c6;by_cases c7:x13_1 < (l1.length:Int)
       ·rw [if_pos c7] at H
        have c7b0:=decide_eq_true c7;clear c7;by_cases c8:(rdOf ByteArray.empty l0 x13_1).toList=(rdOf ByteArray.empty l1 x13_1).toList
        ·rw [if_pos c8] at H
         have c8b0:=beq_iff_eq.mpr c8;have c8b1:=bne_eq_false_iff_eq.mpr c8;clear c8;have H':=Mk H;clear H;have p517:0≤(x13_1:Int):=of_decide_eq_true aS;have q517:x13_1 < (l0.length:Int):=of_decide_eq_true aS;obtain ⟨ad517,e517,hx517_0⟩:=Kd.at_string HR0.out x13_1 p517 q517;cases e517
         replace p517:=eq_true p517;replace q517:=eq_true q517;have p518:0≤(x13_1:Int):=of_decide_eq_true aS;have q518:x13_1 < (l1.length:Int):=of_decide_eq_true aS;obtain ⟨ad518,e518,hx518_0⟩:=Kd.at_string HR1.out x13_1 p518 q518;cases e518
         replace p518:=eq_true p518;replace q518:=eq_true q518
         go_wp2
         repeat (go_quiet (fail);try go_wp2)
         go_roundg k1
         case measure=>have:=HK1.out;omega
         case rel=>exact ⟨(wrap64 (x13_1+1)),sS,H',⟨by have:=HK1.out;omega⟩,by repeat (first|exact Drawn0.refl _|apply Drawn0.step)⟩
        ·rw [if_neg c8] at H
         have c8b0:=beq_eq_false_iff_ne.mpr c8;have c8b1:=bne_iff_ne.mpr c8;obtain rfl:=Option.some.inj H;have p517:0≤(x13_1:Int):=of_decide_eq_true aS;have q517:x13_1 < (l0.length:Int):=of_decide_eq_true aS;obtain ⟨ad517,e517,hx517_0⟩:=Kd.at_string HR0.out x13_1 p517 q517;cases e517
         replace p517:=eq_true p517;replace q517:=eq_true q517;have p518:0≤(x13_1:Int):=of_decide_eq_true aS;have q518:x13_1 < (l1.length:Int):=of_decide_eq_true aS;obtain ⟨ad518,e518,hx518_0⟩:=Kd.at_string HR1.out x13_1 p518 q518;cases e518
         replace p518:=eq_true p518;replace q518:=eq_true q518
         go_wp2
         repeat (go_quiet (fail);try go_wp2)
         go_ret
         exact ⟨by first|rfl|(simp;done)|(simp [*];done),by repeat (first|exact Drawn0.refl _|apply Drawn0.step)⟩
       ·rw [if_neg c7] at H
        exact absurd H (by simp)
      ·rw [if_neg c6] at H
       exact absurd H (by simp)
     ·rw [if_neg c5] at H
      exact absurd H (by simp)
    ·rw [if_neg c4] at H
     have c4b0:=decide_eq_false c4;clear c4;obtain rfl:=Option.some.inj H
     go_wp2
     repeat (go_quiet (fail);try go_wp2)
     go_ret
     exact ⟨by first|rfl|(simp;done)|(simp [*];done),by repeat (first|exact Drawn0.refl _|apply Drawn0.step)⟩
 ·rw [if_neg c3] at H
  have c3b0:=beq_eq_false_iff_ne.mpr c3;have c3b1:=bne_iff_ne.mpr c3;have c3b2:(l0.length == l1.length)=false:=by first|simpa using c3|(simp at c3 ⊢;omega)
  obtain rfl:=Option.some.inj H;go_enter Tryz.func39,Tryz.ntmps39
  go_wp2
  repeat (go_quiet (fail);try go_wp2)
  go_ret
  exact ⟨by first|rfl|(simp;done)|(simp [*];done),by repeat (first|exact Drawn0.refl _|apply Drawn0.step)⟩
def val_Val_42.l0:Nat→List (S25)→List (S25)→Int→Int→Option (Bool)
 | 0,_,_,_,_=>none
 |k+1,x0,x1,x12,x13=>if x13 < x12 then (if 0≤x13 then (if x13 < (x0.length:Int) then (if x13 < (x1.length:Int) then (if (!(((rd_T25 x0 x13).f0) == ((rd_T25 x1 x13).f0)) || (!(((rd_T25 x0 x13).f1) == ((rd_T25 x1 x13).f1)) || (!((((rd_T25 x0 x13).f2).toList) == (((rd_T25 x1 x13).f2).toList)) || (!cEq (((rd_T25 x0 x13).f3).1) (((rd_T25 x0 x13).f3).2) (((rd_T25 x1 x13).f3).1) (((rd_T25 x1 x13).f3).2)))))=true then (some false) else (val_Val_42.l0 k x0 x1 x12 (wrap64 (x13+1)))) else (none)) else (none)) else (none)) else (some true)
def val_Val_42.f (k:Nat) (l0:List (S25)) (l1:List (S25)):Option (Bool):=if (l0.length:Int)=(l1.length:Int) then (val_Val_42.l0 k l0 l1 (l0.length:Int) 0) else (some false)
set_option maxHeartbeats 8000000 in
set_option maxRecDepth 100000 in
theorem val_Val_42.calls (k:Nat) (A0:Option Addr) (c0:Nat) (l0:List (S25)) (A1:Option Addr) (c1:Nat) (l1:List (S25)) (r:Bool) (w:World) (hr0:Kd.C k25 w A0 l0.length l0) (hc0:l0.length≤c0) (hr1:Kd.C k25 w A1 l1.length l1) (hc1:l1.length≤c1) (h:val_Val_42.f k l0 l1=some r):
  Calls Tryz.prog 42 #[.slice A0 l0.length c0,.slice A1 l1.length c1] w fun e w'=>e = .returned (.bool r)∧Drawn0 w w':=by
 have hu25:=Tryz.underlying25;have HR0:=Mk hr0;have HC0:=Mk hc0;clear hr0 hc0;have HR1:=Mk hr1;have HC1:=Mk hc1;clear hr1 hc1;have H:(if (l0.length:Int)=(l1.length:Int) then (val_Val_42.l0 k l0 l1 (l0.length:Int) 0) else (some false))=some r:=h;clear h;by_cases c3:(l0.length:Int)=(l1.length:Int)
 ·rw [if_pos c3] at H
  have c3b0:=beq_iff_eq.mpr c3;have c3b1:=bne_eq_false_iff_eq.mpr c3;have c3b2:(l0.length == l1.length)=true:=by first|simpa using c3|(simp at c3 ⊢;omega)
  clear c3;have H':=Mk H;clear H;go_enter Tryz.func42,Tryz.ntmps42
  go_wp2
  repeat (go_quiet (fail);try go_wp2)
  go_loopg [13] k (fun kq v13 w'=>∃ (x13_1:Int),v13 = .int .i64 x13_1∧Aside0 (val_Val_42.l0 kq l0 l1 (l0.length:Int) x13_1=some r)∧Aside0 (kq≤k)∧Drawn0 w w')
  case atStart=>exact ⟨(0),sS,H',⟨Nat.le_refl _⟩,by repeat (first|exact Drawn0.refl _|apply Drawn0.step)⟩
  case round=>
   clear H';try clear c1
   try clear p2
   try clear c3
   try clear c3b0
   try clear c3b1
   try clear c3b2
   obtain ⟨x13_1,rfl,HA,HK1,⟨m1,rfl⟩⟩:=hrel
   cases gk with
   |zero=>exact absurd HA.out (by simp [val_Val_42.l0])
   |succ k1=>
    have H:=HA.out;clear HA;simp only [val_Val_42.l0] at H;by_cases c4:x13_1 < (l0.length:Int)
    ·rw [if_pos c4] at H
     have c4b0:=decide_eq_true c4;clear c4;by_cases c5:0≤x13_1
     ·rw [if_pos c5] at H
      have c5b0:=decide_eq_true c5;clear c5;by_cases c6:x13_1 < (l0.length:Int)
      ·rw [if_pos c6] at H
       have c6b0:=decide_eq_true c6;clear c6;by_cases c7:x13_1 < (l1.length:Int)
       ·rw [if_pos c7] at H
        have c7b0:=decide_eq_true c7;clear c7;by_cases c8:(!(((rd_T25 l0 x13_1).f0) == ((rd_T25 l1 x13_1).f0)) || (!(((rd_T25 l0 x13_1).f1) == ((rd_T25 l1 x13_1).f1)) || (!((((rd_T25 l0 x13_1).f2).toList) == (((rd_T25 l1 x13_1).f2).toList)) || (!cEq (((rd_T25 l0 x13_1).f3).1) (((rd_T25 l0 x13_1).f3).2) (((rd_T25 l1 x13_1).f3).1) (((rd_T25 l1 x13_1).f3).2)))))=true
        ·rw [if_pos c8] at H
         have c8b0:(!(((rd_T25 l0 x13_1).f0) == ((rd_T25 l1 x13_1).f0)) || (!(((rd_T25 l0 x13_1).f1) == ((rd_T25 l1 x13_1).f1)) || (!((((rd_T25 l0 x13_1).f2).toList) == (((rd_T25 l1 x13_1).f2).toList)) || (!cEq (((rd_T25 l0 x13_1).f3).1) (((rd_T25 l0 x13_1).f3).2) (((rd_T25 l1 x13_1).f3).1) (((rd_T25 l1 x13_1).f3).2)))))=true:=c8;clear c8;obtain rfl:=Option.some.inj H;have p519:0≤(x13_1:Int):=of_decide_eq_true aS;have q519:x13_1 < (l0.length:Int):=of_decide_eq_true aS;obtain ⟨ad519,e519,hx519_0,hx519_1,hx519_2,hx519_3⟩:=at_T25 HR0.out x13_1 p519 q519;cases e519
         replace p519:=eq_true p519;replace q519:=eq_true q519;have p520:0≤(x13_1:Int):=of_decide_eq_true aS;have q520:x13_1 < (l1.length:Int):=of_decide_eq_true aS;obtain ⟨ad520,e520,hx520_0,hx520_1,hx520_2,hx520_3⟩:=at_T25 HR1.out x13_1 p520 q520;cases e520
         replace p520:=eq_true p520;replace q520:=eq_true q520
         go_wp2
         repeat (go_quiet (fail);try go_wp2)
         go_ret
         exact ⟨by first|rfl|(simp;done)|(simp [*];done),by repeat (first|exact Drawn0.refl _|apply Drawn0.step)⟩
        ·rw [if_neg c8] at H
         have c8b0:(!(((rd_T25 l0 x13_1).f0) == ((rd_T25 l1 x13_1).f0)) || (!(((rd_T25 l0 x13_1).f1) == ((rd_T25 l1 x13_1).f1)) || (!((((rd_T25 l0 x13_1).f2).toList) == (((rd_T25 l1 x13_1).f2).toList)) || (!cEq (((rd_T25 l0 x13_1).f3).1) (((rd_T25 l0 x13_1).f3).2) (((rd_T25 l1 x13_1).f3).1) (((rd_T25 l1 x13_1).f3).2)))))=false:=by simpa using c8
         clear c8;have H':=Mk H;clear H;have p519:0≤(x13_1:Int):=of_decide_eq_true aS;have q519:x13_1 < (l0.length:Int):=of_decide_eq_true aS;obtain ⟨ad519,e519,hx519_0,hx519_1,hx519_2,hx519_3⟩:=at_T25 HR0.out x13_1 p519 q519;cases e519
         replace p519:=eq_true p519;replace q519:=eq_true q519;have p520:0≤(x13_1:Int):=of_decide_eq_true aS;have q520:x13_1 < (l1.length:Int):=of_decide_eq_true aS;obtain ⟨ad520,e520,hx520_0,hx520_1,hx520_2,hx520_3⟩:=at_T25 HR1.out x13_1 p520 q520;cases e520
         replace p520:=eq_true p520;replace q520:=eq_true q520
         go_wp2
         repeat (go_quiet (fail);try go_wp2)
         go_roundg k1
         case measure=>have:=HK1.out;omega
         case rel=>exact ⟨(wrap64 (x13_1+1)),sS,H',⟨by have:=HK1.out;omega⟩,by repeat (first|exact Drawn0.refl _|apply Drawn0.step)⟩
       ·rw [if_neg c7] at H
        exact absurd H (by simp)
      ·rw [if_neg c6] at H
       exact absurd H (by simp)
     ·rw [if_neg c5] at H
      exact absurd H (by simp)
    ·rw [if_neg c4] at H
     have c4b0:=decide_eq_false c4;clear c4;obtain rfl:=Option.some.inj H
     go_wp2
     repeat (go_quiet (fail);try go_wp2)
     go_ret
     exact ⟨by first|rfl|(simp;done)|(simp [*];done),by repeat (first|exact Drawn0.refl _|apply Drawn0.step)⟩
 ·rw [if_neg c3] at H
  have c3b0:=beq_eq_false_iff_ne.mpr c3;have c3b1:=bne_iff_ne.mpr c3;have c3b2:(l0.length == l1.length)=false:=by first|simpa using c3|(simp at c3 ⊢;omega)
  obtain rfl:=Option.some.inj H;go_enter Tryz.func42,Tryz.ntmps42
  go_wp2
  repeat (go_quiet (fail);try go_wp2)
  go_ret
  exact ⟨by first|rfl|(simp;done)|(simp [*];done),by repeat (first|exact Drawn0.refl _|apply Drawn0.step)⟩
def req_Same_1.f (k:Nat) (l0:List (S25)) (l1:List (S25)):Option (Bool):=(val_Val_42.f k l0 l1).bind fun t521=>(some t521)
set_option maxHeartbeats 8000000 in
set_option maxRecDepth 100000 in
theorem req_Same_1.calls (k:Nat) (A0:Option Addr) (c0:Nat) (l0:List (S25)) (A1:Option Addr) (c1:Nat) (l1:List (S25)) (r:Bool) (w:World) (hr0:Kd.C k25 w A0 l0.length l0) (hc0:l0.length≤c0) (hr1:Kd.C k25 w A1 l1.length l1) (hc1:l1.length≤c1) (h:req_Same_1.f k l0 l1=some r):
  Calls Tryz.prog 41 #[.slice A0 l0.length c0,.slice A1 l1.length c1] w fun e w'=>e = .returned (.bool r)∧Drawn0 w w':=by
 have HR0:=Mk hr0;have HC0:=Mk hc0;clear hr0 hc0;have HR1:=Mk hr1;have HC1:=Mk hc1;clear hr1 hc1;have H:((val_Val_42.f k l0 l1).bind fun t521=>(some t521))=some r:=h;clear h;replace H:=Option.bind_eq_some_iff.mp H;obtain ⟨t521,A30,H⟩:=H;try dsimp only at H
 have A3:=Mk A30;clear A30;obtain rfl:=Option.some.inj H;go_enter Tryz.func41,Tryz.ntmps41
 go_wp2_with (first|(go_at_call 42;(with_reducible refine (val_Val_42.calls k _ _ l0 _ _ l1 t521 _ ?side1 ?side2 ?side3 ?side4 A3.out).mono ?_);(case side1=>exact cU HR0.out);(case side2=>exact HC0.out);(case side3=>exact cU HR1.out);(case side4=>exact HC1.out);rintro e w' ⟨rfl,⟨nd,rfl⟩⟩))
 go_ret
 exact ⟨by first|rfl|(simp;done)|(simp [*];done),by repeat (first|exact Drawn0.refl _|apply Drawn0.step)⟩
def val_Val_40.l0:Nat→List (List (S25))→List (List (S25))→Int→Int→Option (Bool)
 | 0,_,_,_,_=>none
 |k+1,x1,x15,x16,x17=>if x17 < x16 then (if 0≤x17 then (if x17 < (x15.length:Int) then (if x17 < (x1.length:Int) then ((req_Same_1.f k (rd_L11 x15 x17) (rd_L11 x1 x17)).bind fun t524=>(if t524=true then (val_Val_40.l0 k x1 x15 x16 (wrap64 (x17+1))) else (some false))) else (none)) else (none)) else (none)) else (some true)
def val_Val_40.f (k:Nat) (l0:List (List (S25))) (l1:List (List (S25))):Option (Bool):=if (l0.length:Int)=(l1.length:Int) then (val_Val_40.l0 k l1 l0 (l0.length:Int) 0) else (some false)
set_option maxHeartbeats 8000000 in
set_option maxRecDepth 100000 in
theorem val_Val_40.calls (k:Nat) (A0:Option Addr) (c0:Nat) (l0:List (List (S25))) (A1:Option Addr) (c1:Nat) (l1:List (List (S25))) (r:Bool) (w:World) (hr0:Kd.C (Kd.slice 25 k25) w A0 l0.length l0) (hc0:l0.length≤c0) (hr1:Kd.C (Kd.slice 25 k25) w A1 l1.length l1) (hc1:l1.length≤c1) (h:val_Val_40.f k l0 l1=some r):
  Calls Tryz.prog 40 #[.slice A0 l0.length c0,.slice A1 l1.length c1,.func (.func 41) #[] #[]] w fun e w'=>e = .returned (.bool r)∧Drawn0 w w':=by
 have HR0:=Mk hr0;have HC0:=Mk hc0;clear hr0 hc0;have HR1:=Mk hr1;have HC1:=Mk hc1;clear hr1 hc1;have H:(if (l0.length:Int)=(l1.length:Int) then (val_Val_40.l0 k l1 l0 (l0.length:Int) 0) else (some false))=some r:=h;clear h;by_cases c3:(l0.length:Int)=(l1.length:Int)
 ·rw [if_pos c3] at H
  have c3b0:=beq_iff_eq.mpr c3;have c3b1:=bne_eq_false_iff_eq.mpr c3;have c3b2:(l0.length == l1.length)=true:=by first|simpa using c3|(simp at c3 ⊢;omega)
  clear c3;have H':=Mk H;clear H;go_enter Tryz.func40,Tryz.ntmps40
  go_wp2
  go_loopg [17] k (fun kq v17 w'=>∃ (x17_1:Int),v17 = .int .i64 x17_1∧Aside0 (val_Val_40.l0 kq l1 l0 (l0.length:Int) x17_1=some r)∧Aside0 (kq≤k)∧Drawn0 w w')
  case atStart=>exact ⟨(0),sS,H',⟨Nat.le_refl _⟩,by repeat (first|exact Drawn0.refl _|apply Drawn0.step)⟩
  case round=>
   clear H';try clear c1
   try clear p2
   try clear c3
   try clear c3b0
   try clear c3b1
   try clear c3b2
   obtain ⟨x17_1,rfl,HA,HK1,⟨m1,rfl⟩⟩:=hrel
   cases gk with
   |zero=>exact absurd HA.out (by simp [val_Val_40.l0])
   |succ k1=>
    have H:=HA.out;clear HA;simp only [val_Val_40.l0] at H;by_cases c4:x17_1 < (l0.length:Int)
    ·rw [if_pos c4] at H
     have c4b0:=decide_eq_true c4;clear c4;by_cases c5:0≤x17_1
     ·rw [if_pos c5] at H
      have c5b0:=decide_eq_true c5;clear c5;by_cases c6:x17_1 < (l0.length:Int)
      ·rw [if_pos c6] at H
       have c6b0:=decide_eq_true c6;clear c6;by_cases c7:x17_1 < (l1.length:Int)
       ·rw [if_pos c7] at H
        have c7b0:=decide_eq_true c7;clear c7;replace H:=Option.bind_eq_some_iff.mp H;obtain ⟨t524,A80,H⟩:=H;try dsimp only at H
        have A8:=Mk A80;clear A80;by_cases c9:t524=true
        ·subst c9
         rw [if_pos rfl] at H;try dsimp only at H
         have H':=Mk H;clear H;have p522:0≤(x17_1:Int):=of_decide_eq_true aS;have q522:x17_1 < (l0.length:Int):=of_decide_eq_true aS;obtain ⟨ad522,A522_0,c522_0,e522,hx522_0,hl522_0,hi522_0⟩:=at_L11 HR0.out x17_1 p522 q522;cases e522
         have HR522_0:=Mk hi522_0;have HC522_0:=Mk hl522_0;clear hi522_0 hl522_0;replace p522:=eq_true p522;replace q522:=eq_true q522;have p523:0≤(x17_1:Int):=of_decide_eq_true aS;have q523:x17_1 < (l1.length:Int):=of_decide_eq_true aS;obtain ⟨ad523,A523_0,c523_0,e523,hx523_0,hl523_0,hi523_0⟩:=at_L11 HR1.out x17_1 p523 q523;cases e523
         have HR523_0:=Mk hi523_0;have HC523_0:=Mk hl523_0;clear hi523_0 hl523_0;replace p523:=eq_true p523;replace q523:=eq_true q523
         go_wp2_with (first|(go_at_call 41;(with_reducible refine (req_Same_1.calls k1 _ _ (rd_L11 l0 x17_1) _ _ (rd_L11 l1 x17_1) true _ ?side1 ?side2 ?side3 ?side4 A8.out).mono ?_);(case side1=>exact cU HR522_0.out);(case side2=>exact HC522_0.out);(case side3=>exact cU HR523_0.out);(case side4=>exact HC523_0.out);rintro e w' ⟨rfl,⟨nd,rfl⟩⟩))
         go_roundg k1
         case measure=>have:=HK1.out;omega
         case rel=>exact ⟨(wrap64 (x17_1+1)),sS,H',⟨by have:=HK1.out;omega⟩,by repeat (first|exact Drawn0.refl _|apply Drawn0.step)⟩
        ·replace c9:=Bool.eq_false_iff.mpr c9
         subst c9;rw [if_neg (show ¬ (false=true) by decide)] at H;try dsimp only at H
         obtain rfl:=Option.some.inj H;have p522:0≤(x17_1:Int):=of_decide_eq_true aS;have q522:x17_1 < (l0.length:Int):=of_decide_eq_true aS;obtain ⟨ad522,A522_0,c522_0,e522,hx522_0,hl522_0,hi522_0⟩:=at_L11 HR0.out x17_1 p522 q522;cases e522
         have HR522_0:=Mk hi522_0;have HC522_0:=Mk hl522_0;clear hi522_0 hl522_0;replace p522:=eq_true p522;replace q522:=eq_true q522;have p523:0≤(x17_1:Int):=of_decide_eq_true aS;have q523:x17_1 < (l1.length:Int):=of_decide_eq_true aS;obtain ⟨ad523,A523_0,c523_0,e523,hx523_0,hl523_0,hi523_0⟩:=at_L11 HR1.out x17_1 p523 q523;cases e523
         have HR523_0:=Mk hi523_0;have HC523_0:=Mk hl523_0;clear hi523_0 hl523_0;replace p523:=eq_true p523;replace q523:=eq_true q523
         go_wp2_with (first|(go_at_call 41;(with_reducible refine (req_Same_1.calls k1 _ _ (rd_L11 l0 x17_1) _ _ (rd_L11 l1 x17_1) false _ ?side1 ?side2 ?side3 ?side4 A8.out).mono ?_);(case side1=>exact cU HR522_0.out);(case side2=>exact HC522_0.out);(case side3=>exact cU HR523_0.out);(case side4=>exact HC523_0.out);rintro e w' ⟨rfl,⟨nd,rfl⟩⟩))
         go_ret
         exact ⟨by first|rfl|(simp;done)|(simp [*];done),by repeat (first|exact Drawn0.refl _|apply Drawn0.step)⟩
       ·rw [if_neg c7] at H
        exact absurd H (by simp)
      ·rw [if_neg c6] at H
       exact absurd H (by simp)
     ·rw [if_neg c5] at H
      exact absurd H (by simp)
    ·rw [if_neg c4] at H
     have c4b0:=decide_eq_false c4;clear c4;obtain rfl:=Option.some.inj H
     go_wp2
     go_ret
     exact ⟨by first|rfl|(simp;done)|(simp [*];done),by repeat (first|exact Drawn0.refl _|apply Drawn0.step)⟩
 ·rw [if_neg c3] at H
  have c3b0:=beq_eq_false_iff_ne.mpr c3;have c3b1:=bne_iff_ne.mpr c3;have c3b2:(l0.length == l1.length)=false:=by first|simpa using c3|(simp at c3 ⊢;omega)
  obtain rfl:=Option.some.inj H;go_enter Tryz.func40,Tryz.ntmps40
  go_wp2
  go_ret
  exact ⟨by first|rfl|(simp;done)|(simp [*];done),by repeat (first|exact Drawn0.refl _|apply Drawn0.step)⟩
def req_Same.f (k:Nat) (a0_0:Int) (a0_1:Int) (l0_2:List ByteArray) (a0_3:Int) (a0_4:Int) (a0_5:Int) (a0_6:Int) (a0_7:ByteArray) (a0_8:(Nat×Nat)) (a0_9:(Nat×Nat)) (a0_10:(Nat×Nat)) (l0_11:List (S30)) (l0_12:List (List (S25))) (a1_0:Int) (a1_1:Int) (l1_2:List ByteArray) (a1_3:Int) (a1_4:Int) (a1_5:Int) (a1_6:Int) (a1_7:ByteArray) (a1_8:(Nat×Nat)) (a1_9:(Nat×Nat)) (a1_10:(Nat×Nat)) (l1_11:List (S30)) (l1_12:List (List (S25))):Option (Bool):=if a0_0=a1_0 then (if a0_1=a1_1 then ((slices_Equal_string_string.f k l0_2 l1_2).bind fun t527=>(if t527=true then ((pred_Same.f k a0_3 a0_4 a0_5 a0_6 a0_7 a0_8 a0_9 a0_10 l0_11 a1_3 a1_4 a1_5 a1_6 a1_7 a1_8 a1_9 a1_10 l1_11).bind fun t528=>(if t528=true then ((val_Val_40.f k l0_12 l1_12).bind fun t529=>(some t529)) else (some false))) else (some false))) else (some false)) else (some false)
set_option maxHeartbeats 8000000 in
set_option maxRecDepth 100000 in
theorem req_Same.calls (k:Nat) (a0_0:Int) (a0_1:Int) (A0_2:Option Addr) (c0_2:Nat) (l0_2:List ByteArray) (a0_3:Int) (a0_4:Int) (a0_5:Int) (a0_6:Int) (a0_7:ByteArray) (a0_8:(Nat×Nat)) (a0_9:(Nat×Nat)) (a0_10:(Nat×Nat)) (A0_11:Option Addr) (c0_11:Nat) (l0_11:List (S30)) (A0_12:Option Addr) (c0_12:Nat) (l0_12:List (List (S25))) (a1_0:Int) (a1_1:Int) (A1_2:Option Addr) (c1_2:Nat) (l1_2:List ByteArray) (a1_3:Int) (a1_4:Int) (a1_5:Int) (a1_6:Int) (a1_7:ByteArray) (a1_8:(Nat×Nat)) (a1_9:(Nat×Nat)) (a1_10:(Nat×Nat)) (A1_11:Option Addr) (c1_11:Nat) (l1_11:List (S30)) (A1_12:Option Addr) (c1_12:Nat) (l1_12:List (List (S25))) (r:Bool) (w:World) (hr0_2:Kd.C Kd.string w A0_2 l0_2.length l0_2) (hc0_2:l0_2.length≤c0_2) (hr0_11:Kd.C k30 w A0_11 l0_11.length l0_11) (hc0_11:l0_11.length≤c0_11) (hr0_12:Kd.C (Kd.slice 25 k25) w A0_12 l0_12.length l0_12) (hc0_12:l0_12.length≤c0_12) (hr1_2:Kd.C Kd.string w A1_2 l1_2.length l1_2) (hc1_2:l1_2.length≤c1_2) (hr1_11:Kd.C k30 w A1_11 l1_11.length l1_11) (hc1_11:l1_11.length≤c1_11) (hr1_12:Kd.C (Kd.slice 25 k25) w A1_12 l1_12.length l1_12) (hc1_12:l1_12.length≤c1_12) (h:req_Same.f k a0_0 a0_1 l0_2 a0_3 a0_4 a0_5 a0_6 a0_7 a0_8 a0_9 a0_10 l0_11 l0_12 a1_0 a1_1 l1_2 a1_3 a1_4 a1_5 a1_6 a1_7 a1_8 a1_9 a1_10 l1_11 l1_12=some r):
  Calls Tryz.prog 17 #[.agg #[.int .i64 a0_0,.int .i64 a0_1,.slice A0_2 l0_2.length c0_2,.int .i64 a0_3,.int .i64 a0_4,.int .i64 a0_5,.int .i64 a0_6,.string a0_7,.complex .f64 a0_8.1 a0_8.2,.complex .f64 a0_9.1 a0_9.2,.complex .f64 a0_10.1 a0_10.2,.slice A0_11 l0_11.length c0_11,.slice A0_12 l0_12.length c0_12],.agg #[.int .i64 a1_0,.int .i64 a1_1,.slice A1_2 l1_2.length c1_2,.int .i64 a1_3,.int .i64 a1_4,.int .i64 a1_5,.int .i64 a1_6,.string a1_7,.complex .f64 a1_8.1 a1_8.2,.complex .f64 a1_9.1 a1_9.2,.complex .f64 a1_10.1 a1_10.2,.slice A1_11 l1_11.length c1_11,.slice A1_12 l1_12.length c1_12]] w fun e w'=>e = .returned (.bool r)∧Below w.heap.size w w':=by
 have hu38:=Tryz.underlying38;have hu30:=Tryz.underlying30;have HR0_2:=Mk hr0_2;have HC0_2:=Mk hc0_2;clear hr0_2 hc0_2;have HR0_11:=Mk hr0_11;have HC0_11:=Mk hc0_11;clear hr0_11 hc0_11;have HR0_12:=Mk hr0_12;have HC0_12:=Mk hc0_12;clear hr0_12 hc0_12;have HR1_2:=Mk hr1_2;have HC1_2:=Mk hc1_2;clear hr1_2 hc1_2;have HR1_11:=Mk hr1_11;have HC1_11:=Mk hc1_11;clear hr1_11 hc1_11;have HR1_12:=Mk hr1_12;have HC1_12:=Mk hc1_12;clear hr1_12 hc1_12;have HB:=Mk (Below.refl w.heap.size w);have H:(if a0_0=a1_0 then (if a0_1=a1_1 then ((slices_Equal_string_string.f k l0_2 l1_2).bind fun t527=>(if t527=true then ((pred_Same.f k a0_3 a0_4 a0_5 a0_6 a0_7 a0_8 a0_9 a0_10 l0_11 a1_3 a1_4 a1_5 a1_6 a1_7 a1_8 a1_9 a1_10 l1_11).bind fun t528=>(if t528=true then ((val_Val_40.f k l0_12 l1_12).bind fun t529=>(some t529)) else (some false))) else (some false))) else (some false)) else (some false))=some r:=h;clear h;by_cases c3:a0_0=a1_0
 ·rw [if_pos c3] at H
  have c3b0:=beq_iff_eq.mpr c3;have c3b1:=bne_eq_false_iff_eq.mpr c3;clear c3;by_cases c4:a0_1=a1_1
  ·rw [if_pos c4] at H
   have c4b0:=beq_iff_eq.mpr c4;have c4b1:=bne_eq_false_iff_eq.mpr c4;clear c4;replace H:=Option.bind_eq_some_iff.mp H;obtain ⟨t527,A50,H⟩:=H;try dsimp only at H
   have A5:=Mk A50;clear A50;by_cases c6:t527=true
   ·subst c6
    rw [if_pos rfl] at H;try dsimp only at H
    replace H:=Option.bind_eq_some_iff.mp H;obtain ⟨t528,A70,H⟩:=H;try dsimp only at H
    have A7:=Mk A70;clear A70;by_cases c8:t528=true
    ·subst c8
     rw [if_pos rfl] at H;try dsimp only at H
     replace H:=Option.bind_eq_some_iff.mp H;obtain ⟨t529,A90,H⟩:=H;try dsimp only at H
     have A9:=Mk A90;clear A90;obtain rfl:=Option.some.inj H;go_enter Tryz.func17,Tryz.ntmps17
     go_wp2_with (first|((with_reducible refine gate_dst (N:=2) rfl ?_);refine boxE 2 #[.int .i64 a0_0,.int .i64 a0_1,.slice A0_2 l0_2.length c0_2,.int .i64 a0_3,.int .i64 a0_4,.int .i64 a0_5,.int .i64 a0_6,.string a0_7,.complex .f64 a0_8.1 a0_8.2,.complex .f64 a0_9.1 a0_9.2,.complex .f64 a0_10.1 a0_10.2,.slice A0_11 l0_11.length c0_11,.slice A0_12 l0_12.length c0_12] 38 ?_;intro gb525 hg w10 hbox hb;have BK525:=Mk (hbox);have GW525:=Mk ((gS:w.heap.size≤gb525));have GE525:=Mk ((gS:w.heap.size≤gb525));replace HB:=Mk (below_step bB hb);clear hb hbox hg)|((with_reducible refine gate_dst (N:=3) rfl ?_);refine boxE 3 #[.int .i64 a1_0,.int .i64 a1_1,.slice A1_2 l1_2.length c1_2,.int .i64 a1_3,.int .i64 a1_4,.int .i64 a1_5,.int .i64 a1_6,.string a1_7,.complex .f64 a1_8.1 a1_8.2,.complex .f64 a1_9.1 a1_9.2,.complex .f64 a1_10.1 a1_10.2,.slice A1_11 l1_11.length c1_11,.slice A1_12 l1_12.length c1_12] 38 ?_;intro gb526 hg w11 hbox hb;have BK526:=Mk (hbox);have GW526:=Mk ((gS:w.heap.size≤gb526));have GE526:=Mk ((gS:w.heap.size≤gb526));have NB525_526:=(gL BK525:Aside0 (gb525≠gb526));have NB526_525:=(gG BK525:Aside0 (gb526≠gb525));replace BK525:=bkb BK525 hb;replace HB:=Mk (below_step bB hb);clear hb hbox hg;have hnb12:=NB525_526.out;have hnc12:=NB526_525.out;obtain ⟨_,_,_,_,_,_,_,_,_,_,_,_,_,_,_,_,_,_,_,_,_,_,_,_,_,_⟩:=z13 BK525;obtain ⟨_,_,_,_,_,_,_,_,_,_,_,_,_,_,_,_,_,_,_,_,_,_,_,_,_,_⟩:=z13 BK526)|(go_at_call 39;(with_reducible refine (slices_Equal_string_string.calls k _ _ l0_2 _ _ l1_2 true _ ?side1 ?side2 ?side3 ?side4 A5.out).mono ?_);(case side1=>exact cU (Kd.C_below HR0_2.out HB.out));(case side2=>exact HC0_2.out);(case side3=>exact cU (Kd.C_below HR1_2.out HB.out));(case side4=>exact HC1_2.out);rintro e w' ⟨rfl,⟨nd,rfl⟩⟩)|(go_at_call 9;(with_reducible refine (pred_Same.calls k a0_3 a0_4 a0_5 a0_6 a0_7 a0_8 a0_9 a0_10 _ _ l0_11 a1_3 a1_4 a1_5 a1_6 a1_7 a1_8 a1_9 a1_10 _ _ l1_11 true _ ?side1 ?side2 ?side3 ?side4 A7.out).mono ?_);(case side1=>exact cU (Kd.C_below HR0_11.out bB));(case side2=>exact HC0_11.out);(case side3=>exact cU (Kd.C_below HR1_11.out bB));(case side4=>exact HC1_11.out);rintro e w15 ⟨rfl,hb⟩;replace BK525:=bkb BK525 hb;replace BK526:=bkb BK526 hb;replace HB:=Mk (below_step bB hb);clear hb;obtain ⟨_,_,_,_,_,_,_,_,_,_,_,_,_,_,_,_,_,_,_,_,_,_,_,_,_,_⟩:=z13 BK525;obtain ⟨_,_,_,_,_,_,_,_,_,_,_,_,_,_,_,_,_,_,_,_,_,_,_,_,_,_⟩:=z13 BK526)|(go_at_call 40;(with_reducible refine (val_Val_40.calls k _ _ l0_12 _ _ l1_12 t529 _ ?side1 ?side2 ?side3 ?side4 A9.out).mono ?_);(case side1=>exact cU (Kd.C_below HR0_12.out HB.out));(case side2=>exact HC0_12.out);(case side3=>exact cU (Kd.C_below HR1_12.out HB.out));(case side4=>exact HC1_12.out);rintro e w' ⟨rfl,⟨nd,rfl⟩⟩))
     go_ret
     exact ⟨eW,bB⟩
    ·replace c8:=Bool.eq_false_iff.mpr c8
     subst c8;rw [if_neg (show ¬ (false=true) by decide)] at H;try dsimp only at H
     obtain rfl:=Option.some.inj H;go_enter Tryz.func17,Tryz.ntmps17
     go_wp2_with (first|((with_reducible refine gate_dst (N:=2) rfl ?_);refine boxE 2 #[.int .i64 a0_0,.int .i64 a0_1,.slice A0_2 l0_2.length c0_2,.int .i64 a0_3,.int .i64 a0_4,.int .i64 a0_5,.int .i64 a0_6,.string a0_7,.complex .f64 a0_8.1 a0_8.2,.complex .f64 a0_9.1 a0_9.2,.complex .f64 a0_10.1 a0_10.2,.slice A0_11 l0_11.length c0_11,.slice A0_12 l0_12.length c0_12] 38 ?_;intro gb525 hg w18 hbox hb;have BK525:=Mk (hbox);have GW525:=Mk ((gS:w.heap.size≤gb525));have GE525:=Mk ((gS:w.heap.size≤gb525));replace HB:=Mk (below_step bB hb);clear hb hbox hg)|((with_reducible refine gate_dst (N:=3) rfl ?_);refine boxE 3 #[.int .i64 a1_0,.int .i64 a1_1,.slice A1_2 l1_2.length c1_2,.int .i64 a1_3,.int .i64 a1_4,.int .i64 a1_5,.int .i64 a1_6,.string a1_7,.complex .f64 a1_8.1 a1_8.2,.complex .f64 a1_9.1 a1_9.2,.complex .f64 a1_10.1 a1_10.2,.slice A1_11 l1_11.length c1_11,.slice A1_12 l1_12.length c1_12] 38 ?_;intro gb526 hg w19 hbox hb;have BK526:=Mk (hbox);have GW526:=Mk ((gS:w.heap.size≤gb526));have GE526:=Mk ((gS:w.heap.size≤gb526));have NB525_526:=(gL BK525:Aside0 (gb525≠gb526));have NB526_525:=(gG BK525:Aside0 (gb526≠gb525));replace BK525:=bkb BK525 hb;replace HB:=Mk (below_step bB hb);clear hb hbox hg;have hnb20:=NB525_526.out;have hnc20:=NB526_525.out;obtain ⟨_,_,_,_,_,_,_,_,_,_,_,_,_,_,_,_,_,_,_,_,_,_,_,_,_,_⟩:=z13 BK525;obtain ⟨_,_,_,_,_,_,_,_,_,_,_,_,_,_,_,_,_,_,_,_,_,_,_,_,_,_⟩:=z13 BK526)|(go_at_call 39;(with_reducible refine (slices_Equal_string_string.calls k _ _ l0_2 _ _ l1_2 true _ ?side1 ?side2 ?side3 ?side4 A5.out).mono ?_);(case side1=>exact cU (Kd.C_below HR0_2.out HB.out));(case side2=>exact HC0_2.out);(case side3=>exact cU (Kd.C_below HR1_2.out HB.out));(case side4=>exact HC1_2.out);rintro e w' ⟨rfl,⟨nd,rfl⟩⟩)|(go_at_call 9;(with_reducible refine (pred_Same.calls k a0_3 a0_4 a0_5 a0_6 a0_7 a0_8 a0_9 a0_10 _ _ l0_11 a1_3 a1_4 a1_5 a1_6 a1_7 a1_8 a1_9 a1_10 _ _ l1_11 false _ ?side1 ?side2 ?side3 ?side4 A7.out).mono ?_);(case side1=>exact cU (Kd.C_below HR0_11.out bB));(case side2=>exact HC0_11.out);(case side3=>exact cU (Kd.C_below HR1_11.out bB));(case side4=>exact HC1_11.out);rintro e w23 ⟨rfl,hb⟩;replace BK525:=bkb BK525 hb;replace BK526:=bkb BK526 hb;replace HB:=Mk (below_step bB hb);clear hb))
     go_ret
     exact ⟨eW,bB⟩
   ·replace c6:=Bool.eq_false_iff.mpr c6
    subst c6;rw [if_neg (show ¬ (false=true) by decide)] at H;try dsimp only at H
    obtain rfl:=Option.some.inj H;go_enter Tryz.func17,Tryz.ntmps17
    go_wp2_with (first|((with_reducible refine gate_dst (N:=2) rfl ?_);refine boxE 2 #[.int .i64 a0_0,.int .i64 a0_1,.slice A0_2 l0_2.length c0_2,.int .i64 a0_3,.int .i64 a0_4,.int .i64 a0_5,.int .i64 a0_6,.string a0_7,.complex .f64 a0_8.1 a0_8.2,.complex .f64 a0_9.1 a0_9.2,.complex .f64 a0_10.1 a0_10.2,.slice A0_11 l0_11.length c0_11,.slice A0_12 l0_12.length c0_12] 38 ?_;intro gb525 hg w24 hbox hb;have BK525:=Mk (hbox);have GW525:=Mk ((gS:w.heap.size≤gb525));have GE525:=Mk ((gS:w.heap.size≤gb525));replace HB:=Mk (below_step bB hb);clear hb hbox hg)|((with_reducible refine gate_dst (N:=3) rfl ?_);refine boxE 3 #[.int .i64 a1_0,.int .i64 a1_1,.slice A1_2 l1_2.length c1_2,.int .i64 a1_3,.int .i64 a1_4,.int .i64 a1_5,.int .i64 a1_6,.string a1_7,.complex .f64 a1_8.1 a1_8.2,.complex .f64 a1_9.1 a1_9.2,.complex .f64 a1_10.1 a1_10.2,.slice A1_11 l1_11.length c1_11,.slice A1_12 l1_12.length c1_12] 38 ?_;intro gb526 hg w25 hbox hb;have BK526:=Mk (hbox);have GW526:=Mk ((gS:w.heap.size≤gb526));have GE526:=Mk ((gS:w.heap.size≤gb526));have NB525_526:=(gL BK525:Aside0 (gb525≠gb526));have NB526_525:=(gG BK525:Aside0 (gb526≠gb525));replace BK525:=bkb BK525 hb;replace HB:=Mk (below_step bB hb);clear hb hbox hg;have hnb26:=NB525_526.out;have hnc26:=NB526_525.out;obtain ⟨_,_,_,_,_,_,_,_,_,_,_,_,_,_,_,_,_,_,_,_,_,_,_,_,_,_⟩:=z13 BK525;obtain ⟨_,_,_,_,_,_,_,_,_,_,_,_,_,_,_,_,_,_,_,_,_,_,_,_,_,_⟩:=z13 BK526)|(go_at_call 39;(with_reducible refine (slices_Equal_string_string.calls k _ _ l0_2 _ _ l1_2 false _ ?side1 ?side2 ?side3 ?side4 A5.out).mono ?_);(case side1=>exact cU (Kd.C_below HR0_2.out HB.out));(case side2=>exact HC0_2.out);(case side3=>exact cU (Kd.C_below HR1_2.out HB.out));(case side4=>exact HC1_2.out);rintro e w' ⟨rfl,⟨nd,rfl⟩⟩))
    go_ret
    exact ⟨eW,bB⟩
  ·rw [if_neg c4] at H
   have c4b0:=beq_eq_false_iff_ne.mpr c4;have c4b1:=bne_iff_ne.mpr c4;obtain rfl:=Option.some.inj H;go_enter Tryz.func17,Tryz.ntmps17
   go_wp2_with (first|((with_reducible refine gate_dst (N:=2) rfl ?_);refine boxE 2 #[.int .i64 a0_0,.int .i64 a0_1,.slice A0_2 l0_2.length c0_2,.int .i64 a0_3,.int .i64 a0_4,.int .i64 a0_5,.int .i64 a0_6,.string a0_7,.complex .f64 a0_8.1 a0_8.2,.complex .f64 a0_9.1 a0_9.2,.complex .f64 a0_10.1 a0_10.2,.slice A0_11 l0_11.length c0_11,.slice A0_12 l0_12.length c0_12] 38 ?_;intro gb525 hg w29 hbox hb;have BK525:=Mk (hbox);have GW525:=Mk ((gS:w.heap.size≤gb525));have GE525:=Mk ((gS:w.heap.size≤gb525));replace HB:=Mk (below_step bB hb);clear hb hbox hg)|((with_reducible refine gate_dst (N:=3) rfl ?_);refine boxE 3 #[.int .i64 a1_0,.int .i64 a1_1,.slice A1_2 l1_2.length c1_2,.int .i64 a1_3,.int .i64 a1_4,.int .i64 a1_5,.int .i64 a1_6,.string a1_7,.complex .f64 a1_8.1 a1_8.2,.complex .f64 a1_9.1 a1_9.2,.complex .f64 a1_10.1 a1_10.2,.slice A1_11 l1_11.length c1_11,.slice A1_12 l1_12.length c1_12] 38 ?_;intro gb526 hg w30 hbox hb;have BK526:=Mk (hbox);have GW526:=Mk ((gS:w.heap.size≤gb526));have GE526:=Mk ((gS:w.heap.size≤gb526));have NB525_526:=(gL BK525:Aside0 (gb525≠gb526));have NB526_525:=(gG BK525:Aside0 (gb526≠gb525));replace BK525:=bkb BK525 hb;replace HB:=Mk (below_step bB hb);clear hb hbox hg;have hnb31:=NB525_526.out;have hnc31:=NB526_525.out;obtain ⟨_,_,_,_,_,_,_,_,_,_,_,_,_,_,_,_,_,_,_,_,_,_,_,_,_,_⟩:=z13 BK525;obtain ⟨_,_,_,_,_,_,_,_,_,_,_,_,_,_,_,_,_,_,_,_,_,_,_,_,_,_⟩:=z13 BK526))
   go_ret
   exact ⟨eW,bB⟩
 ·rw [if_neg c3] at H
  have c3b0:=beq_eq_false_iff_ne.mpr c3;have c3b1:=bne_iff_ne.mpr c3;obtain rfl:=Option.some.inj H;go_enter Tryz.func17,Tryz.ntmps17
  go_wp2_with (first|((with_reducible refine gate_dst (N:=2) rfl ?_);refine boxE 2 #[.int .i64 a0_0,.int .i64 a0_1,.slice A0_2 l0_2.length c0_2,.int .i64 a0_3,.int .i64 a0_4,.int .i64 a0_5,.int .i64 a0_6,.string a0_7,.complex .f64 a0_8.1 a0_8.2,.complex .f64 a0_9.1 a0_9.2,.complex .f64 a0_10.1 a0_10.2,.slice A0_11 l0_11.length c0_11,.slice A0_12 l0_12.length c0_12] 38 ?_;intro gb525 hg w34 hbox hb;have BK525:=Mk (hbox);have GW525:=Mk ((gS:w.heap.size≤gb525));have GE525:=Mk ((gS:w.heap.size≤gb525));replace HB:=Mk (below_step bB hb);clear hb hbox hg)|((with_reducible refine gate_dst (N:=3) rfl ?_);refine boxE 3 #[.int .i64 a1_0,.int .i64 a1_1,.slice A1_2 l1_2.length c1_2,.int .i64 a1_3,.int .i64 a1_4,.int .i64 a1_5,.int .i64 a1_6,.string a1_7,.complex .f64 a1_8.1 a1_8.2,.complex .f64 a1_9.1 a1_9.2,.complex .f64 a1_10.1 a1_10.2,.slice A1_11 l1_11.length c1_11,.slice A1_12 l1_12.length c1_12] 38 ?_;intro gb526 hg w35 hbox hb;have BK526:=Mk (hbox);have GW526:=Mk ((gS:w.heap.size≤gb526));have GE526:=Mk ((gS:w.heap.size≤gb526));have NB525_526:=(gL BK525:Aside0 (gb525≠gb526));have NB526_525:=(gG BK525:Aside0 (gb526≠gb525));replace BK525:=bkb BK525 hb;replace HB:=Mk (below_step bB hb);clear hb hbox hg;have hnb36:=NB525_526.out;have hnc36:=NB526_525.out;obtain ⟨_,_,_,_,_,_,_,_,_,_,_,_,_,_,_,_,_,_,_,_,_,_,_,_,_,_⟩:=z13 BK525;obtain ⟨_,_,_,_,_,_,_,_,_,_,_,_,_,_,_,_,_,_,_,_,_,_,_,_,_,_⟩:=z13 BK526))
  go_ret
  exact ⟨eW,bB⟩
def norialaw3_C.f (a0:Int) (a1:Int):Option (Int×Int×ByteArray×(Nat×Nat)):=some (3,0,(⟨#[]⟩:ByteArray),((fOfI a0,fOfI a1):Nat×Nat))
set_option maxHeartbeats 8000000 in
set_option maxRecDepth 100000 in
theorem norialaw3_C.calls (a0:Int) (a1:Int) (r1:Int) (r2:Int) (r3:ByteArray) (r4:(Nat×Nat)) (w:World) (h:norialaw3_C.f a0 a1=some (r1,r2,r3,r4)):
  Calls Tryz.prog 18 #[.int .i64 a0,.int .i64 a1] w fun e w'=>e = .returned (.agg #[.int .i64 r1,.int .i64 r2,.string r3,.complex .f64 r4.1 r4.2])∧Below w.heap.size w w':=by
 have hu25:=Tryz.underlying25;have HB:=Mk (Below.refl w.heap.size w);have H:(some (3,0,(⟨#[]⟩:ByteArray),((fOfI a0,fOfI a1):Nat×Nat)))=some (r1,r2,r3,r4):=h;clear h;simp only [Option.some.injEq,Prod.mk.injEq] at H;obtain ⟨rfl,rfl,rfl,rfl⟩:=H;go_enter Tryz.func18,Tryz.ntmps18
 go_wp2_with (first|((with_reducible refine gate_dst (N:=4) rfl ?_);refine boxE 4 #[.int .i64 0,.int .i64 0,.string (⟨#[]⟩:ByteArray),.complex .f64 0 0] 25 ?_;intro gb530 hg w3 hbox hb;have BK530:=Mk (hbox);have GW530:=Mk ((gS:w.heap.size≤gb530));have GE530:=Mk ((gS:w.heap.size≤gb530));replace HB:=Mk (below_step bB hb);clear hb hbox hg;obtain ⟨_,_,_,_,_,_,_,_⟩:=z4 BK530))
 refine bodyPost_ret (results_cell_row rfl _ _ gb530 25 #[.int .i64 3,.int .i64 0,.string (⟨#[]⟩:ByteArray),.complex .f64 (fOfI a0) (fOfI a1)] (0,0) _ rfl (bP BK530) Tryz.underlying25 rfl kR) rfl ?_;exact ⟨eW,bB⟩
end Go.Proofs.YtcpjlbdjnaaaiaaGreatDoor.PAll
