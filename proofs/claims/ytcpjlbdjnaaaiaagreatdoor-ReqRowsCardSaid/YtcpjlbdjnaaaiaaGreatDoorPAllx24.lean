import Derived.Test.YtcpjlbdjnaaaiaaGreatDoorPAllx23
namespace Go.Proofs.YtcpjlbdjnaaaiaaGreatDoor.PAll
open Go.Proofs.YtcpjlbdjnaaaiaaGreatDoor.Help
open Go.RowKit Go.Proofs.YtcpjlbdjnaaaiaaGreatDoorW.PrintWords Go.Proofs.YtcpjlbdjnaaaiaaGreatDoorW.PrintLast Go.Proofs.YtcpjlbdjnaaaiaaGreatDoorW.PrintMore
set_option linter.unusedVariables false
set_option linter.unusedSimpArgs false
def norialaw25_ReqDeep.l0:Nat→Bool→Int→ByteArray→Int→Int→Int→Int→Int→ByteArray→(Nat×Nat)→(Nat×Nat)→(Nat×Nat)→List (S30)→Option (Bool)
 | 0,_,_,_,_,_,_,_,_,_,_,_,_,_=>none
 |k+1,x1,x5,x7,x8,x533000,x533001,x533002,x533003,x533004,x533005,x533006,x533007,x533008=>if x8 < x5 then (if x1=true then (if 7+x7.size≤9223372036854775807 then (if 7+x7.size+1≤9223372036854775807 then (norialaw25_ReqDeep.l0 k x1 x5 (((⟨#[111,114,40,97,108,108,59]⟩:ByteArray)++x7)++(⟨#[41]⟩:ByteArray)) (wrap64 (x8+1)) 10 0 0 0 (⟨#[]⟩:ByteArray) ((0,0):Nat×Nat) ((0,0):Nat×Nat) ((0,0):Nat×Nat) (([(⟨12,0,(⟨0,0,(⟨#[]⟩:ByteArray),((0,0):Nat×Nat)⟩:S25),(⟨((0,0):Nat×Nat),((0,0):Nat×Nat)⟩:S27),([]:List (S30))⟩:S30),(⟨x533000,x533001,(⟨x533002,x533003,x533004,x533005⟩:S25),(⟨x533006,x533007⟩:S27),x533008⟩:S30)]:List (S30)))) else (none)) else (none)) else ((norialaw11_Not.f x533000 x533001 x533002 x533003 x533004 x533005 x533006 x533007 x533008).bind fun bt536=>(if 4+x7.size≤9223372036854775807 then (if 4+x7.size+1≤9223372036854775807 then (norialaw25_ReqDeep.l0 k x1 x5 (((⟨#[110,111,116,40]⟩:ByteArray)++x7)++(⟨#[41]⟩:ByteArray)) (wrap64 (x8+1)) bt536.1 bt536.2.1 bt536.2.2.1 bt536.2.2.2.1 bt536.2.2.2.2.1 bt536.2.2.2.2.2.1 bt536.2.2.2.2.2.2.1 bt536.2.2.2.2.2.2.2.1 bt536.2.2.2.2.2.2.2.2) else (none)) else (none)))) else ((req_Text.f k 1 0 (([(⟨#[97]⟩:ByteArray)]:List ByteArray)) x533000 x533001 x533002 x533003 x533004 x533005 x533006 x533007 x533008 ([]:List (List (S25)))).bind fun bt550=>((req_PredParse.f k x7).bind fun bt552=>(if x5 > 7 then (if bt550.2=16 then (if bt552.2.2.2.2.2.2.2.2.2=16 then (if bt550.1.toList=([]:List UInt8) then (some (bt552.1 == 0)) else (none)) else (none)) else (none)) else (if (wrap64 (bt550.2+bt552.2.2.2.2.2.2.2.2.2))=0 then (if 7+x7.size≤9223372036854775807 then (if bt550.1.toList=((⟨#[111,112,101,110,32,97,32]⟩:ByteArray)++x7).toList then ((pred_Same.f k bt552.1 bt552.2.1 bt552.2.2.1 bt552.2.2.2.1 bt552.2.2.2.2.1 bt552.2.2.2.2.2.1 bt552.2.2.2.2.2.2.1 bt552.2.2.2.2.2.2.2.1 bt552.2.2.2.2.2.2.2.2.1 x533000 x533001 x533002 x533003 x533004 x533005 x533006 x533007 x533008).bind fun t565=>(if t565=true then ((req_PredText.f k x533000 x533001 x533002 x533003 x533004 x533005 x533006 x533007 x533008).bind fun t566=>(some (t566.toList == x7.toList))) else (none))) else (none)) else (none)) else (none)))))
def norialaw25_ReqDeep.f (k:Nat) (a0:Int) (a1:Bool):Option (Bool):=(norialaw25_known.f).bind fun t531=>(if t531=true then (norialaw25_ReqDeep.l0 k a1 (wrap64 (Int.tmod a0 12)) (⟨#[97,108,108]⟩:ByteArray) 0 12 0 0 0 (⟨#[]⟩:ByteArray) ((0,0):Nat×Nat) ((0,0):Nat×Nat) ((0,0):Nat×Nat) ([]:List (S30))) else (none))
def norialaw25_ReqDeep.Pure:Prop:=∀ (a0:Int) (a1:Bool),(Lit.int .u8 a0).wf=true→∃ k,norialaw25_ReqDeep.f k a0 a1=some true
mutual
def noriaref11_Decimal.l0:Nat→Int→ByteArray→Option (ByteArray)
 | 0,_,_=>none
 |k+1,x0,x3=>if x0 ≥ 10 then ((some (([(wrap64 (48+(Int.tmod (wrap64 (Int.tdiv x0 10)) 10))) % 256]:List Int):List Int)).bind fun y573=>(if (strOfNums y573).size+x3.size≤9223372036854775807 then (noriaref11_Decimal.l0 k (wrap64 (Int.tdiv x0 10)) ((strOfNums y573)++x3)) else (none))) else (some x3)
def noriaref11_Decimal.f:Nat→Int→Option (ByteArray)
 | 0,_=>none
 |k+1,a0=>if a0 < 0 then (if a0 > (-10) then ((noriaref11_Decimal.f k (wrap64 (-a0))).bind fun t567=>(if 1+t567.size≤9223372036854775807 then (some ((⟨#[45]⟩:ByteArray)++t567)) else (none))) else ((noriaref11_Decimal.f k (wrap64 (Int.tdiv a0 10))).bind fun t568=>((noriaref11_Decimal.f k (wrap64 (-(Int.tmod a0 10)))).bind fun t569=>(if t568.size+t569.size≤9223372036854775807 then (some (t568++t569)) else (none))))) else (noriaref11_Decimal.l0 k a0 (strOfNums (([(wrap64 (48+(Int.tmod a0 10))) % 256]:List Int))))
end
theorem noriaref11_Decimal.mono_l:∀ k,(∀ y0,LeO (noriaref11_Decimal.f k y0) (noriaref11_Decimal.f (k+1) y0))∧(∀ y0 y1,LeO (noriaref11_Decimal.l0 k y0 y1) (noriaref11_Decimal.l0 (k+1) y0 y1))
 | 0=>⟨fun _ r h=>by simp [noriaref11_Decimal.f] at h,fun _ _ r h=>by simp [noriaref11_Decimal.l0] at h⟩
 |k+1=>by
  obtain ⟨ih0,ih1⟩:=noriaref11_Decimal.mono_l k;refine ⟨?_,?_⟩
  ·intro y0
   unfold noriaref11_Decimal.f
   repeat' first
   |(with_reducible exact ih0 _)
   |(with_reducible exact ih1 _ _)
   |(with_reducible exact LeO.refl _)
   |(with_reducible exact LeO.none _)
   |(with_reducible refine LeO.ite ?_ ?_)
   |(with_reducible refine LeO.bind ?_ (fun _=>?_))
   |exact ih0 _
   |exact ih1 _ _
   |exact LeO.none _
   |refine LeO.ite ?_ ?_
   |refine LeO.bind ?_ (fun _=>?_)
  ·intro y0 y1
   unfold noriaref11_Decimal.l0
   repeat' first
   |(with_reducible exact ih0 _)
   |(with_reducible exact ih1 _ _)
   |(with_reducible exact LeO.refl _)
   |(with_reducible exact LeO.none _)
   |(with_reducible refine LeO.ite ?_ ?_)
   |(with_reducible refine LeO.bind ?_ (fun _=>?_))
   |exact ih0 _
   |exact ih1 _ _
   |exact LeO.none _
   |refine LeO.ite ?_ ?_
   |refine LeO.bind ?_ (fun _=>?_)
set_option maxHeartbeats 8000000 in
set_option maxRecDepth 100000 in
theorem noriaref11_Decimal.calls (k:Nat):∀ (a0:Int) (r:ByteArray) (w:World) (h:noriaref11_Decimal.f k a0=some r),
  Calls Tryz.prog 11 #[.int .i64 a0] w fun e w'=>e = .returned (.string r)∧Below w.heap.size w w':=by
 induction k using Nat.strongRecOn with
 |_ k ih=>
 intro a0 r w h
 cases k with
 |zero=>exact absurd h (by simp [noriaref11_Decimal.f])
 |succ k=>
 simp only [noriaref11_Decimal.f] at h;have HB:=Mk (Below.refl w.heap.size w);have H:(if a0 < 0 then (if a0 > (-10) then ((noriaref11_Decimal.f k (wrap64 (-a0))).bind fun t567=>(if 1+t567.size≤9223372036854775807 then (some ((⟨#[45]⟩:ByteArray)++t567)) else (none))) else ((noriaref11_Decimal.f k (wrap64 (Int.tdiv a0 10))).bind fun t568=>((noriaref11_Decimal.f k (wrap64 (-(Int.tmod a0 10)))).bind fun t569=>(if t568.size+t569.size≤9223372036854775807 then (some (t568++t569)) else (none))))) else (noriaref11_Decimal.l0 k a0 (strOfNums (([(wrap64 (48+(Int.tmod a0 10))) % 256]:List Int)))))=some r:=h;clear h;by_cases c2:a0 < 0
 ·rw [if_pos c2] at H
  have c2b0:=decide_eq_true c2;clear c2;by_cases c3:a0 > (-10)
  ·rw [if_pos c3] at H
   have c3b0:=decide_eq_true c3;clear c3;replace H:=Option.bind_eq_some_iff.mp H;obtain ⟨t567,A40,H⟩:=H;try dsimp only at H
   have A4:=Mk A40;clear A40;by_cases c5:1+t567.size≤9223372036854775807
   ·rw [if_pos c5] at H
    have c5b0:=eq_true c5;have c5b1:=decide_eq_true c5;try have c5b2:(9223372036854775807 < 1+t567.size)=False:=eq_false (Nat.not_lt.2 c5)
    obtain rfl:=Option.some.inj H;go_enter Tryz.func11,Tryz.ntmps11
    go_wp2_with (first|((with_reducible refine gate_callee (f:=11) rfl ?_);refine goesL_ (some 10) rfl rfl Tryz.func11 kR rfl #[.int .i64 (wrap64 (-a0))] rfl mA ?_;(with_reducible refine (ih k (by omega) (wrap64 (-a0)) t567 _ A4.out).mono ?_);rintro e w6 ⟨rfl,hb⟩;refine ⟨_,rfl,?_⟩;replace HB:=Mk (below_step bB hb);clear hb))
    go_ret
    exact ⟨eW,bB⟩
   ·rw [if_neg c5] at H
    exact absurd H (by simp)
  ·rw [if_neg c3] at H
   have c3b0:=decide_eq_false c3;clear c3;replace H:=Option.bind_eq_some_iff.mp H;obtain ⟨t568,A70,H⟩:=H;try dsimp only at H
   have A7:=Mk A70;clear A70;replace H:=Option.bind_eq_some_iff.mp H;obtain ⟨t569,A80,H⟩:=H;try dsimp only at H
   have A8:=Mk A80;clear A80;by_cases c9:t568.size+t569.size≤9223372036854775807
   ·rw [if_pos c9] at H
    have c9b0:=eq_true c9;have c9b1:=decide_eq_true c9;try have c9b2:(9223372036854775807 < t568.size+t569.size)=False:=eq_false (Nat.not_lt.2 c9)
    obtain rfl:=Option.some.inj H;go_enter Tryz.func11,Tryz.ntmps11
    go_wp2_with (first|((with_reducible refine gate_callee (f:=11) rfl ?_);refine goesL_ (some 14) rfl rfl Tryz.func11 kR rfl #[.int .i64 (wrap64 (Int.tdiv a0 10))] rfl mA ?_;(with_reducible refine (ih k (by omega) (wrap64 (Int.tdiv a0 10)) t568 _ A7.out).mono ?_);rintro e w10 ⟨rfl,hb⟩;refine ⟨_,rfl,?_⟩;replace HB:=Mk (below_step bB hb);clear hb)|((with_reducible refine gate_callee (f:=11) rfl ?_);refine goesL_ (some 18) rfl rfl Tryz.func11 kR rfl #[.int .i64 (wrap64 (-(Int.tmod a0 10)))] rfl mA ?_;(with_reducible refine (ih k (by omega) (wrap64 (-(Int.tmod a0 10))) t569 _ A8.out).mono ?_);rintro e w11 ⟨rfl,hb⟩;refine ⟨_,rfl,?_⟩;replace HB:=Mk (below_step bB hb);clear hb))
    go_ret
    exact ⟨eW,bB⟩
   ·rw [if_neg c9] at H
    exact absurd H (by simp)
 ·rw [if_neg c2] at H
  have c2b0:=decide_eq_false c2;clear c2;obtain ⟨y570,hy570⟩:∃ y_:List Int,y_=(([(wrap64 (48+(Int.tmod a0 10))) % 256]:List Int)):=⟨_,rfl⟩;replace H:(noriaref11_Decimal.l0 k a0 (strOfNums y570))=some r:=by first|(rw [hy570];with_reducible exact H)|(have H2_:=(Option.bind_some _ _).symm.trans H;rw [hy570];with_reducible exact H2_)|(have H2_:=(Option.bind_some _ _).symm.trans H;with_reducible exact H2_)|with_reducible exact H|(rw [hy570];exact H)|exact H
  have Ny570:=Mk hy570;clear hy570;have H':=Mk H;clear H;go_enter Tryz.func11,Tryz.ntmps11
  go_wp2_with (first|((with_reducible refine gate_dst (N:=24) rfl ?_);refine Kd.R_lit (Kd.int .u8) _ 5 ?hg (N:=24) ?hd (xs:=([(wrap64 (48+(Int.tmod a0 10))) % 256]:List Int)) (inner:=[.int .u8 ((wrap64 (48+(Int.tmod a0 10))) % 256)]) (ok:=fun _=>True) (okp:=fun _=>True) ?hr ?hp (fun _ hk=>hk) trivial (Below.refl _ _) (Nat.le_refl _) (by simp) ?_;(case hd=>rfl);(case hg=>rfl);(case hr=>exact hR);(case hp=>exact (Reps.one (show Kd.M (Kd.int .u8) _ _ _ ((wrap64 (48+(Int.tmod a0 10))) % 256) [.int .u8 ((wrap64 (48+(Int.tmod a0 10))) % 256)] from rfl) (Reps.none _ _)));intro v571 w12 ho13 hb hg_ hnew_;clear hg_ hnew_;(first|rw [← Ny570.out] at ho13|(simp only [Int.reduceToNat] at ho13;rw [← Ny570.out] at ho13));have HO572:=Mk (Kd.R_lower ho13 (below_size bB));replace HB:=Mk (below_step bB hb);clear hb ho13;have hcv14:=own_string (P:=Tryz.prog) Tryz.underlying74 Tryz.underlying5 Tryz.underlying9 (Kd.own_of_R HO572.out);have hcv14d:=fun m_=>own_string (P:=Tryz.prog) Tryz.underlying74 Tryz.underlying5 Tryz.underlying9 (Kd.own_of_R (Kd.R_drewN HO572.out m_))))
  go_loopg [0,3] k (fun kq v0 v3 w'=>∃ (x0_1:Int) (x3_1:ByteArray),v0 = .int .i64 x0_1∧v3 = .string x3_1∧Aside0 (noriaref11_Decimal.l0 kq x0_1 x3_1=some r)∧Aside0 (kq≤k)∧Aside0 (Below w.heap.size w w'))
  case atStart=>exact ⟨(a0),(strOfNums y570),sS,sS,H',⟨Nat.le_refl _⟩,⟨bB⟩⟩
  case round=>
   clear H';try clear c1
   try clear hcv1
   try clear c2
   try clear c2b0
   try clear p2
   try clear c3
   try clear c3b0
   try clear c5
   try clear c5b0
   try clear c5b1
   try clear c5b2
   try clear p6
   try clear c9
   try clear c9b0
   try clear c9b1
   try clear c9b2
   try clear c11
   try clear hcv14
   obtain ⟨x0_1,x3_1,rfl,rfl,HA,HK1,HB⟩:=hrel
   cases gk with
   |zero=>exact absurd HA.out (by simp [noriaref11_Decimal.l0])
   |succ k1=>
    have H:=HA.out;clear HA;simp only [noriaref11_Decimal.l0] at H;by_cases c15:x0_1 ≥ 10
    ·rw [if_pos c15] at H
     have c15b0:=decide_eq_true c15;clear c15;obtain ⟨y573,hy573⟩:∃ y_:List Int,y_=(([(wrap64 (48+(Int.tmod (wrap64 (Int.tdiv x0_1 10)) 10))) % 256]:List Int)):=⟨_,rfl⟩;replace H:(if (strOfNums y573).size+x3_1.size≤9223372036854775807 then (noriaref11_Decimal.l0 k1 (wrap64 (Int.tdiv x0_1 10)) ((strOfNums y573)++x3_1)) else (none))=some r:=by first|(rw [hy573];with_reducible exact H)|(have H2_:=(Option.bind_some _ _).symm.trans H;rw [hy573];with_reducible exact H2_)|(have H2_:=(Option.bind_some _ _).symm.trans H;with_reducible exact H2_)|with_reducible exact H|(rw [hy573];exact H)|exact H
     have Ny573:=Mk hy573;clear hy573;by_cases c16:(strOfNums y573).size+x3_1.size≤9223372036854775807
     ·rw [if_pos c16] at H
      have c16b0:=eq_true c16;have c16b1:=decide_eq_true c16;try have c16b2:(9223372036854775807 < (strOfNums y573).size+x3_1.size)=False:=eq_false (Nat.not_lt.2 c16)
      have H':=Mk H;clear H
      go_wp2_with (first|((with_reducible refine gate_dst (N:=34) rfl ?_);refine Kd.R_lit (Kd.int .u8) _ 5 ?hg (N:=34) ?hd (xs:=([(wrap64 (48+(Int.tmod (wrap64 (Int.tdiv x0_1 10)) 10))) % 256]:List Int)) (inner:=[.int .u8 ((wrap64 (48+(Int.tmod (wrap64 (Int.tdiv x0_1 10)) 10))) % 256)]) (ok:=fun _=>True) (okp:=fun _=>True) ?hr ?hp (fun _ hk=>hk) trivial (Below.refl _ _) (Nat.le_refl _) (by simp) ?_;(case hd=>rfl);(case hg=>rfl);(case hr=>exact hR);(case hp=>exact (Reps.one (show Kd.M (Kd.int .u8) _ _ _ ((wrap64 (48+(Int.tmod (wrap64 (Int.tdiv x0_1 10)) 10))) % 256) [.int .u8 ((wrap64 (48+(Int.tmod (wrap64 (Int.tdiv x0_1 10)) 10))) % 256)] from rfl) (Reps.none _ _)));intro v574 w17 ho18 hb hg_ hnew_;clear hg_ hnew_;(first|rw [← Ny573.out] at ho18|(simp only [Int.reduceToNat] at ho18;rw [← Ny573.out] at ho18));have HO575:=Mk (Kd.R_lower ho18 (below_size bB));replace HB:=Mk (below_step bB hb);clear hb ho18;have hcv19:=own_string (P:=Tryz.prog) Tryz.underlying74 Tryz.underlying5 Tryz.underlying9 (Kd.own_of_R HO575.out);have hcv19d:=fun m_=>own_string (P:=Tryz.prog) Tryz.underlying74 Tryz.underlying5 Tryz.underlying9 (Kd.own_of_R (Kd.R_drewN HO575.out m_))))
      go_roundg k1
      case measure=>have:=HK1.out;omega
      case rel=>exact ⟨(wrap64 (Int.tdiv x0_1 10)),((strOfNums y573)++x3_1),sS,sS,H',⟨by have:=HK1.out;omega⟩,⟨bB⟩⟩
     ·rw [if_neg c16] at H
      exact absurd H (by simp)
    ·rw [if_neg c15] at H
     have c15b0:=decide_eq_false c15;clear c15;obtain rfl:=Option.some.inj H
     go_wp2
     go_ret
     exact ⟨eW,bB⟩
def norialaw3_Of.f (a0_0:Int) (a0_1:Int) (a0_2:ByteArray) (a0_3:(Nat×Nat)):Option (Int×Int×ByteArray×(Nat×Nat)):=some (a0_0,a0_1,a0_2,a0_3)
set_option maxHeartbeats 8000000 in
set_option maxRecDepth 100000 in
theorem norialaw3_Of.calls (a0_0:Int) (a0_1:Int) (a0_2:ByteArray) (a0_3:(Nat×Nat)) (r1:Int) (r2:Int) (r3:ByteArray) (r4:(Nat×Nat)) (w:World) (h:norialaw3_Of.f a0_0 a0_1 a0_2 a0_3=some (r1,r2,r3,r4)):
  Calls Tryz.prog 71 #[.agg #[.int .i64 a0_0,.int .i64 a0_1,.string a0_2,.complex .f64 a0_3.1 a0_3.2]] w fun e w'=>e = .returned (.agg #[.int .i64 r1,.int .i64 r2,.string r3,.complex .f64 r4.1 r4.2])∧Below w.heap.size w w':=by
 have hu25:=Tryz.underlying25;have hu117:=Tryz.underlying117;have HB:=Mk (Below.refl w.heap.size w);have H:(some (a0_0,a0_1,a0_2,a0_3))=some (r1,r2,r3,r4):=h;clear h;simp only [Option.some.injEq,Prod.mk.injEq] at H;obtain ⟨rfl,rfl,rfl,rfl⟩:=H;go_enter Tryz.func71,Tryz.ntmps71
 go_wp2_with (first|((with_reducible refine gate_dst (N:=1) rfl ?_);refine boxE 1 #[.int .i64 a0_0,.int .i64 a0_1,.string a0_2,.complex .f64 a0_3.1 a0_3.2] 25 ?_;intro gb576 hg w2 hbox hb;have BK576:=Mk (hbox);have GW576:=Mk ((gS:w.heap.size≤gb576));have GE576:=Mk ((gS:w.heap.size≤gb576));replace HB:=Mk (below_step bB hb);clear hb hbox hg)|((with_reducible refine gate_dst (N:=2) rfl ?_);refine boxE 2 #[.int .i64 0,.int .i64 0,.string (⟨#[]⟩:ByteArray),.complex .f64 0 0] 117 ?_;intro gb577 hg w3 hbox hb;have BK577:=Mk (hbox);have GW577:=Mk ((gS:w.heap.size≤gb577));have GE577:=Mk ((gS:w.heap.size≤gb577));have NB576_577:=(gL BK576:Aside0 (gb576≠gb577));have NB577_576:=(gG BK576:Aside0 (gb577≠gb576));replace BK576:=bkb BK576 hb;replace HB:=Mk (below_step bB hb);clear hb hbox hg;have hnb4:=NB576_577.out;have hnc4:=NB577_576.out;obtain ⟨_,_,_,_,_,_,_,_⟩:=z4 BK576;obtain ⟨_,_,_,_,_,_,_,_⟩:=z4 BK577))
 refine bodyPost_ret (results_cell_row rfl _ _ gb577 117 #[.int .i64 a0_0,.int .i64 a0_1,.string a0_2,.complex .f64 a0_3.1 a0_3.2] (0,0) _ rfl (bP BK577) Tryz.underlying117 rfl kR) rfl ?_;exact ⟨eW,bB⟩
end Go.Proofs.YtcpjlbdjnaaaiaaGreatDoor.PAll
