import Derived.Test.YtcpjlbdjnaaaiaaGreatDoorPAllx26
namespace Go.Proofs.YtcpjlbdjnaaaiaaGreatDoor.PAll
open Go.Proofs.YtcpjlbdjnaaaiaaGreatDoor.Help
open Go.RowKit Go.Proofs.YtcpjlbdjnaaaiaaGreatDoorW.PrintWords Go.Proofs.YtcpjlbdjnaaaiaaGreatDoorW.PrintLast Go.Proofs.YtcpjlbdjnaaaiaaGreatDoorW.PrintMore
set_option linter.unusedVariables false
set_option linter.unusedSimpArgs false
mutual
def norialaw25_ReqRows.j0:Nat→List Int→Int→Bool→Option (Bool)
 | 0,_,_,_=>none
 |k+1,x0,x1,x22=>if x22=true then (some true) else (norialaw25_ReqRows.l0 k x0 (wrap64 (1+(wrap64 (Int.tmod x1 5)))) (⟨#[97,112,112,101,110,100,32]⟩:ByteArray) ([]:List (List (S25))) 0)
def norialaw25_ReqRows.l0:Nat→List Int→Int→ByteArray→List (List (S25))→Int→Option (Bool)
 | 0,_,_,_,_,_=>none
 |k+1,x0,x5,x6,x7,x8=>if x8 < (x0.length:Int) then (if x5=0 then (none) else (if (Int.tmod x8 x5)=0 then (if x7.length < 5864062014805 then ((some (x7++[[]]:List (List (S25)))).bind fun y603=>(if x8 > 0 then (if x6.size+1≤9223372036854775807 then (if 0≤x8 then ((noriaref11_Decimal.f k (rd x0 x8)).bind fun t607=>(if x6.size+1+t607.size≤9223372036854775807 then (if 0≤(wrap64 ((y603.length:Int) - 1)) then (if (wrap64 ((y603.length:Int) - 1)) < (y603.length:Int) then ((norialaw3_N.f (rd x0 x8)).bind fun bt610=>(if (rd_L11 y603 (wrap64 ((y603.length:Int) - 1))).length < 2932031007402 then (norialaw25_ReqRows.l0 k x0 x5 ((x6++(⟨#[59]⟩:ByteArray))++t607) (y603.set ((wrap64 ((y603.length:Int) - 1)):Int).toNat ((rd_L11 y603 (wrap64 ((y603.length:Int) - 1)))++[(⟨bt610.1,bt610.2.1,bt610.2.2.1,bt610.2.2.2⟩:S25)])) (wrap64 (x8+1))) else (none))) else (none)) else (none)) else (none))) else (none)) else (none)) else (if 0≤x8 then ((noriaref11_Decimal.f k (rd x0 x8)).bind fun t619=>(if x6.size+t619.size≤9223372036854775807 then (if 0≤(wrap64 ((y603.length:Int) - 1)) then (if (wrap64 ((y603.length:Int) - 1)) < (y603.length:Int) then ((norialaw3_N.f (rd x0 x8)).bind fun bt622=>(if (rd_L11 y603 (wrap64 ((y603.length:Int) - 1))).length < 2932031007402 then (norialaw25_ReqRows.l0 k x0 x5 (x6++t619) (y603.set ((wrap64 ((y603.length:Int) - 1)):Int).toNat ((rd_L11 y603 (wrap64 ((y603.length:Int) - 1)))++[(⟨bt622.1,bt622.2.1,bt622.2.2.1,bt622.2.2.2⟩:S25)])) (wrap64 (x8+1))) else (none))) else (none)) else (none)) else (none))) else (none)))) else (none)) else (if x6.size+1≤9223372036854775807 then (if 0≤x8 then ((noriaref11_Decimal.f k (rd x0 x8)).bind fun t631=>(if x6.size+1+t631.size≤9223372036854775807 then (if 0≤(wrap64 ((x7.length:Int) - 1)) then (if (wrap64 ((x7.length:Int) - 1)) < (x7.length:Int) then ((norialaw3_N.f (rd x0 x8)).bind fun bt634=>(if (rd_L11 x7 (wrap64 ((x7.length:Int) - 1))).length < 2932031007402 then (norialaw25_ReqRows.l0 k x0 x5 ((x6++(⟨#[44]⟩:ByteArray))++t631) (x7.set ((wrap64 ((x7.length:Int) - 1)):Int).toNat ((rd_L11 x7 (wrap64 ((x7.length:Int) - 1)))++[(⟨bt634.1,bt634.2.1,bt634.2.2.1,bt634.2.2.2⟩:S25)])) (wrap64 (x8+1))) else (none))) else (none)) else (none)) else (none))) else (none)) else (none)))) else ((req_Parse.f k x6).bind fun bt642=>((req_Text.f k 4 0 ([]:List ByteArray) 0 0 0 0 (⟨#[]⟩:ByteArray) ((0,0):Nat×Nat) ((0,0):Nat×Nat) ((0,0):Nat×Nat) ([]:List (S30)) x7).bind fun bt663=>(if (wrap64 (bt642.2.2.2.2.2.2.2.2.2.2.2.2.2+bt663.2))=0 then (if bt663.1.toList=x6.toList then (if bt642.1=4 then ((norialaw3_OfRows.f k x7).bind fun t665=>((norialaw3_SameRows.f k bt642.2.2.2.2.2.2.2.2.2.2.2.2.1 t665).bind fun t668=>(some t668))) else (none)) else (none)) else (none))))
end
def norialaw25_ReqRows.f (k:Nat) (l0:List Int) (a1:Int):Option (Bool):=(norialaw25_known.f).bind fun t602=>(if t602=true then (if (l0.length:Int)=0 then (norialaw25_ReqRows.j0 k l0 a1 true) else (norialaw25_ReqRows.j0 k l0 a1 (decide ((l0.length:Int) > 60)))) else (none))
def norialaw25_ReqRows.T17:Bool×List (List Nat×List Nat):=(true,[([],[]),([],[]),([1],[1]),([2],[2]),([],[]),([],[]),([5],[5]),([6],[6]),([4,7],[4,7]),([8],[8]),([],[]),([],[]),([10,11],[10,11]),([12],[12]),([13],[13]),([14],[14]),([9,15,14],[9,15]),([0,3,0,1,2,3,4,5,6,7,8,9,10,11,12,13,14,15,16],[0,3]),([17,16,16,0,1,2,3,4,5,6,7,8,9,10,11,12,13,14,15,16],[16,17])])
def norialaw25_ReqRows.B17:List Nat:=[0,0,2,6,0,0,32,96,240,496,0,0,3072,7168,15360,31744,65520,131071,262143]
theorem norialaw25_ReqRows.tab17:rtab .any (opsOf Tryz.f4 17)=norialaw25_ReqRows.T17:=by kernel_rfl
theorem norialaw25_ReqRows.bits17:waitsOk norialaw25_ReqRows.T17.2 norialaw25_ReqRows.B17=true:=by kernel_rfl
def norialaw25_ReqRows.T20:Bool×List (List Nat×List Nat):=(true,[([],[]),([],[]),([0,1],[0,1]),([2],[2]),([3],[3]),([4],[4]),([4],[4]),([5,6,4],[4,5,6]),([4,7],[4,7]),([8,4],[8]),([9],[9]),([10,9],[9,10]),([11,9],[9,11]),([9,12],[9,12]),([13,9],[13]),([14],[14]),([15,14],[14,15]),([14],[14]),([17,14,14],[14,17]),([16,18,18,14],[14,16,18]),([14,19],[14,19]),([20,19,0,1,2,3,4,5,6,7,8,9,10,11,12,13,14,15,16,17,18,19,20],[20])])
def norialaw25_ReqRows.B20:List Nat:=[0,0,3,7,15,31,31,127,255,511,1023,2047,4095,8191,16383,32767,65535,32767,163839,524287,1048575,2097151]
theorem norialaw25_ReqRows.tab20:rtab .any (opsOf Tryz.f4 20)=norialaw25_ReqRows.T20:=by kernel_rfl
theorem norialaw25_ReqRows.bits20:waitsOk norialaw25_ReqRows.T20.2 norialaw25_ReqRows.B20=true:=by kernel_rfl
set_option maxHeartbeats 8000000 in
set_option maxRecDepth 100000 in
theorem norialaw25_ReqRows.calls (k:Nat) (A0:Option Addr) (c0:Nat) (l0:List Int) (a1:Int) (r:Bool) (w:World) (hr0:Kd.C (Kd.int .i64) w A0 l0.length l0) (hc0:l0.length≤c0) (h:norialaw25_ReqRows.f k l0 a1=some r) (hG_:Glob w):
  Calls Tryz.prog 4 #[.slice A0 l0.length c0,.int .u8 a1] w fun e w'=>e = .returned (.bool r)∧Below w.heap.size w w':=by
 have HG_:=Mk hG_;clear hG_;have hu38:=Tryz.underlying38;have HR0:=Mk hr0;have HC0:=Mk hc0;clear hr0 hc0;have HB:=Mk (Below.refl w.heap.size w);have H:((norialaw25_known.f).bind fun t602=>(if t602=true then (if (l0.length:Int)=0 then (norialaw25_ReqRows.j0 k l0 a1 true) else (norialaw25_ReqRows.j0 k l0 a1 (decide ((l0.length:Int) > 60)))) else (none)))=some r:=h;clear h;replace H:=Option.bind_eq_some_iff.mp H;obtain ⟨t602,A30,H⟩:=H;try dsimp only at H
 have A3:=Mk A30;clear A30;by_cases c4:t602=true
 ·subst c4
  rw [if_pos rfl] at H;try dsimp only at H
  have HC5:=Mk H;clear H;go_enter Tryz.func4,Tryz.ntmps4
  go_upto_region 3 with (first|((with_reducible refine gate_callee (f:=5) rfl ?_);refine goesL_ (some 13) rfl rfl Tryz.func5 kR rfl #[] rfl mA ?_;(with_reducible refine (norialaw25_known.calls  true _ A3.out (Glob.below HG_.out bB)).mono ?_);rintro e w6 ⟨rfl,hb⟩;refine ⟨_,rfl,?_⟩;replace HB:=Mk (below_step bB hb);clear hb))
  (try simp only [Act.put,List.setIfInBounds_toArray,List.set_cons_zero,List.set_cons_succ])
  go_cut [22] (fun v22 wc=>∃ (kq:Nat) (x22_4:Bool),v22 = .bool x22_4∧Aside0 (norialaw25_ReqRows.j0 kq l0 a1 x22_4=some r)∧Aside0 (kq≤k)∧Aside0 (Below w.heap.size w wc))
  case first=>
   have H:=HC5.out;clear HC5;by_cases c7:(l0.length:Int)=0
   ·rw [if_pos c7] at H
    have c7b0:=beq_iff_eq.mpr c7;have c7b1:=bne_eq_false_iff_eq.mpr c7;clear c7;(first|rw [c7b0]|(simp only [i64_w,i32_w];rw [c7b0])|skip);have H':=Mk H;clear H
    go_wp2
    go_meet
    case rel=>exact ⟨_,(true),sS,H',⟨by first|omega|exact Nat.le_refl _⟩,⟨bB⟩⟩
   ·rw [if_neg c7] at H
    have c7b0:=beq_eq_false_iff_ne.mpr c7;have c7b1:=bne_iff_ne.mpr c7;have c7b2:¬ (l0=[]):=fun h_=>c7 (by rw [h_];rfl)
    (first|rw [c7b0]|(simp only [i64_w,i32_w];rw [c7b0])|skip);have H':=Mk H;clear H
    go_wp2
    go_meet
    case rel=>exact ⟨_,(decide ((l0.length:Int) > 60)),sS,H',⟨by first|omega|exact Nat.le_refl _⟩,⟨bB⟩⟩
  case rest=>
   clear HC5;try clear p2
   try clear c4
   try clear c5
   try clear c7
   try clear c7b0
   try clear c7b1
   try clear c7b2
   obtain ⟨kq,x22_4,rfl,HA,HJ4,HB⟩:=hcut
   cases kq with
   |zero=>exact absurd HA.out (by simp [norialaw25_ReqRows.j0])
   |succ kj4=>
    have H:=HA.out;clear HA;simp only [norialaw25_ReqRows.j0] at H;by_cases c8:x22_4=true
    ·subst c8
     rw [if_pos rfl] at H;try dsimp only at H
     obtain rfl:=Option.some.inj H
     go_wp2
     go_ret
     exact ⟨eW,bB⟩
    ·replace c8:=Bool.eq_false_iff.mpr c8
     subst c8;rw [if_neg (show ¬ (false=true) by decide)] at H;try dsimp only at H
     have H':=Mk H;clear H
     go_wp2
     go_loopg [6,7,8] kj4 (fun kq v6 v7 v8 w'=>∃ (x6_2:ByteArray) (x7_2:List (List (S25))) (x8_2:Int),v6 = .string x6_2∧v8 = .int .i64 x8_2∧Aside0 (norialaw25_ReqRows.l0 kq l0 (wrap64 (1+(wrap64 (Int.tmod a1 5)))) x6_2 x7_2 x8_2=some r)∧Aside0 (kq≤kj4)∧Aside0 (Kd.S (Kd.slice 25 k25) 46 w' w.heap.size (fun _=>True) v7 x7_2)∧Aside0 (Below w.heap.size w w'))
     case atStart=>exact ⟨((⟨#[97,112,112,101,110,100,32]⟩:ByteArray)),(([]:List (List (S25)))),(0),sS,sS,H',⟨Nat.le_refl _⟩,⟨by first|exact Kd.S_nil _ _ _ _ _|exact Kd.N_nil _ _ _ _ _|exact Kd.V_nil _ _ _ _ _|exact Kd.Q_nil _ _ _ _ _|exact Kd.R_nil _ _ _ _ _⟩,⟨bB⟩⟩
     case round=>
      clear H';try clear p2
      try clear c4
      try clear c5
      try clear p6
      try clear c7
      try clear c7b0
      try clear c7b1
      try clear c7b2
      try clear c8
      try clear p2
      obtain ⟨x6_2,x7_2,x8_2,rfl,rfl,HA,HK2,HO_7,HB⟩:=hrel
      cases gk with
      |zero=>exact absurd HA.out (by simp [norialaw25_ReqRows.l0])
      |succ k2=>
       have H:=HA.out;clear HA;simp only [norialaw25_ReqRows.l0] at H;by_cases c9:x8_2 < (l0.length:Int)
       ·rw [if_pos c9] at H
        have c9b0:=decide_eq_true c9;clear c9;by_cases c10:(wrap64 (1+(wrap64 (Int.tmod a1 5))))=0
        ·rw [if_pos c10] at H
         exact absurd H (by simp)
        ·rw [if_neg c10] at H
         have c10b0:=beq_eq_false_iff_ne.mpr c10;have c10b1:=bne_iff_ne.mpr c10;by_cases c11:(Int.tmod x8_2 (wrap64 (1+(wrap64 (Int.tmod a1 5)))))=0
         ·rw [if_pos c11] at H
          have c11b0:=beq_iff_eq.mpr c11;have c11b1:=bne_eq_false_iff_eq.mpr c11;clear c11;by_cases c12:x7_2.length < 5864062014805
          ·rw [if_pos c12] at H
           have LMc12:=Mk c12;clear c12;obtain ⟨y603,hy603⟩:∃ y_:List (List (S25)),y_=(x7_2++[[]]):=⟨_,rfl⟩;replace H:(if x8_2 > 0 then (if x6_2.size+1≤9223372036854775807 then (if 0≤x8_2 then ((noriaref11_Decimal.f k2 (rd l0 x8_2)).bind fun t607=>(if x6_2.size+1+t607.size≤9223372036854775807 then (if 0≤(wrap64 ((y603.length:Int) - 1)) then (if (wrap64 ((y603.length:Int) - 1)) < (y603.length:Int) then ((norialaw3_N.f (rd l0 x8_2)).bind fun bt610=>(if (rd_L11 y603 (wrap64 ((y603.length:Int) - 1))).length < 2932031007402 then (norialaw25_ReqRows.l0 k2 l0 (wrap64 (1+(wrap64 (Int.tmod a1 5)))) ((x6_2++(⟨#[59]⟩:ByteArray))++t607) (y603.set ((wrap64 ((y603.length:Int) - 1)):Int).toNat ((rd_L11 y603 (wrap64 ((y603.length:Int) - 1)))++[(⟨bt610.1,bt610.2.1,bt610.2.2.1,bt610.2.2.2⟩:S25)])) (wrap64 (x8_2+1))) else (none))) else (none)) else (none)) else (none))) else (none)) else (none)) else (if 0≤x8_2 then ((noriaref11_Decimal.f k2 (rd l0 x8_2)).bind fun t619=>(if x6_2.size+t619.size≤9223372036854775807 then (if 0≤(wrap64 ((y603.length:Int) - 1)) then (if (wrap64 ((y603.length:Int) - 1)) < (y603.length:Int) then ((norialaw3_N.f (rd l0 x8_2)).bind fun bt622=>(if (rd_L11 y603 (wrap64 ((y603.length:Int) - 1))).length < 2932031007402 then (norialaw25_ReqRows.l0 k2 l0 (wrap64 (1+(wrap64 (Int.tmod a1 5)))) (x6_2++t619) (y603.set ((wrap64 ((y603.length:Int) - 1)):Int).toNat ((rd_L11 y603 (wrap64 ((y603.length:Int) - 1)))++[(⟨bt622.1,bt622.2.1,bt622.2.2.1,bt622.2.2.2⟩:S25)])) (wrap64 (x8_2+1))) else (none))) else (none)) else (none)) else (none))) else (none)))=some r:=by first|(rw [hy603];with_reducible exact H)|(have H2_:=(Option.bind_some _ _).symm.trans H;rw [hy603];with_reducible exact H2_)|(have H2_:=(Option.bind_some _ _).symm.trans H;with_reducible exact H2_)|with_reducible exact H|(rw [hy603];exact H)|exact H
           have Ny603:=Mk hy603;clear hy603;by_cases c13:x8_2 > 0
           ·rw [if_pos c13] at H
            have c13b0:=decide_eq_true c13;clear c13;by_cases c14:x6_2.size+1≤9223372036854775807
            ·rw [if_pos c14] at H
             have c14b0:=eq_true c14;have c14b1:=decide_eq_true c14;try have c14b2:(9223372036854775807 < x6_2.size+1)=False:=eq_false (Nat.not_lt.2 c14)
             by_cases c15:0≤x8_2
             ·rw [if_pos c15] at H
              have c15b0:=decide_eq_true c15;clear c15;replace H:=Option.bind_eq_some_iff.mp H;obtain ⟨t607,A160,H⟩:=H;try dsimp only at H
              have A16:=Mk A160;clear A160;by_cases c17:x6_2.size+1+t607.size≤9223372036854775807
              ·rw [if_pos c17] at H
               have c17b0:=eq_true c17;have c17b1:=decide_eq_true c17;try have c17b2:(9223372036854775807 < x6_2.size+1+t607.size)=False:=eq_false (Nat.not_lt.2 c17)
               have c17b3:(9223372036854775807 < x6_2.size+(1+t607.size))=False:=eq_false (by omega);obtain ⟨ji18,hji18⟩:∃ j_:Int,(wrap64 ((y603.length:Int) - 1))=j_:=⟨_,rfl⟩;replace H:(if 0≤(ji18) then (if (ji18) < (y603.length:Int) then ((norialaw3_N.f (rd l0 x8_2)).bind fun bt610=>(if (rd_L11 y603 (ji18)).length < 2932031007402 then (norialaw25_ReqRows.l0 k2 l0 (wrap64 (1+(wrap64 (Int.tmod a1 5)))) ((x6_2++(⟨#[59]⟩:ByteArray))++t607) (y603.set ((ji18):Int).toNat ((rd_L11 y603 (ji18))++[(⟨bt610.1,bt610.2.1,bt610.2.2.1,bt610.2.2.2⟩:S25)])) (wrap64 (x8_2+1))) else (none))) else (none)) else (none))=some r:=by first|(rw [hji18] at H;exact H)|(simp only [hji18] at H ⊢;exact H)
               (try rw [hji18] at A16);have hji18w:(IntKind.i64.wrap ((y603.length:Int) - 1))=ji18:=(i64_w _).trans hji18;by_cases c19:0≤(ji18)
               ·rw [if_pos c19] at H
                have c19b0:=decide_eq_true c19;clear c19;by_cases c20:(ji18) < (y603.length:Int)
                ·rw [if_pos c20] at H
                 have c20b0:=decide_eq_true c20;clear c20;replace H:=Option.bind_eq_some_iff.mp H;obtain ⟨⟨t610,t611,t612,t613⟩,A210,H⟩:=H;try dsimp only at H
                 have A21:=Mk A210;clear A210;by_cases c22:(rd_L11 y603 (ji18)).length < 2932031007402
                 ·rw [if_pos c22] at H
                  have LMc22:=Mk c22;clear c22;obtain ⟨y614,hy614⟩:∃ y_:List (S25),y_=((rd_L11 y603 (ji18))++[(⟨t610,t611,t612,t613⟩:S25)]):=⟨_,rfl⟩;replace H:(norialaw25_ReqRows.l0 k2 l0 (wrap64 (1+(wrap64 (Int.tmod a1 5)))) ((x6_2++(⟨#[59]⟩:ByteArray))++t607) (y603.set ((ji18):Int).toNat y614) (wrap64 (x8_2+1)))=some r:=by first|(rw [hy614];with_reducible exact H)|(have H2_:=(Option.bind_some _ _).symm.trans H;rw [hy614];with_reducible exact H2_)|(have H2_:=(Option.bind_some _ _).symm.trans H;with_reducible exact H2_)|with_reducible exact H|(rw [hy614];exact H)|exact H
                  have Ny614:=Mk hy614;clear hy614;obtain ⟨y617,hy617⟩:∃ y_:List (List (S25)),y_=(y603.set ((ji18):Int).toNat y614):=⟨_,rfl⟩;replace H:(norialaw25_ReqRows.l0 k2 l0 (wrap64 (1+(wrap64 (Int.tmod a1 5)))) ((x6_2++(⟨#[59]⟩:ByteArray))++t607) y617 (wrap64 (x8_2+1)))=some r:=by first|(rw [hy617];with_reducible exact H)|(have H2_:=(Option.bind_some _ _).symm.trans H;rw [hy617];with_reducible exact H2_)|(have H2_:=(Option.bind_some _ _).symm.trans H;with_reducible exact H2_)|with_reducible exact H|(rw [hy617];exact H)|exact H
                  have Ny617:=Mk hy617;clear hy617;have H':=Mk H;clear H;try go_wp2_with (first|((with_reducible refine gate_builtin (b:=.append) (xs:=#[.tmp 37,.tmp 38]) rfl ?_);(try (refine gate_guard (by rfl) ?_;dsimp only));at_builtin;refine Kd.S_append (Kd.slice 25 k25) (w0:=w) w.heap.size rfl (.tmp 37) (.tmp 38) 36 46 (.slice none 0 0) 24 rfl Tryz.underlying36 info46 rfl (by decide) (by omega) u7 x7_2 [] [.slice none 0 0] (fun _=>True) (fun _=>False) rfl rfl ?aP (fun _ hk=>hk.elim) ?aF ?aO ?aB ?aS ?aL ?_;(case aP=>exact ⟨_,rfl,Kd.R_nil _ _ _ _ _⟩);(case aB=>exact bB);(case aF=>exact (fun _ _=>trivial));(case aO=>exact (by (with_reducible repeat (first|apply Kd.S_alloc|apply Kd.S_drewN|apply Kd.S_drew));exact Kd.S_mono HO_7.out (fun k_ hk=>⟨trivial,fun e_=>e_⟩)));(case aS=>exact (below_size bB));(case aL=>have:=LMc12.out;omega);intro v604 w24 ho hb hg hat;rw [← Ny603.out] at ho;have n0_:=Mk (hb);have n1_:=Mk (ho);clear HB;clear HO_7;have HB:=n0_;have HO605:=n1_;clear n0_ n1_;clear ho hb hg hat;have p606:0≤(x8_2:Int):=of_decide_eq_true aS;have q606:x8_2 < (l0.length:Int):=of_decide_eq_true aS;obtain ⟨ad606,e606,hx606_0⟩:=Kd.at_int HR0.out x8_2 p606 q606;cases e606;replace hx606_0:=(HB.out.cell (World.block_lt_of_cell? w _ hx606_0)).trans hx606_0;replace p606:=eq_true p606;replace q606:=eq_true q606)|((with_reducible refine gate_callee (f:=11) rfl ?_);refine goesL_ (some 51) rfl rfl Tryz.func11 kR rfl #[.int .i64 (rd l0 x8_2)] rfl mA ?_;(with_reducible refine (noriaref11_Decimal.calls k2 (rd l0 x8_2) t607 _ A16.out).mono ?_);rintro e w25 ⟨rfl,hb⟩;refine ⟨_,rfl,?_⟩;replace HO605:=Mk (Kd.S_below (sU HO605) hb);replace HB:=Mk (below_step bB hb);clear hb))
                  replace HO605:=Mk (Kd.S_drew HO605.out);replace HB:=Mk (below_drew1 HB.out);obtain ⟨Ao27,co27,eo27⟩:=Kd.S_slice HO605.out;(first|subst eo27|(injection eo27 with f1_ f2_ f3_;have f4_:=f1_.symm;have f5_:=f3_.symm;clear f1_ f2_ f3_;subst f4_;subst f5_));have p608:0≤((ji18):Int):=of_decide_eq_true aS;have q608:(ji18) < (y603.length:Int):=of_decide_eq_true aS;obtain ⟨ad608,A608_0,c608_0,e608,hx608_0,hl608_0,hi608_0⟩:=at_L11 (Kd.S_reads' HO605.out).2.2 (ji18) p608 q608;cases e608
                  obtain ⟨ce608,hce608,hMe608,hcc608⟩:=Kd.S_get HO605.out [] (ji18) p608 (by first|exact q608|exact of_decide_eq_true aS|(have e_:=(Kd.S_reads' HO605.out).1;omega));obtain ⟨ve608_0,rfl,ge608_0⟩:=hMe608;have hv608_0:=hcc608 0 _ rfl;rw [Nat.add_zero,show ((Kd.slice 25 k25)).sz=1 from rfl,Nat.mul_one] at hv608_0;replace hv608_0:=Option.some.inj (hv608_0.symm.trans hx608_0);rw [hv608_0] at ge608_0;have HL608_0:=Mk (show Kd.R k25 25 _ _ _ _ (rd_L11 y603 (ji18)) from ge608_0);clear hv608_0 ge608_0;have HX608_0:=Mk hx608_0;clear hcc608 hce608;have HR608_0:=Mk hi608_0;have HC608_0:=Mk hl608_0;clear hi608_0 hl608_0;replace p608:=eq_true p608;replace q608:=eq_true q608;have p609:0≤(x8_2:Int):=of_decide_eq_true aS;have q609:x8_2 < (l0.length:Int):=of_decide_eq_true aS;obtain ⟨ad609,e609,hx609_0⟩:=Kd.at_int HR0.out x8_2 p609 q609;have hw609_0:=hx609_0;obtain rfl:ad606=ad609:=(by injection e609);replace hx609_0:=(HB.out.cell (World.block_lt_of_cell? w _ hx609_0)).trans hx609_0;replace p609:=eq_true p609;replace q609:=eq_true q609;refine start_ (n:=19) (S:=fun w'=>w'.cell? (ad608.add ((ji18)).toNat)=some (.slice A608_0 (rd_L11 y603 (ji18)).length c608_0)∧w'.cell? (ad606.add (x8_2).toNat)=some (.int .i64 (rd l0 x8_2))) (ds:=[18]) #[b0,b0,b0,b0,b0,b0,b0,b0,b0,b0,b0,b0,b0,b0,b0,b0,b0,b0,b0] kR rfl rfl ⟨hx608_0,((HB.out.cell (World.block_lt_of_cell? w _ hw609_0)).trans hw609_0)⟩ (fun hHeld=>?_);refine with_tabW norialaw25_ReqRows.tab17 norialaw25_ReqRows.bits17 (fun HT_ HW_=>?_)
                  generalize w25.drew=w26 at HO605 HB HL608_0 HR608_0 HX608_0 hx608_0 hx609_0 hHeld ⊢
                  refine pure_ (i:=0) (N:=some 53) (v:=?_) (a':=?_) (fl 19 1) rfl rfl (aO HT_) fI (Or.inl ⟨by rfl,?_⟩) ?_ ?_;rotate_left
                  ·intro w'
                   go_simp
                   with_reducible rfl
                  rotate_left
                  ·exact pA
                  refine pure_ (i:=1) (N:=some 54) (v:=?_) (a':=?_) (fl 19 3) rfl rfl (aO HT_) fI (Or.inl ⟨by rfl,?_⟩) ?_ ?_;rotate_left
                  ·intro w'
                   go_simp
                   with_reducible rfl
                  rotate_left
                  ·exact pA
                  refine pure_ (i:=2) (N:=some 55) (v:=?_) (a':=?_) (fl 19 7) rfl rfl (aO HT_) fI (Or.inl ⟨by rfl,?_⟩) ?_ ?_;rotate_left
                  ·intro w'
                   go_simp
                   with_reducible rfl
                  rotate_left
                  ·exact pA
                  refine pure_ (i:=3) (N:=some 56) (v:=?_) (a':=?_) (fl 19 15) rfl rfl (aO HT_) fI (Or.inl ⟨by rfl,?_⟩) ?_ ?_;rotate_left
                  ·intro w'
                   go_simp
                   with_reducible rfl
                  rotate_left
                  ·exact pA
                  refine pure_ (i:=4) (N:=some 57) (v:=?_) (a':=?_) (fl 19 31) rfl rfl (aO HT_) fI (Or.inl ⟨by rfl,?_⟩) ?_ ?_;rotate_left
                  ·intro w'
                   go_simp
                   with_reducible rfl
                  rotate_left
                  ·exact pA
                  refine pure_ (i:=5) (N:=some 58) (v:=?_) (a':=?_) (fl 19 63) rfl rfl (aO HT_) fI (Or.inl ⟨by rfl,?_⟩) ?_ ?_;rotate_left
                  ·intro w'
                   go_simp
                   with_reducible rfl
                  rotate_left
                  ·exact pA
                  refine pure_ (i:=6) (N:=some 59) (v:=?_) (a':=?_) (fl 19 127) rfl rfl (aO HT_) fI (Or.inl ⟨by rfl,?_⟩) ?_ ?_;rotate_left
                  ·intro w'
                   go_simp
                   with_reducible rfl
                  rotate_left
                  ·exact pA
                  refine pure_ (i:=7) (N:=some 60) (v:=?_) (a':=?_) (fl 19 255) rfl rfl (aO HT_) fI (Or.inl ⟨by rfl,?_⟩) ?_ ?_;rotate_left
                  ·intro w'
                   go_simp
                   with_reducible rfl
                  rotate_left
                  ·exact pA
                  refine pure_ (i:=8) (N:=some 61) (v:=?_) (a':=?_) (fl 19 511) rfl rfl (aO HT_) fI (Or.inl ⟨by rfl,?_⟩) ?_ ?_;rotate_left
                  ·intro w'
                   go_simp
                   with_reducible rfl
                  rotate_left
                  ·exact pA
                  refine pure_ (i:=10) (N:=some 63) (v:=?_) (a':=?_) (fl 19 1535) rfl rfl (aO HT_) fI (Or.inl ⟨by rfl,?_⟩) ?_ ?_;rotate_left
                  ·intro w'
                   go_simp
                   with_reducible rfl
                  rotate_left
                  ·exact pA
                  refine pure_ (i:=11) (N:=some 64) (v:=?_) (a':=?_) (fl 19 3583) rfl rfl (aO HT_) fI (Or.inl ⟨by rfl,?_⟩) ?_ ?_;rotate_left
                  ·intro w'
                   go_simp
                   with_reducible rfl
                  rotate_left
                  ·exact pA
                  refine pure_ (i:=12) (N:=some 65) (v:=?_) (a':=?_) (fl 19 7679) rfl rfl (aO HT_) fI (Or.inl ⟨by rfl,?_⟩) ?_ ?_;rotate_left
                  ·intro w'
                   go_simp
                   with_reducible rfl
                  rotate_left
                  ·exact pA
                  refine take_ (i:=9) (N:=some 62) (v:=?_) (a':=?_) (fl 19 8191) rfl rfl (tO HT_ HW_) fI (Or.inl ⟨by rfl,?_⟩) hHeld ?_ ?_;rotate_left
                  ·rintro w' ⟨s0,s1⟩
                   go_simp
                   with_reducible rfl
                  rotate_left
                  ·exact pA
                  refine take_ (i:=13) (N:=some 66) (v:=?_) (a':=?_) (fl 19 16383) rfl rfl (tO HT_ HW_) fI (Or.inl ⟨by rfl,?_⟩) hHeld ?_ ?_;rotate_left
                  ·rintro w' ⟨s0,s1⟩
                   go_simp
                   with_reducible rfl
                  rotate_left
                  ·exact pA
                  refine one_ (i:=14) (N:=some 67) (fl 19 32767) rfl rfl (oO HT_) (by decide) (fun K hK=>?_);refine goes_ Tryz.func12 kR rfl #[.int .i64 (rd l0 x8_2)] (by rfl) rfl rfl mA ?_;with_reducible refine (norialaw3_N.calls (rd l0 x8_2) t610 t611 t612 t613 _ A21.out).mono ?_
                  rintro e w28 ⟨rfl,hb⟩;have HS0_:=(hb.cell (World.block_lt_of_cell? _ _ (hHeld.1))).trans (hHeld.1);refine ⟨_,rfl,?_⟩;replace HO605:=Mk (Kd.S_below (sU HO605) hb);replace HL608_0:=Mk (Kd.R_below (by (repeat apply Rup);exact HL608_0.out) hb);replace HR608_0:=Mk (Kd.C_below (d:=k25) (xs:=rd_L11 y603 (ji18)) (A:=A608_0) (n:=(rd_L11 y603 (ji18)).length) (by repeat (first|(with_reducible exact HR608_0.out)|(with_reducible refine Kd.C_alloc ?_ _)|(with_reducible refine Kd.C_drewN ?_ _)|(with_reducible refine Kd.C_drew ?_)|exact HR608_0.out)) hb);replace HX608_0:=Mk (pw_cell_below hb HX608_0.out);replace HB:=Mk (below_step bB hb);(try clear hb);(try clear hb2);(try clear hk);(try clear hi);obtain ⟨go29,co29,eo29,gb29,gl29,cl29,HG29⟩:=Kd.S_form HO605.out (by have h_:((ji18):Int) < ((y603.length:Int):Int):=of_decide_eq_true aS;have h2_:0≤((ji18):Int):=(of_decide_eq_true aS);omega);(first|cases eo29|(injection eo29 with ea_ en_ ec_;(first|subst ea_|(injection ea_ with ea_;subst ea_));subst ec_;clear en_));have GB29:=Mk gb29;have GG29:=Mk HG29;clear gb29 gl29 HG29;(first|simp only [add_plain] at hx608_0|skip);obtain ⟨oki29,ce29,hcl29,hM29,hcc29,_,_,hH29⟩:=Kd.S_elem HO605.out [] ((ji18):Int) (of_decide_eq_true aS) (by have h_:((ji18):Int) < ((y603.length:Int):Int):=of_decide_eq_true aS;first|exact h_|(have e_:=(Kd.S_reads' HO605.out).1;omega)|simpa using h_);obtain ⟨ve29_0,rfl,ge29_0⟩:=hM29;have hv29:=hcc29 0 _ rfl;have hX29:=HX608_0.out;(try simp only [add_plain] at hX29);(try simp only [Nat.add_zero] at hv29);(try rw [show ((Kd.slice 25 k25)).sz=1 from rfl,Nat.mul_one] at hv29);replace hv29:=Option.some.inj (hv29.symm.trans hX29);subst hv29;clear hX29 hcc29 hcl29;have UU29:=Mk (show Kd.R k25 25 _ w.heap.size oki29 (.slice A608_0 (rd_L11 y603 (ji18)).length c608_0) (rd_L11 y603 (ji18)) from ge29_0);have HH29:=Mk hH29;have HN29:=Mk (Kd.S_reads' HO605.out).1;clear hH29 ge29_0;refine hK.out _ _ ⟨HS0_,((HB.out.cell (World.block_lt_of_cell? w _ hw609_0)).trans hw609_0)⟩ (fun hHeld=>?_);clear hK K;refine norm_ (a':=?_) ?_ ?_;rotate_left
                  ·show Act.put _ (some 67) _=_
                   simp only [Act.put,List.setIfInBounds_toArray,List.set_cons_zero,List.set_cons_succ,i64_w,i32_w];rfl
                  refine one_ (i:=15) (N:=some 68) (fl 19 65535) rfl rfl (oO HT_) (by decide) (fun K hK=>?_);refine value_ (w1:=?_) (v:=?_) (by rfl) rfl ?_ ?_;rotate_left 2
                  ·go_simp
                   constructor
                   ·rfl
                   ·rfl
                  refine hK.out _ _ ⟨(World.cell?_alloc_lt _ _ _ (World.block_lt_of_cell? _ _ (hHeld.1))).trans (hHeld.1),(World.cell?_alloc_lt _ _ _ (World.block_lt_of_cell? _ _ (((HB.out.cell (World.block_lt_of_cell? w _ hw609_0)).trans hw609_0)))).trans (((HB.out.cell (World.block_lt_of_cell? w _ hw609_0)).trans hw609_0))⟩ (fun hHeld=>?_);clear hK K;refine norm_ (a':=?_) ?_ ?_;rotate_left
                  ·show Act.put _ (some 68) _=_
                   simp only [Act.put,List.setIfInBounds_toArray,List.set_cons_zero,List.set_cons_succ,i64_w,i32_w];rfl
                  refine one_ (i:=16) (N:=some 69) (fl 19 131071) rfl rfl (oO HT_) (by decide) (fun K hK=>?_);refine Kd.R_append_step k25 (w0:=w) w.heap.size (by rfl) (.tmp 62) (.tmp 68) 46 25 (.agg #[(.int .i64 0),(.int .i64 0),(.string ⟨#[]⟩),(.complex .f64 0 0)]) 48 rfl Tryz.underlying46 info25 rfl (by decide) (by omega) (.slice A608_0 (rd_L11 y603 (ji18)).length c608_0) (rd_L11 y603 (ji18)) (⟨t610,t611,t612,t613⟩:S25) [.int .i64 t610,.int .i64 t611,.string t612,.complex .f64 t613.1 t613.2] (fun k_=>oki29 k_∨((fun _=>True)) k_∧w28.heap.size≤k_) (fun _=>False) rfl rfl ?aP (fun _ hk=>hk.elim) ?aF ?aO ?aB ?aS ?aL ?_;(case aP=>exact k25_mkM _ _ _ (⟨t610,t611,t612,t613⟩:S25));(case aB=>exact bB);(case aF=>exact (fun k_ hk=>.inr ⟨trivial,hk⟩));(case aO=>exact (by (repeat apply Rup);exact Kd.R_mono UU29.out (fun _ hk=>.inl hk)));(case aS=>exact (below_size bB));(case aL=>have:=LMc22.out;omega);intro v615 w30 ho hb hg hat;(first|have HS0_:=cell_grown hg (hHeld.1) (by first|(rw [add_block];exact (fun e_=>((HL608_0.out.1 _ e_.symm).2) rfl))|(show some (Addr.add _ _).block≠_;rw [add_block];exact (fun e_=>((HL608_0.out.1 _ e_.symm).2) rfl))|exact (fun e_=>((HL608_0.out.1 _ e_.symm).2) rfl))|have HS0_:=cell_grown hg (cell_unalloc (hHeld.1) (by first|(rw [add_block];exact Kd.S_lt HO605.out _ rfl)|(show (Addr.add _ _).block < _;rw [add_block];exact Kd.S_lt HO605.out _ rfl)|exact Kd.S_lt HO605.out _ rfl)) (by first|(rw [add_block];exact (fun e_=>((HL608_0.out.1 _ e_.symm).2) rfl))|(show some (Addr.add _ _).block≠_;rw [add_block];exact (fun e_=>((HL608_0.out.1 _ e_.symm).2) rfl))|exact (fun e_=>((HL608_0.out.1 _ e_.symm).2) rfl)));rw [← Ny614.out] at ho;have n0_:=Mk (hb);have n1_:=Mk (Kd.H_grown (Kd.H_widen (by repeat (first|exact HH29.out|refine Kd.H_alloc ?_ _|refine Kd.H_drewN ?_ _|refine Kd.H_drew ?_))) hg (fun k_ e_=>.inl (UU29.out.1 k_ e_)));have n2_:=Mk (ho);clear HB;clear HH29;clear HO605;clear UU29;clear HL608_0;have HB:=n0_;have HH29:=n1_;have HO616:=n2_;clear n0_ n1_ n2_;clear ho hb hg hat;have p23:0≤((ji18):Int):=of_decide_eq_true aS;have q23:((ji18):Int) < ((y603.length:Int):Int):=of_decide_eq_true aS;replace p23:=eq_true p23;replace q23:=eq_true q23;obtain ⟨Ao33,co33,eo33⟩:=Kd.R_slice HO616.out;(first|subst eo33|(injection eo33 with f1_ f2_ f3_;have f4_:=f1_.symm;have f5_:=f3_.symm;clear f1_ f2_ f3_;subst f4_;subst f5_));obtain ⟨_,_,hraw31,_,_,hcc31,_⟩:=Kd.H_raw HH29.out (of_decide_eq_true aS) (by have h_:((ji18):Int) < ((y603.length:Int):Int):=of_decide_eq_true aS;first|exact h_|(have e_:=(HN29.out);omega)|simpa using h_);obtain ⟨_,hfr31⟩:=Kd.H_at HH29.out (of_decide_eq_true aS) (by have h_:((ji18):Int) < ((y603.length:Int):Int):=of_decide_eq_true aS;first|exact h_|(have e_:=(HN29.out);omega)|simpa using h_);have hx31_0:=hcc31 0 _ rfl;have hf31_0:=hfr31 0;(try simp only [Nat.add_zero] at hx31_0 hf31_0);(try rw [show ((Kd.slice 25 k25)).sz=1 from rfl,Nat.mul_one] at hx31_0);(try rw [show ((Kd.slice 25 k25)).sz=1 from rfl,Nat.mul_one] at hf31_0);have HP31:=Kd.S_seg0 HH29.out (of_decide_eq_true aS) (by have h_:((ji18):Int) < ((y603.length:Int):Int):=of_decide_eq_true aS;first|exact h_|(have e_:=(HN29.out);omega)|simpa using h_) (seg:=[.slice Ao33 y614.length co33]) (j:=0) (show 1≤1 from by decide) (x':=y614) (Kd.M_row HO616.out) (fun _ hk=>hk);(try simp only [show ((Kd.slice 25 k25)).sz=1 from rfl,Nat.mul_one,Nat.add_zero] at HP31);clear hcc31 hfr31;have HS31:=HP31.1;rw [← Ny617.out] at HS31;have HQ31:=Mk HS31;obtain ⟨_,hgg31⟩:=Kd.R_typed hraw31 go29 rfl;have GG31_:=Mk hgg31;clear HP31 HS31 hgg31;refine hK.out _ _ ⟨HS0_,((HB.out.cell (World.block_lt_of_cell? w _ hw609_0)).trans hw609_0)⟩ (fun hHeld=>?_);clear hK K;refine norm_ (a':=?_) ?_ ?_;rotate_left
                  ·show Act.put _ (some 69) _=_
                   simp only [Act.put,List.setIfInBounds_toArray,List.set_cons_zero,List.set_cons_succ,i64_w,i32_w];rfl
                  refine pure_ (i:=17) (N:=some 70) (v:=?_) (a':=?_) (fl 19 262143) rfl rfl (aO HT_) fI (Or.inl ⟨by rfl,?_⟩) ?_ ?_;rotate_left
                  ·intro w'
                   go_simp
                   with_reducible rfl
                  rotate_left
                  ·exact pA
                  refine last_ (i:=18) (N:=none) (fl 19 524287) rfl rfl (oO HT_) (by decide) (fun K hK=>?_);refine skip_ (w1:=?_) (by rfl) rfl ?_ ?_;rotate_left
                  ·go_simp
                   rfl
                  refine hK.out _ _ ?_;clear hK K;refine done_ (done_of HT_.out kR) ?_;try go_wp2
                  first|go_roundg k2|(simp only [← hji18] at H' ⊢;go_roundg k2)
                  case measure=>have:=HJ4.out;have:=HK2.out;omega
                  case rel=>exact ⟨((x6_2++(⟨#[59]⟩:ByteArray))++t607),(y617),(wrap64 (x8_2+1)),sS,sS,H',⟨by have:=HJ4.out;have:=HK2.out;omega⟩,⟨by (with_reducible repeat (first|apply Kd.S_alloc|apply Kd.S_drewN|apply Kd.S_drew));exact HQ31.out⟩,⟨by repeat (first|(with_reducible first|exact HB.out|apply below_alloc|apply pw_below_drewN|apply below_drew1|refine below_set ?_ GB29.out)|exact HB.out)⟩⟩
                 ·rw [if_neg c22] at H
                  exact absurd H (by simp)
                ·rw [if_neg c20] at H
                 exact absurd H (by simp)
               ·rw [if_neg c19] at H
                exact absurd H (by simp)
              ·rw [if_neg c17] at H
               exact absurd H (by simp)
             ·rw [if_neg c15] at H
              exact absurd H (by simp)
            ·rw [if_neg c14] at H
             exact absurd H (by simp)
           ·rw [if_neg c13] at H
            have c13b0:=decide_eq_false c13;clear c13;by_cases c34:0≤x8_2
            ·rw [if_pos c34] at H
             have c34b0:=decide_eq_true c34;clear c34;replace H:=Option.bind_eq_some_iff.mp H;obtain ⟨t619,A350,H⟩:=H;try dsimp only at H
             have A35:=Mk A350;clear A350;by_cases c36:x6_2.size+t619.size≤9223372036854775807
             ·rw [if_pos c36] at H
              have c36b0:=eq_true c36;have c36b1:=decide_eq_true c36;try have c36b2:(9223372036854775807 < x6_2.size+t619.size)=False:=eq_false (Nat.not_lt.2 c36)
              obtain ⟨ji37,hji37⟩:∃ j_:Int,(wrap64 ((y603.length:Int) - 1))=j_:=⟨_,rfl⟩;replace H:(if 0≤(ji37) then (if (ji37) < (y603.length:Int) then ((norialaw3_N.f (rd l0 x8_2)).bind fun bt622=>(if (rd_L11 y603 (ji37)).length < 2932031007402 then (norialaw25_ReqRows.l0 k2 l0 (wrap64 (1+(wrap64 (Int.tmod a1 5)))) (x6_2++t619) (y603.set ((ji37):Int).toNat ((rd_L11 y603 (ji37))++[(⟨bt622.1,bt622.2.1,bt622.2.2.1,bt622.2.2.2⟩:S25)])) (wrap64 (x8_2+1))) else (none))) else (none)) else (none))=some r:=by first|(rw [hji37] at H;exact H)|(simp only [hji37] at H ⊢;exact H)
              (try rw [hji37] at A35);have hji37w:(IntKind.i64.wrap ((y603.length:Int) - 1))=ji37:=(i64_w _).trans hji37;by_cases c38:0≤(ji37)
              ·rw [if_pos c38] at H
               have c38b0:=decide_eq_true c38;clear c38;by_cases c39:(ji37) < (y603.length:Int)
               ·rw [if_pos c39] at H
                have c39b0:=decide_eq_true c39;clear c39;replace H:=Option.bind_eq_some_iff.mp H;obtain ⟨⟨t622,t623,t624,t625⟩,A400,H⟩:=H;try dsimp only at H
                have A40:=Mk A400;clear A400;by_cases c41:(rd_L11 y603 (ji37)).length < 2932031007402
                ·rw [if_pos c41] at H
                 have LMc41:=Mk c41;clear c41;obtain ⟨y626,hy626⟩:∃ y_:List (S25),y_=((rd_L11 y603 (ji37))++[(⟨t622,t623,t624,t625⟩:S25)]):=⟨_,rfl⟩;replace H:(norialaw25_ReqRows.l0 k2 l0 (wrap64 (1+(wrap64 (Int.tmod a1 5)))) (x6_2++t619) (y603.set ((ji37):Int).toNat y626) (wrap64 (x8_2+1)))=some r:=by first|(rw [hy626];with_reducible exact H)|(have H2_:=(Option.bind_some _ _).symm.trans H;rw [hy626];with_reducible exact H2_)|(have H2_:=(Option.bind_some _ _).symm.trans H;with_reducible exact H2_)|with_reducible exact H|(rw [hy626];exact H)|exact H
                 have Ny626:=Mk hy626;clear hy626;obtain ⟨y629,hy629⟩:∃ y_:List (List (S25)),y_=(y603.set ((ji37):Int).toNat y626):=⟨_,rfl⟩;replace H:(norialaw25_ReqRows.l0 k2 l0 (wrap64 (1+(wrap64 (Int.tmod a1 5)))) (x6_2++t619) y629 (wrap64 (x8_2+1)))=some r:=by first|(rw [hy629];with_reducible exact H)|(have H2_:=(Option.bind_some _ _).symm.trans H;rw [hy629];with_reducible exact H2_)|(have H2_:=(Option.bind_some _ _).symm.trans H;with_reducible exact H2_)|with_reducible exact H|(rw [hy629];exact H)|exact H
                 have Ny629:=Mk hy629;clear hy629;have H':=Mk H;clear H;try go_wp2_with (first|((with_reducible refine gate_builtin (b:=.append) (xs:=#[.tmp 37,.tmp 38]) rfl ?_);(try (refine gate_guard (by rfl) ?_;dsimp only));at_builtin;refine Kd.S_append (Kd.slice 25 k25) (w0:=w) w.heap.size rfl (.tmp 37) (.tmp 38) 36 46 (.slice none 0 0) 24 rfl Tryz.underlying36 info46 rfl (by decide) (by omega) u7 x7_2 [] [.slice none 0 0] (fun _=>True) (fun _=>False) rfl rfl ?aP (fun _ hk=>hk.elim) ?aF ?aO ?aB ?aS ?aL ?_;(case aP=>exact ⟨_,rfl,Kd.R_nil _ _ _ _ _⟩);(case aB=>exact bB);(case aF=>exact (fun _ _=>trivial));(case aO=>exact (by (with_reducible repeat (first|apply Kd.S_alloc|apply Kd.S_drewN|apply Kd.S_drew));exact Kd.S_mono HO_7.out (fun k_ hk=>⟨trivial,fun e_=>e_⟩)));(case aS=>exact (below_size bB));(case aL=>have:=LMc12.out;omega);intro v604 w43 ho hb hg hat;rw [← Ny603.out] at ho;have n0_:=Mk (hb);have n1_:=Mk (ho);clear HB;clear HO_7;have HB:=n0_;have HO605:=n1_;clear n0_ n1_;clear ho hb hg hat;have p618:0≤(x8_2:Int):=of_decide_eq_true aS;have q618:x8_2 < (l0.length:Int):=of_decide_eq_true aS;obtain ⟨ad618,e618,hx618_0⟩:=Kd.at_int HR0.out x8_2 p618 q618;cases e618;replace hx618_0:=(HB.out.cell (World.block_lt_of_cell? w _ hx618_0)).trans hx618_0;replace p618:=eq_true p618;replace q618:=eq_true q618)|((with_reducible refine gate_callee (f:=11) rfl ?_);refine goesL_ (some 51) rfl rfl Tryz.func11 kR rfl #[.int .i64 (rd l0 x8_2)] rfl mA ?_;(with_reducible refine (noriaref11_Decimal.calls k2 (rd l0 x8_2) t619 _ A35.out).mono ?_);rintro e w44 ⟨rfl,hb⟩;refine ⟨_,rfl,?_⟩;replace HO605:=Mk (Kd.S_below (sU HO605) hb);replace HB:=Mk (below_step bB hb);clear hb))
                 replace HO605:=Mk (Kd.S_drew HO605.out);replace HB:=Mk (below_drew1 HB.out);obtain ⟨Ao46,co46,eo46⟩:=Kd.S_slice HO605.out;(first|subst eo46|(injection eo46 with f1_ f2_ f3_;have f4_:=f1_.symm;have f5_:=f3_.symm;clear f1_ f2_ f3_;subst f4_;subst f5_));have p620:0≤((ji37):Int):=of_decide_eq_true aS;have q620:(ji37) < (y603.length:Int):=of_decide_eq_true aS;obtain ⟨ad620,A620_0,c620_0,e620,hx620_0,hl620_0,hi620_0⟩:=at_L11 (Kd.S_reads' HO605.out).2.2 (ji37) p620 q620;cases e620
                 obtain ⟨ce620,hce620,hMe620,hcc620⟩:=Kd.S_get HO605.out [] (ji37) p620 (by first|exact q620|exact of_decide_eq_true aS|(have e_:=(Kd.S_reads' HO605.out).1;omega));obtain ⟨ve620_0,rfl,ge620_0⟩:=hMe620;have hv620_0:=hcc620 0 _ rfl;rw [Nat.add_zero,show ((Kd.slice 25 k25)).sz=1 from rfl,Nat.mul_one] at hv620_0;replace hv620_0:=Option.some.inj (hv620_0.symm.trans hx620_0);rw [hv620_0] at ge620_0;have HL620_0:=Mk (show Kd.R k25 25 _ _ _ _ (rd_L11 y603 (ji37)) from ge620_0);clear hv620_0 ge620_0;have HX620_0:=Mk hx620_0;clear hcc620 hce620;have HR620_0:=Mk hi620_0;have HC620_0:=Mk hl620_0;clear hi620_0 hl620_0;replace p620:=eq_true p620;replace q620:=eq_true q620;have p621:0≤(x8_2:Int):=of_decide_eq_true aS;have q621:x8_2 < (l0.length:Int):=of_decide_eq_true aS;obtain ⟨ad621,e621,hx621_0⟩:=Kd.at_int HR0.out x8_2 p621 q621;have hw621_0:=hx621_0;obtain rfl:ad618=ad621:=(by injection e621);replace hx621_0:=(HB.out.cell (World.block_lt_of_cell? w _ hx621_0)).trans hx621_0;replace p621:=eq_true p621;replace q621:=eq_true q621;refine start_ (n:=19) (S:=fun w'=>w'.cell? (ad620.add ((ji37)).toNat)=some (.slice A620_0 (rd_L11 y603 (ji37)).length c620_0)∧w'.cell? (ad618.add (x8_2).toNat)=some (.int .i64 (rd l0 x8_2))) (ds:=[18]) #[b0,b0,b0,b0,b0,b0,b0,b0,b0,b0,b0,b0,b0,b0,b0,b0,b0,b0,b0] kR rfl rfl ⟨hx620_0,((HB.out.cell (World.block_lt_of_cell? w _ hw621_0)).trans hw621_0)⟩ (fun hHeld=>?_);refine with_tabW norialaw25_ReqRows.tab17 norialaw25_ReqRows.bits17 (fun HT_ HW_=>?_)
                 generalize w44.drew=w45 at HO605 HB HL620_0 HR620_0 HX620_0 hx620_0 hx621_0 hHeld ⊢
                 refine pure_ (i:=0) (N:=some 53) (v:=?_) (a':=?_) (fl 19 1) rfl rfl (aO HT_) fI (Or.inl ⟨by rfl,?_⟩) ?_ ?_;rotate_left
                 ·intro w'
                  go_simp
                  with_reducible rfl
                 rotate_left
                 ·exact pA
                 refine pure_ (i:=1) (N:=some 54) (v:=?_) (a':=?_) (fl 19 3) rfl rfl (aO HT_) fI (Or.inl ⟨by rfl,?_⟩) ?_ ?_;rotate_left
                 ·intro w'
                  go_simp
                  with_reducible rfl
                 rotate_left
                 ·exact pA
                 refine pure_ (i:=2) (N:=some 55) (v:=?_) (a':=?_) (fl 19 7) rfl rfl (aO HT_) fI (Or.inl ⟨by rfl,?_⟩) ?_ ?_;rotate_left
                 ·intro w'
                  go_simp
                  with_reducible rfl
                 rotate_left
                 ·exact pA
                 refine pure_ (i:=3) (N:=some 56) (v:=?_) (a':=?_) (fl 19 15) rfl rfl (aO HT_) fI (Or.inl ⟨by rfl,?_⟩) ?_ ?_;rotate_left
                 ·intro w'
                  go_simp
                  with_reducible rfl
                 rotate_left
                 ·exact pA
                 refine pure_ (i:=4) (N:=some 57) (v:=?_) (a':=?_) (fl 19 31) rfl rfl (aO HT_) fI (Or.inl ⟨by rfl,?_⟩) ?_ ?_;rotate_left
                 ·intro w'
                  go_simp
                  with_reducible rfl
                 rotate_left
                 ·exact pA
                 refine pure_ (i:=5) (N:=some 58) (v:=?_) (a':=?_) (fl 19 63) rfl rfl (aO HT_) fI (Or.inl ⟨by rfl,?_⟩) ?_ ?_;rotate_left
                 ·intro w'
                  go_simp
                  with_reducible rfl
                 rotate_left
                 ·exact pA
                 refine pure_ (i:=6) (N:=some 59) (v:=?_) (a':=?_) (fl 19 127) rfl rfl (aO HT_) fI (Or.inl ⟨by rfl,?_⟩) ?_ ?_;rotate_left
                 ·intro w'
                  go_simp
                  with_reducible rfl
                 rotate_left
                 ·exact pA
                 refine pure_ (i:=7) (N:=some 60) (v:=?_) (a':=?_) (fl 19 255) rfl rfl (aO HT_) fI (Or.inl ⟨by rfl,?_⟩) ?_ ?_;rotate_left
                 ·intro w'
                  go_simp
                  with_reducible rfl
                 rotate_left
                 ·exact pA
                 refine pure_ (i:=8) (N:=some 61) (v:=?_) (a':=?_) (fl 19 511) rfl rfl (aO HT_) fI (Or.inl ⟨by rfl,?_⟩) ?_ ?_;rotate_left
                 ·intro w'
                  go_simp
                  with_reducible rfl
                 rotate_left
                 ·exact pA
                 refine pure_ (i:=10) (N:=some 63) (v:=?_) (a':=?_) (fl 19 1535) rfl rfl (aO HT_) fI (Or.inl ⟨by rfl,?_⟩) ?_ ?_;rotate_left
                 ·intro w'
                  go_simp
                  with_reducible rfl
                 rotate_left
                 ·exact pA
                 refine pure_ (i:=11) (N:=some 64) (v:=?_) (a':=?_) (fl 19 3583) rfl rfl (aO HT_) fI (Or.inl ⟨by rfl,?_⟩) ?_ ?_;rotate_left
                 ·intro w'
                  go_simp
                  with_reducible rfl
                 rotate_left
                 ·exact pA
                 refine pure_ (i:=12) (N:=some 65) (v:=?_) (a':=?_) (fl 19 7679) rfl rfl (aO HT_) fI (Or.inl ⟨by rfl,?_⟩) ?_ ?_;rotate_left
                 ·intro w'
                  go_simp
                  with_reducible rfl
                 rotate_left
                 ·exact pA
                 refine take_ (i:=9) (N:=some 62) (v:=?_) (a':=?_) (fl 19 8191) rfl rfl (tO HT_ HW_) fI (Or.inl ⟨by rfl,?_⟩) hHeld ?_ ?_;rotate_left
                 ·rintro w' ⟨s0,s1⟩
                  go_simp
                  with_reducible rfl
                 rotate_left
                 ·exact pA
                 refine take_ (i:=13) (N:=some 66) (v:=?_) (a':=?_) (fl 19 16383) rfl rfl (tO HT_ HW_) fI (Or.inl ⟨by rfl,?_⟩) hHeld ?_ ?_;rotate_left
                 ·rintro w' ⟨s0,s1⟩
                  go_simp
                  with_reducible rfl
                 rotate_left
                 ·exact pA
                 refine one_ (i:=14) (N:=some 67) (fl 19 32767) rfl rfl (oO HT_) (by decide) (fun K hK=>?_);refine goes_ Tryz.func12 kR rfl #[.int .i64 (rd l0 x8_2)] (by rfl) rfl rfl mA ?_;with_reducible refine (norialaw3_N.calls (rd l0 x8_2) t622 t623 t624 t625 _ A40.out).mono ?_
                 rintro e w47 ⟨rfl,hb⟩;have HS0_:=(hb.cell (World.block_lt_of_cell? _ _ (hHeld.1))).trans (hHeld.1);refine ⟨_,rfl,?_⟩;replace HO605:=Mk (Kd.S_below (sU HO605) hb);replace HL620_0:=Mk (Kd.R_below (by (repeat apply Rup);exact HL620_0.out) hb);replace HR620_0:=Mk (Kd.C_below (d:=k25) (xs:=rd_L11 y603 (ji37)) (A:=A620_0) (n:=(rd_L11 y603 (ji37)).length) (by repeat (first|(with_reducible exact HR620_0.out)|(with_reducible refine Kd.C_alloc ?_ _)|(with_reducible refine Kd.C_drewN ?_ _)|(with_reducible refine Kd.C_drew ?_)|exact HR620_0.out)) hb);replace HX620_0:=Mk (pw_cell_below hb HX620_0.out);replace HB:=Mk (below_step bB hb);(try clear hb);(try clear hb2);(try clear hk);(try clear hi);obtain ⟨go48,co48,eo48,gb48,gl48,cl48,HG48⟩:=Kd.S_form HO605.out (by have h_:((ji37):Int) < ((y603.length:Int):Int):=of_decide_eq_true aS;have h2_:0≤((ji37):Int):=(of_decide_eq_true aS);omega);(first|cases eo48|(injection eo48 with ea_ en_ ec_;(first|subst ea_|(injection ea_ with ea_;subst ea_));subst ec_;clear en_));have GB48:=Mk gb48;have GG48:=Mk HG48;clear gb48 gl48 HG48;(first|simp only [add_plain] at hx620_0|skip);obtain ⟨oki48,ce48,hcl48,hM48,hcc48,_,_,hH48⟩:=Kd.S_elem HO605.out [] ((ji37):Int) (of_decide_eq_true aS) (by have h_:((ji37):Int) < ((y603.length:Int):Int):=of_decide_eq_true aS;first|exact h_|(have e_:=(Kd.S_reads' HO605.out).1;omega)|simpa using h_);obtain ⟨ve48_0,rfl,ge48_0⟩:=hM48;have hv48:=hcc48 0 _ rfl;have hX48:=HX620_0.out;(try simp only [add_plain] at hX48);(try simp only [Nat.add_zero] at hv48);(try rw [show ((Kd.slice 25 k25)).sz=1 from rfl,Nat.mul_one] at hv48);replace hv48:=Option.some.inj (hv48.symm.trans hX48);subst hv48;clear hX48 hcc48 hcl48;have UU48:=Mk (show Kd.R k25 25 _ w.heap.size oki48 (.slice A620_0 (rd_L11 y603 (ji37)).length c620_0) (rd_L11 y603 (ji37)) from ge48_0);have HH48:=Mk hH48;have HN48:=Mk (Kd.S_reads' HO605.out).1;clear hH48 ge48_0;refine hK.out _ _ ⟨HS0_,((HB.out.cell (World.block_lt_of_cell? w _ hw621_0)).trans hw621_0)⟩ (fun hHeld=>?_);clear hK K;refine norm_ (a':=?_) ?_ ?_;rotate_left
                 ·show Act.put _ (some 67) _=_
                  simp only [Act.put,List.setIfInBounds_toArray,List.set_cons_zero,List.set_cons_succ,i64_w,i32_w];rfl
                 refine one_ (i:=15) (N:=some 68) (fl 19 65535) rfl rfl (oO HT_) (by decide) (fun K hK=>?_);refine value_ (w1:=?_) (v:=?_) (by rfl) rfl ?_ ?_;rotate_left 2
                 ·go_simp
                  constructor
                  ·rfl
                  ·rfl
                 refine hK.out _ _ ⟨(World.cell?_alloc_lt _ _ _ (World.block_lt_of_cell? _ _ (hHeld.1))).trans (hHeld.1),(World.cell?_alloc_lt _ _ _ (World.block_lt_of_cell? _ _ (((HB.out.cell (World.block_lt_of_cell? w _ hw621_0)).trans hw621_0)))).trans (((HB.out.cell (World.block_lt_of_cell? w _ hw621_0)).trans hw621_0))⟩ (fun hHeld=>?_);clear hK K;refine norm_ (a':=?_) ?_ ?_;rotate_left
                 ·show Act.put _ (some 68) _=_
                  simp only [Act.put,List.setIfInBounds_toArray,List.set_cons_zero,List.set_cons_succ,i64_w,i32_w];rfl
                 refine one_ (i:=16) (N:=some 69) (fl 19 131071) rfl rfl (oO HT_) (by decide) (fun K hK=>?_);refine Kd.R_append_step k25 (w0:=w) w.heap.size (by rfl) (.tmp 62) (.tmp 68) 46 25 (.agg #[(.int .i64 0),(.int .i64 0),(.string ⟨#[]⟩),(.complex .f64 0 0)]) 48 rfl Tryz.underlying46 info25 rfl (by decide) (by omega) (.slice A620_0 (rd_L11 y603 (ji37)).length c620_0) (rd_L11 y603 (ji37)) (⟨t622,t623,t624,t625⟩:S25) [.int .i64 t622,.int .i64 t623,.string t624,.complex .f64 t625.1 t625.2] (fun k_=>oki48 k_∨((fun _=>True)) k_∧w47.heap.size≤k_) (fun _=>False) rfl rfl ?aP (fun _ hk=>hk.elim) ?aF ?aO ?aB ?aS ?aL ?_;(case aP=>exact k25_mkM _ _ _ (⟨t622,t623,t624,t625⟩:S25));(case aB=>exact bB);(case aF=>exact (fun k_ hk=>.inr ⟨trivial,hk⟩));(case aO=>exact (by (repeat apply Rup);exact Kd.R_mono UU48.out (fun _ hk=>.inl hk)));(case aS=>exact (below_size bB));(case aL=>have:=LMc41.out;omega);intro v627 w49 ho hb hg hat;(first|have HS0_:=cell_grown hg (hHeld.1) (by first|(rw [add_block];exact (fun e_=>((HL620_0.out.1 _ e_.symm).2) rfl))|(show some (Addr.add _ _).block≠_;rw [add_block];exact (fun e_=>((HL620_0.out.1 _ e_.symm).2) rfl))|exact (fun e_=>((HL620_0.out.1 _ e_.symm).2) rfl))|have HS0_:=cell_grown hg (cell_unalloc (hHeld.1) (by first|(rw [add_block];exact Kd.S_lt HO605.out _ rfl)|(show (Addr.add _ _).block < _;rw [add_block];exact Kd.S_lt HO605.out _ rfl)|exact Kd.S_lt HO605.out _ rfl)) (by first|(rw [add_block];exact (fun e_=>((HL620_0.out.1 _ e_.symm).2) rfl))|(show some (Addr.add _ _).block≠_;rw [add_block];exact (fun e_=>((HL620_0.out.1 _ e_.symm).2) rfl))|exact (fun e_=>((HL620_0.out.1 _ e_.symm).2) rfl)));rw [← Ny626.out] at ho;have n0_:=Mk (hb);have n1_:=Mk (Kd.H_grown (Kd.H_widen (by repeat (first|exact HH48.out|refine Kd.H_alloc ?_ _|refine Kd.H_drewN ?_ _|refine Kd.H_drew ?_))) hg (fun k_ e_=>.inl (UU48.out.1 k_ e_)));have n2_:=Mk (ho);clear HB;clear HH48;clear HO605;clear UU48;clear HL620_0;have HB:=n0_;have HH48:=n1_;have HO628:=n2_;clear n0_ n1_ n2_;clear ho hb hg hat;have p42:0≤((ji37):Int):=of_decide_eq_true aS;have q42:((ji37):Int) < ((y603.length:Int):Int):=of_decide_eq_true aS;replace p42:=eq_true p42;replace q42:=eq_true q42;obtain ⟨Ao52,co52,eo52⟩:=Kd.R_slice HO628.out;(first|subst eo52|(injection eo52 with f1_ f2_ f3_;have f4_:=f1_.symm;have f5_:=f3_.symm;clear f1_ f2_ f3_;subst f4_;subst f5_));obtain ⟨_,_,hraw50,_,_,hcc50,_⟩:=Kd.H_raw HH48.out (of_decide_eq_true aS) (by have h_:((ji37):Int) < ((y603.length:Int):Int):=of_decide_eq_true aS;first|exact h_|(have e_:=(HN48.out);omega)|simpa using h_);obtain ⟨_,hfr50⟩:=Kd.H_at HH48.out (of_decide_eq_true aS) (by have h_:((ji37):Int) < ((y603.length:Int):Int):=of_decide_eq_true aS;first|exact h_|(have e_:=(HN48.out);omega)|simpa using h_);have hx50_0:=hcc50 0 _ rfl;have hf50_0:=hfr50 0;(try simp only [Nat.add_zero] at hx50_0 hf50_0);(try rw [show ((Kd.slice 25 k25)).sz=1 from rfl,Nat.mul_one] at hx50_0);(try rw [show ((Kd.slice 25 k25)).sz=1 from rfl,Nat.mul_one] at hf50_0);have HP50:=Kd.S_seg0 HH48.out (of_decide_eq_true aS) (by have h_:((ji37):Int) < ((y603.length:Int):Int):=of_decide_eq_true aS;first|exact h_|(have e_:=(HN48.out);omega)|simpa using h_) (seg:=[.slice Ao52 y626.length co52]) (j:=0) (show 1≤1 from by decide) (x':=y626) (Kd.M_row HO628.out) (fun _ hk=>hk);(try simp only [show ((Kd.slice 25 k25)).sz=1 from rfl,Nat.mul_one,Nat.add_zero] at HP50);clear hcc50 hfr50;have HS50:=HP50.1;rw [← Ny629.out] at HS50;have HQ50:=Mk HS50;obtain ⟨_,hgg50⟩:=Kd.R_typed hraw50 go48 rfl;have GG50_:=Mk hgg50;clear HP50 HS50 hgg50;refine hK.out _ _ ⟨HS0_,((HB.out.cell (World.block_lt_of_cell? w _ hw621_0)).trans hw621_0)⟩ (fun hHeld=>?_);clear hK K;refine norm_ (a':=?_) ?_ ?_;rotate_left
                 ·show Act.put _ (some 69) _=_
                  simp only [Act.put,List.setIfInBounds_toArray,List.set_cons_zero,List.set_cons_succ,i64_w,i32_w];rfl
                 refine pure_ (i:=17) (N:=some 70) (v:=?_) (a':=?_) (fl 19 262143) rfl rfl (aO HT_) fI (Or.inl ⟨by rfl,?_⟩) ?_ ?_;rotate_left
                 ·intro w'
                  go_simp
                  with_reducible rfl
                 rotate_left
                 ·exact pA
                 refine last_ (i:=18) (N:=none) (fl 19 524287) rfl rfl (oO HT_) (by decide) (fun K hK=>?_);refine skip_ (w1:=?_) (by rfl) rfl ?_ ?_;rotate_left
                 ·go_simp
                  rfl
                 refine hK.out _ _ ?_;clear hK K;refine done_ (done_of HT_.out kR) ?_;try go_wp2
                 first|go_roundg k2|(simp only [← hji37] at H' ⊢;go_roundg k2)
                 case measure=>have:=HJ4.out;have:=HK2.out;omega
                 case rel=>exact ⟨(x6_2++t619),(y629),(wrap64 (x8_2+1)),sS,sS,H',⟨by have:=HJ4.out;have:=HK2.out;omega⟩,⟨by (with_reducible repeat (first|apply Kd.S_alloc|apply Kd.S_drewN|apply Kd.S_drew));exact HQ50.out⟩,⟨by repeat (first|(with_reducible first|exact HB.out|apply below_alloc|apply pw_below_drewN|apply below_drew1|refine below_set ?_ GB48.out)|exact HB.out)⟩⟩
                ·rw [if_neg c41] at H
                 exact absurd H (by simp)
               ·rw [if_neg c39] at H
                exact absurd H (by simp)
              ·rw [if_neg c38] at H
               exact absurd H (by simp)
             ·rw [if_neg c36] at H
              exact absurd H (by simp)
            ·rw [if_neg c34] at H
             exact absurd H (by simp)
          ·rw [if_neg c12] at H
           exact absurd H (by simp)
         ·rw [if_neg c11] at H
          have c11b0:=beq_eq_false_iff_ne.mpr c11;have c11b1:=bne_iff_ne.mpr c11;by_cases c53:x6_2.size+1≤9223372036854775807
          ·rw [if_pos c53] at H
           have c53b0:=eq_true c53;have c53b1:=decide_eq_true c53;try have c53b2:(9223372036854775807 < x6_2.size+1)=False:=eq_false (Nat.not_lt.2 c53)
           by_cases c54:0≤x8_2
           ·rw [if_pos c54] at H
            have c54b0:=decide_eq_true c54;clear c54;replace H:=Option.bind_eq_some_iff.mp H;obtain ⟨t631,A550,H⟩:=H;try dsimp only at H
            have A55:=Mk A550;clear A550;by_cases c56:x6_2.size+1+t631.size≤9223372036854775807
            ·rw [if_pos c56] at H
             have c56b0:=eq_true c56;have c56b1:=decide_eq_true c56;try have c56b2:(9223372036854775807 < x6_2.size+1+t631.size)=False:=eq_false (Nat.not_lt.2 c56)
             have c56b3:(9223372036854775807 < x6_2.size+(1+t631.size))=False:=eq_false (by omega);obtain ⟨ji57,hji57⟩:∃ j_:Int,(wrap64 ((x7_2.length:Int) - 1))=j_:=⟨_,rfl⟩;replace H:(if 0≤(ji57) then (if (ji57) < (x7_2.length:Int) then ((norialaw3_N.f (rd l0 x8_2)).bind fun bt634=>(if (rd_L11 x7_2 (ji57)).length < 2932031007402 then (norialaw25_ReqRows.l0 k2 l0 (wrap64 (1+(wrap64 (Int.tmod a1 5)))) ((x6_2++(⟨#[44]⟩:ByteArray))++t631) (x7_2.set ((ji57):Int).toNat ((rd_L11 x7_2 (ji57))++[(⟨bt634.1,bt634.2.1,bt634.2.2.1,bt634.2.2.2⟩:S25)])) (wrap64 (x8_2+1))) else (none))) else (none)) else (none))=some r:=by first|(rw [hji57] at H;exact H)|(simp only [hji57] at H ⊢;exact H)
             (try rw [hji57] at A55);have hji57w:(IntKind.i64.wrap ((x7_2.length:Int) - 1))=ji57:=(i64_w _).trans hji57;by_cases c58:0≤(ji57)
             ·rw [if_pos c58] at H
              have c58b0:=decide_eq_true c58;clear c58;by_cases c59:(ji57) < (x7_2.length:Int)
              ·rw [if_pos c59] at H
               have c59b0:=decide_eq_true c59;clear c59;replace H:=Option.bind_eq_some_iff.mp H;obtain ⟨⟨t634,t635,t636,t637⟩,A600,H⟩:=H;try dsimp only at H
               have A60:=Mk A600;clear A600;by_cases c61:(rd_L11 x7_2 (ji57)).length < 2932031007402
               ·rw [if_pos c61] at H
                have LMc61:=Mk c61;clear c61;obtain ⟨y638,hy638⟩:∃ y_:List (S25),y_=((rd_L11 x7_2 (ji57))++[(⟨t634,t635,t636,t637⟩:S25)]):=⟨_,rfl⟩;replace H:(norialaw25_ReqRows.l0 k2 l0 (wrap64 (1+(wrap64 (Int.tmod a1 5)))) ((x6_2++(⟨#[44]⟩:ByteArray))++t631) (x7_2.set ((ji57):Int).toNat y638) (wrap64 (x8_2+1)))=some r:=by first|(rw [hy638];with_reducible exact H)|(have H2_:=(Option.bind_some _ _).symm.trans H;rw [hy638];with_reducible exact H2_)|(have H2_:=(Option.bind_some _ _).symm.trans H;with_reducible exact H2_)|with_reducible exact H|(rw [hy638];exact H)|exact H
                have Ny638:=Mk hy638;clear hy638;obtain ⟨y641,hy641⟩:∃ y_:List (List (S25)),y_=(x7_2.set ((ji57):Int).toNat y638):=⟨_,rfl⟩;replace H:(norialaw25_ReqRows.l0 k2 l0 (wrap64 (1+(wrap64 (Int.tmod a1 5)))) ((x6_2++(⟨#[44]⟩:ByteArray))++t631) y641 (wrap64 (x8_2+1)))=some r:=by first|(rw [hy641];with_reducible exact H)|(have H2_:=(Option.bind_some _ _).symm.trans H;rw [hy641];with_reducible exact H2_)|(have H2_:=(Option.bind_some _ _).symm.trans H;with_reducible exact H2_)|with_reducible exact H|(rw [hy641];exact H)|exact H
                have Ny641:=Mk hy641;clear hy641;have H':=Mk H;clear H;have p630:0≤(x8_2:Int):=of_decide_eq_true aS;have q630:x8_2 < (l0.length:Int):=of_decide_eq_true aS;obtain ⟨ad630,e630,hx630_0⟩:=Kd.at_int HR0.out x8_2 p630 q630;cases e630
                replace hx630_0:=(HB.out.cell (World.block_lt_of_cell? w _ hx630_0)).trans hx630_0;replace p630:=eq_true p630;replace q630:=eq_true q630;try go_wp2_with (first|((with_reducible refine gate_callee (f:=11) rfl ?_);refine goesL_ (some 51) rfl rfl Tryz.func11 kR rfl #[.int .i64 (rd l0 x8_2)] rfl mA ?_;(with_reducible refine (noriaref11_Decimal.calls k2 (rd l0 x8_2) t631 _ A55.out).mono ?_);rintro e w63 ⟨rfl,hb⟩;refine ⟨_,rfl,?_⟩;replace HO_7:=Mk (Kd.S_below (sU HO_7) hb);replace HB:=Mk (below_step bB hb);clear hb))
                replace HO_7:=Mk (Kd.S_drew HO_7.out);replace HB:=Mk (below_drew1 HB.out);obtain ⟨Ao65,co65,eo65⟩:=Kd.S_slice HO_7.out;(first|subst eo65|(injection eo65 with f1_ f2_ f3_;have f4_:=f1_.symm;have f5_:=f3_.symm;clear f1_ f2_ f3_;subst f4_;subst f5_));have p632:0≤((ji57):Int):=of_decide_eq_true aS;have q632:(ji57) < (x7_2.length:Int):=of_decide_eq_true aS;obtain ⟨ad632,A632_0,c632_0,e632,hx632_0,hl632_0,hi632_0⟩:=at_L11 (Kd.S_reads' HO_7.out).2.2 (ji57) p632 q632;cases e632
                obtain ⟨ce632,hce632,hMe632,hcc632⟩:=Kd.S_get HO_7.out [] (ji57) p632 (by first|exact q632|exact of_decide_eq_true aS|(have e_:=(Kd.S_reads' HO_7.out).1;omega));obtain ⟨ve632_0,rfl,ge632_0⟩:=hMe632;have hv632_0:=hcc632 0 _ rfl;rw [Nat.add_zero,show ((Kd.slice 25 k25)).sz=1 from rfl,Nat.mul_one] at hv632_0;replace hv632_0:=Option.some.inj (hv632_0.symm.trans hx632_0);rw [hv632_0] at ge632_0;have HL632_0:=Mk (show Kd.R k25 25 _ _ _ _ (rd_L11 x7_2 (ji57)) from ge632_0);clear hv632_0 ge632_0;have HX632_0:=Mk hx632_0;clear hcc632 hce632;have HR632_0:=Mk hi632_0;have HC632_0:=Mk hl632_0;clear hi632_0 hl632_0;replace p632:=eq_true p632;replace q632:=eq_true q632;have p633:0≤(x8_2:Int):=of_decide_eq_true aS;have q633:x8_2 < (l0.length:Int):=of_decide_eq_true aS;obtain ⟨ad633,e633,hx633_0⟩:=Kd.at_int HR0.out x8_2 p633 q633;have hw633_0:=hx633_0;obtain rfl:ad630=ad633:=(by injection e633);replace hx633_0:=(HB.out.cell (World.block_lt_of_cell? w _ hx633_0)).trans hx633_0;replace p633:=eq_true p633;replace q633:=eq_true q633;refine start_ (n:=19) (S:=fun w'=>w'.cell? (ad632.add ((ji57)).toNat)=some (.slice A632_0 (rd_L11 x7_2 (ji57)).length c632_0)∧w'.cell? (ad630.add (x8_2).toNat)=some (.int .i64 (rd l0 x8_2))) (ds:=[18]) #[b0,b0,b0,b0,b0,b0,b0,b0,b0,b0,b0,b0,b0,b0,b0,b0,b0,b0,b0] kR rfl rfl ⟨hx632_0,((HB.out.cell (World.block_lt_of_cell? w _ hw633_0)).trans hw633_0)⟩ (fun hHeld=>?_);refine with_tabW norialaw25_ReqRows.tab17 norialaw25_ReqRows.bits17 (fun HT_ HW_=>?_)
                generalize w63.drew=w64 at HO_7 HB HL632_0 HR632_0 HX632_0 hx632_0 hx633_0 hHeld ⊢
                refine pure_ (i:=0) (N:=some 53) (v:=?_) (a':=?_) (fl 19 1) rfl rfl (aO HT_) fI (Or.inl ⟨by rfl,?_⟩) ?_ ?_;rotate_left
                ·intro w'
                 go_simp
                 with_reducible rfl
                rotate_left
                ·exact pA
                refine pure_ (i:=1) (N:=some 54) (v:=?_) (a':=?_) (fl 19 3) rfl rfl (aO HT_) fI (Or.inl ⟨by rfl,?_⟩) ?_ ?_;rotate_left
                ·intro w'
                 go_simp
                 with_reducible rfl
                rotate_left
                ·exact pA
                refine pure_ (i:=2) (N:=some 55) (v:=?_) (a':=?_) (fl 19 7) rfl rfl (aO HT_) fI (Or.inl ⟨by rfl,?_⟩) ?_ ?_;rotate_left
                ·intro w'
                 go_simp
                 with_reducible rfl
                rotate_left
                ·exact pA
                refine pure_ (i:=3) (N:=some 56) (v:=?_) (a':=?_) (fl 19 15) rfl rfl (aO HT_) fI (Or.inl ⟨by rfl,?_⟩) ?_ ?_;rotate_left
                ·intro w'
                 go_simp
                 with_reducible rfl
                rotate_left
                ·exact pA
                refine pure_ (i:=4) (N:=some 57) (v:=?_) (a':=?_) (fl 19 31) rfl rfl (aO HT_) fI (Or.inl ⟨by rfl,?_⟩) ?_ ?_;rotate_left
                ·intro w'
                 go_simp
                 with_reducible rfl
                rotate_left
                ·exact pA
                refine pure_ (i:=5) (N:=some 58) (v:=?_) (a':=?_) (fl 19 63) rfl rfl (aO HT_) fI (Or.inl ⟨by rfl,?_⟩) ?_ ?_;rotate_left
                ·intro w'
                 go_simp
                 with_reducible rfl
                rotate_left
                ·exact pA
                refine pure_ (i:=6) (N:=some 59) (v:=?_) (a':=?_) (fl 19 127) rfl rfl (aO HT_) fI (Or.inl ⟨by rfl,?_⟩) ?_ ?_;rotate_left
                ·intro w'
                 go_simp
                 with_reducible rfl
                rotate_left
                ·exact pA
                refine pure_ (i:=7) (N:=some 60) (v:=?_) (a':=?_) (fl 19 255) rfl rfl (aO HT_) fI (Or.inl ⟨by rfl,?_⟩) ?_ ?_;rotate_left
                ·intro w'
                 go_simp
                 with_reducible rfl
                rotate_left
                ·exact pA
                refine pure_ (i:=8) (N:=some 61) (v:=?_) (a':=?_) (fl 19 511) rfl rfl (aO HT_) fI (Or.inl ⟨by rfl,?_⟩) ?_ ?_;rotate_left
                ·intro w'
                 go_simp
                 with_reducible rfl
                rotate_left
                ·exact pA
                refine pure_ (i:=10) (N:=some 63) (v:=?_) (a':=?_) (fl 19 1535) rfl rfl (aO HT_) fI (Or.inl ⟨by rfl,?_⟩) ?_ ?_;rotate_left
                ·intro w'
                 go_simp
                 with_reducible rfl
                rotate_left
                ·exact pA
                refine pure_ (i:=11) (N:=some 64) (v:=?_) (a':=?_) (fl 19 3583) rfl rfl (aO HT_) fI (Or.inl ⟨by rfl,?_⟩) ?_ ?_;rotate_left
                ·intro w'
                 go_simp
                 with_reducible rfl
                rotate_left
                ·exact pA
                refine pure_ (i:=12) (N:=some 65) (v:=?_) (a':=?_) (fl 19 7679) rfl rfl (aO HT_) fI (Or.inl ⟨by rfl,?_⟩) ?_ ?_;rotate_left
                ·intro w'
                 go_simp
                 with_reducible rfl
                rotate_left
                ·exact pA
                refine take_ (i:=9) (N:=some 62) (v:=?_) (a':=?_) (fl 19 8191) rfl rfl (tO HT_ HW_) fI (Or.inl ⟨by rfl,?_⟩) hHeld ?_ ?_;rotate_left
                ·rintro w' ⟨s0,s1⟩
                 go_simp
                 with_reducible rfl
                rotate_left
                ·exact pA
                refine take_ (i:=13) (N:=some 66) (v:=?_) (a':=?_) (fl 19 16383) rfl rfl (tO HT_ HW_) fI (Or.inl ⟨by rfl,?_⟩) hHeld ?_ ?_;rotate_left
                ·rintro w' ⟨s0,s1⟩
                 go_simp
                 with_reducible rfl
                rotate_left
                ·exact pA
                refine one_ (i:=14) (N:=some 67) (fl 19 32767) rfl rfl (oO HT_) (by decide) (fun K hK=>?_);refine goes_ Tryz.func12 kR rfl #[.int .i64 (rd l0 x8_2)] (by rfl) rfl rfl mA ?_;with_reducible refine (norialaw3_N.calls (rd l0 x8_2) t634 t635 t636 t637 _ A60.out).mono ?_
                rintro e w66 ⟨rfl,hb⟩;have HS0_:=(hb.cell (World.block_lt_of_cell? _ _ (hHeld.1))).trans (hHeld.1);refine ⟨_,rfl,?_⟩;replace HO_7:=Mk (Kd.S_below (sU HO_7) hb);replace HL632_0:=Mk (Kd.R_below (by (repeat apply Rup);exact HL632_0.out) hb);replace HR632_0:=Mk (Kd.C_below (d:=k25) (xs:=rd_L11 x7_2 (ji57)) (A:=A632_0) (n:=(rd_L11 x7_2 (ji57)).length) (by repeat (first|(with_reducible exact HR632_0.out)|(with_reducible refine Kd.C_alloc ?_ _)|(with_reducible refine Kd.C_drewN ?_ _)|(with_reducible refine Kd.C_drew ?_)|exact HR632_0.out)) hb);replace HX632_0:=Mk (pw_cell_below hb HX632_0.out);replace HB:=Mk (below_step bB hb);(try clear hb);(try clear hb2);(try clear hk);(try clear hi);obtain ⟨go67,co67,eo67,gb67,gl67,cl67,HG67⟩:=Kd.S_form HO_7.out (by have h_:((ji57):Int) < ((x7_2.length:Int):Int):=of_decide_eq_true aS;have h2_:0≤((ji57):Int):=(of_decide_eq_true aS);omega);(first|cases eo67|(injection eo67 with ea_ en_ ec_;(first|subst ea_|(injection ea_ with ea_;subst ea_));subst ec_;clear en_));have GB67:=Mk gb67;have GG67:=Mk HG67;clear gb67 gl67 HG67;(first|simp only [add_plain] at hx632_0|skip);obtain ⟨oki67,ce67,hcl67,hM67,hcc67,_,_,hH67⟩:=Kd.S_elem HO_7.out [] ((ji57):Int) (of_decide_eq_true aS) (by have h_:((ji57):Int) < ((x7_2.length:Int):Int):=of_decide_eq_true aS;first|exact h_|(have e_:=(Kd.S_reads' HO_7.out).1;omega)|simpa using h_);obtain ⟨ve67_0,rfl,ge67_0⟩:=hM67;have hv67:=hcc67 0 _ rfl;have hX67:=HX632_0.out;(try simp only [add_plain] at hX67);(try simp only [Nat.add_zero] at hv67);(try rw [show ((Kd.slice 25 k25)).sz=1 from rfl,Nat.mul_one] at hv67);replace hv67:=Option.some.inj (hv67.symm.trans hX67);subst hv67;clear hX67 hcc67 hcl67;have UU67:=Mk (show Kd.R k25 25 _ w.heap.size oki67 (.slice A632_0 (rd_L11 x7_2 (ji57)).length c632_0) (rd_L11 x7_2 (ji57)) from ge67_0);have HH67:=Mk hH67;have HN67:=Mk (Kd.S_reads' HO_7.out).1;clear hH67 ge67_0;refine hK.out _ _ ⟨HS0_,((HB.out.cell (World.block_lt_of_cell? w _ hw633_0)).trans hw633_0)⟩ (fun hHeld=>?_);clear hK K;refine norm_ (a':=?_) ?_ ?_;rotate_left
                ·show Act.put _ (some 67) _=_
                 simp only [Act.put,List.setIfInBounds_toArray,List.set_cons_zero,List.set_cons_succ,i64_w,i32_w];rfl
                refine one_ (i:=15) (N:=some 68) (fl 19 65535) rfl rfl (oO HT_) (by decide) (fun K hK=>?_);refine value_ (w1:=?_) (v:=?_) (by rfl) rfl ?_ ?_;rotate_left 2
                ·go_simp
                 constructor
                 ·rfl
                 ·rfl
                refine hK.out _ _ ⟨(World.cell?_alloc_lt _ _ _ (World.block_lt_of_cell? _ _ (hHeld.1))).trans (hHeld.1),(World.cell?_alloc_lt _ _ _ (World.block_lt_of_cell? _ _ (((HB.out.cell (World.block_lt_of_cell? w _ hw633_0)).trans hw633_0)))).trans (((HB.out.cell (World.block_lt_of_cell? w _ hw633_0)).trans hw633_0))⟩ (fun hHeld=>?_);clear hK K;refine norm_ (a':=?_) ?_ ?_;rotate_left
                ·show Act.put _ (some 68) _=_
                 simp only [Act.put,List.setIfInBounds_toArray,List.set_cons_zero,List.set_cons_succ,i64_w,i32_w];rfl
                refine one_ (i:=16) (N:=some 69) (fl 19 131071) rfl rfl (oO HT_) (by decide) (fun K hK=>?_);refine Kd.R_append_step k25 (w0:=w) w.heap.size (by rfl) (.tmp 62) (.tmp 68) 46 25 (.agg #[(.int .i64 0),(.int .i64 0),(.string ⟨#[]⟩),(.complex .f64 0 0)]) 48 rfl Tryz.underlying46 info25 rfl (by decide) (by omega) (.slice A632_0 (rd_L11 x7_2 (ji57)).length c632_0) (rd_L11 x7_2 (ji57)) (⟨t634,t635,t636,t637⟩:S25) [.int .i64 t634,.int .i64 t635,.string t636,.complex .f64 t637.1 t637.2] (fun k_=>oki67 k_∨((fun _=>True)) k_∧w66.heap.size≤k_) (fun _=>False) rfl rfl ?aP (fun _ hk=>hk.elim) ?aF ?aO ?aB ?aS ?aL ?_;(case aP=>exact k25_mkM _ _ _ (⟨t634,t635,t636,t637⟩:S25));(case aB=>exact bB);(case aF=>exact (fun k_ hk=>.inr ⟨trivial,hk⟩));(case aO=>exact (by (repeat apply Rup);exact Kd.R_mono UU67.out (fun _ hk=>.inl hk)));(case aS=>exact (below_size bB));(case aL=>have:=LMc61.out;omega);intro v639 w68 ho hb hg hat;(first|have HS0_:=cell_grown hg (hHeld.1) (by first|(rw [add_block];exact (fun e_=>((HL632_0.out.1 _ e_.symm).2) rfl))|(show some (Addr.add _ _).block≠_;rw [add_block];exact (fun e_=>((HL632_0.out.1 _ e_.symm).2) rfl))|exact (fun e_=>((HL632_0.out.1 _ e_.symm).2) rfl))|have HS0_:=cell_grown hg (cell_unalloc (hHeld.1) (by first|(rw [add_block];exact Kd.S_lt HO_7.out _ rfl)|(show (Addr.add _ _).block < _;rw [add_block];exact Kd.S_lt HO_7.out _ rfl)|exact Kd.S_lt HO_7.out _ rfl)) (by first|(rw [add_block];exact (fun e_=>((HL632_0.out.1 _ e_.symm).2) rfl))|(show some (Addr.add _ _).block≠_;rw [add_block];exact (fun e_=>((HL632_0.out.1 _ e_.symm).2) rfl))|exact (fun e_=>((HL632_0.out.1 _ e_.symm).2) rfl)));rw [← Ny638.out] at ho;have n0_:=Mk (hb);have n1_:=Mk (Kd.H_grown (Kd.H_widen (by repeat (first|exact HH67.out|refine Kd.H_alloc ?_ _|refine Kd.H_drewN ?_ _|refine Kd.H_drew ?_))) hg (fun k_ e_=>.inl (UU67.out.1 k_ e_)));have n2_:=Mk (ho);clear HB;clear HH67;clear HO_7;clear UU67;clear HL632_0;have HB:=n0_;have HH67:=n1_;have HO640:=n2_;clear n0_ n1_ n2_;clear ho hb hg hat;have p62:0≤((ji57):Int):=of_decide_eq_true aS;have q62:((ji57):Int) < ((x7_2.length:Int):Int):=of_decide_eq_true aS;replace p62:=eq_true p62;replace q62:=eq_true q62;obtain ⟨Ao71,co71,eo71⟩:=Kd.R_slice HO640.out;(first|subst eo71|(injection eo71 with f1_ f2_ f3_;have f4_:=f1_.symm;have f5_:=f3_.symm;clear f1_ f2_ f3_;subst f4_;subst f5_));obtain ⟨_,_,hraw69,_,_,hcc69,_⟩:=Kd.H_raw HH67.out (of_decide_eq_true aS) (by have h_:((ji57):Int) < ((x7_2.length:Int):Int):=of_decide_eq_true aS;first|exact h_|(have e_:=(HN67.out);omega)|simpa using h_);obtain ⟨_,hfr69⟩:=Kd.H_at HH67.out (of_decide_eq_true aS) (by have h_:((ji57):Int) < ((x7_2.length:Int):Int):=of_decide_eq_true aS;first|exact h_|(have e_:=(HN67.out);omega)|simpa using h_);have hx69_0:=hcc69 0 _ rfl;have hf69_0:=hfr69 0;(try simp only [Nat.add_zero] at hx69_0 hf69_0);(try rw [show ((Kd.slice 25 k25)).sz=1 from rfl,Nat.mul_one] at hx69_0);(try rw [show ((Kd.slice 25 k25)).sz=1 from rfl,Nat.mul_one] at hf69_0);have HP69:=Kd.S_seg0 HH67.out (of_decide_eq_true aS) (by have h_:((ji57):Int) < ((x7_2.length:Int):Int):=of_decide_eq_true aS;first|exact h_|(have e_:=(HN67.out);omega)|simpa using h_) (seg:=[.slice Ao71 y638.length co71]) (j:=0) (show 1≤1 from by decide) (x':=y638) (Kd.M_row HO640.out) (fun _ hk=>hk);(try simp only [show ((Kd.slice 25 k25)).sz=1 from rfl,Nat.mul_one,Nat.add_zero] at HP69);clear hcc69 hfr69;have HS69:=HP69.1;rw [← Ny641.out] at HS69;have HQ69:=Mk HS69;obtain ⟨_,hgg69⟩:=Kd.R_typed hraw69 go67 rfl;have GG69_:=Mk hgg69;clear HP69 HS69 hgg69;refine hK.out _ _ ⟨HS0_,((HB.out.cell (World.block_lt_of_cell? w _ hw633_0)).trans hw633_0)⟩ (fun hHeld=>?_);clear hK K;refine norm_ (a':=?_) ?_ ?_;rotate_left
                ·show Act.put _ (some 69) _=_
                 simp only [Act.put,List.setIfInBounds_toArray,List.set_cons_zero,List.set_cons_succ,i64_w,i32_w];rfl
                refine pure_ (i:=17) (N:=some 70) (v:=?_) (a':=?_) (fl 19 262143) rfl rfl (aO HT_) fI (Or.inl ⟨by rfl,?_⟩) ?_ ?_;rotate_left
                ·intro w'
                 go_simp
                 with_reducible rfl
                rotate_left
                ·exact pA
                refine last_ (i:=18) (N:=none) (fl 19 524287) rfl rfl (oO HT_) (by decide) (fun K hK=>?_);refine skip_ (w1:=?_) (by rfl) rfl ?_ ?_;rotate_left
                ·go_simp
                 rfl
                refine hK.out _ _ ?_;clear hK K;refine done_ (done_of HT_.out kR) ?_;try go_wp2
                first|go_roundg k2|(simp only [← hji57] at H' ⊢;go_roundg k2)
                case measure=>have:=HJ4.out;have:=HK2.out;omega
                case rel=>exact ⟨((x6_2++(⟨#[44]⟩:ByteArray))++t631),(y641),(wrap64 (x8_2+1)),sS,sS,H',⟨by have:=HJ4.out;have:=HK2.out;omega⟩,⟨by (with_reducible repeat (first|apply Kd.S_alloc|apply Kd.S_drewN|apply Kd.S_drew));exact HQ69.out⟩,⟨by repeat (first|(with_reducible first|exact HB.out|apply below_alloc|apply pw_below_drewN|apply below_drew1|refine below_set ?_ GB67.out)|exact HB.out)⟩⟩
               ·rw [if_neg c61] at H
                exact absurd H (by simp)
              ·rw [if_neg c59] at H
               exact absurd H (by simp)
             ·rw [if_neg c58] at H
              exact absurd H (by simp)
            ·rw [if_neg c56] at H
             exact absurd H (by simp)
           ·rw [if_neg c54] at H
            exact absurd H (by simp)
          ·rw [if_neg c53] at H
           exact absurd H (by simp)
       ·rw [if_neg c9] at H
        have c9b0:=decide_eq_false c9;clear c9;replace H:=Option.bind_eq_some_iff.mp H;obtain ⟨⟨t642,t643,t644,t647,t648,t649,t650,t651,t652,t653,t654,t655,t658,t661⟩,A720,H⟩:=H;try dsimp only at H
        have A72:=Mk A720;clear A720;replace H:=Option.bind_eq_some_iff.mp H;obtain ⟨⟨t663,t664⟩,A730,H⟩:=H;try dsimp only at H
        have A73:=Mk A730;clear A730;by_cases c74:(wrap64 (t661+t664))=0
        ·rw [if_pos c74] at H
         have c74b0:=beq_iff_eq.mpr c74;have c74b1:=bne_eq_false_iff_eq.mpr c74;clear c74;by_cases c75:t663.toList=x6_2.toList
         ·rw [if_pos c75] at H
          have c75b0:=beq_iff_eq.mpr c75;have c75b1:=bne_eq_false_iff_eq.mpr c75;clear c75;by_cases c76:t642=4
          ·rw [if_pos c76] at H
           have c76b0:=beq_iff_eq.mpr c76;have c76b1:=bne_eq_false_iff_eq.mpr c76;clear c76;replace H:=Option.bind_eq_some_iff.mp H;obtain ⟨t665,A770,H⟩:=H;try dsimp only at H
           have A77:=Mk A770;clear A770;replace H:=Option.bind_eq_some_iff.mp H;obtain ⟨t668,A780,H⟩:=H;try dsimp only at H
           have A78:=Mk A780;clear A780;obtain rfl:=Option.some.inj H;try go_wp2_with (first|((with_reducible refine gate_callee (f:=13) rfl ?_);refine goesL_ (some 73) rfl rfl Tryz.func13 kR rfl #[.string x6_2] rfl mA ?_;(with_reducible refine (req_Parse.calls k2 x6_2 t642 t643 t644 t647 t648 t649 t650 t651 t652 t653 t654 t655 t658 t661 _ A72.out (Glob.below HG_.out bB)).mono ?_);rintro e w79 ⟨v645,v656,v659,rfl,ho0,ho1,ho2,hb⟩;refine ⟨_,rfl,?_⟩;have HO646:=Mk (Kd.R_lower ho0 (below_size bB));have HO657:=Mk (Kd.R_lower ho1 (below_size bB));have HO660:=Mk (Kd.S_lower (Kd.S_new' ho2 (Kd.S_lt (sU HO_7))) (below_size bB));replace HO_7:=Mk (Kd.S_elder' (sU HO_7) (Kd.S_base ho2) hb);replace HB:=Mk (below_step bB hb);clear hb ho0;(try clear ho1);(try clear ho2))|((with_reducible refine gate_dst (N:=9) rfl ?_);(try (refine gate_guard (by rfl) ?_;dsimp only));refine boxE 9 #[.int .i64 0,.int .i64 0,.slice none 0 0,.int .i64 0,.int .i64 0,.int .i64 0,.int .i64 0,.string (⟨#[]⟩:ByteArray),.complex .f64 0 0,.complex .f64 0 0,.complex .f64 0 0,.slice none 0 0,.slice none 0 0] 38 ?_;intro gb662 hg w80 hbox hb;have BK662:=Mk (hbox);have GW662:=Mk ((gS:w.heap.size≤gb662));have GE662:=Mk ((gS:w.heap.size≤gb662));replace HO_7:=Mk (Kd.S_below (sU HO_7) hb);replace HO646:=Mk (Kd.R_below (rU HO646) hb);replace HO657:=Mk (Kd.R_below (rU HO657) hb);replace HO660:=Mk (Kd.S_below (sU HO660) hb);replace HB:=Mk (below_step bB hb);clear hb hbox hg;obtain ⟨_,_,_,_,_,_,_,_,_,_,_,_,_,_,_,_,_,_,_,_,_,_,_,_,_,_⟩:=z13 BK662;obtain ⟨Ao82,co82,eo82⟩:=Kd.R_slice HO646.out;subst eo82;obtain ⟨Ao83,co83,eo83⟩:=Kd.R_slice HO657.out;subst eo83;obtain ⟨Ao84,co84,eo84⟩:=Kd.S_slice HO660.out;subst eo84;obtain ⟨Ao85,co85,eo85⟩:=Kd.S_slice HO_7.out;subst eo85)|((with_reducible refine gate_callee (f:=7) rfl ?_);refine goesL_ (some 79) rfl rfl Tryz.func7 kR rfl #[.agg #[.int .i64 4,.int .i64 0,.slice none 0 0,.int .i64 0,.int .i64 0,.int .i64 0,.int .i64 0,.string (⟨#[]⟩:ByteArray),.complex .f64 0 0,.complex .f64 0 0,.complex .f64 0 0,.slice none 0 0,.slice Ao85 x7_2.length co85]] rfl mA ?_;(refine (req_Text.calls k2 4 0 _ _ ([]:List ByteArray) 0 0 0 0 (⟨#[]⟩:ByteArray) ((0,0):Nat×Nat) ((0,0):Nat×Nat) ((0,0):Nat×Nat) _ _ ([]:List (S30)) _ _ x7_2 t663 t664 _ ?side1 ?side2 ?side3 ?side4 ?side5 ?side6 A73.out (Glob.below HG_.out bB)).mono ?_);(case side1=>exact Kd.C_nil _ _);(case side2=>exact Nat.le_refl _);(case side3=>exact Kd.C_nil _ _);(case side4=>exact Nat.le_refl _);(case side5=>refine (Kd.S_reads' (e:=46) (base:=w.heap.size) (ok:=fun k_=>(True∧some k_≠(.slice Ao84 t658.length co84:Value).ownBlock)) (n:=x7_2.length) (c:=co85) ?_).2.2;exact (by (with_reducible repeat (first|apply Kd.S_alloc|apply Kd.S_drewN|apply Kd.S_drew));exact (Kd.S_mono (Kd.S_far (p:=⟨gb662,12,none⟩) (Kd.S_far (p:=⟨gb662,11,none⟩) (Kd.S_far (p:=⟨gb662,10,none⟩) (Kd.S_far (p:=⟨gb662,9,none⟩) (Kd.S_far (p:=⟨gb662,8,none⟩) (Kd.S_far (p:=⟨gb662,7,none⟩) (Kd.S_far (p:=⟨gb662,6,none⟩) (Kd.S_far (p:=⟨gb662,5,none⟩) (Kd.S_far (p:=⟨gb662,4,none⟩) (Kd.S_far (p:=⟨gb662,3,none⟩) (Kd.S_far (p:=⟨gb662,2,none⟩) (Kd.S_far (p:=⟨gb662,1,none⟩) (Kd.S_far (p:=⟨gb662,0,none⟩) (Kd.S_types HO_7.out BK662.out (by decide)) (fun _ hk=>hk.2) (.int .i64 t642)) (fun _ hk=>hk.2) (.int .i64 t643)) (fun _ hk=>hk.2) (.slice Ao82 t644.length co82)) (fun _ hk=>hk.2) (.int .i64 t647)) (fun _ hk=>hk.2) (.int .i64 t648)) (fun _ hk=>hk.2) (.int .i64 t649)) (fun _ hk=>hk.2) (.int .i64 t650)) (fun _ hk=>hk.2) (.string t651)) (fun _ hk=>hk.2) (.complex .f64 t652.1 t652.2)) (fun _ hk=>hk.2) (.complex .f64 t653.1 t653.2)) (fun _ hk=>hk.2) (.complex .f64 t654.1 t654.2)) (fun _ hk=>hk.2) (.slice Ao83 t655.length co83)) (fun _ hk=>hk.2) (.slice Ao84 t658.length co84)) (fun _ h_=>h_.1))));(case side6=>exact (Kd.S_reads' HO_7.out).2.1);rintro e w86 ⟨rfl,hb⟩;refine ⟨_,rfl,?_⟩;replace HO_7:=Mk (Kd.S_below (by (with_reducible repeat (first|apply Kd.S_alloc|apply Kd.S_drewN|apply Kd.S_drew));exact (Kd.S_mono (Kd.S_far (p:=⟨gb662,12,none⟩) (Kd.S_far (p:=⟨gb662,11,none⟩) (Kd.S_far (p:=⟨gb662,10,none⟩) (Kd.S_far (p:=⟨gb662,9,none⟩) (Kd.S_far (p:=⟨gb662,8,none⟩) (Kd.S_far (p:=⟨gb662,7,none⟩) (Kd.S_far (p:=⟨gb662,6,none⟩) (Kd.S_far (p:=⟨gb662,5,none⟩) (Kd.S_far (p:=⟨gb662,4,none⟩) (Kd.S_far (p:=⟨gb662,3,none⟩) (Kd.S_far (p:=⟨gb662,2,none⟩) (Kd.S_far (p:=⟨gb662,1,none⟩) (Kd.S_far (p:=⟨gb662,0,none⟩) (Kd.S_types HO_7.out BK662.out (by decide)) (fun _ hk=>hk.2) (.int .i64 t642)) (fun _ hk=>hk.2) (.int .i64 t643)) (fun _ hk=>hk.2) (.slice Ao82 t644.length co82)) (fun _ hk=>hk.2) (.int .i64 t647)) (fun _ hk=>hk.2) (.int .i64 t648)) (fun _ hk=>hk.2) (.int .i64 t649)) (fun _ hk=>hk.2) (.int .i64 t650)) (fun _ hk=>hk.2) (.string t651)) (fun _ hk=>hk.2) (.complex .f64 t652.1 t652.2)) (fun _ hk=>hk.2) (.complex .f64 t653.1 t653.2)) (fun _ hk=>hk.2) (.complex .f64 t654.1 t654.2)) (fun _ hk=>hk.2) (.slice Ao83 t655.length co83)) (fun _ hk=>hk.2) (.slice Ao84 t658.length co84)) (fun _ h_=>h_.1))) hb);replace HO646:=Mk (Kd.R_below (by (repeat apply Rup);exact (Kd.R_mono (Kd.R_far (p:=⟨gb662,12,none⟩) (Kd.R_far (p:=⟨gb662,11,none⟩) (Kd.R_far (p:=⟨gb662,10,none⟩) (Kd.R_far (p:=⟨gb662,9,none⟩) (Kd.R_far (p:=⟨gb662,8,none⟩) (Kd.R_far (p:=⟨gb662,7,none⟩) (Kd.R_far (p:=⟨gb662,6,none⟩) (Kd.R_far (p:=⟨gb662,5,none⟩) (Kd.R_far (p:=⟨gb662,4,none⟩) (Kd.R_far (p:=⟨gb662,3,none⟩) (Kd.R_far (p:=⟨gb662,2,none⟩) (Kd.R_far (p:=⟨gb662,1,none⟩) (Kd.R_far (p:=⟨gb662,0,none⟩) (Kd.R_types HO646.out BK662.out (by decide)) (fun _ hk=>hk.2) (.int .i64 t642)) (fun _ hk=>hk.2) (.int .i64 t643)) (fun _ hk=>hk.2) (.slice Ao82 t644.length co82)) (fun _ hk=>hk.2) (.int .i64 t647)) (fun _ hk=>hk.2) (.int .i64 t648)) (fun _ hk=>hk.2) (.int .i64 t649)) (fun _ hk=>hk.2) (.int .i64 t650)) (fun _ hk=>hk.2) (.string t651)) (fun _ hk=>hk.2) (.complex .f64 t652.1 t652.2)) (fun _ hk=>hk.2) (.complex .f64 t653.1 t653.2)) (fun _ hk=>hk.2) (.complex .f64 t654.1 t654.2)) (fun _ hk=>hk.2) (.slice Ao83 t655.length co83)) (fun _ hk=>hk.2) (.slice Ao84 t658.length co84)) (fun _ h_=>h_.1))) hb);replace HO657:=Mk (Kd.R_below (by (repeat apply Rup);exact (Kd.R_mono (Kd.R_far (p:=⟨gb662,12,none⟩) (Kd.R_far (p:=⟨gb662,11,none⟩) (Kd.R_far (p:=⟨gb662,10,none⟩) (Kd.R_far (p:=⟨gb662,9,none⟩) (Kd.R_far (p:=⟨gb662,8,none⟩) (Kd.R_far (p:=⟨gb662,7,none⟩) (Kd.R_far (p:=⟨gb662,6,none⟩) (Kd.R_far (p:=⟨gb662,5,none⟩) (Kd.R_far (p:=⟨gb662,4,none⟩) (Kd.R_far (p:=⟨gb662,3,none⟩) (Kd.R_far (p:=⟨gb662,2,none⟩) (Kd.R_far (p:=⟨gb662,1,none⟩) (Kd.R_far (p:=⟨gb662,0,none⟩) (Kd.R_types HO657.out BK662.out (by decide)) (fun _ hk=>hk.2) (.int .i64 t642)) (fun _ hk=>hk.2) (.int .i64 t643)) (fun _ hk=>hk.2) (.slice Ao82 t644.length co82)) (fun _ hk=>hk.2) (.int .i64 t647)) (fun _ hk=>hk.2) (.int .i64 t648)) (fun _ hk=>hk.2) (.int .i64 t649)) (fun _ hk=>hk.2) (.int .i64 t650)) (fun _ hk=>hk.2) (.string t651)) (fun _ hk=>hk.2) (.complex .f64 t652.1 t652.2)) (fun _ hk=>hk.2) (.complex .f64 t653.1 t653.2)) (fun _ hk=>hk.2) (.complex .f64 t654.1 t654.2)) (fun _ hk=>hk.2) (.slice Ao83 t655.length co83)) (fun _ hk=>hk.2) (.slice Ao84 t658.length co84)) (fun _ h_=>h_.1))) hb);replace HO660:=Mk (Kd.S_below (by (with_reducible repeat (first|apply Kd.S_alloc|apply Kd.S_drewN|apply Kd.S_drew));exact (Kd.S_mono (Kd.S_far (p:=⟨gb662,12,none⟩) (Kd.S_far (p:=⟨gb662,11,none⟩) (Kd.S_far (p:=⟨gb662,10,none⟩) (Kd.S_far (p:=⟨gb662,9,none⟩) (Kd.S_far (p:=⟨gb662,8,none⟩) (Kd.S_far (p:=⟨gb662,7,none⟩) (Kd.S_far (p:=⟨gb662,6,none⟩) (Kd.S_far (p:=⟨gb662,5,none⟩) (Kd.S_far (p:=⟨gb662,4,none⟩) (Kd.S_far (p:=⟨gb662,3,none⟩) (Kd.S_far (p:=⟨gb662,2,none⟩) (Kd.S_far (p:=⟨gb662,1,none⟩) (Kd.S_far (p:=⟨gb662,0,none⟩) (Kd.S_types HO660.out BK662.out (by decide)) (fun _ hk=>hk.2) (.int .i64 t642)) (fun _ hk=>hk.2) (.int .i64 t643)) (fun _ hk=>hk.2) (.slice Ao82 t644.length co82)) (fun _ hk=>hk.2) (.int .i64 t647)) (fun _ hk=>hk.2) (.int .i64 t648)) (fun _ hk=>hk.2) (.int .i64 t649)) (fun _ hk=>hk.2) (.int .i64 t650)) (fun _ hk=>hk.2) (.string t651)) (fun _ hk=>hk.2) (.complex .f64 t652.1 t652.2)) (fun _ hk=>hk.2) (.complex .f64 t653.1 t653.2)) (fun _ hk=>hk.2) (.complex .f64 t654.1 t654.2)) (fun _ hk=>hk.2) (.slice Ao83 t655.length co83)) (fun _ hk=>hk.2) (.slice Ao84 t658.length co84)) (fun _ h_=>h_.1))) hb);replace BK662:=Mk (blk_below (g:=gb662) (o:=.cells #[.int .i64 t642,.int .i64 t643,.slice Ao82 t644.length co82,.int .i64 t647,.int .i64 t648,.int .i64 t649,.int .i64 t650,.string t651,.complex .f64 t652.1 t652.2,.complex .f64 t653.1 t653.2,.complex .f64 t654.1 t654.2,.slice Ao83 t655.length co83,.slice Ao84 t658.length co84] 38 (0,0)) (bP BK662) hb);replace HB:=Mk (below_step bB hb);clear hb))
           replace HO_7:=Mk (Kd.S_drew HO_7.out);replace HO646:=Mk (Kd.R_drew HO646.out);replace HO657:=Mk (Kd.R_drew HO657.out);replace HO660:=Mk (Kd.S_drew HO660.out);replace BK662:=Mk (blk_drew BK662.out);replace HB:=Mk (below_drew1 HB.out);refine start_ (n:=22) (S:=fun w'=>w'.cell? ⟨gb662,0,none⟩=some (.int .i64 t642)∧w'.cell? ⟨gb662,1,none⟩=some (.int .i64 t643)∧w'.cell? ⟨gb662,2,none⟩=some (.slice Ao82 t644.length co82)∧w'.cell? ⟨gb662,3,none⟩=some (.int .i64 t647)∧w'.cell? ⟨gb662,4,none⟩=some (.int .i64 t648)∧w'.cell? ⟨gb662,5,none⟩=some (.int .i64 t649)∧w'.cell? ⟨gb662,6,none⟩=some (.int .i64 t650)∧w'.cell? ⟨gb662,7,none⟩=some (.string t651)∧w'.cell? ⟨gb662,8,none⟩=some (.complex .f64 t652.1 t652.2)∧w'.cell? ⟨gb662,9,none⟩=some (.complex .f64 t653.1 t653.2)∧w'.cell? ⟨gb662,10,none⟩=some (.complex .f64 t654.1 t654.2)∧w'.cell? ⟨gb662,11,none⟩=some (.slice Ao83 t655.length co83)∧w'.cell? ⟨gb662,12,none⟩=some (.slice Ao84 t658.length co84)) (ds:=[]) #[b0,b0,b0,b0,b0,b0,b0,b0,b0,b0,b0,b0,b0,b0,b0,b0,b0,b0,b0,b0,b0,b0] kR rfl rfl ⟨(blk_cell BK662.out 0).trans rfl,(blk_cell BK662.out 1).trans rfl,(blk_cell BK662.out 2).trans rfl,(blk_cell BK662.out 3).trans rfl,(blk_cell BK662.out 4).trans rfl,(blk_cell BK662.out 5).trans rfl,(blk_cell BK662.out 6).trans rfl,(blk_cell BK662.out 7).trans rfl,(blk_cell BK662.out 8).trans rfl,(blk_cell BK662.out 9).trans rfl,(blk_cell BK662.out 10).trans rfl,(blk_cell BK662.out 11).trans rfl,(blk_cell BK662.out 12).trans rfl⟩ (fun hHeld=>?_);refine with_tabW norialaw25_ReqRows.tab20 norialaw25_ReqRows.bits20 (fun HT_ HW_=>?_)
           generalize w86.drew=w87 at HO_7 HO646 HO657 HO660 BK662 HB hHeld ⊢
           refine pure_ (i:=0) (N:=some 82) (v:=?_) (a':=?_) (fl 22 1) rfl rfl (aO HT_) fI (Or.inl ⟨by rfl,?_⟩) ?_ ?_;rotate_left
           ·intro w'
            go_simp
            with_reducible rfl
           rotate_left
           ·exact pA
           refine pure_ (i:=1) (N:=some 83) (v:=?_) (a':=?_) (fl 22 3) rfl rfl (aO HT_) fI (Or.inl ⟨by rfl,?_⟩) ?_ ?_;rotate_left
           ·intro w'
            go_simp
            with_reducible rfl
           rotate_left
           ·exact pA
           refine pure_ (i:=2) (N:=some 84) (v:=?_) (a':=?_) (fl 22 7) rfl rfl (aO HT_) fI (Or.inl ⟨by rfl,?_⟩) ?_ ?_;rotate_left
           ·intro w'
            go_simp
            with_reducible rfl
           rotate_left
           ·exact pA
           refine pure_ (i:=3) (N:=some 85) (v:=?_) (a':=?_) (fl 22 15) rfl rfl (aO HT_) fI (Or.inl ⟨by rfl,?_⟩) ?_ ?_;rotate_left
           ·intro w'
            go_simp
            with_reducible rfl
           rotate_left
           ·exact pA
           refine pure_ (i:=4) (N:=some 86) (v:=?_) (a':=?_) (fl 22 31) rfl rfl (aO HT_) fI (Or.inl ⟨by rfl,?_⟩) ?_ ?_;rotate_left
           ·intro w'
            go_simp
            with_reducible rfl
           rotate_left
           ·exact pA
           refine pure_ (i:=5) (N:=some 87) (v:=?_) (a':=?_) (fl 22 63) rfl rfl (aO HT_) fI (Or.inl ⟨by rfl,?_⟩) ?_ ?_;rotate_left
           ·intro w'
            go_simp
            with_reducible rfl
           rotate_left
           ·exact pA
           refine pure_ (i:=6) (N:=some 88) (v:=?_) (a':=?_) (fl 22 127) rfl rfl (aO HT_) fI (Or.inl ⟨by rfl,?_⟩) ?_ ?_;rotate_left
           ·intro w'
            go_simp
            with_reducible rfl
           rotate_left
           ·exact pA
           refine pure_ (i:=7) (N:=some 89) (v:=?_) (a':=?_) (fl 22 255) rfl rfl (aO HT_) fI (Or.inl ⟨by rfl,?_⟩) ?_ ?_;rotate_left
           ·intro w'
            go_simp
            with_reducible rfl
           rotate_left
           ·exact pA
           refine pure_ (i:=8) (N:=some 90) (v:=?_) (a':=?_) (fl 22 511) rfl rfl (aO HT_) fI (Or.inl ⟨by rfl,?_⟩) ?_ ?_;rotate_left
           ·intro w'
            go_simp
            with_reducible rfl
           rotate_left
           ·exact pA
           refine pure_ (i:=9) (N:=some 91) (v:=?_) (a':=?_) (fl 22 1023) rfl rfl (aO HT_) fI (Or.inl ⟨by rfl,?_⟩) ?_ ?_;rotate_left
           ·intro w'
            go_simp
            with_reducible rfl
           rotate_left
           ·exact pA
           refine pure_ (i:=10) (N:=some 92) (v:=?_) (a':=?_) (fl 22 2047) rfl rfl (aO HT_) fI (Or.inl ⟨by rfl,?_⟩) ?_ ?_;rotate_left
           ·intro w'
            go_simp
            with_reducible rfl
           rotate_left
           ·exact pA
           refine take_ (i:=11) (N:=some 93) (v:=?_) (a':=?_) (fl 22 4095) rfl rfl (tO HT_ HW_) fI (Or.inl ⟨by rfl,?_⟩) hHeld ?_ ?_;rotate_left
           ·rintro w' ⟨s0,s1,s2,s3,s4,s5,s6,s7,s8,s9,s10,s11,s12⟩
            go_simp
            with_reducible rfl
           rotate_left
           ·exact pA
           refine pure_ (i:=12) (N:=some 94) (v:=?_) (a':=?_) (fl 22 8191) rfl rfl (aO HT_) fI (Or.inl ⟨by rfl,?_⟩) ?_ ?_;rotate_left
           ·intro w'
            go_simp
            with_reducible rfl
           rotate_left
           ·exact pA
           refine pure_ (i:=13) (N:=some 95) (v:=?_) (a':=?_) (fl 22 16383) rfl rfl (aO HT_) fI (Or.inl ⟨by rfl,?_⟩) ?_ ?_;rotate_left
           ·intro w'
            go_simp
            with_reducible rfl
           rotate_left
           ·exact pA
           refine pure_ (i:=14) (N:=some 96) (v:=?_) (a':=?_) (fl 22 32767) rfl rfl (aO HT_) fI (Or.inl ⟨by rfl,?_⟩) ?_ ?_;rotate_left
           ·intro w'
            go_simp
            with_reducible rfl
           rotate_left
           ·exact pA
           refine pure_ (i:=15) (N:=some 97) (v:=?_) (a':=?_) (fl 22 65535) rfl rfl (aO HT_) fI (Or.inl ⟨by rfl,?_⟩) ?_ ?_;rotate_left
           ·intro w'
            go_simp
            with_reducible rfl
           rotate_left
           ·exact pA
           refine pure_ (i:=17) (N:=some 99) (v:=?_) (a':=?_) (fl 22 196607) rfl rfl (aO HT_) fI (Or.inl ⟨by rfl,?_⟩) ?_ ?_;rotate_left
           ·intro w'
            go_simp
            with_reducible rfl
           rotate_left
           ·exact pA
           refine take_ (i:=16) (N:=some 98) (v:=?_) (a':=?_) (fl 22 262143) rfl rfl (tO HT_ HW_) fI (Or.inl ⟨by rfl,?_⟩) hHeld ?_ ?_;rotate_left
           ·rintro w' ⟨s0,s1,s2,s3,s4,s5,s6,s7,s8,s9,s10,s11,s12⟩
            go_simp
            with_reducible rfl
           rotate_left
           ·exact pA
           refine one_ (i:=18) (N:=some 100) (fl 22 524287) rfl rfl (oO HT_) (by decide) (fun K hK=>?_);refine goes_ Tryz.func15 kR rfl #[.slice Ao85 x7_2.length co85] (by rfl) rfl rfl mA ?_;with_reducible refine (norialaw3_OfRows.calls k2 _ _ x7_2 t665 _ ?side1 ?side2 A77.out).mono ?_
           (case side1=>exact cU (Kd.S_reads' HO_7.out).2.2);(case side2=>exact (Kd.S_reads' HO_7.out).2.1);rintro e w88 ⟨v666,rfl,ho0,hb⟩;refine ⟨_,rfl,?_⟩;have HO667:=Mk (Kd.S_lower ho0 (below_size bB));replace HO_7:=Mk (Kd.S_below (sU HO_7) hb);replace HO646:=Mk (Kd.R_below (rU HO646) hb);replace HO657:=Mk (Kd.R_below (rU HO657) hb);replace HO660:=Mk (Kd.S_below (sU HO660) hb);replace BK662:=bkb BK662 hb;replace HB:=Mk (below_step bB hb);(try clear hb);(try clear hb2);(try clear hk);(try clear hi);(try clear ho0);obtain ⟨Ao89,co89,eo89⟩:=Kd.S_slice HO667.out;(first|subst eo89|(injection eo89 with f1_ f2_ f3_;have f4_:=f1_.symm;have f5_:=f3_.symm;clear f1_ f2_ f3_;subst f4_;subst f5_));refine hK.out _ _ ⟨(blk_cell BK662.out 0).trans rfl,(blk_cell BK662.out 1).trans rfl,(blk_cell BK662.out 2).trans rfl,(blk_cell BK662.out 3).trans rfl,(blk_cell BK662.out 4).trans rfl,(blk_cell BK662.out 5).trans rfl,(blk_cell BK662.out 6).trans rfl,(blk_cell BK662.out 7).trans rfl,(blk_cell BK662.out 8).trans rfl,(blk_cell BK662.out 9).trans rfl,(blk_cell BK662.out 10).trans rfl,(blk_cell BK662.out 11).trans rfl,(blk_cell BK662.out 12).trans rfl⟩ (fun hHeld=>?_);clear hK K;refine norm_ (a':=?_) ?_ ?_;rotate_left
           ·show Act.put _ (some 100) _=_
            simp only [Act.put,List.setIfInBounds_toArray,List.set_cons_zero,List.set_cons_succ,i64_w,i32_w];rfl
           refine one_ (i:=19) (N:=some 101) (fl 22 1048575) rfl rfl (oO HT_) (by decide) (fun K hK=>?_);refine goes_ Tryz.func14 kR rfl #[.slice Ao84 t658.length co84,.slice Ao89 t665.length co89] (by rfl) rfl rfl mA ?_;with_reducible refine (norialaw3_SameRows.calls k2 _ _ t658 _ _ t665 t668 _ ?side1 ?side2 ?side3 ?side4 A78.out).mono ?_
           (case side1=>exact cU (Kd.S_reads' HO660.out).2.2);(case side2=>exact (Kd.S_reads' HO660.out).2.1);(case side3=>exact cU (Kd.S_reads' HO667.out).2.2);(case side4=>exact (Kd.S_reads' HO667.out).2.1);rintro e w90 ⟨rfl,hb⟩;refine ⟨_,rfl,?_⟩;replace HO_7:=Mk (Kd.S_below (sU HO_7) hb);replace HO646:=Mk (Kd.R_below (rU HO646) hb);replace HO657:=Mk (Kd.R_below (rU HO657) hb);replace HO660:=Mk (Kd.S_below (sU HO660) hb);replace HO667:=Mk (Kd.S_below (sU HO667) hb);replace BK662:=bkb BK662 hb;replace HB:=Mk (below_step bB hb);(try clear hb);(try clear hb2);(try clear hk);(try clear hi);refine hK.out _ _ ⟨(blk_cell BK662.out 0).trans rfl,(blk_cell BK662.out 1).trans rfl,(blk_cell BK662.out 2).trans rfl,(blk_cell BK662.out 3).trans rfl,(blk_cell BK662.out 4).trans rfl,(blk_cell BK662.out 5).trans rfl,(blk_cell BK662.out 6).trans rfl,(blk_cell BK662.out 7).trans rfl,(blk_cell BK662.out 8).trans rfl,(blk_cell BK662.out 9).trans rfl,(blk_cell BK662.out 10).trans rfl,(blk_cell BK662.out 11).trans rfl,(blk_cell BK662.out 12).trans rfl⟩ (fun hHeld=>?_);clear hK K;refine norm_ (a':=?_) ?_ ?_;rotate_left
           ·show Act.put _ (some 101) _=_
            simp only [Act.put,List.setIfInBounds_toArray,List.set_cons_zero,List.set_cons_succ,i64_w,i32_w];rfl
           refine pure_ (i:=20) (N:=some 102) (v:=?_) (a':=?_) (fl 22 2097151) rfl rfl (aO HT_) fI (Or.inl ⟨by rfl,?_⟩) ?_ ?_;rotate_left
           ·intro w'
            go_simp
            with_reducible rfl
           rotate_left
           ·exact pA
           refine pure_ (i:=21) (N:=some 4) (v:=?_) (a':=?_) (fl 22 4194303) rfl rfl (aO HT_) fI (Or.inl ⟨by rfl,?_⟩) ?_ ?_;rotate_left
           ·intro w'
            go_simp
            with_reducible rfl
           rotate_left
           ·exact pA
           refine done_ (done_of HT_.out kR) ?_;try go_wp2
           go_ret
           exact ⟨eW,bB⟩
          ·rw [if_neg c76] at H
           exact absurd H (by simp)
         ·rw [if_neg c75] at H
          exact absurd H (by simp)
        ·rw [if_neg c74] at H
         exact absurd H (by simp)
 ·replace c4:=Bool.eq_false_iff.mpr c4
  subst c4;rw [if_neg (show ¬ (false=true) by decide)] at H;try dsimp only at H
  exact absurd H (by simp)
def norialaw25_ReqRows.Pure:Prop:=∀ (l0:List Int) (a1:Int),l0.length≤maxLen→l0.length * 8≤140737488351232→(∀ x∈l0,(Lit.int .i64 x).wf=true)→(Lit.int .u8 a1).wf=true→∃ k,norialaw25_ReqRows.f k l0 a1=some true
theorem norialaw25_ReqRows.walk (P:norialaw25_ReqRows.Pure) (a0:Option Addr) (len0 cap0:Nat) (z0:List Int) (a1:Int) (w:World) (w0:(a0=none∧len0=0∧cap0=0∧z0=[])∨∃ x,a0=some x∧len0≤cap0∧cap0≤maxLen∧z0.length=cap0∧(∀ i,i < z0.length→w.cell? (x.add i)=some (.int .i64 (z0.getD i 0)))∧∀ n∈z0,(Lit.int .i64 n).wf=true) (y0:len0 * 8≤140737488351232) (w1:(Lit.int .u8 a1).wf=true) (hG_:Glob w):
  Calls Tryz.prog 4 #[.slice a0 len0 cap0,.int .u8 a1] w fun e w'=>e = .returned (.bool true)∧Below w.heap.size w w':=by
 obtain ⟨l0,rfl,hr0,hm0,hw0,hc0⟩:=ReadsInt.ofRowC w0;obtain ⟨k,h⟩:=P l0 a1 hm0 y0 hw0 w1;refine (norialaw25_ReqRows.calls k _ _ l0 a1 true w (Kd.C_of_reads (d:=(0:Int)) (h1:=fun _=>rfl) hr0) hc0 h hG_).mono ?_;rintro e w' ⟨rfl,hd⟩;exact ⟨rfl,hd⟩
end Go.Proofs.YtcpjlbdjnaaaiaaGreatDoor.PAll
