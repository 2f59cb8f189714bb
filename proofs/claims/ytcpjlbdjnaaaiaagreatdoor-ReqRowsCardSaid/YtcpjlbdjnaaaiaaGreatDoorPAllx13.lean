import Derived.Test.YtcpjlbdjnaaaiaaGreatDoorPAllx5
import Derived.Test.YtcpjlbdjnaaaiaaGreatDoorPAllx11
import Derived.Test.YtcpjlbdjnaaaiaaGreatDoorPAllx12
namespace Go.Proofs.YtcpjlbdjnaaaiaaGreatDoor.PAll
open Go.Proofs.YtcpjlbdjnaaaiaaGreatDoor.Help
open Go.RowKit Go.Proofs.YtcpjlbdjnaaaiaaGreatDoorW.PrintWords Go.Proofs.YtcpjlbdjnaaaiaaGreatDoorW.PrintLast Go.Proofs.YtcpjlbdjnaaaiaaGreatDoorW.PrintMore
set_option linter.unusedVariables false
set_option linter.unusedSimpArgs false
mutual
def req_Text.j0:Nat→ByteArray→Int→Bool→Int→Int→List ByteArray→Int→Int→Int→Int→ByteArray→(Nat×Nat)→(Nat×Nat)→(Nat×Nat)→List (S30)→List (List (S25))→Option (ByteArray×Int)
 | 0,_,_,_,_,_,_,_,_,_,_,_,_,_,_,_,_=>none
 |k+1,x5,x24,x38,x194000,x194001,x194002,x194003,x194004,x194005,x194006,x194007,x194008,x194009,x194010,x194011,x194012=>if x38=true then ((strconv_Itoa.f x194001).bind fun t201=>(if 1+t201.size≤9223372036854775807 then (if x5.size+1+t201.size≤9223372036854775807 then (some (x5++((⟨#[32]⟩:ByteArray)++t201),0)) else (none)) else (none))) else (if x24=4 then (req_Text.l0 k x5 ([]:List ByteArray) x194012 (x194012.length:Int) 0) else (some (x5,0)))
def req_Text.l0:Nat→ByteArray→List ByteArray→List (List (S25))→Int→Int→Option (ByteArray×Int)
 | 0,_,_,_,_,_=>none
 |k+1,x5,x6,x50,x51,x52=>if x52 < x51 then (if 0≤x52 then (if x52 < (x50.length:Int) then (req_Text.l1 k x5 x6 ([]:List ByteArray) x50 x51 x52 (rd_L11 x50 x52) ((rd_L11 x50 x52).length:Int) 0) else (none)) else (none)) else ((strings_Join.f x6 (⟨#[59]⟩:ByteArray)).bind fun t202=>(if 1+t202.size≤9223372036854775807 then (if x5.size+1+t202.size≤9223372036854775807 then (some (x5++((⟨#[32]⟩:ByteArray)++t202),0)) else (none)) else (none)))
def req_Text.l1:Nat→ByteArray→List ByteArray→List ByteArray→List (List (S25))→Int→Int→List (S25)→Int→Int→Option (ByteArray×Int)
 | 0,_,_,_,_,_,_,_,_,_=>none
 |k+1,x5,x6,x9,x50,x51,x52,x56,x57,x58=>if x58 < x57 then (if 0≤x58 then (if x58 < (x56.length:Int) then ((val_Text.f k ((rd_T25 x56 x58).f0) ((rd_T25 x56 x58).f1) ((rd_T25 x56 x58).f2) ((rd_T25 x56 x58).f3)).bind fun t206=>(if x9.length < 8796093022208 then (req_Text.l1 k x5 x6 (x9++[t206]) x50 x51 x52 x56 x57 (wrap64 (x58+1))) else (none))) else (none)) else (none)) else ((strings_Join.f x9 (⟨#[44]⟩:ByteArray)).bind fun t210=>(if x6.length < 8796093022208 then (req_Text.l0 k x5 (x6++[t210]) x50 x51 (wrap64 (x52+1))) else (none)))
end
def req_Text.f (k:Nat) (a0_0:Int) (a0_1:Int) (l0_2:List ByteArray) (a0_3:Int) (a0_4:Int) (a0_5:Int) (a0_6:Int) (a0_7:ByteArray) (a0_8:(Nat×Nat)) (a0_9:(Nat×Nat)) (a0_10:(Nat×Nat)) (l0_11:List (S30)) (l0_12:List (List (S25))):Option (ByteArray×Int):=(req_check.f k a0_0 a0_1 l0_2 a0_3 a0_4 a0_5 a0_6 a0_7 a0_8 a0_9 a0_10 l0_11 l0_12).bind fun t194=>(if t194=0 then ((req_words.f).bind fun t195=>(if 0≤(wrap64 (a0_0 - 1)) then (if (wrap64 (a0_0 - 1)) < (t195.length:Int) then (if a0_0=1 then ((strings_Join.f l0_2 (⟨#[44]⟩:ByteArray)).bind fun t199=>(if 1+t199.size≤9223372036854775807 then (if 1+t199.size+1≤9223372036854775807 then ((req_PredText.f k a0_3 a0_4 a0_5 a0_6 a0_7 a0_8 a0_9 a0_10 l0_11).bind fun t200=>(if 1+t199.size+1+t200.size≤9223372036854775807 then (if (rdOf ByteArray.empty t195 (wrap64 (a0_0 - 1))).size+1+t199.size+1+t200.size≤9223372036854775807 then (some ((rdOf ByteArray.empty t195 (wrap64 (a0_0 - 1)))++((((⟨#[32]⟩:ByteArray)++t199)++(⟨#[32]⟩:ByteArray))++t200),0)) else (none)) else (none))) else (none)) else (none))) else (if a0_0=2 then (req_Text.j0 k (rdOf ByteArray.empty t195 (wrap64 (a0_0 - 1))) a0_0 (a0_0 == 2) a0_0 a0_1 l0_2 a0_3 a0_4 a0_5 a0_6 a0_7 a0_8 a0_9 a0_10 l0_11 l0_12) else (req_Text.j0 k (rdOf ByteArray.empty t195 (wrap64 (a0_0 - 1))) a0_0 (a0_0 == 3) a0_0 a0_1 l0_2 a0_3 a0_4 a0_5 a0_6 a0_7 a0_8 a0_9 a0_10 l0_11 l0_12))) else (none)) else (none))) else (some ((⟨#[]⟩:ByteArray),t194)))
def req_Text.T7:Bool×List (List Nat×List Nat):=(true,[([],[]),([],[]),([1],[1]),([2],[2]),([3],[3]),([4],[4]),([],[]),([6],[6]),([7,3],[7]),([5,8],[5,8]),([0,9],[0,9]),([10,8,0,1,2,3,4,5,6,7,8,9,10],[0,10])])
def req_Text.B7:List Nat:=[0,0,2,6,14,30,0,64,206,510,1023,2047]
theorem req_Text.tab7:rtab .any (opsOf Tryz.f7 7)=req_Text.T7:=by kernel_rfl
theorem req_Text.bits7:waitsOk req_Text.T7.2 req_Text.B7=true:=by kernel_rfl
set_option maxHeartbeats 8000000 in
set_option maxRecDepth 100000 in
theorem req_Text.calls (k:Nat) (a0_0:Int) (a0_1:Int) (A0_2:Option Addr) (c0_2:Nat) (l0_2:List ByteArray) (a0_3:Int) (a0_4:Int) (a0_5:Int) (a0_6:Int) (a0_7:ByteArray) (a0_8:(Nat×Nat)) (a0_9:(Nat×Nat)) (a0_10:(Nat×Nat)) (A0_11:Option Addr) (c0_11:Nat) (l0_11:List (S30)) (A0_12:Option Addr) (c0_12:Nat) (l0_12:List (List (S25))) (r1:ByteArray) (r2:Int) (w:World) (hr0_2:Kd.C Kd.string w A0_2 l0_2.length l0_2) (hc0_2:l0_2.length≤c0_2) (hr0_11:Kd.C k30 w A0_11 l0_11.length l0_11) (hc0_11:l0_11.length≤c0_11) (hr0_12:Kd.C (Kd.slice 25 k25) w A0_12 l0_12.length l0_12) (hc0_12:l0_12.length≤c0_12) (h:req_Text.f k a0_0 a0_1 l0_2 a0_3 a0_4 a0_5 a0_6 a0_7 a0_8 a0_9 a0_10 l0_11 l0_12=some (r1,r2)) (hG_:Glob w):
  Calls Tryz.prog 7 #[.agg #[.int .i64 a0_0,.int .i64 a0_1,.slice A0_2 l0_2.length c0_2,.int .i64 a0_3,.int .i64 a0_4,.int .i64 a0_5,.int .i64 a0_6,.string a0_7,.complex .f64 a0_8.1 a0_8.2,.complex .f64 a0_9.1 a0_9.2,.complex .f64 a0_10.1 a0_10.2,.slice A0_11 l0_11.length c0_11,.slice A0_12 l0_12.length c0_12]] w fun e w'=>e = .returned (.tuple #[.string r1,.int .i64 r2])∧Below w.heap.size w w':=by
 have HG_:=Mk hG_;clear hG_;have hu38:=Tryz.underlying38;have hu30:=Tryz.underlying30;have hu25:=Tryz.underlying25;have HR0_2:=Mk hr0_2;have HC0_2:=Mk hc0_2;clear hr0_2 hc0_2;have HR0_11:=Mk hr0_11;have HC0_11:=Mk hc0_11;clear hr0_11 hc0_11;have HR0_12:=Mk hr0_12;have HC0_12:=Mk hc0_12;clear hr0_12 hc0_12;have HB:=Mk (Below.refl w.heap.size w);have H:((req_check.f k a0_0 a0_1 l0_2 a0_3 a0_4 a0_5 a0_6 a0_7 a0_8 a0_9 a0_10 l0_11 l0_12).bind fun t194=>(if t194=0 then ((req_words.f).bind fun t195=>(if 0≤(wrap64 (a0_0 - 1)) then (if (wrap64 (a0_0 - 1)) < (t195.length:Int) then (if a0_0=1 then ((strings_Join.f l0_2 (⟨#[44]⟩:ByteArray)).bind fun t199=>(if 1+t199.size≤9223372036854775807 then (if 1+t199.size+1≤9223372036854775807 then ((req_PredText.f k a0_3 a0_4 a0_5 a0_6 a0_7 a0_8 a0_9 a0_10 l0_11).bind fun t200=>(if 1+t199.size+1+t200.size≤9223372036854775807 then (if (rdOf ByteArray.empty t195 (wrap64 (a0_0 - 1))).size+1+t199.size+1+t200.size≤9223372036854775807 then (some ((rdOf ByteArray.empty t195 (wrap64 (a0_0 - 1)))++((((⟨#[32]⟩:ByteArray)++t199)++(⟨#[32]⟩:ByteArray))++t200),0)) else (none)) else (none))) else (none)) else (none))) else (if a0_0=2 then (req_Text.j0 k (rdOf ByteArray.empty t195 (wrap64 (a0_0 - 1))) a0_0 (a0_0 == 2) a0_0 a0_1 l0_2 a0_3 a0_4 a0_5 a0_6 a0_7 a0_8 a0_9 a0_10 l0_11 l0_12) else (req_Text.j0 k (rdOf ByteArray.empty t195 (wrap64 (a0_0 - 1))) a0_0 (a0_0 == 3) a0_0 a0_1 l0_2 a0_3 a0_4 a0_5 a0_6 a0_7 a0_8 a0_9 a0_10 l0_11 l0_12))) else (none)) else (none))) else (some ((⟨#[]⟩:ByteArray),t194))))=some (r1,r2):=h;clear h;replace H:=Option.bind_eq_some_iff.mp H;obtain ⟨t194,A20,H⟩:=H;try dsimp only at H
 have A2:=Mk A20;clear A20;by_cases c3:t194=0
 ·rw [if_pos c3] at H
  have c3b0:=beq_iff_eq.mpr c3;have c3b1:=bne_eq_false_iff_eq.mpr c3;clear c3;replace H:=Option.bind_eq_some_iff.mp H;obtain ⟨t195,A40,H⟩:=H;try dsimp only at H
  have A4:=Mk A40;clear A40;obtain ⟨ji5,hji5⟩:∃ j_:Int,(wrap64 (a0_0 - 1))=j_:=⟨_,rfl⟩;replace H:(if 0≤(ji5) then (if (ji5) < (t195.length:Int) then (if a0_0=1 then ((strings_Join.f l0_2 (⟨#[44]⟩:ByteArray)).bind fun t199=>(if 1+t199.size≤9223372036854775807 then (if 1+t199.size+1≤9223372036854775807 then ((req_PredText.f k a0_3 a0_4 a0_5 a0_6 a0_7 a0_8 a0_9 a0_10 l0_11).bind fun t200=>(if 1+t199.size+1+t200.size≤9223372036854775807 then (if (rdOf ByteArray.empty t195 (ji5)).size+1+t199.size+1+t200.size≤9223372036854775807 then (some ((rdOf ByteArray.empty t195 (ji5))++((((⟨#[32]⟩:ByteArray)++t199)++(⟨#[32]⟩:ByteArray))++t200),0)) else (none)) else (none))) else (none)) else (none))) else (if a0_0=2 then (req_Text.j0 k (rdOf ByteArray.empty t195 (ji5)) a0_0 (a0_0 == 2) a0_0 a0_1 l0_2 a0_3 a0_4 a0_5 a0_6 a0_7 a0_8 a0_9 a0_10 l0_11 l0_12) else (req_Text.j0 k (rdOf ByteArray.empty t195 (ji5)) a0_0 (a0_0 == 3) a0_0 a0_1 l0_2 a0_3 a0_4 a0_5 a0_6 a0_7 a0_8 a0_9 a0_10 l0_11 l0_12))) else (none)) else (none))=some (r1,r2):=by first|(rw [hji5] at H;exact H)|(simp only [hji5] at H ⊢;exact H)
  (try rw [hji5] at A2);(try rw [hji5] at A4);have hji5w:(IntKind.i64.wrap (a0_0 - 1))=ji5:=(i64_w _).trans hji5;by_cases c6:0≤(ji5)
  ·rw [if_pos c6] at H
   have c6b0:=decide_eq_true c6;clear c6;by_cases c7:(ji5) < (t195.length:Int)
   ·rw [if_pos c7] at H
    have c7b0:=decide_eq_true c7;clear c7;by_cases c8:a0_0=1
    ·rw [if_pos c8] at H
     have c8b0:=beq_iff_eq.mpr c8;have c8b1:=bne_eq_false_iff_eq.mpr c8;clear c8;replace H:=Option.bind_eq_some_iff.mp H;obtain ⟨t199,A90,H⟩:=H;try dsimp only at H
     have A9:=Mk A90;clear A90;by_cases c10:1+t199.size≤9223372036854775807
     ·rw [if_pos c10] at H
      have c10b0:=eq_true c10;have c10b1:=decide_eq_true c10;try have c10b2:(9223372036854775807 < 1+t199.size)=False:=eq_false (Nat.not_lt.2 c10)
      by_cases c11:1+t199.size+1≤9223372036854775807
      ·rw [if_pos c11] at H
       have c11b0:=eq_true c11;have c11b1:=decide_eq_true c11;try have c11b2:(9223372036854775807 < 1+t199.size+1)=False:=eq_false (Nat.not_lt.2 c11)
       replace H:=Option.bind_eq_some_iff.mp H;obtain ⟨t200,A120,H⟩:=H;try dsimp only at H
       have A12:=Mk A120;clear A120;by_cases c13:1+t199.size+1+t200.size≤9223372036854775807
       ·rw [if_pos c13] at H
        have c13b0:=eq_true c13;have c13b1:=decide_eq_true c13;try have c13b2:(9223372036854775807 < 1+t199.size+1+t200.size)=False:=eq_false (Nat.not_lt.2 c13)
        have c13b3:(9223372036854775807 < 1+t199.size+(1+t200.size))=False:=eq_false (by omega);by_cases c14:(rdOf ByteArray.empty t195 (ji5)).size+1+t199.size+1+t200.size≤9223372036854775807
        ·rw [if_pos c14] at H
         have c14b0:=eq_true c14;have c14b1:=decide_eq_true c14;try have c14b2:(9223372036854775807 < (rdOf ByteArray.empty t195 (ji5)).size+1+t199.size+1+t200.size)=False:=eq_false (Nat.not_lt.2 c14)
         have c14b4:(9223372036854775807 < (rdOf ByteArray.empty t195 (ji5)).size+(1+t199.size+1+t200.size))=False:=eq_false (by omega);have c14b3:(9223372036854775807 < (rdOf ByteArray.empty t195 (ji5)).size+1+t199.size+(1+t200.size))=False:=eq_false (by omega);simp only [Option.some.injEq,Prod.mk.injEq] at H;obtain ⟨rfl,rfl⟩:=H;go_enter Tryz.func7,Tryz.ntmps7
         try go_wp2_with (first|((with_reducible refine gate_dst (N:=1) rfl ?_);refine boxE 1 #[.int .i64 a0_0,.int .i64 a0_1,.slice A0_2 l0_2.length c0_2,.int .i64 a0_3,.int .i64 a0_4,.int .i64 a0_5,.int .i64 a0_6,.string a0_7,.complex .f64 a0_8.1 a0_8.2,.complex .f64 a0_9.1 a0_9.2,.complex .f64 a0_10.1 a0_10.2,.slice A0_11 l0_11.length c0_11,.slice A0_12 l0_12.length c0_12] 38 ?_;intro gb193 hg w15 hbox hb;have BK193:=Mk (hbox);have GW193:=Mk ((gS:w.heap.size≤gb193));have GE193:=Mk ((gS:w.heap.size≤gb193));replace HB:=Mk (below_step bB hb);clear hb hbox hg;obtain ⟨_,_,_,_,_,_,_,_,_,_,_,_,_,_,_,_,_,_,_,_,_,_,_,_,_,_⟩:=z13 BK193)|((with_reducible refine gate_callee (f:=19) rfl ?_);refine goesL_ (some 13) rfl rfl Tryz.func19 kR rfl #[.agg #[.int .i64 a0_0,.int .i64 a0_1,.slice A0_2 l0_2.length c0_2,.int .i64 a0_3,.int .i64 a0_4,.int .i64 a0_5,.int .i64 a0_6,.string a0_7,.complex .f64 a0_8.1 a0_8.2,.complex .f64 a0_9.1 a0_9.2,.complex .f64 a0_10.1 a0_10.2,.slice A0_11 l0_11.length c0_11,.slice A0_12 l0_12.length c0_12]] rfl mA ?_;(with_reducible refine (req_check.calls k a0_0 a0_1 _ _ l0_2 a0_3 a0_4 a0_5 a0_6 a0_7 a0_8 a0_9 a0_10 _ _ l0_11 _ _ l0_12 t194 _ ?side1 ?side2 ?side3 ?side4 ?side5 ?side6 A2.out).mono ?_);(case side1=>exact cU (Kd.C_below HR0_2.out HB.out));(case side2=>exact HC0_2.out);(case side3=>exact cU (Kd.C_below HR0_11.out HB.out));(case side4=>exact HC0_11.out);(case side5=>exact cU (Kd.C_below HR0_12.out HB.out));(case side6=>exact HC0_12.out);rintro e w17 ⟨rfl,hb⟩;refine ⟨_,rfl,?_⟩;replace BK193:=bkb BK193 hb;replace HB:=Mk (below_step bB hb);clear hb))
         replace BK193:=Mk (blk_drew BK193.out);replace HB:=Mk (below_drew1 HB.out);refine start_ (n:=7) (S:=fun w'=>w'.cell? ⟨gb193,0,none⟩=some (.int .i64 a0_0)∧w'.cell? ⟨gb193,1,none⟩=some (.int .i64 a0_1)∧w'.cell? ⟨gb193,2,none⟩=some (.slice A0_2 l0_2.length c0_2)∧w'.cell? ⟨gb193,3,none⟩=some (.int .i64 a0_3)∧w'.cell? ⟨gb193,4,none⟩=some (.int .i64 a0_4)∧w'.cell? ⟨gb193,5,none⟩=some (.int .i64 a0_5)∧w'.cell? ⟨gb193,6,none⟩=some (.int .i64 a0_6)∧w'.cell? ⟨gb193,7,none⟩=some (.string a0_7)∧w'.cell? ⟨gb193,8,none⟩=some (.complex .f64 a0_8.1 a0_8.2)∧w'.cell? ⟨gb193,9,none⟩=some (.complex .f64 a0_9.1 a0_9.2)∧w'.cell? ⟨gb193,10,none⟩=some (.complex .f64 a0_10.1 a0_10.2)∧w'.cell? ⟨gb193,11,none⟩=some (.slice A0_11 l0_11.length c0_11)∧w'.cell? ⟨gb193,12,none⟩=some (.slice A0_12 l0_12.length c0_12)) (ds:=[]) #[b0,b0,b0,b0,b0,b0,b0] kR rfl rfl ⟨(blk_cell BK193.out 0).trans rfl,(blk_cell BK193.out 1).trans rfl,(blk_cell BK193.out 2).trans rfl,(blk_cell BK193.out 3).trans rfl,(blk_cell BK193.out 4).trans rfl,(blk_cell BK193.out 5).trans rfl,(blk_cell BK193.out 6).trans rfl,(blk_cell BK193.out 7).trans rfl,(blk_cell BK193.out 8).trans rfl,(blk_cell BK193.out 9).trans rfl,(blk_cell BK193.out 10).trans rfl,(blk_cell BK193.out 11).trans rfl,(blk_cell BK193.out 12).trans rfl⟩ (fun hHeld=>?_)
         generalize w17.drew=w18 at BK193 HB hHeld ⊢
         refine pure_ (i:=1) (N:=some 18) (v:=?_) (a':=?_) (fl 7 2) rfl rfl kR fI (Or.inl ⟨by rfl,?_⟩) ?_ ?_;rotate_left
         ·intro w'
          go_simp
          with_reducible rfl
         rotate_left
         ·exact pA
         refine take_ (i:=2) (N:=some 19) (v:=?_) (a':=?_) (fl 7 6) rfl rfl kR fI (Or.inl ⟨by rfl,?_⟩) hHeld ?_ ?_;rotate_left
         ·rintro w' ⟨s0,s1,s2,s3,s4,s5,s6,s7,s8,s9,s10,s11,s12⟩
          go_simp
          with_reducible rfl
         rotate_left
         ·exact pA
         refine pure_ (i:=3) (N:=some 20) (v:=?_) (a':=?_) (fl 7 14) rfl rfl kR fI (Or.inl ⟨by rfl,?_⟩) ?_ ?_;rotate_left
         ·intro w'
          go_simp
          with_reducible rfl
         rotate_left
         ·exact pA
         refine one_ (i:=0) (N:=some 17) (fl 7 15) rfl rfl kR (by decide) (fun K hK=>?_);refine goes_ Tryz.func20 kR rfl #[] (by rfl) rfl rfl mA ?_;with_reducible refine (req_words.calls  t195 _ A4.out).mono ?_
         rintro e w19 ⟨v196,rfl,ho0,hb⟩;refine ⟨_,rfl,?_⟩;have HO197:=Mk (Kd.R_lower ho0 (below_size bB));replace BK193:=bkb BK193 hb;replace HB:=Mk (below_step bB hb);(try clear hb);(try clear hb2);(try clear hk);(try clear hi);(try clear ho0);obtain ⟨Ao20,co20,eo20⟩:=Kd.R_slice HO197.out;(first|subst eo20|(injection eo20 with f1_ f2_ f3_;have f4_:=f1_.symm;have f5_:=f3_.symm;clear f1_ f2_ f3_;subst f4_;subst f5_));have p198:0≤((ji5):Int):=of_decide_eq_true aS;have q198:(ji5) < (t195.length:Int):=of_decide_eq_true aS;obtain ⟨ad198,e198,hx198_0⟩:=Kd.at_string (Kd.R_reads' HO197.out).2.2 (ji5) p198 q198;cases e198
         replace p198:=eq_true p198;replace q198:=eq_true q198;refine hK.out _ _ ⟨(blk_cell BK193.out 0).trans rfl,(blk_cell BK193.out 1).trans rfl,(blk_cell BK193.out 2).trans rfl,(blk_cell BK193.out 3).trans rfl,(blk_cell BK193.out 4).trans rfl,(blk_cell BK193.out 5).trans rfl,(blk_cell BK193.out 6).trans rfl,(blk_cell BK193.out 7).trans rfl,(blk_cell BK193.out 8).trans rfl,(blk_cell BK193.out 9).trans rfl,(blk_cell BK193.out 10).trans rfl,(blk_cell BK193.out 11).trans rfl,(blk_cell BK193.out 12).trans rfl⟩ (fun hHeld=>?_);clear hK K;refine norm_ (a':=?_) ?_ ?_;rotate_left
         ·show Act.put _ (some 17) _=_
          simp only [Act.put,List.setIfInBounds_toArray,List.set_cons_zero,List.set_cons_succ,i64_w,i32_w];rfl
         refine pure_ (i:=4) (N:=some 21) (v:=?_) (a':=?_) (fl 7 31) rfl rfl kR fI (Or.inl ⟨by rfl,?_⟩) ?_ ?_;rotate_left
         ·intro w'
          go_simp
          with_reducible rfl
         rotate_left
         ·exact pA
         refine look_ (i:=5) (N:=some 22) (v:=?_) (a':=?_) (fl 7 63) rfl rfl kR (by decide) (by rfl) ?_ hHeld ?_ ?_;rotate_left
         ·skip
          go_simp
          with_reducible rfl
         rotate_left
         ·exact pA
         refine pure_ (i:=6) (N:=some 5) (v:=?_) (a':=?_) (fl 7 127) rfl rfl kR fI (Or.inl ⟨by rfl,?_⟩) ?_ ?_;rotate_left
         ·intro w'
          go_simp
          with_reducible rfl
         rotate_left
         ·exact pA
         refine done_ kR ?_;obtain ⟨_,_,_,_,_,_,_,_,_,_,_,_,_,_,_,_,_,_,_,_,_,_,_,_,_,_⟩:=z13 BK193;try go_wp2
         replace HO197:=Mk (Kd.R_drew HO197.out);replace BK193:=Mk (blk_drew BK193.out);replace HB:=Mk (below_drew1 HB.out);refine start_ (n:=12) (S:=fun w'=>w'.cell? ⟨gb193,0,none⟩=some (.int .i64 a0_0)∧w'.cell? ⟨gb193,1,none⟩=some (.int .i64 a0_1)∧w'.cell? ⟨gb193,2,none⟩=some (.slice A0_2 l0_2.length c0_2)∧w'.cell? ⟨gb193,3,none⟩=some (.int .i64 a0_3)∧w'.cell? ⟨gb193,4,none⟩=some (.int .i64 a0_4)∧w'.cell? ⟨gb193,5,none⟩=some (.int .i64 a0_5)∧w'.cell? ⟨gb193,6,none⟩=some (.int .i64 a0_6)∧w'.cell? ⟨gb193,7,none⟩=some (.string a0_7)∧w'.cell? ⟨gb193,8,none⟩=some (.complex .f64 a0_8.1 a0_8.2)∧w'.cell? ⟨gb193,9,none⟩=some (.complex .f64 a0_9.1 a0_9.2)∧w'.cell? ⟨gb193,10,none⟩=some (.complex .f64 a0_10.1 a0_10.2)∧w'.cell? ⟨gb193,11,none⟩=some (.slice A0_11 l0_11.length c0_11)∧w'.cell? ⟨gb193,12,none⟩=some (.slice A0_12 l0_12.length c0_12)) (ds:=[]) #[b0,b0,b0,b0,b0,b0,b0,b0,b0,b0,b0,b0] kR rfl rfl ⟨(blk_cell BK193.out 0).trans rfl,(blk_cell BK193.out 1).trans rfl,(blk_cell BK193.out 2).trans rfl,(blk_cell BK193.out 3).trans rfl,(blk_cell BK193.out 4).trans rfl,(blk_cell BK193.out 5).trans rfl,(blk_cell BK193.out 6).trans rfl,(blk_cell BK193.out 7).trans rfl,(blk_cell BK193.out 8).trans rfl,(blk_cell BK193.out 9).trans rfl,(blk_cell BK193.out 10).trans rfl,(blk_cell BK193.out 11).trans rfl,(blk_cell BK193.out 12).trans rfl⟩ (fun hHeld=>?_);refine with_tabW req_Text.tab7 req_Text.bits7 (fun HT_ HW_=>?_)
         generalize w19.drew=w22 at HO197 BK193 HB hHeld ⊢
         refine pure_ (i:=0) (N:=some 27) (v:=?_) (a':=?_) (fl 12 1) rfl rfl (aO HT_) fI (Or.inl ⟨by rfl,?_⟩) ?_ ?_;rotate_left
         ·intro w'
          go_simp
          with_reducible rfl
         rotate_left
         ·exact pA
         refine pure_ (i:=1) (N:=some 28) (v:=?_) (a':=?_) (fl 12 3) rfl rfl (aO HT_) fI (Or.inl ⟨by rfl,?_⟩) ?_ ?_;rotate_left
         ·intro w'
          go_simp
          with_reducible rfl
         rotate_left
         ·exact pA
         refine pure_ (i:=6) (N:=some 33) (v:=?_) (a':=?_) (fl 12 67) rfl rfl (aO HT_) fI (Or.inl ⟨by rfl,?_⟩) ?_ ?_;rotate_left
         ·intro w'
          go_simp
          with_reducible rfl
         rotate_left
         ·exact pA
         refine take_ (i:=2) (N:=some 29) (v:=?_) (a':=?_) (fl 12 71) rfl rfl (tO HT_ HW_) fI (Or.inl ⟨by rfl,?_⟩) hHeld ?_ ?_;rotate_left
         ·rintro w' ⟨s0,s1,s2,s3,s4,s5,s6,s7,s8,s9,s10,s11,s12⟩
          go_simp
          with_reducible rfl
         rotate_left
         ·exact pA
         refine take_ (i:=7) (N:=some 34) (v:=?_) (a':=?_) (fl 12 199) rfl rfl (tO HT_ HW_) fI (Or.inl ⟨by rfl,?_⟩) hHeld ?_ ?_;rotate_left
         ·rintro w' ⟨s0,s1,s2,s3,s4,s5,s6,s7,s8,s9,s10,s11,s12⟩
          go_simp
          with_reducible rfl
         rotate_left
         ·exact pA
         refine one_ (i:=3) (N:=some 30) (fl 12 207) rfl rfl (oO HT_) (by decide) (fun K hK=>?_);refine goes_ Tryz.func21 kR rfl #[.slice A0_2 l0_2.length c0_2,.string (⟨#[44]⟩:ByteArray)] (by rfl) rfl rfl mA ?_;with_reducible refine (strings_Join.calls _ _ l0_2 (⟨#[44]⟩:ByteArray) t199 _ ?side1 ?side2 A9.out).mono ?_
         (case side1=>exact cU (Kd.C_below HR0_2.out HB.out));(case side2=>exact HC0_2.out);rintro e w23 ⟨rfl,hb⟩;refine ⟨_,rfl,?_⟩;replace HO197:=Mk (Kd.R_below (rU HO197) hb);replace BK193:=bkb BK193 hb;replace HB:=Mk (below_step bB hb);(try clear hb);(try clear hb2);(try clear hk);(try clear hi);refine hK.out _ _ ⟨(blk_cell BK193.out 0).trans rfl,(blk_cell BK193.out 1).trans rfl,(blk_cell BK193.out 2).trans rfl,(blk_cell BK193.out 3).trans rfl,(blk_cell BK193.out 4).trans rfl,(blk_cell BK193.out 5).trans rfl,(blk_cell BK193.out 6).trans rfl,(blk_cell BK193.out 7).trans rfl,(blk_cell BK193.out 8).trans rfl,(blk_cell BK193.out 9).trans rfl,(blk_cell BK193.out 10).trans rfl,(blk_cell BK193.out 11).trans rfl,(blk_cell BK193.out 12).trans rfl⟩ (fun hHeld=>?_);clear hK K;refine norm_ (a':=?_) ?_ ?_;rotate_left
         ·show Act.put _ (some 30) _=_
          simp only [Act.put,List.setIfInBounds_toArray,List.set_cons_zero,List.set_cons_succ,i64_w,i32_w];rfl
         refine pure_ (i:=4) (N:=some 31) (v:=?_) (a':=?_) (fl 12 223) rfl rfl (aO HT_) fI (Or.inl ⟨by rfl,?_⟩) ?_ ?_;rotate_left
         ·intro w'
          go_simp
          with_reducible rfl
         rotate_left
         ·exact pA
         refine pure_ (i:=5) (N:=some 32) (v:=?_) (a':=?_) (fl 12 255) rfl rfl (aO HT_) fI (Or.inl ⟨by rfl,?_⟩) ?_ ?_;rotate_left
         ·intro w'
          go_simp
          with_reducible rfl
         rotate_left
         ·exact pA
         refine one_ (i:=8) (N:=some 35) (fl 12 511) rfl rfl (oO HT_) (by decide) (fun K hK=>?_);refine goes_ Tryz.func10 kR rfl #[.agg #[.int .i64 a0_3,.int .i64 a0_4,.int .i64 a0_5,.int .i64 a0_6,.string a0_7,.complex .f64 a0_8.1 a0_8.2,.complex .f64 a0_9.1 a0_9.2,.complex .f64 a0_10.1 a0_10.2,.slice A0_11 l0_11.length c0_11]] (by rfl) rfl rfl mA ?_;with_reducible refine (req_PredText.calls k a0_3 a0_4 a0_5 a0_6 a0_7 a0_8 a0_9 a0_10 _ _ l0_11 t200 _ ?side1 ?side2 A12.out (Glob.below HG_.out bB)).mono ?_
         (case side1=>exact cU (Kd.C_below HR0_11.out HB.out));(case side2=>exact HC0_11.out);rintro e w24 ⟨rfl,hb⟩;refine ⟨_,rfl,?_⟩;replace HO197:=Mk (Kd.R_below (rU HO197) hb);replace BK193:=bkb BK193 hb;replace HB:=Mk (below_step bB hb);(try clear hb);(try clear hb2);(try clear hk);(try clear hi);refine hK.out _ _ ⟨(blk_cell BK193.out 0).trans rfl,(blk_cell BK193.out 1).trans rfl,(blk_cell BK193.out 2).trans rfl,(blk_cell BK193.out 3).trans rfl,(blk_cell BK193.out 4).trans rfl,(blk_cell BK193.out 5).trans rfl,(blk_cell BK193.out 6).trans rfl,(blk_cell BK193.out 7).trans rfl,(blk_cell BK193.out 8).trans rfl,(blk_cell BK193.out 9).trans rfl,(blk_cell BK193.out 10).trans rfl,(blk_cell BK193.out 11).trans rfl,(blk_cell BK193.out 12).trans rfl⟩ (fun hHeld=>?_);clear hK K;refine norm_ (a':=?_) ?_ ?_;rotate_left
         ·show Act.put _ (some 35) _=_
          simp only [Act.put,List.setIfInBounds_toArray,List.set_cons_zero,List.set_cons_succ,i64_w,i32_w];rfl
         refine pure_ (i:=9) (N:=some 36) (v:=?_) (a':=?_) (fl 12 1023) rfl rfl (aO HT_) fI (Or.inl ⟨by rfl,?_⟩) ?_ ?_;rotate_left
         ·intro w'
          go_simp
          with_reducible rfl
         rotate_left
         ·exact pA
         refine pure_ (i:=10) (N:=some 37) (v:=?_) (a':=?_) (fl 12 2047) rfl rfl (aO HT_) fI (Or.inl ⟨by rfl,?_⟩) ?_ ?_;rotate_left
         ·intro w'
          go_simp
          with_reducible rfl
         rotate_left
         ·exact pA
         refine pure_ (i:=11) (N:=some 5) (v:=?_) (a':=?_) (fl 12 4095) rfl rfl (aO HT_) fI (Or.inl ⟨by rfl,?_⟩) ?_ ?_;rotate_left
         ·intro w'
          go_simp
          with_reducible rfl
         rotate_left
         ·exact pA
         refine done_ (done_of HT_.out kR) ?_;try go_wp2
         go_ret2
         exact ⟨by first|rfl|(simp [errW_none,errW_some]<;>rfl)|(simp only [← hji5];first|rfl|(simp [errW_none,errW_some]<;>rfl))|(simp [*,errW_none,errW_some]<;>rfl),bB⟩
        ·rw [if_neg c14] at H
         exact absurd H (by simp)
       ·rw [if_neg c13] at H
        exact absurd H (by simp)
      ·rw [if_neg c11] at H
       exact absurd H (by simp)
     ·rw [if_neg c10] at H
      exact absurd H (by simp)
    ·rw [if_neg c8] at H
     have c8b0:=beq_eq_false_iff_ne.mpr c8;have c8b1:=bne_iff_ne.mpr c8;have HC25:=Mk H;clear H;go_enter Tryz.func7,Tryz.ntmps7
     try go_wp2_with (first|((with_reducible refine gate_dst (N:=1) rfl ?_);refine boxE 1 #[.int .i64 a0_0,.int .i64 a0_1,.slice A0_2 l0_2.length c0_2,.int .i64 a0_3,.int .i64 a0_4,.int .i64 a0_5,.int .i64 a0_6,.string a0_7,.complex .f64 a0_8.1 a0_8.2,.complex .f64 a0_9.1 a0_9.2,.complex .f64 a0_10.1 a0_10.2,.slice A0_11 l0_11.length c0_11,.slice A0_12 l0_12.length c0_12] 38 ?_;intro gb193 hg w26 hbox hb;have BK193:=Mk (hbox);have GW193:=Mk ((gS:w.heap.size≤gb193));have GE193:=Mk ((gS:w.heap.size≤gb193));replace HB:=Mk (below_step bB hb);clear hb hbox hg;obtain ⟨_,_,_,_,_,_,_,_,_,_,_,_,_,_,_,_,_,_,_,_,_,_,_,_,_,_⟩:=z13 BK193)|((with_reducible refine gate_callee (f:=19) rfl ?_);refine goesL_ (some 13) rfl rfl Tryz.func19 kR rfl #[.agg #[.int .i64 a0_0,.int .i64 a0_1,.slice A0_2 l0_2.length c0_2,.int .i64 a0_3,.int .i64 a0_4,.int .i64 a0_5,.int .i64 a0_6,.string a0_7,.complex .f64 a0_8.1 a0_8.2,.complex .f64 a0_9.1 a0_9.2,.complex .f64 a0_10.1 a0_10.2,.slice A0_11 l0_11.length c0_11,.slice A0_12 l0_12.length c0_12]] rfl mA ?_;(with_reducible refine (req_check.calls k a0_0 a0_1 _ _ l0_2 a0_3 a0_4 a0_5 a0_6 a0_7 a0_8 a0_9 a0_10 _ _ l0_11 _ _ l0_12 t194 _ ?side1 ?side2 ?side3 ?side4 ?side5 ?side6 A2.out).mono ?_);(case side1=>exact cU (Kd.C_below HR0_2.out HB.out));(case side2=>exact HC0_2.out);(case side3=>exact cU (Kd.C_below HR0_11.out HB.out));(case side4=>exact HC0_11.out);(case side5=>exact cU (Kd.C_below HR0_12.out HB.out));(case side6=>exact HC0_12.out);rintro e w28 ⟨rfl,hb⟩;refine ⟨_,rfl,?_⟩;replace BK193:=bkb BK193 hb;replace HB:=Mk (below_step bB hb);clear hb))
     replace BK193:=Mk (blk_drew BK193.out);replace HB:=Mk (below_drew1 HB.out);refine start_ (n:=7) (S:=fun w'=>w'.cell? ⟨gb193,0,none⟩=some (.int .i64 a0_0)∧w'.cell? ⟨gb193,1,none⟩=some (.int .i64 a0_1)∧w'.cell? ⟨gb193,2,none⟩=some (.slice A0_2 l0_2.length c0_2)∧w'.cell? ⟨gb193,3,none⟩=some (.int .i64 a0_3)∧w'.cell? ⟨gb193,4,none⟩=some (.int .i64 a0_4)∧w'.cell? ⟨gb193,5,none⟩=some (.int .i64 a0_5)∧w'.cell? ⟨gb193,6,none⟩=some (.int .i64 a0_6)∧w'.cell? ⟨gb193,7,none⟩=some (.string a0_7)∧w'.cell? ⟨gb193,8,none⟩=some (.complex .f64 a0_8.1 a0_8.2)∧w'.cell? ⟨gb193,9,none⟩=some (.complex .f64 a0_9.1 a0_9.2)∧w'.cell? ⟨gb193,10,none⟩=some (.complex .f64 a0_10.1 a0_10.2)∧w'.cell? ⟨gb193,11,none⟩=some (.slice A0_11 l0_11.length c0_11)∧w'.cell? ⟨gb193,12,none⟩=some (.slice A0_12 l0_12.length c0_12)) (ds:=[]) #[b0,b0,b0,b0,b0,b0,b0] kR rfl rfl ⟨(blk_cell BK193.out 0).trans rfl,(blk_cell BK193.out 1).trans rfl,(blk_cell BK193.out 2).trans rfl,(blk_cell BK193.out 3).trans rfl,(blk_cell BK193.out 4).trans rfl,(blk_cell BK193.out 5).trans rfl,(blk_cell BK193.out 6).trans rfl,(blk_cell BK193.out 7).trans rfl,(blk_cell BK193.out 8).trans rfl,(blk_cell BK193.out 9).trans rfl,(blk_cell BK193.out 10).trans rfl,(blk_cell BK193.out 11).trans rfl,(blk_cell BK193.out 12).trans rfl⟩ (fun hHeld=>?_)
     generalize w28.drew=w29 at BK193 HB hHeld ⊢
     refine pure_ (i:=1) (N:=some 18) (v:=?_) (a':=?_) (fl 7 2) rfl rfl kR fI (Or.inl ⟨by rfl,?_⟩) ?_ ?_;rotate_left
     ·intro w'
      go_simp
      with_reducible rfl
     rotate_left
     ·exact pA
     refine take_ (i:=2) (N:=some 19) (v:=?_) (a':=?_) (fl 7 6) rfl rfl kR fI (Or.inl ⟨by rfl,?_⟩) hHeld ?_ ?_;rotate_left
     ·rintro w' ⟨s0,s1,s2,s3,s4,s5,s6,s7,s8,s9,s10,s11,s12⟩
      go_simp
      with_reducible rfl
     rotate_left
     ·exact pA
     refine pure_ (i:=3) (N:=some 20) (v:=?_) (a':=?_) (fl 7 14) rfl rfl kR fI (Or.inl ⟨by rfl,?_⟩) ?_ ?_;rotate_left
     ·intro w'
      go_simp
      with_reducible rfl
     rotate_left
     ·exact pA
     refine one_ (i:=0) (N:=some 17) (fl 7 15) rfl rfl kR (by decide) (fun K hK=>?_);refine goes_ Tryz.func20 kR rfl #[] (by rfl) rfl rfl mA ?_;with_reducible refine (req_words.calls  t195 _ A4.out).mono ?_
     rintro e w30 ⟨v196,rfl,ho0,hb⟩;refine ⟨_,rfl,?_⟩;have HO197:=Mk (Kd.R_lower ho0 (below_size bB));replace BK193:=bkb BK193 hb;replace HB:=Mk (below_step bB hb);(try clear hb);(try clear hb2);(try clear hk);(try clear hi);(try clear ho0);obtain ⟨Ao31,co31,eo31⟩:=Kd.R_slice HO197.out;(first|subst eo31|(injection eo31 with f1_ f2_ f3_;have f4_:=f1_.symm;have f5_:=f3_.symm;clear f1_ f2_ f3_;subst f4_;subst f5_));have p198:0≤((ji5):Int):=of_decide_eq_true aS;have q198:(ji5) < (t195.length:Int):=of_decide_eq_true aS;obtain ⟨ad198,e198,hx198_0⟩:=Kd.at_string (Kd.R_reads' HO197.out).2.2 (ji5) p198 q198;cases e198
     replace p198:=eq_true p198;replace q198:=eq_true q198;refine hK.out _ _ ⟨(blk_cell BK193.out 0).trans rfl,(blk_cell BK193.out 1).trans rfl,(blk_cell BK193.out 2).trans rfl,(blk_cell BK193.out 3).trans rfl,(blk_cell BK193.out 4).trans rfl,(blk_cell BK193.out 5).trans rfl,(blk_cell BK193.out 6).trans rfl,(blk_cell BK193.out 7).trans rfl,(blk_cell BK193.out 8).trans rfl,(blk_cell BK193.out 9).trans rfl,(blk_cell BK193.out 10).trans rfl,(blk_cell BK193.out 11).trans rfl,(blk_cell BK193.out 12).trans rfl⟩ (fun hHeld=>?_);clear hK K;refine norm_ (a':=?_) ?_ ?_;rotate_left
     ·show Act.put _ (some 17) _=_
      simp only [Act.put,List.setIfInBounds_toArray,List.set_cons_zero,List.set_cons_succ,i64_w,i32_w];rfl
     refine pure_ (i:=4) (N:=some 21) (v:=?_) (a':=?_) (fl 7 31) rfl rfl kR fI (Or.inl ⟨by rfl,?_⟩) ?_ ?_;rotate_left
     ·intro w'
      go_simp
      with_reducible rfl
     rotate_left
     ·exact pA
     refine look_ (i:=5) (N:=some 22) (v:=?_) (a':=?_) (fl 7 63) rfl rfl kR (by decide) (by rfl) ?_ hHeld ?_ ?_;rotate_left
     ·skip
      go_simp
      with_reducible rfl
     rotate_left
     ·exact pA
     refine pure_ (i:=6) (N:=some 5) (v:=?_) (a':=?_) (fl 7 127) rfl rfl kR fI (Or.inl ⟨by rfl,?_⟩) ?_ ?_;rotate_left
     ·intro w'
      go_simp
      with_reducible rfl
     rotate_left
     ·exact pA
     refine done_ kR ?_;obtain ⟨_,_,_,_,_,_,_,_,_,_,_,_,_,_,_,_,_,_,_,_,_,_,_,_,_,_⟩:=z13 BK193
     go_upto_if 38 with (fail)
     go_cut [38] (fun v38 wc=>∃ (kq:Nat) (x38_24:Bool),v38 = .bool x38_24∧Aside0 (req_Text.j0 kq (rdOf ByteArray.empty t195 (ji5)) a0_0 x38_24 a0_0 a0_1 l0_2 a0_3 a0_4 a0_5 a0_6 a0_7 a0_8 a0_9 a0_10 l0_11 l0_12=some (r1,r2))∧Aside0 (kq≤k)∧Aside0 (wc.heap[gb193]?=some (.cells #[.int .i64 a0_0,.int .i64 a0_1,(.slice A0_2 l0_2.length c0_2),.int .i64 a0_3,.int .i64 a0_4,.int .i64 a0_5,.int .i64 a0_6,.string a0_7,.complex .f64 a0_8.1 a0_8.2,.complex .f64 a0_9.1 a0_9.2,.complex .f64 a0_10.1 a0_10.2,(.slice A0_11 l0_11.length c0_11),(.slice A0_12 l0_12.length c0_12)] 38 (0,0)))∧Aside0 (Below w.heap.size w wc))
     case first=>
      have H:=HC25.out;clear HC25;by_cases c33:a0_0=2
      ·rw [if_pos c33] at H
       have c33b0:=beq_iff_eq.mpr c33;have c33b1:=bne_eq_false_iff_eq.mpr c33;clear c33;(first|rw [c33b0]|(simp only [i64_w,i32_w];rw [c33b0])|skip);have H':=Mk H;clear H
       go_wp2
       go_meet
       case rel=>exact ⟨_,((a0_0 == 2)),sS,H',⟨by first|omega|exact Nat.le_refl _⟩,⟨by (with_reducible repeat refine bU ?_);exact BK193.out⟩,⟨bB⟩⟩
      ·rw [if_neg c33] at H
       have c33b0:=beq_eq_false_iff_ne.mpr c33;have c33b1:=bne_iff_ne.mpr c33;(first|rw [c33b0]|(simp only [i64_w,i32_w];rw [c33b0])|skip);have H':=Mk H;clear H
       go_wp2
       go_meet
       case rel=>exact ⟨_,((a0_0 == 3)),sS,H',⟨by first|omega|exact Nat.le_refl _⟩,⟨by (with_reducible repeat refine bU ?_);exact BK193.out⟩,⟨bB⟩⟩
     case rest=>
      clear HC25;try clear c1
      try clear p1
      try clear q1
      try clear hx1
      try clear c2
      try clear p2
      try clear c3
      try clear c3b0
      try clear c3b1
      try clear c6
      try clear c6b0
      try clear p6
      try clear c7
      try clear c7b0
      try clear c8
      try clear c8b0
      try clear c8b1
      try clear c10
      try clear c10b0
      try clear c10b1
      try clear c10b2
      try clear c11
      try clear c11b0
      try clear c11b1
      try clear c11b2
      try clear c13
      try clear c13b0
      try clear c13b1
      try clear c13b2
      try clear c14
      try clear c14b0
      try clear c14b1
      try clear c14b2
      try clear c19
      try clear p19
      try clear q19
      try clear hx19
      try clear c20
      try clear c21
      try clear c33
      try clear c33b0
      try clear c33b1
      try clear hx198_0
      try clear p198
      try clear q198
      obtain ⟨kq,x38_24,rfl,HA,HJ24,BK193,HB⟩:=hcut
      cases kq with
      |zero=>exact absurd HA.out (by simp [req_Text.j0])
      |succ kj24=>
       have H:=HA.out;clear HA;simp only [req_Text.j0] at H;by_cases c34:x38_24=true
       ·subst c34
        rw [if_pos rfl] at H;try dsimp only at H
        replace H:=Option.bind_eq_some_iff.mp H;obtain ⟨t201,A350,H⟩:=H;try dsimp only at H
        have A35:=Mk A350;clear A350;by_cases c36:1+t201.size≤9223372036854775807
        ·rw [if_pos c36] at H
         have c36b0:=eq_true c36;have c36b1:=decide_eq_true c36;try have c36b2:(9223372036854775807 < 1+t201.size)=False:=eq_false (Nat.not_lt.2 c36)
         by_cases c37:(rdOf ByteArray.empty t195 (ji5)).size+1+t201.size≤9223372036854775807
         ·rw [if_pos c37] at H
          have c37b0:=eq_true c37;have c37b1:=decide_eq_true c37;try have c37b2:(9223372036854775807 < (rdOf ByteArray.empty t195 (ji5)).size+1+t201.size)=False:=eq_false (Nat.not_lt.2 c37)
          have c37b3:(9223372036854775807 < (rdOf ByteArray.empty t195 (ji5)).size+(1+t201.size))=False:=eq_false (by omega);simp only [Option.some.injEq,Prod.mk.injEq] at H;obtain ⟨rfl,rfl⟩:=H;obtain ⟨_,_,_,_,_,_,_,_,_,_,_,_,_,_,_,_,_,_,_,_,_,_,_,_,_,_⟩:=z13 BK193
          go_wp2_with (first|((with_reducible refine gate_callee (f:=22) rfl ?_);refine goesL_ (some 44) rfl rfl Tryz.func22 kR rfl #[.int .i64 a0_1] rfl mA ?_;(with_reducible refine (strconv_Itoa.calls a0_1 t201 _ A35.out (Glob.below HG_.out bB)).mono ?_);rintro e w39 ⟨rfl,hb⟩;refine ⟨_,rfl,?_⟩;replace BK193:=bkb BK193 hb;replace HB:=Mk (below_step bB hb);clear hb))
          go_ret2
          exact ⟨by first|rfl|(simp [errW_none,errW_some]<;>rfl)|(simp only [← hji5];first|rfl|(simp [errW_none,errW_some]<;>rfl))|(simp [*,errW_none,errW_some]<;>rfl),bB⟩
         ·rw [if_neg c37] at H
          exact absurd H (by simp)
        ·rw [if_neg c36] at H
         exact absurd H (by simp)
       ·replace c34:=Bool.eq_false_iff.mpr c34
        subst c34;rw [if_neg (show ¬ (false=true) by decide)] at H;try dsimp only at H
        by_cases c40:a0_0=4
        ·rw [if_pos c40] at H
         have c40b0:=beq_iff_eq.mpr c40;have c40b1:=bne_eq_false_iff_eq.mpr c40;clear c40;have H':=Mk H;clear H;obtain ⟨_,_,_,_,_,_,_,_,_,_,_,_,_,_,_,_,_,_,_,_,_,_,_,_,_,_⟩:=z13 BK193
         go_wp2
         go_loopg [6,52] kj24 (fun kq v6 v52 w'=>∃ (x6_2:List ByteArray) (x52_2:Int),v52 = .int .i64 x52_2∧Aside0 (req_Text.l0 kq (rdOf ByteArray.empty t195 (ji5)) x6_2 l0_12 (l0_12.length:Int) x52_2=some (r1,r2))∧Aside0 (kq≤kj24)∧Aside0 (Kd.R Kd.string 9 w' w.heap.size (fun _=>True) v6 x6_2)∧Aside0 (w'.heap[gb193]?=some (.cells #[.int .i64 a0_0,.int .i64 a0_1,(.slice A0_2 l0_2.length c0_2),.int .i64 a0_3,.int .i64 a0_4,.int .i64 a0_5,.int .i64 a0_6,.string a0_7,.complex .f64 a0_8.1 a0_8.2,.complex .f64 a0_9.1 a0_9.2,.complex .f64 a0_10.1 a0_10.2,(.slice A0_11 l0_11.length c0_11),(.slice A0_12 l0_12.length c0_12)] 38 (0,0)))∧Aside0 (Below w.heap.size w w'))
         case atStart=>exact ⟨(([]:List ByteArray)),(0),sS,H',⟨Nat.le_refl _⟩,⟨by first|exact Kd.R_nil _ _ _ _ _|exact Kd.N_nil _ _ _ _ _|exact Kd.V_nil _ _ _ _ _|exact Kd.Q_nil _ _ _ _ _|exact Kd.S_nil _ _ _ _ _⟩,⟨by (with_reducible repeat refine bU ?_);exact BK193.out⟩,⟨bB⟩⟩
         case round=>
          clear H';try clear c1
          try clear p1
          try clear q1
          try clear hx1
          try clear c2
          try clear p2
          try clear c3
          try clear c3b0
          try clear c3b1
          try clear c4
          try clear c6
          try clear c6b0
          try clear p6
          try clear c7
          try clear c7b0
          try clear c8
          try clear c8b0
          try clear c8b1
          try clear c10
          try clear c10b0
          try clear c10b1
          try clear c10b2
          try clear c11
          try clear c11b0
          try clear c11b1
          try clear c11b2
          try clear c13
          try clear c13b0
          try clear c13b1
          try clear c13b2
          try clear c14
          try clear c14b0
          try clear c14b1
          try clear c14b2
          try clear c19
          try clear p19
          try clear q19
          try clear hx19
          try clear c20
          try clear c21
          try clear c22
          try clear c33
          try clear c33b0
          try clear c33b1
          try clear c34
          try clear c36
          try clear c36b0
          try clear c36b1
          try clear c36b2
          try clear c37
          try clear c37b0
          try clear c37b1
          try clear c37b2
          try clear c40
          try clear c40b0
          try clear c40b1
          try clear hx198_0
          try clear p1
          try clear p19
          try clear p198
          try clear p2
          try clear p6
          try clear q1
          try clear q19
          try clear q198
          obtain ⟨x6_2,x52_2,rfl,HA,HK2,HO_6,BK193,HB⟩:=hrel
          cases gk with
          |zero=>exact absurd HA.out (by simp [req_Text.l0])
          |succ k2=>
           have H:=HA.out;clear HA;simp only [req_Text.l0] at H;by_cases c42:x52_2 < (l0_12.length:Int)
           ·rw [if_pos c42] at H
            have c42b0:=decide_eq_true c42;clear c42;by_cases c43:0≤x52_2
            ·rw [if_pos c43] at H
             have c43b0:=decide_eq_true c43;clear c43;by_cases c44:x52_2 < (l0_12.length:Int)
             ·rw [if_pos c44] at H
              have c44b0:=decide_eq_true c44;clear c44;have H':=Mk H;clear H;have p203:0≤(x52_2:Int):=of_decide_eq_true aS;have q203:x52_2 < (l0_12.length:Int):=of_decide_eq_true aS;obtain ⟨ad203,A203_0,c203_0,e203,hx203_0,hl203_0,hi203_0⟩:=at_L11 HR0_12.out x52_2 p203 q203;cases e203
              replace hx203_0:=(HB.out.cell (World.block_lt_of_cell? w _ hx203_0)).trans hx203_0;have HR203_0:=Mk hi203_0;have HC203_0:=Mk hl203_0;clear hi203_0 hl203_0;replace p203:=eq_true p203;replace q203:=eq_true q203
              go_wp2
              go_loopg [9,58] k2 (fun kq v9 v58 w'=>∃ (x9_3:List ByteArray) (x58_3:Int),v58 = .int .i64 x58_3∧Aside0 (req_Text.l1 kq (rdOf ByteArray.empty t195 (ji5)) x6_2 x9_3 l0_12 (l0_12.length:Int) x52_2 (rd_L11 l0_12 x52_2) ((rd_L11 l0_12 x52_2).length:Int) x58_3=some (r1,r2))∧Aside0 (kq≤k2)∧Aside0 (Kd.R Kd.string 9 w' w.heap.size (fun k_=>some k_≠(v9:Value).ownBlock) u6 x6_2)∧Aside0 (Kd.R Kd.string 9 w' w.heap.size (fun k_=>some k_≠(u6:Value).ownBlock) v9 x9_3)∧Aside0 (w'.heap[gb193]?=some (.cells #[.int .i64 a0_0,.int .i64 a0_1,(.slice A0_2 l0_2.length c0_2),.int .i64 a0_3,.int .i64 a0_4,.int .i64 a0_5,.int .i64 a0_6,.string a0_7,.complex .f64 a0_8.1 a0_8.2,.complex .f64 a0_9.1 a0_9.2,.complex .f64 a0_10.1 a0_10.2,(.slice A0_11 l0_11.length c0_11),(.slice (some ad203) l0_12.length c0_12)] 38 (0,0)))∧Aside0 (Below w.heap.size w w'))
              case atStart=>exact ⟨(([]:List ByteArray)),(0),sS,H',⟨Nat.le_refl _⟩,⟨by (repeat apply Rup);exact Kd.R_mono HO_6.out (fun _ hk=>(by simp [Value.ownBlock]))⟩,⟨by first|exact Kd.R_nil _ _ _ _ _|exact Kd.N_nil _ _ _ _ _|exact Kd.V_nil _ _ _ _ _|exact Kd.Q_nil _ _ _ _ _|exact Kd.S_nil _ _ _ _ _⟩,⟨by (with_reducible repeat refine bU ?_);exact BK193.out⟩,⟨bB⟩⟩
              case round=>
               clear H';try clear c1
               try clear p1
               try clear q1
               try clear hx1
               try clear c2
               try clear p2
               try clear q2
               try clear hx2
               try clear c3
               try clear c3b0
               try clear c3b1
               try clear c4
               try clear c6
               try clear c6b0
               try clear p6
               try clear c7
               try clear c7b0
               try clear c8
               try clear c8b0
               try clear c8b1
               try clear c10
               try clear c10b0
               try clear c10b1
               try clear c10b2
               try clear c11
               try clear c11b0
               try clear c11b1
               try clear c11b2
               try clear c13
               try clear c13b0
               try clear c13b1
               try clear c13b2
               try clear c14
               try clear c14b0
               try clear c14b1
               try clear c14b2
               try clear c19
               try clear p19
               try clear q19
               try clear hx19
               try clear c20
               try clear p20
               try clear q20
               try clear hx20
               try clear c21
               try clear c22
               try clear c33
               try clear c33b0
               try clear c33b1
               try clear c34
               try clear c36
               try clear c36b0
               try clear c36b1
               try clear c36b2
               try clear c37
               try clear c37b0
               try clear c37b1
               try clear c37b2
               try clear c40
               try clear c40b0
               try clear c40b1
               try clear c42
               try clear c42b0
               try clear c43
               try clear c43b0
               try clear c44
               try clear c44b0
               try clear hx198_0
               try clear hx203_0
               try clear p1
               try clear p19
               try clear p198
               try clear p2
               try clear p203
               try clear p6
               try clear q1
               try clear q19
               try clear q198
               try clear q203
               obtain ⟨x9_3,x58_3,rfl,HA,HK3,HO_6,HO_9,BK193,HB⟩:=hrel
               cases gk with
               |zero=>exact absurd HA.out (by simp [req_Text.l1])
               |succ k3=>
                have H:=HA.out;clear HA;simp only [req_Text.l1] at H;by_cases c45:x58_3 < ((rd_L11 l0_12 x52_2).length:Int)
                ·rw [if_pos c45] at H
                 have c45b0:=decide_eq_true c45;clear c45;by_cases c46:0≤x58_3
                 ·rw [if_pos c46] at H
                  have c46b0:=decide_eq_true c46;clear c46;by_cases c47:x58_3 < ((rd_L11 l0_12 x52_2).length:Int)
                  ·rw [if_pos c47] at H
                   have c47b0:=decide_eq_true c47;clear c47;replace H:=Option.bind_eq_some_iff.mp H;obtain ⟨t206,A480,H⟩:=H;try dsimp only at H
                   have A48:=Mk A480;clear A480;by_cases c49:x9_3.length < 8796093022208
                   ·rw [if_pos c49] at H
                    have LMc49:=Mk c49;clear c49;obtain ⟨y207,hy207⟩:∃ y_:List ByteArray,y_=(x9_3++[t206]):=⟨_,rfl⟩;replace H:(req_Text.l1 k3 (rdOf ByteArray.empty t195 (ji5)) x6_2 y207 l0_12 (l0_12.length:Int) x52_2 (rd_L11 l0_12 x52_2) ((rd_L11 l0_12 x52_2).length:Int) (wrap64 (x58_3+1)))=some (r1,r2):=by first|(rw [hy207];with_reducible exact H)|(have H2_:=(Option.bind_some _ _).symm.trans H;rw [hy207];with_reducible exact H2_)|(have H2_:=(Option.bind_some _ _).symm.trans H;with_reducible exact H2_)|with_reducible exact H|(rw [hy207];exact H)|exact H
                    have Ny207:=Mk hy207;clear hy207;have H':=Mk H;clear H;have p204:0≤(x58_3:Int):=of_decide_eq_true aS;have q204:x58_3 < ((rd_L11 l0_12 x52_2).length:Int):=of_decide_eq_true aS;obtain ⟨ad204,e204,hx204_0,hx204_1,hx204_2,hx204_3⟩:=at_T25 HR203_0.out x58_3 p204 q204;cases e204
                    replace hx204_0:=(HB.out.cell (World.block_lt_of_cell? w _ hx204_0)).trans hx204_0;replace hx204_1:=(HB.out.cell (World.block_lt_of_cell? w _ hx204_1)).trans hx204_1;replace hx204_2:=(HB.out.cell (World.block_lt_of_cell? w _ hx204_2)).trans hx204_2;replace hx204_3:=(HB.out.cell (World.block_lt_of_cell? w _ hx204_3)).trans hx204_3;replace p204:=eq_true p204;replace q204:=eq_true q204
                    go_wp2_with (first|((with_reducible refine gate_dst (N:=11) rfl ?_);refine boxE 11 #[.int .i64 0,.int .i64 0,.string (⟨#[]⟩:ByteArray),.complex .f64 0 0] 25 ?_;intro gb205 hg w50 hbox hb;have BK205:=Mk (hbox);have GW205:=Mk ((gS:w.heap.size≤gb205));have GE205:=Mk ((gS:w.heap.size≤gb205));have NB193_205:=(gL BK193:Aside0 (gb193≠gb205));have NB205_193:=(gG BK193:Aside0 (gb205≠gb193));replace HO_6:=Mk (Kd.R_below (rU HO_6) hb);replace HO_9:=Mk (Kd.R_below (rU HO_9) hb);replace BK193:=bkb BK193 hb;replace HB:=Mk (below_step bB hb);clear hb hbox hg;have hnb51:=NB205_193.out;have hnc51:=NB193_205.out;obtain ⟨_,_,_,_,_,_,_,_⟩:=z4 BK205)|((with_reducible refine gate_callee (f:=23) rfl ?_);refine goesL_ (some 64) rfl rfl Tryz.func23 kR rfl #[.agg #[.int .i64 ((rd_T25 (rd_L11 l0_12 x52_2) x58_3).f0),.int .i64 ((rd_T25 (rd_L11 l0_12 x52_2) x58_3).f1),.string ((rd_T25 (rd_L11 l0_12 x52_2) x58_3).f2),.complex .f64 (((rd_T25 (rd_L11 l0_12 x52_2) x58_3).f3).1) (((rd_T25 (rd_L11 l0_12 x52_2) x58_3).f3).2)]] rfl mA ?_;(with_reducible refine (val_Text.calls k3 ((rd_T25 (rd_L11 l0_12 x52_2) x58_3).f0) ((rd_T25 (rd_L11 l0_12 x52_2) x58_3).f1) ((rd_T25 (rd_L11 l0_12 x52_2) x58_3).f2) ((rd_T25 (rd_L11 l0_12 x52_2) x58_3).f3) t206 _ A48.out (Glob.below HG_.out bB)).mono ?_);rintro e w53 ⟨rfl,hb⟩;refine ⟨_,rfl,?_⟩;replace HO_6:=Mk (Kd.R_below (by (repeat apply Rup);exact (Kd.R_mono (Kd.R_far (p:=⟨gb205,3,none⟩) (Kd.R_far (p:=⟨gb205,2,none⟩) (Kd.R_far (p:=⟨gb205,1,none⟩) (Kd.R_far (p:=⟨gb205,0,none⟩) (Kd.R_types HO_6.out BK205.out (by decide)) (fun _ hk=>hk.2) (.int .i64 ((rd_T25 (rd_L11 l0_12 x52_2) x58_3).f0))) (fun _ hk=>hk.2) (.int .i64 ((rd_T25 (rd_L11 l0_12 x52_2) x58_3).f1))) (fun _ hk=>hk.2) (.string ((rd_T25 (rd_L11 l0_12 x52_2) x58_3).f2))) (fun _ hk=>hk.2) (.complex .f64 (((rd_T25 (rd_L11 l0_12 x52_2) x58_3).f3).1) (((rd_T25 (rd_L11 l0_12 x52_2) x58_3).f3).2))) (fun _ h_=>h_.1))) hb);replace HO_9:=Mk (Kd.R_below (by (repeat apply Rup);exact (Kd.R_mono (Kd.R_far (p:=⟨gb205,3,none⟩) (Kd.R_far (p:=⟨gb205,2,none⟩) (Kd.R_far (p:=⟨gb205,1,none⟩) (Kd.R_far (p:=⟨gb205,0,none⟩) (Kd.R_types HO_9.out BK205.out (by decide)) (fun _ hk=>hk.2) (.int .i64 ((rd_T25 (rd_L11 l0_12 x52_2) x58_3).f0))) (fun _ hk=>hk.2) (.int .i64 ((rd_T25 (rd_L11 l0_12 x52_2) x58_3).f1))) (fun _ hk=>hk.2) (.string ((rd_T25 (rd_L11 l0_12 x52_2) x58_3).f2))) (fun _ hk=>hk.2) (.complex .f64 (((rd_T25 (rd_L11 l0_12 x52_2) x58_3).f3).1) (((rd_T25 (rd_L11 l0_12 x52_2) x58_3).f3).2))) (fun _ h_=>h_.1))) hb);replace BK193:=bkb BK193 hb;replace BK205:=Mk (blk_below (g:=gb205) (o:=.cells #[.int .i64 ((rd_T25 (rd_L11 l0_12 x52_2) x58_3).f0),.int .i64 ((rd_T25 (rd_L11 l0_12 x52_2) x58_3).f1),.string ((rd_T25 (rd_L11 l0_12 x52_2) x58_3).f2),.complex .f64 (((rd_T25 (rd_L11 l0_12 x52_2) x58_3).f3).1) (((rd_T25 (rd_L11 l0_12 x52_2) x58_3).f3).2)] 25 (0,0)) (bP BK205) hb);replace HB:=Mk (below_step bB hb);clear hb)|((with_reducible refine gate_builtin (b:=.append) (xs:=#[.tmp 62,.tmp 65]) rfl ?_);at_builtin;refine Kd.R_append Kd.string (w0:=w) w.heap.size rfl (.tmp 62) (.tmp 65) 35 9 (.string ⟨#[]⟩) 16 rfl Tryz.underlying35 info9 rfl (by decide) (by omega) u9 x9_3 t206 [.string t206] (fun k_=>some k_≠(u6:Value).ownBlock) (fun _=>False) rfl rfl ?aP (fun _ hk=>hk.elim) ?aF ?aO ?aB ?aS ?aL ?_;(case aP=>exact rfl);(case aB=>exact bB);(case aF=>exact (fun k_ hk=>Kd.fresh' (Kd.R_lt (rU HO_6)) k_ hk));(case aO=>exact (rU HO_9));(case aS=>exact (below_size bB));(case aL=>have:=LMc49.out;omega);intro v208 w54 ho hb hg hat;rw [← Ny207.out] at ho;have n0_:=Mk (Kd.R_after (ok:=(fun _=>True)) (by (repeat apply Rup);exact Kd.R_mono HO_6.out (fun _ hk=>⟨trivial,hk⟩)) hg hat);have n1_:=Mk (blk_grown (g:=gb193) (o:=.cells #[.int .i64 a0_0,.int .i64 a0_1,.slice A0_2 l0_2.length c0_2,.int .i64 a0_3,.int .i64 a0_4,.int .i64 a0_5,.int .i64 a0_6,.string a0_7,.complex .f64 a0_8.1 a0_8.2,.complex .f64 a0_9.1 a0_9.2,.complex .f64 a0_10.1 a0_10.2,.slice A0_11 l0_11.length c0_11,.slice (some ad203) l0_12.length c0_12] 38 (0,0)) (bK BK193) hg (Kd.R_ne HO_9.out BK193.out (by decide)));have n2_:=Mk (blk_grown (g:=gb205) (o:=.cells #[.int .i64 ((rd_T25 (rd_L11 l0_12 x52_2) x58_3).f0),.int .i64 ((rd_T25 (rd_L11 l0_12 x52_2) x58_3).f1),.string ((rd_T25 (rd_L11 l0_12 x52_2) x58_3).f2),.complex .f64 (((rd_T25 (rd_L11 l0_12 x52_2) x58_3).f3).1) (((rd_T25 (rd_L11 l0_12 x52_2) x58_3).f3).2)] 25 (0,0)) (bK BK205) hg (Kd.R_ne HO_9.out BK205.out (by decide)));have n3_:=Mk (hb);have n4_:=Mk (ho);clear HO_6;clear BK193;clear BK205;clear HB;clear HO_9;have HO_6:=n0_;have BK193:=n1_;have BK205:=n2_;have HB:=n3_;have HO209:=n4_;clear n0_ n1_ n2_ n3_ n4_;clear ho hb hg hat))
                    first|go_roundg k3|(simp only [← hji5] at H' ⊢;go_roundg k3)
                    case measure=>have:=HJ24.out;have:=HK2.out;have:=HK3.out;omega
                    case rel=>exact ⟨(y207),(wrap64 (x58_3+1)),sS,H',⟨by have:=HJ24.out;have:=HK2.out;have:=HK3.out;omega⟩,⟨by (repeat apply Rup);exact Kd.R_mono HO_6.out (fun _ hk=>hk.2)⟩,⟨rU HO209⟩,⟨by (with_reducible repeat refine bU ?_);exact BK193.out⟩,⟨bB⟩⟩
                   ·rw [if_neg c49] at H
                    exact absurd H (by simp)
                  ·rw [if_neg c47] at H
                   exact absurd H (by simp)
                 ·rw [if_neg c46] at H
                  exact absurd H (by simp)
                ·rw [if_neg c45] at H
                 have c45b0:=decide_eq_false c45;clear c45;replace H:=Option.bind_eq_some_iff.mp H;obtain ⟨t210,A550,H⟩:=H;try dsimp only at H
                 have A55:=Mk A550;clear A550;by_cases c56:x6_2.length < 8796093022208
                 ·rw [if_pos c56] at H
                  have LMc56:=Mk c56;clear c56;obtain ⟨y211,hy211⟩:∃ y_:List ByteArray,y_=(x6_2++[t210]):=⟨_,rfl⟩;replace H:(req_Text.l0 k3 (rdOf ByteArray.empty t195 (ji5)) y211 l0_12 (l0_12.length:Int) (wrap64 (x52_2+1)))=some (r1,r2):=by first|(rw [hy211];with_reducible exact H)|(have H2_:=(Option.bind_some _ _).symm.trans H;rw [hy211];with_reducible exact H2_)|(have H2_:=(Option.bind_some _ _).symm.trans H;with_reducible exact H2_)|with_reducible exact H|(rw [hy211];exact H)|exact H
                  have Ny211:=Mk hy211;clear hy211;have H':=Mk H;clear H;obtain ⟨Ao57,co57,eo57⟩:=Kd.R_slice HO_9.out;subst eo57
                  go_wp2_with (first|((with_reducible refine gate_callee (f:=21) rfl ?_);refine goesL_ (some 70) rfl rfl Tryz.func21 kR rfl #[.slice Ao57 x9_3.length co57,.string (⟨#[44]⟩:ByteArray)] rfl mA ?_;(with_reducible refine (strings_Join.calls _ _ x9_3 (⟨#[44]⟩:ByteArray) t210 _ ?side1 ?side2 A55.out).mono ?_);(case side1=>exact cU (Kd.R_reads' HO_9.out).2.2);(case side2=>exact (Kd.R_reads' HO_9.out).2.1);rintro e w58 ⟨rfl,hb⟩;refine ⟨_,rfl,?_⟩;replace HO_6:=Mk (Kd.R_below (rU HO_6) hb);replace HO_9:=Mk (Kd.R_below (rU HO_9) hb);replace BK193:=bkb BK193 hb;replace HB:=Mk (below_step bB hb);clear hb)|((with_reducible refine gate_builtin (b:=.append) (xs:=#[.tmp 68,.tmp 71]) rfl ?_);at_builtin;refine Kd.R_append Kd.string (w0:=w) w.heap.size rfl (.tmp 68) (.tmp 71) 35 9 (.string ⟨#[]⟩) 16 rfl Tryz.underlying35 info9 rfl (by decide) (by omega) u6 x6_2 t210 [.string t210] (fun k_=>some k_≠(.slice Ao57 x9_3.length co57:Value).ownBlock) (fun _=>False) rfl rfl ?aP (fun _ hk=>hk.elim) ?aF ?aO ?aB ?aS ?aL ?_;(case aP=>exact rfl);(case aB=>exact bB);(case aF=>exact (fun k_ hk=>Kd.fresh' (Kd.R_lt (rU HO_9)) k_ hk));(case aO=>exact (rU HO_6));(case aS=>exact (below_size bB));(case aL=>have:=LMc56.out;omega);intro v212 w59 ho hb hg hat;rw [← Ny211.out] at ho;have n0_:=Mk (Kd.R_after (ok:=(fun _=>True)) (by (repeat apply Rup);exact Kd.R_mono HO_9.out (fun _ hk=>⟨trivial,hk⟩)) hg hat);have n1_:=Mk (blk_grown (g:=gb193) (o:=.cells #[.int .i64 a0_0,.int .i64 a0_1,.slice A0_2 l0_2.length c0_2,.int .i64 a0_3,.int .i64 a0_4,.int .i64 a0_5,.int .i64 a0_6,.string a0_7,.complex .f64 a0_8.1 a0_8.2,.complex .f64 a0_9.1 a0_9.2,.complex .f64 a0_10.1 a0_10.2,.slice A0_11 l0_11.length c0_11,.slice (some ad203) l0_12.length c0_12] 38 (0,0)) (bK BK193) hg (Kd.R_ne HO_6.out BK193.out (by decide)));have n2_:=Mk (hb);have n3_:=Mk (ho);clear HO_9;clear BK193;clear HB;clear HO_6;have HO_9:=n0_;have BK193:=n1_;have HB:=n2_;have HO213:=n3_;clear n0_ n1_ n2_ n3_;clear ho hb hg hat))
                  first|go_roundg k3|(simp only [← hji5] at H' ⊢;go_roundg k3)
                  case measure=>have:=HJ24.out;have:=HK2.out;have:=HK3.out;omega
                  case rel=>exact ⟨(y211),(wrap64 (x52_2+1)),sS,H',⟨by have:=HJ24.out;have:=HK2.out;have:=HK3.out;omega⟩,⟨by (repeat apply Rup);exact Kd.R_mono HO213.out (fun _ hk=>trivial)⟩,⟨by (with_reducible repeat refine bU ?_);exact BK193.out⟩,⟨bB⟩⟩
                 ·rw [if_neg c56] at H
                  exact absurd H (by simp)
             ·rw [if_neg c44] at H
              exact absurd H (by simp)
            ·rw [if_neg c43] at H
             exact absurd H (by simp)
           ·rw [if_neg c42] at H
            have c42b0:=decide_eq_false c42;clear c42;replace H:=Option.bind_eq_some_iff.mp H;obtain ⟨t202,A600,H⟩:=H;try dsimp only at H
            have A60:=Mk A600;clear A600;by_cases c61:1+t202.size≤9223372036854775807
            ·rw [if_pos c61] at H
             have c61b0:=eq_true c61;have c61b1:=decide_eq_true c61;try have c61b2:(9223372036854775807 < 1+t202.size)=False:=eq_false (Nat.not_lt.2 c61)
             by_cases c62:(rdOf ByteArray.empty t195 (ji5)).size+1+t202.size≤9223372036854775807
             ·rw [if_pos c62] at H
              have c62b0:=eq_true c62;have c62b1:=decide_eq_true c62;try have c62b2:(9223372036854775807 < (rdOf ByteArray.empty t195 (ji5)).size+1+t202.size)=False:=eq_false (Nat.not_lt.2 c62)
              have c62b3:(9223372036854775807 < (rdOf ByteArray.empty t195 (ji5)).size+(1+t202.size))=False:=eq_false (by omega);simp only [Option.some.injEq,Prod.mk.injEq] at H;obtain ⟨rfl,rfl⟩:=H;obtain ⟨Ao63,co63,eo63⟩:=Kd.R_slice HO_6.out;subst eo63
              go_wp2_with (first|((with_reducible refine gate_callee (f:=21) rfl ?_);refine goesL_ (some 76) rfl rfl Tryz.func21 kR rfl #[.slice Ao63 x6_2.length co63,.string (⟨#[59]⟩:ByteArray)] rfl mA ?_;(with_reducible refine (strings_Join.calls _ _ x6_2 (⟨#[59]⟩:ByteArray) t202 _ ?side1 ?side2 A60.out).mono ?_);(case side1=>exact cU (Kd.R_reads' HO_6.out).2.2);(case side2=>exact (Kd.R_reads' HO_6.out).2.1);rintro e w64 ⟨rfl,hb⟩;refine ⟨_,rfl,?_⟩;replace HO_6:=Mk (Kd.R_below (rU HO_6) hb);replace BK193:=bkb BK193 hb;replace HB:=Mk (below_step bB hb);clear hb))
              go_ret2
              exact ⟨by first|rfl|(simp [errW_none,errW_some]<;>rfl)|(simp only [← hji5];first|rfl|(simp [errW_none,errW_some]<;>rfl))|(simp [*,errW_none,errW_some]<;>rfl),bB⟩
             ·rw [if_neg c62] at H
              exact absurd H (by simp)
            ·rw [if_neg c61] at H
             exact absurd H (by simp)
        ·rw [if_neg c40] at H
         have c40b0:=beq_eq_false_iff_ne.mpr c40;have c40b1:=bne_iff_ne.mpr c40;simp only [Option.some.injEq,Prod.mk.injEq] at H;obtain ⟨rfl,rfl⟩:=H
         go_wp2
         go_ret2
         exact ⟨by first|rfl|(simp [errW_none,errW_some]<;>rfl)|(simp only [← hji5];first|rfl|(simp [errW_none,errW_some]<;>rfl))|(simp [*,errW_none,errW_some]<;>rfl),bB⟩
   ·rw [if_neg c7] at H
    exact absurd H (by simp)
  ·rw [if_neg c6] at H
   exact absurd H (by simp)
 ·rw [if_neg c3] at H
  have c3b0:=beq_eq_false_iff_ne.mpr c3;have c3b1:=bne_iff_ne.mpr c3;simp only [Option.some.injEq,Prod.mk.injEq] at H;obtain ⟨rfl,rfl⟩:=H;go_enter Tryz.func7,Tryz.ntmps7
  go_wp2_with (first|((with_reducible refine gate_dst (N:=1) rfl ?_);refine boxE 1 #[.int .i64 a0_0,.int .i64 a0_1,.slice A0_2 l0_2.length c0_2,.int .i64 a0_3,.int .i64 a0_4,.int .i64 a0_5,.int .i64 a0_6,.string a0_7,.complex .f64 a0_8.1 a0_8.2,.complex .f64 a0_9.1 a0_9.2,.complex .f64 a0_10.1 a0_10.2,.slice A0_11 l0_11.length c0_11,.slice A0_12 l0_12.length c0_12] 38 ?_;intro gb193 hg w65 hbox hb;have BK193:=Mk (hbox);have GW193:=Mk ((gS:w.heap.size≤gb193));have GE193:=Mk ((gS:w.heap.size≤gb193));replace HB:=Mk (below_step bB hb);clear hb hbox hg;obtain ⟨_,_,_,_,_,_,_,_,_,_,_,_,_,_,_,_,_,_,_,_,_,_,_,_,_,_⟩:=z13 BK193)|((with_reducible refine gate_callee (f:=19) rfl ?_);refine goesL_ (some 13) rfl rfl Tryz.func19 kR rfl #[.agg #[.int .i64 a0_0,.int .i64 a0_1,.slice A0_2 l0_2.length c0_2,.int .i64 a0_3,.int .i64 a0_4,.int .i64 a0_5,.int .i64 a0_6,.string a0_7,.complex .f64 a0_8.1 a0_8.2,.complex .f64 a0_9.1 a0_9.2,.complex .f64 a0_10.1 a0_10.2,.slice A0_11 l0_11.length c0_11,.slice A0_12 l0_12.length c0_12]] rfl mA ?_;(with_reducible refine (req_check.calls k a0_0 a0_1 _ _ l0_2 a0_3 a0_4 a0_5 a0_6 a0_7 a0_8 a0_9 a0_10 _ _ l0_11 _ _ l0_12 t194 _ ?side1 ?side2 ?side3 ?side4 ?side5 ?side6 A2.out).mono ?_);(case side1=>exact cU (Kd.C_below HR0_2.out HB.out));(case side2=>exact HC0_2.out);(case side3=>exact cU (Kd.C_below HR0_11.out HB.out));(case side4=>exact HC0_11.out);(case side5=>exact cU (Kd.C_below HR0_12.out HB.out));(case side6=>exact HC0_12.out);rintro e w67 ⟨rfl,hb⟩;refine ⟨_,rfl,?_⟩;replace BK193:=bkb BK193 hb;replace HB:=Mk (below_step bB hb);clear hb))
  go_ret2
  exact ⟨eW,bB⟩
end Go.Proofs.YtcpjlbdjnaaaiaaGreatDoor.PAll
