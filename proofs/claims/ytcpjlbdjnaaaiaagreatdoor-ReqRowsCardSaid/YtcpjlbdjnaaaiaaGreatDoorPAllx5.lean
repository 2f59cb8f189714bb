import Derived.Test.YtcpjlbdjnaaaiaaGreatDoorPAllx4
namespace Go.Proofs.YtcpjlbdjnaaaiaaGreatDoor.PAll
open Go.Proofs.YtcpjlbdjnaaaiaaGreatDoor.Help
open Go.RowKit Go.Proofs.YtcpjlbdjnaaaiaaGreatDoorW.PrintWords Go.Proofs.YtcpjlbdjnaaaiaaGreatDoorW.PrintLast Go.Proofs.YtcpjlbdjnaaaiaaGreatDoorW.PrintMore
set_option linter.unusedVariables false
set_option linter.unusedSimpArgs false
mutual
def req_PredText.j0:Nat→Bool→Int→Int→Int→Int→ByteArray→(Nat×Nat)→(Nat×Nat)→(Nat×Nat)→List (S30)→Option (ByteArray)
 | 0,_,_,_,_,_,_,_,_,_,_=>none
 |k+1,x15,x125000,x125001,x125002,x125003,x125004,x125005,x125006,x125007,x125008=>if x15=true then (some (⟨#[]⟩:ByteArray)) else ((req_signs.f).bind fun t125=>(if 0≤(wrap64 (x125000 - 1)) then (if (wrap64 (x125000 - 1)) < (t125.length:Int) then ((strconv_Itoa.f x125001).bind fun t129=>(if 1+t129.size≤9223372036854775807 then (if x125000=12 then (some (rdOf ByteArray.empty t125 (wrap64 (x125000 - 1)))) else (if x125000=7 then (if (rdOf ByteArray.empty t125 (wrap64 (x125000 - 1))).size+1+t129.size≤9223372036854775807 then (some ((rdOf ByteArray.empty t125 (wrap64 (x125000 - 1)))++((⟨#[32]⟩:ByteArray)++t129))) else (none)) else (if x125000=8 then (if (rdOf ByteArray.empty t125 (wrap64 (x125000 - 1))).size+1+t129.size≤9223372036854775807 then (if (rdOf ByteArray.empty t125 (wrap64 (x125000 - 1))).size+(1+t129.size)+1≤9223372036854775807 then ((point_Text.f x125006).bind fun t130=>(if (rdOf ByteArray.empty t125 (wrap64 (x125000 - 1))).size+(1+t129.size)+1+t130.size≤9223372036854775807 then (if (rdOf ByteArray.empty t125 (wrap64 (x125000 - 1))).size+(1+t129.size)+1+t130.size+1≤9223372036854775807 then ((point_Text.f x125007).bind fun t131=>(if (rdOf ByteArray.empty t125 (wrap64 (x125000 - 1))).size+(1+t129.size)+1+t130.size+1+t131.size≤9223372036854775807 then (some ((((((rdOf ByteArray.empty t125 (wrap64 (x125000 - 1)))++((⟨#[32]⟩:ByteArray)++t129))++(⟨#[32]⟩:ByteArray))++t130)++(⟨#[32]⟩:ByteArray))++t131)) else (none))) else (none)) else (none))) else (none)) else (none)) else (if x125000 < 7 then (if (rdOf ByteArray.empty t125 (wrap64 (x125000 - 1))).size+1+t129.size≤9223372036854775807 then (if (rdOf ByteArray.empty t125 (wrap64 (x125000 - 1))).size+(1+t129.size)+1≤9223372036854775807 then ((val_Text.f k x125002 x125003 x125004 x125005).bind fun t132=>(if (rdOf ByteArray.empty t125 (wrap64 (x125000 - 1))).size+(1+t129.size)+1+t132.size≤9223372036854775807 then (some ((((rdOf ByteArray.empty t125 (wrap64 (x125000 - 1)))++((⟨#[32]⟩:ByteArray)++t129))++(⟨#[32]⟩:ByteArray))++t132)) else (none))) else (none)) else (none)) else (req_PredText.l0 k (rdOf ByteArray.empty t125 (wrap64 (x125000 - 1))) ([]:List ByteArray) x125008 (x125008.length:Int) 0))))) else (none))) else (none)) else (none)))
def req_PredText.l0:Nat→ByteArray→List ByteArray→List (S30)→Int→Int→Option (ByteArray)
 | 0,_,_,_,_,_=>none
 |k+1,x3,x5,x70,x71,x72=>if x72 < x71 then (if 0≤x72 then (if x72 < (x70.length:Int) then ((req_PredText.f k ((rd_T30 x70 x72).f0) ((rd_T30 x70 x72).f1) ((rd_T30 x70 x72).f2.f0) ((rd_T30 x70 x72).f2.f1) ((rd_T30 x70 x72).f2.f2) ((rd_T30 x70 x72).f2.f3) ((rd_T30 x70 x72).f3.f0) ((rd_T30 x70 x72).f3.f1) ((rd_T30 x70 x72).f4)).bind fun t135=>(if x5.length < 8796093022208 then (req_PredText.l0 k x3 (x5++[t135]) x70 x71 (wrap64 (x72+1))) else (none))) else (none)) else (none)) else (if x3.size+1≤9223372036854775807 then ((strings_Join.f x5 (⟨#[59]⟩:ByteArray)).bind fun t139=>(if x3.size+1+t139.size≤9223372036854775807 then (if x3.size+1+t139.size+1≤9223372036854775807 then (some (((x3++(⟨#[40]⟩:ByteArray))++t139)++(⟨#[41]⟩:ByteArray))) else (none)) else (none))) else (none))
def req_PredText.f:Nat→Int→Int→Int→Int→ByteArray→(Nat×Nat)→(Nat×Nat)→(Nat×Nat)→List (S30)→Option (ByteArray)
 | 0,_,_,_,_,_,_,_,_,_=>none
 |k+1,a0_0,a0_1,a0_2,a0_3,a0_4,a0_5,a0_6,a0_7,l0_8=>if a0_0 < 1 then (req_PredText.j0 k true a0_0 a0_1 a0_2 a0_3 a0_4 a0_5 a0_6 a0_7 l0_8) else (req_PredText.j0 k (decide (a0_0 > 12)) a0_0 a0_1 a0_2 a0_3 a0_4 a0_5 a0_6 a0_7 l0_8)
end
def req_PredText.T10:Bool×List (List Nat×List Nat):=(true,[([],[]),([],[]),([0,1],[0,1]),([2],[2]),([],[]),([4],[4]),([5],[5]),([6],[6]),([3,7],[3,7]),([8],[8]),([],[]),([10],[10]),([11],[11]),([12,7],[12]),([9,13],[9,13]),([14,13,0,1,2,3,4,5,6,7,8,9,10,11,12,13,14],[14])])
def req_PredText.B10:List Nat:=[0,0,3,7,0,16,48,112,255,511,0,1024,3072,7408,16383,32767]
theorem req_PredText.tab10:rtab .any (opsOf Tryz.f10 10)=req_PredText.T10:=by kernel_rfl
theorem req_PredText.bits10:waitsOk req_PredText.T10.2 req_PredText.B10=true:=by kernel_rfl
set_option maxHeartbeats 8000000 in
set_option maxRecDepth 100000 in
theorem req_PredText.calls (k:Nat):∀ (a0_0:Int) (a0_1:Int) (a0_2:Int) (a0_3:Int) (a0_4:ByteArray) (a0_5:(Nat×Nat)) (a0_6:(Nat×Nat)) (a0_7:(Nat×Nat)) (A0_8:Option Addr) (c0_8:Nat) (l0_8:List (S30)) (r:ByteArray) (w:World) (hr0_8:Kd.C k30 w A0_8 l0_8.length l0_8) (hc0_8:l0_8.length≤c0_8) (h:req_PredText.f k a0_0 a0_1 a0_2 a0_3 a0_4 a0_5 a0_6 a0_7 l0_8=some r) (hG_:Glob w),
  Calls Tryz.prog 10 #[.agg #[.int .i64 a0_0,.int .i64 a0_1,.int .i64 a0_2,.int .i64 a0_3,.string a0_4,.complex .f64 a0_5.1 a0_5.2,.complex .f64 a0_6.1 a0_6.2,.complex .f64 a0_7.1 a0_7.2,.slice A0_8 l0_8.length c0_8]] w fun e w'=>e = .returned (.string r)∧Below w.heap.size w w':=by
 induction k using Nat.strongRecOn with
 |_ k ih=>
 intro a0_0 a0_1 a0_2 a0_3 a0_4 a0_5 a0_6 a0_7 A0_8 c0_8 l0_8 r w hr0_8 hc0_8 h hG_
 cases k with
 |zero=>exact absurd h (by simp [req_PredText.f])
 |succ k=>
 have HG_:=Mk hG_;clear hG_;simp only [req_PredText.f] at h;have hu30:=Tryz.underlying30;have hu25:=Tryz.underlying25;have HR0_8:=Mk hr0_8;have HC0_8:=Mk hc0_8;clear hr0_8 hc0_8;have HB:=Mk (Below.refl w.heap.size w);have H:(if a0_0 < 1 then (req_PredText.j0 k true a0_0 a0_1 a0_2 a0_3 a0_4 a0_5 a0_6 a0_7 l0_8) else (req_PredText.j0 k (decide (a0_0 > 12)) a0_0 a0_1 a0_2 a0_3 a0_4 a0_5 a0_6 a0_7 l0_8))=some r:=h;clear h;have HC2:=Mk H;clear H;go_enter Tryz.func10,Tryz.ntmps10
 go_upto_region 1 with (first|((with_reducible refine gate_dst (N:=1) rfl ?_);refine boxE 1 #[.int .i64 a0_0,.int .i64 a0_1,.int .i64 a0_2,.int .i64 a0_3,.string a0_4,.complex .f64 a0_5.1 a0_5.2,.complex .f64 a0_6.1 a0_6.2,.complex .f64 a0_7.1 a0_7.2,.slice A0_8 l0_8.length c0_8] 30 ?_;intro gb124 hg w3 hbox hb;have BK124:=Mk (hbox);have GW124:=Mk ((gS:w.heap.size≤gb124));have GE124:=Mk ((gS:w.heap.size≤gb124));replace HB:=Mk (below_step bB hb);clear hb hbox hg))
 (try simp only [Act.put,List.setIfInBounds_toArray,List.set_cons_zero,List.set_cons_succ])
 go_cut [15] (fun v15 wc=>∃ (kq:Nat) (x15_1:Bool),v15 = .bool x15_1∧Aside0 (req_PredText.j0 kq x15_1 a0_0 a0_1 a0_2 a0_3 a0_4 a0_5 a0_6 a0_7 l0_8=some r)∧Aside0 (kq≤k)∧Aside0 (wc.heap[gb124]?=some (.cells #[.int .i64 a0_0,.int .i64 a0_1,.int .i64 a0_2,.int .i64 a0_3,.string a0_4,.complex .f64 a0_5.1 a0_5.2,.complex .f64 a0_6.1 a0_6.2,.complex .f64 a0_7.1 a0_7.2,(.slice A0_8 l0_8.length c0_8)] 30 (0,0)))∧Aside0 (Below w.heap.size w wc))
 case first=>
  have H:=HC2.out;clear HC2;by_cases c4:a0_0 < 1
  ·rw [if_pos c4] at H
   have c4b0:=decide_eq_true c4;clear c4;(first|rw [c4b0]|(simp only [i64_w,i32_w];rw [c4b0])|skip);have H':=Mk H;clear H;obtain ⟨_,_,_,_,_,_,_,_,_,_,_,_,_,_,_,_,_,_⟩:=z9 BK124
   go_wp2
   go_meet
   case rel=>exact ⟨_,(true),sS,H',⟨by first|omega|exact Nat.le_refl _⟩,⟨by (with_reducible repeat refine bU ?_);exact BK124.out⟩,⟨bB⟩⟩
  ·rw [if_neg c4] at H
   have c4b0:=decide_eq_false c4;clear c4;(first|rw [c4b0]|(simp only [i64_w,i32_w];rw [c4b0])|skip);have H':=Mk H;clear H;obtain ⟨_,_,_,_,_,_,_,_,_,_,_,_,_,_,_,_,_,_⟩:=z9 BK124
   go_wp2
   go_meet
   case rel=>exact ⟨_,(decide (a0_0 > 12)),sS,H',⟨by first|omega|exact Nat.le_refl _⟩,⟨by (with_reducible repeat refine bU ?_);exact BK124.out⟩,⟨bB⟩⟩
 case rest=>
  clear HC2;try clear c1
  try clear p2
  try clear c4
  try clear c4b0
  obtain ⟨kq,x15_1,rfl,HA,HJ1,BK124,HB⟩:=hcut
  cases kq with
  |zero=>exact absurd HA.out (by simp [req_PredText.j0])
  |succ kj1=>
   have H:=HA.out;clear HA;simp only [req_PredText.j0] at H;by_cases c7:x15_1=true
   ·subst c7
    rw [if_pos rfl] at H;try dsimp only at H
    obtain rfl:=Option.some.inj H
    go_wp2
    go_ret
    exact ⟨eW,bB⟩
   ·replace c7:=Bool.eq_false_iff.mpr c7
    subst c7;rw [if_neg (show ¬ (false=true) by decide)] at H;try dsimp only at H
    replace H:=Option.bind_eq_some_iff.mp H;obtain ⟨t125,A80,H⟩:=H;try dsimp only at H
    have A8:=Mk A80;clear A80;obtain ⟨ji9,hji9⟩:∃ j_:Int,(wrap64 (a0_0 - 1))=j_:=⟨_,rfl⟩;replace H:(if 0≤(ji9) then (if (ji9) < (t125.length:Int) then ((strconv_Itoa.f a0_1).bind fun t129=>(if 1+t129.size≤9223372036854775807 then (if a0_0=12 then (some (rdOf ByteArray.empty t125 (ji9))) else (if a0_0=7 then (if (rdOf ByteArray.empty t125 (ji9)).size+1+t129.size≤9223372036854775807 then (some ((rdOf ByteArray.empty t125 (ji9))++((⟨#[32]⟩:ByteArray)++t129))) else (none)) else (if a0_0=8 then (if (rdOf ByteArray.empty t125 (ji9)).size+1+t129.size≤9223372036854775807 then (if (rdOf ByteArray.empty t125 (ji9)).size+(1+t129.size)+1≤9223372036854775807 then ((point_Text.f a0_6).bind fun t130=>(if (rdOf ByteArray.empty t125 (ji9)).size+(1+t129.size)+1+t130.size≤9223372036854775807 then (if (rdOf ByteArray.empty t125 (ji9)).size+(1+t129.size)+1+t130.size+1≤9223372036854775807 then ((point_Text.f a0_7).bind fun t131=>(if (rdOf ByteArray.empty t125 (ji9)).size+(1+t129.size)+1+t130.size+1+t131.size≤9223372036854775807 then (some ((((((rdOf ByteArray.empty t125 (ji9))++((⟨#[32]⟩:ByteArray)++t129))++(⟨#[32]⟩:ByteArray))++t130)++(⟨#[32]⟩:ByteArray))++t131)) else (none))) else (none)) else (none))) else (none)) else (none)) else (if a0_0 < 7 then (if (rdOf ByteArray.empty t125 (ji9)).size+1+t129.size≤9223372036854775807 then (if (rdOf ByteArray.empty t125 (ji9)).size+(1+t129.size)+1≤9223372036854775807 then ((val_Text.f kj1 a0_2 a0_3 a0_4 a0_5).bind fun t132=>(if (rdOf ByteArray.empty t125 (ji9)).size+(1+t129.size)+1+t132.size≤9223372036854775807 then (some ((((rdOf ByteArray.empty t125 (ji9))++((⟨#[32]⟩:ByteArray)++t129))++(⟨#[32]⟩:ByteArray))++t132)) else (none))) else (none)) else (none)) else (req_PredText.l0 kj1 (rdOf ByteArray.empty t125 (ji9)) ([]:List ByteArray) l0_8 (l0_8.length:Int) 0))))) else (none))) else (none)) else (none))=some r:=by first|(rw [hji9] at H;exact H)|(simp only [hji9] at H ⊢;exact H)
    (try rw [hji9] at A8);have hji9w:(IntKind.i64.wrap (a0_0 - 1))=ji9:=(i64_w _).trans hji9;by_cases c10:0≤(ji9)
    ·rw [if_pos c10] at H
     have c10b0:=decide_eq_true c10;clear c10;by_cases c11:(ji9) < (t125.length:Int)
     ·rw [if_pos c11] at H
      have c11b0:=decide_eq_true c11;clear c11;replace H:=Option.bind_eq_some_iff.mp H;obtain ⟨t129,A120,H⟩:=H;try dsimp only at H
      have A12:=Mk A120;clear A120;by_cases c13:1+t129.size≤9223372036854775807
      ·rw [if_pos c13] at H
       have c13b0:=eq_true c13;have c13b1:=decide_eq_true c13;try have c13b2:(9223372036854775807 < 1+t129.size)=False:=eq_false (Nat.not_lt.2 c13)
       by_cases c14:a0_0=12
       ·rw [if_pos c14] at H
        have c14b0:=beq_iff_eq.mpr c14;have c14b1:=bne_eq_false_iff_eq.mpr c14;clear c14;obtain rfl:=Option.some.inj H;try go_wp2
        replace BK124:=Mk (blk_drew BK124.out);replace HB:=Mk (below_drew1 HB.out);refine start_ (n:=7) (S:=fun w'=>w'.cell? ⟨gb124,0,none⟩=some (.int .i64 a0_0)∧w'.cell? ⟨gb124,1,none⟩=some (.int .i64 a0_1)∧w'.cell? ⟨gb124,2,none⟩=some (.int .i64 a0_2)∧w'.cell? ⟨gb124,3,none⟩=some (.int .i64 a0_3)∧w'.cell? ⟨gb124,4,none⟩=some (.string a0_4)∧w'.cell? ⟨gb124,5,none⟩=some (.complex .f64 a0_5.1 a0_5.2)∧w'.cell? ⟨gb124,6,none⟩=some (.complex .f64 a0_6.1 a0_6.2)∧w'.cell? ⟨gb124,7,none⟩=some (.complex .f64 a0_7.1 a0_7.2)∧w'.cell? ⟨gb124,8,none⟩=some (.slice A0_8 l0_8.length c0_8)) (ds:=[]) #[b0,b0,b0,b0,b0,b0,b0] kR rfl rfl ⟨(blk_cell BK124.out 0).trans rfl,(blk_cell BK124.out 1).trans rfl,(blk_cell BK124.out 2).trans rfl,(blk_cell BK124.out 3).trans rfl,(blk_cell BK124.out 4).trans rfl,(blk_cell BK124.out 5).trans rfl,(blk_cell BK124.out 6).trans rfl,(blk_cell BK124.out 7).trans rfl,(blk_cell BK124.out 8).trans rfl⟩ (fun hHeld=>?_)
        generalize wc.drew=w15 at BK124 HB hHeld ⊢
        refine pure_ (i:=1) (N:=some 17) (v:=?_) (a':=?_) (fl 7 2) rfl rfl kR fI (Or.inl ⟨by rfl,?_⟩) ?_ ?_;rotate_left
        ·intro w'
         go_simp
         with_reducible rfl
        rotate_left
        ·exact pA
        refine take_ (i:=2) (N:=some 18) (v:=?_) (a':=?_) (fl 7 6) rfl rfl kR fI (Or.inl ⟨by rfl,?_⟩) hHeld ?_ ?_;rotate_left
        ·rintro w' ⟨s0,s1,s2,s3,s4,s5,s6,s7,s8⟩
         go_simp
         with_reducible rfl
        rotate_left
        ·exact pA
        refine pure_ (i:=3) (N:=some 19) (v:=?_) (a':=?_) (fl 7 14) rfl rfl kR fI (Or.inl ⟨by rfl,?_⟩) ?_ ?_;rotate_left
        ·intro w'
         go_simp
         with_reducible rfl
        rotate_left
        ·exact pA
        refine one_ (i:=0) (N:=some 16) (fl 7 15) rfl rfl kR (by decide) (fun K hK=>?_);refine goes_ Tryz.func29 kR rfl #[] (by rfl) rfl rfl mA ?_;with_reducible refine (req_signs.calls  t125 _ A8.out).mono ?_
        rintro e w16 ⟨v126,rfl,ho0,hb⟩;refine ⟨_,rfl,?_⟩;have HO127:=Mk (Kd.R_lower ho0 (below_size bB));replace BK124:=bkb BK124 hb;replace HB:=Mk (below_step bB hb);(try clear hb);(try clear hb2);(try clear hk);(try clear hi);(try clear ho0);obtain ⟨Ao17,co17,eo17⟩:=Kd.R_slice HO127.out;(first|subst eo17|(injection eo17 with f1_ f2_ f3_;have f4_:=f1_.symm;have f5_:=f3_.symm;clear f1_ f2_ f3_;subst f4_;subst f5_));have p128:0≤((ji9):Int):=of_decide_eq_true aS;have q128:(ji9) < (t125.length:Int):=of_decide_eq_true aS;obtain ⟨ad128,e128,hx128_0⟩:=Kd.at_string (Kd.R_reads' HO127.out).2.2 (ji9) p128 q128;cases e128
        replace p128:=eq_true p128;replace q128:=eq_true q128;refine hK.out _ _ ⟨(blk_cell BK124.out 0).trans rfl,(blk_cell BK124.out 1).trans rfl,(blk_cell BK124.out 2).trans rfl,(blk_cell BK124.out 3).trans rfl,(blk_cell BK124.out 4).trans rfl,(blk_cell BK124.out 5).trans rfl,(blk_cell BK124.out 6).trans rfl,(blk_cell BK124.out 7).trans rfl,(blk_cell BK124.out 8).trans rfl⟩ (fun hHeld=>?_);clear hK K;refine norm_ (a':=?_) ?_ ?_;rotate_left
        ·show Act.put _ (some 16) _=_
         simp only [Act.put,List.setIfInBounds_toArray,List.set_cons_zero,List.set_cons_succ,i64_w,i32_w];rfl
        refine pure_ (i:=4) (N:=some 20) (v:=?_) (a':=?_) (fl 7 31) rfl rfl kR fI (Or.inl ⟨by rfl,?_⟩) ?_ ?_;rotate_left
        ·intro w'
         go_simp
         with_reducible rfl
        rotate_left
        ·exact pA
        refine look_ (i:=5) (N:=some 21) (v:=?_) (a':=?_) (fl 7 63) rfl rfl kR (by decide) (by rfl) ?_ hHeld ?_ ?_;rotate_left
        ·skip
         go_simp
         with_reducible rfl
        rotate_left
        ·exact pA
        refine pure_ (i:=6) (N:=some 3) (v:=?_) (a':=?_) (fl 7 127) rfl rfl kR fI (Or.inl ⟨by rfl,?_⟩) ?_ ?_;rotate_left
        ·intro w'
         go_simp
         with_reducible rfl
        rotate_left
        ·exact pA
        refine done_ kR ?_;obtain ⟨_,_,_,_,_,_,_,_,_,_,_,_,_,_,_,_,_,_⟩:=z9 BK124;try go_wp2_with (first|((with_reducible refine gate_callee (f:=22) rfl ?_);refine goesL_ (some 24) rfl rfl Tryz.func22 kR rfl #[.int .i64 a0_1] rfl mA ?_;(with_reducible refine (strconv_Itoa.calls a0_1 t129 _ A12.out (Glob.below HG_.out bB)).mono ?_);rintro e w19 ⟨rfl,hb⟩;refine ⟨_,rfl,?_⟩;replace HO127:=Mk (Kd.R_below (rU HO127) hb);replace BK124:=bkb BK124 hb;replace HB:=Mk (below_step bB hb);clear hb;obtain ⟨_,_,_,_,_,_,_,_,_,_,_,_,_,_,_,_,_,_⟩:=z9 BK124))
        go_ret
        exact ⟨by first|rfl|(simp [errW_none,errW_some]<;>rfl)|(simp only [← hji9];first|rfl|(simp [errW_none,errW_some]<;>rfl))|(simp [*,errW_none,errW_some]<;>rfl),bB⟩
       ·rw [if_neg c14] at H
        have c14b0:=beq_eq_false_iff_ne.mpr c14;have c14b1:=bne_iff_ne.mpr c14;by_cases c21:a0_0=7
        ·rw [if_pos c21] at H
         have c21b0:=beq_iff_eq.mpr c21;have c21b1:=bne_eq_false_iff_eq.mpr c21;clear c21;by_cases c22:(rdOf ByteArray.empty t125 (ji9)).size+1+t129.size≤9223372036854775807
         ·rw [if_pos c22] at H
          have c22b0:=eq_true c22;have c22b1:=decide_eq_true c22;try have c22b2:(9223372036854775807 < (rdOf ByteArray.empty t125 (ji9)).size+1+t129.size)=False:=eq_false (Nat.not_lt.2 c22)
          have c22b3:(9223372036854775807 < (rdOf ByteArray.empty t125 (ji9)).size+(1+t129.size))=False:=eq_false (by omega);obtain rfl:=Option.some.inj H;try go_wp2
          replace BK124:=Mk (blk_drew BK124.out);replace HB:=Mk (below_drew1 HB.out);refine start_ (n:=7) (S:=fun w'=>w'.cell? ⟨gb124,0,none⟩=some (.int .i64 a0_0)∧w'.cell? ⟨gb124,1,none⟩=some (.int .i64 a0_1)∧w'.cell? ⟨gb124,2,none⟩=some (.int .i64 a0_2)∧w'.cell? ⟨gb124,3,none⟩=some (.int .i64 a0_3)∧w'.cell? ⟨gb124,4,none⟩=some (.string a0_4)∧w'.cell? ⟨gb124,5,none⟩=some (.complex .f64 a0_5.1 a0_5.2)∧w'.cell? ⟨gb124,6,none⟩=some (.complex .f64 a0_6.1 a0_6.2)∧w'.cell? ⟨gb124,7,none⟩=some (.complex .f64 a0_7.1 a0_7.2)∧w'.cell? ⟨gb124,8,none⟩=some (.slice A0_8 l0_8.length c0_8)) (ds:=[]) #[b0,b0,b0,b0,b0,b0,b0] kR rfl rfl ⟨(blk_cell BK124.out 0).trans rfl,(blk_cell BK124.out 1).trans rfl,(blk_cell BK124.out 2).trans rfl,(blk_cell BK124.out 3).trans rfl,(blk_cell BK124.out 4).trans rfl,(blk_cell BK124.out 5).trans rfl,(blk_cell BK124.out 6).trans rfl,(blk_cell BK124.out 7).trans rfl,(blk_cell BK124.out 8).trans rfl⟩ (fun hHeld=>?_)
          generalize wc.drew=w23 at BK124 HB hHeld ⊢
          refine pure_ (i:=1) (N:=some 17) (v:=?_) (a':=?_) (fl 7 2) rfl rfl kR fI (Or.inl ⟨by rfl,?_⟩) ?_ ?_;rotate_left
          ·intro w'
           go_simp
           with_reducible rfl
          rotate_left
          ·exact pA
          refine take_ (i:=2) (N:=some 18) (v:=?_) (a':=?_) (fl 7 6) rfl rfl kR fI (Or.inl ⟨by rfl,?_⟩) hHeld ?_ ?_;rotate_left
          ·rintro w' ⟨s0,s1,s2,s3,s4,s5,s6,s7,s8⟩
           go_simp
           with_reducible rfl
          rotate_left
          ·exact pA
          refine pure_ (i:=3) (N:=some 19) (v:=?_) (a':=?_) (fl 7 14) rfl rfl kR fI (Or.inl ⟨by rfl,?_⟩) ?_ ?_;rotate_left
          ·intro w'
           go_simp
           with_reducible rfl
          rotate_left
          ·exact pA
          refine one_ (i:=0) (N:=some 16) (fl 7 15) rfl rfl kR (by decide) (fun K hK=>?_);refine goes_ Tryz.func29 kR rfl #[] (by rfl) rfl rfl mA ?_;with_reducible refine (req_signs.calls  t125 _ A8.out).mono ?_
          rintro e w24 ⟨v126,rfl,ho0,hb⟩;refine ⟨_,rfl,?_⟩;have HO127:=Mk (Kd.R_lower ho0 (below_size bB));replace BK124:=bkb BK124 hb;replace HB:=Mk (below_step bB hb);(try clear hb);(try clear hb2);(try clear hk);(try clear hi);(try clear ho0);obtain ⟨Ao25,co25,eo25⟩:=Kd.R_slice HO127.out;(first|subst eo25|(injection eo25 with f1_ f2_ f3_;have f4_:=f1_.symm;have f5_:=f3_.symm;clear f1_ f2_ f3_;subst f4_;subst f5_));have p128:0≤((ji9):Int):=of_decide_eq_true aS;have q128:(ji9) < (t125.length:Int):=of_decide_eq_true aS;obtain ⟨ad128,e128,hx128_0⟩:=Kd.at_string (Kd.R_reads' HO127.out).2.2 (ji9) p128 q128;cases e128
          replace p128:=eq_true p128;replace q128:=eq_true q128;refine hK.out _ _ ⟨(blk_cell BK124.out 0).trans rfl,(blk_cell BK124.out 1).trans rfl,(blk_cell BK124.out 2).trans rfl,(blk_cell BK124.out 3).trans rfl,(blk_cell BK124.out 4).trans rfl,(blk_cell BK124.out 5).trans rfl,(blk_cell BK124.out 6).trans rfl,(blk_cell BK124.out 7).trans rfl,(blk_cell BK124.out 8).trans rfl⟩ (fun hHeld=>?_);clear hK K;refine norm_ (a':=?_) ?_ ?_;rotate_left
          ·show Act.put _ (some 16) _=_
           simp only [Act.put,List.setIfInBounds_toArray,List.set_cons_zero,List.set_cons_succ,i64_w,i32_w];rfl
          refine pure_ (i:=4) (N:=some 20) (v:=?_) (a':=?_) (fl 7 31) rfl rfl kR fI (Or.inl ⟨by rfl,?_⟩) ?_ ?_;rotate_left
          ·intro w'
           go_simp
           with_reducible rfl
          rotate_left
          ·exact pA
          refine look_ (i:=5) (N:=some 21) (v:=?_) (a':=?_) (fl 7 63) rfl rfl kR (by decide) (by rfl) ?_ hHeld ?_ ?_;rotate_left
          ·skip
           go_simp
           with_reducible rfl
          rotate_left
          ·exact pA
          refine pure_ (i:=6) (N:=some 3) (v:=?_) (a':=?_) (fl 7 127) rfl rfl kR fI (Or.inl ⟨by rfl,?_⟩) ?_ ?_;rotate_left
          ·intro w'
           go_simp
           with_reducible rfl
          rotate_left
          ·exact pA
          refine done_ kR ?_;obtain ⟨_,_,_,_,_,_,_,_,_,_,_,_,_,_,_,_,_,_⟩:=z9 BK124;try go_wp2_with (first|((with_reducible refine gate_callee (f:=22) rfl ?_);refine goesL_ (some 24) rfl rfl Tryz.func22 kR rfl #[.int .i64 a0_1] rfl mA ?_;(with_reducible refine (strconv_Itoa.calls a0_1 t129 _ A12.out (Glob.below HG_.out bB)).mono ?_);rintro e w27 ⟨rfl,hb⟩;refine ⟨_,rfl,?_⟩;replace HO127:=Mk (Kd.R_below (rU HO127) hb);replace BK124:=bkb BK124 hb;replace HB:=Mk (below_step bB hb);clear hb;obtain ⟨_,_,_,_,_,_,_,_,_,_,_,_,_,_,_,_,_,_⟩:=z9 BK124))
          go_ret
          exact ⟨by first|rfl|(simp [errW_none,errW_some]<;>rfl)|(simp only [← hji9];first|rfl|(simp [errW_none,errW_some]<;>rfl))|(simp [*,errW_none,errW_some]<;>rfl),bB⟩
         ·rw [if_neg c22] at H
          exact absurd H (by simp)
        ·rw [if_neg c21] at H
         have c21b0:=beq_eq_false_iff_ne.mpr c21;have c21b1:=bne_iff_ne.mpr c21;by_cases c29:a0_0=8
         ·rw [if_pos c29] at H
          have c29b0:=beq_iff_eq.mpr c29;have c29b1:=bne_eq_false_iff_eq.mpr c29;clear c29;by_cases c30:(rdOf ByteArray.empty t125 (ji9)).size+1+t129.size≤9223372036854775807
          ·rw [if_pos c30] at H
           have c30b0:=eq_true c30;have c30b1:=decide_eq_true c30;try have c30b2:(9223372036854775807 < (rdOf ByteArray.empty t125 (ji9)).size+1+t129.size)=False:=eq_false (Nat.not_lt.2 c30)
           have c30b3:(9223372036854775807 < (rdOf ByteArray.empty t125 (ji9)).size+(1+t129.size))=False:=eq_false (by omega);by_cases c31:(rdOf ByteArray.empty t125 (ji9)).size+(1+t129.size)+1≤9223372036854775807
           ·rw [if_pos c31] at H
            have c31b0:=eq_true c31;have c31b1:=decide_eq_true c31;try have c31b2:(9223372036854775807 < (rdOf ByteArray.empty t125 (ji9)).size+(1+t129.size)+1)=False:=eq_false (Nat.not_lt.2 c31)
            replace H:=Option.bind_eq_some_iff.mp H;obtain ⟨t130,A320,H⟩:=H;try dsimp only at H
            have A32:=Mk A320;clear A320;by_cases c33:(rdOf ByteArray.empty t125 (ji9)).size+(1+t129.size)+1+t130.size≤9223372036854775807
            ·rw [if_pos c33] at H
             have c33b0:=eq_true c33;have c33b1:=decide_eq_true c33;try have c33b2:(9223372036854775807 < (rdOf ByteArray.empty t125 (ji9)).size+(1+t129.size)+1+t130.size)=False:=eq_false (Nat.not_lt.2 c33)
             by_cases c34:(rdOf ByteArray.empty t125 (ji9)).size+(1+t129.size)+1+t130.size+1≤9223372036854775807
             ·rw [if_pos c34] at H
              have c34b0:=eq_true c34;have c34b1:=decide_eq_true c34;try have c34b2:(9223372036854775807 < (rdOf ByteArray.empty t125 (ji9)).size+(1+t129.size)+1+t130.size+1)=False:=eq_false (Nat.not_lt.2 c34)
              replace H:=Option.bind_eq_some_iff.mp H;obtain ⟨t131,A350,H⟩:=H;try dsimp only at H
              have A35:=Mk A350;clear A350;by_cases c36:(rdOf ByteArray.empty t125 (ji9)).size+(1+t129.size)+1+t130.size+1+t131.size≤9223372036854775807
              ·rw [if_pos c36] at H
               have c36b0:=eq_true c36;have c36b1:=decide_eq_true c36;try have c36b2:(9223372036854775807 < (rdOf ByteArray.empty t125 (ji9)).size+(1+t129.size)+1+t130.size+1+t131.size)=False:=eq_false (Nat.not_lt.2 c36)
               have c36b3:(9223372036854775807 < (rdOf ByteArray.empty t125 (ji9)).size+(1+t129.size)+1+t130.size+(1+t131.size))=False:=eq_false (by omega);obtain rfl:=Option.some.inj H;try go_wp2
               replace BK124:=Mk (blk_drew BK124.out);replace HB:=Mk (below_drew1 HB.out);refine start_ (n:=7) (S:=fun w'=>w'.cell? ⟨gb124,0,none⟩=some (.int .i64 a0_0)∧w'.cell? ⟨gb124,1,none⟩=some (.int .i64 a0_1)∧w'.cell? ⟨gb124,2,none⟩=some (.int .i64 a0_2)∧w'.cell? ⟨gb124,3,none⟩=some (.int .i64 a0_3)∧w'.cell? ⟨gb124,4,none⟩=some (.string a0_4)∧w'.cell? ⟨gb124,5,none⟩=some (.complex .f64 a0_5.1 a0_5.2)∧w'.cell? ⟨gb124,6,none⟩=some (.complex .f64 a0_6.1 a0_6.2)∧w'.cell? ⟨gb124,7,none⟩=some (.complex .f64 a0_7.1 a0_7.2)∧w'.cell? ⟨gb124,8,none⟩=some (.slice A0_8 l0_8.length c0_8)) (ds:=[]) #[b0,b0,b0,b0,b0,b0,b0] kR rfl rfl ⟨(blk_cell BK124.out 0).trans rfl,(blk_cell BK124.out 1).trans rfl,(blk_cell BK124.out 2).trans rfl,(blk_cell BK124.out 3).trans rfl,(blk_cell BK124.out 4).trans rfl,(blk_cell BK124.out 5).trans rfl,(blk_cell BK124.out 6).trans rfl,(blk_cell BK124.out 7).trans rfl,(blk_cell BK124.out 8).trans rfl⟩ (fun hHeld=>?_)
               generalize wc.drew=w37 at BK124 HB hHeld ⊢
               refine pure_ (i:=1) (N:=some 17) (v:=?_) (a':=?_) (fl 7 2) rfl rfl kR fI (Or.inl ⟨by rfl,?_⟩) ?_ ?_;rotate_left
               ·intro w'
                go_simp
                with_reducible rfl
               rotate_left
               ·exact pA
               refine take_ (i:=2) (N:=some 18) (v:=?_) (a':=?_) (fl 7 6) rfl rfl kR fI (Or.inl ⟨by rfl,?_⟩) hHeld ?_ ?_;rotate_left
               ·rintro w' ⟨s0,s1,s2,s3,s4,s5,s6,s7,s8⟩
                go_simp
                with_reducible rfl
               rotate_left
               ·exact pA
               refine pure_ (i:=3) (N:=some 19) (v:=?_) (a':=?_) (fl 7 14) rfl rfl kR fI (Or.inl ⟨by rfl,?_⟩) ?_ ?_;rotate_left
               ·intro w'
                go_simp
                with_reducible rfl
               rotate_left
               ·exact pA
               refine one_ (i:=0) (N:=some 16) (fl 7 15) rfl rfl kR (by decide) (fun K hK=>?_);refine goes_ Tryz.func29 kR rfl #[] (by rfl) rfl rfl mA ?_;with_reducible refine (req_signs.calls  t125 _ A8.out).mono ?_
               rintro e w38 ⟨v126,rfl,ho0,hb⟩;refine ⟨_,rfl,?_⟩;have HO127:=Mk (Kd.R_lower ho0 (below_size bB));replace BK124:=bkb BK124 hb;replace HB:=Mk (below_step bB hb);(try clear hb);(try clear hb2);(try clear hk);(try clear hi);(try clear ho0);obtain ⟨Ao39,co39,eo39⟩:=Kd.R_slice HO127.out;(first|subst eo39|(injection eo39 with f1_ f2_ f3_;have f4_:=f1_.symm;have f5_:=f3_.symm;clear f1_ f2_ f3_;subst f4_;subst f5_));have p128:0≤((ji9):Int):=of_decide_eq_true aS;have q128:(ji9) < (t125.length:Int):=of_decide_eq_true aS;obtain ⟨ad128,e128,hx128_0⟩:=Kd.at_string (Kd.R_reads' HO127.out).2.2 (ji9) p128 q128;cases e128
               replace p128:=eq_true p128;replace q128:=eq_true q128;refine hK.out _ _ ⟨(blk_cell BK124.out 0).trans rfl,(blk_cell BK124.out 1).trans rfl,(blk_cell BK124.out 2).trans rfl,(blk_cell BK124.out 3).trans rfl,(blk_cell BK124.out 4).trans rfl,(blk_cell BK124.out 5).trans rfl,(blk_cell BK124.out 6).trans rfl,(blk_cell BK124.out 7).trans rfl,(blk_cell BK124.out 8).trans rfl⟩ (fun hHeld=>?_);clear hK K;refine norm_ (a':=?_) ?_ ?_;rotate_left
               ·show Act.put _ (some 16) _=_
                simp only [Act.put,List.setIfInBounds_toArray,List.set_cons_zero,List.set_cons_succ,i64_w,i32_w];rfl
               refine pure_ (i:=4) (N:=some 20) (v:=?_) (a':=?_) (fl 7 31) rfl rfl kR fI (Or.inl ⟨by rfl,?_⟩) ?_ ?_;rotate_left
               ·intro w'
                go_simp
                with_reducible rfl
               rotate_left
               ·exact pA
               refine look_ (i:=5) (N:=some 21) (v:=?_) (a':=?_) (fl 7 63) rfl rfl kR (by decide) (by rfl) ?_ hHeld ?_ ?_;rotate_left
               ·skip
                go_simp
                with_reducible rfl
               rotate_left
               ·exact pA
               refine pure_ (i:=6) (N:=some 3) (v:=?_) (a':=?_) (fl 7 127) rfl rfl kR fI (Or.inl ⟨by rfl,?_⟩) ?_ ?_;rotate_left
               ·intro w'
                go_simp
                with_reducible rfl
               rotate_left
               ·exact pA
               refine done_ kR ?_;obtain ⟨_,_,_,_,_,_,_,_,_,_,_,_,_,_,_,_,_,_⟩:=z9 BK124;try go_wp2_with (first|((with_reducible refine gate_callee (f:=22) rfl ?_);refine goesL_ (some 24) rfl rfl Tryz.func22 kR rfl #[.int .i64 a0_1] rfl mA ?_;(with_reducible refine (strconv_Itoa.calls a0_1 t129 _ A12.out (Glob.below HG_.out bB)).mono ?_);rintro e w41 ⟨rfl,hb⟩;refine ⟨_,rfl,?_⟩;replace HO127:=Mk (Kd.R_below (rU HO127) hb);replace BK124:=bkb BK124 hb;replace HB:=Mk (below_step bB hb);clear hb;obtain ⟨_,_,_,_,_,_,_,_,_,_,_,_,_,_,_,_,_,_⟩:=z9 BK124))
               replace HO127:=Mk (Kd.R_drew HO127.out);replace BK124:=Mk (blk_drew BK124.out);replace HB:=Mk (below_drew1 HB.out);refine start_ (n:=16) (S:=fun w'=>w'.cell? ⟨gb124,0,none⟩=some (.int .i64 a0_0)∧w'.cell? ⟨gb124,1,none⟩=some (.int .i64 a0_1)∧w'.cell? ⟨gb124,2,none⟩=some (.int .i64 a0_2)∧w'.cell? ⟨gb124,3,none⟩=some (.int .i64 a0_3)∧w'.cell? ⟨gb124,4,none⟩=some (.string a0_4)∧w'.cell? ⟨gb124,5,none⟩=some (.complex .f64 a0_5.1 a0_5.2)∧w'.cell? ⟨gb124,6,none⟩=some (.complex .f64 a0_6.1 a0_6.2)∧w'.cell? ⟨gb124,7,none⟩=some (.complex .f64 a0_7.1 a0_7.2)∧w'.cell? ⟨gb124,8,none⟩=some (.slice A0_8 l0_8.length c0_8)) (ds:=[]) #[b0,b0,b0,b0,b0,b0,b0,b0,b0,b0,b0,b0,b0,b0,b0,b0] kR rfl rfl ⟨(blk_cell BK124.out 0).trans rfl,(blk_cell BK124.out 1).trans rfl,(blk_cell BK124.out 2).trans rfl,(blk_cell BK124.out 3).trans rfl,(blk_cell BK124.out 4).trans rfl,(blk_cell BK124.out 5).trans rfl,(blk_cell BK124.out 6).trans rfl,(blk_cell BK124.out 7).trans rfl,(blk_cell BK124.out 8).trans rfl⟩ (fun hHeld=>?_);refine with_tabW req_PredText.tab10 req_PredText.bits10 (fun HT_ HW_=>?_)
               generalize w41.drew=w43 at HO127 BK124 HB hHeld ⊢
               refine pure_ (i:=0) (N:=some 42) (v:=?_) (a':=?_) (fl 16 1) rfl rfl (aO HT_) fI (Or.inl ⟨by rfl,?_⟩) ?_ ?_;rotate_left
               ·intro w'
                go_simp
                with_reducible rfl
               rotate_left
               ·exact pA
               refine pure_ (i:=1) (N:=some 43) (v:=?_) (a':=?_) (fl 16 3) rfl rfl (aO HT_) fI (Or.inl ⟨by rfl,?_⟩) ?_ ?_;rotate_left
               ·intro w'
                go_simp
                with_reducible rfl
               rotate_left
               ·exact pA
               refine pure_ (i:=2) (N:=some 44) (v:=?_) (a':=?_) (fl 16 7) rfl rfl (aO HT_) fI (Or.inl ⟨by rfl,?_⟩) ?_ ?_;rotate_left
               ·intro w'
                go_simp
                with_reducible rfl
               rotate_left
               ·exact pA
               refine pure_ (i:=3) (N:=some 45) (v:=?_) (a':=?_) (fl 16 15) rfl rfl (aO HT_) fI (Or.inl ⟨by rfl,?_⟩) ?_ ?_;rotate_left
               ·intro w'
                go_simp
                with_reducible rfl
               rotate_left
               ·exact pA
               refine pure_ (i:=4) (N:=some 46) (v:=?_) (a':=?_) (fl 16 31) rfl rfl (aO HT_) fI (Or.inl ⟨by rfl,?_⟩) ?_ ?_;rotate_left
               ·intro w'
                go_simp
                with_reducible rfl
               rotate_left
               ·exact pA
               refine pure_ (i:=5) (N:=some 47) (v:=?_) (a':=?_) (fl 16 63) rfl rfl (aO HT_) fI (Or.inl ⟨by rfl,?_⟩) ?_ ?_;rotate_left
               ·intro w'
                go_simp
                with_reducible rfl
               rotate_left
               ·exact pA
               refine pure_ (i:=10) (N:=some 52) (v:=?_) (a':=?_) (fl 16 1087) rfl rfl (aO HT_) fI (Or.inl ⟨by rfl,?_⟩) ?_ ?_;rotate_left
               ·intro w'
                go_simp
                with_reducible rfl
               rotate_left
               ·exact pA
               refine pure_ (i:=11) (N:=some 53) (v:=?_) (a':=?_) (fl 16 3135) rfl rfl (aO HT_) fI (Or.inl ⟨by rfl,?_⟩) ?_ ?_;rotate_left
               ·intro w'
                go_simp
                with_reducible rfl
               rotate_left
               ·exact pA
               refine take_ (i:=6) (N:=some 48) (v:=?_) (a':=?_) (fl 16 3199) rfl rfl (tO HT_ HW_) fI (Or.inl ⟨by rfl,?_⟩) hHeld ?_ ?_;rotate_left
               ·rintro w' ⟨s0,s1,s2,s3,s4,s5,s6,s7,s8⟩
                go_simp
                with_reducible rfl
               rotate_left
               ·exact pA
               refine take_ (i:=12) (N:=some 54) (v:=?_) (a':=?_) (fl 16 7295) rfl rfl (tO HT_ HW_) fI (Or.inl ⟨by rfl,?_⟩) hHeld ?_ ?_;rotate_left
               ·rintro w' ⟨s0,s1,s2,s3,s4,s5,s6,s7,s8⟩
                go_simp
                with_reducible rfl
               rotate_left
               ·exact pA
               refine one_ (i:=7) (N:=some 49) (fl 16 7423) rfl rfl (oO HT_) (by decide) (fun K hK=>?_);refine goes_ Tryz.func30 kR rfl #[.complex .f64 a0_6.1 a0_6.2] (by rfl) rfl rfl mA ?_;with_reducible refine (point_Text.calls a0_6 t130 _ A32.out (Glob.below HG_.out bB)).mono ?_
               rintro e w44 ⟨rfl,hb⟩;refine ⟨_,rfl,?_⟩;replace HO127:=Mk (Kd.R_below (rU HO127) hb);replace BK124:=bkb BK124 hb;replace HB:=Mk (below_step bB hb);(try clear hb);(try clear hb2);(try clear hk);(try clear hi);refine hK.out _ _ ⟨(blk_cell BK124.out 0).trans rfl,(blk_cell BK124.out 1).trans rfl,(blk_cell BK124.out 2).trans rfl,(blk_cell BK124.out 3).trans rfl,(blk_cell BK124.out 4).trans rfl,(blk_cell BK124.out 5).trans rfl,(blk_cell BK124.out 6).trans rfl,(blk_cell BK124.out 7).trans rfl,(blk_cell BK124.out 8).trans rfl⟩ (fun hHeld=>?_);clear hK K;refine norm_ (a':=?_) ?_ ?_;rotate_left
               ·show Act.put _ (some 49) _=_
                simp only [Act.put,List.setIfInBounds_toArray,List.set_cons_zero,List.set_cons_succ,i64_w,i32_w];rfl
               refine pure_ (i:=8) (N:=some 50) (v:=?_) (a':=?_) (fl 16 7679) rfl rfl (aO HT_) fI (Or.inl ⟨by rfl,?_⟩) ?_ ?_;rotate_left
               ·intro w'
                go_simp
                with_reducible rfl
               rotate_left
               ·exact pA
               refine pure_ (i:=9) (N:=some 51) (v:=?_) (a':=?_) (fl 16 8191) rfl rfl (aO HT_) fI (Or.inl ⟨by rfl,?_⟩) ?_ ?_;rotate_left
               ·intro w'
                go_simp
                with_reducible rfl
               rotate_left
               ·exact pA
               refine one_ (i:=13) (N:=some 55) (fl 16 16383) rfl rfl (oO HT_) (by decide) (fun K hK=>?_);refine goes_ Tryz.func30 kR rfl #[.complex .f64 a0_7.1 a0_7.2] (by rfl) rfl rfl mA ?_;with_reducible refine (point_Text.calls a0_7 t131 _ A35.out (Glob.below HG_.out bB)).mono ?_
               rintro e w45 ⟨rfl,hb⟩;refine ⟨_,rfl,?_⟩;replace HO127:=Mk (Kd.R_below (rU HO127) hb);replace BK124:=bkb BK124 hb;replace HB:=Mk (below_step bB hb);(try clear hb);(try clear hb2);(try clear hk);(try clear hi);refine hK.out _ _ ⟨(blk_cell BK124.out 0).trans rfl,(blk_cell BK124.out 1).trans rfl,(blk_cell BK124.out 2).trans rfl,(blk_cell BK124.out 3).trans rfl,(blk_cell BK124.out 4).trans rfl,(blk_cell BK124.out 5).trans rfl,(blk_cell BK124.out 6).trans rfl,(blk_cell BK124.out 7).trans rfl,(blk_cell BK124.out 8).trans rfl⟩ (fun hHeld=>?_);clear hK K;refine norm_ (a':=?_) ?_ ?_;rotate_left
               ·show Act.put _ (some 55) _=_
                simp only [Act.put,List.setIfInBounds_toArray,List.set_cons_zero,List.set_cons_succ,i64_w,i32_w];rfl
               refine pure_ (i:=14) (N:=some 56) (v:=?_) (a':=?_) (fl 16 32767) rfl rfl (aO HT_) fI (Or.inl ⟨by rfl,?_⟩) ?_ ?_;rotate_left
               ·intro w'
                go_simp
                with_reducible rfl
               rotate_left
               ·exact pA
               refine pure_ (i:=15) (N:=some 2) (v:=?_) (a':=?_) (fl 16 65535) rfl rfl (aO HT_) fI (Or.inl ⟨by rfl,?_⟩) ?_ ?_;rotate_left
               ·intro w'
                go_simp
                with_reducible rfl
               rotate_left
               ·exact pA
               refine done_ (done_of HT_.out kR) ?_;try go_wp2
               go_ret
               exact ⟨by first|rfl|(simp [errW_none,errW_some]<;>rfl)|(simp only [← hji9];first|rfl|(simp [errW_none,errW_some]<;>rfl))|(simp [*,errW_none,errW_some]<;>rfl),bB⟩
              ·rw [if_neg c36] at H
               exact absurd H (by simp)
             ·rw [if_neg c34] at H
              exact absurd H (by simp)
            ·rw [if_neg c33] at H
             exact absurd H (by simp)
           ·rw [if_neg c31] at H
            exact absurd H (by simp)
          ·rw [if_neg c30] at H
           exact absurd H (by simp)
         ·rw [if_neg c29] at H
          have c29b0:=beq_eq_false_iff_ne.mpr c29;have c29b1:=bne_iff_ne.mpr c29;by_cases c46:a0_0 < 7
          ·rw [if_pos c46] at H
           have c46b0:=decide_eq_true c46;clear c46;by_cases c47:(rdOf ByteArray.empty t125 (ji9)).size+1+t129.size≤9223372036854775807
           ·rw [if_pos c47] at H
            have c47b0:=eq_true c47;have c47b1:=decide_eq_true c47;try have c47b2:(9223372036854775807 < (rdOf ByteArray.empty t125 (ji9)).size+1+t129.size)=False:=eq_false (Nat.not_lt.2 c47)
            have c47b3:(9223372036854775807 < (rdOf ByteArray.empty t125 (ji9)).size+(1+t129.size))=False:=eq_false (by omega);by_cases c48:(rdOf ByteArray.empty t125 (ji9)).size+(1+t129.size)+1≤9223372036854775807
            ·rw [if_pos c48] at H
             have c48b0:=eq_true c48;have c48b1:=decide_eq_true c48;try have c48b2:(9223372036854775807 < (rdOf ByteArray.empty t125 (ji9)).size+(1+t129.size)+1)=False:=eq_false (Nat.not_lt.2 c48)
             replace H:=Option.bind_eq_some_iff.mp H;obtain ⟨t132,A490,H⟩:=H;try dsimp only at H
             have A49:=Mk A490;clear A490;by_cases c50:(rdOf ByteArray.empty t125 (ji9)).size+(1+t129.size)+1+t132.size≤9223372036854775807
             ·rw [if_pos c50] at H
              have c50b0:=eq_true c50;have c50b1:=decide_eq_true c50;try have c50b2:(9223372036854775807 < (rdOf ByteArray.empty t125 (ji9)).size+(1+t129.size)+1+t132.size)=False:=eq_false (Nat.not_lt.2 c50)
              obtain rfl:=Option.some.inj H;try go_wp2
              replace BK124:=Mk (blk_drew BK124.out);replace HB:=Mk (below_drew1 HB.out);refine start_ (n:=7) (S:=fun w'=>w'.cell? ⟨gb124,0,none⟩=some (.int .i64 a0_0)∧w'.cell? ⟨gb124,1,none⟩=some (.int .i64 a0_1)∧w'.cell? ⟨gb124,2,none⟩=some (.int .i64 a0_2)∧w'.cell? ⟨gb124,3,none⟩=some (.int .i64 a0_3)∧w'.cell? ⟨gb124,4,none⟩=some (.string a0_4)∧w'.cell? ⟨gb124,5,none⟩=some (.complex .f64 a0_5.1 a0_5.2)∧w'.cell? ⟨gb124,6,none⟩=some (.complex .f64 a0_6.1 a0_6.2)∧w'.cell? ⟨gb124,7,none⟩=some (.complex .f64 a0_7.1 a0_7.2)∧w'.cell? ⟨gb124,8,none⟩=some (.slice A0_8 l0_8.length c0_8)) (ds:=[]) #[b0,b0,b0,b0,b0,b0,b0] kR rfl rfl ⟨(blk_cell BK124.out 0).trans rfl,(blk_cell BK124.out 1).trans rfl,(blk_cell BK124.out 2).trans rfl,(blk_cell BK124.out 3).trans rfl,(blk_cell BK124.out 4).trans rfl,(blk_cell BK124.out 5).trans rfl,(blk_cell BK124.out 6).trans rfl,(blk_cell BK124.out 7).trans rfl,(blk_cell BK124.out 8).trans rfl⟩ (fun hHeld=>?_)
              generalize wc.drew=w51 at BK124 HB hHeld ⊢
              refine pure_ (i:=1) (N:=some 17) (v:=?_) (a':=?_) (fl 7 2) rfl rfl kR fI (Or.inl ⟨by rfl,?_⟩) ?_ ?_;rotate_left
              ·intro w'
               go_simp
               with_reducible rfl
              rotate_left
              ·exact pA
              refine take_ (i:=2) (N:=some 18) (v:=?_) (a':=?_) (fl 7 6) rfl rfl kR fI (Or.inl ⟨by rfl,?_⟩) hHeld ?_ ?_;rotate_left
              ·rintro w' ⟨s0,s1,s2,s3,s4,s5,s6,s7,s8⟩
               go_simp
               with_reducible rfl
              rotate_left
              ·exact pA
              refine pure_ (i:=3) (N:=some 19) (v:=?_) (a':=?_) (fl 7 14) rfl rfl kR fI (Or.inl ⟨by rfl,?_⟩) ?_ ?_;rotate_left
              ·intro w'
               go_simp
               with_reducible rfl
              rotate_left
              ·exact pA
              refine one_ (i:=0) (N:=some 16) (fl 7 15) rfl rfl kR (by decide) (fun K hK=>?_);refine goes_ Tryz.func29 kR rfl #[] (by rfl) rfl rfl mA ?_;with_reducible refine (req_signs.calls  t125 _ A8.out).mono ?_
              rintro e w52 ⟨v126,rfl,ho0,hb⟩;refine ⟨_,rfl,?_⟩;have HO127:=Mk (Kd.R_lower ho0 (below_size bB));replace BK124:=bkb BK124 hb;replace HB:=Mk (below_step bB hb);(try clear hb);(try clear hb2);(try clear hk);(try clear hi);(try clear ho0);obtain ⟨Ao53,co53,eo53⟩:=Kd.R_slice HO127.out;(first|subst eo53|(injection eo53 with f1_ f2_ f3_;have f4_:=f1_.symm;have f5_:=f3_.symm;clear f1_ f2_ f3_;subst f4_;subst f5_));have p128:0≤((ji9):Int):=of_decide_eq_true aS;have q128:(ji9) < (t125.length:Int):=of_decide_eq_true aS;obtain ⟨ad128,e128,hx128_0⟩:=Kd.at_string (Kd.R_reads' HO127.out).2.2 (ji9) p128 q128;cases e128
              replace p128:=eq_true p128;replace q128:=eq_true q128;refine hK.out _ _ ⟨(blk_cell BK124.out 0).trans rfl,(blk_cell BK124.out 1).trans rfl,(blk_cell BK124.out 2).trans rfl,(blk_cell BK124.out 3).trans rfl,(blk_cell BK124.out 4).trans rfl,(blk_cell BK124.out 5).trans rfl,(blk_cell BK124.out 6).trans rfl,(blk_cell BK124.out 7).trans rfl,(blk_cell BK124.out 8).trans rfl⟩ (fun hHeld=>?_);clear hK K;refine norm_ (a':=?_) ?_ ?_;rotate_left
              ·show Act.put _ (some 16) _=_
               simp only [Act.put,List.setIfInBounds_toArray,List.set_cons_zero,List.set_cons_succ,i64_w,i32_w];rfl
              refine pure_ (i:=4) (N:=some 20) (v:=?_) (a':=?_) (fl 7 31) rfl rfl kR fI (Or.inl ⟨by rfl,?_⟩) ?_ ?_;rotate_left
              ·intro w'
               go_simp
               with_reducible rfl
              rotate_left
              ·exact pA
              refine look_ (i:=5) (N:=some 21) (v:=?_) (a':=?_) (fl 7 63) rfl rfl kR (by decide) (by rfl) ?_ hHeld ?_ ?_;rotate_left
              ·skip
               go_simp
               with_reducible rfl
              rotate_left
              ·exact pA
              refine pure_ (i:=6) (N:=some 3) (v:=?_) (a':=?_) (fl 7 127) rfl rfl kR fI (Or.inl ⟨by rfl,?_⟩) ?_ ?_;rotate_left
              ·intro w'
               go_simp
               with_reducible rfl
              rotate_left
              ·exact pA
              refine done_ kR ?_;obtain ⟨_,_,_,_,_,_,_,_,_,_,_,_,_,_,_,_,_,_⟩:=z9 BK124;try go_wp2_with (first|((with_reducible refine gate_callee (f:=22) rfl ?_);refine goesL_ (some 24) rfl rfl Tryz.func22 kR rfl #[.int .i64 a0_1] rfl mA ?_;(with_reducible refine (strconv_Itoa.calls a0_1 t129 _ A12.out (Glob.below HG_.out bB)).mono ?_);rintro e w55 ⟨rfl,hb⟩;refine ⟨_,rfl,?_⟩;replace HO127:=Mk (Kd.R_below (rU HO127) hb);replace BK124:=bkb BK124 hb;replace HB:=Mk (below_step bB hb);clear hb;obtain ⟨_,_,_,_,_,_,_,_,_,_,_,_,_,_,_,_,_,_⟩:=z9 BK124)|((with_reducible refine gate_callee (f:=23) rfl ?_);refine goesL_ (some 67) rfl rfl Tryz.func23 kR rfl #[.agg #[.int .i64 a0_2,.int .i64 a0_3,.string a0_4,.complex .f64 a0_5.1 a0_5.2]] rfl mA ?_;(with_reducible refine (val_Text.calls kj1 a0_2 a0_3 a0_4 a0_5 t132 _ A49.out (Glob.below HG_.out bB)).mono ?_);rintro e w57 ⟨rfl,hb⟩;refine ⟨_,rfl,?_⟩;replace HO127:=Mk (Kd.R_below (rU HO127) hb);replace BK124:=bkb BK124 hb;replace HB:=Mk (below_step bB hb);clear hb))
              go_ret
              exact ⟨by first|rfl|(simp [errW_none,errW_some]<;>rfl)|(simp only [← hji9];first|rfl|(simp [errW_none,errW_some]<;>rfl))|(simp [*,errW_none,errW_some]<;>rfl),bB⟩
             ·rw [if_neg c50] at H
              exact absurd H (by simp)
            ·rw [if_neg c48] at H
             exact absurd H (by simp)
           ·rw [if_neg c47] at H
            exact absurd H (by simp)
          ·rw [if_neg c46] at H
           have c46b0:=decide_eq_false c46;clear c46;have H':=Mk H;clear H;try go_wp2
           replace BK124:=Mk (blk_drew BK124.out);replace HB:=Mk (below_drew1 HB.out);refine start_ (n:=7) (S:=fun w'=>w'.cell? ⟨gb124,0,none⟩=some (.int .i64 a0_0)∧w'.cell? ⟨gb124,1,none⟩=some (.int .i64 a0_1)∧w'.cell? ⟨gb124,2,none⟩=some (.int .i64 a0_2)∧w'.cell? ⟨gb124,3,none⟩=some (.int .i64 a0_3)∧w'.cell? ⟨gb124,4,none⟩=some (.string a0_4)∧w'.cell? ⟨gb124,5,none⟩=some (.complex .f64 a0_5.1 a0_5.2)∧w'.cell? ⟨gb124,6,none⟩=some (.complex .f64 a0_6.1 a0_6.2)∧w'.cell? ⟨gb124,7,none⟩=some (.complex .f64 a0_7.1 a0_7.2)∧w'.cell? ⟨gb124,8,none⟩=some (.slice A0_8 l0_8.length c0_8)) (ds:=[]) #[b0,b0,b0,b0,b0,b0,b0] kR rfl rfl ⟨(blk_cell BK124.out 0).trans rfl,(blk_cell BK124.out 1).trans rfl,(blk_cell BK124.out 2).trans rfl,(blk_cell BK124.out 3).trans rfl,(blk_cell BK124.out 4).trans rfl,(blk_cell BK124.out 5).trans rfl,(blk_cell BK124.out 6).trans rfl,(blk_cell BK124.out 7).trans rfl,(blk_cell BK124.out 8).trans rfl⟩ (fun hHeld=>?_)
           generalize wc.drew=w58 at BK124 HB hHeld ⊢
           refine pure_ (i:=1) (N:=some 17) (v:=?_) (a':=?_) (fl 7 2) rfl rfl kR fI (Or.inl ⟨by rfl,?_⟩) ?_ ?_;rotate_left
           ·intro w'
            go_simp
            with_reducible rfl
           rotate_left
           ·exact pA
           refine take_ (i:=2) (N:=some 18) (v:=?_) (a':=?_) (fl 7 6) rfl rfl kR fI (Or.inl ⟨by rfl,?_⟩) hHeld ?_ ?_;rotate_left
           ·rintro w' ⟨s0,s1,s2,s3,s4,s5,s6,s7,s8⟩
            go_simp
            with_reducible rfl
           rotate_left
           ·exact pA
           refine pure_ (i:=3) (N:=some 19) (v:=?_) (a':=?_) (fl 7 14) rfl rfl kR fI (Or.inl ⟨by rfl,?_⟩) ?_ ?_;rotate_left
           ·intro w'
            go_simp
            with_reducible rfl
           rotate_left
           ·exact pA
           refine one_ (i:=0) (N:=some 16) (fl 7 15) rfl rfl kR (by decide) (fun K hK=>?_);refine goes_ Tryz.func29 kR rfl #[] (by rfl) rfl rfl mA ?_;with_reducible refine (req_signs.calls  t125 _ A8.out).mono ?_
           rintro e w59 ⟨v126,rfl,ho0,hb⟩;refine ⟨_,rfl,?_⟩;have HO127:=Mk (Kd.R_lower ho0 (below_size bB));replace BK124:=bkb BK124 hb;replace HB:=Mk (below_step bB hb);(try clear hb);(try clear hb2);(try clear hk);(try clear hi);(try clear ho0);obtain ⟨Ao60,co60,eo60⟩:=Kd.R_slice HO127.out;(first|subst eo60|(injection eo60 with f1_ f2_ f3_;have f4_:=f1_.symm;have f5_:=f3_.symm;clear f1_ f2_ f3_;subst f4_;subst f5_));have p128:0≤((ji9):Int):=of_decide_eq_true aS;have q128:(ji9) < (t125.length:Int):=of_decide_eq_true aS;obtain ⟨ad128,e128,hx128_0⟩:=Kd.at_string (Kd.R_reads' HO127.out).2.2 (ji9) p128 q128;cases e128
           replace p128:=eq_true p128;replace q128:=eq_true q128;refine hK.out _ _ ⟨(blk_cell BK124.out 0).trans rfl,(blk_cell BK124.out 1).trans rfl,(blk_cell BK124.out 2).trans rfl,(blk_cell BK124.out 3).trans rfl,(blk_cell BK124.out 4).trans rfl,(blk_cell BK124.out 5).trans rfl,(blk_cell BK124.out 6).trans rfl,(blk_cell BK124.out 7).trans rfl,(blk_cell BK124.out 8).trans rfl⟩ (fun hHeld=>?_);clear hK K;refine norm_ (a':=?_) ?_ ?_;rotate_left
           ·show Act.put _ (some 16) _=_
            simp only [Act.put,List.setIfInBounds_toArray,List.set_cons_zero,List.set_cons_succ,i64_w,i32_w];rfl
           refine pure_ (i:=4) (N:=some 20) (v:=?_) (a':=?_) (fl 7 31) rfl rfl kR fI (Or.inl ⟨by rfl,?_⟩) ?_ ?_;rotate_left
           ·intro w'
            go_simp
            with_reducible rfl
           rotate_left
           ·exact pA
           refine look_ (i:=5) (N:=some 21) (v:=?_) (a':=?_) (fl 7 63) rfl rfl kR (by decide) (by rfl) ?_ hHeld ?_ ?_;rotate_left
           ·skip
            go_simp
            with_reducible rfl
           rotate_left
           ·exact pA
           refine pure_ (i:=6) (N:=some 3) (v:=?_) (a':=?_) (fl 7 127) rfl rfl kR fI (Or.inl ⟨by rfl,?_⟩) ?_ ?_;rotate_left
           ·intro w'
            go_simp
            with_reducible rfl
           rotate_left
           ·exact pA
           refine done_ kR ?_;obtain ⟨_,_,_,_,_,_,_,_,_,_,_,_,_,_,_,_,_,_⟩:=z9 BK124;try go_wp2_with (first|((with_reducible refine gate_callee (f:=22) rfl ?_);refine goesL_ (some 24) rfl rfl Tryz.func22 kR rfl #[.int .i64 a0_1] rfl mA ?_;(with_reducible refine (strconv_Itoa.calls a0_1 t129 _ A12.out (Glob.below HG_.out bB)).mono ?_);rintro e w62 ⟨rfl,hb⟩;refine ⟨_,rfl,?_⟩;replace HO127:=Mk (Kd.R_below (rU HO127) hb);replace BK124:=bkb BK124 hb;replace HB:=Mk (below_step bB hb);clear hb;obtain ⟨_,_,_,_,_,_,_,_,_,_,_,_,_,_,_,_,_,_⟩:=z9 BK124))
           go_loopg [5,72] kj1 (fun kq v5 v72 w'=>∃ (x5_2:List ByteArray) (x72_2:Int),v72 = .int .i64 x72_2∧Aside0 (req_PredText.l0 kq (rdOf ByteArray.empty t125 (ji9)) x5_2 l0_8 (l0_8.length:Int) x72_2=some r)∧Aside0 (kq≤kj1)∧Aside0 (Kd.R Kd.string 9 w' w.heap.size (fun _=>True) v5 x5_2)∧Aside0 (w'.heap[gb124]?=some (.cells #[.int .i64 a0_0,.int .i64 a0_1,.int .i64 a0_2,.int .i64 a0_3,.string a0_4,.complex .f64 a0_5.1 a0_5.2,.complex .f64 a0_6.1 a0_6.2,.complex .f64 a0_7.1 a0_7.2,(.slice A0_8 l0_8.length c0_8)] 30 (0,0)))∧Aside0 (Below w.heap.size w w'))
           case atStart=>exact ⟨(([]:List ByteArray)),(0),sS,H',⟨Nat.le_refl _⟩,⟨by first|exact Kd.R_nil _ _ _ _ _|exact Kd.N_nil _ _ _ _ _|exact Kd.V_nil _ _ _ _ _|exact Kd.Q_nil _ _ _ _ _|exact Kd.S_nil _ _ _ _ _⟩,⟨by (with_reducible repeat refine bU ?_);exact BK124.out⟩,⟨bB⟩⟩
           case round=>
            clear H';try clear p1
            try clear q1
            try clear hx1
            try clear c2
            try clear p2
            try clear c3
            try clear c4
            try clear c5
            try clear p12
            try clear q12
            try clear hx12
            try clear c22
            try clear c23
            try clear c29
            try clear c29b0
            try clear c29b1
            try clear c30
            try clear c31
            try clear c31b0
            try clear c31b1
            try clear c31b2
            try clear c33
            try clear c33b0
            try clear c33b1
            try clear c33b2
            try clear c34
            try clear c34b0
            try clear c34b1
            try clear c34b2
            try clear c36
            try clear c36b0
            try clear c36b1
            try clear c36b2
            try clear c46
            try clear c46b0
            try clear c47
            try clear c47b0
            try clear c47b1
            try clear c47b2
            try clear c48
            try clear c48b0
            try clear c48b1
            try clear c48b2
            try clear c50
            try clear c50b0
            try clear c50b1
            try clear c50b2
            try clear hx128_0
            try clear p128
            try clear q128
            obtain ⟨x5_2,x72_2,rfl,HA,HK2,HO_5,BK124,HB⟩:=hrel
            cases gk with
            |zero=>exact absurd HA.out (by simp [req_PredText.l0])
            |succ k2=>
             have H:=HA.out;clear HA;simp only [req_PredText.l0] at H;by_cases c64:x72_2 < (l0_8.length:Int)
             ·rw [if_pos c64] at H
              have c64b0:=decide_eq_true c64;clear c64;by_cases c65:0≤x72_2
              ·rw [if_pos c65] at H
               have c65b0:=decide_eq_true c65;clear c65;by_cases c66:x72_2 < (l0_8.length:Int)
               ·rw [if_pos c66] at H
                have c66b0:=decide_eq_true c66;clear c66;replace H:=Option.bind_eq_some_iff.mp H;obtain ⟨t135,A670,H⟩:=H;try dsimp only at H
                have A67:=Mk A670;clear A670;by_cases c68:x5_2.length < 8796093022208
                ·rw [if_pos c68] at H
                 have LMc68:=Mk c68;clear c68;obtain ⟨y136,hy136⟩:∃ y_:List ByteArray,y_=(x5_2++[t135]):=⟨_,rfl⟩;replace H:(req_PredText.l0 k2 (rdOf ByteArray.empty t125 (ji9)) y136 l0_8 (l0_8.length:Int) (wrap64 (x72_2+1)))=some r:=by first|(rw [hy136];with_reducible exact H)|(have H2_:=(Option.bind_some _ _).symm.trans H;rw [hy136];with_reducible exact H2_)|(have H2_:=(Option.bind_some _ _).symm.trans H;with_reducible exact H2_)|with_reducible exact H|(rw [hy136];exact H)|exact H
                 have Ny136:=Mk hy136;clear hy136;have H':=Mk H;clear H;have p133:0≤(x72_2:Int):=of_decide_eq_true aS;have q133:x72_2 < (l0_8.length:Int):=of_decide_eq_true aS;obtain ⟨ad133,A133_8,c133_8,e133,hx133_0,hx133_1,hx133_2,hx133_3,hx133_4,hx133_5,hx133_6,hx133_7,hx133_8,hl133_8,hi133_8⟩:=at_T30 HR0_8.out x72_2 p133 q133;cases e133
                 replace hx133_0:=(HB.out.cell (World.block_lt_of_cell? w _ hx133_0)).trans hx133_0;replace hx133_1:=(HB.out.cell (World.block_lt_of_cell? w _ hx133_1)).trans hx133_1;replace hx133_2:=(HB.out.cell (World.block_lt_of_cell? w _ hx133_2)).trans hx133_2;replace hx133_3:=(HB.out.cell (World.block_lt_of_cell? w _ hx133_3)).trans hx133_3;replace hx133_4:=(HB.out.cell (World.block_lt_of_cell? w _ hx133_4)).trans hx133_4;replace hx133_5:=(HB.out.cell (World.block_lt_of_cell? w _ hx133_5)).trans hx133_5;replace hx133_6:=(HB.out.cell (World.block_lt_of_cell? w _ hx133_6)).trans hx133_6;replace hx133_7:=(HB.out.cell (World.block_lt_of_cell? w _ hx133_7)).trans hx133_7;replace hx133_8:=(HB.out.cell (World.block_lt_of_cell? w _ hx133_8)).trans hx133_8;have HR133_8:=Mk hi133_8;have HC133_8:=Mk hl133_8;clear hi133_8 hl133_8;replace p133:=eq_true p133;replace q133:=eq_true q133
                 go_wp2_with (first|((with_reducible refine gate_dst (N:=7) rfl ?_);refine boxE 7 #[.int .i64 0,.int .i64 0,.int .i64 0,.int .i64 0,.string (⟨#[]⟩:ByteArray),.complex .f64 0 0,.complex .f64 0 0,.complex .f64 0 0,.slice none 0 0] 30 ?_;intro gb134 hg w69 hbox hb;have BK134:=Mk (hbox);have GW134:=Mk ((gS:w.heap.size≤gb134));have GE134:=Mk ((gS:w.heap.size≤gb134));have NB124_134:=(gL BK124:Aside0 (gb124≠gb134));have NB134_124:=(gG BK124:Aside0 (gb134≠gb124));replace HO_5:=Mk (Kd.R_below (rU HO_5) hb);replace BK124:=bkb BK124 hb;replace HB:=Mk (below_step bB hb);clear hb hbox hg;have hnb70:=NB134_124.out;have hnc70:=NB124_134.out;obtain ⟨_,_,_,_,_,_,_,_,_,_,_,_,_,_,_,_,_,_⟩:=z9 BK134)|((with_reducible refine gate_callee (f:=10) rfl ?_);refine goesL_ (some 78) rfl rfl Tryz.func10 kR rfl #[.agg #[.int .i64 ((rd_T30 l0_8 x72_2).f0),.int .i64 ((rd_T30 l0_8 x72_2).f1),.int .i64 ((rd_T30 l0_8 x72_2).f2.f0),.int .i64 ((rd_T30 l0_8 x72_2).f2.f1),.string ((rd_T30 l0_8 x72_2).f2.f2),.complex .f64 (((rd_T30 l0_8 x72_2).f2.f3).1) (((rd_T30 l0_8 x72_2).f2.f3).2),.complex .f64 (((rd_T30 l0_8 x72_2).f3.f0).1) (((rd_T30 l0_8 x72_2).f3.f0).2),.complex .f64 (((rd_T30 l0_8 x72_2).f3.f1).1) (((rd_T30 l0_8 x72_2).f3.f1).2),.slice A133_8 ((rd_T30 l0_8 x72_2).f4).length c133_8]] rfl mA ?_;(with_reducible refine (ih k2 (by have:=HJ1.out;have:=HK2.out;omega) ((rd_T30 l0_8 x72_2).f0) ((rd_T30 l0_8 x72_2).f1) ((rd_T30 l0_8 x72_2).f2.f0) ((rd_T30 l0_8 x72_2).f2.f1) ((rd_T30 l0_8 x72_2).f2.f2) ((rd_T30 l0_8 x72_2).f2.f3) ((rd_T30 l0_8 x72_2).f3.f0) ((rd_T30 l0_8 x72_2).f3.f1) _ _ ((rd_T30 l0_8 x72_2).f4) t135 _ ?side1 ?side2 A67.out (Glob.below HG_.out bB)).mono ?_);(case side1=>exact Kd.C_below HR133_8.out bB);(case side2=>exact HC133_8.out);rintro e w72 ⟨rfl,hb⟩;refine ⟨_,rfl,?_⟩;replace HO_5:=Mk (Kd.R_below (by (repeat apply Rup);exact (Kd.R_mono (Kd.R_far (p:=⟨gb134,8,none⟩) (Kd.R_far (p:=⟨gb134,7,none⟩) (Kd.R_far (p:=⟨gb134,6,none⟩) (Kd.R_far (p:=⟨gb134,5,none⟩) (Kd.R_far (p:=⟨gb134,4,none⟩) (Kd.R_far (p:=⟨gb134,3,none⟩) (Kd.R_far (p:=⟨gb134,2,none⟩) (Kd.R_far (p:=⟨gb134,1,none⟩) (Kd.R_far (p:=⟨gb134,0,none⟩) (Kd.R_types HO_5.out BK134.out (by decide)) (fun _ hk=>hk.2) (.int .i64 ((rd_T30 l0_8 x72_2).f0))) (fun _ hk=>hk.2) (.int .i64 ((rd_T30 l0_8 x72_2).f1))) (fun _ hk=>hk.2) (.int .i64 ((rd_T30 l0_8 x72_2).f2.f0))) (fun _ hk=>hk.2) (.int .i64 ((rd_T30 l0_8 x72_2).f2.f1))) (fun _ hk=>hk.2) (.string ((rd_T30 l0_8 x72_2).f2.f2))) (fun _ hk=>hk.2) (.complex .f64 (((rd_T30 l0_8 x72_2).f2.f3).1) (((rd_T30 l0_8 x72_2).f2.f3).2))) (fun _ hk=>hk.2) (.complex .f64 (((rd_T30 l0_8 x72_2).f3.f0).1) (((rd_T30 l0_8 x72_2).f3.f0).2))) (fun _ hk=>hk.2) (.complex .f64 (((rd_T30 l0_8 x72_2).f3.f1).1) (((rd_T30 l0_8 x72_2).f3.f1).2))) (fun _ hk=>hk.2) (.slice A133_8 ((rd_T30 l0_8 x72_2).f4).length c133_8)) (fun _ h_=>h_.1))) hb);replace BK124:=bkb BK124 hb;replace BK134:=Mk (blk_below (g:=gb134) (o:=.cells #[.int .i64 ((rd_T30 l0_8 x72_2).f0),.int .i64 ((rd_T30 l0_8 x72_2).f1),.int .i64 ((rd_T30 l0_8 x72_2).f2.f0),.int .i64 ((rd_T30 l0_8 x72_2).f2.f1),.string ((rd_T30 l0_8 x72_2).f2.f2),.complex .f64 (((rd_T30 l0_8 x72_2).f2.f3).1) (((rd_T30 l0_8 x72_2).f2.f3).2),.complex .f64 (((rd_T30 l0_8 x72_2).f3.f0).1) (((rd_T30 l0_8 x72_2).f3.f0).2),.complex .f64 (((rd_T30 l0_8 x72_2).f3.f1).1) (((rd_T30 l0_8 x72_2).f3.f1).2),.slice A133_8 ((rd_T30 l0_8 x72_2).f4).length c133_8] 30 (0,0)) (bP BK134) hb);replace HB:=Mk (below_step bB hb);clear hb)|((with_reducible refine gate_builtin (b:=.append) (xs:=#[.tmp 76,.tmp 79]) rfl ?_);at_builtin;refine Kd.R_append Kd.string (w0:=w) w.heap.size rfl (.tmp 76) (.tmp 79) 35 9 (.string ⟨#[]⟩) 16 rfl Tryz.underlying35 info9 rfl (by decide) (by omega) u5 x5_2 t135 [.string t135] (fun _=>True) (fun _=>False) rfl rfl ?aP (fun _ hk=>hk.elim) ?aF ?aO ?aB ?aS ?aL ?_;(case aP=>exact rfl);(case aB=>exact bB);(case aF=>exact (fun _ _=>trivial));(case aO=>exact (rU HO_5));(case aS=>exact (below_size bB));(case aL=>have:=LMc68.out;omega);intro v137 w73 ho hb hg hat;rw [← Ny136.out] at ho;have n0_:=Mk (blk_grown (g:=gb124) (o:=.cells #[.int .i64 a0_0,.int .i64 a0_1,.int .i64 a0_2,.int .i64 a0_3,.string a0_4,.complex .f64 a0_5.1 a0_5.2,.complex .f64 a0_6.1 a0_6.2,.complex .f64 a0_7.1 a0_7.2,.slice (some ad133) l0_8.length c0_8] 30 (0,0)) (bK BK124) hg (Kd.R_ne HO_5.out BK124.out (by decide)));have n1_:=Mk (blk_grown (g:=gb134) (o:=.cells #[.int .i64 ((rd_T30 l0_8 x72_2).f0),.int .i64 ((rd_T30 l0_8 x72_2).f1),.int .i64 ((rd_T30 l0_8 x72_2).f2.f0),.int .i64 ((rd_T30 l0_8 x72_2).f2.f1),.string ((rd_T30 l0_8 x72_2).f2.f2),.complex .f64 (((rd_T30 l0_8 x72_2).f2.f3).1) (((rd_T30 l0_8 x72_2).f2.f3).2),.complex .f64 (((rd_T30 l0_8 x72_2).f3.f0).1) (((rd_T30 l0_8 x72_2).f3.f0).2),.complex .f64 (((rd_T30 l0_8 x72_2).f3.f1).1) (((rd_T30 l0_8 x72_2).f3.f1).2),.slice A133_8 ((rd_T30 l0_8 x72_2).f4).length c133_8] 30 (0,0)) (bK BK134) hg (Kd.R_ne HO_5.out BK134.out (by decide)));have n2_:=Mk (hb);have n3_:=Mk (ho);clear BK124;clear BK134;clear HB;clear HO_5;have BK124:=n0_;have BK134:=n1_;have HB:=n2_;have HO138:=n3_;clear n0_ n1_ n2_ n3_;clear ho hb hg hat))
                 first|go_roundg k2|(simp only [← hji9] at H' ⊢;go_roundg k2)
                 case measure=>have:=HJ1.out;have:=HK2.out;omega
                 case rel=>exact ⟨(y136),(wrap64 (x72_2+1)),sS,H',⟨by have:=HJ1.out;have:=HK2.out;omega⟩,⟨rU HO138⟩,⟨by (with_reducible repeat refine bU ?_);exact BK124.out⟩,⟨bB⟩⟩
                ·rw [if_neg c68] at H
                 exact absurd H (by simp)
               ·rw [if_neg c66] at H
                exact absurd H (by simp)
              ·rw [if_neg c65] at H
               exact absurd H (by simp)
             ·rw [if_neg c64] at H
              have c64b0:=decide_eq_false c64;clear c64;by_cases c74:(rdOf ByteArray.empty t125 (ji9)).size+1≤9223372036854775807
              ·rw [if_pos c74] at H
               have c74b0:=eq_true c74;have c74b1:=decide_eq_true c74;try have c74b2:(9223372036854775807 < (rdOf ByteArray.empty t125 (ji9)).size+1)=False:=eq_false (Nat.not_lt.2 c74)
               replace H:=Option.bind_eq_some_iff.mp H;obtain ⟨t139,A750,H⟩:=H;try dsimp only at H
               have A75:=Mk A750;clear A750;by_cases c76:(rdOf ByteArray.empty t125 (ji9)).size+1+t139.size≤9223372036854775807
               ·rw [if_pos c76] at H
                have c76b0:=eq_true c76;have c76b1:=decide_eq_true c76;try have c76b2:(9223372036854775807 < (rdOf ByteArray.empty t125 (ji9)).size+1+t139.size)=False:=eq_false (Nat.not_lt.2 c76)
                have c76b3:(9223372036854775807 < (rdOf ByteArray.empty t125 (ji9)).size+(1+t139.size))=False:=eq_false (by omega);by_cases c77:(rdOf ByteArray.empty t125 (ji9)).size+1+t139.size+1≤9223372036854775807
                ·rw [if_pos c77] at H
                 have c77b0:=eq_true c77;have c77b1:=decide_eq_true c77;try have c77b2:(9223372036854775807 < (rdOf ByteArray.empty t125 (ji9)).size+1+t139.size+1)=False:=eq_false (Nat.not_lt.2 c77)
                 obtain rfl:=Option.some.inj H;obtain ⟨Ao78,co78,eo78⟩:=Kd.R_slice HO_5.out;subst eo78
                 go_wp2_with (first|((with_reducible refine gate_callee (f:=21) rfl ?_);refine goesL_ (some 85) rfl rfl Tryz.func21 kR rfl #[.slice Ao78 x5_2.length co78,.string (⟨#[59]⟩:ByteArray)] rfl mA ?_;(with_reducible refine (strings_Join.calls _ _ x5_2 (⟨#[59]⟩:ByteArray) t139 _ ?side1 ?side2 A75.out).mono ?_);(case side1=>exact cU (Kd.R_reads' HO_5.out).2.2);(case side2=>exact (Kd.R_reads' HO_5.out).2.1);rintro e w79 ⟨rfl,hb⟩;refine ⟨_,rfl,?_⟩;replace HO_5:=Mk (Kd.R_below (rU HO_5) hb);replace BK124:=bkb BK124 hb;replace HB:=Mk (below_step bB hb);clear hb))
                 go_ret
                 exact ⟨by first|rfl|(simp [errW_none,errW_some]<;>rfl)|(simp only [← hji9];first|rfl|(simp [errW_none,errW_some]<;>rfl))|(simp [*,errW_none,errW_some]<;>rfl),bB⟩
                ·rw [if_neg c77] at H
                 exact absurd H (by simp)
               ·rw [if_neg c76] at H
                exact absurd H (by simp)
              ·rw [if_neg c74] at H
               exact absurd H (by simp)
      ·rw [if_neg c13] at H
       exact absurd H (by simp)
     ·rw [if_neg c11] at H
      exact absurd H (by simp)
    ·rw [if_neg c10] at H
     exact absurd H (by simp)
end Go.Proofs.YtcpjlbdjnaaaiaaGreatDoor.PAll
