import Derived.Test.YtcpjlbdjnaaaiaaGreatDoorPAllx9
namespace Go.Proofs.YtcpjlbdjnaaaiaaGreatDoor.PAll
open Go.Proofs.YtcpjlbdjnaaaiaaGreatDoor.Help
open Go.RowKit Go.Proofs.YtcpjlbdjnaaaiaaGreatDoorW.PrintWords Go.Proofs.YtcpjlbdjnaaaiaaGreatDoorW.PrintLast Go.Proofs.YtcpjlbdjnaaaiaaGreatDoorW.PrintMore
set_option linter.unusedVariables false
set_option linter.unusedSimpArgs false
mutual
def req_parts.l0:Nat→List (S30)→Int→Int→Option (Int)
 | 0,_,_,_=>none
 |k+1,x13,x14,x15=>if x15 < x14 then (if 0≤x15 then (if x15 < (x13.length:Int) then ((req_parts.f k ((rd_T30 x13 x15).f0) ((rd_T30 x13 x15).f1) ((rd_T30 x13 x15).f2.f0) ((rd_T30 x13 x15).f2.f1) ((rd_T30 x13 x15).f2.f2) ((rd_T30 x13 x15).f2.f3) ((rd_T30 x13 x15).f3.f0) ((rd_T30 x13 x15).f3.f1) ((rd_T30 x13 x15).f4)).bind fun t179=>(if t179=0 then (req_parts.l0 k x13 x14 (wrap64 (x15+1))) else (some t179))) else (none)) else (none)) else (some 0)
def req_parts.f:Nat→Int→Int→Int→Int→ByteArray→(Nat×Nat)→(Nat×Nat)→(Nat×Nat)→List (S30)→Option (Int)
 | 0,_,_,_,_,_,_,_,_,_=>none
 |k+1,a0_0,a0_1,a0_2,a0_3,a0_4,a0_5,a0_6,a0_7,l0_8=>(req_part.f k a0_0 a0_1 a0_2 a0_3 a0_4 a0_5 a0_6 a0_7 l0_8).bind fun t176=>(if t176=0 then (req_parts.l0 k l0_8 (l0_8.length:Int) 0) else (some t176))
end
set_option maxHeartbeats 8000000 in
set_option maxRecDepth 100000 in
theorem req_parts.calls (k:Nat):∀ (a0_0:Int) (a0_1:Int) (a0_2:Int) (a0_3:Int) (a0_4:ByteArray) (a0_5:(Nat×Nat)) (a0_6:(Nat×Nat)) (a0_7:(Nat×Nat)) (A0_8:Option Addr) (c0_8:Nat) (l0_8:List (S30)) (r:Int) (w:World) (hr0_8:Kd.C k30 w A0_8 l0_8.length l0_8) (hc0_8:l0_8.length≤c0_8) (h:req_parts.f k a0_0 a0_1 a0_2 a0_3 a0_4 a0_5 a0_6 a0_7 l0_8=some r),
  Calls Tryz.prog 50 #[.agg #[.int .i64 a0_0,.int .i64 a0_1,.int .i64 a0_2,.int .i64 a0_3,.string a0_4,.complex .f64 a0_5.1 a0_5.2,.complex .f64 a0_6.1 a0_6.2,.complex .f64 a0_7.1 a0_7.2,.slice A0_8 l0_8.length c0_8]] w fun e w'=>e = .returned (.int .i64 r)∧Below w.heap.size w w':=by
 induction k using Nat.strongRecOn with
 |_ k ih=>
 intro a0_0 a0_1 a0_2 a0_3 a0_4 a0_5 a0_6 a0_7 A0_8 c0_8 l0_8 r w hr0_8 hc0_8 h
 cases k with
 |zero=>exact absurd h (by simp [req_parts.f])
 |succ k=>
 simp only [req_parts.f] at h;have hu30:=Tryz.underlying30;have HR0_8:=Mk hr0_8;have HC0_8:=Mk hc0_8;clear hr0_8 hc0_8;have HB:=Mk (Below.refl w.heap.size w);have H:((req_part.f k a0_0 a0_1 a0_2 a0_3 a0_4 a0_5 a0_6 a0_7 l0_8).bind fun t176=>(if t176=0 then (req_parts.l0 k l0_8 (l0_8.length:Int) 0) else (some t176)))=some r:=h;clear h;replace H:=Option.bind_eq_some_iff.mp H;obtain ⟨t176,A20,H⟩:=H;try dsimp only at H
 have A2:=Mk A20;clear A20;by_cases c3:t176=0
 ·rw [if_pos c3] at H
  have c3b0:=beq_iff_eq.mpr c3;have c3b1:=bne_eq_false_iff_eq.mpr c3;clear c3;have H':=Mk H;clear H;go_enter Tryz.func50,Tryz.ntmps50
  go_wp2_with (first|((with_reducible refine gate_dst (N:=1) rfl ?_);refine boxE 1 #[.int .i64 a0_0,.int .i64 a0_1,.int .i64 a0_2,.int .i64 a0_3,.string a0_4,.complex .f64 a0_5.1 a0_5.2,.complex .f64 a0_6.1 a0_6.2,.complex .f64 a0_7.1 a0_7.2,.slice A0_8 l0_8.length c0_8] 30 ?_;intro gb175 hg w4 hbox hb;have BK175:=Mk (hbox);have GW175:=Mk ((gS:w.heap.size≤gb175));have GE175:=Mk ((gS:w.heap.size≤gb175));replace HB:=Mk (below_step bB hb);clear hb hbox hg;obtain ⟨_,_,_,_,_,_,_,_,_,_,_,_,_,_,_,_,_,_⟩:=z9 BK175)|((with_reducible refine gate_callee (f:=75) rfl ?_);refine goesL_ (some 8) rfl rfl Tryz.func75 kR rfl #[.agg #[.int .i64 a0_0,.int .i64 a0_1,.int .i64 a0_2,.int .i64 a0_3,.string a0_4,.complex .f64 a0_5.1 a0_5.2,.complex .f64 a0_6.1 a0_6.2,.complex .f64 a0_7.1 a0_7.2,.slice A0_8 l0_8.length c0_8]] rfl mA ?_;(with_reducible refine (req_part.calls k a0_0 a0_1 a0_2 a0_3 a0_4 a0_5 a0_6 a0_7 _ _ l0_8 t176 _ ?side1 ?side2 A2.out).mono ?_);(case side1=>exact cU (Kd.C_below HR0_8.out HB.out));(case side2=>exact HC0_8.out);rintro e w6 ⟨rfl,hb⟩;refine ⟨_,rfl,?_⟩;replace BK175:=bkb BK175 hb;replace HB:=Mk (below_step bB hb);clear hb;obtain ⟨_,_,_,_,_,_,_,_,_,_,_,_,_,_,_,_,_,_⟩:=z9 BK175))
  go_loopg [15] k (fun kq v15 w'=>∃ (x15_1:Int),v15 = .int .i64 x15_1∧Aside0 (req_parts.l0 kq l0_8 (l0_8.length:Int) x15_1=some r)∧Aside0 (kq≤k)∧Aside0 (w'.heap[gb175]?=some (.cells #[.int .i64 a0_0,.int .i64 a0_1,.int .i64 a0_2,.int .i64 a0_3,.string a0_4,.complex .f64 a0_5.1 a0_5.2,.complex .f64 a0_6.1 a0_6.2,.complex .f64 a0_7.1 a0_7.2,(.slice A0_8 l0_8.length c0_8)] 30 (0,0)))∧Aside0 (Below w.heap.size w w'))
  case atStart=>exact ⟨(0),sS,H',⟨Nat.le_refl _⟩,⟨by (with_reducible repeat refine bU ?_);exact BK175.out⟩,⟨bB⟩⟩
  case round=>
   clear H';try clear p2
   try clear c3
   try clear c3b0
   try clear c3b1
   try clear c5
   try clear c7
   obtain ⟨x15_1,rfl,HA,HK1,BK175,HB⟩:=hrel
   cases gk with
   |zero=>exact absurd HA.out (by simp [req_parts.l0])
   |succ k1=>
    have H:=HA.out;clear HA;simp only [req_parts.l0] at H;by_cases c8:x15_1 < (l0_8.length:Int)
    ·rw [if_pos c8] at H
     have c8b0:=decide_eq_true c8;clear c8;by_cases c9:0≤x15_1
     ·rw [if_pos c9] at H
      have c9b0:=decide_eq_true c9;clear c9;by_cases c10:x15_1 < (l0_8.length:Int)
      ·rw [if_pos c10] at H
       have c10b0:=decide_eq_true c10;clear c10;replace H:=Option.bind_eq_some_iff.mp H;obtain ⟨t179,A110,H⟩:=H;try dsimp only at H
       have A11:=Mk A110;clear A110;by_cases c12:t179=0
       ·rw [if_pos c12] at H
        have c12b0:=beq_iff_eq.mpr c12;have c12b1:=bne_eq_false_iff_eq.mpr c12;clear c12;have H':=Mk H;clear H;have p177:0≤(x15_1:Int):=of_decide_eq_true aS;have q177:x15_1 < (l0_8.length:Int):=of_decide_eq_true aS;obtain ⟨ad177,A177_8,c177_8,e177,hx177_0,hx177_1,hx177_2,hx177_3,hx177_4,hx177_5,hx177_6,hx177_7,hx177_8,hl177_8,hi177_8⟩:=at_T30 HR0_8.out x15_1 p177 q177;cases e177
        replace hx177_0:=(HB.out.cell (World.block_lt_of_cell? w _ hx177_0)).trans hx177_0;replace hx177_1:=(HB.out.cell (World.block_lt_of_cell? w _ hx177_1)).trans hx177_1;replace hx177_2:=(HB.out.cell (World.block_lt_of_cell? w _ hx177_2)).trans hx177_2;replace hx177_3:=(HB.out.cell (World.block_lt_of_cell? w _ hx177_3)).trans hx177_3;replace hx177_4:=(HB.out.cell (World.block_lt_of_cell? w _ hx177_4)).trans hx177_4;replace hx177_5:=(HB.out.cell (World.block_lt_of_cell? w _ hx177_5)).trans hx177_5;replace hx177_6:=(HB.out.cell (World.block_lt_of_cell? w _ hx177_6)).trans hx177_6;replace hx177_7:=(HB.out.cell (World.block_lt_of_cell? w _ hx177_7)).trans hx177_7;replace hx177_8:=(HB.out.cell (World.block_lt_of_cell? w _ hx177_8)).trans hx177_8;have HR177_8:=Mk hi177_8;have HC177_8:=Mk hl177_8;clear hi177_8 hl177_8;replace p177:=eq_true p177;replace q177:=eq_true q177
        go_wp2_with (first|((with_reducible refine gate_dst (N:=5) rfl ?_);refine boxE 5 #[.int .i64 0,.int .i64 0,.int .i64 0,.int .i64 0,.string (⟨#[]⟩:ByteArray),.complex .f64 0 0,.complex .f64 0 0,.complex .f64 0 0,.slice none 0 0] 30 ?_;intro gb178 hg w13 hbox hb;have BK178:=Mk (hbox);have GW178:=Mk ((gS:w.heap.size≤gb178));have GE178:=Mk ((gS:w.heap.size≤gb178));have NB175_178:=(gL BK175:Aside0 (gb175≠gb178));have NB178_175:=(gG BK175:Aside0 (gb178≠gb175));replace BK175:=bkb BK175 hb;replace HB:=Mk (below_step bB hb);clear hb hbox hg;have hnb14:=NB178_175.out;have hnc14:=NB175_178.out;obtain ⟨_,_,_,_,_,_,_,_,_,_,_,_,_,_,_,_,_,_⟩:=z9 BK178)|((with_reducible refine gate_callee (f:=50) rfl ?_);refine goesL_ (some 20) rfl rfl Tryz.func50 kR rfl #[.agg #[.int .i64 ((rd_T30 l0_8 x15_1).f0),.int .i64 ((rd_T30 l0_8 x15_1).f1),.int .i64 ((rd_T30 l0_8 x15_1).f2.f0),.int .i64 ((rd_T30 l0_8 x15_1).f2.f1),.string ((rd_T30 l0_8 x15_1).f2.f2),.complex .f64 (((rd_T30 l0_8 x15_1).f2.f3).1) (((rd_T30 l0_8 x15_1).f2.f3).2),.complex .f64 (((rd_T30 l0_8 x15_1).f3.f0).1) (((rd_T30 l0_8 x15_1).f3.f0).2),.complex .f64 (((rd_T30 l0_8 x15_1).f3.f1).1) (((rd_T30 l0_8 x15_1).f3.f1).2),.slice A177_8 ((rd_T30 l0_8 x15_1).f4).length c177_8]] rfl mA ?_;(with_reducible refine (ih k1 (by have:=HK1.out;omega) ((rd_T30 l0_8 x15_1).f0) ((rd_T30 l0_8 x15_1).f1) ((rd_T30 l0_8 x15_1).f2.f0) ((rd_T30 l0_8 x15_1).f2.f1) ((rd_T30 l0_8 x15_1).f2.f2) ((rd_T30 l0_8 x15_1).f2.f3) ((rd_T30 l0_8 x15_1).f3.f0) ((rd_T30 l0_8 x15_1).f3.f1) _ _ ((rd_T30 l0_8 x15_1).f4) t179 _ ?side1 ?side2 A11.out).mono ?_);(case side1=>exact Kd.C_below HR177_8.out bB);(case side2=>exact HC177_8.out);rintro e w16 ⟨rfl,hb⟩;refine ⟨_,rfl,?_⟩;replace BK175:=bkb BK175 hb;replace BK178:=Mk (blk_below (g:=gb178) (o:=.cells #[.int .i64 ((rd_T30 l0_8 x15_1).f0),.int .i64 ((rd_T30 l0_8 x15_1).f1),.int .i64 ((rd_T30 l0_8 x15_1).f2.f0),.int .i64 ((rd_T30 l0_8 x15_1).f2.f1),.string ((rd_T30 l0_8 x15_1).f2.f2),.complex .f64 (((rd_T30 l0_8 x15_1).f2.f3).1) (((rd_T30 l0_8 x15_1).f2.f3).2),.complex .f64 (((rd_T30 l0_8 x15_1).f3.f0).1) (((rd_T30 l0_8 x15_1).f3.f0).2),.complex .f64 (((rd_T30 l0_8 x15_1).f3.f1).1) (((rd_T30 l0_8 x15_1).f3.f1).2),.slice A177_8 ((rd_T30 l0_8 x15_1).f4).length c177_8] 30 (0,0)) (bP BK178) hb);replace HB:=Mk (below_step bB hb);clear hb))
        go_roundg k1
        case measure=>have:=HK1.out;omega
        case rel=>exact ⟨(wrap64 (x15_1+1)),sS,H',⟨by have:=HK1.out;omega⟩,⟨by (with_reducible repeat refine bU ?_);exact BK175.out⟩,⟨bB⟩⟩
       ·rw [if_neg c12] at H
        have c12b0:=beq_eq_false_iff_ne.mpr c12;have c12b1:=bne_iff_ne.mpr c12;obtain rfl:=Option.some.inj H;have p177:0≤(x15_1:Int):=of_decide_eq_true aS;have q177:x15_1 < (l0_8.length:Int):=of_decide_eq_true aS;obtain ⟨ad177,A177_8,c177_8,e177,hx177_0,hx177_1,hx177_2,hx177_3,hx177_4,hx177_5,hx177_6,hx177_7,hx177_8,hl177_8,hi177_8⟩:=at_T30 HR0_8.out x15_1 p177 q177;cases e177
        replace hx177_0:=(HB.out.cell (World.block_lt_of_cell? w _ hx177_0)).trans hx177_0;replace hx177_1:=(HB.out.cell (World.block_lt_of_cell? w _ hx177_1)).trans hx177_1;replace hx177_2:=(HB.out.cell (World.block_lt_of_cell? w _ hx177_2)).trans hx177_2;replace hx177_3:=(HB.out.cell (World.block_lt_of_cell? w _ hx177_3)).trans hx177_3;replace hx177_4:=(HB.out.cell (World.block_lt_of_cell? w _ hx177_4)).trans hx177_4;replace hx177_5:=(HB.out.cell (World.block_lt_of_cell? w _ hx177_5)).trans hx177_5;replace hx177_6:=(HB.out.cell (World.block_lt_of_cell? w _ hx177_6)).trans hx177_6;replace hx177_7:=(HB.out.cell (World.block_lt_of_cell? w _ hx177_7)).trans hx177_7;replace hx177_8:=(HB.out.cell (World.block_lt_of_cell? w _ hx177_8)).trans hx177_8;have HR177_8:=Mk hi177_8;have HC177_8:=Mk hl177_8;clear hi177_8 hl177_8;replace p177:=eq_true p177;replace q177:=eq_true q177
        go_wp2_with (first|((with_reducible refine gate_dst (N:=5) rfl ?_);refine boxE 5 #[.int .i64 0,.int .i64 0,.int .i64 0,.int .i64 0,.string (⟨#[]⟩:ByteArray),.complex .f64 0 0,.complex .f64 0 0,.complex .f64 0 0,.slice none 0 0] 30 ?_;intro gb178 hg w17 hbox hb;have BK178:=Mk (hbox);have GW178:=Mk ((gS:w.heap.size≤gb178));have GE178:=Mk ((gS:w.heap.size≤gb178));have NB175_178:=(gL BK175:Aside0 (gb175≠gb178));have NB178_175:=(gG BK175:Aside0 (gb178≠gb175));replace BK175:=bkb BK175 hb;replace HB:=Mk (below_step bB hb);clear hb hbox hg;have hnb18:=NB178_175.out;have hnc18:=NB175_178.out;obtain ⟨_,_,_,_,_,_,_,_,_,_,_,_,_,_,_,_,_,_⟩:=z9 BK178)|((with_reducible refine gate_callee (f:=50) rfl ?_);refine goesL_ (some 20) rfl rfl Tryz.func50 kR rfl #[.agg #[.int .i64 ((rd_T30 l0_8 x15_1).f0),.int .i64 ((rd_T30 l0_8 x15_1).f1),.int .i64 ((rd_T30 l0_8 x15_1).f2.f0),.int .i64 ((rd_T30 l0_8 x15_1).f2.f1),.string ((rd_T30 l0_8 x15_1).f2.f2),.complex .f64 (((rd_T30 l0_8 x15_1).f2.f3).1) (((rd_T30 l0_8 x15_1).f2.f3).2),.complex .f64 (((rd_T30 l0_8 x15_1).f3.f0).1) (((rd_T30 l0_8 x15_1).f3.f0).2),.complex .f64 (((rd_T30 l0_8 x15_1).f3.f1).1) (((rd_T30 l0_8 x15_1).f3.f1).2),.slice A177_8 ((rd_T30 l0_8 x15_1).f4).length c177_8]] rfl mA ?_;(with_reducible refine (ih k1 (by have:=HK1.out;omega) ((rd_T30 l0_8 x15_1).f0) ((rd_T30 l0_8 x15_1).f1) ((rd_T30 l0_8 x15_1).f2.f0) ((rd_T30 l0_8 x15_1).f2.f1) ((rd_T30 l0_8 x15_1).f2.f2) ((rd_T30 l0_8 x15_1).f2.f3) ((rd_T30 l0_8 x15_1).f3.f0) ((rd_T30 l0_8 x15_1).f3.f1) _ _ ((rd_T30 l0_8 x15_1).f4) t179 _ ?side1 ?side2 A11.out).mono ?_);(case side1=>exact Kd.C_below HR177_8.out bB);(case side2=>exact HC177_8.out);rintro e w20 ⟨rfl,hb⟩;refine ⟨_,rfl,?_⟩;replace BK175:=bkb BK175 hb;replace BK178:=Mk (blk_below (g:=gb178) (o:=.cells #[.int .i64 ((rd_T30 l0_8 x15_1).f0),.int .i64 ((rd_T30 l0_8 x15_1).f1),.int .i64 ((rd_T30 l0_8 x15_1).f2.f0),.int .i64 ((rd_T30 l0_8 x15_1).f2.f1),.string ((rd_T30 l0_8 x15_1).f2.f2),.complex .f64 (((rd_T30 l0_8 x15_1).f2.f3).1) (((rd_T30 l0_8 x15_1).f2.f3).2),.complex .f64 (((rd_T30 l0_8 x15_1).f3.f0).1) (((rd_T30 l0_8 x15_1).f3.f0).2),.complex .f64 (((rd_T30 l0_8 x15_1).f3.f1).1) (((rd_T30 l0_8 x15_1).f3.f1).2),.slice A177_8 ((rd_T30 l0_8 x15_1).f4).length c177_8] 30 (0,0)) (bP BK178) hb);replace HB:=Mk (below_step bB hb);clear hb))
        go_ret
        exact ⟨eW,bB⟩
      ·rw [if_neg c10] at H
       exact absurd H (by simp)
     ·rw [if_neg c9] at H
      exact absurd H (by simp)
    ·rw [if_neg c8] at H
     have c8b0:=decide_eq_false c8;clear c8;obtain rfl:=Option.some.inj H
     go_wp2
     go_ret
     exact ⟨eW,bB⟩
 ·rw [if_neg c3] at H
  have c3b0:=beq_eq_false_iff_ne.mpr c3;have c3b1:=bne_iff_ne.mpr c3;obtain rfl:=Option.some.inj H;go_enter Tryz.func50,Tryz.ntmps50
  go_wp2_with (first|((with_reducible refine gate_dst (N:=1) rfl ?_);refine boxE 1 #[.int .i64 a0_0,.int .i64 a0_1,.int .i64 a0_2,.int .i64 a0_3,.string a0_4,.complex .f64 a0_5.1 a0_5.2,.complex .f64 a0_6.1 a0_6.2,.complex .f64 a0_7.1 a0_7.2,.slice A0_8 l0_8.length c0_8] 30 ?_;intro gb175 hg w21 hbox hb;have BK175:=Mk (hbox);have GW175:=Mk ((gS:w.heap.size≤gb175));have GE175:=Mk ((gS:w.heap.size≤gb175));replace HB:=Mk (below_step bB hb);clear hb hbox hg;obtain ⟨_,_,_,_,_,_,_,_,_,_,_,_,_,_,_,_,_,_⟩:=z9 BK175)|((with_reducible refine gate_callee (f:=75) rfl ?_);refine goesL_ (some 8) rfl rfl Tryz.func75 kR rfl #[.agg #[.int .i64 a0_0,.int .i64 a0_1,.int .i64 a0_2,.int .i64 a0_3,.string a0_4,.complex .f64 a0_5.1 a0_5.2,.complex .f64 a0_6.1 a0_6.2,.complex .f64 a0_7.1 a0_7.2,.slice A0_8 l0_8.length c0_8]] rfl mA ?_;(with_reducible refine (req_part.calls k a0_0 a0_1 a0_2 a0_3 a0_4 a0_5 a0_6 a0_7 _ _ l0_8 t176 _ ?side1 ?side2 A2.out).mono ?_);(case side1=>exact cU (Kd.C_below HR0_8.out HB.out));(case side2=>exact HC0_8.out);rintro e w23 ⟨rfl,hb⟩;refine ⟨_,rfl,?_⟩;replace BK175:=bkb BK175 hb;replace HB:=Mk (below_step bB hb);clear hb))
  go_ret
  exact ⟨eW,bB⟩
end Go.Proofs.YtcpjlbdjnaaaiaaGreatDoor.PAll
