import Derived.Test.YtcpjlbdjnaaaiaaGreatDoorPAllxM
import Derived.Test.YtcpjlbdjnaaaiaaGreatDoorPAllx24
namespace Go.Proofs.YtcpjlbdjnaaaiaaGreatDoor.PAll
open Go.Proofs.YtcpjlbdjnaaaiaaGreatDoor.Help
open Go.RowKit Go.Proofs.YtcpjlbdjnaaaiaaGreatDoorW.PrintWords Go.Proofs.YtcpjlbdjnaaaiaaGreatDoorW.PrintLast Go.Proofs.YtcpjlbdjnaaaiaaGreatDoorW.PrintMore
set_option linter.unusedVariables false
set_option linter.unusedSimpArgs false
attribute [local go_sem high] eqA117
def norialaw3_Same.l0:Nat→List (S25)→List (S117)→Int→Option (Bool)
 | 0,_,_,_=>none
 |k+1,x0,x1,x5=>if x5 < (x0.length:Int) then (if 0≤x5 then ((norialaw3_Of.f ((rd_T25 x0 x5).f0) ((rd_T25 x0 x5).f1) ((rd_T25 x0 x5).f2) ((rd_T25 x0 x5).f3)).bind fun bt579=>(if x5 < (x1.length:Int) then (if (!(bt579.1 == ((rd_T117 x1 x5).f0)) || (!(bt579.2.1 == ((rd_T117 x1 x5).f1)) || (!(bt579.2.2.1.toList == (((rd_T117 x1 x5).f2).toList)) || (!cEq bt579.2.2.2.1 bt579.2.2.2.2 (((rd_T117 x1 x5).f3).1) (((rd_T117 x1 x5).f3).2)))))=true then (some false) else (norialaw3_Same.l0 k x0 x1 (wrap64 (x5+1)))) else (none))) else (none)) else (some true)
def norialaw3_Same.f (k:Nat) (l0:List (S25)) (l1:List (S117)):Option (Bool):=if (l0.length:Int)=(l1.length:Int) then (norialaw3_Same.l0 k l0 l1 0) else (some false)
def norialaw3_Same.T6:Bool×List (List Nat×List Nat):=(true,[([],[]),([],[]),([0,1],[0,1]),([2],[2]),([3],[3]),([],[]),([],[]),([5,6],[5,6]),([7],[7]),([4,8],[4,8])])
def norialaw3_Same.B6:List Nat:=[0,0,3,7,15,0,0,96,224,511]
theorem norialaw3_Same.tab6:rtab .any (opsOf Tryz.f37 6)=norialaw3_Same.T6:=by kernel_rfl
theorem norialaw3_Same.bits6:waitsOk norialaw3_Same.T6.2 norialaw3_Same.B6=true:=by kernel_rfl
set_option maxHeartbeats 8000000 in
set_option maxRecDepth 100000 in
theorem norialaw3_Same.calls (k:Nat) (A0:Option Addr) (c0:Nat) (l0:List (S25)) (A1:Option Addr) (c1:Nat) (l1:List (S117)) (r:Bool) (w:World) (hr0:Kd.C k25 w A0 l0.length l0) (hc0:l0.length≤c0) (hr1:Kd.C k117 w A1 l1.length l1) (hc1:l1.length≤c1) (h:norialaw3_Same.f k l0 l1=some r):
  Calls Tryz.prog 37 #[.slice A0 l0.length c0,.slice A1 l1.length c1] w fun e w'=>e = .returned (.bool r)∧Below w.heap.size w w':=by
 have hu25:=Tryz.underlying25;have hu117:=Tryz.underlying117;have HR0:=Mk hr0;have HC0:=Mk hc0;clear hr0 hc0;have HR1:=Mk hr1;have HC1:=Mk hc1;clear hr1 hc1;have HB:=Mk (Below.refl w.heap.size w);have H:(if (l0.length:Int)=(l1.length:Int) then (norialaw3_Same.l0 k l0 l1 0) else (some false))=some r:=h;clear h;by_cases c3:(l0.length:Int)=(l1.length:Int)
 ·rw [if_pos c3] at H
  have c3b0:=beq_iff_eq.mpr c3;have c3b1:=bne_eq_false_iff_eq.mpr c3;have c3b2:(l0.length == l1.length)=true:=by first|simpa using c3|(simp at c3 ⊢;omega)
  clear c3;have H':=Mk H;clear H;go_enter Tryz.func37,Tryz.ntmps37
  go_wp2
  go_loopg [5] k (fun kq v5 w'=>∃ (x5_1:Int),v5 = .int .i64 x5_1∧Aside0 (norialaw3_Same.l0 kq l0 l1 x5_1=some r)∧Aside0 (kq≤k)∧Aside0 (Below w.heap.size w w'))
  case atStart=>exact ⟨(0),sS,H',⟨Nat.le_refl _⟩,⟨bB⟩⟩
  case round=>
   clear H';try clear c1
   try clear p2
   try clear c3
   try clear c3b0
   try clear c3b1
   try clear c3b2
   obtain ⟨x5_1,rfl,HA,HK1,HB⟩:=hrel
   cases gk with
   |zero=>exact absurd HA.out (by simp [norialaw3_Same.l0])
   |succ k1=>
    have H:=HA.out;clear HA;simp only [norialaw3_Same.l0] at H;by_cases c4:x5_1 < (l0.length:Int)
    ·rw [if_pos c4] at H
     have c4b0:=decide_eq_true c4;clear c4;by_cases c5:0≤x5_1
     ·rw [if_pos c5] at H
      have c5b0:=decide_eq_true c5;clear c5;replace H:=Option.bind_eq_some_iff.mp H;obtain ⟨⟨t579,t580,t581,t582⟩,A60,H⟩:=H;try dsimp only at H
      have A6:=Mk A60;clear A60;by_cases c7:x5_1 < (l1.length:Int)
      ·rw [if_pos c7] at H
       have c7b0:=decide_eq_true c7;clear c7;by_cases c8:(!(t579 == ((rd_T117 l1 x5_1).f0)) || (!(t580 == ((rd_T117 l1 x5_1).f1)) || (!(t581.toList == (((rd_T117 l1 x5_1).f2).toList)) || (!cEq t582.1 t582.2 (((rd_T117 l1 x5_1).f3).1) (((rd_T117 l1 x5_1).f3).2)))))=true
       ·rw [if_pos c8] at H
        have c8b0:(!(t579 == ((rd_T117 l1 x5_1).f0)) || (!(t580 == ((rd_T117 l1 x5_1).f1)) || (!(t581.toList == (((rd_T117 l1 x5_1).f2).toList)) || (!cEq t582.1 t582.2 (((rd_T117 l1 x5_1).f3).1) (((rd_T117 l1 x5_1).f3).2)))))=true:=c8;clear c8;obtain rfl:=Option.some.inj H;try go_wp2
        replace HB:=Mk (below_drew1 HB.out);have p578:0≤(x5_1:Int):=of_decide_eq_true aS;have q578:x5_1 < (l0.length:Int):=of_decide_eq_true aS;obtain ⟨ad578,e578,hx578_0,hx578_1,hx578_2,hx578_3⟩:=at_T25 HR0.out x5_1 p578 q578;have hw578_3:=hx578_3;have hw578_2:=hx578_2;have hw578_1:=hx578_1;have hw578_0:=hx578_0;cases e578
        replace hx578_0:=(HB.out.cell (World.block_lt_of_cell? w _ hx578_0)).trans hx578_0;replace hx578_1:=(HB.out.cell (World.block_lt_of_cell? w _ hx578_1)).trans hx578_1;replace hx578_2:=(HB.out.cell (World.block_lt_of_cell? w _ hx578_2)).trans hx578_2;replace hx578_3:=(HB.out.cell (World.block_lt_of_cell? w _ hx578_3)).trans hx578_3;replace p578:=eq_true p578;replace q578:=eq_true q578;have p583:0≤(x5_1:Int):=of_decide_eq_true aS;have q583:x5_1 < (l1.length:Int):=of_decide_eq_true aS;obtain ⟨ad583,e583,hx583_0,hx583_1,hx583_2,hx583_3⟩:=at_T117 HR1.out x5_1 p583 q583;have hw583_3:=hx583_3;have hw583_2:=hx583_2;have hw583_1:=hx583_1;have hw583_0:=hx583_0;cases e583
        replace hx583_0:=(HB.out.cell (World.block_lt_of_cell? w _ hx583_0)).trans hx583_0;replace hx583_1:=(HB.out.cell (World.block_lt_of_cell? w _ hx583_1)).trans hx583_1;replace hx583_2:=(HB.out.cell (World.block_lt_of_cell? w _ hx583_2)).trans hx583_2;replace hx583_3:=(HB.out.cell (World.block_lt_of_cell? w _ hx583_3)).trans hx583_3;replace p583:=eq_true p583;replace q583:=eq_true q583;refine start_ (n:=10) (S:=fun w'=>w'.cell? (ad578.add ((x5_1).toNat * 4))=some (.int .i64 ((rd_T25 l0 x5_1).f0))∧w'.cell? ⟨(ad578.add ((x5_1).toNat * 4)).block,(ad578.add ((x5_1).toNat * 4)).off+1,none⟩=some (.int .i64 ((rd_T25 l0 x5_1).f1))∧w'.cell? ⟨(ad578.add ((x5_1).toNat * 4)).block,(ad578.add ((x5_1).toNat * 4)).off+2,none⟩=some (.string ((rd_T25 l0 x5_1).f2))∧w'.cell? ⟨(ad578.add ((x5_1).toNat * 4)).block,(ad578.add ((x5_1).toNat * 4)).off+3,none⟩=some (.complex .f64 (((rd_T25 l0 x5_1).f3).1) (((rd_T25 l0 x5_1).f3).2))∧w'.cell? (ad583.add ((x5_1).toNat * 4))=some (.int .i64 ((rd_T117 l1 x5_1).f0))∧w'.cell? ⟨(ad583.add ((x5_1).toNat * 4)).block,(ad583.add ((x5_1).toNat * 4)).off+1,none⟩=some (.int .i64 ((rd_T117 l1 x5_1).f1))∧w'.cell? ⟨(ad583.add ((x5_1).toNat * 4)).block,(ad583.add ((x5_1).toNat * 4)).off+2,none⟩=some (.string ((rd_T117 l1 x5_1).f2))∧w'.cell? ⟨(ad583.add ((x5_1).toNat * 4)).block,(ad583.add ((x5_1).toNat * 4)).off+3,none⟩=some (.complex .f64 (((rd_T117 l1 x5_1).f3).1) (((rd_T117 l1 x5_1).f3).2))) (ds:=[]) #[b0,b0,b0,b0,b0,b0,b0,b0,b0,b0] kR rfl rfl ⟨((HB.out.cell (World.block_lt_of_cell? w _ hw578_0)).trans hw578_0),((HB.out.cell (World.block_lt_of_cell? w _ hw578_1)).trans hw578_1),((HB.out.cell (World.block_lt_of_cell? w _ hw578_2)).trans hw578_2),((HB.out.cell (World.block_lt_of_cell? w _ hw578_3)).trans hw578_3),((HB.out.cell (World.block_lt_of_cell? w _ hw583_0)).trans hw583_0),((HB.out.cell (World.block_lt_of_cell? w _ hw583_1)).trans hw583_1),((HB.out.cell (World.block_lt_of_cell? w _ hw583_2)).trans hw583_2),((HB.out.cell (World.block_lt_of_cell? w _ hw583_3)).trans hw583_3)⟩ (fun hHeld=>?_);refine with_tabW norialaw3_Same.tab6 norialaw3_Same.bits6 (fun HT_ HW_=>?_)
        generalize wr.drew=w9 at HB hx578_0 hx578_1 hx578_2 hx578_3 hx583_0 hx583_1 hx583_2 hx583_3 hHeld ⊢
        refine pure_ (i:=0) (N:=some 17) (v:=?_) (a':=?_) (fl 10 1) rfl rfl (aO HT_) fI (Or.inl ⟨by rfl,?_⟩) ?_ ?_;rotate_left
        ·intro w'
         go_simp
         with_reducible rfl
        rotate_left
        ·exact pA
        refine pure_ (i:=1) (N:=some 18) (v:=?_) (a':=?_) (fl 10 3) rfl rfl (aO HT_) fI (Or.inl ⟨by rfl,?_⟩) ?_ ?_;rotate_left
        ·intro w'
         go_simp
         with_reducible rfl
        rotate_left
        ·exact pA
        refine pure_ (i:=2) (N:=some 19) (v:=?_) (a':=?_) (fl 10 7) rfl rfl (aO HT_) fI (Or.inl ⟨by rfl,?_⟩) ?_ ?_;rotate_left
        ·intro w'
         go_simp
         with_reducible rfl
        rotate_left
        ·exact pA
        refine pure_ (i:=5) (N:=some 22) (v:=?_) (a':=?_) (fl 10 39) rfl rfl (aO HT_) fI (Or.inl ⟨by rfl,?_⟩) ?_ ?_;rotate_left
        ·intro w'
         go_simp
         with_reducible rfl
        rotate_left
        ·exact pA
        refine pure_ (i:=6) (N:=some 23) (v:=?_) (a':=?_) (fl 10 103) rfl rfl (aO HT_) fI (Or.inl ⟨by rfl,?_⟩) ?_ ?_;rotate_left
        ·intro w'
         go_simp
         with_reducible rfl
        rotate_left
        ·exact pA
        refine pure_ (i:=7) (N:=some 24) (v:=?_) (a':=?_) (fl 10 231) rfl rfl (aO HT_) fI (Or.inl ⟨by rfl,?_⟩) ?_ ?_;rotate_left
        ·intro w'
         go_simp
         with_reducible rfl
        rotate_left
        ·exact pA
        refine take_ (i:=3) (N:=some 20) (v:=?_) (a':=?_) (fl 10 239) rfl rfl (tO HT_ HW_) fI (Or.inl ⟨by rfl,?_⟩) hHeld ?_ ?_;rotate_left
        ·rintro w' ⟨s0,s1,s2,s3,s4,s5,s6,s7⟩
         go_simp
         with_reducible rfl
        rotate_left
        ·exact pA
        refine take_ (i:=8) (N:=some 25) (v:=?_) (a':=?_) (fl 10 495) rfl rfl (tO HT_ HW_) fI (Or.inl ⟨by rfl,?_⟩) hHeld ?_ ?_;rotate_left
        ·rintro w' ⟨s0,s1,s2,s3,s4,s5,s6,s7⟩
         go_simp
         with_reducible rfl
        rotate_left
        ·exact pA
        refine one_ (i:=4) (N:=some 21) (fl 10 511) rfl rfl (oO HT_) (by decide) (fun K hK=>?_);refine goes_ Tryz.func71 kR rfl #[.agg #[.int .i64 ((rd_T25 l0 x5_1).f0),.int .i64 ((rd_T25 l0 x5_1).f1),.string ((rd_T25 l0 x5_1).f2),.complex .f64 (((rd_T25 l0 x5_1).f3).1) (((rd_T25 l0 x5_1).f3).2)]] (by rfl) rfl rfl mA ?_;with_reducible refine (norialaw3_Of.calls ((rd_T25 l0 x5_1).f0) ((rd_T25 l0 x5_1).f1) ((rd_T25 l0 x5_1).f2) ((rd_T25 l0 x5_1).f3) t579 t580 t581 t582 _ A6.out).mono ?_
        rintro e w10 ⟨rfl,hb⟩;refine ⟨_,rfl,?_⟩;replace HB:=Mk (below_step bB hb);(try clear hb);(try clear hb2);(try clear hk);(try clear hi);refine hK.out _ _ ⟨((HB.out.cell (World.block_lt_of_cell? w _ hw578_0)).trans hw578_0),((HB.out.cell (World.block_lt_of_cell? w _ hw578_1)).trans hw578_1),((HB.out.cell (World.block_lt_of_cell? w _ hw578_2)).trans hw578_2),((HB.out.cell (World.block_lt_of_cell? w _ hw578_3)).trans hw578_3),((HB.out.cell (World.block_lt_of_cell? w _ hw583_0)).trans hw583_0),((HB.out.cell (World.block_lt_of_cell? w _ hw583_1)).trans hw583_1),((HB.out.cell (World.block_lt_of_cell? w _ hw583_2)).trans hw583_2),((HB.out.cell (World.block_lt_of_cell? w _ hw583_3)).trans hw583_3)⟩ (fun hHeld=>?_);clear hK K;refine norm_ (a':=?_) ?_ ?_;rotate_left
        ·show Act.put _ (some 21) _=_
         simp only [Act.put,List.setIfInBounds_toArray,List.set_cons_zero,List.set_cons_succ,i64_w,i32_w];rfl
        refine pure_ (i:=9) (N:=some 26) (v:=?_) (a':=?_) (fl 10 1023) rfl rfl (aO HT_) fI (Or.inl ⟨by rfl,?_⟩) ?_ ?_;rotate_left
        ·intro w'
         go_simp
         with_reducible rfl
        rotate_left
        ·exact pA
        refine done_ (done_of HT_.out kR) ?_;try go_wp2
        go_ret
        exact ⟨eW,bB⟩
       ·rw [if_neg c8] at H
        have c8b0:(!(t579 == ((rd_T117 l1 x5_1).f0)) || (!(t580 == ((rd_T117 l1 x5_1).f1)) || (!(t581.toList == (((rd_T117 l1 x5_1).f2).toList)) || (!cEq t582.1 t582.2 (((rd_T117 l1 x5_1).f3).1) (((rd_T117 l1 x5_1).f3).2)))))=false:=by simpa using c8
        clear c8;have H':=Mk H;clear H;try go_wp2
        replace HB:=Mk (below_drew1 HB.out);have p578:0≤(x5_1:Int):=of_decide_eq_true aS;have q578:x5_1 < (l0.length:Int):=of_decide_eq_true aS;obtain ⟨ad578,e578,hx578_0,hx578_1,hx578_2,hx578_3⟩:=at_T25 HR0.out x5_1 p578 q578;have hw578_3:=hx578_3;have hw578_2:=hx578_2;have hw578_1:=hx578_1;have hw578_0:=hx578_0;cases e578
        replace hx578_0:=(HB.out.cell (World.block_lt_of_cell? w _ hx578_0)).trans hx578_0;replace hx578_1:=(HB.out.cell (World.block_lt_of_cell? w _ hx578_1)).trans hx578_1;replace hx578_2:=(HB.out.cell (World.block_lt_of_cell? w _ hx578_2)).trans hx578_2;replace hx578_3:=(HB.out.cell (World.block_lt_of_cell? w _ hx578_3)).trans hx578_3;replace p578:=eq_true p578;replace q578:=eq_true q578;have p583:0≤(x5_1:Int):=of_decide_eq_true aS;have q583:x5_1 < (l1.length:Int):=of_decide_eq_true aS;obtain ⟨ad583,e583,hx583_0,hx583_1,hx583_2,hx583_3⟩:=at_T117 HR1.out x5_1 p583 q583;have hw583_3:=hx583_3;have hw583_2:=hx583_2;have hw583_1:=hx583_1;have hw583_0:=hx583_0;cases e583
        replace hx583_0:=(HB.out.cell (World.block_lt_of_cell? w _ hx583_0)).trans hx583_0;replace hx583_1:=(HB.out.cell (World.block_lt_of_cell? w _ hx583_1)).trans hx583_1;replace hx583_2:=(HB.out.cell (World.block_lt_of_cell? w _ hx583_2)).trans hx583_2;replace hx583_3:=(HB.out.cell (World.block_lt_of_cell? w _ hx583_3)).trans hx583_3;replace p583:=eq_true p583;replace q583:=eq_true q583;refine start_ (n:=10) (S:=fun w'=>w'.cell? (ad578.add ((x5_1).toNat * 4))=some (.int .i64 ((rd_T25 l0 x5_1).f0))∧w'.cell? ⟨(ad578.add ((x5_1).toNat * 4)).block,(ad578.add ((x5_1).toNat * 4)).off+1,none⟩=some (.int .i64 ((rd_T25 l0 x5_1).f1))∧w'.cell? ⟨(ad578.add ((x5_1).toNat * 4)).block,(ad578.add ((x5_1).toNat * 4)).off+2,none⟩=some (.string ((rd_T25 l0 x5_1).f2))∧w'.cell? ⟨(ad578.add ((x5_1).toNat * 4)).block,(ad578.add ((x5_1).toNat * 4)).off+3,none⟩=some (.complex .f64 (((rd_T25 l0 x5_1).f3).1) (((rd_T25 l0 x5_1).f3).2))∧w'.cell? (ad583.add ((x5_1).toNat * 4))=some (.int .i64 ((rd_T117 l1 x5_1).f0))∧w'.cell? ⟨(ad583.add ((x5_1).toNat * 4)).block,(ad583.add ((x5_1).toNat * 4)).off+1,none⟩=some (.int .i64 ((rd_T117 l1 x5_1).f1))∧w'.cell? ⟨(ad583.add ((x5_1).toNat * 4)).block,(ad583.add ((x5_1).toNat * 4)).off+2,none⟩=some (.string ((rd_T117 l1 x5_1).f2))∧w'.cell? ⟨(ad583.add ((x5_1).toNat * 4)).block,(ad583.add ((x5_1).toNat * 4)).off+3,none⟩=some (.complex .f64 (((rd_T117 l1 x5_1).f3).1) (((rd_T117 l1 x5_1).f3).2))) (ds:=[]) #[b0,b0,b0,b0,b0,b0,b0,b0,b0,b0] kR rfl rfl ⟨((HB.out.cell (World.block_lt_of_cell? w _ hw578_0)).trans hw578_0),((HB.out.cell (World.block_lt_of_cell? w _ hw578_1)).trans hw578_1),((HB.out.cell (World.block_lt_of_cell? w _ hw578_2)).trans hw578_2),((HB.out.cell (World.block_lt_of_cell? w _ hw578_3)).trans hw578_3),((HB.out.cell (World.block_lt_of_cell? w _ hw583_0)).trans hw583_0),((HB.out.cell (World.block_lt_of_cell? w _ hw583_1)).trans hw583_1),((HB.out.cell (World.block_lt_of_cell? w _ hw583_2)).trans hw583_2),((HB.out.cell (World.block_lt_of_cell? w _ hw583_3)).trans hw583_3)⟩ (fun hHeld=>?_);refine with_tabW norialaw3_Same.tab6 norialaw3_Same.bits6 (fun HT_ HW_=>?_)
        generalize wr.drew=w11 at HB hx578_0 hx578_1 hx578_2 hx578_3 hx583_0 hx583_1 hx583_2 hx583_3 hHeld ⊢
        refine pure_ (i:=0) (N:=some 17) (v:=?_) (a':=?_) (fl 10 1) rfl rfl (aO HT_) fI (Or.inl ⟨by rfl,?_⟩) ?_ ?_;rotate_left
        ·intro w'
         go_simp
         with_reducible rfl
        rotate_left
        ·exact pA
        refine pure_ (i:=1) (N:=some 18) (v:=?_) (a':=?_) (fl 10 3) rfl rfl (aO HT_) fI (Or.inl ⟨by rfl,?_⟩) ?_ ?_;rotate_left
        ·intro w'
         go_simp
         with_reducible rfl
        rotate_left
        ·exact pA
        refine pure_ (i:=2) (N:=some 19) (v:=?_) (a':=?_) (fl 10 7) rfl rfl (aO HT_) fI (Or.inl ⟨by rfl,?_⟩) ?_ ?_;rotate_left
        ·intro w'
         go_simp
         with_reducible rfl
        rotate_left
        ·exact pA
        refine pure_ (i:=5) (N:=some 22) (v:=?_) (a':=?_) (fl 10 39) rfl rfl (aO HT_) fI (Or.inl ⟨by rfl,?_⟩) ?_ ?_;rotate_left
        ·intro w'
         go_simp
         with_reducible rfl
        rotate_left
        ·exact pA
        refine pure_ (i:=6) (N:=some 23) (v:=?_) (a':=?_) (fl 10 103) rfl rfl (aO HT_) fI (Or.inl ⟨by rfl,?_⟩) ?_ ?_;rotate_left
        ·intro w'
         go_simp
         with_reducible rfl
        rotate_left
        ·exact pA
        refine pure_ (i:=7) (N:=some 24) (v:=?_) (a':=?_) (fl 10 231) rfl rfl (aO HT_) fI (Or.inl ⟨by rfl,?_⟩) ?_ ?_;rotate_left
        ·intro w'
         go_simp
         with_reducible rfl
        rotate_left
        ·exact pA
        refine take_ (i:=3) (N:=some 20) (v:=?_) (a':=?_) (fl 10 239) rfl rfl (tO HT_ HW_) fI (Or.inl ⟨by rfl,?_⟩) hHeld ?_ ?_;rotate_left
        ·rintro w' ⟨s0,s1,s2,s3,s4,s5,s6,s7⟩
         go_simp
         with_reducible rfl
        rotate_left
        ·exact pA
        refine take_ (i:=8) (N:=some 25) (v:=?_) (a':=?_) (fl 10 495) rfl rfl (tO HT_ HW_) fI (Or.inl ⟨by rfl,?_⟩) hHeld ?_ ?_;rotate_left
        ·rintro w' ⟨s0,s1,s2,s3,s4,s5,s6,s7⟩
         go_simp
         with_reducible rfl
        rotate_left
        ·exact pA
        refine one_ (i:=4) (N:=some 21) (fl 10 511) rfl rfl (oO HT_) (by decide) (fun K hK=>?_);refine goes_ Tryz.func71 kR rfl #[.agg #[.int .i64 ((rd_T25 l0 x5_1).f0),.int .i64 ((rd_T25 l0 x5_1).f1),.string ((rd_T25 l0 x5_1).f2),.complex .f64 (((rd_T25 l0 x5_1).f3).1) (((rd_T25 l0 x5_1).f3).2)]] (by rfl) rfl rfl mA ?_;with_reducible refine (norialaw3_Of.calls ((rd_T25 l0 x5_1).f0) ((rd_T25 l0 x5_1).f1) ((rd_T25 l0 x5_1).f2) ((rd_T25 l0 x5_1).f3) t579 t580 t581 t582 _ A6.out).mono ?_
        rintro e w12 ⟨rfl,hb⟩;refine ⟨_,rfl,?_⟩;replace HB:=Mk (below_step bB hb);(try clear hb);(try clear hb2);(try clear hk);(try clear hi);refine hK.out _ _ ⟨((HB.out.cell (World.block_lt_of_cell? w _ hw578_0)).trans hw578_0),((HB.out.cell (World.block_lt_of_cell? w _ hw578_1)).trans hw578_1),((HB.out.cell (World.block_lt_of_cell? w _ hw578_2)).trans hw578_2),((HB.out.cell (World.block_lt_of_cell? w _ hw578_3)).trans hw578_3),((HB.out.cell (World.block_lt_of_cell? w _ hw583_0)).trans hw583_0),((HB.out.cell (World.block_lt_of_cell? w _ hw583_1)).trans hw583_1),((HB.out.cell (World.block_lt_of_cell? w _ hw583_2)).trans hw583_2),((HB.out.cell (World.block_lt_of_cell? w _ hw583_3)).trans hw583_3)⟩ (fun hHeld=>?_);clear hK K;refine norm_ (a':=?_) ?_ ?_;rotate_left
        ·show Act.put _ (some 21) _=_
         simp only [Act.put,List.setIfInBounds_toArray,List.set_cons_zero,List.set_cons_succ,i64_w,i32_w];rfl
        refine pure_ (i:=9) (N:=some 26) (v:=?_) (a':=?_) (fl 10 1023) rfl rfl (aO HT_) fI (Or.inl ⟨by rfl,?_⟩) ?_ ?_;rotate_left
        ·intro w'
         go_simp
         with_reducible rfl
        rotate_left
        ·exact pA
        refine done_ (done_of HT_.out kR) ?_;try go_wp2
        go_roundg k1
        case measure=>have:=HK1.out;omega
        case rel=>exact ⟨(wrap64 (x5_1+1)),sS,H',⟨by have:=HK1.out;omega⟩,⟨bB⟩⟩
      ·rw [if_neg c7] at H
       exact absurd H (by simp)
     ·rw [if_neg c5] at H
      exact absurd H (by simp)
    ·rw [if_neg c4] at H
     have c4b0:=decide_eq_false c4;clear c4;obtain rfl:=Option.some.inj H
     go_wp2
     go_ret
     exact ⟨eW,bB⟩
 ·rw [if_neg c3] at H
  have c3b0:=beq_eq_false_iff_ne.mpr c3;have c3b1:=bne_iff_ne.mpr c3;have c3b2:(l0.length == l1.length)=false:=by first|simpa using c3|(simp at c3 ⊢;omega)
  obtain rfl:=Option.some.inj H;go_enter Tryz.func37,Tryz.ntmps37
  go_wp2
  go_ret
  exact ⟨eW,bB⟩
def norialaw3_SameRows.l0:Nat→List (List (S25))→List (List (S117))→Int→Option (Bool)
 | 0,_,_,_=>none
 |k+1,x0,x1,x5=>if x5 < (x0.length:Int) then (if 0≤x5 then (if x5 < (x1.length:Int) then ((norialaw3_Same.f k (rd_L11 x0 x5) (rd_L15 x1 x5)).bind fun t586=>(if t586=true then (norialaw3_SameRows.l0 k x0 x1 (wrap64 (x5+1))) else (some false))) else (none)) else (none)) else (some true)
def norialaw3_SameRows.f (k:Nat) (l0:List (List (S25))) (l1:List (List (S117))):Option (Bool):=if (l0.length:Int)=(l1.length:Int) then (norialaw3_SameRows.l0 k l0 l1 0) else (some false)
def norialaw3_SameRows.T6:Bool×List (List Nat×List Nat):=(true,[([],[]),([],[]),([0,1],[0,1]),([2],[2]),([],[]),([],[]),([4,5],[4,5]),([6],[6]),([3,7],[3,7]),([8],[8])])
def norialaw3_SameRows.B6:List Nat:=[0,0,3,7,0,0,48,112,255,511]
theorem norialaw3_SameRows.tab6:rtab .any (opsOf Tryz.f14 6)=norialaw3_SameRows.T6:=by kernel_rfl
theorem norialaw3_SameRows.bits6:waitsOk norialaw3_SameRows.T6.2 norialaw3_SameRows.B6=true:=by kernel_rfl
set_option maxHeartbeats 8000000 in
set_option maxRecDepth 100000 in
theorem norialaw3_SameRows.calls (k:Nat) (A0:Option Addr) (c0:Nat) (l0:List (List (S25))) (A1:Option Addr) (c1:Nat) (l1:List (List (S117))) (r:Bool) (w:World) (hr0:Kd.C (Kd.slice 25 k25) w A0 l0.length l0) (hc0:l0.length≤c0) (hr1:Kd.C (Kd.slice 117 k117) w A1 l1.length l1) (hc1:l1.length≤c1) (h:norialaw3_SameRows.f k l0 l1=some r):
  Calls Tryz.prog 14 #[.slice A0 l0.length c0,.slice A1 l1.length c1] w fun e w'=>e = .returned (.bool r)∧Below w.heap.size w w':=by
 have HR0:=Mk hr0;have HC0:=Mk hc0;clear hr0 hc0;have HR1:=Mk hr1;have HC1:=Mk hc1;clear hr1 hc1;have HB:=Mk (Below.refl w.heap.size w);have H:(if (l0.length:Int)=(l1.length:Int) then (norialaw3_SameRows.l0 k l0 l1 0) else (some false))=some r:=h;clear h;by_cases c3:(l0.length:Int)=(l1.length:Int)
 ·rw [if_pos c3] at H
  have c3b0:=beq_iff_eq.mpr c3;have c3b1:=bne_eq_false_iff_eq.mpr c3;have c3b2:(l0.length == l1.length)=true:=by first|simpa using c3|(simp at c3 ⊢;omega)
  clear c3;have H':=Mk H;clear H;go_enter Tryz.func14,Tryz.ntmps14
  go_wp2
  go_loopg [5] k (fun kq v5 w'=>∃ (x5_1:Int),v5 = .int .i64 x5_1∧Aside0 (norialaw3_SameRows.l0 kq l0 l1 x5_1=some r)∧Aside0 (kq≤k)∧Aside0 (Below w.heap.size w w'))
  case atStart=>exact ⟨(0),sS,H',⟨Nat.le_refl _⟩,⟨bB⟩⟩
  case round=>
   clear H';try clear c1
   try clear p2
   try clear c3
   try clear c3b0
   try clear c3b1
   try clear c3b2
   obtain ⟨x5_1,rfl,HA,HK1,HB⟩:=hrel
   cases gk with
   |zero=>exact absurd HA.out (by simp [norialaw3_SameRows.l0])
   |succ k1=>
    have H:=HA.out;clear HA;simp only [norialaw3_SameRows.l0] at H;by_cases c4:x5_1 < (l0.length:Int)
    ·rw [if_pos c4] at H
     have c4b0:=decide_eq_true c4;clear c4;by_cases c5:0≤x5_1
     ·rw [if_pos c5] at H
      have c5b0:=decide_eq_true c5;clear c5;by_cases c6:x5_1 < (l1.length:Int)
      ·rw [if_pos c6] at H
       have c6b0:=decide_eq_true c6;clear c6;replace H:=Option.bind_eq_some_iff.mp H;obtain ⟨t586,A70,H⟩:=H;try dsimp only at H
       have A7:=Mk A70;clear A70;by_cases c8:t586=true
       ·subst c8
        rw [if_pos rfl] at H;try dsimp only at H
        have H':=Mk H;clear H;try go_wp2
        replace HB:=Mk (below_drew1 HB.out);have p584:0≤(x5_1:Int):=of_decide_eq_true aS;have q584:x5_1 < (l0.length:Int):=of_decide_eq_true aS;obtain ⟨ad584,A584_0,c584_0,e584,hx584_0,hl584_0,hi584_0⟩:=at_L11 HR0.out x5_1 p584 q584;have hw584_0:=hx584_0;cases e584
        replace hx584_0:=(HB.out.cell (World.block_lt_of_cell? w _ hx584_0)).trans hx584_0;have HR584_0:=Mk hi584_0;have HC584_0:=Mk hl584_0;clear hi584_0 hl584_0;replace p584:=eq_true p584;replace q584:=eq_true q584;have p585:0≤(x5_1:Int):=of_decide_eq_true aS;have q585:x5_1 < (l1.length:Int):=of_decide_eq_true aS;obtain ⟨ad585,A585_0,c585_0,e585,hx585_0,hl585_0,hi585_0⟩:=at_L15 HR1.out x5_1 p585 q585;have hw585_0:=hx585_0;cases e585
        replace hx585_0:=(HB.out.cell (World.block_lt_of_cell? w _ hx585_0)).trans hx585_0;have HR585_0:=Mk hi585_0;have HC585_0:=Mk hl585_0;clear hi585_0 hl585_0;replace p585:=eq_true p585;replace q585:=eq_true q585;refine start_ (n:=10) (S:=fun w'=>w'.cell? (ad584.add (x5_1).toNat)=some (.slice A584_0 (rd_L11 l0 x5_1).length c584_0)∧w'.cell? (ad585.add (x5_1).toNat)=some (.slice A585_0 (rd_L15 l1 x5_1).length c585_0)) (ds:=[]) #[b0,b0,b0,b0,b0,b0,b0,b0,b0,b0] kR rfl rfl ⟨((HB.out.cell (World.block_lt_of_cell? w _ hw584_0)).trans hw584_0),((HB.out.cell (World.block_lt_of_cell? w _ hw585_0)).trans hw585_0)⟩ (fun hHeld=>?_);refine with_tabW norialaw3_SameRows.tab6 norialaw3_SameRows.bits6 (fun HT_ HW_=>?_)
        generalize wr.drew=w9 at HB HR584_0 HR585_0 hx584_0 hx585_0 hHeld ⊢
        refine pure_ (i:=0) (N:=some 17) (v:=?_) (a':=?_) (fl 10 1) rfl rfl (aO HT_) fI (Or.inl ⟨by rfl,?_⟩) ?_ ?_;rotate_left
        ·intro w'
         go_simp
         with_reducible rfl
        rotate_left
        ·exact pA
        refine pure_ (i:=1) (N:=some 18) (v:=?_) (a':=?_) (fl 10 3) rfl rfl (aO HT_) fI (Or.inl ⟨by rfl,?_⟩) ?_ ?_;rotate_left
        ·intro w'
         go_simp
         with_reducible rfl
        rotate_left
        ·exact pA
        refine pure_ (i:=2) (N:=some 19) (v:=?_) (a':=?_) (fl 10 7) rfl rfl (aO HT_) fI (Or.inl ⟨by rfl,?_⟩) ?_ ?_;rotate_left
        ·intro w'
         go_simp
         with_reducible rfl
        rotate_left
        ·exact pA
        refine pure_ (i:=4) (N:=some 21) (v:=?_) (a':=?_) (fl 10 23) rfl rfl (aO HT_) fI (Or.inl ⟨by rfl,?_⟩) ?_ ?_;rotate_left
        ·intro w'
         go_simp
         with_reducible rfl
        rotate_left
        ·exact pA
        refine pure_ (i:=5) (N:=some 22) (v:=?_) (a':=?_) (fl 10 55) rfl rfl (aO HT_) fI (Or.inl ⟨by rfl,?_⟩) ?_ ?_;rotate_left
        ·intro w'
         go_simp
         with_reducible rfl
        rotate_left
        ·exact pA
        refine pure_ (i:=6) (N:=some 23) (v:=?_) (a':=?_) (fl 10 119) rfl rfl (aO HT_) fI (Or.inl ⟨by rfl,?_⟩) ?_ ?_;rotate_left
        ·intro w'
         go_simp
         with_reducible rfl
        rotate_left
        ·exact pA
        refine take_ (i:=3) (N:=some 20) (v:=?_) (a':=?_) (fl 10 127) rfl rfl (tO HT_ HW_) fI (Or.inl ⟨by rfl,?_⟩) hHeld ?_ ?_;rotate_left
        ·rintro w' ⟨s0,s1⟩
         go_simp
         with_reducible rfl
        rotate_left
        ·exact pA
        refine take_ (i:=7) (N:=some 24) (v:=?_) (a':=?_) (fl 10 255) rfl rfl (tO HT_ HW_) fI (Or.inl ⟨by rfl,?_⟩) hHeld ?_ ?_;rotate_left
        ·rintro w' ⟨s0,s1⟩
         go_simp
         with_reducible rfl
        rotate_left
        ·exact pA
        refine one_ (i:=8) (N:=some 25) (fl 10 511) rfl rfl (oO HT_) (by decide) (fun K hK=>?_);refine goes_ Tryz.func37 kR rfl #[.slice A584_0 (rd_L11 l0 x5_1).length c584_0,.slice A585_0 (rd_L15 l1 x5_1).length c585_0] (by rfl) rfl rfl mA ?_;with_reducible refine (norialaw3_Same.calls k1 _ _ (rd_L11 l0 x5_1) _ _ (rd_L15 l1 x5_1) true _ ?side1 ?side2 ?side3 ?side4 A7.out).mono ?_
        (case side1=>exact cU (Kd.C_below HR584_0.out HB.out));(case side2=>exact HC584_0.out);(case side3=>exact cU (Kd.C_below HR585_0.out HB.out));(case side4=>exact HC585_0.out);rintro e w10 ⟨rfl,hb⟩;refine ⟨_,rfl,?_⟩;replace HB:=Mk (below_step bB hb);(try clear hb);(try clear hb2);(try clear hk);(try clear hi);refine hK.out _ _ ⟨((HB.out.cell (World.block_lt_of_cell? w _ hw584_0)).trans hw584_0),((HB.out.cell (World.block_lt_of_cell? w _ hw585_0)).trans hw585_0)⟩ (fun hHeld=>?_);clear hK K;refine norm_ (a':=?_) ?_ ?_;rotate_left
        ·show Act.put _ (some 25) _=_
         simp only [Act.put,List.setIfInBounds_toArray,List.set_cons_zero,List.set_cons_succ,i64_w,i32_w];rfl
        refine pure_ (i:=9) (N:=some 26) (v:=?_) (a':=?_) (fl 10 1023) rfl rfl (aO HT_) fI (Or.inl ⟨by rfl,?_⟩) ?_ ?_;rotate_left
        ·intro w'
         go_simp
         with_reducible rfl
        rotate_left
        ·exact pA
        refine done_ (done_of HT_.out kR) ?_;try go_wp2
        go_roundg k1
        case measure=>have:=HK1.out;omega
        case rel=>exact ⟨(wrap64 (x5_1+1)),sS,H',⟨by have:=HK1.out;omega⟩,⟨bB⟩⟩
       ·replace c8:=Bool.eq_false_iff.mpr c8
        subst c8;rw [if_neg (show ¬ (false=true) by decide)] at H;try dsimp only at H
        obtain rfl:=Option.some.inj H;try go_wp2
        replace HB:=Mk (below_drew1 HB.out);have p584:0≤(x5_1:Int):=of_decide_eq_true aS;have q584:x5_1 < (l0.length:Int):=of_decide_eq_true aS;obtain ⟨ad584,A584_0,c584_0,e584,hx584_0,hl584_0,hi584_0⟩:=at_L11 HR0.out x5_1 p584 q584;have hw584_0:=hx584_0;cases e584
        replace hx584_0:=(HB.out.cell (World.block_lt_of_cell? w _ hx584_0)).trans hx584_0;have HR584_0:=Mk hi584_0;have HC584_0:=Mk hl584_0;clear hi584_0 hl584_0;replace p584:=eq_true p584;replace q584:=eq_true q584;have p585:0≤(x5_1:Int):=of_decide_eq_true aS;have q585:x5_1 < (l1.length:Int):=of_decide_eq_true aS;obtain ⟨ad585,A585_0,c585_0,e585,hx585_0,hl585_0,hi585_0⟩:=at_L15 HR1.out x5_1 p585 q585;have hw585_0:=hx585_0;cases e585
        replace hx585_0:=(HB.out.cell (World.block_lt_of_cell? w _ hx585_0)).trans hx585_0;have HR585_0:=Mk hi585_0;have HC585_0:=Mk hl585_0;clear hi585_0 hl585_0;replace p585:=eq_true p585;replace q585:=eq_true q585;refine start_ (n:=10) (S:=fun w'=>w'.cell? (ad584.add (x5_1).toNat)=some (.slice A584_0 (rd_L11 l0 x5_1).length c584_0)∧w'.cell? (ad585.add (x5_1).toNat)=some (.slice A585_0 (rd_L15 l1 x5_1).length c585_0)) (ds:=[]) #[b0,b0,b0,b0,b0,b0,b0,b0,b0,b0] kR rfl rfl ⟨((HB.out.cell (World.block_lt_of_cell? w _ hw584_0)).trans hw584_0),((HB.out.cell (World.block_lt_of_cell? w _ hw585_0)).trans hw585_0)⟩ (fun hHeld=>?_);refine with_tabW norialaw3_SameRows.tab6 norialaw3_SameRows.bits6 (fun HT_ HW_=>?_)
        generalize wr.drew=w11 at HB HR584_0 HR585_0 hx584_0 hx585_0 hHeld ⊢
        refine pure_ (i:=0) (N:=some 17) (v:=?_) (a':=?_) (fl 10 1) rfl rfl (aO HT_) fI (Or.inl ⟨by rfl,?_⟩) ?_ ?_;rotate_left
        ·intro w'
         go_simp
         with_reducible rfl
        rotate_left
        ·exact pA
        refine pure_ (i:=1) (N:=some 18) (v:=?_) (a':=?_) (fl 10 3) rfl rfl (aO HT_) fI (Or.inl ⟨by rfl,?_⟩) ?_ ?_;rotate_left
        ·intro w'
         go_simp
         with_reducible rfl
        rotate_left
        ·exact pA
        refine pure_ (i:=2) (N:=some 19) (v:=?_) (a':=?_) (fl 10 7) rfl rfl (aO HT_) fI (Or.inl ⟨by rfl,?_⟩) ?_ ?_;rotate_left
        ·intro w'
         go_simp
         with_reducible rfl
        rotate_left
        ·exact pA
        refine pure_ (i:=4) (N:=some 21) (v:=?_) (a':=?_) (fl 10 23) rfl rfl (aO HT_) fI (Or.inl ⟨by rfl,?_⟩) ?_ ?_;rotate_left
        ·intro w'
         go_simp
         with_reducible rfl
        rotate_left
        ·exact pA
        refine pure_ (i:=5) (N:=some 22) (v:=?_) (a':=?_) (fl 10 55) rfl rfl (aO HT_) fI (Or.inl ⟨by rfl,?_⟩) ?_ ?_;rotate_left
        ·intro w'
         go_simp
         with_reducible rfl
        rotate_left
        ·exact pA
        refine pure_ (i:=6) (N:=some 23) (v:=?_) (a':=?_) (fl 10 119) rfl rfl (aO HT_) fI (Or.inl ⟨by rfl,?_⟩) ?_ ?_;rotate_left
        ·intro w'
         go_simp
         with_reducible rfl
        rotate_left
        ·exact pA
        refine take_ (i:=3) (N:=some 20) (v:=?_) (a':=?_) (fl 10 127) rfl rfl (tO HT_ HW_) fI (Or.inl ⟨by rfl,?_⟩) hHeld ?_ ?_;rotate_left
        ·rintro w' ⟨s0,s1⟩
         go_simp
         with_reducible rfl
        rotate_left
        ·exact pA
        refine take_ (i:=7) (N:=some 24) (v:=?_) (a':=?_) (fl 10 255) rfl rfl (tO HT_ HW_) fI (Or.inl ⟨by rfl,?_⟩) hHeld ?_ ?_;rotate_left
        ·rintro w' ⟨s0,s1⟩
         go_simp
         with_reducible rfl
        rotate_left
        ·exact pA
        refine one_ (i:=8) (N:=some 25) (fl 10 511) rfl rfl (oO HT_) (by decide) (fun K hK=>?_);refine goes_ Tryz.func37 kR rfl #[.slice A584_0 (rd_L11 l0 x5_1).length c584_0,.slice A585_0 (rd_L15 l1 x5_1).length c585_0] (by rfl) rfl rfl mA ?_;with_reducible refine (norialaw3_Same.calls k1 _ _ (rd_L11 l0 x5_1) _ _ (rd_L15 l1 x5_1) false _ ?side1 ?side2 ?side3 ?side4 A7.out).mono ?_
        (case side1=>exact cU (Kd.C_below HR584_0.out HB.out));(case side2=>exact HC584_0.out);(case side3=>exact cU (Kd.C_below HR585_0.out HB.out));(case side4=>exact HC585_0.out);rintro e w12 ⟨rfl,hb⟩;refine ⟨_,rfl,?_⟩;replace HB:=Mk (below_step bB hb);(try clear hb);(try clear hb2);(try clear hk);(try clear hi);refine hK.out _ _ ⟨((HB.out.cell (World.block_lt_of_cell? w _ hw584_0)).trans hw584_0),((HB.out.cell (World.block_lt_of_cell? w _ hw585_0)).trans hw585_0)⟩ (fun hHeld=>?_);clear hK K;refine norm_ (a':=?_) ?_ ?_;rotate_left
        ·show Act.put _ (some 25) _=_
         simp only [Act.put,List.setIfInBounds_toArray,List.set_cons_zero,List.set_cons_succ,i64_w,i32_w];rfl
        refine pure_ (i:=9) (N:=some 26) (v:=?_) (a':=?_) (fl 10 1023) rfl rfl (aO HT_) fI (Or.inl ⟨by rfl,?_⟩) ?_ ?_;rotate_left
        ·intro w'
         go_simp
         with_reducible rfl
        rotate_left
        ·exact pA
        refine done_ (done_of HT_.out kR) ?_;try go_wp2
        go_ret
        exact ⟨eW,bB⟩
      ·rw [if_neg c6] at H
       exact absurd H (by simp)
     ·rw [if_neg c5] at H
      exact absurd H (by simp)
    ·rw [if_neg c4] at H
     have c4b0:=decide_eq_false c4;clear c4;obtain rfl:=Option.some.inj H
     go_wp2
     go_ret
     exact ⟨eW,bB⟩
 ·rw [if_neg c3] at H
  have c3b0:=beq_eq_false_iff_ne.mpr c3;have c3b1:=bne_iff_ne.mpr c3;have c3b2:(l0.length == l1.length)=false:=by first|simpa using c3|(simp at c3 ⊢;omega)
  obtain rfl:=Option.some.inj H;go_enter Tryz.func14,Tryz.ntmps14
  go_wp2
  go_ret
  exact ⟨eW,bB⟩
def norialaw3_OfAll.l0:Nat→List (S25)→List (S117)→Int→Option ((List (S117)))
 | 0,_,_,_=>none
 |k+1,x0,x3,x4=>if x4 < (x0.length:Int) then (if 0≤x4 then ((norialaw3_Of.f ((rd_T25 x0 x4).f0) ((rd_T25 x0 x4).f1) ((rd_T25 x0 x4).f2) ((rd_T25 x0 x4).f3)).bind fun bt588=>(if x3.length < 2932031007402 then (norialaw3_OfAll.l0 k x0 (x3++[(⟨bt588.1,bt588.2.1,bt588.2.2.1,bt588.2.2.2⟩:S117)]) (wrap64 (x4+1))) else (none))) else (none)) else (some x3)
def norialaw3_OfAll.f (k:Nat) (l0:List (S25)):Option ((List (S117))):=norialaw3_OfAll.l0 k l0 ([]:List (S117)) 0
set_option maxHeartbeats 8000000 in
set_option maxRecDepth 100000 in
theorem norialaw3_OfAll.calls (k:Nat) (A0:Option Addr) (c0:Nat) (l0:List (S25)) (r:List (S117)) (w:World) (hr0:Kd.C k25 w A0 l0.length l0) (hc0:l0.length≤c0) (h:norialaw3_OfAll.f k l0=some r):
  Calls Tryz.prog 38 #[.slice A0 l0.length c0] w fun e w'=>∃ v0_:Value,e = .returned (v0_)∧Kd.R k117 117 w' w.heap.size (fun _=>True) v0_ r∧Below w.heap.size w w':=by
 have hu25:=Tryz.underlying25;have HR0:=Mk hr0;have HC0:=Mk hc0;clear hr0 hc0;have HB:=Mk (Below.refl w.heap.size w);have H:(norialaw3_OfAll.l0 k l0 ([]:List (S117)) 0)=some r:=h;clear h;have H':=Mk H;clear H;go_enter Tryz.func38,Tryz.ntmps38
 go_wp2
 go_loopg [3,4] k (fun kq v3 v4 w'=>∃ (x3_1:List (S117)) (x4_1:Int),v4 = .int .i64 x4_1∧Aside0 (norialaw3_OfAll.l0 kq l0 x3_1 x4_1=some r)∧Aside0 (kq≤k)∧Aside0 (Kd.R k117 117 w' w.heap.size (fun _=>True) v3 x3_1)∧Aside0 (Below w.heap.size w w'))
 case atStart=>exact ⟨(([]:List (S117))),(0),sS,H',⟨Nat.le_refl _⟩,⟨by first|exact Kd.R_nil _ _ _ _ _|exact Kd.N_nil _ _ _ _ _|exact Kd.V_nil _ _ _ _ _|exact Kd.Q_nil _ _ _ _ _|exact Kd.S_nil _ _ _ _ _⟩,⟨bB⟩⟩
 case round=>
  clear H';obtain ⟨x3_1,x4_1,rfl,HA,HK1,HO_3,HB⟩:=hrel
  cases gk with
  |zero=>exact absurd HA.out (by simp [norialaw3_OfAll.l0])
  |succ k1=>
   have H:=HA.out;clear HA;simp only [norialaw3_OfAll.l0] at H;by_cases c2:x4_1 < (l0.length:Int)
   ·rw [if_pos c2] at H
    have c2b0:=decide_eq_true c2;clear c2;by_cases c3:0≤x4_1
    ·rw [if_pos c3] at H
     have c3b0:=decide_eq_true c3;clear c3;replace H:=Option.bind_eq_some_iff.mp H;obtain ⟨⟨t588,t589,t590,t591⟩,A40,H⟩:=H;try dsimp only at H
     have A4:=Mk A40;clear A40;by_cases c5:x3_1.length < 2932031007402
     ·rw [if_pos c5] at H
      have LMc5:=Mk c5;clear c5;obtain ⟨y592,hy592⟩:∃ y_:List (S117),y_=(x3_1++[(⟨t588,t589,t590,t591⟩:S117)]):=⟨_,rfl⟩;replace H:(norialaw3_OfAll.l0 k1 l0 y592 (wrap64 (x4_1+1)))=some r:=by first|(rw [hy592];with_reducible exact H)|(have H2_:=(Option.bind_some _ _).symm.trans H;rw [hy592];with_reducible exact H2_)|(have H2_:=(Option.bind_some _ _).symm.trans H;with_reducible exact H2_)|with_reducible exact H|(rw [hy592];exact H)|exact H
      have Ny592:=Mk hy592;clear hy592;have H':=Mk H;clear H;have p587:0≤(x4_1:Int):=of_decide_eq_true aS;have q587:x4_1 < (l0.length:Int):=of_decide_eq_true aS;obtain ⟨ad587,e587,hx587_0,hx587_1,hx587_2,hx587_3⟩:=at_T25 HR0.out x4_1 p587 q587;cases e587
      replace hx587_0:=(HB.out.cell (World.block_lt_of_cell? w _ hx587_0)).trans hx587_0;replace hx587_1:=(HB.out.cell (World.block_lt_of_cell? w _ hx587_1)).trans hx587_1;replace hx587_2:=(HB.out.cell (World.block_lt_of_cell? w _ hx587_2)).trans hx587_2;replace hx587_3:=(HB.out.cell (World.block_lt_of_cell? w _ hx587_3)).trans hx587_3;replace p587:=eq_true p587;replace q587:=eq_true q587
      go_wp2_with (first|((with_reducible refine gate_callee (f:=71) rfl ?_);refine goesL_ (some 16) rfl rfl Tryz.func71 kR rfl #[.agg #[.int .i64 ((rd_T25 l0 x4_1).f0),.int .i64 ((rd_T25 l0 x4_1).f1),.string ((rd_T25 l0 x4_1).f2),.complex .f64 (((rd_T25 l0 x4_1).f3).1) (((rd_T25 l0 x4_1).f3).2)]] rfl mA ?_;(with_reducible refine (norialaw3_Of.calls ((rd_T25 l0 x4_1).f0) ((rd_T25 l0 x4_1).f1) ((rd_T25 l0 x4_1).f2) ((rd_T25 l0 x4_1).f3) t588 t589 t590 t591 _ A4.out).mono ?_);rintro e w6 ⟨rfl,hb⟩;refine ⟨_,rfl,?_⟩;replace HO_3:=Mk (Kd.R_below (rU HO_3) hb);replace HB:=Mk (below_step bB hb);clear hb)|((with_reducible refine gate_builtin (b:=.append) (xs:=#[.tmp 11,.tmp 17]) rfl ?_);at_builtin;refine Kd.R_append k117 (w0:=w) w.heap.size rfl (.tmp 11) (.tmp 17) 82 117 (.agg #[(.int .i64 0),(.int .i64 0),(.string ⟨#[]⟩),(.complex .f64 0 0)]) 48 rfl Tryz.underlying82 info117 rfl (by decide) (by omega) u3 x3_1 (⟨t588,t589,t590,t591⟩:S117) [.int .i64 t588,.int .i64 t589,.string t590,.complex .f64 t591.1 t591.2] (fun _=>True) (fun _=>False) rfl rfl ?aP (fun _ hk=>hk.elim) ?aF ?aO ?aB ?aS ?aL ?_;(case aP=>exact k117_mkM _ _ _ (⟨t588,t589,t590,t591⟩:S117));(case aB=>exact bB);(case aF=>exact (fun _ _=>trivial));(case aO=>exact (rU HO_3));(case aS=>exact (below_size bB));(case aL=>have:=LMc5.out;omega);intro v593 w7 ho hb hg hat;rw [← Ny592.out] at ho;have n0_:=Mk (hb);have n1_:=Mk (ho);clear HB;clear HO_3;have HB:=n0_;have HO594:=n1_;clear n0_ n1_;clear ho hb hg hat))
      go_roundg k1
      case measure=>have:=HK1.out;omega
      case rel=>exact ⟨(y592),(wrap64 (x4_1+1)),sS,H',⟨by have:=HK1.out;omega⟩,⟨rU HO594⟩,⟨bB⟩⟩
     ·rw [if_neg c5] at H
      exact absurd H (by simp)
    ·rw [if_neg c3] at H
     exact absurd H (by simp)
   ·rw [if_neg c2] at H
    have c2b0:=decide_eq_false c2;clear c2;obtain rfl:=Option.some.inj H
    go_wp2
    go_ret
    exact ⟨_,eW,by (repeat apply Rup);exact HO_3.out,bB⟩
end Go.Proofs.YtcpjlbdjnaaaiaaGreatDoor.PAll
