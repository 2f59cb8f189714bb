import Derived.Test.YtcpjlbdjnaaaiaaGreatDoorPAllx17
namespace Go.Proofs.YtcpjlbdjnaaaiaaGreatDoor.PAll
open Go.Proofs.YtcpjlbdjnaaaiaaGreatDoor.Help
open Go.RowKit Go.Proofs.YtcpjlbdjnaaaiaaGreatDoorW.PrintWords Go.Proofs.YtcpjlbdjnaaaiaaGreatDoorW.PrintLast Go.Proofs.YtcpjlbdjnaaaiaaGreatDoorW.PrintMore
set_option linter.unusedVariables false
set_option linter.unusedSimpArgs false
def req_reader_rows.l0:Nat→List (List (S25))→ByteArray→Int→Int→Option ((List (List (S25)))×ByteArray×Int×Int)
 | 0,_,_,_,_=>none
 |k+1,x3,x1000,x1001,x1002=>if x1002=0 then (if 0≤(wrap64 ((x3.length:Int) - 1)) then (if (wrap64 ((x3.length:Int) - 1)) < (x3.length:Int) then ((req_reader_val.f k x1000 x1001 x1002).bind fun bt409=>(if (rd_L11 x3 (wrap64 ((x3.length:Int) - 1))).length < 2932031007402 then ((some (x3.set ((wrap64 ((x3.length:Int) - 1)):Int).toNat ((rd_L11 x3 (wrap64 ((x3.length:Int) - 1)))++[(⟨bt409.1,bt409.2.1,bt409.2.2.1,bt409.2.2.2.1⟩:S25)]):List (List (S25)))).bind fun y419=>((req_reader_is.f bt409.2.2.2.2.1 bt409.2.2.2.2.2.1 bt409.2.2.2.2.2.2 (⟨#[44]⟩:ByteArray)).bind fun bt420=>(if bt420.1=true then (req_reader_rows.l0 k y419 bt420.2.1 bt420.2.2.1 bt420.2.2.2) else ((req_reader_is.f bt420.2.1 bt420.2.2.1 bt420.2.2.2 (⟨#[59]⟩:ByteArray)).bind fun bt424=>(if bt424.1=true then (if y419.length < 5864062014805 then (req_reader_rows.l0 k (y419++[[]]) bt424.2.1 bt424.2.2.1 bt424.2.2.2) else (none)) else (some (y419,bt424.2.1,bt424.2.2.1,bt424.2.2.2))))))) else (none))) else (none)) else (none)) else (some (x3,x1000,x1001,x1002))
def req_reader_rows.f (k:Nat) (s0_0:ByteArray) (s0_1:Int) (s0_2:Int):Option ((List (List (S25)))×ByteArray×Int×Int):=req_reader_rows.l0 k (([[]]:List (List (S25)))) s0_0 s0_1 s0_2
def req_reader_rows.T4:Bool×List (List Nat×List Nat):=(true,[([],[]),([],[]),([],[]),([],[]),([2,3],[2,3]),([4],[4]),([],[]),([6],[6]),([7],[7]),([5,8,7],[5,8]),([0,1,0,1,2,3,4,5,6,7,8,9],[0,1]),([10,9,9,0,1,2,3,4,5,6,7,8,9],[9,10])])
def req_reader_rows.B4:List Nat:=[0,0,0,0,12,28,0,64,192,508,1023,2047]
theorem req_reader_rows.tab4:rtab .any (opsOf Tryz.f33 4)=req_reader_rows.T4:=by kernel_rfl
theorem req_reader_rows.bits4:waitsOk req_reader_rows.T4.2 req_reader_rows.B4=true:=by kernel_rfl
set_option maxHeartbeats 8000000 in
set_option maxRecDepth 100000 in
theorem req_reader_rows.calls (k:Nat) (g:Nat) (s0_0:ByteArray) (s0_1:Int) (s0_2:Int) (r1:List (List (S25))) (r2:ByteArray) (r3:Int) (r4:Int) (w0 w:World) (hI:IsS64 w0 w g s0_0 s0_1 s0_2) (hB:Below w0.heap.size w0 w) (h:req_reader_rows.f k s0_0 s0_1 s0_2=some (r1,r2,r3,r4)) (hG_:Glob w0):
  Calls Tryz.prog 33 #[.pointer (some ⟨g,0,none⟩)] w fun e w'=>∃ v0_:Value,e = .returned (v0_)∧Kd.S (Kd.slice 25 k25) 46 w' w.heap.size (fun _=>True) v0_ r1∧IsS64 w0 w' g r2 r3 r4∧Below w0.heap.size w0 w'∧KeepBut w w' g none:=by
 have HG_:=Mk hG_;clear hG_;have HI0:=Mk hI;have HK:=Mk (KeepBut.refl w g none);have HL:=Mk hB.size;clear hI;have HW0:=Mk hB.size;have HB:=Mk hB;clear hB;have H:(req_reader_rows.l0 k (([[]]:List (List (S25)))) s0_0 s0_1 s0_2)=some (r1,r2,r3,r4):=h;clear h;obtain ⟨y405,hy405⟩:∃ y_:List (List (S25)),y_=(([[]]:List (List (S25)))):=⟨_,rfl⟩;replace H:(req_reader_rows.l0 k y405 s0_0 s0_1 s0_2)=some (r1,r2,r3,r4):=by first|(rw [hy405];with_reducible exact H)|(have H2_:=(Option.bind_some _ _).symm.trans H;rw [hy405];with_reducible exact H2_)|(have H2_:=(Option.bind_some _ _).symm.trans H;with_reducible exact H2_)|with_reducible exact H|(rw [hy405];exact H)|exact H
 have Ny405:=Mk hy405;clear hy405;have H':=Mk H;clear H;go_enter Tryz.func33,Tryz.ntmps33
 go_wp2_with (first|((with_reducible refine gate_dst (N:=5) rfl ?_);refine Kd.S_lit (Kd.slice 25 k25) _ 46 ?hg (N:=5) ?hd (xs:=([[]]:List (List (S25)))) (inner:=[.slice none 0 0]) (ok:=fun _=>True) (okp:=fun _=>True) ?hr ?hp (fun _ hk=>hk) trivial (Below.refl _ _) (Nat.le_refl _) (by simp) ?_;(case hd=>rfl);(case hg=>rfl);(case hr=>exact hR);(case hp=>exact (Reps.one (show Kd.M (Kd.slice 25 k25) _ _ _ [] [.slice none 0 0] from ⟨_,rfl,Kd.R_nil _ _ _ _ _⟩) (Reps.none _ _)));intro v406 w2 ho3 hb hg_ hnew_;clear hg_ hnew_;(first|rw [← Ny405.out] at ho3|(simp only [Int.reduceToNat] at ho3;rw [← Ny405.out] at ho3));have HO407:=Mk (Kd.S_lower ho3 (keep_size (w:=w) (g:=g) (row:=none) kK));replace HI0:=Mk (IsS64.below (hI HI0) hb);replace HK:=Mk (KeepBut.trans kK (KeepBut.of_below hb g none) (.inl rfl));replace HB:=Mk (below_step bB hb);clear hb ho3))
 go_loopg [3] k (fun kq v3 w'=>∃ (x3_1:List (List (S25))) (x1000_1:ByteArray) (x1001_1:Int) (x1002_1:Int),Aside0 (req_reader_rows.l0 kq x3_1 x1000_1 x1001_1 x1002_1=some (r1,r2,r3,r4))∧Aside0 (kq≤k)∧Aside0 (Kd.S (Kd.slice 25 k25) 46 w' w.heap.size (fun _=>True) v3 x3_1)∧Aside0 (IsS64 w0 w' g x1000_1 x1001_1 x1002_1)∧Aside0 (KeepBut w w' g none)∧Aside0 (Below w0.heap.size w0 w'))
 case atStart=>exact ⟨(y405),(s0_0),(s0_1),(s0_2),H',⟨Nat.le_refl _⟩,⟨sU HO407⟩,⟨hI HI0⟩,⟨kK⟩,⟨bB⟩⟩
 case round=>
  clear H';try clear p2
  try clear c3
  obtain ⟨x3_1,x1000_1,x1001_1,x1002_1,HA,HK1,HO_3,HI0,HK,HB⟩:=hrel
  cases gk with
  |zero=>exact absurd HA.out (by simp [req_reader_rows.l0])
  |succ k1=>
   have H:=HA.out;clear HA;simp only [req_reader_rows.l0] at H;by_cases c4:x1002_1=0
   ·rw [if_pos c4] at H
    have c4b0:=beq_iff_eq.mpr c4;have c4b1:=bne_eq_false_iff_eq.mpr c4;clear c4;obtain ⟨ji5,hji5⟩:∃ j_:Int,(wrap64 ((x3_1.length:Int) - 1))=j_:=⟨_,rfl⟩;replace H:(if 0≤(ji5) then (if (ji5) < (x3_1.length:Int) then ((req_reader_val.f k1 x1000_1 x1001_1 x1002_1).bind fun bt409=>(if (rd_L11 x3_1 (ji5)).length < 2932031007402 then ((some (x3_1.set ((ji5):Int).toNat ((rd_L11 x3_1 (ji5))++[(⟨bt409.1,bt409.2.1,bt409.2.2.1,bt409.2.2.2.1⟩:S25)]):List (List (S25)))).bind fun y419=>((req_reader_is.f bt409.2.2.2.2.1 bt409.2.2.2.2.2.1 bt409.2.2.2.2.2.2 (⟨#[44]⟩:ByteArray)).bind fun bt420=>(if bt420.1=true then (req_reader_rows.l0 k1 y419 bt420.2.1 bt420.2.2.1 bt420.2.2.2) else ((req_reader_is.f bt420.2.1 bt420.2.2.1 bt420.2.2.2 (⟨#[59]⟩:ByteArray)).bind fun bt424=>(if bt424.1=true then (if y419.length < 5864062014805 then (req_reader_rows.l0 k1 (y419++[[]]) bt424.2.1 bt424.2.2.1 bt424.2.2.2) else (none)) else (some (y419,bt424.2.1,bt424.2.2.1,bt424.2.2.2))))))) else (none))) else (none)) else (none))=some (r1,r2,r3,r4):=by first|(rw [hji5] at H;exact H)|(simp only [hji5] at H ⊢;exact H)
    have hji5w:(IntKind.i64.wrap ((x3_1.length:Int) - 1))=ji5:=(i64_w _).trans hji5;by_cases c6:0≤(ji5)
    ·rw [if_pos c6] at H
     have c6b0:=decide_eq_true c6;clear c6;by_cases c7:(ji5) < (x3_1.length:Int)
     ·rw [if_pos c7] at H
      have c7b0:=decide_eq_true c7;clear c7;replace H:=Option.bind_eq_some_iff.mp H;obtain ⟨⟨t409,t410,t411,t412,t413,t414,t415⟩,A80,H⟩:=H;try dsimp only at H
      have A8:=Mk A80;clear A80;by_cases c9:(rd_L11 x3_1 (ji5)).length < 2932031007402
      ·rw [if_pos c9] at H
       have LMc9:=Mk c9;clear c9;obtain ⟨y416,hy416⟩:∃ y_:List (S25),y_=((rd_L11 x3_1 (ji5))++[(⟨t409,t410,t411,t412⟩:S25)]):=⟨_,rfl⟩;replace H:((some (x3_1.set ((ji5):Int).toNat y416:List (List (S25)))).bind fun y419=>((req_reader_is.f t413 t414 t415 (⟨#[44]⟩:ByteArray)).bind fun bt420=>(if bt420.1=true then (req_reader_rows.l0 k1 y419 bt420.2.1 bt420.2.2.1 bt420.2.2.2) else ((req_reader_is.f bt420.2.1 bt420.2.2.1 bt420.2.2.2 (⟨#[59]⟩:ByteArray)).bind fun bt424=>(if bt424.1=true then (if y419.length < 5864062014805 then (req_reader_rows.l0 k1 (y419++[[]]) bt424.2.1 bt424.2.2.1 bt424.2.2.2) else (none)) else (some (y419,bt424.2.1,bt424.2.2.1,bt424.2.2.2)))))))=some (r1,r2,r3,r4):=by first|(rw [hy416];with_reducible exact H)|(have H2_:=(Option.bind_some _ _).symm.trans H;rw [hy416];with_reducible exact H2_)|(have H2_:=(Option.bind_some _ _).symm.trans H;with_reducible exact H2_)|with_reducible exact H|(rw [hy416];exact H)|exact H
       have Ny416:=Mk hy416;clear hy416;obtain ⟨y419,hy419⟩:∃ y_:List (List (S25)),y_=(x3_1.set ((ji5):Int).toNat y416):=⟨_,rfl⟩;replace H:((req_reader_is.f t413 t414 t415 (⟨#[44]⟩:ByteArray)).bind fun bt420=>(if bt420.1=true then (req_reader_rows.l0 k1 y419 bt420.2.1 bt420.2.2.1 bt420.2.2.2) else ((req_reader_is.f bt420.2.1 bt420.2.2.1 bt420.2.2.2 (⟨#[59]⟩:ByteArray)).bind fun bt424=>(if bt424.1=true then (if y419.length < 5864062014805 then (req_reader_rows.l0 k1 (y419++[[]]) bt424.2.1 bt424.2.2.1 bt424.2.2.2) else (none)) else (some (y419,bt424.2.1,bt424.2.2.1,bt424.2.2.2))))))=some (r1,r2,r3,r4):=by first|(rw [hy419];with_reducible exact H)|(have H2_:=(Option.bind_some _ _).symm.trans H;rw [hy419];with_reducible exact H2_)|(have H2_:=(Option.bind_some _ _).symm.trans H;with_reducible exact H2_)|with_reducible exact H|(rw [hy419];exact H)|exact H
       have Ny419:=Mk hy419;clear hy419;replace H:=Option.bind_eq_some_iff.mp H;obtain ⟨⟨t420,t421,t422,t423⟩,A110,H⟩:=H;try dsimp only at H
       have A11:=Mk A110;clear A110;by_cases c12:t420=true
       ·subst c12
        rw [if_pos rfl] at H;try dsimp only at H
        have H':=Mk H;clear H;obtain ⟨HGz13,hgz13⟩:=HI0.out;have hcz13_0:=cellS64_0 HGz13;have hcz13_1:=cellS64_1 HGz13;have hcz13_2:=cellS64_2 HGz13;have hfz13_0:=blk_frozen HGz13 0;have hfz13_1:=blk_frozen HGz13 1;have hfz13_2:=blk_frozen HGz13 2;clear HGz13 hgz13;obtain ⟨Ao14,co14,eo14⟩:=Kd.S_slice HO_3.out;subst eo14;try go_wp2
        replace HO_3:=Mk (Kd.S_drew HO_3.out);replace HI0:=Mk (IsS64.drew HI0.out);replace HK:=Mk (keep_drew HK.out);replace HB:=Mk (below_drew1 HB.out);have p408:0≤((ji5):Int):=of_decide_eq_true aS;have q408:(ji5) < (x3_1.length:Int):=of_decide_eq_true aS;obtain ⟨ad408,A408_0,c408_0,e408,hx408_0,hl408_0,hi408_0⟩:=at_L11 (Kd.S_reads' HO_3.out).2.2 (ji5) p408 q408;cases e408
        obtain ⟨ce408,hce408,hMe408,hcc408⟩:=Kd.S_get HO_3.out [] (ji5) p408 (by first|exact q408|exact of_decide_eq_true aS|(have e_:=(Kd.S_reads' HO_3.out).1;omega));obtain ⟨ve408_0,rfl,ge408_0⟩:=hMe408;have hv408_0:=hcc408 0 _ rfl;rw [Nat.add_zero,show ((Kd.slice 25 k25)).sz=1 from rfl,Nat.mul_one] at hv408_0;replace hv408_0:=Option.some.inj (hv408_0.symm.trans hx408_0);rw [hv408_0] at ge408_0;have HL408_0:=Mk (show Kd.R k25 25 _ _ _ _ (rd_L11 x3_1 (ji5)) from ge408_0);clear hv408_0 ge408_0;have HX408_0:=Mk hx408_0;clear hcc408 hce408;have HR408_0:=Mk hi408_0;have HC408_0:=Mk hl408_0;clear hi408_0 hl408_0;replace p408:=eq_true p408;replace q408:=eq_true q408;refine start_ (n:=12) (S:=fun w'=>w'.cell? (ad408.add ((ji5)).toNat)=some (.slice A408_0 (rd_L11 x3_1 (ji5)).length c408_0)) (ds:=[11]) #[b0,b0,b0,b0,b0,b0,b0,b0,b0,b0,b0,b0] kR rfl rfl (hx408_0) (fun hHeld=>?_);refine with_tabW req_reader_rows.tab4 req_reader_rows.bits4 (fun HT_ HW_=>?_)
        generalize wr.drew=w15 at HO_3 HI0 HK HB HL408_0 HR408_0 HX408_0 hx408_0 hHeld ⊢
        refine pure_ (i:=0) (N:=some 14) (v:=?_) (a':=?_) (fl 12 1) rfl rfl (aO HT_) fI (Or.inl ⟨by rfl,?_⟩) ?_ ?_;rotate_left
        ·intro w'
         go_simp
         with_reducible rfl
        rotate_left
        ·exact pA
        refine pure_ (i:=1) (N:=some 15) (v:=?_) (a':=?_) (fl 12 3) rfl rfl (aO HT_) fI (Or.inl ⟨by rfl,?_⟩) ?_ ?_;rotate_left
        ·intro w'
         go_simp
         with_reducible rfl
        rotate_left
        ·exact pA
        refine pure_ (i:=2) (N:=some 16) (v:=?_) (a':=?_) (fl 12 7) rfl rfl (aO HT_) fI (Or.inl ⟨by rfl,?_⟩) ?_ ?_;rotate_left
        ·intro w'
         go_simp
         with_reducible rfl
        rotate_left
        ·exact pA
        refine pure_ (i:=3) (N:=some 17) (v:=?_) (a':=?_) (fl 12 15) rfl rfl (aO HT_) fI (Or.inl ⟨by rfl,?_⟩) ?_ ?_;rotate_left
        ·intro w'
         go_simp
         with_reducible rfl
        rotate_left
        ·exact pA
        refine pure_ (i:=4) (N:=some 18) (v:=?_) (a':=?_) (fl 12 31) rfl rfl (aO HT_) fI (Or.inl ⟨by rfl,?_⟩) ?_ ?_;rotate_left
        ·intro w'
         go_simp
         with_reducible rfl
        rotate_left
        ·exact pA
        refine pure_ (i:=6) (N:=some 20) (v:=?_) (a':=?_) (fl 12 95) rfl rfl (aO HT_) fI (Or.inl ⟨by rfl,?_⟩) ?_ ?_;rotate_left
        ·intro w'
         go_simp
         with_reducible rfl
        rotate_left
        ·exact pA
        refine take_ (i:=5) (N:=some 19) (v:=?_) (a':=?_) (fl 12 127) rfl rfl (tO HT_ HW_) fI (Or.inl ⟨by rfl,?_⟩) hHeld ?_ ?_;rotate_left
        ·intro w' s0
         go_simp
         with_reducible rfl
        rotate_left
        ·exact pA
        refine one_ (i:=7) (N:=some 21) (fl 12 255) rfl rfl (oO HT_) (by decide) (fun K hK=>?_);refine goes_ Tryz.func65 kR rfl #[.pointer (some ⟨g,0,none⟩)] (by rfl) rfl rfl mA ?_;with_reducible refine (req_reader_val.calls k1 g x1000_1 x1001_1 x1002_1 t409 t410 t411 t412 t413 t414 t415 w0 _ ?side1 ?side2 A8.out HG_.out).mono ?_
        (case side1=>exact hI HI0);(case side2=>exact bB);rintro e w16 ⟨rfl,hi,hb,hk⟩;have HS0_:=keep_cell hk (hHeld) (by first|(rw [add_block];exact Kd.own_blk (IsS64.own_neS HI0.out HO_3.out (by decide)))|(show (Addr.add _ _).block≠_;rw [add_block];exact Kd.own_blk (IsS64.own_neS HI0.out HO_3.out (by decide)))|exact Kd.own_blk (IsS64.own_neS HI0.out HO_3.out (by decide)));refine ⟨_,rfl,?_⟩;replace HL408_0:=Mk (Kd.R_mono (Kd.R_keep (IsS64.apart (show IsS64 w0 _ g x1000_1 x1001_1 x1002_1 from hI HI0) (by (repeat apply Rup);exact HL408_0.out) (by decide)) hk (fun _ h=>h.2)) (fun _ h=>h.1));replace HX408_0:=Mk (keep_cell hk HX408_0.out (by first|(rw [add_block];exact Kd.own_blk (IsS64.own_neS HI0.out HO_3.out (by decide)))|(show (Addr.add _ _).block≠_;rw [add_block];exact Kd.own_blk (IsS64.own_neS HI0.out HO_3.out (by decide)))|exact Kd.own_blk (IsS64.own_neS HI0.out HO_3.out (by decide))|(dsimp only;exact Kd.own_blk (IsS64.own_neS HI0.out HO_3.out (by decide)))));replace HO_3:=Mk (Kd.S_mono (Kd.S_keep (IsS64.apartS (show IsS64 w0 _ g x1000_1 x1001_1 x1002_1 from hI HI0) (sU HO_3) (by decide)) hk (fun _ h=>h.2)) (fun _ h=>h.1));replace HK:=Mk (KeepBut.trans kK hk (.inl rfl));replace HB:=Mk (hb);replace HI0:=Mk (hi);(try clear hb);(try clear hb2);(try clear hk);(try clear hi);obtain ⟨go17,co17,eo17,gb17,gl17,cl17,HG17⟩:=Kd.S_form HO_3.out (by have h_:((ji5):Int) < ((x3_1.length:Int):Int):=of_decide_eq_true aS;have h2_:0≤((ji5):Int):=(of_decide_eq_true aS);omega);(first|cases eo17|(injection eo17 with ea_ en_ ec_;(first|subst ea_|(injection ea_ with ea_;subst ea_));subst ec_;clear en_));have GB17:=Mk gb17;have GG17:=Mk HG17;clear gb17 gl17 HG17;(first|simp only [add_plain] at hx408_0|skip);obtain ⟨oki17,ce17,hcl17,hM17,hcc17,_,_,hH17⟩:=Kd.S_elem HO_3.out [] ((ji5):Int) (of_decide_eq_true aS) (by have h_:((ji5):Int) < ((x3_1.length:Int):Int):=of_decide_eq_true aS;first|exact h_|(have e_:=(Kd.S_reads' HO_3.out).1;omega)|simpa using h_);obtain ⟨ve17_0,rfl,ge17_0⟩:=hM17;have hv17:=hcc17 0 _ rfl;have hX17:=HX408_0.out;(try simp only [add_plain] at hX17);(try simp only [Nat.add_zero] at hv17);(try rw [show ((Kd.slice 25 k25)).sz=1 from rfl,Nat.mul_one] at hv17);replace hv17:=Option.some.inj (hv17.symm.trans hX17);subst hv17;clear hX17 hcc17 hcl17;have UU17:=Mk (show Kd.R k25 25 _ w.heap.size oki17 (.slice A408_0 (rd_L11 x3_1 (ji5)).length c408_0) (rd_L11 x3_1 (ji5)) from ge17_0);have HH17:=Mk hH17;have HN17:=Mk (Kd.S_reads' HO_3.out).1;clear hH17 ge17_0;refine hK.out _ _ (HS0_) (fun hHeld=>?_);clear hK K;refine norm_ (a':=?_) ?_ ?_;rotate_left
        ·show Act.put _ (some 21) _=_
         simp only [Act.put,List.setIfInBounds_toArray,List.set_cons_zero,List.set_cons_succ,i64_w,i32_w];rfl
        refine one_ (i:=8) (N:=some 22) (fl 12 511) rfl rfl (oO HT_) (by decide) (fun K hK=>?_);refine value_ (w1:=?_) (v:=?_) (by rfl) rfl ?_ ?_;rotate_left 2
        ·go_simp
         constructor
         ·rfl
         ·rfl
        refine hK.out _ _ ((World.cell?_alloc_lt _ _ _ (World.block_lt_of_cell? _ _ (hHeld))).trans (hHeld)) (fun hHeld=>?_);clear hK K;refine norm_ (a':=?_) ?_ ?_;rotate_left
        ·show Act.put _ (some 22) _=_
         simp only [Act.put,List.setIfInBounds_toArray,List.set_cons_zero,List.set_cons_succ,i64_w,i32_w];rfl
        refine one_ (i:=9) (N:=some 23) (fl 12 1023) rfl rfl (oO HT_) (by decide) (fun K hK=>?_);refine Kd.R_append_step k25 w.heap.size (by rfl) (.tmp 19) (.tmp 22) 46 25 (.agg #[(.int .i64 0),(.int .i64 0),(.string ⟨#[]⟩),(.complex .f64 0 0)]) 48 rfl Tryz.underlying46 info25 rfl (by decide) (by omega) (.slice A408_0 (rd_L11 x3_1 (ji5)).length c408_0) (rd_L11 x3_1 (ji5)) (⟨t409,t410,t411,t412⟩:S25) [.int .i64 t409,.int .i64 t410,.string t411,.complex .f64 t412.1 t412.2] (fun k_=>oki17 k_∨((fun _=>True)) k_∧w16.heap.size≤k_) (fun _=>False) rfl rfl ?aP (fun _ hk=>hk.elim) ?aF ?aO (Below.refl _ _) ?aS ?aL ?_;(case aP=>exact k25_mkM _ _ _ (⟨t409,t410,t411,t412⟩:S25));(case aF=>exact (fun k_ hk=>.inr ⟨trivial,hk⟩));(case aO=>exact (by (repeat apply Rup);exact Kd.R_mono UU17.out (fun _ hk=>.inl hk)));(case aS=>exact (keep_size (w:=w) (g:=g) (row:=none) kK));(case aL=>have:=LMc9.out;omega);intro v417 w18 ho hb hg hat;(first|have HS0_:=cell_grown hg (hHeld) (by first|(rw [add_block];exact (fun e_=>((HL408_0.out.1 _ e_.symm).2) rfl))|(show some (Addr.add _ _).block≠_;rw [add_block];exact (fun e_=>((HL408_0.out.1 _ e_.symm).2) rfl))|exact (fun e_=>((HL408_0.out.1 _ e_.symm).2) rfl))|have HS0_:=cell_grown hg (cell_unalloc (hHeld) (by first|(rw [add_block];exact Kd.S_lt HO_3.out _ rfl)|(show (Addr.add _ _).block < _;rw [add_block];exact Kd.S_lt HO_3.out _ rfl)|exact Kd.S_lt HO_3.out _ rfl)) (by first|(rw [add_block];exact (fun e_=>((HL408_0.out.1 _ e_.symm).2) rfl))|(show some (Addr.add _ _).block≠_;rw [add_block];exact (fun e_=>((HL408_0.out.1 _ e_.symm).2) rfl))|exact (fun e_=>((HL408_0.out.1 _ e_.symm).2) rfl)));rw [← Ny416.out] at ho;have n0_:=Mk (IsS64.grown (hI HI0) hg (IsS64.own_ne HI0.out HL408_0.out (by decide)));have n1_:=Mk (below_weaken bB HL.out hb);have n2_:=Mk (KeepBut.trans kK (KeepBut.of_grown hg g) (Kd.R_base2 HL408_0.out));have n3_:=Mk (Kd.H_grown (Kd.H_widen (by repeat (first|exact HH17.out|refine Kd.H_alloc ?_ _|refine Kd.H_drewN ?_ _|refine Kd.H_drew ?_))) hg (fun k_ e_=>.inl (UU17.out.1 k_ e_)));have n4_:=Mk (ho);clear HI0;clear HB;clear HK;clear HH17;clear HO_3;clear UU17;clear HL408_0;have HI0:=n0_;have HB:=n1_;have HK:=n2_;have HH17:=n3_;have HO418:=n4_;clear n0_ n1_ n2_ n3_ n4_;clear ho hb hg hat;have p10:0≤((ji5):Int):=of_decide_eq_true aS;have q10:((ji5):Int) < ((x3_1.length:Int):Int):=of_decide_eq_true aS;replace p10:=eq_true p10;replace q10:=eq_true q10;obtain ⟨Ao21,co21,eo21⟩:=Kd.R_slice HO418.out;(first|subst eo21|(injection eo21 with f1_ f2_ f3_;have f4_:=f1_.symm;have f5_:=f3_.symm;clear f1_ f2_ f3_;subst f4_;subst f5_));obtain ⟨_,_,hraw19,_,_,hcc19,_⟩:=Kd.H_raw HH17.out (of_decide_eq_true aS) (by have h_:((ji5):Int) < ((x3_1.length:Int):Int):=of_decide_eq_true aS;first|exact h_|(have e_:=(HN17.out);omega)|simpa using h_);obtain ⟨_,hfr19⟩:=Kd.H_at HH17.out (of_decide_eq_true aS) (by have h_:((ji5):Int) < ((x3_1.length:Int):Int):=of_decide_eq_true aS;first|exact h_|(have e_:=(HN17.out);omega)|simpa using h_);have hx19_0:=hcc19 0 _ rfl;have hf19_0:=hfr19 0;(try simp only [Nat.add_zero] at hx19_0 hf19_0);(try rw [show ((Kd.slice 25 k25)).sz=1 from rfl,Nat.mul_one] at hx19_0);(try rw [show ((Kd.slice 25 k25)).sz=1 from rfl,Nat.mul_one] at hf19_0);have HP19:=Kd.S_seg0 HH17.out (of_decide_eq_true aS) (by have h_:((ji5):Int) < ((x3_1.length:Int):Int):=of_decide_eq_true aS;first|exact h_|(have e_:=(HN17.out);omega)|simpa using h_) (seg:=[.slice Ao21 y416.length co21]) (j:=0) (show 1≤1 from by decide) (x':=y416) (Kd.M_row HO418.out) (fun _ hk=>hk);(try simp only [show ((Kd.slice 25 k25)).sz=1 from rfl,Nat.mul_one,Nat.add_zero] at HP19);clear hcc19 hfr19;have HN0_go17:=Mk (show g≠go17 from by have h_:=IsS64.own_ne HI0.out hraw19 (by decide);intro e_;exact h_ (by rw [e_];rfl));have HS19:=HP19.1;rw [← Ny419.out] at HS19;have HQ19:=Mk HS19;obtain ⟨_,hgg19⟩:=Kd.R_typed hraw19 go17 rfl;have GG19_:=Mk hgg19;clear HP19 HS19 hgg19;refine hK.out _ _ (HS0_) (fun hHeld=>?_);clear hK K;refine norm_ (a':=?_) ?_ ?_;rotate_left
        ·show Act.put _ (some 23) _=_
         simp only [Act.put,List.setIfInBounds_toArray,List.set_cons_zero,List.set_cons_succ,i64_w,i32_w];rfl
        refine pure_ (i:=10) (N:=some 24) (v:=?_) (a':=?_) (fl 12 2047) rfl rfl (aO HT_) fI (Or.inl ⟨by rfl,?_⟩) ?_ ?_;rotate_left
        ·intro w'
         go_simp
         with_reducible rfl
        rotate_left
        ·exact pA
        refine last_ (i:=11) (N:=none) (fl 12 4095) rfl rfl (oO HT_) (by decide) (fun K hK=>?_);refine skip_ (w1:=?_) (by rfl) rfl ?_ ?_;rotate_left
        ·go_simp
         rfl
        refine hK.out _ _ ?_;clear hK K;refine done_ (done_of HT_.out kR) ?_;have HO_3:=HQ19;try go_wp2_with (first|((with_reducible refine gate_callee (f:=66) rfl ?_);refine goesL_ (some 26) rfl rfl Tryz.func66 kR rfl #[.pointer (some ⟨g,0,none⟩),.string (⟨#[44]⟩:ByteArray)] rfl mA ?_;(with_reducible refine (req_reader_is.calls g t413 t414 t415 (⟨#[44]⟩:ByteArray) true t421 t422 t423 w0 _ ?side1 ?side2 A11.out).mono ?_);(case side1=>repeat (first|(with_reducible first|exact HI0.out|apply IsS64.alloc|apply IsS64.drewN|apply IsS64.drew|apply IsS64.set_0|apply IsS64.set_1|apply IsS64.set_2|refine IsS64.far ?_ HN0_go17.out _)|exact HI0.out));(case side2=>repeat (first|(with_reducible first|exact HB.out|apply below_alloc|apply pw_below_drewN|apply below_drew1|refine below_set ?_ (Nat.le_trans HL.out GB17.out)|refine below_set ?_ (IsS64.ge HI0.out))|exact HB.out));rintro e w22 ⟨rfl,hi,hb,hk⟩;refine ⟨_,rfl,?_⟩;replace HO_3:=Mk (Kd.S_mono (Kd.S_keep (IsS64.apartS (show IsS64 w0 _ g t413 t414 t415 from by repeat (first|(with_reducible first|exact HI0.out|apply IsS64.alloc|apply IsS64.drewN|apply IsS64.drew|apply IsS64.set_0|apply IsS64.set_1|apply IsS64.set_2|refine IsS64.far ?_ HN0_go17.out _)|exact HI0.out)) (by (with_reducible repeat (first|apply Kd.S_alloc|apply Kd.S_drewN|apply Kd.S_drew));exact HQ19.out) (by decide)) hk (fun _ h=>h.2)) (fun _ h=>h.1));replace HK:=Mk (KeepBut.trans (by repeat (first|(with_reducible first|exact HK.out|apply KeepBut.set_|apply keep_drewN|apply keep_drew|apply keep_alloc|refine keep_far ?_ GB17.out _)|exact HK.out)) hk (.inl rfl));replace HB:=Mk (hb);replace HI0:=Mk (hi);clear hb hk hi))
        first|go_roundg k1|(simp only [← hji5] at H' ⊢;go_roundg k1)
        case measure=>have:=HK1.out;omega
        case rel=>exact ⟨(y419),(t421),(t422),(t423),H',⟨by have:=HK1.out;omega⟩,⟨sU HO_3⟩,⟨hI HI0⟩,⟨kK⟩,⟨bB⟩⟩
       ·replace c12:=Bool.eq_false_iff.mpr c12
        subst c12;rw [if_neg (show ¬ (false=true) by decide)] at H;try dsimp only at H
        replace H:=Option.bind_eq_some_iff.mp H;obtain ⟨⟨t424,t425,t426,t427⟩,A230,H⟩:=H;try dsimp only at H
        have A23:=Mk A230;clear A230;by_cases c24:t424=true
        ·subst c24
         rw [if_pos rfl] at H;try dsimp only at H
         by_cases c25:y419.length < 5864062014805
         ·rw [if_pos c25] at H
          have LMc25:=Mk c25;clear c25;obtain ⟨y428,hy428⟩:∃ y_:List (List (S25)),y_=(y419++[[]]):=⟨_,rfl⟩;replace H:(req_reader_rows.l0 k1 y428 t425 t426 t427)=some (r1,r2,r3,r4):=by first|(rw [hy428];with_reducible exact H)|(have H2_:=(Option.bind_some _ _).symm.trans H;rw [hy428];with_reducible exact H2_)|(have H2_:=(Option.bind_some _ _).symm.trans H;with_reducible exact H2_)|with_reducible exact H|(rw [hy428];exact H)|exact H
          have Ny428:=Mk hy428;clear hy428;have H':=Mk H;clear H;obtain ⟨HGz26,hgz26⟩:=HI0.out;have hcz26_0:=cellS64_0 HGz26;have hcz26_1:=cellS64_1 HGz26;have hcz26_2:=cellS64_2 HGz26;have hfz26_0:=blk_frozen HGz26 0;have hfz26_1:=blk_frozen HGz26 1;have hfz26_2:=blk_frozen HGz26 2;clear HGz26 hgz26;obtain ⟨Ao27,co27,eo27⟩:=Kd.S_slice HO_3.out;subst eo27;try go_wp2
          replace HO_3:=Mk (Kd.S_drew HO_3.out);replace HI0:=Mk (IsS64.drew HI0.out);replace HK:=Mk (keep_drew HK.out);replace HB:=Mk (below_drew1 HB.out);have p408:0≤((ji5):Int):=of_decide_eq_true aS;have q408:(ji5) < (x3_1.length:Int):=of_decide_eq_true aS;obtain ⟨ad408,A408_0,c408_0,e408,hx408_0,hl408_0,hi408_0⟩:=at_L11 (Kd.S_reads' HO_3.out).2.2 (ji5) p408 q408;cases e408
          obtain ⟨ce408,hce408,hMe408,hcc408⟩:=Kd.S_get HO_3.out [] (ji5) p408 (by first|exact q408|exact of_decide_eq_true aS|(have e_:=(Kd.S_reads' HO_3.out).1;omega));obtain ⟨ve408_0,rfl,ge408_0⟩:=hMe408;have hv408_0:=hcc408 0 _ rfl;rw [Nat.add_zero,show ((Kd.slice 25 k25)).sz=1 from rfl,Nat.mul_one] at hv408_0;replace hv408_0:=Option.some.inj (hv408_0.symm.trans hx408_0);rw [hv408_0] at ge408_0;have HL408_0:=Mk (show Kd.R k25 25 _ _ _ _ (rd_L11 x3_1 (ji5)) from ge408_0);clear hv408_0 ge408_0;have HX408_0:=Mk hx408_0;clear hcc408 hce408;have HR408_0:=Mk hi408_0;have HC408_0:=Mk hl408_0;clear hi408_0 hl408_0;replace p408:=eq_true p408;replace q408:=eq_true q408;refine start_ (n:=12) (S:=fun w'=>w'.cell? (ad408.add ((ji5)).toNat)=some (.slice A408_0 (rd_L11 x3_1 (ji5)).length c408_0)) (ds:=[11]) #[b0,b0,b0,b0,b0,b0,b0,b0,b0,b0,b0,b0] kR rfl rfl (hx408_0) (fun hHeld=>?_);refine with_tabW req_reader_rows.tab4 req_reader_rows.bits4 (fun HT_ HW_=>?_)
          generalize wr.drew=w28 at HO_3 HI0 HK HB HL408_0 HR408_0 HX408_0 hx408_0 hHeld ⊢
          refine pure_ (i:=0) (N:=some 14) (v:=?_) (a':=?_) (fl 12 1) rfl rfl (aO HT_) fI (Or.inl ⟨by rfl,?_⟩) ?_ ?_;rotate_left
          ·intro w'
           go_simp
           with_reducible rfl
          rotate_left
          ·exact pA
          refine pure_ (i:=1) (N:=some 15) (v:=?_) (a':=?_) (fl 12 3) rfl rfl (aO HT_) fI (Or.inl ⟨by rfl,?_⟩) ?_ ?_;rotate_left
          ·intro w'
           go_simp
           with_reducible rfl
          rotate_left
          ·exact pA
          refine pure_ (i:=2) (N:=some 16) (v:=?_) (a':=?_) (fl 12 7) rfl rfl (aO HT_) fI (Or.inl ⟨by rfl,?_⟩) ?_ ?_;rotate_left
          ·intro w'
           go_simp
           with_reducible rfl
          rotate_left
          ·exact pA
          refine pure_ (i:=3) (N:=some 17) (v:=?_) (a':=?_) (fl 12 15) rfl rfl (aO HT_) fI (Or.inl ⟨by rfl,?_⟩) ?_ ?_;rotate_left
          ·intro w'
           go_simp
           with_reducible rfl
          rotate_left
          ·exact pA
          refine pure_ (i:=4) (N:=some 18) (v:=?_) (a':=?_) (fl 12 31) rfl rfl (aO HT_) fI (Or.inl ⟨by rfl,?_⟩) ?_ ?_;rotate_left
          ·intro w'
           go_simp
           with_reducible rfl
          rotate_left
          ·exact pA
          refine pure_ (i:=6) (N:=some 20) (v:=?_) (a':=?_) (fl 12 95) rfl rfl (aO HT_) fI (Or.inl ⟨by rfl,?_⟩) ?_ ?_;rotate_left
          ·intro w'
           go_simp
           with_reducible rfl
          rotate_left
          ·exact pA
          refine take_ (i:=5) (N:=some 19) (v:=?_) (a':=?_) (fl 12 127) rfl rfl (tO HT_ HW_) fI (Or.inl ⟨by rfl,?_⟩) hHeld ?_ ?_;rotate_left
          ·intro w' s0
           go_simp
           with_reducible rfl
          rotate_left
          ·exact pA
          refine one_ (i:=7) (N:=some 21) (fl 12 255) rfl rfl (oO HT_) (by decide) (fun K hK=>?_);refine goes_ Tryz.func65 kR rfl #[.pointer (some ⟨g,0,none⟩)] (by rfl) rfl rfl mA ?_;with_reducible refine (req_reader_val.calls k1 g x1000_1 x1001_1 x1002_1 t409 t410 t411 t412 t413 t414 t415 w0 _ ?side1 ?side2 A8.out HG_.out).mono ?_
          (case side1=>exact hI HI0);(case side2=>exact bB);rintro e w29 ⟨rfl,hi,hb,hk⟩;have HS0_:=keep_cell hk (hHeld) (by first|(rw [add_block];exact Kd.own_blk (IsS64.own_neS HI0.out HO_3.out (by decide)))|(show (Addr.add _ _).block≠_;rw [add_block];exact Kd.own_blk (IsS64.own_neS HI0.out HO_3.out (by decide)))|exact Kd.own_blk (IsS64.own_neS HI0.out HO_3.out (by decide)));refine ⟨_,rfl,?_⟩;replace HL408_0:=Mk (Kd.R_mono (Kd.R_keep (IsS64.apart (show IsS64 w0 _ g x1000_1 x1001_1 x1002_1 from hI HI0) (by (repeat apply Rup);exact HL408_0.out) (by decide)) hk (fun _ h=>h.2)) (fun _ h=>h.1));replace HX408_0:=Mk (keep_cell hk HX408_0.out (by first|(rw [add_block];exact Kd.own_blk (IsS64.own_neS HI0.out HO_3.out (by decide)))|(show (Addr.add _ _).block≠_;rw [add_block];exact Kd.own_blk (IsS64.own_neS HI0.out HO_3.out (by decide)))|exact Kd.own_blk (IsS64.own_neS HI0.out HO_3.out (by decide))|(dsimp only;exact Kd.own_blk (IsS64.own_neS HI0.out HO_3.out (by decide)))));replace HO_3:=Mk (Kd.S_mono (Kd.S_keep (IsS64.apartS (show IsS64 w0 _ g x1000_1 x1001_1 x1002_1 from hI HI0) (sU HO_3) (by decide)) hk (fun _ h=>h.2)) (fun _ h=>h.1));replace HK:=Mk (KeepBut.trans kK hk (.inl rfl));replace HB:=Mk (hb);replace HI0:=Mk (hi);(try clear hb);(try clear hb2);(try clear hk);(try clear hi);obtain ⟨go30,co30,eo30,gb30,gl30,cl30,HG30⟩:=Kd.S_form HO_3.out (by have h_:((ji5):Int) < ((x3_1.length:Int):Int):=of_decide_eq_true aS;have h2_:0≤((ji5):Int):=(of_decide_eq_true aS);omega);(first|cases eo30|(injection eo30 with ea_ en_ ec_;(first|subst ea_|(injection ea_ with ea_;subst ea_));subst ec_;clear en_));have GB30:=Mk gb30;have GG30:=Mk HG30;clear gb30 gl30 HG30;(first|simp only [add_plain] at hx408_0|skip);obtain ⟨oki30,ce30,hcl30,hM30,hcc30,_,_,hH30⟩:=Kd.S_elem HO_3.out [] ((ji5):Int) (of_decide_eq_true aS) (by have h_:((ji5):Int) < ((x3_1.length:Int):Int):=of_decide_eq_true aS;first|exact h_|(have e_:=(Kd.S_reads' HO_3.out).1;omega)|simpa using h_);obtain ⟨ve30_0,rfl,ge30_0⟩:=hM30;have hv30:=hcc30 0 _ rfl;have hX30:=HX408_0.out;(try simp only [add_plain] at hX30);(try simp only [Nat.add_zero] at hv30);(try rw [show ((Kd.slice 25 k25)).sz=1 from rfl,Nat.mul_one] at hv30);replace hv30:=Option.some.inj (hv30.symm.trans hX30);subst hv30;clear hX30 hcc30 hcl30;have UU30:=Mk (show Kd.R k25 25 _ w.heap.size oki30 (.slice A408_0 (rd_L11 x3_1 (ji5)).length c408_0) (rd_L11 x3_1 (ji5)) from ge30_0);have HH30:=Mk hH30;have HN30:=Mk (Kd.S_reads' HO_3.out).1;clear hH30 ge30_0;refine hK.out _ _ (HS0_) (fun hHeld=>?_);clear hK K;refine norm_ (a':=?_) ?_ ?_;rotate_left
          ·show Act.put _ (some 21) _=_
           simp only [Act.put,List.setIfInBounds_toArray,List.set_cons_zero,List.set_cons_succ,i64_w,i32_w];rfl
          refine one_ (i:=8) (N:=some 22) (fl 12 511) rfl rfl (oO HT_) (by decide) (fun K hK=>?_);refine value_ (w1:=?_) (v:=?_) (by rfl) rfl ?_ ?_;rotate_left 2
          ·go_simp
           constructor
           ·rfl
           ·rfl
          refine hK.out _ _ ((World.cell?_alloc_lt _ _ _ (World.block_lt_of_cell? _ _ (hHeld))).trans (hHeld)) (fun hHeld=>?_);clear hK K;refine norm_ (a':=?_) ?_ ?_;rotate_left
          ·show Act.put _ (some 22) _=_
           simp only [Act.put,List.setIfInBounds_toArray,List.set_cons_zero,List.set_cons_succ,i64_w,i32_w];rfl
          refine one_ (i:=9) (N:=some 23) (fl 12 1023) rfl rfl (oO HT_) (by decide) (fun K hK=>?_);refine Kd.R_append_step k25 w.heap.size (by rfl) (.tmp 19) (.tmp 22) 46 25 (.agg #[(.int .i64 0),(.int .i64 0),(.string ⟨#[]⟩),(.complex .f64 0 0)]) 48 rfl Tryz.underlying46 info25 rfl (by decide) (by omega) (.slice A408_0 (rd_L11 x3_1 (ji5)).length c408_0) (rd_L11 x3_1 (ji5)) (⟨t409,t410,t411,t412⟩:S25) [.int .i64 t409,.int .i64 t410,.string t411,.complex .f64 t412.1 t412.2] (fun k_=>oki30 k_∨((fun _=>True)) k_∧w29.heap.size≤k_) (fun _=>False) rfl rfl ?aP (fun _ hk=>hk.elim) ?aF ?aO (Below.refl _ _) ?aS ?aL ?_;(case aP=>exact k25_mkM _ _ _ (⟨t409,t410,t411,t412⟩:S25));(case aF=>exact (fun k_ hk=>.inr ⟨trivial,hk⟩));(case aO=>exact (by (repeat apply Rup);exact Kd.R_mono UU30.out (fun _ hk=>.inl hk)));(case aS=>exact (keep_size (w:=w) (g:=g) (row:=none) kK));(case aL=>have:=LMc9.out;omega);intro v417 w31 ho hb hg hat;(first|have HS0_:=cell_grown hg (hHeld) (by first|(rw [add_block];exact (fun e_=>((HL408_0.out.1 _ e_.symm).2) rfl))|(show some (Addr.add _ _).block≠_;rw [add_block];exact (fun e_=>((HL408_0.out.1 _ e_.symm).2) rfl))|exact (fun e_=>((HL408_0.out.1 _ e_.symm).2) rfl))|have HS0_:=cell_grown hg (cell_unalloc (hHeld) (by first|(rw [add_block];exact Kd.S_lt HO_3.out _ rfl)|(show (Addr.add _ _).block < _;rw [add_block];exact Kd.S_lt HO_3.out _ rfl)|exact Kd.S_lt HO_3.out _ rfl)) (by first|(rw [add_block];exact (fun e_=>((HL408_0.out.1 _ e_.symm).2) rfl))|(show some (Addr.add _ _).block≠_;rw [add_block];exact (fun e_=>((HL408_0.out.1 _ e_.symm).2) rfl))|exact (fun e_=>((HL408_0.out.1 _ e_.symm).2) rfl)));rw [← Ny416.out] at ho;have n0_:=Mk (IsS64.grown (hI HI0) hg (IsS64.own_ne HI0.out HL408_0.out (by decide)));have n1_:=Mk (below_weaken bB HL.out hb);have n2_:=Mk (KeepBut.trans kK (KeepBut.of_grown hg g) (Kd.R_base2 HL408_0.out));have n3_:=Mk (Kd.H_grown (Kd.H_widen (by repeat (first|exact HH30.out|refine Kd.H_alloc ?_ _|refine Kd.H_drewN ?_ _|refine Kd.H_drew ?_))) hg (fun k_ e_=>.inl (UU30.out.1 k_ e_)));have n4_:=Mk (ho);clear HI0;clear HB;clear HK;clear HH30;clear HO_3;clear UU30;clear HL408_0;have HI0:=n0_;have HB:=n1_;have HK:=n2_;have HH30:=n3_;have HO418:=n4_;clear n0_ n1_ n2_ n3_ n4_;clear ho hb hg hat;have p10:0≤((ji5):Int):=of_decide_eq_true aS;have q10:((ji5):Int) < ((x3_1.length:Int):Int):=of_decide_eq_true aS;replace p10:=eq_true p10;replace q10:=eq_true q10;obtain ⟨Ao34,co34,eo34⟩:=Kd.R_slice HO418.out;(first|subst eo34|(injection eo34 with f1_ f2_ f3_;have f4_:=f1_.symm;have f5_:=f3_.symm;clear f1_ f2_ f3_;subst f4_;subst f5_));obtain ⟨_,_,hraw32,_,_,hcc32,_⟩:=Kd.H_raw HH30.out (of_decide_eq_true aS) (by have h_:((ji5):Int) < ((x3_1.length:Int):Int):=of_decide_eq_true aS;first|exact h_|(have e_:=(HN30.out);omega)|simpa using h_);obtain ⟨_,hfr32⟩:=Kd.H_at HH30.out (of_decide_eq_true aS) (by have h_:((ji5):Int) < ((x3_1.length:Int):Int):=of_decide_eq_true aS;first|exact h_|(have e_:=(HN30.out);omega)|simpa using h_);have hx32_0:=hcc32 0 _ rfl;have hf32_0:=hfr32 0;(try simp only [Nat.add_zero] at hx32_0 hf32_0);(try rw [show ((Kd.slice 25 k25)).sz=1 from rfl,Nat.mul_one] at hx32_0);(try rw [show ((Kd.slice 25 k25)).sz=1 from rfl,Nat.mul_one] at hf32_0);have HP32:=Kd.S_seg0 HH30.out (of_decide_eq_true aS) (by have h_:((ji5):Int) < ((x3_1.length:Int):Int):=of_decide_eq_true aS;first|exact h_|(have e_:=(HN30.out);omega)|simpa using h_) (seg:=[.slice Ao34 y416.length co34]) (j:=0) (show 1≤1 from by decide) (x':=y416) (Kd.M_row HO418.out) (fun _ hk=>hk);(try simp only [show ((Kd.slice 25 k25)).sz=1 from rfl,Nat.mul_one,Nat.add_zero] at HP32);clear hcc32 hfr32;have HN0_go30:=Mk (show g≠go30 from by have h_:=IsS64.own_ne HI0.out hraw32 (by decide);intro e_;exact h_ (by rw [e_];rfl));have HS32:=HP32.1;rw [← Ny419.out] at HS32;have HQ32:=Mk HS32;obtain ⟨_,hgg32⟩:=Kd.R_typed hraw32 go30 rfl;have GG32_:=Mk hgg32;clear HP32 HS32 hgg32;refine hK.out _ _ (HS0_) (fun hHeld=>?_);clear hK K;refine norm_ (a':=?_) ?_ ?_;rotate_left
          ·show Act.put _ (some 23) _=_
           simp only [Act.put,List.setIfInBounds_toArray,List.set_cons_zero,List.set_cons_succ,i64_w,i32_w];rfl
          refine pure_ (i:=10) (N:=some 24) (v:=?_) (a':=?_) (fl 12 2047) rfl rfl (aO HT_) fI (Or.inl ⟨by rfl,?_⟩) ?_ ?_;rotate_left
          ·intro w'
           go_simp
           with_reducible rfl
          rotate_left
          ·exact pA
          refine last_ (i:=11) (N:=none) (fl 12 4095) rfl rfl (oO HT_) (by decide) (fun K hK=>?_);refine skip_ (w1:=?_) (by rfl) rfl ?_ ?_;rotate_left
          ·go_simp
           rfl
          refine hK.out _ _ ?_;clear hK K;refine done_ (done_of HT_.out kR) ?_;have HO_3:=HQ32;try go_wp2_with (first|((with_reducible refine gate_callee (f:=66) rfl ?_);refine goesL_ (some 26) rfl rfl Tryz.func66 kR rfl #[.pointer (some ⟨g,0,none⟩),.string (⟨#[44]⟩:ByteArray)] rfl mA ?_;(with_reducible refine (req_reader_is.calls g t413 t414 t415 (⟨#[44]⟩:ByteArray) false t421 t422 t423 w0 _ ?side1 ?side2 A11.out).mono ?_);(case side1=>repeat (first|(with_reducible first|exact HI0.out|apply IsS64.alloc|apply IsS64.drewN|apply IsS64.drew|apply IsS64.set_0|apply IsS64.set_1|apply IsS64.set_2|refine IsS64.far ?_ HN0_go30.out _)|exact HI0.out));(case side2=>repeat (first|(with_reducible first|exact HB.out|apply below_alloc|apply pw_below_drewN|apply below_drew1|refine below_set ?_ (Nat.le_trans HL.out GB30.out)|refine below_set ?_ (IsS64.ge HI0.out))|exact HB.out));rintro e w35 ⟨rfl,hi,hb,hk⟩;refine ⟨_,rfl,?_⟩;replace HO_3:=Mk (Kd.S_mono (Kd.S_keep (IsS64.apartS (show IsS64 w0 _ g t413 t414 t415 from by repeat (first|(with_reducible first|exact HI0.out|apply IsS64.alloc|apply IsS64.drewN|apply IsS64.drew|apply IsS64.set_0|apply IsS64.set_1|apply IsS64.set_2|refine IsS64.far ?_ HN0_go30.out _)|exact HI0.out)) (by (with_reducible repeat (first|apply Kd.S_alloc|apply Kd.S_drewN|apply Kd.S_drew));exact HQ32.out) (by decide)) hk (fun _ h=>h.2)) (fun _ h=>h.1));replace HK:=Mk (KeepBut.trans (by repeat (first|(with_reducible first|exact HK.out|apply KeepBut.set_|apply keep_drewN|apply keep_drew|apply keep_alloc|refine keep_far ?_ GB30.out _)|exact HK.out)) hk (.inl rfl));replace HB:=Mk (hb);replace HI0:=Mk (hi);clear hb hk hi)|((with_reducible refine gate_callee (f:=66) rfl ?_);refine goesL_ (some 28) rfl rfl Tryz.func66 kR rfl #[.pointer (some ⟨g,0,none⟩),.string (⟨#[59]⟩:ByteArray)] rfl mA ?_;(with_reducible refine (req_reader_is.calls g t421 t422 t423 (⟨#[59]⟩:ByteArray) true t425 t426 t427 w0 _ ?side1 ?side2 A23.out).mono ?_);(case side1=>exact hI HI0);(case side2=>exact bB);rintro e w36 ⟨rfl,hi,hb,hk⟩;refine ⟨_,rfl,?_⟩;replace HO_3:=Mk (Kd.S_mono (Kd.S_keep (IsS64.apartS (show IsS64 w0 _ g t421 t422 t423 from hI HI0) (sU HO_3) (by decide)) hk (fun _ h=>h.2)) (fun _ h=>h.1));replace HK:=Mk (KeepBut.trans kK hk (.inl rfl));replace HB:=Mk (hb);replace HI0:=Mk (hi);clear hb hk hi)|((with_reducible refine gate_builtin (b:=.append) (xs:=#[.tmp 30,.tmp 31]) rfl ?_);at_builtin;refine Kd.S_append (Kd.slice 25 k25) w.heap.size rfl (.tmp 30) (.tmp 31) 36 46 (.slice none 0 0) 24 rfl Tryz.underlying36 info46 rfl (by decide) (by omega) (.slice (some ⟨go30,0,none⟩) x3_1.length co27) y419 [] [.slice none 0 0] (fun _=>True) (fun _=>False) rfl rfl ?aP (fun _ hk=>hk.elim) ?aF ?aO (Below.refl _ _) ?aS ?aL ?_;(case aP=>exact ⟨_,rfl,Kd.R_nil _ _ _ _ _⟩);(case aF=>exact (fun _ _=>trivial));(case aO=>exact (by (with_reducible repeat (first|apply Kd.S_alloc|apply Kd.S_drewN|apply Kd.S_drew));exact Kd.S_mono HO_3.out (fun k_ hk=>⟨trivial,fun e_=>e_⟩)));(case aS=>exact (keep_size (w:=w) (g:=g) (row:=none) kK));(case aL=>have:=LMc25.out;omega);intro v429 w37 ho hb hg hat;rw [← Ny428.out] at ho;have n0_:=Mk (IsS64.grown (hI HI0) hg (IsS64.own_neS HI0.out HO_3.out (by decide)));have n1_:=Mk (below_weaken bB HL.out hb);have n2_:=Mk (KeepBut.trans kK (KeepBut.of_grown hg g) (Kd.S_base2 HO_3.out));have n3_:=Mk (ho);clear HI0;clear HB;clear HK;clear HO_3;have HI0:=n0_;have HB:=n1_;have HK:=n2_;have HO430:=n3_;clear n0_ n1_ n2_ n3_;clear ho hb hg hat))
          first|go_roundg k1|(simp only [← hji5] at H' ⊢;go_roundg k1)
          case measure=>have:=HK1.out;omega
          case rel=>exact ⟨(y428),(t425),(t426),(t427),H',⟨by have:=HK1.out;omega⟩,⟨sU HO430⟩,⟨hI HI0⟩,⟨kK⟩,⟨bB⟩⟩
         ·rw [if_neg c25] at H
          exact absurd H (by simp)
        ·replace c24:=Bool.eq_false_iff.mpr c24
         subst c24;rw [if_neg (show ¬ (false=true) by decide)] at H;try dsimp only at H
         simp only [Option.some.injEq,Prod.mk.injEq] at H;obtain ⟨rfl,rfl,rfl,rfl⟩:=H;obtain ⟨HGz38,hgz38⟩:=HI0.out;have hcz38_0:=cellS64_0 HGz38;have hcz38_1:=cellS64_1 HGz38;have hcz38_2:=cellS64_2 HGz38;have hfz38_0:=blk_frozen HGz38 0;have hfz38_1:=blk_frozen HGz38 1;have hfz38_2:=blk_frozen HGz38 2;clear HGz38 hgz38;obtain ⟨Ao39,co39,eo39⟩:=Kd.S_slice HO_3.out;subst eo39;try go_wp2
         replace HO_3:=Mk (Kd.S_drew HO_3.out);replace HI0:=Mk (IsS64.drew HI0.out);replace HK:=Mk (keep_drew HK.out);replace HB:=Mk (below_drew1 HB.out);have p408:0≤((ji5):Int):=of_decide_eq_true aS;have q408:(ji5) < (x3_1.length:Int):=of_decide_eq_true aS;obtain ⟨ad408,A408_0,c408_0,e408,hx408_0,hl408_0,hi408_0⟩:=at_L11 (Kd.S_reads' HO_3.out).2.2 (ji5) p408 q408;cases e408
         obtain ⟨ce408,hce408,hMe408,hcc408⟩:=Kd.S_get HO_3.out [] (ji5) p408 (by first|exact q408|exact of_decide_eq_true aS|(have e_:=(Kd.S_reads' HO_3.out).1;omega));obtain ⟨ve408_0,rfl,ge408_0⟩:=hMe408;have hv408_0:=hcc408 0 _ rfl;rw [Nat.add_zero,show ((Kd.slice 25 k25)).sz=1 from rfl,Nat.mul_one] at hv408_0;replace hv408_0:=Option.some.inj (hv408_0.symm.trans hx408_0);rw [hv408_0] at ge408_0;have HL408_0:=Mk (show Kd.R k25 25 _ _ _ _ (rd_L11 x3_1 (ji5)) from ge408_0);clear hv408_0 ge408_0;have HX408_0:=Mk hx408_0;clear hcc408 hce408;have HR408_0:=Mk hi408_0;have HC408_0:=Mk hl408_0;clear hi408_0 hl408_0;replace p408:=eq_true p408;replace q408:=eq_true q408;refine start_ (n:=12) (S:=fun w'=>w'.cell? (ad408.add ((ji5)).toNat)=some (.slice A408_0 (rd_L11 x3_1 (ji5)).length c408_0)) (ds:=[11]) #[b0,b0,b0,b0,b0,b0,b0,b0,b0,b0,b0,b0] kR rfl rfl (hx408_0) (fun hHeld=>?_);refine with_tabW req_reader_rows.tab4 req_reader_rows.bits4 (fun HT_ HW_=>?_)
         generalize wr.drew=w40 at HO_3 HI0 HK HB HL408_0 HR408_0 HX408_0 hx408_0 hHeld ⊢
         refine pure_ (i:=0) (N:=some 14) (v:=?_) (a':=?_) (fl 12 1) rfl rfl (aO HT_) fI (Or.inl ⟨by rfl,?_⟩) ?_ ?_;rotate_left
         ·intro w'
          go_simp
          with_reducible rfl
         rotate_left
         ·exact pA
         refine pure_ (i:=1) (N:=some 15) (v:=?_) (a':=?_) (fl 12 3) rfl rfl (aO HT_) fI (Or.inl ⟨by rfl,?_⟩) ?_ ?_;rotate_left
         ·intro w'
          go_simp
          with_reducible rfl
         rotate_left
         ·exact pA
         refine pure_ (i:=2) (N:=some 16) (v:=?_) (a':=?_) (fl 12 7) rfl rfl (aO HT_) fI (Or.inl ⟨by rfl,?_⟩) ?_ ?_;rotate_left
         ·intro w'
          go_simp
          with_reducible rfl
         rotate_left
         ·exact pA
         refine pure_ (i:=3) (N:=some 17) (v:=?_) (a':=?_) (fl 12 15) rfl rfl (aO HT_) fI (Or.inl ⟨by rfl,?_⟩) ?_ ?_;rotate_left
         ·intro w'
          go_simp
          with_reducible rfl
         rotate_left
         ·exact pA
         refine pure_ (i:=4) (N:=some 18) (v:=?_) (a':=?_) (fl 12 31) rfl rfl (aO HT_) fI (Or.inl ⟨by rfl,?_⟩) ?_ ?_;rotate_left
         ·intro w'
          go_simp
          with_reducible rfl
         rotate_left
         ·exact pA
         refine pure_ (i:=6) (N:=some 20) (v:=?_) (a':=?_) (fl 12 95) rfl rfl (aO HT_) fI (Or.inl ⟨by rfl,?_⟩) ?_ ?_;rotate_left
         ·intro w'
          go_simp
          with_reducible rfl
         rotate_left
         ·exact pA
         refine take_ (i:=5) (N:=some 19) (v:=?_) (a':=?_) (fl 12 127) rfl rfl (tO HT_ HW_) fI (Or.inl ⟨by rfl,?_⟩) hHeld ?_ ?_;rotate_left
         ·intro w' s0
          go_simp
          with_reducible rfl
         rotate_left
         ·exact pA
         refine one_ (i:=7) (N:=some 21) (fl 12 255) rfl rfl (oO HT_) (by decide) (fun K hK=>?_);refine goes_ Tryz.func65 kR rfl #[.pointer (some ⟨g,0,none⟩)] (by rfl) rfl rfl mA ?_;with_reducible refine (req_reader_val.calls k1 g x1000_1 x1001_1 x1002_1 t409 t410 t411 t412 t413 t414 t415 w0 _ ?side1 ?side2 A8.out HG_.out).mono ?_
         (case side1=>exact hI HI0);(case side2=>exact bB);rintro e w41 ⟨rfl,hi,hb,hk⟩;have HS0_:=keep_cell hk (hHeld) (by first|(rw [add_block];exact Kd.own_blk (IsS64.own_neS HI0.out HO_3.out (by decide)))|(show (Addr.add _ _).block≠_;rw [add_block];exact Kd.own_blk (IsS64.own_neS HI0.out HO_3.out (by decide)))|exact Kd.own_blk (IsS64.own_neS HI0.out HO_3.out (by decide)));refine ⟨_,rfl,?_⟩;replace HL408_0:=Mk (Kd.R_mono (Kd.R_keep (IsS64.apart (show IsS64 w0 _ g x1000_1 x1001_1 x1002_1 from hI HI0) (by (repeat apply Rup);exact HL408_0.out) (by decide)) hk (fun _ h=>h.2)) (fun _ h=>h.1));replace HX408_0:=Mk (keep_cell hk HX408_0.out (by first|(rw [add_block];exact Kd.own_blk (IsS64.own_neS HI0.out HO_3.out (by decide)))|(show (Addr.add _ _).block≠_;rw [add_block];exact Kd.own_blk (IsS64.own_neS HI0.out HO_3.out (by decide)))|exact Kd.own_blk (IsS64.own_neS HI0.out HO_3.out (by decide))|(dsimp only;exact Kd.own_blk (IsS64.own_neS HI0.out HO_3.out (by decide)))));replace HO_3:=Mk (Kd.S_mono (Kd.S_keep (IsS64.apartS (show IsS64 w0 _ g x1000_1 x1001_1 x1002_1 from hI HI0) (sU HO_3) (by decide)) hk (fun _ h=>h.2)) (fun _ h=>h.1));replace HK:=Mk (KeepBut.trans kK hk (.inl rfl));replace HB:=Mk (hb);replace HI0:=Mk (hi);(try clear hb);(try clear hb2);(try clear hk);(try clear hi);obtain ⟨go42,co42,eo42,gb42,gl42,cl42,HG42⟩:=Kd.S_form HO_3.out (by have h_:((ji5):Int) < ((x3_1.length:Int):Int):=of_decide_eq_true aS;have h2_:0≤((ji5):Int):=(of_decide_eq_true aS);omega);(first|cases eo42|(injection eo42 with ea_ en_ ec_;(first|subst ea_|(injection ea_ with ea_;subst ea_));subst ec_;clear en_));have GB42:=Mk gb42;have GG42:=Mk HG42;clear gb42 gl42 HG42;(first|simp only [add_plain] at hx408_0|skip);obtain ⟨oki42,ce42,hcl42,hM42,hcc42,_,_,hH42⟩:=Kd.S_elem HO_3.out [] ((ji5):Int) (of_decide_eq_true aS) (by have h_:((ji5):Int) < ((x3_1.length:Int):Int):=of_decide_eq_true aS;first|exact h_|(have e_:=(Kd.S_reads' HO_3.out).1;omega)|simpa using h_);obtain ⟨ve42_0,rfl,ge42_0⟩:=hM42;have hv42:=hcc42 0 _ rfl;have hX42:=HX408_0.out;(try simp only [add_plain] at hX42);(try simp only [Nat.add_zero] at hv42);(try rw [show ((Kd.slice 25 k25)).sz=1 from rfl,Nat.mul_one] at hv42);replace hv42:=Option.some.inj (hv42.symm.trans hX42);subst hv42;clear hX42 hcc42 hcl42;have UU42:=Mk (show Kd.R k25 25 _ w.heap.size oki42 (.slice A408_0 (rd_L11 x3_1 (ji5)).length c408_0) (rd_L11 x3_1 (ji5)) from ge42_0);have HH42:=Mk hH42;have HN42:=Mk (Kd.S_reads' HO_3.out).1;clear hH42 ge42_0;refine hK.out _ _ (HS0_) (fun hHeld=>?_);clear hK K;refine norm_ (a':=?_) ?_ ?_;rotate_left
         ·show Act.put _ (some 21) _=_
          simp only [Act.put,List.setIfInBounds_toArray,List.set_cons_zero,List.set_cons_succ,i64_w,i32_w];rfl
         refine one_ (i:=8) (N:=some 22) (fl 12 511) rfl rfl (oO HT_) (by decide) (fun K hK=>?_);refine value_ (w1:=?_) (v:=?_) (by rfl) rfl ?_ ?_;rotate_left 2
         ·go_simp
          constructor
          ·rfl
          ·rfl
         refine hK.out _ _ ((World.cell?_alloc_lt _ _ _ (World.block_lt_of_cell? _ _ (hHeld))).trans (hHeld)) (fun hHeld=>?_);clear hK K;refine norm_ (a':=?_) ?_ ?_;rotate_left
         ·show Act.put _ (some 22) _=_
          simp only [Act.put,List.setIfInBounds_toArray,List.set_cons_zero,List.set_cons_succ,i64_w,i32_w];rfl
         refine one_ (i:=9) (N:=some 23) (fl 12 1023) rfl rfl (oO HT_) (by decide) (fun K hK=>?_);refine Kd.R_append_step k25 w.heap.size (by rfl) (.tmp 19) (.tmp 22) 46 25 (.agg #[(.int .i64 0),(.int .i64 0),(.string ⟨#[]⟩),(.complex .f64 0 0)]) 48 rfl Tryz.underlying46 info25 rfl (by decide) (by omega) (.slice A408_0 (rd_L11 x3_1 (ji5)).length c408_0) (rd_L11 x3_1 (ji5)) (⟨t409,t410,t411,t412⟩:S25) [.int .i64 t409,.int .i64 t410,.string t411,.complex .f64 t412.1 t412.2] (fun k_=>oki42 k_∨((fun _=>True)) k_∧w41.heap.size≤k_) (fun _=>False) rfl rfl ?aP (fun _ hk=>hk.elim) ?aF ?aO (Below.refl _ _) ?aS ?aL ?_;(case aP=>exact k25_mkM _ _ _ (⟨t409,t410,t411,t412⟩:S25));(case aF=>exact (fun k_ hk=>.inr ⟨trivial,hk⟩));(case aO=>exact (by (repeat apply Rup);exact Kd.R_mono UU42.out (fun _ hk=>.inl hk)));(case aS=>exact (keep_size (w:=w) (g:=g) (row:=none) kK));(case aL=>have:=LMc9.out;omega);intro v417 w43 ho hb hg hat;(first|have HS0_:=cell_grown hg (hHeld) (by first|(rw [add_block];exact (fun e_=>((HL408_0.out.1 _ e_.symm).2) rfl))|(show some (Addr.add _ _).block≠_;rw [add_block];exact (fun e_=>((HL408_0.out.1 _ e_.symm).2) rfl))|exact (fun e_=>((HL408_0.out.1 _ e_.symm).2) rfl))|have HS0_:=cell_grown hg (cell_unalloc (hHeld) (by first|(rw [add_block];exact Kd.S_lt HO_3.out _ rfl)|(show (Addr.add _ _).block < _;rw [add_block];exact Kd.S_lt HO_3.out _ rfl)|exact Kd.S_lt HO_3.out _ rfl)) (by first|(rw [add_block];exact (fun e_=>((HL408_0.out.1 _ e_.symm).2) rfl))|(show some (Addr.add _ _).block≠_;rw [add_block];exact (fun e_=>((HL408_0.out.1 _ e_.symm).2) rfl))|exact (fun e_=>((HL408_0.out.1 _ e_.symm).2) rfl)));rw [← Ny416.out] at ho;have n0_:=Mk (IsS64.grown (hI HI0) hg (IsS64.own_ne HI0.out HL408_0.out (by decide)));have n1_:=Mk (below_weaken bB HL.out hb);have n2_:=Mk (KeepBut.trans kK (KeepBut.of_grown hg g) (Kd.R_base2 HL408_0.out));have n3_:=Mk (Kd.H_grown (Kd.H_widen (by repeat (first|exact HH42.out|refine Kd.H_alloc ?_ _|refine Kd.H_drewN ?_ _|refine Kd.H_drew ?_))) hg (fun k_ e_=>.inl (UU42.out.1 k_ e_)));have n4_:=Mk (ho);clear HI0;clear HB;clear HK;clear HH42;clear HO_3;clear UU42;clear HL408_0;have HI0:=n0_;have HB:=n1_;have HK:=n2_;have HH42:=n3_;have HO418:=n4_;clear n0_ n1_ n2_ n3_ n4_;clear ho hb hg hat;have p10:0≤((ji5):Int):=of_decide_eq_true aS;have q10:((ji5):Int) < ((x3_1.length:Int):Int):=of_decide_eq_true aS;replace p10:=eq_true p10;replace q10:=eq_true q10;obtain ⟨Ao46,co46,eo46⟩:=Kd.R_slice HO418.out;(first|subst eo46|(injection eo46 with f1_ f2_ f3_;have f4_:=f1_.symm;have f5_:=f3_.symm;clear f1_ f2_ f3_;subst f4_;subst f5_));obtain ⟨_,_,hraw44,_,_,hcc44,_⟩:=Kd.H_raw HH42.out (of_decide_eq_true aS) (by have h_:((ji5):Int) < ((x3_1.length:Int):Int):=of_decide_eq_true aS;first|exact h_|(have e_:=(HN42.out);omega)|simpa using h_);obtain ⟨_,hfr44⟩:=Kd.H_at HH42.out (of_decide_eq_true aS) (by have h_:((ji5):Int) < ((x3_1.length:Int):Int):=of_decide_eq_true aS;first|exact h_|(have e_:=(HN42.out);omega)|simpa using h_);have hx44_0:=hcc44 0 _ rfl;have hf44_0:=hfr44 0;(try simp only [Nat.add_zero] at hx44_0 hf44_0);(try rw [show ((Kd.slice 25 k25)).sz=1 from rfl,Nat.mul_one] at hx44_0);(try rw [show ((Kd.slice 25 k25)).sz=1 from rfl,Nat.mul_one] at hf44_0);have HP44:=Kd.S_seg0 HH42.out (of_decide_eq_true aS) (by have h_:((ji5):Int) < ((x3_1.length:Int):Int):=of_decide_eq_true aS;first|exact h_|(have e_:=(HN42.out);omega)|simpa using h_) (seg:=[.slice Ao46 y416.length co46]) (j:=0) (show 1≤1 from by decide) (x':=y416) (Kd.M_row HO418.out) (fun _ hk=>hk);(try simp only [show ((Kd.slice 25 k25)).sz=1 from rfl,Nat.mul_one,Nat.add_zero] at HP44);clear hcc44 hfr44;have HN0_go42:=Mk (show g≠go42 from by have h_:=IsS64.own_ne HI0.out hraw44 (by decide);intro e_;exact h_ (by rw [e_];rfl));have HS44:=HP44.1;rw [← Ny419.out] at HS44;have HQ44:=Mk HS44;obtain ⟨_,hgg44⟩:=Kd.R_typed hraw44 go42 rfl;have GG44_:=Mk hgg44;clear HP44 HS44 hgg44;refine hK.out _ _ (HS0_) (fun hHeld=>?_);clear hK K;refine norm_ (a':=?_) ?_ ?_;rotate_left
         ·show Act.put _ (some 23) _=_
          simp only [Act.put,List.setIfInBounds_toArray,List.set_cons_zero,List.set_cons_succ,i64_w,i32_w];rfl
         refine pure_ (i:=10) (N:=some 24) (v:=?_) (a':=?_) (fl 12 2047) rfl rfl (aO HT_) fI (Or.inl ⟨by rfl,?_⟩) ?_ ?_;rotate_left
         ·intro w'
          go_simp
          with_reducible rfl
         rotate_left
         ·exact pA
         refine last_ (i:=11) (N:=none) (fl 12 4095) rfl rfl (oO HT_) (by decide) (fun K hK=>?_);refine skip_ (w1:=?_) (by rfl) rfl ?_ ?_;rotate_left
         ·go_simp
          rfl
         refine hK.out _ _ ?_;clear hK K;refine done_ (done_of HT_.out kR) ?_;have HO_3:=HQ44;try go_wp2_with (first|((with_reducible refine gate_callee (f:=66) rfl ?_);refine goesL_ (some 26) rfl rfl Tryz.func66 kR rfl #[.pointer (some ⟨g,0,none⟩),.string (⟨#[44]⟩:ByteArray)] rfl mA ?_;(with_reducible refine (req_reader_is.calls g t413 t414 t415 (⟨#[44]⟩:ByteArray) false t421 t422 t423 w0 _ ?side1 ?side2 A11.out).mono ?_);(case side1=>repeat (first|(with_reducible first|exact HI0.out|apply IsS64.alloc|apply IsS64.drewN|apply IsS64.drew|apply IsS64.set_0|apply IsS64.set_1|apply IsS64.set_2|refine IsS64.far ?_ HN0_go42.out _)|exact HI0.out));(case side2=>repeat (first|(with_reducible first|exact HB.out|apply below_alloc|apply pw_below_drewN|apply below_drew1|refine below_set ?_ (Nat.le_trans HL.out GB42.out)|refine below_set ?_ (IsS64.ge HI0.out))|exact HB.out));rintro e w47 ⟨rfl,hi,hb,hk⟩;refine ⟨_,rfl,?_⟩;replace HO_3:=Mk (Kd.S_mono (Kd.S_keep (IsS64.apartS (show IsS64 w0 _ g t413 t414 t415 from by repeat (first|(with_reducible first|exact HI0.out|apply IsS64.alloc|apply IsS64.drewN|apply IsS64.drew|apply IsS64.set_0|apply IsS64.set_1|apply IsS64.set_2|refine IsS64.far ?_ HN0_go42.out _)|exact HI0.out)) (by (with_reducible repeat (first|apply Kd.S_alloc|apply Kd.S_drewN|apply Kd.S_drew));exact HQ44.out) (by decide)) hk (fun _ h=>h.2)) (fun _ h=>h.1));replace HK:=Mk (KeepBut.trans (by repeat (first|(with_reducible first|exact HK.out|apply KeepBut.set_|apply keep_drewN|apply keep_drew|apply keep_alloc|refine keep_far ?_ GB42.out _)|exact HK.out)) hk (.inl rfl));replace HB:=Mk (hb);replace HI0:=Mk (hi);clear hb hk hi)|((with_reducible refine gate_callee (f:=66) rfl ?_);refine goesL_ (some 28) rfl rfl Tryz.func66 kR rfl #[.pointer (some ⟨g,0,none⟩),.string (⟨#[59]⟩:ByteArray)] rfl mA ?_;(with_reducible refine (req_reader_is.calls g t421 t422 t423 (⟨#[59]⟩:ByteArray) false t425 t426 t427 w0 _ ?side1 ?side2 A23.out).mono ?_);(case side1=>exact hI HI0);(case side2=>exact bB);rintro e w48 ⟨rfl,hi,hb,hk⟩;refine ⟨_,rfl,?_⟩;replace HO_3:=Mk (Kd.S_mono (Kd.S_keep (IsS64.apartS (show IsS64 w0 _ g t421 t422 t423 from hI HI0) (sU HO_3) (by decide)) hk (fun _ h=>h.2)) (fun _ h=>h.1));replace HK:=Mk (KeepBut.trans kK hk (.inl rfl));replace HB:=Mk (hb);replace HI0:=Mk (hi);clear hb hk hi))
         go_ret
         exact ⟨_,by first|rfl|(simp [errW_none,errW_some]<;>rfl)|(simp only [← hji5];first|rfl|(simp [errW_none,errW_some]<;>rfl))|(simp [*,errW_none,errW_some]<;>rfl),by (with_reducible repeat (first|apply Kd.S_alloc|apply Kd.S_drewN|apply Kd.S_drew));exact HO_3.out,hI HI0,bB,kK⟩
      ·rw [if_neg c9] at H
       exact absurd H (by simp)
     ·rw [if_neg c7] at H
      exact absurd H (by simp)
    ·rw [if_neg c6] at H
     exact absurd H (by simp)
   ·rw [if_neg c4] at H
    have c4b0:=beq_eq_false_iff_ne.mpr c4;have c4b1:=bne_iff_ne.mpr c4;simp only [Option.some.injEq,Prod.mk.injEq] at H;obtain ⟨rfl,rfl,rfl,rfl⟩:=H;obtain ⟨HGz49,hgz49⟩:=HI0.out;have hcz49_0:=cellS64_0 HGz49;have hcz49_1:=cellS64_1 HGz49;have hcz49_2:=cellS64_2 HGz49;have hfz49_0:=blk_frozen HGz49 0;have hfz49_1:=blk_frozen HGz49 1;have hfz49_2:=blk_frozen HGz49 2;clear HGz49 hgz49
    go_wp2
    go_ret
    exact ⟨_,eW,by (with_reducible repeat (first|apply Kd.S_alloc|apply Kd.S_drewN|apply Kd.S_drew));exact HO_3.out,hI HI0,bB,kK⟩
end Go.Proofs.YtcpjlbdjnaaaiaaGreatDoor.PAll
