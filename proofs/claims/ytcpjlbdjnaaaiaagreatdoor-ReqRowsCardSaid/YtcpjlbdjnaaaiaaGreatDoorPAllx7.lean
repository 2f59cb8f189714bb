import Derived.Test.YtcpjlbdjnaaaiaaGreatDoorPAllx6
namespace Go.Proofs.YtcpjlbdjnaaaiaaGreatDoor.PAll
open Go.Proofs.YtcpjlbdjnaaaiaaGreatDoor.Help
open Go.RowKit Go.Proofs.YtcpjlbdjnaaaiaaGreatDoorW.PrintWords Go.Proofs.YtcpjlbdjnaaaiaaGreatDoorW.PrintLast Go.Proofs.YtcpjlbdjnaaaiaaGreatDoorW.PrintMore
set_option linter.unusedVariables false
set_option linter.unusedSimpArgs false
def pred_Same.f (k:Nat) (a0_0:Int) (a0_1:Int) (a0_2:Int) (a0_3:Int) (a0_4:ByteArray) (a0_5:(Nat×Nat)) (a0_6:(Nat×Nat)) (a0_7:(Nat×Nat)) (l0_8:List (S30)) (a1_0:Int) (a1_1:Int) (a1_2:Int) (a1_3:Int) (a1_4:ByteArray) (a1_5:(Nat×Nat)) (a1_6:(Nat×Nat)) (a1_7:(Nat×Nat)) (l1_8:List (S30)):Option Bool:=
 (walkS k [(⟨(⟨a0_0,a0_1,(⟨a0_2,a0_3,a0_4,a0_5⟩:S25),(⟨a0_6,a0_7⟩:S27),l0_8⟩:S30),1⟩:S70)] []).bind fun la=>(walkS k [(⟨(⟨a1_0,a1_1,(⟨a1_2,a1_3,a1_4,a1_5⟩:S25),(⟨a1_6,a1_7⟩:S27),l1_8⟩:S30),1⟩:S70)] []).bind fun lb=>pred_node.f k la lb
theorem pred_Same.mono:∀ a0_0 a0_1 a0_2 a0_3 a0_4 a0_5 a0_6 a0_7 l0_8 a1_0 a1_1 a1_2 a1_3 a1_4 a1_5 a1_6 a1_7 l1_8 k,LeO (pred_Same.f k a0_0 a0_1 a0_2 a0_3 a0_4 a0_5 a0_6 a0_7 l0_8 a1_0 a1_1 a1_2 a1_3 a1_4 a1_5 a1_6 a1_7 l1_8) (pred_Same.f (k+1) a0_0 a0_1 a0_2 a0_3 a0_4 a0_5 a0_6 a0_7 l0_8 a1_0 a1_1 a1_2 a1_3 a1_4 a1_5 a1_6 a1_7 l1_8):=by
 intro a0_0 a0_1 a0_2 a0_3 a0_4 a0_5 a0_6 a0_7 l0_8 a1_0 a1_1 a1_2 a1_3 a1_4 a1_5 a1_6 a1_7 l1_8 k r h;unfold pred_Same.f at h ⊢;obtain ⟨la,h1,h⟩:=Option.bind_eq_some_iff.1 h;obtain ⟨lb,h2,h⟩:=Option.bind_eq_some_iff.1 h;rw [walkS_mono k _ _ la h1,Option.bind_some,walkS_mono k _ _ lb h2,Option.bind_some];exact pred_node.mono _ _ k r h
set_option maxRecDepth 100000 in
set_option maxHeartbeats 4000000 in
theorem pred_Same.calls (k:Nat) (a0_0:Int) (a0_1:Int) (a0_2:Int) (a0_3:Int) (a0_4:ByteArray) (a0_5:(Nat×Nat)) (a0_6:(Nat×Nat)) (a0_7:(Nat×Nat)) (A0_8:Option Addr) (c0_8:Nat) (l0_8:List (S30)) (a1_0:Int) (a1_1:Int) (a1_2:Int) (a1_3:Int) (a1_4:ByteArray) (a1_5:(Nat×Nat)) (a1_6:(Nat×Nat)) (a1_7:(Nat×Nat)) (A1_8:Option Addr) (c1_8:Nat) (l1_8:List (S30)) (r:Bool) (w:World) (hr0_8:Kd.C k30 w A0_8 l0_8.length l0_8) (hc0_8:l0_8.length≤c0_8) (hr1_8:Kd.C k30 w A1_8 l1_8.length l1_8) (hc1_8:l1_8.length≤c1_8) (h:pred_Same.f k a0_0 a0_1 a0_2 a0_3 a0_4 a0_5 a0_6 a0_7 l0_8 a1_0 a1_1 a1_2 a1_3 a1_4 a1_5 a1_6 a1_7 l1_8=some r):
  Calls Tryz.prog 9 #[.agg #[.int .i64 a0_0,.int .i64 a0_1,.int .i64 a0_2,.int .i64 a0_3,.string a0_4,.complex .f64 a0_5.1 a0_5.2,.complex .f64 a0_6.1 a0_6.2,.complex .f64 a0_7.1 a0_7.2,.slice A0_8 l0_8.length c0_8],.agg #[.int .i64 a1_0,.int .i64 a1_1,.int .i64 a1_2,.int .i64 a1_3,.string a1_4,.complex .f64 a1_5.1 a1_5.2,.complex .f64 a1_6.1 a1_6.2,.complex .f64 a1_7.1 a1_7.2,.slice A1_8 l1_8.length c1_8]] w fun e w'=>e = .returned (.bool r)∧Below w.heap.size w w':=by
 unfold pred_Same.f at h;obtain ⟨la,h1,h⟩:=Option.bind_eq_some_iff.1 h;obtain ⟨lb,h2,h⟩:=Option.bind_eq_some_iff.1 h;have HA:=Mk (fun (W:World) (hb:Below w.heap.size w W)=>walk_calls k (⟨a0_0,a0_1,(⟨a0_2,a0_3,a0_4,a0_5⟩:S25),(⟨a0_6,a0_7⟩:S27),l0_8⟩:S30) A0_8 c0_8 la W (Kd.C_below hr0_8 hb) hc0_8 h1);have HB:=Mk (fun (W:World) (hb:Below w.heap.size w W)=>walk_calls k (⟨a1_0,a1_1,(⟨a1_2,a1_3,a1_4,a1_5⟩:S25),(⟨a1_6,a1_7⟩:S27),l1_8⟩:S30) A1_8 c1_8 lb W (Kd.C_below hr1_8 hb) hc1_8 h2);have HE:=Mk (fun (W:World) (A A':Option Addr) (c c':Nat) p1 p2 p3 p4=>pred_node.calls k A c la A' c' lb r W p1 p2 p3 p4 h);clear hr0_8 hc0_8 hr1_8 hc1_8 h1 h2 h;go_enter Tryz.func9,Tryz.ntmps9
 go_wp2
 have e0:((w.alloc (.cells #[.int .i64 a0_0,.int .i64 a0_1,.int .i64 a0_2,.int .i64 a0_3,.string a0_4,.complex .f64 a0_5.1 a0_5.2,.complex .f64 a0_6.1 a0_6.2,.complex .f64 a0_7.1 a0_7.2,.slice A0_8 l0_8.length c0_8] 30)).alloc (.cells #[.int .i64 a1_0,.int .i64 a1_1,.int .i64 a1_2,.int .i64 a1_3,.string a1_4,.complex .f64 a1_5.1 a1_5.2,.complex .f64 a1_6.1 a1_6.2,.complex .f64 a1_7.1 a1_7.2,.slice A1_8 l1_8.length c1_8] 30)).heap[w.heap.size]?=some (.cells #[.int .i64 a0_0,.int .i64 a0_1,.int .i64 a0_2,.int .i64 a0_3,.string a0_4,.complex .f64 a0_5.1 a0_5.2,.complex .f64 a0_6.1 a0_6.2,.complex .f64 a0_7.1 a0_7.2,.slice A0_8 l0_8.length c0_8] 30 (0,0)):=blk_alloc (World.alloc_heap_new w _) _
 have e1:((w.alloc (.cells #[.int .i64 a0_0,.int .i64 a0_1,.int .i64 a0_2,.int .i64 a0_3,.string a0_4,.complex .f64 a0_5.1 a0_5.2,.complex .f64 a0_6.1 a0_6.2,.complex .f64 a0_7.1 a0_7.2,.slice A0_8 l0_8.length c0_8] 30)).alloc (.cells #[.int .i64 a1_0,.int .i64 a1_1,.int .i64 a1_2,.int .i64 a1_3,.string a1_4,.complex .f64 a1_5.1 a1_5.2,.complex .f64 a1_6.1 a1_6.2,.complex .f64 a1_7.1 a1_7.2,.slice A1_8 l1_8.length c1_8] 30)).heap[w.heap.size+1]?=some (.cells #[.int .i64 a1_0,.int .i64 a1_1,.int .i64 a1_2,.int .i64 a1_3,.string a1_4,.complex .f64 a1_5.1 a1_5.2,.complex .f64 a1_6.1 a1_6.2,.complex .f64 a1_7.1 a1_7.2,.slice A1_8 l1_8.length c1_8] 30 (0,0)):=by
  have:=World.alloc_heap_new (w.alloc (.cells #[.int .i64 a0_0,.int .i64 a0_1,.int .i64 a0_2,.int .i64 a0_3,.string a0_4,.complex .f64 a0_5.1 a0_5.2,.complex .f64 a0_6.1 a0_6.2,.complex .f64 a0_7.1 a0_7.2,.slice A0_8 l0_8.length c0_8] 30)) (.cells #[.int .i64 a1_0,.int .i64 a1_1,.int .i64 a1_2,.int .i64 a1_3,.string a1_4,.complex .f64 a1_5.1 a1_5.2,.complex .f64 a1_6.1 a1_6.2,.complex .f64 a1_7.1 a1_7.2,.slice A1_8 l1_8.length c1_8] 30)
  simpa using this
 have hBw:Below w.heap.size w ((w.alloc (.cells #[.int .i64 a0_0,.int .i64 a0_1,.int .i64 a0_2,.int .i64 a0_3,.string a0_4,.complex .f64 a0_5.1 a0_5.2,.complex .f64 a0_6.1 a0_6.2,.complex .f64 a0_7.1 a0_7.2,.slice A0_8 l0_8.length c0_8] 30)).alloc (.cells #[.int .i64 a1_0,.int .i64 a1_1,.int .i64 a1_2,.int .i64 a1_3,.string a1_4,.complex .f64 a1_5.1 a1_5.2,.complex .f64 a1_6.1 a1_6.2,.complex .f64 a1_7.1 a1_7.2,.slice A1_8 l1_8.length c1_8] 30)):=below_alloc (below_alloc (Below.refl _ _) _) _
 generalize (w.alloc (.cells #[.int .i64 a0_0,.int .i64 a0_1,.int .i64 a0_2,.int .i64 a0_3,.string a0_4,.complex .f64 a0_5.1 a0_5.2,.complex .f64 a0_6.1 a0_6.2,.complex .f64 a0_7.1 a0_7.2,.slice A0_8 l0_8.length c0_8] 30)).alloc (.cells #[.int .i64 a1_0,.int .i64 a1_1,.int .i64 a1_2,.int .i64 a1_3,.string a1_4,.complex .f64 a1_5.1 a1_5.2,.complex .f64 a1_6.1 a1_6.2,.complex .f64 a1_7.1 a1_7.2,.slice A1_8 l1_8.length c1_8] 30)=wb at e0 e1 hBw ⊢
 refine start_ (n:=6) (S:=fun W=>Below wb.heap.size wb W) (ds:=[]) #[b0,b0,b0,b0,b0,b0] kR rfl rfl (below_drew1 (Below.refl _ _)) ?_;intro hS
 generalize wb.drew=wd at hS ⊢
 refine take_ (i:=0) (N:=some 5) (v:=?_) (a':=?_) (fl 6 1) rfl rfl kR fI (Or.inl ⟨by rfl,?_⟩) hS ?_ ?_;rotate_left
 ·intro W hW
  have s0:=(blk_cell ((hW.block _ (blk_lt e0)).trans e0) 0).trans rfl;have s1:=(blk_cell ((hW.block _ (blk_lt e0)).trans e0) 1).trans rfl;have s2:=(blk_cell ((hW.block _ (blk_lt e0)).trans e0) 2).trans rfl;have s3:=(blk_cell ((hW.block _ (blk_lt e0)).trans e0) 3).trans rfl;have s4:=(blk_cell ((hW.block _ (blk_lt e0)).trans e0) 4).trans rfl;have s5:=(blk_cell ((hW.block _ (blk_lt e0)).trans e0) 5).trans rfl;have s6:=(blk_cell ((hW.block _ (blk_lt e0)).trans e0) 6).trans rfl;have s7:=(blk_cell ((hW.block _ (blk_lt e0)).trans e0) 7).trans rfl;have s8:=(blk_cell ((hW.block _ (blk_lt e0)).trans e0) 8).trans rfl;go_simp
  with_reducible rfl
 rotate_left
 ·exact pA
 refine take_ (i:=2) (N:=some 7) (v:=?_) (a':=?_) (fl 6 5) rfl rfl kR fI (Or.inl ⟨by rfl,?_⟩) hS ?_ ?_;rotate_left
 ·intro W hW
  have s0:=(blk_cell ((hW.block _ (blk_lt e1)).trans e1) 0).trans rfl;have s1:=(blk_cell ((hW.block _ (blk_lt e1)).trans e1) 1).trans rfl;have s2:=(blk_cell ((hW.block _ (blk_lt e1)).trans e1) 2).trans rfl;have s3:=(blk_cell ((hW.block _ (blk_lt e1)).trans e1) 3).trans rfl;have s4:=(blk_cell ((hW.block _ (blk_lt e1)).trans e1) 4).trans rfl;have s5:=(blk_cell ((hW.block _ (blk_lt e1)).trans e1) 5).trans rfl;have s6:=(blk_cell ((hW.block _ (blk_lt e1)).trans e1) 6).trans rfl;have s7:=(blk_cell ((hW.block _ (blk_lt e1)).trans e1) 7).trans rfl;have s8:=(blk_cell ((hW.block _ (blk_lt e1)).trans e1) 8).trans rfl;go_simp
  with_reducible rfl
 rotate_left
 ·exact pA
 refine one_ (i:=1) (N:=some 6) (fl 6 7) rfl rfl kR (by decide) (fun K hK=>?_);refine goes_ Tryz.func27 kR rfl #[.agg #[.int .i64 a0_0,.int .i64 a0_1,.int .i64 a0_2,.int .i64 a0_3,.string a0_4,.complex .f64 a0_5.1 a0_5.2,.complex .f64 a0_6.1 a0_6.2,.complex .f64 a0_7.1 a0_7.2,.slice A0_8 l0_8.length c0_8]] (by rfl) rfl rfl mA ?_;refine (HA.out _ (hBw.trans (hS.mono hBw.size))).mono ?_;rintro e w2 ⟨A2,c2,rfl,hc2,hC2,hB2⟩;refine ⟨_,rfl,?_⟩;have hS2:=hS.trans (hB2.mono hS.size);refine hK.out _ _ hS2 (fun _=>?_);refine norm_ (a':=?_) ?_ ?_;rotate_left
 ·exact pA
 clear hK;refine one_ (i:=3) (N:=some 8) (fl 6 15) rfl rfl kR (by decide) (fun K hK=>?_);refine goes_ Tryz.func27 kR rfl #[.agg #[.int .i64 a1_0,.int .i64 a1_1,.int .i64 a1_2,.int .i64 a1_3,.string a1_4,.complex .f64 a1_5.1 a1_5.2,.complex .f64 a1_6.1 a1_6.2,.complex .f64 a1_7.1 a1_7.2,.slice A1_8 l1_8.length c1_8]] (by rfl) rfl rfl mA ?_;refine (HB.out _ (hBw.trans (hS2.mono hBw.size))).mono ?_;rintro e w3 ⟨A3,c3,rfl,hc3,hC3,hB3⟩;refine ⟨_,rfl,?_⟩;have hS3:=hS2.trans (hB3.mono hS2.size);refine hK.out _ _ hS3 (fun _=>?_);refine norm_ (a':=?_) ?_ ?_;rotate_left
 ·exact pA
 clear hK;refine one_ (i:=4) (N:=some 9) (fl 6 31) rfl rfl kR (by decide) (fun K hK=>?_);refine goes_ Tryz.func26 kR rfl #[.slice A2 la.length c2,.slice A3 lb.length c3,.func (.func 28) #[] #[]] (by rfl) rfl rfl mA ?_;refine (HE.out _ A2 A3 c2 c3 (Kd.C_below hC2 hB3) hc2 hC3 hc3).mono ?_;rintro e w4 ⟨rfl,hB4⟩;refine ⟨_,rfl,?_⟩;have hS4:=hS3.trans (hB4.mono hS3.size);refine hK.out _ _ hS4 (fun _=>?_);refine norm_ (a':=?_) ?_ ?_;rotate_left
 ·exact pA
 clear hK;refine pure_ (i:=5) (N:=some 4) (v:=?_) (a':=?_) (fl 6 63) rfl rfl kR fI (Or.inl ⟨by rfl,?_⟩) ?_ ?_;rotate_left
 ·intro w'
  go_simp
  with_reducible rfl
 rotate_left
 ·exact pA
 refine done_ kR ?_
 go_wp2
 go_ret
 exact ⟨rfl,hBw.trans (hS4.mono hBw.size)⟩
def req_none.f (k:Nat) (a0_0:Int) (a0_1:Int) (a0_2:Int) (a0_3:Int) (a0_4:ByteArray) (a0_5:(Nat×Nat)) (a0_6:(Nat×Nat)) (a0_7:(Nat×Nat)) (l0_8:List (S30)):Option (Bool):=(pred_Same.f k a0_0 a0_1 a0_2 a0_3 a0_4 a0_5 a0_6 a0_7 l0_8 0 0 0 0 (⟨#[]⟩:ByteArray) ((0,0):Nat×Nat) ((0,0):Nat×Nat) ((0,0):Nat×Nat) ([]:List (S30))).bind fun t143=>(some t143)
theorem req_none.mono:∀ a0 a1 a2 a3 a4 a5 a6 a7 a8 k,LeO (req_none.f k a0 a1 a2 a3 a4 a5 a6 a7 a8) (req_none.f (k+1) a0 a1 a2 a3 a4 a5 a6 a7 a8):=by
 intro a0 a1 a2 a3 a4 a5 a6 a7 a8 k;unfold req_none.f
 repeat' first
   |(with_reducible exact pred_Same.mono _ _ _ _ _ _ _ _ _ _ _ _ _ _ _ _ _ _ _)
   |(with_reducible exact LeO.refl _)
   |(with_reducible exact LeO.none _)
   |(with_reducible refine LeO.ite ?_ ?_)
   |(with_reducible refine LeO.bind ?_ (fun _=>?_))
   |exact pred_Same.mono _ _ _ _ _ _ _ _ _ _ _ _ _ _ _ _ _ _ _
   |exact LeO.none _
   |refine LeO.ite ?_ ?_
   |refine LeO.bind ?_ (fun _=>?_)
set_option maxHeartbeats 8000000 in
set_option maxRecDepth 100000 in
theorem req_none.calls (k:Nat) (a0_0:Int) (a0_1:Int) (a0_2:Int) (a0_3:Int) (a0_4:ByteArray) (a0_5:(Nat×Nat)) (a0_6:(Nat×Nat)) (a0_7:(Nat×Nat)) (A0_8:Option Addr) (c0_8:Nat) (l0_8:List (S30)) (r:Bool) (w:World) (hr0_8:Kd.C k30 w A0_8 l0_8.length l0_8) (hc0_8:l0_8.length≤c0_8) (h:req_none.f k a0_0 a0_1 a0_2 a0_3 a0_4 a0_5 a0_6 a0_7 l0_8=some r):
  Calls Tryz.prog 72 #[.agg #[.int .i64 a0_0,.int .i64 a0_1,.int .i64 a0_2,.int .i64 a0_3,.string a0_4,.complex .f64 a0_5.1 a0_5.2,.complex .f64 a0_6.1 a0_6.2,.complex .f64 a0_7.1 a0_7.2,.slice A0_8 l0_8.length c0_8]] w fun e w'=>e = .returned (.bool r)∧Below w.heap.size w w':=by
 have hu30:=Tryz.underlying30;have HR0_8:=Mk hr0_8;have HC0_8:=Mk hc0_8;clear hr0_8 hc0_8;have HB:=Mk (Below.refl w.heap.size w);have H:((pred_Same.f k a0_0 a0_1 a0_2 a0_3 a0_4 a0_5 a0_6 a0_7 l0_8 0 0 0 0 (⟨#[]⟩:ByteArray) ((0,0):Nat×Nat) ((0,0):Nat×Nat) ((0,0):Nat×Nat) ([]:List (S30))).bind fun t143=>(some t143))=some r:=h;clear h;replace H:=Option.bind_eq_some_iff.mp H;obtain ⟨t143,A20,H⟩:=H;try dsimp only at H
 have A2:=Mk A20;clear A20;obtain rfl:=Option.some.inj H;go_enter Tryz.func72,Tryz.ntmps72
 go_wp2_with (first|((with_reducible refine gate_dst (N:=1) rfl ?_);refine boxE 1 #[.int .i64 a0_0,.int .i64 a0_1,.int .i64 a0_2,.int .i64 a0_3,.string a0_4,.complex .f64 a0_5.1 a0_5.2,.complex .f64 a0_6.1 a0_6.2,.complex .f64 a0_7.1 a0_7.2,.slice A0_8 l0_8.length c0_8] 30 ?_;intro gb142 hg w3 hbox hb;have BK142:=Mk (hbox);have GW142:=Mk ((gS:w.heap.size≤gb142));have GE142:=Mk ((gS:w.heap.size≤gb142));replace HB:=Mk (below_step bB hb);clear hb hbox hg;obtain ⟨_,_,_,_,_,_,_,_,_,_,_,_,_,_,_,_,_,_⟩:=z9 BK142)|((with_reducible refine gate_callee (f:=9) rfl ?_);refine goesL_ (some 5) rfl rfl Tryz.func9 kR rfl #[.agg #[.int .i64 a0_0,.int .i64 a0_1,.int .i64 a0_2,.int .i64 a0_3,.string a0_4,.complex .f64 a0_5.1 a0_5.2,.complex .f64 a0_6.1 a0_6.2,.complex .f64 a0_7.1 a0_7.2,.slice A0_8 l0_8.length c0_8],.agg #[.int .i64 0,.int .i64 0,.int .i64 0,.int .i64 0,.string (⟨#[]⟩:ByteArray),.complex .f64 0 0,.complex .f64 0 0,.complex .f64 0 0,.slice none 0 0]] rfl mA ?_;(refine (pred_Same.calls k a0_0 a0_1 a0_2 a0_3 a0_4 a0_5 a0_6 a0_7 _ _ l0_8 0 0 0 0 (⟨#[]⟩:ByteArray) ((0,0):Nat×Nat) ((0,0):Nat×Nat) ((0,0):Nat×Nat) _ _ ([]:List (S30)) t143 _ ?side1 ?side2 ?side3 ?side4 A2.out).mono ?_);(case side1=>exact cU (Kd.C_below HR0_8.out HB.out));(case side2=>exact HC0_8.out);(case side3=>exact Kd.C_nil _ _);(case side4=>exact Nat.le_refl _);rintro e w5 ⟨rfl,hb⟩;refine ⟨_,rfl,?_⟩;replace BK142:=bkb BK142 hb;replace HB:=Mk (below_step bB hb);clear hb))
 go_ret
 exact ⟨eW,bB⟩
def req_alone.f (k:Nat) (a0_0:Int) (a0_1:Int) (l0_2:List ByteArray) (a0_3:Int) (a0_4:Int) (a0_5:Int) (a0_6:Int) (a0_7:ByteArray) (a0_8:(Nat×Nat)) (a0_9:(Nat×Nat)) (a0_10:(Nat×Nat)) (l0_11:List (S30)) (l0_12:List (List (S25))):Option (Bool):=if a0_0=2 then (if a0_0=1 then (if a0_0=4 then (some true) else (some ((l0_12.length:Int) == 0))) else (if (l0_2.length:Int)=0 then ((req_none.f k a0_3 a0_4 a0_5 a0_6 a0_7 a0_8 a0_9 a0_10 l0_11).bind fun t145=>(if t145=true then (if a0_0=4 then (some true) else (some ((l0_12.length:Int) == 0))) else (some false))) else (some false))) else (if a0_0=3 then (if a0_0=1 then (if a0_0=4 then (some true) else (some ((l0_12.length:Int) == 0))) else (if (l0_2.length:Int)=0 then ((req_none.f k a0_3 a0_4 a0_5 a0_6 a0_7 a0_8 a0_9 a0_10 l0_11).bind fun t146=>(if t146=true then (if a0_0=4 then (some true) else (some ((l0_12.length:Int) == 0))) else (some false))) else (some false))) else (if a0_1=0 then (if a0_0=1 then (if a0_0=4 then (some true) else (some ((l0_12.length:Int) == 0))) else (if (l0_2.length:Int)=0 then ((req_none.f k a0_3 a0_4 a0_5 a0_6 a0_7 a0_8 a0_9 a0_10 l0_11).bind fun t147=>(if t147=true then (if a0_0=4 then (some true) else (some ((l0_12.length:Int) == 0))) else (some false))) else (some false))) else (some false)))
set_option maxHeartbeats 8000000 in
set_option maxRecDepth 100000 in
theorem req_alone.calls (k:Nat) (a0_0:Int) (a0_1:Int) (A0_2:Option Addr) (c0_2:Nat) (l0_2:List ByteArray) (a0_3:Int) (a0_4:Int) (a0_5:Int) (a0_6:Int) (a0_7:ByteArray) (a0_8:(Nat×Nat)) (a0_9:(Nat×Nat)) (a0_10:(Nat×Nat)) (A0_11:Option Addr) (c0_11:Nat) (l0_11:List (S30)) (A0_12:Option Addr) (c0_12:Nat) (l0_12:List (List (S25))) (r:Bool) (w:World) (hr0_2:Kd.C Kd.string w A0_2 l0_2.length l0_2) (hc0_2:l0_2.length≤c0_2) (hr0_11:Kd.C k30 w A0_11 l0_11.length l0_11) (hc0_11:l0_11.length≤c0_11) (hr0_12:Kd.C (Kd.slice 25 k25) w A0_12 l0_12.length l0_12) (hc0_12:l0_12.length≤c0_12) (h:req_alone.f k a0_0 a0_1 l0_2 a0_3 a0_4 a0_5 a0_6 a0_7 a0_8 a0_9 a0_10 l0_11 l0_12=some r):
  Calls Tryz.prog 43 #[.agg #[.int .i64 a0_0,.int .i64 a0_1,.slice A0_2 l0_2.length c0_2,.int .i64 a0_3,.int .i64 a0_4,.int .i64 a0_5,.int .i64 a0_6,.string a0_7,.complex .f64 a0_8.1 a0_8.2,.complex .f64 a0_9.1 a0_9.2,.complex .f64 a0_10.1 a0_10.2,.slice A0_11 l0_11.length c0_11,.slice A0_12 l0_12.length c0_12]] w fun e w'=>e = .returned (.bool r)∧Below w.heap.size w w':=by
 have hu38:=Tryz.underlying38;have hu30:=Tryz.underlying30;have HR0_2:=Mk hr0_2;have HC0_2:=Mk hc0_2;clear hr0_2 hc0_2;have HR0_11:=Mk hr0_11;have HC0_11:=Mk hc0_11;clear hr0_11 hc0_11;have HR0_12:=Mk hr0_12;have HC0_12:=Mk hc0_12;clear hr0_12 hc0_12;have HB:=Mk (Below.refl w.heap.size w);have H:(if a0_0=2 then (if a0_0=1 then (if a0_0=4 then (some true) else (some ((l0_12.length:Int) == 0))) else (if (l0_2.length:Int)=0 then ((req_none.f k a0_3 a0_4 a0_5 a0_6 a0_7 a0_8 a0_9 a0_10 l0_11).bind fun t145=>(if t145=true then (if a0_0=4 then (some true) else (some ((l0_12.length:Int) == 0))) else (some false))) else (some false))) else (if a0_0=3 then (if a0_0=1 then (if a0_0=4 then (some true) else (some ((l0_12.length:Int) == 0))) else (if (l0_2.length:Int)=0 then ((req_none.f k a0_3 a0_4 a0_5 a0_6 a0_7 a0_8 a0_9 a0_10 l0_11).bind fun t146=>(if t146=true then (if a0_0=4 then (some true) else (some ((l0_12.length:Int) == 0))) else (some false))) else (some false))) else (if a0_1=0 then (if a0_0=1 then (if a0_0=4 then (some true) else (some ((l0_12.length:Int) == 0))) else (if (l0_2.length:Int)=0 then ((req_none.f k a0_3 a0_4 a0_5 a0_6 a0_7 a0_8 a0_9 a0_10 l0_11).bind fun t147=>(if t147=true then (if a0_0=4 then (some true) else (some ((l0_12.length:Int) == 0))) else (some false))) else (some false))) else (some false))))=some r:=h;clear h;by_cases c2:a0_0=2
 ·rw [if_pos c2] at H
  have c2b0:=beq_iff_eq.mpr c2;have c2b1:=bne_eq_false_iff_eq.mpr c2;clear c2;by_cases c3:a0_0=1
  ·rw [if_pos c3] at H
   have c3b0:=beq_iff_eq.mpr c3;have c3b1:=bne_eq_false_iff_eq.mpr c3;clear c3;by_cases c4:a0_0=4
   ·rw [if_pos c4] at H
    have c4b0:=beq_iff_eq.mpr c4;have c4b1:=bne_eq_false_iff_eq.mpr c4;clear c4;obtain rfl:=Option.some.inj H;go_enter Tryz.func43,Tryz.ntmps43
    go_wp2_with (first|((with_reducible refine gate_dst (N:=1) rfl ?_);(try (refine gate_guard (by rfl) ?_;dsimp only));refine boxE 1 #[.int .i64 a0_0,.int .i64 a0_1,.slice A0_2 l0_2.length c0_2,.int .i64 a0_3,.int .i64 a0_4,.int .i64 a0_5,.int .i64 a0_6,.string a0_7,.complex .f64 a0_8.1 a0_8.2,.complex .f64 a0_9.1 a0_9.2,.complex .f64 a0_10.1 a0_10.2,.slice A0_11 l0_11.length c0_11,.slice A0_12 l0_12.length c0_12] 38 ?_;intro gb144 hg w5 hbox hb;have BK144:=Mk (hbox);have GW144:=Mk ((gS:w.heap.size≤gb144));have GE144:=Mk ((gS:w.heap.size≤gb144));replace HB:=Mk (below_step bB hb);clear hb hbox hg;obtain ⟨_,_,_,_,_,_,_,_,_,_,_,_,_,_,_,_,_,_,_,_,_,_,_,_,_,_⟩:=z13 BK144))
    go_ret
    exact ⟨eW,bB⟩
   ·rw [if_neg c4] at H
    have c4b0:=beq_eq_false_iff_ne.mpr c4;have c4b1:=bne_iff_ne.mpr c4;obtain rfl:=Option.some.inj H;go_enter Tryz.func43,Tryz.ntmps43
    go_wp2_with (first|((with_reducible refine gate_dst (N:=1) rfl ?_);(try (refine gate_guard (by rfl) ?_;dsimp only));refine boxE 1 #[.int .i64 a0_0,.int .i64 a0_1,.slice A0_2 l0_2.length c0_2,.int .i64 a0_3,.int .i64 a0_4,.int .i64 a0_5,.int .i64 a0_6,.string a0_7,.complex .f64 a0_8.1 a0_8.2,.complex .f64 a0_9.1 a0_9.2,.complex .f64 a0_10.1 a0_10.2,.slice A0_11 l0_11.length c0_11,.slice A0_12 l0_12.length c0_12] 38 ?_;intro gb144 hg w7 hbox hb;have BK144:=Mk (hbox);have GW144:=Mk ((gS:w.heap.size≤gb144));have GE144:=Mk ((gS:w.heap.size≤gb144));replace HB:=Mk (below_step bB hb);clear hb hbox hg;obtain ⟨_,_,_,_,_,_,_,_,_,_,_,_,_,_,_,_,_,_,_,_,_,_,_,_,_,_⟩:=z13 BK144))
    go_ret
    exact ⟨eW,bB⟩
  ·rw [if_neg c3] at H
   have c3b0:=beq_eq_false_iff_ne.mpr c3;have c3b1:=bne_iff_ne.mpr c3;by_cases c9:(l0_2.length:Int)=0
   ·rw [if_pos c9] at H
    have c9b0:=beq_iff_eq.mpr c9;have c9b1:=bne_eq_false_iff_eq.mpr c9;clear c9;replace H:=Option.bind_eq_some_iff.mp H;obtain ⟨t145,A100,H⟩:=H;try dsimp only at H
    have A10:=Mk A100;clear A100;by_cases c11:t145=true
    ·subst c11
     rw [if_pos rfl] at H;try dsimp only at H
     by_cases c12:a0_0=4
     ·rw [if_pos c12] at H
      have c12b0:=beq_iff_eq.mpr c12;have c12b1:=bne_eq_false_iff_eq.mpr c12;clear c12;obtain rfl:=Option.some.inj H;go_enter Tryz.func43,Tryz.ntmps43
      go_wp2_with (first|((with_reducible refine gate_dst (N:=1) rfl ?_);(try (refine gate_guard (by rfl) ?_;dsimp only));refine boxE 1 #[.int .i64 a0_0,.int .i64 a0_1,.slice A0_2 l0_2.length c0_2,.int .i64 a0_3,.int .i64 a0_4,.int .i64 a0_5,.int .i64 a0_6,.string a0_7,.complex .f64 a0_8.1 a0_8.2,.complex .f64 a0_9.1 a0_9.2,.complex .f64 a0_10.1 a0_10.2,.slice A0_11 l0_11.length c0_11,.slice A0_12 l0_12.length c0_12] 38 ?_;intro gb144 hg w13 hbox hb;have BK144:=Mk (hbox);have GW144:=Mk ((gS:w.heap.size≤gb144));have GE144:=Mk ((gS:w.heap.size≤gb144));replace HB:=Mk (below_step bB hb);clear hb hbox hg;obtain ⟨_,_,_,_,_,_,_,_,_,_,_,_,_,_,_,_,_,_,_,_,_,_,_,_,_,_⟩:=z13 BK144)|(go_at_call 72;(with_reducible refine (req_none.calls k a0_3 a0_4 a0_5 a0_6 a0_7 a0_8 a0_9 a0_10 _ _ l0_11 true _ ?side1 ?side2 A10.out).mono ?_);(case side1=>exact cU (Kd.C_below HR0_11.out HB.out));(case side2=>exact HC0_11.out);rintro e w15 ⟨rfl,hb⟩;replace BK144:=bkb BK144 hb;replace HB:=Mk (below_step bB hb);clear hb;obtain ⟨_,_,_,_,_,_,_,_,_,_,_,_,_,_,_,_,_,_,_,_,_,_,_,_,_,_⟩:=z13 BK144))
      go_ret
      exact ⟨eW,bB⟩
     ·rw [if_neg c12] at H
      have c12b0:=beq_eq_false_iff_ne.mpr c12;have c12b1:=bne_iff_ne.mpr c12;obtain rfl:=Option.some.inj H;go_enter Tryz.func43,Tryz.ntmps43
      go_wp2_with (first|((with_reducible refine gate_dst (N:=1) rfl ?_);(try (refine gate_guard (by rfl) ?_;dsimp only));refine boxE 1 #[.int .i64 a0_0,.int .i64 a0_1,.slice A0_2 l0_2.length c0_2,.int .i64 a0_3,.int .i64 a0_4,.int .i64 a0_5,.int .i64 a0_6,.string a0_7,.complex .f64 a0_8.1 a0_8.2,.complex .f64 a0_9.1 a0_9.2,.complex .f64 a0_10.1 a0_10.2,.slice A0_11 l0_11.length c0_11,.slice A0_12 l0_12.length c0_12] 38 ?_;intro gb144 hg w17 hbox hb;have BK144:=Mk (hbox);have GW144:=Mk ((gS:w.heap.size≤gb144));have GE144:=Mk ((gS:w.heap.size≤gb144));replace HB:=Mk (below_step bB hb);clear hb hbox hg;obtain ⟨_,_,_,_,_,_,_,_,_,_,_,_,_,_,_,_,_,_,_,_,_,_,_,_,_,_⟩:=z13 BK144)|(go_at_call 72;(with_reducible refine (req_none.calls k a0_3 a0_4 a0_5 a0_6 a0_7 a0_8 a0_9 a0_10 _ _ l0_11 true _ ?side1 ?side2 A10.out).mono ?_);(case side1=>exact cU (Kd.C_below HR0_11.out HB.out));(case side2=>exact HC0_11.out);rintro e w19 ⟨rfl,hb⟩;replace BK144:=bkb BK144 hb;replace HB:=Mk (below_step bB hb);clear hb;obtain ⟨_,_,_,_,_,_,_,_,_,_,_,_,_,_,_,_,_,_,_,_,_,_,_,_,_,_⟩:=z13 BK144))
      go_ret
      exact ⟨eW,bB⟩
    ·replace c11:=Bool.eq_false_iff.mpr c11
     subst c11;rw [if_neg (show ¬ (false=true) by decide)] at H;try dsimp only at H
     obtain rfl:=Option.some.inj H;go_enter Tryz.func43,Tryz.ntmps43
     go_wp2_with (first|((with_reducible refine gate_dst (N:=1) rfl ?_);(try (refine gate_guard (by rfl) ?_;dsimp only));refine boxE 1 #[.int .i64 a0_0,.int .i64 a0_1,.slice A0_2 l0_2.length c0_2,.int .i64 a0_3,.int .i64 a0_4,.int .i64 a0_5,.int .i64 a0_6,.string a0_7,.complex .f64 a0_8.1 a0_8.2,.complex .f64 a0_9.1 a0_9.2,.complex .f64 a0_10.1 a0_10.2,.slice A0_11 l0_11.length c0_11,.slice A0_12 l0_12.length c0_12] 38 ?_;intro gb144 hg w21 hbox hb;have BK144:=Mk (hbox);have GW144:=Mk ((gS:w.heap.size≤gb144));have GE144:=Mk ((gS:w.heap.size≤gb144));replace HB:=Mk (below_step bB hb);clear hb hbox hg;obtain ⟨_,_,_,_,_,_,_,_,_,_,_,_,_,_,_,_,_,_,_,_,_,_,_,_,_,_⟩:=z13 BK144)|(go_at_call 72;(with_reducible refine (req_none.calls k a0_3 a0_4 a0_5 a0_6 a0_7 a0_8 a0_9 a0_10 _ _ l0_11 false _ ?side1 ?side2 A10.out).mono ?_);(case side1=>exact cU (Kd.C_below HR0_11.out HB.out));(case side2=>exact HC0_11.out);rintro e w23 ⟨rfl,hb⟩;replace BK144:=bkb BK144 hb;replace HB:=Mk (below_step bB hb);clear hb))
     go_ret
     exact ⟨eW,bB⟩
   ·rw [if_neg c9] at H
    have c9b0:=beq_eq_false_iff_ne.mpr c9;have c9b1:=bne_iff_ne.mpr c9;have c9b2:¬ (l0_2=[]):=fun h_=>c9 (by rw [h_];rfl)
    obtain rfl:=Option.some.inj H;go_enter Tryz.func43,Tryz.ntmps43
    go_wp2_with (first|((with_reducible refine gate_dst (N:=1) rfl ?_);(try (refine gate_guard (by rfl) ?_;dsimp only));refine boxE 1 #[.int .i64 a0_0,.int .i64 a0_1,.slice A0_2 l0_2.length c0_2,.int .i64 a0_3,.int .i64 a0_4,.int .i64 a0_5,.int .i64 a0_6,.string a0_7,.complex .f64 a0_8.1 a0_8.2,.complex .f64 a0_9.1 a0_9.2,.complex .f64 a0_10.1 a0_10.2,.slice A0_11 l0_11.length c0_11,.slice A0_12 l0_12.length c0_12] 38 ?_;intro gb144 hg w24 hbox hb;have BK144:=Mk (hbox);have GW144:=Mk ((gS:w.heap.size≤gb144));have GE144:=Mk ((gS:w.heap.size≤gb144));replace HB:=Mk (below_step bB hb);clear hb hbox hg;obtain ⟨_,_,_,_,_,_,_,_,_,_,_,_,_,_,_,_,_,_,_,_,_,_,_,_,_,_⟩:=z13 BK144))
    go_ret
    exact ⟨eW,bB⟩
 ·rw [if_neg c2] at H
  have c2b0:=beq_eq_false_iff_ne.mpr c2;have c2b1:=bne_iff_ne.mpr c2;by_cases c26:a0_0=3
  ·rw [if_pos c26] at H
   have c26b0:=beq_iff_eq.mpr c26;have c26b1:=bne_eq_false_iff_eq.mpr c26;clear c26;by_cases c27:a0_0=1
   ·rw [if_pos c27] at H
    have c27b0:=beq_iff_eq.mpr c27;have c27b1:=bne_eq_false_iff_eq.mpr c27;clear c27;by_cases c28:a0_0=4
    ·rw [if_pos c28] at H
     have c28b0:=beq_iff_eq.mpr c28;have c28b1:=bne_eq_false_iff_eq.mpr c28;clear c28;obtain rfl:=Option.some.inj H;go_enter Tryz.func43,Tryz.ntmps43
     go_wp2_with (first|((with_reducible refine gate_dst (N:=1) rfl ?_);(try (refine gate_guard (by rfl) ?_;dsimp only));refine boxE 1 #[.int .i64 a0_0,.int .i64 a0_1,.slice A0_2 l0_2.length c0_2,.int .i64 a0_3,.int .i64 a0_4,.int .i64 a0_5,.int .i64 a0_6,.string a0_7,.complex .f64 a0_8.1 a0_8.2,.complex .f64 a0_9.1 a0_9.2,.complex .f64 a0_10.1 a0_10.2,.slice A0_11 l0_11.length c0_11,.slice A0_12 l0_12.length c0_12] 38 ?_;intro gb144 hg w29 hbox hb;have BK144:=Mk (hbox);have GW144:=Mk ((gS:w.heap.size≤gb144));have GE144:=Mk ((gS:w.heap.size≤gb144));replace HB:=Mk (below_step bB hb);clear hb hbox hg;obtain ⟨_,_,_,_,_,_,_,_,_,_,_,_,_,_,_,_,_,_,_,_,_,_,_,_,_,_⟩:=z13 BK144))
     go_ret
     exact ⟨eW,bB⟩
    ·rw [if_neg c28] at H
     have c28b0:=beq_eq_false_iff_ne.mpr c28;have c28b1:=bne_iff_ne.mpr c28;obtain rfl:=Option.some.inj H;go_enter Tryz.func43,Tryz.ntmps43
     go_wp2_with (first|((with_reducible refine gate_dst (N:=1) rfl ?_);(try (refine gate_guard (by rfl) ?_;dsimp only));refine boxE 1 #[.int .i64 a0_0,.int .i64 a0_1,.slice A0_2 l0_2.length c0_2,.int .i64 a0_3,.int .i64 a0_4,.int .i64 a0_5,.int .i64 a0_6,.string a0_7,.complex .f64 a0_8.1 a0_8.2,.complex .f64 a0_9.1 a0_9.2,.complex .f64 a0_10.1 a0_10.2,.slice A0_11 l0_11.length c0_11,.slice A0_12 l0_12.length c0_12] 38 ?_;intro gb144 hg w31 hbox hb;have BK144:=Mk (hbox);have GW144:=Mk ((gS:w.heap.size≤gb144));have GE144:=Mk ((gS:w.heap.size≤gb144));replace HB:=Mk (below_step bB hb);clear hb hbox hg;obtain ⟨_,_,_,_,_,_,_,_,_,_,_,_,_,_,_,_,_,_,_,_,_,_,_,_,_,_⟩:=z13 BK144))
     go_ret
     exact ⟨eW,bB⟩
   ·rw [if_neg c27] at H
    have c27b0:=beq_eq_false_iff_ne.mpr c27;have c27b1:=bne_iff_ne.mpr c27;by_cases c33:(l0_2.length:Int)=0
    ·rw [if_pos c33] at H
     have c33b0:=beq_iff_eq.mpr c33;have c33b1:=bne_eq_false_iff_eq.mpr c33;clear c33;replace H:=Option.bind_eq_some_iff.mp H;obtain ⟨t146,A340,H⟩:=H;try dsimp only at H
     have A34:=Mk A340;clear A340;by_cases c35:t146=true
     ·subst c35
      rw [if_pos rfl] at H;try dsimp only at H
      by_cases c36:a0_0=4
      ·rw [if_pos c36] at H
       have c36b0:=beq_iff_eq.mpr c36;have c36b1:=bne_eq_false_iff_eq.mpr c36;clear c36;obtain rfl:=Option.some.inj H;go_enter Tryz.func43,Tryz.ntmps43
       go_wp2_with (first|((with_reducible refine gate_dst (N:=1) rfl ?_);(try (refine gate_guard (by rfl) ?_;dsimp only));refine boxE 1 #[.int .i64 a0_0,.int .i64 a0_1,.slice A0_2 l0_2.length c0_2,.int .i64 a0_3,.int .i64 a0_4,.int .i64 a0_5,.int .i64 a0_6,.string a0_7,.complex .f64 a0_8.1 a0_8.2,.complex .f64 a0_9.1 a0_9.2,.complex .f64 a0_10.1 a0_10.2,.slice A0_11 l0_11.length c0_11,.slice A0_12 l0_12.length c0_12] 38 ?_;intro gb144 hg w37 hbox hb;have BK144:=Mk (hbox);have GW144:=Mk ((gS:w.heap.size≤gb144));have GE144:=Mk ((gS:w.heap.size≤gb144));replace HB:=Mk (below_step bB hb);clear hb hbox hg;obtain ⟨_,_,_,_,_,_,_,_,_,_,_,_,_,_,_,_,_,_,_,_,_,_,_,_,_,_⟩:=z13 BK144)|(go_at_call 72;(with_reducible refine (req_none.calls k a0_3 a0_4 a0_5 a0_6 a0_7 a0_8 a0_9 a0_10 _ _ l0_11 true _ ?side1 ?side2 A34.out).mono ?_);(case side1=>exact cU (Kd.C_below HR0_11.out HB.out));(case side2=>exact HC0_11.out);rintro e w39 ⟨rfl,hb⟩;replace BK144:=bkb BK144 hb;replace HB:=Mk (below_step bB hb);clear hb;obtain ⟨_,_,_,_,_,_,_,_,_,_,_,_,_,_,_,_,_,_,_,_,_,_,_,_,_,_⟩:=z13 BK144))
       go_ret
       exact ⟨eW,bB⟩
      ·rw [if_neg c36] at H
       have c36b0:=beq_eq_false_iff_ne.mpr c36;have c36b1:=bne_iff_ne.mpr c36;obtain rfl:=Option.some.inj H;go_enter Tryz.func43,Tryz.ntmps43
       go_wp2_with (first|((with_reducible refine gate_dst (N:=1) rfl ?_);(try (refine gate_guard (by rfl) ?_;dsimp only));refine boxE 1 #[.int .i64 a0_0,.int .i64 a0_1,.slice A0_2 l0_2.length c0_2,.int .i64 a0_3,.int .i64 a0_4,.int .i64 a0_5,.int .i64 a0_6,.string a0_7,.complex .f64 a0_8.1 a0_8.2,.complex .f64 a0_9.1 a0_9.2,.complex .f64 a0_10.1 a0_10.2,.slice A0_11 l0_11.length c0_11,.slice A0_12 l0_12.length c0_12] 38 ?_;intro gb144 hg w41 hbox hb;have BK144:=Mk (hbox);have GW144:=Mk ((gS:w.heap.size≤gb144));have GE144:=Mk ((gS:w.heap.size≤gb144));replace HB:=Mk (below_step bB hb);clear hb hbox hg;obtain ⟨_,_,_,_,_,_,_,_,_,_,_,_,_,_,_,_,_,_,_,_,_,_,_,_,_,_⟩:=z13 BK144)|(go_at_call 72;(with_reducible refine (req_none.calls k a0_3 a0_4 a0_5 a0_6 a0_7 a0_8 a0_9 a0_10 _ _ l0_11 true _ ?side1 ?side2 A34.out).mono ?_);(case side1=>exact cU (Kd.C_below HR0_11.out HB.out));(case side2=>exact HC0_11.out);rintro e w43 ⟨rfl,hb⟩;replace BK144:=bkb BK144 hb;replace HB:=Mk (below_step bB hb);clear hb;obtain ⟨_,_,_,_,_,_,_,_,_,_,_,_,_,_,_,_,_,_,_,_,_,_,_,_,_,_⟩:=z13 BK144))
       go_ret
       exact ⟨eW,bB⟩
     ·replace c35:=Bool.eq_false_iff.mpr c35
      subst c35;rw [if_neg (show ¬ (false=true) by decide)] at H;try dsimp only at H
      obtain rfl:=Option.some.inj H;go_enter Tryz.func43,Tryz.ntmps43
      go_wp2_with (first|((with_reducible refine gate_dst (N:=1) rfl ?_);(try (refine gate_guard (by rfl) ?_;dsimp only));refine boxE 1 #[.int .i64 a0_0,.int .i64 a0_1,.slice A0_2 l0_2.length c0_2,.int .i64 a0_3,.int .i64 a0_4,.int .i64 a0_5,.int .i64 a0_6,.string a0_7,.complex .f64 a0_8.1 a0_8.2,.complex .f64 a0_9.1 a0_9.2,.complex .f64 a0_10.1 a0_10.2,.slice A0_11 l0_11.length c0_11,.slice A0_12 l0_12.length c0_12] 38 ?_;intro gb144 hg w45 hbox hb;have BK144:=Mk (hbox);have GW144:=Mk ((gS:w.heap.size≤gb144));have GE144:=Mk ((gS:w.heap.size≤gb144));replace HB:=Mk (below_step bB hb);clear hb hbox hg;obtain ⟨_,_,_,_,_,_,_,_,_,_,_,_,_,_,_,_,_,_,_,_,_,_,_,_,_,_⟩:=z13 BK144)|(go_at_call 72;(with_reducible refine (req_none.calls k a0_3 a0_4 a0_5 a0_6 a0_7 a0_8 a0_9 a0_10 _ _ l0_11 false _ ?side1 ?side2 A34.out).mono ?_);(case side1=>exact cU (Kd.C_below HR0_11.out HB.out));(case side2=>exact HC0_11.out);rintro e w47 ⟨rfl,hb⟩;replace BK144:=bkb BK144 hb;replace HB:=Mk (below_step bB hb);clear hb))
      go_ret
      exact ⟨eW,bB⟩
    ·rw [if_neg c33] at H
     have c33b0:=beq_eq_false_iff_ne.mpr c33;have c33b1:=bne_iff_ne.mpr c33;have c33b2:¬ (l0_2=[]):=fun h_=>c33 (by rw [h_];rfl)
     obtain rfl:=Option.some.inj H;go_enter Tryz.func43,Tryz.ntmps43
     go_wp2_with (first|((with_reducible refine gate_dst (N:=1) rfl ?_);(try (refine gate_guard (by rfl) ?_;dsimp only));refine boxE 1 #[.int .i64 a0_0,.int .i64 a0_1,.slice A0_2 l0_2.length c0_2,.int .i64 a0_3,.int .i64 a0_4,.int .i64 a0_5,.int .i64 a0_6,.string a0_7,.complex .f64 a0_8.1 a0_8.2,.complex .f64 a0_9.1 a0_9.2,.complex .f64 a0_10.1 a0_10.2,.slice A0_11 l0_11.length c0_11,.slice A0_12 l0_12.length c0_12] 38 ?_;intro gb144 hg w48 hbox hb;have BK144:=Mk (hbox);have GW144:=Mk ((gS:w.heap.size≤gb144));have GE144:=Mk ((gS:w.heap.size≤gb144));replace HB:=Mk (below_step bB hb);clear hb hbox hg;obtain ⟨_,_,_,_,_,_,_,_,_,_,_,_,_,_,_,_,_,_,_,_,_,_,_,_,_,_⟩:=z13 BK144))
     go_ret
     exact ⟨eW,bB⟩
  ·rw [if_neg c26] at H
   have c26b0:=beq_eq_false_iff_ne.mpr c26;have c26b1:=bne_iff_ne.mpr c26;by_cases c50:a0_1=0
   ·rw [if_pos c50] at H
    have c50b0:=beq_iff_eq.mpr c50;have c50b1:=bne_eq_false_iff_eq.mpr c50;clear c50;by_cases c51:a0_0=1
    ·rw [if_pos c51] at H
     have c51b0:=beq_iff_eq.mpr c51;have c51b1:=bne_eq_false_iff_eq.mpr c51;clear c51;by_cases c52:a0_0=4
     ·rw [if_pos c52] at H
      have c52b0:=beq_iff_eq.mpr c52;have c52b1:=bne_eq_false_iff_eq.mpr c52;clear c52;obtain rfl:=Option.some.inj H;go_enter Tryz.func43,Tryz.ntmps43
      go_wp2_with (first|((with_reducible refine gate_dst (N:=1) rfl ?_);(try (refine gate_guard (by rfl) ?_;dsimp only));refine boxE 1 #[.int .i64 a0_0,.int .i64 a0_1,.slice A0_2 l0_2.length c0_2,.int .i64 a0_3,.int .i64 a0_4,.int .i64 a0_5,.int .i64 a0_6,.string a0_7,.complex .f64 a0_8.1 a0_8.2,.complex .f64 a0_9.1 a0_9.2,.complex .f64 a0_10.1 a0_10.2,.slice A0_11 l0_11.length c0_11,.slice A0_12 l0_12.length c0_12] 38 ?_;intro gb144 hg w53 hbox hb;have BK144:=Mk (hbox);have GW144:=Mk ((gS:w.heap.size≤gb144));have GE144:=Mk ((gS:w.heap.size≤gb144));replace HB:=Mk (below_step bB hb);clear hb hbox hg;obtain ⟨_,_,_,_,_,_,_,_,_,_,_,_,_,_,_,_,_,_,_,_,_,_,_,_,_,_⟩:=z13 BK144))
      go_ret
      exact ⟨eW,bB⟩
     ·rw [if_neg c52] at H
      have c52b0:=beq_eq_false_iff_ne.mpr c52;have c52b1:=bne_iff_ne.mpr c52;obtain rfl:=Option.some.inj H;go_enter Tryz.func43,Tryz.ntmps43
      go_wp2_with (first|((with_reducible refine gate_dst (N:=1) rfl ?_);(try (refine gate_guard (by rfl) ?_;dsimp only));refine boxE 1 #[.int .i64 a0_0,.int .i64 a0_1,.slice A0_2 l0_2.length c0_2,.int .i64 a0_3,.int .i64 a0_4,.int .i64 a0_5,.int .i64 a0_6,.string a0_7,.complex .f64 a0_8.1 a0_8.2,.complex .f64 a0_9.1 a0_9.2,.complex .f64 a0_10.1 a0_10.2,.slice A0_11 l0_11.length c0_11,.slice A0_12 l0_12.length c0_12] 38 ?_;intro gb144 hg w55 hbox hb;have BK144:=Mk (hbox);have GW144:=Mk ((gS:w.heap.size≤gb144));have GE144:=Mk ((gS:w.heap.size≤gb144));replace HB:=Mk (below_step bB hb);clear hb hbox hg;obtain ⟨_,_,_,_,_,_,_,_,_,_,_,_,_,_,_,_,_,_,_,_,_,_,_,_,_,_⟩:=z13 BK144))
      go_ret
      exact ⟨eW,bB⟩
    ·rw [if_neg c51] at H
     have c51b0:=beq_eq_false_iff_ne.mpr c51;have c51b1:=bne_iff_ne.mpr c51;by_cases c57:(l0_2.length:Int)=0
     ·rw [if_pos c57] at H
      have c57b0:=beq_iff_eq.mpr c57;have c57b1:=bne_eq_false_iff_eq.mpr c57;clear c57;replace H:=Option.bind_eq_some_iff.mp H;obtain ⟨t147,A580,H⟩:=H;try dsimp only at H
      have A58:=Mk A580;clear A580;by_cases c59:t147=true
      ·subst c59
       rw [if_pos rfl] at H;try dsimp only at H
       by_cases c60:a0_0=4
       ·rw [if_pos c60] at H
        have c60b0:=beq_iff_eq.mpr c60;have c60b1:=bne_eq_false_iff_eq.mpr c60;clear c60;obtain rfl:=Option.some.inj H;go_enter Tryz.func43,Tryz.ntmps43
        go_wp2_with (first|((with_reducible refine gate_dst (N:=1) rfl ?_);(try (refine gate_guard (by rfl) ?_;dsimp only));refine boxE 1 #[.int .i64 a0_0,.int .i64 a0_1,.slice A0_2 l0_2.length c0_2,.int .i64 a0_3,.int .i64 a0_4,.int .i64 a0_5,.int .i64 a0_6,.string a0_7,.complex .f64 a0_8.1 a0_8.2,.complex .f64 a0_9.1 a0_9.2,.complex .f64 a0_10.1 a0_10.2,.slice A0_11 l0_11.length c0_11,.slice A0_12 l0_12.length c0_12] 38 ?_;intro gb144 hg w61 hbox hb;have BK144:=Mk (hbox);have GW144:=Mk ((gS:w.heap.size≤gb144));have GE144:=Mk ((gS:w.heap.size≤gb144));replace HB:=Mk (below_step bB hb);clear hb hbox hg;obtain ⟨_,_,_,_,_,_,_,_,_,_,_,_,_,_,_,_,_,_,_,_,_,_,_,_,_,_⟩:=z13 BK144)|(go_at_call 72;(with_reducible refine (req_none.calls k a0_3 a0_4 a0_5 a0_6 a0_7 a0_8 a0_9 a0_10 _ _ l0_11 true _ ?side1 ?side2 A58.out).mono ?_);(case side1=>exact cU (Kd.C_below HR0_11.out HB.out));(case side2=>exact HC0_11.out);rintro e w63 ⟨rfl,hb⟩;replace BK144:=bkb BK144 hb;replace HB:=Mk (below_step bB hb);clear hb;obtain ⟨_,_,_,_,_,_,_,_,_,_,_,_,_,_,_,_,_,_,_,_,_,_,_,_,_,_⟩:=z13 BK144))
        go_ret
        exact ⟨eW,bB⟩
       ·rw [if_neg c60] at H
        have c60b0:=beq_eq_false_iff_ne.mpr c60;have c60b1:=bne_iff_ne.mpr c60;obtain rfl:=Option.some.inj H;go_enter Tryz.func43,Tryz.ntmps43
        go_wp2_with (first|((with_reducible refine gate_dst (N:=1) rfl ?_);(try (refine gate_guard (by rfl) ?_;dsimp only));refine boxE 1 #[.int .i64 a0_0,.int .i64 a0_1,.slice A0_2 l0_2.length c0_2,.int .i64 a0_3,.int .i64 a0_4,.int .i64 a0_5,.int .i64 a0_6,.string a0_7,.complex .f64 a0_8.1 a0_8.2,.complex .f64 a0_9.1 a0_9.2,.complex .f64 a0_10.1 a0_10.2,.slice A0_11 l0_11.length c0_11,.slice A0_12 l0_12.length c0_12] 38 ?_;intro gb144 hg w65 hbox hb;have BK144:=Mk (hbox);have GW144:=Mk ((gS:w.heap.size≤gb144));have GE144:=Mk ((gS:w.heap.size≤gb144));replace HB:=Mk (below_step bB hb);clear hb hbox hg;obtain ⟨_,_,_,_,_,_,_,_,_,_,_,_,_,_,_,_,_,_,_,_,_,_,_,_,_,_⟩:=z13 BK144)|(go_at_call 72;(with_reducible refine (req_none.calls k a0_3 a0_4 a0_5 a0_6 a0_7 a0_8 a0_9 a0_10 _ _ l0_11 true _ ?side1 ?side2 A58.out).mono ?_);(case side1=>exact cU (Kd.C_below HR0_11.out HB.out));(case side2=>exact HC0_11.out);rintro e w67 ⟨rfl,hb⟩;replace BK144:=bkb BK144 hb;replace HB:=Mk (below_step bB hb);clear hb;obtain ⟨_,_,_,_,_,_,_,_,_,_,_,_,_,_,_,_,_,_,_,_,_,_,_,_,_,_⟩:=z13 BK144))
        go_ret
        exact ⟨eW,bB⟩
      ·replace c59:=Bool.eq_false_iff.mpr c59
       subst c59;rw [if_neg (show ¬ (false=true) by decide)] at H;try dsimp only at H
       obtain rfl:=Option.some.inj H;go_enter Tryz.func43,Tryz.ntmps43
       go_wp2_with (first|((with_reducible refine gate_dst (N:=1) rfl ?_);(try (refine gate_guard (by rfl) ?_;dsimp only));refine boxE 1 #[.int .i64 a0_0,.int .i64 a0_1,.slice A0_2 l0_2.length c0_2,.int .i64 a0_3,.int .i64 a0_4,.int .i64 a0_5,.int .i64 a0_6,.string a0_7,.complex .f64 a0_8.1 a0_8.2,.complex .f64 a0_9.1 a0_9.2,.complex .f64 a0_10.1 a0_10.2,.slice A0_11 l0_11.length c0_11,.slice A0_12 l0_12.length c0_12] 38 ?_;intro gb144 hg w69 hbox hb;have BK144:=Mk (hbox);have GW144:=Mk ((gS:w.heap.size≤gb144));have GE144:=Mk ((gS:w.heap.size≤gb144));replace HB:=Mk (below_step bB hb);clear hb hbox hg;obtain ⟨_,_,_,_,_,_,_,_,_,_,_,_,_,_,_,_,_,_,_,_,_,_,_,_,_,_⟩:=z13 BK144)|(go_at_call 72;(with_reducible refine (req_none.calls k a0_3 a0_4 a0_5 a0_6 a0_7 a0_8 a0_9 a0_10 _ _ l0_11 false _ ?side1 ?side2 A58.out).mono ?_);(case side1=>exact cU (Kd.C_below HR0_11.out HB.out));(case side2=>exact HC0_11.out);rintro e w71 ⟨rfl,hb⟩;replace BK144:=bkb BK144 hb;replace HB:=Mk (below_step bB hb);clear hb))
       go_ret
       exact ⟨eW,bB⟩
     ·rw [if_neg c57] at H
      have c57b0:=beq_eq_false_iff_ne.mpr c57;have c57b1:=bne_iff_ne.mpr c57;have c57b2:¬ (l0_2=[]):=fun h_=>c57 (by rw [h_];rfl)
      obtain rfl:=Option.some.inj H;go_enter Tryz.func43,Tryz.ntmps43
      go_wp2_with (first|((with_reducible refine gate_dst (N:=1) rfl ?_);(try (refine gate_guard (by rfl) ?_;dsimp only));refine boxE 1 #[.int .i64 a0_0,.int .i64 a0_1,.slice A0_2 l0_2.length c0_2,.int .i64 a0_3,.int .i64 a0_4,.int .i64 a0_5,.int .i64 a0_6,.string a0_7,.complex .f64 a0_8.1 a0_8.2,.complex .f64 a0_9.1 a0_9.2,.complex .f64 a0_10.1 a0_10.2,.slice A0_11 l0_11.length c0_11,.slice A0_12 l0_12.length c0_12] 38 ?_;intro gb144 hg w72 hbox hb;have BK144:=Mk (hbox);have GW144:=Mk ((gS:w.heap.size≤gb144));have GE144:=Mk ((gS:w.heap.size≤gb144));replace HB:=Mk (below_step bB hb);clear hb hbox hg;obtain ⟨_,_,_,_,_,_,_,_,_,_,_,_,_,_,_,_,_,_,_,_,_,_,_,_,_,_⟩:=z13 BK144))
      go_ret
      exact ⟨eW,bB⟩
   ·rw [if_neg c50] at H
    have c50b0:=beq_eq_false_iff_ne.mpr c50;have c50b1:=bne_iff_ne.mpr c50;obtain rfl:=Option.some.inj H;go_enter Tryz.func43,Tryz.ntmps43
    go_wp2_with (first|((with_reducible refine gate_dst (N:=1) rfl ?_);(try (refine gate_guard (by rfl) ?_;dsimp only));refine boxE 1 #[.int .i64 a0_0,.int .i64 a0_1,.slice A0_2 l0_2.length c0_2,.int .i64 a0_3,.int .i64 a0_4,.int .i64 a0_5,.int .i64 a0_6,.string a0_7,.complex .f64 a0_8.1 a0_8.2,.complex .f64 a0_9.1 a0_9.2,.complex .f64 a0_10.1 a0_10.2,.slice A0_11 l0_11.length c0_11,.slice A0_12 l0_12.length c0_12] 38 ?_;intro gb144 hg w74 hbox hb;have BK144:=Mk (hbox);have GW144:=Mk ((gS:w.heap.size≤gb144));have GE144:=Mk ((gS:w.heap.size≤gb144));replace HB:=Mk (below_step bB hb);clear hb hbox hg;obtain ⟨_,_,_,_,_,_,_,_,_,_,_,_,_,_,_,_,_,_,_,_,_,_,_,_,_,_⟩:=z13 BK144))
    go_ret
    exact ⟨eW,bB⟩
def req_check_1.f (l0:List (S25)):Option (Bool):=some ((l0.length:Int) == 0)
set_option maxHeartbeats 8000000 in
set_option maxRecDepth 100000 in
theorem req_check_1.calls (A0:Option Addr) (c0:Nat) (l0:List (S25)) (r:Bool) (w:World) (hr0:Kd.C k25 w A0 l0.length l0) (hc0:l0.length≤c0) (h:req_check_1.f l0=some r):
  Calls Tryz.prog 45 #[.slice A0 l0.length c0] w fun e w'=>e = .returned (.bool r)∧Drawn0 w w':=by
 have HR0:=Mk hr0;have HC0:=Mk hc0;clear hr0 hc0;have H:(some ((l0.length:Int) == 0))=some r:=h;clear h;obtain rfl:=Option.some.inj H;go_enter Tryz.func45,Tryz.ntmps45
 go_wp2
 go_ret
 exact ⟨by first|rfl|(simp;done)|(simp [*];done),by repeat (first|exact Drawn0.refl _|apply Drawn0.step)⟩
def val_Val_73.l0:Nat→List (List (S25))→Int→Int→Option (Int)
 | 0,_,_,_=>none
 |k+1,x0,x7,x8=>if x8 < x7 then (if 0≤x8 then (if x8 < (x0.length:Int) then ((req_check_1.f (rd_L11 x0 x8)).bind fun t149=>(if t149=true then (some x8) else (val_Val_73.l0 k x0 x7 (wrap64 (x8+1))))) else (none)) else (none)) else (some (-1))
def val_Val_73.f (k:Nat) (l0:List (List (S25))):Option (Int):=val_Val_73.l0 k l0 (l0.length:Int) 0
set_option maxHeartbeats 8000000 in
set_option maxRecDepth 100000 in
theorem val_Val_73.calls (k:Nat) (A0:Option Addr) (c0:Nat) (l0:List (List (S25))) (r:Int) (w:World) (hr0:Kd.C (Kd.slice 25 k25) w A0 l0.length l0) (hc0:l0.length≤c0) (h:val_Val_73.f k l0=some r):
  Calls Tryz.prog 73 #[.slice A0 l0.length c0,.func (.func 45) #[] #[]] w fun e w'=>e = .returned (.int .i64 r)∧Drawn0 w w':=by
 have HR0:=Mk hr0;have HC0:=Mk hc0;clear hr0 hc0;have H:(val_Val_73.l0 k l0 (l0.length:Int) 0)=some r:=h;clear h;have H':=Mk H;clear H;go_enter Tryz.func73,Tryz.ntmps73
 go_wp2
 go_loopg [8] k (fun kq v8 w'=>∃ (x8_1:Int),v8 = .int .i64 x8_1∧Aside0 (val_Val_73.l0 kq l0 (l0.length:Int) x8_1=some r)∧Aside0 (kq≤k)∧Drawn0 w w')
 case atStart=>exact ⟨(0),sS,H',⟨Nat.le_refl _⟩,by repeat (first|exact Drawn0.refl _|apply Drawn0.step)⟩
 case round=>
  clear H';obtain ⟨x8_1,rfl,HA,HK1,⟨m1,rfl⟩⟩:=hrel
  cases gk with
  |zero=>exact absurd HA.out (by simp [val_Val_73.l0])
  |succ k1=>
   have H:=HA.out;clear HA;simp only [val_Val_73.l0] at H;by_cases c2:x8_1 < (l0.length:Int)
   ·rw [if_pos c2] at H
    have c2b0:=decide_eq_true c2;clear c2;by_cases c3:0≤x8_1
    ·rw [if_pos c3] at H
     have c3b0:=decide_eq_true c3;clear c3;by_cases c4:x8_1 < (l0.length:Int)
     ·rw [if_pos c4] at H
      have c4b0:=decide_eq_true c4;clear c4;replace H:=Option.bind_eq_some_iff.mp H;obtain ⟨t149,A50,H⟩:=H;try dsimp only at H
      have A5:=Mk A50;clear A50;by_cases c6:t149=true
      ·subst c6
       rw [if_pos rfl] at H;try dsimp only at H
       obtain rfl:=Option.some.inj H;have p148:0≤(x8_1:Int):=of_decide_eq_true aS;have q148:x8_1 < (l0.length:Int):=of_decide_eq_true aS;obtain ⟨ad148,A148_0,c148_0,e148,hx148_0,hl148_0,hi148_0⟩:=at_L11 HR0.out x8_1 p148 q148;cases e148
       have HR148_0:=Mk hi148_0;have HC148_0:=Mk hl148_0;clear hi148_0 hl148_0;replace p148:=eq_true p148;replace q148:=eq_true q148
       go_wp2_with (first|(go_at_call 45;(with_reducible refine (req_check_1.calls _ _ (rd_L11 l0 x8_1) true _ ?side1 ?side2 A5.out).mono ?_);(case side1=>exact cU HR148_0.out);(case side2=>exact HC148_0.out);rintro e w' ⟨rfl,⟨nd,rfl⟩⟩))
       go_ret
       exact ⟨by first|rfl|(simp;done)|(simp [*];done),by repeat (first|exact Drawn0.refl _|apply Drawn0.step)⟩
      ·replace c6:=Bool.eq_false_iff.mpr c6
       subst c6;rw [if_neg (show ¬ (false=true) by decide)] at H;try dsimp only at H
       have H':=Mk H;clear H;have p148:0≤(x8_1:Int):=of_decide_eq_true aS;have q148:x8_1 < (l0.length:Int):=of_decide_eq_true aS;obtain ⟨ad148,A148_0,c148_0,e148,hx148_0,hl148_0,hi148_0⟩:=at_L11 HR0.out x8_1 p148 q148;cases e148
       have HR148_0:=Mk hi148_0;have HC148_0:=Mk hl148_0;clear hi148_0 hl148_0;replace p148:=eq_true p148;replace q148:=eq_true q148
       go_wp2_with (first|(go_at_call 45;(with_reducible refine (req_check_1.calls _ _ (rd_L11 l0 x8_1) false _ ?side1 ?side2 A5.out).mono ?_);(case side1=>exact cU HR148_0.out);(case side2=>exact HC148_0.out);rintro e w' ⟨rfl,⟨nd,rfl⟩⟩))
       go_roundg k1
       case measure=>have:=HK1.out;omega
       case rel=>exact ⟨(wrap64 (x8_1+1)),sS,H',⟨by have:=HK1.out;omega⟩,by repeat (first|exact Drawn0.refl _|apply Drawn0.step)⟩
     ·rw [if_neg c4] at H
      exact absurd H (by simp)
    ·rw [if_neg c3] at H
     exact absurd H (by simp)
   ·rw [if_neg c2] at H
    have c2b0:=decide_eq_false c2;clear c2;obtain rfl:=Option.some.inj H
    go_wp2
    go_ret
    exact ⟨by first|rfl|(simp;done)|(simp [*];done),by repeat (first|exact Drawn0.refl _|apply Drawn0.step)⟩
def val_Val_44.f (k:Nat) (l0:List (List (S25))):Option (Bool):=(val_Val_73.f k l0).bind fun t150=>(some (decide (t150 ≥ 0)))
set_option maxHeartbeats 8000000 in
set_option maxRecDepth 100000 in
theorem val_Val_44.calls (k:Nat) (A0:Option Addr) (c0:Nat) (l0:List (List (S25))) (r:Bool) (w:World) (hr0:Kd.C (Kd.slice 25 k25) w A0 l0.length l0) (hc0:l0.length≤c0) (h:val_Val_44.f k l0=some r):
  Calls Tryz.prog 44 #[.slice A0 l0.length c0,.func (.func 45) #[] #[]] w fun e w'=>e = .returned (.bool r)∧Drawn0 w w':=by
 have HR0:=Mk hr0;have HC0:=Mk hc0;clear hr0 hc0;have H:((val_Val_73.f k l0).bind fun t150=>(some (decide (t150 ≥ 0))))=some r:=h;clear h;replace H:=Option.bind_eq_some_iff.mp H;obtain ⟨t150,A20,H⟩:=H;try dsimp only at H
 have A2:=Mk A20;clear A20;obtain rfl:=Option.some.inj H;go_enter Tryz.func44,Tryz.ntmps44
 go_wp2_with (first|(go_at_call 73;(with_reducible refine (val_Val_73.calls k _ _ l0 t150 _ ?side1 ?side2 A2.out).mono ?_);(case side1=>exact cU HR0.out);(case side2=>exact HC0.out);rintro e w' ⟨rfl,⟨nd,rfl⟩⟩))
 go_ret
 exact ⟨by first|rfl|(simp;done)|(simp [*];done),by repeat (first|exact Drawn0.refl _|apply Drawn0.step)⟩
def strings_Trim.f (a0:ByteArray) (a1:ByteArray):Option ByteArray:=
 if a0.size≤9223372036854775807∧a1.size < 4294967281∧(a1.data.toList.all fun b=>decide (b.toNat < 128))=true then some ⟨(Lib.trimS a0.data.toList a1.data.toList).toArray⟩ else none
theorem strings_Trim.calls (a0:ByteArray) (a1:ByteArray) (r:ByteArray) (w:World) (h:strings_Trim.f a0 a1=some r):
  Calls Tryz.prog 68 #[.string a0,.string a1] w fun e w'=>e = .returned (.string r)∧Below w.heap.size w w':=by
 unfold strings_Trim.f at h
 split at h
 ·rename_i c
  obtain rfl:=Option.some.inj h;exact Any.strings_Trim_laid Tryz.lays160 kR a0 a1 w c.1 c.2.1 (ascii_of_all c.2.2)
 ·cases h
def req_named.f (a0:ByteArray):Option (Bool):=if (a0.size:Int) ≥ 1 then (if (a0.size:Int)≤8 then ((strings_Trim.f a0 (⟨#[97,98,99,100,101,102,103,104,105,106,107,108,109,110,111,112,113,114,115,116,117,118,119,120,121,122]⟩:ByteArray)).bind fun t151=>(some t151.toList.isEmpty)) else (some false)) else (some false)
set_option maxHeartbeats 8000000 in
set_option maxRecDepth 100000 in
theorem req_named.calls (a0:ByteArray) (r:Bool) (w:World) (h:req_named.f a0=some r):
  Calls Tryz.prog 48 #[.string a0] w fun e w'=>e = .returned (.bool r)∧Below w.heap.size w w':=by
 have HB:=Mk (Below.refl w.heap.size w);have H:(if (a0.size:Int) ≥ 1 then (if (a0.size:Int)≤8 then ((strings_Trim.f a0 (⟨#[97,98,99,100,101,102,103,104,105,106,107,108,109,110,111,112,113,114,115,116,117,118,119,120,121,122]⟩:ByteArray)).bind fun t151=>(some t151.toList.isEmpty)) else (some false)) else (some false))=some r:=h;clear h;by_cases c2:(a0.size:Int) ≥ 1
 ·rw [if_pos c2] at H
  have c2b0:=decide_eq_true c2;have c2b1:decide (1≤a0.size)=true:=decide_eq_true (by omega);clear c2;by_cases c3:(a0.size:Int)≤8
  ·rw [if_pos c3] at H
   have c3b0:=decide_eq_true c3;have c3b1:decide (a0.size≤8)=true:=decide_eq_true (by omega);clear c3;replace H:=Option.bind_eq_some_iff.mp H;obtain ⟨t151,A40,H⟩:=H;try dsimp only at H
   have A4:=Mk A40;clear A40;obtain rfl:=Option.some.inj H;go_enter Tryz.func48,Tryz.ntmps48
   go_wp2_with (first|(go_at_call 68;(with_reducible refine (strings_Trim.calls a0 (⟨#[97,98,99,100,101,102,103,104,105,106,107,108,109,110,111,112,113,114,115,116,117,118,119,120,121,122]⟩:ByteArray) t151 _ A4.out).mono ?_);rintro e w5 ⟨rfl,hb⟩;replace HB:=Mk (below_step bB hb);clear hb))
   go_ret
   exact ⟨eW,bB⟩
  ·rw [if_neg c3] at H
   have c3b0:=decide_eq_false c3;have c3b1:decide (a0.size≤8)=false:=decide_eq_false (by omega);clear c3;obtain rfl:=Option.some.inj H;go_enter Tryz.func48,Tryz.ntmps48
   go_wp2
   go_ret
   exact ⟨eW,bB⟩
 ·rw [if_neg c2] at H
  have c2b0:=decide_eq_false c2;have c2b1:decide (1≤a0.size)=false:=decide_eq_false (by omega);clear c2;obtain rfl:=Option.some.inj H;go_enter Tryz.func48,Tryz.ntmps48
  go_wp2
  go_ret
  exact ⟨eW,bB⟩
def req_check_2.f (a0:ByteArray):Option (Bool):=(req_named.f a0).bind fun t152=>(some (!t152))
set_option maxHeartbeats 8000000 in
set_option maxRecDepth 100000 in
theorem req_check_2.calls (a0:ByteArray) (r:Bool) (w:World) (h:req_check_2.f a0=some r):
  Calls Tryz.prog 47 #[.string a0] w fun e w'=>e = .returned (.bool r)∧Below w.heap.size w w':=by
 have HB:=Mk (Below.refl w.heap.size w);have H:((req_named.f a0).bind fun t152=>(some (!t152)))=some r:=h;clear h;replace H:=Option.bind_eq_some_iff.mp H;obtain ⟨t152,A20,H⟩:=H;try dsimp only at H
 have A2:=Mk A20;clear A20;obtain rfl:=Option.some.inj H;go_enter Tryz.func47,Tryz.ntmps47
 go_wp2_with (first|((with_reducible refine gate_callee (f:=48) rfl ?_);refine goesL_ (some 4) rfl rfl Tryz.func48 kR rfl #[.string a0] rfl mA ?_;(with_reducible refine (req_named.calls a0 t152 _ A2.out).mono ?_);rintro e w3 ⟨rfl,hb⟩;refine ⟨_,rfl,?_⟩;replace HB:=Mk (below_step bB hb);clear hb))
 go_ret
 exact ⟨eW,bB⟩
def slices_IndexFunc_string_string.l0:Nat→List ByteArray→Int→Int→Option (Int)
 | 0,_,_,_=>none
 |k+1,x0,x7,x8=>if x8 < x7 then (if 0≤x8 then (if x8 < (x0.length:Int) then ((req_check_2.f (rdOf ByteArray.empty x0 x8)).bind fun t154=>(if t154=true then (some x8) else (slices_IndexFunc_string_string.l0 k x0 x7 (wrap64 (x8+1))))) else (none)) else (none)) else (some (-1))
def slices_IndexFunc_string_string.f (k:Nat) (l0:List ByteArray):Option (Int):=slices_IndexFunc_string_string.l0 k l0 (l0.length:Int) 0
set_option maxHeartbeats 8000000 in
set_option maxRecDepth 100000 in
theorem slices_IndexFunc_string_string.calls (k:Nat) (A0:Option Addr) (c0:Nat) (l0:List ByteArray) (r:Int) (w:World) (hr0:Kd.C Kd.string w A0 l0.length l0) (hc0:l0.length≤c0) (h:slices_IndexFunc_string_string.f k l0=some r):
  Calls Tryz.prog 74 #[.slice A0 l0.length c0,.func (.func 47) #[] #[]] w fun e w'=>e = .returned (.int .i64 r)∧Below w.heap.size w w':=by
 have HR0:=Mk hr0;have HC0:=Mk hc0;clear hr0 hc0;have HB:=Mk (Below.refl w.heap.size w);have H:(slices_IndexFunc_string_string.l0 k l0 (l0.length:Int) 0)=some r:=h;clear h;have H':=Mk H;clear H;go_enter Tryz.func74,Tryz.ntmps74
 go_wp2
 go_loopg [8] k (fun kq v8 w'=>∃ (x8_1:Int),v8 = .int .i64 x8_1∧Aside0 (slices_IndexFunc_string_string.l0 kq l0 (l0.length:Int) x8_1=some r)∧Aside0 (kq≤k)∧Aside0 (Below w.heap.size w w'))
 case atStart=>exact ⟨(0),sS,H',⟨Nat.le_refl _⟩,⟨bB⟩⟩
 case round=>
  clear H';obtain ⟨x8_1,rfl,HA,HK1,HB⟩:=hrel
  cases gk with
  |zero=>exact absurd HA.out (by simp [slices_IndexFunc_string_string.l0])
  |succ k1=>
   have H:=HA.out;clear HA;simp only [slices_IndexFunc_string_string.l0] at H;by_cases c2:x8_1 < (l0.length:Int)
   ·rw [if_pos c2] at H
    have c2b0:=decide_eq_true c2;clear c2;by_cases c3:0≤x8_1
    ·rw [if_pos c3] at H
     have c3b0:=decide_eq_true c3;clear c3;by_cases c4:x8_1 < (l0.length:Int)
     ·rw [if_pos c4] at H
      have c4b0:=decide_eq_true c4;clear c4;replace H:=Option.bind_eq_some_iff.mp H;obtain ⟨t154,A50,H⟩:=H;try dsimp only at H
      have A5:=Mk A50;clear A50;by_cases c6:t154=true
      ·subst c6
       rw [if_pos rfl] at H;try dsimp only at H
       obtain rfl:=Option.some.inj H;have p153:0≤(x8_1:Int):=of_decide_eq_true aS;have q153:x8_1 < (l0.length:Int):=of_decide_eq_true aS;obtain ⟨ad153,e153,hx153_0⟩:=Kd.at_string HR0.out x8_1 p153 q153;cases e153
       replace hx153_0:=(HB.out.cell (World.block_lt_of_cell? w _ hx153_0)).trans hx153_0;replace p153:=eq_true p153;replace q153:=eq_true q153
       go_wp2_with (first|(go_at_call 47;(with_reducible refine (req_check_2.calls (rdOf ByteArray.empty l0 x8_1) true _ A5.out).mono ?_);rintro e w7 ⟨rfl,hb⟩;replace HB:=Mk (below_step bB hb);clear hb))
       go_ret
       exact ⟨eW,bB⟩
      ·replace c6:=Bool.eq_false_iff.mpr c6
       subst c6;rw [if_neg (show ¬ (false=true) by decide)] at H;try dsimp only at H
       have H':=Mk H;clear H;have p153:0≤(x8_1:Int):=of_decide_eq_true aS;have q153:x8_1 < (l0.length:Int):=of_decide_eq_true aS;obtain ⟨ad153,e153,hx153_0⟩:=Kd.at_string HR0.out x8_1 p153 q153;cases e153
       replace hx153_0:=(HB.out.cell (World.block_lt_of_cell? w _ hx153_0)).trans hx153_0;replace p153:=eq_true p153;replace q153:=eq_true q153
       go_wp2_with (first|(go_at_call 47;(with_reducible refine (req_check_2.calls (rdOf ByteArray.empty l0 x8_1) false _ A5.out).mono ?_);rintro e w8 ⟨rfl,hb⟩;replace HB:=Mk (below_step bB hb);clear hb))
       go_roundg k1
       case measure=>have:=HK1.out;omega
       case rel=>exact ⟨(wrap64 (x8_1+1)),sS,H',⟨by have:=HK1.out;omega⟩,⟨bB⟩⟩
     ·rw [if_neg c4] at H
      exact absurd H (by simp)
    ·rw [if_neg c3] at H
     exact absurd H (by simp)
   ·rw [if_neg c2] at H
    have c2b0:=decide_eq_false c2;clear c2;obtain rfl:=Option.some.inj H
    go_wp2
    go_ret
    exact ⟨eW,bB⟩
def slices_ContainsFunc_string_string.f (k:Nat) (l0:List ByteArray):Option (Bool):=(slices_IndexFunc_string_string.f k l0).bind fun t155=>(some (decide (t155 ≥ 0)))
set_option maxHeartbeats 8000000 in
set_option maxRecDepth 100000 in
theorem slices_ContainsFunc_string_string.calls (k:Nat) (A0:Option Addr) (c0:Nat) (l0:List ByteArray) (r:Bool) (w:World) (hr0:Kd.C Kd.string w A0 l0.length l0) (hc0:l0.length≤c0) (h:slices_ContainsFunc_string_string.f k l0=some r):
  Calls Tryz.prog 46 #[.slice A0 l0.length c0,.func (.func 47) #[] #[]] w fun e w'=>e = .returned (.bool r)∧Below w.heap.size w w':=by
 have HR0:=Mk hr0;have HC0:=Mk hc0;clear hr0 hc0;have HB:=Mk (Below.refl w.heap.size w);have H:((slices_IndexFunc_string_string.f k l0).bind fun t155=>(some (decide (t155 ≥ 0))))=some r:=h;clear h;replace H:=Option.bind_eq_some_iff.mp H;obtain ⟨t155,A20,H⟩:=H;try dsimp only at H
 have A2:=Mk A20;clear A20;obtain rfl:=Option.some.inj H;go_enter Tryz.func46,Tryz.ntmps46
 go_wp2_with (first|((with_reducible refine gate_callee (f:=74) rfl ?_);refine goesL_ (some 7) rfl rfl Tryz.func74 kR rfl #[.slice A0 l0.length c0,.func (.func 47) #[] #[]] rfl mA ?_;(with_reducible refine (slices_IndexFunc_string_string.calls k _ _ l0 t155 _ ?side1 ?side2 A2.out).mono ?_);(case side1=>exact cU HR0.out);(case side2=>exact HC0.out);rintro e w3 ⟨rfl,hb⟩;refine ⟨_,rfl,?_⟩;replace HB:=Mk (below_step bB hb);clear hb))
 go_ret
 exact ⟨eW,bB⟩
end Go.Proofs.YtcpjlbdjnaaaiaaGreatDoor.PAll
