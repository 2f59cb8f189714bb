import Derived.Test.YtcpjlbdjnaaaiaaGreatDoorPAllx25
namespace Go.Proofs.YtcpjlbdjnaaaiaaGreatDoor.PAll
open Go.Proofs.YtcpjlbdjnaaaiaaGreatDoor.Help
open Go.RowKit Go.Proofs.YtcpjlbdjnaaaiaaGreatDoorW.PrintWords Go.Proofs.YtcpjlbdjnaaaiaaGreatDoorW.PrintLast Go.Proofs.YtcpjlbdjnaaaiaaGreatDoorW.PrintMore
set_option linter.unusedVariables false
set_option linter.unusedSimpArgs false
def norialaw3_OfRows.l0:Nat→List (List (S25))→List (List (S117))→Int→Option ((List (List (S117))))
 | 0,_,_,_=>none
 |k+1,x0,x3,x4=>if x4 < (x0.length:Int) then (if 0≤x4 then ((norialaw3_OfAll.f k (rd_L11 x0 x4)).bind fun t596=>(if x3.length < 5864062014805 then (norialaw3_OfRows.l0 k x0 (x3++[t596]) (wrap64 (x4+1))) else (none))) else (none)) else (some x3)
def norialaw3_OfRows.f (k:Nat) (l0:List (List (S25))):Option ((List (List (S117)))):=norialaw3_OfRows.l0 k l0 ([]:List (List (S117))) 0
set_option maxHeartbeats 8000000 in
set_option maxRecDepth 100000 in
theorem norialaw3_OfRows.calls (k:Nat) (A0:Option Addr) (c0:Nat) (l0:List (List (S25))) (r:List (List (S117))) (w:World) (hr0:Kd.C (Kd.slice 25 k25) w A0 l0.length l0) (hc0:l0.length≤c0) (h:norialaw3_OfRows.f k l0=some r):
  Calls Tryz.prog 15 #[.slice A0 l0.length c0] w fun e w'=>∃ v0_:Value,e = .returned (v0_)∧Kd.S (Kd.slice 117 k117) 82 w' w.heap.size (fun _=>True) v0_ r∧Below w.heap.size w w':=by
 have HR0:=Mk hr0;have HC0:=Mk hc0;clear hr0 hc0;have HB:=Mk (Below.refl w.heap.size w);have H:(norialaw3_OfRows.l0 k l0 ([]:List (List (S117))) 0)=some r:=h;clear h;have H':=Mk H;clear H;go_enter Tryz.func15,Tryz.ntmps15
 go_wp2
 go_loopg [3,4] k (fun kq v3 v4 w'=>∃ (x3_1:List (List (S117))) (x4_1:Int),v4 = .int .i64 x4_1∧Aside0 (norialaw3_OfRows.l0 kq l0 x3_1 x4_1=some r)∧Aside0 (kq≤k)∧Aside0 (Kd.S (Kd.slice 117 k117) 82 w' w.heap.size (fun _=>True) v3 x3_1)∧Aside0 (Below w.heap.size w w'))
 case atStart=>exact ⟨(([]:List (List (S117)))),(0),sS,H',⟨Nat.le_refl _⟩,⟨by first|exact Kd.S_nil _ _ _ _ _|exact Kd.N_nil _ _ _ _ _|exact Kd.V_nil _ _ _ _ _|exact Kd.Q_nil _ _ _ _ _|exact Kd.R_nil _ _ _ _ _⟩,⟨bB⟩⟩
 case round=>
  clear H';try clear c1
  obtain ⟨x3_1,x4_1,rfl,HA,HK1,HO_3,HB⟩:=hrel
  cases gk with
  |zero=>exact absurd HA.out (by simp [norialaw3_OfRows.l0])
  |succ k1=>
   have H:=HA.out;clear HA;simp only [norialaw3_OfRows.l0] at H;by_cases c2:x4_1 < (l0.length:Int)
   ·rw [if_pos c2] at H
    have c2b0:=decide_eq_true c2;clear c2;by_cases c3:0≤x4_1
    ·rw [if_pos c3] at H
     have c3b0:=decide_eq_true c3;clear c3;replace H:=Option.bind_eq_some_iff.mp H;obtain ⟨t596,A40,H⟩:=H;try dsimp only at H
     have A4:=Mk A40;clear A40;by_cases c5:x3_1.length < 5864062014805
     ·rw [if_pos c5] at H
      have LMc5:=Mk c5;clear c5;obtain ⟨y599,hy599⟩:∃ y_:List (List (S117)),y_=(x3_1++[t596]):=⟨_,rfl⟩;replace H:(norialaw3_OfRows.l0 k1 l0 y599 (wrap64 (x4_1+1)))=some r:=by first|(rw [hy599];with_reducible exact H)|(have H2_:=(Option.bind_some _ _).symm.trans H;rw [hy599];with_reducible exact H2_)|(have H2_:=(Option.bind_some _ _).symm.trans H;with_reducible exact H2_)|with_reducible exact H|(rw [hy599];exact H)|exact H
      have Ny599:=Mk hy599;clear hy599;have H':=Mk H;clear H;have p595:0≤(x4_1:Int):=of_decide_eq_true aS;have q595:x4_1 < (l0.length:Int):=of_decide_eq_true aS;obtain ⟨ad595,A595_0,c595_0,e595,hx595_0,hl595_0,hi595_0⟩:=at_L11 HR0.out x4_1 p595 q595;cases e595
      replace hx595_0:=(HB.out.cell (World.block_lt_of_cell? w _ hx595_0)).trans hx595_0;have HR595_0:=Mk hi595_0;have HC595_0:=Mk hl595_0;clear hi595_0 hl595_0;replace p595:=eq_true p595;replace q595:=eq_true q595
      go_wp2_with (first|((with_reducible refine gate_callee (f:=38) rfl ?_);refine goesL_ (some 16) rfl rfl Tryz.func38 kR rfl #[.slice A595_0 (rd_L11 l0 x4_1).length c595_0] rfl mA ?_;(with_reducible refine (norialaw3_OfAll.calls k1 _ _ (rd_L11 l0 x4_1) t596 _ ?side1 ?side2 A4.out).mono ?_);(case side1=>exact cU (Kd.C_below HR595_0.out HB.out));(case side2=>exact HC595_0.out);rintro e w6 ⟨v597,rfl,ho0,hb⟩;refine ⟨_,rfl,?_⟩;have HO598:=Mk (Kd.R_lower ho0 (below_size bB));replace HO_3:=Mk (Kd.S_elder' (sU HO_3) (Kd.R_base ho0) hb);replace HB:=Mk (below_step bB hb);clear hb ho0;obtain ⟨Ao8,co8,eo8⟩:=Kd.R_slice HO598.out;subst eo8)|((with_reducible refine gate_builtin (b:=.append) (xs:=#[.tmp 11,.tmp 17]) rfl ?_);at_builtin;refine Kd.S_append (Kd.slice 117 k117) (w0:=w) w.heap.size rfl (.tmp 11) (.tmp 17) 51 82 (.slice none 0 0) 24 rfl Tryz.underlying51 info82 rfl (by decide) (by omega) u3 x3_1 t596 [.slice Ao8 t596.length co8] (fun _=>True) (fun k_=>some k_=(.slice Ao8 t596.length co8:Value).ownBlock) rfl rfl ?aP (fun k_ hk_=>((Kd.R_mono (ok':=fun k_=>((fun _=>True)) k_∧some k_≠(u3:Value).ownBlock) (Kd.R_apart' (HO598.out) (Kd.S_typed HO_3.out) (by decide)) (fun k_ hk=>⟨trivial,hk.2⟩))).1 k_ hk_.symm) ?aF ?aO ?aB ?aS ?aL ?_;(case aP=>exact Kd.M_row (Kd.R_mono (Kd.R_tight rfl (Kd.R_mono (ok':=fun k_=>((fun _=>True)) k_∧some k_≠(u3:Value).ownBlock) (Kd.R_apart' (HO598.out) (Kd.S_typed HO_3.out) (by decide)) (fun k_ hk=>⟨trivial,hk.2⟩))) (fun _ h_=>h_)));(case aB=>exact bB);(case aF=>exact (fun _ _=>trivial));(case aO=>exact (by (with_reducible repeat (first|apply Kd.S_alloc|apply Kd.S_drewN|apply Kd.S_drew));exact Kd.S_mono HO_3.out (fun k_ hk=>⟨trivial,fun e_=>hk.2 e_⟩)));(case aS=>exact (below_size bB));(case aL=>have:=LMc5.out;omega);intro v600 w7 ho hb hg hat;rw [← Ny599.out] at ho;have n0_:=Mk (hb);have n1_:=Mk (ho);clear HB;clear HO_3;clear HO598;have HB:=n0_;have HO601:=n1_;clear n0_ n1_;clear ho hb hg hat))
      go_roundg k1
      case measure=>have:=HK1.out;omega
      case rel=>exact ⟨(y599),(wrap64 (x4_1+1)),sS,H',⟨by have:=HK1.out;omega⟩,⟨sU HO601⟩,⟨bB⟩⟩
     ·rw [if_neg c5] at H
      exact absurd H (by simp)
    ·rw [if_neg c3] at H
     exact absurd H (by simp)
   ·rw [if_neg c2] at H
    have c2b0:=decide_eq_false c2;clear c2;obtain rfl:=Option.some.inj H
    go_wp2
    go_ret
    exact ⟨_,eW,by (with_reducible repeat (first|apply Kd.S_alloc|apply Kd.S_drewN|apply Kd.S_drew));exact HO_3.out,bB⟩
end Go.Proofs.YtcpjlbdjnaaaiaaGreatDoor.PAll
