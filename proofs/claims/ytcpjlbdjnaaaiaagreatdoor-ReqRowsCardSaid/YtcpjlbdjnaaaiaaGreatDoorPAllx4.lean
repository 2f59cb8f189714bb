import Derived.Test.YtcpjlbdjnaaaiaaGreatDoorPAllx0
namespace Go.Proofs.YtcpjlbdjnaaaiaaGreatDoor.PAll
open Go.Proofs.YtcpjlbdjnaaaiaaGreatDoor.Help
open Go.RowKit Go.Proofs.YtcpjlbdjnaaaiaaGreatDoorW.PrintWords Go.Proofs.YtcpjlbdjnaaaiaaGreatDoorW.PrintLast Go.Proofs.YtcpjlbdjnaaaiaaGreatDoorW.PrintMore
set_option linter.unusedVariables false
set_option linter.unusedSimpArgs false
def norialaw11_Not.f (a0_0:Int) (a0_1:Int) (a0_2:Int) (a0_3:Int) (a0_4:ByteArray) (a0_5:(Nat×Nat)) (a0_6:(Nat×Nat)) (a0_7:(Nat×Nat)) (l0_8:List (S30)):Option (Int×Int×Int×Int×ByteArray×(Nat×Nat)×(Nat×Nat)×(Nat×Nat)×(List (S30))):=some (11,0,0,0,(⟨#[]⟩:ByteArray),((0,0):Nat×Nat),((0,0):Nat×Nat),((0,0):Nat×Nat),(([(⟨a0_0,a0_1,(⟨a0_2,a0_3,a0_4,a0_5⟩:S25),(⟨a0_6,a0_7⟩:S27),l0_8⟩:S30)]:List (S30))))
set_option maxHeartbeats 8000000 in
set_option maxRecDepth 100000 in
theorem norialaw11_Not.calls (a0_0:Int) (a0_1:Int) (a0_2:Int) (a0_3:Int) (a0_4:ByteArray) (a0_5:(Nat×Nat)) (a0_6:(Nat×Nat)) (a0_7:(Nat×Nat)) (P0_8_:Nat→Prop) (A0_8:Option Addr) (c0_8:Nat) (l0_8:List (S30)) (r1:Int) (r2:Int) (r3:Int) (r4:Int) (r5:ByteArray) (r6:(Nat×Nat)) (r7:(Nat×Nat)) (r8:(Nat×Nat)) (r9:List (S30)) (w:World) (hs0_8:Kd.V k30 30 w w.heap.size (fun k_=>P0_8_ k_) (.slice A0_8 l0_8.length c0_8) l0_8) (h:norialaw11_Not.f a0_0 a0_1 a0_2 a0_3 a0_4 a0_5 a0_6 a0_7 l0_8=some (r1,r2,r3,r4,r5,r6,r7,r8,r9)):
  Calls Tryz.prog 6 #[.agg #[.int .i64 a0_0,.int .i64 a0_1,.int .i64 a0_2,.int .i64 a0_3,.string a0_4,.complex .f64 a0_5.1 a0_5.2,.complex .f64 a0_6.1 a0_6.2,.complex .f64 a0_7.1 a0_7.2,.slice A0_8 l0_8.length c0_8]] w fun e w'=>∃ v8_:Value,e = .returned (.agg #[.int .i64 r1,.int .i64 r2,.int .i64 r3,.int .i64 r4,.string r5,.complex .f64 r6.1 r6.2,.complex .f64 r7.1 r7.2,.complex .f64 r8.1 r8.2,v8_])∧Kd.N k30 30 w' w.heap.size (fun k_=>(P0_8_ k_∨w.heap.size≤k_)) v8_ r9∧Below w.heap.size w w':=by
 have hu30:=Tryz.underlying30;have HO0_8:=Mk (show Kd.V k30 30 w w.heap.size (fun k_=>(P0_8_ k_∨w.heap.size≤k_)) (.slice A0_8 l0_8.length c0_8) l0_8 from Kd.V_mono hs0_8 (fun k_ hk=>.inl hk));have HB:=Mk (Below.refl w.heap.size w);have H:(some (11,0,0,0,(⟨#[]⟩:ByteArray),((0,0):Nat×Nat),((0,0):Nat×Nat),((0,0):Nat×Nat),(([(⟨a0_0,a0_1,(⟨a0_2,a0_3,a0_4,a0_5⟩:S25),(⟨a0_6,a0_7⟩:S27),l0_8⟩:S30)]:List (S30)))))=some (r1,r2,r3,r4,r5,r6,r7,r8,r9):=h;clear h;obtain ⟨y103,hy103⟩:∃ y_:List (S30),y_=(([(⟨a0_0,a0_1,(⟨a0_2,a0_3,a0_4,a0_5⟩:S25),(⟨a0_6,a0_7⟩:S27),l0_8⟩:S30)]:List (S30))):=⟨_,rfl⟩;replace H:(some (11,0,0,0,(⟨#[]⟩:ByteArray),((0,0):Nat×Nat),((0,0):Nat×Nat),((0,0):Nat×Nat),y103))=some (r1,r2,r3,r4,r5,r6,r7,r8,r9):=by first|(rw [hy103];with_reducible exact H)|(have H2_:=(Option.bind_some _ _).symm.trans H;rw [hy103];with_reducible exact H2_)|(have H2_:=(Option.bind_some _ _).symm.trans H;with_reducible exact H2_)|with_reducible exact H|(rw [hy103];exact H)|exact H
 have Ny103:=Mk hy103;clear hy103;simp only [Option.some.injEq,Prod.mk.injEq] at H;obtain ⟨rfl,rfl,rfl,rfl,rfl,rfl,rfl,rfl,rfl⟩:=H;go_enter Tryz.func6,Tryz.ntmps6
 go_wp2_with (first|((with_reducible refine gate_dst (N:=1) rfl ?_);refine boxE 1 #[.int .i64 a0_0,.int .i64 a0_1,.int .i64 a0_2,.int .i64 a0_3,.string a0_4,.complex .f64 a0_5.1 a0_5.2,.complex .f64 a0_6.1 a0_6.2,.complex .f64 a0_7.1 a0_7.2,.slice A0_8 l0_8.length c0_8] 30 ?_;intro gb101 hg w2 hbox hb;have BK101:=Mk (hbox);have GW101:=Mk ((gS:w.heap.size≤gb101));have GE101:=Mk ((gS:w.heap.size≤gb101));replace HO0_8:=Mk (Kd.V_below (Kd.V_elderB (vU HO0_8) gb101 (Nat.le_of_eq hg.symm)) hb);replace HB:=Mk (below_step bB hb);clear hb hbox hg)|((with_reducible refine gate_dst (N:=2) rfl ?_);refine boxE 2 #[.int .i64 0,.int .i64 0,.int .i64 0,.int .i64 0,.string (⟨#[]⟩:ByteArray),.complex .f64 0 0,.complex .f64 0 0,.complex .f64 0 0,.slice none 0 0] 30 ?_;intro gb102 hg w3 hbox hb;have BK102:=Mk (hbox);have GW102:=Mk ((gS:w.heap.size≤gb102));have GE102:=Mk ((gS:w.heap.size≤gb102));have NB101_102:=(gL BK101:Aside0 (gb101≠gb102));have NB102_101:=(gG BK101:Aside0 (gb102≠gb101));replace HO0_8:=Mk (Kd.V_below (Kd.V_elderB (vU HO0_8) gb102 (Nat.le_of_eq hg.symm)) hb);replace BK101:=bkb BK101 hb;replace HB:=Mk (below_step bB hb);clear hb hbox hg;have hnb4:=NB101_102.out;have hnc4:=NB102_101.out;obtain ⟨_,_,_,_,_,_,_,_,_,_,_,_,_,_,_,_,_,_⟩:=z9 BK101)|((with_reducible refine gate_dst (N:=4) rfl ?_);refine Kd.N_lit k30 _ 30 ?hg (N':=4) ?hd (xs:=([(⟨a0_0,a0_1,(⟨a0_2,a0_3,a0_4,a0_5⟩:S25),(⟨a0_6,a0_7⟩:S27),l0_8⟩:S30)]:List (S30))) (inner:=[.int .i64 a0_0,.int .i64 a0_1,.int .i64 a0_2,.int .i64 a0_3,.string a0_4,.complex .f64 a0_5.1 a0_5.2,.complex .f64 a0_6.1 a0_6.2,.complex .f64 a0_7.1 a0_7.2,.slice A0_8 l0_8.length c0_8]) (ok:=(fun k_=>(P0_8_ k_∨w.heap.size≤k_)∧k_≠gb101∧k_≠gb102)) (okp:=(fun k_=>(P0_8_ k_∨w.heap.size≤k_)∧k_≠gb101∧k_≠gb102)) ?hr ?hp (fun _ hk=>hk) ((show ∀ k_,w3.heap.size≤k_→(fun k_=>(P0_8_ k_∨w.heap.size≤k_)∧k_≠gb101∧k_≠gb102) k_ from fun k_ hk=>⟨(.inr (Nat.le_trans (below_size bB) hk)),Kd.freshB (g:=gb101) (o:=.cells #[.int .i64 a0_0,.int .i64 a0_1,.int .i64 a0_2,.int .i64 a0_3,.string a0_4,.complex .f64 a0_5.1 a0_5.2,.complex .f64 a0_6.1 a0_6.2,.complex .f64 a0_7.1 a0_7.2,.slice A0_8 l0_8.length c0_8] 30 (0,0)) (bK BK101) k_ hk,Kd.freshB (g:=gb102) (o:=.cells #[.int .i64 0,.int .i64 0,.int .i64 0,.int .i64 0,.string (⟨#[]⟩:ByteArray),.complex .f64 0 0,.complex .f64 0 0,.complex .f64 0 0,.slice none 0 0] 30 (0,0)) (bK BK102) k_ hk⟩) _ (Nat.le_refl _)) (Below.refl _ _) (Nat.le_refl _) (by simp) ?_;(case hd=>rfl);(case hg=>rfl);(case hr=>exact hR);(case hp=>exact (Reps.c9 (show Kd.FK k30 _ _ (⟨a0_0,a0_1,(⟨a0_2,a0_3,a0_4,a0_5⟩:S25),(⟨a0_6,a0_7⟩:S27),l0_8⟩:S30) [.int .i64 a0_0,.int .i64 a0_1,.int .i64 a0_2,.int .i64 a0_3,.string a0_4,.complex .f64 a0_5.1 a0_5.2,.complex .f64 a0_6.1 a0_6.2,.complex .f64 a0_7.1 a0_7.2,.slice A0_8 l0_8.length c0_8] from (k30_mkF _ _ (⟨a0_0,a0_1,(⟨a0_2,a0_3,a0_4,a0_5⟩:S25),(⟨a0_6,a0_7⟩:S27),l0_8⟩:S30) (Kd.V_reads' (Kd.V_mono (ok':=(fun k_=>(P0_8_ k_∨w.heap.size≤k_)∧k_≠gb101∧k_≠gb102)) (HO0_8.out) (fun k_ hk=>⟨hk.1.1,⟨hk.1.2,hk.2⟩⟩))).2.1 (Kd.V_F (Kd.V_mono (ok':=(fun k_=>(P0_8_ k_∨w.heap.size≤k_)∧k_≠gb101∧k_≠gb102)) (HO0_8.out) (fun k_ hk=>⟨hk.1.1,⟨hk.1.2,hk.2⟩⟩))))) (Reps.none _ _)));intro v104 w6 ho7 hb hg_ hnew_;clear hg_ hnew_;(first|rw [← Ny103.out] at ho7|(simp only [Int.reduceToNat] at ho7;rw [← Ny103.out] at ho7));have HO105:=Mk (Kd.N_lower ho7 (below_size bB));replace HO0_8:=Mk (Kd.V_elder' (vU HO0_8) (Kd.N_base ho7) hb);replace BK101:=bkb BK101 hb;replace BK102:=bkb BK102 hb;replace HB:=Mk (below_step bB hb);clear hb ho7;obtain ⟨Ao8,co8,eo8⟩:=Kd.N_slice HO105.out;subst eo8;obtain ⟨_,_,_,_,_,_,_,_,_,_,_,_,_,_,_,_,_,_⟩:=z9 BK102))
 refine bodyPost_ret (results_cell_row rfl _ _ gb102 30 #[.int .i64 11,.int .i64 0,.int .i64 0,.int .i64 0,.string (⟨#[]⟩:ByteArray),.complex .f64 0 0,.complex .f64 0 0,.complex .f64 0 0,.slice Ao8 y103.length co8] (0,0) _ rfl (bP BK102) Tryz.underlying30 rfl kR) rfl ?_;exact ⟨_,eW,by (with_reducible repeat (first|apply Kd.N_alloc|apply Kd.N_drewN|apply Kd.N_drew));exact Kd.N_mono (Kd.N_far (p:=⟨gb102,8,none⟩) (Kd.N_far (p:=⟨gb102,7,none⟩) (Kd.N_far (p:=⟨gb102,6,none⟩) (Kd.N_far (p:=⟨gb102,5,none⟩) (Kd.N_far (p:=⟨gb102,4,none⟩) (Kd.N_far (p:=⟨gb102,3,none⟩) (Kd.N_far (p:=⟨gb102,2,none⟩) (Kd.N_far (p:=⟨gb102,1,none⟩) (Kd.N_far (p:=⟨gb102,0,none⟩) (Kd.N_mono HO105.out (fun k_ hk=>(⟨hk,hk.2.2⟩:_∧k_≠gb102))) (fun _ hk=>hk.2) (.int .i64 11)) (fun _ hk=>hk.2) (.int .i64 0)) (fun _ hk=>hk.2) (.int .i64 0)) (fun _ hk=>hk.2) (.int .i64 0)) (fun _ hk=>hk.2) (.string (⟨#[]⟩:ByteArray))) (fun _ hk=>hk.2) (.complex .f64 0 0)) (fun _ hk=>hk.2) (.complex .f64 0 0)) (fun _ hk=>hk.2) (.complex .f64 0 0)) (fun _ hk=>hk.2) (.slice Ao8 y103.length co8)) (fun _ hk=>hk.1.1),bB⟩
def strings_Join.f (l0:List ByteArray) (a1:ByteArray):Option ByteArray:=
 if l0.length≤140737488355328∧(Lib.join (l0.map (·.data.toList)) a1.data.toList).length≤140737488355328 then some ⟨(Lib.join (l0.map (·.data.toList)) a1.data.toList).toArray⟩ else none
theorem strings_Join.calls (A0:Option Addr) (c0:Nat) (l0:List ByteArray) (a1:ByteArray) (r:ByteArray) (w:World) (hr0:Kd.C Kd.string w A0 l0.length l0) (hc0:l0.length≤c0) (h:strings_Join.f l0 a1=some r):
  Calls Tryz.prog 21 #[.slice A0 l0.length c0,.string a1] w fun e w'=>e = .returned (.string r)∧Below w.heap.size w w':=by
 unfold strings_Join.f at h
 split at h
 ·rename_i c
  obtain rfl:=Option.some.inj h;rcases Nat.eq_zero_or_pos l0.length with h0|hp
  ·obtain rfl:=List.length_eq_zero_iff.1 h0
   refine (Tryz.strings_Join_none A0 c0 a1 w).mono ?_;rintro e w' ⟨rfl,rfl⟩;exact ⟨rfl,Below.refl _ _⟩
  ·obtain ⟨⟨b,o,s⟩,rfl,hrow⟩:=hr0.2.2 hp
   have hcell:∀ (j:Nat) x,l0[j]?=some x→w.cell? ((⟨b,o,s⟩:Addr).add j)=some (.string x):=fun j x hj=>by
    obtain ⟨cs,_,hK,hcs⟩:=hrow j x hj;obtain rfl:cs=[.string x]:=hK;have:=hcs 0 _ rfl
    simpa [Kd.string,Kd.scalar] using this
   have h00:=hcell 0 _ (List.getElem?_eq_getElem hp)
   have hb:s=none∧b < w.heap.size:=by
    simp only [Addr.add,if_true,World.cell?] at h00
    split at h00
    ·rename_i he
     refine ⟨?_,(Array.getElem?_eq_some_iff.1 he).1⟩
     cases s with
     |none=>rfl
     |some _=>simp at h00
    ·cases h00
   obtain ⟨rfl,hb⟩:=hb;refine Tryz.strings_Join b o c0 l0 a1 w (fun j x hj=>?_) hb c.1 hc0 c.2;have:=hcell j x hj;unfold Addr.add at this
   split at this
   ·rename_i hj0;subst hj0;exact this
   ·exact this
 ·cases h
def strconv_Itoa.f (a0:Int):Option ByteArray:=if -9223372036854775808≤a0∧a0≤9223372036854775807 then some ⟨(Lib.itoa a0).toArray⟩ else none
theorem strconv_Itoa.calls (a0:Int) (r:ByteArray) (w:World) (h:strconv_Itoa.f a0=some r) (hG_:Glob w):
  Calls Tryz.prog 22 #[.int .i64 a0] w fun e w'=>e = .returned (.string r)∧Below w.heap.size w w':=by
 unfold strconv_Itoa.f at h
 split at h
 ·rename_i c
  obtain rfl:=Option.some.inj h;refine (Tryz.strconv_Itoa a0 c.1 c.2 w hG_.tab).mono ?_;rintro e w' ⟨rfl,k,os,rfl⟩;exact ⟨rfl,below_grow' w k os⟩
 ·cases h
def strconv_FormatInt.f (a0:Int) (a1:Int):Option ByteArray:=if a1=10 ∧ -9223372036854775808≤a0∧a0≤9223372036854775807 then some ⟨(Lib.itoa a0).toArray⟩ else none
theorem strconv_FormatInt.calls (a0:Int) (a1:Int) (r:ByteArray) (w:World) (h:strconv_FormatInt.f a0 a1=some r) (hG_:Glob w):
  Calls Tryz.prog 56 #[.int .i64 a0,.int .i64 a1] w fun e w'=>e = .returned (.string r)∧Below w.heap.size w w':=by
 unfold strconv_FormatInt.f at h
 split at h
 ·rename_i c
  obtain ⟨rfl,c1,c2⟩:=c;obtain rfl:=Option.some.inj h;refine (Tryz.strconv_FormatInt_10 a0 c1 c2 w hG_.tab).mono ?_;rintro e w' ⟨rfl,k,os,rfl⟩;exact ⟨rfl,below_grow' w k os⟩
 ·cases h
def point_Text.f (a0:(Nat×Nat)):Option (ByteArray):=if fToIok .i64 a0.2=true then ((strconv_FormatInt.f (fToI .i64 a0.2) 10).bind fun t106=>(if 0 < (t106.size:Int) then (if (bt t106 0)=45 then (if fToIok .i64 a0.1=true then ((strconv_FormatInt.f (fToI .i64 a0.1) 10).bind fun t107=>(if t107.size+t106.size≤9223372036854775807 then (if t107.size+t106.size+1≤9223372036854775807 then (some ((t107++t106)++(⟨#[105]⟩:ByteArray))) else (none)) else (none))) else (none)) else (if 1+t106.size≤9223372036854775807 then (if fToIok .i64 a0.1=true then ((strconv_FormatInt.f (fToI .i64 a0.1) 10).bind fun t108=>(if t108.size+1+t106.size≤9223372036854775807 then (if t108.size+(1+t106.size)+1≤9223372036854775807 then (some ((t108++((⟨#[43]⟩:ByteArray)++t106))++(⟨#[105]⟩:ByteArray))) else (none)) else (none))) else (none)) else (none))) else (none))) else (none)
set_option maxHeartbeats 8000000 in
set_option maxRecDepth 100000 in
theorem point_Text.calls (a0:(Nat×Nat)) (r:ByteArray) (w:World) (h:point_Text.f a0=some r) (hG_:Glob w):
  Calls Tryz.prog 30 #[.complex .f64 a0.1 a0.2] w fun e w'=>e = .returned (.string r)∧Below w.heap.size w w':=by
 have HG_:=Mk hG_;clear hG_;have HB:=Mk (Below.refl w.heap.size w);have H:(if fToIok .i64 a0.2=true then ((strconv_FormatInt.f (fToI .i64 a0.2) 10).bind fun t106=>(if 0 < (t106.size:Int) then (if (bt t106 0)=45 then (if fToIok .i64 a0.1=true then ((strconv_FormatInt.f (fToI .i64 a0.1) 10).bind fun t107=>(if t107.size+t106.size≤9223372036854775807 then (if t107.size+t106.size+1≤9223372036854775807 then (some ((t107++t106)++(⟨#[105]⟩:ByteArray))) else (none)) else (none))) else (none)) else (if 1+t106.size≤9223372036854775807 then (if fToIok .i64 a0.1=true then ((strconv_FormatInt.f (fToI .i64 a0.1) 10).bind fun t108=>(if t108.size+1+t106.size≤9223372036854775807 then (if t108.size+(1+t106.size)+1≤9223372036854775807 then (some ((t108++((⟨#[43]⟩:ByteArray)++t106))++(⟨#[105]⟩:ByteArray))) else (none)) else (none))) else (none)) else (none))) else (none))) else (none))=some r:=h;clear h;by_cases c2:fToIok .i64 a0.2=true
 ·rw [if_pos c2] at H
  have c2b0:=eq_true c2;have c2b1:=decide_eq_true c2;clear c2;replace H:=Option.bind_eq_some_iff.mp H;obtain ⟨t106,A30,H⟩:=H;try dsimp only at H
  have A3:=Mk A30;clear A30;by_cases c4:0 < (t106.size:Int)
  ·rw [if_pos c4] at H
   have c4b0:=decide_eq_true c4;have c4b1:decide (0 < t106.size)=true:=decide_eq_true (by omega);clear c4;by_cases c6:(bt t106 0)=45
   ·rw [if_pos c6] at H
    have c6b0:=beq_iff_eq.mpr c6;have c6b1:=bne_eq_false_iff_eq.mpr c6;clear c6;by_cases c7:fToIok .i64 a0.1=true
    ·rw [if_pos c7] at H
     have c7b0:=eq_true c7;have c7b1:=decide_eq_true c7;clear c7;replace H:=Option.bind_eq_some_iff.mp H;obtain ⟨t107,A80,H⟩:=H;try dsimp only at H
     have A8:=Mk A80;clear A80;by_cases c9:t107.size+t106.size≤9223372036854775807
     ·rw [if_pos c9] at H
      have c9b0:=eq_true c9;have c9b1:=decide_eq_true c9;try have c9b2:(9223372036854775807 < t107.size+t106.size)=False:=eq_false (Nat.not_lt.2 c9)
      by_cases c10:t107.size+t106.size+1≤9223372036854775807
      ·rw [if_pos c10] at H
       have c10b0:=eq_true c10;have c10b1:=decide_eq_true c10;try have c10b2:(9223372036854775807 < t107.size+t106.size+1)=False:=eq_false (Nat.not_lt.2 c10)
       obtain rfl:=Option.some.inj H;go_enter Tryz.func30,Tryz.ntmps30
       go_wp2_with (first|((with_reducible refine gate_callee (f:=56) rfl ?_);refine goesL_ (some 7) rfl rfl Tryz.func56 kR rfl #[.int .i64 (fToI .i64 a0.2),.int .i64 10] rfl mA ?_;(with_reducible refine (strconv_FormatInt.calls (fToI .i64 a0.2) 10 t106 _ A3.out (Glob.below HG_.out bB)).mono ?_);rintro e w11 ⟨rfl,hb⟩;refine ⟨_,rfl,?_⟩;replace HB:=Mk (below_step bB hb);clear hb;have p5:0≤(0:Int):=(by omega);have q5:0 < t106.size:=(by have:(0:Int) < (t106.size:Int):=of_decide_eq_true aS;omega);have hx5:∀ h:0 < t106.size,((t106[0]'h).toNat:Int)=bt t106 0:=bt_at t106 0;clear p5;have qi5:(0 < (t106.size:Int))=True:=eq_true (of_decide_eq_true aS);replace q5:=eq_true q5)|((with_reducible refine gate_callee (f:=56) rfl ?_);refine goesL_ (some 16) rfl rfl Tryz.func56 kR rfl #[.int .i64 (fToI .i64 a0.1),.int .i64 10] rfl mA ?_;(with_reducible refine (strconv_FormatInt.calls (fToI .i64 a0.1) 10 t107 _ A8.out (Glob.below HG_.out bB)).mono ?_);rintro e w12 ⟨rfl,hb⟩;refine ⟨_,rfl,?_⟩;replace HB:=Mk (below_step bB hb);clear hb))
       go_ret
       exact ⟨eW,bB⟩
      ·rw [if_neg c10] at H
       exact absurd H (by simp)
     ·rw [if_neg c9] at H
      exact absurd H (by simp)
    ·rw [if_neg c7] at H
     exact absurd H (by simp)
   ·rw [if_neg c6] at H
    have c6b0:=beq_eq_false_iff_ne.mpr c6;have c6b1:=bne_iff_ne.mpr c6;by_cases c13:1+t106.size≤9223372036854775807
    ·rw [if_pos c13] at H
     have c13b0:=eq_true c13;have c13b1:=decide_eq_true c13;try have c13b2:(9223372036854775807 < 1+t106.size)=False:=eq_false (Nat.not_lt.2 c13)
     by_cases c14:fToIok .i64 a0.1=true
     ·rw [if_pos c14] at H
      have c14b0:=eq_true c14;have c14b1:=decide_eq_true c14;clear c14;replace H:=Option.bind_eq_some_iff.mp H;obtain ⟨t108,A150,H⟩:=H;try dsimp only at H
      have A15:=Mk A150;clear A150;by_cases c16:t108.size+1+t106.size≤9223372036854775807
      ·rw [if_pos c16] at H
       have c16b0:=eq_true c16;have c16b1:=decide_eq_true c16;try have c16b2:(9223372036854775807 < t108.size+1+t106.size)=False:=eq_false (Nat.not_lt.2 c16)
       have c16b3:(9223372036854775807 < t108.size+(1+t106.size))=False:=eq_false (by omega);by_cases c17:t108.size+(1+t106.size)+1≤9223372036854775807
       ·rw [if_pos c17] at H
        have c17b0:=eq_true c17;have c17b1:=decide_eq_true c17;try have c17b2:(9223372036854775807 < t108.size+(1+t106.size)+1)=False:=eq_false (Nat.not_lt.2 c17)
        obtain rfl:=Option.some.inj H;go_enter Tryz.func30,Tryz.ntmps30
        go_wp2_with (first|((with_reducible refine gate_callee (f:=56) rfl ?_);refine goesL_ (some 7) rfl rfl Tryz.func56 kR rfl #[.int .i64 (fToI .i64 a0.2),.int .i64 10] rfl mA ?_;(with_reducible refine (strconv_FormatInt.calls (fToI .i64 a0.2) 10 t106 _ A3.out (Glob.below HG_.out bB)).mono ?_);rintro e w18 ⟨rfl,hb⟩;refine ⟨_,rfl,?_⟩;replace HB:=Mk (below_step bB hb);clear hb;have p5:0≤(0:Int):=(by omega);have q5:0 < t106.size:=(by have:(0:Int) < (t106.size:Int):=of_decide_eq_true aS;omega);have hx5:∀ h:0 < t106.size,((t106[0]'h).toNat:Int)=bt t106 0:=bt_at t106 0;clear p5;have qi5:(0 < (t106.size:Int))=True:=eq_true (of_decide_eq_true aS);replace q5:=eq_true q5)|((with_reducible refine gate_callee (f:=56) rfl ?_);refine goesL_ (some 16) rfl rfl Tryz.func56 kR rfl #[.int .i64 (fToI .i64 a0.1),.int .i64 10] rfl mA ?_;(with_reducible refine (strconv_FormatInt.calls (fToI .i64 a0.1) 10 t108 _ A15.out (Glob.below HG_.out bB)).mono ?_);rintro e w19 ⟨rfl,hb⟩;refine ⟨_,rfl,?_⟩;replace HB:=Mk (below_step bB hb);clear hb))
        go_ret
        exact ⟨eW,bB⟩
       ·rw [if_neg c17] at H
        exact absurd H (by simp)
      ·rw [if_neg c16] at H
       exact absurd H (by simp)
     ·rw [if_neg c14] at H
      exact absurd H (by simp)
    ·rw [if_neg c13] at H
     exact absurd H (by simp)
  ·rw [if_neg c4] at H
   exact absurd H (by simp)
 ·rw [if_neg c2] at H
  exact absurd H (by simp)
def val_Text.l0:Nat→List Int→Int→Int→Int→Int→ByteArray→(Nat×Nat)→Option (ByteArray)
 | 0,_,_,_,_,_,_,_=>none
 |k+1,x3,x17,x18,x110000,x110001,x110002,x110003=>if x18 < x17 then (if 0≤x18 then (if x18 < (x110002.size:Int) then (if 0≤((bt x110002 x18) / 16) then (if ((bt x110002 x18) / 16) < 16 then (if 0≤(Go.bits .and .u8 (bt x110002 x18) 15) then (if (Go.bits .and .u8 (bt x110002 x18) 15) < 16 then ((some (([bt (⟨#[48,49,50,51,52,53,54,55,56,57,97,98,99,100,101,102]⟩:ByteArray) ((bt x110002 x18) / 16),bt (⟨#[48,49,50,51,52,53,54,55,56,57,97,98,99,100,101,102]⟩:ByteArray) (Go.bits .and .u8 (bt x110002 x18) 15)]:List Int):List Int)).bind fun y114=>(if x3.length+y114.length < 140737488355328 then (val_Text.l0 k (x3++y114) x17 (wrap64 (x18+1)) x110000 x110001 x110002 x110003) else (none))) else (none)) else (none)) else (none)) else (none)) else (none)) else (none)) else (some (strOfNums x3))
def val_Text.f (k:Nat) (a0_0:Int) (a0_1:Int) (a0_2:ByteArray) (a0_3:(Nat×Nat)):Option (ByteArray):=if a0_0=1 then ((strconv_FormatInt.f a0_1 10).bind fun t110=>(some t110)) else (if a0_0=2 then (val_Text.l0 k (([34]:List Int)) (a0_2.size:Int) 0 a0_0 a0_1 a0_2 a0_3) else (if a0_0=3 then ((point_Text.f a0_3).bind fun t120=>(some t120)) else (some (⟨#[45]⟩:ByteArray))))
def val_Text.T9:Bool×List (List Nat×List Nat):=(true,[([],[]),([],[]),([1],[1]),([],[]),([2,3],[2,3]),([4],[4]),([5],[5]),([],[]),([7],[7]),([],[]),([8,9],[8,9]),([10],[10]),([11],[11]),([6,12],[6,12]),([0,13],[0,13]),([14,14,0,1,2,3,4,5,6,7,8,9,10,11,12,13,14],[0,14])])
def val_Text.B9:List Nat:=[0,0,2,0,14,30,62,0,128,0,896,1920,3968,8190,16383,32767]
theorem val_Text.tab9:rtab .any (opsOf Tryz.f23 9)=val_Text.T9:=by kernel_rfl
theorem val_Text.bits9:waitsOk val_Text.T9.2 val_Text.B9=true:=by kernel_rfl
set_option maxHeartbeats 8000000 in
set_option maxRecDepth 100000 in
theorem val_Text.calls (k:Nat) (a0_0:Int) (a0_1:Int) (a0_2:ByteArray) (a0_3:(Nat×Nat)) (r:ByteArray) (w:World) (h:val_Text.f k a0_0 a0_1 a0_2 a0_3=some r) (hG_:Glob w):
  Calls Tryz.prog 23 #[.agg #[.int .i64 a0_0,.int .i64 a0_1,.string a0_2,.complex .f64 a0_3.1 a0_3.2]] w fun e w'=>e = .returned (.string r)∧Below w.heap.size w w':=by
 have HG_:=Mk hG_;clear hG_;have hu25:=Tryz.underlying25;have HB:=Mk (Below.refl w.heap.size w);have H:(if a0_0=1 then ((strconv_FormatInt.f a0_1 10).bind fun t110=>(some t110)) else (if a0_0=2 then (val_Text.l0 k (([34]:List Int)) (a0_2.size:Int) 0 a0_0 a0_1 a0_2 a0_3) else (if a0_0=3 then ((point_Text.f a0_3).bind fun t120=>(some t120)) else (some (⟨#[45]⟩:ByteArray)))))=some r:=h;clear h;by_cases c2:a0_0=1
 ·rw [if_pos c2] at H
  have c2b0:=beq_iff_eq.mpr c2;have c2b1:=bne_eq_false_iff_eq.mpr c2;clear c2;replace H:=Option.bind_eq_some_iff.mp H;obtain ⟨t110,A30,H⟩:=H;try dsimp only at H
  have A3:=Mk A30;clear A30;obtain rfl:=Option.some.inj H;go_enter Tryz.func23,Tryz.ntmps23
  go_wp2_with (first|((with_reducible refine gate_dst (N:=1) rfl ?_);refine boxE 1 #[.int .i64 a0_0,.int .i64 a0_1,.string a0_2,.complex .f64 a0_3.1 a0_3.2] 25 ?_;intro gb109 hg w4 hbox hb;have BK109:=Mk (hbox);have GW109:=Mk ((gS:w.heap.size≤gb109));have GE109:=Mk ((gS:w.heap.size≤gb109));replace HB:=Mk (below_step bB hb);clear hb hbox hg;obtain ⟨_,_,_,_,_,_,_,_⟩:=z4 BK109)|((with_reducible refine gate_callee (f:=56) rfl ?_);refine goesL_ (some 11) rfl rfl Tryz.func56 kR rfl #[.int .i64 a0_1,.int .i64 10] rfl mA ?_;(with_reducible refine (strconv_FormatInt.calls a0_1 10 t110 _ A3.out (Glob.below HG_.out bB)).mono ?_);rintro e w6 ⟨rfl,hb⟩;refine ⟨_,rfl,?_⟩;replace BK109:=bkb BK109 hb;replace HB:=Mk (below_step bB hb);clear hb))
  go_ret
  exact ⟨eW,bB⟩
 ·rw [if_neg c2] at H
  have c2b0:=beq_eq_false_iff_ne.mpr c2;have c2b1:=bne_iff_ne.mpr c2;by_cases c7:a0_0=2
  ·rw [if_pos c7] at H
   have c7b0:=beq_iff_eq.mpr c7;have c7b1:=bne_eq_false_iff_eq.mpr c7;clear c7;obtain ⟨y111,hy111⟩:∃ y_:List Int,y_=(([34]:List Int)):=⟨_,rfl⟩;replace H:(val_Text.l0 k y111 (a0_2.size:Int) 0 a0_0 a0_1 a0_2 a0_3)=some r:=by first|(rw [hy111];with_reducible exact H)|(have H2_:=(Option.bind_some _ _).symm.trans H;rw [hy111];with_reducible exact H2_)|(have H2_:=(Option.bind_some _ _).symm.trans H;with_reducible exact H2_)|with_reducible exact H|(rw [hy111];exact H)|exact H
   have Ny111:=Mk hy111;clear hy111;have H':=Mk H;clear H;go_enter Tryz.func23,Tryz.ntmps23
   go_wp2_with (first|((with_reducible refine gate_dst (N:=1) rfl ?_);refine boxE 1 #[.int .i64 a0_0,.int .i64 a0_1,.string a0_2,.complex .f64 a0_3.1 a0_3.2] 25 ?_;intro gb109 hg w8 hbox hb;have BK109:=Mk (hbox);have GW109:=Mk ((gS:w.heap.size≤gb109));have GE109:=Mk ((gS:w.heap.size≤gb109));replace HB:=Mk (below_step bB hb);clear hb hbox hg;obtain ⟨_,_,_,_,_,_,_,_⟩:=z4 BK109)|((with_reducible refine gate_dst (N:=14) rfl ?_);refine Kd.R_lit (Kd.int .u8) _ 5 ?hg (N:=14) ?hd (xs:=([34]:List Int)) (inner:=[.int .u8 34]) (ok:=fun _=>True) (okp:=fun _=>True) ?hr ?hp (fun _ hk=>hk) trivial (Below.refl _ _) (Nat.le_refl _) (by simp) ?_;(case hd=>rfl);(case hg=>rfl);(case hr=>exact hR);(case hp=>exact (Reps.one (show Kd.M (Kd.int .u8) _ _ _ 34 [.int .u8 34] from rfl) (Reps.none _ _)));intro v112 w10 ho11 hb hg_ hnew_;clear hg_ hnew_;(first|rw [← Ny111.out] at ho11|(simp only [Int.reduceToNat] at ho11;rw [← Ny111.out] at ho11));have HO113:=Mk (Kd.R_lower ho11 (below_size bB));replace BK109:=bkb BK109 hb;replace HB:=Mk (below_step bB hb);clear hb ho11;obtain ⟨_,_,_,_,_,_,_,_⟩:=z4 BK109))
   go_loopg [3,18] k (fun kq v3 v18 w'=>∃ (x3_1:List Int) (x18_1:Int),v18 = .int .i64 x18_1∧Aside0 (val_Text.l0 kq x3_1 (a0_2.size:Int) x18_1 a0_0 a0_1 a0_2 a0_3=some r)∧Aside0 (kq≤k)∧Aside0 (Kd.R (Kd.int .u8) 5 w' w.heap.size (fun _=>True) v3 x3_1)∧Aside0 (w'.heap[gb109]?=some (.cells #[.int .i64 a0_0,.int .i64 a0_1,.string a0_2,.complex .f64 a0_3.1 a0_3.2] 25 (0,0)))∧Aside0 (Below w.heap.size w w'))
   case atStart=>exact ⟨(y111),(0),sS,H',⟨Nat.le_refl _⟩,⟨rU HO113⟩,⟨by (with_reducible repeat refine bU ?_);exact BK109.out⟩,⟨bB⟩⟩
   case round=>
    clear H';try clear c2
    try clear c2b0
    try clear c2b1
    try clear p2
    try clear c5
    try clear c7
    try clear c7b0
    try clear c7b1
    obtain ⟨x3_1,x18_1,rfl,HA,HK1,HO_3,BK109,HB⟩:=hrel
    cases gk with
    |zero=>exact absurd HA.out (by simp [val_Text.l0])
    |succ k1=>
     have H:=HA.out;clear HA;simp only [val_Text.l0] at H;by_cases c13:x18_1 < (a0_2.size:Int)
     ·rw [if_pos c13] at H
      have c13b0:=decide_eq_true c13;clear c13;by_cases c14:0≤x18_1
      ·rw [if_pos c14] at H
       have c14b0:=decide_eq_true c14;clear c14;by_cases c15:x18_1 < (a0_2.size:Int)
       ·rw [if_pos c15] at H
        have c15b0:=decide_eq_true c15;clear c15;obtain ⟨ji17,hji17⟩:∃ j_:Int,((bt a0_2 x18_1) / 16)=j_:=⟨_,rfl⟩;replace H:(if 0≤(ji17) then (if (ji17) < 16 then (if 0≤(Go.bits .and .u8 (bt a0_2 x18_1) 15) then (if (Go.bits .and .u8 (bt a0_2 x18_1) 15) < 16 then ((some (([bt (⟨#[48,49,50,51,52,53,54,55,56,57,97,98,99,100,101,102]⟩:ByteArray) (ji17),bt (⟨#[48,49,50,51,52,53,54,55,56,57,97,98,99,100,101,102]⟩:ByteArray) (Go.bits .and .u8 (bt a0_2 x18_1) 15)]:List Int):List Int)).bind fun y114=>(if x3_1.length+y114.length < 140737488355328 then (val_Text.l0 k1 (x3_1++y114) (a0_2.size:Int) (wrap64 (x18_1+1)) a0_0 a0_1 a0_2 a0_3) else (none))) else (none)) else (none)) else (none)) else (none))=some r:=by first|(rw [hji17] at H;exact H)|(simp only [hji17] at H ⊢;exact H)
        by_cases c18:0≤(ji17)
        ·rw [if_pos c18] at H
         have c18b0:=decide_eq_true c18;clear c18;by_cases c19:(ji17) < 16
         ·rw [if_pos c19] at H
          have c19b0:=decide_eq_true c19;clear c19;by_cases c22:0≤(Go.bits .and .u8 (bt a0_2 x18_1) 15)
          ·rw [if_pos c22] at H
           have c22b0:=decide_eq_true c22;clear c22;by_cases c23:(Go.bits .and .u8 (bt a0_2 x18_1) 15) < 16
           ·rw [if_pos c23] at H
            have c23b0:=decide_eq_true c23;clear c23;obtain ⟨y114,hy114⟩:∃ y_:List Int,y_=(([bt (⟨#[48,49,50,51,52,53,54,55,56,57,97,98,99,100,101,102]⟩:ByteArray) (ji17),bt (⟨#[48,49,50,51,52,53,54,55,56,57,97,98,99,100,101,102]⟩:ByteArray) (Go.bits .and .u8 (bt a0_2 x18_1) 15)]:List Int)):=⟨_,rfl⟩;replace H:(if x3_1.length+y114.length < 140737488355328 then (val_Text.l0 k1 (x3_1++y114) (a0_2.size:Int) (wrap64 (x18_1+1)) a0_0 a0_1 a0_2 a0_3) else (none))=some r:=by first|(rw [hy114];with_reducible exact H)|(have H2_:=(Option.bind_some _ _).symm.trans H;rw [hy114];with_reducible exact H2_)|(have H2_:=(Option.bind_some _ _).symm.trans H;with_reducible exact H2_)|with_reducible exact H|(rw [hy114];exact H)|exact H
            have Ny114:=Mk hy114;clear hy114;by_cases c25:x3_1.length+y114.length < 140737488355328
            ·rw [if_pos c25] at H
             have LMc25:=Mk c25;clear c25;obtain ⟨y117,hy117⟩:∃ y_:List Int,y_=(x3_1++y114):=⟨_,rfl⟩;replace H:(val_Text.l0 k1 y117 (a0_2.size:Int) (wrap64 (x18_1+1)) a0_0 a0_1 a0_2 a0_3)=some r:=by first|(rw [hy117];with_reducible exact H)|(have H2_:=(Option.bind_some _ _).symm.trans H;rw [hy117];with_reducible exact H2_)|(have H2_:=(Option.bind_some _ _).symm.trans H;with_reducible exact H2_)|with_reducible exact H|(rw [hy117];exact H)|exact H
             have Ny117:=Mk hy117;clear hy117;have H':=Mk H;clear H;try go_wp2
             replace HO_3:=Mk (Kd.R_drew HO_3.out);replace BK109:=Mk (blk_drew BK109.out);replace HB:=Mk (below_drew1 HB.out);have p16:0≤(x18_1:Int):=of_decide_eq_true aS;have q16:x18_1 < (a0_2.size:Int):=of_decide_eq_true aS;have hx16:=bt_at a0_2 x18_1;replace p16:=eq_true p16;replace q16:=eq_true q16;have p20:0≤((ji17):Int):=of_decide_eq_true aS;have q20:(ji17) < (16:Int):=of_decide_eq_true aS;have hx20:=bt_at (⟨#[48,49,50,51,52,53,54,55,56,57,97,98,99,100,101,102]⟩:ByteArray) (ji17);replace p20:=eq_true p20;replace q20:=eq_true q20;have p21:0≤(x18_1:Int):=of_decide_eq_true aS;have q21:x18_1 < (a0_2.size:Int):=of_decide_eq_true aS;have hx21:=bt_at a0_2 x18_1;replace p21:=eq_true p21;replace q21:=eq_true q21;have p24:0≤((Go.bits .and .u8 (bt a0_2 x18_1) 15):Int):=of_decide_eq_true aS;have q24:(Go.bits .and .u8 (bt a0_2 x18_1) 15) < (16:Int):=of_decide_eq_true aS;have hx24:=bt_at (⟨#[48,49,50,51,52,53,54,55,56,57,97,98,99,100,101,102]⟩:ByteArray) (Go.bits .and .u8 (bt a0_2 x18_1) 15);replace p24:=eq_true p24;replace q24:=eq_true q24;refine start_ (n:=16) (S:=fun w'=>w'.cell? ⟨gb109,0,none⟩=some (.int .i64 a0_0)∧w'.cell? ⟨gb109,1,none⟩=some (.int .i64 a0_1)∧w'.cell? ⟨gb109,2,none⟩=some (.string a0_2)∧w'.cell? ⟨gb109,3,none⟩=some (.complex .f64 a0_3.1 a0_3.2)) (ds:=[]) #[b0,b0,b0,b0,b0,b0,b0,b0,b0,b0,b0,b0,b0,b0,b0,b0] kR rfl rfl ⟨(blk_cell BK109.out 0).trans rfl,(blk_cell BK109.out 1).trans rfl,(blk_cell BK109.out 2).trans rfl,(blk_cell BK109.out 3).trans rfl⟩ (fun hHeld=>?_);refine with_tabW val_Text.tab9 val_Text.bits9 (fun HT_ HW_=>?_)
             generalize wr.drew=w26 at HO_3 BK109 HB hHeld ⊢
             refine pure_ (i:=0) (N:=some 21) (v:=?_) (a':=?_) (fl 16 1) rfl rfl (aO HT_) fI (Or.inl ⟨by rfl,?_⟩) ?_ ?_;rotate_left
             ·intro w'
              go_simp
              with_reducible rfl
             rotate_left
             ·exact pA
             refine pure_ (i:=1) (N:=some 22) (v:=?_) (a':=?_) (fl 16 3) rfl rfl (aO HT_) fI (Or.inl ⟨by rfl,?_⟩) ?_ ?_;rotate_left
             ·intro w'
              go_simp
              with_reducible rfl
             rotate_left
             ·exact pA
             refine pure_ (i:=3) (N:=some 24) (v:=?_) (a':=?_) (fl 16 11) rfl rfl (aO HT_) fI (Or.inl ⟨by rfl,?_⟩) ?_ ?_;rotate_left
             ·intro w'
              go_simp
              with_reducible rfl
             rotate_left
             ·exact pA
             refine pure_ (i:=7) (N:=some 28) (v:=?_) (a':=?_) (fl 16 139) rfl rfl (aO HT_) fI (Or.inl ⟨by rfl,?_⟩) ?_ ?_;rotate_left
             ·intro w'
              go_simp
              with_reducible rfl
             rotate_left
             ·exact pA
             refine pure_ (i:=9) (N:=some 30) (v:=?_) (a':=?_) (fl 16 651) rfl rfl (aO HT_) fI (Or.inl ⟨by rfl,?_⟩) ?_ ?_;rotate_left
             ·intro w'
              go_simp
              with_reducible rfl
             rotate_left
             ·exact pA
             refine take_ (i:=2) (N:=some 23) (v:=?_) (a':=?_) (fl 16 655) rfl rfl (tO HT_ HW_) fI (Or.inl ⟨by rfl,?_⟩) hHeld ?_ ?_;rotate_left
             ·rintro w' ⟨s0,s1,s2,s3⟩
              go_simp
              with_reducible rfl
             rotate_left
             ·exact pA
             refine take_ (i:=4) (N:=some 25) (v:=?_) (a':=?_) (fl 16 671) rfl rfl (tO HT_ HW_) fI (Or.inl ⟨by rfl,?_⟩) hHeld ?_ ?_;rotate_left
             ·rintro w' ⟨s0,s1,s2,s3⟩
              go_simp
              with_reducible rfl
             rotate_left
             ·exact pA
             refine pure_ (i:=5) (N:=some 26) (v:=?_) (a':=?_) (fl 16 703) rfl rfl (aO HT_) fI (Or.inl ⟨by rfl,?_⟩) ?_ ?_;rotate_left
             ·intro w'
              go_simp
              with_reducible rfl
             rotate_left
             ·exact pA
             refine take_ (i:=6) (N:=some 27) (v:=?_) (a':=?_) (fl 16 767) rfl rfl (tO HT_ HW_) fI (Or.inl ⟨by rfl,?_⟩) hHeld ?_ ?_;rotate_left
             ·rintro w' ⟨s0,s1,s2,s3⟩
              go_simp
              with_reducible rfl
             rotate_left
             ·exact pA
             refine take_ (i:=8) (N:=some 29) (v:=?_) (a':=?_) (fl 16 1023) rfl rfl (tO HT_ HW_) fI (Or.inl ⟨by rfl,?_⟩) hHeld ?_ ?_;rotate_left
             ·rintro w' ⟨s0,s1,s2,s3⟩
              go_simp
              with_reducible rfl
             rotate_left
             ·exact pA
             refine take_ (i:=10) (N:=some 31) (v:=?_) (a':=?_) (fl 16 2047) rfl rfl (tO HT_ HW_) fI (Or.inl ⟨by rfl,?_⟩) hHeld ?_ ?_;rotate_left
             ·rintro w' ⟨s0,s1,s2,s3⟩
              go_simp
              with_reducible rfl
             rotate_left
             ·exact pA
             refine pure_ (i:=11) (N:=some 32) (v:=?_) (a':=?_) (fl 16 4095) rfl rfl (aO HT_) fI (Or.inl ⟨by rfl,?_⟩) ?_ ?_;rotate_left
             ·intro w'
              go_simp
              with_reducible rfl
             rotate_left
             ·exact pA
             refine take_ (i:=12) (N:=some 33) (v:=?_) (a':=?_) (fl 16 8191) rfl rfl (tO HT_ HW_) fI (Or.inl ⟨by rfl,?_⟩) hHeld ?_ ?_;rotate_left
             ·rintro w' ⟨s0,s1,s2,s3⟩
              go_simp
              with_reducible rfl
             rotate_left
             ·exact pA
             refine one_ (i:=13) (N:=some 34) (fl 16 16383) rfl rfl (oO HT_) (by decide) (fun K hK=>?_);refine Kd.R_lit_step (Kd.int .u8) _ 5 ?hg (N:=34) ?hd (xs:=([bt (⟨#[48,49,50,51,52,53,54,55,56,57,97,98,99,100,101,102]⟩:ByteArray) (ji17),bt (⟨#[48,49,50,51,52,53,54,55,56,57,97,98,99,100,101,102]⟩:ByteArray) (Go.bits .and .u8 (bt a0_2 x18_1) 15)]:List Int)) (inner:=[.int .u8 (bt (⟨#[48,49,50,51,52,53,54,55,56,57,97,98,99,100,101,102]⟩:ByteArray) (ji17)),.int .u8 (bt (⟨#[48,49,50,51,52,53,54,55,56,57,97,98,99,100,101,102]⟩:ByteArray) (Go.bits .and .u8 (bt a0_2 x18_1) 15))]) (ok:=fun _=>True) (okp:=fun _=>True) ?hr ?hp (fun _ hk=>hk) trivial (Below.refl _ _) (Nat.le_refl _) (by simp) ?_;(case hd=>rfl);(case hg=>rfl);(case hr=>exact hR);(case hp=>exact (Reps.one (show Kd.M (Kd.int .u8) _ _ _ (bt (⟨#[48,49,50,51,52,53,54,55,56,57,97,98,99,100,101,102]⟩:ByteArray) (ji17)) [.int .u8 (bt (⟨#[48,49,50,51,52,53,54,55,56,57,97,98,99,100,101,102]⟩:ByteArray) (ji17))] from rfl) (Reps.one (show Kd.M (Kd.int .u8) _ _ _ (bt (⟨#[48,49,50,51,52,53,54,55,56,57,97,98,99,100,101,102]⟩:ByteArray) (Go.bits .and .u8 (bt a0_2 x18_1) 15)) [.int .u8 (bt (⟨#[48,49,50,51,52,53,54,55,56,57,97,98,99,100,101,102]⟩:ByteArray) (Go.bits .and .u8 (bt a0_2 x18_1) 15))] from rfl) (Reps.none _ _))));intro v115 w27 ho28 hb hg_ hnew_;clear hg_ hnew_;(first|rw [← Ny114.out] at ho28|(simp only [Int.reduceToNat] at ho28;rw [← Ny114.out] at ho28));have HO116:=Mk (Kd.R_lower (Kd.R_new' ho28 (Kd.R_lt (rU HO_3))) (below_size bB));replace HO_3:=Mk (Kd.R_elder' (rU HO_3) (Kd.R_base ho28) hb);replace BK109:=bkb BK109 hb;replace HB:=Mk (below_step bB hb);clear hb ho28;obtain ⟨Ao30,co30,eo30⟩:=Kd.R_slice HO116.out;(first|subst eo30|(injection eo30 with f1_ f2_ f3_;have f4_:=f1_.symm;have f5_:=f3_.symm;clear f1_ f2_ f3_;subst f4_;subst f5_));refine hK.out _ _ ⟨(blk_cell BK109.out 0).trans rfl,(blk_cell BK109.out 1).trans rfl,(blk_cell BK109.out 2).trans rfl,(blk_cell BK109.out 3).trans rfl⟩ (fun hHeld=>?_);clear hK K;refine norm_ (a':=?_) ?_ ?_;rotate_left
             ·show Act.put _ (some 34) _=_
              simp only [Act.put,List.setIfInBounds_toArray,List.set_cons_zero,List.set_cons_succ,i64_w,i32_w];rfl
             refine one_ (i:=14) (N:=some 35) (fl 16 32767) rfl rfl (oO HT_) (by decide) (fun K hK=>?_);refine Kd.R_append_rows_step (Kd.int .u8) (w0:=w) w.heap.size (by rfl) (.tmp 21) (.tmp 34) 74 5 (.int .u8 0) 1 rfl Tryz.underlying74 info5 rfl (by decide) (by omega) u3 x3_1 y114 _ _ _ (fun k_=>some k_≠(.slice Ao30 y114.length co30:Value).ownBlock) (fun _=>False) rfl rfl ?aO ?aR (fun _ _ h=>h) (fun _ h=>h.elim) ?aF ?aB ?aS ?aL ?_;(case aR=>exact cU (Kd.R_reads' HO116.out).2.2);(case aB=>exact bB);(case aF=>exact (fun k_ hk=>Kd.fresh' (Kd.R_lt (rU HO116)) k_ hk));(case aO=>exact (by (repeat apply Rup);exact Kd.R_mono HO_3.out (fun _ hk=>by first|exact hk.2|exact hk)));(case aS=>exact (below_size bB));(case aL=>have:=LMc25.out;omega);intro v118 w29 ho hb hg hat;rw [← Ny117.out] at ho;have n0_:=Mk (blk_grown (g:=gb109) (o:=.cells #[.int .i64 a0_0,.int .i64 a0_1,.string a0_2,.complex .f64 a0_3.1 a0_3.2] 25 (0,0)) (bK BK109) hg (Kd.R_ne HO_3.out BK109.out (by decide)));have n1_:=Mk (Kd.R_after (ok:=(fun _=>True)) (rU HO116) hg hat);have n2_:=Mk (hb);have n3_:=Mk (ho);clear BK109;clear HO116;clear HB;clear HO_3;have BK109:=n0_;have HO116:=n1_;have HB:=n2_;have HO119:=n3_;clear n0_ n1_ n2_ n3_;clear ho hb hg hat;refine hK.out _ _ ⟨(blk_cell BK109.out 0).trans rfl,(blk_cell BK109.out 1).trans rfl,(blk_cell BK109.out 2).trans rfl,(blk_cell BK109.out 3).trans rfl⟩ (fun hHeld=>?_);clear hK K;refine norm_ (a':=?_) ?_ ?_;rotate_left
             ·show Act.put _ (some 35) _=_
              simp only [Act.put,List.setIfInBounds_toArray,List.set_cons_zero,List.set_cons_succ,i64_w,i32_w];rfl
             refine pure_ (i:=15) (N:=some 3) (v:=?_) (a':=?_) (fl 16 65535) rfl rfl (aO HT_) fI (Or.inl ⟨by rfl,?_⟩) ?_ ?_;rotate_left
             ·intro w'
              go_simp
              with_reducible rfl
             rotate_left
             ·exact pA
             refine done_ (done_of HT_.out kR) ?_;try go_wp2
             first|go_roundg k1|(simp only [← hji17] at H' ⊢;go_roundg k1)
             case measure=>have:=HK1.out;omega
             case rel=>exact ⟨(y117),(wrap64 (x18_1+1)),sS,H',⟨by have:=HK1.out;omega⟩,⟨by (repeat apply Rup);exact Kd.R_mono HO119.out (fun _ hk=>trivial)⟩,⟨by (with_reducible repeat refine bU ?_);exact BK109.out⟩,⟨bB⟩⟩
            ·rw [if_neg c25] at H
             exact absurd H (by simp)
           ·rw [if_neg c23] at H
            exact absurd H (by simp)
          ·rw [if_neg c22] at H
           exact absurd H (by simp)
         ·rw [if_neg c19] at H
          exact absurd H (by simp)
        ·rw [if_neg c18] at H
         exact absurd H (by simp)
       ·rw [if_neg c15] at H
        exact absurd H (by simp)
      ·rw [if_neg c14] at H
       exact absurd H (by simp)
     ·rw [if_neg c13] at H
      have c13b0:=decide_eq_false c13;clear c13;obtain rfl:=Option.some.inj H;have hcv31:=own_string (P:=Tryz.prog) Tryz.underlying74 Tryz.underlying5 Tryz.underlying9 (Kd.own_of_R HO_3.out);have hcv31d:=fun m_=>own_string (P:=Tryz.prog) Tryz.underlying74 Tryz.underlying5 Tryz.underlying9 (Kd.own_of_R (Kd.R_drewN HO_3.out m_))
      go_wp2
      go_ret
      exact ⟨eW,bB⟩
  ·rw [if_neg c7] at H
   have c7b0:=beq_eq_false_iff_ne.mpr c7;have c7b1:=bne_iff_ne.mpr c7;by_cases c32:a0_0=3
   ·rw [if_pos c32] at H
    have c32b0:=beq_iff_eq.mpr c32;have c32b1:=bne_eq_false_iff_eq.mpr c32;clear c32;replace H:=Option.bind_eq_some_iff.mp H;obtain ⟨t120,A330,H⟩:=H;try dsimp only at H
    have A33:=Mk A330;clear A330;obtain rfl:=Option.some.inj H;go_enter Tryz.func23,Tryz.ntmps23
    go_wp2_with (first|((with_reducible refine gate_dst (N:=1) rfl ?_);refine boxE 1 #[.int .i64 a0_0,.int .i64 a0_1,.string a0_2,.complex .f64 a0_3.1 a0_3.2] 25 ?_;intro gb109 hg w34 hbox hb;have BK109:=Mk (hbox);have GW109:=Mk ((gS:w.heap.size≤gb109));have GE109:=Mk ((gS:w.heap.size≤gb109));replace HB:=Mk (below_step bB hb);clear hb hbox hg;obtain ⟨_,_,_,_,_,_,_,_⟩:=z4 BK109)|((with_reducible refine gate_callee (f:=30) rfl ?_);refine goesL_ (some 43) rfl rfl Tryz.func30 kR rfl #[.complex .f64 a0_3.1 a0_3.2] rfl mA ?_;(with_reducible refine (point_Text.calls a0_3 t120 _ A33.out (Glob.below HG_.out bB)).mono ?_);rintro e w36 ⟨rfl,hb⟩;refine ⟨_,rfl,?_⟩;replace BK109:=bkb BK109 hb;replace HB:=Mk (below_step bB hb);clear hb))
    go_ret
    exact ⟨eW,bB⟩
   ·rw [if_neg c32] at H
    have c32b0:=beq_eq_false_iff_ne.mpr c32;have c32b1:=bne_iff_ne.mpr c32;obtain rfl:=Option.some.inj H;go_enter Tryz.func23,Tryz.ntmps23
    go_wp2_with (first|((with_reducible refine gate_dst (N:=1) rfl ?_);refine boxE 1 #[.int .i64 a0_0,.int .i64 a0_1,.string a0_2,.complex .f64 a0_3.1 a0_3.2] 25 ?_;intro gb109 hg w37 hbox hb;have BK109:=Mk (hbox);have GW109:=Mk ((gS:w.heap.size≤gb109));have GE109:=Mk ((gS:w.heap.size≤gb109));replace HB:=Mk (below_step bB hb);clear hb hbox hg;obtain ⟨_,_,_,_,_,_,_,_⟩:=z4 BK109))
    go_ret
    exact ⟨eW,bB⟩
def req_signs.f  : Option (List ByteArray):=some (([(⟨#[61]⟩:ByteArray),(⟨#[33,61]⟩:ByteArray),(⟨#[60]⟩:ByteArray),(⟨#[60,61]⟩:ByteArray),(⟨#[62]⟩:ByteArray),(⟨#[62,61]⟩:ByteArray),(⟨#[110,117,108,108]⟩:ByteArray),(⟨#[105,110]⟩:ByteArray),(⟨#[97,110,100]⟩:ByteArray),(⟨#[111,114]⟩:ByteArray),(⟨#[110,111,116]⟩:ByteArray),(⟨#[97,108,108]⟩:ByteArray)]:List ByteArray))
set_option maxHeartbeats 8000000 in
set_option maxRecDepth 100000 in
theorem req_signs.calls  (r:List ByteArray) (w:World) (h:req_signs.f  = some r):
  Calls Tryz.prog 29 #[] w fun e w'=>∃ v0_:Value,e = .returned (v0_)∧Kd.R Kd.string 9 w' w.heap.size (fun _=>True) v0_ r∧Below w.heap.size w w':=by
 have HB:=Mk (Below.refl w.heap.size w);have H:(some (([(⟨#[61]⟩:ByteArray),(⟨#[33,61]⟩:ByteArray),(⟨#[60]⟩:ByteArray),(⟨#[60,61]⟩:ByteArray),(⟨#[62]⟩:ByteArray),(⟨#[62,61]⟩:ByteArray),(⟨#[110,117,108,108]⟩:ByteArray),(⟨#[105,110]⟩:ByteArray),(⟨#[97,110,100]⟩:ByteArray),(⟨#[111,114]⟩:ByteArray),(⟨#[110,111,116]⟩:ByteArray),(⟨#[97,108,108]⟩:ByteArray)]:List ByteArray)))=some r:=h;clear h;obtain ⟨y121,hy121⟩:∃ y_:List ByteArray,y_=(([(⟨#[61]⟩:ByteArray),(⟨#[33,61]⟩:ByteArray),(⟨#[60]⟩:ByteArray),(⟨#[60,61]⟩:ByteArray),(⟨#[62]⟩:ByteArray),(⟨#[62,61]⟩:ByteArray),(⟨#[110,117,108,108]⟩:ByteArray),(⟨#[105,110]⟩:ByteArray),(⟨#[97,110,100]⟩:ByteArray),(⟨#[111,114]⟩:ByteArray),(⟨#[110,111,116]⟩:ByteArray),(⟨#[97,108,108]⟩:ByteArray)]:List ByteArray)):=⟨_,rfl⟩;replace H:(some y121)=some r:=by first|(rw [hy121];with_reducible exact H)|(have H2_:=(Option.bind_some _ _).symm.trans H;rw [hy121];with_reducible exact H2_)|(have H2_:=(Option.bind_some _ _).symm.trans H;with_reducible exact H2_)|with_reducible exact H|(rw [hy121];exact H)|exact H
 have Ny121:=Mk hy121;clear hy121;obtain rfl:=Option.some.inj H;go_enter Tryz.func29,Tryz.ntmps29
 go_wp2_with (first|((with_reducible refine gate_dst (N:=1) rfl ?_);refine Kd.R_lit Kd.string _ 9 ?hg (N:=1) ?hd (xs:=([(⟨#[61]⟩:ByteArray),(⟨#[33,61]⟩:ByteArray),(⟨#[60]⟩:ByteArray),(⟨#[60,61]⟩:ByteArray),(⟨#[62]⟩:ByteArray),(⟨#[62,61]⟩:ByteArray),(⟨#[110,117,108,108]⟩:ByteArray),(⟨#[105,110]⟩:ByteArray),(⟨#[97,110,100]⟩:ByteArray),(⟨#[111,114]⟩:ByteArray),(⟨#[110,111,116]⟩:ByteArray),(⟨#[97,108,108]⟩:ByteArray)]:List ByteArray)) (inner:=[.string (⟨#[61]⟩:ByteArray),.string (⟨#[33,61]⟩:ByteArray),.string (⟨#[60]⟩:ByteArray),.string (⟨#[60,61]⟩:ByteArray),.string (⟨#[62]⟩:ByteArray),.string (⟨#[62,61]⟩:ByteArray),.string (⟨#[110,117,108,108]⟩:ByteArray),.string (⟨#[105,110]⟩:ByteArray),.string (⟨#[97,110,100]⟩:ByteArray),.string (⟨#[111,114]⟩:ByteArray),.string (⟨#[110,111,116]⟩:ByteArray),.string (⟨#[97,108,108]⟩:ByteArray)]) (ok:=fun _=>True) (okp:=fun _=>True) ?hr ?hp (fun _ hk=>hk) trivial (Below.refl _ _) (Nat.le_refl _) (by simp) ?_;(case hd=>rfl);(case hg=>rfl);(case hr=>exact hR);(case hp=>exact (Reps.one (show Kd.M Kd.string _ _ _ (⟨#[61]⟩:ByteArray) [.string (⟨#[61]⟩:ByteArray)] from rfl) (Reps.one (show Kd.M Kd.string _ _ _ (⟨#[33,61]⟩:ByteArray) [.string (⟨#[33,61]⟩:ByteArray)] from rfl) (Reps.one (show Kd.M Kd.string _ _ _ (⟨#[60]⟩:ByteArray) [.string (⟨#[60]⟩:ByteArray)] from rfl) (Reps.one (show Kd.M Kd.string _ _ _ (⟨#[60,61]⟩:ByteArray) [.string (⟨#[60,61]⟩:ByteArray)] from rfl) (Reps.one (show Kd.M Kd.string _ _ _ (⟨#[62]⟩:ByteArray) [.string (⟨#[62]⟩:ByteArray)] from rfl) (Reps.one (show Kd.M Kd.string _ _ _ (⟨#[62,61]⟩:ByteArray) [.string (⟨#[62,61]⟩:ByteArray)] from rfl) (Reps.one (show Kd.M Kd.string _ _ _ (⟨#[110,117,108,108]⟩:ByteArray) [.string (⟨#[110,117,108,108]⟩:ByteArray)] from rfl) (Reps.one (show Kd.M Kd.string _ _ _ (⟨#[105,110]⟩:ByteArray) [.string (⟨#[105,110]⟩:ByteArray)] from rfl) (Reps.one (show Kd.M Kd.string _ _ _ (⟨#[97,110,100]⟩:ByteArray) [.string (⟨#[97,110,100]⟩:ByteArray)] from rfl) (Reps.one (show Kd.M Kd.string _ _ _ (⟨#[111,114]⟩:ByteArray) [.string (⟨#[111,114]⟩:ByteArray)] from rfl) (Reps.one (show Kd.M Kd.string _ _ _ (⟨#[110,111,116]⟩:ByteArray) [.string (⟨#[110,111,116]⟩:ByteArray)] from rfl) (Reps.one (show Kd.M Kd.string _ _ _ (⟨#[97,108,108]⟩:ByteArray) [.string (⟨#[97,108,108]⟩:ByteArray)] from rfl) (Reps.none _ _))))))))))))));intro v122 w1 ho2 hb hg_ hnew_;clear hg_ hnew_;(first|rw [← Ny121.out] at ho2|(simp only [Int.reduceToNat] at ho2;rw [← Ny121.out] at ho2));have HO123:=Mk (Kd.R_lower ho2 (below_size bB));replace HB:=Mk (below_step bB hb);clear hb ho2))
 go_ret
 exact ⟨_,eW,by (repeat apply Rup);exact HO123.out,bB⟩
end Go.Proofs.YtcpjlbdjnaaaiaaGreatDoor.PAll
