import Derived.Test.YtcpjlbdjnaaaiaaGreatDoorPAllx0
namespace Go.Proofs.YtcpjlbdjnaaaiaaGreatDoor.PAll
open Go.Proofs.YtcpjlbdjnaaaiaaGreatDoor.Help
open Go.RowKit Go.Proofs.YtcpjlbdjnaaaiaaGreatDoorW.PrintWords Go.Proofs.YtcpjlbdjnaaaiaaGreatDoorW.PrintLast Go.Proofs.YtcpjlbdjnaaaiaaGreatDoorW.PrintMore
set_option linter.unusedVariables false
set_option linter.unusedSimpArgs false
def slices_Index_string_string.l0:Nat→List ByteArray→ByteArray→Int→Int→Option (Int)
 | 0,_,_,_,_=>none
 |k+1,x0,x1,x7,x8=>if x8 < x7 then (if 0≤x8 then (if x8 < (x0.length:Int) then (if x1.toList=(rdOf ByteArray.empty x0 x8).toList then (some x8) else (slices_Index_string_string.l0 k x0 x1 x7 (wrap64 (x8+1)))) else (none)) else (none)) else (some (-1))
def slices_Index_string_string.f (k:Nat) (l0:List ByteArray) (a1:ByteArray):Option (Int):=slices_Index_string_string.l0 k l0 a1 (l0.length:Int) 0
theorem slices_Index_string_string.mono_l:∀ k,(∀ y0 y1 y2 y3,LeO (slices_Index_string_string.l0 k y0 y1 y2 y3) (slices_Index_string_string.l0 (k+1) y0 y1 y2 y3))
 | 0=>fun _ _ _ _ r h=>by simp [slices_Index_string_string.l0] at h
 |k+1=>by
  have ih0:=slices_Index_string_string.mono_l k
  ·intro y0 y1 y2 y3
   unfold slices_Index_string_string.l0
   repeat' first
   |(with_reducible exact ih0 _ _ _ _)
   |(with_reducible exact LeO.refl _)
   |(with_reducible exact LeO.none _)
   |(with_reducible refine LeO.ite ?_ ?_)
   |(with_reducible refine LeO.bind ?_ (fun _=>?_))
   |exact ih0 _ _ _ _
   |exact LeO.none _
   |refine LeO.ite ?_ ?_
   |refine LeO.bind ?_ (fun _=>?_)
theorem slices_Index_string_string.mono:∀ a0 a1 k,LeO (slices_Index_string_string.f k a0 a1) (slices_Index_string_string.f (k+1) a0 a1):=by
 intro a0 a1 k;have ih0:=slices_Index_string_string.mono_l k;unfold slices_Index_string_string.f
 repeat' first
   |(with_reducible exact ih0 _ _ _ _)
   |(with_reducible exact LeO.refl _)
   |(with_reducible exact LeO.none _)
   |(with_reducible refine LeO.ite ?_ ?_)
   |(with_reducible refine LeO.bind ?_ (fun _=>?_))
   |exact ih0 _ _ _ _
   |exact LeO.none _
   |refine LeO.ite ?_ ?_
   |refine LeO.bind ?_ (fun _=>?_)
set_option maxHeartbeats 8000000 in
set_option maxRecDepth 100000 in
theorem slices_Index_string_string.calls (k:Nat) (A0:Option Addr) (c0:Nat) (l0:List ByteArray) (a1:ByteArray) (r:Int) (w:World) (hr0:Kd.C Kd.string w A0 l0.length l0) (hc0:l0.length≤c0) (h:slices_Index_string_string.f k l0 a1=some r):
  Calls Tryz.prog 32 #[.slice A0 l0.length c0,.string a1] w fun e w'=>e = .returned (.int .i64 r)∧Drawn0 w w':=by
 have HR0:=Mk hr0;have HC0:=Mk hc0;clear hr0 hc0;have H:(slices_Index_string_string.l0 k l0 a1 (l0.length:Int) 0)=some r:=h;clear h;have H':=Mk H;clear H;go_enter Tryz.func32,Tryz.ntmps32
 go_wp2
 go_loopg [8] k (fun kq v8 w'=>∃ (x8_1:Int),v8 = .int .i64 x8_1∧Aside0 (slices_Index_string_string.l0 kq l0 a1 (l0.length:Int) x8_1=some r)∧Aside0 (kq≤k)∧Drawn0 w w')
 case atStart=>exact ⟨(0),sS,H',⟨Nat.le_refl _⟩,by repeat (first|exact Drawn0.refl _|apply Drawn0.step)⟩
 case round=>
  clear H';try clear p2
  obtain ⟨x8_1,rfl,HA,HK1,⟨m1,rfl⟩⟩:=hrel
  cases gk with
  |zero=>exact absurd HA.out (by simp [slices_Index_string_string.l0])
  |succ k1=>
   have H:=HA.out;clear HA;simp only [slices_Index_string_string.l0] at H;by_cases c3:x8_1 < (l0.length:Int)
   ·rw [if_pos c3] at H
    have c3b0:=decide_eq_true c3;clear c3;by_cases c4:0≤x8_1
    ·rw [if_pos c4] at H
     have c4b0:=decide_eq_true c4;clear c4;by_cases c5:x8_1 < (l0.length:Int)
     ·rw [if_pos c5] at H
      have c5b0:=decide_eq_true c5;clear c5;by_cases c6:a1.toList=(rdOf ByteArray.empty l0 x8_1).toList
      ·rw [if_pos c6] at H
       have c6b0:=beq_iff_eq.mpr c6;have c6b1:=bne_eq_false_iff_eq.mpr c6;clear c6;obtain rfl:=Option.some.inj H;have p214:0≤(x8_1:Int):=of_decide_eq_true aS;have q214:x8_1 < (l0.length:Int):=of_decide_eq_true aS;obtain ⟨ad214,e214,hx214_0⟩:=Kd.at_string HR0.out x8_1 p214 q214;cases e214
       replace p214:=eq_true p214;replace q214:=eq_true q214
       go_wp2
       go_ret
       exact ⟨by first|rfl|(simp;done)|(simp [*];done),by repeat (first|exact Drawn0.refl _|apply Drawn0.step)⟩
      ·rw [if_neg c6] at H
       have c6b0:=beq_eq_false_iff_ne.mpr c6;have c6b1:=bne_iff_ne.mpr c6;have H':=Mk H;clear H;have p214:0≤(x8_1:Int):=of_decide_eq_true aS;have q214:x8_1 < (l0.length:Int):=of_decide_eq_true aS;obtain ⟨ad214,e214,hx214_0⟩:=Kd.at_string HR0.out x8_1 p214 q214;cases e214
       replace p214:=eq_true p214;replace q214:=eq_true q214
       go_wp2
       go_roundg k1
       case measure=>have:=HK1.out;omega
       case rel=>exact ⟨(wrap64 (x8_1+1)),sS,H',⟨by have:=HK1.out;omega⟩,by repeat (first|exact Drawn0.refl _|apply Drawn0.step)⟩
     ·rw [if_neg c5] at H
      exact absurd H (by simp)
    ·rw [if_neg c4] at H
     exact absurd H (by simp)
   ·rw [if_neg c3] at H
    have c3b0:=decide_eq_false c3;clear c3;obtain rfl:=Option.some.inj H
    go_wp2
    go_ret
    exact ⟨by first|rfl|(simp;done)|(simp [*];done),by repeat (first|exact Drawn0.refl _|apply Drawn0.step)⟩
def IsS64 (w0 W:World) (g:Nat) (f0:ByteArray) (f1:Int) (f2:Int):Prop:=W.heap[g]?=some (.cells #[.string f0,.int .i64 f1,.int .i64 f2] 64 (0,0))∧w0.heap.size≤g
theorem IsS64.grown {w0 W:World} {g:Nat} {f0:ByteArray} {f1:Int} {f2:Int} {W1:World} {row:Option Nat} (h:IsS64 w0 W g f0 f1 f2) (hw:W.grownBy W1 row) (hne:some g≠row):IsS64 w0 W1 g f0 f1 f2:=by
 obtain ⟨hb,hg⟩:=h;exact ⟨blk_grown hb hw hne,hg⟩
theorem IsS64.below {w0 W:World} {g:Nat} {f0:ByteArray} {f1:Int} {f2:Int} {W1:World} (h:IsS64 w0 W g f0 f1 f2) (hw:Below W.heap.size W W1):IsS64 w0 W1 g f0 f1 f2:=h.grown (grown_of_below hw none) (by simp)
theorem IsS64.alloc {w0 W:World} {g:Nat} {f0:ByteArray} {f1:Int} {f2:Int} (h:IsS64 w0 W g f0 f1 f2) (o:Obj):IsS64 w0 (W.alloc o) g f0 f1 f2:=h.below (below_alloc (Below.refl _ _) o)
theorem IsS64.drewN {w0 W:World} {g:Nat} {f0:ByteArray} {f1:Int} {f2:Int} (h:IsS64 w0 W g f0 f1 f2) (m:Nat):IsS64 w0 (W.drewN m) g f0 f1 f2:=h
theorem IsS64.drew {w0 W:World} {g:Nat} {f0:ByteArray} {f1:Int} {f2:Int} (h:IsS64 w0 W g f0 f1 f2):IsS64 w0 W.drew g f0 f1 f2:=h
theorem IsS64.apart {w0 W:World} {g:Nat} {f0:ByteArray} {f1:Int} {f2:Int} {α : Type} {d:Kd α} {e:Nat} {base:Nat} {ok:Nat→Prop} {v:Value} {xs:List α} (h:IsS64 w0 W g f0 f1 f2) (ho:d.R e W base ok v xs) (ht:∀ q,q∈e :: d.E→q≠64):d.R e W base (fun k=>ok k∧k≠g) v xs:=by
 obtain ⟨hb,hg⟩:=h;exact Kd.R_types ho hb ht
theorem IsS64.own_ne {w0 W:World} {g:Nat} {f0:ByteArray} {f1:Int} {f2:Int} {α : Type} {d:Kd α} {e:Nat} {base:Nat} {ok:Nat→Prop} {v:Value} {xs:List α} (h:IsS64 w0 W g f0 f1 f2) (ho:d.R e W base ok v xs) (ht:e≠64):some g≠v.ownBlock:=by
 obtain ⟨hb,hg⟩:=h;exact Kd.R_ne ho hb ht
theorem IsS64.apartS {w0 W:World} {g:Nat} {f0:ByteArray} {f1:Int} {f2:Int} {α : Type} {d:Kd α} {e:Nat} {base:Nat} {ok:Nat→Prop} {v:Value} {xs:List α} (h:IsS64 w0 W g f0 f1 f2) (ho:d.S e W base ok v xs) (ht:∀ q,q∈e :: d.E→q≠64):d.S e W base (fun k=>ok k∧k≠g) v xs:=by
 obtain ⟨hb,hg⟩:=h;exact Kd.S_types ho hb ht
theorem IsS64.own_neS {w0 W:World} {g:Nat} {f0:ByteArray} {f1:Int} {f2:Int} {α : Type} {d:Kd α} {e:Nat} {base:Nat} {ok:Nat→Prop} {v:Value} {xs:List α} (h:IsS64 w0 W g f0 f1 f2) (ho:d.S e W base ok v xs) (ht:e≠64):some g≠v.ownBlock:=by
 obtain ⟨hb,hg⟩:=h;exact Kd.S_ne ho hb ht
theorem IsS64.lt {w0 W:World} {g:Nat} {f0:ByteArray} {f1:Int} {f2:Int} (h:IsS64 w0 W g f0 f1 f2):g < W.heap.size:=by
 obtain ⟨hb,hg⟩:=h;exact blk_lt hb
theorem IsS64.ge {w0 W:World} {g:Nat} {f0:ByteArray} {f1:Int} {f2:Int} (h:IsS64 w0 W g f0 f1 f2):w0.heap.size≤g:=by
 obtain ⟨hb,hg⟩:=h;exact hg
theorem IsS64.far {w0 W:World} {g:Nat} {f0:ByteArray} {f1:Int} {f2:Int} {p:Addr} (h:IsS64 w0 W g f0 f1 f2) (hne:g≠p.block) (u:Value):IsS64 w0 (W.setCell p u) g f0 f1 f2:=by
 obtain ⟨hb,hg⟩:=h;exact ⟨blk_far hb hne u,hg⟩
theorem cellS64_0 {W:World} {g:Nat} {f0:ByteArray} {f1:Int} {f2:Int} (h:W.heap[g]?=some (.cells #[.string f0,.int .i64 f1,.int .i64 f2] 64 (0,0))):W.cell? ⟨g,0,none⟩=some (.string f0):=(blk_cell h 0).trans rfl
theorem IsS64.set_0 {w0 W:World} {g:Nat} {f0:ByteArray} {f1:Int} {f2:Int} (h:IsS64 w0 W g f0 f1 f2) (x:ByteArray):IsS64 w0 (W.setCell ⟨g,0,none⟩ (.string x)) g x f1 f2:=by
 obtain ⟨hb,hg⟩:=h;exact ⟨by simpa using blk_set hb 0 (.string x),hg⟩
theorem cellS64_1 {W:World} {g:Nat} {f0:ByteArray} {f1:Int} {f2:Int} (h:W.heap[g]?=some (.cells #[.string f0,.int .i64 f1,.int .i64 f2] 64 (0,0))):W.cell? ⟨g,1,none⟩=some (.int .i64 f1):=(blk_cell h 1).trans rfl
theorem IsS64.set_1 {w0 W:World} {g:Nat} {f0:ByteArray} {f1:Int} {f2:Int} (h:IsS64 w0 W g f0 f1 f2) (x:Int):IsS64 w0 (W.setCell ⟨g,1,none⟩ (.int .i64 x)) g f0 x f2:=by
 obtain ⟨hb,hg⟩:=h;exact ⟨by simpa using blk_set hb 1 (.int .i64 x),hg⟩
theorem cellS64_2 {W:World} {g:Nat} {f0:ByteArray} {f1:Int} {f2:Int} (h:W.heap[g]?=some (.cells #[.string f0,.int .i64 f1,.int .i64 f2] 64 (0,0))):W.cell? ⟨g,2,none⟩=some (.int .i64 f2):=(blk_cell h 2).trans rfl
theorem IsS64.set_2 {w0 W:World} {g:Nat} {f0:ByteArray} {f1:Int} {f2:Int} (h:IsS64 w0 W g f0 f1 f2) (x:Int):IsS64 w0 (W.setCell ⟨g,2,none⟩ (.int .i64 x)) g f0 f1 x:=by
 obtain ⟨hb,hg⟩:=h;exact ⟨by simpa using blk_set hb 2 (.int .i64 x),hg⟩
def req_reader_wrong.f (s0_0:ByteArray) (s0_1:Int) (s0_2:Int) (a1:Int):Option (ByteArray×Int×Int):=if s0_2=0 then (some (s0_0,s0_1,a1)) else (some (s0_0,s0_1,s0_2))
set_option maxHeartbeats 8000000 in
set_option maxRecDepth 100000 in
theorem req_reader_wrong.calls (g:Nat) (s0_0:ByteArray) (s0_1:Int) (s0_2:Int) (a1:Int) (r1:ByteArray) (r2:Int) (r3:Int) (w0 w:World) (hI:IsS64 w0 w g s0_0 s0_1 s0_2) (hB:Below w0.heap.size w0 w) (h:req_reader_wrong.f s0_0 s0_1 s0_2 a1=some (r1,r2,r3)):
  Calls Tryz.prog 57 #[.pointer (some ⟨g,0,none⟩),.int .i64 a1] w fun e w'=>e = .returned (.tuple #[])∧IsS64 w0 w' g r1 r2 r3∧Below w0.heap.size w0 w'∧KeepBut w w' g none:=by
 have HI0:=Mk hI;have HK:=Mk (KeepBut.refl w g none);have HL:=Mk hB.size;clear hI;have HW0:=Mk hB.size;have HB:=Mk hB;clear hB;have H:(if s0_2=0 then (some (s0_0,s0_1,a1)) else (some (s0_0,s0_1,s0_2)))=some (r1,r2,r3):=h;clear h;by_cases c3:s0_2=0
 ·rw [if_pos c3] at H
  have c3b0:=beq_iff_eq.mpr c3;have c3b1:=bne_eq_false_iff_eq.mpr c3;clear c3;simp only [Option.some.injEq,Prod.mk.injEq] at H;obtain ⟨rfl,rfl,rfl⟩:=H;obtain ⟨HGz4,hgz4⟩:=HI0.out;have hcz4_0:=cellS64_0 HGz4;have hcz4_1:=cellS64_1 HGz4;have hcz4_2:=cellS64_2 HGz4;have hfz4_0:=blk_frozen HGz4 0;have hfz4_1:=blk_frozen HGz4 1;have hfz4_2:=blk_frozen HGz4 2;clear HGz4 hgz4;go_enter Tryz.func57,Tryz.ntmps57
  go_wp2
  first|go_end0|((try simp only [Exit.inBlock,Exit.then]);refine bodyPost_ret (results_none rfl _ _ _) rfl ?_)
  exact ⟨eW,hI HI0,bB,kK⟩
 ·rw [if_neg c3] at H
  have c3b0:=beq_eq_false_iff_ne.mpr c3;have c3b1:=bne_iff_ne.mpr c3;simp only [Option.some.injEq,Prod.mk.injEq] at H;obtain ⟨rfl,rfl,rfl⟩:=H;obtain ⟨HGz5,hgz5⟩:=HI0.out;have hcz5_0:=cellS64_0 HGz5;have hcz5_1:=cellS64_1 HGz5;have hcz5_2:=cellS64_2 HGz5;have hfz5_0:=blk_frozen HGz5 0;have hfz5_1:=blk_frozen HGz5 1;have hfz5_2:=blk_frozen HGz5 2;clear HGz5 hgz5;go_enter Tryz.func57,Tryz.ntmps57
  go_wp2
  first|go_end0|((try simp only [Exit.inBlock,Exit.then]);refine bodyPost_ret (results_none rfl _ _ _) rfl ?_)
  exact ⟨eW,hI HI0,bB,kK⟩
def strings_IndexAny.f (a0:ByteArray) (a1:ByteArray):Option Int:=
 if a0.size < 4294967281∧a1.size < 4294967281∧(a0.data.toList.all fun b=>decide (b.toNat < 128))=true∧(a1.data.toList.all fun b=>decide (b.toNat < 128))=true then some (Lib.indexAny a0.data.toList a1.data.toList) else none
theorem strings_IndexAny.calls (a0:ByteArray) (a1:ByteArray) (r:Int) (w:World) (h:strings_IndexAny.f a0 a1=some r):
  Calls Tryz.prog 81 #[.string a0,.string a1] w fun e w'=>e = .returned (.int .i64 r)∧Below w.heap.size w w':=by
 unfold strings_IndexAny.f at h
 split at h
 ·rename_i c
  obtain ⟨c1,c2,c3,c4⟩:=c;obtain rfl:=Option.some.inj h;exact Tryz.strings_IndexAny_laid a0 a1 w c1 c2 (ascii_of_all c3) (ascii_of_all c4)
 ·cases h
def req_reader_upTo.f (s0_0:ByteArray) (s0_1:Int) (s0_2:Int) (a1:ByteArray):Option (ByteArray×ByteArray×Int×Int):=
 if 0≤s0_1∧s0_1≤(s0_0.size:Int)∧(s0_0.size:Int)≤9223372036854775807 then
  (strings_IndexAny.f (s0_0.extract s0_1.toNat s0_0.size) a1).bind fun n=>
   if (if n < 0 then (s0_0.size:Int) else s0_1+n)≤(s0_0.size:Int) then
    some (s0_0.extract s0_1.toNat (if n < 0 then (s0_0.size:Int) else s0_1+n).toNat,s0_0,(if n < 0 then (s0_0.size:Int) else s0_1+n),s0_2)
   else none
 else none
theorem wrapI {x:Int} (h1 : -9223372036854775808≤x) (h2:x≤9223372036854775807):IntKind.i64.wrap x=x:=by
 simp only [IntKind.wrap,IntKind.signed,IntKind.bits];simp;omega
set_option maxRecDepth 100000 in
set_option maxHeartbeats 4000000 in
theorem req_reader_upTo.calls (g:Nat) (s0_0:ByteArray) (s0_1:Int) (s0_2:Int) (a1:ByteArray) (r1:ByteArray) (r2:ByteArray) (r3:Int) (r4:Int) (w0 w:World) (hI:IsS64 w0 w g s0_0 s0_1 s0_2) (hB:Below w0.heap.size w0 w) (h:req_reader_upTo.f s0_0 s0_1 s0_2 a1=some (r1,r2,r3,r4)):
  Calls Tryz.prog 58 #[.pointer (some ⟨g,0,none⟩),.string a1] w fun e w'=>e = .returned (.string r1)∧IsS64 w0 w' g r2 r3 r4∧Below w0.heap.size w0 w'∧KeepBut w w' g none:=by
 unfold req_reader_upTo.f at h
 split at h
 case isFalse=>cases h
 rename_i hc
 obtain ⟨h0,h1,h2⟩:=hc;obtain ⟨n,hn,h⟩:=Option.bind_eq_some_iff.1 h;obtain ⟨q,rfl⟩:=Int.eq_ofNat_of_zero_le h0;have HI:=Mk hI;have c0:w.cell? ⟨g,0,none⟩=some (.string s0_0):=(blk_cell hI.1 0).trans rfl;have c1:w.cell? ⟨g,1,none⟩=some (.int .i64 (q:Int)):=(blk_cell hI.1 1).trans rfl;have HC:=Mk (fun W=>strings_IndexAny.calls _ _ n W hn);have hq3:((q:Int)).toNat=q:=by omega
 rw [hq3] at HC h;have hgl:=hI.lt;clear hn hI;obtain ⟨m,hmd⟩:∃ m:Int,m=if n < 0 then (s0_0.size:Int) else (q:Int)+n:=⟨_,rfl⟩
 rw [← hmd] at h;by_cases hm:m≤(s0_0.size:Int)
 case neg=>rw [if_neg hm] at h;cases h
 rw [if_pos hm] at h;simp only [Option.some.injEq,Prod.mk.injEq] at h;obtain ⟨rfl,rfl,rfl,rfl⟩:=h;have hq0:(q:Int)≤m:=by rw [hmd];split<;>omega
 have hm0:0≤m:=by omega
 go_enter Tryz.func58,Tryz.ntmps58
 go_wp2
 refine wp_region_noPanic ?_
 go_region_law (go_simp;refine (HC.out _).mono ?_;rintro e w1 ⟨rfl,hb1⟩)
 all_goals refine NoPanic.normal ?_
 all_goals
  have d0:=(hb1.cell (p:=⟨g,0,none⟩) (by show g < _;exact hgl)).trans c0;have d1:=(hb1.cell (p:=⟨g,1,none⟩) (by show g < _;exact hgl)).trans c1;have db:=(hb1.block g hgl).trans HI.out.1;have df:=blk_frozen db 1;clear c0 c1;have e5:(0:Int)≤(q:Int):=by omega
  have e6:((q:Int)).toNat=q:=by omega
  by_cases hneg:n < 0
  ·have hd:=decide_eq_true hneg
   rw [if_pos hneg] at hmd;have hw1:IntKind.i64.wrap ((s0_0.size:Int) - (q:Int))=(s0_0.size:Int) - (q:Int):=wrapI (by omega) (by omega);have hw2:IntKind.i64.wrap ((q:Int)+((s0_0.size:Int) - (q:Int)))=m:=(wrapI (by omega) (by omega)).trans (by omega);have hw3:IntKind.i64.wrap (m - ((s0_0.size:Int) - (q:Int)))=(q:Int):=(wrapI (by omega) (by omega)).trans (by omega);have HMD:=Mk hmd;clear hmd
   go_wp2
   refine wp_region_noPanic ?_
   go_region_law (skip)
   all_goals refine NoPanic.normal ?_
   all_goals go_wp2
   all_goals
    have g0:(w1.setCell ⟨g,1,none⟩ (.int .i64 m)).cell? ⟨g,0,none⟩=some (.string s0_0):=(blk_cell (blk_put db 1 (.int .i64 m) rfl) 0).trans rfl;have g1:(w1.setCell ⟨g,1,none⟩ (.int .i64 m)).cell? ⟨g,1,none⟩=some (.int .i64 m):=(blk_cell (blk_put db 1 (.int .i64 m) rfl) 1).trans rfl;have gb:=blk_put db 1 (.int .i64 m) rfl;have hsz:w.heap.size≤w1.heap.size:=hb1.size;have HB3:Below w0.heap.size w0 (w1.setCell ⟨g,1,none⟩ (.int .i64 m)):=(hB.trans ((show Below w.heap.size w w1 from ⟨hb1.os,hb1.tape,hb1.output,hb1.size,hb1.block⟩).mono hB.size)).setCell (p:=⟨g,1,none⟩) HI.out.2 _;have HK:KeepBut w (w1.setCell ⟨g,1,none⟩ (.int .i64 m)) g none:=⟨by simpa using hsz,fun k hk hne _=>(Below.heap_setCell w1 ⟨g,1,none⟩ _ k hne).trans (hb1.block k hk)⟩
    generalize (w1.setCell ⟨g,1,none⟩ (.int .i64 m))=w2 at *
    have hge:(q:Int)≤m:=hq0;refine wp_region_noPanic ?_
    go_region_law (skip)
    all_goals refine NoPanic.normal ?_
    all_goals go_wp2
    all_goals go_ret
    all_goals exact ⟨rfl,⟨gb,HI.out.2⟩,by repeat (first|exact HB3|apply below_drew1),⟨HK.1,HK.2⟩⟩
  ·have hd:=decide_eq_false hneg
   rw [if_neg hneg] at hmd;have hw2:IntKind.i64.wrap ((q:Int)+n)=m:=(wrapI (by omega) (by omega)).trans (by omega);have hw3:IntKind.i64.wrap (m - n)=(q:Int):=(wrapI (by omega) (by omega)).trans (by omega);have HMD:=Mk hmd;clear hmd
   go_wp2
   have g0:(w1.setCell ⟨g,1,none⟩ (.int .i64 m)).cell? ⟨g,0,none⟩=some (.string s0_0):=(blk_cell (blk_put db 1 (.int .i64 m) rfl) 0).trans rfl;have g1:(w1.setCell ⟨g,1,none⟩ (.int .i64 m)).cell? ⟨g,1,none⟩=some (.int .i64 m):=(blk_cell (blk_put db 1 (.int .i64 m) rfl) 1).trans rfl;have gb:=blk_put db 1 (.int .i64 m) rfl;have hsz:w.heap.size≤w1.heap.size:=hb1.size;have HB3:Below w0.heap.size w0 (w1.setCell ⟨g,1,none⟩ (.int .i64 m)):=(hB.trans ((show Below w.heap.size w w1 from ⟨hb1.os,hb1.tape,hb1.output,hb1.size,hb1.block⟩).mono hB.size)).setCell (p:=⟨g,1,none⟩) HI.out.2 _;have HK:KeepBut w (w1.setCell ⟨g,1,none⟩ (.int .i64 m)) g none:=⟨by simpa using hsz,fun k hk hne _=>(Below.heap_setCell w1 ⟨g,1,none⟩ _ k hne).trans (hb1.block k hk)⟩
   generalize (w1.setCell ⟨g,1,none⟩ (.int .i64 m))=w2 at *
   have hge:(q:Int)≤m:=hq0;refine wp_region_noPanic ?_
   go_region_law (skip)
   all_goals refine NoPanic.normal ?_
   all_goals go_wp2
   all_goals go_ret
   all_goals exact ⟨rfl,⟨gb,HI.out.2⟩,by repeat (first|exact HB3|apply below_drew1),⟨HK.1,HK.2⟩⟩
def stringslite_HasPrefix.f (a0:ByteArray) (a1:ByteArray):Option (Bool):=if (a0.size:Int) ≥ (a1.size:Int) then (if 0≤(a1.size:Int) then (if (a1.size:Int)≤(a0.size:Int) then (some ((a0.extract 0 ((a1.size:Int):Int).toNat).toList == a1.toList)) else (none)) else (none)) else (some false)
set_option maxHeartbeats 8000000 in
set_option maxRecDepth 100000 in
theorem stringslite_HasPrefix.calls (a0:ByteArray) (a1:ByteArray) (r:Bool) (w:World) (h:stringslite_HasPrefix.f a0 a1=some r):
  Calls Tryz.prog 95 #[.string a0,.string a1] w fun e w'=>e = .returned (.bool r)∧Drawn0 w w':=by
 have H:(if (a0.size:Int) ≥ (a1.size:Int) then (if 0≤(a1.size:Int) then (if (a1.size:Int)≤(a0.size:Int) then (some ((a0.extract 0 ((a1.size:Int):Int).toNat).toList == a1.toList)) else (none)) else (none)) else (some false))=some r:=h;clear h;by_cases c3:(a0.size:Int) ≥ (a1.size:Int)
 ·rw [if_pos c3] at H
  have c3b0:=decide_eq_true c3;have c3b1:decide (a1.size≤a0.size)=true:=decide_eq_true (Int.ofNat_le.mp c3);clear c3;by_cases c4:0≤(a1.size:Int)
  ·rw [if_pos c4] at H
   have c4b0:=eq_true c4;have c4b1:=decide_eq_true c4;clear c4;by_cases c5:(a1.size:Int)≤(a0.size:Int)
   ·rw [if_pos c5] at H
    have c5b0:=eq_true c5;have c5b1:=decide_eq_true c5;clear c5;obtain rfl:=Option.some.inj H;go_enter Tryz.func95,Tryz.ntmps95
    go_wp2
    go_ret
    exact ⟨by first|rfl|(simp;done)|(simp [*];done),by repeat (first|exact Drawn0.refl _|apply Drawn0.step)⟩
   ·rw [if_neg c5] at H
    exact absurd H (by simp)
  ·rw [if_neg c4] at H
   exact absurd H (by simp)
 ·rw [if_neg c3] at H
  have c3b0:=decide_eq_false c3;have c3b1:decide (a1.size≤a0.size)=false:=decide_eq_false (fun h=>c3 (Int.ofNat_le.mpr h));clear c3;obtain rfl:=Option.some.inj H;go_enter Tryz.func95,Tryz.ntmps95
  go_wp2
  go_ret
  exact ⟨by first|rfl|(simp;done)|(simp [*];done),by repeat (first|exact Drawn0.refl _|apply Drawn0.step)⟩
def strings_HasPrefix.f (a0:ByteArray) (a1:ByteArray):Option (Bool):=(stringslite_HasPrefix.f a0 a1).bind fun t215=>(some t215)
set_option maxHeartbeats 8000000 in
set_option maxRecDepth 100000 in
theorem strings_HasPrefix.calls (a0:ByteArray) (a1:ByteArray) (r:Bool) (w:World) (h:strings_HasPrefix.f a0 a1=some r):
  Calls Tryz.prog 70 #[.string a0,.string a1] w fun e w'=>e = .returned (.bool r)∧Drawn0 w w':=by
 have H:((stringslite_HasPrefix.f a0 a1).bind fun t215=>(some t215))=some r:=h;clear h;replace H:=Option.bind_eq_some_iff.mp H;obtain ⟨t215,A30,H⟩:=H;try dsimp only at H
 have A3:=Mk A30;clear A30;obtain rfl:=Option.some.inj H;go_enter Tryz.func70,Tryz.ntmps70
 go_wp2_with (first|(go_at_call 95;(with_reducible refine (stringslite_HasPrefix.calls a0 a1 t215 _ A3.out).mono ?_);rintro e w' ⟨rfl,⟨nd,rfl⟩⟩))
 go_ret
 exact ⟨by first|rfl|(simp;done)|(simp [*];done),by repeat (first|exact Drawn0.refl _|apply Drawn0.step)⟩
def req_reader_sign.j0:Nat→ByteArray→Bool→ByteArray→Int→Int→Option (ByteArray×Int×Int)
 | 0,_,_,_,_,_=>none
 |k+1,x1,x22,x1000,x1001,x1002=>if x22=true then ((req_reader_wrong.f x1000 x1001 x1002 2).bind fun bt217=>(if bt217.2.2=0 then (some (bt217.1,wrap64 (bt217.2.1+(x1.size:Int)),bt217.2.2)) else (some (bt217.1,bt217.2.1,bt217.2.2)))) else (if x1002=0 then (some (x1000,wrap64 (x1001+(x1.size:Int)),x1002)) else (some (x1000,x1001,x1002)))
def req_reader_sign.f (k:Nat) (s0_0:ByteArray) (s0_1:Int) (s0_2:Int) (a1:ByteArray):Option (ByteArray×Int×Int):=if s0_2=0 then (if 0≤s0_1 then (if s0_1≤(s0_0.size:Int) then ((strings_HasPrefix.f (s0_0.extract (s0_1:Int).toNat s0_0.size) a1).bind fun t216=>(req_reader_sign.j0 k a1 (!t216) s0_0 s0_1 s0_2)) else (none)) else (none)) else (req_reader_sign.j0 k a1 false s0_0 s0_1 s0_2)
set_option maxHeartbeats 8000000 in
set_option maxRecDepth 100000 in
theorem req_reader_sign.calls (k:Nat) (g:Nat) (s0_0:ByteArray) (s0_1:Int) (s0_2:Int) (a1:ByteArray) (r1:ByteArray) (r2:Int) (r3:Int) (w0 w:World) (hI:IsS64 w0 w g s0_0 s0_1 s0_2) (hB:Below w0.heap.size w0 w) (h:req_reader_sign.f k s0_0 s0_1 s0_2 a1=some (r1,r2,r3)):
  Calls Tryz.prog 36 #[.pointer (some ⟨g,0,none⟩),.string a1] w fun e w'=>e = .returned (.tuple #[])∧IsS64 w0 w' g r1 r2 r3∧Below w0.heap.size w0 w'∧KeepBut w w' g none:=by
 have HI0:=Mk hI;have HK:=Mk (KeepBut.refl w g none);have HL:=Mk hB.size;clear hI;have HW0:=Mk hB.size;have HB:=Mk hB;clear hB;have H:(if s0_2=0 then (if 0≤s0_1 then (if s0_1≤(s0_0.size:Int) then ((strings_HasPrefix.f (s0_0.extract (s0_1:Int).toNat s0_0.size) a1).bind fun t216=>(req_reader_sign.j0 k a1 (!t216) s0_0 s0_1 s0_2)) else (none)) else (none)) else (req_reader_sign.j0 k a1 false s0_0 s0_1 s0_2))=some (r1,r2,r3):=h;clear h;have HC3:=Mk H;clear H;go_enter Tryz.func36,Tryz.ntmps36
 go_upto_region 0 with (fail)
 repeat (go_quiet (fail);go_upto_region 0 with (fail))
 go_cut [22] (fun v22 wc=>∃ (kq:Nat) (x22_2:Bool),v22 = .bool x22_2∧Aside0 (req_reader_sign.j0 kq a1 x22_2 s0_0 s0_1 s0_2=some (r1,r2,r3))∧Aside0 (kq≤k)∧Aside0 (IsS64 w0 wc g s0_0 s0_1 s0_2)∧Aside0 (KeepBut w wc g none)∧Aside0 (Below w0.heap.size w0 wc))
 case first=>
  have H:=HC3.out;clear HC3;by_cases c4:s0_2=0
  ·rw [if_pos c4] at H
   have c4b0:=beq_iff_eq.mpr c4;have c4b1:=bne_eq_false_iff_eq.mpr c4;clear c4;(first|rw [c4b0]|(simp only [i64_w,i32_w];rw [c4b0])|skip);by_cases c5:0≤s0_1
   ·rw [if_pos c5] at H
    have c5b0:=eq_true c5;have c5b1:=decide_eq_true c5;clear c5;by_cases c6:s0_1≤(s0_0.size:Int)
    ·rw [if_pos c6] at H
     have c6b0:=eq_true c6;have c6b1:=decide_eq_true c6;clear c6;replace H:=Option.bind_eq_some_iff.mp H;obtain ⟨t216,A70,H⟩:=H;try dsimp only at H
     have A7:=Mk A70;clear A70;have H':=Mk H;clear H;obtain ⟨HGz8,hgz8⟩:=HI0.out;have hcz8_0:=cellS64_0 HGz8;have hcz8_1:=cellS64_1 HGz8;have hcz8_2:=cellS64_2 HGz8;have hfz8_0:=blk_frozen HGz8 0;have hfz8_1:=blk_frozen HGz8 1;have hfz8_2:=blk_frozen HGz8 2;clear HGz8 hgz8
     go_wp2_with (first|(go_at_call 70;(with_reducible refine (strings_HasPrefix.calls (s0_0.extract (s0_1:Int).toNat s0_0.size) a1 t216 _ A7.out).mono ?_);rintro e w' ⟨rfl,⟨nd,rfl⟩⟩;(try first|exact ⟨rfl,_,World.drewN_drewN _ _ _⟩|exact ⟨rfl,_,Eq.trans (World.drewN_drewN _ _ _) (congrArg (World.drewN _) (Nat.add_assoc _ _ _))⟩)))
     repeat (go_quiet (first|(go_at_call 70;(with_reducible refine (strings_HasPrefix.calls (s0_0.extract (s0_1:Int).toNat s0_0.size) a1 t216 _ A7.out).mono ?_);rintro e w' ⟨rfl,⟨nd,rfl⟩⟩;(try first|exact ⟨rfl,_,World.drewN_drewN _ _ _⟩|exact ⟨rfl,_,Eq.trans (World.drewN_drewN _ _ _) (congrArg (World.drewN _) (Nat.add_assoc _ _ _))⟩)));try go_wp2_with (first|(go_at_call 70;(with_reducible refine (strings_HasPrefix.calls (s0_0.extract (s0_1:Int).toNat s0_0.size) a1 t216 _ A7.out).mono ?_);rintro e w' ⟨rfl,⟨nd,rfl⟩⟩;(try first|exact ⟨rfl,_,World.drewN_drewN _ _ _⟩|exact ⟨rfl,_,Eq.trans (World.drewN_drewN _ _ _) (congrArg (World.drewN _) (Nat.add_assoc _ _ _))⟩))))
     go_meet
     case rel=>exact ⟨_,(!t216),sS,H',⟨by first|omega|exact Nat.le_refl _⟩,⟨hI HI0⟩,⟨kK⟩,⟨bB⟩⟩
    ·rw [if_neg c6] at H
     exact absurd H (by simp)
   ·rw [if_neg c5] at H
    exact absurd H (by simp)
  ·rw [if_neg c4] at H
   have c4b0:=beq_eq_false_iff_ne.mpr c4;have c4b1:=bne_iff_ne.mpr c4;(first|rw [c4b0]|(simp only [i64_w,i32_w];rw [c4b0])|skip);have H':=Mk H;clear H;obtain ⟨HGz9,hgz9⟩:=HI0.out;have hcz9_0:=cellS64_0 HGz9;have hcz9_1:=cellS64_1 HGz9;have hcz9_2:=cellS64_2 HGz9;have hfz9_0:=blk_frozen HGz9 0;have hfz9_1:=blk_frozen HGz9 1;have hfz9_2:=blk_frozen HGz9 2;clear HGz9 hgz9
   go_wp2
   repeat (go_quiet (fail);try go_wp2)
   go_meet
   case rel=>exact ⟨_,(false),sS,H',⟨by first|omega|exact Nat.le_refl _⟩,⟨hI HI0⟩,⟨kK⟩,⟨bB⟩⟩
 case rest=>
  clear HC3;try clear p2
  try clear c3
  try clear c4
  try clear c4b0
  try clear c4b1
  try clear c5
  try clear c5b0
  try clear c5b1
  try clear c6
  try clear c6b0
  try clear c6b1
  obtain ⟨kq,x22_2,rfl,HA,HJ2,HI0,HK,HB⟩:=hcut
  cases kq with
  |zero=>exact absurd HA.out (by simp [req_reader_sign.j0])
  |succ kj2=>
   have H:=HA.out;clear HA;simp only [req_reader_sign.j0] at H;by_cases c10:x22_2=true
   ·subst c10
    rw [if_pos rfl] at H;try dsimp only at H
    replace H:=Option.bind_eq_some_iff.mp H;obtain ⟨⟨t217,t218,t219⟩,A110,H⟩:=H;try dsimp only at H
    have A11:=Mk A110;clear A110;by_cases c12:t219=0
    ·rw [if_pos c12] at H
     have c12b0:=beq_iff_eq.mpr c12;have c12b1:=bne_eq_false_iff_eq.mpr c12;clear c12;simp only [Option.some.injEq,Prod.mk.injEq] at H;obtain ⟨rfl,rfl,rfl⟩:=H
     go_wp2_with (first|(go_at_call 57;(with_reducible refine (req_reader_wrong.calls g s0_0 s0_1 s0_2 2 t217 t218 t219 w0 _ ?side1 ?side2 A11.out).mono ?_);(case side1=>exact hI HI0);(case side2=>exact bB);rintro e w13 ⟨rfl,hi,hb,hk⟩;replace HK:=Mk (KeepBut.trans kK hk (.inl rfl));replace HB:=Mk (hb);replace HI0:=Mk (hi);clear hb hk hi;obtain ⟨HGz14,hgz14⟩:=HI0.out;have hcz14_0:=cellS64_0 HGz14;have hcz14_1:=cellS64_1 HGz14;have hcz14_2:=cellS64_2 HGz14;have hfz14_0:=blk_frozen HGz14 0;have hfz14_1:=blk_frozen HGz14 1;have hfz14_2:=blk_frozen HGz14 2;clear HGz14 hgz14))
     repeat (go_quiet (first|(go_at_call 57;(with_reducible refine (req_reader_wrong.calls g s0_0 s0_1 s0_2 2 t217 t218 t219 w0 _ ?side1 ?side2 A11.out).mono ?_);(case side1=>exact hI HI0);(case side2=>exact bB);rintro e w13 ⟨rfl,hi,hb,hk⟩;replace HK:=Mk (KeepBut.trans kK hk (.inl rfl));replace HB:=Mk (hb);replace HI0:=Mk (hi);clear hb hk hi;obtain ⟨HGz14,hgz14⟩:=HI0.out;have hcz14_0:=cellS64_0 HGz14;have hcz14_1:=cellS64_1 HGz14;have hcz14_2:=cellS64_2 HGz14;have hfz14_0:=blk_frozen HGz14 0;have hfz14_1:=blk_frozen HGz14 1;have hfz14_2:=blk_frozen HGz14 2;clear HGz14 hgz14));try go_wp2_with (first|(go_at_call 57;(with_reducible refine (req_reader_wrong.calls g s0_0 s0_1 s0_2 2 t217 t218 t219 w0 _ ?side1 ?side2 A11.out).mono ?_);(case side1=>exact hI HI0);(case side2=>exact bB);rintro e w13 ⟨rfl,hi,hb,hk⟩;replace HK:=Mk (KeepBut.trans kK hk (.inl rfl));replace HB:=Mk (hb);replace HI0:=Mk (hi);clear hb hk hi;obtain ⟨HGz14,hgz14⟩:=HI0.out;have hcz14_0:=cellS64_0 HGz14;have hcz14_1:=cellS64_1 HGz14;have hcz14_2:=cellS64_2 HGz14;have hfz14_0:=blk_frozen HGz14 0;have hfz14_1:=blk_frozen HGz14 1;have hfz14_2:=blk_frozen HGz14 2;clear HGz14 hgz14)))
     first|go_end0|((try simp only [Exit.inBlock,Exit.then]);refine bodyPost_ret (results_none rfl _ _ _) rfl ?_)
     exact ⟨eW,hI HI0,bB,kK⟩
    ·rw [if_neg c12] at H
     have c12b0:=beq_eq_false_iff_ne.mpr c12;have c12b1:=bne_iff_ne.mpr c12;simp only [Option.some.injEq,Prod.mk.injEq] at H;obtain ⟨rfl,rfl,rfl⟩:=H
     go_wp2_with (first|(go_at_call 57;(with_reducible refine (req_reader_wrong.calls g s0_0 s0_1 s0_2 2 t217 t218 t219 w0 _ ?side1 ?side2 A11.out).mono ?_);(case side1=>exact hI HI0);(case side2=>exact bB);rintro e w15 ⟨rfl,hi,hb,hk⟩;replace HK:=Mk (KeepBut.trans kK hk (.inl rfl));replace HB:=Mk (hb);replace HI0:=Mk (hi);clear hb hk hi;obtain ⟨HGz16,hgz16⟩:=HI0.out;have hcz16_0:=cellS64_0 HGz16;have hcz16_1:=cellS64_1 HGz16;have hcz16_2:=cellS64_2 HGz16;have hfz16_0:=blk_frozen HGz16 0;have hfz16_1:=blk_frozen HGz16 1;have hfz16_2:=blk_frozen HGz16 2;clear HGz16 hgz16))
     repeat (go_quiet (first|(go_at_call 57;(with_reducible refine (req_reader_wrong.calls g s0_0 s0_1 s0_2 2 t217 t218 t219 w0 _ ?side1 ?side2 A11.out).mono ?_);(case side1=>exact hI HI0);(case side2=>exact bB);rintro e w15 ⟨rfl,hi,hb,hk⟩;replace HK:=Mk (KeepBut.trans kK hk (.inl rfl));replace HB:=Mk (hb);replace HI0:=Mk (hi);clear hb hk hi;obtain ⟨HGz16,hgz16⟩:=HI0.out;have hcz16_0:=cellS64_0 HGz16;have hcz16_1:=cellS64_1 HGz16;have hcz16_2:=cellS64_2 HGz16;have hfz16_0:=blk_frozen HGz16 0;have hfz16_1:=blk_frozen HGz16 1;have hfz16_2:=blk_frozen HGz16 2;clear HGz16 hgz16));try go_wp2_with (first|(go_at_call 57;(with_reducible refine (req_reader_wrong.calls g s0_0 s0_1 s0_2 2 t217 t218 t219 w0 _ ?side1 ?side2 A11.out).mono ?_);(case side1=>exact hI HI0);(case side2=>exact bB);rintro e w15 ⟨rfl,hi,hb,hk⟩;replace HK:=Mk (KeepBut.trans kK hk (.inl rfl));replace HB:=Mk (hb);replace HI0:=Mk (hi);clear hb hk hi;obtain ⟨HGz16,hgz16⟩:=HI0.out;have hcz16_0:=cellS64_0 HGz16;have hcz16_1:=cellS64_1 HGz16;have hcz16_2:=cellS64_2 HGz16;have hfz16_0:=blk_frozen HGz16 0;have hfz16_1:=blk_frozen HGz16 1;have hfz16_2:=blk_frozen HGz16 2;clear HGz16 hgz16)))
     first|go_end0|((try simp only [Exit.inBlock,Exit.then]);refine bodyPost_ret (results_none rfl _ _ _) rfl ?_)
     exact ⟨eW,hI HI0,bB,kK⟩
   ·replace c10:=Bool.eq_false_iff.mpr c10
    subst c10;rw [if_neg (show ¬ (false=true) by decide)] at H;try dsimp only at H
    by_cases c17:s0_2=0
    ·rw [if_pos c17] at H
     have c17b0:=beq_iff_eq.mpr c17;have c17b1:=bne_eq_false_iff_eq.mpr c17;clear c17;simp only [Option.some.injEq,Prod.mk.injEq] at H;obtain ⟨rfl,rfl,rfl⟩:=H;obtain ⟨HGz18,hgz18⟩:=HI0.out;have hcz18_0:=cellS64_0 HGz18;have hcz18_1:=cellS64_1 HGz18;have hcz18_2:=cellS64_2 HGz18;have hfz18_0:=blk_frozen HGz18 0;have hfz18_1:=blk_frozen HGz18 1;have hfz18_2:=blk_frozen HGz18 2;clear HGz18 hgz18
     go_wp2
     repeat (go_quiet (fail);try go_wp2)
     first|go_end0|((try simp only [Exit.inBlock,Exit.then]);refine bodyPost_ret (results_none rfl _ _ _) rfl ?_)
     exact ⟨eW,hI HI0,bB,kK⟩
    ·rw [if_neg c17] at H
     have c17b0:=beq_eq_false_iff_ne.mpr c17;have c17b1:=bne_iff_ne.mpr c17;simp only [Option.some.injEq,Prod.mk.injEq] at H;obtain ⟨rfl,rfl,rfl⟩:=H;obtain ⟨HGz19,hgz19⟩:=HI0.out;have hcz19_0:=cellS64_0 HGz19;have hcz19_1:=cellS64_1 HGz19;have hcz19_2:=cellS64_2 HGz19;have hfz19_0:=blk_frozen HGz19 0;have hfz19_1:=blk_frozen HGz19 1;have hfz19_2:=blk_frozen HGz19 2;clear HGz19 hgz19
     go_wp2
     repeat (go_quiet (fail);try go_wp2)
     first|go_end0|((try simp only [Exit.inBlock,Exit.then]);refine bodyPost_ret (results_none rfl _ _ _) rfl ?_)
     exact ⟨eW,hI HI0,bB,kK⟩
def req_reader_is.f (s0_0:ByteArray) (s0_1:Int) (s0_2:Int) (a1:ByteArray):Option (Bool×ByteArray×Int×Int):=if s0_2=0 then (if 0≤s0_1 then (if s0_1≤(s0_0.size:Int) then ((strings_HasPrefix.f (s0_0.extract (s0_1:Int).toNat s0_0.size) a1).bind fun t220=>(if t220=true then (some (true,s0_0,wrap64 (s0_1+(a1.size:Int)),s0_2)) else (some (false,s0_0,s0_1,s0_2)))) else (none)) else (none)) else (some (false,s0_0,s0_1,s0_2))
set_option maxHeartbeats 8000000 in
set_option maxRecDepth 100000 in
theorem req_reader_is.calls (g:Nat) (s0_0:ByteArray) (s0_1:Int) (s0_2:Int) (a1:ByteArray) (r1:Bool) (r2:ByteArray) (r3:Int) (r4:Int) (w0 w:World) (hI:IsS64 w0 w g s0_0 s0_1 s0_2) (hB:Below w0.heap.size w0 w) (h:req_reader_is.f s0_0 s0_1 s0_2 a1=some (r1,r2,r3,r4)):
  Calls Tryz.prog 66 #[.pointer (some ⟨g,0,none⟩),.string a1] w fun e w'=>e = .returned (.bool r1)∧IsS64 w0 w' g r2 r3 r4∧Below w0.heap.size w0 w'∧KeepBut w w' g none:=by
 have HI0:=Mk hI;have HK:=Mk (KeepBut.refl w g none);have HL:=Mk hB.size;clear hI;have HW0:=Mk hB.size;have HB:=Mk hB;clear hB;have H:(if s0_2=0 then (if 0≤s0_1 then (if s0_1≤(s0_0.size:Int) then ((strings_HasPrefix.f (s0_0.extract (s0_1:Int).toNat s0_0.size) a1).bind fun t220=>(if t220=true then (some (true,s0_0,wrap64 (s0_1+(a1.size:Int)),s0_2)) else (some (false,s0_0,s0_1,s0_2)))) else (none)) else (none)) else (some (false,s0_0,s0_1,s0_2)))=some (r1,r2,r3,r4):=h;clear h;by_cases c3:s0_2=0
 ·rw [if_pos c3] at H
  have c3b0:=beq_iff_eq.mpr c3;have c3b1:=bne_eq_false_iff_eq.mpr c3;clear c3;by_cases c4:0≤s0_1
  ·rw [if_pos c4] at H
   have c4b0:=eq_true c4;have c4b1:=decide_eq_true c4;clear c4;by_cases c5:s0_1≤(s0_0.size:Int)
   ·rw [if_pos c5] at H
    have c5b0:=eq_true c5;have c5b1:=decide_eq_true c5;clear c5;replace H:=Option.bind_eq_some_iff.mp H;obtain ⟨t220,A60,H⟩:=H;try dsimp only at H
    have A6:=Mk A60;clear A60;by_cases c7:t220=true
    ·subst c7
     rw [if_pos rfl] at H;try dsimp only at H
     simp only [Option.some.injEq,Prod.mk.injEq] at H;obtain ⟨rfl,rfl,rfl,rfl⟩:=H;obtain ⟨HGz8,hgz8⟩:=HI0.out;have hcz8_0:=cellS64_0 HGz8;have hcz8_1:=cellS64_1 HGz8;have hcz8_2:=cellS64_2 HGz8;have hfz8_0:=blk_frozen HGz8 0;have hfz8_1:=blk_frozen HGz8 1;have hfz8_2:=blk_frozen HGz8 2;clear HGz8 hgz8;go_enter Tryz.func66,Tryz.ntmps66
     go_wp2_with (first|(go_at_call 70;(with_reducible refine (strings_HasPrefix.calls (s0_0.extract (s0_1:Int).toNat s0_0.size) a1 true _ A6.out).mono ?_);rintro e w' ⟨rfl,⟨nd,rfl⟩⟩;(try first|exact ⟨rfl,_,World.drewN_drewN _ _ _⟩|exact ⟨rfl,_,Eq.trans (World.drewN_drewN _ _ _) (congrArg (World.drewN _) (Nat.add_assoc _ _ _))⟩)))
     repeat (go_quiet (first|(go_at_call 70;(with_reducible refine (strings_HasPrefix.calls (s0_0.extract (s0_1:Int).toNat s0_0.size) a1 true _ A6.out).mono ?_);rintro e w' ⟨rfl,⟨nd,rfl⟩⟩;(try first|exact ⟨rfl,_,World.drewN_drewN _ _ _⟩|exact ⟨rfl,_,Eq.trans (World.drewN_drewN _ _ _) (congrArg (World.drewN _) (Nat.add_assoc _ _ _))⟩)));try go_wp2_with (first|(go_at_call 70;(with_reducible refine (strings_HasPrefix.calls (s0_0.extract (s0_1:Int).toNat s0_0.size) a1 true _ A6.out).mono ?_);rintro e w' ⟨rfl,⟨nd,rfl⟩⟩;(try first|exact ⟨rfl,_,World.drewN_drewN _ _ _⟩|exact ⟨rfl,_,Eq.trans (World.drewN_drewN _ _ _) (congrArg (World.drewN _) (Nat.add_assoc _ _ _))⟩))))
     go_ret
     exact ⟨eW,hI HI0,bB,kK⟩
    ·replace c7:=Bool.eq_false_iff.mpr c7
     subst c7;rw [if_neg (show ¬ (false=true) by decide)] at H;try dsimp only at H
     simp only [Option.some.injEq,Prod.mk.injEq] at H;obtain ⟨rfl,rfl,rfl,rfl⟩:=H;obtain ⟨HGz9,hgz9⟩:=HI0.out;have hcz9_0:=cellS64_0 HGz9;have hcz9_1:=cellS64_1 HGz9;have hcz9_2:=cellS64_2 HGz9;have hfz9_0:=blk_frozen HGz9 0;have hfz9_1:=blk_frozen HGz9 1;have hfz9_2:=blk_frozen HGz9 2;clear HGz9 hgz9;go_enter Tryz.func66,Tryz.ntmps66
     go_wp2_with (first|(go_at_call 70;(with_reducible refine (strings_HasPrefix.calls (s0_0.extract (s0_1:Int).toNat s0_0.size) a1 false _ A6.out).mono ?_);rintro e w' ⟨rfl,⟨nd,rfl⟩⟩;(try first|exact ⟨rfl,_,World.drewN_drewN _ _ _⟩|exact ⟨rfl,_,Eq.trans (World.drewN_drewN _ _ _) (congrArg (World.drewN _) (Nat.add_assoc _ _ _))⟩)))
     repeat (go_quiet (first|(go_at_call 70;(with_reducible refine (strings_HasPrefix.calls (s0_0.extract (s0_1:Int).toNat s0_0.size) a1 false _ A6.out).mono ?_);rintro e w' ⟨rfl,⟨nd,rfl⟩⟩;(try first|exact ⟨rfl,_,World.drewN_drewN _ _ _⟩|exact ⟨rfl,_,Eq.trans (World.drewN_drewN _ _ _) (congrArg (World.drewN _) (Nat.add_assoc _ _ _))⟩)));try go_wp2_with (first|(go_at_call 70;(with_reducible refine (strings_HasPrefix.calls (s0_0.extract (s0_1:Int).toNat s0_0.size) a1 false _ A6.out).mono ?_);rintro e w' ⟨rfl,⟨nd,rfl⟩⟩;(try first|exact ⟨rfl,_,World.drewN_drewN _ _ _⟩|exact ⟨rfl,_,Eq.trans (World.drewN_drewN _ _ _) (congrArg (World.drewN _) (Nat.add_assoc _ _ _))⟩))))
     go_ret
     exact ⟨eW,hI HI0,bB,kK⟩
   ·rw [if_neg c5] at H
    exact absurd H (by simp)
  ·rw [if_neg c4] at H
   exact absurd H (by simp)
 ·rw [if_neg c3] at H
  have c3b0:=beq_eq_false_iff_ne.mpr c3;have c3b1:=bne_iff_ne.mpr c3;simp only [Option.some.injEq,Prod.mk.injEq] at H;obtain ⟨rfl,rfl,rfl,rfl⟩:=H;obtain ⟨HGz10,hgz10⟩:=HI0.out;have hcz10_0:=cellS64_0 HGz10;have hcz10_1:=cellS64_1 HGz10;have hcz10_2:=cellS64_2 HGz10;have hfz10_0:=blk_frozen HGz10 0;have hfz10_1:=blk_frozen HGz10 1;have hfz10_2:=blk_frozen HGz10 2;clear HGz10 hgz10;go_enter Tryz.func66,Tryz.ntmps66
  go_wp2
  repeat (go_quiet (fail);try go_wp2)
  go_ret
  exact ⟨eW,hI HI0,bB,kK⟩
def req_reader_word.f (s0_0:ByteArray) (s0_1:Int) (s0_2:Int):Option (ByteArray×ByteArray×Int×Int):=(req_reader_upTo.f s0_0 s0_1 s0_2 (⟨#[32,44,59,41]⟩:ByteArray)).bind fun bt221=>(some (bt221.1,bt221.2.1,bt221.2.2.1,bt221.2.2.2))
set_option maxHeartbeats 8000000 in
set_option maxRecDepth 100000 in
theorem req_reader_word.calls (g:Nat) (s0_0:ByteArray) (s0_1:Int) (s0_2:Int) (r1:ByteArray) (r2:ByteArray) (r3:Int) (r4:Int) (w0 w:World) (hI:IsS64 w0 w g s0_0 s0_1 s0_2) (hB:Below w0.heap.size w0 w) (h:req_reader_word.f s0_0 s0_1 s0_2=some (r1,r2,r3,r4)):
  Calls Tryz.prog 67 #[.pointer (some ⟨g,0,none⟩)] w fun e w'=>e = .returned (.string r1)∧IsS64 w0 w' g r2 r3 r4∧Below w0.heap.size w0 w'∧KeepBut w w' g none:=by
 have HI0:=Mk hI;have HK:=Mk (KeepBut.refl w g none);have HL:=Mk hB.size;clear hI;have HW0:=Mk hB.size;have HB:=Mk hB;clear hB;have H:((req_reader_upTo.f s0_0 s0_1 s0_2 (⟨#[32,44,59,41]⟩:ByteArray)).bind fun bt221=>(some (bt221.1,bt221.2.1,bt221.2.2.1,bt221.2.2.2)))=some (r1,r2,r3,r4):=h;clear h;replace H:=Option.bind_eq_some_iff.mp H;obtain ⟨⟨t221,t222,t223,t224⟩,A20,H⟩:=H;try dsimp only at H
 have A2:=Mk A20;clear A20;simp only [Option.some.injEq,Prod.mk.injEq] at H;obtain ⟨rfl,rfl,rfl,rfl⟩:=H;go_enter Tryz.func67,Tryz.ntmps67
 go_wp2_with (first|((with_reducible refine gate_callee (f:=58) rfl ?_);refine goesL_ (some 4) rfl rfl Tryz.func58 kR rfl #[.pointer (some ⟨g,0,none⟩),.string (⟨#[32,44,59,41]⟩:ByteArray)] rfl mA ?_;(with_reducible refine (req_reader_upTo.calls g s0_0 s0_1 s0_2 (⟨#[32,44,59,41]⟩:ByteArray) t221 t222 t223 t224 w0 _ ?side1 ?side2 A2.out).mono ?_);(case side1=>exact hI HI0);(case side2=>exact bB);rintro e w3 ⟨rfl,hi,hb,hk⟩;refine ⟨_,rfl,?_⟩;replace HK:=Mk (KeepBut.trans kK hk (.inl rfl));replace HB:=Mk (hb);replace HI0:=Mk (hi);clear hb hk hi))
 go_ret
 exact ⟨eW,hI HI0,bB,kK⟩
def strconv_Atoi.f (a0:ByteArray):Option (Int×Option Int):=
 if a0.size≤281474976710656 then
  (match Lib.atoiAll a0.data.toList with
  | .ok v=>some (v,none)
  | .range=>some (Lib.atoiSat a0.data.toList,some 0)
  |_=>some (0,some 0)) else none
theorem strconv_Atoi.calls (a0:ByteArray) (r1:Int) (r2:Option Int) (w:World) (h:strconv_Atoi.f a0=some (r1,r2)) (hG_:Glob w):
  Calls Tryz.prog 69 #[.string a0] w fun e w'=>∃ q_:Int,e = .returned (.tuple #[.int .i64 r1,errW (r2.map fun _=>q_)])∧Below w.heap.size w w':=by
 unfold strconv_Atoi.f at h
 split at h
 ·rename_i c0
  rcases hp:Lib.atoiAll a0.data.toList with v|_|_
  ·rw [hp] at h
   injection h with h
   injection h with h1 h2
   subst h1 h2;refine (Tryz.strconv_Atoi_ok a0 (by omega) v hp w).mono ?_;rintro e w' ⟨rfl,hw⟩;refine ⟨0,rfl,?_⟩;rcases hw with rfl|⟨t,rfl⟩
   ·exact Below.refl _ _
   ·exact Lib.bytesWorld_below _ _ _
  ·rw [hp] at h
   injection h with h
   injection h with h1 h2
   subst h1 h2;obtain ⟨tp,p,hv⟩:=hG_.syn;refine (Tryz.strconv_Atoi_syntax_var a0 (by omega) hp tp p w hv).mono ?_;rintro e w' ⟨N,rfl,_,_,hb⟩;exact ⟨(N:Int),rfl,hb⟩
  ·rw [hp] at h
   injection h with h
   injection h with h1 h2
   subst h1 h2;obtain ⟨tp,p,hv⟩:=hG_.range;refine (Tryz.strconv_Atoi_range_var a0 (by omega) hp tp p w hv).mono ?_;rintro e w' ⟨N,rfl,_,_,hb⟩;exact ⟨(N:Int),rfl,hb⟩
 ·cases h
end Go.Proofs.YtcpjlbdjnaaaiaaGreatDoor.PAll
