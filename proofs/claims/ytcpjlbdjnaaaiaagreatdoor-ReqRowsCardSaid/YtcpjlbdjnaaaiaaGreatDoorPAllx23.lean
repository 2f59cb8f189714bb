import Derived.Test.YtcpjlbdjnaaaiaaGreatDoorPAllx13
import Derived.Test.YtcpjlbdjnaaaiaaGreatDoorPAllx21
import Derived.Test.YtcpjlbdjnaaaiaaGreatDoorPAllx22
namespace Go.Proofs.YtcpjlbdjnaaaiaaGreatDoor.PAll
open Go.Proofs.YtcpjlbdjnaaaiaaGreatDoor.Help
open Go.RowKit Go.Proofs.YtcpjlbdjnaaaiaaGreatDoorW.PrintWords Go.Proofs.YtcpjlbdjnaaaiaaGreatDoorW.PrintLast Go.Proofs.YtcpjlbdjnaaaiaaGreatDoorW.PrintMore
set_option linter.unusedVariables false
set_option linter.unusedSimpArgs false
def norialaw25_known.f:Option Bool:=some true
def kn_in:S30:=⟨8,2,(⟨0,0,(⟨#[]⟩:ByteArray),((0,0):Nat×Nat)⟩:S25),(⟨((0,0):Nat×Nat),((4611686018427387904,13830554455654793216):Nat×Nat)⟩:S27),[]⟩
def kn_cmp:S30:=⟨6,0,(⟨1,3,(⟨#[]⟩:ByteArray),((0,0):Nat×Nat)⟩:S25),(⟨((0,0):Nat×Nat),((0,0):Nat×Nat)⟩:S27),[]⟩
def kn_not:S30:=⟨11,0,(⟨0,0,(⟨#[]⟩:ByteArray),((0,0):Nat×Nat)⟩:S25),(⟨((0,0):Nat×Nat),((0,0):Nat×Nat)⟩:S27),[kn_in]⟩
def kn_s:ByteArray:=(⟨#[111,112,101,110,32,110,44,112,32,97,110,100,40,62,61,32,48,32,51,59,110,111,116,40,105,110,32,50,32,48,43,48,105,32,50,45,49,105,41,41]⟩:ByteArray)
def kn_np:List ByteArray:=[(⟨#[110]⟩:ByteArray),(⟨#[112]⟩:ByteArray)]
def kn_c:S25:=⟨3,0,(⟨#[]⟩:ByteArray),((4611686018427387904,13837309855095848960):Nat×Nat)⟩
def kn_rows:List (List S25):=[[⟨1,1,(⟨#[]⟩:ByteArray),((0,0):Nat×Nat)⟩,(⟨0,0,(⟨#[]⟩:ByteArray),((0,0):Nat×Nat)⟩:S25)],[⟨2,0,(⟨#[97]⟩:ByteArray),((0,0):Nat×Nat)⟩,kn_c]]
set_option maxRecDepth 100000
theorem kn_f1:norialaw11_Cmp.f 6 0 3=some (6,0,1,3,(⟨#[]⟩:ByteArray),((0,0):Nat×Nat),((0,0):Nat×Nat),((0,0):Nat×Nat),[]):=by kernel_rfl
theorem kn_f2:norialaw11_Not.f 8 2 0 0 (⟨#[]⟩:ByteArray) ((0,0):Nat×Nat) ((0,0):Nat×Nat) ((4611686018427387904,13830554455654793216):Nat×Nat) []=some (11,0,0,0,(⟨#[]⟩:ByteArray),((0,0):Nat×Nat),((0,0):Nat×Nat),((0,0):Nat×Nat),[kn_in]):=by kernel_rfl
theorem kn_f3:req_Text.f 60 1 0 kn_np 9 0 0 0 (⟨#[]⟩:ByteArray) ((0,0):Nat×Nat) ((0,0):Nat×Nat) ((0,0):Nat×Nat) [kn_cmp,kn_not] []=some (kn_s,0):=by kernel_rfl
theorem kn_f4:req_Parse.f 60 kn_s=some (1,0,kn_np,9,0,0,0,(⟨#[]⟩:ByteArray),((0,0):Nat×Nat),((0,0):Nat×Nat),((0,0):Nat×Nat),[kn_cmp,kn_not],[],0):=by kernel_rfl
theorem kn_f5:req_Parse.f 60 (⟨#[97,112,112,101,110,100,32,49,44,45,59,34,54,49,44,50,45,51,105]⟩:ByteArray)=some (4,0,[],0,0,0,0,(⟨#[]⟩:ByteArray),((0,0):Nat×Nat),((0,0):Nat×Nat),((0,0):Nat×Nat),[],kn_rows,0):=by kernel_rfl
theorem kn_f6:req_Parse.f 60 (⟨#[111,112,101,110,32,110,32,32,97,108,108]⟩:ByteArray)=some (0,0,[],0,0,0,0,(⟨#[]⟩:ByteArray),((0,0):Nat×Nat),((0,0):Nat×Nat),((0,0):Nat×Nat),[],[],2):=by kernel_rfl
theorem kn_f7:req_Parse.f 60 (⟨#[102,101,116,99,104,32,48,49]⟩:ByteArray)=some (0,0,[],0,0,0,0,(⟨#[]⟩:ByteArray),((0,0):Nat×Nat),((0,0):Nat×Nat),((0,0):Nat×Nat),[],[],2):=by kernel_rfl
theorem kn_f9:req_Parse.f 60 (⟨#[111,112,101,110,32,110,32,97,110,100,40,97,108,108,41]⟩:ByteArray)=some (0,0,[],0,0,0,0,(⟨#[]⟩:ByteArray),((0,0):Nat×Nat),((0,0):Nat×Nat),((0,0):Nat×Nat),[],[],2):=by kernel_rfl
theorem kn_f8:req_Text.f 60 2 0 [(⟨#[110]⟩:ByteArray)] 0 0 0 0 (⟨#[]⟩:ByteArray) ((0,0):Nat×Nat) ((0,0):Nat×Nat) ((0,0):Nat×Nat) [] []=some ((⟨#[]⟩:ByteArray),1):=by kernel_rfl
theorem kn_f10:req_PredParse.f 60 (⟨#[110,111,116,40,110,111,116,40,110,111,116,40,110,111,116,40,110,111,116,40,110,111,116,40,110,111,116,40,110,111,116,40,97,108,108,41,41,41,41,41,41,41,41]⟩:ByteArray)=some (0,0,0,0,(⟨#[]⟩:ByteArray),((0,0):Nat×Nat),((0,0):Nat×Nat),((0,0):Nat×Nat),[],16):=by kernel_rfl
theorem kn_f11:req_Text.f 60 5 0 [] 0 0 0 0 (⟨#[]⟩:ByteArray) ((0,0):Nat×Nat) ((0,0):Nat×Nat) ((0,0):Nat×Nat) [] []=some ((⟨#[99,111,117,110,116]⟩:ByteArray),0):=by kernel_rfl
theorem kn_f15:req_Same.f 60 1 0 kn_np 9 0 0 0 (⟨#[]⟩:ByteArray) ((0,0):Nat×Nat) ((0,0):Nat×Nat) ((0,0):Nat×Nat) [kn_cmp,kn_not] [] 1 0 kn_np 9 0 0 0 (⟨#[]⟩:ByteArray) ((0,0):Nat×Nat) ((0,0):Nat×Nat) ((0,0):Nat×Nat) [kn_cmp,kn_not] []=some true:=by kernel_rfl
theorem kn_f64:req_Same.f 60 4 0 [] 0 0 0 0 (⟨#[]⟩:ByteArray) ((0,0):Nat×Nat) ((0,0):Nat×Nat) ((0,0):Nat×Nat) [] kn_rows 1 0 kn_np 9 0 0 0 (⟨#[]⟩:ByteArray) ((0,0):Nat×Nat) ((0,0):Nat×Nat) ((0,0):Nat×Nat) [kn_cmp,kn_not] []=some false:=by kernel_rfl
theorem kn_f34:norialaw3_C.f 2 (-3)=some (3,0,(⟨#[]⟩:ByteArray),((4611686018427387904,13837309855095848960):Nat×Nat)):=by kernel_rfl
theorem kn_rowC {α : Type} {d:Kd α} {W:World} {b t:Nat} {xs:List α} {inner:List Value} (h:W.heap[b]?=some (.cells inner.toArray t (0,0))) (hr:Reps (d.K W) d.sz xs inner) (hm:xs.length≤9223372036854775807):Kd.C d W (some ⟨b,0,none⟩) xs.length xs:=by
 refine ⟨rfl,hm,fun hp=>⟨_,rfl,fun j p hj=>⟨(inner.drop (j * d.sz)).take d.sz,?_,hr.2 j p hj,fun i u hu=>?_⟩⟩⟩
 ·have h1:=hr.1
  have h2:=(List.getElem?_eq_some_iff.1 hj).1;have h3:j * d.sz+d.sz≤xs.length * d.sz:=by rw [← Nat.succ_mul];exact Nat.mul_le_mul_right _ h2
  rw [List.length_take,List.length_drop];omega
 ·have hi:i < d.sz:=by
   have:=(List.getElem?_eq_some_iff.1 hu).1;rw [List.length_take] at this;omega
  rw [List.getElem?_take,if_pos hi,List.getElem?_drop] at hu;have hc:=blk_cell h (j * d.sz+i);rw [List.getElem?_toArray,hu] at hc;rw [← hc];unfold Addr.add
  split
  ·rename_i h0
   rw [h0]
  ·simp
structure KnAt (g:Nat) (A23:Option Addr) (c23:Nat) (A27:Option Addr) (c27:Nat) (W:World):Prop where
 blk:W.heap[g]?=some (.cells #[.int .i64 1,.int .i64 0,.slice A23 2 c23,.int .i64 9,.int .i64 0,.int .i64 0,.int .i64 0,.string (⟨#[]⟩:ByteArray),.complex .f64 0 0,.complex .f64 0 0,.complex .f64 0 0,.slice A27 2 c27,.slice none 0 0] 38 (0,0))
 cols:Kd.C Kd.string W A23 2 kn_np
 kids:Kd.C k30 W A27 2 [kn_cmp,kn_not]
 h1:2≤c23
 h2:2≤c27
structure KnV where
 g:Nat
 b23:Nat
 A24:Option Addr
 c24:Nat
 A26:Option Addr
 c26:Nat
 b27:Nat
structure KnF (w:World) (x0 x1 x3 x4 x7:Bool) (s:KnV) (W:World):Prop where
 below:Below w.heap.size w W
 p1:W.heap[w.heap.size]?=some (.cells #[.int .i64 8,.int .i64 2,.int .i64 0,.int .i64 0,.string (⟨#[]⟩:ByteArray),.complex .f64 0 0,.complex .f64 0 0,.complex .f64 4611686018427387904 13830554455654793216,.slice none 0 0] 30 (0,0))
 f0:x0=true→W.heap[s.b23]?=some (.cells #[.string (⟨#[110]⟩:ByteArray),.string (⟨#[112]⟩:ByteArray)] 9 (0,0))∧w.heap.size≤s.b23
 f1:x1=true→Kd.N k30 30 W w.heap.size (fun k=>x7=true→k≠s.g) (.slice s.A24 0 s.c24) []
 f3:x3=true→Kd.N k30 30 W w.heap.size (fun k=>x7=true→k≠s.g) (.slice s.A26 1 s.c26) [kn_in]
 f4:x4=true→W.heap[s.b27]?=some (.cells #[.int .i64 6,.int .i64 0,.int .i64 1,.int .i64 3,.string (⟨#[]⟩:ByteArray),.complex .f64 0 0,.complex .f64 0 0,.complex .f64 0 0,.slice s.A24 0 s.c24,.int .i64 11,.int .i64 0,.int .i64 0,.int .i64 0,.string (⟨#[]⟩:ByteArray),.complex .f64 0 0,.complex .f64 0 0,.complex .f64 0 0,.slice s.A26 1 s.c26] 30 (0,0))
 f7:x7=true→W.heap[s.g]?=some (.cells #[.int .i64 0,.int .i64 0,.slice none 0 0,.int .i64 0,.int .i64 0,.int .i64 0,.int .i64 0,.string (⟨#[]⟩:ByteArray),.complex .f64 0 0,.complex .f64 0 0,.complex .f64 0 0,.slice none 0 0,.slice none 0 0] 38 (0,0))∧w.heap.size≤s.g
section
variable {w W W':World} {x0 x1 x3 x4 x7:Bool} {s:KnV}
theorem KnF.step (h:KnF w x0 x1 x3 x4 x7 s W) (hb:Below W.heap.size W W'):KnF w x0 x1 x3 x4 x7 s W':=
 ⟨below_step h.below hb,blk_below h.p1 hb,fun e=>⟨blk_below (h.f0 e).1 hb,(h.f0 e).2⟩,fun e=>Kd.N_below (h.f1 e) hb,fun e=>Kd.N_below (h.f3 e) hb,fun e=>blk_below (h.f4 e) hb,fun e=>⟨blk_below (h.f7 e).1 hb,(h.f7 e).2⟩⟩
theorem KnF.add0 (h:KnF w false x1 x3 x4 x7 s W):KnF w true x1 x3 x4 x7 {s with b23:=W.heap.size} (W.alloc (.cells #[.string (⟨#[110]⟩:ByteArray),.string (⟨#[112]⟩:ByteArray)] 9)):=
 have q:=h.step (below_alloc (Below.refl _ _) (.cells #[.string (⟨#[110]⟩:ByteArray),.string (⟨#[112]⟩:ByteArray)] 9))
 ⟨q.below,q.p1,fun _=>⟨blk_new W _,h.below.size⟩,q.f1,q.f3,q.f4,q.f7⟩
theorem KnF.add4 (h:KnF w x0 x1 true false x7 s W):KnF w x0 x1 true true x7 {s with b27:=W.heap.size} (W.alloc (.cells #[.int .i64 6,.int .i64 0,.int .i64 1,.int .i64 3,.string (⟨#[]⟩:ByteArray),.complex .f64 0 0,.complex .f64 0 0,.complex .f64 0 0,.slice s.A24 0 s.c24,.int .i64 11,.int .i64 0,.int .i64 0,.int .i64 0,.string (⟨#[]⟩:ByteArray),.complex .f64 0 0,.complex .f64 0 0,.complex .f64 0 0,.slice s.A26 1 s.c26] 30)):=
 have q:=h.step (below_alloc (Below.refl _ _) (.cells #[.int .i64 6,.int .i64 0,.int .i64 1,.int .i64 3,.string (⟨#[]⟩:ByteArray),.complex .f64 0 0,.complex .f64 0 0,.complex .f64 0 0,.slice s.A24 0 s.c24,.int .i64 11,.int .i64 0,.int .i64 0,.int .i64 0,.string (⟨#[]⟩:ByteArray),.complex .f64 0 0,.complex .f64 0 0,.complex .f64 0 0,.slice s.A26 1 s.c26] 30))
 ⟨q.below,q.p1,q.f0,q.f1,q.f3,fun _=>blk_new W _,q.f7⟩
theorem KnF.add7 (h:KnF w x0 x1 x3 x4 false s W):KnF w x0 x1 x3 x4 true {s with g:=W.heap.size} (W.alloc (.cells #[.int .i64 0,.int .i64 0,.slice none 0 0,.int .i64 0,.int .i64 0,.int .i64 0,.int .i64 0,.string (⟨#[]⟩:ByteArray),.complex .f64 0 0,.complex .f64 0 0,.complex .f64 0 0,.slice none 0 0,.slice none 0 0] 38)):=
 have q:=h.step (below_alloc (Below.refl _ _) (.cells #[.int .i64 0,.int .i64 0,.slice none 0 0,.int .i64 0,.int .i64 0,.int .i64 0,.int .i64 0,.string (⟨#[]⟩:ByteArray),.complex .f64 0 0,.complex .f64 0 0,.complex .f64 0 0,.slice none 0 0,.slice none 0 0] 38))
 ⟨q.below,q.p1,q.f0,fun e=>Kd.N_below (Kd.N_mono (Kd.N_bound (h.f1 e)) (fun k hk _=>Nat.ne_of_lt hk.2)) (below_alloc (Below.refl _ _) _),fun e=>Kd.N_below (Kd.N_mono (Kd.N_bound (h.f3 e)) (fun k hk _=>Nat.ne_of_lt hk.2)) (below_alloc (Below.refl _ _) _),q.f4,fun _=>⟨blk_new W _,h.below.size⟩⟩
theorem KnF.add1 (h:KnF w x0 false x3 x4 x7 s W) {A:Option Addr} {c:Nat} (hr:Kd.R k30 30 W' W.heap.size (fun _=>True) (.slice A 0 c) []) (hb:Below W.heap.size W W') (h4:x4=false):KnF w x0 true x3 x4 x7 {s with A24:=A,c24:=c} W':=
 have q:=h.step hb
 ⟨q.below,q.p1,q.f0,fun _=>Kd.N_lower (Kd.N_mono (Kd.R_N (Kd.R_bound hr)) (fun k hk e=>by have h1:=hk.2.1;have h2:=blk_lt (h.f7 e).1;show k≠s.g;omega)) h.below.size,q.f3,fun e=>absurd (h4.symm.trans e) (by decide),q.f7⟩
theorem KnF.add3 (h:KnF w x0 true false x4 x7 s W) {A:Option Addr} {c:Nat} (hr:Kd.N k30 30 W' W.heap.size (fun k=>False∨W.heap.size≤k) (.slice A 1 c) [kn_in]) (hb:Below W.heap.size W W') (h4:x4=false):KnF w x0 true true x4 x7 {s with A26:=A,c26:=c} W':=
 have q:=h.step hb
 ⟨q.below,q.p1,q.f0,q.f1,fun _=>Kd.N_lower (Kd.N_mono hr (fun k hk e=>by rcases hk with hk|hk;exact hk.elim;have h2:=blk_lt (h.f7 e).1;show k≠s.g;omega)) h.below.size,fun e=>absurd (h4.symm.trans e) (by decide),q.f7⟩
theorem kn_sets {g:Nat}:∀ (l:List (Nat×Value)) (W:World) (k:Nat),k≠g→(l.foldl (fun W x=>W.setCell ⟨g,x.1,none⟩ x.2) W).heap[k]?=W.heap[k]?
 | [],_,_,_=>rfl
 |x :: l,W,k,hk=>(kn_sets l _ k hk).trans (Below.heap_setCell W ⟨g,x.1,none⟩ x.2 k hk)
end
def kn_v0:KnV:=⟨0,0,none,0,none,0,0⟩
def kn_T2:Bool×List (List Nat×List Nat):=(true,[([],[]),([],[]),([],[]),([2,1],[2]),([1,3],[1,3]),([4],[4]),([0,5],[0,5]),([],[]),([7,6,3,0,1,2,3,4,5,6,7],[6,7])])
def kn_B2:List Nat:=[0,0,0,6,14,30,63,0,255]
theorem kn_tab2:rtab .any (opsOf Tryz.f5 2)=kn_T2:=by kernel_rfl
theorem kn_bits2:waitsOk kn_T2.2 kn_B2=true:=by kernel_rfl
theorem kn_at {w:World} {A:Option Addr} (h:Kd.C (Kd.slice 25 k25) w A 2 kn_rows):∃ (ad a0 a1:Addr) (c0 c1:Nat),A=some ad∧w.cell? ad=some (.slice (some a0) 2 c0)∧w.cell? ⟨ad.block,ad.off+1,none⟩=some (.slice (some a1) 2 c1) ∧
  (w.cell? ⟨a0.block,a0.off+4,none⟩=some (.int .i64 0)∧w.cell? ⟨a0.block,a0.off+4+1,none⟩=some (.int .i64 0)∧w.cell? ⟨a0.block,a0.off+4+2,none⟩=some (.string (⟨#[]⟩:ByteArray))∧w.cell? ⟨a0.block,a0.off+4+3,none⟩=some (.complex .f64 0 0)) ∧
  (w.cell? ⟨a1.block,a1.off+4,none⟩=some (.int .i64 3)∧w.cell? ⟨a1.block,a1.off+4+1,none⟩=some (.int .i64 0)∧w.cell? ⟨a1.block,a1.off+4+2,none⟩=some (.string (⟨#[]⟩:ByteArray))∧w.cell? ⟨a1.block,a1.off+4+3,none⟩=some (.complex .f64 4611686018427387904 13837309855095848960)):=by
 obtain ⟨ad,A0,c0,rfl,h1,h2,h3⟩:=at_L11 h 0 (by decide) (by decide);obtain ⟨ad',A1,c1,e,k1,k2,k3⟩:=at_L11 h 1 (by decide) (by decide);obtain rfl:=Option.some.inj e;obtain ⟨a0,rfl,x0,x1,x2,x3⟩:=at_T25 h3 1 (by decide) (by decide);obtain ⟨a1,rfl,y0,y1,y2,y3⟩:=at_T25 k3 1 (by decide) (by decide);exact ⟨ad,a0,a1,c0,c1,rfl,h1,k1,⟨x0,x1,x2,x3⟩,⟨y0,y1,y2,y3⟩⟩
theorem kn_new2 (w:World) (o o':Obj):((w.alloc o).alloc o').heap[w.heap.size+1]?=some o':=by
 have q:=blk_new (w.alloc o) o'
 rwa [World.size_alloc] at q
theorem kn_parse {a:ByteArray} {r1 r2 r4 r5 r6 r7 r14:Int} {r3:List ByteArray} {r8:ByteArray} {r9 r10 r11:Nat×Nat} {r12:List S30} {r13:List (List S25)} (w:World) (h:req_Parse.f 60 a=some (r1,r2,r3,r4,r5,r6,r7,r8,r9,r10,r11,r12,r13,r14)) (hG:Glob w):
  Calls Tryz.prog 13 #[.string a] w fun e w'=>∃ (A:Option Addr) (c:Nat) (A':Option Addr) (c':Nat) (A'':Option Addr) (c'':Nat),e = .returned (.tuple #[.agg #[.int .i64 r1,.int .i64 r2,.slice A r3.length c,.int .i64 r4,.int .i64 r5,.int .i64 r6,.int .i64 r7,.string r8,.complex .f64 r9.1 r9.2,.complex .f64 r10.1 r10.2,.complex .f64 r11.1 r11.2,.slice A' r12.length c',.slice A'' r13.length c''],.int .i64 r14])∧(Kd.C Kd.string w' A r3.length r3∧r3.length≤c∧Kd.C k30 w' A' r12.length r12∧r12.length≤c'∧Kd.C (Kd.slice 25 k25) w' A'' r13.length r13∧r13.length≤c'')∧Below w.heap.size w w':=by
 refine (req_Parse.calls 60 a r1 r2 r3 r4 r5 r6 r7 r8 r9 r10 r11 r12 r13 r14 w h hG).mono ?_;rintro e w' ⟨v2,v11,v12,rfl,h1,h2,h3,hb⟩;obtain ⟨A,c,rfl,q1,q2⟩:=Kd.R_reads h1;obtain ⟨A',c',rfl,q3,q4⟩:=Kd.R_reads h2;obtain ⟨A'',c'',rfl,q5,q6⟩:=Kd.R_reads (Kd.S_R h3);exact ⟨A,c,A',c',A'',c'',rfl,⟨q2,q1,q4,q3,q6,q5⟩,hb⟩
theorem kn_c3 {w:World} {g:Nat} {A23 A27:Option Addr} {c23 c27:Nat} (h:KnAt g A23 c23 A27 c27 w) (hG:Glob w):Calls Tryz.prog 7 #[.agg #[.int .i64 1,.int .i64 0,.slice A23 2 c23,.int .i64 9,.int .i64 0,.int .i64 0,.int .i64 0,.string (⟨#[]⟩:ByteArray),.complex .f64 0 0,.complex .f64 0 0,.complex .f64 0 0,.slice A27 2 c27,.slice none 0 0]] w fun e w'=>e = .returned (.tuple #[.string kn_s,.int .i64 0])∧Below w.heap.size w w':=
 req_Text.calls 60 1 0 A23 c23 kn_np 9 0 0 0 (⟨#[]⟩:ByteArray) ((0,0):Nat×Nat) ((0,0):Nat×Nat) ((0,0):Nat×Nat) A27 c27 [kn_cmp,kn_not] none 0 [] kn_s 0 w h.cols h.h1 h.kids h.h2 (Kd.C_nil _ _) (Nat.le_refl _) kn_f3 hG
theorem kn_c4 (w:World) (hG:Glob w):Calls Tryz.prog 13 #[.string kn_s] w fun e w'=>∃ (A:Option Addr) (c:Nat) (A':Option Addr) (c':Nat) (A'':Option Addr) (c'':Nat),e = .returned (.tuple #[.agg #[.int .i64 1,.int .i64 0,.slice A 2 c,.int .i64 9,.int .i64 0,.int .i64 0,.int .i64 0,.string (⟨#[]⟩:ByteArray),.complex .f64 0 0,.complex .f64 0 0,.complex .f64 0 0,.slice A' 2 c',.slice A'' 0 c''],.int .i64 0])∧(Kd.C Kd.string w' A 2 kn_np∧2≤c∧Kd.C k30 w' A' 2 [kn_cmp,kn_not]∧2≤c'∧Kd.C (Kd.slice 25 k25) w' A'' 0 []∧0≤c'')∧Below w.heap.size w w':=kn_parse w kn_f4 hG
theorem kn_c5 (w:World) (hG:Glob w):Calls Tryz.prog 13 #[.string (⟨#[97,112,112,101,110,100,32,49,44,45,59,34,54,49,44,50,45,51,105]⟩:ByteArray)] w fun e w'=>∃ (A:Option Addr) (c:Nat) (A':Option Addr) (c':Nat) (A'':Option Addr) (c'':Nat),e = .returned (.tuple #[.agg #[.int .i64 4,.int .i64 0,.slice A 0 c,.int .i64 0,.int .i64 0,.int .i64 0,.int .i64 0,.string (⟨#[]⟩:ByteArray),.complex .f64 0 0,.complex .f64 0 0,.complex .f64 0 0,.slice A' 0 c',.slice A'' 2 c''],.int .i64 0])∧(Kd.C Kd.string w' A 0 []∧0≤c∧Kd.C k30 w' A' 0 []∧0≤c'∧Kd.C (Kd.slice 25 k25) w' A'' 2 kn_rows∧2≤c'')∧Below w.heap.size w w':=kn_parse w kn_f5 hG
theorem kn_c6 (w:World) (hG:Glob w):Calls Tryz.prog 13 #[.string (⟨#[111,112,101,110,32,110,32,32,97,108,108]⟩:ByteArray)] w fun e w'=>∃ (A:Option Addr) (c:Nat) (A':Option Addr) (c':Nat) (A'':Option Addr) (c'':Nat),e = .returned (.tuple #[.agg #[.int .i64 0,.int .i64 0,.slice A 0 c,.int .i64 0,.int .i64 0,.int .i64 0,.int .i64 0,.string (⟨#[]⟩:ByteArray),.complex .f64 0 0,.complex .f64 0 0,.complex .f64 0 0,.slice A' 0 c',.slice A'' 0 c''],.int .i64 2])∧(Kd.C Kd.string w' A 0 []∧0≤c∧Kd.C k30 w' A' 0 []∧0≤c'∧Kd.C (Kd.slice 25 k25) w' A'' 0 []∧0≤c'')∧Below w.heap.size w w':=kn_parse w kn_f6 hG
theorem kn_c7 (w:World) (hG:Glob w):Calls Tryz.prog 13 #[.string (⟨#[102,101,116,99,104,32,48,49]⟩:ByteArray)] w fun e w'=>∃ (A:Option Addr) (c:Nat) (A':Option Addr) (c':Nat) (A'':Option Addr) (c'':Nat),e = .returned (.tuple #[.agg #[.int .i64 0,.int .i64 0,.slice A 0 c,.int .i64 0,.int .i64 0,.int .i64 0,.int .i64 0,.string (⟨#[]⟩:ByteArray),.complex .f64 0 0,.complex .f64 0 0,.complex .f64 0 0,.slice A' 0 c',.slice A'' 0 c''],.int .i64 2])∧(Kd.C Kd.string w' A 0 []∧0≤c∧Kd.C k30 w' A' 0 []∧0≤c'∧Kd.C (Kd.slice 25 k25) w' A'' 0 []∧0≤c'')∧Below w.heap.size w w':=kn_parse w kn_f7 hG
theorem kn_c9 (w:World) (hG:Glob w):Calls Tryz.prog 13 #[.string (⟨#[111,112,101,110,32,110,32,97,110,100,40,97,108,108,41]⟩:ByteArray)] w fun e w'=>∃ (A:Option Addr) (c:Nat) (A':Option Addr) (c':Nat) (A'':Option Addr) (c'':Nat),e = .returned (.tuple #[.agg #[.int .i64 0,.int .i64 0,.slice A 0 c,.int .i64 0,.int .i64 0,.int .i64 0,.int .i64 0,.string (⟨#[]⟩:ByteArray),.complex .f64 0 0,.complex .f64 0 0,.complex .f64 0 0,.slice A' 0 c',.slice A'' 0 c''],.int .i64 2])∧(Kd.C Kd.string w' A 0 []∧0≤c∧Kd.C k30 w' A' 0 []∧0≤c'∧Kd.C (Kd.slice 25 k25) w' A'' 0 []∧0≤c'')∧Below w.heap.size w w':=kn_parse w kn_f9 hG
theorem kn_c8 (w:World) (A:Option Addr) (h:Kd.C Kd.string w A 1 [(⟨#[110]⟩:ByteArray)]) (hG:Glob w):Calls Tryz.prog 7 #[.agg #[.int .i64 2,.int .i64 0,.slice A 1 1,.int .i64 0,.int .i64 0,.int .i64 0,.int .i64 0,.string (⟨#[]⟩:ByteArray),.complex .f64 0 0,.complex .f64 0 0,.complex .f64 0 0,.slice none 0 0,.slice none 0 0]] w fun e w'=>e = .returned (.tuple #[.string (⟨#[]⟩:ByteArray),.int .i64 1])∧Below w.heap.size w w':=
 req_Text.calls 60 2 0 A 1 [(⟨#[110]⟩:ByteArray)] 0 0 0 0 (⟨#[]⟩:ByteArray) ((0,0):Nat×Nat) ((0,0):Nat×Nat) ((0,0):Nat×Nat) none 0 [] none 0 [] (⟨#[]⟩:ByteArray) 1 w h (Nat.le_refl _) (Kd.C_nil _ _) (Nat.le_refl _) (Kd.C_nil _ _) (Nat.le_refl _) kn_f8 hG
theorem kn_c11 (w:World) (hG:Glob w):Calls Tryz.prog 7 #[.agg #[.int .i64 5,.int .i64 0,.slice none 0 0,.int .i64 0,.int .i64 0,.int .i64 0,.int .i64 0,.string (⟨#[]⟩:ByteArray),.complex .f64 0 0,.complex .f64 0 0,.complex .f64 0 0,.slice none 0 0,.slice none 0 0]] w fun e w'=>e = .returned (.tuple #[.string (⟨#[99,111,117,110,116]⟩:ByteArray),.int .i64 0])∧Below w.heap.size w w':=
 req_Text.calls 60 5 0 none 0 [] 0 0 0 0 (⟨#[]⟩:ByteArray) ((0,0):Nat×Nat) ((0,0):Nat×Nat) ((0,0):Nat×Nat) none 0 [] none 0 [] (⟨#[99,111,117,110,116]⟩:ByteArray) 0 w (Kd.C_nil _ _) (Nat.le_refl _) (Kd.C_nil _ _) (Nat.le_refl _) (Kd.C_nil _ _) (Nat.le_refl _) kn_f11 hG
theorem kn_c10 (w:World) (hG:Glob w):Calls Tryz.prog 8 #[.string (⟨#[110,111,116,40,110,111,116,40,110,111,116,40,110,111,116,40,110,111,116,40,110,111,116,40,110,111,116,40,110,111,116,40,97,108,108,41,41,41,41,41,41,41,41]⟩:ByteArray)] w fun e w'=>∃ (A:Option Addr) (c:Nat),e = .returned (.tuple #[.agg #[.int .i64 0,.int .i64 0,.int .i64 0,.int .i64 0,.string (⟨#[]⟩:ByteArray),.complex .f64 0 0,.complex .f64 0 0,.complex .f64 0 0,.slice A 0 c],.int .i64 16])∧Below w.heap.size w w':=by
 refine (req_PredParse.calls 60 (⟨#[110,111,116,40,110,111,116,40,110,111,116,40,110,111,116,40,110,111,116,40,110,111,116,40,110,111,116,40,110,111,116,40,97,108,108,41,41,41,41,41,41,41,41]⟩:ByteArray) 0 0 0 0 (⟨#[]⟩:ByteArray) ((0,0):Nat×Nat) ((0,0):Nat×Nat) ((0,0):Nat×Nat) [] 16 w kn_f10 hG).mono ?_;rintro e w' ⟨v8,rfl,h1,hb⟩;obtain ⟨A,c,rfl,q1,q2⟩:=Kd.R_reads h1;exact ⟨A,c,rfl,hb⟩
theorem kn_c34 (w:World):Calls Tryz.prog 18 #[.int .i64 2,.int .i64 (-3)] w fun e w'=>e = .returned (.agg #[.int .i64 3,.int .i64 0,.string (⟨#[]⟩:ByteArray),.complex .f64 4611686018427387904 13837309855095848960])∧Below w.heap.size w w':=norialaw3_C.calls 2 (-3) 3 0 (⟨#[]⟩:ByteArray) ((4611686018427387904,13837309855095848960):Nat×Nat) w kn_f34
theorem kn_c15 {w:World} {g:Nat} {A23 A27 A A' A'':Option Addr} {c23 c27 c c' c'':Nat} (h1:Kd.C Kd.string w A 2 kn_np∧2≤c∧Kd.C k30 w A' 2 [kn_cmp,kn_not]∧2≤c'∧Kd.C (Kd.slice 25 k25) w A'' 0 []∧0≤c'') (h:KnAt g A23 c23 A27 c27 w):Calls Tryz.prog 17 #[.agg #[.int .i64 1,.int .i64 0,.slice A 2 c,.int .i64 9,.int .i64 0,.int .i64 0,.int .i64 0,.string (⟨#[]⟩:ByteArray),.complex .f64 0 0,.complex .f64 0 0,.complex .f64 0 0,.slice A' 2 c',.slice A'' 0 c''],.agg #[.int .i64 1,.int .i64 0,.slice A23 2 c23,.int .i64 9,.int .i64 0,.int .i64 0,.int .i64 0,.string (⟨#[]⟩:ByteArray),.complex .f64 0 0,.complex .f64 0 0,.complex .f64 0 0,.slice A27 2 c27,.slice none 0 0]] w fun e w'=>e = .returned (.bool true)∧Below w.heap.size w w':=
 req_Same.calls 60 1 0 A c kn_np 9 0 0 0 (⟨#[]⟩:ByteArray) ((0,0):Nat×Nat) ((0,0):Nat×Nat) ((0,0):Nat×Nat) A' c' [kn_cmp,kn_not] A'' c'' [] 1 0 A23 c23 kn_np 9 0 0 0 (⟨#[]⟩:ByteArray) ((0,0):Nat×Nat) ((0,0):Nat×Nat) ((0,0):Nat×Nat) A27 c27 [kn_cmp,kn_not] none 0 [] true w h1.1 h1.2.1 h1.2.2.1 h1.2.2.2.1 h1.2.2.2.2.1 h1.2.2.2.2.2 h.cols h.h1 h.kids h.h2 (Kd.C_nil _ _) (Nat.le_refl _) kn_f15
theorem kn_c64 {w:World} {g:Nat} {A23 A27 A A' A'':Option Addr} {c23 c27 c c' c'':Nat} (h1:Kd.C Kd.string w A 0 []∧0≤c∧Kd.C k30 w A' 0 []∧0≤c'∧Kd.C (Kd.slice 25 k25) w A'' 2 kn_rows∧2≤c'') (h:KnAt g A23 c23 A27 c27 w):Calls Tryz.prog 17 #[.agg #[.int .i64 4,.int .i64 0,.slice A 0 c,.int .i64 0,.int .i64 0,.int .i64 0,.int .i64 0,.string (⟨#[]⟩:ByteArray),.complex .f64 0 0,.complex .f64 0 0,.complex .f64 0 0,.slice A' 0 c',.slice A'' 2 c''],.agg #[.int .i64 1,.int .i64 0,.slice A23 2 c23,.int .i64 9,.int .i64 0,.int .i64 0,.int .i64 0,.string (⟨#[]⟩:ByteArray),.complex .f64 0 0,.complex .f64 0 0,.complex .f64 0 0,.slice A27 2 c27,.slice none 0 0]] w fun e w'=>e = .returned (.bool false)∧Below w.heap.size w w':=
 req_Same.calls 60 4 0 A c [] 0 0 0 0 (⟨#[]⟩:ByteArray) ((0,0):Nat×Nat) ((0,0):Nat×Nat) ((0,0):Nat×Nat) A' c' [] A'' c'' kn_rows 1 0 A23 c23 kn_np 9 0 0 0 (⟨#[]⟩:ByteArray) ((0,0):Nat×Nat) ((0,0):Nat×Nat) ((0,0):Nat×Nat) A27 c27 [kn_cmp,kn_not] none 0 [] false w h1.1 h1.2.1 h1.2.2.1 h1.2.2.2.1 h1.2.2.2.2.1 h1.2.2.2.2.2 h.cols h.h1 h.kids h.h2 (Kd.C_nil _ _) (Nat.le_refl _) kn_f64
theorem KnAt.below {g:Nat} {A23 A27:Option Addr} {c23 c27:Nat} {w w':World} (h:KnAt g A23 c23 A27 c27 w) (hb:Below w.heap.size w w'):KnAt g A23 c23 A27 c27 w':=⟨blk_below h.blk hb,Kd.C_below h.cols hb,Kd.C_below h.kids hb,h.h1,h.h2⟩
theorem kn_six {w w':World} {A A1 A2:Option Addr} {n c n1 c1 n2 c2:Nat} {l:List ByteArray} {l1:List S30} {l2:List (List S25)} (h:Kd.C Kd.string w A n l∧n≤c∧Kd.C k30 w A1 n1 l1∧n1≤c1∧Kd.C (Kd.slice 25 k25) w A2 n2 l2∧n2≤c2) (hb:Below w.heap.size w w'):Kd.C Kd.string w' A n l∧n≤c∧Kd.C k30 w' A1 n1 l1∧n1≤c1∧Kd.C (Kd.slice 25 k25) w' A2 n2 l2∧n2≤c2:=
 ⟨Kd.C_below h.1 hb,h.2.1,Kd.C_below h.2.2.1 hb,h.2.2.2.1,Kd.C_below h.2.2.2.2.1 hb,h.2.2.2.2.2⟩
def kn_T14:Bool×List (List Nat×List Nat):=(true,[([],[]),([],[]),([0,1],[0,1]),([],[]),([2,3],[2,3]),([],[]),([4,5],[4,5]),([6],[6]),([7],[7]),([8],[8]),([9,8],[8,9]),([8,10],[8,10]),([11,8],[11]),([12],[12]),([12],[12]),([13,14,12,12],[12,13,14]),([12,15],[12,15]),([16,15],[16]),([17],[17]),([18,17],[17,18]),([19,17],[17,19]),([20,17],[17,20]),([21,17],[17,21]),([22,17],[17,22]),([17],[17]),([23,24,17],[17,23,24]),([17,25],[17,25]),([26,17],[26]),([27],[27]),([28,27],[27,28]),([29,27],[27,29]),([30,27],[27,30]),([31,27],[27,31]),([32,27],[27,32]),([27,27],[27]),([33,34,27],[27,33,34]),([27,35],[27,35]),([36,34],[36]),([37],[37]),([38,37],[37,38]),([37,39],[37,39]),([40,37],[40]),([41],[41]),([42,41],[41,42]),([41,43],[41,43]),([44,41],[44]),([45],[45]),([46,45],[45,46]),([45,47],[45,47]),([48,45],[48]),([49],[49]),([50,49],[49,50]),([49,51],[49,51]),([52,49],[52]),([53],[53]),([54,53],[53,54]),([53,55],[53,55]),([56,53],[56]),([57],[57]),([58,57],[57,58]),([57,59],[57,59]),([60,57],[60]),([61],[61]),([61],[61]),([62,63,61,61],[61,62,63]),([64,61],[61,64]),([61,65],[61,65]),([66,64,0,1,2,3,4,5,6,7,8,9,10,11,12,13,14,15,16,17,18,19,20,21,22,23,24,25,26,27,28,29,30,31,32,33,34,35,36,37,38,39,40,41,42,43,44,45,46,47,48,49,50,51,52,53,54,55,56,57,58,59,60,61,62,63,64,65,66],[66])])
def kn_B14:List Nat:=[0,0,3,0,15,0,63,127,255,511,1023,2047,4095,8191,8191,32767,65535,131071,262143,524287,1048575,2097151,4194303,8388607,262143,33554431,67108863,134217727,268435455,536870911,1073741823,2147483647,4294967295,8589934591,268435455,34359738367,68719476735,137438953471,274877906943,549755813887,1099511627775,2199023255551,4398046511103,8796093022207,17592186044415,35184372088831,70368744177663,140737488355327,281474976710655,562949953421311,1125899906842623,2251799813685247,4503599627370495,9007199254740991,18014398509481983,36028797018963967,72057594037927935,144115188075855871,288230376151711743,576460752303423487,1152921504606846975,2305843009213693951,4611686018427387903,4611686018427387903,18446744073709551615,36893488147419103231,73786976294838206463,147573952589676412927]
theorem kn_tab14:rtab .any (opsOf Tryz.f5 14)=kn_T14:=by kernel_rfl
theorem kn_bits14:waitsOk kn_T14.2 kn_B14=true:=by kernel_rfl
set_option maxHeartbeats 8000000 in
theorem norialaw25_known.calls (r:Bool) (w:World) (h:norialaw25_known.f=some r) (hG_:Glob w):
  Calls Tryz.prog 5 #[] w fun e w'=>e = .returned (.bool r)∧Below w.heap.size w w':=by
 obtain rfl:=Option.some.inj h;have HG:=Mk hG_;clear hG_ h;have hu27:=Tryz.underlying27;have hu30:=Tryz.underlying30;have hu38:=Tryz.underlying38;have hu25:=Tryz.underlying25;have HC1:Aside0 (∀ W:World,Calls Tryz.prog 16 #[.int .i64 6,.int .i64 0,.int .i64 3] W fun e w'=>∃ v8_:Value,e = .returned (.agg #[.int .i64 6,.int .i64 0,.int .i64 1,.int .i64 3,.string (⟨#[]⟩:ByteArray),.complex .f64 0 0,.complex .f64 0 0,.complex .f64 0 0,v8_])∧Kd.R k30 30 w' W.heap.size (fun _=>True) v8_ []∧Below W.heap.size W w'):=⟨fun W=>norialaw11_Cmp.calls 6 0 3 _ _ _ _ _ _ _ _ _ W kn_f1⟩;have HC2:Aside0 (∀ W:World,Calls Tryz.prog 6 #[.agg #[.int .i64 8,.int .i64 2,.int .i64 0,.int .i64 0,.string (⟨#[]⟩:ByteArray),.complex .f64 0 0,.complex .f64 0 0,.complex .f64 4611686018427387904 13830554455654793216,.slice none 0 0]] W fun e w'=>∃ v8_:Value,e = .returned (.agg #[.int .i64 11,.int .i64 0,.int .i64 0,.int .i64 0,.string (⟨#[]⟩:ByteArray),.complex .f64 0 0,.complex .f64 0 0,.complex .f64 0 0,v8_])∧Kd.N k30 30 w' W.heap.size (fun k=>False∨W.heap.size≤k) v8_ [kn_in]∧Below W.heap.size W w'):=⟨fun W=>norialaw11_Not.calls 8 2 0 0 (⟨#[]⟩:ByteArray) ((0,0):Nat×Nat) ((0,0):Nat×Nat) ((4611686018427387904,13830554455654793216):Nat×Nat) (fun _=>False) none 0 [] _ _ _ _ _ _ _ _ _ W (Kd.V_nil _ _ _ _ _) kn_f2⟩;go_enter Tryz.func5,Tryz.ntmps5
 go_upto_region 2 with (fail)
 go_cut [2] (fun v2 w2=>∃ (g:Nat) (A23:Option Addr) (c23:Nat) (A27:Option Addr) (c27:Nat),v2 = .pointer (some ⟨g,0,none⟩)∧Aside0 (KnAt g A23 c23 A27 c27 w2)∧Aside0 (Below w.heap.size w w2))
 case first=>
  have p0:(w.alloc (.cells #[.int .i64 8,.int .i64 2,.int .i64 0,.int .i64 0,.string (⟨#[]⟩:ByteArray),.complex .f64 0 0,.complex .f64 0 0,.complex .f64 4611686018427387904 13830554455654793216,.slice none 0 0] 30)).heap[w.heap.size]?=some (.cells #[.int .i64 8,.int .i64 2,.int .i64 0,.int .i64 0,.string (⟨#[]⟩:ByteArray),.complex .f64 0 0,.complex .f64 0 0,.complex .f64 4611686018427387904 13830554455654793216,.slice none 0 0] 30 (0,0)):=blk_new _ _;have hF:KnF w false false false false false kn_v0 (w.alloc (.cells #[.int .i64 8,.int .i64 2,.int .i64 0,.int .i64 0,.string (⟨#[]⟩:ByteArray),.complex .f64 0 0,.complex .f64 0 0,.complex .f64 4611686018427387904 13830554455654793216,.slice none 0 0] 30)).drew:=⟨below_drew1 (below_alloc (Below.refl _ _) _),blk_drew p0,(fun e=>absurd e (by decide)),(fun e=>absurd e (by decide)),(fun e=>absurd e (by decide)),(fun e=>absurd e (by decide)),(fun e=>absurd e (by decide))⟩
  generalize w.alloc (.cells #[.int .i64 8,.int .i64 2,.int .i64 0,.int .i64 0,.string (⟨#[]⟩:ByteArray),.complex .f64 0 0,.complex .f64 0 0,.complex .f64 4611686018427387904 13830554455654793216,.slice none 0 0] 30)=W0 at hF ⊢
  refine start_ (n:=9) (S:=fun W=>W.heap[w.heap.size]?=some (.cells #[.int .i64 8,.int .i64 2,.int .i64 0,.int .i64 0,.string (⟨#[]⟩:ByteArray),.complex .f64 0 0,.complex .f64 0 0,.complex .f64 4611686018427387904 13830554455654793216,.slice none 0 0] 30 (0,0))) (ds:=[]) #[b0,b0,b0,b0,b0,b0,b0,b0,b0] kR rfl rfl hF.p1 (fun hS=>?_);refine with_tabW kn_tab2 kn_bits2 (fun HT_ HW_=>?_)
  generalize W0.drew=W at hF hS ⊢
  refine take_ (i:=2) (N:=some 25) (v:=?_) (a':=?_) (fl 9 4) rfl rfl (tO HT_ HW_) fI (Or.inl ⟨by rfl,?_⟩) hS ?_ ?_;rotate_left
  ·intro w' hs
   have s0:=(blk_cell hs 0).trans rfl;have s1:=(blk_cell hs 1).trans rfl;have s2:=(blk_cell hs 2).trans rfl;have s3:=(blk_cell hs 3).trans rfl;have s4:=(blk_cell hs 4).trans rfl;have s5:=(blk_cell hs 5).trans rfl;have s6:=(blk_cell hs 6).trans rfl;have s7:=(blk_cell hs 7).trans rfl;have s8:=(blk_cell hs 8).trans rfl;go_simp
   with_reducible rfl
  rotate_left
  ·exact pA
  refine join_ (σ:=KnV) 1 (fl 9 255) (fun s=>[(23,.slice (some ⟨s.b23,0,none⟩) 2 2),(24,.agg #[.int .i64 6,.int .i64 0,.int .i64 1,.int .i64 3,.string (⟨#[]⟩:ByteArray),.complex .f64 0 0,.complex .f64 0 0,.complex .f64 0 0,.slice s.A24 0 s.c24]),(26,.agg #[.int .i64 11,.int .i64 0,.int .i64 0,.int .i64 0,.string (⟨#[]⟩:ByteArray),.complex .f64 0 0,.complex .f64 0 0,.complex .f64 0 0,.slice s.A26 1 s.c26]),(27,.slice (some ⟨s.b27,0,none⟩) 2 2),(28,.agg #[.int .i64 9,.int .i64 0,.int .i64 0,.int .i64 0,.string (⟨#[]⟩:ByteArray),.complex .f64 0 0,.complex .f64 0 0,.complex .f64 0 0,.slice (some ⟨s.b27,0,none⟩) 2 2]),(29,.agg #[.int .i64 1,.int .i64 0,.slice (some ⟨s.b23,0,none⟩) 2 2,.int .i64 9,.int .i64 0,.int .i64 0,.int .i64 0,.string (⟨#[]⟩:ByteArray),.complex .f64 0 0,.complex .f64 0 0,.complex .f64 0 0,.slice (some ⟨s.b27,0,none⟩) 2 2,.slice none 0 0]),(2,.pointer (some ⟨s.g,0,none⟩))]) (fun s W=>KnF w true true true true true s W) ?_ ?_;rotate_left;intro hJ01347;refine join_ (σ:=KnV) 2 (fl 9 127) (fun s=>[(23,.slice (some ⟨s.b23,0,none⟩) 2 2),(24,.agg #[.int .i64 6,.int .i64 0,.int .i64 1,.int .i64 3,.string (⟨#[]⟩:ByteArray),.complex .f64 0 0,.complex .f64 0 0,.complex .f64 0 0,.slice s.A24 0 s.c24]),(26,.agg #[.int .i64 11,.int .i64 0,.int .i64 0,.int .i64 0,.string (⟨#[]⟩:ByteArray),.complex .f64 0 0,.complex .f64 0 0,.complex .f64 0 0,.slice s.A26 1 s.c26]),(27,.slice (some ⟨s.b27,0,none⟩) 2 2),(28,.agg #[.int .i64 9,.int .i64 0,.int .i64 0,.int .i64 0,.string (⟨#[]⟩:ByteArray),.complex .f64 0 0,.complex .f64 0 0,.complex .f64 0 0,.slice (some ⟨s.b27,0,none⟩) 2 2]),(29,.agg #[.int .i64 1,.int .i64 0,.slice (some ⟨s.b23,0,none⟩) 2 2,.int .i64 9,.int .i64 0,.int .i64 0,.int .i64 0,.string (⟨#[]⟩:ByteArray),.complex .f64 0 0,.complex .f64 0 0,.complex .f64 0 0,.slice (some ⟨s.b27,0,none⟩) 2 2,.slice none 0 0])]) (fun s W=>KnF w true true true true false s W) ?_ ?_;rotate_left;intro hJ0134;refine join_ (σ:=KnV) 4 (fl 9 143) (fun s=>[(23,.slice (some ⟨s.b23,0,none⟩) 2 2),(24,.agg #[.int .i64 6,.int .i64 0,.int .i64 1,.int .i64 3,.string (⟨#[]⟩:ByteArray),.complex .f64 0 0,.complex .f64 0 0,.complex .f64 0 0,.slice s.A24 0 s.c24]),(26,.agg #[.int .i64 11,.int .i64 0,.int .i64 0,.int .i64 0,.string (⟨#[]⟩:ByteArray),.complex .f64 0 0,.complex .f64 0 0,.complex .f64 0 0,.slice s.A26 1 s.c26]),(2,.pointer (some ⟨s.g,0,none⟩))]) (fun s W=>KnF w true true true false true s W) ?_ ?_;rotate_left;intro hJ0137;refine join_ (σ:=KnV) 3 (fl 9 190) (fun s=>[(24,.agg #[.int .i64 6,.int .i64 0,.int .i64 1,.int .i64 3,.string (⟨#[]⟩:ByteArray),.complex .f64 0 0,.complex .f64 0 0,.complex .f64 0 0,.slice s.A24 0 s.c24]),(26,.agg #[.int .i64 11,.int .i64 0,.int .i64 0,.int .i64 0,.string (⟨#[]⟩:ByteArray),.complex .f64 0 0,.complex .f64 0 0,.complex .f64 0 0,.slice s.A26 1 s.c26]),(27,.slice (some ⟨s.b27,0,none⟩) 2 2),(28,.agg #[.int .i64 9,.int .i64 0,.int .i64 0,.int .i64 0,.string (⟨#[]⟩:ByteArray),.complex .f64 0 0,.complex .f64 0 0,.complex .f64 0 0,.slice (some ⟨s.b27,0,none⟩) 2 2]),(2,.pointer (some ⟨s.g,0,none⟩))]) (fun s W=>KnF w false true true true true s W) ?_ ?_;rotate_left;intro hJ1347;refine join_ (σ:=KnV) 5 (fl 9 15) (fun s=>[(23,.slice (some ⟨s.b23,0,none⟩) 2 2),(24,.agg #[.int .i64 6,.int .i64 0,.int .i64 1,.int .i64 3,.string (⟨#[]⟩:ByteArray),.complex .f64 0 0,.complex .f64 0 0,.complex .f64 0 0,.slice s.A24 0 s.c24]),(26,.agg #[.int .i64 11,.int .i64 0,.int .i64 0,.int .i64 0,.string (⟨#[]⟩:ByteArray),.complex .f64 0 0,.complex .f64 0 0,.complex .f64 0 0,.slice s.A26 1 s.c26])]) (fun s W=>KnF w true true true false false s W) ?_ ?_;rotate_left;intro hJ013;refine join_ (σ:=KnV) 5 (fl 9 135) (fun s=>[(23,.slice (some ⟨s.b23,0,none⟩) 2 2),(24,.agg #[.int .i64 6,.int .i64 0,.int .i64 1,.int .i64 3,.string (⟨#[]⟩:ByteArray),.complex .f64 0 0,.complex .f64 0 0,.complex .f64 0 0,.slice s.A24 0 s.c24]),(2,.pointer (some ⟨s.g,0,none⟩))]) (fun s W=>KnF w true true false false true s W) ?_ ?_;rotate_left;intro hJ017;refine join_ (σ:=KnV) 4 (fl 9 62) (fun s=>[(24,.agg #[.int .i64 6,.int .i64 0,.int .i64 1,.int .i64 3,.string (⟨#[]⟩:ByteArray),.complex .f64 0 0,.complex .f64 0 0,.complex .f64 0 0,.slice s.A24 0 s.c24]),(26,.agg #[.int .i64 11,.int .i64 0,.int .i64 0,.int .i64 0,.string (⟨#[]⟩:ByteArray),.complex .f64 0 0,.complex .f64 0 0,.complex .f64 0 0,.slice s.A26 1 s.c26]),(27,.slice (some ⟨s.b27,0,none⟩) 2 2),(28,.agg #[.int .i64 9,.int .i64 0,.int .i64 0,.int .i64 0,.string (⟨#[]⟩:ByteArray),.complex .f64 0 0,.complex .f64 0 0,.complex .f64 0 0,.slice (some ⟨s.b27,0,none⟩) 2 2])]) (fun s W=>KnF w false true true true false s W) ?_ ?_;rotate_left;intro hJ134;refine join_ (σ:=KnV) 5 (fl 9 142) (fun s=>[(24,.agg #[.int .i64 6,.int .i64 0,.int .i64 1,.int .i64 3,.string (⟨#[]⟩:ByteArray),.complex .f64 0 0,.complex .f64 0 0,.complex .f64 0 0,.slice s.A24 0 s.c24]),(26,.agg #[.int .i64 11,.int .i64 0,.int .i64 0,.int .i64 0,.string (⟨#[]⟩:ByteArray),.complex .f64 0 0,.complex .f64 0 0,.complex .f64 0 0,.slice s.A26 1 s.c26]),(2,.pointer (some ⟨s.g,0,none⟩))]) (fun s W=>KnF w false true true false true s W) ?_ ?_;rotate_left;intro hJ137;refine join_ (σ:=KnV) 6 (fl 9 7) (fun s=>[(23,.slice (some ⟨s.b23,0,none⟩) 2 2),(24,.agg #[.int .i64 6,.int .i64 0,.int .i64 1,.int .i64 3,.string (⟨#[]⟩:ByteArray),.complex .f64 0 0,.complex .f64 0 0,.complex .f64 0 0,.slice s.A24 0 s.c24])]) (fun s W=>KnF w true true false false false s W) ?_ ?_;rotate_left;intro hJ01;refine join_ (σ:=KnV) 6 (fl 9 133) (fun s=>[(23,.slice (some ⟨s.b23,0,none⟩) 2 2),(2,.pointer (some ⟨s.g,0,none⟩))]) (fun s W=>KnF w true false false false true s W) ?_ ?_;rotate_left;intro hJ07;refine join_ (σ:=KnV) 6 (fl 9 14) (fun s=>[(24,.agg #[.int .i64 6,.int .i64 0,.int .i64 1,.int .i64 3,.string (⟨#[]⟩:ByteArray),.complex .f64 0 0,.complex .f64 0 0,.complex .f64 0 0,.slice s.A24 0 s.c24]),(26,.agg #[.int .i64 11,.int .i64 0,.int .i64 0,.int .i64 0,.string (⟨#[]⟩:ByteArray),.complex .f64 0 0,.complex .f64 0 0,.complex .f64 0 0,.slice s.A26 1 s.c26])]) (fun s W=>KnF w false true true false false s W) ?_ ?_;rotate_left;intro hJ13;refine join_ (σ:=KnV) 6 (fl 9 134) (fun s=>[(24,.agg #[.int .i64 6,.int .i64 0,.int .i64 1,.int .i64 3,.string (⟨#[]⟩:ByteArray),.complex .f64 0 0,.complex .f64 0 0,.complex .f64 0 0,.slice s.A24 0 s.c24]),(2,.pointer (some ⟨s.g,0,none⟩))]) (fun s W=>KnF w false true false false true s W) ?_ ?_;rotate_left;intro hJ17;refine join_ (σ:=KnV) 7 (fl 9 5) (fun s=>[(23,.slice (some ⟨s.b23,0,none⟩) 2 2)]) (fun s W=>KnF w true false false false false s W) ?_ ?_;rotate_left;intro hJ0;refine join_ (σ:=KnV) 7 (fl 9 6) (fun s=>[(24,.agg #[.int .i64 6,.int .i64 0,.int .i64 1,.int .i64 3,.string (⟨#[]⟩:ByteArray),.complex .f64 0 0,.complex .f64 0 0,.complex .f64 0 0,.slice s.A24 0 s.c24])]) (fun s W=>KnF w false true false false false s W) ?_ ?_;rotate_left;intro hJ1;refine join_ (σ:=KnV) 7 (fl 9 132) (fun s=>[(2,.pointer (some ⟨s.g,0,none⟩))]) (fun s W=>KnF w false false false false true s W) ?_ ?_;rotate_left;intro hJ7
  focus
   refine three_ (i:=0) (j:=1) (k:=7) (Ni:=some 23) (Nj:=some 24) (Nk:=some 2) (fl 9 5) (fl 9 6) (fl 9 132) rfl rfl rfl rfl rfl rfl (three_of HT_.out kR) (by decide) (by decide) (by decide) (fun K hK=>?_) (fun K hK=>?_) (fun K hK=>?_)
   ·refine event_step (by rfl) (v:=.slice (some ⟨W.heap.size,0,none⟩) 2 2) (w1:=W.alloc (.cells #[.string (⟨#[110]⟩:ByteArray),.string (⟨#[112]⟩:ByteArray)] 9)) hR ?_
    have hF2:=hF.add0;refine hK.out _ _ hF2.p1 (fun hS=>?_);clear hK;exact norm_ nA (hJ0 ({kn_v0 with b23:=W.heap.size}) _ hF2)
   ·refine goes_ Tryz.func16 kR rfl #[.int .i64 6,.int .i64 0,.int .i64 3] (by rfl) rfl rfl mA ?_
    refine (HC1.out W).mono ?_;rintro e W1 ⟨v1,rfl,hr1,hb1⟩;obtain ⟨A1,c1,rfl⟩:=Kd.R_slice hr1;refine ⟨_,rfl,?_⟩;have hF2:=(hF.add1 hr1 hb1 rfl);refine hK.out _ _ hF2.p1 (fun hS=>?_);clear hK;exact norm_ nA (hJ1 ({kn_v0 with A24:=A1,c24:=c1}) _ hF2)
   ·refine event_step (by rfl) (v:=.pointer (some ⟨W.heap.size,0,none⟩)) (w1:=W.alloc (.cells #[.int .i64 0,.int .i64 0,.slice none 0 0,.int .i64 0,.int .i64 0,.int .i64 0,.int .i64 0,.string (⟨#[]⟩:ByteArray),.complex .f64 0 0,.complex .f64 0 0,.complex .f64 0 0,.slice none 0 0,.slice none 0 0] 38)) hR ?_
    have hF2:=hF.add7;refine hK.out _ _ hF2.p1 (fun hS=>?_);clear hK;exact norm_ nA (hJ7 ({kn_v0 with g:=W.heap.size}) _ hF2)
  ·intro s W hF
   have hS:=hF.p1;refine norm_ (a':=?_) ?_ ?_;rotate_left
   ·simp only [putAll,Act.put,List.setIfInBounds_toArray,List.set_cons_zero,List.set_cons_succ]
    rfl
   have hz:=(hF.f7 rfl).1;have hge:=(hF.f7 rfl).2;have hw1:w.heap.size≠s.g:=blk_ne hF.p1 hz (by decide);have hb23:s.b23≠s.g:=blk_ne (hF.f0 rfl).1 hz (by decide);have hb27:s.b27≠s.g:=blk_ne (hF.f4 rfl) hz (by decide);have HF:=Mk hF;have HZ:=Mk hz;have z0:=(blk_cell hz 0).trans rfl;have y0:=blk_frozen hz 0;have z1:=(blk_cell hz 1).trans rfl;have y1:=blk_frozen hz 1;have z2:=(blk_cell hz 2).trans rfl;have y2:=blk_frozen hz 2;have z3:=(blk_cell hz 3).trans rfl;have y3:=blk_frozen hz 3;have z4:=(blk_cell hz 4).trans rfl;have y4:=blk_frozen hz 4;have z5:=(blk_cell hz 5).trans rfl;have y5:=blk_frozen hz 5;have z6:=(blk_cell hz 6).trans rfl;have y6:=blk_frozen hz 6;have z7:=(blk_cell hz 7).trans rfl;have y7:=blk_frozen hz 7;have z8:=(blk_cell hz 8).trans rfl;have y8:=blk_frozen hz 8;have z9:=(blk_cell hz 9).trans rfl;have y9:=blk_frozen hz 9;have z10:=(blk_cell hz 10).trans rfl;have y10:=blk_frozen hz 10;have z11:=(blk_cell hz 11).trans rfl;have y11:=blk_frozen hz 11;have z12:=(blk_cell hz 12).trans rfl;have y12:=blk_frozen hz 12;clear hF;refine one_ (i:=8) (N:=none) (fl 9 511) rfl rfl (oO HT_) (by decide) (fun K hK=>?_);refine skip_ (w1:=?_) (by rfl) rfl ?_ ?_;rotate_left
   ·skip
    go_simp
    rfl
   have hg':=kn_sets (g:=s.g) [(0,.int .i64 1),(1,.int .i64 0),(2,.slice (some ⟨s.b23,0,none⟩) 2 2),(3,.int .i64 9),(4,.int .i64 0),(5,.int .i64 0),(6,.int .i64 0),(7,.string (⟨#[]⟩:ByteArray)),(8,.complex .f64 0 0),(9,.complex .f64 0 0),(10,.complex .f64 0 0),(11,.slice (some ⟨s.b27,0,none⟩) 2 2),(12,.slice none 0 0)] W;simp only [List.foldl_cons,List.foldl_nil] at hg';refine hK.out _ _ ((hg' _ hw1).trans HF.out.p1) (fun _=>?_);refine done_ (done_of HT_.out kR) ?_;have n1:=Kd.N_reads' (Kd.N_step (HF.out.f1 rfl) (fun k hk _=>hg' k (hk rfl)));have n3:=Kd.N_reads' (Kd.N_step (HF.out.f3 rfl) (fun k hk _=>hg' k (hk rfl)));have hcols:=kn_rowC (d:=Kd.string) (xs:=kn_np) ((hg' _ hb23).trans (HF.out.f0 rfl).1) (Reps.one rfl (Reps.one rfl (Reps.none _ _))) (by decide);have hkids:=kn_rowC (d:=k30) (xs:=[kn_cmp,kn_not]) ((hg' _ hb27).trans (HF.out.f4 rfl)) (Reps.c9 (k30_mk _ kn_cmp n1.2.1 n1.2.2) (Reps.c9 (k30_mk _ kn_not n3.2.1 n3.2.2) (Reps.none _ _))) (by decide);have hblk:=(blk_put (blk_put (blk_put (blk_put (blk_put (blk_put (blk_put (blk_put (blk_put (blk_put (blk_put (blk_put (blk_put hz 0 (.int .i64 1) rfl) 1 (.int .i64 0) rfl) 2 (.slice (some ⟨s.b23,0,none⟩) 2 2) rfl) 3 (.int .i64 9) rfl) 4 (.int .i64 0) rfl) 5 (.int .i64 0) rfl) 6 (.int .i64 0) rfl) 7 (.string (⟨#[]⟩:ByteArray)) rfl) 8 (.complex .f64 0 0) rfl) 9 (.complex .f64 0 0) rfl) 10 (.complex .f64 0 0) rfl) 11 (.slice (some ⟨s.b27,0,none⟩) 2 2) rfl) 12 (.slice none 0 0) rfl);simp only [List.setIfInBounds_toArray,List.set_cons_zero,List.set_cons_succ] at hblk;change Kd.C Kd.string _ _ 2 kn_np at hcols;change Kd.C k30 _ _ 2 [kn_cmp,kn_not] at hkids;have hbel:=HF.out.below;clear hg' hK HT_ HW_ HZ z0 y0
   go_wp2
   go_meet
   case rel=>exact ⟨s.g,some ⟨s.b23,0,none⟩,2,some ⟨s.b27,0,none⟩,2,rfl,⟨⟨hblk,hcols,hkids,Nat.le_refl _,Nat.le_refl _⟩⟩,⟨by with_reducible repeat (first|exact hbel|refine below_set ?_ hge)⟩⟩
  ·intro s W hF
   have hS:=hF.p1;refine norm_ (a':=?_) ?_ ?_;rotate_left
   ·simp only [putAll,Act.put,List.setIfInBounds_toArray,List.set_cons_zero,List.set_cons_succ]
    rfl
   refine one_ (i:=7) (N:=some 2) (fl 9 255) rfl rfl (oO HT_) (by decide) (fun K hK=>?_)
   ·refine event_step (by rfl) (v:=.pointer (some ⟨W.heap.size,0,none⟩)) (w1:=W.alloc (.cells #[.int .i64 0,.int .i64 0,.slice none 0 0,.int .i64 0,.int .i64 0,.int .i64 0,.int .i64 0,.string (⟨#[]⟩:ByteArray),.complex .f64 0 0,.complex .f64 0 0,.complex .f64 0 0,.slice none 0 0,.slice none 0 0] 38)) hR ?_
    have hF2:=hF.add7;refine hK.out _ _ hF2.p1 (fun hS=>?_);clear hK;exact norm_ nA (hJ01347 ({s with g:=W.heap.size}) _ hF2)
  ·intro s W hF
   have hS:=hF.p1;refine norm_ (a':=?_) ?_ ?_;rotate_left
   ·simp only [putAll,Act.put,List.setIfInBounds_toArray,List.set_cons_zero,List.set_cons_succ]
    rfl
   refine one_ (i:=4) (N:=some 27) (fl 9 159) rfl rfl (oO HT_) (by decide) (fun K hK=>?_)
   ·refine event_step (by rfl) (v:=.slice (some ⟨W.heap.size,0,none⟩) 2 2) (w1:=W.alloc (.cells #[.int .i64 6,.int .i64 0,.int .i64 1,.int .i64 3,.string (⟨#[]⟩:ByteArray),.complex .f64 0 0,.complex .f64 0 0,.complex .f64 0 0,.slice s.A24 0 s.c24,.int .i64 11,.int .i64 0,.int .i64 0,.int .i64 0,.string (⟨#[]⟩:ByteArray),.complex .f64 0 0,.complex .f64 0 0,.complex .f64 0 0,.slice s.A26 1 s.c26] 30)) hR ?_
    have hF2:=hF.add4;refine hK.out _ _ hF2.p1 (fun hS=>?_);clear hK;refine norm_ (a':=?_) ?_ ?_;rotate_left
    ·simp only [putAll,Act.put,List.setIfInBounds_toArray,List.set_cons_zero,List.set_cons_succ]
     rfl
    refine pure_ (i:=5) (N:=some 28) (v:=?_) (a':=?_) (fl 9 191) rfl rfl (aO HT_) fI (Or.inl ⟨by rfl,?_⟩) ?_ ?_;rotate_left
    ·intro w'
     go_simp
     with_reducible rfl
    rotate_left
    ·exact pA
    refine pure_ (i:=6) (N:=some 29) (v:=?_) (a':=?_) (fl 9 255) rfl rfl (aO HT_) fI (Or.inl ⟨by rfl,?_⟩) ?_ ?_;rotate_left
    ·intro w'
     go_simp
     with_reducible rfl
    rotate_left
    ·exact pA
    exact norm_ nA (hJ01347 ({s with b27:=W.heap.size}) _ hF2)
  ·intro s W hF
   have hS:=hF.p1;refine norm_ (a':=?_) ?_ ?_;rotate_left
   ·simp only [putAll,Act.put,List.setIfInBounds_toArray,List.set_cons_zero,List.set_cons_succ]
    rfl
   refine one_ (i:=0) (N:=some 23) (fl 9 191) rfl rfl (oO HT_) (by decide) (fun K hK=>?_)
   ·refine event_step (by rfl) (v:=.slice (some ⟨W.heap.size,0,none⟩) 2 2) (w1:=W.alloc (.cells #[.string (⟨#[110]⟩:ByteArray),.string (⟨#[112]⟩:ByteArray)] 9)) hR ?_
    have hF2:=hF.add0;refine hK.out _ _ hF2.p1 (fun hS=>?_);clear hK;refine norm_ (a':=?_) ?_ ?_;rotate_left
    ·simp only [putAll,Act.put,List.setIfInBounds_toArray,List.set_cons_zero,List.set_cons_succ]
     rfl
    refine pure_ (i:=6) (N:=some 29) (v:=?_) (a':=?_) (fl 9 255) rfl rfl (aO HT_) fI (Or.inl ⟨by rfl,?_⟩) ?_ ?_;rotate_left
    ·intro w'
     go_simp
     with_reducible rfl
    rotate_left
    ·exact pA
    exact norm_ nA (hJ01347 ({s with b23:=W.heap.size}) _ hF2)
  ·intro s W hF
   have hS:=hF.p1;refine norm_ (a':=?_) ?_ ?_;rotate_left
   ·simp only [putAll,Act.put,List.setIfInBounds_toArray,List.set_cons_zero,List.set_cons_succ]
    rfl
   refine two_ (i:=4) (j:=7) (Ni:=some 27) (Nj:=some 2) (fl 9 31) (fl 9 143) rfl rfl rfl rfl (two_of HT_.out kR) (by decide) (by decide) (fun K hK=>?_) (fun K hK=>?_)
   ·refine event_step (by rfl) (v:=.slice (some ⟨W.heap.size,0,none⟩) 2 2) (w1:=W.alloc (.cells #[.int .i64 6,.int .i64 0,.int .i64 1,.int .i64 3,.string (⟨#[]⟩:ByteArray),.complex .f64 0 0,.complex .f64 0 0,.complex .f64 0 0,.slice s.A24 0 s.c24,.int .i64 11,.int .i64 0,.int .i64 0,.int .i64 0,.string (⟨#[]⟩:ByteArray),.complex .f64 0 0,.complex .f64 0 0,.complex .f64 0 0,.slice s.A26 1 s.c26] 30)) hR ?_
    have hF2:=hF.add4;refine hK.out _ _ hF2.p1 (fun hS=>?_);clear hK;refine norm_ (a':=?_) ?_ ?_;rotate_left
    ·simp only [putAll,Act.put,List.setIfInBounds_toArray,List.set_cons_zero,List.set_cons_succ]
     rfl
    refine pure_ (i:=5) (N:=some 28) (v:=?_) (a':=?_) (fl 9 63) rfl rfl (aO HT_) fI (Or.inl ⟨by rfl,?_⟩) ?_ ?_;rotate_left
    ·intro w'
     go_simp
     with_reducible rfl
    rotate_left
    ·exact pA
    refine pure_ (i:=6) (N:=some 29) (v:=?_) (a':=?_) (fl 9 127) rfl rfl (aO HT_) fI (Or.inl ⟨by rfl,?_⟩) ?_ ?_;rotate_left
    ·intro w'
     go_simp
     with_reducible rfl
    rotate_left
    ·exact pA
    exact norm_ nA (hJ0134 ({s with b27:=W.heap.size}) _ hF2)
   ·refine event_step (by rfl) (v:=.pointer (some ⟨W.heap.size,0,none⟩)) (w1:=W.alloc (.cells #[.int .i64 0,.int .i64 0,.slice none 0 0,.int .i64 0,.int .i64 0,.int .i64 0,.int .i64 0,.string (⟨#[]⟩:ByteArray),.complex .f64 0 0,.complex .f64 0 0,.complex .f64 0 0,.slice none 0 0,.slice none 0 0] 38)) hR ?_
    have hF2:=hF.add7;refine hK.out _ _ hF2.p1 (fun hS=>?_);clear hK;exact norm_ nA (hJ0137 ({s with g:=W.heap.size}) _ hF2)
  ·intro s W hF
   have hS:=hF.p1;refine norm_ (a':=?_) ?_ ?_;rotate_left
   ·simp only [putAll,Act.put,List.setIfInBounds_toArray,List.set_cons_zero,List.set_cons_succ]
    rfl
   refine one_ (i:=3) (N:=some 26) (fl 9 143) rfl rfl (oO HT_) (by decide) (fun K hK=>?_)
   ·refine goes_ Tryz.func6 kR rfl #[.agg #[.int .i64 8,.int .i64 2,.int .i64 0,.int .i64 0,.string (⟨#[]⟩:ByteArray),.complex .f64 0 0,.complex .f64 0 0,.complex .f64 4611686018427387904 13830554455654793216,.slice none 0 0]] (by rfl) rfl rfl mA ?_
    refine (HC2.out W).mono ?_;rintro e W1 ⟨v1,rfl,hr1,hb1⟩;obtain ⟨A1,c1,rfl⟩:=Kd.N_slice hr1;refine ⟨_,rfl,?_⟩;have hF2:=(hF.add3 hr1 hb1 rfl);refine hK.out _ _ hF2.p1 (fun hS=>?_);clear hK;exact norm_ nA (hJ0137 ({s with A26:=A1,c26:=c1}) _ hF2)
  ·intro s W hF
   have hS:=hF.p1;refine norm_ (a':=?_) ?_ ?_;rotate_left
   ·simp only [putAll,Act.put,List.setIfInBounds_toArray,List.set_cons_zero,List.set_cons_succ]
    rfl
   refine two_ (i:=0) (j:=7) (Ni:=some 23) (Nj:=some 2) (fl 9 63) (fl 9 190) rfl rfl rfl rfl (two_of HT_.out kR) (by decide) (by decide) (fun K hK=>?_) (fun K hK=>?_)
   ·refine event_step (by rfl) (v:=.slice (some ⟨W.heap.size,0,none⟩) 2 2) (w1:=W.alloc (.cells #[.string (⟨#[110]⟩:ByteArray),.string (⟨#[112]⟩:ByteArray)] 9)) hR ?_
    have hF2:=hF.add0;refine hK.out _ _ hF2.p1 (fun hS=>?_);clear hK;refine norm_ (a':=?_) ?_ ?_;rotate_left
    ·simp only [putAll,Act.put,List.setIfInBounds_toArray,List.set_cons_zero,List.set_cons_succ]
     rfl
    refine pure_ (i:=6) (N:=some 29) (v:=?_) (a':=?_) (fl 9 127) rfl rfl (aO HT_) fI (Or.inl ⟨by rfl,?_⟩) ?_ ?_;rotate_left
    ·intro w'
     go_simp
     with_reducible rfl
    rotate_left
    ·exact pA
    exact norm_ nA (hJ0134 ({s with b23:=W.heap.size}) _ hF2)
   ·refine event_step (by rfl) (v:=.pointer (some ⟨W.heap.size,0,none⟩)) (w1:=W.alloc (.cells #[.int .i64 0,.int .i64 0,.slice none 0 0,.int .i64 0,.int .i64 0,.int .i64 0,.int .i64 0,.string (⟨#[]⟩:ByteArray),.complex .f64 0 0,.complex .f64 0 0,.complex .f64 0 0,.slice none 0 0,.slice none 0 0] 38)) hR ?_
    have hF2:=hF.add7;refine hK.out _ _ hF2.p1 (fun hS=>?_);clear hK;exact norm_ nA (hJ1347 ({s with g:=W.heap.size}) _ hF2)
  ·intro s W hF
   have hS:=hF.p1;refine norm_ (a':=?_) ?_ ?_;rotate_left
   ·simp only [putAll,Act.put,List.setIfInBounds_toArray,List.set_cons_zero,List.set_cons_succ]
    rfl
   refine two_ (i:=0) (j:=4) (Ni:=some 23) (Nj:=some 27) (fl 9 143) (fl 9 158) rfl rfl rfl rfl (two_of HT_.out kR) (by decide) (by decide) (fun K hK=>?_) (fun K hK=>?_)
   ·refine event_step (by rfl) (v:=.slice (some ⟨W.heap.size,0,none⟩) 2 2) (w1:=W.alloc (.cells #[.string (⟨#[110]⟩:ByteArray),.string (⟨#[112]⟩:ByteArray)] 9)) hR ?_
    have hF2:=hF.add0;refine hK.out _ _ hF2.p1 (fun hS=>?_);clear hK;exact norm_ nA (hJ0137 ({s with b23:=W.heap.size}) _ hF2)
   ·refine event_step (by rfl) (v:=.slice (some ⟨W.heap.size,0,none⟩) 2 2) (w1:=W.alloc (.cells #[.int .i64 6,.int .i64 0,.int .i64 1,.int .i64 3,.string (⟨#[]⟩:ByteArray),.complex .f64 0 0,.complex .f64 0 0,.complex .f64 0 0,.slice s.A24 0 s.c24,.int .i64 11,.int .i64 0,.int .i64 0,.int .i64 0,.string (⟨#[]⟩:ByteArray),.complex .f64 0 0,.complex .f64 0 0,.complex .f64 0 0,.slice s.A26 1 s.c26] 30)) hR ?_
    have hF2:=hF.add4;refine hK.out _ _ hF2.p1 (fun hS=>?_);clear hK;refine norm_ (a':=?_) ?_ ?_;rotate_left
    ·simp only [putAll,Act.put,List.setIfInBounds_toArray,List.set_cons_zero,List.set_cons_succ]
     rfl
    refine pure_ (i:=5) (N:=some 28) (v:=?_) (a':=?_) (fl 9 190) rfl rfl (aO HT_) fI (Or.inl ⟨by rfl,?_⟩) ?_ ?_;rotate_left
    ·intro w'
     go_simp
     with_reducible rfl
    rotate_left
    ·exact pA
    exact norm_ nA (hJ1347 ({s with b27:=W.heap.size}) _ hF2)
  ·intro s W hF
   have hS:=hF.p1;refine norm_ (a':=?_) ?_ ?_;rotate_left
   ·simp only [putAll,Act.put,List.setIfInBounds_toArray,List.set_cons_zero,List.set_cons_succ]
    rfl
   refine two_ (i:=3) (j:=7) (Ni:=some 26) (Nj:=some 2) (fl 9 15) (fl 9 135) rfl rfl rfl rfl (two_of HT_.out kR) (by decide) (by decide) (fun K hK=>?_) (fun K hK=>?_)
   ·refine goes_ Tryz.func6 kR rfl #[.agg #[.int .i64 8,.int .i64 2,.int .i64 0,.int .i64 0,.string (⟨#[]⟩:ByteArray),.complex .f64 0 0,.complex .f64 0 0,.complex .f64 4611686018427387904 13830554455654793216,.slice none 0 0]] (by rfl) rfl rfl mA ?_
    refine (HC2.out W).mono ?_;rintro e W1 ⟨v1,rfl,hr1,hb1⟩;obtain ⟨A1,c1,rfl⟩:=Kd.N_slice hr1;refine ⟨_,rfl,?_⟩;have hF2:=(hF.add3 hr1 hb1 rfl);refine hK.out _ _ hF2.p1 (fun hS=>?_);clear hK;exact norm_ nA (hJ013 ({s with A26:=A1,c26:=c1}) _ hF2)
   ·refine event_step (by rfl) (v:=.pointer (some ⟨W.heap.size,0,none⟩)) (w1:=W.alloc (.cells #[.int .i64 0,.int .i64 0,.slice none 0 0,.int .i64 0,.int .i64 0,.int .i64 0,.int .i64 0,.string (⟨#[]⟩:ByteArray),.complex .f64 0 0,.complex .f64 0 0,.complex .f64 0 0,.slice none 0 0,.slice none 0 0] 38)) hR ?_
    have hF2:=hF.add7;refine hK.out _ _ hF2.p1 (fun hS=>?_);clear hK;exact norm_ nA (hJ017 ({s with g:=W.heap.size}) _ hF2)
  ·intro s W hF
   have hS:=hF.p1;refine norm_ (a':=?_) ?_ ?_;rotate_left
   ·simp only [putAll,Act.put,List.setIfInBounds_toArray,List.set_cons_zero,List.set_cons_succ]
    rfl
   refine one_ (i:=1) (N:=some 24) (fl 9 135) rfl rfl (oO HT_) (by decide) (fun K hK=>?_)
   ·refine goes_ Tryz.func16 kR rfl #[.int .i64 6,.int .i64 0,.int .i64 3] (by rfl) rfl rfl mA ?_
    refine (HC1.out W).mono ?_;rintro e W1 ⟨v1,rfl,hr1,hb1⟩;obtain ⟨A1,c1,rfl⟩:=Kd.R_slice hr1;refine ⟨_,rfl,?_⟩;have hF2:=(hF.add1 hr1 hb1 rfl);refine hK.out _ _ hF2.p1 (fun hS=>?_);clear hK;exact norm_ nA (hJ017 ({s with A24:=A1,c24:=c1}) _ hF2)
  ·intro s W hF
   have hS:=hF.p1;refine norm_ (a':=?_) ?_ ?_;rotate_left
   ·simp only [putAll,Act.put,List.setIfInBounds_toArray,List.set_cons_zero,List.set_cons_succ]
    rfl
   refine three_ (i:=0) (j:=4) (k:=7) (Ni:=some 23) (Nj:=some 27) (Nk:=some 2) (fl 9 15) (fl 9 30) (fl 9 142) rfl rfl rfl rfl rfl rfl (three_of HT_.out kR) (by decide) (by decide) (by decide) (fun K hK=>?_) (fun K hK=>?_) (fun K hK=>?_)
   ·refine event_step (by rfl) (v:=.slice (some ⟨W.heap.size,0,none⟩) 2 2) (w1:=W.alloc (.cells #[.string (⟨#[110]⟩:ByteArray),.string (⟨#[112]⟩:ByteArray)] 9)) hR ?_
    have hF2:=hF.add0;refine hK.out _ _ hF2.p1 (fun hS=>?_);clear hK;exact norm_ nA (hJ013 ({s with b23:=W.heap.size}) _ hF2)
   ·refine event_step (by rfl) (v:=.slice (some ⟨W.heap.size,0,none⟩) 2 2) (w1:=W.alloc (.cells #[.int .i64 6,.int .i64 0,.int .i64 1,.int .i64 3,.string (⟨#[]⟩:ByteArray),.complex .f64 0 0,.complex .f64 0 0,.complex .f64 0 0,.slice s.A24 0 s.c24,.int .i64 11,.int .i64 0,.int .i64 0,.int .i64 0,.string (⟨#[]⟩:ByteArray),.complex .f64 0 0,.complex .f64 0 0,.complex .f64 0 0,.slice s.A26 1 s.c26] 30)) hR ?_
    have hF2:=hF.add4;refine hK.out _ _ hF2.p1 (fun hS=>?_);clear hK;refine norm_ (a':=?_) ?_ ?_;rotate_left
    ·simp only [putAll,Act.put,List.setIfInBounds_toArray,List.set_cons_zero,List.set_cons_succ]
     rfl
    refine pure_ (i:=5) (N:=some 28) (v:=?_) (a':=?_) (fl 9 62) rfl rfl (aO HT_) fI (Or.inl ⟨by rfl,?_⟩) ?_ ?_;rotate_left
    ·intro w'
     go_simp
     with_reducible rfl
    rotate_left
    ·exact pA
    exact norm_ nA (hJ134 ({s with b27:=W.heap.size}) _ hF2)
   ·refine event_step (by rfl) (v:=.pointer (some ⟨W.heap.size,0,none⟩)) (w1:=W.alloc (.cells #[.int .i64 0,.int .i64 0,.slice none 0 0,.int .i64 0,.int .i64 0,.int .i64 0,.int .i64 0,.string (⟨#[]⟩:ByteArray),.complex .f64 0 0,.complex .f64 0 0,.complex .f64 0 0,.slice none 0 0,.slice none 0 0] 38)) hR ?_
    have hF2:=hF.add7;refine hK.out _ _ hF2.p1 (fun hS=>?_);clear hK;exact norm_ nA (hJ137 ({s with g:=W.heap.size}) _ hF2)
  ·intro s W hF
   have hS:=hF.p1;refine norm_ (a':=?_) ?_ ?_;rotate_left
   ·simp only [putAll,Act.put,List.setIfInBounds_toArray,List.set_cons_zero,List.set_cons_succ]
    rfl
   refine two_ (i:=0) (j:=3) (Ni:=some 23) (Nj:=some 26) (fl 9 135) (fl 9 142) rfl rfl rfl rfl (two_of HT_.out kR) (by decide) (by decide) (fun K hK=>?_) (fun K hK=>?_)
   ·refine event_step (by rfl) (v:=.slice (some ⟨W.heap.size,0,none⟩) 2 2) (w1:=W.alloc (.cells #[.string (⟨#[110]⟩:ByteArray),.string (⟨#[112]⟩:ByteArray)] 9)) hR ?_
    have hF2:=hF.add0;refine hK.out _ _ hF2.p1 (fun hS=>?_);clear hK;exact norm_ nA (hJ017 ({s with b23:=W.heap.size}) _ hF2)
   ·refine goes_ Tryz.func6 kR rfl #[.agg #[.int .i64 8,.int .i64 2,.int .i64 0,.int .i64 0,.string (⟨#[]⟩:ByteArray),.complex .f64 0 0,.complex .f64 0 0,.complex .f64 4611686018427387904 13830554455654793216,.slice none 0 0]] (by rfl) rfl rfl mA ?_
    refine (HC2.out W).mono ?_;rintro e W1 ⟨v1,rfl,hr1,hb1⟩;obtain ⟨A1,c1,rfl⟩:=Kd.N_slice hr1;refine ⟨_,rfl,?_⟩;have hF2:=(hF.add3 hr1 hb1 rfl);refine hK.out _ _ hF2.p1 (fun hS=>?_);clear hK;exact norm_ nA (hJ137 ({s with A26:=A1,c26:=c1}) _ hF2)
  ·intro s W hF
   have hS:=hF.p1;refine norm_ (a':=?_) ?_ ?_;rotate_left
   ·simp only [putAll,Act.put,List.setIfInBounds_toArray,List.set_cons_zero,List.set_cons_succ]
    rfl
   refine two_ (i:=1) (j:=7) (Ni:=some 24) (Nj:=some 2) (fl 9 7) (fl 9 133) rfl rfl rfl rfl (two_of HT_.out kR) (by decide) (by decide) (fun K hK=>?_) (fun K hK=>?_)
   ·refine goes_ Tryz.func16 kR rfl #[.int .i64 6,.int .i64 0,.int .i64 3] (by rfl) rfl rfl mA ?_
    refine (HC1.out W).mono ?_;rintro e W1 ⟨v1,rfl,hr1,hb1⟩;obtain ⟨A1,c1,rfl⟩:=Kd.R_slice hr1;refine ⟨_,rfl,?_⟩;have hF2:=(hF.add1 hr1 hb1 rfl);refine hK.out _ _ hF2.p1 (fun hS=>?_);clear hK;exact norm_ nA (hJ01 ({s with A24:=A1,c24:=c1}) _ hF2)
   ·refine event_step (by rfl) (v:=.pointer (some ⟨W.heap.size,0,none⟩)) (w1:=W.alloc (.cells #[.int .i64 0,.int .i64 0,.slice none 0 0,.int .i64 0,.int .i64 0,.int .i64 0,.int .i64 0,.string (⟨#[]⟩:ByteArray),.complex .f64 0 0,.complex .f64 0 0,.complex .f64 0 0,.slice none 0 0,.slice none 0 0] 38)) hR ?_
    have hF2:=hF.add7;refine hK.out _ _ hF2.p1 (fun hS=>?_);clear hK;exact norm_ nA (hJ07 ({s with g:=W.heap.size}) _ hF2)
  ·intro s W hF
   have hS:=hF.p1;refine norm_ (a':=?_) ?_ ?_;rotate_left
   ·simp only [putAll,Act.put,List.setIfInBounds_toArray,List.set_cons_zero,List.set_cons_succ]
    rfl
   refine three_ (i:=0) (j:=3) (k:=7) (Ni:=some 23) (Nj:=some 26) (Nk:=some 2) (fl 9 7) (fl 9 14) (fl 9 134) rfl rfl rfl rfl rfl rfl (three_of HT_.out kR) (by decide) (by decide) (by decide) (fun K hK=>?_) (fun K hK=>?_) (fun K hK=>?_)
   ·refine event_step (by rfl) (v:=.slice (some ⟨W.heap.size,0,none⟩) 2 2) (w1:=W.alloc (.cells #[.string (⟨#[110]⟩:ByteArray),.string (⟨#[112]⟩:ByteArray)] 9)) hR ?_
    have hF2:=hF.add0;refine hK.out _ _ hF2.p1 (fun hS=>?_);clear hK;exact norm_ nA (hJ01 ({s with b23:=W.heap.size}) _ hF2)
   ·refine goes_ Tryz.func6 kR rfl #[.agg #[.int .i64 8,.int .i64 2,.int .i64 0,.int .i64 0,.string (⟨#[]⟩:ByteArray),.complex .f64 0 0,.complex .f64 0 0,.complex .f64 4611686018427387904 13830554455654793216,.slice none 0 0]] (by rfl) rfl rfl mA ?_
    refine (HC2.out W).mono ?_;rintro e W1 ⟨v1,rfl,hr1,hb1⟩;obtain ⟨A1,c1,rfl⟩:=Kd.N_slice hr1;refine ⟨_,rfl,?_⟩;have hF2:=(hF.add3 hr1 hb1 rfl);refine hK.out _ _ hF2.p1 (fun hS=>?_);clear hK;exact norm_ nA (hJ13 ({s with A26:=A1,c26:=c1}) _ hF2)
   ·refine event_step (by rfl) (v:=.pointer (some ⟨W.heap.size,0,none⟩)) (w1:=W.alloc (.cells #[.int .i64 0,.int .i64 0,.slice none 0 0,.int .i64 0,.int .i64 0,.int .i64 0,.int .i64 0,.string (⟨#[]⟩:ByteArray),.complex .f64 0 0,.complex .f64 0 0,.complex .f64 0 0,.slice none 0 0,.slice none 0 0] 38)) hR ?_
    have hF2:=hF.add7;refine hK.out _ _ hF2.p1 (fun hS=>?_);clear hK;exact norm_ nA (hJ17 ({s with g:=W.heap.size}) _ hF2)
  ·intro s W hF
   have hS:=hF.p1;refine norm_ (a':=?_) ?_ ?_;rotate_left
   ·simp only [putAll,Act.put,List.setIfInBounds_toArray,List.set_cons_zero,List.set_cons_succ]
    rfl
   refine two_ (i:=0) (j:=1) (Ni:=some 23) (Nj:=some 24) (fl 9 133) (fl 9 134) rfl rfl rfl rfl (two_of HT_.out kR) (by decide) (by decide) (fun K hK=>?_) (fun K hK=>?_)
   ·refine event_step (by rfl) (v:=.slice (some ⟨W.heap.size,0,none⟩) 2 2) (w1:=W.alloc (.cells #[.string (⟨#[110]⟩:ByteArray),.string (⟨#[112]⟩:ByteArray)] 9)) hR ?_
    have hF2:=hF.add0;refine hK.out _ _ hF2.p1 (fun hS=>?_);clear hK;exact norm_ nA (hJ07 ({s with b23:=W.heap.size}) _ hF2)
   ·refine goes_ Tryz.func16 kR rfl #[.int .i64 6,.int .i64 0,.int .i64 3] (by rfl) rfl rfl mA ?_
    refine (HC1.out W).mono ?_;rintro e W1 ⟨v1,rfl,hr1,hb1⟩;obtain ⟨A1,c1,rfl⟩:=Kd.R_slice hr1;refine ⟨_,rfl,?_⟩;have hF2:=(hF.add1 hr1 hb1 rfl);refine hK.out _ _ hF2.p1 (fun hS=>?_);clear hK;exact norm_ nA (hJ17 ({s with A24:=A1,c24:=c1}) _ hF2)
 case rest=>
  clear HC1 HC2;obtain ⟨g,A23,c23,A27,c27,rfl,HA,B⟩:=hcut;have s0:=(blk_cell HA.out.blk 0).trans rfl;have s1:=(blk_cell HA.out.blk 1).trans rfl;have s2:=(blk_cell HA.out.blk 2).trans rfl;have s3:=(blk_cell HA.out.blk 3).trans rfl;have s4:=(blk_cell HA.out.blk 4).trans rfl;have s5:=(blk_cell HA.out.blk 5).trans rfl;have s6:=(blk_cell HA.out.blk 6).trans rfl;have s7:=(blk_cell HA.out.blk 7).trans rfl;have s8:=(blk_cell HA.out.blk 8).trans rfl;have s9:=(blk_cell HA.out.blk 9).trans rfl;have s10:=(blk_cell HA.out.blk 10).trans rfl;have s11:=(blk_cell HA.out.blk 11).trans rfl;have s12:=(blk_cell HA.out.blk 12).trans rfl
  go_upto_region 12 with (first|((with_reducible refine gate_callee (f:=7) rfl ?_);refine goesL_ (some 32) rfl rfl Tryz.func7 kR rfl #[.agg #[.int .i64 1,.int .i64 0,.slice A23 2 c23,.int .i64 9,.int .i64 0,.int .i64 0,.int .i64 0,.string (⟨#[]⟩:ByteArray),.complex .f64 0 0,.complex .f64 0 0,.complex .f64 0 0,.slice A27 2 c27,.slice none 0 0]] rfl mA ?_;refine (kn_c3 HA.out (Glob.below HG.out B.out)).mono ?_;rintro e w3 ⟨rfl,hb⟩;refine ⟨_,rfl,?_⟩;have nB_:=Mk (below_step B.out hb);have P2:=Mk (hb);clear hb B;have B:=nB_;clear nB_)|((with_reducible refine gate_callee (f:=13) rfl ?_);refine goesL_ (some 37) rfl rfl Tryz.func13 kR rfl #[.string kn_s] rfl mA ?_;refine (kn_c4 _ (Glob.below HG.out B.out)).mono ?_;rintro e w4 ⟨D1,d1,D2,d2,D3,d3,rfl,hd,hb⟩;refine ⟨_,rfl,?_⟩;have nB_:=Mk (below_step B.out hb);have nP2_:=Mk (below_step P2.out hb);have HD:=Mk (hd);clear hb hd B P2;have B:=nB_;clear nB_;have P2:=nP2_;clear nP2_)|((with_reducible refine gate_callee (f:=13) rfl ?_);refine goesL_ (some 41) rfl rfl Tryz.func13 kR rfl #[.string (⟨#[97,112,112,101,110,100,32,49,44,45,59,34,54,49,44,50,45,51,105]⟩:ByteArray)] rfl mA ?_;refine (kn_c5 _ (Glob.below HG.out (below_alloc B.out _))).mono ?_;rintro e w5 ⟨E1,e1,E2,e2,E3,e3,rfl,he,hb⟩;refine ⟨_,rfl,?_⟩;have nB_:=Mk (below_step (below_alloc B.out _) hb);have nP2_:=Mk (below_step (below_alloc P2.out _) hb);have HE:=Mk (he);have P4:=Mk (below_step (below_alloc (Below.refl _ _) _) hb);have K5:=Mk (blk_below (blk_new _ _) hb);clear hb he B P2;have B:=nB_;clear nB_;have P2:=nP2_;clear nP2_)|((with_reducible refine gate_callee (f:=13) rfl ?_);refine goesL_ (some 45) rfl rfl Tryz.func13 kR rfl #[.string (⟨#[111,112,101,110,32,110,32,32,97,108,108]⟩:ByteArray)] rfl mA ?_;refine (kn_c6 _ (Glob.below HG.out (below_alloc B.out _))).mono ?_;rintro e w6 ⟨_,_,_,_,_,_,rfl,_,hb⟩;refine ⟨_,rfl,?_⟩;have nB_:=Mk (below_step (below_alloc B.out _) hb);have nP2_:=Mk (below_step (below_alloc P2.out _) hb);have nP4_:=Mk (below_step (below_alloc P4.out _) hb);have nK5_:=Mk (blk_below (blk_alloc K5.out _) hb);have P5:=Mk (below_step (below_alloc (Below.refl _ _) _) hb);have K7:=Mk (blk_below (blk_new _ _) hb);clear hb B P2 P4 K5;have B:=nB_;clear nB_;have P2:=nP2_;clear nP2_;have P4:=nP4_;clear nP4_;have K5:=nK5_;clear nK5_)|((with_reducible refine gate_callee (f:=13) rfl ?_);refine goesL_ (some 49) rfl rfl Tryz.func13 kR rfl #[.string (⟨#[102,101,116,99,104,32,48,49]⟩:ByteArray)] rfl mA ?_;refine (kn_c7 _ (Glob.below HG.out (below_alloc B.out _))).mono ?_;rintro e w7 ⟨_,_,_,_,_,_,rfl,_,hb⟩;refine ⟨_,rfl,?_⟩;have nB_:=Mk (below_step (below_alloc B.out _) hb);have nP2_:=Mk (below_step (below_alloc P2.out _) hb);have nP4_:=Mk (below_step (below_alloc P4.out _) hb);have nP5_:=Mk (below_step (below_alloc P5.out _) hb);have nK5_:=Mk (blk_below (blk_alloc K5.out _) hb);have nK7_:=Mk (blk_below (blk_alloc K7.out _) hb);clear hb B P2 P4 P5 K5 K7;have B:=nB_;clear nB_;have P2:=nP2_;clear nP2_;have P4:=nP4_;clear nP4_;have P5:=nP5_;clear nP5_;have K5:=nK5_;clear nK5_;have K7:=nK7_;clear nK7_)|((with_reducible refine gate_callee (f:=7) rfl ?_);refine goesL_ (some 55) rfl rfl Tryz.func7 kR rfl _ rfl mA ?_;refine (kn_c8 _ _ ?hc (Glob.below HG.out (below_alloc (below_alloc B.out _) _))).mono ?_;(case hc=>exact kn_rowC (d:=Kd.string) (xs:=[(⟨#[110]⟩:ByteArray)]) (kn_new2 _ _ _) (Reps.one rfl (Reps.none _ _)) (by decide));rintro e w8 ⟨rfl,hb⟩;refine ⟨_,rfl,?_⟩;have nB_:=Mk (below_step (below_alloc (below_alloc B.out _) _) hb);have nP2_:=Mk (below_step (below_alloc (below_alloc P2.out _) _) hb);have nP4_:=Mk (below_step (below_alloc (below_alloc P4.out _) _) hb);have nP5_:=Mk (below_step (below_alloc (below_alloc P5.out _) _) hb);have nK5_:=Mk (blk_below (blk_alloc (blk_alloc K5.out _) _) hb);have nK7_:=Mk (blk_below (blk_alloc (blk_alloc K7.out _) _) hb);clear hb B P2 P4 P5 K5 K7;have B:=nB_;clear nB_;have P2:=nP2_;clear nP2_;have P4:=nP4_;clear nP4_;have P5:=nP5_;clear nP5_;have K5:=nK5_;clear nK5_;have K7:=nK7_;clear nK7_)|((with_reducible refine gate_callee (f:=13) rfl ?_);refine goesL_ (some 59) rfl rfl Tryz.func13 kR rfl #[.string (⟨#[111,112,101,110,32,110,32,97,110,100,40,97,108,108,41]⟩:ByteArray)] rfl mA ?_;refine (kn_c9 _ (Glob.below HG.out B.out)).mono ?_;rintro e w9 ⟨_,_,_,_,_,_,rfl,_,hb⟩;refine ⟨_,rfl,?_⟩;have nB_:=Mk (below_step B.out hb);have nP2_:=Mk (below_step P2.out hb);have nP4_:=Mk (below_step P4.out hb);have nP5_:=Mk (below_step P5.out hb);have nK5_:=Mk (blk_below K5.out hb);have nK7_:=Mk (blk_below K7.out hb);clear hb B P2 P4 P5 K5 K7;have B:=nB_;clear nB_;have P2:=nP2_;clear nP2_;have P4:=nP4_;clear nP4_;have P5:=nP5_;clear nP5_;have K5:=nK5_;clear nK5_;have K7:=nK7_;clear nK7_)|((with_reducible refine gate_callee (f:=8) rfl ?_);refine goesL_ (some 63) rfl rfl Tryz.func8 kR rfl #[.string (⟨#[110,111,116,40,110,111,116,40,110,111,116,40,110,111,116,40,110,111,116,40,110,111,116,40,110,111,116,40,110,111,116,40,97,108,108,41,41,41,41,41,41,41,41]⟩:ByteArray)] rfl mA ?_;refine (kn_c10 _ (Glob.below HG.out (below_alloc B.out _))).mono ?_;rintro e w10 ⟨_,_,rfl,hb⟩;refine ⟨_,rfl,?_⟩;have nB_:=Mk (below_step (below_alloc B.out _) hb);have nP2_:=Mk (below_step (below_alloc P2.out _) hb);have nP4_:=Mk (below_step (below_alloc P4.out _) hb);have nP5_:=Mk (below_step (below_alloc P5.out _) hb);have nK5_:=Mk (blk_below (blk_alloc K5.out _) hb);have nK7_:=Mk (blk_below (blk_alloc K7.out _) hb);clear hb B P2 P4 P5 K5 K7;have B:=nB_;clear nB_;have P2:=nP2_;clear nP2_;have P4:=nP4_;clear nP4_;have P5:=nP5_;clear nP5_;have K5:=nK5_;clear nK5_;have K7:=nK7_;clear nK7_)|((with_reducible refine gate_callee (f:=7) rfl ?_);refine goesL_ (some 68) rfl rfl Tryz.func7 kR rfl #[.agg #[.int .i64 5,.int .i64 0,.slice none 0 0,.int .i64 0,.int .i64 0,.int .i64 0,.int .i64 0,.string (⟨#[]⟩:ByteArray),.complex .f64 0 0,.complex .f64 0 0,.complex .f64 0 0,.slice none 0 0,.slice none 0 0]] rfl mA ?_;refine (kn_c11 _ (Glob.below HG.out (below_alloc B.out _))).mono ?_;rintro e w11 ⟨rfl,hb⟩;refine ⟨_,rfl,?_⟩;have nB_:=Mk (below_step (below_alloc B.out _) hb);have nP2_:=Mk (below_step (below_alloc P2.out _) hb);have nP4_:=Mk (below_step (below_alloc P4.out _) hb);have nP5_:=Mk (below_step (below_alloc P5.out _) hb);have nK5_:=Mk (blk_below (blk_alloc K5.out _) hb);have nK7_:=Mk (blk_below (blk_alloc K7.out _) hb);clear hb B P2 P4 P5 K5 K7;have B:=nB_;clear nB_;have P2:=nP2_;clear nP2_;have P4:=nP4_;clear nP4_;have P5:=nP5_;clear nP5_;have K5:=nK5_;clear nK5_;have K7:=nK7_;clear nK7_))
  obtain ⟨ad,a0,a1,c0,c1,rfl,hx0,hx1,⟨x0,x1,x2,x3⟩,⟨y0,y1,y2,y3⟩⟩:=kn_at (Kd.C_below HE.out.2.2.2.2.1 P5.out);clear s0 s1 s2 s3 s4 s5 s6 s7 s8 s9 s10 s11 s12;have k12:=(blk_cell K7.out 12).trans rfl
  go_wp2
  have HA11:=Mk (HA.out.below P2.out);have HD11:=Mk (kn_six HD.out P4.out);have HE11:=Mk (kn_six HE.out P5.out);clear HA HD HE P2 P4 P5 HG;have X0:=Mk hx0;have X1:=Mk hx1;have XA:=Mk (And.intro x0 (And.intro x1 (And.intro x2 x3)));have XB:=Mk (And.intro y0 (And.intro y1 (And.intro y2 y3)));clear hx0 hx1 x0 x1 x2 x3 y0 y1 y2 y3 k12;refine start_ (n:=68) (S:=fun W=>Below w11.heap.size w11 W) (ds:=[]) #[b0,b0,b0,b0,b0,b0,b0,b0,b0,b0,b0,b0,b0,b0,b0,b0,b0,b0,b0,b0,b0,b0,b0,b0,b0,b0,b0,b0,b0,b0,b0,b0,b0,b0,b0,b0,b0,b0,b0,b0,b0,b0,b0,b0,b0,b0,b0,b0,b0,b0,b0,b0,b0,b0,b0,b0,b0,b0,b0,b0,b0,b0,b0,b0,b0,b0,b0,b0] kR rfl rfl (below_drew1 (Below.refl _ _)) (fun hS=>?_);refine with_tabW kn_tab14 kn_bits14 (fun HT_ HW_=>?_)
  generalize w11.drew=W12 at hS ⊢
  refine pure_ (i:=0) (N:=some 83) (v:=.int .i64 0) (a':=?_) (fl 68 1) rfl rfl (aO HT_) fI (Or.inl ⟨by rfl,?_⟩) ?_ ?_
  ·intro w'
   first|(go_simp;done)|(go_simp;rfl)|(go_simp;kernel_rfl)
  rotate_left
  ·exact pA
  refine pure_ (i:=1) (N:=some 84) (v:=.int .i64 0) (a':=?_) (fl 68 3) rfl rfl (aO HT_) fI (Or.inl ⟨by rfl,?_⟩) ?_ ?_
  ·intro w'
   first|(go_simp;done)|(go_simp;rfl)|(go_simp;kernel_rfl)
  rotate_left
  ·exact pA
  refine pure_ (i:=2) (N:=some 85) (v:=.int .i64 0) (a':=?_) (fl 68 7) rfl rfl (aO HT_) fI (Or.inl ⟨by rfl,?_⟩) ?_ ?_
  ·intro w'
   first|(go_simp;done)|(go_simp;rfl)|(go_simp;kernel_rfl)
  rotate_left
  ·exact pA
  refine pure_ (i:=3) (N:=some 86) (v:=.int .i64 0) (a':=?_) (fl 68 15) rfl rfl (aO HT_) fI (Or.inl ⟨by rfl,?_⟩) ?_ ?_
  ·intro w'
   first|(go_simp;done)|(go_simp;rfl)|(go_simp;kernel_rfl)
  rotate_left
  ·exact pA
  refine pure_ (i:=4) (N:=some 87) (v:=.int .i64 0) (a':=?_) (fl 68 31) rfl rfl (aO HT_) fI (Or.inl ⟨by rfl,?_⟩) ?_ ?_
  ·intro w'
   first|(go_simp;done)|(go_simp;rfl)|(go_simp;kernel_rfl)
  rotate_left
  ·exact pA
  refine pure_ (i:=5) (N:=some 88) (v:=.int .i64 0) (a':=?_) (fl 68 63) rfl rfl (aO HT_) fI (Or.inl ⟨by rfl,?_⟩) ?_ ?_
  ·intro w'
   first|(go_simp;done)|(go_simp;rfl)|(go_simp;kernel_rfl)
  rotate_left
  ·exact pA
  refine pure_ (i:=6) (N:=some 89) (v:=.int .i64 0) (a':=?_) (fl 68 127) rfl rfl (aO HT_) fI (Or.inl ⟨by rfl,?_⟩) ?_ ?_
  ·intro w'
   first|(go_simp;done)|(go_simp;rfl)|(go_simp;kernel_rfl)
  rotate_left
  ·exact pA
  refine pure_ (i:=7) (N:=some 90) (v:=.bool true) (a':=?_) (fl 68 255) rfl rfl (aO HT_) fI (Or.inl ⟨by rfl,?_⟩) ?_ ?_
  ·intro w'
   first|(go_simp;done)|(go_simp;rfl)|(go_simp;kernel_rfl)
  rotate_left
  ·exact pA
  refine pure_ (i:=8) (N:=some 91) (v:=.bool true) (a':=?_) (fl 68 511) rfl rfl (aO HT_) fI (Or.inl ⟨by rfl,?_⟩) ?_ ?_
  ·intro w'
   first|(go_simp;done)|(go_simp;rfl)|(go_simp;kernel_rfl)
  rotate_left
  ·exact pA
  refine pure_ (i:=9) (N:=some 92) (v:=.string kn_s) (a':=?_) (fl 68 1023) rfl rfl (aO HT_) fI (Or.inl ⟨by rfl,?_⟩) ?_ ?_
  ·intro w'
   first|(go_simp;done)|(go_simp;rfl)|(go_simp;kernel_rfl)
  rotate_left
  ·exact pA
  refine pure_ (i:=10) (N:=some 93) (v:=.bool true) (a':=?_) (fl 68 2047) rfl rfl (aO HT_) fI (Or.inl ⟨by rfl,?_⟩) ?_ ?_
  ·intro w'
   first|(go_simp;done)|(go_simp;rfl)|(go_simp;kernel_rfl)
  rotate_left
  ·exact pA
  refine pure_ (i:=11) (N:=some 94) (v:=.bool true) (a':=?_) (fl 68 4095) rfl rfl (aO HT_) fI (Or.inl ⟨by rfl,?_⟩) ?_ ?_
  ·intro w'
   first|(go_simp;done)|(go_simp;rfl)|(go_simp;kernel_rfl)
  rotate_left
  ·exact pA
  refine pure_ (i:=12) (N:=some 95) (v:=.bool true) (a':=?_) (fl 68 8191) rfl rfl (aO HT_) fI (Or.inl ⟨by rfl,?_⟩) ?_ ?_
  ·intro w'
   first|(go_simp;done)|(go_simp;rfl)|(go_simp;kernel_rfl)
  rotate_left
  ·exact pA
  refine take_ (i:=13) (N:=some 96) (v:=.agg #[.int .i64 1,.int .i64 0,.slice D1 2 d1,.int .i64 9,.int .i64 0,.int .i64 0,.int .i64 0,.string (⟨#[]⟩:ByteArray),.complex .f64 0 0,.complex .f64 0 0,.complex .f64 0 0,.slice D2 2 d2,.slice D3 0 d3]) (a':=?_) (fl 68 16383) rfl rfl (tO HT_ HW_) fI (Or.inl ⟨by rfl,?_⟩) hS ?_ ?_
  ·intro W hW
   have u0:=(blk_cell (blk_below K5.out hW) 0).trans rfl;have u1:=(blk_cell (blk_below K5.out hW) 1).trans rfl;have u2:=(blk_cell (blk_below K5.out hW) 2).trans rfl;have u3:=(blk_cell (blk_below K5.out hW) 3).trans rfl;have u4:=(blk_cell (blk_below K5.out hW) 4).trans rfl;have u5:=(blk_cell (blk_below K5.out hW) 5).trans rfl;have u6:=(blk_cell (blk_below K5.out hW) 6).trans rfl;have u7:=(blk_cell (blk_below K5.out hW) 7).trans rfl;have u8:=(blk_cell (blk_below K5.out hW) 8).trans rfl;have u9:=(blk_cell (blk_below K5.out hW) 9).trans rfl;have u10:=(blk_cell (blk_below K5.out hW) 10).trans rfl;have u11:=(blk_cell (blk_below K5.out hW) 11).trans rfl;have u12:=(blk_cell (blk_below K5.out hW) 12).trans rfl;first|(go_simp;done)|(go_simp;rfl)
  rotate_left
  ·exact pA
  refine take_ (i:=14) (N:=some 97) (v:=.agg #[.int .i64 1,.int .i64 0,.slice A23 2 c23,.int .i64 9,.int .i64 0,.int .i64 0,.int .i64 0,.string (⟨#[]⟩:ByteArray),.complex .f64 0 0,.complex .f64 0 0,.complex .f64 0 0,.slice A27 2 c27,.slice none 0 0]) (a':=?_) (fl 68 32767) rfl rfl (tO HT_ HW_) fI (Or.inl ⟨by rfl,?_⟩) hS ?_ ?_
  ·intro W hW
   have u0:=(blk_cell (blk_below HA11.out.blk hW) 0).trans rfl;have u1:=(blk_cell (blk_below HA11.out.blk hW) 1).trans rfl;have u2:=(blk_cell (blk_below HA11.out.blk hW) 2).trans rfl;have u3:=(blk_cell (blk_below HA11.out.blk hW) 3).trans rfl;have u4:=(blk_cell (blk_below HA11.out.blk hW) 4).trans rfl;have u5:=(blk_cell (blk_below HA11.out.blk hW) 5).trans rfl;have u6:=(blk_cell (blk_below HA11.out.blk hW) 6).trans rfl;have u7:=(blk_cell (blk_below HA11.out.blk hW) 7).trans rfl;have u8:=(blk_cell (blk_below HA11.out.blk hW) 8).trans rfl;have u9:=(blk_cell (blk_below HA11.out.blk hW) 9).trans rfl;have u10:=(blk_cell (blk_below HA11.out.blk hW) 10).trans rfl;have u11:=(blk_cell (blk_below HA11.out.blk hW) 11).trans rfl;have u12:=(blk_cell (blk_below HA11.out.blk hW) 12).trans rfl;first|(go_simp;done)|(go_simp;rfl)
  rotate_left
  ·exact pA
  refine one_ (i:=15) (N:=some 98) (fl 68 65535) rfl rfl (oO HT_) (by decide) (fun K hK=>?_);refine goes_ Tryz.func17 kR rfl #[.agg #[.int .i64 1,.int .i64 0,.slice D1 2 d1,.int .i64 9,.int .i64 0,.int .i64 0,.int .i64 0,.string (⟨#[]⟩:ByteArray),.complex .f64 0 0,.complex .f64 0 0,.complex .f64 0 0,.slice D2 2 d2,.slice D3 0 d3],.agg #[.int .i64 1,.int .i64 0,.slice A23 2 c23,.int .i64 9,.int .i64 0,.int .i64 0,.int .i64 0,.string (⟨#[]⟩:ByteArray),.complex .f64 0 0,.complex .f64 0 0,.complex .f64 0 0,.slice A27 2 c27,.slice none 0 0]] (by rfl) rfl rfl mA ?_;refine (kn_c15 (kn_six HD11.out hS) (HA11.out.below hS)).mono ?_;rintro e W13 ⟨rfl,hb⟩;refine ⟨_,rfl,?_⟩;have hS2:=below_step hS hb;clear hb;refine hK.out _ _ hS2 (fun _=>?_);clear hK hS;have hS:=hS2;clear hS2;refine norm_ (a':=?_) ?_ ?_;rotate_left
  ·exact pA
  refine pure_ (i:=16) (N:=some 99) (v:=.bool true) (a':=?_) (fl 68 131071) rfl rfl (aO HT_) fI (Or.inl ⟨by rfl,?_⟩) ?_ ?_
  ·intro w'
   first|(go_simp;done)|(go_simp;rfl)|(go_simp;kernel_rfl)
  rotate_left
  ·exact pA
  refine pure_ (i:=17) (N:=some 100) (v:=.bool true) (a':=?_) (fl 68 262143) rfl rfl (aO HT_) fI (Or.inl ⟨by rfl,?_⟩) ?_ ?_
  ·intro w'
   first|(go_simp;done)|(go_simp;rfl)|(go_simp;kernel_rfl)
  rotate_left
  ·exact pA
  refine pure_ (i:=18) (N:=some 101) (v:=.pointer (some ⟨w5.heap.size,12,none⟩)) (a':=?_) (fl 68 524287) rfl rfl (aO HT_) fI (Or.inl ⟨by rfl,?_⟩) ?_ ?_
  ·intro w'
   first|(go_simp;done)|(go_simp;rfl)|(go_simp;kernel_rfl)
  rotate_left
  ·exact pA
  refine take_ (i:=19) (N:=some 102) (v:=.slice (some ad) 2 e3) (a':=?_) (fl 68 1048575) rfl rfl (tO HT_ HW_) fI (Or.inl ⟨by rfl,?_⟩) hS ?_ ?_
  ·intro W hW
   have u12:=(blk_cell (blk_below K7.out hW) 12).trans rfl;first|(go_simp;done)|(go_simp;rfl)
  rotate_left
  ·exact pA
  refine pure_ (i:=20) (N:=some 103) (v:=.pointer (some ad)) (a':=?_) (fl 68 2097151) rfl rfl (aO HT_) fI (Or.inl ⟨by rfl,?_⟩) ?_ ?_
  ·intro w'
   first|(go_simp;done)|(go_simp;rfl)|(go_simp;kernel_rfl)
  rotate_left
  ·exact pA
  refine take_ (i:=21) (N:=some 104) (v:=.slice (some a0) 2 c0) (a':=?_) (fl 68 4194303) rfl rfl (tO HT_ HW_) fI (Or.inl ⟨by rfl,?_⟩) hS ?_ ?_
  ·intro W hW
   have u0:=pw_cell_below hW X0.out;first|(go_simp;done)|(go_simp;rfl)
  rotate_left
  ·exact pA
  refine pure_ (i:=22) (N:=some 105) (v:=.pointer (some ⟨a0.block,a0.off+4,none⟩)) (a':=?_) (fl 68 8388607) rfl rfl (aO HT_) fI (Or.inl ⟨by rfl,?_⟩) ?_ ?_
  ·intro w'
   first|(go_simp;done)|(go_simp;rfl)|(go_simp;kernel_rfl)
  rotate_left
  ·exact pA
  refine take_ (i:=23) (N:=some 106) (v:=.agg #[.int .i64 0,.int .i64 0,.string (⟨#[]⟩:ByteArray),.complex .f64 0 0]) (a':=?_) (fl 68 16777215) rfl rfl (tO HT_ HW_) fI (Or.inl ⟨by rfl,?_⟩) hS ?_ ?_
  ·intro W hW
   have u0:=pw_cell_below hW XA.out.1;have u1:=pw_cell_below hW XA.out.2.1;have u2:=pw_cell_below hW XA.out.2.2.1;have u3:=pw_cell_below hW XA.out.2.2.2;first|(go_simp;done)|(go_simp;rfl)
  rotate_left
  ·exact pA
  refine pure_ (i:=24) (N:=some 107) (v:=.agg #[.int .i64 0,.int .i64 0,.string (⟨#[]⟩:ByteArray),.complex .f64 0 0]) (a':=?_) (fl 68 33554431) rfl rfl (aO HT_) fI (Or.inl ⟨by rfl,?_⟩) ?_ ?_
  ·intro w'
   first|(go_simp;done)|(go_simp;rfl)|(go_simp;kernel_rfl)
  rotate_left
  ·exact pA
  refine pure_ (i:=25) (N:=some 108) (v:=.bool true) (a':=?_) (fl 68 67108863) rfl rfl (aO HT_) fI (Or.inl ⟨by rfl,?_⟩) ?_ ?_
  ·intro w'
   first|(go_simp;done)|(go_simp;rfl)|(go_simp;kernel_rfl)
  rotate_left
  ·exact pA
  refine pure_ (i:=26) (N:=some 109) (v:=.bool true) (a':=?_) (fl 68 134217727) rfl rfl (aO HT_) fI (Or.inl ⟨by rfl,?_⟩) ?_ ?_
  ·intro w'
   first|(go_simp;done)|(go_simp;rfl)|(go_simp;kernel_rfl)
  rotate_left
  ·exact pA
  refine pure_ (i:=27) (N:=some 110) (v:=.bool true) (a':=?_) (fl 68 268435455) rfl rfl (aO HT_) fI (Or.inl ⟨by rfl,?_⟩) ?_ ?_
  ·intro w'
   first|(go_simp;done)|(go_simp;rfl)|(go_simp;kernel_rfl)
  rotate_left
  ·exact pA
  refine pure_ (i:=28) (N:=some 111) (v:=.pointer (some ⟨w5.heap.size,12,none⟩)) (a':=?_) (fl 68 536870911) rfl rfl (aO HT_) fI (Or.inl ⟨by rfl,?_⟩) ?_ ?_
  ·intro w'
   first|(go_simp;done)|(go_simp;rfl)|(go_simp;kernel_rfl)
  rotate_left
  ·exact pA
  refine take_ (i:=29) (N:=some 112) (v:=.slice (some ad) 2 e3) (a':=?_) (fl 68 1073741823) rfl rfl (tO HT_ HW_) fI (Or.inl ⟨by rfl,?_⟩) hS ?_ ?_
  ·intro W hW
   have u12:=(blk_cell (blk_below K7.out hW) 12).trans rfl;first|(go_simp;done)|(go_simp;rfl)
  rotate_left
  ·exact pA
  refine pure_ (i:=30) (N:=some 113) (v:=.pointer (some ⟨ad.block,ad.off+1,none⟩)) (a':=?_) (fl 68 2147483647) rfl rfl (aO HT_) fI (Or.inl ⟨by rfl,?_⟩) ?_ ?_
  ·intro w'
   first|(go_simp;done)|(go_simp;rfl)|(go_simp;kernel_rfl)
  rotate_left
  ·exact pA
  refine take_ (i:=31) (N:=some 114) (v:=.slice (some a1) 2 c1) (a':=?_) (fl 68 4294967295) rfl rfl (tO HT_ HW_) fI (Or.inl ⟨by rfl,?_⟩) hS ?_ ?_
  ·intro W hW
   have u0:=pw_cell_below hW X1.out;first|(go_simp;done)|(go_simp;rfl)
  rotate_left
  ·exact pA
  refine pure_ (i:=32) (N:=some 115) (v:=.pointer (some ⟨a1.block,a1.off+4,none⟩)) (a':=?_) (fl 68 8589934591) rfl rfl (aO HT_) fI (Or.inl ⟨by rfl,?_⟩) ?_ ?_
  ·intro w'
   first|(go_simp;done)|(go_simp;rfl)|(go_simp;kernel_rfl)
  rotate_left
  ·exact pA
  refine take_ (i:=33) (N:=some 116) (v:=.agg #[.int .i64 3,.int .i64 0,.string (⟨#[]⟩:ByteArray),.complex .f64 4611686018427387904 13837309855095848960]) (a':=?_) (fl 68 17179869183) rfl rfl (tO HT_ HW_) fI (Or.inl ⟨by rfl,?_⟩) hS ?_ ?_
  ·intro W hW
   have u0:=pw_cell_below hW XB.out.1;have u1:=pw_cell_below hW XB.out.2.1;have u2:=pw_cell_below hW XB.out.2.2.1;have u3:=pw_cell_below hW XB.out.2.2.2;first|(go_simp;done)|(go_simp;rfl)
  rotate_left
  ·exact pA
  refine one_ (i:=34) (N:=some 117) (fl 68 34359738367) rfl rfl (oO HT_) (by decide) (fun K hK=>?_);refine goes_ Tryz.func18 kR rfl #[.int .i64 2,.int .i64 (-3)] (by rfl) rfl rfl mA ?_;refine (kn_c34 _).mono ?_;rintro e W14 ⟨rfl,hb⟩;refine ⟨_,rfl,?_⟩;have hS2:=below_step hS hb;clear hb;refine hK.out _ _ hS2 (fun _=>?_);clear hK hS;have hS:=hS2;clear hS2;refine norm_ (a':=?_) ?_ ?_;rotate_left
  ·exact pA
  refine pure_ (i:=35) (N:=some 118) (v:=.bool true) (a':=?_) (fl 68 68719476735) rfl rfl (aO HT_) fI (Or.inl ⟨by rfl,?_⟩) ?_ ?_
  ·intro w'
   first|(go_simp;done)|(go_simp;rfl)|(go_simp;kernel_rfl)
  rotate_left
  ·exact pA
  refine pure_ (i:=36) (N:=some 119) (v:=.bool true) (a':=?_) (fl 68 137438953471) rfl rfl (aO HT_) fI (Or.inl ⟨by rfl,?_⟩) ?_ ?_
  ·intro w'
   first|(go_simp;done)|(go_simp;rfl)|(go_simp;kernel_rfl)
  rotate_left
  ·exact pA
  refine pure_ (i:=37) (N:=some 120) (v:=.bool true) (a':=?_) (fl 68 274877906943) rfl rfl (aO HT_) fI (Or.inl ⟨by rfl,?_⟩) ?_ ?_
  ·intro w'
   first|(go_simp;done)|(go_simp;rfl)|(go_simp;kernel_rfl)
  rotate_left
  ·exact pA
  refine pure_ (i:=38) (N:=some 121) (v:=.int .i64 2) (a':=?_) (fl 68 549755813887) rfl rfl (aO HT_) fI (Or.inl ⟨by rfl,?_⟩) ?_ ?_
  ·intro w'
   first|(go_simp;done)|(go_simp;rfl)|(go_simp;kernel_rfl)
  rotate_left
  ·exact pA
  refine pure_ (i:=39) (N:=some 122) (v:=.bool true) (a':=?_) (fl 68 1099511627775) rfl rfl (aO HT_) fI (Or.inl ⟨by rfl,?_⟩) ?_ ?_
  ·intro w'
   first|(go_simp;done)|(go_simp;rfl)|(go_simp;kernel_rfl)
  rotate_left
  ·exact pA
  refine pure_ (i:=40) (N:=some 123) (v:=.bool true) (a':=?_) (fl 68 2199023255551) rfl rfl (aO HT_) fI (Or.inl ⟨by rfl,?_⟩) ?_ ?_
  ·intro w'
   first|(go_simp;done)|(go_simp;rfl)|(go_simp;kernel_rfl)
  rotate_left
  ·exact pA
  refine pure_ (i:=41) (N:=some 124) (v:=.bool true) (a':=?_) (fl 68 4398046511103) rfl rfl (aO HT_) fI (Or.inl ⟨by rfl,?_⟩) ?_ ?_
  ·intro w'
   first|(go_simp;done)|(go_simp;rfl)|(go_simp;kernel_rfl)
  rotate_left
  ·exact pA
  refine pure_ (i:=42) (N:=some 125) (v:=.int .i64 2) (a':=?_) (fl 68 8796093022207) rfl rfl (aO HT_) fI (Or.inl ⟨by rfl,?_⟩) ?_ ?_
  ·intro w'
   first|(go_simp;done)|(go_simp;rfl)|(go_simp;kernel_rfl)
  rotate_left
  ·exact pA
  refine pure_ (i:=43) (N:=some 126) (v:=.bool true) (a':=?_) (fl 68 17592186044415) rfl rfl (aO HT_) fI (Or.inl ⟨by rfl,?_⟩) ?_ ?_
  ·intro w'
   first|(go_simp;done)|(go_simp;rfl)|(go_simp;kernel_rfl)
  rotate_left
  ·exact pA
  refine pure_ (i:=44) (N:=some 127) (v:=.bool true) (a':=?_) (fl 68 35184372088831) rfl rfl (aO HT_) fI (Or.inl ⟨by rfl,?_⟩) ?_ ?_
  ·intro w'
   first|(go_simp;done)|(go_simp;rfl)|(go_simp;kernel_rfl)
  rotate_left
  ·exact pA
  refine pure_ (i:=45) (N:=some 128) (v:=.bool true) (a':=?_) (fl 68 70368744177663) rfl rfl (aO HT_) fI (Or.inl ⟨by rfl,?_⟩) ?_ ?_
  ·intro w'
   first|(go_simp;done)|(go_simp;rfl)|(go_simp;kernel_rfl)
  rotate_left
  ·exact pA
  refine pure_ (i:=46) (N:=some 129) (v:=.int .i64 1) (a':=?_) (fl 68 140737488355327) rfl rfl (aO HT_) fI (Or.inl ⟨by rfl,?_⟩) ?_ ?_
  ·intro w'
   first|(go_simp;done)|(go_simp;rfl)|(go_simp;kernel_rfl)
  rotate_left
  ·exact pA
  refine pure_ (i:=47) (N:=some 130) (v:=.bool true) (a':=?_) (fl 68 281474976710655) rfl rfl (aO HT_) fI (Or.inl ⟨by rfl,?_⟩) ?_ ?_
  ·intro w'
   first|(go_simp;done)|(go_simp;rfl)|(go_simp;kernel_rfl)
  rotate_left
  ·exact pA
  refine pure_ (i:=48) (N:=some 131) (v:=.bool true) (a':=?_) (fl 68 562949953421311) rfl rfl (aO HT_) fI (Or.inl ⟨by rfl,?_⟩) ?_ ?_
  ·intro w'
   first|(go_simp;done)|(go_simp;rfl)|(go_simp;kernel_rfl)
  rotate_left
  ·exact pA
  refine pure_ (i:=49) (N:=some 132) (v:=.bool true) (a':=?_) (fl 68 1125899906842623) rfl rfl (aO HT_) fI (Or.inl ⟨by rfl,?_⟩) ?_ ?_
  ·intro w'
   first|(go_simp;done)|(go_simp;rfl)|(go_simp;kernel_rfl)
  rotate_left
  ·exact pA
  refine pure_ (i:=50) (N:=some 133) (v:=.int .i64 2) (a':=?_) (fl 68 2251799813685247) rfl rfl (aO HT_) fI (Or.inl ⟨by rfl,?_⟩) ?_ ?_
  ·intro w'
   first|(go_simp;done)|(go_simp;rfl)|(go_simp;kernel_rfl)
  rotate_left
  ·exact pA
  refine pure_ (i:=51) (N:=some 134) (v:=.bool true) (a':=?_) (fl 68 4503599627370495) rfl rfl (aO HT_) fI (Or.inl ⟨by rfl,?_⟩) ?_ ?_
  ·intro w'
   first|(go_simp;done)|(go_simp;rfl)|(go_simp;kernel_rfl)
  rotate_left
  ·exact pA
  refine pure_ (i:=52) (N:=some 135) (v:=.bool true) (a':=?_) (fl 68 9007199254740991) rfl rfl (aO HT_) fI (Or.inl ⟨by rfl,?_⟩) ?_ ?_
  ·intro w'
   first|(go_simp;done)|(go_simp;rfl)|(go_simp;kernel_rfl)
  rotate_left
  ·exact pA
  refine pure_ (i:=53) (N:=some 136) (v:=.bool true) (a':=?_) (fl 68 18014398509481983) rfl rfl (aO HT_) fI (Or.inl ⟨by rfl,?_⟩) ?_ ?_
  ·intro w'
   first|(go_simp;done)|(go_simp;rfl)|(go_simp;kernel_rfl)
  rotate_left
  ·exact pA
  refine pure_ (i:=54) (N:=some 137) (v:=.int .i64 16) (a':=?_) (fl 68 36028797018963967) rfl rfl (aO HT_) fI (Or.inl ⟨by rfl,?_⟩) ?_ ?_
  ·intro w'
   first|(go_simp;done)|(go_simp;rfl)|(go_simp;kernel_rfl)
  rotate_left
  ·exact pA
  refine pure_ (i:=55) (N:=some 138) (v:=.bool true) (a':=?_) (fl 68 72057594037927935) rfl rfl (aO HT_) fI (Or.inl ⟨by rfl,?_⟩) ?_ ?_
  ·intro w'
   first|(go_simp;done)|(go_simp;rfl)|(go_simp;kernel_rfl)
  rotate_left
  ·exact pA
  refine pure_ (i:=56) (N:=some 139) (v:=.bool true) (a':=?_) (fl 68 144115188075855871) rfl rfl (aO HT_) fI (Or.inl ⟨by rfl,?_⟩) ?_ ?_
  ·intro w'
   first|(go_simp;done)|(go_simp;rfl)|(go_simp;kernel_rfl)
  rotate_left
  ·exact pA
  refine pure_ (i:=57) (N:=some 140) (v:=.bool true) (a':=?_) (fl 68 288230376151711743) rfl rfl (aO HT_) fI (Or.inl ⟨by rfl,?_⟩) ?_ ?_
  ·intro w'
   first|(go_simp;done)|(go_simp;rfl)|(go_simp;kernel_rfl)
  rotate_left
  ·exact pA
  refine pure_ (i:=58) (N:=some 141) (v:=.string (⟨#[99,111,117,110,116]⟩:ByteArray)) (a':=?_) (fl 68 576460752303423487) rfl rfl (aO HT_) fI (Or.inl ⟨by rfl,?_⟩) ?_ ?_
  ·intro w'
   first|(go_simp;done)|(go_simp;rfl)|(go_simp;kernel_rfl)
  rotate_left
  ·exact pA
  refine pure_ (i:=59) (N:=some 142) (v:=.bool true) (a':=?_) (fl 68 1152921504606846975) rfl rfl (aO HT_) fI (Or.inl ⟨by rfl,?_⟩) ?_ ?_
  ·intro w'
   first|(go_simp;done)|(go_simp;rfl)|(go_simp;kernel_rfl)
  rotate_left
  ·exact pA
  refine pure_ (i:=60) (N:=some 143) (v:=.bool true) (a':=?_) (fl 68 2305843009213693951) rfl rfl (aO HT_) fI (Or.inl ⟨by rfl,?_⟩) ?_ ?_
  ·intro w'
   first|(go_simp;done)|(go_simp;rfl)|(go_simp;kernel_rfl)
  rotate_left
  ·exact pA
  refine pure_ (i:=61) (N:=some 144) (v:=.bool true) (a':=?_) (fl 68 4611686018427387903) rfl rfl (aO HT_) fI (Or.inl ⟨by rfl,?_⟩) ?_ ?_
  ·intro w'
   first|(go_simp;done)|(go_simp;rfl)|(go_simp;kernel_rfl)
  rotate_left
  ·exact pA
  refine take_ (i:=62) (N:=some 145) (v:=.agg #[.int .i64 4,.int .i64 0,.slice E1 0 e1,.int .i64 0,.int .i64 0,.int .i64 0,.int .i64 0,.string (⟨#[]⟩:ByteArray),.complex .f64 0 0,.complex .f64 0 0,.complex .f64 0 0,.slice E2 0 e2,.slice (some ad) 2 e3]) (a':=?_) (fl 68 9223372036854775807) rfl rfl (tO HT_ HW_) fI (Or.inl ⟨by rfl,?_⟩) hS ?_ ?_
  ·intro W hW
   have u0:=(blk_cell (blk_below K7.out hW) 0).trans rfl;have u1:=(blk_cell (blk_below K7.out hW) 1).trans rfl;have u2:=(blk_cell (blk_below K7.out hW) 2).trans rfl;have u3:=(blk_cell (blk_below K7.out hW) 3).trans rfl;have u4:=(blk_cell (blk_below K7.out hW) 4).trans rfl;have u5:=(blk_cell (blk_below K7.out hW) 5).trans rfl;have u6:=(blk_cell (blk_below K7.out hW) 6).trans rfl;have u7:=(blk_cell (blk_below K7.out hW) 7).trans rfl;have u8:=(blk_cell (blk_below K7.out hW) 8).trans rfl;have u9:=(blk_cell (blk_below K7.out hW) 9).trans rfl;have u10:=(blk_cell (blk_below K7.out hW) 10).trans rfl;have u11:=(blk_cell (blk_below K7.out hW) 11).trans rfl;have u12:=(blk_cell (blk_below K7.out hW) 12).trans rfl;first|(go_simp;done)|(go_simp;rfl)
  rotate_left
  ·exact pA
  refine take_ (i:=63) (N:=some 146) (v:=.agg #[.int .i64 1,.int .i64 0,.slice A23 2 c23,.int .i64 9,.int .i64 0,.int .i64 0,.int .i64 0,.string (⟨#[]⟩:ByteArray),.complex .f64 0 0,.complex .f64 0 0,.complex .f64 0 0,.slice A27 2 c27,.slice none 0 0]) (a':=?_) (fl 68 18446744073709551615) rfl rfl (tO HT_ HW_) fI (Or.inl ⟨by rfl,?_⟩) hS ?_ ?_
  ·intro W hW
   have u0:=(blk_cell (blk_below HA11.out.blk hW) 0).trans rfl;have u1:=(blk_cell (blk_below HA11.out.blk hW) 1).trans rfl;have u2:=(blk_cell (blk_below HA11.out.blk hW) 2).trans rfl;have u3:=(blk_cell (blk_below HA11.out.blk hW) 3).trans rfl;have u4:=(blk_cell (blk_below HA11.out.blk hW) 4).trans rfl;have u5:=(blk_cell (blk_below HA11.out.blk hW) 5).trans rfl;have u6:=(blk_cell (blk_below HA11.out.blk hW) 6).trans rfl;have u7:=(blk_cell (blk_below HA11.out.blk hW) 7).trans rfl;have u8:=(blk_cell (blk_below HA11.out.blk hW) 8).trans rfl;have u9:=(blk_cell (blk_below HA11.out.blk hW) 9).trans rfl;have u10:=(blk_cell (blk_below HA11.out.blk hW) 10).trans rfl;have u11:=(blk_cell (blk_below HA11.out.blk hW) 11).trans rfl;have u12:=(blk_cell (blk_below HA11.out.blk hW) 12).trans rfl;first|(go_simp;done)|(go_simp;rfl)
  rotate_left
  ·exact pA
  refine one_ (i:=64) (N:=some 147) (fl 68 36893488147419103231) rfl rfl (oO HT_) (by decide) (fun K hK=>?_);refine goes_ Tryz.func17 kR rfl #[.agg #[.int .i64 4,.int .i64 0,.slice E1 0 e1,.int .i64 0,.int .i64 0,.int .i64 0,.int .i64 0,.string (⟨#[]⟩:ByteArray),.complex .f64 0 0,.complex .f64 0 0,.complex .f64 0 0,.slice E2 0 e2,.slice (some ad) 2 e3],.agg #[.int .i64 1,.int .i64 0,.slice A23 2 c23,.int .i64 9,.int .i64 0,.int .i64 0,.int .i64 0,.string (⟨#[]⟩:ByteArray),.complex .f64 0 0,.complex .f64 0 0,.complex .f64 0 0,.slice A27 2 c27,.slice none 0 0]] (by rfl) rfl rfl mA ?_;refine (kn_c64 (kn_six HE11.out hS) (HA11.out.below hS)).mono ?_;rintro e W15 ⟨rfl,hb⟩;refine ⟨_,rfl,?_⟩;have hS2:=below_step hS hb;clear hb;refine hK.out _ _ hS2 (fun _=>?_);clear hK hS;have hS:=hS2;clear hS2;refine norm_ (a':=?_) ?_ ?_;rotate_left
  ·exact pA
  refine pure_ (i:=65) (N:=some 148) (v:=.bool true) (a':=?_) (fl 68 73786976294838206463) rfl rfl (aO HT_) fI (Or.inl ⟨by rfl,?_⟩) ?_ ?_
  ·intro w'
   first|(go_simp;done)|(go_simp;rfl)|(go_simp;kernel_rfl)
  rotate_left
  ·exact pA
  refine pure_ (i:=66) (N:=some 149) (v:=.bool true) (a':=?_) (fl 68 147573952589676412927) rfl rfl (aO HT_) fI (Or.inl ⟨by rfl,?_⟩) ?_ ?_
  ·intro w'
   first|(go_simp;done)|(go_simp;rfl)|(go_simp;kernel_rfl)
  rotate_left
  ·exact pA
  refine pure_ (i:=67) (N:=some 0) (v:=.bool true) (a':=?_) (fl 68 295147905179352825855) rfl rfl (aO HT_) fI (Or.inl ⟨by rfl,?_⟩) ?_ ?_
  ·intro w'
   first|(go_simp;done)|(go_simp;rfl)|(go_simp;kernel_rfl)
  rotate_left
  ·exact pA
  refine done_ (done_of HT_.out kR) ?_
  go_wp2
  go_ret
  exact ⟨rfl,below_step B.out hS⟩
end Go.Proofs.YtcpjlbdjnaaaiaaGreatDoor.PAll
