import Derived.Test.YtcpjlbdjnaaaiaaGreatDoorGlob
import Derived.Test.YtcpjlbdjnaaaiaaGreatDoorLiaL
import Derived.WalkSpells
set_option linter.unusedVariables false
set_option linter.unusedSimpArgs false
namespace Go.Proofs.YtcpjlbdjnaaaiaaGreatDoor.Lia
open Go Go.RowKit Go.Lib Go.Proofs Go.Proofs.YtcpjlbdjnaaaiaaGreatDoor.Help Go.Proofs.YtcpjlbdjnaaaiaaGreatDoorW.PrintWords
theorem bel_drewN {B:Nat} {a w:World} (h:Below B a w) (n:Nat):Below B a (w.drewN n):=h.trans ⟨rfl,rfl,rfl,Nat.le_refl _,fun _ _=>rfl⟩
theorem pm_ascii:∀ (r:Fin 128),(0≤Lib.indexByte (⟨#[43,45]⟩:ByteArray).data.toList ((r.val:Int)).toNat.toUInt8↔((r.val:Int)=43∨(r.val:Int)=45)):=by decide +kernel
set_option maxHeartbeats 8000000 in
set_option maxRecDepth 100000 in
theorem rune_err (w:World):
    Calls Tryz.prog 103 #[.string ⟨#[43,45]⟩,.int .i32 65533] w fun e w'=>e = .returned (.int .i64 (-1))∧Below w.heap.size w w':=by
  have h0:=fun ty=>run_next_ascii (P:=Tryz.prog) w ⟨#[43,45]⟩ 0 ty (by decide) (by decide)
  have h1:=fun ty=>run_next_ascii (P:=Tryz.prog) w ⟨#[43,45]⟩ 1 ty (by decide) (by decide)
  have h2:=fun ty=>run_next_end (P:=Tryz.prog) w ⟨#[43,45]⟩ 2 ty (by decide)
  go_enter Tryz.func103,Tryz.ntmps103
  go_wp2
  refine wp_loop_rounds 3 ?_;repeat (rw [rounds_succ];go_wp2)
  go_ret
  exact ⟨rfl,(Below.refl _ _).alloc (Nat.le_refl _) _⟩
set_option maxHeartbeats 8000000 in
set_option maxRecDepth 100000 in
theorem rune_bad (r:Int) (h1:128≤r) (h2:r≠65533) (hv:Lib.validRune r=false) (w:World):
    Calls Tryz.prog 103 #[.string ⟨#[43,45]⟩,.int .i32 r] w fun e w'=>e = .returned (.int .i64 (-1))∧Below w.heap.size w w':=by
  have e2:(r == 65533)=false:=beq_eq_false_iff_ne.2 h2;go_enter Tryz.func103,Tryz.ntmps103
  go_wp2_with (first|(go_at_call 133;refine (Tryz.utf8_ValidRune _ _).mono ?_;rintro e w' ⟨rfl,hw⟩;rw [hw,hv]))
  go_ret
  exact ⟨rfl,Below.refl _ _⟩
set_option maxHeartbeats 8000000 in
set_option maxRecDepth 100000 in
theorem rune_long (r:Int) (h1:128≤r) (h2:r≠65533) (hv:Lib.validRune r=true) (h3:3≤(Utf8.encode r).size) (h4:(Utf8.encode r).size≤4) (w:World):
    Calls Tryz.prog 103 #[.string ⟨#[43,45]⟩,.int .i32 r] w fun e w'=>e = .returned (.int .i64 (-1))∧Below w.heap.size w w':=by
  have e2:(r == 65533)=false:=beq_eq_false_iff_ne.2 h2;have hs:(⟨#[43,45]⟩:ByteArray).size=2:=rfl;have h5:¬ (((Utf8.encode r).size:Int) - 1 < 2):=by omega
  go_enter Tryz.func103,Tryz.ntmps103
  go_wp2_with (first|(go_at_call 133;refine (Tryz.utf8_ValidRune _ _).mono ?_;rintro e w' ⟨rfl,hw⟩;rw [hw,hv]))
  go_step3
  go_wp2
  refine wp_loop_rounds 1 ?_;rw [rounds_succ]
  go_wp2
  rw [Exit.noGoto_ret]
  go_ret
  exact ⟨rfl,Below.refl _ _⟩
theorem ib_empty (c:Int) (w:World) (n:Nat):Calls Tryz.prog 132 #[.string ByteArray.empty,.int .u8 c] (w.drewN n) fun e w''=>e = .returned (.int .i64 (-1))∧∃ m,w''=w.drewN m:=
  Calls.quiet_of_same ((Tryz.strings_IndexByte _ _ _).mono (by rintro e w' ⟨rfl,hw⟩;exact ⟨rfl,hw⟩))
theorem ib_empty2 (c:Int) (w:World) (q n:Nat):Calls Tryz.prog 132 #[.string ByteArray.empty,.int .u8 c] (w.drewN (q+n)) fun e w''=>e = .returned (.int .i64 (-1))∧∃ m,w''=w.drewN (q+m):=
  (Tryz.strings_IndexByte _ _ _).mono (by rintro e w' ⟨rfl,hw⟩;exact ⟨rfl,n,hw⟩)
set_option maxHeartbeats 8000000 in
set_option maxRecDepth 100000 in
theorem rune_two (r:Int) (h1:128≤r) (h2:r≠65533) (hv:Lib.validRune r=true) (c d:UInt8) (he:Utf8.encode r=⟨#[c,d]⟩) (hd:128≤d.toNat) (w:World):
    Calls Tryz.prog 103 #[.string ⟨#[43,45]⟩,.int .i32 r] w fun e w'=>e = .returned (.int .i64 (-1))∧Below w.heap.size w w':=by
  have e2:(r == 65533)=false:=beq_eq_false_iff_ne.2 h2;have hne:((45:Int) == (d.toNat:Int))=false:=beq_eq_false_iff_ne.2 (by omega);have hw2:IntKind.i64.wrap 2=2:=by decide
  have hne3:¬ ((45:Int)=(d.toNat:Int)):=by omega
  have hb1:(⟨#[c,d]⟩:ByteArray)[1]'(show 1 < 2 by decide)=d:=rfl;have hb2:(⟨#[43,45]⟩:ByteArray)[1]'(show 1 < 2 by decide)=45:=rfl;have h45:((45:UInt8).toNat:Int)=45:=rfl;have hne4:((45:Int) != (d.toNat:Int))=true:=bne_iff_ne.2 hne3;have hx:(⟨#[43,45]⟩:ByteArray).extract 2 2=⟨#[]⟩:=by decide
  have hib:∀ c,Lib.indexByte (⟨#[]⟩:ByteArray).data.toList c = -1:=fun c=>rfl
  go_enter Tryz.func103,Tryz.ntmps103
  go_wp2_with (first|(go_at_call 133;refine (Tryz.utf8_ValidRune _ _).mono ?_;rintro e w' ⟨rfl,hw⟩;rw [hw,hv]))
  go_step3
  go_wp2
  refine wp_loop_rounds 1 ?_;rw [rounds_succ]
  go_wp2
  go_step3
  go_wp2
  go_quiet (first|exact ib_empty2 _ _ _ _|exact ib_empty _ _ _)
  go_wp2
  go_quiet (first|exact ib_empty2 _ _ _ _|exact ib_empty _ _ _)
  go_wp2
  simp only [Exit.noGoto_ret,Exit.inBlock,Exit.then]
  go_ret
  exact ⟨rfl,bel_drewN (Below.refl _ _) _⟩
theorem encode_two (r:Int) (hv:Utf8.valid r=true) (h:(Utf8.encode r).size=2):∃ c d:UInt8,Utf8.encode r=⟨#[c,d]⟩:=by
  unfold Utf8.encode at *;simp only [hv,if_true] at *
  split at h
  ·simp [ByteArray.size] at h
  ·rename_i h1
   rw [if_neg h1]
   split at h
   ·rename_i h2
    rw [if_pos h2];exact ⟨_,_,rfl⟩
   ·split at h<;>simp [ByteArray.size] at h
theorem index_rune (r:Int) (h0:0≤r) (hr:r≤1114111) (w:World):
    Calls Tryz.prog 103 #[.string ⟨#[43,45]⟩,.int .i32 r] w fun e w'=>∃ q:Int,e = .returned (.int .i64 q)∧(0≤q↔(r=43∨r=45))∧Below w.heap.size w w':=by
  by_cases h1:r < 128
  ·refine (Tryz.strings_IndexRune_ascii _ r w h0 h1).mono ?_
   rintro e w' ⟨rfl,rfl⟩;refine ⟨_,rfl,?_,Below.refl _ _⟩;have:=pm_ascii ⟨r.toNat,by omega⟩;simp only at this;rw [show ((r.toNat:Nat):Int)=r by omega] at this;exact this
  have key:∀ {e w'},(e=Ending.returned (.int .i64 (-1))∧Below w.heap.size w w')→∃ q:Int,e = .returned (.int .i64 q)∧(0≤q↔(r=43∨r=45))∧Below w.heap.size w w':=by
    rintro e w' ⟨rfl,hb⟩;exact ⟨_,rfl,by omega,hb⟩
  by_cases h2:r=65533
  ·subst h2
   exact (rune_err w).mono fun e w' h=>key h
  cases hv:Lib.validRune r with
  |false=>exact (rune_bad r (by omega) h2 hv w).mono fun e w' h=>key h
  |true=>
   have hv':Utf8.valid r=true:=by
     have:=Go.validRune_eq r;rw [this];exact hv
   obtain ⟨f1,f2,f3⟩:=encode_facts r hv' (by omega);by_cases h3:3≤(Utf8.encode r).size
   ·exact (rune_long r (by omega) h2 hv h3 f2 w).mono fun e w' h=>key h
   ·obtain ⟨c,d,he⟩:=encode_two r hv' (by omega)
    have hd:128≤d.toNat:=by
      have:=f3 (by omega);simp only [he] at this;exact this
    exact (rune_two r (by omega) h2 hv c d he hd w).mono fun e w' h=>key h
set_option maxHeartbeats 8000000 in
set_option maxRecDepth 100000 in
theorem last_one (s:ByteArray) (b:UInt8) (h1:s.size=1) (hb0:s.data.toList=[b]) (w:World):
    Calls Tryz.prog 107 #[.string s,.string ⟨#[43,45]⟩] w fun e w'=>e = .returned (.int .i64 (lia s.data.toList s.size))∧Below w.heap.size w w':=by
  have hb1:s[0]'(by omega)=b:=by
    have:=Lib.data_getElem? s 0 (by omega);rw [hb0] at this
    simpa using this.symm
  have hv:lia s.data.toList s.size=if b.toNat=43∨b.toNat=45 then 0 else -1:=by
    rw [h1,hb0];rfl
  rw [hv];clear hv;have h1e:((s.size:Int) == 1)=true:=beq_iff_eq.2 (by omega);have hsz:(0:Int) < (s.size:Int):=by omega
  have lb:=UInt8.toNat_lt b;by_cases hb:b.toNat < 128
  ·have hz:¬ ((128:Int)≤(b.toNat:Int)):=by omega
   go_enter Tryz.func107,Tryz.ntmps107
   go_wp2_with (first|(go_at_call 103;refine (index_rune (b.toNat:Int) (by omega) (by omega) _).mono ?_;rintro e wx ⟨q,rfl,hq,hbw⟩))
   ·go_ret
    exact ⟨rfl,hbw⟩
   ·go_ret
    exact ⟨rfl,hbw⟩
  ·have hz:((128:Int)≤(b.toNat:Int)):=by omega
   go_enter Tryz.func107,Tryz.ntmps107
   go_wp2_with (first|(go_at_call 103;refine (index_rune 65533 (by omega) (by omega) _).mono ?_;rintro e wx ⟨q,rfl,hq,hbw⟩))
   go_ret
   exact ⟨rfl,hbw⟩
set_option maxHeartbeats 8000000 in
set_option maxRecDepth 100000 in
theorem last_short (s:ByteArray) (h1:s.size≠1) (h8:s.size≤8) (w:World) (hG:Glob w):
    Calls Tryz.prog 107 #[.string s,.string ⟨#[43,45]⟩] w fun e w'=>e = .returned (.int .i64 (lia s.data.toList s.size))∧Below w.heap.size w w':=by
  have HB:=Aside0.mk (Below.refl w.heap.size w);have HG:=Aside0.mk hG;clear hG;have hn1:((s.size:Int) == 1)=false:=beq_eq_false_iff_ne.2 (by omega);have h8z:decide ((8:Int) < (s.size:Int))=false:=decide_eq_false (by omega);obtain ⟨l,hl⟩:∃ l,s.data.toList=l:=⟨_,rfl⟩;have hll:l.length=s.size:=by rw [← hl,← Lib.size_eq]
  have HL:=Aside0.mk hll;have HL2:=Aside0.mk hl;go_enter Tryz.func107,Tryz.ntmps107
  go_wp2_with (first|(go_at_call 104;(refine (Tryz.strings_shouldUseASCIISet _ _).mono ?_);rintro e wx ⟨rfl,hw⟩;rw [hw,h8z]))
  go_loopg [13] s.size (fun kq v13 w'=>∃ i:Nat,v13 = .int .i64 i∧kq=i∧i≤s.size∧Aside0 (lia l i=lia l s.size)∧Aside0 (Below w.heap.size w w'))
  case atStart=>exact ⟨s.size,rfl,rfl,Nat.le_refl _,⟨rfl⟩,HB⟩
  case round=>
    obtain ⟨i,rfl,rfl,hi,HI,HB2⟩:=hrel
    cases gk with
    |zero=>
     go_wp2
     go_ret
     exact ⟨by rw [HL2.out,← HI.out];rfl,HB2.out⟩
    |succ j=>
     have hst:=lia_step l (j+1) (by omega) (by rw [HL.out];exact hi)
     have htake:(s.extract 0 (j+1)).data.toList=l.take (j+1):=by
       rw [← HL2.out,Lib.extract_data];simp
     obtain ⟨R,hR⟩:∃ R,(Lib.decodeLastL (l.take (j+1))).1=R:=⟨_,rfl⟩;obtain ⟨K,hK⟩:∃ K,(Lib.decodeLastL (l.take (j+1))).2=K:=⟨_,rfl⟩;rw [hR,hK] at hst;obtain ⟨hk1,hk2,hr,hcase⟩:=hst
     have cD:∀ (a b:Nat) w2,a=0→b=j+1→Glob w2→Calls Tryz.prog 119 #[.string (s.extract a b)] w2 fun e w'=>e = .returned (.tuple #[.int .i32 (R:Int),.int .i64 (K:Int)])∧Below w2.heap.size w2 w':=by
       intro a b w2 ha hb hg;subst ha hb;refine (Tryz.utf8_DecodeLastRuneInString _ w2 ?_ hg.utf).mono ?_
       ·have:(s.extract 0 (j+1)).size=(l.take (j+1)).length:=by rw [← htake,← Lib.size_eq]
        rw [this,List.length_take];omega
       ·rintro e w' ⟨rfl,hy⟩
        rw [htake,hR,hK];exact ⟨rfl,hy⟩
     have CD:=Aside0.mk cD;have HC:=Aside0.mk hcase;clear hcase cD hR hK htake;have hj0:(0:Int) < ((j+1:Nat):Int):=by omega
     go_wp2_with (first|(go_at_call 119;refine (CD.out _ _ _ (by omega) (by omega) (HG.out.below HB2.out)).mono ?_;rintro e wy ⟨rfl,hy⟩)|(go_at_call 103;refine (index_rune (R:Int) (by omega) (by omega) _).mono ?_;rintro e wz ⟨q,rfl,hq,hz⟩))
     ·have hv:lia s.data.toList s.size=(j:Int)+1 - (K:Int):=by
        have:=HC.out;rw [if_pos (by omega)] at this;rw [HL2.out,← HI.out];omega
      go_ret
      exact ⟨by rw [hv];rfl,HB2.out.trans ((hy.mono HB2.out.size).trans (hz.mono (Nat.le_trans HB2.out.size hy.size)))⟩
     ·have hv:lia l (j+1)=lia l (j+1 - K):=by
        have:=HC.out;rw [if_neg (by omega)] at this;exact this
      go_roundg (j+1 - K)
      case measure=>omega
      case rel=>exact ⟨j+1 - K,by congr 1;omega,rfl,by omega,⟨by rw [← hv];exact HI.out⟩,⟨HB2.out.trans ((hy.mono HB2.out.size).trans (hz.mono (Nat.le_trans HB2.out.size hy.size)))⟩⟩
theorem pm_in (x:UInt8):([43,45]:List UInt8).contains x=decide (x.toNat=43∨x.toNat=45):=by
  have:∀ n:Fin 256,([43,45]:List UInt8).contains (UInt8.ofNat n.val)=decide (n.val=43∨n.val=45):=by decide +kernel
  have h:=this ⟨x.toNat,UInt8.toNat_lt x⟩
  simpa using h
set_option maxHeartbeats 8000000 in
set_option maxRecDepth 100000 in
theorem last_long (s:ByteArray) (h8:8 < s.size) (hs:s.size≤281474976710656) (w:World):
    Calls Tryz.prog 107 #[.string s,.string ⟨#[43,45]⟩] w fun e w'=>e = .returned (.int .i64 (lia s.data.toList s.size))∧Below w.heap.size w w':=by
  have hinfo:(Tryz.prog.info? 133).map (fun i=>(i.zero,i.size))=some (some (.agg (Array.replicate 256 (.bool false))),256):=by kernel_rfl
  obtain ⟨C,hC⟩:∃ C,Lib.setCells ([43,45]:List UInt8)=C:=⟨_,rfl⟩
  have hM:=Tryz.strings_makeASCIISet (zero_of_info hinfo).1 ⟨#[43,45]⟩ w (by decide) (by
    intro j b h;have:b∈([43,45]:List UInt8):=List.mem_of_getElem? h;simp at this
    rcases this with rfl|rfl<;>decide)
  rw [show ((⟨#[43,45]⟩:ByteArray).data.toList)=[43,45] from rfl,hC] at hM;have hsz:C.size=256:=by rw [← hC];exact Lib.setCells_size _
  have hone:∀ x:UInt8,C[x.toNat]?=some (.bool (([43,45]:List UInt8).contains x)):=fun x=>by rw [← hC];exact Lib.setCells_at _ x
  have hn1:((s.size:Int) == 1)=false:=beq_eq_false_iff_ne.2 (by omega);have h8z:decide ((8:Int) < (s.size:Int))=true:=decide_eq_true (by omega)
  have hsc:(storeCells ⟨w.heap.size+1,0,none⟩ C.toList 0).run Tryz.prog ((w.alloc (.cells C 133)).alloc (.cells (Array.replicate 256 (.bool false)) 133)) = .ok () ((w.alloc (.cells C 133)).alloc (.cells C 133)):=by
    have:=run_storeCells_new (P:=Tryz.prog) (w.alloc (.cells C 133)) 133 (Array.replicate 256 (.bool false)) C (by rw [hsz];exact (zero_of_info hinfo).2) (by rw [hsz,Array.size_replicate]) (by rw [← hC];exact Lib.setCells_one _)
    simpa using this
  have hcellAt:∀ x:UInt8,((w.alloc (.cells C 133)).alloc (.cells C 133)).cell? ⟨w.heap.size+1,x.toNat,none⟩=some (.bool (([43,45]:List UInt8).contains x)):=fun x=>by
    rw [World.cell?_alloc_at _ _ _ _ (by simp),hone]
  have HCC:=Aside0.mk hcellAt;have HSZ:=Aside0.mk hsz;clear hcellAt hone hC hinfo;go_enter Tryz.func107,Tryz.ntmps107
  go_wp2_with (first
    |(go_at_call 104;(refine (Tryz.strings_shouldUseASCIISet _ _).mono ?_);rintro e w' ⟨rfl,hw⟩;rw [hw,h8z])
    |(go_at_call 88;refine hM.mono ?_;rintro e w' ⟨rfl,hw⟩;rw [hw]))
  have hzc:Tryz.zeroCells133=Array.replicate 256 (.bool false):=by kernel_rfl
  rw [hzc,hsc];simp only [Result.andThen];rw [Oper.upon_skip]
  go_wp2
  clear hM hsc hzc;obtain ⟨l,hl⟩:∃ l,s.data.toList=l:=⟨_,rfl⟩;have HL2:=Aside0.mk hl;have HB:=Aside0.mk (show Below w.heap.size w ((w.alloc (.cells C 133)).alloc (.cells C 133)) from ((Below.refl _ _).alloc (Nat.le_refl _) _).alloc (by simp) _)
  go_loopg [8] s.size (fun g s8 wx=>s8 = .int .i64 ((g:Int) - 1)∧g≤s.size∧wx=((w.alloc (.cells C 133)).alloc (.cells C 133))∧Aside0 (lia l g=lia l s.size))
  case atStart=>exact ⟨rfl,Nat.le_refl _,rfl,⟨rfl⟩⟩
  case round=>
    obtain ⟨rfl,hi,rfl,HI⟩:=hrel
    cases gk with
    |zero=>
     go_wp2
     go_ret
     exact ⟨by rw [HL2.out,← HI.out];rfl,HB.out⟩
    |succ g=>
     have hgl:g < s.size:=by omega
     obtain ⟨x,hx⟩:∃ x:UInt8,s[g]'hgl=x:=⟨_,rfl⟩
     have hxl:(l.getD g 0)=x:=by
       have:=Lib.data_getElem? s g hgl;rw [HL2.out,hx] at this;simp [List.getD,this]
     have hg1:((g+1:Nat):Int) - 1=(g:Int):=by omega
     have HX:=Aside0.mk hxl;clear hxl;have hcx:=HCC.out x;rw [pm_in] at hcx;rw [hg1];by_cases hin:x.toNat=43∨x.toNat=45
     ·rw [decide_eq_true hin] at hcx
      have HIN:=Aside0.mk hin;clear hin
      go_wp2_with (go_at_call 105;refine (Tryz.asciiSet_contains _ x _ _ hcx).mono ?_;rintro e w' ⟨rfl,hw⟩;rw [hw])
      go_ret
      exact ⟨by rw [HL2.out,← HI.out,lia,HX.out,if_pos HIN.out];rfl,HB.out⟩
     ·rw [decide_eq_false hin] at hcx
      have HIN:=Aside0.mk hin;clear hin
      go_wp2_with (go_at_call 105;refine (Tryz.asciiSet_contains _ x _ _ hcx).mono ?_;rintro e w' ⟨rfl,hw⟩;rw [hw])
      go_roundg g
      case measure=>omega
      case rel=>exact ⟨rfl,by omega,rfl,⟨by rw [← HI.out,lia,HX.out,if_neg HIN.out]⟩⟩
theorem last_index (s:ByteArray) (hs:s.size≤281474976710656) (w:World) (hG:Glob w):
    Calls Tryz.prog 107 #[.string s,.string ⟨#[43,45]⟩] w fun e w'=>e = .returned (.int .i64 (lia s.data.toList s.size))∧Below w.heap.size w w':=by
  by_cases h8:8 < s.size
  ·exact last_long s h8 hs w
  ·by_cases h1:s.size=1
   ·obtain ⟨b,hb⟩:∃ b,s.data.toList=[b]:=List.length_eq_one_iff.1 (by rw [← Lib.size_eq];exact h1)
    exact last_one s b h1 hb w
   ·exact last_short s h1 (by omega) w hG
end Go.Proofs.YtcpjlbdjnaaaiaaGreatDoor.Lia
