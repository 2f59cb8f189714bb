import Derived.Test.YtcpjlbdjnaaaiaaGreatDoorPAllx7
import Derived.Test.YtcpjlbdjnaaaiaaGreatDoorPAllx14
namespace Go.Proofs.YtcpjlbdjnaaaiaaGreatDoor.PAll
open Go.Proofs.YtcpjlbdjnaaaiaaGreatDoor.Help
open Go.RowKit Go.Proofs.YtcpjlbdjnaaaiaaGreatDoorW.PrintWords Go.Proofs.YtcpjlbdjnaaaiaaGreatDoorW.PrintLast Go.Proofs.YtcpjlbdjnaaaiaaGreatDoorW.PrintMore
set_option linter.unusedVariables false
set_option linter.unusedSimpArgs false
def req_reader_number.j0:Nat→ByteArray→Bool→ByteArray→Int→Int→Option (Int×ByteArray×Int×Int)
 | 0,_,_,_,_,_=>none
 |k+1,x3,x29,x1000,x1001,x1002=>if x29=true then ((req_reader_wrong.f x1000 x1001 x1002 2).bind fun bt230=>(some (0,bt230.1,bt230.2.1,bt230.2.2))) else ((strconv_Atoi.f x3).bind fun bt233=>(if bt233.2.isNone=true then (some (bt233.1,x1000,x1001,x1002)) else ((req_reader_wrong.f x1000 x1001 x1002 1).bind fun bt236=>(some (0,bt236.1,bt236.2.1,bt236.2.2)))))
def req_reader_number.f (k:Nat) (s0_0:ByteArray) (s0_1:Int) (s0_2:Int):Option (Int×ByteArray×Int×Int):=if s0_2=0 then ((req_reader_word.f s0_0 s0_1 s0_2).bind fun bt225=>(if bt225.1.toList=([]:List UInt8) then (req_reader_number.j0 k bt225.1 true bt225.2.1 bt225.2.2.1 bt225.2.2.2) else ((strings_Trim.f bt225.1 (⟨#[48,49,50,51,52,53,54,55,56,57]⟩:ByteArray)).bind fun t229=>(if t229.toList=([]:List UInt8) then (if (bt225.1.size:Int) > 1 then (if 0 < (bt225.1.size:Int) then (req_reader_number.j0 k bt225.1 ((bt bt225.1 0) == 48) bt225.2.1 bt225.2.2.1 bt225.2.2.2) else (none)) else (req_reader_number.j0 k bt225.1 false bt225.2.1 bt225.2.2.1 bt225.2.2.2)) else (req_reader_number.j0 k bt225.1 true bt225.2.1 bt225.2.2.1 bt225.2.2.2))))) else (some (0,s0_0,s0_1,s0_2))
set_option maxHeartbeats 8000000 in
set_option maxRecDepth 100000 in
theorem req_reader_number.calls (k:Nat) (g:Nat) (s0_0:ByteArray) (s0_1:Int) (s0_2:Int) (r1:Int) (r2:ByteArray) (r3:Int) (r4:Int) (w0 w:World) (hI:IsS64 w0 w g s0_0 s0_1 s0_2) (hB:Below w0.heap.size w0 w) (h:req_reader_number.f k s0_0 s0_1 s0_2=some (r1,r2,r3,r4)) (hG_:Glob w0):
  Calls Tryz.prog 34 #[.pointer (some ⟨g,0,none⟩)] w fun e w'=>e = .returned (.int .i64 r1)∧IsS64 w0 w' g r2 r3 r4∧Below w0.heap.size w0 w'∧KeepBut w w' g none:=by
 have HG_:=Mk hG_;clear hG_;have hu101:=Tryz.underlying101;have HI0:=Mk hI;have HK:=Mk (KeepBut.refl w g none);have HL:=Mk hB.size;clear hI;have HW0:=Mk hB.size;have HB:=Mk hB;clear hB;have H:(if s0_2=0 then ((req_reader_word.f s0_0 s0_1 s0_2).bind fun bt225=>(if bt225.1.toList=([]:List UInt8) then (req_reader_number.j0 k bt225.1 true bt225.2.1 bt225.2.2.1 bt225.2.2.2) else ((strings_Trim.f bt225.1 (⟨#[48,49,50,51,52,53,54,55,56,57]⟩:ByteArray)).bind fun t229=>(if t229.toList=([]:List UInt8) then (if (bt225.1.size:Int) > 1 then (if 0 < (bt225.1.size:Int) then (req_reader_number.j0 k bt225.1 ((bt bt225.1 0) == 48) bt225.2.1 bt225.2.2.1 bt225.2.2.2) else (none)) else (req_reader_number.j0 k bt225.1 false bt225.2.1 bt225.2.2.1 bt225.2.2.2)) else (req_reader_number.j0 k bt225.1 true bt225.2.1 bt225.2.2.1 bt225.2.2.2))))) else (some (0,s0_0,s0_1,s0_2)))=some (r1,r2,r3,r4):=h;clear h;by_cases c2:s0_2=0
 ·rw [if_pos c2] at H
  have c2b0:=beq_iff_eq.mpr c2;have c2b1:=bne_eq_false_iff_eq.mpr c2;clear c2;replace H:=Option.bind_eq_some_iff.mp H;obtain ⟨⟨t225,t226,t227,t228⟩,A30,H⟩:=H;try dsimp only at H
  have A3:=Mk A30;clear A30;have HC4:=Mk H;clear H;obtain ⟨HGz5,hgz5⟩:=HI0.out;have hcz5_0:=cellS64_0 HGz5;have hcz5_1:=cellS64_1 HGz5;have hcz5_2:=cellS64_2 HGz5;have hfz5_0:=blk_frozen HGz5 0;have hfz5_1:=blk_frozen HGz5 1;have hfz5_2:=blk_frozen HGz5 2;clear HGz5 hgz5;go_enter Tryz.func34,Tryz.ntmps34
  go_upto_region 4 with (first|((with_reducible refine gate_callee (f:=67) rfl ?_);refine goesL_ (some 12) rfl rfl Tryz.func67 kR rfl #[.pointer (some ⟨g,0,none⟩)] rfl mA ?_;(with_reducible refine (req_reader_word.calls g s0_0 s0_1 s0_2 t225 t226 t227 t228 w0 _ ?side1 ?side2 A3.out).mono ?_);(case side1=>exact hI HI0);(case side2=>exact bB);rintro e w6 ⟨rfl,hi,hb,hk⟩;refine ⟨_,rfl,?_⟩;replace HK:=Mk (KeepBut.trans kK hk (.inl rfl));replace HB:=Mk (hb);replace HI0:=Mk (hi);clear hb hk hi))
  (try simp only [Act.put,List.setIfInBounds_toArray,List.set_cons_zero,List.set_cons_succ])
  go_cut [29] (fun v29 wc=>∃ (kq:Nat) (x29_3:Bool),v29 = .bool x29_3∧Aside0 (req_reader_number.j0 kq t225 x29_3 t226 t227 t228=some (r1,r2,r3,r4))∧Aside0 (kq≤k)∧Aside0 (IsS64 w0 wc g t226 t227 t228)∧Aside0 (KeepBut w wc g none)∧Aside0 (Below w0.heap.size w0 wc))
  case first=>
   have H:=HC4.out;clear HC4;by_cases c7:t225.toList=([]:List UInt8)
   ·rw [if_pos c7] at H
    have c7b0:=beq_iff_eq.mpr c7;have c7b1:=bne_eq_false_iff_eq.mpr c7;clear c7;(first|rw [c7b0]|(simp only [i64_w,i32_w];rw [c7b0])|skip);have H':=Mk H;clear H
    go_wp2
    go_meet
    case rel=>exact ⟨_,(true),sS,H',⟨by first|omega|exact Nat.le_refl _⟩,⟨hI HI0⟩,⟨kK⟩,⟨bB⟩⟩
   ·rw [if_neg c7] at H
    have c7b0:=beq_eq_false_iff_ne.mpr c7;have c7b1:=bne_iff_ne.mpr c7;(first|rw [c7b0]|(simp only [i64_w,i32_w];rw [c7b0])|skip);replace H:=Option.bind_eq_some_iff.mp H;obtain ⟨t229,A80,H⟩:=H;try dsimp only at H
    have A8:=Mk A80;clear A80;by_cases c9:t229.toList=([]:List UInt8)
    ·rw [if_pos c9] at H
     have c9b0:=beq_iff_eq.mpr c9;have c9b1:=bne_eq_false_iff_eq.mpr c9;clear c9;by_cases c10:(t225.size:Int) > 1
     ·rw [if_pos c10] at H
      have c10b0:=decide_eq_true c10;have c10b1:decide (1 < t225.size)=true:=decide_eq_true (by omega);clear c10;by_cases c11:0 < (t225.size:Int)
      ·rw [if_pos c11] at H
       have c11b0:=decide_eq_true c11;have c11b1:decide (0 < t225.size)=true:=decide_eq_true (by omega);clear c11;have H':=Mk H;clear H
       go_wp2_with (first|(go_at_call 68;(with_reducible refine (strings_Trim.calls t225 (⟨#[48,49,50,51,52,53,54,55,56,57]⟩:ByteArray) t229 _ A8.out).mono ?_);rintro e w13 ⟨rfl,hb⟩;replace HI0:=Mk (IsS64.below (hI HI0) hb);replace HK:=Mk (KeepBut.trans kK (KeepBut.of_below hb g none) (.inl rfl));replace HB:=Mk (below_step bB hb);clear hb;have p12:0≤(0:Int):=(by omega);have q12:0 < t225.size:=(by have:(0:Int) < (t225.size:Int):=of_decide_eq_true aS;omega);have hx12:∀ h:0 < t225.size,((t225[0]'h).toNat:Int)=bt t225 0:=bt_at t225 0;clear p12;have qi12:(0 < (t225.size:Int))=True:=eq_true (of_decide_eq_true aS);replace q12:=eq_true q12))
       go_meet
       case rel=>exact ⟨_,(((bt t225 0) == 48)),sS,H',⟨by first|omega|exact Nat.le_refl _⟩,⟨hI HI0⟩,⟨kK⟩,⟨bB⟩⟩
      ·rw [if_neg c11] at H
       exact absurd H (by simp)
     ·rw [if_neg c10] at H
      have c10b0:=decide_eq_false c10;have c10b1:decide (1 < t225.size)=false:=decide_eq_false (by omega);clear c10;have H':=Mk H;clear H
      go_wp2_with (first|(go_at_call 68;(with_reducible refine (strings_Trim.calls t225 (⟨#[48,49,50,51,52,53,54,55,56,57]⟩:ByteArray) t229 _ A8.out).mono ?_);rintro e w14 ⟨rfl,hb⟩;replace HI0:=Mk (IsS64.below (hI HI0) hb);replace HK:=Mk (KeepBut.trans kK (KeepBut.of_below hb g none) (.inl rfl));replace HB:=Mk (below_step bB hb);clear hb))
      go_meet
      case rel=>exact ⟨_,(false),sS,H',⟨by first|omega|exact Nat.le_refl _⟩,⟨hI HI0⟩,⟨kK⟩,⟨bB⟩⟩
    ·rw [if_neg c9] at H
     have c9b0:=beq_eq_false_iff_ne.mpr c9;have c9b1:=bne_iff_ne.mpr c9;have H':=Mk H;clear H
     go_wp2_with (first|(go_at_call 68;(with_reducible refine (strings_Trim.calls t225 (⟨#[48,49,50,51,52,53,54,55,56,57]⟩:ByteArray) t229 _ A8.out).mono ?_);rintro e w15 ⟨rfl,hb⟩;replace HI0:=Mk (IsS64.below (hI HI0) hb);replace HK:=Mk (KeepBut.trans kK (KeepBut.of_below hb g none) (.inl rfl));replace HB:=Mk (below_step bB hb);clear hb))
     go_meet
     case rel=>exact ⟨_,(true),sS,H',⟨by first|omega|exact Nat.le_refl _⟩,⟨hI HI0⟩,⟨kK⟩,⟨bB⟩⟩
  case rest=>
   clear HC4;try clear c1
   try clear p1
   try clear q1
   try clear hx1
   try clear qi1
   try clear c2
   try clear c2b0
   try clear c2b1
   try clear p2
   try clear c3
   try clear c6
   try clear c7
   try clear c7b0
   try clear c7b1
   try clear c9
   try clear c9b0
   try clear c9b1
   try clear c10
   try clear c10b0
   try clear c10b1
   try clear c11
   try clear c11b0
   try clear c11b1
   try clear p12
   try clear q12
   try clear hx12
   try clear qi12
   try clear p12
   try clear q12
   obtain ⟨kq,x29_3,rfl,HA,HJ3,HI0,HK,HB⟩:=hcut
   cases kq with
   |zero=>exact absurd HA.out (by simp [req_reader_number.j0])
   |succ kj3=>
    have H:=HA.out;clear HA;simp only [req_reader_number.j0] at H;by_cases c16:x29_3=true
    ·subst c16
     rw [if_pos rfl] at H;try dsimp only at H
     replace H:=Option.bind_eq_some_iff.mp H;obtain ⟨⟨t230,t231,t232⟩,A170,H⟩:=H;try dsimp only at H
     have A17:=Mk A170;clear A170;simp only [Option.some.injEq,Prod.mk.injEq] at H;obtain ⟨rfl,rfl,rfl,rfl⟩:=H
     go_wp2_with (first|((with_reducible refine gate_callee (f:=57) rfl ?_);refine goesL_ (some 31) rfl rfl Tryz.func57 kR rfl #[.pointer (some ⟨g,0,none⟩),.int .i64 2] rfl mA ?_;(with_reducible refine (req_reader_wrong.calls g t226 t227 t228 2 t230 t231 t232 w0 _ ?side1 ?side2 A17.out).mono ?_);(case side1=>exact hI HI0);(case side2=>exact bB);rintro e w18 ⟨rfl,hi,hb,hk⟩;refine ⟨_,rfl,?_⟩;replace HK:=Mk (KeepBut.trans kK hk (.inl rfl));replace HB:=Mk (hb);replace HI0:=Mk (hi);clear hb hk hi))
     go_ret
     exact ⟨eW,hI HI0,bB,kK⟩
    ·replace c16:=Bool.eq_false_iff.mpr c16
     subst c16;rw [if_neg (show ¬ (false=true) by decide)] at H;try dsimp only at H
     replace H:=Option.bind_eq_some_iff.mp H;obtain ⟨⟨t233,t234⟩,A190,H⟩:=H;try dsimp only at H
     have A19:=Mk A190;clear A190;rcases t234 with _|q235
     ·have H1:(some (t233,t226,t227,t228))=some (r1,r2,r3,r4):=by rw [if_pos (show (none:Option Int).isNone=true by rfl)] at H;exact H
      clear H;have H:=H1;clear H1;try simp only [errW_none,errW_some]
      simp only [Option.some.injEq,Prod.mk.injEq] at H;obtain ⟨rfl,rfl,rfl,rfl⟩:=H
      go_wp2_with (first|((with_reducible refine gate_callee (f:=69) rfl ?_);refine goesL_ (some 34) rfl rfl Tryz.func69 kR rfl #[.string t225] rfl mA ?_;(with_reducible refine (strconv_Atoi.calls t225 t233 none _ A19.out (Glob.below HG_.out bB)).mono ?_);rintro e w20 ⟨q69_,rfl,hb⟩;refine ⟨_,rfl,?_⟩;(try simp only [Option.map_some,Option.map_none,errW_none,errW_some]);replace HI0:=Mk (IsS64.below (hI HI0) hb);replace HK:=Mk (KeepBut.trans kK (KeepBut.of_below hb g none) (.inl rfl));replace HB:=Mk (below_step bB hb);clear hb;(try simp only [errW_none,errW_some])))
      go_ret
      exact ⟨eW,hI HI0,bB,kK⟩
     ·have H1:((req_reader_wrong.f t226 t227 t228 1).bind fun bt236=>(some (0,bt236.1,bt236.2.1,bt236.2.2)))=some (r1,r2,r3,r4):=by rw [if_neg (show ¬ (some q235).isNone=true by simp)] at H;exact H
      clear H;have H:=H1;clear H1;try simp only [errW_none,errW_some]
      replace H:=Option.bind_eq_some_iff.mp H;obtain ⟨⟨t236,t237,t238⟩,A210,H⟩:=H;try dsimp only at H
      have A21:=Mk A210;clear A210;simp only [Option.some.injEq,Prod.mk.injEq] at H;obtain ⟨rfl,rfl,rfl,rfl⟩:=H
      go_wp2_with (first|((with_reducible refine gate_callee (f:=69) rfl ?_);refine goesL_ (some 34) rfl rfl Tryz.func69 kR rfl #[.string t225] rfl mA ?_;(with_reducible refine (strconv_Atoi.calls t225 t233 (some q235) _ A19.out (Glob.below HG_.out bB)).mono ?_);rintro e w22 ⟨q69_,rfl,hb⟩;refine ⟨_,rfl,?_⟩;(try simp only [Option.map_some,Option.map_none,errW_none,errW_some]);replace HI0:=Mk (IsS64.below (hI HI0) hb);replace HK:=Mk (KeepBut.trans kK (KeepBut.of_below hb g none) (.inl rfl));replace HB:=Mk (below_step bB hb);clear hb;(try simp only [errW_none,errW_some]))|((with_reducible refine gate_callee (f:=57) rfl ?_);refine goesL_ (some 40) rfl rfl Tryz.func57 kR rfl #[.pointer (some ⟨g,0,none⟩),.int .i64 1] rfl mA ?_;(with_reducible refine (req_reader_wrong.calls g t226 t227 t228 1 t236 t237 t238 w0 _ ?side1 ?side2 A21.out).mono ?_);(case side1=>exact hI HI0);(case side2=>exact bB);rintro e w23 ⟨rfl,hi,hb,hk⟩;refine ⟨_,rfl,?_⟩;replace HK:=Mk (KeepBut.trans kK hk (.inl rfl));replace HB:=Mk (hb);replace HI0:=Mk (hi);clear hb hk hi))
      go_ret
      exact ⟨eW,hI HI0,bB,kK⟩
 ·rw [if_neg c2] at H
  have c2b0:=beq_eq_false_iff_ne.mpr c2;have c2b1:=bne_iff_ne.mpr c2;simp only [Option.some.injEq,Prod.mk.injEq] at H;obtain ⟨rfl,rfl,rfl,rfl⟩:=H;obtain ⟨HGz24,hgz24⟩:=HI0.out;have hcz24_0:=cellS64_0 HGz24;have hcz24_1:=cellS64_1 HGz24;have hcz24_2:=cellS64_2 HGz24;have hfz24_0:=blk_frozen HGz24 0;have hfz24_1:=blk_frozen HGz24 1;have hfz24_2:=blk_frozen HGz24 2;clear HGz24 hgz24;go_enter Tryz.func34,Tryz.ntmps34
  go_wp2
  go_ret
  exact ⟨eW,hI HI0,bB,kK⟩
def req_reader_column.f (k:Nat) (s0_0:ByteArray) (s0_1:Int) (s0_2:Int):Option (Int×ByteArray×Int×Int):=(req_reader_sign.f k s0_0 s0_1 s0_2 (⟨#[32]⟩:ByteArray)).bind fun bt239=>((req_reader_number.f k bt239.1 bt239.2.1 bt239.2.2).bind fun bt242=>(some (bt242.1,bt242.2.1,bt242.2.2.1,bt242.2.2.2)))
set_option maxHeartbeats 8000000 in
set_option maxRecDepth 100000 in
theorem req_reader_column.calls (k:Nat) (g:Nat) (s0_0:ByteArray) (s0_1:Int) (s0_2:Int) (r1:Int) (r2:ByteArray) (r3:Int) (r4:Int) (w0 w:World) (hI:IsS64 w0 w g s0_0 s0_1 s0_2) (hB:Below w0.heap.size w0 w) (h:req_reader_column.f k s0_0 s0_1 s0_2=some (r1,r2,r3,r4)) (hG_:Glob w0):
  Calls Tryz.prog 60 #[.pointer (some ⟨g,0,none⟩)] w fun e w'=>e = .returned (.int .i64 r1)∧IsS64 w0 w' g r2 r3 r4∧Below w0.heap.size w0 w'∧KeepBut w w' g none:=by
 have HG_:=Mk hG_;clear hG_;have HI0:=Mk hI;have HK:=Mk (KeepBut.refl w g none);have HL:=Mk hB.size;clear hI;have HW0:=Mk hB.size;have HB:=Mk hB;clear hB;have H:((req_reader_sign.f k s0_0 s0_1 s0_2 (⟨#[32]⟩:ByteArray)).bind fun bt239=>((req_reader_number.f k bt239.1 bt239.2.1 bt239.2.2).bind fun bt242=>(some (bt242.1,bt242.2.1,bt242.2.2.1,bt242.2.2.2))))=some (r1,r2,r3,r4):=h;clear h;replace H:=Option.bind_eq_some_iff.mp H;obtain ⟨⟨t239,t240,t241⟩,A20,H⟩:=H;try dsimp only at H
 have A2:=Mk A20;clear A20;replace H:=Option.bind_eq_some_iff.mp H;obtain ⟨⟨t242,t243,t244,t245⟩,A30,H⟩:=H;try dsimp only at H
 have A3:=Mk A30;clear A30;simp only [Option.some.injEq,Prod.mk.injEq] at H;obtain ⟨rfl,rfl,rfl,rfl⟩:=H;go_enter Tryz.func60,Tryz.ntmps60
 go_wp2_with (first|((with_reducible refine gate_callee (f:=36) rfl ?_);refine goesL_ (some 4) rfl rfl Tryz.func36 kR rfl #[.pointer (some ⟨g,0,none⟩),.string (⟨#[32]⟩:ByteArray)] rfl mA ?_;(with_reducible refine (req_reader_sign.calls k g s0_0 s0_1 s0_2 (⟨#[32]⟩:ByteArray) t239 t240 t241 w0 _ ?side1 ?side2 A2.out).mono ?_);(case side1=>exact hI HI0);(case side2=>exact bB);rintro e w4 ⟨rfl,hi,hb,hk⟩;refine ⟨_,rfl,?_⟩;replace HK:=Mk (KeepBut.trans kK hk (.inl rfl));replace HB:=Mk (hb);replace HI0:=Mk (hi);clear hb hk hi)|((with_reducible refine gate_callee (f:=34) rfl ?_);refine goesL_ (some 6) rfl rfl Tryz.func34 kR rfl #[.pointer (some ⟨g,0,none⟩)] rfl mA ?_;(with_reducible refine (req_reader_number.calls k g t239 t240 t241 t242 t243 t244 t245 w0 _ ?side1 ?side2 A3.out HG_.out).mono ?_);(case side1=>exact hI HI0);(case side2=>exact bB);rintro e w5 ⟨rfl,hi,hb,hk⟩;refine ⟨_,rfl,?_⟩;replace HK:=Mk (KeepBut.trans kK hk (.inl rfl));replace HB:=Mk (hb);replace HI0:=Mk (hi);clear hb hk hi))
 go_ret
 exact ⟨eW,hI HI0,bB,kK⟩
def stringslite_HasSuffix.f (a0:ByteArray) (a1:ByteArray):Option (Bool):=if (a0.size:Int) ≥ (a1.size:Int) then (if 0≤(wrap64 ((a0.size:Int) - (a1.size:Int))) then (if (wrap64 ((a0.size:Int) - (a1.size:Int)))≤(a0.size:Int) then (some ((a0.extract ((wrap64 ((a0.size:Int) - (a1.size:Int))):Int).toNat a0.size).toList == a1.toList)) else (none)) else (none)) else (some false)
set_option maxHeartbeats 8000000 in
set_option maxRecDepth 100000 in
theorem stringslite_HasSuffix.calls (a0:ByteArray) (a1:ByteArray) (r:Bool) (w:World) (h:stringslite_HasSuffix.f a0 a1=some r):
  Calls Tryz.prog 139 #[.string a0,.string a1] w fun e w'=>e = .returned (.bool r)∧Drawn0 w w':=by
 have H:(if (a0.size:Int) ≥ (a1.size:Int) then (if 0≤(wrap64 ((a0.size:Int) - (a1.size:Int))) then (if (wrap64 ((a0.size:Int) - (a1.size:Int)))≤(a0.size:Int) then (some ((a0.extract ((wrap64 ((a0.size:Int) - (a1.size:Int))):Int).toNat a0.size).toList == a1.toList)) else (none)) else (none)) else (some false))=some r:=h;clear h;by_cases c3:(a0.size:Int) ≥ (a1.size:Int)
 ·rw [if_pos c3] at H
  have c3b0:=decide_eq_true c3;have c3b1:decide (a1.size≤a0.size)=true:=decide_eq_true (Int.ofNat_le.mp c3);clear c3;obtain ⟨ji4,hji4⟩:∃ j_:Int,(wrap64 ((a0.size:Int) - (a1.size:Int)))=j_:=⟨_,rfl⟩;replace H:(if 0≤(ji4) then (if (ji4)≤(a0.size:Int) then (some ((a0.extract ((ji4):Int).toNat a0.size).toList == a1.toList)) else (none)) else (none))=some r:=by first|(rw [hji4] at H;exact H)|(simp only [hji4] at H ⊢;exact H)
  have hji4w:(IntKind.i64.wrap ((a0.size:Int) - (a1.size:Int)))=ji4:=(i64_w _).trans hji4;by_cases c5:0≤(ji4)
  ·rw [if_pos c5] at H
   have c5b0:=eq_true c5;have c5b1:=decide_eq_true c5;clear c5;by_cases c6:(ji4)≤(a0.size:Int)
   ·rw [if_pos c6] at H
    have c6b0:=eq_true c6;have c6b1:=decide_eq_true c6;clear c6;obtain rfl:=Option.some.inj H;go_enter Tryz.func139,Tryz.ntmps139
    go_wp2
    go_ret
    exact ⟨by first|rfl|(simp;done)|(simp only [← hji4]<;>(first|rfl|simp))|(simp [*];done),by repeat (first|exact Drawn0.refl _|apply Drawn0.step)⟩
   ·rw [if_neg c6] at H
    exact absurd H (by simp)
  ·rw [if_neg c5] at H
   exact absurd H (by simp)
 ·rw [if_neg c3] at H
  have c3b0:=decide_eq_false c3;have c3b1:decide (a1.size≤a0.size)=false:=decide_eq_false (fun h=>c3 (Int.ofNat_le.mpr h));clear c3;obtain rfl:=Option.some.inj H;go_enter Tryz.func139,Tryz.ntmps139
  go_wp2
  go_ret
  exact ⟨by first|rfl|(simp;done)|(simp [*];done),by repeat (first|exact Drawn0.refl _|apply Drawn0.step)⟩
def stringslite_CutSuffix.f (a0:ByteArray) (a1:ByteArray):Option (ByteArray×Bool):=(stringslite_HasSuffix.f a0 a1).bind fun t246=>(if t246=true then (if 0≤(wrap64 ((a0.size:Int) - (a1.size:Int))) then (if (wrap64 ((a0.size:Int) - (a1.size:Int)))≤(a0.size:Int) then (some (a0.extract 0 ((wrap64 ((a0.size:Int) - (a1.size:Int))):Int).toNat,true)) else (none)) else (none)) else (some (a0,false)))
set_option maxHeartbeats 8000000 in
set_option maxRecDepth 100000 in
theorem stringslite_CutSuffix.calls (a0:ByteArray) (a1:ByteArray) (r1:ByteArray) (r2:Bool) (w:World) (h:stringslite_CutSuffix.f a0 a1=some (r1,r2)):
  Calls Tryz.prog 134 #[.string a0,.string a1] w fun e w'=>e = .returned (.tuple #[.string r1,.bool r2])∧Drawn0 w w':=by
 have H:((stringslite_HasSuffix.f a0 a1).bind fun t246=>(if t246=true then (if 0≤(wrap64 ((a0.size:Int) - (a1.size:Int))) then (if (wrap64 ((a0.size:Int) - (a1.size:Int)))≤(a0.size:Int) then (some (a0.extract 0 ((wrap64 ((a0.size:Int) - (a1.size:Int))):Int).toNat,true)) else (none)) else (none)) else (some (a0,false))))=some (r1,r2):=h;clear h;replace H:=Option.bind_eq_some_iff.mp H;obtain ⟨t246,A30,H⟩:=H;try dsimp only at H
 have A3:=Mk A30;clear A30;by_cases c4:t246=true
 ·subst c4
  rw [if_pos rfl] at H;try dsimp only at H
  obtain ⟨ji5,hji5⟩:∃ j_:Int,(wrap64 ((a0.size:Int) - (a1.size:Int)))=j_:=⟨_,rfl⟩;replace H:(if 0≤(ji5) then (if (ji5)≤(a0.size:Int) then (some (a0.extract 0 ((ji5):Int).toNat,true)) else (none)) else (none))=some (r1,r2):=by first|(rw [hji5] at H;exact H)|(simp only [hji5] at H ⊢;exact H)
  (try rw [hji5] at A3);have hji5w:(IntKind.i64.wrap ((a0.size:Int) - (a1.size:Int)))=ji5:=(i64_w _).trans hji5;by_cases c6:0≤(ji5)
  ·rw [if_pos c6] at H
   have c6b0:=eq_true c6;have c6b1:=decide_eq_true c6;clear c6;by_cases c7:(ji5)≤(a0.size:Int)
   ·rw [if_pos c7] at H
    have c7b0:=eq_true c7;have c7b1:=decide_eq_true c7;clear c7;simp only [Option.some.injEq,Prod.mk.injEq] at H;obtain ⟨rfl,rfl⟩:=H;go_enter Tryz.func134,Tryz.ntmps134
    go_wp2_with (first|(go_at_call 139;(with_reducible refine (stringslite_HasSuffix.calls a0 a1 true _ A3.out).mono ?_);rintro e w' ⟨rfl,⟨nd,rfl⟩⟩))
    go_ret2
    exact ⟨by first|rfl|(simp;done)|(simp only [← hji5]<;>(first|rfl|simp))|(simp [*];done),by repeat (first|exact Drawn0.refl _|apply Drawn0.step)⟩
   ·rw [if_neg c7] at H
    exact absurd H (by simp)
  ·rw [if_neg c6] at H
   exact absurd H (by simp)
 ·replace c4:=Bool.eq_false_iff.mpr c4
  subst c4;rw [if_neg (show ¬ (false=true) by decide)] at H;try dsimp only at H
  simp only [Option.some.injEq,Prod.mk.injEq] at H;obtain ⟨rfl,rfl⟩:=H;go_enter Tryz.func134,Tryz.ntmps134
  go_wp2_with (first|(go_at_call 139;(with_reducible refine (stringslite_HasSuffix.calls a0 a1 false _ A3.out).mono ?_);rintro e w' ⟨rfl,⟨nd,rfl⟩⟩))
  go_ret2
  exact ⟨by first|rfl|(simp;done)|(simp [*];done),by repeat (first|exact Drawn0.refl _|apply Drawn0.step)⟩
def strings_CutSuffix.f (a0:ByteArray) (a1:ByteArray):Option (ByteArray×Bool):=(stringslite_CutSuffix.f a0 a1).bind fun bt247=>(some (bt247.1,bt247.2))
set_option maxHeartbeats 8000000 in
set_option maxRecDepth 100000 in
theorem strings_CutSuffix.calls (a0:ByteArray) (a1:ByteArray) (r1:ByteArray) (r2:Bool) (w:World) (h:strings_CutSuffix.f a0 a1=some (r1,r2)):
  Calls Tryz.prog 106 #[.string a0,.string a1] w fun e w'=>e = .returned (.tuple #[.string r1,.bool r2])∧Drawn0 w w':=by
 have H:((stringslite_CutSuffix.f a0 a1).bind fun bt247=>(some (bt247.1,bt247.2)))=some (r1,r2):=h;clear h;replace H:=Option.bind_eq_some_iff.mp H;obtain ⟨⟨t247,t248⟩,A30,H⟩:=H;try dsimp only at H
 have A3:=Mk A30;clear A30;simp only [Option.some.injEq,Prod.mk.injEq] at H;obtain ⟨rfl,rfl⟩:=H;go_enter Tryz.func106,Tryz.ntmps106
 go_wp2_with (first|(go_at_call 134;(with_reducible refine (stringslite_CutSuffix.calls a0 a1 t247 t248 _ A3.out).mono ?_);rintro e w' ⟨rfl,⟨nd,rfl⟩⟩))
 go_ret2
 exact ⟨by first|rfl|(simp;done)|(simp [*];done),by repeat (first|exact Drawn0.refl _|apply Drawn0.step)⟩
def strings_LastIndexAny.f (a0:ByteArray) (a1:ByteArray):Option Int:=if a0.size≤281474976710656∧a1=⟨#[43,45]⟩ then some (Lia.lia a0.data.toList a0.size) else none
theorem strings_LastIndexAny.calls (a0:ByteArray) (a1:ByteArray) (r:Int) (w:World) (h:strings_LastIndexAny.f a0 a1=some r) (hG_:Glob w):
  Calls Tryz.prog 107 #[.string a0,.string a1] w fun e w'=>e = .returned (.int .i64 r)∧Below w.heap.size w w':=by
 unfold strings_LastIndexAny.f at h
 split at h
 ·rename_i c
  obtain ⟨c1,rfl⟩:=c;obtain rfl:=Option.some.inj h;exact Lia.last_index a0 c1 w hG_
 ·cases h
def stringslite_TrimPrefix.f (a0:ByteArray) (a1:ByteArray):Option (ByteArray):=(stringslite_HasPrefix.f a0 a1).bind fun t249=>(if t249=true then (if 0≤(a1.size:Int) then (if (a1.size:Int)≤(a0.size:Int) then (some (a0.extract ((a1.size:Int):Int).toNat a0.size)) else (none)) else (none)) else (some a0))
set_option maxHeartbeats 8000000 in
set_option maxRecDepth 100000 in
theorem stringslite_TrimPrefix.calls (a0:ByteArray) (a1:ByteArray) (r:ByteArray) (w:World) (h:stringslite_TrimPrefix.f a0 a1=some r):
  Calls Tryz.prog 136 #[.string a0,.string a1] w fun e w'=>e = .returned (.string r)∧Drawn0 w w':=by
 have H:((stringslite_HasPrefix.f a0 a1).bind fun t249=>(if t249=true then (if 0≤(a1.size:Int) then (if (a1.size:Int)≤(a0.size:Int) then (some (a0.extract ((a1.size:Int):Int).toNat a0.size)) else (none)) else (none)) else (some a0)))=some r:=h;clear h;replace H:=Option.bind_eq_some_iff.mp H;obtain ⟨t249,A30,H⟩:=H;try dsimp only at H
 have A3:=Mk A30;clear A30;by_cases c4:t249=true
 ·subst c4
  rw [if_pos rfl] at H;try dsimp only at H
  by_cases c5:0≤(a1.size:Int)
  ·rw [if_pos c5] at H
   have c5b0:=eq_true c5;have c5b1:=decide_eq_true c5;clear c5;by_cases c6:(a1.size:Int)≤(a0.size:Int)
   ·rw [if_pos c6] at H
    have c6b0:=eq_true c6;have c6b1:=decide_eq_true c6;clear c6;obtain rfl:=Option.some.inj H;go_enter Tryz.func136,Tryz.ntmps136
    go_wp2_with (first|(go_at_call 95;(with_reducible refine (stringslite_HasPrefix.calls a0 a1 true _ A3.out).mono ?_);rintro e w' ⟨rfl,⟨nd,rfl⟩⟩))
    go_ret
    exact ⟨by first|rfl|(simp;done)|(simp [*];done),by repeat (first|exact Drawn0.refl _|apply Drawn0.step)⟩
   ·rw [if_neg c6] at H
    exact absurd H (by simp)
  ·rw [if_neg c5] at H
   exact absurd H (by simp)
 ·replace c4:=Bool.eq_false_iff.mpr c4
  subst c4;rw [if_neg (show ¬ (false=true) by decide)] at H;try dsimp only at H
  obtain rfl:=Option.some.inj H;go_enter Tryz.func136,Tryz.ntmps136
  go_wp2_with (first|(go_at_call 95;(with_reducible refine (stringslite_HasPrefix.calls a0 a1 false _ A3.out).mono ?_);rintro e w' ⟨rfl,⟨nd,rfl⟩⟩))
  go_ret
  exact ⟨by first|rfl|(simp;done)|(simp [*];done),by repeat (first|exact Drawn0.refl _|apply Drawn0.step)⟩
def strings_TrimPrefix.f (a0:ByteArray) (a1:ByteArray):Option (ByteArray):=(stringslite_TrimPrefix.f a0 a1).bind fun t250=>(some t250)
set_option maxHeartbeats 8000000 in
set_option maxRecDepth 100000 in
theorem strings_TrimPrefix.calls (a0:ByteArray) (a1:ByteArray) (r:ByteArray) (w:World) (h:strings_TrimPrefix.f a0 a1=some r):
  Calls Tryz.prog 109 #[.string a0,.string a1] w fun e w'=>e = .returned (.string r)∧Drawn0 w w':=by
 have H:((stringslite_TrimPrefix.f a0 a1).bind fun t250=>(some t250))=some r:=h;clear h;replace H:=Option.bind_eq_some_iff.mp H;obtain ⟨t250,A30,H⟩:=H;try dsimp only at H
 have A3:=Mk A30;clear A30;obtain rfl:=Option.some.inj H;go_enter Tryz.func109,Tryz.ntmps109
 go_wp2_with (first|(go_at_call 136;(with_reducible refine (stringslite_TrimPrefix.calls a0 a1 t250 _ A3.out).mono ?_);rintro e w' ⟨rfl,⟨nd,rfl⟩⟩))
 go_ret
 exact ⟨by first|rfl|(simp;done)|(simp [*];done),by repeat (first|exact Drawn0.refl _|apply Drawn0.step)⟩
def strconv_ParseInt.f (a0:ByteArray) (a1:Int) (a2:Int):Option (Int×Option Int):=
 if a0.size≤281474976710656∧a1=10∧a2=64 then
  (match Lib.parseIntB 64 a0.data.toList with
  | .ok v=>some (v,none)
  | .range=>some (Lib.intSat 64 a0.data.toList,some 0)
  |_=>some (0,some 0)) else none
theorem strconv_ParseInt.calls (a0:ByteArray) (a1:Int) (a2:Int) (r1:Int) (r2:Option Int) (w:World) (h:strconv_ParseInt.f a0 a1 a2=some (r1,r2)) (hG_:Glob w):
  Calls Tryz.prog 116 #[.string a0,.int .i64 a1,.int .i64 a2] w fun e w'=>∃ q_:Int,e = .returned (.tuple #[.int .i64 r1,errW (r2.map fun _=>q_)])∧Below w.heap.size w w':=by
 unfold strconv_ParseInt.f at h
 split at h
 ·rename_i c
  obtain ⟨c0,rfl,rfl⟩:=c;rcases hp:Lib.parseIntB 64 a0.data.toList with v|_|_
  ·rw [hp] at h
   injection h with h
   injection h with h1 h2
   subst h1 h2;refine (Tryz.strconv_ParseInt_10_at64_ok a0 (by omega) v hp w).mono ?_;rintro e w' ⟨rfl,hw⟩;refine ⟨0,rfl,?_⟩;rcases hw with rfl|⟨t,rfl⟩
   ·exact Below.refl _ _
   ·exact Lib.bytesWorld_below _ _ _
  ·rw [hp] at h
   injection h with h
   injection h with h1 h2
   subst h1 h2;obtain ⟨tp,p,hv⟩:=hG_.syn;refine (Tryz.strconv_ParseInt_10_at64_syntax_var a0 (by omega) hp tp p w hv).mono ?_;rintro e w' ⟨N,rfl,_,_,hb⟩;exact ⟨(N:Int),rfl,hb⟩
  ·rw [hp] at h
   injection h with h
   injection h with h1 h2
   subst h1 h2;obtain ⟨tp,p,hv⟩:=hG_.range;refine (Tryz.strconv_ParseInt_10_at64_range_var a0 (by omega) hp tp p w hv).mono ?_;rintro e w' ⟨N,rfl,_,_,hb⟩;exact ⟨(N:Int),rfl,hb⟩
 ·cases h
def point_part.f (a0:Int):Option (Nat×Bool):=if a0 ≥ (-1048576) then (some (fOfI a0,decide (a0≤1048576))) else (some (fOfI a0,false))
set_option maxHeartbeats 8000000 in
set_option maxRecDepth 100000 in
theorem point_part.calls (a0:Int) (r1:Nat) (r2:Bool) (w:World) (h:point_part.f a0=some (r1,r2)):
  Calls Tryz.prog 135 #[.int .i64 a0] w fun e w'=>e = .returned (.tuple #[.float .f64 r1,.bool r2])∧Drawn0 w w':=by
 have H:(if a0 ≥ (-1048576) then (some (fOfI a0,decide (a0≤1048576))) else (some (fOfI a0,false)))=some (r1,r2):=h;clear h;by_cases c2:a0 ≥ (-1048576)
 ·rw [if_pos c2] at H
  have c2b0:=decide_eq_true c2;clear c2;simp only [Option.some.injEq,Prod.mk.injEq] at H;obtain ⟨rfl,rfl⟩:=H;go_enter Tryz.func135,Tryz.ntmps135
  go_wp2
  go_ret2
  exact ⟨by first|rfl|(simp;done)|(simp [*];done),by repeat (first|exact Drawn0.refl _|apply Drawn0.step)⟩
 ·rw [if_neg c2] at H
  have c2b0:=decide_eq_false c2;clear c2;simp only [Option.some.injEq,Prod.mk.injEq] at H;obtain ⟨rfl,rfl⟩:=H;go_enter Tryz.func135,Tryz.ntmps135
  go_wp2
  go_ret2
  exact ⟨by first|rfl|(simp;done)|(simp [*];done),by repeat (first|exact Drawn0.refl _|apply Drawn0.step)⟩
def point_decimal.j0:Nat→ByteArray→Bool→Option (Nat×Int)
 | 0,_,_=>none
 |k+1,x0,x31=>if x31=true then (some (0,2)) else ((strconv_ParseInt.f x0 10 64).bind fun bt253=>((point_part.f bt253.1).bind fun bt255=>(if bt253.2.isNone=true then (if bt255.2=true then (some (bt255.1,0)) else (some (0,1))) else (some (0,1)))))
def point_decimal.f (k:Nat) (a0:ByteArray):Option (Nat×Int):=(strings_TrimPrefix.f a0 (⟨#[45]⟩:ByteArray)).bind fun t251=>(if t251.toList=([]:List UInt8) then (point_decimal.j0 k a0 true) else ((strings_Trim.f t251 (⟨#[48,49,50,51,52,53,54,55,56,57]⟩:ByteArray)).bind fun t252=>(if t252.toList=([]:List UInt8) then (if (t251.size:Int) > 1 then (if 0 < (t251.size:Int) then (if (bt t251 0)=48 then (point_decimal.j0 k a0 true) else (point_decimal.j0 k a0 (a0.toList == ([45,48]:List UInt8)))) else (none)) else (point_decimal.j0 k a0 (a0.toList == ([45,48]:List UInt8)))) else (point_decimal.j0 k a0 true))))
set_option maxHeartbeats 8000000 in
set_option maxRecDepth 100000 in
theorem point_decimal.calls (k:Nat) (a0:ByteArray) (r1:Nat) (r2:Int) (w:World) (h:point_decimal.f k a0=some (r1,r2)) (hG_:Glob w):
  Calls Tryz.prog 108 #[.string a0] w fun e w'=>e = .returned (.tuple #[.float .f64 r1,.int .i64 r2])∧Below w.heap.size w w':=by
 have HG_:=Mk hG_;clear hG_;have hu101:=Tryz.underlying101;have HB:=Mk (Below.refl w.heap.size w);have H:((strings_TrimPrefix.f a0 (⟨#[45]⟩:ByteArray)).bind fun t251=>(if t251.toList=([]:List UInt8) then (point_decimal.j0 k a0 true) else ((strings_Trim.f t251 (⟨#[48,49,50,51,52,53,54,55,56,57]⟩:ByteArray)).bind fun t252=>(if t252.toList=([]:List UInt8) then (if (t251.size:Int) > 1 then (if 0 < (t251.size:Int) then (if (bt t251 0)=48 then (point_decimal.j0 k a0 true) else (point_decimal.j0 k a0 (a0.toList == ([45,48]:List UInt8)))) else (none)) else (point_decimal.j0 k a0 (a0.toList == ([45,48]:List UInt8)))) else (point_decimal.j0 k a0 true)))))=some (r1,r2):=h;clear h;replace H:=Option.bind_eq_some_iff.mp H;obtain ⟨t251,A20,H⟩:=H;try dsimp only at H
 have A2:=Mk A20;clear A20;have HC3:=Mk H;clear H;go_enter Tryz.func108,Tryz.ntmps108
 go_upto_region 2 with (first|(go_at_call 109;(with_reducible refine (strings_TrimPrefix.calls a0 (⟨#[45]⟩:ByteArray) t251 _ A2.out).mono ?_);rintro e w' ⟨rfl,⟨nd,rfl⟩⟩))
 (try simp only [Act.put,List.setIfInBounds_toArray,List.set_cons_zero,List.set_cons_succ])
 go_cut [31] (fun v31 wc=>∃ (kq:Nat) (x31_2:Bool),v31 = .bool x31_2∧Aside0 (point_decimal.j0 kq a0 x31_2=some (r1,r2))∧Aside0 (kq≤k)∧Aside0 (Below w.heap.size w wc))
 case first=>
  have H:=HC3.out;clear HC3;by_cases c4:t251.toList=([]:List UInt8)
  ·rw [if_pos c4] at H
   have c4b0:=beq_iff_eq.mpr c4;have c4b1:=bne_eq_false_iff_eq.mpr c4;clear c4;(first|rw [c4b0]|(simp only [i64_w,i32_w];rw [c4b0])|skip);have H':=Mk H;clear H
   go_wp2
   go_meet
   case rel=>exact ⟨_,(true),sS,H',⟨by first|omega|exact Nat.le_refl _⟩,⟨bB⟩⟩
  ·rw [if_neg c4] at H
   have c4b0:=beq_eq_false_iff_ne.mpr c4;have c4b1:=bne_iff_ne.mpr c4;(first|rw [c4b0]|(simp only [i64_w,i32_w];rw [c4b0])|skip);replace H:=Option.bind_eq_some_iff.mp H;obtain ⟨t252,A50,H⟩:=H;try dsimp only at H
   have A5:=Mk A50;clear A50;by_cases c6:t252.toList=([]:List UInt8)
   ·rw [if_pos c6] at H
    have c6b0:=beq_iff_eq.mpr c6;have c6b1:=bne_eq_false_iff_eq.mpr c6;clear c6;by_cases c7:(t251.size:Int) > 1
    ·rw [if_pos c7] at H
     have c7b0:=decide_eq_true c7;have c7b1:decide (1 < t251.size)=true:=decide_eq_true (by omega);clear c7;by_cases c8:0 < (t251.size:Int)
     ·rw [if_pos c8] at H
      have c8b0:=decide_eq_true c8;have c8b1:decide (0 < t251.size)=true:=decide_eq_true (by omega);clear c8;by_cases c10:(bt t251 0)=48
      ·rw [if_pos c10] at H
       have c10b0:=beq_iff_eq.mpr c10;have c10b1:=bne_eq_false_iff_eq.mpr c10;clear c10;have H':=Mk H;clear H
       go_wp2_with (first|(go_at_call 68;(with_reducible refine (strings_Trim.calls t251 (⟨#[48,49,50,51,52,53,54,55,56,57]⟩:ByteArray) t252 _ A5.out).mono ?_);rintro e w11 ⟨rfl,hb⟩;replace HB:=Mk (below_step bB hb);clear hb;have p9:0≤(0:Int):=(by omega);have q9:0 < t251.size:=(by have:(0:Int) < (t251.size:Int):=of_decide_eq_true aS;omega);have hx9:∀ h:0 < t251.size,((t251[0]'h).toNat:Int)=bt t251 0:=bt_at t251 0;clear p9;have qi9:(0 < (t251.size:Int))=True:=eq_true (of_decide_eq_true aS);replace q9:=eq_true q9))
       go_meet
       case rel=>exact ⟨_,(true),sS,H',⟨by first|omega|exact Nat.le_refl _⟩,⟨bB⟩⟩
      ·rw [if_neg c10] at H
       have c10b0:=beq_eq_false_iff_ne.mpr c10;have c10b1:=bne_iff_ne.mpr c10;have H':=Mk H;clear H
       go_wp2_with (first|(go_at_call 68;(with_reducible refine (strings_Trim.calls t251 (⟨#[48,49,50,51,52,53,54,55,56,57]⟩:ByteArray) t252 _ A5.out).mono ?_);rintro e w12 ⟨rfl,hb⟩;replace HB:=Mk (below_step bB hb);clear hb;have p9:0≤(0:Int):=(by omega);have q9:0 < t251.size:=(by have:(0:Int) < (t251.size:Int):=of_decide_eq_true aS;omega);have hx9:∀ h:0 < t251.size,((t251[0]'h).toNat:Int)=bt t251 0:=bt_at t251 0;clear p9;have qi9:(0 < (t251.size:Int))=True:=eq_true (of_decide_eq_true aS);replace q9:=eq_true q9))
       go_meet
       case rel=>exact ⟨_,((a0.toList == ([45,48]:List UInt8))),sS,H',⟨by first|omega|exact Nat.le_refl _⟩,⟨bB⟩⟩
     ·rw [if_neg c8] at H
      exact absurd H (by simp)
    ·rw [if_neg c7] at H
     have c7b0:=decide_eq_false c7;have c7b1:decide (1 < t251.size)=false:=decide_eq_false (by omega);clear c7;have H':=Mk H;clear H
     go_wp2_with (first|(go_at_call 68;(with_reducible refine (strings_Trim.calls t251 (⟨#[48,49,50,51,52,53,54,55,56,57]⟩:ByteArray) t252 _ A5.out).mono ?_);rintro e w13 ⟨rfl,hb⟩;replace HB:=Mk (below_step bB hb);clear hb))
     go_meet
     case rel=>exact ⟨_,((a0.toList == ([45,48]:List UInt8))),sS,H',⟨by first|omega|exact Nat.le_refl _⟩,⟨bB⟩⟩
   ·rw [if_neg c6] at H
    have c6b0:=beq_eq_false_iff_ne.mpr c6;have c6b1:=bne_iff_ne.mpr c6;have H':=Mk H;clear H
    go_wp2_with (first|(go_at_call 68;(with_reducible refine (strings_Trim.calls t251 (⟨#[48,49,50,51,52,53,54,55,56,57]⟩:ByteArray) t252 _ A5.out).mono ?_);rintro e w14 ⟨rfl,hb⟩;replace HB:=Mk (below_step bB hb);clear hb))
    go_meet
    case rel=>exact ⟨_,(true),sS,H',⟨by first|omega|exact Nat.le_refl _⟩,⟨bB⟩⟩
 case rest=>
  clear HC3;try clear c1
  try clear p2
  try clear c4
  try clear c4b0
  try clear c4b1
  try clear c6
  try clear c6b0
  try clear c6b1
  try clear c7
  try clear c7b0
  try clear c7b1
  try clear c8
  try clear c8b0
  try clear c8b1
  try clear p9
  try clear q9
  try clear hx9
  try clear qi9
  try clear c10
  try clear c10b0
  try clear c10b1
  try clear p9
  try clear q9
  obtain ⟨kq,x31_2,rfl,HA,HJ2,HB⟩:=hcut
  cases kq with
  |zero=>exact absurd HA.out (by simp [point_decimal.j0])
  |succ kj2=>
   have H:=HA.out;clear HA;simp only [point_decimal.j0] at H;by_cases c15:x31_2=true
   ·subst c15
    rw [if_pos rfl] at H;try dsimp only at H
    simp only [Option.some.injEq,Prod.mk.injEq] at H;obtain ⟨rfl,rfl⟩:=H
    go_wp2
    go_ret2
    exact ⟨eW,bB⟩
   ·replace c15:=Bool.eq_false_iff.mpr c15
    subst c15;rw [if_neg (show ¬ (false=true) by decide)] at H;try dsimp only at H
    replace H:=Option.bind_eq_some_iff.mp H;obtain ⟨⟨t253,t254⟩,A160,H⟩:=H;try dsimp only at H
    have A16:=Mk A160;clear A160;replace H:=Option.bind_eq_some_iff.mp H;obtain ⟨⟨t255,t256⟩,A170,H⟩:=H;try dsimp only at H
    have A17:=Mk A170;clear A170;rcases t254 with _|q257
    ·have H1:(if t256=true then (some (t255,0)) else (some (0,1)))=some (r1,r2):=by rw [if_pos (show (none:Option Int).isNone=true by rfl)] at H;exact H
     clear H;have H:=H1;clear H1;try simp only [errW_none,errW_some]
     by_cases c18:t256=true
     ·subst c18
      rw [if_pos rfl] at H;try dsimp only at H
      simp only [Option.some.injEq,Prod.mk.injEq] at H;obtain ⟨rfl,rfl⟩:=H
      go_wp2_with (first|((with_reducible refine gate_callee (f:=116) rfl ?_);refine goesL_ (some 34) rfl rfl Tryz.func116 kR rfl #[.string a0,.int .i64 10,.int .i64 64] rfl mA ?_;(with_reducible refine (strconv_ParseInt.calls a0 10 64 t253 none _ A16.out (Glob.below HG_.out bB)).mono ?_);rintro e w19 ⟨q116_,rfl,hb⟩;refine ⟨_,rfl,?_⟩;(try simp only [Option.map_some,Option.map_none,errW_none,errW_some]);replace HB:=Mk (below_step bB hb);clear hb;(try simp only [errW_none,errW_some]))|(go_at_call 135;(with_reducible refine (point_part.calls t253 t255 true _ A17.out).mono ?_);rintro e w' ⟨rfl,⟨nd,rfl⟩⟩))
      go_ret2
      exact ⟨eW,bB⟩
     ·replace c18:=Bool.eq_false_iff.mpr c18
      subst c18;rw [if_neg (show ¬ (false=true) by decide)] at H;try dsimp only at H
      simp only [Option.some.injEq,Prod.mk.injEq] at H;obtain ⟨rfl,rfl⟩:=H
      go_wp2_with (first|((with_reducible refine gate_callee (f:=116) rfl ?_);refine goesL_ (some 34) rfl rfl Tryz.func116 kR rfl #[.string a0,.int .i64 10,.int .i64 64] rfl mA ?_;(with_reducible refine (strconv_ParseInt.calls a0 10 64 t253 none _ A16.out (Glob.below HG_.out bB)).mono ?_);rintro e w20 ⟨q116_,rfl,hb⟩;refine ⟨_,rfl,?_⟩;(try simp only [Option.map_some,Option.map_none,errW_none,errW_some]);replace HB:=Mk (below_step bB hb);clear hb;(try simp only [errW_none,errW_some]))|(go_at_call 135;(with_reducible refine (point_part.calls t253 t255 false _ A17.out).mono ?_);rintro e w' ⟨rfl,⟨nd,rfl⟩⟩))
      go_ret2
      exact ⟨eW,bB⟩
    ·have H1:(some (0,1))=some (r1,r2):=by rw [if_neg (show ¬ (some q257).isNone=true by simp)] at H;exact H
     clear H;have H:=H1;clear H1;try simp only [errW_none,errW_some]
     simp only [Option.some.injEq,Prod.mk.injEq] at H;obtain ⟨rfl,rfl⟩:=H
     go_wp2_with (first|((with_reducible refine gate_callee (f:=116) rfl ?_);refine goesL_ (some 34) rfl rfl Tryz.func116 kR rfl #[.string a0,.int .i64 10,.int .i64 64] rfl mA ?_;(with_reducible refine (strconv_ParseInt.calls a0 10 64 t253 (some q257) _ A16.out (Glob.below HG_.out bB)).mono ?_);rintro e w21 ⟨q116_,rfl,hb⟩;refine ⟨_,rfl,?_⟩;(try simp only [Option.map_some,Option.map_none,errW_none,errW_some]);replace HB:=Mk (below_step bB hb);clear hb;(try simp only [errW_none,errW_some]))|(go_at_call 135;(with_reducible refine (point_part.calls t253 t255 t256 _ A17.out).mono ?_);rintro e w' ⟨rfl,⟨nd,rfl⟩⟩))
     go_ret2
     exact ⟨eW,bB⟩
end Go.Proofs.YtcpjlbdjnaaaiaaGreatDoor.PAll
