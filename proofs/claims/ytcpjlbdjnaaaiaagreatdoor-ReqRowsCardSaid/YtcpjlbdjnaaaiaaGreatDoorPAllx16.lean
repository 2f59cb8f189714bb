import Derived.Test.YtcpjlbdjnaaaiaaGreatDoorPAllx15
namespace Go.Proofs.YtcpjlbdjnaaaiaaGreatDoor.PAll
open Go.Proofs.YtcpjlbdjnaaaiaaGreatDoor.Help
open Go.RowKit Go.Proofs.YtcpjlbdjnaaaiaaGreatDoorW.PrintWords Go.Proofs.YtcpjlbdjnaaaiaaGreatDoorW.PrintLast Go.Proofs.YtcpjlbdjnaaaiaaGreatDoorW.PrintMore
set_option linter.unusedVariables false
set_option linter.unusedSimpArgs false
mutual
def point_Parse.j0:Nat→ByteArray→Int→Bool→Option ((Nat×Nat)×Int)
 | 0,_,_,_=>none
 |k+1,x4,x6,x23=>if x23=true then (some (((0,0):Nat×Nat),2)) else (if 0≤x6 then (if x6≤(x4.size:Int) then ((point_decimal.f k (x4.extract 0 (x6:Int).toNat)).bind fun bt261=>((strings_TrimPrefix.f (x4.extract (x6:Int).toNat x4.size) (⟨#[43]⟩:ByteArray)).bind fun t263=>((point_decimal.f k t263).bind fun bt264=>(if bt261.2=2 then (point_Parse.j1 k bt261.1 bt261.2 bt264.1 bt264.2 true) else (point_Parse.j1 k bt261.1 bt261.2 bt264.1 bt264.2 (bt264.2 == 2)))))) else (none)) else (none))
def point_Parse.j1:Nat→Nat→Int→Nat→Int→Bool→Option ((Nat×Nat)×Int)
 | 0,_,_,_,_,_=>none
 |k+1,x7,x8,x9,x10,x39=>if x39=true then (some (((0,0):Nat×Nat),2)) else (if x8=0 then (if x10=0 then (some (((x7,x9):Nat×Nat),0)) else (some (((0,0):Nat×Nat),1))) else (some (((0,0):Nat×Nat),1)))
end
def point_Parse.f (k:Nat) (a0:ByteArray):Option ((Nat×Nat)×Int):=(strings_CutSuffix.f a0 (⟨#[105]⟩:ByteArray)).bind fun bt258=>((strings_LastIndexAny.f bt258.1 (⟨#[43,45]⟩:ByteArray)).bind fun t260=>(if bt258.2=true then (point_Parse.j0 k bt258.1 t260 (decide (t260 < 1))) else (point_Parse.j0 k bt258.1 t260 true)))
set_option maxHeartbeats 8000000 in
set_option maxRecDepth 100000 in
theorem point_Parse.calls (k:Nat) (a0:ByteArray) (r1:(Nat×Nat)) (r2:Int) (w:World) (h:point_Parse.f k a0=some (r1,r2)) (hG_:Glob w):
  Calls Tryz.prog 82 #[.string a0] w fun e w'=>e = .returned (.tuple #[.complex .f64 r1.1 r1.2,.int .i64 r2])∧Below w.heap.size w w':=by
 have HG_:=Mk hG_;clear hG_;have HB:=Mk (Below.refl w.heap.size w);have H:((strings_CutSuffix.f a0 (⟨#[105]⟩:ByteArray)).bind fun bt258=>((strings_LastIndexAny.f bt258.1 (⟨#[43,45]⟩:ByteArray)).bind fun t260=>(if bt258.2=true then (point_Parse.j0 k bt258.1 t260 (decide (t260 < 1))) else (point_Parse.j0 k bt258.1 t260 true))))=some (r1,r2):=h;clear h;replace H:=Option.bind_eq_some_iff.mp H;obtain ⟨⟨t258,t259⟩,A20,H⟩:=H;try dsimp only at H
 have A2:=Mk A20;clear A20;replace H:=Option.bind_eq_some_iff.mp H;obtain ⟨t260,A30,H⟩:=H;try dsimp only at H
 have A3:=Mk A30;clear A30;have HC4:=Mk H;clear H;go_enter Tryz.func82,Tryz.ntmps82
 go_upto_region 3 with (first|(go_at_call 106;(with_reducible refine (strings_CutSuffix.calls a0 (⟨#[105]⟩:ByteArray) t258 t259 _ A2.out).mono ?_);rintro e w' ⟨rfl,⟨nd,rfl⟩⟩)|((with_reducible refine gate_callee (f:=107) rfl ?_);refine goesL_ (some 17) rfl rfl Tryz.func107 kR rfl #[.string t258,.string (⟨#[43,45]⟩:ByteArray)] rfl mA ?_;(with_reducible refine (strings_LastIndexAny.calls t258 (⟨#[43,45]⟩:ByteArray) t260 _ A3.out (Glob.below HG_.out bB)).mono ?_);rintro e w5 ⟨rfl,hb⟩;refine ⟨_,rfl,?_⟩;replace HB:=Mk (below_step bB hb);clear hb))
 (try simp only [Act.put,List.setIfInBounds_toArray,List.set_cons_zero,List.set_cons_succ])
 go_cut [23] (fun v23 wc=>∃ (kq:Nat) (x23_3:Bool),v23 = .bool x23_3∧Aside0 (point_Parse.j0 kq t258 t260 x23_3=some (r1,r2))∧Aside0 (kq≤k)∧Aside0 (Below w.heap.size w wc))
 case first=>
  have H:=HC4.out;clear HC4;by_cases c6:t259=true
  ·subst c6
   rw [if_pos rfl] at H;try dsimp only at H
   have H':=Mk H;clear H
   go_wp2
   go_meet
   case rel=>exact ⟨_,(decide (t260 < 1)),sS,H',⟨by first|omega|exact Nat.le_refl _⟩,⟨bB⟩⟩
  ·replace c6:=Bool.eq_false_iff.mpr c6
   subst c6;rw [if_neg (show ¬ (false=true) by decide)] at H;try dsimp only at H
   have H':=Mk H;clear H
   go_wp2
   go_meet
   case rel=>exact ⟨_,(true),sS,H',⟨by first|omega|exact Nat.le_refl _⟩,⟨bB⟩⟩
 case rest=>
  clear HC4;try clear c1
  try clear p2
  try clear c6
  obtain ⟨kq,x23_3,rfl,HA,HJ3,HB⟩:=hcut
  cases kq with
  |zero=>exact absurd HA.out (by simp [point_Parse.j0])
  |succ kj3=>
   have H:=HA.out;clear HA;simp only [point_Parse.j0] at H;by_cases c7:x23_3=true
   ·subst c7
    rw [if_pos rfl] at H;try dsimp only at H
    simp only [Option.some.injEq,Prod.mk.injEq] at H;obtain ⟨rfl,rfl⟩:=H
    go_wp2
    go_ret2
    exact ⟨eW,bB⟩
   ·replace c7:=Bool.eq_false_iff.mpr c7
    subst c7;rw [if_neg (show ¬ (false=true) by decide)] at H;try dsimp only at H
    by_cases c8:0≤t260
    ·rw [if_pos c8] at H
     have c8b0:=eq_true c8;have c8b1:=decide_eq_true c8;clear c8;by_cases c9:t260≤(t258.size:Int)
     ·rw [if_pos c9] at H
      have c9b0:=eq_true c9;have c9b1:=decide_eq_true c9;clear c9;replace H:=Option.bind_eq_some_iff.mp H;obtain ⟨⟨t261,t262⟩,A100,H⟩:=H;try dsimp only at H
      have A10:=Mk A100;clear A100;have c11b0:=eq_true (of_decide_eq_true aS:0≤t260);have c12b0:=eq_true (of_decide_eq_true aS:t260≤(t258.size:Int));replace H:=Option.bind_eq_some_iff.mp H;obtain ⟨t263,A130,H⟩:=H;try dsimp only at H
      have A13:=Mk A130;clear A130;replace H:=Option.bind_eq_some_iff.mp H;obtain ⟨⟨t264,t265⟩,A140,H⟩:=H;try dsimp only at H
      have A14:=Mk A140;clear A140;have HC15:=Mk H;clear H
      go_upto_region 7 with (first|((with_reducible refine gate_callee (f:=108) rfl ?_);refine goesL_ (some 28) rfl rfl Tryz.func108 kR rfl #[.string (t258.extract 0 (t260:Int).toNat)] rfl mA ?_;(with_reducible refine (point_decimal.calls kj3 (t258.extract 0 (t260:Int).toNat) t261 t262 _ A10.out (Glob.below HG_.out bB)).mono ?_);rintro e w16 ⟨rfl,hb⟩;refine ⟨_,rfl,?_⟩;replace HB:=Mk (below_step bB hb);clear hb)|(go_at_call 109;(with_reducible refine (strings_TrimPrefix.calls (t258.extract (t260:Int).toNat t258.size) (⟨#[43]⟩:ByteArray) t263 _ A13.out).mono ?_);rintro e w' ⟨rfl,⟨nd,rfl⟩⟩)|((with_reducible refine gate_callee (f:=108) rfl ?_);refine goesL_ (some 36) rfl rfl Tryz.func108 kR rfl #[.string t263] rfl mA ?_;(with_reducible refine (point_decimal.calls kj3 t263 t264 t265 _ A14.out (Glob.below HG_.out bB)).mono ?_);rintro e w17 ⟨rfl,hb⟩;refine ⟨_,rfl,?_⟩;replace HB:=Mk (below_step bB hb);clear hb))
      (try simp only [Act.put,List.setIfInBounds_toArray,List.set_cons_zero,List.set_cons_succ])
      go_cut [39] (fun v39 wc=>∃ (kq:Nat) (x39_14:Bool),v39 = .bool x39_14∧Aside0 (point_Parse.j1 kq t261 t262 t264 t265 x39_14=some (r1,r2))∧Aside0 (kq≤kj3)∧Aside0 (Below w.heap.size w wc))
      case first=>
       have H:=HC15.out;clear HC15;by_cases c18:t262=2
       ·rw [if_pos c18] at H
        have c18b0:=beq_iff_eq.mpr c18;have c18b1:=bne_eq_false_iff_eq.mpr c18;clear c18;(first|rw [c18b0]|(simp only [i64_w,i32_w];rw [c18b0])|skip);have H':=Mk H;clear H
        go_wp2
        go_meet
        case rel=>exact ⟨_,(true),sS,H',⟨by have:=HJ3.out;first|omega|exact Nat.le_refl _⟩,⟨bB⟩⟩
       ·rw [if_neg c18] at H
        have c18b0:=beq_eq_false_iff_ne.mpr c18;have c18b1:=bne_iff_ne.mpr c18;(first|rw [c18b0]|(simp only [i64_w,i32_w];rw [c18b0])|skip);have H':=Mk H;clear H
        go_wp2
        go_meet
        case rel=>exact ⟨_,((t265 == 2)),sS,H',⟨by have:=HJ3.out;first|omega|exact Nat.le_refl _⟩,⟨bB⟩⟩
      case rest=>
       clear HC15;try clear c1
       try clear p2
       try clear c6
       try clear c7
       try clear c8
       try clear c8b0
       try clear c8b1
       try clear c9
       try clear c9b0
       try clear c9b1
       try clear c10
       try clear c11
       try clear c11b0
       try clear c12
       try clear c12b0
       try clear c18
       try clear c18b0
       try clear c18b1
       try clear p2
       obtain ⟨kq,x39_14,rfl,HA,HJ14,HB⟩:=hcut
       cases kq with
       |zero=>exact absurd HA.out (by simp [point_Parse.j1])
       |succ kj14=>
        have H:=HA.out;clear HA;simp only [point_Parse.j1] at H;by_cases c19:x39_14=true
        ·subst c19
         rw [if_pos rfl] at H;try dsimp only at H
         simp only [Option.some.injEq,Prod.mk.injEq] at H;obtain ⟨rfl,rfl⟩:=H
         go_wp2
         go_ret2
         exact ⟨eW,bB⟩
        ·replace c19:=Bool.eq_false_iff.mpr c19
         subst c19;rw [if_neg (show ¬ (false=true) by decide)] at H;try dsimp only at H
         by_cases c20:t262=0
         ·rw [if_pos c20] at H
          have c20b0:=beq_iff_eq.mpr c20;have c20b1:=bne_eq_false_iff_eq.mpr c20;clear c20;by_cases c21:t265=0
          ·rw [if_pos c21] at H
           have c21b0:=beq_iff_eq.mpr c21;have c21b1:=bne_eq_false_iff_eq.mpr c21;clear c21;simp only [Option.some.injEq,Prod.mk.injEq] at H;obtain ⟨rfl,rfl⟩:=H
           go_wp2
           go_ret2
           exact ⟨eW,bB⟩
          ·rw [if_neg c21] at H
           have c21b0:=beq_eq_false_iff_ne.mpr c21;have c21b1:=bne_iff_ne.mpr c21;simp only [Option.some.injEq,Prod.mk.injEq] at H;obtain ⟨rfl,rfl⟩:=H
           go_wp2
           go_ret2
           exact ⟨eW,bB⟩
         ·rw [if_neg c20] at H
          have c20b0:=beq_eq_false_iff_ne.mpr c20;have c20b1:=bne_iff_ne.mpr c20;simp only [Option.some.injEq,Prod.mk.injEq] at H;obtain ⟨rfl,rfl⟩:=H
          go_wp2
          go_ret2
          exact ⟨eW,bB⟩
     ·rw [if_neg c9] at H
      exact absurd H (by simp)
    ·rw [if_neg c8] at H
     exact absurd H (by simp)
def req_reader_corner.f (k:Nat) (s0_0:ByteArray) (s0_1:Int) (s0_2:Int):Option ((Nat×Nat)×ByteArray×Int×Int):=(req_reader_sign.f k s0_0 s0_1 s0_2 (⟨#[32]⟩:ByteArray)).bind fun bt266=>(if bt266.2.2=0 then ((req_reader_word.f bt266.1 bt266.2.1 bt266.2.2).bind fun bt269=>((point_Parse.f k bt269.1).bind fun bt273=>((req_reader_wrong.f bt269.2.1 bt269.2.2.1 bt269.2.2.2 bt273.2).bind fun bt275=>(some (bt273.1,bt275.1,bt275.2.1,bt275.2.2))))) else (some (((0,0):Nat×Nat),bt266.1,bt266.2.1,bt266.2.2)))
set_option maxHeartbeats 8000000 in
set_option maxRecDepth 100000 in
theorem req_reader_corner.calls (k:Nat) (g:Nat) (s0_0:ByteArray) (s0_1:Int) (s0_2:Int) (r1:(Nat×Nat)) (r2:ByteArray) (r3:Int) (r4:Int) (w0 w:World) (hI:IsS64 w0 w g s0_0 s0_1 s0_2) (hB:Below w0.heap.size w0 w) (h:req_reader_corner.f k s0_0 s0_1 s0_2=some (r1,r2,r3,r4)) (hG_:Glob w0):
  Calls Tryz.prog 61 #[.pointer (some ⟨g,0,none⟩)] w fun e w'=>e = .returned (.complex .f64 r1.1 r1.2)∧IsS64 w0 w' g r2 r3 r4∧Below w0.heap.size w0 w'∧KeepBut w w' g none:=by
 have HG_:=Mk hG_;clear hG_;have HI0:=Mk hI;have HK:=Mk (KeepBut.refl w g none);have HL:=Mk hB.size;clear hI;have HW0:=Mk hB.size;have HB:=Mk hB;clear hB;have H:((req_reader_sign.f k s0_0 s0_1 s0_2 (⟨#[32]⟩:ByteArray)).bind fun bt266=>(if bt266.2.2=0 then ((req_reader_word.f bt266.1 bt266.2.1 bt266.2.2).bind fun bt269=>((point_Parse.f k bt269.1).bind fun bt273=>((req_reader_wrong.f bt269.2.1 bt269.2.2.1 bt269.2.2.2 bt273.2).bind fun bt275=>(some (bt273.1,bt275.1,bt275.2.1,bt275.2.2))))) else (some (((0,0):Nat×Nat),bt266.1,bt266.2.1,bt266.2.2))))=some (r1,r2,r3,r4):=h;clear h;replace H:=Option.bind_eq_some_iff.mp H;obtain ⟨⟨t266,t267,t268⟩,A20,H⟩:=H;try dsimp only at H
 have A2:=Mk A20;clear A20;by_cases c3:t268=0
 ·rw [if_pos c3] at H
  have c3b0:=beq_iff_eq.mpr c3;have c3b1:=bne_eq_false_iff_eq.mpr c3;clear c3;replace H:=Option.bind_eq_some_iff.mp H;obtain ⟨⟨t269,t270,t271,t272⟩,A40,H⟩:=H;try dsimp only at H
  have A4:=Mk A40;clear A40;replace H:=Option.bind_eq_some_iff.mp H;obtain ⟨⟨t273,t274⟩,A50,H⟩:=H;try dsimp only at H
  have A5:=Mk A50;clear A50;replace H:=Option.bind_eq_some_iff.mp H;obtain ⟨⟨t275,t276,t277⟩,A60,H⟩:=H;try dsimp only at H
  have A6:=Mk A60;clear A60;simp only [Option.some.injEq,Prod.mk.injEq] at H;obtain ⟨rfl,rfl,rfl,rfl⟩:=H;go_enter Tryz.func61,Tryz.ntmps61
  go_wp2_with (first|((with_reducible refine gate_callee (f:=36) rfl ?_);refine goesL_ (some 6) rfl rfl Tryz.func36 kR rfl #[.pointer (some ⟨g,0,none⟩),.string (⟨#[32]⟩:ByteArray)] rfl mA ?_;(with_reducible refine (req_reader_sign.calls k g s0_0 s0_1 s0_2 (⟨#[32]⟩:ByteArray) t266 t267 t268 w0 _ ?side1 ?side2 A2.out).mono ?_);(case side1=>exact hI HI0);(case side2=>exact bB);rintro e w7 ⟨rfl,hi,hb,hk⟩;refine ⟨_,rfl,?_⟩;replace HK:=Mk (KeepBut.trans kK hk (.inl rfl));replace HB:=Mk (hb);replace HI0:=Mk (hi);clear hb hk hi;obtain ⟨HGz8,hgz8⟩:=HI0.out;have hcz8_0:=cellS64_0 HGz8;have hcz8_1:=cellS64_1 HGz8;have hcz8_2:=cellS64_2 HGz8;have hfz8_0:=blk_frozen HGz8 0;have hfz8_1:=blk_frozen HGz8 1;have hfz8_2:=blk_frozen HGz8 2;clear HGz8 hgz8)|((with_reducible refine gate_callee (f:=67) rfl ?_);refine goesL_ (some 14) rfl rfl Tryz.func67 kR rfl #[.pointer (some ⟨g,0,none⟩)] rfl mA ?_;(with_reducible refine (req_reader_word.calls g t266 t267 t268 t269 t270 t271 t272 w0 _ ?side1 ?side2 A4.out).mono ?_);(case side1=>exact hI HI0);(case side2=>exact bB);rintro e w9 ⟨rfl,hi,hb,hk⟩;refine ⟨_,rfl,?_⟩;replace HK:=Mk (KeepBut.trans kK hk (.inl rfl));replace HB:=Mk (hb);replace HI0:=Mk (hi);clear hb hk hi)|((with_reducible refine gate_callee (f:=82) rfl ?_);refine goesL_ (some 15) rfl rfl Tryz.func82 kR rfl #[.string t269] rfl mA ?_;(with_reducible refine (point_Parse.calls k t269 t273 t274 _ A5.out (Glob.below HG_.out bB)).mono ?_);rintro e w10 ⟨rfl,hb⟩;refine ⟨_,rfl,?_⟩;replace HI0:=Mk (IsS64.below (hI HI0) hb);replace HK:=Mk (KeepBut.trans kK (KeepBut.of_below hb g none) (.inl rfl));replace HB:=Mk (below_step bB hb);clear hb)|((with_reducible refine gate_callee (f:=57) rfl ?_);refine goesL_ (some 20) rfl rfl Tryz.func57 kR rfl #[.pointer (some ⟨g,0,none⟩),.int .i64 t274] rfl mA ?_;(with_reducible refine (req_reader_wrong.calls g t270 t271 t272 t274 t275 t276 t277 w0 _ ?side1 ?side2 A6.out).mono ?_);(case side1=>exact hI HI0);(case side2=>exact bB);rintro e w11 ⟨rfl,hi,hb,hk⟩;refine ⟨_,rfl,?_⟩;replace HK:=Mk (KeepBut.trans kK hk (.inl rfl));replace HB:=Mk (hb);replace HI0:=Mk (hi);clear hb hk hi))
  go_ret
  exact ⟨eW,hI HI0,bB,kK⟩
 ·rw [if_neg c3] at H
  have c3b0:=beq_eq_false_iff_ne.mpr c3;have c3b1:=bne_iff_ne.mpr c3;simp only [Option.some.injEq,Prod.mk.injEq] at H;obtain ⟨rfl,rfl,rfl,rfl⟩:=H;go_enter Tryz.func61,Tryz.ntmps61
  go_wp2_with (first|((with_reducible refine gate_callee (f:=36) rfl ?_);refine goesL_ (some 6) rfl rfl Tryz.func36 kR rfl #[.pointer (some ⟨g,0,none⟩),.string (⟨#[32]⟩:ByteArray)] rfl mA ?_;(with_reducible refine (req_reader_sign.calls k g s0_0 s0_1 s0_2 (⟨#[32]⟩:ByteArray) t266 t267 t268 w0 _ ?side1 ?side2 A2.out).mono ?_);(case side1=>exact hI HI0);(case side2=>exact bB);rintro e w12 ⟨rfl,hi,hb,hk⟩;refine ⟨_,rfl,?_⟩;replace HK:=Mk (KeepBut.trans kK hk (.inl rfl));replace HB:=Mk (hb);replace HI0:=Mk (hi);clear hb hk hi;obtain ⟨HGz13,hgz13⟩:=HI0.out;have hcz13_0:=cellS64_0 HGz13;have hcz13_1:=cellS64_1 HGz13;have hcz13_2:=cellS64_2 HGz13;have hfz13_0:=blk_frozen HGz13 0;have hfz13_1:=blk_frozen HGz13 1;have hfz13_2:=blk_frozen HGz13 2;clear HGz13 hgz13))
  go_ret
  exact ⟨eW,hI HI0,bB,kK⟩
def strings_IndexByte.f (a0:ByteArray) (a1:Int):Option Int:=some (Lib.indexByte a0.data.toList a1.toNat.toUInt8)
theorem strings_IndexByte.calls (a0:ByteArray) (a1:Int) (r:Int) (w:World) (h:strings_IndexByte.f a0 a1=some r):
  Calls Tryz.prog 132 #[.string a0,.int .u8 a1] w fun e w'=>e = .returned (.int .i64 r)∧Drawn0 w w':=by
 unfold strings_IndexByte.f at h;obtain rfl:=Option.some.inj h;refine (Tryz.strings_IndexByte a0 a1 w).mono ?_;rintro e w' ⟨rfl,rfl⟩;exact ⟨rfl,Drawn0.refl _⟩
mutual
def val_word.j0:Nat→ByteArray→List Int→Bool→Option (Int×Int×ByteArray×(Nat×Nat)×Int)
 | 0,_,_,_=>none
 |k+1,x0,x4,x14=>if x14=true then (some (0,0,(⟨#[]⟩:ByteArray),((0,0):Nat×Nat),2)) else (if (x0.size:Int) > 510 then (some (0,0,(⟨#[]⟩:ByteArray),((0,0):Nat×Nat),4)) else (val_word.l0 k x0 x4 0))
def val_word.l0:Nat→ByteArray→List Int→Int→Option (Int×Int×ByteArray×(Nat×Nat)×Int)
 | 0,_,_,_=>none
 |k+1,x0,x4,x5=>if x5 < (x0.size:Int) then (if 0≤x5 then ((strings_IndexByte.f (⟨#[48,49,50,51,52,53,54,55,56,57,97,98,99,100,101,102]⟩:ByteArray) (bt x0 x5)).bind fun t280=>(if 0≤(wrap64 (x5+1)) then (if (wrap64 (x5+1)) < (x0.size:Int) then ((strings_IndexByte.f (⟨#[48,49,50,51,52,53,54,55,56,57,97,98,99,100,101,102]⟩:ByteArray) (bt x0 (wrap64 (x5+1)))).bind fun t281=>(if x4.length < 140737488355328 then (val_word.l0 k x0 (x4++[(Go.bits .or .i64 (wrap64 (t280 * 16)) t281) % 256]) (wrap64 (x5+2))) else (none))) else (none)) else (none))) else (none)) else (some (2,0,strOfNums x4,((0,0):Nat×Nat),0))
end
def val_word.f (k:Nat) (a0:ByteArray):Option (Int×Int×ByteArray×(Nat×Nat)×Int):=if ((a0.size:Int) % 2)=1 then (val_word.j0 k a0 ([]:List Int) true) else ((strings_Trim.f a0 (⟨#[48,49,50,51,52,53,54,55,56,57,97,98,99,100,101,102]⟩:ByteArray)).bind fun t279=>(val_word.j0 k a0 ([]:List Int) (!t279.toList.isEmpty)))
def val_word.T9:Bool×List (List Nat×List Nat):=(true,[([],[]),([],[]),([],[]),([1,2],[1,2]),([3],[3]),([4],[4]),([],[]),([],[]),([7],[7]),([6,8],[6,8]),([9,4],[9]),([5,10],[5,10]),([11],[11]),([12],[12]),([0,13,10],[0,13]),([14,14,0,1,2,3,4,5,6,7,8,9,10,11,12,13,14],[0,14])])
def val_word.B9:List Nat:=[0,0,0,6,14,30,0,0,128,448,990,2046,4094,8190,16383,32767]
theorem val_word.tab9:rtab .any (opsOf Tryz.f114 9)=val_word.T9:=by kernel_rfl
theorem val_word.bits9:waitsOk val_word.T9.2 val_word.B9=true:=by kernel_rfl
set_option maxHeartbeats 8000000 in
set_option maxRecDepth 100000 in
theorem val_word.calls (k:Nat) (a0:ByteArray) (r1:Int) (r2:Int) (r3:ByteArray) (r4:(Nat×Nat)) (r5:Int) (w:World) (h:val_word.f k a0=some (r1,r2,r3,r4,r5)):
  Calls Tryz.prog 114 #[.string a0] w fun e w'=>e = .returned (.tuple #[.agg #[.int .i64 r1,.int .i64 r2,.string r3,.complex .f64 r4.1 r4.2],.int .i64 r5])∧Below w.heap.size w w':=by
 have hu25:=Tryz.underlying25;have HB:=Mk (Below.refl w.heap.size w);have H:(if ((a0.size:Int) % 2)=1 then (val_word.j0 k a0 ([]:List Int) true) else ((strings_Trim.f a0 (⟨#[48,49,50,51,52,53,54,55,56,57,97,98,99,100,101,102]⟩:ByteArray)).bind fun t279=>(val_word.j0 k a0 ([]:List Int) (!t279.toList.isEmpty))))=some (r1,r2,r3,r4,r5):=h;clear h;have HC2:=Mk H;clear H;go_enter Tryz.func114,Tryz.ntmps114
 go_upto_region 2 with (first|((with_reducible refine gate_dst (N:=2) rfl ?_);refine boxE 2 #[.int .i64 0,.int .i64 0,.string (⟨#[]⟩:ByteArray),.complex .f64 0 0] 25 ?_;intro gb278 hg w3 hbox hb;have BK278:=Mk (hbox);have GW278:=Mk ((gS:w.heap.size≤gb278));have GE278:=Mk ((gS:w.heap.size≤gb278));replace HB:=Mk (below_step bB hb);clear hb hbox hg))
 (try simp only [Act.put,List.setIfInBounds_toArray,List.set_cons_zero,List.set_cons_succ])
 go_cut [14] (fun v14 wc=>∃ (kq:Nat) (x14_1:Bool),v14 = .bool x14_1∧Aside0 (val_word.j0 kq a0 ([]:List Int) x14_1=some (r1,r2,r3,r4,r5))∧Aside0 (kq≤k)∧Aside0 (Kd.R (Kd.int .u8) 5 wc w.heap.size (fun _=>True) (.slice none 0 0) ([]:List Int))∧Aside0 (wc.heap[gb278]?=some (.cells #[.int .i64 0,.int .i64 0,.string (⟨#[]⟩:ByteArray),.complex .f64 0 0] 25 (0,0)))∧Aside0 (Below w.heap.size w wc))
 case first=>
  have H:=HC2.out;clear HC2;by_cases c4:((a0.size:Int) % 2)=1
  ·rw [if_pos c4] at H
   have c4b0:=beq_iff_eq.mpr c4;have c4b1:=bne_eq_false_iff_eq.mpr c4;clear c4;(first|rw [c4b0]|(simp only [i64_w,i32_w];rw [c4b0])|skip);have H':=Mk H;clear H
   go_wp2
   go_meet
   case rel=>exact ⟨_,(true),sS,H',⟨by first|omega|exact Nat.le_refl _⟩,⟨by first|exact Kd.R_nil _ _ _ _ _|exact Kd.N_nil _ _ _ _ _|exact Kd.V_nil _ _ _ _ _|exact Kd.Q_nil _ _ _ _ _|exact Kd.S_nil _ _ _ _ _⟩,⟨by (with_reducible repeat refine bU ?_);exact BK278.out⟩,⟨bB⟩⟩
  ·rw [if_neg c4] at H
   have c4b0:=beq_eq_false_iff_ne.mpr c4;have c4b1:=bne_iff_ne.mpr c4;(first|rw [c4b0]|(simp only [i64_w,i32_w];rw [c4b0])|skip);replace H:=Option.bind_eq_some_iff.mp H;obtain ⟨t279,A50,H⟩:=H;try dsimp only at H
   have A5:=Mk A50;clear A50;have H':=Mk H;clear H
   go_wp2_with (first|(go_at_call 68;(with_reducible refine (strings_Trim.calls a0 (⟨#[48,49,50,51,52,53,54,55,56,57,97,98,99,100,101,102]⟩:ByteArray) t279 _ A5.out).mono ?_);rintro e w6 ⟨rfl,hb⟩;replace BK278:=bkb BK278 hb;replace HB:=Mk (below_step bB hb);clear hb))
   go_meet
   case rel=>exact ⟨_,(!t279.toList.isEmpty),sS,H',⟨by first|omega|exact Nat.le_refl _⟩,⟨by first|exact Kd.R_nil _ _ _ _ _|exact Kd.N_nil _ _ _ _ _|exact Kd.V_nil _ _ _ _ _|exact Kd.Q_nil _ _ _ _ _|exact Kd.S_nil _ _ _ _ _⟩,⟨by (with_reducible repeat refine bU ?_);exact BK278.out⟩,⟨bB⟩⟩
 case rest=>
  clear HC2;try clear c1
  try clear p2
  try clear c4
  try clear c4b0
  try clear c4b1
  obtain ⟨kq,x14_1,rfl,HA,HJ1,HO_4,BK278,HB⟩:=hcut
  cases kq with
  |zero=>exact absurd HA.out (by simp [val_word.j0])
  |succ kj1=>
   have H:=HA.out;clear HA;simp only [val_word.j0] at H;by_cases c7:x14_1=true
   ·subst c7
    rw [if_pos rfl] at H;try dsimp only at H
    simp only [Option.some.injEq,Prod.mk.injEq] at H;obtain ⟨rfl,rfl,rfl,rfl,rfl⟩:=H;obtain ⟨_,_,_,_,_,_,_,_⟩:=z4 BK278
    go_wp2
    refine bodyPost_ret (results_ct rfl _ _ gb278 25 #[.int .i64 0,.int .i64 0,.string (⟨#[]⟩:ByteArray),.complex .f64 0 0] (0,0) _ rfl (bP BK278) Tryz.underlying25 rfl kR) rfl ?_;exact ⟨eW,bB⟩
   ·replace c7:=Bool.eq_false_iff.mpr c7
    subst c7;rw [if_neg (show ¬ (false=true) by decide)] at H;try dsimp only at H
    by_cases c9:(a0.size:Int) > 510
    ·rw [if_pos c9] at H
     have c9b0:=decide_eq_true c9;have c9b1:decide (510 < a0.size)=true:=decide_eq_true (by omega);clear c9;simp only [Option.some.injEq,Prod.mk.injEq] at H;obtain ⟨rfl,rfl,rfl,rfl,rfl⟩:=H;obtain ⟨_,_,_,_,_,_,_,_⟩:=z4 BK278
     go_wp2
     refine bodyPost_ret (results_ct rfl _ _ gb278 25 #[.int .i64 0,.int .i64 0,.string (⟨#[]⟩:ByteArray),.complex .f64 0 0] (0,0) _ rfl (bP BK278) Tryz.underlying25 rfl kR) rfl ?_;exact ⟨eW,bB⟩
    ·rw [if_neg c9] at H
     have c9b0:=decide_eq_false c9;have c9b1:decide (510 < a0.size)=false:=decide_eq_false (by omega);clear c9;have H':=Mk H;clear H
     go_wp2
     go_loopg [4,5] kj1 (fun kq v4 v5 w'=>∃ (x4_2:List Int) (x5_2:Int),v5 = .int .i64 x5_2∧Aside0 (val_word.l0 kq a0 x4_2 x5_2=some (r1,r2,r3,r4,r5))∧Aside0 (kq≤kj1)∧Aside0 (Kd.R (Kd.int .u8) 5 w' w.heap.size (fun _=>True) v4 x4_2)∧Aside0 (w'.heap[gb278]?=some (.cells #[.int .i64 0,.int .i64 0,.string (⟨#[]⟩:ByteArray),.complex .f64 0 0] 25 (0,0)))∧Aside0 (Below w.heap.size w w'))
     case atStart=>exact ⟨(([]:List Int)),(0),sS,H',⟨Nat.le_refl _⟩,⟨rU HO_4⟩,⟨by (with_reducible repeat refine bU ?_);exact BK278.out⟩,⟨bB⟩⟩
     case round=>
      clear H';try clear c1
      try clear p2
      try clear c4
      try clear c4b0
      try clear c4b1
      try clear c7
      try clear c9
      try clear c9b0
      try clear c9b1
      try clear p2
      obtain ⟨x4_2,x5_2,rfl,HA,HK2,HO_4,BK278,HB⟩:=hrel
      cases gk with
      |zero=>exact absurd HA.out (by simp [val_word.l0])
      |succ k2=>
       have H:=HA.out;clear HA;simp only [val_word.l0] at H;by_cases c11:x5_2 < (a0.size:Int)
       ·rw [if_pos c11] at H
        have c11b0:=decide_eq_true c11;clear c11;by_cases c12:0≤x5_2
        ·rw [if_pos c12] at H
         have c12b0:=decide_eq_true c12;clear c12;replace H:=Option.bind_eq_some_iff.mp H;obtain ⟨t280,A140,H⟩:=H;try dsimp only at H
         have A14:=Mk A140;clear A140;obtain ⟨ji15,hji15⟩:∃ j_:Int,(wrap64 (x5_2+1))=j_:=⟨_,rfl⟩;replace H:(if 0≤(ji15) then (if (ji15) < (a0.size:Int) then ((strings_IndexByte.f (⟨#[48,49,50,51,52,53,54,55,56,57,97,98,99,100,101,102]⟩:ByteArray) (bt a0 (ji15))).bind fun t281=>(if x4_2.length < 140737488355328 then (val_word.l0 k2 a0 (x4_2++[(Go.bits .or .i64 (wrap64 (t280 * 16)) t281) % 256]) (wrap64 (x5_2+2))) else (none))) else (none)) else (none))=some (r1,r2,r3,r4,r5):=by first|(rw [hji15] at H;exact H)|(simp only [hji15] at H ⊢;exact H)
         (try rw [hji15] at A14);have hji15w:(IntKind.i64.wrap (x5_2+1))=ji15:=(i64_w _).trans hji15;by_cases c16:0≤(ji15)
         ·rw [if_pos c16] at H
          have c16b0:=decide_eq_true c16;clear c16;by_cases c17:(ji15) < (a0.size:Int)
          ·rw [if_pos c17] at H
           have c17b0:=decide_eq_true c17;clear c17;replace H:=Option.bind_eq_some_iff.mp H;obtain ⟨t281,A190,H⟩:=H;try dsimp only at H
           have A19:=Mk A190;clear A190;by_cases c20:x4_2.length < 140737488355328
           ·rw [if_pos c20] at H
            have LMc20:=Mk c20;clear c20;obtain ⟨y282,hy282⟩:∃ y_:List Int,y_=(x4_2++[(Go.bits .or .i64 (wrap64 (t280 * 16)) t281) % 256]):=⟨_,rfl⟩;replace H:(val_word.l0 k2 a0 y282 (wrap64 (x5_2+2)))=some (r1,r2,r3,r4,r5):=by first|(rw [hy282];with_reducible exact H)|(have H2_:=(Option.bind_some _ _).symm.trans H;rw [hy282];with_reducible exact H2_)|(have H2_:=(Option.bind_some _ _).symm.trans H;with_reducible exact H2_)|with_reducible exact H|(rw [hy282];exact H)|exact H
            have Ny282:=Mk hy282;clear hy282;have H':=Mk H;clear H;try go_wp2
            replace HO_4:=Mk (Kd.R_drew HO_4.out);replace BK278:=Mk (blk_drew BK278.out);replace HB:=Mk (below_drew1 HB.out);have p13:0≤(x5_2:Int):=of_decide_eq_true aS;have q13:x5_2 < (a0.size:Int):=of_decide_eq_true aS;have hx13:=bt_at a0 x5_2;replace p13:=eq_true p13;replace q13:=eq_true q13;have p18:0≤((ji15):Int):=of_decide_eq_true aS;have q18:(ji15) < (a0.size:Int):=of_decide_eq_true aS;have hx18:=bt_at a0 (ji15);replace p18:=eq_true p18;replace q18:=eq_true q18;refine start_ (n:=16) (S:=fun w'=>True) (ds:=[]) #[b0,b0,b0,b0,b0,b0,b0,b0,b0,b0,b0,b0,b0,b0,b0,b0] kR rfl rfl trivial (fun hHeld=>?_);refine with_tabW val_word.tab9 val_word.bits9 (fun HT_ HW_=>?_)
            generalize wr.drew=w21 at HO_4 BK278 HB hHeld ⊢
            refine pure_ (i:=0) (N:=some 26) (v:=?_) (a':=?_) (fl 16 1) rfl rfl (aO HT_) fI (Or.inl ⟨by rfl,?_⟩) ?_ ?_;rotate_left
            ·intro w'
             go_simp
             with_reducible rfl
            rotate_left
            ·exact pA
            refine pure_ (i:=1) (N:=some 27) (v:=?_) (a':=?_) (fl 16 3) rfl rfl (aO HT_) fI (Or.inl ⟨by rfl,?_⟩) ?_ ?_;rotate_left
            ·intro w'
             go_simp
             with_reducible rfl
            rotate_left
            ·exact pA
            refine pure_ (i:=2) (N:=some 28) (v:=?_) (a':=?_) (fl 16 7) rfl rfl (aO HT_) fI (Or.inl ⟨by rfl,?_⟩) ?_ ?_;rotate_left
            ·intro w'
             go_simp
             with_reducible rfl
            rotate_left
            ·exact pA
            refine pure_ (i:=6) (N:=some 32) (v:=?_) (a':=?_) (fl 16 71) rfl rfl (aO HT_) fI (Or.inl ⟨by rfl,?_⟩) ?_ ?_;rotate_left
            ·intro w'
             go_simp
             with_reducible rfl
            rotate_left
            ·exact pA
            refine pure_ (i:=7) (N:=some 33) (v:=?_) (a':=?_) (fl 16 199) rfl rfl (aO HT_) fI (Or.inl ⟨by rfl,?_⟩) ?_ ?_;rotate_left
            ·intro w'
             go_simp
             with_reducible rfl
            rotate_left
            ·exact pA
            refine pure_ (i:=8) (N:=some 34) (v:=?_) (a':=?_) (fl 16 455) rfl rfl (aO HT_) fI (Or.inl ⟨by rfl,?_⟩) ?_ ?_;rotate_left
            ·intro w'
             go_simp
             with_reducible rfl
            rotate_left
            ·exact pA
            refine take_ (i:=3) (N:=some 29) (v:=?_) (a':=?_) (fl 16 463) rfl rfl (tO HT_ HW_) fI (Or.inl ⟨by rfl,?_⟩) hHeld ?_ ?_;rotate_left
            ·intro w' _
             go_simp
             with_reducible rfl
            rotate_left
            ·exact pA
            refine take_ (i:=9) (N:=some 35) (v:=?_) (a':=?_) (fl 16 975) rfl rfl (tO HT_ HW_) fI (Or.inl ⟨by rfl,?_⟩) hHeld ?_ ?_;rotate_left
            ·intro w' _
             go_simp
             with_reducible rfl
            rotate_left
            ·exact pA
            refine one_ (i:=4) (N:=some 30) (fl 16 991) rfl rfl (oO HT_) (by decide) (fun K hK=>?_);refine goes_ Tryz.func132 kR rfl #[.string (⟨#[48,49,50,51,52,53,54,55,56,57,97,98,99,100,101,102]⟩:ByteArray),.int .u8 (bt a0 x5_2)] (by rfl) rfl rfl mA ?_;with_reducible refine (strings_IndexByte.calls (⟨#[48,49,50,51,52,53,54,55,56,57,97,98,99,100,101,102]⟩:ByteArray) (bt a0 x5_2) t280 _ A14.out).mono ?_
            rintro e w' ⟨rfl,⟨nd,rfl⟩⟩;refine ⟨_,rfl,?_⟩;refine hK.out _ _ trivial (fun hHeld=>?_);clear hK K;refine norm_ (a':=?_) ?_ ?_;rotate_left
            ·show Act.put _ (some 30) _=_
             simp only [Act.put,List.setIfInBounds_toArray,List.set_cons_zero,List.set_cons_succ,i64_w,i32_w];rfl
            refine pure_ (i:=5) (N:=some 31) (v:=?_) (a':=?_) (fl 16 1023) rfl rfl (aO HT_) fI (Or.inl ⟨by rfl,?_⟩) ?_ ?_;rotate_left
            ·intro w'
             go_simp
             with_reducible rfl
            rotate_left
            ·exact pA
            refine one_ (i:=10) (N:=some 36) (fl 16 2047) rfl rfl (oO HT_) (by decide) (fun K hK=>?_);refine goes_ Tryz.func132 kR rfl #[.string (⟨#[48,49,50,51,52,53,54,55,56,57,97,98,99,100,101,102]⟩:ByteArray),.int .u8 (bt a0 (ji15))] (by rfl) rfl rfl (by (try simp only [List.map_toArray,List.map_cons,List.map_nil]);first|done|(simp only [hji15];rfl)|rfl|(simp only [List.length_drop,List.length_take];rfl)) ?_;with_reducible refine (strings_IndexByte.calls (⟨#[48,49,50,51,52,53,54,55,56,57,97,98,99,100,101,102]⟩:ByteArray) (bt a0 (ji15)) t281 _ A19.out).mono ?_
            rintro e w' ⟨rfl,⟨nd,rfl⟩⟩;refine ⟨_,rfl,?_⟩;refine hK.out _ _ trivial (fun hHeld=>?_);clear hK K;refine norm_ (a':=?_) ?_ ?_;rotate_left
            ·show Act.put _ (some 36) _=_
             simp only [Act.put,List.setIfInBounds_toArray,List.set_cons_zero,List.set_cons_succ,i64_w,i32_w];rfl
            refine pure_ (i:=11) (N:=some 37) (v:=?_) (a':=?_) (fl 16 4095) rfl rfl (aO HT_) fI (Or.inl ⟨by rfl,?_⟩) ?_ ?_;rotate_left
            ·intro w'
             go_simp
             with_reducible rfl
            rotate_left
            ·exact pA
            refine pure_ (i:=12) (N:=some 38) (v:=?_) (a':=?_) (fl 16 8191) rfl rfl (aO HT_) fI (Or.inl ⟨by rfl,?_⟩) ?_ ?_;rotate_left
            ·intro w'
             go_simp
             with_reducible rfl
            rotate_left
            ·exact pA
            refine one_ (i:=13) (N:=some 39) (fl 16 16383) rfl rfl (oO HT_) (by decide) (fun K hK=>?_);refine value_ (w1:=?_) (v:=?_) (by rfl) rfl ?_ ?_;rotate_left 2
            ·go_simp
             constructor
             ·rfl
             ·rfl
            refine hK.out _ _ trivial (fun hHeld=>?_);clear hK K;refine norm_ (a':=?_) ?_ ?_;rotate_left
            ·show Act.put _ (some 39) _=_
             simp only [Act.put,List.setIfInBounds_toArray,List.set_cons_zero,List.set_cons_succ,i64_w,i32_w];rfl
            refine one_ (i:=14) (N:=some 40) (fl 16 32767) rfl rfl (oO HT_) (by decide) (fun K hK=>?_);refine Kd.R_append_step (Kd.int .u8) (w0:=w) w.heap.size (by rfl) (.tmp 26) (.tmp 39) 74 5 (.int .u8 0) 1 rfl Tryz.underlying74 info5 rfl (by decide) (by omega) u4 x4_2 ((Go.bits .or .i64 (wrap64 (t280 * 16)) t281) % 256) [.int .u8 ((Go.bits .or .i64 (wrap64 (t280 * 16)) t281) % 256)] (fun _=>True) (fun _=>False) rfl rfl ?aP (fun _ hk=>hk.elim) ?aF ?aO ?aB ?aS ?aL ?_;(case aP=>exact rfl);(case aB=>exact bB);(case aF=>exact (fun _ _=>trivial));(case aO=>exact (rU HO_4));(case aS=>exact (below_size bB));(case aL=>have:=LMc20.out;omega);intro v283 w22 ho hb hg hat;rw [← Ny282.out] at ho;have n0_:=Mk (blk_grown (g:=gb278) (o:=.cells #[.int .i64 0,.int .i64 0,.string (⟨#[]⟩:ByteArray),.complex .f64 0 0] 25 (0,0)) (bK BK278) hg (Kd.R_ne HO_4.out BK278.out (by decide)));have n1_:=Mk (hb);have n2_:=Mk (ho);clear BK278;clear HB;clear HO_4;have BK278:=n0_;have HB:=n1_;have HO284:=n2_;clear n0_ n1_ n2_;clear ho hb hg hat;refine hK.out _ _ trivial (fun hHeld=>?_);clear hK K;refine norm_ (a':=?_) ?_ ?_;rotate_left
            ·show Act.put _ (some 40) _=_
             simp only [Act.put,List.setIfInBounds_toArray,List.set_cons_zero,List.set_cons_succ,i64_w,i32_w];rfl
            refine pure_ (i:=15) (N:=some 4) (v:=?_) (a':=?_) (fl 16 65535) rfl rfl (aO HT_) fI (Or.inl ⟨by rfl,?_⟩) ?_ ?_;rotate_left
            ·intro w'
             go_simp
             with_reducible rfl
            rotate_left
            ·exact pA
            refine done_ (done_of HT_.out kR) ?_;try go_wp2
            first|go_roundg k2|(simp only [← hji15] at H' ⊢;go_roundg k2)
            case measure=>have:=HJ1.out;have:=HK2.out;omega
            case rel=>exact ⟨(y282),(wrap64 (x5_2+2)),sS,H',⟨by have:=HJ1.out;have:=HK2.out;omega⟩,⟨rU HO284⟩,⟨by (with_reducible repeat refine bU ?_);exact BK278.out⟩,⟨bB⟩⟩
           ·rw [if_neg c20] at H
            exact absurd H (by simp)
          ·rw [if_neg c17] at H
           exact absurd H (by simp)
         ·rw [if_neg c16] at H
          exact absurd H (by simp)
        ·rw [if_neg c12] at H
         exact absurd H (by simp)
       ·rw [if_neg c11] at H
        have c11b0:=decide_eq_false c11;clear c11;simp only [Option.some.injEq,Prod.mk.injEq] at H;obtain ⟨rfl,rfl,rfl,rfl,rfl⟩:=H;have hcv23:=own_string (P:=Tryz.prog) Tryz.underlying74 Tryz.underlying5 Tryz.underlying9 (Kd.own_of_R HO_4.out);have hcv23d:=fun m_=>own_string (P:=Tryz.prog) Tryz.underlying74 Tryz.underlying5 Tryz.underlying9 (Kd.own_of_R (Kd.R_drewN HO_4.out m_))
        obtain ⟨_,_,_,_,_,_,_,_⟩:=z4 BK278
        go_wp2
        refine bodyPost_ret (results_ct rfl _ _ gb278 25 #[.int .i64 2,.int .i64 0,.string (strOfNums x4_2),.complex .f64 0 0] (0,0) _ rfl (bP BK278) Tryz.underlying25 rfl kR) rfl ?_;exact ⟨eW,bB⟩
def strings_HasSuffix.f (a0:ByteArray) (a1:ByteArray):Option (Bool):=(stringslite_HasSuffix.f a0 a1).bind fun t285=>(some t285)
set_option maxHeartbeats 8000000 in
set_option maxRecDepth 100000 in
theorem strings_HasSuffix.calls (a0:ByteArray) (a1:ByteArray) (r:Bool) (w:World) (h:strings_HasSuffix.f a0 a1=some r):
  Calls Tryz.prog 115 #[.string a0,.string a1] w fun e w'=>e = .returned (.bool r)∧Drawn0 w w':=by
 have H:((stringslite_HasSuffix.f a0 a1).bind fun t285=>(some t285))=some r:=h;clear h;replace H:=Option.bind_eq_some_iff.mp H;obtain ⟨t285,A30,H⟩:=H;try dsimp only at H
 have A3:=Mk A30;clear A30;obtain rfl:=Option.some.inj H;go_enter Tryz.func115,Tryz.ntmps115
 go_wp2_with (first|(go_at_call 139;(with_reducible refine (stringslite_HasSuffix.calls a0 a1 t285 _ A3.out).mono ?_);rintro e w' ⟨rfl,⟨nd,rfl⟩⟩))
 go_ret
 exact ⟨by first|rfl|(simp;done)|(simp [*];done),by repeat (first|exact Drawn0.refl _|apply Drawn0.step)⟩
end Go.Proofs.YtcpjlbdjnaaaiaaGreatDoor.PAll
