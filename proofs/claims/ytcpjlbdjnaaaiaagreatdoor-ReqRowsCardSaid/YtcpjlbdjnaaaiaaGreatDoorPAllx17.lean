import Derived.Test.YtcpjlbdjnaaaiaaGreatDoorPAllx16
namespace Go.Proofs.YtcpjlbdjnaaaiaaGreatDoor.PAll
open Go.Proofs.YtcpjlbdjnaaaiaaGreatDoor.Help
open Go.RowKit Go.Proofs.YtcpjlbdjnaaaiaaGreatDoorW.PrintWords Go.Proofs.YtcpjlbdjnaaaiaaGreatDoorW.PrintLast Go.Proofs.YtcpjlbdjnaaaiaaGreatDoorW.PrintMore
set_option linter.unusedVariables false
set_option linter.unusedSimpArgs false
def val_Parse.j0:Nat→ByteArray→Bool→Option (Int×Int×ByteArray×(Nat×Nat)×Int)
 | 0,_,_=>none
 |k+1,x0,x51=>if x51=true then (some (0,0,(⟨#[]⟩:ByteArray),((0,0):Nat×Nat),2)) else ((strconv_ParseInt.f x0 10 64).bind fun bt298=>(if bt298.2.isNone=true then (some (1,bt298.1,(⟨#[]⟩:ByteArray),((0,0):Nat×Nat),0)) else (some (0,0,(⟨#[]⟩:ByteArray),((0,0):Nat×Nat),1))))
def val_Parse.f (k:Nat) (a0:ByteArray):Option (Int×Int×ByteArray×(Nat×Nat)×Int):=if a0.toList=([45]:List UInt8) then (some (0,0,(⟨#[]⟩:ByteArray),((0,0):Nat×Nat),0)) else ((strings_HasPrefix.f a0 (⟨#[34]⟩:ByteArray)).bind fun t287=>(if t287=true then (if 1≤(a0.size:Int) then ((val_word.f k (a0.extract 1 a0.size)).bind fun bt288=>(some (bt288.1,bt288.2.1,bt288.2.2.1,bt288.2.2.2.1,bt288.2.2.2.2))) else (none)) else ((strings_HasSuffix.f a0 (⟨#[105]⟩:ByteArray)).bind fun t293=>(if t293=true then ((point_Parse.f k a0).bind fun bt294=>(if bt294.2=0 then (some (3,0,(⟨#[]⟩:ByteArray),bt294.1,0)) else (some (0,0,(⟨#[]⟩:ByteArray),((0,0):Nat×Nat),bt294.2)))) else ((strings_TrimPrefix.f a0 (⟨#[45]⟩:ByteArray)).bind fun t296=>(if t296.toList=([]:List UInt8) then (val_Parse.j0 k a0 true) else ((strings_Trim.f t296 (⟨#[48,49,50,51,52,53,54,55,56,57]⟩:ByteArray)).bind fun t297=>(if t297.toList=([]:List UInt8) then (if (t296.size:Int) > 1 then (if 0 < (t296.size:Int) then (if (bt t296 0)=48 then (val_Parse.j0 k a0 true) else (val_Parse.j0 k a0 (a0.toList == ([45,48]:List UInt8)))) else (none)) else (val_Parse.j0 k a0 (a0.toList == ([45,48]:List UInt8)))) else (val_Parse.j0 k a0 true)))))))))
set_option maxHeartbeats 8000000 in
set_option maxRecDepth 100000 in
theorem val_Parse.calls (k:Nat) (a0:ByteArray) (r1:Int) (r2:Int) (r3:ByteArray) (r4:(Nat×Nat)) (r5:Int) (w:World) (h:val_Parse.f k a0=some (r1,r2,r3,r4,r5)) (hG_:Glob w):
  Calls Tryz.prog 85 #[.string a0] w fun e w'=>e = .returned (.tuple #[.agg #[.int .i64 r1,.int .i64 r2,.string r3,.complex .f64 r4.1 r4.2],.int .i64 r5])∧Below w.heap.size w w':=by
 have HG_:=Mk hG_;clear hG_;have hu25:=Tryz.underlying25;have hu101:=Tryz.underlying101;have HB:=Mk (Below.refl w.heap.size w);have H:(if a0.toList=([45]:List UInt8) then (some (0,0,(⟨#[]⟩:ByteArray),((0,0):Nat×Nat),0)) else ((strings_HasPrefix.f a0 (⟨#[34]⟩:ByteArray)).bind fun t287=>(if t287=true then (if 1≤(a0.size:Int) then ((val_word.f k (a0.extract 1 a0.size)).bind fun bt288=>(some (bt288.1,bt288.2.1,bt288.2.2.1,bt288.2.2.2.1,bt288.2.2.2.2))) else (none)) else ((strings_HasSuffix.f a0 (⟨#[105]⟩:ByteArray)).bind fun t293=>(if t293=true then ((point_Parse.f k a0).bind fun bt294=>(if bt294.2=0 then (some (3,0,(⟨#[]⟩:ByteArray),bt294.1,0)) else (some (0,0,(⟨#[]⟩:ByteArray),((0,0):Nat×Nat),bt294.2)))) else ((strings_TrimPrefix.f a0 (⟨#[45]⟩:ByteArray)).bind fun t296=>(if t296.toList=([]:List UInt8) then (val_Parse.j0 k a0 true) else ((strings_Trim.f t296 (⟨#[48,49,50,51,52,53,54,55,56,57]⟩:ByteArray)).bind fun t297=>(if t297.toList=([]:List UInt8) then (if (t296.size:Int) > 1 then (if 0 < (t296.size:Int) then (if (bt t296 0)=48 then (val_Parse.j0 k a0 true) else (val_Parse.j0 k a0 (a0.toList == ([45,48]:List UInt8)))) else (none)) else (val_Parse.j0 k a0 (a0.toList == ([45,48]:List UInt8)))) else (val_Parse.j0 k a0 true))))))))))=some (r1,r2,r3,r4,r5):=h;clear h;by_cases c2:a0.toList=([45]:List UInt8)
 ·rw [if_pos c2] at H
  have c2b0:=beq_iff_eq.mpr c2;have c2b1:=bne_eq_false_iff_eq.mpr c2;clear c2;simp only [Option.some.injEq,Prod.mk.injEq] at H;obtain ⟨rfl,rfl,rfl,rfl,rfl⟩:=H;go_enter Tryz.func85,Tryz.ntmps85
  go_wp2_with (first|((with_reducible refine gate_dst (N:=2) rfl ?_);(try (refine gate_guard (by rfl) ?_;dsimp only));refine boxE 2 #[.int .i64 0,.int .i64 0,.string (⟨#[]⟩:ByteArray),.complex .f64 0 0] 25 ?_;intro gb286 hg w3 hbox hb;have BK286:=Mk (hbox);have GW286:=Mk ((gS:w.heap.size≤gb286));have GE286:=Mk ((gS:w.heap.size≤gb286));replace HB:=Mk (below_step bB hb);clear hb hbox hg))
  refine wp_scope_labs ?_;intro G_ hG_;obtain ⟨_,_,_,_,_,_,_,_⟩:=z4 BK286
  go_wp2
  try rw [labs_ret]
  refine bodyPost_ret (results_ct rfl _ _ gb286 25 #[.int .i64 0,.int .i64 0,.string (⟨#[]⟩:ByteArray),.complex .f64 0 0] (0,0) _ rfl (bP BK286) Tryz.underlying25 rfl kR) rfl ?_;exact ⟨eW,bB⟩
 ·rw [if_neg c2] at H
  have c2b0:=beq_eq_false_iff_ne.mpr c2;have c2b1:=bne_iff_ne.mpr c2;replace H:=Option.bind_eq_some_iff.mp H;obtain ⟨t287,A50,H⟩:=H;try dsimp only at H
  have A5:=Mk A50;clear A50;by_cases c6:t287=true
  ·subst c6
   rw [if_pos rfl] at H;try dsimp only at H
   by_cases c7:1≤(a0.size:Int)
   ·rw [if_pos c7] at H
    have c7b0:=eq_true c7;have c7b1:=decide_eq_true c7;clear c7;replace H:=Option.bind_eq_some_iff.mp H;obtain ⟨⟨t288,t289,t290,t291,t292⟩,A80,H⟩:=H;try dsimp only at H
    have A8:=Mk A80;clear A80;simp only [Option.some.injEq,Prod.mk.injEq] at H;obtain ⟨rfl,rfl,rfl,rfl,rfl⟩:=H;go_enter Tryz.func85,Tryz.ntmps85
    go_wp2_with (first|((with_reducible refine gate_dst (N:=2) rfl ?_);(try (refine gate_guard (by rfl) ?_;dsimp only));refine boxE 2 #[.int .i64 0,.int .i64 0,.string (⟨#[]⟩:ByteArray),.complex .f64 0 0] 25 ?_;intro gb286 hg w9 hbox hb;have BK286:=Mk (hbox);have GW286:=Mk ((gS:w.heap.size≤gb286));have GE286:=Mk ((gS:w.heap.size≤gb286));replace HB:=Mk (below_step bB hb);clear hb hbox hg))
    refine wp_scope_labs ?_;intro G_ hG_
    go_wp2_with (first|(go_at_call 70;(with_reducible refine (strings_HasPrefix.calls a0 (⟨#[34]⟩:ByteArray) true _ A5.out).mono ?_);rintro e w' ⟨rfl,⟨nd,rfl⟩⟩;(try (rw [drewN_self w9];generalize hq_:World.drewN w9 _=w9;have n0_:Aside0 (w9.heap[gb286]?=some (.cells #[.int .i64 0,.int .i64 0,.string (⟨#[]⟩:ByteArray),.complex .f64 0 0] 25 (0,0))):=⟨by rw [← hq_];exact (bK BK286)⟩;have n1_:Aside0 (Below w.heap.size w w9):=⟨by rw [← hq_];exact bB⟩;clear BK286 HB hq_;have BK286:=n0_;have HB:=n1_;clear n0_ n1_)))|((with_reducible refine gate_callee (f:=114) rfl ?_);refine goesL_ (some 14) rfl rfl Tryz.func114 kR rfl #[.string (a0.extract 1 a0.size)] rfl mA ?_;(with_reducible refine (val_word.calls k (a0.extract 1 a0.size) t288 t289 t290 t291 t292 _ A8.out).mono ?_);rintro e w10 ⟨rfl,hb⟩;refine ⟨_,rfl,?_⟩;replace BK286:=bkb BK286 hb;replace HB:=Mk (below_step bB hb);clear hb;obtain ⟨_,_,_,_,_,_,_,_⟩:=z4 BK286))
    try rw [labs_ret]
    refine bodyPost_ret (results_ct rfl _ _ gb286 25 #[.int .i64 t288,.int .i64 t289,.string t290,.complex .f64 t291.1 t291.2] (0,0) _ rfl (bP BK286) Tryz.underlying25 rfl kR) rfl ?_;exact ⟨eW,bB⟩
   ·rw [if_neg c7] at H
    exact absurd H (by simp)
  ·replace c6:=Bool.eq_false_iff.mpr c6
   subst c6;rw [if_neg (show ¬ (false=true) by decide)] at H;try dsimp only at H
   replace H:=Option.bind_eq_some_iff.mp H;obtain ⟨t293,A120,H⟩:=H;try dsimp only at H
   have A12:=Mk A120;clear A120;by_cases c13:t293=true
   ·subst c13
    rw [if_pos rfl] at H;try dsimp only at H
    replace H:=Option.bind_eq_some_iff.mp H;obtain ⟨⟨t294,t295⟩,A140,H⟩:=H;try dsimp only at H
    have A14:=Mk A140;clear A140;by_cases c15:t295=0
    ·rw [if_pos c15] at H
     have c15b0:=beq_iff_eq.mpr c15;have c15b1:=bne_eq_false_iff_eq.mpr c15;clear c15;simp only [Option.some.injEq,Prod.mk.injEq] at H;obtain ⟨rfl,rfl,rfl,rfl,rfl⟩:=H;go_enter Tryz.func85,Tryz.ntmps85
     go_wp2_with (first|((with_reducible refine gate_dst (N:=2) rfl ?_);(try (refine gate_guard (by rfl) ?_;dsimp only));refine boxE 2 #[.int .i64 0,.int .i64 0,.string (⟨#[]⟩:ByteArray),.complex .f64 0 0] 25 ?_;intro gb286 hg w16 hbox hb;have BK286:=Mk (hbox);have GW286:=Mk ((gS:w.heap.size≤gb286));have GE286:=Mk ((gS:w.heap.size≤gb286));replace HB:=Mk (below_step bB hb);clear hb hbox hg))
     refine wp_scope_labs ?_;intro G_ hG_
     go_wp2_with (first|(go_at_call 70;(with_reducible refine (strings_HasPrefix.calls a0 (⟨#[34]⟩:ByteArray) false _ A5.out).mono ?_);rintro e w' ⟨rfl,⟨nd,rfl⟩⟩;(try (rw [drewN_self w16];generalize hq_:World.drewN w16 _=w16;have n0_:Aside0 (w16.heap[gb286]?=some (.cells #[.int .i64 0,.int .i64 0,.string (⟨#[]⟩:ByteArray),.complex .f64 0 0] 25 (0,0))):=⟨by rw [← hq_];exact (bK BK286)⟩;have n1_:Aside0 (Below w.heap.size w w16):=⟨by rw [← hq_];exact bB⟩;clear BK286 HB hq_;have BK286:=n0_;have HB:=n1_;clear n0_ n1_)))|(go_at_call 115;(with_reducible refine (strings_HasSuffix.calls a0 (⟨#[105]⟩:ByteArray) true _ A12.out).mono ?_);rintro e w' ⟨rfl,⟨nd,rfl⟩⟩;(try (rw [drewN_self w16];generalize hq_:World.drewN w16 _=w16;have n0_:Aside0 (w16.heap[gb286]?=some (.cells #[.int .i64 0,.int .i64 0,.string (⟨#[]⟩:ByteArray),.complex .f64 0 0] 25 (0,0))):=⟨by rw [← hq_];exact (bK BK286)⟩;have n1_:Aside0 (Below w.heap.size w w16):=⟨by rw [← hq_];exact bB⟩;clear BK286 HB hq_;have BK286:=n0_;have HB:=n1_;clear n0_ n1_));obtain ⟨_,_,_,_,_,_,_,_⟩:=z4 BK286)|((with_reducible refine gate_callee (f:=82) rfl ?_);refine goesL_ (some 22) rfl rfl Tryz.func82 kR rfl #[.string a0] rfl mA ?_;(with_reducible refine (point_Parse.calls k a0 t294 t295 _ A14.out (Glob.below HG_.out bB)).mono ?_);rintro e w18 ⟨rfl,hb⟩;refine ⟨_,rfl,?_⟩;replace BK286:=Mk (blk_below (g:=gb286) (o:=.cells #[.int .i64 3,.int .i64 0,.string (⟨#[]⟩:ByteArray),.complex .f64 0 0] 25 (0,0)) (bP BK286) hb);replace HB:=Mk (below_step bB hb);clear hb;obtain ⟨_,_,_,_,_,_,_,_⟩:=z4 BK286))
     try rw [labs_ret]
     refine bodyPost_ret (results_ct rfl _ _ gb286 25 #[.int .i64 3,.int .i64 0,.string (⟨#[]⟩:ByteArray),.complex .f64 t294.1 t294.2] (0,0) _ rfl (bP BK286) Tryz.underlying25 rfl kR) rfl ?_;exact ⟨eW,bB⟩
    ·rw [if_neg c15] at H
     have c15b0:=beq_eq_false_iff_ne.mpr c15;have c15b1:=bne_iff_ne.mpr c15;simp only [Option.some.injEq,Prod.mk.injEq] at H;obtain ⟨rfl,rfl,rfl,rfl,rfl⟩:=H;go_enter Tryz.func85,Tryz.ntmps85
     go_wp2_with (first|((with_reducible refine gate_dst (N:=2) rfl ?_);(try (refine gate_guard (by rfl) ?_;dsimp only));refine boxE 2 #[.int .i64 0,.int .i64 0,.string (⟨#[]⟩:ByteArray),.complex .f64 0 0] 25 ?_;intro gb286 hg w20 hbox hb;have BK286:=Mk (hbox);have GW286:=Mk ((gS:w.heap.size≤gb286));have GE286:=Mk ((gS:w.heap.size≤gb286));replace HB:=Mk (below_step bB hb);clear hb hbox hg))
     refine wp_scope_labs ?_;intro G_ hG_
     go_wp2_with (first|(go_at_call 70;(with_reducible refine (strings_HasPrefix.calls a0 (⟨#[34]⟩:ByteArray) false _ A5.out).mono ?_);rintro e w' ⟨rfl,⟨nd,rfl⟩⟩;(try (rw [drewN_self w20];generalize hq_:World.drewN w20 _=w20;have n0_:Aside0 (w20.heap[gb286]?=some (.cells #[.int .i64 0,.int .i64 0,.string (⟨#[]⟩:ByteArray),.complex .f64 0 0] 25 (0,0))):=⟨by rw [← hq_];exact (bK BK286)⟩;have n1_:Aside0 (Below w.heap.size w w20):=⟨by rw [← hq_];exact bB⟩;clear BK286 HB hq_;have BK286:=n0_;have HB:=n1_;clear n0_ n1_)))|(go_at_call 115;(with_reducible refine (strings_HasSuffix.calls a0 (⟨#[105]⟩:ByteArray) true _ A12.out).mono ?_);rintro e w' ⟨rfl,⟨nd,rfl⟩⟩;(try (rw [drewN_self w20];generalize hq_:World.drewN w20 _=w20;have n0_:Aside0 (w20.heap[gb286]?=some (.cells #[.int .i64 0,.int .i64 0,.string (⟨#[]⟩:ByteArray),.complex .f64 0 0] 25 (0,0))):=⟨by rw [← hq_];exact (bK BK286)⟩;have n1_:Aside0 (Below w.heap.size w w20):=⟨by rw [← hq_];exact bB⟩;clear BK286 HB hq_;have BK286:=n0_;have HB:=n1_;clear n0_ n1_));obtain ⟨_,_,_,_,_,_,_,_⟩:=z4 BK286)|((with_reducible refine gate_callee (f:=82) rfl ?_);refine goesL_ (some 22) rfl rfl Tryz.func82 kR rfl #[.string a0] rfl mA ?_;(with_reducible refine (point_Parse.calls k a0 t294 t295 _ A14.out (Glob.below HG_.out bB)).mono ?_);rintro e w22 ⟨rfl,hb⟩;refine ⟨_,rfl,?_⟩;replace BK286:=Mk (blk_below (g:=gb286) (o:=.cells #[.int .i64 3,.int .i64 0,.string (⟨#[]⟩:ByteArray),.complex .f64 0 0] 25 (0,0)) (bP BK286) hb);replace HB:=Mk (below_step bB hb);clear hb;obtain ⟨_,_,_,_,_,_,_,_⟩:=z4 BK286))
     have n0_:Aside0 ((w22.setCell ⟨gb286,3,none⟩ (.complex .f64 t294.1 t294.2)).heap[gb286]?=some (.cells #[.int .i64 3,.int .i64 0,.string (⟨#[]⟩:ByteArray),.complex .f64 t294.1 t294.2] 25 (0,0))):=⟨by (with_reducible repeat refine bU ?_);refine blk_put (cs:=#[.int .i64 3,.int .i64 0,.string (⟨#[]⟩:ByteArray),.complex .f64 0 0]) ?_ 3 _ rfl;(with_reducible repeat refine bU ?_);exact BK286.out⟩;have n1_:Aside0 (Below w.heap.size w (w22.setCell ⟨gb286,3,none⟩ (.complex .f64 t294.1 t294.2))):=⟨bB⟩;(try clear BK286);(try clear HB)
     generalize (w22.setCell ⟨gb286,3,none⟩ (.complex .f64 t294.1 t294.2))=w24 at n0_ n1_ ⊢
     have BK286:=n0_;have HB:=n1_;clear n0_ n1_
     go_step3
     refine hG_ 0 _ _ _ (by rfl) ?_;obtain ⟨_,_,_,_,_,_,_,_⟩:=z4 BK286
     go_wp2
     try rw [labs_ret]
     refine bodyPost_ret (results_ct rfl _ _ gb286 25 #[.int .i64 0,.int .i64 0,.string (⟨#[]⟩:ByteArray),.complex .f64 0 0] (0,0) _ rfl (bP BK286) Tryz.underlying25 rfl kR) rfl ?_;exact ⟨eW,bB⟩
   ·replace c13:=Bool.eq_false_iff.mpr c13
    subst c13;rw [if_neg (show ¬ (false=true) by decide)] at H;try dsimp only at H
    replace H:=Option.bind_eq_some_iff.mp H;obtain ⟨t296,A260,H⟩:=H;try dsimp only at H
    have A26:=Mk A260;clear A260;have HC27:=Mk H;clear H;go_enter Tryz.func85,Tryz.ntmps85
    try go_wp2_with (first|((with_reducible refine gate_dst (N:=2) rfl ?_);(try (refine gate_guard (by rfl) ?_;dsimp only));refine boxE 2 #[.int .i64 0,.int .i64 0,.string (⟨#[]⟩:ByteArray),.complex .f64 0 0] 25 ?_;intro gb286 hg w28 hbox hb;have BK286:=Mk (hbox);have GW286:=Mk ((gS:w.heap.size≤gb286));have GE286:=Mk ((gS:w.heap.size≤gb286));replace HB:=Mk (below_step bB hb);clear hb hbox hg))
    refine wp_scope_labs ?_;intro G_ hG_
    go_upto_region 14 with (first|(go_at_call 70;(with_reducible refine (strings_HasPrefix.calls a0 (⟨#[34]⟩:ByteArray) false _ A5.out).mono ?_);rintro e w' ⟨rfl,⟨nd,rfl⟩⟩)|(go_at_call 115;(with_reducible refine (strings_HasSuffix.calls a0 (⟨#[105]⟩:ByteArray) false _ A12.out).mono ?_);rintro e w' ⟨rfl,⟨nd,rfl⟩⟩)|(go_at_call 109;(with_reducible refine (strings_TrimPrefix.calls a0 (⟨#[45]⟩:ByteArray) t296 _ A26.out).mono ?_);rintro e w' ⟨rfl,⟨nd,rfl⟩⟩))
    (try simp only [Act.put,List.setIfInBounds_toArray,List.set_cons_zero,List.set_cons_succ])
    go_cut [51] (fun v51 wc=>∃ (kq:Nat) (x51_26:Bool),v51 = .bool x51_26∧Aside0 (val_Parse.j0 kq a0 x51_26=some (r1,r2,r3,r4,r5))∧Aside0 (kq≤k)∧Aside0 (wc.heap[gb286]?=some (.cells #[.int .i64 0,.int .i64 0,.string (⟨#[]⟩:ByteArray),.complex .f64 0 0] 25 (0,0)))∧Aside0 (Below w.heap.size w wc))
    case first=>
     have H:=HC27.out;clear HC27;by_cases c29:t296.toList=([]:List UInt8)
     ·rw [if_pos c29] at H
      have c29b0:=beq_iff_eq.mpr c29;have c29b1:=bne_eq_false_iff_eq.mpr c29;clear c29;(first|rw [c29b0]|(simp only [i64_w,i32_w];rw [c29b0])|skip);have H':=Mk H;clear H
      go_wp2
      go_meet
      case rel=>exact ⟨_,(true),sS,H',⟨by first|omega|exact Nat.le_refl _⟩,⟨by (with_reducible repeat refine bU ?_);exact BK286.out⟩,⟨bB⟩⟩
     ·rw [if_neg c29] at H
      have c29b0:=beq_eq_false_iff_ne.mpr c29;have c29b1:=bne_iff_ne.mpr c29;(first|rw [c29b0]|(simp only [i64_w,i32_w];rw [c29b0])|skip);replace H:=Option.bind_eq_some_iff.mp H;obtain ⟨t297,A300,H⟩:=H;try dsimp only at H
      have A30:=Mk A300;clear A300;by_cases c31:t297.toList=([]:List UInt8)
      ·rw [if_pos c31] at H
       have c31b0:=beq_iff_eq.mpr c31;have c31b1:=bne_eq_false_iff_eq.mpr c31;clear c31;by_cases c32:(t296.size:Int) > 1
       ·rw [if_pos c32] at H
        have c32b0:=decide_eq_true c32;have c32b1:decide (1 < t296.size)=true:=decide_eq_true (by omega);clear c32;by_cases c33:0 < (t296.size:Int)
        ·rw [if_pos c33] at H
         have c33b0:=decide_eq_true c33;have c33b1:decide (0 < t296.size)=true:=decide_eq_true (by omega);clear c33;by_cases c35:(bt t296 0)=48
         ·rw [if_pos c35] at H
          have c35b0:=beq_iff_eq.mpr c35;have c35b1:=bne_eq_false_iff_eq.mpr c35;clear c35;have H':=Mk H;clear H
          go_wp2_with (first|(go_at_call 68;(with_reducible refine (strings_Trim.calls t296 (⟨#[48,49,50,51,52,53,54,55,56,57]⟩:ByteArray) t297 _ A30.out).mono ?_);rintro e w36 ⟨rfl,hb⟩;replace BK286:=bkb BK286 hb;replace HB:=Mk (below_step bB hb);clear hb;have p34:0≤(0:Int):=(by omega);have q34:0 < t296.size:=(by have:(0:Int) < (t296.size:Int):=of_decide_eq_true aS;omega);have hx34:∀ h:0 < t296.size,((t296[0]'h).toNat:Int)=bt t296 0:=bt_at t296 0;clear p34;have qi34:(0 < (t296.size:Int))=True:=eq_true (of_decide_eq_true aS);replace q34:=eq_true q34))
          go_meet
          case rel=>exact ⟨_,(true),sS,H',⟨by first|omega|exact Nat.le_refl _⟩,⟨by (with_reducible repeat refine bU ?_);exact BK286.out⟩,⟨bB⟩⟩
         ·rw [if_neg c35] at H
          have c35b0:=beq_eq_false_iff_ne.mpr c35;have c35b1:=bne_iff_ne.mpr c35;have H':=Mk H;clear H
          go_wp2_with (first|(go_at_call 68;(with_reducible refine (strings_Trim.calls t296 (⟨#[48,49,50,51,52,53,54,55,56,57]⟩:ByteArray) t297 _ A30.out).mono ?_);rintro e w37 ⟨rfl,hb⟩;replace BK286:=bkb BK286 hb;replace HB:=Mk (below_step bB hb);clear hb;have p34:0≤(0:Int):=(by omega);have q34:0 < t296.size:=(by have:(0:Int) < (t296.size:Int):=of_decide_eq_true aS;omega);have hx34:∀ h:0 < t296.size,((t296[0]'h).toNat:Int)=bt t296 0:=bt_at t296 0;clear p34;have qi34:(0 < (t296.size:Int))=True:=eq_true (of_decide_eq_true aS);replace q34:=eq_true q34))
          go_meet
          case rel=>exact ⟨_,((a0.toList == ([45,48]:List UInt8))),sS,H',⟨by first|omega|exact Nat.le_refl _⟩,⟨by (with_reducible repeat refine bU ?_);exact BK286.out⟩,⟨bB⟩⟩
        ·rw [if_neg c33] at H
         exact absurd H (by simp)
       ·rw [if_neg c32] at H
        have c32b0:=decide_eq_false c32;have c32b1:decide (1 < t296.size)=false:=decide_eq_false (by omega);clear c32;have H':=Mk H;clear H
        go_wp2_with (first|(go_at_call 68;(with_reducible refine (strings_Trim.calls t296 (⟨#[48,49,50,51,52,53,54,55,56,57]⟩:ByteArray) t297 _ A30.out).mono ?_);rintro e w38 ⟨rfl,hb⟩;replace BK286:=bkb BK286 hb;replace HB:=Mk (below_step bB hb);clear hb))
        go_meet
        case rel=>exact ⟨_,((a0.toList == ([45,48]:List UInt8))),sS,H',⟨by first|omega|exact Nat.le_refl _⟩,⟨by (with_reducible repeat refine bU ?_);exact BK286.out⟩,⟨bB⟩⟩
      ·rw [if_neg c31] at H
       have c31b0:=beq_eq_false_iff_ne.mpr c31;have c31b1:=bne_iff_ne.mpr c31;have H':=Mk H;clear H
       go_wp2_with (first|(go_at_call 68;(with_reducible refine (strings_Trim.calls t296 (⟨#[48,49,50,51,52,53,54,55,56,57]⟩:ByteArray) t297 _ A30.out).mono ?_);rintro e w39 ⟨rfl,hb⟩;replace BK286:=bkb BK286 hb;replace HB:=Mk (below_step bB hb);clear hb))
       go_meet
       case rel=>exact ⟨_,(true),sS,H',⟨by first|omega|exact Nat.le_refl _⟩,⟨by (with_reducible repeat refine bU ?_);exact BK286.out⟩,⟨bB⟩⟩
    case rest=>
     clear HC27;try clear c1
     try clear c2
     try clear c2b0
     try clear c2b1
     try clear p2
     try clear c3
     try clear p3
     try clear q3
     try clear hx3
     try clear qi3
     try clear c6
     try clear c7
     try clear c7b0
     try clear c7b1
     try clear c8
     try clear c11
     try clear c13
     try clear c15
     try clear c15b0
     try clear c15b1
     try clear c29
     try clear c29b0
     try clear c29b1
     try clear c31
     try clear c31b0
     try clear c31b1
     try clear c32
     try clear c32b0
     try clear c32b1
     try clear c33
     try clear c33b0
     try clear c33b1
     try clear p34
     try clear q34
     try clear hx34
     try clear qi34
     try clear c35
     try clear c35b0
     try clear c35b1
     try clear p34
     try clear q34
     obtain ⟨kq,x51_26,rfl,HA,HJ26,BK286,HB⟩:=hcut
     cases kq with
     |zero=>exact absurd HA.out (by simp [val_Parse.j0])
     |succ kj26=>
      have H:=HA.out;clear HA;simp only [val_Parse.j0] at H;by_cases c40:x51_26=true
      ·subst c40
       rw [if_pos rfl] at H;try dsimp only at H
       simp only [Option.some.injEq,Prod.mk.injEq] at H;obtain ⟨rfl,rfl,rfl,rfl,rfl⟩:=H
       go_wp2
       go_step3
       refine hG_ 0 _ _ _ (by rfl) ?_;obtain ⟨_,_,_,_,_,_,_,_⟩:=z4 BK286
       go_wp2
       try rw [labs_ret]
       refine bodyPost_ret (results_ct rfl _ _ gb286 25 #[.int .i64 0,.int .i64 0,.string (⟨#[]⟩:ByteArray),.complex .f64 0 0] (0,0) _ rfl (bP BK286) Tryz.underlying25 rfl kR) rfl ?_;exact ⟨eW,bB⟩
      ·replace c40:=Bool.eq_false_iff.mpr c40
       subst c40;rw [if_neg (show ¬ (false=true) by decide)] at H;try dsimp only at H
       replace H:=Option.bind_eq_some_iff.mp H;obtain ⟨⟨t298,t299⟩,A420,H⟩:=H;try dsimp only at H
       have A42:=Mk A420;clear A420;rcases t299 with _|q300
       ·have H1:(some (1,t298,(⟨#[]⟩:ByteArray),((0,0):Nat×Nat),0))=some (r1,r2,r3,r4,r5):=by rw [if_pos (show (none:Option Int).isNone=true by rfl)] at H;exact H
        clear H;have H:=H1;clear H1;try simp only [errW_none,errW_some]
        simp only [Option.some.injEq,Prod.mk.injEq] at H;obtain ⟨rfl,rfl,rfl,rfl,rfl⟩:=H
        go_wp2_with (first|((with_reducible refine gate_callee (f:=116) rfl ?_);refine goesL_ (some 54) rfl rfl Tryz.func116 kR rfl #[.string a0,.int .i64 10,.int .i64 64] rfl mA ?_;(with_reducible refine (strconv_ParseInt.calls a0 10 64 t298 none _ A42.out (Glob.below HG_.out bB)).mono ?_);rintro e w43 ⟨q116_,rfl,hb⟩;refine ⟨_,rfl,?_⟩;(try simp only [Option.map_some,Option.map_none,errW_none,errW_some]);replace BK286:=bkb BK286 hb;replace HB:=Mk (below_step bB hb);clear hb;(try simp only [errW_none,errW_some]);obtain ⟨_,_,_,_,_,_,_,_⟩:=z4 BK286))
        try rw [labs_ret]
        refine bodyPost_ret (results_ct rfl _ _ gb286 25 #[.int .i64 1,.int .i64 t298,.string (⟨#[]⟩:ByteArray),.complex .f64 0 0] (0,0) _ rfl (bP BK286) Tryz.underlying25 rfl kR) rfl ?_;exact ⟨eW,bB⟩
       ·have H1:(some (0,0,(⟨#[]⟩:ByteArray),((0,0):Nat×Nat),1))=some (r1,r2,r3,r4,r5):=by rw [if_neg (show ¬ (some q300).isNone=true by simp)] at H;exact H
        clear H;have H:=H1;clear H1;try simp only [errW_none,errW_some]
        simp only [Option.some.injEq,Prod.mk.injEq] at H;obtain ⟨rfl,rfl,rfl,rfl,rfl⟩:=H
        go_wp2_with (first|((with_reducible refine gate_callee (f:=116) rfl ?_);refine goesL_ (some 54) rfl rfl Tryz.func116 kR rfl #[.string a0,.int .i64 10,.int .i64 64] rfl mA ?_;(with_reducible refine (strconv_ParseInt.calls a0 10 64 t298 (some q300) _ A42.out (Glob.below HG_.out bB)).mono ?_);rintro e w45 ⟨q116_,rfl,hb⟩;refine ⟨_,rfl,?_⟩;(try simp only [Option.map_some,Option.map_none,errW_none,errW_some]);replace BK286:=bkb BK286 hb;replace HB:=Mk (below_step bB hb);clear hb;(try simp only [errW_none,errW_some])))
        go_step3
        obtain ⟨_,_,_,_,_,_,_,_⟩:=z4 BK286
        go_wp2
        try rw [labs_ret]
        refine bodyPost_ret (results_ct rfl _ _ gb286 25 #[.int .i64 0,.int .i64 0,.string (⟨#[]⟩:ByteArray),.complex .f64 0 0] (0,0) _ rfl (bP BK286) Tryz.underlying25 rfl kR) rfl ?_;exact ⟨eW,bB⟩
def req_reader_val.f (k:Nat) (s0_0:ByteArray) (s0_1:Int) (s0_2:Int):Option (Int×Int×ByteArray×(Nat×Nat)×ByteArray×Int×Int):=if s0_2=0 then ((req_reader_word.f s0_0 s0_1 s0_2).bind fun bt302=>((val_Parse.f k bt302.1).bind fun bt306=>((req_reader_wrong.f bt302.2.1 bt302.2.2.1 bt302.2.2.2 bt306.2.2.2.2).bind fun bt312=>(some (bt306.1,bt306.2.1,bt306.2.2.1,bt306.2.2.2.1,bt312.1,bt312.2.1,bt312.2.2))))) else (some (0,0,(⟨#[]⟩:ByteArray),((0,0):Nat×Nat),s0_0,s0_1,s0_2))
set_option maxHeartbeats 8000000 in
set_option maxRecDepth 100000 in
theorem req_reader_val.calls (k:Nat) (g:Nat) (s0_0:ByteArray) (s0_1:Int) (s0_2:Int) (r1:Int) (r2:Int) (r3:ByteArray) (r4:(Nat×Nat)) (r5:ByteArray) (r6:Int) (r7:Int) (w0 w:World) (hI:IsS64 w0 w g s0_0 s0_1 s0_2) (hB:Below w0.heap.size w0 w) (h:req_reader_val.f k s0_0 s0_1 s0_2=some (r1,r2,r3,r4,r5,r6,r7)) (hG_:Glob w0):
  Calls Tryz.prog 65 #[.pointer (some ⟨g,0,none⟩)] w fun e w'=>e = .returned (.agg #[.int .i64 r1,.int .i64 r2,.string r3,.complex .f64 r4.1 r4.2])∧IsS64 w0 w' g r5 r6 r7∧Below w0.heap.size w0 w'∧KeepBut w w' g none:=by
 have HG_:=Mk hG_;clear hG_;have hu25:=Tryz.underlying25;have HI0:=Mk hI;have HK:=Mk (KeepBut.refl w g none);have HL:=Mk hB.size;clear hI;have HW0:=Mk hB.size;have HB:=Mk hB;clear hB;have H:(if s0_2=0 then ((req_reader_word.f s0_0 s0_1 s0_2).bind fun bt302=>((val_Parse.f k bt302.1).bind fun bt306=>((req_reader_wrong.f bt302.2.1 bt302.2.2.1 bt302.2.2.2 bt306.2.2.2.2).bind fun bt312=>(some (bt306.1,bt306.2.1,bt306.2.2.1,bt306.2.2.2.1,bt312.1,bt312.2.1,bt312.2.2))))) else (some (0,0,(⟨#[]⟩:ByteArray),((0,0):Nat×Nat),s0_0,s0_1,s0_2)))=some (r1,r2,r3,r4,r5,r6,r7):=h;clear h;by_cases c2:s0_2=0
 ·rw [if_pos c2] at H
  have c2b0:=beq_iff_eq.mpr c2;have c2b1:=bne_eq_false_iff_eq.mpr c2;clear c2;replace H:=Option.bind_eq_some_iff.mp H;obtain ⟨⟨t302,t303,t304,t305⟩,A30,H⟩:=H;try dsimp only at H
  have A3:=Mk A30;clear A30;replace H:=Option.bind_eq_some_iff.mp H;obtain ⟨⟨t306,t307,t308,t309,t310⟩,A40,H⟩:=H;try dsimp only at H
  have A4:=Mk A40;clear A40;replace H:=Option.bind_eq_some_iff.mp H;obtain ⟨⟨t312,t313,t314⟩,A50,H⟩:=H;try dsimp only at H
  have A5:=Mk A50;clear A50;simp only [Option.some.injEq,Prod.mk.injEq] at H;obtain ⟨rfl,rfl,rfl,rfl,rfl,rfl,rfl⟩:=H;go_enter Tryz.func65,Tryz.ntmps65
  go_wp2_with (first|((with_reducible refine gate_dst (N:=2) rfl ?_);refine boxE 2 #[.int .i64 0,.int .i64 0,.string (⟨#[]⟩:ByteArray),.complex .f64 0 0] 25 ?_;intro gb301 hg w6 hbox hb;have BK301:=Mk (hbox);have GW301:=(gW:Aside0 (w.heap.size≤gb301));have GE301:=(gV:Aside0 (w0.heap.size≤gb301));have NB0_301:=Mk ((by rw [hg];exact Nat.ne_of_lt (IsS64.lt (show IsS64 w0 _ g s0_0 s0_1 s0_2 from hI HI0)):g≠gb301));have NB301_0:=Mk ((by rw [hg];exact Nat.ne_of_gt (IsS64.lt (show IsS64 w0 _ g s0_0 s0_1 s0_2 from hI HI0)):gb301≠g));replace HI0:=Mk (IsS64.below (hI HI0) hb);replace HK:=Mk (KeepBut.trans kK (KeepBut.of_below hb g none) (.inl rfl));replace HB:=Mk (below_step bB hb);clear hb hbox hg;obtain ⟨HGz7,hgz7⟩:=HI0.out;have hcz7_0:=cellS64_0 HGz7;have hcz7_1:=cellS64_1 HGz7;have hcz7_2:=cellS64_2 HGz7;have hfz7_0:=blk_frozen HGz7 0;have hfz7_1:=blk_frozen HGz7 1;have hfz7_2:=blk_frozen HGz7 2;clear HGz7 hgz7)|((with_reducible refine gate_callee (f:=67) rfl ?_);refine goesL_ (some 13) rfl rfl Tryz.func67 kR rfl #[.pointer (some ⟨g,0,none⟩)] rfl mA ?_;(with_reducible refine (req_reader_word.calls g s0_0 s0_1 s0_2 t302 t303 t304 t305 w0 _ ?side1 ?side2 A3.out).mono ?_);(case side1=>exact hI HI0);(case side2=>exact bB);rintro e w8 ⟨rfl,hi,hb,hk⟩;refine ⟨_,rfl,?_⟩;replace BK301:=Mk (kblk hk BK301 NB301_0);replace HK:=Mk (KeepBut.trans kK hk (.inl rfl));replace HB:=Mk (hb);replace HI0:=Mk (hi);clear hb hk hi)|((with_reducible refine gate_callee (f:=85) rfl ?_);refine goesL_ (some 14) rfl rfl Tryz.func85 kR rfl #[.string t302] rfl mA ?_;(with_reducible refine (val_Parse.calls k t302 t306 t307 t308 t309 t310 _ A4.out (Glob.below HG_.out bB)).mono ?_);rintro e w9 ⟨rfl,hb⟩;refine ⟨_,rfl,?_⟩;replace HI0:=Mk (IsS64.below (hI HI0) hb);replace BK301:=bkb BK301 hb;replace HK:=Mk (KeepBut.trans kK (KeepBut.of_below hb g none) (.inl rfl));replace HB:=Mk (below_step bB hb);clear hb)|((with_reducible refine gate_dst (N:=3) rfl ?_);refine boxE 3 #[.int .i64 0,.int .i64 0,.string (⟨#[]⟩:ByteArray),.complex .f64 0 0] 25 ?_;intro gb311 hg w10 hbox hb;have BK311:=Mk (hbox);have GW311:=(gW:Aside0 (w.heap.size≤gb311));have GE311:=(gV:Aside0 (w0.heap.size≤gb311));have NB301_311:=(gL BK301:Aside0 (gb301≠gb311));have NB311_301:=(gG BK301:Aside0 (gb311≠gb301));have NB0_311:=Mk ((by rw [hg];exact Nat.ne_of_lt (IsS64.lt (show IsS64 w0 _ g t303 t304 t305 from hI HI0)):g≠gb311));have NB311_0:=Mk ((by rw [hg];exact Nat.ne_of_gt (IsS64.lt (show IsS64 w0 _ g t303 t304 t305 from hI HI0)):gb311≠g));replace HI0:=Mk (IsS64.below (hI HI0) hb);replace BK301:=bkb BK301 hb;replace HK:=Mk (KeepBut.trans kK (KeepBut.of_below hb g none) (.inl rfl));replace HB:=Mk (below_step bB hb);clear hb hbox hg;have hnb11:=NB311_301.out;have hnc11:=NB301_311.out;have hnb12:=NB311_0.out;have hnc12:=NB0_311.out;obtain ⟨_,_,_,_,_,_,_,_⟩:=z4 BK311)|((with_reducible refine gate_callee (f:=57) rfl ?_);refine goesL_ (some 19) rfl rfl Tryz.func57 kR rfl #[.pointer (some ⟨g,0,none⟩),.int .i64 t310] rfl mA ?_;(with_reducible refine (req_reader_wrong.calls g t303 t304 t305 t310 t312 t313 t314 w0 _ ?side1 ?side2 A5.out).mono ?_);(case side1=>exact hI HI0);(case side2=>exact bB);rintro e w14 ⟨rfl,hi,hb,hk⟩;refine ⟨_,rfl,?_⟩;replace BK301:=Mk (kblk hk BK301 NB301_0);replace BK311:=Mk (KeepBut.blk hk (g':=gb311) (o:=.cells #[.int .i64 t306,.int .i64 t307,.string t308,.complex .f64 t309.1 t309.2] 25 (0,0)) (bP BK311) NB311_0.out (by simp));replace HK:=Mk (KeepBut.trans kK hk (.inl rfl));replace HB:=Mk (hb);replace HI0:=Mk (hi);clear hb hk hi;obtain ⟨_,_,_,_,_,_,_,_⟩:=z4 BK311;have hnb16:=NB301_0.out;have hnc16:=NB0_301.out;obtain ⟨_,_,_,_,_,_,_,_⟩:=z4 BK301))
  refine bodyPost_ret (results_cell_row rfl _ _ gb301 25 #[.int .i64 t306,.int .i64 t307,.string t308,.complex .f64 t309.1 t309.2] (0,0) _ rfl (bP BK301) Tryz.underlying25 rfl kR) rfl ?_;exact ⟨eW,hI HI0,bB,kK⟩
 ·rw [if_neg c2] at H
  have c2b0:=beq_eq_false_iff_ne.mpr c2;have c2b1:=bne_iff_ne.mpr c2;simp only [Option.some.injEq,Prod.mk.injEq] at H;obtain ⟨rfl,rfl,rfl,rfl,rfl,rfl,rfl⟩:=H;go_enter Tryz.func65,Tryz.ntmps65
  go_wp2_with (first|((with_reducible refine gate_dst (N:=2) rfl ?_);refine boxE 2 #[.int .i64 0,.int .i64 0,.string (⟨#[]⟩:ByteArray),.complex .f64 0 0] 25 ?_;intro gb301 hg w18 hbox hb;have BK301:=Mk (hbox);have GW301:=(gW:Aside0 (w.heap.size≤gb301));have GE301:=(gV:Aside0 (w0.heap.size≤gb301));have NB0_301:=Mk ((by rw [hg];exact Nat.ne_of_lt (IsS64.lt (show IsS64 w0 _ g s0_0 s0_1 s0_2 from hI HI0)):g≠gb301));have NB301_0:=Mk ((by rw [hg];exact Nat.ne_of_gt (IsS64.lt (show IsS64 w0 _ g s0_0 s0_1 s0_2 from hI HI0)):gb301≠g));replace HI0:=Mk (IsS64.below (hI HI0) hb);replace HK:=Mk (KeepBut.trans kK (KeepBut.of_below hb g none) (.inl rfl));replace HB:=Mk (below_step bB hb);clear hb hbox hg;obtain ⟨HGz19,hgz19⟩:=HI0.out;have hcz19_0:=cellS64_0 HGz19;have hcz19_1:=cellS64_1 HGz19;have hcz19_2:=cellS64_2 HGz19;have hfz19_0:=blk_frozen HGz19 0;have hfz19_1:=blk_frozen HGz19 1;have hfz19_2:=blk_frozen HGz19 2;clear HGz19 hgz19;have hnb20:=NB301_0.out;have hnc20:=NB0_301.out;obtain ⟨_,_,_,_,_,_,_,_⟩:=z4 BK301))
  refine bodyPost_ret (results_cell_row rfl _ _ gb301 25 #[.int .i64 0,.int .i64 0,.string (⟨#[]⟩:ByteArray),.complex .f64 0 0] (0,0) _ rfl (bP BK301) Tryz.underlying25 rfl kR) rfl ?_;exact ⟨eW,hI HI0,bB,kK⟩
def req_reader_value.f (k:Nat) (s0_0:ByteArray) (s0_1:Int) (s0_2:Int):Option (Int×Int×ByteArray×(Nat×Nat)×ByteArray×Int×Int):=(req_reader_sign.f k s0_0 s0_1 s0_2 (⟨#[32]⟩:ByteArray)).bind fun bt316=>((req_reader_val.f k bt316.1 bt316.2.1 bt316.2.2).bind fun bt319=>(some (bt319.1,bt319.2.1,bt319.2.2.1,bt319.2.2.2.1,bt319.2.2.2.2.1,bt319.2.2.2.2.2.1,bt319.2.2.2.2.2.2)))
set_option maxHeartbeats 8000000 in
set_option maxRecDepth 100000 in
theorem req_reader_value.calls (k:Nat) (g:Nat) (s0_0:ByteArray) (s0_1:Int) (s0_2:Int) (r1:Int) (r2:Int) (r3:ByteArray) (r4:(Nat×Nat)) (r5:ByteArray) (r6:Int) (r7:Int) (w0 w:World) (hI:IsS64 w0 w g s0_0 s0_1 s0_2) (hB:Below w0.heap.size w0 w) (h:req_reader_value.f k s0_0 s0_1 s0_2=some (r1,r2,r3,r4,r5,r6,r7)) (hG_:Glob w0):
  Calls Tryz.prog 62 #[.pointer (some ⟨g,0,none⟩)] w fun e w'=>e = .returned (.agg #[.int .i64 r1,.int .i64 r2,.string r3,.complex .f64 r4.1 r4.2])∧IsS64 w0 w' g r5 r6 r7∧Below w0.heap.size w0 w'∧KeepBut w w' g none:=by
 have HG_:=Mk hG_;clear hG_;have hu25:=Tryz.underlying25;have HI0:=Mk hI;have HK:=Mk (KeepBut.refl w g none);have HL:=Mk hB.size;clear hI;have HW0:=Mk hB.size;have HB:=Mk hB;clear hB;have H:((req_reader_sign.f k s0_0 s0_1 s0_2 (⟨#[32]⟩:ByteArray)).bind fun bt316=>((req_reader_val.f k bt316.1 bt316.2.1 bt316.2.2).bind fun bt319=>(some (bt319.1,bt319.2.1,bt319.2.2.1,bt319.2.2.2.1,bt319.2.2.2.2.1,bt319.2.2.2.2.2.1,bt319.2.2.2.2.2.2))))=some (r1,r2,r3,r4,r5,r6,r7):=h;clear h;replace H:=Option.bind_eq_some_iff.mp H;obtain ⟨⟨t316,t317,t318⟩,A20,H⟩:=H;try dsimp only at H
 have A2:=Mk A20;clear A20;replace H:=Option.bind_eq_some_iff.mp H;obtain ⟨⟨t319,t320,t321,t322,t323,t324,t325⟩,A30,H⟩:=H;try dsimp only at H
 have A3:=Mk A30;clear A30;simp only [Option.some.injEq,Prod.mk.injEq] at H;obtain ⟨rfl,rfl,rfl,rfl,rfl,rfl,rfl⟩:=H;go_enter Tryz.func62,Tryz.ntmps62
 go_wp2_with (first|((with_reducible refine gate_dst (N:=2) rfl ?_);refine boxE 2 #[.int .i64 0,.int .i64 0,.string (⟨#[]⟩:ByteArray),.complex .f64 0 0] 25 ?_;intro gb315 hg w4 hbox hb;have BK315:=Mk (hbox);have GW315:=(gW:Aside0 (w.heap.size≤gb315));have GE315:=(gV:Aside0 (w0.heap.size≤gb315));have NB0_315:=Mk ((by rw [hg];exact Nat.ne_of_lt (IsS64.lt (show IsS64 w0 _ g s0_0 s0_1 s0_2 from hI HI0)):g≠gb315));have NB315_0:=Mk ((by rw [hg];exact Nat.ne_of_gt (IsS64.lt (show IsS64 w0 _ g s0_0 s0_1 s0_2 from hI HI0)):gb315≠g));replace HI0:=Mk (IsS64.below (hI HI0) hb);replace HK:=Mk (KeepBut.trans kK (KeepBut.of_below hb g none) (.inl rfl));replace HB:=Mk (below_step bB hb);clear hb hbox hg)|((with_reducible refine gate_callee (f:=36) rfl ?_);refine goesL_ (some 4) rfl rfl Tryz.func36 kR rfl #[.pointer (some ⟨g,0,none⟩),.string (⟨#[32]⟩:ByteArray)] rfl mA ?_;(with_reducible refine (req_reader_sign.calls k g s0_0 s0_1 s0_2 (⟨#[32]⟩:ByteArray) t316 t317 t318 w0 _ ?side1 ?side2 A2.out).mono ?_);(case side1=>exact hI HI0);(case side2=>exact bB);rintro e w5 ⟨rfl,hi,hb,hk⟩;refine ⟨_,rfl,?_⟩;replace BK315:=Mk (kblk hk BK315 NB315_0);replace HK:=Mk (KeepBut.trans kK hk (.inl rfl));replace HB:=Mk (hb);replace HI0:=Mk (hi);clear hb hk hi)|((with_reducible refine gate_callee (f:=65) rfl ?_);refine goesL_ (some 6) rfl rfl Tryz.func65 kR rfl #[.pointer (some ⟨g,0,none⟩)] rfl mA ?_;(with_reducible refine (req_reader_val.calls k g t316 t317 t318 t319 t320 t321 t322 t323 t324 t325 w0 _ ?side1 ?side2 A3.out HG_.out).mono ?_);(case side1=>exact hI HI0);(case side2=>exact bB);rintro e w6 ⟨rfl,hi,hb,hk⟩;refine ⟨_,rfl,?_⟩;replace BK315:=Mk (kblk hk BK315 NB315_0);replace HK:=Mk (KeepBut.trans kK hk (.inl rfl));replace HB:=Mk (hb);replace HI0:=Mk (hi);clear hb hk hi;have hnb7:=NB315_0.out;have hnc7:=NB0_315.out;obtain ⟨_,_,_,_,_,_,_,_⟩:=z4 BK315))
 refine bodyPost_ret (results_cell_row rfl _ _ gb315 25 #[.int .i64 t319,.int .i64 t320,.string t321,.complex .f64 t322.1 t322.2] (0,0) _ rfl (bP BK315) Tryz.underlying25 rfl kR) rfl ?_;exact ⟨eW,hI HI0,bB,kK⟩
end Go.Proofs.YtcpjlbdjnaaaiaaGreatDoor.PAll
