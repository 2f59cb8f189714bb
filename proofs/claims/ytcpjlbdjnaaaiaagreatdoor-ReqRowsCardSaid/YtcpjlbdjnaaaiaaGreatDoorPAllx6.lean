import Derived.Test.YtcpjlbdjnaaaiaaGreatDoorPAllxM
namespace Go.Proofs.YtcpjlbdjnaaaiaaGreatDoor.PAll
open Go.Proofs.YtcpjlbdjnaaaiaaGreatDoor.Help
open Go.RowKit Go.Proofs.YtcpjlbdjnaaaiaaGreatDoorW.PrintWords Go.Proofs.YtcpjlbdjnaaaiaaGreatDoorW.PrintLast Go.Proofs.YtcpjlbdjnaaaiaaGreatDoorW.PrintMore
set_option linter.unusedVariables false
set_option linter.unusedSimpArgs false
attribute [local go_sem high] eqA25 eqA27
def pred_Same_1.f (a0_0:Int) (a0_1:Int) (a0_2:Int) (a0_3:Int) (a0_4:ByteArray) (a0_5:(Nat×Nat)) (a0_6:(Nat×Nat)) (a0_7:(Nat×Nat)) (l0_8:List (S30)) (a0_9:Int) (a1_0:Int) (a1_1:Int) (a1_2:Int) (a1_3:Int) (a1_4:ByteArray) (a1_5:(Nat×Nat)) (a1_6:(Nat×Nat)) (a1_7:(Nat×Nat)) (l1_8:List (S30)) (a1_9:Int):Option (Bool):=if a0_9=a1_9 then (if a0_0=a1_0 then (if a0_1=a1_1 then (if (a0_2 == a1_2 && (a0_3 == a1_3 && (a0_4.toList == a1_4.toList && (cEq a0_5.1 a0_5.2 a1_5.1 a1_5.2))))=true then (if (cEq a0_6.1 a0_6.2 a1_6.1 a1_6.2 && (cEq a0_7.1 a0_7.2 a1_7.1 a1_7.2))=true then (some ((l0_8.length:Int) == (l1_8.length:Int))) else (some false)) else (some false)) else (some false)) else (some false)) else (some false)
set_option maxHeartbeats 8000000 in
set_option maxRecDepth 100000 in
theorem pred_Same_1.calls (a0_0:Int) (a0_1:Int) (a0_2:Int) (a0_3:Int) (a0_4:ByteArray) (a0_5:(Nat×Nat)) (a0_6:(Nat×Nat)) (a0_7:(Nat×Nat)) (A0_8:Option Addr) (c0_8:Nat) (l0_8:List (S30)) (a0_9:Int) (a1_0:Int) (a1_1:Int) (a1_2:Int) (a1_3:Int) (a1_4:ByteArray) (a1_5:(Nat×Nat)) (a1_6:(Nat×Nat)) (a1_7:(Nat×Nat)) (A1_8:Option Addr) (c1_8:Nat) (l1_8:List (S30)) (a1_9:Int) (r:Bool) (w:World) (hr0_8:Kd.C k30 w A0_8 l0_8.length l0_8) (hc0_8:l0_8.length≤c0_8) (hr1_8:Kd.C k30 w A1_8 l1_8.length l1_8) (hc1_8:l1_8.length≤c1_8) (h:pred_Same_1.f a0_0 a0_1 a0_2 a0_3 a0_4 a0_5 a0_6 a0_7 l0_8 a0_9 a1_0 a1_1 a1_2 a1_3 a1_4 a1_5 a1_6 a1_7 l1_8 a1_9=some r):
  Calls Tryz.prog 28 #[.agg #[.int .i64 a0_0,.int .i64 a0_1,.int .i64 a0_2,.int .i64 a0_3,.string a0_4,.complex .f64 a0_5.1 a0_5.2,.complex .f64 a0_6.1 a0_6.2,.complex .f64 a0_7.1 a0_7.2,.slice A0_8 l0_8.length c0_8,.int .i64 a0_9],.agg #[.int .i64 a1_0,.int .i64 a1_1,.int .i64 a1_2,.int .i64 a1_3,.string a1_4,.complex .f64 a1_5.1 a1_5.2,.complex .f64 a1_6.1 a1_6.2,.complex .f64 a1_7.1 a1_7.2,.slice A1_8 l1_8.length c1_8,.int .i64 a1_9]] w fun e w'=>e = .returned (.bool r)∧Below w.heap.size w w':=by
 have hu70:=Tryz.underlying70;have hu25:=Tryz.underlying25;have hu27:=Tryz.underlying27;have HR0_8:=Mk hr0_8;have HC0_8:=Mk hc0_8;clear hr0_8 hc0_8;have HR1_8:=Mk hr1_8;have HC1_8:=Mk hc1_8;clear hr1_8 hc1_8;have HB:=Mk (Below.refl w.heap.size w);have H:(if a0_9=a1_9 then (if a0_0=a1_0 then (if a0_1=a1_1 then (if (a0_2 == a1_2 && (a0_3 == a1_3 && (a0_4.toList == a1_4.toList && (cEq a0_5.1 a0_5.2 a1_5.1 a1_5.2))))=true then (if (cEq a0_6.1 a0_6.2 a1_6.1 a1_6.2 && (cEq a0_7.1 a0_7.2 a1_7.1 a1_7.2))=true then (some ((l0_8.length:Int) == (l1_8.length:Int))) else (some false)) else (some false)) else (some false)) else (some false)) else (some false))=some r:=h;clear h;by_cases c3:a0_9=a1_9
 ·rw [if_pos c3] at H
  have c3b0:=beq_iff_eq.mpr c3;have c3b1:=bne_eq_false_iff_eq.mpr c3;clear c3;by_cases c4:a0_0=a1_0
  ·rw [if_pos c4] at H
   have c4b0:=beq_iff_eq.mpr c4;have c4b1:=bne_eq_false_iff_eq.mpr c4;clear c4;by_cases c5:a0_1=a1_1
   ·rw [if_pos c5] at H
    have c5b0:=beq_iff_eq.mpr c5;have c5b1:=bne_eq_false_iff_eq.mpr c5;clear c5;by_cases c6:(a0_2 == a1_2 && (a0_3 == a1_3 && (a0_4.toList == a1_4.toList && (cEq a0_5.1 a0_5.2 a1_5.1 a1_5.2))))=true
    ·rw [if_pos c6] at H
     have c6b0:(a0_2 == a1_2 && (a0_3 == a1_3 && (a0_4.toList == a1_4.toList && (cEq a0_5.1 a0_5.2 a1_5.1 a1_5.2))))=true:=c6;(try (have c6b1:decide (a0_2=a1_2 && (a0_3 == a1_3 && (a0_4.toList == a1_4.toList && (cEq a0_5.1 a0_5.2 a1_5.1 a1_5.2))))=true:=by simpa using c6));(try (have c6b2:(a0_2 == a1_2 && (a0_3 == a1_3 && (a0_4.toList == a1_4.toList && (cEq a0_5.1 a0_5.2 a1_5.1 a1_5.2))))=true:=by simpa using c6));clear c6;by_cases c7:(cEq a0_6.1 a0_6.2 a1_6.1 a1_6.2 && (cEq a0_7.1 a0_7.2 a1_7.1 a1_7.2))=true
     ·rw [if_pos c7] at H
      have c7b0:(cEq a0_6.1 a0_6.2 a1_6.1 a1_6.2 && (cEq a0_7.1 a0_7.2 a1_7.1 a1_7.2))=true:=c7;clear c7;obtain rfl:=Option.some.inj H;go_enter Tryz.func28,Tryz.ntmps28
      go_wp2_with (first|((with_reducible refine gate_dst (N:=2) rfl ?_);(try (refine gate_guard (by rfl) ?_;dsimp only));refine boxE 2 #[.int .i64 a0_0,.int .i64 a0_1,.int .i64 a0_2,.int .i64 a0_3,.string a0_4,.complex .f64 a0_5.1 a0_5.2,.complex .f64 a0_6.1 a0_6.2,.complex .f64 a0_7.1 a0_7.2,.slice A0_8 l0_8.length c0_8,.int .i64 a0_9] 70 ?_;intro gb140 hg w8 hbox hb;have BK140:=Mk (hbox);have GW140:=Mk ((gS:w.heap.size≤gb140));have GE140:=Mk ((gS:w.heap.size≤gb140));replace HB:=Mk (below_step bB hb);clear hb hbox hg)|((with_reducible refine gate_dst (N:=3) rfl ?_);(try (refine gate_guard (by rfl) ?_;dsimp only));refine boxE 3 #[.int .i64 a1_0,.int .i64 a1_1,.int .i64 a1_2,.int .i64 a1_3,.string a1_4,.complex .f64 a1_5.1 a1_5.2,.complex .f64 a1_6.1 a1_6.2,.complex .f64 a1_7.1 a1_7.2,.slice A1_8 l1_8.length c1_8,.int .i64 a1_9] 70 ?_;intro gb141 hg w9 hbox hb;have BK141:=Mk (hbox);have GW141:=Mk ((gS:w.heap.size≤gb141));have GE141:=Mk ((gS:w.heap.size≤gb141));have NB140_141:=(gL BK140:Aside0 (gb140≠gb141));have NB141_140:=(gG BK140:Aside0 (gb141≠gb140));replace BK140:=bkb BK140 hb;replace HB:=Mk (below_step bB hb);clear hb hbox hg;have hnb10:=NB140_141.out;have hnc10:=NB141_140.out;obtain ⟨_,_,_,_,_,_,_,_,_,_,_,_,_,_,_,_,_,_,_,_⟩:=z10 BK140;obtain ⟨_,_,_,_,_,_,_,_,_,_,_,_,_,_,_,_,_,_,_,_⟩:=z10 BK141))
      go_ret
      exact ⟨eW,bB⟩
     ·rw [if_neg c7] at H
      have c7b0:(cEq a0_6.1 a0_6.2 a1_6.1 a1_6.2 && (cEq a0_7.1 a0_7.2 a1_7.1 a1_7.2))=false:=by simpa using c7
      clear c7;obtain rfl:=Option.some.inj H;go_enter Tryz.func28,Tryz.ntmps28
      go_wp2_with (first|((with_reducible refine gate_dst (N:=2) rfl ?_);(try (refine gate_guard (by rfl) ?_;dsimp only));refine boxE 2 #[.int .i64 a0_0,.int .i64 a0_1,.int .i64 a0_2,.int .i64 a0_3,.string a0_4,.complex .f64 a0_5.1 a0_5.2,.complex .f64 a0_6.1 a0_6.2,.complex .f64 a0_7.1 a0_7.2,.slice A0_8 l0_8.length c0_8,.int .i64 a0_9] 70 ?_;intro gb140 hg w13 hbox hb;have BK140:=Mk (hbox);have GW140:=Mk ((gS:w.heap.size≤gb140));have GE140:=Mk ((gS:w.heap.size≤gb140));replace HB:=Mk (below_step bB hb);clear hb hbox hg)|((with_reducible refine gate_dst (N:=3) rfl ?_);(try (refine gate_guard (by rfl) ?_;dsimp only));refine boxE 3 #[.int .i64 a1_0,.int .i64 a1_1,.int .i64 a1_2,.int .i64 a1_3,.string a1_4,.complex .f64 a1_5.1 a1_5.2,.complex .f64 a1_6.1 a1_6.2,.complex .f64 a1_7.1 a1_7.2,.slice A1_8 l1_8.length c1_8,.int .i64 a1_9] 70 ?_;intro gb141 hg w14 hbox hb;have BK141:=Mk (hbox);have GW141:=Mk ((gS:w.heap.size≤gb141));have GE141:=Mk ((gS:w.heap.size≤gb141));have NB140_141:=(gL BK140:Aside0 (gb140≠gb141));have NB141_140:=(gG BK140:Aside0 (gb141≠gb140));replace BK140:=bkb BK140 hb;replace HB:=Mk (below_step bB hb);clear hb hbox hg;have hnb15:=NB140_141.out;have hnc15:=NB141_140.out;obtain ⟨_,_,_,_,_,_,_,_,_,_,_,_,_,_,_,_,_,_,_,_⟩:=z10 BK140;obtain ⟨_,_,_,_,_,_,_,_,_,_,_,_,_,_,_,_,_,_,_,_⟩:=z10 BK141))
      go_ret
      exact ⟨eW,bB⟩
    ·rw [if_neg c6] at H
     have c6b0:(a0_2 == a1_2 && (a0_3 == a1_3 && (a0_4.toList == a1_4.toList && (cEq a0_5.1 a0_5.2 a1_5.1 a1_5.2))))=false:=by simpa using c6
     (try (have c6b1:decide (a0_2=a1_2 && (a0_3 == a1_3 && (a0_4.toList == a1_4.toList && (cEq a0_5.1 a0_5.2 a1_5.1 a1_5.2))))=false:=by simpa using c6));(try (have c6b2:(a0_2 == a1_2 && (a0_3 == a1_3 && (a0_4.toList == a1_4.toList && (cEq a0_5.1 a0_5.2 a1_5.1 a1_5.2))))=false:=by simpa using c6));(try (have c6b3:¬ (a0_2=a1_2 && (a0_3 == a1_3 && (a0_4.toList == a1_4.toList && (cEq a0_5.1 a0_5.2 a1_5.1 a1_5.2)))):=by simpa using c6));clear c6;obtain rfl:=Option.some.inj H;go_enter Tryz.func28,Tryz.ntmps28
     go_wp2_with (first|((with_reducible refine gate_dst (N:=2) rfl ?_);(try (refine gate_guard (by rfl) ?_;dsimp only));refine boxE 2 #[.int .i64 a0_0,.int .i64 a0_1,.int .i64 a0_2,.int .i64 a0_3,.string a0_4,.complex .f64 a0_5.1 a0_5.2,.complex .f64 a0_6.1 a0_6.2,.complex .f64 a0_7.1 a0_7.2,.slice A0_8 l0_8.length c0_8,.int .i64 a0_9] 70 ?_;intro gb140 hg w18 hbox hb;have BK140:=Mk (hbox);have GW140:=Mk ((gS:w.heap.size≤gb140));have GE140:=Mk ((gS:w.heap.size≤gb140));replace HB:=Mk (below_step bB hb);clear hb hbox hg)|((with_reducible refine gate_dst (N:=3) rfl ?_);(try (refine gate_guard (by rfl) ?_;dsimp only));refine boxE 3 #[.int .i64 a1_0,.int .i64 a1_1,.int .i64 a1_2,.int .i64 a1_3,.string a1_4,.complex .f64 a1_5.1 a1_5.2,.complex .f64 a1_6.1 a1_6.2,.complex .f64 a1_7.1 a1_7.2,.slice A1_8 l1_8.length c1_8,.int .i64 a1_9] 70 ?_;intro gb141 hg w19 hbox hb;have BK141:=Mk (hbox);have GW141:=Mk ((gS:w.heap.size≤gb141));have GE141:=Mk ((gS:w.heap.size≤gb141));have NB140_141:=(gL BK140:Aside0 (gb140≠gb141));have NB141_140:=(gG BK140:Aside0 (gb141≠gb140));replace BK140:=bkb BK140 hb;replace HB:=Mk (below_step bB hb);clear hb hbox hg;have hnb20:=NB140_141.out;have hnc20:=NB141_140.out;obtain ⟨_,_,_,_,_,_,_,_,_,_,_,_,_,_,_,_,_,_,_,_⟩:=z10 BK140;obtain ⟨_,_,_,_,_,_,_,_,_,_,_,_,_,_,_,_,_,_,_,_⟩:=z10 BK141))
     go_ret
     exact ⟨eW,bB⟩
   ·rw [if_neg c5] at H
    have c5b0:=beq_eq_false_iff_ne.mpr c5;have c5b1:=bne_iff_ne.mpr c5;obtain rfl:=Option.some.inj H;go_enter Tryz.func28,Tryz.ntmps28
    go_wp2_with (first|((with_reducible refine gate_dst (N:=2) rfl ?_);(try (refine gate_guard (by rfl) ?_;dsimp only));refine boxE 2 #[.int .i64 a0_0,.int .i64 a0_1,.int .i64 a0_2,.int .i64 a0_3,.string a0_4,.complex .f64 a0_5.1 a0_5.2,.complex .f64 a0_6.1 a0_6.2,.complex .f64 a0_7.1 a0_7.2,.slice A0_8 l0_8.length c0_8,.int .i64 a0_9] 70 ?_;intro gb140 hg w23 hbox hb;have BK140:=Mk (hbox);have GW140:=Mk ((gS:w.heap.size≤gb140));have GE140:=Mk ((gS:w.heap.size≤gb140));replace HB:=Mk (below_step bB hb);clear hb hbox hg)|((with_reducible refine gate_dst (N:=3) rfl ?_);(try (refine gate_guard (by rfl) ?_;dsimp only));refine boxE 3 #[.int .i64 a1_0,.int .i64 a1_1,.int .i64 a1_2,.int .i64 a1_3,.string a1_4,.complex .f64 a1_5.1 a1_5.2,.complex .f64 a1_6.1 a1_6.2,.complex .f64 a1_7.1 a1_7.2,.slice A1_8 l1_8.length c1_8,.int .i64 a1_9] 70 ?_;intro gb141 hg w24 hbox hb;have BK141:=Mk (hbox);have GW141:=Mk ((gS:w.heap.size≤gb141));have GE141:=Mk ((gS:w.heap.size≤gb141));have NB140_141:=(gL BK140:Aside0 (gb140≠gb141));have NB141_140:=(gG BK140:Aside0 (gb141≠gb140));replace BK140:=bkb BK140 hb;replace HB:=Mk (below_step bB hb);clear hb hbox hg;have hnb25:=NB140_141.out;have hnc25:=NB141_140.out;obtain ⟨_,_,_,_,_,_,_,_,_,_,_,_,_,_,_,_,_,_,_,_⟩:=z10 BK140;obtain ⟨_,_,_,_,_,_,_,_,_,_,_,_,_,_,_,_,_,_,_,_⟩:=z10 BK141))
    go_ret
    exact ⟨eW,bB⟩
  ·rw [if_neg c4] at H
   have c4b0:=beq_eq_false_iff_ne.mpr c4;have c4b1:=bne_iff_ne.mpr c4;obtain rfl:=Option.some.inj H;go_enter Tryz.func28,Tryz.ntmps28
   go_wp2_with (first|((with_reducible refine gate_dst (N:=2) rfl ?_);(try (refine gate_guard (by rfl) ?_;dsimp only));refine boxE 2 #[.int .i64 a0_0,.int .i64 a0_1,.int .i64 a0_2,.int .i64 a0_3,.string a0_4,.complex .f64 a0_5.1 a0_5.2,.complex .f64 a0_6.1 a0_6.2,.complex .f64 a0_7.1 a0_7.2,.slice A0_8 l0_8.length c0_8,.int .i64 a0_9] 70 ?_;intro gb140 hg w28 hbox hb;have BK140:=Mk (hbox);have GW140:=Mk ((gS:w.heap.size≤gb140));have GE140:=Mk ((gS:w.heap.size≤gb140));replace HB:=Mk (below_step bB hb);clear hb hbox hg)|((with_reducible refine gate_dst (N:=3) rfl ?_);(try (refine gate_guard (by rfl) ?_;dsimp only));refine boxE 3 #[.int .i64 a1_0,.int .i64 a1_1,.int .i64 a1_2,.int .i64 a1_3,.string a1_4,.complex .f64 a1_5.1 a1_5.2,.complex .f64 a1_6.1 a1_6.2,.complex .f64 a1_7.1 a1_7.2,.slice A1_8 l1_8.length c1_8,.int .i64 a1_9] 70 ?_;intro gb141 hg w29 hbox hb;have BK141:=Mk (hbox);have GW141:=Mk ((gS:w.heap.size≤gb141));have GE141:=Mk ((gS:w.heap.size≤gb141));have NB140_141:=(gL BK140:Aside0 (gb140≠gb141));have NB141_140:=(gG BK140:Aside0 (gb141≠gb140));replace BK140:=bkb BK140 hb;replace HB:=Mk (below_step bB hb);clear hb hbox hg;have hnb30:=NB140_141.out;have hnc30:=NB141_140.out;obtain ⟨_,_,_,_,_,_,_,_,_,_,_,_,_,_,_,_,_,_,_,_⟩:=z10 BK140;obtain ⟨_,_,_,_,_,_,_,_,_,_,_,_,_,_,_,_,_,_,_,_⟩:=z10 BK141))
   go_ret
   exact ⟨eW,bB⟩
 ·rw [if_neg c3] at H
  have c3b0:=beq_eq_false_iff_ne.mpr c3;have c3b1:=bne_iff_ne.mpr c3;obtain rfl:=Option.some.inj H;go_enter Tryz.func28,Tryz.ntmps28
  go_wp2_with (first|((with_reducible refine gate_dst (N:=2) rfl ?_);(try (refine gate_guard (by rfl) ?_;dsimp only));refine boxE 2 #[.int .i64 a0_0,.int .i64 a0_1,.int .i64 a0_2,.int .i64 a0_3,.string a0_4,.complex .f64 a0_5.1 a0_5.2,.complex .f64 a0_6.1 a0_6.2,.complex .f64 a0_7.1 a0_7.2,.slice A0_8 l0_8.length c0_8,.int .i64 a0_9] 70 ?_;intro gb140 hg w33 hbox hb;have BK140:=Mk (hbox);have GW140:=Mk ((gS:w.heap.size≤gb140));have GE140:=Mk ((gS:w.heap.size≤gb140));replace HB:=Mk (below_step bB hb);clear hb hbox hg)|((with_reducible refine gate_dst (N:=3) rfl ?_);(try (refine gate_guard (by rfl) ?_;dsimp only));refine boxE 3 #[.int .i64 a1_0,.int .i64 a1_1,.int .i64 a1_2,.int .i64 a1_3,.string a1_4,.complex .f64 a1_5.1 a1_5.2,.complex .f64 a1_6.1 a1_6.2,.complex .f64 a1_7.1 a1_7.2,.slice A1_8 l1_8.length c1_8,.int .i64 a1_9] 70 ?_;intro gb141 hg w34 hbox hb;have BK141:=Mk (hbox);have GW141:=Mk ((gS:w.heap.size≤gb141));have GE141:=Mk ((gS:w.heap.size≤gb141));have NB140_141:=(gL BK140:Aside0 (gb140≠gb141));have NB141_140:=(gG BK140:Aside0 (gb141≠gb140));replace BK140:=bkb BK140 hb;replace HB:=Mk (below_step bB hb);clear hb hbox hg;have hnb35:=NB140_141.out;have hnc35:=NB141_140.out;obtain ⟨_,_,_,_,_,_,_,_,_,_,_,_,_,_,_,_,_,_,_,_⟩:=z10 BK140;obtain ⟨_,_,_,_,_,_,_,_,_,_,_,_,_,_,_,_,_,_,_,_⟩:=z10 BK141))
  go_ret
  exact ⟨eW,bB⟩
def pred_node.l0:Nat→List (S70)→List (S70)→Int→Int→Option (Bool)
 | 0,_,_,_,_=>none
 |k+1,x1,x15,x16,x17=>if x17 < x16 then (if 0≤x17 then (if x17 < (x15.length:Int) then (if x17 < (x1.length:Int) then ((pred_Same_1.f ((rd_T70 x15 x17).f0.f0) ((rd_T70 x15 x17).f0.f1) ((rd_T70 x15 x17).f0.f2.f0) ((rd_T70 x15 x17).f0.f2.f1) ((rd_T70 x15 x17).f0.f2.f2) ((rd_T70 x15 x17).f0.f2.f3) ((rd_T70 x15 x17).f0.f3.f0) ((rd_T70 x15 x17).f0.f3.f1) ((rd_T70 x15 x17).f0.f4) ((rd_T70 x15 x17).f1) ((rd_T70 x1 x17).f0.f0) ((rd_T70 x1 x17).f0.f1) ((rd_T70 x1 x17).f0.f2.f0) ((rd_T70 x1 x17).f0.f2.f1) ((rd_T70 x1 x17).f0.f2.f2) ((rd_T70 x1 x17).f0.f2.f3) ((rd_T70 x1 x17).f0.f3.f0) ((rd_T70 x1 x17).f0.f3.f1) ((rd_T70 x1 x17).f0.f4) ((rd_T70 x1 x17).f1)).bind fun t146=>(if t146=true then (pred_node.l0 k x1 x15 x16 (wrap64 (x17+1))) else (some false))) else (none)) else (none)) else (none)) else (some true)
def pred_node.f (k:Nat) (l0:List (S70)) (l1:List (S70)):Option (Bool):=if (l0.length:Int)=(l1.length:Int) then (pred_node.l0 k l1 l0 (l0.length:Int) 0) else (some false)
theorem pred_node.mono_l:∀ k,(∀ y0 y1 y2 y3,LeO (pred_node.l0 k y0 y1 y2 y3) (pred_node.l0 (k+1) y0 y1 y2 y3))
 | 0=>fun _ _ _ _ r h=>by simp [pred_node.l0] at h
 |k+1=>by
  have ih0:=pred_node.mono_l k
  ·intro y0 y1 y2 y3
   unfold pred_node.l0
   repeat' first
   |(with_reducible exact ih0 _ _ _ _)
   |(with_reducible exact LeO.refl _)
   |(with_reducible exact LeO.none _)
   |(with_reducible refine LeO.ite ?_ ?_)
   |(with_reducible refine LeO.bind ?_ (fun _=>?_))
   |exact ih0 _ _ _ _
   |exact LeO.none _
   |refine LeO.ite ?_ ?_
   |refine LeO.bind ?_ (fun _=>?_)
theorem pred_node.mono:∀ a0 a1 k,LeO (pred_node.f k a0 a1) (pred_node.f (k+1) a0 a1):=by
 intro a0 a1 k;have ih0:=pred_node.mono_l k;unfold pred_node.f
 repeat' first
   |(with_reducible exact ih0 _ _ _ _)
   |(with_reducible exact LeO.refl _)
   |(with_reducible exact LeO.none _)
   |(with_reducible refine LeO.ite ?_ ?_)
   |(with_reducible refine LeO.bind ?_ (fun _=>?_))
   |exact ih0 _ _ _ _
   |exact LeO.none _
   |refine LeO.ite ?_ ?_
   |refine LeO.bind ?_ (fun _=>?_)
set_option maxHeartbeats 8000000 in
set_option maxRecDepth 100000 in
theorem pred_node.calls (k:Nat) (A0:Option Addr) (c0:Nat) (l0:List (S70)) (A1:Option Addr) (c1:Nat) (l1:List (S70)) (r:Bool) (w:World) (hr0:Kd.C k70 w A0 l0.length l0) (hc0:l0.length≤c0) (hr1:Kd.C k70 w A1 l1.length l1) (hc1:l1.length≤c1) (h:pred_node.f k l0 l1=some r):
  Calls Tryz.prog 26 #[.slice A0 l0.length c0,.slice A1 l1.length c1,.func (.func 28) #[] #[]] w fun e w'=>e = .returned (.bool r)∧Below w.heap.size w w':=by
 have hu70:=Tryz.underlying70;have HR0:=Mk hr0;have HC0:=Mk hc0;have HR1:=Mk hr1;have HC1:=Mk hc1;have hm0:=hr0.2.1;clear hr0 hc0 hr1 hc1;by_cases hl:(l0.length:Int)=(l1.length:Int)
 ·have H:pred_node.l0 k l1 l0 (l0.length:Int) 0=some r:=by
   unfold pred_node.f at h
   rwa [if_pos hl] at h
  have H':=Mk H;have b0:((l0.length:Int) != (l1.length:Int))=false:=bne_eq_false_iff_eq.mpr hl;have b1:((l0.length:Int) == (l1.length:Int))=true:=beq_iff_eq.mpr hl;have b2:(l0.length == l1.length)=true:=beq_iff_eq.mpr (by omega);have HL:=Mk hl;clear h H hl;go_enter Tryz.func26,Tryz.ntmps26
  go_wp2
  go_loopg [17] k (fun kq v17 w'=>∃ x:Nat,v17 = .int .i64 (x:Int)∧Aside0 (pred_node.l0 kq l1 l0 (l0.length:Int) (x:Int)=some r)∧Aside0 (x≤l0.length)∧Aside0 (Below w.heap.size w w'))
  case atStart=>exact ⟨0,rfl,H',⟨Nat.zero_le _⟩,⟨Below.refl _ _⟩⟩
  case round=>
   clear H' b0 b1 b2;obtain ⟨x,rfl,HA,HX,HB⟩:=hrel
   cases gk with
   |zero=>exact absurd HA.out (by simp [pred_node.l0])
   |succ k1=>
    have H:=HA.out;have hx:=HX.out;have hl:=HL.out;clear HA;simp only [pred_node.l0] at H;by_cases hlt:(x:Int) < (l0.length:Int)
    ·rw [if_pos hlt,if_pos (by omega),if_pos hlt,if_pos (by omega)] at H
     have d0:=decide_eq_true hlt;obtain ⟨t,HT,H⟩:=Option.bind_eq_some_iff.mp H;obtain ⟨ad,A8,c8,e,q0,q1,q2,q3,q4,q5,q6,q7,q8,q9,hc8,hk8⟩:=at_T70 (Kd.C_below HR0.out HB.out) (x:Int) (by omega) hlt;obtain ⟨ae,E8,d8,e',y0,y1,y2,y3,y4,y5,y6,y7,y8,y9,hd8,hk9⟩:=at_T70 (Kd.C_below HR1.out HB.out) (x:Int) (by omega) (by omega);subst e;subst e';rw [Int.toNat_natCast] at q0 q1 q2 q3 q4 q5 q6 q7 q8 q9 y0 y1 y2 y3 y4 y5 y6 y7 y8 y9;have p0:(0≤(x:Int))=True:=eq_true (by omega);have p1:((x:Int) < (l0.length:Int))=True:=eq_true hlt;have p2:((x:Int) < (l1.length:Int))=True:=eq_true (by omega);replace y0:=fun o=>pw_cell_below (below_alloc (Below.refl _ _) o) y0
     replace y1:=fun o=>pw_cell_below (below_alloc (Below.refl _ _) o) y1
     replace y2:=fun o=>pw_cell_below (below_alloc (Below.refl _ _) o) y2
     replace y3:=fun o=>pw_cell_below (below_alloc (Below.refl _ _) o) y3
     replace y4:=fun o=>pw_cell_below (below_alloc (Below.refl _ _) o) y4
     replace y5:=fun o=>pw_cell_below (below_alloc (Below.refl _ _) o) y5
     replace y6:=fun o=>pw_cell_below (below_alloc (Below.refl _ _) o) y6
     replace y7:=fun o=>pw_cell_below (below_alloc (Below.refl _ _) o) y7
     replace y8:=fun o=>pw_cell_below (below_alloc (Below.refl _ _) o) y8
     replace y9:=fun o=>pw_cell_below (below_alloc (Below.refl _ _) o) y9
     have HT':=Mk HT;have HK8:=Mk (And.intro hc8 hk8);have HK9:=Mk (And.intro hd8 hk9);have H':=Mk H;clear HT hc8 hk8 hd8 hk9 H hl hx
     cases t with
     |true=>
      go_wp2_with (first|(go_at_call 28;(with_reducible refine (pred_Same_1.calls ((rd_T70 l0 x).f0.f0) ((rd_T70 l0 x).f0.f1) ((rd_T70 l0 x).f0.f2.f0) ((rd_T70 l0 x).f0.f2.f1) ((rd_T70 l0 x).f0.f2.f2) ((rd_T70 l0 x).f0.f2.f3) ((rd_T70 l0 x).f0.f3.f0) ((rd_T70 l0 x).f0.f3.f1) _ _ ((rd_T70 l0 x).f0.f4) ((rd_T70 l0 x).f1) ((rd_T70 l1 x).f0.f0) ((rd_T70 l1 x).f0.f1) ((rd_T70 l1 x).f0.f2.f0) ((rd_T70 l1 x).f0.f2.f1) ((rd_T70 l1 x).f0.f2.f2) ((rd_T70 l1 x).f0.f2.f3) ((rd_T70 l1 x).f0.f3.f0) ((rd_T70 l1 x).f0.f3.f1) _ _ ((rd_T70 l1 x).f0.f4) ((rd_T70 l1 x).f1) true _ ?side1 ?side2 ?side3 ?side4 HT'.out).mono ?_);(case side1=>exact Kd.C_below HK8.out.2 (below_alloc (below_alloc (Below.refl _ _) _) _));(case side2=>exact HK8.out.1);(case side3=>exact Kd.C_below HK9.out.2 (below_alloc (below_alloc (Below.refl _ _) _) _));(case side4=>exact HK9.out.1);rintro e w16 ⟨rfl,hb⟩;have HB2:=Mk (below_step (below_alloc (below_alloc HB.out _) _) hb);clear hb))
      go_roundg k1
      case measure=>omega
      case rel=>
       refine ⟨x+1,by first|rfl|(push_cast;rfl),⟨?_⟩,⟨by have h1:=hlt;have h2:=HX.out;omega⟩,HB2⟩;have H:=H'.out;rw [if_pos trivial] at H;have e:wrap64 ((x:Int)+1)=((x+1:Nat):Int):=by unfold wrap64;have h3:=hm0;push_cast;omega
       rwa [e] at H
     |false=>
      go_wp2_with (first|(go_at_call 28;(with_reducible refine (pred_Same_1.calls ((rd_T70 l0 x).f0.f0) ((rd_T70 l0 x).f0.f1) ((rd_T70 l0 x).f0.f2.f0) ((rd_T70 l0 x).f0.f2.f1) ((rd_T70 l0 x).f0.f2.f2) ((rd_T70 l0 x).f0.f2.f3) ((rd_T70 l0 x).f0.f3.f0) ((rd_T70 l0 x).f0.f3.f1) _ _ ((rd_T70 l0 x).f0.f4) ((rd_T70 l0 x).f1) ((rd_T70 l1 x).f0.f0) ((rd_T70 l1 x).f0.f1) ((rd_T70 l1 x).f0.f2.f0) ((rd_T70 l1 x).f0.f2.f1) ((rd_T70 l1 x).f0.f2.f2) ((rd_T70 l1 x).f0.f2.f3) ((rd_T70 l1 x).f0.f3.f0) ((rd_T70 l1 x).f0.f3.f1) _ _ ((rd_T70 l1 x).f0.f4) ((rd_T70 l1 x).f1) false _ ?side1 ?side2 ?side3 ?side4 HT'.out).mono ?_);(case side1=>exact Kd.C_below HK8.out.2 (below_alloc (below_alloc (Below.refl _ _) _) _));(case side2=>exact HK8.out.1);(case side3=>exact Kd.C_below HK9.out.2 (below_alloc (below_alloc (Below.refl _ _) _) _));(case side4=>exact HK9.out.1);rintro e w16 ⟨rfl,hb⟩;have HB2:=Mk (below_step (below_alloc (below_alloc HB.out _) _) hb);clear hb))
      have H:=H'.out;rw [if_neg (by decide)] at H;obtain rfl:=Option.some.inj H
      go_ret
      exact ⟨rfl,HB2.out⟩
    ·rw [if_neg hlt] at H
     have d0:=decide_eq_false hlt;obtain rfl:=Option.some.inj H;clear H hl hx
     go_wp2
     go_ret
     exact ⟨rfl,HB.out⟩
 ·have H:=h
  unfold pred_node.f at H;rw [if_neg hl] at H;obtain rfl:=Option.some.inj H;have b0:((l0.length:Int) != (l1.length:Int))=true:=bne_iff_ne.mpr hl;have b1:((l0.length:Int) == (l1.length:Int))=false:=beq_eq_false_iff_ne.mpr hl;have b2:(l0.length == l1.length)=false:=beq_eq_false_iff_ne.mpr (by omega);clear h H hl;go_enter Tryz.func26,Tryz.ntmps26
  go_wp2
  go_ret
  exact ⟨rfl,Below.refl _ _⟩
def walkS:Nat→List (S70)→List (S70)→Option (List (S70))
 | 0,_,_=>none
 |k+1,st,out=>match st.getLast? with
  |none=>some out
  |some t=>if out.length < 4294967296∧st.length+t.f0.f4.length < 4294967296∧0≤t.f1∧t.f1 < 9223372036854775807 then walkS k (st.dropLast++(t.f0.f4.reverse.map fun q=>(⟨q,t.f1+1⟩:S70))) (out++[t]) else none
def pred_Depth.f (k:Nat) (a0_0:Int) (a0_1:Int) (a0_2:Int) (a0_3:Int) (a0_4:ByteArray) (a0_5:(Nat×Nat)) (a0_6:(Nat×Nat)) (a0_7:(Nat×Nat)) (l0_8:List (S30)):Option Int:=
 (walkS k [(⟨(⟨a0_0,a0_1,(⟨a0_2,a0_3,a0_4,a0_5⟩:S25),(⟨a0_6,a0_7⟩:S27),l0_8⟩:S30),1⟩:S70)] []).map fun l=>l.foldl (fun n x=>if n < x.f1 then x.f1 else n) 0
theorem walkS_mono:∀ k st out,LeO (walkS k st out) (walkS (k+1) st out)
 | 0,_,_=>fun r h=>by simp [walkS] at h
 |k+1,st,out=>fun r h=>by
  rw [walkS] at h ⊢
  split at h
  ·exact h
  ·split at h
   ·rename_i c
    rw [if_pos c];exact walkS_mono k _ _ r h
   ·cases h
attribute [local go_sem] Oper.semAt_some
def down (nn k:Nat):List Nat:=(List.range k).map (fun t=>nn - 1 - t)
theorem down_succ (nn k:Nat):down nn (k+1)=down nn k++[nn - 1 - k]:=by simp [down,List.range_succ]
theorem down_length (nn k:Nat):(down nn k).length=k:=by simp [down]
def rdk (L:List S30) (j:Nat):S30:=rd_T30 L (j:Int)
def encB (L:List S30) (fA:Nat→Option Addr) (fc:Nat→Nat) (j:Nat):Array Value:=#[.int .i64 (j:Int),.agg #[.int .i64 (rdk L j).f0,.int .i64 (rdk L j).f1,.int .i64 (rdk L j).f2.f0,.int .i64 (rdk L j).f2.f1,.string (rdk L j).f2.f2,.complex .f64 (rdk L j).f2.f3.1 (rdk L j).f2.f3.2,.complex .f64 (rdk L j).f3.f0.1 (rdk L j).f3.f0.2,.complex .f64 (rdk L j).f3.f1.1 (rdk L j).f3.f1.2,.slice (fA j) (rdk L j).f4.length (fc j)]]
def KidsAt (W:World) (ad:Addr) (L:List S30) (fA:Nat→Option Addr) (fc:Nat→Nat):Prop:=∀ j:Nat,j < L.length →
 W.cell? (ad.add (j * 9))=some (.int .i64 (rdk L j).f0)∧W.cell? ⟨(ad.add (j * 9)).block,(ad.add (j * 9)).off+1,none⟩=some (.int .i64 (rdk L j).f1)∧W.cell? ⟨(ad.add (j * 9)).block,(ad.add (j * 9)).off+2,none⟩=some (.int .i64 (rdk L j).f2.f0)∧W.cell? ⟨(ad.add (j * 9)).block,(ad.add (j * 9)).off+3,none⟩=some (.int .i64 (rdk L j).f2.f1)∧W.cell? ⟨(ad.add (j * 9)).block,(ad.add (j * 9)).off+4,none⟩=some (.string (rdk L j).f2.f2)∧W.cell? ⟨(ad.add (j * 9)).block,(ad.add (j * 9)).off+5,none⟩=some (.complex .f64 (rdk L j).f2.f3.1 (rdk L j).f2.f3.2)∧W.cell? ⟨(ad.add (j * 9)).block,(ad.add (j * 9)).off+6,none⟩=some (.complex .f64 (rdk L j).f3.f0.1 (rdk L j).f3.f0.2)∧W.cell? ⟨(ad.add (j * 9)).block,(ad.add (j * 9)).off+7,none⟩=some (.complex .f64 (rdk L j).f3.f1.1 (rdk L j).f3.f1.2)∧W.cell? ⟨(ad.add (j * 9)).block,(ad.add (j * 9)).off+8,none⟩=some (.slice (fA j) (rdk L j).f4.length (fc j))
 ∧ (rdk L j).f4.length≤fc j∧k30.C W (fA j) (rdk L j).f4.length (rdk L j).f4
theorem KidsAt.below {W W1:World} {ad:Addr} {L:List S30} {fA:Nat→Option Addr} {fc:Nat→Nat} (h:KidsAt W ad L fA fc) (hb:Below W.heap.size W W1):KidsAt W1 ad L fA fc:=fun j hj=>by
 obtain ⟨h0,h1,h2,h3,h4,h5,h6,h7,h8,h9,hC⟩:=h j hj;exact ⟨pw_cell_below hb h0,pw_cell_below hb h1,pw_cell_below hb h2,pw_cell_below hb h3,pw_cell_below hb h4,pw_cell_below hb h5,pw_cell_below hb h6,pw_cell_below hb h7,pw_cell_below hb h8,h9,Kd.C_below hC hb⟩
theorem kids_at {W:World} {A:Option Addr} {L:List S30} (h:Kd.C k30 W A L.length L):∃ (ad:Addr) (fA:Nat→Option Addr) (fc:Nat→Nat),(0 < L.length→A=some ad)∧KidsAt W ad L fA fc:=by
 rcases Nat.eq_zero_or_pos L.length with h0|hp
 ·exact ⟨⟨0,0,none⟩,fun _=>none,fun _=>0,fun h=>by omega,fun j hj=>by omega⟩
 ·obtain ⟨ad,hA,_⟩:=h.2.2 hp
  have key:∀ j:Nat,∃ (A':Option Addr) (c':Nat),j < L.length→W.cell? (ad.add (j * 9))=some (.int .i64 (rdk L j).f0)∧W.cell? ⟨(ad.add (j * 9)).block,(ad.add (j * 9)).off+1,none⟩=some (.int .i64 (rdk L j).f1)∧W.cell? ⟨(ad.add (j * 9)).block,(ad.add (j * 9)).off+2,none⟩=some (.int .i64 (rdk L j).f2.f0)∧W.cell? ⟨(ad.add (j * 9)).block,(ad.add (j * 9)).off+3,none⟩=some (.int .i64 (rdk L j).f2.f1)∧W.cell? ⟨(ad.add (j * 9)).block,(ad.add (j * 9)).off+4,none⟩=some (.string (rdk L j).f2.f2)∧W.cell? ⟨(ad.add (j * 9)).block,(ad.add (j * 9)).off+5,none⟩=some (.complex .f64 (rdk L j).f2.f3.1 (rdk L j).f2.f3.2)∧W.cell? ⟨(ad.add (j * 9)).block,(ad.add (j * 9)).off+6,none⟩=some (.complex .f64 (rdk L j).f3.f0.1 (rdk L j).f3.f0.2)∧W.cell? ⟨(ad.add (j * 9)).block,(ad.add (j * 9)).off+7,none⟩=some (.complex .f64 (rdk L j).f3.f1.1 (rdk L j).f3.f1.2)∧W.cell? ⟨(ad.add (j * 9)).block,(ad.add (j * 9)).off+8,none⟩=some (.slice A' (rdk L j).f4.length c')
    ∧ (rdk L j).f4.length≤c'∧k30.C W A' (rdk L j).f4.length (rdk L j).f4:=by
   intro j;by_cases hj:j < L.length
   ·obtain ⟨ad',A',c',e,r⟩:=at_T30 h (j:Int) (by omega) (by omega)
    obtain rfl:ad=ad':=Option.some.inj (hA.symm.trans e);exact ⟨A',c',fun _=>r⟩
   ·exact ⟨none,0,fun h=>absurd h hj⟩
  exact ⟨ad,fun j=>(key j).choose,fun j=>(key j).choose_spec.choose,fun _=>hA,fun j hj=>(key j).choose_spec.choose_spec hj⟩
set_option maxRecDepth 100000 in
set_option maxHeartbeats 4000000 in
theorem back_in (F:Fence) (n:Nat) (hf:F.fn 83) (hro:F.round=none) (hn:1≤n) (l Bs c1:Nat) (w:World) (A1:Option Addr) (L:List S30) (ad:Addr) (fA:Nat→Option Addr) (fc:Nat→Nat) (hnn:L.length < 4294967296)
  (hA:0 < L.length→A1=some ad) (hc:KidsAt w ad L fA fc) (J Jx:List Nat→World→Prop)
  (hY:∀ pre x W,J pre W→pre.length < L.length→YieldAt F (n - 1) Tryz.prog l (encB L fA fc x) W fun e W'=>
   (e = .returned (.bool true)∧J (pre++[x]) W'∧(Below w.heap.size W W'∧W'.heap[Bs]?=W.heap[Bs]?))∨(e = .returned (.bool false)∧Jx (pre++[x]) W'))
  (W:World) (hBs:W.heap[Bs]?=some (.cells #[.slice A1 L.length c1] 28 (0,0))) (hW:Below w.heap.size w W) (h0:J [] W):
  CallsIn F n Tryz.prog 83 #[.func (.yield l) #[] #[],.pointer (some ⟨Bs,0,none⟩)] W fun e W'=>(∃ v,e = .returned v) ∧
   ((∃ ys,ys=down L.length L.length∧J ys W')∨(∃ pre,(∃ k,k≤L.length∧pre=down L.length k)∧Jx pre W')):=by
 refine callsIn_of_wp Tryz.func83 rfl hf ?_ hro;simp only [Tryz.ntmps83,List.size_toArray,List.length_cons,List.length_nil,Nat.reduceAdd,Nat.reduceSub,Array.replicate_succ,Array.replicate_zero,List.push_toArray,List.append_toArray,List.nil_append,List.cons_append];have hbs:W.cell? ⟨Bs,0,none⟩=some (.slice A1 L.length c1):=(blk_cell hBs 0).trans rfl
 gi_wp2
 gi_loopw [3] (fun i wr=>∃ k:Nat,k≤L.length∧i = .int .i64 ((L.length:Int) - 1 - k)∧J (down L.length k) wr∧Below w.heap.size w wr∧wr.heap[Bs]?=some (.cells #[.slice A1 L.length c1] 28 (0,0)))
  (fun i _=>(intOf i+1).toNat)
 case atStart=>exact ⟨0,Nat.zero_le _,by simp,h0,hW,hBs⟩
 case round=>
  obtain ⟨k,hk,rfl,hJs,hnx,hbr⟩:=hrel;have hb:wr.cell? ⟨Bs,0,none⟩=some (.slice A1 L.length c1):=(blk_cell hbr 0).trans rfl;by_cases hlt:k < L.length
  ·obtain ⟨j,hj⟩:∃ j:Nat,(L.length:Int) - 1 - k=(j:Int):=⟨L.length - 1 - k,by omega⟩
   have hjn:j < L.length:=by omega
   have hjk:Aside0 (j=L.length - 1 - k):=⟨by omega⟩;obtain rfl:=hA (by omega);obtain ⟨q0,q1,q2,q3,q4,q5,q6,q7,q8,_⟩:=(hc.below hnx) j hjn;obtain ⟨fn,tmps,assign,body,hy,hR⟩:=hY _ j wr hJs (by rw [down_length];exact hlt);dsimp only [encB] at hy;rw [hj];have HJ:=Mk hj;clear hj
   gi_wp2
   refine hR.mono ?_;rintro e W3 (⟨rfl,hJ3,hk3,hk4⟩|⟨rfl,hJx3⟩)
   ·gi_wp2
    go_roundw
    case rel=>exact ⟨k+1,by omega,by have:=HJ.out;push_cast;first|(congr 1;omega)|(simp;omega),by rw [down_succ,← hjk.out];exact hJ3,hnx.trans hk3,hk4.trans hbr⟩
    case measure=>simp [intOf]
   ·gi_wp2
    refine bodyPost_ret (results_none rfl _ _ _) rfl ?_;exact ⟨⟨_,rfl⟩,.inr ⟨_,⟨k+1,by omega,by rw [down_succ,← hjk.out]⟩,hJx3⟩⟩
  ·obtain rfl:k=L.length:=by omega
   gi_wp2
   go_end0
   exact ⟨⟨_,rfl⟩,.inl ⟨_,rfl,hJs⟩⟩
theorem back_mk {w:World} {A:Option Addr} {l c:Nat}:Calls Tryz.prog 63 #[.slice A l c] w fun e w'=>e = .returned (.func (.func 83) #[] #[.pointer (some ⟨w.heap.size,0,none⟩)])∧w.alloc (.cells #[.slice A l c] 28)=w':=by
 go_enter Tryz.func63,Tryz.ntmps63
 go_wp2
 go_ret
 exact ⟨rfl,rfl⟩
theorem back_stops {n:Nat} (hn:1≤n) (Bs c1:Nat) (w:World) (A1:Option Addr) (L:List S30) (ad:Addr) (fA:Nat→Option Addr) (fc:Nat→Nat) (hnn:L.length < 4294967296)
  (hA:0 < L.length→A1=some ad) (hc:KidsAt w ad L fA fc) (W0:World) (hW:Below w.heap.size w W0) (hBs:W0.heap[Bs]?=some (.cells #[.slice A1 L.length c1] 28 (0,0))):
  SeqStopsK Fence.wide n Tryz.prog 83 #[.pointer (some ⟨Bs,0,none⟩)] (encB L fA fc) (fun W W'=>Below w.heap.size W W'∧W'.heap[Bs]?=W.heap[Bs]?) (fun ys=>ys=down L.length L.length) (fun pre=>∃ k,k≤L.length∧pre=down L.length k) L.length W0:=fun l J Jx W hW1 _ _ hY h0=>
 back_in Fence.wide n trivial rfl hn l Bs c1 w A1 L ad fA fc hnn hA hc J Jx hY W ((hW1.block Bs (blk_lt hBs)).trans hBs) (hW.trans (hW1.mono hW.size)) h0
theorem leaves_marks {n:Nat} {fn:Func} {tmps:Array Value} {R:Ending→World→Prop} {v:Value} (hv:∀ W:World,(results fn tmps).run Tryz.prog W = .ok v W):
  ∀ (ds:List Nat) (W:World),ds.Nodup→(∀ D∈ds,W.heap[D]?=some (.deferred (some []))) →
   (∀ W':World,(∀ k,k ∉ ds→W'.heap[k]?=W.heap[k]?)→W'.heap.size=W.heap.size→W'.os=W.os→W'.tape=W.tape→W'.output=W.output→R (.returned v) W') →
   LeavesInM Fence.wide n Tryz.prog fn tmps R (ds.map fun D=>{target:=.collected D,args:=#[]}) .returning W
 | [],W,_,_,hR=>⟨v,hv W,hR W (fun _ _=>rfl) rfl rfl rfl rfl⟩
 |D :: ds,W,hn,hd,hR=>by
  have hn':=List.nodup_cons.1 hn;have hD:=hd D List.mem_cons_self;refine ⟨by simp,.inl ⟨D,_,rfl,run_takeDeferred hD,?_⟩⟩;have hoth:∀ k,k≠D→(W.putObj D (.deferred none)).heap[k]?=W.heap[k]?:=fun k hk=>World.putObj_heap_other (fun e=>hk e)
  refine leaves_marks hv ds _ hn'.2 (fun D' hD'=>(hoth D' (fun e=>hn'.1 (e ▸ hD'))).trans (hd D' (List.mem_cons_of_mem _ hD'))) (fun W' h1 h2 h3 h4 h5=>hR W' (fun k hk=>(h1 k (fun e=>hk (List.mem_cons_of_mem _ e))).trans (hoth k (fun e=>hk (e ▸ List.mem_cons_self)))) ?_ h3 h4 h5);rw [h2];simp [World.putObj]
section
variable {F:Fence} {nF:Nat} {P:Program} {ops:Array Oper} {rest:List Oper} {o:Oper} {a:Act} {Q:Exit→Act→World→Prop} {α : Type} {R : α → List Value→Prop}
theorem OwnRow_appendIn {w0 W:World} (base:Nat) (hgd:o.guard=none) (s x:Operand) (t e:TypeId) (z:Value) (size bytes:Nat)
  (ho:o.op = .call {callee:=.builtin .append,args:=#[s,x],argTypes:=#[t,t]})
  (ht:P.underlying t=some (.slice e)) (hinfo:(P.info? e).map (fun i=>(i.zero,i.size,i.bytes))=some (some z,size,bytes)) (hz:z.cells.size=size) (hs0:0 < size) (hb0:0 < bytes)
  (v:Value) (ps:List α) (p : α) (cs:List Value) (hs:a.eval s=v) (hx:a.eval x = .slice (some ⟨W.heap.size,0,none⟩) 1 1) (hp:R p cs) (hcs:cs.length=size) (h1:∀ u∈cs,u.oneCell'=true)
  (HO:OwnRow R e size W base v ps) (HB:Below base w0 W) (hbase:base≤W.heap.size) (hl:(ps.length+1) * bytes≤140737488355328)
  (h:∀ v1 w1,OwnRow R e size w1 base v1 (ps++[p])→Below base w0 w1→W.grownBy w1 v.ownBlock→(v1.ownBlock=v.ownBlock∨∃ b,v1.ownBlock=some b∧W.heap.size≤b)→wpListIn F nF P ops Q rest (a.put o.dst v1) w1):
  wpListIn F nF P ops Q (o :: rest) a (W.alloc (.cells cs.toArray e)):=by
 obtain ⟨inner,hown,hr⟩:=HO;obtain ⟨i0,hi,hzz⟩:=Option.map_eq_some_iff.1 hinfo;simp only [Prod.mk.injEq] at hzz;obtain ⟨hz0,hz1,hz2⟩:=hzz;have hlen:ps.length+1≤140737488355328:=Nat.le_trans (Nat.le_mul_of_pos_right _ hb0) hl
 refine wpListIn_append_own_at (w:=W.alloc (.cells cs.toArray e)) hgd s x t ho base e i0 z size bytes ht hi hz0 hz1 hz2 hz hs0 v ps.length inner hs (hown.alloc _) ⟨W.heap.size,0,none⟩ 1 1 cs hx (by rw [hcs];simp)
  (by simpa using World.news_of_block (cs:=cs.toArray) (t:=e) (fr:=(0,0)) (World.alloc_heap_new W (.cells cs.toArray e))) h1 (by simp only [maxLen];omega) hl (by simp;omega) ?_
 intro v1 w1 hown1 hg _ hat;refine h v1 w1 ⟨inner++cs,by rw [List.length_append,List.length_singleton];exact hown1,hr.snoc hp hcs⟩ ((HB.alloc hbase _).grown hg (by simp;omega) (own_base hown)) (World.grownBy.trans (World.grownBy_alloc W _ _) hg) ?_;rcases hat with hat|hat
 ·exact .inl hat
 ·exact .inr ⟨_,hat,by simp⟩
end
structure WkS (w:World) (p4:Nat) (ds:List Nat) (v4 v3:Value) (st out:List S70) (W:World):Prop where
 cell:W.heap[p4]?=some (.cells #[v4] 68 (0,0))
 rs:OwnRow (k70.K w) 70 10 W w.heap.size v4 st
 ro:OwnRow (k70.K w) 70 10 W w.heap.size v3 out
 ne:v4.ownBlock=none∨v4.ownBlock≠v3.ownBlock
 below:Below w.heap.size w W
 marks:∀ D∈ds,W.heap[D]?=some (.deferred (some []))
 nd:ds.Nodup
 ge:∀ D∈ds,w.heap.size≤D
 pge:w.heap.size≤p4
section
variable {w W W':World} {p4:Nat} {ds:List Nat} {v4 v3:Value} {st out:List S70}
theorem own_cells {R:S70→List Value→Prop} {v:Value} {ps:List S70} {base:Nat} (h:OwnRow R 70 10 W base v ps) (k:Nat) (hk:v.ownBlock=some k):∃ cells,W.heap[k]?=some (.cells cells 70 (0,0)):=by
 obtain ⟨inner,ho,_⟩:=h;exact own_typed ho k hk
theorem own_blk_lt {R:S70→List Value→Prop} {v:Value} {ps:List S70} {base:Nat} (h:OwnRow R 70 10 W base v ps) (k:Nat) (hk:v.ownBlock=some k):k < W.heap.size:=by
 obtain ⟨cells,hc⟩:=own_cells h k hk;exact blk_lt hc
theorem WkS.lt (h:WkS w p4 ds v4 v3 st out W):p4 < W.heap.size:=blk_lt h.cell
theorem WkS.on (h:WkS w p4 ds v4 v3 st out W) (hb:Below W.heap.size W W'):WkS w p4 ds v4 v3 st out W':=
 ⟨(hb.block _ h.lt).trans h.cell,h.rs.below hb,h.ro.below hb,h.ne,h.below.trans (hb.mono h.below.size),fun D hD=>(hb.block _ (blk_lt (h.marks D hD))).trans (h.marks D hD),h.nd,h.ge,h.pge⟩
theorem own_not {R:S70→List Value→Prop} {v:Value} {ps:List S70} {base:Nat} (h:OwnRow R 70 10 W base v ps) {row:Option Nat} (hr:∀ r,row=some r→∃ o:Obj,W.heap[r]?=some o∧o.isCells=false):v.ownBlock=none∨v.ownBlock≠row:=by
 cases hv:v.ownBlock with
 |none=>exact .inl rfl
 |some k=>
  refine .inr (fun e=>?_);obtain ⟨cells,hc⟩:=own_cells h k hv;obtain ⟨o,ho,hoc⟩:=hr k e.symm;rw [hc] at ho;obtain rfl:=Option.some.inj ho;cases hoc
theorem WkS.other (h:WkS w p4 ds v4 v3 st out W) {row:Option Nat} (hg:W.grownBy W' row) (hr:∀ r,row=some r→(w.heap.size≤r∧r ∉ ds)∧∃ o:Obj,W.heap[r]?=some o∧o.isCells=false):WkS w p4 ds v4 v3 st out W':=by
 refine ⟨(hg.block _ h.lt (fun e=>?_)).trans h.cell,h.rs.other hg (own_not h.rs (fun r e=>(hr r e).2)),h.ro.other hg (own_not h.ro (fun r e=>(hr r e).2)),h.ne,h.below.grown hg h.below.size (fun k e=>(hr k e).1.1),fun D hD=>(hg.block _ (blk_lt (h.marks D hD)) (fun e=>(hr D e.symm).1.2 hD)).trans (h.marks D hD),h.nd,h.ge,h.pge⟩;obtain ⟨o,ho,hoc⟩:=(hr _ e.symm).2;rw [h.cell] at ho;obtain rfl:=Option.some.inj ho;cases hoc
theorem WkS.pushed (h:WkS w p4 ds v4 v3 st out W) {v':Value} {st':List S70} {W1:World} (hg:W.grownBy W1 v4.ownBlock) (hs:OwnRow (k70.K w) 70 10 W1 w.heap.size v' st') (hv:v'.ownBlock=v4.ownBlock∨∃ b,v'.ownBlock=some b∧W.heap.size≤b):
  WkS w p4 ds v' v3 st' out (W1.setCell ⟨p4,0,none⟩ v'):=by
 have hcell1:W1.heap[p4]?=some (.cells #[v4] 68 (0,0)):=(hg.block _ h.lt (fun e=>by
  obtain ⟨cells,hc⟩:=own_cells h.rs p4 e.symm;rw [h.cell] at hc
  cases hc)).trans h.cell
 have hro:=h.ro.other hg (by
  rcases h.ne with q|q
  ·cases hv3:v3.ownBlock with
   |none=>exact .inl rfl
   |some k=>right;rw [q];simp
  ·exact .inr (Ne.symm q))
 refine ⟨blk_put hcell1 0 v' rfl,hs.set_ hcell1 (by decide) 0 v',hro.set_ hcell1 (by decide) 0 v',?_,(h.below.grown hg h.below.size (fun k e=>?_)).setCell (p:=⟨p4,0,none⟩) h.pge v',fun D hD=>?_,h.nd,h.ge,h.pge⟩
 ·rcases hv with q|⟨b,q,hb⟩
  ·rw [q];exact h.ne
  ·right
   rw [q];intro e;have:=own_blk_lt h.ro b e.symm;omega
 ·obtain ⟨inner,ho,_⟩:=h.rs
  exact own_base ho k e
 ·have hD2:D≠p4:=fun e=>by
   have:=h.marks D hD;rw [e,h.cell] at this;cases this
  refine (Below.heap_setCell W1 ⟨p4,0,none⟩ v' D hD2).trans ((hg.block _ (blk_lt (h.marks D hD)) (fun e=>?_)).trans (h.marks D hD));obtain ⟨cells,hc⟩:=own_cells h.rs D e.symm;rw [h.marks D hD] at hc;cases hc
theorem WkS.popped (h:WkS w p4 ds v4 v3 st out W) {A:Option Addr} {n c:Nat} (hv:v4 = .slice A n c) {m:Nat} (hm:m≤st.length):WkS w p4 ds (.slice A m c) v3 (st.take m) out (W.setCell ⟨p4,0,none⟩ (.slice A m c)):=by
 subst hv;have hb:(Value.slice A m c).ownBlock=(Value.slice A n c).ownBlock:=by cases A<;>rfl
 refine h.pushed (W1:=W) ⟨rfl,rfl,rfl,Nat.le_refl _,fun _ _ _=>rfl⟩ ?_ (.inl hb);obtain ⟨inner,ho,hr⟩:=h.rs
 have hn:n=st.length:=by
  obtain ⟨A',c',he⟩:=own_slice ho;injection he
 subst hn;refine ⟨inner.take (m * 10),by rw [List.length_take,Nat.min_eq_left hm];exact own_take ho hm,?_⟩;refine ⟨by rw [List.length_take,hr.1,List.length_take];omega,fun j p hj=>?_⟩;have hjl:=(List.getElem?_eq_some_iff.1 hj).1;rw [List.length_take] at hjl;rw [List.getElem?_take,if_pos (by omega)] at hj;have:=hr.2 j p hj
 rwa [List.drop_take,List.take_take,Nat.min_eq_left (by omega)]
theorem WkS.told (h:WkS w p4 ds v4 v3 st out W) {v':Value} {out':List S70} {W1:World} (hg:W.grownBy W1 v3.ownBlock) (hs:OwnRow (k70.K w) 70 10 W1 w.heap.size v' out') (hv:v'.ownBlock=v3.ownBlock∨∃ b,v'.ownBlock=some b∧W.heap.size≤b):
  WkS w p4 ds v4 v' st out' W1:=by
 have hne:v4.ownBlock=none∨v4.ownBlock≠v3.ownBlock:=h.ne;refine ⟨(hg.block _ h.lt (fun e=>?_)).trans h.cell,h.rs.other hg hne,hs,?_,h.below.grown hg h.below.size (fun k e=>?_),fun D hD=>(hg.block _ (blk_lt (h.marks D hD)) (fun e=>?_)).trans (h.marks D hD),h.nd,h.ge,h.pge⟩
 ·obtain ⟨cells,hc⟩:=own_cells h.ro p4 e.symm
  rw [h.cell] at hc;cases hc
 ·rcases hv with q|⟨b,q,hb⟩
  ·rw [q];exact hne
  ·cases hv4:v4.ownBlock with
   |none=>exact .inl rfl
   |some k=>
    right
    rw [q];intro e;have:=own_blk_lt h.rs k hv4;obtain rfl:=Option.some.inj e;omega
 ·obtain ⟨inner,ho,_⟩:=h.ro
  exact own_base ho k e
 ·obtain ⟨cells,hc⟩:=own_cells h.ro D e.symm
  rw [h.marks D hD] at hc;cases hc
end
theorem rdk_K {w:World} {ad:Addr} {L:List S30} {fA:Nat→Option Addr} {fc:Nat→Nat} (h:KidsAt w ad L fA fc) (x:Nat):(rdk L x).f4.length≤fc x∧k30.C w (fA x) (rdk L x).f4.length (rdk L x).f4:=by
 by_cases hx:x < L.length
 ·obtain ⟨_,_,_,_,_,_,_,_,_,h9,hC⟩:=h x hx
  exact ⟨h9,hC⟩
 ·have:rdk L x=z30:=by
   unfold rdk rd_T30;rw [Int.toNat_natCast,List.getD_eq_getElem?_getD,List.getElem?_eq_none (by omega)];rfl
  rw [this];exact ⟨Nat.zero_le _,rfl,by decide,fun h=>absurd h (by decide)⟩
theorem down_all (L:List S30) (d:Int):(down L.length L.length).map (fun j=>(⟨rdk L j,d⟩:S70))=L.reverse.map (fun q=>(⟨q,d⟩:S70)):=by
 refine List.ext_getElem (by simp [down]) (fun i h1 h2=>?_);have hi:i < L.length:=by simpa [down] using h1
 simp only [down,List.map_map,List.getElem_map,List.getElem_range,Function.comp,List.getElem_reverse]
 congr 1
 unfold rdk rd_T30;rw [Int.toNat_natCast,List.getD_eq_getElem?_getD,List.getElem?_eq_getElem (by omega)];rfl
theorem WkS.marked {w W:World} {p4:Nat} {ds:List Nat} {v4 v3:Value} {st out:List S70} (h:WkS w p4 ds v4 v3 st out W) {D:Nat} (hD:W.heap[D]?=some (.deferred (some []))) (hge:w.heap.size≤D) (hn:D ∉ ds):WkS w p4 (D :: ds) v4 v3 st out W:=
 ⟨h.cell,h.rs,h.ro,h.ne,h.below,fun D' hD'=>(List.mem_cons.1 hD').elim (fun e=>e ▸ hD) (h.marks D'),List.nodup_cons.2 ⟨hn,h.nd⟩,fun D' hD'=>(List.mem_cons.1 hD').elim (fun e=>e ▸ hge) (h.ge D'),h.pge⟩
attribute [local go_sem] Oper.semAt_some
attribute [local go_sem] run_fl_eql run_fl_neq run_fl_lss run_fl_leq run_fl_gtr run_fl_geq unary_fl_neg run_cx_eql run_cx_neq run_cx_make run_cx_real run_cx_imag run_fl_of run_fl_to64 run_fl_add run_fl_sub run_fl_mul run_cx_add run_cx_sub run_cx_store run_fl_store str_gtr str_leq str_geq cell_put3_0 cell_put3_1 cell_put4_0 cell_put4_1 max2_int min2_int max_two min_two max_three min_three max_four min_four
theorem wrapJ {x:Int} (h1 : -9223372036854775808≤x) (h2:x≤9223372036854775807):IntKind.i64.wrap x=x:=by
 simp only [IntKind.wrap,IntKind.signed,IntKind.bits];simp;omega
set_option maxRecDepth 100000 in
set_option maxHeartbeats 4000000 in
theorem walk_calls (k:Nat) (p:S30) (A0:Option Addr) (c0:Nat) (r:List S70) (w:World) (hr:Kd.C k30 w A0 p.f4.length p.f4) (hc:p.f4.length≤c0) (h:walkS k [⟨p,1⟩] []=some r):
  Calls Tryz.prog 27 #[.agg #[.int .i64 p.f0,.int .i64 p.f1,.int .i64 p.f2.f0,.int .i64 p.f2.f1,.string p.f2.f2,.complex .f64 p.f2.f3.1 p.f2.f3.2,.complex .f64 p.f3.f0.1 p.f3.f0.2,.complex .f64 p.f3.f1.1 p.f3.f1.2,.slice A0 p.f4.length c0]] w fun e w'=>∃ A c,e = .returned (.slice A r.length c)∧r.length≤c∧Kd.C k70 w' A r.length r∧Below w.heap.size w w':=by
 refine (callsIn_wide (n:=5)).1 ?_;refine callsIn_of_wp_marks Tryz.func27 rfl trivial ?_ rfl;refine wpIn_wide.2 ?_;simp only [Tryz.ntmps27,List.size_toArray,List.length_cons,List.length_nil,Nat.reduceAdd,Nat.reduceSub,Array.replicate_succ,Array.replicate_zero,List.push_toArray,List.append_toArray,List.nil_append,List.cons_append]
 go_wp2
 refine wp_scope_labs ?_;intro G_ hG_
 go_wp2
 go_step3
 simp only [Exit.then]
 go_step
 refine label_ghost hG_ 0 (by rfl) (fun kq_ a_ w_=>∃ (x0 x1 x2 x5 x6 x7 x8 x9 x10 x11 x12 x13 x14 x15 x16 x17 x18 x19 x20 x21 x22 x23 x24 x25 x26 x27 x28 x29 x30 x31 x32 x33 x34 x35 x36 x37 x38 x39 x40 x41 x42 x43 v3 v4:Value) (st out:List S70) (ds:List Nat),a_=(⟨#[x0,x1,x2,v3,.pointer (some ⟨w.heap.size+2,0,none⟩),x5,x6,x7,x8,x9,x10,x11,x12,x13,x14,x15,x16,x17,x18,x19,x20,x21,x22,x23,x24,x25,x26,x27,x28,x29,x30,x31,x32,x33,x34,x35,x36,x37,x38,x39,x40,x41,x42,x43],ds.map fun D=>{target:=.collected D,args:=#[]}⟩:Act)∧WkS w (w.heap.size+2) ds v4 v3 st out w_∧walkS kq_ st out=some r) k ?_ ?_
 ·refine ⟨_,_,_,_,_,_,_,_,_,_,_,_,_,_,_,_,_,_,_,_,_,_,_,_,_,_,_,_,_,_,_,_,_,_,_,_,_,_,_,_,_,_,_,.slice (some ⟨w.heap.size+1,0,none⟩) 1 1,[⟨p,1⟩],[],[],rfl,?_,h⟩
  have hk:=k70_mk w ⟨p,1⟩ hc hr;have hB1:Below w.heap.size w (w.alloc (.cells #[.int .i64 p.f0,.int .i64 p.f1,.int .i64 p.f2.f0,.int .i64 p.f2.f1,.string p.f2.f2,.complex .f64 p.f2.f3.1 p.f2.f3.2,.complex .f64 p.f3.f0.1 p.f3.f0.2,.complex .f64 p.f3.f1.1 p.f3.f1.2,.slice A0 p.f4.length c0] 30)):=below_alloc (Below.refl _ _) _;have hrep:=(Reps.none (k70.K w) 10).snoc hk rfl;have hl:=OwnRow.lit (e:=70) (w.alloc (.cells #[.int .i64 p.f0,.int .i64 p.f1,.int .i64 p.f2.f0,.int .i64 p.f2.f1,.string p.f2.f2,.complex .f64 p.f2.f3.1 p.f2.f3.2,.complex .f64 p.f3.f0.1 p.f3.f0.2,.complex .f64 p.f3.f1.1 p.f3.f1.2,.slice A0 p.f4.length c0] 30)) w.heap.size hrep (by simp) (by simp);rw [World.size_alloc] at hl;refine ⟨?_,hl.below (below_alloc (Below.refl _ _) _),OwnRow.none_ _ _ _ _ _,.inr (by simp [Value.ownBlock]),below_alloc (below_alloc hB1 _) _,by simp,List.nodup_nil,by simp,by simp⟩;have:=World.alloc_heap_new ((w.alloc (.cells #[.int .i64 p.f0,.int .i64 p.f1,.int .i64 p.f2.f0,.int .i64 p.f2.f1,.string p.f2.f2,.complex .f64 p.f2.f3.1 p.f2.f3.2,.complex .f64 p.f3.f0.1 p.f3.f0.2,.complex .f64 p.f3.f1.1 p.f3.f1.2,.slice A0 p.f4.length c0] 30)).alloc (.cells #[.int .i64 p.f0,.int .i64 p.f1,.int .i64 p.f2.f0,.int .i64 p.f2.f1,.string p.f2.f2,.complex .f64 p.f2.f3.1 p.f2.f3.2,.complex .f64 p.f3.f0.1 p.f3.f0.2,.complex .f64 p.f3.f1.1 p.f3.f1.2,.slice A0 p.f4.length c0,.int .i64 1] 70)) (.cells #[.slice (some ⟨w.heap.size+1,0,none⟩) 1 1] 68)
  simpa using this
 ·intro kk a_ wr hI J K hJ hK hKG
  obtain ⟨x0,x1,x2,x5,x6,x7,x8,x9,x10,x11,x12,x13,x14,x15,x16,x17,x18,x19,x20,x21,x22,x23,x24,x25,x26,x27,x28,x29,x30,x31,x32,x33,x34,x35,x36,x37,x38,x39,x40,x41,x42,x43,v3,v4,st,out,ds,rfl,hS,hw⟩:=hI
  obtain ⟨kk',rfl⟩:∃ kk',kk=kk'+1:=by
   cases kk with
   |zero=>simp [walkS] at hw
   |succ kk'=>exact ⟨kk',rfl⟩
  rw [walkS] at hw;have HSN:=Mk hS.nd;rcases List.eq_nil_or_concat st with rfl|⟨st',t,rfl⟩
  ·obtain rfl:out=r:=by simpa using hw
   obtain ⟨Av,cv,rfl,_⟩:=hS.rs.slice_;have c4:wr.cell? ⟨w.heap.size+2,0,none⟩=some (.slice Av 0 cv):=(blk_cell hS.cell 0).trans rfl;obtain ⟨A3,c3,rfl,h3⟩:=hS.ro.slice_;have HS:=Mk hS;clear hS hw
   go_wp2
   rw [labs_ret];refine leaves_marks (v:=.slice A3 out.length c3) (fun W=>by simp [results,Tryz.f27,go_sem]) ds wr HS.out.nd HS.out.marks (fun W' h1 h2 h4 h5 h6=>?_);have hB:Below w.heap.size w W':=HS.out.below.trans ⟨h4,h5,h6,by omega,fun k hk=>h1 k (fun e=>by have:=HS.out.ge k e;omega)⟩;obtain ⟨A3',c3',e3,h3',hrow⟩:=HS.out.ro.reads;injection e3 with e3a _ e3c
   subst e3a e3c;refine ⟨_,_,rfl,h3,?_,hB⟩;refine ⟨hrow.1,hrow.2.1,fun hp=>?_⟩;obtain ⟨ad,hA,hcell⟩:=hrow.2.2 hp;refine ⟨ad,hA,fun j x hj=>?_⟩;obtain ⟨cs,hcl,hK',hcc⟩:=hcell j x hj;refine ⟨cs,hcl,k70.K_below hB hK',fun i u hu=>?_⟩;have hcell:=hcc i u hu;rw [← hcell];refine World.cell?_of_block (h1 _ (fun e=>?_));have hm:wr.heap[(ad.add (j * 10+i)).block]?=_:=HS.out.marks _ e;simp [World.cell?,hm] at hcell
  ·rw [List.concat_eq_append] at hw hS
   have hgl:(st'++[t]).getLast?=some t:=by simp
   have hdl:(st'++[t]).dropLast=st':=by simp
   rw [hgl,hdl] at hw;dsimp only at hw
   split at hw
   case isFalse=>cases hw
   rename_i hcond
   obtain ⟨ho1,ho2,ho3⟩:=hcond;rw [List.length_append,List.length_singleton] at ho2;obtain ⟨n,hn⟩:∃ n,st'.length=n:=⟨_,rfl⟩;have hlen:(st'++[t]).length=n+1:=by rw [List.length_append,List.length_singleton,hn]
   obtain ⟨Av,cv,rfl,hlc,hrow⟩:=hS.rs.reads;rw [hlen] at hlc hrow hS;obtain ⟨ad,cs,rfl,_,hK0,hcs⟩:=hrow.get_ z70 (n:Int) (by omega) (by omega)
   have hget:(st'++[t]).getD ((n:Int)).toNat z70=t:=by
    rw [List.getD_eq_getElem?_getD,Int.toNat_natCast,← hn,List.getElem?_concat_length];rfl
   rw [hget] at hK0;rw [Int.toNat_natCast] at hcs;obtain ⟨A8,c8,rfl,hl8,hC8⟩:=k70_open hK0;have q0:=hcs 0 _ rfl;have q1:=hcs 1 _ rfl;have q2:=hcs 2 _ rfl;have q3:=hcs 3 _ rfl;have q4:=hcs 4 _ rfl;have q5:=hcs 5 _ rfl;have q6:=hcs 6 _ rfl;have q7:=hcs 7 _ rfl;have q8:=hcs 8 _ rfl;have q9:=hcs 9 _ rfl;rw [Nat.add_zero] at q0;rw [add_field _ _ 1 (by omega)] at q1;rw [add_field _ _ 2 (by omega)] at q2;rw [add_field _ _ 3 (by omega)] at q3;rw [add_field _ _ 4 (by omega)] at q4;rw [add_field _ _ 5 (by omega)] at q5;rw [add_field _ _ 6 (by omega)] at q6;rw [add_field _ _ 7 (by omega)] at q7;rw [add_field _ _ 8 (by omega)] at q8;rw [add_field _ _ 9 (by omega)] at q9;have c4:wr.cell? ⟨w.heap.size+2,0,none⟩=some (.slice (some ad) (n+1) cv):=(blk_cell hS.cell 0).trans rfl;have f4:=blk_frozen hS.cell 0
   have hw1:IntKind.i64.wrap ((n:Int)+1 - 1)=(n:Int):=by
    rw [Int.add_sub_cancel];exact wrapJ (by omega) (by omega)
   have hw0:IntKind.i64.wrap (n:Int)=(n:Int):=wrapJ (by omega) (by omega);have hn0:(0:Int)≤(n:Int):=by omega
   have hn1:(n:Int) < (n:Int)+1:=by omega
   have HQ:=Mk hcs;have HS:=Mk hS;have HW:=Mk hw;clear hS hw hcs hrow hget hgl hdl h hr
   go_upto_region 6 with (fail)
   clear q0 q1 q2 q3 q4 q5 q6 q7 q8 q9;obtain ⟨W5,hW5⟩:∃ W,W=wr.alloc (.cells #[.int .i64 t.f0.f0,.int .i64 t.f0.f1,.int .i64 t.f0.f2.f0,.int .i64 t.f0.f2.f1,.string t.f0.f2.f2,.complex .f64 t.f0.f2.f3.1 t.f0.f2.f3.2,.complex .f64 t.f0.f3.f0.1 t.f0.f3.f0.2,.complex .f64 t.f0.f3.f1.1 t.f0.f3.f1.2,.slice A8 t.f0.f4.length c8,.int .i64 t.f1] 70):=⟨_,rfl⟩;rw [← hW5];obtain ⟨p5,hp5⟩:∃ p5,p5=wr.heap.size:=⟨_,rfl⟩;rw [← hp5];have hb5:Below wr.heap.size wr W5:=by rw [hW5];exact below_alloc (Below.refl _ _) _
   have hS5:=HS.out.on hb5;have t5:W5.heap[p5]?=some (.cells #[.int .i64 t.f0.f0,.int .i64 t.f0.f1,.int .i64 t.f0.f2.f0,.int .i64 t.f0.f2.f1,.string t.f0.f2.f2,.complex .f64 t.f0.f2.f3.1 t.f0.f2.f3.2,.complex .f64 t.f0.f3.f0.1 t.f0.f3.f0.2,.complex .f64 t.f0.f3.f1.1 t.f0.f3.f1.2,.slice A8 t.f0.f4.length c8,.int .i64 t.f1] 70 (0,0)):=by rw [hW5,hp5];exact World.alloc_heap_new _ _
   have s5:p5 < W5.heap.size:=blk_lt t5;have hne5:(∀ v st,OwnRow (k70.K w) 70 10 wr w.heap.size v st→v.ownBlock≠some p5):=fun v st h e=>by have:=own_blk_lt h p5 e;omega
   have hp4:p5≠w.heap.size+2:=by rw [hp5];have:=HS.out.lt;omega
   have hge5:w.heap.size≤p5:=by rw [hp5];exact HS.out.below.size
   have n4:=hne5 _ _ HS.out.rs;have n3:=hne5 _ _ HS.out.ro;clear hne5;have hp:=hS5.popped (A:=some ad) rfl (m:=n) (by rw [hlen];omega);rw [List.take_append_of_le_length (by omega),← hn,List.take_length,hn] at hp;have c4:W5.cell? ⟨w.heap.size+2,0,none⟩=some (.slice (some ad) (n+1) cv):=(blk_cell hS5.cell 0).trans rfl;have f4:=blk_frozen hS5.cell 0;have HP:=Mk hp;clear hp hS5 hW5 hp5 hb5
   go_upto_region 7 with (fail)
   have t6:(W5.setCell ⟨w.heap.size+2,0,none⟩ (.slice (some ad) n cv)).heap[p5]?=some (.cells #[.int .i64 t.f0.f0,.int .i64 t.f0.f1,.int .i64 t.f0.f2.f0,.int .i64 t.f0.f2.f1,.string t.f0.f2.f2,.complex .f64 t.f0.f2.f3.1 t.f0.f2.f3.2,.complex .f64 t.f0.f3.f0.1 t.f0.f3.f0.2,.complex .f64 t.f0.f3.f1.1 t.f0.f3.f1.2,.slice A8 t.f0.f4.length c8,.int .i64 t.f1] 70 (0,0)):=(Below.heap_setCell W5 ⟨w.heap.size+2,0,none⟩ _ p5 hp4).trans t5;have s6:p5 < (W5.setCell ⟨w.heap.size+2,0,none⟩ (.slice (some ad) n cv)).heap.size:=blk_lt t6;clear t5 s5 c4 f4
   generalize (W5.setCell ⟨w.heap.size+2,0,none⟩ (.slice (some ad) n cv))=W6 at *
   have e0:W6.cell? ⟨p5,0,none⟩=_:=(blk_cell t6 0).trans rfl;have e1:W6.cell? ⟨p5,1,none⟩=_:=(blk_cell t6 1).trans rfl;have e2:W6.cell? ⟨p5,2,none⟩=_:=(blk_cell t6 2).trans rfl;have e3:W6.cell? ⟨p5,3,none⟩=_:=(blk_cell t6 3).trans rfl;have e4:W6.cell? ⟨p5,4,none⟩=_:=(blk_cell t6 4).trans rfl;have e5:W6.cell? ⟨p5,5,none⟩=_:=(blk_cell t6 5).trans rfl;have e6:W6.cell? ⟨p5,6,none⟩=_:=(blk_cell t6 6).trans rfl;have e7:W6.cell? ⟨p5,7,none⟩=_:=(blk_cell t6 7).trans rfl;have e8:W6.cell? ⟨p5,8,none⟩=_:=(blk_cell t6 8).trans rfl;have e9:W6.cell? ⟨p5,9,none⟩=_:=(blk_cell t6 9).trans rfl
   go_upto_region 8 with (at_builtin;refine OwnRow.append (R:=k70.K w) (w0:=w) w.heap.size rfl (.tmp 26) (.tmp 28) 68 70 (.agg #[.int .i64 0,.int .i64 0,.int .i64 0,.int .i64 0,.string ⟨#[]⟩,.complex .f64 0 0,.complex .f64 0 0,.complex .f64 0 0,.slice none 0 0,.int .i64 0]) 10 128 rfl Tryz.underlying68 kR rfl (by decide) (by decide) v3 out t [.int .i64 t.f0.f0,.int .i64 t.f0.f1,.int .i64 t.f0.f2.f0,.int .i64 t.f0.f2.f1,.string t.f0.f2.f2,.complex .f64 t.f0.f2.f3.1 t.f0.f2.f3.2,.complex .f64 t.f0.f3.f0.1 t.f0.f3.f0.2,.complex .f64 t.f0.f3.f1.1 t.f0.f3.f1.2,.slice A8 t.f0.f4.length c8,.int .i64 t.f1] rfl rfl hK0 rfl (k70.K_one hK0) HP.out.ro HP.out.below HP.out.below.size (by omega) ?_;intro v1 W7 hO7 hB7 hg7 hv7)
   have HP7:=HP.out.told hg7 hO7 hv7;have t7:=(hg7.block p5 s6 (fun e=>n3 e.symm)).trans t6;clear e0 e1 e2 e3 e4 e5 e6 e7 e8 e9 hO7 hB7;have k8:W7.cell? ⟨p5,8,none⟩=some (.slice A8 t.f0.f4.length c8):=(blk_cell t7 8).trans rfl;obtain ⟨ad8,fA,fc,hA8,hKids⟩:=kids_at hC8
   go_upto_block 0 with (go_at_call 63;refine back_mk.mono ?_;rintro e w' ⟨rfl,rfl⟩)
   obtain ⟨W8,hW8⟩:∃ W,W=W7.alloc (.cells #[.slice A8 t.f0.f4.length c8] 28):=⟨_,rfl⟩;rw [← hW8];obtain ⟨Bs,hBs⟩:∃ B,B=W7.heap.size:=⟨_,rfl⟩;rw [← hBs];have hb8:Below W7.heap.size W7 W8:=by rw [hW8];exact below_alloc (Below.refl _ _) _
   have hS8:=HP7.on hb8;have b8:W8.heap[Bs]?=some (.cells #[.slice A8 t.f0.f4.length c8] 28 (0,0)):=by rw [hW8,hBs];exact World.alloc_heap_new _ _
   have t8:W8.heap[p5]?=some (.cells #[.int .i64 t.f0.f0,.int .i64 t.f0.f1,.int .i64 t.f0.f2.f0,.int .i64 t.f0.f2.f1,.string t.f0.f2.f2,.complex .f64 t.f0.f2.f3.1 t.f0.f2.f3.2,.complex .f64 t.f0.f3.f0.1 t.f0.f3.f0.2,.complex .f64 t.f0.f3.f1.1 t.f0.f3.f1.2,.slice A8 t.f0.f4.length c8,.int .i64 t.f1] 70 (0,0)):=(hb8.block p5 (blk_lt t7)).trans t7;have HS8:=Mk hS8;have HW8:=Mk (fun D (hD:D∈ds)=>blk_lt (hS8.marks D hD));clear hW8 hBs hb8 HP7 t7 k8 hg7 hv7;have hlL:t.f0.f4.length < 4294967296∨True:=.inr trivial;refine (wpIn_wide (n:=5)).1 ?_
   gi_wp2
   refine wpIn_rangeFunc_ownH (F:=Fence.wide) rfl (by omega) (gf:=83) (lb:=#[.pointer (some ⟨Bs,0,none⟩)]) rfl trivial (enters_of Tryz.func83 kR rfl)
    (back_stops (by omega) Bs c8 w A8 t.f0.f4 ad8 fA fc (by omega) hA8 hKids W8 HS8.out.below b8)
    (fun h1 h2=>⟨h1.1.trans h2.1,h2.2.trans h1.2⟩) (fun W l o o' hl ho h1 h2=>⟨belowK_b HS8.out.below.size W l o o' hl ho h1 h2,World.putObj_heap_other (fun e=>by have:=blk_lt b8;omega)⟩) (Below.refl _ _) (fun _=>rfl)
    (fun pre W=>∃ v4,WkS w (w.heap.size+2) ds v4 v1 (st'++pre.map (fun j=>(⟨rdk t.f0.f4 j,t.f1+1⟩:S70))) (out++[t]) W∧W.heap[p5]?=some (.cells #[.int .i64 t.f0.f0,.int .i64 t.f0.f1,.int .i64 t.f0.f2.f0,.int .i64 t.f0.f2.f1,.string t.f0.f2.f2,.complex .f64 t.f0.f2.f3.1 t.f0.f2.f3.2,.complex .f64 t.f0.f3.f0.1 t.f0.f3.f0.2,.complex .f64 t.f0.f3.f1.1 t.f0.f3.f1.2,.slice A8 t.f0.f4.length c8,.int .i64 t.f1] 70 (0,0))∧W.heap[Bs]?=some (.cells #[.slice A8 t.f0.f4.length c8] 28 (0,0))∧v4.ownBlock≠some p5∧W8.heap.size≤W.heap.size)
    (fun c pre W=>False) ?hI ?hIx ?h0 (fun x a' W=>∃ (Bx:Nat) (y0 y1 y2 y3 y6 y8 y9 y10 y11 y12 y13 y14 y15 y16 y17 y18 y19 y20 y21 y22 y23 y24 y25 y26 y27 y28 y29 y30 y31 y32 y33 y34 y35 y36 y37 y38 y39 y40 y41 y42 y43:Value),W8.heap.size≤Bx∧W.heap[Bx]?=some (.cells #[.int .i64 (rdk t.f0.f4 x).f0,.int .i64 (rdk t.f0.f4 x).f1,.int .i64 (rdk t.f0.f4 x).f2.f0,.int .i64 (rdk t.f0.f4 x).f2.f1,.string (rdk t.f0.f4 x).f2.f2,.complex .f64 (rdk t.f0.f4 x).f2.f3.1 (rdk t.f0.f4 x).f2.f3.2,.complex .f64 (rdk t.f0.f4 x).f3.f0.1 (rdk t.f0.f4 x).f3.f0.2,.complex .f64 (rdk t.f0.f4 x).f3.f1.1 (rdk t.f0.f4 x).f3.f1.2,.slice (fA x) (rdk t.f0.f4 x).f4.length (fc x)] 30 (0,0))∧a'=⟨#[y0,y1,y2,y3,.pointer (some ⟨w.heap.size+2,0,none⟩),.pointer (some ⟨p5,0,none⟩),y6,.pointer (some ⟨Bx,0,none⟩),y8,y9,y10,y11,y12,y13,y14,y15,y16,y17,y18,y19,y20,y21,y22,y23,y24,y25,y26,y27,y28,y29,y30,y31,y32,y33,y34,y35,y36,y37,y38,y39,y40,y41,y42,y43],[]⟩) ?hAx ?assign ?body ?done ?stop
   case hI=>
    rintro pre W W' row ⟨v4,h1,h2,h3,h4,h5⟩ hg hr;refine ⟨v4,h1.other hg (fun r e=>⟨⟨by have:=(hr r e).1;have:=HS8.out.below.size;omega,fun hD=>by have:=(hr r e).1;have:=HW8.out r hD;omega⟩,(hr r e).2⟩),?_,?_,h4,Nat.le_trans h5 hg.size⟩
    ·exact (hg.block p5 (blk_lt h2) (fun e=>by have:=(hr p5 e.symm).1;have:=blk_lt t8;omega)).trans h2
    ·exact (hg.block Bs (blk_lt h3) (fun e=>by have:=(hr Bs e.symm).1;have:=blk_lt b8;omega)).trans h3
   case hIx=>exact fun c s W W' row h _ _=>h
   case h0=>exact ⟨.slice (some ad) n cv,by simpa using HS8.out,t8,b8,n4,Nat.le_refl _⟩
   case hAx=>
    rintro x a' s W W' row ⟨Bx,y0,y1,y2,y3,y6,y8,y9,y10,y11,y12,y13,y14,y15,y16,y17,y18,y19,y20,y21,y22,y23,y24,y25,y26,y27,y28,y29,y30,y31,y32,y33,y34,y35,y36,y37,y38,y39,y40,y41,y42,y43,h1,h2,h3⟩ hg hr;refine ⟨Bx,y0,y1,y2,y3,y6,y8,y9,y10,y11,y12,y13,y14,y15,y16,y17,y18,y19,y20,y21,y22,y23,y24,y25,y26,y27,y28,y29,y30,y31,y32,y33,y34,y35,y36,y37,y38,y39,y40,y41,y42,y43,h1,(hg.block Bx (blk_lt h2) (fun e=>?_)).trans h2,h3⟩;obtain ⟨o,ho,hoc⟩:=(hr _ e.symm).2;rw [h2] at ho;obtain rfl:=Option.some.inj ho;cases hoc
   case assign=>
    rintro l pre x W K2 ⟨v4,h1,h2,h3,h4,h5⟩ hK2;dsimp only [encB]
    gi_wp2
    have hb:Below W.heap.size W (W.alloc (.cells #[.int .i64 (rdk t.f0.f4 x).f0,.int .i64 (rdk t.f0.f4 x).f1,.int .i64 (rdk t.f0.f4 x).f2.f0,.int .i64 (rdk t.f0.f4 x).f2.f1,.string (rdk t.f0.f4 x).f2.f2,.complex .f64 (rdk t.f0.f4 x).f2.f3.1 (rdk t.f0.f4 x).f2.f3.2,.complex .f64 (rdk t.f0.f4 x).f3.f0.1 (rdk t.f0.f4 x).f3.f0.2,.complex .f64 (rdk t.f0.f4 x).f3.f1.1 (rdk t.f0.f4 x).f3.f1.2,.slice (fA x) (rdk t.f0.f4 x).f4.length (fc x)] 30)):=below_alloc (Below.refl _ _) _;exact hK2 _ _ ((KeepsOthers.alloc _ _).from _) ⟨hb.mono h1.below.size,hb.block _ (blk_lt h3)⟩ ⟨v4,h1.on hb,(hb.block _ (blk_lt h2)).trans h2,(hb.block _ (blk_lt h3)).trans h3,h4,Nat.le_trans h5 hb.size⟩ ⟨W.heap.size,_,_,_,_,_,_,_,_,_,_,_,_,_,_,_,_,_,_,_,_,_,_,_,_,_,_,_,_,_,_,_,_,_,_,_,_,_,_,_,_,_,h5,World.alloc_heap_new _ _,rfl⟩
   case body=>
    rintro l pre x a' W hl ⟨r0,hr0⟩ ⟨v4,h1,h2,h3,h4,h5⟩ ⟨Bx,y0,y1,y2,y3,y6,y8,y9,y10,y11,y12,y13,y14,y15,y16,y17,y18,y19,y20,y21,y22,y23,y24,y25,y26,y27,y28,y29,y30,y31,y32,y33,y34,y35,y36,y37,y38,y39,y40,y41,y42,y43,hB1,hB2,rfl⟩ hlt;have H1:=Mk h1;obtain ⟨kx1,kx2⟩:=rdk_K hKids x;have hKx:=k70_mk w ⟨rdk t.f0.f4 x,t.f1+1⟩ kx1 kx2;have cS:W.cell? ⟨w.heap.size+2,0,none⟩=some v4:=(blk_cell h1.cell 0).trans rfl;have g9:W.cell? ⟨p5,9,none⟩=some (.int .i64 t.f1):=(blk_cell h2 9).trans rfl;have b0:W.cell? ⟨Bx,0,none⟩=_:=(blk_cell hB2 0).trans rfl;have b1:W.cell? ⟨Bx,1,none⟩=_:=(blk_cell hB2 1).trans rfl;have b2:W.cell? ⟨Bx,2,none⟩=_:=(blk_cell hB2 2).trans rfl;have b3:W.cell? ⟨Bx,3,none⟩=_:=(blk_cell hB2 3).trans rfl;have b4:W.cell? ⟨Bx,4,none⟩=_:=(blk_cell hB2 4).trans rfl;have b5:W.cell? ⟨Bx,5,none⟩=_:=(blk_cell hB2 5).trans rfl;have b6:W.cell? ⟨Bx,6,none⟩=_:=(blk_cell hB2 6).trans rfl;have b7:W.cell? ⟨Bx,7,none⟩=_:=(blk_cell hB2 7).trans rfl;have b8':W.cell? ⟨Bx,8,none⟩=_:=(blk_cell hB2 8).trans rfl;have hwd:IntKind.i64.wrap (t.f1+1)=t.f1+1:=wrapJ (by omega) (by omega);have HL:=Mk hlt;clear h1 hB2
    gi_wp2_with (gi_at_builtin;refine OwnRow_appendIn (R:=k70.K w) (w0:=w) w.heap.size rfl (.tmp 36) (.tmp 42) 68 70 (.agg #[.int .i64 0,.int .i64 0,.int .i64 0,.int .i64 0,.string ⟨#[]⟩,.complex .f64 0 0,.complex .f64 0 0,.complex .f64 0 0,.slice none 0 0,.int .i64 0]) 10 128 rfl Tryz.underlying68 kR rfl (by decide) (by decide) v4 (st'++pre.map (fun j=>(⟨rdk t.f0.f4 j,t.f1+1⟩:S70))) ⟨rdk t.f0.f4 x,t.f1+1⟩ _ rfl rfl hKx rfl (k70.K_one hKx) H1.out.rs H1.out.below H1.out.below.size (by rw [List.length_append,List.length_map];have:=HL.out;omega) ?_;intro v9 W9 hO9 hB9 hg9 hv9;obtain ⟨A9,c9,rfl,_⟩:=hO9.slice_;have hl9:(st'++pre.map (fun j=>(⟨rdk t.f0.f4 j,t.f1+1⟩:S70))++[(⟨rdk t.f0.f4 x,t.f1+1⟩:S70)]).length=n+(pre.length+1):=(by rw [List.length_append,List.length_append,List.length_map,List.length_singleton];omega);rw [hl9] at hO9 hv9 ⊢;have z9:=(hg9.block _ H1.out.lt (OwnRow.ne_block H1.out.rs H1.out.cell (by decide))).trans H1.out.cell;have cz:W9.cell? ⟨w.heap.size+2,0,none⟩=some v4:=(blk_cell z9 0).trans rfl;have fz:=blk_frozen z9 0)
    have hpu:=H1.out.pushed hg9 hO9 hv9;have hnB:v4.ownBlock≠some Bs:=fun e=>OwnRow.ne_block H1.out.rs h3 (by decide) e.symm
    have hp4B:Bs≠w.heap.size+2:=fun e=>by have:=H1.out.cell;rw [← e,h3] at this;cases this
    have hBs9:=fun u=>(Below.heap_setCell W9 ⟨w.heap.size+2,0,none⟩ u Bs hp4B).trans (hg9.block Bs (blk_lt h3) (fun e=>hnB e.symm))
    refine ⟨⟨by simpa using hg9.size,fun k o hBk hko hoc=>?_⟩,⟨((Below.refl _ W).grown hg9 H1.out.below.size (fun k e=>?_)).setCell (p:=⟨w.heap.size+2,0,none⟩) H1.out.pge _,hBs9 _⟩,.slice A9 (n+(pre.length+1)) c9,?_,?_,(hBs9 _).trans h3,?_,Nat.le_trans h5 (by simpa using hg9.size)⟩
    ·have hk4:k≠w.heap.size+2:=fun e=>by
      have:=H1.out.cell;rw [← e,hko] at this;obtain rfl:=Option.some.inj this;cases hoc
     refine (Below.heap_setCell W9 ⟨w.heap.size+2,0,none⟩ _ k hk4).trans ((hg9.block k (blk_lt hko) (fun e=>?_)).trans hko);obtain ⟨cells,hcc⟩:=own_cells H1.out.rs k e.symm;rw [hko] at hcc;obtain rfl:=Option.some.inj hcc;cases hoc
    ·obtain ⟨inner,ho,_⟩:=H1.out.rs
     exact own_base ho k e
    ·rw [List.map_append,List.map_cons,List.map_nil,← List.append_assoc]
     exact hpu
    ·exact (Below.heap_setCell W9 ⟨w.heap.size+2,0,none⟩ _ p5 hp4).trans ((hg9.block p5 (blk_lt h2) (fun e=>h4 e.symm)).trans h2)
    ·intro e
     rcases hv9 with q|⟨b,q,hb⟩
     ·exact h4 (q.symm.trans e)
     ·have hq:=Option.some.inj (q.symm.trans e)
      have:=blk_lt h2;omega
   case done=>
    rintro D xs W hD rfl ⟨v4,h1,h2,h3,h4,h5⟩ hDf;have hm:=h1.marked hDf (by have:=HS8.out.below.size;omega) (fun hD'=>by have:=HW8.out D hD';omega);rw [down_all] at hm;clear h1 h2 h3 h4
    go_wp2
    go_step3
    refine hKG _ _ (hK _ _ (Handed.intro kk' (by omega) (hJ _ _ _ ?_)));exact ⟨_,_,_,_,_,_,_,_,_,_,_,_,_,_,_,_,_,_,_,_,_,_,_,_,_,_,_,_,_,_,_,_,_,_,_,_,_,_,_,_,_,_,_,v4,_,_,D :: ds,rfl,hm,HW.out⟩
   case stop=>exact fun D c pre W _ _ h _=>h.elim
theorem pred_Depth.calls (k:Nat) (a0_0:Int) (a0_1:Int) (a0_2:Int) (a0_3:Int) (a0_4:ByteArray) (a0_5:(Nat×Nat)) (a0_6:(Nat×Nat)) (a0_7:(Nat×Nat)) (A0_8:Option Addr) (c0_8:Nat) (l0_8:List (S30)) (r:Int) (w:World) (hr0_8:Kd.C k30 w A0_8 l0_8.length l0_8) (hc0_8:l0_8.length≤c0_8) (h:pred_Depth.f k a0_0 a0_1 a0_2 a0_3 a0_4 a0_5 a0_6 a0_7 l0_8=some r):
  Calls Tryz.prog 49 #[.agg #[.int .i64 a0_0,.int .i64 a0_1,.int .i64 a0_2,.int .i64 a0_3,.string a0_4,.complex .f64 a0_5.1 a0_5.2,.complex .f64 a0_6.1 a0_6.2,.complex .f64 a0_7.1 a0_7.2,.slice A0_8 l0_8.length c0_8]] w fun e w'=>e = .returned (.int .i64 r)∧Below w.heap.size w w':=by
 unfold pred_Depth.f at h;obtain ⟨l,h1,rfl⟩:=Option.map_eq_some_iff.1 h;have HR:=Mk hr0_8;have HC:=Mk hc0_8;clear hr0_8 h hc0_8;go_enter Tryz.func49,Tryz.ntmps49
 go_wp2_with (first|((with_reducible refine gate_callee (f:=27) rfl ?_);refine goesL_ (some 7) rfl rfl Tryz.func27 kR rfl #[.agg #[.int .i64 a0_0,.int .i64 a0_1,.int .i64 a0_2,.int .i64 a0_3,.string a0_4,.complex .f64 a0_5.1 a0_5.2,.complex .f64 a0_6.1 a0_6.2,.complex .f64 a0_7.1 a0_7.2,.slice A0_8 l0_8.length c0_8]] rfl mA ?_;(with_reducible refine (walk_calls k (⟨a0_0,a0_1,(⟨a0_2,a0_3,a0_4,a0_5⟩:S25),(⟨a0_6,a0_7⟩:S27),l0_8⟩:S30) A0_8 c0_8 l _ ?side1 ?side2 h1).mono ?_);(case side1=>repeat (first|exact HR.out|(with_reducible refine Kd.C_alloc ?_ _)));(case side2=>exact HC.out);rintro e w2 ⟨A7,c7,rfl,hc7,hC7,hB7⟩;refine ⟨_,rfl,?_⟩))
 have hB:=Mk ((below_alloc (Below.refl w.heap.size w) (.cells #[.int .i64 a0_0,.int .i64 a0_1,.int .i64 a0_2,.int .i64 a0_3,.string a0_4,.complex .f64 a0_5.1 a0_5.2,.complex .f64 a0_6.1 a0_6.2,.complex .f64 a0_7.1 a0_7.2,.slice A0_8 l0_8.length c0_8] 30)).trans (hB7.mono (by simp)));have hlen:=hC7.2.1;have HC7:=Mk hC7;clear hB7 hC7 HR HC h1
 go_loopg [3,9] l.length (fun kq v3 v9 w'=>∃ i:Nat,v9 = .int .i64 (i:Int)∧v3 = .int .i64 ((l.take i).foldl (fun n x=>if n < x.f1 then x.f1 else n) 0)∧Aside0 (i+kq=l.length)∧Aside0 (Below w.heap.size w w')∧Aside0 (Below w2.heap.size w2 w'))
 case atStart=>exact ⟨0,rfl,rfl,⟨by omega⟩,hB,⟨Below.refl _ _⟩⟩
 case round=>
  obtain ⟨i,rfl,rfl,HI,HB,HB2⟩:=hrel
  cases gk with
  |zero=>
   have hi:i=l.length:=by have:=HI.out;omega
   subst hi;have hd:decide (((l.length:Nat):Int) < (l.length:Int))=false:=decide_eq_false (by omega);rw [List.take_length]
   go_wp2
   go_ret
   exact ⟨rfl,HB.out⟩
  |succ k1=>
   have hi:i < l.length:=by have:=HI.out;omega
   obtain ⟨ad,A8,c8,e,q0,q1,q2,q3,q4,q5,q6,q7,q8,q9,_⟩:=at_T70 (Kd.C_below HC7.out HB2.out) (i:Int) (by omega) (by omega);subst e;rw [Int.toNat_natCast] at q0 q1 q2 q3 q4 q5 q6 q7 q8 q9;have hd:decide ((i:Int) < (l.length:Int))=true:=decide_eq_true (by omega);have p600:(0≤(i:Int))=True:=eq_true (by omega);have q600:((i:Int) < (l.length:Int))=True:=eq_true (by omega);have hx:l[i]?=some l[i]:=List.getElem?_eq_getElem hi
   have hr:rd_T70 l (i:Int)=l[i]:=by
    unfold rd_T70;rw [Int.toNat_natCast,List.getD_eq_getElem?_getD,hx];rfl
   have hf:(l.take (i+1)).foldl (fun n x=>if n < x.f1 then x.f1 else n) 0=if (l.take i).foldl (fun n x=>if n < x.f1 then x.f1 else n) 0 < l[i].f1 then l[i].f1 else (l.take i).foldl (fun n x=>if n < x.f1 then x.f1 else n) 0:=by
    rw [List.take_add_one,hx,List.foldl_append];rfl
   rw [hr] at q0 q1 q2 q3 q4 q5 q6 q7 q8 q9
   go_wp2
   case inl=>
    rw [if_pos h] at hf
    go_roundg k1
    case rel=>exact ⟨i+1,by first|rfl|(push_cast;rfl),by rw [hf],⟨by have:=HI.out;omega⟩,⟨below_alloc HB.out _⟩,⟨below_alloc HB2.out _⟩⟩
    case measure=>omega
   case inr=>
    rw [if_neg (by omega)] at hf
    go_roundg k1
    case rel=>exact ⟨i+1,by first|rfl|(push_cast;rfl),by rw [hf],⟨by have:=HI.out;omega⟩,⟨below_alloc HB.out _⟩,⟨below_alloc HB2.out _⟩⟩
    case measure=>omega
end Go.Proofs.YtcpjlbdjnaaaiaaGreatDoor.PAll
