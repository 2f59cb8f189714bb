import Derived.Test.YtcpjlbdjnaaaiaaGreatDoorPAllx7
import Derived.Test.YtcpjlbdjnaaaiaaGreatDoorPAllx10
namespace Go.Proofs.YtcpjlbdjnaaaiaaGreatDoor.PAll
open Go.Proofs.YtcpjlbdjnaaaiaaGreatDoor.Help
open Go.RowKit Go.Proofs.YtcpjlbdjnaaaiaaGreatDoorW.PrintWords Go.Proofs.YtcpjlbdjnaaaiaaGreatDoorW.PrintLast Go.Proofs.YtcpjlbdjnaaaiaaGreatDoorW.PrintMore
set_option linter.unusedVariables false
set_option linter.unusedSimpArgs false
mutual
def req_check.j0:Nat→Bool→Int→Int→List ByteArray→Int→Int→Int→Int→ByteArray→(Nat×Nat)→(Nat×Nat)→(Nat×Nat)→List (S30)→List (List (S25))→Option (Int)
 | 0,_,_,_,_,_,_,_,_,_,_,_,_,_,_=>none
 |k+1,x25,x181000,x181001,x181002,x181003,x181004,x181005,x181006,x181007,x181008,x181009,x181010,x181011,x181012=>if x25=true then (some 1) else (if x181000=1 then (if (x181002.length:Int)=0 then (req_check.j1 k true x181000 x181001 x181002 x181003 x181004 x181005 x181006 x181007 x181008 x181009 x181010 x181011 x181012) else (if x181000=4 then (req_check.j1 k ((x181012.length:Int) == 0) x181000 x181001 x181002 x181003 x181004 x181005 x181006 x181007 x181008 x181009 x181010 x181011 x181012) else (req_check.j1 k false x181000 x181001 x181002 x181003 x181004 x181005 x181006 x181007 x181008 x181009 x181010 x181011 x181012))) else (if x181000=4 then (req_check.j1 k ((x181012.length:Int) == 0) x181000 x181001 x181002 x181003 x181004 x181005 x181006 x181007 x181008 x181009 x181010 x181011 x181012) else (req_check.j1 k false x181000 x181001 x181002 x181003 x181004 x181005 x181006 x181007 x181008 x181009 x181010 x181011 x181012)))
def req_check.j1:Nat→Bool→Int→Int→List ByteArray→Int→Int→Int→Int→ByteArray→(Nat×Nat)→(Nat×Nat)→(Nat×Nat)→List (S30)→List (List (S25))→Option (Int)
 | 0,_,_,_,_,_,_,_,_,_,_,_,_,_,_=>none
 |k+1,x45,x181000,x181001,x181002,x181003,x181004,x181005,x181006,x181007,x181008,x181009,x181010,x181011,x181012=>if x45=true then (some 1) else ((val_Val_44.f k x181012).bind fun t182=>(if t182=true then (some 1) else ((slices_ContainsFunc_string_string.f k x181002).bind fun t183=>(if t183=true then (some 3) else (if x181000=1 then ((pred_Depth.f k x181003 x181004 x181005 x181006 x181007 x181008 x181009 x181010 x181011).bind fun t184=>(if t184 > 8 then (some 16) else ((req_parts.f k x181003 x181004 x181005 x181006 x181007 x181008 x181009 x181010 x181011).bind fun t185=>(some t185)))) else (req_check.l0 k x181012 (x181012.length:Int) 0))))))
def req_check.l0:Nat→List (List (S25))→Int→Int→Option (Int)
 | 0,_,_,_=>none
 |k+1,x63,x64,x65=>if x65 < x64 then (if 0≤x65 then (if x65 < (x63.length:Int) then (req_check.l1 k x63 x64 x65 (rd_L11 x63 x65) ((rd_L11 x63 x65).length:Int) 0) else (none)) else (none)) else (some 0)
def req_check.l1:Nat→List (List (S25))→Int→Int→List (S25)→Int→Int→Option (Int)
 | 0,_,_,_,_,_,_=>none
 |k+1,x63,x64,x65,x69,x70,x71=>if x71 < x70 then (if 0≤x71 then (if x71 < (x69.length:Int) then ((val_Check.f k ((rd_T25 x69 x71).f0) ((rd_T25 x69 x71).f1) ((rd_T25 x69 x71).f2) ((rd_T25 x69 x71).f3)).bind fun t189=>(if t189=0 then (req_check.l1 k x63 x64 x65 x69 x70 (wrap64 (x71+1))) else (some t189))) else (none)) else (none)) else (req_check.l0 k x63 x64 (wrap64 (x65+1)))
end
def req_check.f (k:Nat) (a0_0:Int) (a0_1:Int) (l0_2:List ByteArray) (a0_3:Int) (a0_4:Int) (a0_5:Int) (a0_6:Int) (a0_7:ByteArray) (a0_8:(Nat×Nat)) (a0_9:(Nat×Nat)) (a0_10:(Nat×Nat)) (l0_11:List (S30)) (l0_12:List (List (S25))):Option (Int):=if a0_0 < 1 then (req_check.j0 k true a0_0 a0_1 l0_2 a0_3 a0_4 a0_5 a0_6 a0_7 a0_8 a0_9 a0_10 l0_11 l0_12) else (if a0_0 > 5 then (req_check.j0 k true a0_0 a0_1 l0_2 a0_3 a0_4 a0_5 a0_6 a0_7 a0_8 a0_9 a0_10 l0_11 l0_12) else ((req_alone.f k a0_0 a0_1 l0_2 a0_3 a0_4 a0_5 a0_6 a0_7 a0_8 a0_9 a0_10 l0_11 l0_12).bind fun t181=>(if t181=true then (req_check.j0 k (decide (a0_1 < 0)) a0_0 a0_1 l0_2 a0_3 a0_4 a0_5 a0_6 a0_7 a0_8 a0_9 a0_10 l0_11 l0_12) else (req_check.j0 k true a0_0 a0_1 l0_2 a0_3 a0_4 a0_5 a0_6 a0_7 a0_8 a0_9 a0_10 l0_11 l0_12))))
set_option maxHeartbeats 8000000 in
set_option maxRecDepth 100000 in
theorem req_check.calls (k:Nat) (a0_0:Int) (a0_1:Int) (A0_2:Option Addr) (c0_2:Nat) (l0_2:List ByteArray) (a0_3:Int) (a0_4:Int) (a0_5:Int) (a0_6:Int) (a0_7:ByteArray) (a0_8:(Nat×Nat)) (a0_9:(Nat×Nat)) (a0_10:(Nat×Nat)) (A0_11:Option Addr) (c0_11:Nat) (l0_11:List (S30)) (A0_12:Option Addr) (c0_12:Nat) (l0_12:List (List (S25))) (r:Int) (w:World) (hr0_2:Kd.C Kd.string w A0_2 l0_2.length l0_2) (hc0_2:l0_2.length≤c0_2) (hr0_11:Kd.C k30 w A0_11 l0_11.length l0_11) (hc0_11:l0_11.length≤c0_11) (hr0_12:Kd.C (Kd.slice 25 k25) w A0_12 l0_12.length l0_12) (hc0_12:l0_12.length≤c0_12) (h:req_check.f k a0_0 a0_1 l0_2 a0_3 a0_4 a0_5 a0_6 a0_7 a0_8 a0_9 a0_10 l0_11 l0_12=some r):
  Calls Tryz.prog 19 #[.agg #[.int .i64 a0_0,.int .i64 a0_1,.slice A0_2 l0_2.length c0_2,.int .i64 a0_3,.int .i64 a0_4,.int .i64 a0_5,.int .i64 a0_6,.string a0_7,.complex .f64 a0_8.1 a0_8.2,.complex .f64 a0_9.1 a0_9.2,.complex .f64 a0_10.1 a0_10.2,.slice A0_11 l0_11.length c0_11,.slice A0_12 l0_12.length c0_12]] w fun e w'=>e = .returned (.int .i64 r)∧Below w.heap.size w w':=by
 have hu38:=Tryz.underlying38;have hu30:=Tryz.underlying30;have hu25:=Tryz.underlying25;have HR0_2:=Mk hr0_2;have HC0_2:=Mk hc0_2;clear hr0_2 hc0_2;have HR0_11:=Mk hr0_11;have HC0_11:=Mk hc0_11;clear hr0_11 hc0_11;have HR0_12:=Mk hr0_12;have HC0_12:=Mk hc0_12;clear hr0_12 hc0_12;have HB:=Mk (Below.refl w.heap.size w);have H:(if a0_0 < 1 then (req_check.j0 k true a0_0 a0_1 l0_2 a0_3 a0_4 a0_5 a0_6 a0_7 a0_8 a0_9 a0_10 l0_11 l0_12) else (if a0_0 > 5 then (req_check.j0 k true a0_0 a0_1 l0_2 a0_3 a0_4 a0_5 a0_6 a0_7 a0_8 a0_9 a0_10 l0_11 l0_12) else ((req_alone.f k a0_0 a0_1 l0_2 a0_3 a0_4 a0_5 a0_6 a0_7 a0_8 a0_9 a0_10 l0_11 l0_12).bind fun t181=>(if t181=true then (req_check.j0 k (decide (a0_1 < 0)) a0_0 a0_1 l0_2 a0_3 a0_4 a0_5 a0_6 a0_7 a0_8 a0_9 a0_10 l0_11 l0_12) else (req_check.j0 k true a0_0 a0_1 l0_2 a0_3 a0_4 a0_5 a0_6 a0_7 a0_8 a0_9 a0_10 l0_11 l0_12)))))=some r:=h;clear h;have HC2:=Mk H;clear H;go_enter Tryz.func19,Tryz.ntmps19
 go_upto_region 1 with (first|((with_reducible refine gate_dst (N:=1) rfl ?_);(try (refine gate_guard (by rfl) ?_;dsimp only));refine boxE 1 #[.int .i64 a0_0,.int .i64 a0_1,.slice A0_2 l0_2.length c0_2,.int .i64 a0_3,.int .i64 a0_4,.int .i64 a0_5,.int .i64 a0_6,.string a0_7,.complex .f64 a0_8.1 a0_8.2,.complex .f64 a0_9.1 a0_9.2,.complex .f64 a0_10.1 a0_10.2,.slice A0_11 l0_11.length c0_11,.slice A0_12 l0_12.length c0_12] 38 ?_;intro gb180 hg w3 hbox hb;have BK180:=Mk (hbox);have GW180:=Mk ((gS:w.heap.size≤gb180));have GE180:=Mk ((gS:w.heap.size≤gb180));replace HB:=Mk (below_step bB hb);clear hb hbox hg))
 (try simp only [Act.put,List.setIfInBounds_toArray,List.set_cons_zero,List.set_cons_succ])
 go_cut [25] (fun v25 wc=>∃ (kq:Nat) (x25_1:Bool),v25 = .bool x25_1∧Aside0 (req_check.j0 kq x25_1 a0_0 a0_1 l0_2 a0_3 a0_4 a0_5 a0_6 a0_7 a0_8 a0_9 a0_10 l0_11 l0_12=some r)∧Aside0 (kq≤k)∧Aside0 (wc.heap[gb180]?=some (.cells #[.int .i64 a0_0,.int .i64 a0_1,(.slice A0_2 l0_2.length c0_2),.int .i64 a0_3,.int .i64 a0_4,.int .i64 a0_5,.int .i64 a0_6,.string a0_7,.complex .f64 a0_8.1 a0_8.2,.complex .f64 a0_9.1 a0_9.2,.complex .f64 a0_10.1 a0_10.2,(.slice A0_11 l0_11.length c0_11),(.slice A0_12 l0_12.length c0_12)] 38 (0,0)))∧Aside0 (Below w.heap.size w wc))
 case first=>
  have H:=HC2.out;clear HC2;by_cases c4:a0_0 < 1
  ·rw [if_pos c4] at H
   have c4b0:=decide_eq_true c4;clear c4;(first|rw [c4b0]|(simp only [i64_w,i32_w];rw [c4b0])|skip);have H':=Mk H;clear H;obtain ⟨_,_,_,_,_,_,_,_,_,_,_,_,_,_,_,_,_,_,_,_,_,_,_,_,_,_⟩:=z13 BK180
   go_wp2
   go_meet
   case rel=>exact ⟨_,(true),sS,H',⟨by first|omega|exact Nat.le_refl _⟩,⟨by (with_reducible repeat refine bU ?_);exact BK180.out⟩,⟨bB⟩⟩
  ·rw [if_neg c4] at H
   have c4b0:=decide_eq_false c4;clear c4;(first|rw [c4b0]|(simp only [i64_w,i32_w];rw [c4b0])|skip);by_cases c6:a0_0 > 5
   ·rw [if_pos c6] at H
    have c6b0:=decide_eq_true c6;clear c6;have H':=Mk H;clear H;obtain ⟨_,_,_,_,_,_,_,_,_,_,_,_,_,_,_,_,_,_,_,_,_,_,_,_,_,_⟩:=z13 BK180
    go_wp2
    go_meet
    case rel=>exact ⟨_,(true),sS,H',⟨by first|omega|exact Nat.le_refl _⟩,⟨by (with_reducible repeat refine bU ?_);exact BK180.out⟩,⟨bB⟩⟩
   ·rw [if_neg c6] at H
    have c6b0:=decide_eq_false c6;clear c6;replace H:=Option.bind_eq_some_iff.mp H;obtain ⟨t181,A80,H⟩:=H;try dsimp only at H
    have A8:=Mk A80;clear A80;by_cases c9:t181=true
    ·subst c9
     rw [if_pos rfl] at H;try dsimp only at H
     have H':=Mk H;clear H;obtain ⟨_,_,_,_,_,_,_,_,_,_,_,_,_,_,_,_,_,_,_,_,_,_,_,_,_,_⟩:=z13 BK180
     go_wp2_with (first|(go_at_call 43;(with_reducible refine (req_alone.calls k a0_0 a0_1 _ _ l0_2 a0_3 a0_4 a0_5 a0_6 a0_7 a0_8 a0_9 a0_10 _ _ l0_11 _ _ l0_12 true _ ?side1 ?side2 ?side3 ?side4 ?side5 ?side6 A8.out).mono ?_);(case side1=>exact cU (Kd.C_below HR0_2.out HB.out));(case side2=>exact HC0_2.out);(case side3=>exact cU (Kd.C_below HR0_11.out HB.out));(case side4=>exact HC0_11.out);(case side5=>exact cU (Kd.C_below HR0_12.out HB.out));(case side6=>exact HC0_12.out);rintro e w11 ⟨rfl,hb⟩;replace BK180:=bkb BK180 hb;replace HB:=Mk (below_step bB hb);clear hb;obtain ⟨_,_,_,_,_,_,_,_,_,_,_,_,_,_,_,_,_,_,_,_,_,_,_,_,_,_⟩:=z13 BK180))
     go_meet
     case rel=>exact ⟨_,(decide (a0_1 < 0)),sS,H',⟨by first|omega|exact Nat.le_refl _⟩,⟨by (with_reducible repeat refine bU ?_);exact BK180.out⟩,⟨bB⟩⟩
    ·replace c9:=Bool.eq_false_iff.mpr c9
     subst c9;rw [if_neg (show ¬ (false=true) by decide)] at H;try dsimp only at H
     have H':=Mk H;clear H;obtain ⟨_,_,_,_,_,_,_,_,_,_,_,_,_,_,_,_,_,_,_,_,_,_,_,_,_,_⟩:=z13 BK180
     go_wp2_with (first|(go_at_call 43;(with_reducible refine (req_alone.calls k a0_0 a0_1 _ _ l0_2 a0_3 a0_4 a0_5 a0_6 a0_7 a0_8 a0_9 a0_10 _ _ l0_11 _ _ l0_12 false _ ?side1 ?side2 ?side3 ?side4 ?side5 ?side6 A8.out).mono ?_);(case side1=>exact cU (Kd.C_below HR0_2.out HB.out));(case side2=>exact HC0_2.out);(case side3=>exact cU (Kd.C_below HR0_11.out HB.out));(case side4=>exact HC0_11.out);(case side5=>exact cU (Kd.C_below HR0_12.out HB.out));(case side6=>exact HC0_12.out);rintro e w14 ⟨rfl,hb⟩;replace BK180:=bkb BK180 hb;replace HB:=Mk (below_step bB hb);clear hb))
     go_meet
     case rel=>exact ⟨_,(true),sS,H',⟨by first|omega|exact Nat.le_refl _⟩,⟨by (with_reducible repeat refine bU ?_);exact BK180.out⟩,⟨bB⟩⟩
 case rest=>
  clear HC2;try clear c1
  try clear p2
  try clear c4
  try clear c4b0
  try clear c6
  try clear c6b0
  try clear c9
  obtain ⟨kq,x25_1,rfl,HA,HJ1,BK180,HB⟩:=hcut
  cases kq with
  |zero=>exact absurd HA.out (by simp [req_check.j0])
  |succ kj1=>
   have H:=HA.out;clear HA;simp only [req_check.j0] at H;by_cases c15:x25_1=true
   ·subst c15
    rw [if_pos rfl] at H;try dsimp only at H
    obtain rfl:=Option.some.inj H
    go_wp2
    go_ret
    exact ⟨eW,bB⟩
   ·replace c15:=Bool.eq_false_iff.mpr c15
    subst c15;rw [if_neg (show ¬ (false=true) by decide)] at H;try dsimp only at H
    have HC16:=Mk H;clear H
    go_upto_region 3 with (fail)
    go_cut [45] (fun v45 wc=>∃ (kq:Nat) (x45_15:Bool),v45 = .bool x45_15∧Aside0 (req_check.j1 kq x45_15 a0_0 a0_1 l0_2 a0_3 a0_4 a0_5 a0_6 a0_7 a0_8 a0_9 a0_10 l0_11 l0_12=some r)∧Aside0 (kq≤kj1)∧Aside0 (wc.heap[gb180]?=some (.cells #[.int .i64 a0_0,.int .i64 a0_1,(.slice A0_2 l0_2.length c0_2),.int .i64 a0_3,.int .i64 a0_4,.int .i64 a0_5,.int .i64 a0_6,.string a0_7,.complex .f64 a0_8.1 a0_8.2,.complex .f64 a0_9.1 a0_9.2,.complex .f64 a0_10.1 a0_10.2,(.slice A0_11 l0_11.length c0_11),(.slice A0_12 l0_12.length c0_12)] 38 (0,0)))∧Aside0 (Below w.heap.size w wc))
    case first=>
     have H:=HC16.out;clear HC16;by_cases c17:a0_0=1
     ·rw [if_pos c17] at H
      have c17b0:=beq_iff_eq.mpr c17;have c17b1:=bne_eq_false_iff_eq.mpr c17;clear c17;(first|rw [c17b0]|(simp only [i64_w,i32_w];rw [c17b0])|skip);by_cases c18:(l0_2.length:Int)=0
      ·rw [if_pos c18] at H
       have c18b0:=beq_iff_eq.mpr c18;have c18b1:=bne_eq_false_iff_eq.mpr c18;clear c18;have H':=Mk H;clear H;obtain ⟨_,_,_,_,_,_,_,_,_,_,_,_,_,_,_,_,_,_,_,_,_,_,_,_,_,_⟩:=z13 BK180
       go_wp2
       go_meet
       case rel=>exact ⟨_,(true),sS,H',⟨by have:=HJ1.out;first|omega|exact Nat.le_refl _⟩,⟨by (with_reducible repeat refine bU ?_);exact BK180.out⟩,⟨bB⟩⟩
      ·rw [if_neg c18] at H
       have c18b0:=beq_eq_false_iff_ne.mpr c18;have c18b1:=bne_iff_ne.mpr c18;have c18b2:¬ (l0_2=[]):=fun h_=>c18 (by rw [h_];rfl)
       by_cases c20:a0_0=4
       ·rw [if_pos c20] at H
        have c20b0:=beq_iff_eq.mpr c20;have c20b1:=bne_eq_false_iff_eq.mpr c20;clear c20;have H':=Mk H;clear H;obtain ⟨_,_,_,_,_,_,_,_,_,_,_,_,_,_,_,_,_,_,_,_,_,_,_,_,_,_⟩:=z13 BK180
        go_wp2
        go_meet
        case rel=>exact ⟨_,(((l0_12.length:Int) == 0)),sS,H',⟨by have:=HJ1.out;first|omega|exact Nat.le_refl _⟩,⟨by (with_reducible repeat refine bU ?_);exact BK180.out⟩,⟨bB⟩⟩
       ·rw [if_neg c20] at H
        have c20b0:=beq_eq_false_iff_ne.mpr c20;have c20b1:=bne_iff_ne.mpr c20;have H':=Mk H;clear H;obtain ⟨_,_,_,_,_,_,_,_,_,_,_,_,_,_,_,_,_,_,_,_,_,_,_,_,_,_⟩:=z13 BK180
        go_wp2
        go_meet
        case rel=>exact ⟨_,(false),sS,H',⟨by have:=HJ1.out;first|omega|exact Nat.le_refl _⟩,⟨by (with_reducible repeat refine bU ?_);exact BK180.out⟩,⟨bB⟩⟩
     ·rw [if_neg c17] at H
      have c17b0:=beq_eq_false_iff_ne.mpr c17;have c17b1:=bne_iff_ne.mpr c17;(first|rw [c17b0]|(simp only [i64_w,i32_w];rw [c17b0])|skip);by_cases c23:a0_0=4
      ·rw [if_pos c23] at H
       have c23b0:=beq_iff_eq.mpr c23;have c23b1:=bne_eq_false_iff_eq.mpr c23;clear c23;have H':=Mk H;clear H;obtain ⟨_,_,_,_,_,_,_,_,_,_,_,_,_,_,_,_,_,_,_,_,_,_,_,_,_,_⟩:=z13 BK180
       go_wp2
       go_meet
       case rel=>exact ⟨_,(((l0_12.length:Int) == 0)),sS,H',⟨by have:=HJ1.out;first|omega|exact Nat.le_refl _⟩,⟨by (with_reducible repeat refine bU ?_);exact BK180.out⟩,⟨bB⟩⟩
      ·rw [if_neg c23] at H
       have c23b0:=beq_eq_false_iff_ne.mpr c23;have c23b1:=bne_iff_ne.mpr c23;have H':=Mk H;clear H;obtain ⟨_,_,_,_,_,_,_,_,_,_,_,_,_,_,_,_,_,_,_,_,_,_,_,_,_,_⟩:=z13 BK180
       go_wp2
       go_meet
       case rel=>exact ⟨_,(false),sS,H',⟨by have:=HJ1.out;first|omega|exact Nat.le_refl _⟩,⟨by (with_reducible repeat refine bU ?_);exact BK180.out⟩,⟨bB⟩⟩
    case rest=>
     clear HC16;try clear c1
     try clear c2
     try clear p2
     try clear c4
     try clear c4b0
     try clear c6
     try clear c6b0
     try clear c9
     try clear c15
     try clear c17
     try clear c17b0
     try clear c17b1
     try clear c18
     try clear c18b0
     try clear c18b1
     try clear c18b2
     try clear c19
     try clear c20
     try clear c20b0
     try clear c20b1
     try clear c23
     try clear c23b0
     try clear c23b1
     try clear p2
     obtain ⟨kq,x45_15,rfl,HA,HJ15,BK180,HB⟩:=hcut
     cases kq with
     |zero=>exact absurd HA.out (by simp [req_check.j1])
     |succ kj15=>
      have H:=HA.out;clear HA;simp only [req_check.j1] at H;by_cases c26:x45_15=true
      ·subst c26
       rw [if_pos rfl] at H;try dsimp only at H
       obtain rfl:=Option.some.inj H
       go_wp2
       go_ret
       exact ⟨eW,bB⟩
      ·replace c26:=Bool.eq_false_iff.mpr c26
       subst c26;rw [if_neg (show ¬ (false=true) by decide)] at H;try dsimp only at H
       replace H:=Option.bind_eq_some_iff.mp H;obtain ⟨t182,A270,H⟩:=H;try dsimp only at H
       have A27:=Mk A270;clear A270;by_cases c28:t182=true
       ·subst c28
        rw [if_pos rfl] at H;try dsimp only at H
        obtain rfl:=Option.some.inj H;obtain ⟨_,_,_,_,_,_,_,_,_,_,_,_,_,_,_,_,_,_,_,_,_,_,_,_,_,_⟩:=z13 BK180
        go_wp2_with (first|(go_at_call 44;(with_reducible refine (val_Val_44.calls kj15 _ _ l0_12 true _ ?side1 ?side2 A27.out).mono ?_);(case side1=>exact cU (Kd.C_below HR0_12.out HB.out));(case side2=>exact HC0_12.out);rintro e w' ⟨rfl,⟨nd,rfl⟩⟩))
        go_ret
        exact ⟨eW,bB⟩
       ·replace c28:=Bool.eq_false_iff.mpr c28
        subst c28;rw [if_neg (show ¬ (false=true) by decide)] at H;try dsimp only at H
        replace H:=Option.bind_eq_some_iff.mp H;obtain ⟨t183,A300,H⟩:=H;try dsimp only at H
        have A30:=Mk A300;clear A300;by_cases c31:t183=true
        ·subst c31
         rw [if_pos rfl] at H;try dsimp only at H
         obtain rfl:=Option.some.inj H;obtain ⟨_,_,_,_,_,_,_,_,_,_,_,_,_,_,_,_,_,_,_,_,_,_,_,_,_,_⟩:=z13 BK180
         go_wp2_with (first|(go_at_call 44;(with_reducible refine (val_Val_44.calls kj15 _ _ l0_12 false _ ?side1 ?side2 A27.out).mono ?_);(case side1=>exact cU (Kd.C_below HR0_12.out HB.out));(case side2=>exact HC0_12.out);rintro e w' ⟨rfl,⟨nd,rfl⟩⟩)|((with_reducible refine gate_callee (f:=46) rfl ?_);refine goesL_ (some 51) rfl rfl Tryz.func46 kR rfl #[.slice A0_2 l0_2.length c0_2,.func (.func 47) #[] #[]] rfl mA ?_;(with_reducible refine (slices_ContainsFunc_string_string.calls kj15 _ _ l0_2 true _ ?side1 ?side2 A30.out).mono ?_);(case side1=>exact cU (Kd.C_below HR0_2.out bB));(case side2=>exact HC0_2.out);rintro e w33 ⟨rfl,hb⟩;refine ⟨_,rfl,?_⟩;replace BK180:=bkb BK180 hb;replace HB:=Mk (below_step bB hb);clear hb))
         go_ret
         exact ⟨eW,bB⟩
        ·replace c31:=Bool.eq_false_iff.mpr c31
         subst c31;rw [if_neg (show ¬ (false=true) by decide)] at H;try dsimp only at H
         by_cases c34:a0_0=1
         ·rw [if_pos c34] at H
          have c34b0:=beq_iff_eq.mpr c34;have c34b1:=bne_eq_false_iff_eq.mpr c34;clear c34;replace H:=Option.bind_eq_some_iff.mp H;obtain ⟨t184,A350,H⟩:=H;try dsimp only at H
          have A35:=Mk A350;clear A350;by_cases c36:t184 > 8
          ·rw [if_pos c36] at H
           have c36b0:=decide_eq_true c36;clear c36;obtain rfl:=Option.some.inj H;obtain ⟨_,_,_,_,_,_,_,_,_,_,_,_,_,_,_,_,_,_,_,_,_,_,_,_,_,_⟩:=z13 BK180
           go_wp2_with (first|(go_at_call 44;(with_reducible refine (val_Val_44.calls kj15 _ _ l0_12 false _ ?side1 ?side2 A27.out).mono ?_);(case side1=>exact cU (Kd.C_below HR0_12.out HB.out));(case side2=>exact HC0_12.out);rintro e w' ⟨rfl,⟨nd,rfl⟩⟩)|((with_reducible refine gate_callee (f:=46) rfl ?_);refine goesL_ (some 51) rfl rfl Tryz.func46 kR rfl #[.slice A0_2 l0_2.length c0_2,.func (.func 47) #[] #[]] rfl mA ?_;(with_reducible refine (slices_ContainsFunc_string_string.calls kj15 _ _ l0_2 false _ ?side1 ?side2 A30.out).mono ?_);(case side1=>exact cU (Kd.C_below HR0_2.out bB));(case side2=>exact HC0_2.out);rintro e w38 ⟨rfl,hb⟩;refine ⟨_,rfl,?_⟩;replace BK180:=bkb BK180 hb;replace HB:=Mk (below_step bB hb);clear hb;obtain ⟨_,_,_,_,_,_,_,_,_,_,_,_,_,_,_,_,_,_,_,_,_,_,_,_,_,_⟩:=z13 BK180)|((with_reducible refine gate_callee (f:=49) rfl ?_);refine goesL_ (some 57) rfl rfl Tryz.func49 kR rfl #[.agg #[.int .i64 a0_3,.int .i64 a0_4,.int .i64 a0_5,.int .i64 a0_6,.string a0_7,.complex .f64 a0_8.1 a0_8.2,.complex .f64 a0_9.1 a0_9.2,.complex .f64 a0_10.1 a0_10.2,.slice A0_11 l0_11.length c0_11]] rfl mA ?_;(with_reducible refine (pred_Depth.calls kj15 a0_3 a0_4 a0_5 a0_6 a0_7 a0_8 a0_9 a0_10 _ _ l0_11 t184 _ ?side1 ?side2 A35.out).mono ?_);(case side1=>exact cU (Kd.C_below HR0_11.out HB.out));(case side2=>exact HC0_11.out);rintro e w40 ⟨rfl,hb⟩;refine ⟨_,rfl,?_⟩;replace BK180:=bkb BK180 hb;replace HB:=Mk (below_step bB hb);clear hb))
           go_ret
           exact ⟨eW,bB⟩
          ·rw [if_neg c36] at H
           have c36b0:=decide_eq_false c36;clear c36;replace H:=Option.bind_eq_some_iff.mp H;obtain ⟨t185,A410,H⟩:=H;try dsimp only at H
           have A41:=Mk A410;clear A410;obtain rfl:=Option.some.inj H;obtain ⟨_,_,_,_,_,_,_,_,_,_,_,_,_,_,_,_,_,_,_,_,_,_,_,_,_,_⟩:=z13 BK180
           go_wp2_with (first|(go_at_call 44;(with_reducible refine (val_Val_44.calls kj15 _ _ l0_12 false _ ?side1 ?side2 A27.out).mono ?_);(case side1=>exact cU (Kd.C_below HR0_12.out HB.out));(case side2=>exact HC0_12.out);rintro e w' ⟨rfl,⟨nd,rfl⟩⟩)|((with_reducible refine gate_callee (f:=46) rfl ?_);refine goesL_ (some 51) rfl rfl Tryz.func46 kR rfl #[.slice A0_2 l0_2.length c0_2,.func (.func 47) #[] #[]] rfl mA ?_;(with_reducible refine (slices_ContainsFunc_string_string.calls kj15 _ _ l0_2 false _ ?side1 ?side2 A30.out).mono ?_);(case side1=>exact cU (Kd.C_below HR0_2.out bB));(case side2=>exact HC0_2.out);rintro e w43 ⟨rfl,hb⟩;refine ⟨_,rfl,?_⟩;replace BK180:=bkb BK180 hb;replace HB:=Mk (below_step bB hb);clear hb;obtain ⟨_,_,_,_,_,_,_,_,_,_,_,_,_,_,_,_,_,_,_,_,_,_,_,_,_,_⟩:=z13 BK180)|((with_reducible refine gate_callee (f:=49) rfl ?_);refine goesL_ (some 57) rfl rfl Tryz.func49 kR rfl #[.agg #[.int .i64 a0_3,.int .i64 a0_4,.int .i64 a0_5,.int .i64 a0_6,.string a0_7,.complex .f64 a0_8.1 a0_8.2,.complex .f64 a0_9.1 a0_9.2,.complex .f64 a0_10.1 a0_10.2,.slice A0_11 l0_11.length c0_11]] rfl mA ?_;(with_reducible refine (pred_Depth.calls kj15 a0_3 a0_4 a0_5 a0_6 a0_7 a0_8 a0_9 a0_10 _ _ l0_11 t184 _ ?side1 ?side2 A35.out).mono ?_);(case side1=>exact cU (Kd.C_below HR0_11.out HB.out));(case side2=>exact HC0_11.out);rintro e w45 ⟨rfl,hb⟩;refine ⟨_,rfl,?_⟩;replace BK180:=bkb BK180 hb;replace HB:=Mk (below_step bB hb);clear hb;obtain ⟨_,_,_,_,_,_,_,_,_,_,_,_,_,_,_,_,_,_,_,_,_,_,_,_,_,_⟩:=z13 BK180)|((with_reducible refine gate_callee (f:=50) rfl ?_);refine goesL_ (some 61) rfl rfl Tryz.func50 kR rfl #[.agg #[.int .i64 a0_3,.int .i64 a0_4,.int .i64 a0_5,.int .i64 a0_6,.string a0_7,.complex .f64 a0_8.1 a0_8.2,.complex .f64 a0_9.1 a0_9.2,.complex .f64 a0_10.1 a0_10.2,.slice A0_11 l0_11.length c0_11]] rfl mA ?_;(with_reducible refine (req_parts.calls kj15 a0_3 a0_4 a0_5 a0_6 a0_7 a0_8 a0_9 a0_10 _ _ l0_11 t185 _ ?side1 ?side2 A41.out).mono ?_);(case side1=>exact cU (Kd.C_below HR0_11.out HB.out));(case side2=>exact HC0_11.out);rintro e w47 ⟨rfl,hb⟩;refine ⟨_,rfl,?_⟩;replace BK180:=bkb BK180 hb;replace HB:=Mk (below_step bB hb);clear hb))
           go_ret
           exact ⟨eW,bB⟩
         ·rw [if_neg c34] at H
          have c34b0:=beq_eq_false_iff_ne.mpr c34;have c34b1:=bne_iff_ne.mpr c34;have H':=Mk H;clear H;obtain ⟨_,_,_,_,_,_,_,_,_,_,_,_,_,_,_,_,_,_,_,_,_,_,_,_,_,_⟩:=z13 BK180
          go_wp2_with (first|(go_at_call 44;(with_reducible refine (val_Val_44.calls kj15 _ _ l0_12 false _ ?side1 ?side2 A27.out).mono ?_);(case side1=>exact cU (Kd.C_below HR0_12.out HB.out));(case side2=>exact HC0_12.out);rintro e w' ⟨rfl,⟨nd,rfl⟩⟩)|((with_reducible refine gate_callee (f:=46) rfl ?_);refine goesL_ (some 51) rfl rfl Tryz.func46 kR rfl #[.slice A0_2 l0_2.length c0_2,.func (.func 47) #[] #[]] rfl mA ?_;(with_reducible refine (slices_ContainsFunc_string_string.calls kj15 _ _ l0_2 false _ ?side1 ?side2 A30.out).mono ?_);(case side1=>exact cU (Kd.C_below HR0_2.out bB));(case side2=>exact HC0_2.out);rintro e w49 ⟨rfl,hb⟩;refine ⟨_,rfl,?_⟩;replace BK180:=bkb BK180 hb;replace HB:=Mk (below_step bB hb);clear hb;obtain ⟨_,_,_,_,_,_,_,_,_,_,_,_,_,_,_,_,_,_,_,_,_,_,_,_,_,_⟩:=z13 BK180))
          go_loopg [65] kj15 (fun kq v65 w'=>∃ (x65_3:Int),v65 = .int .i64 x65_3∧Aside0 (req_check.l0 kq l0_12 (l0_12.length:Int) x65_3=some r)∧Aside0 (kq≤kj15)∧Aside0 (w'.heap[gb180]?=some (.cells #[.int .i64 a0_0,.int .i64 a0_1,(.slice A0_2 l0_2.length c0_2),.int .i64 a0_3,.int .i64 a0_4,.int .i64 a0_5,.int .i64 a0_6,.string a0_7,.complex .f64 a0_8.1 a0_8.2,.complex .f64 a0_9.1 a0_9.2,.complex .f64 a0_10.1 a0_10.2,(.slice A0_11 l0_11.length c0_11),(.slice A0_12 l0_12.length c0_12)] 38 (0,0)))∧Aside0 (Below w.heap.size w w'))
          case atStart=>exact ⟨(0),sS,H',⟨Nat.le_refl _⟩,⟨by (with_reducible repeat refine bU ?_);exact BK180.out⟩,⟨bB⟩⟩
          case round=>
           clear H';try clear c1
           try clear c2
           try clear p2
           try clear c3
           try clear c4
           try clear c4b0
           try clear c5
           try clear c6
           try clear c6b0
           try clear c9
           try clear c15
           try clear c17
           try clear c17b0
           try clear c17b1
           try clear c18
           try clear c18b0
           try clear c18b1
           try clear c18b2
           try clear c19
           try clear c20
           try clear c20b0
           try clear c20b1
           try clear c23
           try clear c23b0
           try clear c23b1
           try clear c26
           try clear c28
           try clear c31
           try clear c34
           try clear c34b0
           try clear c34b1
           try clear c36
           try clear c36b0
           try clear c46
           try clear c49
           try clear c50
           try clear p2
           obtain ⟨x65_3,rfl,HA,HK3,BK180,HB⟩:=hrel
           cases gk with
           |zero=>exact absurd HA.out (by simp [req_check.l0])
           |succ k3=>
            have H:=HA.out;clear HA;simp only [req_check.l0] at H;by_cases c51:x65_3 < (l0_12.length:Int)
            ·rw [if_pos c51] at H
             have c51b0:=decide_eq_true c51;clear c51;by_cases c52:0≤x65_3
             ·rw [if_pos c52] at H
              have c52b0:=decide_eq_true c52;clear c52;by_cases c53:x65_3 < (l0_12.length:Int)
              ·rw [if_pos c53] at H
               have c53b0:=decide_eq_true c53;clear c53;have H':=Mk H;clear H;have p186:0≤(x65_3:Int):=of_decide_eq_true aS;have q186:x65_3 < (l0_12.length:Int):=of_decide_eq_true aS;obtain ⟨ad186,A186_0,c186_0,e186,hx186_0,hl186_0,hi186_0⟩:=at_L11 HR0_12.out x65_3 p186 q186;cases e186
               replace hx186_0:=(HB.out.cell (World.block_lt_of_cell? w _ hx186_0)).trans hx186_0;have HR186_0:=Mk hi186_0;have HC186_0:=Mk hl186_0;clear hi186_0 hl186_0;replace p186:=eq_true p186;replace q186:=eq_true q186
               go_wp2
               go_loopg [71] k3 (fun kq v71 w'=>∃ (x71_4:Int),v71 = .int .i64 x71_4∧Aside0 (req_check.l1 kq l0_12 (l0_12.length:Int) x65_3 (rd_L11 l0_12 x65_3) ((rd_L11 l0_12 x65_3).length:Int) x71_4=some r)∧Aside0 (kq≤k3)∧Aside0 (w'.heap[gb180]?=some (.cells #[.int .i64 a0_0,.int .i64 a0_1,(.slice A0_2 l0_2.length c0_2),.int .i64 a0_3,.int .i64 a0_4,.int .i64 a0_5,.int .i64 a0_6,.string a0_7,.complex .f64 a0_8.1 a0_8.2,.complex .f64 a0_9.1 a0_9.2,.complex .f64 a0_10.1 a0_10.2,(.slice A0_11 l0_11.length c0_11),(.slice (some ad186) l0_12.length c0_12)] 38 (0,0)))∧Aside0 (Below w.heap.size w w'))
               case atStart=>exact ⟨(0),sS,H',⟨Nat.le_refl _⟩,⟨by (with_reducible repeat refine bU ?_);exact BK180.out⟩,⟨bB⟩⟩
               case round=>
                clear H';try clear c1
                try clear p1
                try clear q1
                try clear hx1
                try clear c2
                try clear p2
                try clear c3
                try clear c4
                try clear c4b0
                try clear c5
                try clear c6
                try clear c6b0
                try clear c9
                try clear c15
                try clear c17
                try clear c17b0
                try clear c17b1
                try clear c18
                try clear c18b0
                try clear c18b1
                try clear c18b2
                try clear p18
                try clear q18
                try clear hx18
                try clear c19
                try clear c20
                try clear c20b0
                try clear c20b1
                try clear c23
                try clear c23b0
                try clear c23b1
                try clear c26
                try clear c28
                try clear c31
                try clear c34
                try clear c34b0
                try clear c34b1
                try clear c36
                try clear c36b0
                try clear c46
                try clear c49
                try clear c50
                try clear c51
                try clear c51b0
                try clear c52
                try clear c52b0
                try clear c53
                try clear c53b0
                try clear hx186_0
                try clear p186
                try clear p2
                try clear q186
                obtain ⟨x71_4,rfl,HA,HK4,BK180,HB⟩:=hrel
                cases gk with
                |zero=>exact absurd HA.out (by simp [req_check.l1])
                |succ k4=>
                 have H:=HA.out;clear HA;simp only [req_check.l1] at H;by_cases c54:x71_4 < ((rd_L11 l0_12 x65_3).length:Int)
                 ·rw [if_pos c54] at H
                  have c54b0:=decide_eq_true c54;clear c54;by_cases c55:0≤x71_4
                  ·rw [if_pos c55] at H
                   have c55b0:=decide_eq_true c55;clear c55;by_cases c56:x71_4 < ((rd_L11 l0_12 x65_3).length:Int)
                   ·rw [if_pos c56] at H
                    have c56b0:=decide_eq_true c56;clear c56;replace H:=Option.bind_eq_some_iff.mp H;obtain ⟨t189,A570,H⟩:=H;try dsimp only at H
                    have A57:=Mk A570;clear A570;by_cases c58:t189=0
                    ·rw [if_pos c58] at H
                     have c58b0:=beq_iff_eq.mpr c58;have c58b1:=bne_eq_false_iff_eq.mpr c58;clear c58;have H':=Mk H;clear H;have p187:0≤(x71_4:Int):=of_decide_eq_true aS;have q187:x71_4 < ((rd_L11 l0_12 x65_3).length:Int):=of_decide_eq_true aS;obtain ⟨ad187,e187,hx187_0,hx187_1,hx187_2,hx187_3⟩:=at_T25 HR186_0.out x71_4 p187 q187;cases e187
                     replace hx187_0:=(HB.out.cell (World.block_lt_of_cell? w _ hx187_0)).trans hx187_0;replace hx187_1:=(HB.out.cell (World.block_lt_of_cell? w _ hx187_1)).trans hx187_1;replace hx187_2:=(HB.out.cell (World.block_lt_of_cell? w _ hx187_2)).trans hx187_2;replace hx187_3:=(HB.out.cell (World.block_lt_of_cell? w _ hx187_3)).trans hx187_3;replace p187:=eq_true p187;replace q187:=eq_true q187
                     go_wp2_with (first|((with_reducible refine gate_dst (N:=6) rfl ?_);(try (refine gate_guard (by rfl) ?_;dsimp only));refine boxE 6 #[.int .i64 0,.int .i64 0,.string (⟨#[]⟩:ByteArray),.complex .f64 0 0] 25 ?_;intro gb188 hg w59 hbox hb;have BK188:=Mk (hbox);have GW188:=Mk ((gS:w.heap.size≤gb188));have GE188:=Mk ((gS:w.heap.size≤gb188));have NB180_188:=(gL BK180:Aside0 (gb180≠gb188));have NB188_180:=(gG BK180:Aside0 (gb188≠gb180));replace BK180:=bkb BK180 hb;replace HB:=Mk (below_step bB hb);clear hb hbox hg;have hnb60:=NB188_180.out;have hnc60:=NB180_188.out;obtain ⟨_,_,_,_,_,_,_,_⟩:=z4 BK188)|((with_reducible refine gate_callee (f:=51) rfl ?_);refine goesL_ (some 76) rfl rfl Tryz.func51 kR rfl #[.agg #[.int .i64 ((rd_T25 (rd_L11 l0_12 x65_3) x71_4).f0),.int .i64 ((rd_T25 (rd_L11 l0_12 x65_3) x71_4).f1),.string ((rd_T25 (rd_L11 l0_12 x65_3) x71_4).f2),.complex .f64 (((rd_T25 (rd_L11 l0_12 x65_3) x71_4).f3).1) (((rd_T25 (rd_L11 l0_12 x65_3) x71_4).f3).2)]] rfl mA ?_;(with_reducible refine (val_Check.calls k4 ((rd_T25 (rd_L11 l0_12 x65_3) x71_4).f0) ((rd_T25 (rd_L11 l0_12 x65_3) x71_4).f1) ((rd_T25 (rd_L11 l0_12 x65_3) x71_4).f2) ((rd_T25 (rd_L11 l0_12 x65_3) x71_4).f3) t189 _ A57.out).mono ?_);rintro e w62 ⟨rfl,hb⟩;refine ⟨_,rfl,?_⟩;replace BK180:=bkb BK180 hb;replace BK188:=Mk (blk_below (g:=gb188) (o:=.cells #[.int .i64 ((rd_T25 (rd_L11 l0_12 x65_3) x71_4).f0),.int .i64 ((rd_T25 (rd_L11 l0_12 x65_3) x71_4).f1),.string ((rd_T25 (rd_L11 l0_12 x65_3) x71_4).f2),.complex .f64 (((rd_T25 (rd_L11 l0_12 x65_3) x71_4).f3).1) (((rd_T25 (rd_L11 l0_12 x65_3) x71_4).f3).2)] 25 (0,0)) (bP BK188) hb);replace HB:=Mk (below_step bB hb);clear hb))
                     go_roundg k4
                     case measure=>have:=HJ1.out;have:=HJ15.out;have:=HK3.out;have:=HK4.out;omega
                     case rel=>exact ⟨(wrap64 (x71_4+1)),sS,H',⟨by have:=HJ1.out;have:=HJ15.out;have:=HK3.out;have:=HK4.out;omega⟩,⟨by (with_reducible repeat refine bU ?_);exact BK180.out⟩,⟨bB⟩⟩
                    ·rw [if_neg c58] at H
                     have c58b0:=beq_eq_false_iff_ne.mpr c58;have c58b1:=bne_iff_ne.mpr c58;obtain rfl:=Option.some.inj H;have p187:0≤(x71_4:Int):=of_decide_eq_true aS;have q187:x71_4 < ((rd_L11 l0_12 x65_3).length:Int):=of_decide_eq_true aS;obtain ⟨ad187,e187,hx187_0,hx187_1,hx187_2,hx187_3⟩:=at_T25 HR186_0.out x71_4 p187 q187;cases e187
                     replace hx187_0:=(HB.out.cell (World.block_lt_of_cell? w _ hx187_0)).trans hx187_0;replace hx187_1:=(HB.out.cell (World.block_lt_of_cell? w _ hx187_1)).trans hx187_1;replace hx187_2:=(HB.out.cell (World.block_lt_of_cell? w _ hx187_2)).trans hx187_2;replace hx187_3:=(HB.out.cell (World.block_lt_of_cell? w _ hx187_3)).trans hx187_3;replace p187:=eq_true p187;replace q187:=eq_true q187
                     go_wp2_with (first|((with_reducible refine gate_dst (N:=6) rfl ?_);(try (refine gate_guard (by rfl) ?_;dsimp only));refine boxE 6 #[.int .i64 0,.int .i64 0,.string (⟨#[]⟩:ByteArray),.complex .f64 0 0] 25 ?_;intro gb188 hg w63 hbox hb;have BK188:=Mk (hbox);have GW188:=Mk ((gS:w.heap.size≤gb188));have GE188:=Mk ((gS:w.heap.size≤gb188));have NB180_188:=(gL BK180:Aside0 (gb180≠gb188));have NB188_180:=(gG BK180:Aside0 (gb188≠gb180));replace BK180:=bkb BK180 hb;replace HB:=Mk (below_step bB hb);clear hb hbox hg;have hnb64:=NB188_180.out;have hnc64:=NB180_188.out;obtain ⟨_,_,_,_,_,_,_,_⟩:=z4 BK188)|((with_reducible refine gate_callee (f:=51) rfl ?_);refine goesL_ (some 76) rfl rfl Tryz.func51 kR rfl #[.agg #[.int .i64 ((rd_T25 (rd_L11 l0_12 x65_3) x71_4).f0),.int .i64 ((rd_T25 (rd_L11 l0_12 x65_3) x71_4).f1),.string ((rd_T25 (rd_L11 l0_12 x65_3) x71_4).f2),.complex .f64 (((rd_T25 (rd_L11 l0_12 x65_3) x71_4).f3).1) (((rd_T25 (rd_L11 l0_12 x65_3) x71_4).f3).2)]] rfl mA ?_;(with_reducible refine (val_Check.calls k4 ((rd_T25 (rd_L11 l0_12 x65_3) x71_4).f0) ((rd_T25 (rd_L11 l0_12 x65_3) x71_4).f1) ((rd_T25 (rd_L11 l0_12 x65_3) x71_4).f2) ((rd_T25 (rd_L11 l0_12 x65_3) x71_4).f3) t189 _ A57.out).mono ?_);rintro e w66 ⟨rfl,hb⟩;refine ⟨_,rfl,?_⟩;replace BK180:=bkb BK180 hb;replace BK188:=Mk (blk_below (g:=gb188) (o:=.cells #[.int .i64 ((rd_T25 (rd_L11 l0_12 x65_3) x71_4).f0),.int .i64 ((rd_T25 (rd_L11 l0_12 x65_3) x71_4).f1),.string ((rd_T25 (rd_L11 l0_12 x65_3) x71_4).f2),.complex .f64 (((rd_T25 (rd_L11 l0_12 x65_3) x71_4).f3).1) (((rd_T25 (rd_L11 l0_12 x65_3) x71_4).f3).2)] 25 (0,0)) (bP BK188) hb);replace HB:=Mk (below_step bB hb);clear hb))
                     go_ret
                     exact ⟨eW,bB⟩
                   ·rw [if_neg c56] at H
                    exact absurd H (by simp)
                  ·rw [if_neg c55] at H
                   exact absurd H (by simp)
                 ·rw [if_neg c54] at H
                  have c54b0:=decide_eq_false c54;clear c54;have H':=Mk H;clear H
                  go_wp2
                  go_roundg k4
                  case measure=>have:=HJ1.out;have:=HJ15.out;have:=HK3.out;have:=HK4.out;omega
                  case rel=>exact ⟨(wrap64 (x65_3+1)),sS,H',⟨by have:=HJ1.out;have:=HJ15.out;have:=HK3.out;have:=HK4.out;omega⟩,⟨by (with_reducible repeat refine bU ?_);exact BK180.out⟩,⟨bB⟩⟩
              ·rw [if_neg c53] at H
               exact absurd H (by simp)
             ·rw [if_neg c52] at H
              exact absurd H (by simp)
            ·rw [if_neg c51] at H
             have c51b0:=decide_eq_false c51;clear c51;obtain rfl:=Option.some.inj H
             go_wp2
             go_ret
             exact ⟨eW,bB⟩
end Go.Proofs.YtcpjlbdjnaaaiaaGreatDoor.PAll
