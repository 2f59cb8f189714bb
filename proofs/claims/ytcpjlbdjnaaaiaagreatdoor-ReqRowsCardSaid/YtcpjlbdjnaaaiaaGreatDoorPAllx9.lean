import Derived.Test.YtcpjlbdjnaaaiaaGreatDoorPAllxM
import Derived.Test.YtcpjlbdjnaaaiaaGreatDoorPAllx8
namespace Go.Proofs.YtcpjlbdjnaaaiaaGreatDoor.PAll
open Go.Proofs.YtcpjlbdjnaaaiaaGreatDoor.Help
open Go.RowKit Go.Proofs.YtcpjlbdjnaaaiaaGreatDoorW.PrintWords Go.Proofs.YtcpjlbdjnaaaiaaGreatDoorW.PrintLast Go.Proofs.YtcpjlbdjnaaaiaaGreatDoorW.PrintMore
set_option linter.unusedVariables false
set_option linter.unusedSimpArgs false
attribute [local go_sem high] eqA25 eqA27
mutual
def req_part.j1:Nat→Int→Int→Int→Int→Int→Int→ByteArray→(Nat×Nat)→(Nat×Nat)→(Nat×Nat)→List (S30)→Option (Int)
 | 0,_,_,_,_,_,_,_,_,_,_,_=>none
 |k+1,x3,x4,x169000,x169001,x169002,x169003,x169004,x169005,x169006,x169007,x169008=>if x169000 ≥ 1 then (req_part.j2 k x3 x4 (decide (x169000≤6)) x169000 x169001 x169002 x169003 x169004 x169005 x169006 x169007 x169008) else (req_part.j2 k x3 x4 false x169000 x169001 x169002 x169003 x169004 x169005 x169006 x169007 x169008)
def req_part.j2:Nat→Int→Int→Bool→Int→Int→Int→Int→ByteArray→(Nat×Nat)→(Nat×Nat)→(Nat×Nat)→List (S30)→Option (Int)
 | 0,_,_,_,_,_,_,_,_,_,_,_,_=>none
 |k+1,x3,x4,x5,x169000,x169001,x169002,x169003,x169004,x169005,x169006,x169007,x169008=>if x5=true then (req_part.j3 k x3 x4 x5 true x169000 x169001 x169002 x169003 x169004 x169005 x169006 x169007 x169008) else (if x169000=7 then (req_part.j3 k x3 x4 x5 true x169000 x169001 x169002 x169003 x169004 x169005 x169006 x169007 x169008) else (req_part.j3 k x3 x4 x5 (x169000 == 8) x169000 x169001 x169002 x169003 x169004 x169005 x169006 x169007 x169008))
def req_part.j3:Nat→Int→Int→Bool→Bool→Int→Int→Int→Int→ByteArray→(Nat×Nat)→(Nat×Nat)→(Nat×Nat)→List (S30)→Option (Int)
 | 0,_,_,_,_,_,_,_,_,_,_,_,_,_=>none
 |k+1,x3,x4,x5,x6,x169000,x169001,x169002,x169003,x169004,x169005,x169006,x169007,x169008=>if x169000 < 1 then (req_part.j4 k x5 x6 true x169000 x169001 x169002 x169003 x169004 x169005 x169006 x169007 x169008) else (if x169000 > 12 then (req_part.j4 k x5 x6 true x169000 x169001 x169002 x169003 x169004 x169005 x169006 x169007 x169008) else (if (x169008.length:Int) < x3 then (req_part.j4 k x5 x6 true x169000 x169001 x169002 x169003 x169004 x169005 x169006 x169007 x169008) else (req_part.j4 k x5 x6 (decide ((x169008.length:Int) > x4)) x169000 x169001 x169002 x169003 x169004 x169005 x169006 x169007 x169008)))
def req_part.j4:Nat→Bool→Bool→Bool→Int→Int→Int→Int→ByteArray→(Nat×Nat)→(Nat×Nat)→(Nat×Nat)→List (S30)→Option (Int)
 | 0,_,_,_,_,_,_,_,_,_,_,_,_=>none
 |k+1,x5,x6,x33,x169000,x169001,x169002,x169003,x169004,x169005,x169006,x169007,x169008=>if x33=true then (some 1) else (if x169001 < 0 then (req_part.j5 k true x169000 x169001 x169002 x169003 x169004 x169005 x169006 x169007 x169008) else (if x6=true then (if x5=true then (req_part.j5 k false x169000 x169001 x169002 x169003 x169004 x169005 x169006 x169007 x169008) else (req_part.j5 k (!(x169002 == 0) || (!(x169003 == 0) || (!x169004.toList.isEmpty || (!cEq x169005.1 x169005.2 0 0)))) x169000 x169001 x169002 x169003 x169004 x169005 x169006 x169007 x169008)) else (if x169001=0 then (if x5=true then (req_part.j5 k false x169000 x169001 x169002 x169003 x169004 x169005 x169006 x169007 x169008) else (req_part.j5 k (!(x169002 == 0) || (!(x169003 == 0) || (!x169004.toList.isEmpty || (!cEq x169005.1 x169005.2 0 0)))) x169000 x169001 x169002 x169003 x169004 x169005 x169006 x169007 x169008)) else (req_part.j5 k true x169000 x169001 x169002 x169003 x169004 x169005 x169006 x169007 x169008))))
def req_part.j5:Nat→Bool→Int→Int→Int→Int→ByteArray→(Nat×Nat)→(Nat×Nat)→(Nat×Nat)→List (S30)→Option (Int)
 | 0,_,_,_,_,_,_,_,_,_,_=>none
 |k+1,x56,x169000,x169001,x169002,x169003,x169004,x169005,x169006,x169007,x169008=>if x56=true then (some 1) else (if x169000=8 then ((point_Good.f x169006).bind fun t169=>(if t169=true then ((point_Good.f x169007).bind fun t170=>(if t170=true then ((val_Check.f k x169002 x169003 x169004 x169005).bind fun t171=>(some t171)) else (some 1))) else (some 1))) else (if (!cEq x169006.1 x169006.2 0 0 || (!cEq x169007.1 x169007.2 0 0))=true then (some 1) else ((point_Good.f x169006).bind fun t172=>(if t172=true then ((point_Good.f x169007).bind fun t173=>(if t173=true then ((val_Check.f k x169002 x169003 x169004 x169005).bind fun t174=>(some t174)) else (some 1))) else (some 1)))))
def req_part.j0:Nat→Int→Int→Int→Bool→Int→Int→Int→Int→ByteArray→(Nat×Nat)→(Nat×Nat)→(Nat×Nat)→List (S30)→Option (Int)
 | 0,_,_,_,_,_,_,_,_,_,_,_,_,_=>none
 |k+1,x3,x4,x8,x9,x169000,x169001,x169002,x169003,x169004,x169005,x169006,x169007,x169008=>if x9=true then (req_part.j1 k 2 8 x169000 x169001 x169002 x169003 x169004 x169005 x169006 x169007 x169008) else (if x8=11 then (req_part.j1 k 1 1 x169000 x169001 x169002 x169003 x169004 x169005 x169006 x169007 x169008) else (req_part.j1 k x3 x4 x169000 x169001 x169002 x169003 x169004 x169005 x169006 x169007 x169008))
end
def req_part.f (k:Nat) (a0_0:Int) (a0_1:Int) (a0_2:Int) (a0_3:Int) (a0_4:ByteArray) (a0_5:(Nat×Nat)) (a0_6:(Nat×Nat)) (a0_7:(Nat×Nat)) (l0_8:List (S30)):Option (Int):=if a0_0=9 then (req_part.j0 k 0 0 a0_0 (a0_0 == 9) a0_0 a0_1 a0_2 a0_3 a0_4 a0_5 a0_6 a0_7 l0_8) else (req_part.j0 k 0 0 a0_0 (a0_0 == 10) a0_0 a0_1 a0_2 a0_3 a0_4 a0_5 a0_6 a0_7 l0_8)
set_option maxHeartbeats 8000000 in
set_option maxRecDepth 100000 in
theorem req_part.calls (k:Nat) (a0_0:Int) (a0_1:Int) (a0_2:Int) (a0_3:Int) (a0_4:ByteArray) (a0_5:(Nat×Nat)) (a0_6:(Nat×Nat)) (a0_7:(Nat×Nat)) (A0_8:Option Addr) (c0_8:Nat) (l0_8:List (S30)) (r:Int) (w:World) (hr0_8:Kd.C k30 w A0_8 l0_8.length l0_8) (hc0_8:l0_8.length≤c0_8) (h:req_part.f k a0_0 a0_1 a0_2 a0_3 a0_4 a0_5 a0_6 a0_7 l0_8=some r):
  Calls Tryz.prog 75 #[.agg #[.int .i64 a0_0,.int .i64 a0_1,.int .i64 a0_2,.int .i64 a0_3,.string a0_4,.complex .f64 a0_5.1 a0_5.2,.complex .f64 a0_6.1 a0_6.2,.complex .f64 a0_7.1 a0_7.2,.slice A0_8 l0_8.length c0_8]] w fun e w'=>e = .returned (.int .i64 r)∧Below w.heap.size w w':=by
 have hu30:=Tryz.underlying30;have hu25:=Tryz.underlying25;have hu27:=Tryz.underlying27;have HR0_8:=Mk hr0_8;have HC0_8:=Mk hc0_8;clear hr0_8 hc0_8;have HB:=Mk (Below.refl w.heap.size w);have H:(if a0_0=9 then (req_part.j0 k 0 0 a0_0 (a0_0 == 9) a0_0 a0_1 a0_2 a0_3 a0_4 a0_5 a0_6 a0_7 l0_8) else (req_part.j0 k 0 0 a0_0 (a0_0 == 10) a0_0 a0_1 a0_2 a0_3 a0_4 a0_5 a0_6 a0_7 l0_8))=some r:=h;clear h;have HC2:=Mk H;clear H;go_enter Tryz.func75,Tryz.ntmps75
 go_upto_block 0 with (first|((with_reducible refine gate_dst (N:=1) rfl ?_);(try (refine gate_guard (by rfl) ?_;dsimp only));refine boxE 1 #[.int .i64 a0_0,.int .i64 a0_1,.int .i64 a0_2,.int .i64 a0_3,.string a0_4,.complex .f64 a0_5.1 a0_5.2,.complex .f64 a0_6.1 a0_6.2,.complex .f64 a0_7.1 a0_7.2,.slice A0_8 l0_8.length c0_8] 30 ?_;intro gb168 hg w3 hbox hb;have BK168:=Mk (hbox);have GW168:=Mk ((gS:w.heap.size≤gb168));have GE168:=Mk ((gS:w.heap.size≤gb168));replace HB:=Mk (below_step bB hb);clear hb hbox hg;obtain ⟨_,_,_,_,_,_,_,_,_,_,_,_,_,_,_,_,_,_⟩:=z9 BK168))
 (try simp only [Act.put,List.setIfInBounds_toArray,List.set_cons_zero,List.set_cons_succ])
 go_cut [3,4] (fun v3 v4 wc=>∃ (kq:Nat) (x3_1:Int) (x4_1:Int),v3 = .int .i64 x3_1∧v4 = .int .i64 x4_1∧Aside0 (req_part.j1 kq x3_1 x4_1 a0_0 a0_1 a0_2 a0_3 a0_4 a0_5 a0_6 a0_7 l0_8=some r)∧Aside0 (kq≤k)∧Aside0 (wc.heap[gb168]?=some (.cells #[.int .i64 a0_0,.int .i64 a0_1,.int .i64 a0_2,.int .i64 a0_3,.string a0_4,.complex .f64 a0_5.1 a0_5.2,.complex .f64 a0_6.1 a0_6.2,.complex .f64 a0_7.1 a0_7.2,(.slice A0_8 l0_8.length c0_8)] 30 (0,0)))∧Aside0 (Below w.heap.size w wc))
 case first=>
  have H:=HC2.out;clear HC2;have HC5:=Mk H;clear H
  go_upto_if 9 with (fail)
  go_cut [9] (fun v9 wc=>∃ (kq:Nat) (x9_4:Bool),v9 = .bool x9_4∧Aside0 (req_part.j0 kq 0 0 a0_0 x9_4 a0_0 a0_1 a0_2 a0_3 a0_4 a0_5 a0_6 a0_7 l0_8=some r)∧Aside0 (kq≤k)∧Aside0 (wc.heap[gb168]?=some (.cells #[.int .i64 a0_0,.int .i64 a0_1,.int .i64 a0_2,.int .i64 a0_3,.string a0_4,.complex .f64 a0_5.1 a0_5.2,.complex .f64 a0_6.1 a0_6.2,.complex .f64 a0_7.1 a0_7.2,(.slice A0_8 l0_8.length c0_8)] 30 (0,0)))∧Aside0 (Below w.heap.size w wc))
  case first=>
   have H:=HC5.out;clear HC5;by_cases c6:a0_0=9
   ·rw [if_pos c6] at H
    have c6b0:=beq_iff_eq.mpr c6;have c6b1:=bne_eq_false_iff_eq.mpr c6;clear c6;(first|rw [c6b0]|(simp only [i64_w,i32_w];rw [c6b0])|skip);have H':=Mk H;clear H
    go_wp2
    go_meet
    case rel=>exact ⟨_,((a0_0 == 9)),sS,H',⟨by first|omega|exact Nat.le_refl _⟩,⟨by (with_reducible repeat refine bU ?_);exact BK168.out⟩,⟨bB⟩⟩
   ·rw [if_neg c6] at H
    have c6b0:=beq_eq_false_iff_ne.mpr c6;have c6b1:=bne_iff_ne.mpr c6;(first|rw [c6b0]|(simp only [i64_w,i32_w];rw [c6b0])|skip);have H':=Mk H;clear H
    go_wp2
    go_meet
    case rel=>exact ⟨_,((a0_0 == 10)),sS,H',⟨by first|omega|exact Nat.le_refl _⟩,⟨by (with_reducible repeat refine bU ?_);exact BK168.out⟩,⟨bB⟩⟩
  case rest=>
   clear HC5;try clear p2
   try clear c6
   try clear c6b0
   try clear c6b1
   obtain ⟨kq,x9_4,rfl,HA,HJ4,BK168,HB⟩:=hcut
   cases kq with
   |zero=>exact absurd HA.out (by simp [req_part.j0])
   |succ kj4=>
    have H:=HA.out;clear HA;simp only [req_part.j0] at H;by_cases c7:x9_4=true
    ·subst c7
     rw [if_pos rfl] at H;try dsimp only at H
     have H':=Mk H;clear H
     go_wp2
     go_meet
     case rel=>exact ⟨_,(2),(8),sS,sS,H',⟨by have:=HJ4.out;first|omega|exact Nat.le_refl _⟩,⟨by (with_reducible repeat refine bU ?_);exact BK168.out⟩,⟨bB⟩⟩
    ·replace c7:=Bool.eq_false_iff.mpr c7
     subst c7;rw [if_neg (show ¬ (false=true) by decide)] at H;try dsimp only at H
     by_cases c8:a0_0=11
     ·rw [if_pos c8] at H
      have c8b0:=beq_iff_eq.mpr c8;have c8b1:=bne_eq_false_iff_eq.mpr c8;clear c8;have H':=Mk H;clear H
      go_wp2
      go_meet
      case rel=>exact ⟨_,(1),(1),sS,sS,H',⟨by have:=HJ4.out;first|omega|exact Nat.le_refl _⟩,⟨by (with_reducible repeat refine bU ?_);exact BK168.out⟩,⟨bB⟩⟩
     ·rw [if_neg c8] at H
      have c8b0:=beq_eq_false_iff_ne.mpr c8;have c8b1:=bne_iff_ne.mpr c8;have H':=Mk H;clear H
      go_wp2
      go_meet
      case rel=>exact ⟨_,(0),(0),sS,sS,H',⟨by have:=HJ4.out;first|omega|exact Nat.le_refl _⟩,⟨by (with_reducible repeat refine bU ?_);exact BK168.out⟩,⟨bB⟩⟩
 case rest=>
  clear HC2;try clear p2
  try clear c6
  try clear c6b0
  try clear c6b1
  try clear c7
  try clear c8
  try clear c8b0
  try clear c8b1
  try clear p2
  obtain ⟨kq,x3_1,x4_1,rfl,rfl,HA,HJ1,BK168,HB⟩:=hcut
  cases kq with
  |zero=>exact absurd HA.out (by simp [req_part.j1])
  |succ kj1=>
   have H:=HA.out;clear HA;simp only [req_part.j1] at H;have HC9:=Mk H;clear H
   go_upto_region 8 with (fail)
   go_cut [5] (fun v5 wc=>∃ (kq:Nat) (x5_8:Bool),v5 = .bool x5_8∧Aside0 (req_part.j2 kq x3_1 x4_1 x5_8 a0_0 a0_1 a0_2 a0_3 a0_4 a0_5 a0_6 a0_7 l0_8=some r)∧Aside0 (kq≤kj1)∧Aside0 (wc.heap[gb168]?=some (.cells #[.int .i64 a0_0,.int .i64 a0_1,.int .i64 a0_2,.int .i64 a0_3,.string a0_4,.complex .f64 a0_5.1 a0_5.2,.complex .f64 a0_6.1 a0_6.2,.complex .f64 a0_7.1 a0_7.2,(.slice A0_8 l0_8.length c0_8)] 30 (0,0)))∧Aside0 (Below w.heap.size w wc))
   case first=>
    have H:=HC9.out;clear HC9;by_cases c10:a0_0 ≥ 1
    ·rw [if_pos c10] at H
     have c10b0:=decide_eq_true c10;clear c10;(first|rw [c10b0]|(simp only [i64_w,i32_w];rw [c10b0])|skip);have H':=Mk H;clear H;obtain ⟨_,_,_,_,_,_,_,_,_,_,_,_,_,_,_,_,_,_⟩:=z9 BK168
     go_wp2
     go_meet
     case rel=>exact ⟨_,(decide (a0_0≤6)),sS,H',⟨by have:=HJ1.out;first|omega|exact Nat.le_refl _⟩,⟨by (with_reducible repeat refine bU ?_);exact BK168.out⟩,⟨bB⟩⟩
    ·rw [if_neg c10] at H
     have c10b0:=decide_eq_false c10;clear c10;(first|rw [c10b0]|(simp only [i64_w,i32_w];rw [c10b0])|skip);have H':=Mk H;clear H;obtain ⟨_,_,_,_,_,_,_,_,_,_,_,_,_,_,_,_,_,_⟩:=z9 BK168
     go_wp2
     go_meet
     case rel=>exact ⟨_,(false),sS,H',⟨by have:=HJ1.out;first|omega|exact Nat.le_refl _⟩,⟨by (with_reducible repeat refine bU ?_);exact BK168.out⟩,⟨bB⟩⟩
   case rest=>
    clear HC9;try clear c1
    try clear p2
    try clear c6
    try clear c6b0
    try clear c6b1
    try clear c7
    try clear c8
    try clear c8b0
    try clear c8b1
    try clear c10
    try clear c10b0
    try clear p2
    obtain ⟨kq,x5_8,rfl,HA,HJ8,BK168,HB⟩:=hcut
    cases kq with
    |zero=>exact absurd HA.out (by simp [req_part.j2])
    |succ kj8=>
     have H:=HA.out;clear HA;simp only [req_part.j2] at H;have HC13:=Mk H;clear H
     go_upto_region 9 with (fail)
     go_cut [6] (fun v6 wc=>∃ (kq:Nat) (x6_12:Bool),v6 = .bool x6_12∧Aside0 (req_part.j3 kq x3_1 x4_1 x5_8 x6_12 a0_0 a0_1 a0_2 a0_3 a0_4 a0_5 a0_6 a0_7 l0_8=some r)∧Aside0 (kq≤kj8)∧Aside0 (wc.heap[gb168]?=some (.cells #[.int .i64 a0_0,.int .i64 a0_1,.int .i64 a0_2,.int .i64 a0_3,.string a0_4,.complex .f64 a0_5.1 a0_5.2,.complex .f64 a0_6.1 a0_6.2,.complex .f64 a0_7.1 a0_7.2,(.slice A0_8 l0_8.length c0_8)] 30 (0,0)))∧Aside0 (Below w.heap.size w wc))
     case first=>
      have H:=HC13.out;clear HC13;by_cases c14:x5_8=true
      ·subst c14
       rw [if_pos rfl] at H;try dsimp only at H
       have H':=Mk H;clear H
       go_wp2
       go_meet
       case rel=>exact ⟨_,(true),sS,H',⟨by have:=HJ1.out;have:=HJ8.out;first|omega|exact Nat.le_refl _⟩,⟨by (with_reducible repeat refine bU ?_);exact BK168.out⟩,⟨bB⟩⟩
      ·replace c14:=Bool.eq_false_iff.mpr c14
       subst c14;rw [if_neg (show ¬ (false=true) by decide)] at H;try dsimp only at H
       by_cases c15:a0_0=7
       ·rw [if_pos c15] at H
        have c15b0:=beq_iff_eq.mpr c15;have c15b1:=bne_eq_false_iff_eq.mpr c15;clear c15;(first|rw [c15b0]|(simp only [i64_w,i32_w];rw [c15b0])|skip);have H':=Mk H;clear H;obtain ⟨_,_,_,_,_,_,_,_,_,_,_,_,_,_,_,_,_,_⟩:=z9 BK168
        go_wp2
        go_meet
        case rel=>exact ⟨_,(true),sS,H',⟨by have:=HJ1.out;have:=HJ8.out;first|omega|exact Nat.le_refl _⟩,⟨by (with_reducible repeat refine bU ?_);exact BK168.out⟩,⟨bB⟩⟩
       ·rw [if_neg c15] at H
        have c15b0:=beq_eq_false_iff_ne.mpr c15;have c15b1:=bne_iff_ne.mpr c15;(first|rw [c15b0]|(simp only [i64_w,i32_w];rw [c15b0])|skip);have H':=Mk H;clear H;obtain ⟨_,_,_,_,_,_,_,_,_,_,_,_,_,_,_,_,_,_⟩:=z9 BK168
        go_wp2
        go_meet
        case rel=>exact ⟨_,((a0_0 == 8)),sS,H',⟨by have:=HJ1.out;have:=HJ8.out;first|omega|exact Nat.le_refl _⟩,⟨by (with_reducible repeat refine bU ?_);exact BK168.out⟩,⟨bB⟩⟩
     case rest=>
      clear HC13;try clear c1
      try clear p2
      try clear c6
      try clear c6b0
      try clear c6b1
      try clear c7
      try clear c8
      try clear c8b0
      try clear c8b1
      try clear c10
      try clear c10b0
      try clear c14
      try clear c15
      try clear c15b0
      try clear c15b1
      try clear p2
      obtain ⟨kq,x6_12,rfl,HA,HJ12,BK168,HB⟩:=hcut
      cases kq with
      |zero=>exact absurd HA.out (by simp [req_part.j3])
      |succ kj12=>
       have H:=HA.out;clear HA;simp only [req_part.j3] at H;have HC18:=Mk H;clear H
       go_upto_region 10 with (fail)
       go_cut [33] (fun v33 wc=>∃ (kq:Nat) (x33_17:Bool),v33 = .bool x33_17∧Aside0 (req_part.j4 kq x5_8 x6_12 x33_17 a0_0 a0_1 a0_2 a0_3 a0_4 a0_5 a0_6 a0_7 l0_8=some r)∧Aside0 (kq≤kj12)∧Aside0 (wc.heap[gb168]?=some (.cells #[.int .i64 a0_0,.int .i64 a0_1,.int .i64 a0_2,.int .i64 a0_3,.string a0_4,.complex .f64 a0_5.1 a0_5.2,.complex .f64 a0_6.1 a0_6.2,.complex .f64 a0_7.1 a0_7.2,(.slice A0_8 l0_8.length c0_8)] 30 (0,0)))∧Aside0 (Below w.heap.size w wc))
       case first=>
        have H:=HC18.out;clear HC18;by_cases c19:a0_0 < 1
        ·rw [if_pos c19] at H
         have c19b0:=decide_eq_true c19;clear c19;(first|rw [c19b0]|(simp only [i64_w,i32_w];rw [c19b0])|skip);have H':=Mk H;clear H;obtain ⟨_,_,_,_,_,_,_,_,_,_,_,_,_,_,_,_,_,_⟩:=z9 BK168
         go_wp2
         go_meet
         case rel=>exact ⟨_,(true),sS,H',⟨by have:=HJ1.out;have:=HJ8.out;have:=HJ12.out;first|omega|exact Nat.le_refl _⟩,⟨by (with_reducible repeat refine bU ?_);exact BK168.out⟩,⟨bB⟩⟩
        ·rw [if_neg c19] at H
         have c19b0:=decide_eq_false c19;clear c19;(first|rw [c19b0]|(simp only [i64_w,i32_w];rw [c19b0])|skip);by_cases c21:a0_0 > 12
         ·rw [if_pos c21] at H
          have c21b0:=decide_eq_true c21;clear c21;have H':=Mk H;clear H;obtain ⟨_,_,_,_,_,_,_,_,_,_,_,_,_,_,_,_,_,_⟩:=z9 BK168
          go_wp2
          go_meet
          case rel=>exact ⟨_,(true),sS,H',⟨by have:=HJ1.out;have:=HJ8.out;have:=HJ12.out;first|omega|exact Nat.le_refl _⟩,⟨by (with_reducible repeat refine bU ?_);exact BK168.out⟩,⟨bB⟩⟩
         ·rw [if_neg c21] at H
          have c21b0:=decide_eq_false c21;clear c21;by_cases c23:(l0_8.length:Int) < x3_1
          ·rw [if_pos c23] at H
           have c23b0:=decide_eq_true c23;clear c23;have H':=Mk H;clear H;obtain ⟨_,_,_,_,_,_,_,_,_,_,_,_,_,_,_,_,_,_⟩:=z9 BK168
           go_wp2
           go_meet
           case rel=>exact ⟨_,(true),sS,H',⟨by have:=HJ1.out;have:=HJ8.out;have:=HJ12.out;first|omega|exact Nat.le_refl _⟩,⟨by (with_reducible repeat refine bU ?_);exact BK168.out⟩,⟨bB⟩⟩
          ·rw [if_neg c23] at H
           have c23b0:=decide_eq_false c23;clear c23;have H':=Mk H;clear H;obtain ⟨_,_,_,_,_,_,_,_,_,_,_,_,_,_,_,_,_,_⟩:=z9 BK168
           go_wp2
           go_meet
           case rel=>exact ⟨_,(decide ((l0_8.length:Int) > x4_1)),sS,H',⟨by have:=HJ1.out;have:=HJ8.out;have:=HJ12.out;first|omega|exact Nat.le_refl _⟩,⟨by (with_reducible repeat refine bU ?_);exact BK168.out⟩,⟨bB⟩⟩
       case rest=>
        clear HC18;try clear c1
        try clear c2
        try clear p2
        try clear c6
        try clear c6b0
        try clear c6b1
        try clear c7
        try clear c8
        try clear c8b0
        try clear c8b1
        try clear c10
        try clear c10b0
        try clear c14
        try clear c15
        try clear c15b0
        try clear c15b1
        try clear c19
        try clear c19b0
        try clear c21
        try clear c21b0
        try clear c23
        try clear c23b0
        try clear p2
        obtain ⟨kq,x33_17,rfl,HA,HJ17,BK168,HB⟩:=hcut
        cases kq with
        |zero=>exact absurd HA.out (by simp [req_part.j4])
        |succ kj17=>
         have H:=HA.out;clear HA;simp only [req_part.j4] at H;by_cases c26:x33_17=true
         ·subst c26
          rw [if_pos rfl] at H;try dsimp only at H
          obtain rfl:=Option.some.inj H
          go_wp2
          go_ret
          exact ⟨eW,bB⟩
         ·replace c26:=Bool.eq_false_iff.mpr c26
          subst c26;rw [if_neg (show ¬ (false=true) by decide)] at H;try dsimp only at H
          have HC27:=Mk H;clear H
          go_upto_region 12 with (fail)
          go_cut [56] (fun v56 wc=>∃ (kq:Nat) (x56_26:Bool),v56 = .bool x56_26∧Aside0 (req_part.j5 kq x56_26 a0_0 a0_1 a0_2 a0_3 a0_4 a0_5 a0_6 a0_7 l0_8=some r)∧Aside0 (kq≤kj17)∧Aside0 (wc.heap[gb168]?=some (.cells #[.int .i64 a0_0,.int .i64 a0_1,.int .i64 a0_2,.int .i64 a0_3,.string a0_4,.complex .f64 a0_5.1 a0_5.2,.complex .f64 a0_6.1 a0_6.2,.complex .f64 a0_7.1 a0_7.2,(.slice A0_8 l0_8.length c0_8)] 30 (0,0)))∧Aside0 (Below w.heap.size w wc))
          case first=>
           have H:=HC27.out;clear HC27;by_cases c28:a0_1 < 0
           ·rw [if_pos c28] at H
            have c28b0:=decide_eq_true c28;clear c28;(first|rw [c28b0]|(simp only [i64_w,i32_w];rw [c28b0])|skip);have H':=Mk H;clear H;obtain ⟨_,_,_,_,_,_,_,_,_,_,_,_,_,_,_,_,_,_⟩:=z9 BK168
            go_wp2
            go_meet
            case rel=>exact ⟨_,(true),sS,H',⟨by have:=HJ1.out;have:=HJ8.out;have:=HJ12.out;have:=HJ17.out;first|omega|exact Nat.le_refl _⟩,⟨by (with_reducible repeat refine bU ?_);exact BK168.out⟩,⟨bB⟩⟩
           ·rw [if_neg c28] at H
            have c28b0:=decide_eq_false c28;clear c28;(first|rw [c28b0]|(simp only [i64_w,i32_w];rw [c28b0])|skip);by_cases c30:x6_12=true
            ·subst c30
             rw [if_pos rfl] at H;try dsimp only at H
             by_cases c31:x5_8=true
             ·subst c31
              rw [if_pos rfl] at H;try dsimp only at H
              have H':=Mk H;clear H;obtain ⟨_,_,_,_,_,_,_,_,_,_,_,_,_,_,_,_,_,_⟩:=z9 BK168
              go_wp2
              go_meet
              case rel=>exact ⟨_,(false),sS,H',⟨by have:=HJ1.out;have:=HJ8.out;have:=HJ12.out;have:=HJ17.out;first|omega|exact Nat.le_refl _⟩,⟨by (with_reducible repeat refine bU ?_);exact BK168.out⟩,⟨bB⟩⟩
             ·replace c31:=Bool.eq_false_iff.mpr c31
              subst c31;rw [if_neg (show ¬ (false=true) by decide)] at H;try dsimp only at H
              have H':=Mk H;clear H;obtain ⟨_,_,_,_,_,_,_,_,_,_,_,_,_,_,_,_,_,_⟩:=z9 BK168
              go_wp2
              go_meet
              case rel=>exact ⟨_,((!(a0_2 == 0) || (!(a0_3 == 0) || (!a0_4.toList.isEmpty || (!cEq a0_5.1 a0_5.2 0 0))))),sS,H',⟨by have:=HJ1.out;have:=HJ8.out;have:=HJ12.out;have:=HJ17.out;first|omega|exact Nat.le_refl _⟩,⟨by (with_reducible repeat refine bU ?_);exact BK168.out⟩,⟨bB⟩⟩
            ·replace c30:=Bool.eq_false_iff.mpr c30
             subst c30;rw [if_neg (show ¬ (false=true) by decide)] at H;try dsimp only at H
             by_cases c34:a0_1=0
             ·rw [if_pos c34] at H
              have c34b0:=beq_iff_eq.mpr c34;have c34b1:=bne_eq_false_iff_eq.mpr c34;clear c34;by_cases c35:x5_8=true
              ·subst c35
               rw [if_pos rfl] at H;try dsimp only at H
               have H':=Mk H;clear H;obtain ⟨_,_,_,_,_,_,_,_,_,_,_,_,_,_,_,_,_,_⟩:=z9 BK168
               go_wp2
               go_meet
               case rel=>exact ⟨_,(false),sS,H',⟨by have:=HJ1.out;have:=HJ8.out;have:=HJ12.out;have:=HJ17.out;first|omega|exact Nat.le_refl _⟩,⟨by (with_reducible repeat refine bU ?_);exact BK168.out⟩,⟨bB⟩⟩
              ·replace c35:=Bool.eq_false_iff.mpr c35
               subst c35;rw [if_neg (show ¬ (false=true) by decide)] at H;try dsimp only at H
               have H':=Mk H;clear H;obtain ⟨_,_,_,_,_,_,_,_,_,_,_,_,_,_,_,_,_,_⟩:=z9 BK168
               go_wp2
               go_meet
               case rel=>exact ⟨_,((!(a0_2 == 0) || (!(a0_3 == 0) || (!a0_4.toList.isEmpty || (!cEq a0_5.1 a0_5.2 0 0))))),sS,H',⟨by have:=HJ1.out;have:=HJ8.out;have:=HJ12.out;have:=HJ17.out;first|omega|exact Nat.le_refl _⟩,⟨by (with_reducible repeat refine bU ?_);exact BK168.out⟩,⟨bB⟩⟩
             ·rw [if_neg c34] at H
              have c34b0:=beq_eq_false_iff_ne.mpr c34;have c34b1:=bne_iff_ne.mpr c34;have H':=Mk H;clear H;obtain ⟨_,_,_,_,_,_,_,_,_,_,_,_,_,_,_,_,_,_⟩:=z9 BK168
              go_wp2
              go_meet
              case rel=>exact ⟨_,(true),sS,H',⟨by have:=HJ1.out;have:=HJ8.out;have:=HJ12.out;have:=HJ17.out;first|omega|exact Nat.le_refl _⟩,⟨by (with_reducible repeat refine bU ?_);exact BK168.out⟩,⟨bB⟩⟩
          case rest=>
           clear HC27;try clear c1
           try clear c2
           try clear p2
           try clear c3
           try clear c6
           try clear c6b0
           try clear c6b1
           try clear c7
           try clear c8
           try clear c8b0
           try clear c8b1
           try clear c10
           try clear c10b0
           try clear c14
           try clear c15
           try clear c15b0
           try clear c15b1
           try clear c19
           try clear c19b0
           try clear c21
           try clear c21b0
           try clear c23
           try clear c23b0
           try clear c26
           try clear c28
           try clear c28b0
           try clear c30
           try clear c31
           try clear c34
           try clear c34b0
           try clear c34b1
           try clear c35
           try clear p2
           obtain ⟨kq,x56_26,rfl,HA,HJ26,BK168,HB⟩:=hcut
           cases kq with
           |zero=>exact absurd HA.out (by simp [req_part.j5])
           |succ kj26=>
            have H:=HA.out;clear HA;simp only [req_part.j5] at H;by_cases c39:x56_26=true
            ·subst c39
             rw [if_pos rfl] at H;try dsimp only at H
             obtain rfl:=Option.some.inj H
             go_wp2
             go_ret
             exact ⟨eW,bB⟩
            ·replace c39:=Bool.eq_false_iff.mpr c39
             subst c39;rw [if_neg (show ¬ (false=true) by decide)] at H;try dsimp only at H
             by_cases c40:a0_0=8
             ·rw [if_pos c40] at H
              have c40b0:=beq_iff_eq.mpr c40;have c40b1:=bne_eq_false_iff_eq.mpr c40;clear c40;replace H:=Option.bind_eq_some_iff.mp H;obtain ⟨t169,A410,H⟩:=H;try dsimp only at H
              have A41:=Mk A410;clear A410;by_cases c42:t169=true
              ·subst c42
               rw [if_pos rfl] at H;try dsimp only at H
               replace H:=Option.bind_eq_some_iff.mp H;obtain ⟨t170,A430,H⟩:=H;try dsimp only at H
               have A43:=Mk A430;clear A430;by_cases c44:t170=true
               ·subst c44
                rw [if_pos rfl] at H;try dsimp only at H
                replace H:=Option.bind_eq_some_iff.mp H;obtain ⟨t171,A450,H⟩:=H;try dsimp only at H
                have A45:=Mk A450;clear A450;obtain rfl:=Option.some.inj H;obtain ⟨_,_,_,_,_,_,_,_,_,_,_,_,_,_,_,_,_,_⟩:=z9 BK168
                go_wp2_with (first|(go_at_call 77;(with_reducible refine (point_Good.calls a0_6 true _ A41.out).mono ?_);rintro e w' ⟨rfl,⟨nd,rfl⟩⟩)|(go_at_call 77;(with_reducible refine (point_Good.calls a0_7 true _ A43.out).mono ?_);rintro e w' ⟨rfl,⟨nd,rfl⟩⟩)|((with_reducible refine gate_callee (f:=51) rfl ?_);refine goesL_ (some 105) rfl rfl Tryz.func51 kR rfl #[.agg #[.int .i64 a0_2,.int .i64 a0_3,.string a0_4,.complex .f64 a0_5.1 a0_5.2]] rfl mA ?_;(with_reducible refine (val_Check.calls kj26 a0_2 a0_3 a0_4 a0_5 t171 _ A45.out).mono ?_);rintro e w47 ⟨rfl,hb⟩;refine ⟨_,rfl,?_⟩;replace BK168:=bkb BK168 hb;replace HB:=Mk (below_step bB hb);clear hb))
                go_ret
                exact ⟨eW,bB⟩
               ·replace c44:=Bool.eq_false_iff.mpr c44
                subst c44;rw [if_neg (show ¬ (false=true) by decide)] at H;try dsimp only at H
                obtain rfl:=Option.some.inj H;obtain ⟨_,_,_,_,_,_,_,_,_,_,_,_,_,_,_,_,_,_⟩:=z9 BK168
                go_wp2_with (first|(go_at_call 77;(with_reducible refine (point_Good.calls a0_6 true _ A41.out).mono ?_);rintro e w' ⟨rfl,⟨nd,rfl⟩⟩)|(go_at_call 77;(with_reducible refine (point_Good.calls a0_7 false _ A43.out).mono ?_);rintro e w' ⟨rfl,⟨nd,rfl⟩⟩))
                go_ret
                exact ⟨eW,bB⟩
              ·replace c42:=Bool.eq_false_iff.mpr c42
               subst c42;rw [if_neg (show ¬ (false=true) by decide)] at H;try dsimp only at H
               obtain rfl:=Option.some.inj H;obtain ⟨_,_,_,_,_,_,_,_,_,_,_,_,_,_,_,_,_,_⟩:=z9 BK168
               go_wp2_with (first|(go_at_call 77;(with_reducible refine (point_Good.calls a0_6 false _ A41.out).mono ?_);rintro e w' ⟨rfl,⟨nd,rfl⟩⟩))
               go_ret
               exact ⟨eW,bB⟩
             ·rw [if_neg c40] at H
              have c40b0:=beq_eq_false_iff_ne.mpr c40;have c40b1:=bne_iff_ne.mpr c40;by_cases c50:(!cEq a0_6.1 a0_6.2 0 0 || (!cEq a0_7.1 a0_7.2 0 0))=true
              ·rw [if_pos c50] at H
               have c50b0:(!cEq a0_6.1 a0_6.2 0 0 || (!cEq a0_7.1 a0_7.2 0 0))=true:=c50;clear c50;obtain rfl:=Option.some.inj H;obtain ⟨_,_,_,_,_,_,_,_,_,_,_,_,_,_,_,_,_,_⟩:=z9 BK168
               go_wp2
               go_ret
               exact ⟨eW,bB⟩
              ·rw [if_neg c50] at H
               have c50b0:(!cEq a0_6.1 a0_6.2 0 0 || (!cEq a0_7.1 a0_7.2 0 0))=false:=by simpa using c50
               clear c50;replace H:=Option.bind_eq_some_iff.mp H;obtain ⟨t172,A520,H⟩:=H;try dsimp only at H
               have A52:=Mk A520;clear A520;by_cases c53:t172=true
               ·subst c53
                rw [if_pos rfl] at H;try dsimp only at H
                replace H:=Option.bind_eq_some_iff.mp H;obtain ⟨t173,A540,H⟩:=H;try dsimp only at H
                have A54:=Mk A540;clear A540;by_cases c55:t173=true
                ·subst c55
                 rw [if_pos rfl] at H;try dsimp only at H
                 replace H:=Option.bind_eq_some_iff.mp H;obtain ⟨t174,A560,H⟩:=H;try dsimp only at H
                 have A56:=Mk A560;clear A560;obtain rfl:=Option.some.inj H;obtain ⟨_,_,_,_,_,_,_,_,_,_,_,_,_,_,_,_,_,_⟩:=z9 BK168
                 go_wp2_with (first|(go_at_call 77;(with_reducible refine (point_Good.calls a0_6 true _ A52.out).mono ?_);rintro e w' ⟨rfl,⟨nd,rfl⟩⟩)|(go_at_call 77;(with_reducible refine (point_Good.calls a0_7 true _ A54.out).mono ?_);rintro e w' ⟨rfl,⟨nd,rfl⟩⟩)|((with_reducible refine gate_callee (f:=51) rfl ?_);refine goesL_ (some 105) rfl rfl Tryz.func51 kR rfl #[.agg #[.int .i64 a0_2,.int .i64 a0_3,.string a0_4,.complex .f64 a0_5.1 a0_5.2]] rfl mA ?_;(with_reducible refine (val_Check.calls kj26 a0_2 a0_3 a0_4 a0_5 t174 _ A56.out).mono ?_);rintro e w58 ⟨rfl,hb⟩;refine ⟨_,rfl,?_⟩;replace BK168:=bkb BK168 hb;replace HB:=Mk (below_step bB hb);clear hb))
                 go_ret
                 exact ⟨eW,bB⟩
                ·replace c55:=Bool.eq_false_iff.mpr c55
                 subst c55;rw [if_neg (show ¬ (false=true) by decide)] at H;try dsimp only at H
                 obtain rfl:=Option.some.inj H;obtain ⟨_,_,_,_,_,_,_,_,_,_,_,_,_,_,_,_,_,_⟩:=z9 BK168
                 go_wp2_with (first|(go_at_call 77;(with_reducible refine (point_Good.calls a0_6 true _ A52.out).mono ?_);rintro e w' ⟨rfl,⟨nd,rfl⟩⟩)|(go_at_call 77;(with_reducible refine (point_Good.calls a0_7 false _ A54.out).mono ?_);rintro e w' ⟨rfl,⟨nd,rfl⟩⟩))
                 go_ret
                 exact ⟨eW,bB⟩
               ·replace c53:=Bool.eq_false_iff.mpr c53
                subst c53;rw [if_neg (show ¬ (false=true) by decide)] at H;try dsimp only at H
                obtain rfl:=Option.some.inj H;obtain ⟨_,_,_,_,_,_,_,_,_,_,_,_,_,_,_,_,_,_⟩:=z9 BK168
                go_wp2_with (first|(go_at_call 77;(with_reducible refine (point_Good.calls a0_6 false _ A52.out).mono ?_);rintro e w' ⟨rfl,⟨nd,rfl⟩⟩))
                go_ret
                exact ⟨eW,bB⟩
end Go.Proofs.YtcpjlbdjnaaaiaaGreatDoor.PAll
