import Derived.Test.YtcpjlbdjnaaaiaaGreatDoorPk
import Derived.Laws.CopyOwn
import Derived.Maps.OwnIn
import Derived.RangeFuncNested
import Derived.RangeFuncBound
import Derived.Shelf.RegionOpen
import Derived.LoopNIn
import Derived.LoopIn
import Derived.Test.YtcpjlbdjnaaaiaaGreatDoorLia
import Derived.Test.YtcpjlbdjnaaaiaaGreatDoorLk
import Derived.Test.YtcpjlbdjnaaaiaaGreatDoorWEqStruct
import Derived.Test.YtcpjlbdjnaaaiaaGreatDoorWRepsOne
import Derived.Test.YtcpjlbdjnaaaiaaGreatDoorWInv
import Derived.Test.YtcpjlbdjnaaaiaaGreatDoorWGuard
namespace Go.Proofs.YtcpjlbdjnaaaiaaGreatDoor.PAll
open Go.Proofs.YtcpjlbdjnaaaiaaGreatDoor.Help
open Go.RowKit Go.Proofs.YtcpjlbdjnaaaiaaGreatDoorW.PrintWords Go.Proofs.YtcpjlbdjnaaaiaaGreatDoorW.PrintLast Go.Proofs.YtcpjlbdjnaaaiaaGreatDoorW.PrintMore
set_option linter.unusedVariables false
set_option linter.unusedSimpArgs false
def errW:Option Int→Value
 |none=>.nilIface
 |some c=>.iface 164 (.pointer (some ⟨c.toNat,0,none⟩))
theorem errW_none:errW none = .nilIface:=rfl
theorem errW_some (c:Int):errW (some c) = .iface 164 (.pointer (some ⟨c.toNat,0,none⟩)):=rfl
theorem info5:(Tryz.prog.info? 5).map (fun i=>(i.zero,i.size,i.bytes))=some (some (.int .u8 0),1,1):=by kernel_rfl
theorem info9:(Tryz.prog.info? 9).map (fun i=>(i.zero,i.size,i.bytes))=some (some (.string ⟨#[]⟩),1,16):=by kernel_rfl
theorem info25:(Tryz.prog.info? 25).map (fun i=>(i.zero,i.size,i.bytes))=some (some (.agg #[(.int .i64 0),(.int .i64 0),(.string ⟨#[]⟩),(.complex .f64 0 0)]),4,48):=by kernel_rfl
theorem info30:(Tryz.prog.info? 30).map (fun i=>(i.zero,i.size,i.bytes))=some (some (.agg #[(.int .i64 0),(.int .i64 0),(.int .i64 0),(.int .i64 0),(.string ⟨#[]⟩),(.complex .f64 0 0),(.complex .f64 0 0),(.complex .f64 0 0),(.slice none 0 0)]),9,120):=by kernel_rfl
theorem info46:(Tryz.prog.info? 46).map (fun i=>(i.zero,i.size,i.bytes))=some (some (.slice none 0 0),1,24):=by kernel_rfl
theorem info82:(Tryz.prog.info? 82).map (fun i=>(i.zero,i.size,i.bytes))=some (some (.slice none 0 0),1,24):=by kernel_rfl
theorem info117:(Tryz.prog.info? 117).map (fun i=>(i.zero,i.size,i.bytes))=some (some (.agg #[(.int .i64 0),(.int .i64 0),(.string ⟨#[]⟩),(.complex .f64 0 0)]),4,48):=by kernel_rfl
structure S25 where
 f0:Int
 f1:Int
 f2:ByteArray
 f3:(Nat×Nat)
def z25:S25:=⟨(0:Int),(0:Int),(⟨#[]⟩:ByteArray),((0,0):Nat×Nat)⟩
def k25:Kd S25:=Kd.iso (Kd.pair (Kd.int .i64) (Kd.pair (Kd.int .i64) (Kd.pair Kd.string kCx))) (fun x:S25=>(x.f0,x.f1,x.f2,x.f3))
theorem k25_open {w:World} {x:S25} {cs:List Value} (h:k25.K w x cs):cs=[.int .i64 x.f0,.int .i64 x.f1,.string x.f2,.complex .f64 x.f3.1 x.f3.2]:=by
 obtain ⟨_,_,rfl,rfl,⟨_,_,rfl,rfl,⟨_,_,rfl,rfl,rfl⟩⟩⟩:=h;exact rfl
theorem k25_mk (w:World) (x:S25)  : k25.K w x [.int .i64 x.f0,.int .i64 x.f1,.string x.f2,.complex .f64 x.f3.1 x.f3.2]:=⟨[.int .i64 x.f0],[.int .i64 x.f1,.string x.f2,.complex .f64 x.f3.1 x.f3.2],rfl,rfl,⟨[.int .i64 x.f1],[.string x.f2,.complex .f64 x.f3.1 x.f3.2],rfl,rfl,⟨[.string x.f2],[.complex .f64 x.f3.1 x.f3.2],rfl,rfl,rfl⟩⟩⟩
theorem k25_mkM (w:World) (base:Nat) (ok:Nat→Prop) (x:S25)  : k25.M w base ok x [.int .i64 x.f0,.int .i64 x.f1,.string x.f2,.complex .f64 x.f3.1 x.f3.2]:=⟨[.int .i64 x.f0],[.int .i64 x.f1,.string x.f2,.complex .f64 x.f3.1 x.f3.2],rfl,rfl,⟨[.int .i64 x.f1],[.string x.f2,.complex .f64 x.f3.1 x.f3.2],rfl,rfl,⟨[.string x.f2],[.complex .f64 x.f3.1 x.f3.2],rfl,rfl,rfl⟩⟩⟩
def rd_T25 (xs:List S25) (i:Int):S25:=xs.getD i.toNat z25
theorem at_T25 {w:World} {A:Option Addr} {n:Nat} {xs:List S25} (h:Kd.C k25 w A n xs) (i:Int) (h0:0≤i) (h1:i < n):∃ ad , A=some ad∧w.cell? (ad.add (i.toNat * 4))=some (.int .i64 (rd_T25 xs i).f0)∧w.cell? ⟨(ad.add (i.toNat * 4)).block,(ad.add (i.toNat * 4)).off+1,none⟩=some (.int .i64 (rd_T25 xs i).f1)∧w.cell? ⟨(ad.add (i.toNat * 4)).block,(ad.add (i.toNat * 4)).off+2,none⟩=some (.string (rd_T25 xs i).f2)∧w.cell? ⟨(ad.add (i.toNat * 4)).block,(ad.add (i.toNat * 4)).off+3,none⟩=some (.complex .f64 (rd_T25 xs i).f3.1 (rd_T25 xs i).f3.2):=by
 obtain ⟨ad,c,e,_,hK,hc0⟩:=Kd.C_get h z25 i h0 h1;have hc:∀ j u,c[j]?=some u→w.cell? (ad.add (i.toNat * 4+j))=some u:=hc0;obtain rfl:=k25_open hK;exact ⟨ad,e,hc 0 _ rfl,by rw [← add_field _ _ 1 (by omega)];exact hc 1 _ rfl,by rw [← add_field _ _ 2 (by omega)];exact hc 2 _ rfl,by rw [← add_field _ _ 3 (by omega)];exact hc 3 _ rfl⟩
structure S27 where
 f0:(Nat×Nat)
 f1:(Nat×Nat)
def z27:S27:=⟨((0,0):Nat×Nat),((0,0):Nat×Nat)⟩
def k27:Kd S27:=Kd.iso (Kd.pair kCx kCx) (fun x:S27=>(x.f0,x.f1))
theorem k27_open {w:World} {x:S27} {cs:List Value} (h:k27.K w x cs):cs=[.complex .f64 x.f0.1 x.f0.2,.complex .f64 x.f1.1 x.f1.2]:=by
 obtain ⟨_,_,rfl,rfl,rfl⟩:=h;exact rfl
theorem k27_mk (w:World) (x:S27)  : k27.K w x [.complex .f64 x.f0.1 x.f0.2,.complex .f64 x.f1.1 x.f1.2]:=⟨[.complex .f64 x.f0.1 x.f0.2],[.complex .f64 x.f1.1 x.f1.2],rfl,rfl,rfl⟩
theorem k27_mkM (w:World) (base:Nat) (ok:Nat→Prop) (x:S27)  : k27.M w base ok x [.complex .f64 x.f0.1 x.f0.2,.complex .f64 x.f1.1 x.f1.2]:=⟨[.complex .f64 x.f0.1 x.f0.2],[.complex .f64 x.f1.1 x.f1.2],rfl,rfl,rfl⟩
structure S30 where
 f0:Int
 f1:Int
 f2:S25
 f3:S27
 f4:(List S30)
def z30:S30:=⟨(0:Int),(0:Int),z25,z27,([]:List S30)⟩
def F30 (d:Kd S30):Kd S30:=Kd.iso (Kd.pair (Kd.int .i64) (Kd.pair (Kd.int .i64) (Kd.pair k25 (Kd.pair k27 (Kd.slice 30 d))))) (fun x:S30=>(x.f0,x.f1,x.f2,x.f3,x.f4))
theorem mono30:Kd.Mono F30:=Kd.mono_iso _ (Kd.mono_pair (Kd.mono_const _) (Kd.mono_pair (Kd.mono_const _) (Kd.mono_pair (Kd.mono_const _) (Kd.mono_pair (Kd.mono_const _) (Kd.mono_slice 30 Kd.mono_id)))))
theorem sub30:Kd.Sub F30 [30]:=Kd.sub_iso _ (Kd.sub_pair (Kd.sub_const _ (by decide)) (Kd.sub_pair (Kd.sub_const _ (by decide)) (Kd.sub_pair (Kd.sub_const _ (by decide)) (Kd.sub_pair (Kd.sub_const _ (by decide)) (Kd.sub_slice 30 (by decide) Kd.sub_id)))))
theorem sz30:∀ n,(Kd.upto F30 9 [30] n).sz=9:=Kd.upto_sz (fun _=>rfl)
def k30:Kd S30:=Kd.fix F30 9 [30] sz30 (Kd.upto_E sub30)
theorem k30_open {w:World} {x:S30} {cs:List Value} (h:k30.K w x cs):∃ A8 c8,cs=[.int .i64 x.f0,.int .i64 x.f1,.int .i64 x.f2.f0,.int .i64 x.f2.f1,.string x.f2.f2,.complex .f64 x.f2.f3.1 x.f2.f3.2,.complex .f64 x.f3.f0.1 x.f3.f0.2,.complex .f64 x.f3.f1.1 x.f3.f1.2,.slice A8 x.f4.length c8]∧x.f4.length≤c8∧k30.C w A8 x.f4.length x.f4:=by
 obtain ⟨n,h⟩:=h
 cases n with
 |zero=>exact h.elim
 |succ n=>
  obtain ⟨_,_,rfl,rfl,⟨_,_,rfl,rfl,⟨_,_,rfl,s2,⟨_,_,rfl,s6,⟨A8,c8,rfl,l8,g8⟩⟩⟩⟩⟩:=h;obtain rfl:=k25_open s2;obtain rfl:=k27_open s6;exact ⟨A8,c8,rfl,l8,Kd.fix_C g8⟩
theorem k30_mk (w:World) (x:S30) {A8:Option Addr} {c8:Nat} (l8:x.f4.length≤c8) (g8:k30.C w A8 x.f4.length x.f4):k30.K w x [.int .i64 x.f0,.int .i64 x.f1,.int .i64 x.f2.f0,.int .i64 x.f2.f1,.string x.f2.f2,.complex .f64 x.f2.f3.1 x.f2.f3.2,.complex .f64 x.f3.f0.1 x.f3.f0.2,.complex .f64 x.f3.f1.1 x.f3.f1.2,.slice A8 x.f4.length c8]:=by
 obtain ⟨n8,q8⟩:=Kd.fix_C_back mono30 g8;have r8:=Kd.upto_C_le mono30 sz30 (show n8≤n8 by omega) q8;exact ⟨n8+1,⟨[.int .i64 x.f0],[.int .i64 x.f1,.int .i64 x.f2.f0,.int .i64 x.f2.f1,.string x.f2.f2,.complex .f64 x.f2.f3.1 x.f2.f3.2,.complex .f64 x.f3.f0.1 x.f3.f0.2,.complex .f64 x.f3.f1.1 x.f3.f1.2,.slice A8 x.f4.length c8],rfl,rfl,⟨[.int .i64 x.f1],[.int .i64 x.f2.f0,.int .i64 x.f2.f1,.string x.f2.f2,.complex .f64 x.f2.f3.1 x.f2.f3.2,.complex .f64 x.f3.f0.1 x.f3.f0.2,.complex .f64 x.f3.f1.1 x.f3.f1.2,.slice A8 x.f4.length c8],rfl,rfl,⟨[.int .i64 x.f2.f0,.int .i64 x.f2.f1,.string x.f2.f2,.complex .f64 x.f2.f3.1 x.f2.f3.2],[.complex .f64 x.f3.f0.1 x.f3.f0.2,.complex .f64 x.f3.f1.1 x.f3.f1.2,.slice A8 x.f4.length c8],rfl,(k25_mk w x.f2 ),⟨[.complex .f64 x.f3.f0.1 x.f3.f0.2,.complex .f64 x.f3.f1.1 x.f3.f1.2],[.slice A8 x.f4.length c8],rfl,(k27_mk w x.f3 ),⟨A8,c8,rfl,l8,r8⟩⟩⟩⟩⟩⟩
theorem k30_mkM (w:World) (base:Nat) (ok:Nat→Prop) (x:S30) {v8:Value} (g8:k30.R 30 w base ok v8 x.f4):k30.M w base ok x [.int .i64 x.f0,.int .i64 x.f1,.int .i64 x.f2.f0,.int .i64 x.f2.f1,.string x.f2.f2,.complex .f64 x.f2.f3.1 x.f2.f3.2,.complex .f64 x.f3.f0.1 x.f3.f0.2,.complex .f64 x.f3.f1.1 x.f3.f1.2,v8]:=by
 obtain ⟨n8,q8⟩:=Kd.fix_R_back mono30 g8;have r8:=Kd.upto_R_le mono30 sz30 (show n8≤n8 by omega) q8;exact ⟨n8+1,⟨[.int .i64 x.f0],[.int .i64 x.f1,.int .i64 x.f2.f0,.int .i64 x.f2.f1,.string x.f2.f2,.complex .f64 x.f2.f3.1 x.f2.f3.2,.complex .f64 x.f3.f0.1 x.f3.f0.2,.complex .f64 x.f3.f1.1 x.f3.f1.2,v8],rfl,rfl,⟨[.int .i64 x.f1],[.int .i64 x.f2.f0,.int .i64 x.f2.f1,.string x.f2.f2,.complex .f64 x.f2.f3.1 x.f2.f3.2,.complex .f64 x.f3.f0.1 x.f3.f0.2,.complex .f64 x.f3.f1.1 x.f3.f1.2,v8],rfl,rfl,⟨[.int .i64 x.f2.f0,.int .i64 x.f2.f1,.string x.f2.f2,.complex .f64 x.f2.f3.1 x.f2.f3.2],[.complex .f64 x.f3.f0.1 x.f3.f0.2,.complex .f64 x.f3.f1.1 x.f3.f1.2,v8],rfl,(k25_mkM w base ok x.f2 ),⟨[.complex .f64 x.f3.f0.1 x.f3.f0.2,.complex .f64 x.f3.f1.1 x.f3.f1.2],[v8],rfl,(k27_mkM w base ok x.f3 ),⟨v8,rfl,r8⟩⟩⟩⟩⟩⟩
theorem k30_mkF (W:World) (ok:Nat→Prop) (x:S30) {A8:Option Addr} {c8:Nat} (l8:x.f4.length≤c8) (g8:Kd.F k30 W ok A8 x.f4.length x.f4):Kd.FK k30 W ok x [.int .i64 x.f0,.int .i64 x.f1,.int .i64 x.f2.f0,.int .i64 x.f2.f1,.string x.f2.f2,.complex .f64 x.f2.f3.1 x.f2.f3.2,.complex .f64 x.f3.f0.1 x.f3.f0.2,.complex .f64 x.f3.f1.1 x.f3.f1.2,.slice A8 x.f4.length c8]:=fun W2 hW=>k30_mk W2 x l8 (g8 W2 hW)
def rd_T30 (xs:List S30) (i:Int):S30:=xs.getD i.toNat z30
theorem at_T30 {w:World} {A:Option Addr} {n:Nat} {xs:List S30} (h:Kd.C k30 w A n xs) (i:Int) (h0:0≤i) (h1:i < n):∃ ad A8 c8,A=some ad∧w.cell? (ad.add (i.toNat * 9))=some (.int .i64 (rd_T30 xs i).f0)∧w.cell? ⟨(ad.add (i.toNat * 9)).block,(ad.add (i.toNat * 9)).off+1,none⟩=some (.int .i64 (rd_T30 xs i).f1)∧w.cell? ⟨(ad.add (i.toNat * 9)).block,(ad.add (i.toNat * 9)).off+2,none⟩=some (.int .i64 (rd_T30 xs i).f2.f0)∧w.cell? ⟨(ad.add (i.toNat * 9)).block,(ad.add (i.toNat * 9)).off+3,none⟩=some (.int .i64 (rd_T30 xs i).f2.f1)∧w.cell? ⟨(ad.add (i.toNat * 9)).block,(ad.add (i.toNat * 9)).off+4,none⟩=some (.string (rd_T30 xs i).f2.f2)∧w.cell? ⟨(ad.add (i.toNat * 9)).block,(ad.add (i.toNat * 9)).off+5,none⟩=some (.complex .f64 (rd_T30 xs i).f2.f3.1 (rd_T30 xs i).f2.f3.2)∧w.cell? ⟨(ad.add (i.toNat * 9)).block,(ad.add (i.toNat * 9)).off+6,none⟩=some (.complex .f64 (rd_T30 xs i).f3.f0.1 (rd_T30 xs i).f3.f0.2)∧w.cell? ⟨(ad.add (i.toNat * 9)).block,(ad.add (i.toNat * 9)).off+7,none⟩=some (.complex .f64 (rd_T30 xs i).f3.f1.1 (rd_T30 xs i).f3.f1.2)∧w.cell? ⟨(ad.add (i.toNat * 9)).block,(ad.add (i.toNat * 9)).off+8,none⟩=some (.slice A8 (rd_T30 xs i).f4.length c8)∧(rd_T30 xs i).f4.length≤c8∧k30.C w A8 (rd_T30 xs i).f4.length (rd_T30 xs i).f4:=by
 obtain ⟨ad,c,e,_,hK,hc0⟩:=Kd.C_get h z30 i h0 h1;have hc:∀ j u,c[j]?=some u→w.cell? (ad.add (i.toNat * 9+j))=some u:=hc0;obtain ⟨A8,c8,rfl,l8,g8⟩:=k30_open hK;exact ⟨ad,A8,c8,e,hc 0 _ rfl,by rw [← add_field _ _ 1 (by omega)];exact hc 1 _ rfl,by rw [← add_field _ _ 2 (by omega)];exact hc 2 _ rfl,by rw [← add_field _ _ 3 (by omega)];exact hc 3 _ rfl,by rw [← add_field _ _ 4 (by omega)];exact hc 4 _ rfl,by rw [← add_field _ _ 5 (by omega)];exact hc 5 _ rfl,by rw [← add_field _ _ 6 (by omega)];exact hc 6 _ rfl,by rw [← add_field _ _ 7 (by omega)];exact hc 7 _ rfl,by rw [← add_field _ _ 8 (by omega)];exact hc 8 _ rfl,l8,g8⟩
structure S70 where
 f0:S30
 f1:Int
def z70:S70:=⟨z30,(0:Int)⟩
def k70:Kd S70:=Kd.iso (Kd.pair k30 (Kd.int .i64)) (fun x:S70=>(x.f0,x.f1))
theorem k70_open {w:World} {x:S70} {cs:List Value} (h:k70.K w x cs):∃ A8 c8,cs=[.int .i64 x.f0.f0,.int .i64 x.f0.f1,.int .i64 x.f0.f2.f0,.int .i64 x.f0.f2.f1,.string x.f0.f2.f2,.complex .f64 x.f0.f2.f3.1 x.f0.f2.f3.2,.complex .f64 x.f0.f3.f0.1 x.f0.f3.f0.2,.complex .f64 x.f0.f3.f1.1 x.f0.f3.f1.2,.slice A8 x.f0.f4.length c8,.int .i64 x.f1]∧x.f0.f4.length≤c8∧k30.C w A8 x.f0.f4.length x.f0.f4:=by
 obtain ⟨_,_,rfl,s0,rfl⟩:=h;obtain ⟨A8,c8,rfl,l8,g8⟩:=k30_open s0;exact ⟨A8,c8,rfl,l8,g8⟩
theorem k70_mk (w:World) (x:S70) {A8:Option Addr} {c8:Nat} (l8:x.f0.f4.length≤c8) (g8:k30.C w A8 x.f0.f4.length x.f0.f4):k70.K w x [.int .i64 x.f0.f0,.int .i64 x.f0.f1,.int .i64 x.f0.f2.f0,.int .i64 x.f0.f2.f1,.string x.f0.f2.f2,.complex .f64 x.f0.f2.f3.1 x.f0.f2.f3.2,.complex .f64 x.f0.f3.f0.1 x.f0.f3.f0.2,.complex .f64 x.f0.f3.f1.1 x.f0.f3.f1.2,.slice A8 x.f0.f4.length c8,.int .i64 x.f1]:=⟨[.int .i64 x.f0.f0,.int .i64 x.f0.f1,.int .i64 x.f0.f2.f0,.int .i64 x.f0.f2.f1,.string x.f0.f2.f2,.complex .f64 x.f0.f2.f3.1 x.f0.f2.f3.2,.complex .f64 x.f0.f3.f0.1 x.f0.f3.f0.2,.complex .f64 x.f0.f3.f1.1 x.f0.f3.f1.2,.slice A8 x.f0.f4.length c8],[.int .i64 x.f1],rfl,(k30_mk w x.f0 l8 g8),rfl⟩
def rd_T70 (xs:List S70) (i:Int):S70:=xs.getD i.toNat z70
theorem at_T70 {w:World} {A:Option Addr} {n:Nat} {xs:List S70} (h:Kd.C k70 w A n xs) (i:Int) (h0:0≤i) (h1:i < n):∃ ad A8 c8,A=some ad∧w.cell? (ad.add (i.toNat * 10))=some (.int .i64 (rd_T70 xs i).f0.f0)∧w.cell? ⟨(ad.add (i.toNat * 10)).block,(ad.add (i.toNat * 10)).off+1,none⟩=some (.int .i64 (rd_T70 xs i).f0.f1)∧w.cell? ⟨(ad.add (i.toNat * 10)).block,(ad.add (i.toNat * 10)).off+2,none⟩=some (.int .i64 (rd_T70 xs i).f0.f2.f0)∧w.cell? ⟨(ad.add (i.toNat * 10)).block,(ad.add (i.toNat * 10)).off+3,none⟩=some (.int .i64 (rd_T70 xs i).f0.f2.f1)∧w.cell? ⟨(ad.add (i.toNat * 10)).block,(ad.add (i.toNat * 10)).off+4,none⟩=some (.string (rd_T70 xs i).f0.f2.f2)∧w.cell? ⟨(ad.add (i.toNat * 10)).block,(ad.add (i.toNat * 10)).off+5,none⟩=some (.complex .f64 (rd_T70 xs i).f0.f2.f3.1 (rd_T70 xs i).f0.f2.f3.2)∧w.cell? ⟨(ad.add (i.toNat * 10)).block,(ad.add (i.toNat * 10)).off+6,none⟩=some (.complex .f64 (rd_T70 xs i).f0.f3.f0.1 (rd_T70 xs i).f0.f3.f0.2)∧w.cell? ⟨(ad.add (i.toNat * 10)).block,(ad.add (i.toNat * 10)).off+7,none⟩=some (.complex .f64 (rd_T70 xs i).f0.f3.f1.1 (rd_T70 xs i).f0.f3.f1.2)∧w.cell? ⟨(ad.add (i.toNat * 10)).block,(ad.add (i.toNat * 10)).off+8,none⟩=some (.slice A8 (rd_T70 xs i).f0.f4.length c8)∧w.cell? ⟨(ad.add (i.toNat * 10)).block,(ad.add (i.toNat * 10)).off+9,none⟩=some (.int .i64 (rd_T70 xs i).f1)∧(rd_T70 xs i).f0.f4.length≤c8∧k30.C w A8 (rd_T70 xs i).f0.f4.length (rd_T70 xs i).f0.f4:=by
 obtain ⟨ad,c,e,_,hK,hc0⟩:=Kd.C_get h z70 i h0 h1;have hc:∀ j u,c[j]?=some u→w.cell? (ad.add (i.toNat * 10+j))=some u:=hc0;obtain ⟨A8,c8,rfl,l8,g8⟩:=k70_open hK;exact ⟨ad,A8,c8,e,hc 0 _ rfl,by rw [← add_field _ _ 1 (by omega)];exact hc 1 _ rfl,by rw [← add_field _ _ 2 (by omega)];exact hc 2 _ rfl,by rw [← add_field _ _ 3 (by omega)];exact hc 3 _ rfl,by rw [← add_field _ _ 4 (by omega)];exact hc 4 _ rfl,by rw [← add_field _ _ 5 (by omega)];exact hc 5 _ rfl,by rw [← add_field _ _ 6 (by omega)];exact hc 6 _ rfl,by rw [← add_field _ _ 7 (by omega)];exact hc 7 _ rfl,by rw [← add_field _ _ 8 (by omega)];exact hc 8 _ rfl,by rw [← add_field _ _ 9 (by omega)];exact hc 9 _ rfl,l8,g8⟩
def rd_L11 (xs:List (List S25)) (i:Int):(List S25):=xs.getD i.toNat ([]:List S25)
theorem at_L11 {w:World} {A:Option Addr} {n:Nat} {xs:List (List S25)} (h:Kd.C (Kd.slice 25 k25) w A n xs) (i:Int) (h0:0≤i) (h1:i < n):∃ ad A0 c0,A=some ad∧w.cell? (ad.add i.toNat)=some (.slice A0 (rd_L11 xs i).length c0)∧(rd_L11 xs i).length≤c0∧k25.C w A0 (rd_L11 xs i).length (rd_L11 xs i):=by
 obtain ⟨ad,c,e,_,hK,hc0⟩:=Kd.C_get h ([]:List S25) i h0 h1;have hc:∀ j u,c[j]?=some u→w.cell? (ad.add (i.toNat * 1+j))=some u:=hc0;obtain ⟨A0,c0,rfl,l0,g0⟩:=hK;exact ⟨ad,A0,c0,e,by have hq:=hc 0 _ rfl;rwa [Nat.mul_one,Nat.add_zero] at hq,l0,g0⟩
structure S117 where
 f0:Int
 f1:Int
 f2:ByteArray
 f3:(Nat×Nat)
def z117:S117:=⟨(0:Int),(0:Int),(⟨#[]⟩:ByteArray),((0,0):Nat×Nat)⟩
def k117:Kd S117:=Kd.iso (Kd.pair (Kd.int .i64) (Kd.pair (Kd.int .i64) (Kd.pair Kd.string kCx))) (fun x:S117=>(x.f0,x.f1,x.f2,x.f3))
theorem k117_open {w:World} {x:S117} {cs:List Value} (h:k117.K w x cs):cs=[.int .i64 x.f0,.int .i64 x.f1,.string x.f2,.complex .f64 x.f3.1 x.f3.2]:=by
 obtain ⟨_,_,rfl,rfl,⟨_,_,rfl,rfl,⟨_,_,rfl,rfl,rfl⟩⟩⟩:=h;exact rfl
theorem k117_mkM (w:World) (base:Nat) (ok:Nat→Prop) (x:S117)  : k117.M w base ok x [.int .i64 x.f0,.int .i64 x.f1,.string x.f2,.complex .f64 x.f3.1 x.f3.2]:=⟨[.int .i64 x.f0],[.int .i64 x.f1,.string x.f2,.complex .f64 x.f3.1 x.f3.2],rfl,rfl,⟨[.int .i64 x.f1],[.string x.f2,.complex .f64 x.f3.1 x.f3.2],rfl,rfl,⟨[.string x.f2],[.complex .f64 x.f3.1 x.f3.2],rfl,rfl,rfl⟩⟩⟩
def rd_T117 (xs:List S117) (i:Int):S117:=xs.getD i.toNat z117
theorem at_T117 {w:World} {A:Option Addr} {n:Nat} {xs:List S117} (h:Kd.C k117 w A n xs) (i:Int) (h0:0≤i) (h1:i < n):∃ ad , A=some ad∧w.cell? (ad.add (i.toNat * 4))=some (.int .i64 (rd_T117 xs i).f0)∧w.cell? ⟨(ad.add (i.toNat * 4)).block,(ad.add (i.toNat * 4)).off+1,none⟩=some (.int .i64 (rd_T117 xs i).f1)∧w.cell? ⟨(ad.add (i.toNat * 4)).block,(ad.add (i.toNat * 4)).off+2,none⟩=some (.string (rd_T117 xs i).f2)∧w.cell? ⟨(ad.add (i.toNat * 4)).block,(ad.add (i.toNat * 4)).off+3,none⟩=some (.complex .f64 (rd_T117 xs i).f3.1 (rd_T117 xs i).f3.2):=by
 obtain ⟨ad,c,e,_,hK,hc0⟩:=Kd.C_get h z117 i h0 h1;have hc:∀ j u,c[j]?=some u→w.cell? (ad.add (i.toNat * 4+j))=some u:=hc0;obtain rfl:=k117_open hK;exact ⟨ad,e,hc 0 _ rfl,by rw [← add_field _ _ 1 (by omega)];exact hc 1 _ rfl,by rw [← add_field _ _ 2 (by omega)];exact hc 2 _ rfl,by rw [← add_field _ _ 3 (by omega)];exact hc 3 _ rfl⟩
def rd_L15 (xs:List (List S117)) (i:Int):(List S117):=xs.getD i.toNat ([]:List S117)
theorem at_L15 {w:World} {A:Option Addr} {n:Nat} {xs:List (List S117)} (h:Kd.C (Kd.slice 117 k117) w A n xs) (i:Int) (h0:0≤i) (h1:i < n):∃ ad A0 c0,A=some ad∧w.cell? (ad.add i.toNat)=some (.slice A0 (rd_L15 xs i).length c0)∧(rd_L15 xs i).length≤c0∧k117.C w A0 (rd_L15 xs i).length (rd_L15 xs i):=by
 obtain ⟨ad,c,e,_,hK,hc0⟩:=Kd.C_get h ([]:List S117) i h0 h1;have hc:∀ j u,c[j]?=some u→w.cell? (ad.add (i.toNat * 1+j))=some u:=hc0;obtain ⟨A0,c0,rfl,l0,g0⟩:=hK;exact ⟨ad,A0,c0,e,by have hq:=hc 0 _ rfl;rwa [Nat.mul_one,Nat.add_zero] at hq,l0,g0⟩
end Go.Proofs.YtcpjlbdjnaaaiaaGreatDoor.PAll
