-- Printed by this session's own program (wip/tools/pp.py): out of the translation. Lean checks it.
import Derived.Test.YtcpjlbdjnaaaiaaGreatDoorPureReqRows
import Derived.ProofKit
import Derived.ShutString
import Derived.Lay
import Derived.Test.YtcpjlbdjnaaaiaaGreatDoorVLaid
import Derived.Test.YtcpjlbdjnaaaiaaGreatDoorTie
import Derived.Test.YtcpjlbdjnaaaiaaGreatDoorCards
import Derived.Test.YtcpjlbdjnaaaiaaGreatDoorWSized
namespace Go.Proofs.YtcpjlbdjnaaaiaaGreatDoor.reqRows
open Go.ChangeShapes Go.WideShapes Go.ChangeAt Go.RowKit
open Go.ChangeMaps (open_string shut_string)
set_option linter.unusedVariables false
theorem own:ownKnob Tryz.prog.godebug=none:=by kernel_rfl
theorem laidOut:laidOutB Tryz.prog=true:=by kernel_rfl
def IsRow (k:IntKind) (w:World) (a:Option Addr) (len cap:Nat) (zs:List Int):Prop:=
  (a=none∧len=0∧cap=0∧zs=[]) ∨
  ∃ x,a=some x∧len≤cap∧cap≤maxLen∧zs.length=cap∧(∀ i,i < zs.length→w.cell? (x.add i)=some (.int k (zs.getD i 0)))∧∀ n∈zs,(Lit.int k n).wf=true
set_option maxRecDepth 100000 in
theorem lifted (os:Os) (started:os.Started) (H:Type) (enc:TypeId×Value→H):
    ReturnsInHanded {} Tryz.checked os 4 .any (fun w args=>(Rows.reqRowsSpec.pre enc Tryz.prog Tryz.f4 [] false w args∧laidMetH Tryz.prog Rows.reqRowsRow.laid w)∧sizedMet enc Tryz.prog Tryz.f4 (OpenSpec.ofChange Rows.reqRowsSpec) false w args) (Rows.reqRowsSpec.post enc Tryz.prog Tryz.f4 false true false false):=by
  refine Num.rounds_laid (C:=Tryz.checked) (X:=fun w _=>laidMetH Tryz.prog Rows.reqRowsRow.laid w) (fun _ _ _ hh h=>h.of_heap hh) own started (by kernel_rfl) Tryz.func4
    (ChangeSpec.witness_shaped (enc:=enc) (C:=Tryz.checked) (os:=os) (X:=fun w _=>laidMetH Tryz.prog Rows.reqRowsRow.laid w) false (World.laidAll Tryz.prog os Rows.reqRowsRow.laid) #[.slice none 0 0,.int .u8 0] 8 (World.laidAll_os _ _ _) (World.shaped_of_ZipB (by kernel_rfl) (by kernel_rfl)) (by kernel_rfl) (by kernel_rfl) (by kernel_rfl)
      (by rw [MakeChecks.laidMetH_plain _ _ _ (by kernel_rfl)];exact laidMet_laidAll _ (by kernel_rfl) (by kernel_rfl))) ?_
  intro W base args ds gs before hval0 hW hcnd hsz0 hL hsh;have hsz:(DataW.weightsEach Tryz.prog (Tryz.f4.params.toList++Rows.reqRowsSpec.plain.varTypes Tryz.prog) (ds++gs)).all (· ≤ reachBytes)=true:=hsz0;have hval:∀ (j:Nat) t v,Tryz.f4.params[j]?=some t→args[j]?=some v→Value.okWide Tryz.prog W .any base t v:=hval0;have hW':=hW;obtain ⟨p,q,hA0,hV,rfl,hfz,hnd⟩:=hW;have hA:DataW.TrodAll enc Tryz.prog W 0 (fun _=>true) true Tryz.f4.params.toList args.toList ds p:=hA0;rw [Tryz.params4] at hA hval hsz;obtain ⟨v0,vs0,d0,ds0,p0,q0,hargs,rfl,rfl,h0,r0⟩:=trodAll_cons hA;obtain ⟨v1,vs1,d1,ds1,p1,q1,rfl,rfl,rfl,h1,r1⟩:=trodAll_cons r0;obtain ⟨rfl,rfl,rfl⟩:=trodAll_nil r1;obtain rfl:args=#[v0,v1]:=by cases args;simp_all
  obtain ⟨rfl,rfl⟩:=trodVars_none hV;obtain ⟨a0,len0,cap0,rfl⟩:=okWide_slice Tryz.underlying44 (hval 0 44 v0 rfl rfl);have k0:=h0;have lt0:∀ x∈p0,x.block < W.heap.size:=by obtain ⟨m,hm⟩:=k0;exact DataW.trod_lt m _ _ _ hm
  obtain ⟨z0,w0⟩:∃ zs,IsRow .i64 W a0 len0 cap0 zs:=by
    obtain ⟨fuel,hf⟩:=h0;rcases open_ints Tryz.underlying44 Tryz.underlying2 (by kernel_rfl) hf with ⟨hcs,_⟩|⟨x,l,c,zs,hcs,_,hl,hm,hz,_,hcell,hwz⟩
    ·simp [Value.cells] at hcs
     obtain ⟨rfl,rfl,rfl⟩:=hcs;exact ⟨[],.inl ⟨rfl,rfl,rfl,rfl⟩⟩
    ·simp [Value.cells] at hcs
     obtain ⟨rfl,rfl,rfl⟩:=hcs;exact ⟨zs,.inr ⟨_,rfl,hl,hm,by simpa using hz,hcell,hwz⟩⟩
  have y0:len0 * 8≤140737488351232:=Go.Proofs.YtcpjlbdjnaaaiaaGreatDoorW.PrintWords.sized_ints hsz (j:=0) (t:=44) rfl rfl Tryz.underlying44 Tryz.underlying2 (by kernel_rfl) (by kernel_rfl) h0;obtain ⟨a1,rfl,rfl,rfl,w1⟩:=open_int Tryz.underlying5 (hval 1 5 v1 rfl rfl) h1;clear hA0 hval0 hsz0 hsz;refine (PAll.norialaw25_ReqRows.walk Pure.ReqRows a0 len0 cap0 z0 a1 W w0 y0 w1 (Num.glob_of_laid hL hsh)).mono fun e W' ⟨he,bel⟩=>?_
  subst he;exact ⟨_,rfl,_,_,_,[],_,[],hW',trodAll_mk1 (shut_bool Tryz.underlying4 _),(trodAll_cons_mk (Below.trod laidOut (by kernel_rfl) (of_decide_eq_true (by kernel_rfl)) k0 bel lt0) (trodAll_cons_mk (shut_int Tryz.underlying5 w1) trodAll_mk0)),rfl,bel.frame _,fun h=>by cases h⟩
theorem over:Rows.reqRowsRow.holds Tryz.pinned (OpenSpec.ofChange Rows.reqRowsSpec):=
  OpenClaim.holds_of_wide 4 Tryz.f4 rfl rfl rfl rfl rfl rfl rfl ⟨rfl,rfl,rfl,rfl,rfl⟩ rfl rfl rfl rfl rfl (by kernel_rfl) Tryz.func4 (by kernel_rfl)
    (of_decide_eq_true (by kernel_rfl)) (by unfold Func.isWrapper;first|(rw [if_pos (by decide +kernel)];kernel_rfl)|(rw [if_neg (by decide +kernel)];exact ⟨rfl,rfl⟩))
    (fun os started H enc _=>lifted os started H enc)
theorem proved:Rows.ReqRowsSaid:=over
set_option maxRecDepth 100000 in
theorem card:Rows.ReqRowsCardSaid:=
  Claim7.holds_tied_plain_at .later [] [.data,.data,.data,.data,.sentinel,.sentinel,.pinned] true (true, "f04a15dd666d61790c8267463b6e4eff87340fa0cfe0ab2f365ff7e8714c7a4b") true
    proved (fun _ h=>by cases h) (by kernel_rfl) (fun _ h=>by cases h) reqRows_row_tie rfl ⟨rfl,rfl⟩ (by kernel_rfl) rfl
    (fun f fn hf hfn=>by
      obtain rfl:f=4:=Option.some.inj ((show Tryz.prog.funcNamed "noria/norialaw25.ReqRows" = some 4 by kernel_rfl).symm.trans hf) |>.symm
      obtain rfl:fn=Tryz.f4:=(Option.some.inj (Tryz.func4.symm.trans hfn)).symm
      exact ⟨by kernel_rfl,fun j t ht=>by
        rw [Tryz.params4] at ht;have hm:t∈[44,5]:=by simpa using Array.mem_of_getElem? ht
        have hall:([44,5].all fun u => !Tryz.prog.wantsStandIn u)=true:=by kernel_rfl
        exact (show Tryz.prog.wantsStandIn t=false by simpa using List.all_eq_true.1 hall t hm)⟩)
    (by kernel_rfl)
#print axioms card
end Go.Proofs.YtcpjlbdjnaaaiaaGreatDoor.reqRows
namespace Go.Proofs.YtcpjlbdjnaaaiaaGreatDoor
/-- The tied card, under a short name, for the claim. -/
theorem reqRows_holds:Rows.ReqRowsCardSaid:=reqRows.card
end Go.Proofs.YtcpjlbdjnaaaiaaGreatDoor
