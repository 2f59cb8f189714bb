import Derived.Test.YtcpjlbdjnaaaiaaGreatDoorWLast
namespace Go.Proofs.YtcpjlbdjnaaaiaaGreatDoor.Help
open Go Go.RowKit Go.Proofs.YtcpjlbdjnaaaiaaGreatDoorW.PrintLast
theorem look_ {P:Program} {md:Region.Mode} {ops:Array Oper} {Q:Exit→Act→World→Prop} {S:World→Prop} {ds:List Nat} {i:Nat} {N:Option Tmp} {oi:Oper} {v:Value} {fuel:Nat} {l:Array Bool} {a:Act} {w:World} (l':Array Bool) (hi:ops[i]?=some oi) (hN:oi.dst=N) (hc:readyB md ops l l' i=true) (hd:i ∉ ds)
    (hw:Region.wanted oi (yielded ops a.tmps)=true) (hrun:(execOp a.eval oi).run P w = .ok (.value v) w) (hS:S w) {a':Act} (ha:a.put N v=a')
    (h:wpAnyLast P md ops Q S ds fuel l' a' w):wpAnyLast P md ops Q S ds (fuel+1) l a w:=by
  subst ha;refine one_ l' hi hN hc hd (fun K hK=>?_);rw [if_pos hw];unfold Oper.wp;rw [hrun,Oper.upon_value,hN];exact hK.out _ _ hS (fun _=>h)
end Go.Proofs.YtcpjlbdjnaaaiaaGreatDoor.Help
