import Derived.Test.YtcpjlbdjnaaaiaaGreatDoorGlob
import Derived.Test.YtcpjlbdjnaaaiaaGreatDoorRows
import Derived.LaidMore
import Derived.Lib.LaidU8T
import Derived.Stop.LaidErr
import Derived.OpenShut
import Derived.HandedShaped
namespace Go.Proofs.YtcpjlbdjnaaaiaaGreatDoor.Num
open Go Go.RowKit Go.Proofs Go.Lib Go.Proofs.YtcpjlbdjnaaaiaaGreatDoor Go.Proofs.YtcpjlbdjnaaaiaaGreatDoor.Help
set_option maxRecDepth 100000
theorem starErr : "*" ++ "errors.errorString" = "*errors.errorString":=by decide
theorem rowErr (u:TypeId) (h:Tryz.prog.typeName? 3 u=some "*errors.errorString"):u=191:=
  typeName_ptr_named (nm:= "errors.errorString") (by rw [starErr];kernel_rfl) (by kernel_rfl) (by decide) u (by rw [starErr];exact h)
theorem rounds_laid {H:Type} {enc:TypeId×Value→H} {a:Assume} {C:Checked} {os:Os} {f:FuncId} {fn:Func} {s:ChangeSpec} {conds:List PathCond} {apart fresh handsOn again:Bool} {X:World→Array Value→Prop}
    (same:∀ (w w':World) (args:Array Value),w.heap=w'.heap→X w args→X w' args)
    (own:ownKnob C.prog.godebug=none) (started:os.Started) (noInit:C.prog.inits.idxOf? f=none) (hfn:C.prog.funcs[f]?=some fn)
    (witness:∃ (w:World) (tape:Tape) (i:Input),w.os=os∧(w.forCall tape i).Shaped C.prog∧i.vars=[]∧Input.okWide C.prog (w.forCall tape i) .any w.heap.size f i ∧
      ((s.pre enc C.prog fn conds apart (w.forCall tape i).memory i.args∧X (w.forCall tape i).memory i.args)∧sizedMet enc C.prog fn (OpenSpec.ofChange s) apart (w.forCall tape i).memory i.args)∧a.holds C.prog (lone (Frame.enter C.prog f i.args .normal) [] (w.forCall tape i)))
    (law:∀ (W:World) (base:Nat) (args:Array Value) (ds gs:List (DataW H)) (before:List MemPlace),
      (∀ (j:Nat) t v,fn.params[j]?=some t→args[j]?=some v→Value.okWide C.prog W .any base t v) →
      DataW.Whole enc C.prog fn.params.toList s.vars apart W args.toList ds gs before →
      conds.all (PathCond.test C.prog ⟨fn.params.toList,ds,s.plain.varTypes C.prog,gs⟩)=true →
      (DataW.weightsEach C.prog (fn.params.toList++s.plain.varTypes C.prog) (ds++gs)).all (· ≤ reachBytes)=true→X W args→W.ShapedOpen C.prog →
      Calls C.prog f args W fun e W'=>∃ v,e = .returned v∧s.post enc C.prog fn apart fresh handsOn again W args v W'):
    ReturnsInHanded a C os f .any (fun w args=>(s.pre enc C.prog fn conds apart w args∧X w args)∧sizedMet enc C.prog fn (OpenSpec.ofChange s) apart w args) (s.post enc C.prog fn apart fresh handsOn again):=by
  refine returnsInHanded_of_calls own started noInit witness (fun w tape i _ shape _ hok hpre _=>?_);obtain ⟨⟨⟨ds,gs,before,whole,hc⟩,hx⟩,size⟩:=hpre;obtain ⟨_,_,_,fn2,hfn2,_,_,_,_,hval⟩:=hok;obtain rfl:fn2=fn:=Option.some.inj (hfn2.symm.trans hfn);refine (law _ _ i.args ds gs before hval (DataW.Whole.of_heap (w':=w.forCall tape i) (by rfl) whole) hc (size.weights whole) (same _ _ _ (by rfl) hx) shape).mono ?_;rintro e W' ⟨v,rfl,hp⟩;exact ChangeSpec.post_blind hp
theorem glob_of_laid {W:World} (h0:laidMetH Tryz.prog Rows.reqDeepRow.laid W) (hsh:W.ShapedOpen Tryz.prog):Glob W:=by
  rw [MakeChecks.laidMetH_plain _ _ _ (by kernel_rfl)] at h0
  have h:laidMet Tryz.prog [("math/bits.deBruijn32tab",Rows.laid_math_bits_deBruijn32tab),("math/bits.deBruijn64tab",Rows.laid_math_bits_deBruijn64tab),("internal/strconv.uint64pow10",tabData .u64 Lib.pow10Tab),("unicode/utf8.acceptRanges",Lib.acceptData),("strconv.ErrRange",Rows.laid_strconv_ErrRange),("strconv.ErrSyntax",Rows.laid_strconv_ErrSyntax),("unicode/utf8.first",Lib.firstData)] W:=h0
  refine ⟨?_,?_,?_,?_,?_⟩
  ·exact tabIs_of_head (g:=1) (t:=169) (by kernel_rfl) (by kernel_rfl) Tryz.underlying169 Tryz.underlying144 (by kernel_rfl) (by kernel_rfl) h.tail.tail
  ·obtain ⟨a,s,hv,_⟩:=laid_sentinel (g:=3) (ti:=101) (tp:=191) (te:=193) (ts:=9) h.tail.tail.tail.tail (by kernel_rfl) (by kernel_rfl) Tryz.underlying101 rowErr Tryz.underlying191 Tryz.underlying193 rfl rfl Tryz.underlying9 (by kernel_rfl) (by kernel_rfl)
   exact ⟨_,_,hv⟩
  ·obtain ⟨a,s,hv,_⟩:=laid_sentinel (g:=2) (ti:=101) (tp:=191) (te:=193) (ts:=9) h.tail.tail.tail.tail.tail (by kernel_rfl) (by kernel_rfl) Tryz.underlying101 rowErr Tryz.underlying191 Tryz.underlying193 rfl rfl Tryz.underlying9 (by kernel_rfl) (by kernel_rfl)
   exact ⟨_,_,hv⟩
  ·exact utf8Tabs_of_readsT (P:=Tryz.prog) (ρ:=Tryz.lays271_ren) ⟨Tryz.underlying5,Tryz.underlying186,Tryz.underlying188,Tryz.underlying189⟩ ⟨by kernel_rfl,by kernel_rfl,by kernel_rfl,by kernel_rfl,by kernel_rfl,by kernel_rfl,by kernel_rfl⟩ (Lib.laidMet.reads h (by simp)) (Lib.laidMet.reads h (by simp))
  ·exact Go.Proofs.cell_of_shapedOpen_int (zero:=#[.int .i64 0]) (t:=3) hsh (of_decide_eq_true (by kernel_rfl)) (by kernel_rfl) rfl (by kernel_rfl) (by kernel_rfl) Tryz.underlying3
end Go.Proofs.YtcpjlbdjnaaaiaaGreatDoor.Num
