import Derived.Test.YtcpjlbdjnaaaiaaGreatDoorShelf
import Derived.Test.YtcpjlbdjnaaaiaaGreatDoorFl
import Derived.Shelf.Strings.SlTrimAscii
import Derived.Lib.AppendIntMem
namespace Go.Proofs.YtcpjlbdjnaaaiaaGreatDoor.Help
open Go Go.RowKit Go.Proofs.YtcpjlbdjnaaaiaaGreatDoorW.PrintWords
set_option linter.unusedVariables false
structure Glob (w:World):Prop where
  tab:Lib.TabIs Tryz.prog w "internal/strconv.uint64pow10" .u64 Lib.pow10Tab
  range:∃ tp p,w.var? Tryz.prog "strconv.ErrRange" = some #[.iface tp p]
  syn:∃ tp p,w.var? Tryz.prog "strconv.ErrSyntax" = some #[.iface tp p]
  utf:Lib.Utf8Tabs 5 6 w
  maxLen:∃ m,w.cell? ⟨0,0,none⟩=some (.int .i64 m)
theorem var_below {P:Program} {w w':World} {name:String} {cs:Array Value} (h:w.var? P name=some cs) (hb:Below w.heap.size w w'):w'.var? P name=some cs:=by
  unfold World.var? at *
  cases hg:P.globalNamed name with
  |none=>simp [hg] at h
  |some g=>
   simp only [hg,Option.bind_some] at h ⊢
   have hlt:g < w.heap.size:=by
     rcases Nat.lt_or_ge g w.heap.size with h'|h'
     ·exact h'
     ·rw [Array.getElem?_eq_none h'] at h;simp at h
   rw [hb.block g hlt];exact h
theorem cell_below' {w w':World} {a:Addr} {v:Value} (h:w.cell? a=some v) (hb:Below w.heap.size w w'):w'.cell? a=some v:=
  (hb.cell (World.block_lt_of_cell? _ _ h)).trans h
theorem Glob.below {w w':World} (h:Glob w) (hb:Below w.heap.size w w'):Glob w':=by
  obtain ⟨h1,⟨t2,p2,h2⟩,⟨t3,p3,h3⟩,⟨h4,h5⟩,⟨m,h6⟩⟩:=h;refine ⟨var_below h1 hb,⟨t2,p2,var_below h2 hb⟩,⟨t3,p3,var_below h3 hb⟩,⟨fun c hc=>cell_below' (h4 c hc) hb,fun i hi=>⟨cell_below' (h5 i hi).1 hb,cell_below' (h5 i hi).2 hb⟩⟩,m,cell_below' h6 hb⟩
theorem below_grow' (w:World) (k:Nat) (os:Array Obj):Below w.heap.size w (Sort.grow (w.drewN k) os):=
  Lib.below_grow _ w (Nat.le_refl _) k os
end Go.Proofs.YtcpjlbdjnaaaiaaGreatDoor.Help
