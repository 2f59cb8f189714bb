import Derived.Lib.SlBytesConst
import Derived.Test.YtcpjlbdjnaaaiaaGreatDoorWWords
namespace Go.Proofs.YtcpjlbdjnaaaiaaGreatDoor.Help
open Go
set_option linter.unusedVariables false
set_option linter.unusedSimpArgs false
abbrev b1:Bool:=true
abbrev b0:Bool:=false
def labs (G:Nat→Act→World→Prop) (Q:Exit→Act→World→Prop):Exit→Act→World→Prop
  | .goto l,a,w=>G l a w
  |e,a,w=>Q e a w
section
variable {G:Nat→Act→World→Prop} {Q:Exit→Act→World→Prop} {a:Act} {w:World}
theorem labs_ret:labs G Q .ret a w=Q .ret a w:=rfl
end
variable {P:Program} {Q:Exit→Act→World→Prop} {a:Act} {w:World}
theorem seq_skip {X:Code} (h:X.wp P Q a w):(Code.seq .skip X).wp P Q a w:=wp_seq (wp_skip (Q:=Exit.then (X.wp P Q) Q) h)
theorem scope_of_exit {c:Code} {b:Frame} {k:List Item} {cs:List Frame} {m:Machine} {e:Exit} {a₁ : Act} {w₁ : World}
    (hng:∀ l,e ≠ .goto l) (harr:Arrives P m b (.inScope c :: k) cs e a₁ w₁):Arrives P m b k cs e a₁ w₁:=by
  cases e with
  |normal=>exact Steps.trans harr (.one step_inScope)
  |exit id=>exact fun k' hk=>harr k' (by simp [exitTo,hk])
  |goto l=>exact absurd rfl (hng l)
  |ret=>exact harr
  |panic ch=>exact harr
  |outgrown=>exact harr
theorem wp_scope_labs {c:Code} (h:∀ G:Nat→Act→World→Prop,(∀ l rest a w,findLabel c l=some rest→rest.wp P (labs G Q) a w→G l a w)→c.wp P (labs G Q) a w):(Code.scope c).wp P Q a w:=by
  intro b k cs
  have out:∀ (m:Machine) e a₁ w₁,labs (fun l a w=>∃ rest,findLabel c l=some rest∧∃ e a' w',Q e a' w'∧Arrives P (lone (b.at a (.code rest :: .inScope c :: k)) cs w) b k cs e a' w') Q e a₁ w₁ → Arrives P m b (.inScope c :: k) cs e a₁ w₁ → ∃ e a' w',Q e a' w'∧Arrives P m b k cs e a' w':=by
    intro m e a₁ w₁ hq harr
    cases e with
    |goto l=>
     obtain ⟨r,hl,e₂,a₂,w₂,hq₂,harr₂⟩:=hq;exact ⟨e₂,a₂,w₂,hq₂,.of_steps (harr _ (by simp [gotoIn,hl])) harr₂⟩
    |normal=>exact ⟨_,a₁,w₁,hq,scope_of_exit (e:=.normal) (by simp) harr⟩
    |exit id=>exact ⟨_,a₁,w₁,hq,scope_of_exit (by simp) harr⟩
    |ret=>exact ⟨_,a₁,w₁,hq,harr⟩
    |panic ch=>exact ⟨_,a₁,w₁,hq,harr⟩
    |outgrown=>exact ⟨_,a₁,w₁,hq,harr⟩
  obtain ⟨e,a₁,w₁,hq,harr⟩:=h (fun l a w=>∃ rest,findLabel c l=some rest∧∃ e a' w',Q e a' w'∧Arrives P (lone (b.at a (.code rest :: .inScope c :: k)) cs w) b k cs e a' w') (by
    intro l rest a w hf hw;obtain ⟨e,a₁,w₁,hq,harr⟩:=hw b (.inScope c :: k) cs
    exact ⟨rest,hf,out _ e a₁ w₁ hq harr⟩) b (.inScope c :: k) cs
  obtain ⟨e',a',w',hq',harr'⟩:=out _ e a₁ w₁ hq harr;exact ⟨e',a',w',hq',.of_steps (.one step_scope) harr'⟩
theorem label_ghost {c X:Code} {G:Nat→Act→World→Prop} (hG:∀ l rest a w,findLabel c l=some rest→rest.wp P (labs G Q) a w→G l a w) (l:Nat) (hl:findLabel c l=some (.seq .skip X))
    (I:Nat→Act→World→Prop) (n₀ : Nat) (h₀ : I n₀ a w)
    (round:∀ n a w,I n a w→∀ (J:Nat→Act→World→Prop) (K:Act→World→Prop),(∀ k a' w',I k a' w'→J k a' w')→(∀ a' w',Handed J n a' w'→K a' w')→(∀ a' w',K a' w'→G l a' w')→X.wp P (labs G Q) a w):X.wp P (labs G Q) a w:=by
  have key:∀ n a w,I n a w→X.wp P (labs G Q) a w:=by
    intro n
    induction n using Nat.strongRecOn with
    |_ n ih=>
     intro a w hI;exact round n a w hI I _ (fun _ _ _ q=>q) (fun _ _ q=>q) (fun a' w' ⟨n',hlt,hI'⟩=>hG l _ a' w' hl (seq_skip (ih n' hlt a' w' hI')))
  exact key n₀ a w h₀
section
theorem cell_put3_1 {w:World} {g:Nat} {a0 a1 b0 v0 v1:Value} (h0:w.cell? ⟨g,0,none⟩=some v0) (h1:w.cell? ⟨g,1,none⟩=some v1):(((w.setCell ⟨g,0,none⟩ a0).setCell ⟨g,1,none⟩ a1).setCell ⟨g,0,none⟩ b0).cell? ⟨g,1,none⟩=some a1:=by
  have e1:(w.setCell ⟨g,0,none⟩ a0).cell? ⟨g,1,none⟩=some v1:=(by rw [World.cell?_setCell_other _ _ _ _ (by intro h_;injection h_ with _ h_ _;omega)];exact h1);have e2:((w.setCell ⟨g,0,none⟩ a0).setCell ⟨g,1,none⟩ a1).cell? ⟨g,1,none⟩=some a1:=World.cell?_setCell_same' _ _ _ (by rw [e1];rfl);exact (by rw [World.cell?_setCell_other _ _ _ _ (by intro h_;injection h_ with _ h_ _;omega)];exact e2)
theorem cell_put3_0 {w:World} {g:Nat} {a0 a1 b0 v0 v1:Value} (h0:w.cell? ⟨g,0,none⟩=some v0) (h1:w.cell? ⟨g,1,none⟩=some v1):(((w.setCell ⟨g,0,none⟩ a0).setCell ⟨g,1,none⟩ a1).setCell ⟨g,0,none⟩ b0).cell? ⟨g,0,none⟩=some b0:=by
  have e1:(w.setCell ⟨g,0,none⟩ a0).cell? ⟨g,0,none⟩=some a0:=World.cell?_setCell_same' _ _ _ (by rw [h0];rfl);have e2:((w.setCell ⟨g,0,none⟩ a0).setCell ⟨g,1,none⟩ a1).cell? ⟨g,0,none⟩=some a0:=(by rw [World.cell?_setCell_other _ _ _ _ (by intro h_;injection h_ with _ h_ _;omega)];exact e1);exact World.cell?_setCell_same' _ _ _ (by rw [e2];rfl)
theorem cell_put4_1 {w:World} {g:Nat} {a0 a1 b0 b1 v0 v1:Value} (h0:w.cell? ⟨g,0,none⟩=some v0) (h1:w.cell? ⟨g,1,none⟩=some v1):((((w.setCell ⟨g,0,none⟩ a0).setCell ⟨g,1,none⟩ a1).setCell ⟨g,0,none⟩ b0).setCell ⟨g,1,none⟩ b1).cell? ⟨g,1,none⟩=some b1:=
  World.cell?_setCell_same' _ _ _ (by rw [cell_put3_1 h0 h1];rfl)
theorem cell_put4_0 {w:World} {g:Nat} {a0 a1 b0 b1 v0 v1:Value} (h0:w.cell? ⟨g,0,none⟩=some v0) (h1:w.cell? ⟨g,1,none⟩=some v1):((((w.setCell ⟨g,0,none⟩ a0).setCell ⟨g,1,none⟩ a1).setCell ⟨g,0,none⟩ b0).setCell ⟨g,1,none⟩ b1).cell? ⟨g,0,none⟩=some b0:=by
  have e:=cell_put3_0 (a0:=a0) (a1:=a1) (b0:=b0) h0 h1;exact (by rw [World.cell?_setCell_other _ _ _ _ (by intro h_;injection h_ with _ h_ _;omega)];exact e)
end
section
open Go.RowKit Go.Proofs.YtcpjlbdjnaaaiaaGreatDoorW.PrintWords
end
section
open Go.RowKit Go.Proofs.YtcpjlbdjnaaaiaaGreatDoorW.PrintWords
variable {P:Program} {ops:Array Oper} {o:Oper} {a:Act} {Q:Exit→Act→World→Prop} {Kc:Act→World→Prop}
end
end Go.Proofs.YtcpjlbdjnaaaiaaGreatDoor.Help
