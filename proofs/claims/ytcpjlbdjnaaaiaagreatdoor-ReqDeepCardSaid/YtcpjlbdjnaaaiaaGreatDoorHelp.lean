import Derived.WalkMore
import Derived.Deep.LoopGhost
import Derived.Lib.SlBytesConst
import Derived.Lib.AppendStr
import Derived.Test.YtcpjlbdjnaaaiaaGreatDoorWWords
namespace Go.Proofs.YtcpjlbdjnaaaiaaGreatDoor.Help
open Go
set_option linter.unusedVariables false
set_option linter.unusedSimpArgs false
abbrev b1 : Bool := true
abbrev b0 : Bool := false
def labs (G : Nat → Act → World → Prop) (Q : Exit → Act → World → Prop) : Exit → Act → World → Prop
  | .goto l, a, w => G l a w
  | e, a, w => Q e a w
section
variable {G : Nat → Act → World → Prop} {Q : Exit → Act → World → Prop} {a : Act} {w : World}
theorem labs_normal : labs G Q .normal a w = Q .normal a w := rfl
theorem labs_exit (id : Nat) : labs G Q (.exit id) a w = Q (.exit id) a w := rfl
theorem labs_ret : labs G Q .ret a w = Q .ret a w := rfl
theorem labs_panic (ch : List PanicEntry) : labs G Q (.panic ch) a w = Q (.panic ch) a w := rfl
end
variable {P : Program} {Q : Exit → Act → World → Prop} {a : Act} {w : World}
theorem seq_skip {X : Code} (h : X.wp P Q a w) : (Code.seq .skip X).wp P Q a w := wp_seq (wp_skip (Q := Exit.then (X.wp P Q) Q) h)
theorem scope_of_exit {c : Code} {b : Frame} {k : List Item} {cs : List Frame} {m : Machine} {e : Exit} {a₁ : Act} {w₁ : World}
    (hng : ∀ l, e ≠ .goto l) (harr : Arrives P m b (.inScope c :: k) cs e a₁ w₁) : Arrives P m b k cs e a₁ w₁ := by
  cases e with
  | normal => exact Steps.trans harr (.one step_inScope)
  | exit id => exact fun k' hk => harr k' (by simp [exitTo, hk])
  | goto l => exact absurd rfl (hng l)
  | ret => exact harr
  | panic ch => exact harr
  | outgrown => exact harr
theorem wp_scope_labs {c : Code} (h : ∀ G : Nat → Act → World → Prop, (∀ l rest a w, findLabel c l = some rest → rest.wp P (labs G Q) a w → G l a w) → c.wp P (labs G Q) a w) : (Code.scope c).wp P Q a w := by
  intro b k cs
  have out : ∀ (m : Machine) e a₁ w₁, labs (fun l a w => ∃ rest, findLabel c l = some rest ∧ ∃ e a' w', Q e a' w' ∧ Arrives P (lone (b.at a (.code rest :: .inScope c :: k)) cs w) b k cs e a' w') Q e a₁ w₁ → Arrives P m b (.inScope c :: k) cs e a₁ w₁ → ∃ e a' w', Q e a' w' ∧ Arrives P m b k cs e a' w' := by
    intro m e a₁ w₁ hq harr
    cases e with
    | goto l =>
      obtain ⟨r, hl, e₂, a₂, w₂, hq₂, harr₂⟩ := hq
      exact ⟨e₂, a₂, w₂, hq₂, .of_steps (harr _ (by simp [gotoIn, hl])) harr₂⟩
    | normal => exact ⟨_, a₁, w₁, hq, scope_of_exit (e := .normal) (by simp) harr⟩
    | exit id => exact ⟨_, a₁, w₁, hq, scope_of_exit (by simp) harr⟩
    | ret => exact ⟨_, a₁, w₁, hq, harr⟩
    | panic ch => exact ⟨_, a₁, w₁, hq, harr⟩
    | outgrown => exact ⟨_, a₁, w₁, hq, harr⟩
  obtain ⟨e, a₁, w₁, hq, harr⟩ := h (fun l a w => ∃ rest, findLabel c l = some rest ∧ ∃ e a' w', Q e a' w' ∧ Arrives P (lone (b.at a (.code rest :: .inScope c :: k)) cs w) b k cs e a' w') (by
    intro l rest a w hf hw
    obtain ⟨e, a₁, w₁, hq, harr⟩ := hw b (.inScope c :: k) cs
    exact ⟨rest, hf, out _ e a₁ w₁ hq harr⟩) b (.inScope c :: k) cs
  obtain ⟨e', a', w', hq', harr'⟩ := out _ e a₁ w₁ hq harr
  exact ⟨e', a', w', hq', .of_steps (.one step_scope) harr'⟩
theorem label_ghost {c X : Code} {G : Nat → Act → World → Prop} (hG : ∀ l rest a w, findLabel c l = some rest → rest.wp P (labs G Q) a w → G l a w) (l : Nat) (hl : findLabel c l = some (.seq .skip X))
    (I : Nat → Act → World → Prop) (n₀ : Nat) (h₀ : I n₀ a w)
    (round : ∀ n a w, I n a w → ∀ (J : Nat → Act → World → Prop) (K : Act → World → Prop), (∀ k a' w', I k a' w' → J k a' w') → (∀ a' w', Handed J n a' w' → K a' w') → (∀ a' w', K a' w' → G l a' w') → X.wp P (labs G Q) a w) : X.wp P (labs G Q) a w := by
  have key : ∀ n a w, I n a w → X.wp P (labs G Q) a w := by
    intro n
    induction n using Nat.strongRecOn with
    | _ n ih =>
      intro a w hI
      exact round n a w hI I _ (fun _ _ _ q => q) (fun _ _ q => q) (fun a' w' ⟨n', hlt, hI'⟩ => hG l _ a' w' hl (seq_skip (ih n' hlt a' w' hI')))
  exact key n₀ a w h₀
theorem C_konst {w : World} (C : Array Value) {e : TypeId} {r : Nat × Nat} (xs : List Int) (hC : C = (xs.map (Value.int .u8)).toArray) (hl : xs.length ≤ 9223372036854775807) :
    (Go.Proofs.YtcpjlbdjnaaaiaaGreatDoorW.PrintWords.Kd.int .u8).C (w.alloc (.cells C e r)) (some ⟨w.heap.size, 0, none⟩) xs.length xs := by
  refine ⟨rfl, hl, fun _ => ⟨_, rfl, fun j p hj => ⟨[.int .u8 p], rfl, rfl, fun i u hi => ?_⟩⟩⟩
  obtain ⟨rfl, rfl⟩ : i = 0 ∧ u = .int .u8 p := by
    cases i with
    | zero => simpa using hi.symm
    | succ i => simp at hi
  subst hC
  have h1 : ((xs.map (Value.int .u8)).toArray)[j]? = some (.int .u8 p) := by simp [hj]
  show (w.alloc (.cells _ e r)).cell? ((⟨w.heap.size, 0, none⟩ : Addr).add (j * 1 + 0)) = _
  rw [Go.Proofs.YtcpjlbdjnaaaiaaGreatDoorW.PrintWords.add_plain]
  simp [World.cell?, World.alloc, hj, -World.alloc_eq]
section
theorem cell_put3_1 {w : World} {g : Nat} {a0 a1 b0 v0 v1 : Value} (h0 : w.cell? ⟨g, 0, none⟩ = some v0) (h1 : w.cell? ⟨g, 1, none⟩ = some v1) : (((w.setCell ⟨g, 0, none⟩ a0).setCell ⟨g, 1, none⟩ a1).setCell ⟨g, 0, none⟩ b0).cell? ⟨g, 1, none⟩ = some a1 := by
  have e1 : (w.setCell ⟨g, 0, none⟩ a0).cell? ⟨g, 1, none⟩ = some v1 := (by rw [World.cell?_setCell_other _ _ _ _ (by intro h_; injection h_ with _ h_ _; omega)]; exact h1)
  have e2 : ((w.setCell ⟨g, 0, none⟩ a0).setCell ⟨g, 1, none⟩ a1).cell? ⟨g, 1, none⟩ = some a1 := World.cell?_setCell_same' _ _ _ (by rw [e1]; rfl)
  exact (by rw [World.cell?_setCell_other _ _ _ _ (by intro h_; injection h_ with _ h_ _; omega)]; exact e2)
theorem cell_put3_0 {w : World} {g : Nat} {a0 a1 b0 v0 v1 : Value} (h0 : w.cell? ⟨g, 0, none⟩ = some v0) (h1 : w.cell? ⟨g, 1, none⟩ = some v1) : (((w.setCell ⟨g, 0, none⟩ a0).setCell ⟨g, 1, none⟩ a1).setCell ⟨g, 0, none⟩ b0).cell? ⟨g, 0, none⟩ = some b0 := by
  have e1 : (w.setCell ⟨g, 0, none⟩ a0).cell? ⟨g, 0, none⟩ = some a0 := World.cell?_setCell_same' _ _ _ (by rw [h0]; rfl)
  have e2 : ((w.setCell ⟨g, 0, none⟩ a0).setCell ⟨g, 1, none⟩ a1).cell? ⟨g, 0, none⟩ = some a0 := (by rw [World.cell?_setCell_other _ _ _ _ (by intro h_; injection h_ with _ h_ _; omega)]; exact e1)
  exact World.cell?_setCell_same' _ _ _ (by rw [e2]; rfl)
theorem cell_put4_1 {w : World} {g : Nat} {a0 a1 b0 b1 v0 v1 : Value} (h0 : w.cell? ⟨g, 0, none⟩ = some v0) (h1 : w.cell? ⟨g, 1, none⟩ = some v1) : ((((w.setCell ⟨g, 0, none⟩ a0).setCell ⟨g, 1, none⟩ a1).setCell ⟨g, 0, none⟩ b0).setCell ⟨g, 1, none⟩ b1).cell? ⟨g, 1, none⟩ = some b1 :=
  World.cell?_setCell_same' _ _ _ (by rw [cell_put3_1 h0 h1]; rfl)
theorem cell_put4_0 {w : World} {g : Nat} {a0 a1 b0 b1 v0 v1 : Value} (h0 : w.cell? ⟨g, 0, none⟩ = some v0) (h1 : w.cell? ⟨g, 1, none⟩ = some v1) : ((((w.setCell ⟨g, 0, none⟩ a0).setCell ⟨g, 1, none⟩ a1).setCell ⟨g, 0, none⟩ b0).setCell ⟨g, 1, none⟩ b1).cell? ⟨g, 0, none⟩ = some b0 := by
  have e := cell_put3_0 (a0 := a0) (a1 := a1) (b0 := b0) h0 h1
  exact (by rw [World.cell?_setCell_other _ _ _ _ (by intro h_; injection h_ with _ h_ _; omega)]; exact e)
end
section
open Go.RowKit Go.Proofs.YtcpjlbdjnaaaiaaGreatDoorW.PrintWords
theorem row_open {k : IntKind} {e base : Nat} {ok : Nat → Prop} {w : World} {v : Value} {xs : List Int} (h : (Kd.int k).R e w base ok v xs) (hp : 0 < xs.length) :
    ∃ (g cap : Nat) (cur : List Value), v = .slice (some ⟨g, 0, none⟩) xs.length cap ∧ base ≤ g ∧ w.heap[g]? = some (.cells cur.toArray e (0, 0)) ∧ xs.length ≤ cap ∧ cap ≤ maxLen ∧ cur.length = cap ∧ cur.take xs.length = xs.map (Value.int k) := by
  have ho := Kd.own_of_R (enc := Value.int k) (h1 := fun _ => rfl) h
  rcases ho.2 with ⟨_, h0⟩ | ⟨g, cap, cur, e1, e2, e3, e4, e5, e6, e7⟩
  · omega
  · exact ⟨g, cap, cur.toList, e1, e2, by simpa using e3, e4, e5, by simpa using e6, by simpa [encs] using e7⟩
theorem row_shut {k : IntKind} {e base : Nat} {w : World} {g cap : Nat} {cur : List Value} {xs : List Int} (hb : base ≤ g) (hg : w.heap[g]? = some (.cells cur.toArray e (0, 0))) (h1 : xs.length ≤ cap) (h2 : cap ≤ maxLen) (h3 : cur.length = cap) (h4 : cur.take xs.length = xs.map (Value.int k)) :
    (Kd.int k).R e w base (fun _ => True) (.slice (some ⟨g, 0, none⟩) xs.length cap) xs := by
  refine Kd.R_of_own (enc := Value.int k) (h1 := fun _ => rfl) ⟨by simp [encs], .inr ⟨g, cap, cur.toArray, rfl, hb, hg, h1, h2, by simpa using h3, ?_⟩⟩ (fun _ _ => trivial)
  simpa [encs] using h4
theorem rep_src {w : World} {g e m : Nat} {cur : List Value} {u : Value} (k : Nat) (hg : w.heap[g]? = some (.cells cur.toArray e (0, 0))) (h3 : cur.take m = List.replicate m u) (hk : k ≤ m) :
    ∀ (j : Nat) (v : Value), (List.replicate k u)[j]? = some v → w.cell? ((⟨g, 0, none⟩ : Addr).add j) = some v := by
  intro j v hj
  have hjk : j < k := by
    rcases Nat.lt_or_ge j k with h | h
    · exact h
    · rw [List.getElem?_eq_none (by simpa using h)] at hj; cases hj
  have hv : v = u := by
    rw [List.getElem?_replicate, if_pos hjk] at hj
    exact (Option.some.inj hj).symm
  subst hv
  have h4 : cur[j]? = some v := by
    have := congrArg (fun l => l[j]?) h3
    simp only [List.getElem?_take, List.getElem?_replicate] at this
    rw [if_pos (by omega), if_pos (by omega)] at this
    exact this
  rw [add_plain]
  simp [World.cell?, hg, h4]
end
section
open Go.RowKit Go.Proofs.YtcpjlbdjnaaaiaaGreatDoorW.PrintWords
variable {P : Program} {ops : Array Oper} {o : Oper} {a : Act} {Q : Exit → Act → World → Prop} {Kc : Act → World → Prop}
theorem print_append_str_step {w0 W : World} (base : Nat) (hw : Region.wanted o (yielded ops a.tmps) = true) (s x : Operand) (t u e : TypeId)
    (ho : o.op = .call { callee := .builtin .append, args := #[s, x], argTypes := #[t, u] })
    (ht : P.underlying t = some (.slice e)) (hu : P.underlying u = some .string) (hinfo : (P.info? e).map (fun i => (i.zero, i.size, i.bytes)) = some (some (.int .u8 0), 1, 1))
    (v : Value) (xs : List Int) (y : ByteArray) (hs : a.eval s = v) (hx : a.eval x = .string y)
    (HO : W.ownsRow base e 1 v xs.length (nums .u8 xs)) (HB : Below base w0 W) (hbase : base ≤ W.heap.size) (hl : xs.length + y.size ≤ 140737488355328)
    (h : ∀ v1 w1, w1.ownsRow base e 1 v1 (xs ++ bytesOf y).length (nums .u8 (xs ++ bytesOf y)) → Below base w0 w1 → W.grownBy w1 v.ownBlock → Kc (a.put o.dst v1) w1) :
    if Region.wanted o (yielded ops a.tmps) = true then Oper.wp P o a W Kc Q else Kc (a.put o.dst undef) W := by
  obtain ⟨i0, hi, hzz⟩ := Option.map_eq_some_iff.1 hinfo
  simp only [Prod.mk.injEq] at hzz
  obtain ⟨hz0, hz1, hz2⟩ := hzz
  obtain ⟨v1, w1, hrun, hown, hg, _⟩ := Lib.run_append_own_string (P := P) W base t u o.type e i0 ht hu hi hz0 hz1 hz2 v xs.length (nums .u8 xs) HO y (by simp only [maxLen]; omega) hl hbase
  have hl2 : (xs ++ bytesOf y).length = xs.length + y.size := by rw [List.length_append, bytesOf_length]
  have hc : nums .u8 (xs ++ bytesOf y) = nums .u8 xs ++ Lib.strCells y := by
    rw [nums_append]
    congr 1
    simp [nums, bytesOf, Lib.strCells]
  rw [if_pos hw]
  unfold Oper.wp execOp
  simp only [ho, resolve, invoke, builtin, Sem.run_bind, Sem.run_pure, Result.andThen_ok, List.map_toArray, List.map_cons, List.map_nil, hs, hx, hrun]
  exact h v1 w1 (by rw [hl2, hc]; exact hown) (HB.grown hg hbase (own_base HO)) hg
end
end Go.Proofs.YtcpjlbdjnaaaiaaGreatDoor.Help
