/- Devices in memory: what is told of one, what of it is kept. -/
import Derived.Test.YtkpfhlfbhceebaaPAllx0
import Derived.Shelf.Abstract
import Derived.Lib.SliceRun
import Derived.RegionTactic
import Derived.ChangeAlike
import Derived.StillTailTactics
import Derived.Deep.RegionWith
import Derived.Outline
namespace Go.Proofs.Ytkpfhlfbhceebaa.PAll
open Go.Proofs.Ytkpfhlfbhceebaa.Help
open Go.RowKit Go.Proofs.YtkpfhlfbhceebaaW.PrintWords Go.Proofs.YtkpfhlfbhceebaaW.PrintLast Go.Proofs.YtkpfhlfbhceebaaW.PrintMore
set_option linter.unusedVariables false
set_option linter.unusedSimpArgs false
theorem bcell {W w1 : World} (hb : Below W.heap.size W w1) : (∀ b o, b < W.heap.size → w1.cell? ⟨b, o, none⟩ = W.cell? ⟨b, o, none⟩) ∧ (∀ b o, b < W.heap.size → w1.frozen? ⟨b, o, none⟩ = W.frozen? ⟨b, o, none⟩) :=
  ⟨fun b o h => hb.cell (p := ⟨b, o, none⟩) h, fun b o h => hb.frozen (p := ⟨b, o, none⟩) h⟩
theorem new_blk (w : World) (o : Obj) : (w.alloc o).heap[w.heap.size]? = some o := by simp [World.alloc, -World.alloc_eq]
theorem cell_of_blk {w : World} {g j : Nat} {cs : Array Value} {t : TypeId} {v : Value} (h : w.heap[g]? = some (.cells cs t (0, 0))) (hj : cs[j]? = some v) : w.cell? ⟨g, j, none⟩ = some v := by simp [World.cell?, h, hj]
/-- Of what was there all but S's blocks is as it was. -/
structure Fr (S : Nat → Prop) (w w' : World) : Prop where
  os : w'.os = w.os
  tape : w'.tape = w.tape
  output : w'.output = w.output
  size : w.heap.size ≤ w'.heap.size
  block : ∀ k, k < w.heap.size → ¬ S k → w'.heap[k]? = w.heap[k]?
theorem Fr.refl (S : Nat → Prop) (w : World) : Fr S w w := ⟨rfl, rfl, rfl, Nat.le_refl _, fun _ _ _ => rfl⟩
theorem Fr.trans {S S1 : Nat → Prop} {a b c : World} (h : Fr S a b) (k : Fr S1 b c) (hs : ∀ q, q < a.heap.size → S1 q → S q) : Fr S a c :=
  ⟨k.os.trans h.os, k.tape.trans h.tape, k.output.trans h.output, Nat.le_trans h.size k.size, fun i hi hn => (k.block i (Nat.lt_of_lt_of_le hi h.size) (fun h1 => hn (hs i hi h1))).trans (h.block i hi hn)⟩
theorem Fr.of_below {S : Nat → Prop} {w w' : World} (h : Below w.heap.size w w') : Fr S w w' := ⟨h.os, h.tape, h.output, h.size, fun k hk _ => h.block k hk⟩
theorem Fr.grown {S : Nat → Prop} {w w' : World} {row : Option Nat} (h : w.grownBy w' row) (hs : ∀ k, row = some k → S k) : Fr S w w' := ⟨h.os, h.tape, h.output, h.size, fun k hk hn => h.block k hk (fun e => hn (hs k e.symm))⟩
theorem Fr.set {S : Nat → Prop} {w : World} {p : Addr} (hp : S p.block) (u : Value) : Fr S w (w.setCell p u) :=
  ⟨rfl, rfl, rfl, by simp, fun k hk hn => Below.heap_setCell w p u k (fun e => hn (e ▸ hp))⟩
theorem Fr.drew {S : Nat → Prop} {w : World} (n : Nat) : Fr S w (w.drewN n) := ⟨rfl, rfl, rfl, Nat.le_refl _, fun _ _ _ => rfl⟩
theorem Fr.alloc {S : Nat → Prop} (w : World) (o : Obj) : Fr S w (w.alloc o) := ⟨rfl, rfl, rfl, by simp, fun k hk _ => Below.heap_alloc w o k hk⟩
theorem Fr.below {S : Nat → Prop} {B : Nat} {w w' : World} (h : Fr S w w') (hB : B ≤ w.heap.size) (hs : ∀ k, S k → B ≤ k) : Below B w w' := ⟨h.os, h.tape, h.output, h.size, fun k hk => h.block k (by omega) (fun h1 => by have := hs k h1; omega)⟩
/-- A row of bytes that is read stays as long as its block does. -/
theorem C_same {w w' : World} {A : Option Addr} {n : Nat} {xs : List Int} (h : Kd.C (Kd.int .u8) w A n xs) (hs : ∀ a, A = some a → w'.heap[a.block]? = w.heap[a.block]?) : Kd.C (Kd.int .u8) w' A n xs := by
  refine ⟨h.1, h.2.1, fun hn => ?_⟩
  obtain ⟨ad, e, hc⟩ := h.2.2 hn
  refine ⟨ad, e, fun j p hj => ?_⟩
  obtain ⟨c, hl, hp, hcell⟩ := hc j p hj
  refine ⟨c, hl, hp, fun i u hu => ?_⟩
  rw [World.cell?_of_block (w := w) (by rw [add_block]; exact hs ad e)]
  exact hcell i u hu
/-- Block g is a row of bytes, the first ones B. -/
def OwnBy (w : World) (g cap : Nat) (B : List Int) : Prop :=
  ∃ cur : Array Value, w.heap[g]? = some (.cells cur 5 (0, 0)) ∧ cur.size = cap ∧ B.length ≤ cap ∧ cap ≤ maxLen ∧ cur.toList.take B.length = B.map (Value.int .u8)
theorem OwnBy.same {w w' : World} {g cap : Nat} {B : List Int} (h : OwnBy w g cap B) (hs : w'.heap[g]? = w.heap[g]?) : OwnBy w' g cap B := by
  obtain ⟨cur, hh, r⟩ := h
  exact ⟨cur, hs.trans hh, r⟩
theorem OwnBy.of_R {w : World} {base g cap : Nat} {ok : Nat → Prop} {B : List Int} (h : Kd.R (Kd.int .u8) 5 w base ok (.slice (some ⟨g, 0, none⟩) B.length cap) B) : OwnBy w g cap B := by
  have ho := Kd.own_of_R (enc := Value.int .u8) (h1 := fun _ => rfl) h
  rcases ho.2 with ⟨hv, _⟩ | ⟨g', cap', cur, hv, hg, hh, hnc, hcm, hcs, htk⟩
  · cases hv
  injection hv with ha _ hc
  injection ha with ha
  injection ha with hg'
  subst hg'; subst hc
  exact ⟨cur, hh, by simpa using hcs, hnc, hcm, by simpa [encs] using htk⟩
theorem OwnBy.lt {w : World} {g cap : Nat} {B : List Int} (h : OwnBy w g cap B) : g < w.heap.size := by
  obtain ⟨cur, hh, _⟩ := h
  exact blk_lt hh
theorem OwnBy.reads {w : World} {g cap : Nat} {B : List Int} (h : OwnBy w g cap B) : Kd.C (Kd.int .u8) w (some ⟨g, 0, none⟩) B.length B := by
  obtain ⟨cur, hh, hcs, hle, hcm, htk⟩ := h
  refine ⟨rfl, by unfold maxLen at hcm; omega, fun _ => ⟨_, rfl, fun j p hj => ⟨[.int .u8 p], rfl, rfl, fun i u hi => ?_⟩⟩⟩
  obtain ⟨rfl, rfl⟩ : i = 0 ∧ u = .int .u8 p := by
    cases i with
    | zero => simpa using hi.symm
    | succ i => simp at hi
  have hjl := (List.getElem?_eq_some_iff.1 hj).1
  have h1 : cur[j]? = some (.int .u8 p) := by
    have := congrArg (fun l => l[j]?) htk
    simp only [List.getElem?_take, List.getElem?_map, hj] at this
    rw [if_pos hjl] at this
    simpa using this
  show w.cell? ((⟨g, 0, none⟩ : Addr).add (j * 1 + 0)) = _
  rw [add_plain]
  simp [World.cell?, hh, h1]
/-- What one that waits looks like. -/
def WItem (w : World) (N : Nat → Prop) (x : Int × List Int) (cs : List Value) : Prop :=
  ∃ A c, cs = [.int .i64 x.1, .slice A x.2.length c] ∧ x.2.length ≤ c ∧ Kd.C (Kd.int .u8) w A x.2.length x.2 ∧ ∀ a, A = some a → N a.block
theorem WItem.same {w w' : World} {N N' : Nat → Prop} {x : Int × List Int} {cs : List Value} (h : WItem w N x cs) (hs : ∀ k, N k → w'.heap[k]? = w.heap[k]?) (hn : ∀ k, N k → N' k) : WItem w' N' x cs := by
  obtain ⟨A, c, h1, h2, h3, h4⟩ := h
  exact ⟨A, c, h1, h2, C_same h3 (fun a ha => hs _ (h4 a ha)), fun a ha => hn _ (h4 a ha)⟩
/-- A device at block p: its bytes B, what waits L. S: the blocks that may be written; N: what the waiting ones lead to. -/
structure DevAt (TD TW : Nat) (w : World) (S N : Nat → Prop) (p gb cb : Nat) (vl : Value) (B : List Int) (L : List (Int × List Int)) : Prop where
  cell : w.heap[p]? = some (.cells #[.slice (some ⟨gb, 0, none⟩) B.length cb, vl] TD (0, 0))
  own : OwnBy w gb cb B
  row : OwnRow (WItem w N) TW 2 w 0 vl L
  sp : S p
  sb : S gb
  sl : ∀ k, vl.ownBlock = some k → S k
  ns : ∀ k, S k → ¬ N k
  slt : ∀ k, S k → k < w.heap.size
  nlt : ∀ k, N k → k < w.heap.size
def Dev (TD TW : Nat) (w : World) (S N : Nat → Prop) (p : Nat) (B : List Int) (L : List (Int × List Int)) : Prop := ∃ gb cb vl, DevAt TD TW w S N p gb cb vl B L
theorem OwnRow_same {R R' : Int × List Int → List Value → Prop} {e size base : Nat} {w w' : World} {v : Value} {ps : List (Int × List Int)} (h : OwnRow R e size w base v ps) (hs : ∀ k, v.ownBlock = some k → w'.heap[k]? = w.heap[k]?) (hR : ∀ p c, R p c → R' p c) : OwnRow R' e size w' base v ps := by
  obtain ⟨inner, ho, hr⟩ := h
  exact ⟨inner, own_move ho hs, hr.imp_ hR⟩
theorem DevAt.keep {TD TW : Nat} {w w' : World} {S N : Nat → Prop} {p gb cb : Nat} {vl : Value} {B : List Int} {L : List (Int × List Int)} (h : DevAt TD TW w S N p gb cb vl B L) (hsz : w.heap.size ≤ w'.heap.size) (hs : ∀ k, S k ∨ N k → w'.heap[k]? = w.heap[k]?) : DevAt TD TW w' S N p gb cb vl B L :=
  ⟨(hs p (.inl h.sp)).trans h.cell, h.own.same (hs gb (.inl h.sb)), OwnRow_same h.row (fun k hk => hs k (.inl (h.sl k hk))) (fun _ _ hp => hp.same (fun k hk => hs k (.inr hk)) (fun _ hk => hk)), h.sp, h.sb, h.sl, h.ns, fun k hk => Nat.lt_of_lt_of_le (h.slt k hk) hsz, fun k hk => Nat.lt_of_lt_of_le (h.nlt k hk) hsz⟩
theorem Dev.keep {TD TW : Nat} {w w' : World} {S N T : Nat → Prop} {p : Nat} {B : List Int} {L : List (Int × List Int)} (h : Dev TD TW w S N p B L) (hf : Fr T w w') (ht : ∀ k, T k → ¬ S k ∧ ¬ N k) : Dev TD TW w' S N p B L := by
  obtain ⟨gb, cb, vl, h⟩ := h
  refine ⟨gb, cb, vl, h.keep hf.size (fun k hk => hf.block k ?_ (fun h1 => ?_))⟩
  · rcases hk with hk | hk
    · exact h.slt k hk
    · exact h.nlt k hk
  · have := ht k h1
    rcases hk with hk | hk
    · exact this.1 hk
    · exact this.2 hk
theorem Dev.below {TD TW : Nat} {w w' : World} {S N : Nat → Prop} {p : Nat} {B : List Int} {L : List (Int × List Int)} (h : Dev TD TW w S N p B L) (hf : Below w.heap.size w w') : Dev TD TW w' S N p B L :=
  h.keep (T := fun _ => False) (Fr.of_below hf) (fun _ hk => hk.elim)
theorem DevAt.lenL {TD TW : Nat} {w : World} {S N : Nat → Prop} {p gb cb : Nat} {vl : Value} {B : List Int} {L : List (Int × List Int)} (h : DevAt TD TW w S N p gb cb vl B L) : ∃ A c, vl = .slice A L.length c ∧ L.length ≤ c ∧ L.length ≤ 9223372036854775807 := by
  obtain ⟨A, c, e, hc, hr⟩ := h.row.reads
  exact ⟨A, c, e, hc, hr.2.1⟩
/-- One that waits, read. -/
theorem DevAt.item {TD TW : Nat} {w : World} {S N : Nat → Prop} {p gb cb : Nat} {A : Option Addr} {cl : Nat} {B : List Int} {L : List (Int × List Int)} (h : DevAt TD TW w S N p gb cb (.slice A L.length cl) B L) {j : Nat} (hj : j < L.length) :
    ∃ g A' c', A = some ⟨g, 0, none⟩ ∧ S g ∧ w.cell? ⟨g, j * 2, none⟩ = some (.int .i64 (L[j]'hj).1) ∧ w.cell? ⟨g, j * 2 + 1, none⟩ = some (.slice A' (L[j]'hj).2.length c') ∧ (L[j]'hj).2.length ≤ c' ∧ Kd.C (Kd.int .u8) w A' (L[j]'hj).2.length (L[j]'hj).2 ∧ ∀ a, A' = some a → N a.block := by
  obtain ⟨inner, ho, hr⟩ := h.row
  rcases ho.2 with ⟨hv, h0⟩ | ⟨g, cap, cur, hv, hg, hh, hnc, hcm, hcs, htk⟩
  · omega
  injection hv with ha _ hc
  subst ha
  have hS := h.sl g (by simp [Value.ownBlock])
  obtain ⟨A', c', e, h2, h3, h4⟩ := hr.2 j _ (List.getElem?_eq_getElem hj)
  have a0 : inner[j * 2]? = some (.int .i64 (L[j]'hj).1) := by
    have := congrArg (fun q => q[0]?) e
    simpa [List.getElem?_take, List.getElem?_drop] using this
  have a1 : inner[j * 2 + 1]? = some (.slice A' (L[j]'hj).2.length c') := by
    have := congrArg (fun q => q[1]?) e
    simpa [List.getElem?_take, List.getElem?_drop] using this
  have key : ∀ i : Nat, i < L.length * 2 → cur[i]? = inner[i]? := by
    intro i hi
    rw [← htk, List.getElem?_take, if_pos hi]
    simp
  exact ⟨g, A', c', rfl, hS, by simp [World.cell?, hh, key _ (show j * 2 < L.length * 2 by omega), a0], by simp [World.cell?, hh, key _ (show j * 2 + 1 < L.length * 2 by omega), a1], h2, h3, h4⟩
end Go.Proofs.Ytkpfhlfbhceebaa.PAll
