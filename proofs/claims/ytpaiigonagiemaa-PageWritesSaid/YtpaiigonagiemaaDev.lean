import Derived.Test.YtpaiigonagiemaaPAllx1
import Derived.Test.YtpaiigonagiemaaPAllx2
import Derived.Test.YtpaiigonagiemaaPAllx3
import Derived.Test.YtpaiigonagiemaaPAllx5
import Derived.Shelf.Abstract
import Derived.Lib.SliceRun
import Derived.RegionTactic
import Derived.ChangeAlike
import Derived.StillTailTactics
import Derived.Deep.RegionWith
import Derived.Outline
import Derived.Deep.RegionLaw
import Derived.Laws.CopyOwn
import Derived.RangeFuncNested
import Derived.RangeFuncBound
import Derived.RangeFuncCalls
import Derived.RangeFuncLeaves
import Derived.Shelf.RegionOpen
import Derived.WalkKit
import Derived.OwnWalkIn
import Derived.TacticsInMore
import Derived.LoopNIn
import Derived.LoopIn
import Derived.Stop.RegionWithIn
import Derived.Deep.RegionHeld3
import Derived.OpenShut
/- Devices in memory: what is told of one, what of it is kept. -/
namespace Go.Proofs.Ytpaiigonagiemaa.PAll
open Go.Proofs.Ytpaiigonagiemaa.Help
open Go.RowKit Go.Proofs.YtpaiigonagiemaaW.PrintWords Go.Proofs.YtpaiigonagiemaaW.PrintLast Go.Proofs.YtpaiigonagiemaaW.PrintMore
set_option linter.unusedVariables false
set_option linter.unusedSimpArgs false
theorem bcell {W w1 : World} (hb : Below W.heap.size W w1) : (∀ b o, b < W.heap.size → w1.cell? ⟨b, o, none⟩ = W.cell? ⟨b, o, none⟩) ∧ (∀ b o, b < W.heap.size → w1.frozen? ⟨b, o, none⟩ = W.frozen? ⟨b, o, none⟩) :=
  ⟨fun b o h => hb.cell (p := ⟨b, o, none⟩) h, fun b o h => hb.frozen (p := ⟨b, o, none⟩) h⟩
theorem new_blk (w : World) (o : Obj) : (w.alloc o).heap[w.heap.size]? = some o := by simp [World.alloc, -World.alloc_eq]
theorem cell_of_blk {w : World} {g j : Nat} {cs : Array Value} {t : TypeId} {v : Value} (h : w.heap[g]? = some (.cells cs t (0, 0))) (hj : cs[j]? = some v) : w.cell? ⟨g, j, none⟩ = some v := by simp [World.cell?, h, hj]
/-- Of what was there all but S's blocks is as it was. -/
structure Fr (S : Nat → Prop) (w w' : World) : Prop where
  os : w'.os = w.os
  tape : w'.tape = w.tape
  output : w'.output = w.output
  size : w.heap.size ≤ w'.heap.size
  block : ∀ k, k < w.heap.size → ¬ S k → w'.heap[k]? = w.heap[k]?
theorem Fr.refl (S : Nat → Prop) (w : World) : Fr S w w := ⟨rfl, rfl, rfl, Nat.le_refl _, fun _ _ _ => rfl⟩
theorem Fr.trans {S S1 : Nat → Prop} {a b c : World} (h : Fr S a b) (k : Fr S1 b c) (hs : ∀ q, q < a.heap.size → S1 q → S q) : Fr S a c :=
  ⟨k.os.trans h.os, k.tape.trans h.tape, k.output.trans h.output, Nat.le_trans h.size k.size, fun i hi hn => (k.block i (Nat.lt_of_lt_of_le hi h.size) (fun h1 => hn (hs i hi h1))).trans (h.block i hi hn)⟩
theorem Fr.of_below {S : Nat → Prop} {w w' : World} (h : Below w.heap.size w w') : Fr S w w' := ⟨h.os, h.tape, h.output, h.size, fun k hk _ => h.block k hk⟩
theorem Fr.grown {S : Nat → Prop} {w w' : World} {row : Option Nat} (h : w.grownBy w' row) (hs : ∀ k, row = some k → S k) : Fr S w w' := ⟨h.os, h.tape, h.output, h.size, fun k hk hn => h.block k hk (fun e => hn (hs k e.symm))⟩
theorem Fr.set {S : Nat → Prop} {w : World} {p : Addr} (hp : S p.block) (u : Value) : Fr S w (w.setCell p u) :=
  ⟨rfl, rfl, rfl, by simp, fun k hk hn => Below.heap_setCell w p u k (fun e => hn (e ▸ hp))⟩
theorem Fr.drew {S : Nat → Prop} {w : World} (n : Nat) : Fr S w (w.drewN n) := ⟨rfl, rfl, rfl, Nat.le_refl _, fun _ _ _ => rfl⟩
theorem Fr.alloc {S : Nat → Prop} (w : World) (o : Obj) : Fr S w (w.alloc o) := ⟨rfl, rfl, rfl, by simp, fun k hk _ => Below.heap_alloc w o k hk⟩
theorem Fr.below {S : Nat → Prop} {B : Nat} {w w' : World} (h : Fr S w w') (hB : B ≤ w.heap.size) (hs : ∀ k, S k → B ≤ k) : Below B w w' := ⟨h.os, h.tape, h.output, h.size, fun k hk => h.block k (by omega) (fun h1 => by have := hs k h1; omega)⟩
/-- A row of bytes that is read stays as long as its block does. -/
theorem C_same {w w' : World} {A : Option Addr} {n : Nat} {xs : List Int} (h : Kd.C (Kd.int .u8) w A n xs) (hs : ∀ a, A = some a → w'.heap[a.block]? = w.heap[a.block]?) : Kd.C (Kd.int .u8) w' A n xs := by
  refine ⟨h.1, h.2.1, fun hn => ?_⟩
  obtain ⟨ad, e, hc⟩ := h.2.2 hn
  refine ⟨ad, e, fun j p hj => ?_⟩
  obtain ⟨c, hl, hp, hcell⟩ := hc j p hj
  refine ⟨c, hl, hp, fun i u hu => ?_⟩
  rw [World.cell?_of_block (w := w) (by rw [add_block]; exact hs ad e)]
  exact hcell i u hu
/-- Block g is a row of bytes, the first ones B. -/
def OwnBy (w : World) (g cap : Nat) (B : List Int) : Prop :=
  ∃ cur : Array Value, w.heap[g]? = some (.cells cur 5 (0, 0)) ∧ cur.size = cap ∧ B.length ≤ cap ∧ cap ≤ maxLen ∧ cur.toList.take B.length = B.map (Value.int .u8)
theorem OwnBy.same {w w' : World} {g cap : Nat} {B : List Int} (h : OwnBy w g cap B) (hs : w'.heap[g]? = w.heap[g]?) : OwnBy w' g cap B := by
  obtain ⟨cur, hh, r⟩ := h
  exact ⟨cur, hs.trans hh, r⟩
theorem OwnBy.of_R {w : World} {base g cap : Nat} {ok : Nat → Prop} {B : List Int} (h : Kd.R (Kd.int .u8) 5 w base ok (.slice (some ⟨g, 0, none⟩) B.length cap) B) : OwnBy w g cap B := by
  have ho := Kd.own_of_R (enc := Value.int .u8) (h1 := fun _ => rfl) h
  rcases ho.2 with ⟨hv, _⟩ | ⟨g', cap', cur, hv, hg, hh, hnc, hcm, hcs, htk⟩
  · cases hv
  injection hv with ha _ hc
  injection ha with ha
  injection ha with hg'
  subst hg'; subst hc
  exact ⟨cur, hh, by simpa using hcs, hnc, hcm, by simpa [encs] using htk⟩
theorem OwnBy.lt {w : World} {g cap : Nat} {B : List Int} (h : OwnBy w g cap B) : g < w.heap.size := by
  obtain ⟨cur, hh, _⟩ := h
  exact blk_lt hh
theorem OwnBy.reads {w : World} {g cap : Nat} {B : List Int} (h : OwnBy w g cap B) : Kd.C (Kd.int .u8) w (some ⟨g, 0, none⟩) B.length B := by
  obtain ⟨cur, hh, hcs, hle, hcm, htk⟩ := h
  refine ⟨rfl, by unfold maxLen at hcm; omega, fun _ => ⟨_, rfl, fun j p hj => ⟨[.int .u8 p], rfl, rfl, fun i u hi => ?_⟩⟩⟩
  obtain ⟨rfl, rfl⟩ : i = 0 ∧ u = .int .u8 p := by
    cases i with
    | zero => simpa using hi.symm
    | succ i => simp at hi
  have hjl := (List.getElem?_eq_some_iff.1 hj).1
  have h1 : cur[j]? = some (.int .u8 p) := by
    have := congrArg (fun l => l[j]?) htk
    simp only [List.getElem?_take, List.getElem?_map, hj] at this
    rw [if_pos hjl] at this
    simpa using this
  show w.cell? ((⟨g, 0, none⟩ : Addr).add (j * 1 + 0)) = _
  rw [add_plain]
  simp [World.cell?, hh, h1]
/-- What one that waits looks like. -/
def WItem (w : World) (N : Nat → Prop) (x : Int × List Int) (cs : List Value) : Prop :=
  ∃ A c, cs = [.int .i64 x.1, .slice A x.2.length c] ∧ x.2.length ≤ c ∧ Kd.C (Kd.int .u8) w A x.2.length x.2 ∧ ∀ a, A = some a → N a.block
theorem WItem.same {w w' : World} {N N' : Nat → Prop} {x : Int × List Int} {cs : List Value} (h : WItem w N x cs) (hs : ∀ k, N k → w'.heap[k]? = w.heap[k]?) (hn : ∀ k, N k → N' k) : WItem w' N' x cs := by
  obtain ⟨A, c, h1, h2, h3, h4⟩ := h
  exact ⟨A, c, h1, h2, C_same h3 (fun a ha => hs _ (h4 a ha)), fun a ha => hn _ (h4 a ha)⟩
/-- A device at block p: its bytes B, what waits L. S: the blocks that may be written; N: what the waiting ones lead to. -/
structure DevAt (TD TW : Nat) (w : World) (S N : Nat → Prop) (p gb cb : Nat) (vl : Value) (B : List Int) (L : List (Int × List Int)) : Prop where
  cell : w.heap[p]? = some (.cells #[.slice (some ⟨gb, 0, none⟩) B.length cb, vl] TD (0, 0))
  own : OwnBy w gb cb B
  row : OwnRow (WItem w N) TW 2 w 0 vl L
  sp : S p
  sb : S gb
  sl : ∀ k, vl.ownBlock = some k → S k
  ns : ∀ k, S k → ¬ N k
  slt : ∀ k, S k → k < w.heap.size
  nlt : ∀ k, N k → k < w.heap.size
def Dev (TD TW : Nat) (w : World) (S N : Nat → Prop) (p : Nat) (B : List Int) (L : List (Int × List Int)) : Prop := ∃ gb cb vl, DevAt TD TW w S N p gb cb vl B L
theorem OwnRow_same {R R' : Int × List Int → List Value → Prop} {e size base : Nat} {w w' : World} {v : Value} {ps : List (Int × List Int)} (h : OwnRow R e size w base v ps) (hs : ∀ k, v.ownBlock = some k → w'.heap[k]? = w.heap[k]?) (hR : ∀ p c, R p c → R' p c) : OwnRow R' e size w' base v ps := by
  obtain ⟨inner, ho, hr⟩ := h
  exact ⟨inner, own_move ho hs, hr.imp_ hR⟩
theorem DevAt.keep {TD TW : Nat} {w w' : World} {S N : Nat → Prop} {p gb cb : Nat} {vl : Value} {B : List Int} {L : List (Int × List Int)} (h : DevAt TD TW w S N p gb cb vl B L) (hsz : w.heap.size ≤ w'.heap.size) (hs : ∀ k, S k ∨ N k → w'.heap[k]? = w.heap[k]?) : DevAt TD TW w' S N p gb cb vl B L :=
  ⟨(hs p (.inl h.sp)).trans h.cell, h.own.same (hs gb (.inl h.sb)), OwnRow_same h.row (fun k hk => hs k (.inl (h.sl k hk))) (fun _ _ hp => hp.same (fun k hk => hs k (.inr hk)) (fun _ hk => hk)), h.sp, h.sb, h.sl, h.ns, fun k hk => Nat.lt_of_lt_of_le (h.slt k hk) hsz, fun k hk => Nat.lt_of_lt_of_le (h.nlt k hk) hsz⟩
theorem Dev.keep {TD TW : Nat} {w w' : World} {S N T : Nat → Prop} {p : Nat} {B : List Int} {L : List (Int × List Int)} (h : Dev TD TW w S N p B L) (hf : Fr T w w') (ht : ∀ k, T k → ¬ S k ∧ ¬ N k) : Dev TD TW w' S N p B L := by
  obtain ⟨gb, cb, vl, h⟩ := h
  refine ⟨gb, cb, vl, h.keep hf.size (fun k hk => hf.block k ?_ (fun h1 => ?_))⟩
  · rcases hk with hk | hk
    · exact h.slt k hk
    · exact h.nlt k hk
  · have := ht k h1
    rcases hk with hk | hk
    · exact this.1 hk
    · exact this.2 hk
theorem Dev.below {TD TW : Nat} {w w' : World} {S N : Nat → Prop} {p : Nat} {B : List Int} {L : List (Int × List Int)} (h : Dev TD TW w S N p B L) (hf : Below w.heap.size w w') : Dev TD TW w' S N p B L :=
  h.keep (T := fun _ => False) (Fr.of_below hf) (fun _ hk => hk.elim)
theorem DevAt.lenL {TD TW : Nat} {w : World} {S N : Nat → Prop} {p gb cb : Nat} {vl : Value} {B : List Int} {L : List (Int × List Int)} (h : DevAt TD TW w S N p gb cb vl B L) : ∃ A c, vl = .slice A L.length c ∧ L.length ≤ c ∧ L.length ≤ 9223372036854775807 := by
  obtain ⟨A, c, e, hc, hr⟩ := h.row.reads
  exact ⟨A, c, e, hc, hr.2.1⟩
/-- One that waits, read. -/
theorem DevAt.item {TD TW : Nat} {w : World} {S N : Nat → Prop} {p gb cb : Nat} {A : Option Addr} {cl : Nat} {B : List Int} {L : List (Int × List Int)} (h : DevAt TD TW w S N p gb cb (.slice A L.length cl) B L) {j : Nat} (hj : j < L.length) :
    ∃ g A' c', A = some ⟨g, 0, none⟩ ∧ S g ∧ w.cell? ⟨g, j * 2, none⟩ = some (.int .i64 (L[j]'hj).1) ∧ w.cell? ⟨g, j * 2 + 1, none⟩ = some (.slice A' (L[j]'hj).2.length c') ∧ (L[j]'hj).2.length ≤ c' ∧ Kd.C (Kd.int .u8) w A' (L[j]'hj).2.length (L[j]'hj).2 ∧ ∀ a, A' = some a → N a.block := by
  obtain ⟨inner, ho, hr⟩ := h.row
  rcases ho.2 with ⟨hv, h0⟩ | ⟨g, cap, cur, hv, hg, hh, hnc, hcm, hcs, htk⟩
  · omega
  injection hv with ha _ hc
  subst ha
  have hS := h.sl g (by simp [Value.ownBlock])
  obtain ⟨A', c', e, h2, h3, h4⟩ := hr.2 j _ (List.getElem?_eq_getElem hj)
  have a0 : inner[j * 2]? = some (.int .i64 (L[j]'hj).1) := by
    have := congrArg (fun q => q[0]?) e
    simpa [List.getElem?_take, List.getElem?_drop] using this
  have a1 : inner[j * 2 + 1]? = some (.slice A' (L[j]'hj).2.length c') := by
    have := congrArg (fun q => q[1]?) e
    simpa [List.getElem?_take, List.getElem?_drop] using this
  have key : ∀ i : Nat, i < L.length * 2 → cur[i]? = inner[i]? := by
    intro i hi
    rw [← htk, List.getElem?_take, if_pos hi]
    simp
  exact ⟨g, A', c', rfl, hS, by simp [World.cell?, hh, key _ (show j * 2 < L.length * 2 by omega), a0], by simp [World.cell?, hh, key _ (show j * 2 + 1 < L.length * 2 by omega), a1], h2, h3, h4⟩
end Go.Proofs.Ytpaiigonagiemaa.PAll
/- The program's devices: Waits, Blocks, has, Of, New, Write. -/
namespace Go.Proofs.Ytpaiigonagiemaa.PAll
open Go.Proofs.Ytpaiigonagiemaa.Help
open Go.RowKit Go.Proofs.YtpaiigonagiemaaW.PrintWords Go.Proofs.YtpaiigonagiemaaW.PrintLast Go.Proofs.YtpaiigonagiemaaW.PrintMore
set_option linter.unusedVariables false
set_option linter.unusedSimpArgs false
/-- What a call may have done to a device. -/
def DevTo (TD TW : Nat) (w w' : World) (S N : Nat → Prop) (p : Nat) (B : List Int) (L : List (Int × List Int)) : Prop :=
  ∃ S' N' : Nat → Prop, Dev TD TW w' S' N' p B L ∧ Fr S w w' ∧ (∀ k, S' k → S k ∨ w.heap.size ≤ k) ∧ ∀ k, N' k → N k ∨ w.heap.size ≤ k
/-- A device that is new. -/
def DevNew (TD TW : Nat) (w w' : World) (N : Nat → Prop) (p : Nat) (B : List Int) (L : List (Int × List Int)) : Prop :=
  ∃ S' N' : Nat → Prop, Dev TD TW w' S' N' p B L ∧ Fr (fun _ => False) w w' ∧ (∀ k, S' k → w.heap.size ≤ k) ∧ ∀ k, N' k → N k ∨ w.heap.size ≤ k
theorem dev_waits {w : World} {S N : Nat → Prop} {p : Nat} {B : List Int} {L : List (Int × List Int)} (h : Dev 76 82 w S N p B L) :
    Calls Try.prog 23 #[.pointer (some ⟨p, 0, none⟩)] w fun e w' => e = .returned (.int .i64 L.length) ∧ w = w' := by
  obtain ⟨gb, cb, vl, h⟩ := h
  obtain ⟨A, c, rfl, hc, hL⟩ := h.lenL
  have h0 := cell_of_blk h.cell (j := 0) rfl
  have h1 := cell_of_blk h.cell (j := 1) rfl
  go_enter Try.func23, Try.ntmps23
  go_wp2
  go_ret
  exact ⟨rfl, rfl⟩
theorem dev_blocks {w : World} {S N : Nat → Prop} {p : Nat} {B : List Int} {L : List (Int × List Int)} (h : Dev 76 82 w S N p B L) {n : Nat} (hn : B.length = n * 64) (hm : n ≤ 1024) :
    Calls Try.prog 40 #[.pointer (some ⟨p, 0, none⟩)] w fun e w' => e = .returned (.int .i64 n) ∧ w = w' := by
  obtain ⟨gb, cb, vl, h⟩ := h
  have h0 := cell_of_blk h.cell (j := 0) rfl
  have h1 := cell_of_blk h.cell (j := 1) rfl
  rw [hn] at h0
  have e1 : (((n * 64 : Nat) : Int).tdiv 64) = (n : Int) := by
    rw [Int.natCast_mul]
    exact Int.mul_tdiv_cancel _ (by decide)
  go_enter Try.func40, Try.ntmps40
  go_wp2
  all_goals go_ret
  refine ⟨?_, rfl⟩
  go_num
theorem dev_has {w : World} {S N : Nat → Prop} {p : Nat} {B : List Int} {L : List (Int × List Int)} (h : Dev 76 82 w S N p B L) {n : Nat} (hn : B.length = n * 64) (hm : n ≤ 1024) (i : Int) :
    Calls Try.prog 51 #[.pointer (some ⟨p, 0, none⟩), .int .i64 i] w fun e w' => e = .returned (.bool (decide (0 ≤ i ∧ i < n))) ∧ w = w' := by
  have hb := dev_blocks h hn hm
  go_enter Try.func51, Try.ntmps51
  go_wp2_with (go_at_call 40; refine hb.mono ?_; rintro e w' ⟨rfl, rfl⟩)
  all_goals go_ret
  all_goals refine ⟨?_, rfl⟩
  all_goals refine congrArg (fun b => Ending.returned (.bool b)) ?_
  all_goals rw [Bool.eq_iff_iff]
  all_goals simp
  all_goals omega
theorem own_form {w : World} {base : Nat} {ok : Nat → Prop} {v : Value} {bs : List Int} (hR : Kd.R (Kd.int .u8) 5 w base ok v bs) (h0 : 0 < bs.length) : ∃ g cap, v = .slice (some ⟨g, 0, none⟩) bs.length cap ∧ base ≤ g ∧ bs.length ≤ cap ∧ OwnBy w g cap bs := by
  have ho := Kd.own_of_R (enc := Value.int .u8) (h1 := fun _ => rfl) hR
  rcases ho.2 with ⟨hv, hl⟩ | ⟨g', cap', cur, hv, hg, hh, hnc, hcm, hcs, htk⟩
  · exact absurd hl (by omega)
  exact ⟨g', cap', hv, hg, hnc, ⟨cur, hh, by simpa using hcs, hnc, hcm, by simpa [encs] using htk⟩⟩
theorem clone_ok {w : World} {A : Option Addr} {c : Nat} {bs : List Int} (hr : Kd.C (Kd.int .u8) w A bs.length bs) (hc : bs.length ≤ c) (h0 : 0 < bs.length) (h1 : bs.length < 140737488355328) :
    Calls Try.prog 36 #[.slice A bs.length c] w fun e w' => ∃ g cap, e = .returned (.slice (some ⟨g, 0, none⟩) bs.length cap) ∧ w.heap.size ≤ g ∧ bs.length ≤ cap ∧ OwnBy w' g cap bs ∧ Below w.heap.size w w' := by
  refine (slices_Clone_byte_byte.calls A c bs bs w hr hc (by unfold slices_Clone_byte_byte.f; rw [if_pos h1])).mono ?_
  rintro e w' ⟨v, rfl, hR, hB⟩
  obtain ⟨g, cap, rfl, h2, h3, h4⟩ := own_form hR h0
  exact ⟨g, cap, rfl, h2, h3, h4, hB⟩
theorem dev_of {w : World} {A : Option Addr} {c n : Nat} {bs : List Int} (hr : Kd.C (Kd.int .u8) w A bs.length bs) (hc : bs.length ≤ c) (hn : bs.length = n * 64) (h4 : 4 ≤ n) (hm : n ≤ 1024) :
    Calls Try.prog 39 #[.slice A bs.length c] w fun e w' =>
      ∃ p, e = .returned (.tuple #[.pointer (some ⟨p, 0, none⟩), .int .i64 0]) ∧ DevNew 76 82 w w' (fun _ => False) p bs [] := by
  have hcl := clone_ok hr hc (by omega) (by omega)
  rw [hn] at hcl ⊢
  have e1 : (((n * 64 : Nat) : Int).tdiv 64) = (n : Int) := by
    rw [Int.natCast_mul]
    exact Int.mul_tdiv_cancel _ (by decide)
  have e2 : (((n * 64 : Nat) : Int).tmod 64) = 0 := by
    rw [Int.natCast_mul]
    exact Int.mul_tmod_left _ _
  go_enter Try.func39, Try.ntmps39
  go_wp2_with (go_at_call 36; refine hcl.mono ?_; rintro e w1 ⟨g, cap, rfl, hg, hnc, hO, hB⟩)
  go_ret2
  refine ⟨w1.heap.size, rfl, fun k => k = w1.heap.size ∨ k = g, fun _ => False, ⟨g, cap, .slice none 0 0, ?_⟩, (Fr.of_below hB).trans (Fr.alloc (S := fun _ => False) w1 _) (fun _ _ h => h), ?_, fun k h => h.elim⟩
  · have hlt := hO.lt
    exact ⟨by rw [hn]; exact new_blk _ _, hO.same (Below.heap_alloc w1 _ g hlt), OwnRow.none_ _ _ _ _ _, .inl rfl, .inr rfl, fun k h => by simp [Value.ownBlock] at h, fun k h h2 => h2, fun k h => by rcases h with rfl | rfl <;> simp <;> omega, fun k h => h.elim⟩
  · rintro k (rfl | rfl)
    · exact hB.size
    · exact hg
theorem dev_of_bad {w : World} {A : Option Addr} {c : Nat} {bs : List Int} (hr : Kd.C (Kd.int .u8) w A bs.length bs) (hn : ¬ (bs.length % 64 = 0 ∧ 4 ≤ bs.length / 64 ∧ bs.length / 64 ≤ 1024)) :
    Calls Try.prog 39 #[.slice A bs.length c] w fun e w' => e = .returned (.tuple #[.pointer none, .int .i64 1]) ∧ w = w' := by
  have hL : bs.length ≤ 9223372036854775807 := hr.2.1
  have e1 : ((bs.length : Int).tdiv 64) = ((bs.length / 64 : Nat) : Int) := by rw [Int.tdiv_eq_ediv_of_nonneg (by omega)]; omega
  have e2 : ((bs.length : Int).tmod 64) = ((bs.length % 64 : Nat) : Int) := by rw [Int.tmod_eq_emod_of_nonneg (by omega)]; omega
  have hcond : (!decide (((bs.length % 64 : Nat) : Int) = 0) || (decide (((bs.length / 64 : Nat) : Int) < 4)) || decide ((1024 : Int) < ((bs.length / 64 : Nat) : Int))) = true := by
    simp; omega
  go_enter Try.func39, Try.ntmps39
  go_wp2
  all_goals first | (exfalso; omega) | skip
  all_goals (go_ret2; exact ⟨rfl, rfl⟩)
theorem DevNew.from {TD TW : Nat} {a b c : World} {N : Nat → Prop} {p : Nat} {B : List Int} {L : List (Int × List Int)} (hf : Fr (fun _ => False) a b) (h : DevNew TD TW b c N p B L) : DevNew TD TW a c N p B L := by
  obtain ⟨S, N', h1, h2, h3, h4⟩ := h
  exact ⟨S, N', h1, hf.trans h2 (fun _ _ h => h), fun k hk => Nat.le_trans hf.size (h3 k hk), fun k hk => (h4 k hk).imp_right (Nat.le_trans hf.size)⟩
theorem dev_new {w : World} {n : Nat} (h4 : 4 ≤ n) (hm : n ≤ 1024) :
    Calls Try.prog 16 #[.int .i64 n] w fun e w' =>
      ∃ p, e = .returned (.tuple #[.pointer (some ⟨p, 0, none⟩), .int .i64 0]) ∧ DevNew 76 82 w w' (fun _ => False) p (List.replicate (n * 64) 0) [] := by
  have E0 : Aside0 ((n : Int) * 64 = ((n * 64 : Nat) : Int)) := ⟨by rw [Int.natCast_mul]; rfl⟩
  have c1 : decide ((n : Int) < 4) = false := by simp; omega
  have c2 : decide ((1024 : Int) < (n : Int)) = false := by simp; omega
  go_enter Try.func16, Try.ntmps16
  go_wp2_with (first
    | ((with_reducible refine gate_dst (N := 12) rfl ?_); refine Kd.R_make (Kd.int .u8) _ 5 rfl (N := 12) rfl 22 _ _ rfl ((n : Int) * 64) rfl rfl Try.underlying22 (.int .u8 0) 1 info5 rfl (by decide) (by omega) 0 (ok := fun _ => True) (okp := fun _ => True) rfl (fun _ hk => hk) trivial (by omega) (by omega) (Below.refl _ _) (Nat.le_refl _) ?_; intro v1 w1 ho hb hg_ hnew_; clear hg_ hnew_; rw [E0.out, Int.toNat_natCast] at ho; obtain ⟨g, cap, rfl, hg, hc, hO⟩ := own_form ho (by rw [List.length_replicate]; omega); have HOF := Aside0.mk (dev_of (n := n) hO.reads hc (by rw [List.length_replicate]) h4 hm); have HO := Aside0.mk hO; have HB := Aside0.mk hb; clear ho hO hb hc; rw [List.length_replicate] at *)
    | (go_at_call 39; refine HOF.out.mono ?_; rintro e w2 ⟨p, rfl, hN⟩; replace hN := Aside0.mk hN))
  go_ret2
  exact ⟨p, rfl, hN.out.from (Fr.of_below HB.out)⟩
theorem dev_new_bad {w : World} {n : Int} (hn : n < 4 ∨ 1024 < n) :
    Calls Try.prog 16 #[.int .i64 n] w fun e w' => e = .returned (.tuple #[.pointer none, .int .i64 1]) ∧ w = w' := by
  go_enter Try.func16, Try.ntmps16
  go_wp2
  all_goals first | (exfalso; omega) | skip
  all_goals (go_ret2; exact ⟨rfl, rfl⟩)
theorem grown_blk {w w' : World} {row : Option Nat} (h : w.grownBy w' row) {k : Nat} (hk : k < w.heap.size) (hne : row ≠ some k) : w'.heap[k]? = w.heap[k]? := h.block k hk (fun e => hne e.symm)
theorem OwnRow_lt {α : Type} {R : α → List Value → Prop} {e size base : Nat} {w : World} {v : Value} {ps : List α} (h : OwnRow R e size w base v ps) {k : Nat} (hk : v.ownBlock = some k) : k < w.heap.size ∧ ∃ cs, w.heap[k]? = some (.cells cs e (0, 0)) := by
  obtain ⟨inner, ho, hr⟩ := h
  rcases ho.2 with ⟨hv, _⟩ | ⟨g, cap, cur, hv, hg, hh, _⟩
  · rw [hv] at hk; cases hk
  · rw [hv] at hk
    obtain rfl := Option.some.inj hk
    exact ⟨blk_lt hh, cur, hh⟩
/-- One more waits. -/
theorem DevAt.waits_new {TD TW : Nat} {W0 W w2 : World} {S N : Nat → Prop} {p gb cb : Nat} {vl v1 : Value} {B : List Int} {L : List (Int × List Int)} {x : Int × List Int} (h : DevAt TD TW W0 S N p gb cb vl B L) (hne : TW ≠ TD) (hne5 : TW ≠ 5) (hnd : TD ≠ 5) (hB : Below W0.heap.size W0 W) {gA cA : Nat} (hgA : W0.heap.size ≤ gA) (hO : OwnBy W gA cA x.2)
    (hrow : OwnRow (WItem W (fun k => N k ∨ k = gA)) TW 2 w2 0 v1 (L ++ [x])) (hg : W.grownBy w2 vl.ownBlock) (hv : v1.ownBlock = vl.ownBlock ∨ ∃ b, v1.ownBlock = some b ∧ W.heap.size ≤ b) :
    w2.cell? ⟨p, 1, none⟩ = some vl ∧ w2.frozen? ⟨p, 1, none⟩ = false ∧ DevTo TD TW W0 (w2.setCell ⟨p, 1, none⟩ v1) S N p B (L ++ [x]) := by
  have hWs := hB.size
  have hp : p < W0.heap.size := h.slt p h.sp
  have hgb : gb < W0.heap.size := h.slt gb h.sb
  have hgl := hO.lt
  have hneP : vl.ownBlock ≠ some p := fun e => by
    obtain ⟨_, cs, hc⟩ := OwnRow_lt h.row e
    rw [h.cell] at hc
    injection hc with hc; injection hc with _ hc _
    exact hne hc.symm
  have hneB : vl.ownBlock ≠ some gb := fun e => by
    obtain ⟨_, cs, hc⟩ := OwnRow_lt h.row e
    obtain ⟨cur, hc2, _⟩ := h.own
    rw [hc2] at hc
    injection hc with hc; injection hc with _ hc _
    exact hne5 hc.symm
  have hneN : ∀ k, N k → vl.ownBlock ≠ some k := fun k hk e => h.ns k (h.sl k e) hk
  have hcp : w2.heap[p]? = some (.cells #[.slice (some ⟨gb, 0, none⟩) B.length cb, vl] TD (0, 0)) := (grown_blk hg (by omega) hneP).trans ((hB.block p hp).trans h.cell)
  have hpb : p ≠ gb := fun e => by
    subst e
    obtain ⟨cur, hc2, _⟩ := h.own
    have hc := h.cell
    rw [hc2] at hc
    injection hc with hc; injection hc with _ hc _
    exact hnd hc.symm
  have hne1 : v1.ownBlock ≠ some p := fun e => by
    obtain ⟨_, cs, hc⟩ := OwnRow_lt hrow e
    rw [hcp] at hc
    injection hc with hc; injection hc with _ hc _
    exact hne hc.symm
  have hset : ∀ k, k ≠ p → (w2.setCell ⟨p, 1, none⟩ v1).heap[k]? = w2.heap[k]? := fun k hk => Below.heap_setCell w2 _ v1 k hk
  have hgs := hg.size
  refine ⟨cell_of_blk hcp rfl, blk_frozen hcp _, fun k => S k ∨ (v1.ownBlock = some k ∧ W0.heap.size ≤ k), fun k => N k ∨ k = gA, ⟨gb, cb, v1, ?_⟩, ?_, ?_, ?_⟩
  · refine ⟨?_, ?_, ?_, .inl h.sp, .inl h.sb, ?_, ?_, ?_, ?_⟩
    · exact blk_put hcp 1 v1 rfl
    · exact h.own.same ((hset gb (Ne.symm hpb)).trans ((grown_blk hg (by omega) hneB).trans (hB.block gb hgb)))
    · refine OwnRow_same hrow (fun k hk => hset k (fun e => hne1 (e ▸ hk))) (fun y c hy => hy.same (fun k hk => ?_) (fun _ h => h))
      have hkp : k ≠ p := fun e => by
        subst e
        rcases hk with hk | hk
        · exact h.ns _ h.sp hk
        · omega
      rw [hset k hkp]
      rcases hk with hk | rfl
      · exact grown_blk hg (by have := h.nlt k hk; omega) (hneN k hk)
      · exact grown_blk hg hgl (fun e => by have := h.slt _ (h.sl _ e); omega)
    · intro k hk
      rcases hv with e | ⟨b, e, hb⟩
      · exact .inl (h.sl k (e ▸ hk))
      · exact .inr ⟨hk, by rw [e] at hk; obtain rfl := Option.some.inj hk; omega⟩
    · rintro k (hk | ⟨hk, hk2⟩) (hn | rfl)
      · exact h.ns k hk hn
      · have := h.slt _ hk; omega
      · have := h.nlt _ hn; omega
      · rcases hv with e | ⟨b, e, hb⟩
        · have := h.slt _ (h.sl _ (e ▸ hk)); omega
        · rw [e] at hk; obtain rfl := Option.some.inj hk; omega
    · rintro k (hk | ⟨hk, _⟩)
      · have := h.slt k hk; simp; omega
      · have := (OwnRow_lt hrow hk).1; simpa using this
    · rintro k (hk | rfl)
      · have := h.nlt k hk; simp; omega
      · simp; omega
  · exact ((Fr.of_below (S := S) hB).trans (Fr.grown (S := S) hg (fun k hk => h.sl k hk)) (fun _ _ h => h)).trans (Fr.set (S := S) (p := ⟨p, 1, none⟩) h.sp v1) (fun _ _ h => h)
  · rintro k (hk | ⟨_, hk⟩)
    · exact .inl hk
    · exact .inr hk
  · rintro k (hk | rfl)
    · exact .inl hk
    · exact .inr hgA
theorem infoW : (Try.prog.info? 82).map (fun i => (i.zero, i.size, i.bytes)) = some (some (.agg #[.int .i64 0, .slice none 0 0]), 2, 32) := by kernel_rfl
theorem WItem_new {w : World} {gA cA m : Nat} {N : Nat → Prop} {i : Int} {bs : List Int} (hm : bs.length = m) (hO : OwnBy w gA cA bs) (hc : m ≤ cA) : WItem w (fun k => N k ∨ k = gA) (i, bs) [.int .i64 i, .slice (some ⟨gA, 0, none⟩) m cA] := by
  subst hm
  exact ⟨_, cA, rfl, hc, hO.reads, fun a ha => by obtain rfl := Option.some.inj ha; exact .inr rfl⟩
theorem dev_write {w : World} {S N : Nat → Prop} {p : Nat} {B : List Int} {L : List (Int × List Int)} (h : Dev 76 82 w S N p B L) {n : Nat} (hn : B.length = n * 64) (hm : n ≤ 1024) (hL : L.length < 4294967296) {i : Int} (h0 : 0 ≤ i) (hi : i < n)
    {A : Option Addr} {c : Nat} {bs : List Int} (hr : Kd.C (Kd.int .u8) w A bs.length bs) (hc : bs.length ≤ c) (h64 : bs.length = 64) :
    Calls Try.prog 41 #[.pointer (some ⟨p, 0, none⟩), .int .i64 i, .slice A bs.length c] w fun e w' =>
      e = .returned (.int .i64 0) ∧ DevTo 76 82 w w' S N p B (L ++ [(i, bs)]) := by
  have hb := Aside0.mk (dev_has h hn hm i)
  obtain ⟨gb, cb, vl, h⟩ := h
  have H := Aside0.mk h
  have h1 := cell_of_blk h.cell (j := 1) rfl
  have hcl := Aside0.mk (clone_ok (w := w.drew) hr hc (by omega) (by omega))
  have hL0 := Aside0.mk hL
  have E0 := Aside0.mk (decide_eq_true (⟨h0, hi⟩ : 0 ≤ i ∧ i < (n : Int)))
  have h64' := Aside0.mk h64
  rw [h64] at hcl ⊢
  clear h hL hr h64
  go_enter Try.func41, Try.ntmps41
  go_wp2_with (go_at_call 51; refine hb.out.mono ?_; rintro e w' ⟨rfl, rfl⟩; rw [E0.out])
  go_region_law (first
    | (refine OwnRow.append_step (R := WItem w1 (fun k => N k ∨ k = gA)) (w0 := w1) (W := w1) 0 (by simp [Region.wanted]) (.tmp 20) (.tmp 25) 74 82 (.agg #[.int .i64 0, .slice none 0 0]) 2 32 rfl Try.underlying74 infoW rfl (by decide) (by decide) vl L (i, bs) [.int .i64 i, .slice (some ⟨gA, 0, none⟩) 64 cA] rfl rfl (WItem_new h64'.out hO.out hcA) rfl (by simp [Value.oneCell']) (OwnRow_same H.out.row (fun k hk => hB.out.block k (H.out.slt k (H.out.sl k hk))) (fun _ _ hp => hp.same (fun k hk => hB.out.block k (H.out.nlt k hk)) (fun _ hk => .inl hk))) (Below.refl _ _) (Nat.zero_le _) (by have := hL0.out; omega) ?_
       rintro v1 w2 hrow hb2 hg hv
       obtain ⟨A1, c1, rfl, hc1⟩ := hrow.slice_
       obtain ⟨q1, q2, q3⟩ := H.out.waits_new (x := (i, bs)) (by decide) (by decide) (by decide) hB.out hgA hO.out hrow hg hv
       have Q3 := Aside0.mk q3
       clear q3 hrow hb2 hg hv)
    | (go_simp; go_at_call 36; refine hcl.out.mono ?_; rintro e w1 ⟨gA, cA, rfl, hgA, hcA, hO, hB⟩; have hO := Aside0.mk hO; have hB : Aside0 (Below w.heap.size w w1) := ⟨hB.os, hB.tape, hB.output, hB.size, hB.block⟩; have h1' : w1.cell? ⟨p, 1, none⟩ = some vl := (hB.out.cell (p := ⟨p, 1, none⟩) (H.out.slt p H.out.sp)).trans h1; have hp1 : p < w1.heap.size := Nat.lt_of_lt_of_le (H.out.slt p H.out.sp) hB.out.size; have hp2 : p ≠ w1.heap.size := Nat.ne_of_lt hp1))
  all_goals go_wp2
  all_goals go_ret
  all_goals exact ⟨rfl, by have q := Q3.out; rw [List.length_append, List.length_singleton] at q; exact q⟩
theorem dev_write_bad {w : World} {S N : Nat → Prop} {p : Nat} {B : List Int} {L : List (Int × List Int)} (h : Dev 76 82 w S N p B L) {n : Nat} (hn : B.length = n * 64) (hm : n ≤ 1024) {i : Int} {A : Option Addr} {l c : Nat} (hl : l ≤ 9223372036854775807) (hb : ¬ (0 ≤ i ∧ i < n) ∨ l ≠ 64) :
    Calls Try.prog 41 #[.pointer (some ⟨p, 0, none⟩), .int .i64 i, .slice A l c] w fun e w' =>
      e = .returned (.int .i64 1) ∧ w = w' := by
  have hh := Aside0.mk (dev_has h hn hm i)
  have E0 := Aside0.mk hb
  clear hb
  generalize hq : decide (0 ≤ i ∧ i < (n : Int)) = q at hh
  go_enter Try.func41, Try.ntmps41
  cases q with
  | false =>
    clear hq
    go_wp2_with (go_at_call 51; refine hh.out.mono ?_; rintro e w' ⟨rfl, rfl⟩)
    go_ret
    exact ⟨rfl, rfl⟩
  | true =>
    have hl2 : l ≠ 64 := by
      rcases E0.out with hb | hb
      · exact absurd (of_decide_eq_true hq) hb
      · exact hb
    have hl3 : (l : Int) ≠ 64 := by omega
    clear hq
    go_wp2_with (go_at_call 51; refine hh.out.mono ?_; rintro e w' ⟨rfl, rfl⟩)
    go_ret
    exact ⟨rfl, rfl⟩
end Go.Proofs.Ytpaiigonagiemaa.PAll
/- The program's devices: Sync, Crash. -/
namespace Go.Proofs.Ytpaiigonagiemaa.PAll
open Go.Proofs.Ytpaiigonagiemaa.Help
open Go.RowKit Go.Proofs.YtpaiigonagiemaaW.PrintWords Go.Proofs.YtpaiigonagiemaaW.PrintLast Go.Proofs.YtpaiigonagiemaaW.PrintMore
set_option linter.unusedVariables false
set_option linter.unusedSimpArgs false
/-- A block is written. -/
def dput (B : List Int) (x : Int × List Int) : List Int := B.take (x.1.toNat * 64) ++ (x.2 ++ B.drop (x.1.toNat * 64 + 64))
/-- What is written behind the first k that wait, of which c tells whether. -/
def aft (c : Nat → Bool) (L : List (Int × List Int)) (B : List Int) : Nat → List Int
  | 0 => B
  | k + 1 => match L[k]? with
    | some x => if c k then dput (aft c L B k) x else aft c L B k
    | none => aft c L B k
theorem dput_length {B : List Int} {x : Int × List Int} {n : Nat} (hn : B.length = n * 64) (h0 : 0 ≤ x.1) (h1 : x.1 < n) (h2 : x.2.length = 64) : (dput B x).length = B.length := by
  simp [dput]; omega
/-- What waits is for blocks that there are. -/
def Waits (n : Nat) (L : List (Int × List Int)) : Prop := ∀ x ∈ L, 0 ≤ x.1 ∧ x.1 < n ∧ x.2.length = 64
theorem aft_length {c : Nat → Bool} {L : List (Int × List Int)} {B : List Int} {n : Nat} (hn : B.length = n * 64) (hw : Waits n L) (k : Nat) : (aft c L B k).length = n * 64 := by
  induction k with
  | zero => exact hn
  | succ k ih =>
    unfold aft
    cases hx : L[k]? with
    | none => exact ih
    | some x =>
      obtain ⟨h0, h1, h2⟩ := hw x (List.mem_of_getElem? hx)
      simp only
      split
      · rw [dput_length ih h0 h1 h2]; exact ih
      · exact ih
theorem step_copy_row {P : Program} {ops : Array Oper} {o : Oper} {a : Act} {w : World} {K : Act → World → Prop} {Q : Exit → Act → World → Prop} {E : Prop} (hgd : o.guard = none) (d s : Operand) (dT sT : TypeId)
    (ho : o.op = .call { callee := .builtin .copy, args := #[d, s], argTypes := #[dT, sT] }) (elem : TypeId) (hu : P.underlying dT = some (.slice elem)) (hsz : (P.info? elem).map (·.size) = some 1)
    (g off dLen dCap : Nat) (ad : Addr) (sLen sCap : Nat) (hd : a.eval d = .slice (some ⟨g, off, none⟩) dLen dCap) (hs : a.eval s = .slice (some ad) sLen sCap)
    (cur : Array Value) (t : TypeId) (hg : w.heap[g]? = some (.cells cur t (0, 0))) (cs : List Value) (hn : cs.length = Nat.min sLen dLen)
    (hsrc : ∀ j v, cs[j]? = some v → w.cell? (ad.add j) = some v) (hfit : off + cs.length ≤ cur.size) (h1 : ∀ v ∈ cs, v.oneCell' = true)
    (h : K (a.put o.dst (goInt cs.length)) (w.setRow g (cur.toList.take off ++ (cs ++ cur.toList.drop (off + cs.length))).toArray)) :
    if Region.wanted o (yielded ops a.tmps) = true then Oper.wp P o a w K Q else E := by
  have hw : Region.wanted o (yielded ops a.tmps) = true := by simp [Region.wanted, hgd]
  rw [if_pos hw]
  have hrun := run_copy_row (P := P) w dT sT o.type elem g off dLen dCap ad sLen sCap cur t cs hu hsz hg hn hsrc hfit h1
  unfold Oper.wp
  simp [execOp, ho, resolve, invoke, builtin, hd, hs, hrun, Result.andThen]
  exact h
theorem DevAt.copied {TD TW : Nat} {w : World} {S N : Nat → Prop} {p gb cb n : Nat} {vl : Value} {B : List Int} {L : List (Int × List Int)} {x : Int × List Int} {cur : Array Value} (h : DevAt TD TW w S N p gb cb vl B L) (hne : TW ≠ 5) (hnd : TD ≠ 5) (hn : B.length = n * 64) (h0 : 0 ≤ x.1) (h1 : x.1 < n) (h2 : x.2.length = 64)
    (hcur : w.heap[gb]? = some (.cells cur 5 (0, 0))) (hcs : cur.size = cb) (hle : B.length ≤ cb) (hcm : cb ≤ maxLen) (htk : cur.toList.take B.length = B.map (Value.int .u8)) :
    DevAt TD TW (w.setRow gb (cur.toList.take (x.1.toNat * 64) ++ (x.2.map (Value.int .u8) ++ cur.toList.drop (x.1.toNat * 64 + 64))).toArray) S N p gb cb vl (dput B x) L ∧
      Fr S w (w.setRow gb (cur.toList.take (x.1.toNat * 64) ++ (x.2.map (Value.int .u8) ++ cur.toList.drop (x.1.toNat * 64 + 64))).toArray) := by
  have hlen := dput_length hn h0 h1 h2
  have hoth : ∀ k (c : Array Value), k ≠ gb → (w.setRow gb c).heap[k]? = w.heap[k]? := fun k c hk => setRow_other w gb k c hk
  have hpb : p ≠ gb := fun e => by
    have hc := h.cell
    rw [e, hcur] at hc
    injection hc with hc; injection hc with _ hc _
    exact hnd hc.symm
  have hlb : ∀ k, vl.ownBlock = some k → k ≠ gb := fun k hk e => by
    obtain ⟨_, cs, hc⟩ := OwnRow_lt h.row hk
    rw [e, hcur] at hc
    injection hc with hc; injection hc with _ hc _
    exact hne hc.symm
  have hnb : ∀ k, N k → k ≠ gb := fun k hk e => h.ns gb h.sb (e ▸ hk)
  constructor
  · refine ⟨?_, ?_, OwnRow_same h.row (fun k hk => hoth k _ (hlb k hk)) (fun y c hy => hy.same (fun k hk => hoth k _ (hnb k hk)) (fun _ h => h)), h.sp, h.sb, h.sl, h.ns, fun k hk => ?_, fun k hk => ?_⟩
    · rw [hlen, hoth p _ hpb]; exact h.cell
    · refine ⟨_, setRow_heap w gb _ _ 5 _ hcur, ?_, by rw [hlen]; exact hle, hcm, ?_⟩
      · simp [h2]; omega
      · rw [hlen]
        obtain ⟨R, hR⟩ : ∃ R, cur.toList = B.map (Value.int .u8) ++ R := ⟨cur.toList.drop B.length, by rw [← htk, List.take_append_drop]⟩
        have ho : x.1.toNat * 64 + 64 ≤ (B.map (Value.int .u8)).length := by rw [List.length_map]; omega
        have e1 : (B.map (Value.int .u8) ++ R).take (x.1.toNat * 64) = (B.map (Value.int .u8)).take (x.1.toNat * 64) := List.take_append_of_le_length (by omega)
        have e2 : (B.map (Value.int .u8) ++ R).drop (x.1.toNat * 64 + 64) = (B.map (Value.int .u8)).drop (x.1.toNat * 64 + 64) ++ R := List.drop_append_of_le_length ho
        rw [hR, e1, e2]
        simp only [dput, List.map_append, List.map_take, List.map_drop]
        rw [← List.append_assoc, ← List.append_assoc, ← List.append_assoc]
        exact List.take_left' (by simp [h2] at ho ⊢; omega)
    · have := h.slt k hk; simpa [World.setRow] using this
    · have := h.nlt k hk; simpa [World.setRow] using this
  · exact ⟨rfl, rfl, rfl, by simp [World.setRow], fun k hk hs => hoth k _ (fun e => hs (e ▸ h.sb))⟩
theorem sizeB : (Try.prog.info? 5).map (·.size) = some 1 := by kernel_rfl
theorem reads_cells {w : World} {A : Option Addr} {bs : List Int} (h : Kd.C (Kd.int .u8) w A bs.length bs) (h0 : 0 < bs.length) : ∃ ad, A = some ad ∧ ∀ j v, (bs.map (Value.int .u8))[j]? = some v → w.cell? (ad.add j) = some v := by
  obtain ⟨ad, e, hc⟩ := h.2.2 h0
  refine ⟨ad, e, fun j v hj => ?_⟩
  rw [List.getElem?_map] at hj
  obtain ⟨p, hp, rfl⟩ := Option.map_eq_some_iff.1 hj
  obtain ⟨c, hl, hp2, hcell⟩ := hc j p hp
  have hp2 : c = [Value.int .u8 p] := hp2
  subst hp2
  have := hcell 0 (.int .u8 p) rfl
  simpa [show (Kd.int .u8).sz = 1 from rfl] using this
/-- A block is written: copy. -/
theorem step_dev_copy {TD TW : Nat} {P : Program} {ops : Array Oper} {o : Oper} {a : Act} {w : World} {K : Act → World → Prop} {Q : Exit → Act → World → Prop} {E : Prop} {S N : Nat → Prop} {p gb cb n : Nat} {vl : Value} {B : List Int} {L : List (Int × List Int)} {x : Int × List Int}
    (h : DevAt TD TW w S N p gb cb vl B L) (hne : TW ≠ 5) (hnd : TD ≠ 5) (hn : B.length = n * 64) (h0 : 0 ≤ x.1) (h1 : x.1 < n) (h2 : x.2.length = 64) {A' : Option Addr} (hr : Kd.C (Kd.int .u8) w A' x.2.length x.2)
    (hgd : o.guard = none) (d s : Operand) (dT sT : TypeId)
    (ho : o.op = .call { callee := .builtin .copy, args := #[d, s], argTypes := #[dT, sT] }) (hu : P.underlying dT = some (.slice 5)) (hsz : (P.info? 5).map (·.size) = some 1) (off dLen dCap sCap : Nat) (hoff : off = x.1.toNat * 64) (hdl : 64 ≤ dLen)
    (hd : a.eval d = .slice (some ⟨gb, off, none⟩) dLen dCap) (hs : a.eval s = .slice A' 64 sCap)
    (hK : ∀ w' : World, DevAt TD TW w' S N p gb cb vl (dput B x) L → Fr S w w' → K (a.put o.dst (goInt 64)) w') :
    if Region.wanted o (yielded ops a.tmps) = true then Oper.wp P o a w K Q else E := by
  obtain ⟨cur, hcur, hcs, hle, hcm, htk⟩ := h.own
  obtain ⟨ad, rfl, hsrc⟩ := reads_cells hr (by omega)
  obtain ⟨q1, q2⟩ := h.copied hne hnd hn h0 h1 h2 hcur hcs hle hcm htk
  have hl : (x.2.map (Value.int .u8)).length = 64 := by rw [List.length_map, h2]
  refine step_copy_row hgd d s dT sT ho 5 hu hsz gb off dLen dCap ad 64 sCap hd hs cur 5 hcur (x.2.map (Value.int .u8)) (by rw [hl]; exact (Nat.min_eq_left hdl).symm) hsrc (by rw [hl]; omega) (by simp [Value.oneCell']) ?_
  rw [hl, hoff]
  exact hK _ q1 q2
theorem wrapI {x : Int} (h1 : -9223372036854775808 ≤ x) (h2 : x ≤ 9223372036854775807) : IntKind.i64.wrap x = x := by
  simp only [IntKind.wrap, IntKind.signed, IntKind.bits]
  simp
  omega
theorem DevAt.cleared {TD TW : Nat} {w : World} {S N : Nat → Prop} {p gb cb : Nat} {vl : Value} {B : List Int} {L : List (Int × List Int)} (h : DevAt TD TW w S N p gb cb vl B L) (hnd : TD ≠ 5) (hne : TW ≠ TD) :
    Dev TD TW (w.setCell ⟨p, 1, none⟩ (.slice none 0 0)) S N p B [] ∧ Fr S w (w.setCell ⟨p, 1, none⟩ (.slice none 0 0)) := by
  have hpb : gb ≠ p := fun e => by
    obtain ⟨cur, hcur, _⟩ := h.own
    have hc := h.cell
    rw [← e, hcur] at hc
    injection hc with hc; injection hc with _ hc _
    exact hnd hc.symm
  exact ⟨⟨gb, cb, .slice none 0 0, blk_put h.cell 1 _ rfl, h.own.same (Below.heap_setCell w _ _ gb hpb), OwnRow.none_ _ _ _ _ _, h.sp, h.sb, fun k hk => by simp [Value.ownBlock] at hk, h.ns, fun k hk => by have := h.slt k hk; simpa using this, fun k hk => by have := h.nlt k hk; simpa using this⟩, Fr.set (S := S) (p := ⟨p, 1, none⟩) h.sp _⟩
theorem dev_sync {w : World} {S N : Nat → Prop} {p : Nat} {B : List Int} {L : List (Int × List Int)} (h : Dev 76 82 w S N p B L) {n : Nat} (hn : B.length = n * 64) (hm : n ≤ 1024) (hw : Waits n L) :
    Calls Try.prog 46 #[.pointer (some ⟨p, 0, none⟩)] w fun e w' =>
      e = .returned (.tuple #[]) ∧ DevTo 76 82 w w' S N p (aft (fun _ => true) L B L.length) [] := by
  obtain ⟨gb, cb, vl, h⟩ := h
  obtain ⟨A, c, rfl, hc, hL⟩ := h.lenL
  have h1 := cell_of_blk h.cell (j := 1) rfl
  have H := Aside0.mk h
  have HN := Aside0.mk hn
  have HW := Aside0.mk hw
  have HC := Aside0.mk hc
  clear h hn hw hc
  go_enter Try.func46, Try.ntmps46
  go_wp2
  go_loopg [9] L.length (fun gg s9 wr => ∃ kk : Nat, kk ≤ L.length ∧ L.length - kk ≤ gg ∧ s9 = .int .i64 kk ∧ Aside0 (DevAt 76 82 wr S N p gb cb (.slice A L.length c) (aft (fun _ => true) L B kk) L) ∧ Aside0 (Fr S w wr))
  case atStart => exact ⟨0, Nat.zero_le _, by omega, rfl, H, ⟨Fr.refl S w⟩⟩
  case round =>
    obtain ⟨kk, hkk, hg, rfl, D, F⟩ := hrel
    have hp0 := cell_of_blk D.out.cell (j := 0) rfl
    have hp1 := cell_of_blk D.out.cell (j := 1) rfl
    have hfz := blk_frozen D.out.cell 1
    have hps := D.out.slt p D.out.sp
    rw [aft_length HN.out HW.out] at hp0
    by_cases hlt : kk < L.length
    · obtain ⟨g, A', c', rfl, hgS, hc0, hc1, hle, hC, hN⟩ := D.out.item hlt
      have HX := Aside0.mk (List.getElem?_eq_getElem hlt)
      have hxw := HW.out _ (List.getElem_mem hlt)
      generalize L[kk]'hlt = x at *
      obtain ⟨x1, x2⟩ := x
      simp only at hc0 hc1 hle hC hxw
      obtain ⟨hx0, hx1, hx2⟩ := hxw
      obtain ⟨q, rfl⟩ := Int.eq_ofNat_of_zero_le hx0
      have HC' := Aside0.mk hC
      have HX2 := Aside0.mk hx2
      have HX1 := Aside0.mk hx1
      have HX0 := Aside0.mk hx0
      have hgs := D.out.slt g hgS
      rw [hx2] at hc1 hle
      have HN' := Aside0.mk hN
      clear hC hN hx2 hx0
      have hq : q < n := by omega
      clear hx1
      go_wp2
      obtain ⟨w3, hw3⟩ : ∃ w3, w3 = wr.alloc (.cells #[.int .i64 q, .slice A' 64 c'] 82) := ⟨_, rfl⟩
      have hd3 : Aside0 (DevAt 76 82 w3 S N p gb cb (.slice (some ⟨g, 0, none⟩) L.length c) (aft (fun _ => true) L B kk) L) := ⟨by
        rw [hw3]; exact D.out.keep (by simp) (fun k hk => Below.heap_alloc wr _ k (by rcases hk with hk | hk; exact D.out.slt k hk; exact D.out.nlt k hk))⟩
      have hb3 : ∀ k, k < wr.heap.size → w3.heap[k]? = wr.heap[k]? := fun k hk => by rw [hw3]; exact Below.heap_alloc wr _ k hk
      have hd4 : Aside0 (DevAt 76 82 w3.drew S N p gb cb (.slice (some ⟨g, 0, none⟩) L.length c) (aft (fun _ => true) L B kk) L) := ⟨hd3.out.keep (Nat.le_refl _) (fun _ _ => rfl)⟩
      have hC4 : Aside0 (Kd.C (Kd.int .u8) w3.drew A' x2.length x2) := ⟨C_same HC'.out (fun a ha => hb3 _ (D.out.nlt _ (HN'.out a ha)))⟩
      have hf4 : Aside0 (Fr S wr w3.drew) := ⟨by rw [hw3]; exact (Fr.alloc (S := S) wr _).trans (Fr.drew (S := S) 1) (fun _ _ h => h)⟩
      have hn3 : w3.heap[wr.heap.size]? = some (.cells #[.int .i64 q, .slice A' 64 c'] 82 (0, 0)) := by rw [hw3]; exact new_blk _ _
      have hcq := cell_of_blk hn3 (j := 0) rfl
      have hcA := cell_of_blk hn3 (j := 1) rfl
      have hcp := cell_of_blk hd3.out.cell (j := 0) rfl
      rw [aft_length HN.out HW.out] at hcp
      have hcb : q * 64 ≤ n * 64 := by omega
      have hcl : n * 64 ≤ cb := by
        obtain ⟨cur, _, h1, h2, _⟩ := hd3.out.own
        rw [aft_length HN.out HW.out] at h2
        exact h2
      have hwr : IntKind.i64.wrap ((q : Int) * 64) = (q : Int) * 64 := wrapI (by omega) (by omega)
      have hq1 : (0 : Int) ≤ (q : Int) * 64 := by omega
      have hq2 : (q : Int) * 64 ≤ (n : Int) * 64 := by omega
      have hq3 : ((q : Int) * 64).toNat = q * 64 := by omega
      have hq4 : ¬ cb = q * 64 := by omega
      have hq5 : q ≤ n := by omega
      rw [← hw3]
      have hstep : aft (fun _ => true) L B (kk + 1) = dput (aft (fun _ => true) L B kk) ((q : Int), x2) := by simp [aft, HX.out]
      have HS := Aside0.mk hstep
      clear hstep
      have HW3 := Aside0.mk hw3
      clear hw3 hb3 hn3
      go_region_law (refine step_dev_copy (x := ((q : Int), x2)) hd4.out (by decide) (by decide) (aft_length HN.out HW.out kk) (Int.natCast_nonneg q) (by simp only; omega) HX2.out hC4.out rfl (.tmp 20) (.tmp 22) 22 22 rfl Try.underlying22 sizeB (q * 64) (n * 64 - q * 64) (cb - q * 64) c' rfl (by omega) rfl rfl ?_; intro w4 d4 f4; have D4 := Aside0.mk d4; have F4 := Aside0.mk f4; clear d4 f4)
      all_goals go_wp2
      all_goals go_roundg (L.length - (kk + 1))
      all_goals first
        | omega
        | exact ⟨kk + 1, by omega, by omega, by go_num, ⟨by rw [HS.out]; exact D4.out⟩, ⟨F.out.trans (hf4.out.trans F4.out (fun _ _ h => h)) (fun _ _ h => h)⟩⟩
    · have : kk = L.length := by omega
      subst this
      have hq := D.out.cleared (by decide) (by decide)
      have HQ := Aside0.mk hq
      clear hq
      go_wp2
      go_end0
      exact ⟨rfl, S, N, HQ.out.1, F.out.trans HQ.out.2 (fun _ _ h => h), fun k h => .inl h, fun k h => .inl h⟩
end Go.Proofs.Ytpaiigonagiemaa.PAll
/- The program's devices: Crash. -/
namespace Go.Proofs.Ytpaiigonagiemaa.PAll
open Go.Proofs.Ytpaiigonagiemaa.Help
open Go.RowKit Go.Proofs.YtpaiigonagiemaaW.PrintWords Go.Proofs.YtpaiigonagiemaaW.PrintLast Go.Proofs.YtpaiigonagiemaaW.PrintMore
set_option linter.unusedVariables false
set_option linter.unusedSimpArgs false
theorem at_flag {w : World} {A : Option Addr} {ks : List Bool} (h : Kd.C Kd.bool w A ks.length ks) {j : Nat} (hj : j < ks.length) : ∃ ad, A = some ad ∧ w.cell? (ad.add j) = some (.bool (ks.getD j false)) := by
  obtain ⟨ad, e, hc⟩ := h.2.2 (by omega)
  obtain ⟨c, hl, hp2, hcell⟩ := hc j _ (List.getElem?_eq_getElem hj)
  have hp2 : c = [Value.bool (ks[j]'hj)] := hp2
  subst hp2
  have := hcell 0 _ rfl
  refine ⟨ad, e, ?_⟩
  rw [List.getD_eq_getElem?_getD, List.getElem?_eq_getElem hj]
  simpa [show Kd.bool.sz = 1 from rfl] using this
theorem C_same_bool {w w' : World} {A : Option Addr} {n : Nat} {xs : List Bool} (h : Kd.C Kd.bool w A n xs) (hs : ∀ a, A = some a → w'.heap[a.block]? = w.heap[a.block]?) : Kd.C Kd.bool w' A n xs := by
  refine ⟨h.1, h.2.1, fun hn => ?_⟩
  obtain ⟨ad, e, hc⟩ := h.2.2 hn
  refine ⟨ad, e, fun j p hj => ?_⟩
  obtain ⟨c, hl, hp, hcell⟩ := hc j p hj
  refine ⟨c, hl, hp, fun i u hu => ?_⟩
  rw [World.cell?_of_block (w := w) (by rw [add_block]; exact hs ad e)]
  exact hcell i u hu
end Go.Proofs.Ytpaiigonagiemaa.PAll
/- The program's devices: Clone of what waits, Twin, Bytes. -/
namespace Go.Proofs.Ytpaiigonagiemaa.PAll
open Go.Proofs.Ytpaiigonagiemaa.Help
open Go.RowKit Go.Proofs.YtpaiigonagiemaaW.PrintWords Go.Proofs.YtpaiigonagiemaaW.PrintLast Go.Proofs.YtpaiigonagiemaaW.PrintMore
open Go.Proofs.YtpaiigonagiemaaW.PrintWords.Kd (raw reads_raw)
set_option linter.unusedVariables false
set_option linter.unusedSimpArgs false
theorem WItem.shape {w : World} {N : Nat → Prop} {x : Int × List Int} {c : List Value} (h : WItem w N x c) : c.length = 2 ∧ ∀ u ∈ c, u.oneCell' = true := by
  obtain ⟨A, c', rfl, _⟩ := h
  exact ⟨rfl, by simp [Value.oneCell']⟩
theorem OwnRow_of_raw {α : Type} {Rr : α → List Value → Prop} {e base : Nat} {w : World} {ok : Nat → Prop} {v : Value} {ps : List α} {news : List (List Value)} (h : (raw 2).R e w base ok v news) (hl : news.length = ps.length) (hn : ∀ (j : Nat) (x : α) (c : List Value), ps[j]? = some x → news[j]? = some c → Rr x c) : OwnRow Rr e 2 w base v ps := by
  obtain ⟨_, inner, ho, hr⟩ := h
  refine ⟨inner, by rw [← hl]; exact ho, by rw [hr.1, hl]; rfl, fun j x hj => ?_⟩
  have hjl : j < news.length := by rw [hl]; exact (List.getElem?_eq_some_iff.1 hj).1
  have hM := hr.2 j _ (List.getElem?_eq_getElem hjl)
  have hM1 : (inner.drop (j * 2)).take 2 = news[j]'hjl := hM.1
  rw [hM1]
  exact hn j x _ hj (List.getElem?_eq_getElem hjl)
set_option maxHeartbeats 8000000 in
theorem clone_waits {w : World} {N : Nat → Prop} {A : Option Addr} {c : Nat} {L : List (Int × List Int)} (hr : ReadsRow (WItem w N) 2 w A L.length L) (hc : L.length ≤ c) (hl : L.length < 4294967296) :
    Calls Try.prog 53 #[.slice A L.length c] w fun e w' => ∃ v, e = .returned v ∧ OwnRow (WItem w N) 82 2 w' 0 v L ∧ (∀ k, v.ownBlock = some k → w.heap.size ≤ k) ∧ Below w.heap.size w w' := by
  obtain ⟨news, hnl, hnr, hnf⟩ := reads_raw hr (fun y c hk => hk.shape)
  have HR0 := Aside0.mk hnr
  have HL := Aside0.mk hnl
  have HF := Aside0.mk hnf
  have LM := Aside0.mk hl
  have HB := Aside0.mk (Below.refl w.heap.size w)
  have H0 : Aside0 (A = none → L = []) := ⟨fun e => by
    cases L with
    | nil => rfl
    | cons a t => obtain ⟨ad, h, _⟩ := hr.2.2 (by simp); rw [e] at h; cases h⟩
  clear hr hnr hnl hnf hl
  cases A with
  | none =>
    have e0 := H0.out rfl
    subst e0
    have HN := @Lib.run_eql_slice_nil Try.prog w 74 82 none 0 c 0 0 Try.underlying74
    go_enter Try.func53, Try.ntmps53
    go_wp2
    go_ret
    exact ⟨_, rfl, OwnRow.none_ _ _ _ _ _, fun k hk => by simp [Value.ownBlock] at hk, HB.out⟩
  | some ad =>
    have HN := @Lib.run_eql_slice_nil Try.prog w 74 82 (some ad) L.length c 0 0 Try.underlying74
    go_enter Try.func53, Try.ntmps53
    go_wp2_with (first
      | ((with_reducible refine gate_dst (N := 5) rfl ?_); refine Kd.R_lit (raw 2) _ 82 ?hg (N := 5) ?hd (xs := ([] : List (List Value))) (inner := []) (ok := fun _ => True) (okp := fun _ => True) ?hr ?hp (fun _ hk => hk) trivial (Below.refl _ _) (Nat.le_refl _) (by simp) ?_; (case hd => rfl); (case hg => rfl); (case hr => first | (go_simp; done) | (go_simp; rfl)); (case hp => exact (Reps.none _ _)); intro v5 w4 ho5 hb hg_ hnew_; clear hg_ hnew_; have HO5 := Aside0.mk (Kd.R_lower ho5 (below_size HB.out)); have n1_ := Aside0.mk (below_step HB.out hb); clear HB; have HB := n1_; clear n1_; clear hb ho5)
      | ((with_reducible refine gate_builtin (b := .append) (xs := #[.tmp 5, .tmp 6]) rfl ?_); at_builtin; refine Kd.R_append_rows (raw 2) (w0 := w) w.heap.size rfl (.tmp 5) (.tmp 6) 74 82 (.agg #[.int .i64 0, .slice none 0 0]) 32 rfl Try.underlying74 infoW rfl (by decide) (by omega) v5 [] news _ _ _ (fun _ => True) (fun _ => False) rfl rfl ?aO ?aR (fun _ _ h => h) (fun _ h => h.elim) ?aF ?aB ?aS ?aL ?_; (case aR => exact (Kd.C_below HR0.out HB.out)); (case aB => exact HB.out); (case aF => exact (fun _ _ => trivial)); (case aO => exact HO5.out); (case aS => exact (below_size HB.out)); (case aL => have := LM.out; simp; omega); intro v7 w6 ho hb hg hat; have n0_ := Aside0.mk (hb); have HO7 := Aside0.mk (ho); clear HB; have HB := n0_; clear n0_; clear ho hb hg hat))
    go_ret
    refine ⟨_, rfl, (OwnRow_of_raw (by simpa using HO7.out) HL.out HF.out).lower (Nat.zero_le _), fun k hk => Kd.R_base HO7.out k hk, HB.out⟩
theorem DevNew.twin {TD TW : Nat} {w W W0 W1 W2 : World} {S N : Nat → Prop} {p gb cb g cap : Nat} {vl v : Value} {B : List Int} {L : List (Int × List Int)} (h : DevAt TD TW w S N p gb cb vl B L) (hB : Below w.heap.size w W) (hnd : TD ≠ 5) (hne : TW ≠ 5)
    (hO : OwnBy W2 g cap B) (hg : w.heap.size ≤ g) (hW2 : Below W2.heap.size W2 W) (hR : OwnRow (WItem W0 N) TW 2 W1 0 v L) (hW1 : Below W1.heap.size W1 W) (hW0 : Below w.heap.size w W0) (hv : ∀ k, v.ownBlock = some k → w.heap.size ≤ k) :
    DevNew TD TW w (W.alloc (.cells #[.slice (some ⟨g, 0, none⟩) B.length cap, v] TD)) N W.heap.size B L := by
  have hWs := hB.size
  have hgW : g < W.heap.size := Nat.lt_of_lt_of_le hO.lt hW2.size
  have hvW : ∀ k, v.ownBlock = some k → k < W.heap.size := fun k hk => Nat.lt_of_lt_of_le (OwnRow_lt hR hk).1 hW1.size
  have ha : ∀ k, k < W.heap.size → (W.alloc (.cells #[.slice (some ⟨g, 0, none⟩) B.length cap, v] TD)).heap[k]? = W.heap[k]? := fun k hk => Below.heap_alloc W _ k hk
  refine ⟨fun k => k = W.heap.size ∨ k = g ∨ v.ownBlock = some k, N, ⟨g, cap, v, ?_, ?_, ?_, .inl rfl, .inr (.inl rfl), fun k hk => .inr (.inr hk), ?_, ?_, ?_⟩, (Fr.of_below hB).trans (Fr.alloc (S := fun _ => False) W _) (fun _ _ h => h), ?_, fun k h => .inl h⟩
  · exact new_blk _ _
  · exact hO.same ((ha g hgW).trans (hW2.block g hO.lt))
  · exact OwnRow_same hR (fun k hk => (ha k (hvW k hk)).trans (hW1.block k (OwnRow_lt hR hk).1)) (fun y c hy => hy.same (fun k hk => by
      have hk := h.nlt k hk
      rw [ha k (by omega), hB.block k hk, hW0.block k hk]) (fun _ h => h))
  · rintro k (rfl | rfl | hk) hn
    · have := h.nlt _ hn; omega
    · have := h.nlt _ hn; omega
    · have := h.nlt _ hn; have := hv k hk; omega
  · rintro k (rfl | rfl | hk)
    · simp
    · simp; omega
    · have := hvW k hk; simp; omega
  · intro k hk
    have := h.nlt k hk
    simp; omega
  · rintro k (rfl | rfl | hk)
    · exact hWs
    · exact hg
    · exact hv k hk
theorem dev_twin {w : World} {S N : Nat → Prop} {p : Nat} {B : List Int} {L : List (Int × List Int)} (h : Dev 76 82 w S N p B L) {n : Nat} (hn : B.length = n * 64) (h4 : 4 ≤ n) (hm : n ≤ 1024) (hl : L.length < 4294967296) :
    Calls Try.prog 45 #[.pointer (some ⟨p, 0, none⟩)] w fun e w' =>
      ∃ p2, e = .returned (.pointer (some ⟨p2, 0, none⟩)) ∧ DevNew 76 82 w w' N p2 B L := by
  obtain ⟨gb, cb, vl, h⟩ := h
  obtain ⟨A, c, rfl, hc, hrd⟩ := h.row.reads
  have h0 := cell_of_blk h.cell (j := 0) rfl
  have h1 := cell_of_blk h.cell (j := 1) rfl
  have hps := h.slt p h.sp
  have hgs := h.slt gb h.sb
  have hcb : B.length ≤ cb := by obtain ⟨_, _, _, h2, _⟩ := h.own; exact h2
  have hrl := hrd
  have hcl : Aside0 (∀ W : World, Below w.heap.size w W → Calls Try.prog 36 #[.slice (some ⟨gb, 0, none⟩) B.length cb] W fun e w' => ∃ g cap, e = .returned (.slice (some ⟨g, 0, none⟩) B.length cap) ∧ W.heap.size ≤ g ∧ B.length ≤ cap ∧ OwnBy w' g cap B ∧ Below W.heap.size W w') :=
    ⟨fun W hW => clone_ok (h.own.same (hW.block gb hgs)).reads hcb (by omega) (by omega)⟩
  have hcw : Aside0 (∀ W : World, Below w.heap.size w W → Calls Try.prog 53 #[.slice A L.length c] W fun e w' => ∃ v, e = .returned v ∧ OwnRow (WItem W N) 82 2 w' 0 v L ∧ (∀ k, v.ownBlock = some k → W.heap.size ≤ k) ∧ Below W.heap.size W w') :=
    ⟨fun W hW => by
      have hR := OwnRow_same h.row (fun k hk => hW.block k (h.slt k (h.sl k hk))) (fun y cc hy => hy.same (N' := N) (fun k hk => hW.block k (h.nlt k hk)) (fun _ h => h))
      obtain ⟨A', c', e, _, hrd'⟩ := hR.reads
      injection e with e1 _ e2
      subst e1
      exact clone_waits hrd' hc hl⟩
  have HB0 : Aside0 (Below w.heap.size w w.drew) := ⟨⟨rfl, rfl, rfl, Nat.le_refl _, fun _ _ => rfl⟩⟩
  have H := Aside0.mk h
  have HN := Aside0.mk hn
  clear h hn hrd hrl hl
  go_enter Try.func45, Try.ntmps45
  go_wp2
  go_region_law (first
    | (go_simp; go_at_call 36; refine (hcl.out _ (by first | exact HBw.out | exact HB0.out)).mono ?_; rintro e w1 ⟨g, cap, rfl, hg, hnc, hO, hB⟩; have HOb := Aside0.mk hO; have HGb := Aside0.mk hg; have HSb := Aside0.mk hB; have HBb := Aside0.mk (below_step (by first | exact HBw.out | exact HB0.out) hB); have h0b : w1.cell? ⟨p, 0, none⟩ = some _ := (HBb.out.cell (p := ⟨p, 0, none⟩) hps).trans h0; have h1b : w1.cell? ⟨p, 1, none⟩ = some _ := (HBb.out.cell (p := ⟨p, 1, none⟩) hps).trans h1; clear hO hB hg)
    | (go_simp; go_at_call 53; refine (hcw.out _ (by first | exact HBb.out | exact HB0.out)).mono ?_; rintro e w2 ⟨v, rfl, hO, hg, hB⟩; obtain ⟨Av, cv, rfl, hcv⟩ := hO.slice_; have HOw := Aside0.mk hO; have HGw := Aside0.mk hg; have HSw := Aside0.mk hB; have HBw := Aside0.mk (below_step (by first | exact HBb.out | exact HB0.out) hB); have h0w : w2.cell? ⟨p, 0, none⟩ = some _ := (HBw.out.cell (p := ⟨p, 0, none⟩) hps).trans h0; have h1w : w2.cell? ⟨p, 1, none⟩ = some _ := (HBw.out.cell (p := ⟨p, 1, none⟩) hps).trans h1; clear hO hB hg))
  all_goals go_wp2
  all_goals go_ret
  all_goals first
    | exact ⟨w2.heap.size, rfl, DevNew.twin H.out HBw.out (by decide) (by decide) HOb.out (Nat.le_trans (by first | exact HB0.out.size | exact HBw.out.size) HGb.out) HSw.out HOw.out (Below.refl _ _) HBb.out (fun k hk => Nat.le_trans (by first | exact HB0.out.size | exact HBb.out.size) (HGw.out k hk))⟩
    | exact ⟨w1.heap.size, rfl, DevNew.twin H.out HBb.out (by decide) (by decide) HOb.out (Nat.le_trans (by first | exact HB0.out.size | exact HBw.out.size) HGb.out) (Below.refl _ _) HOw.out HSb.out HB0.out (fun k hk => Nat.le_trans (by first | exact HB0.out.size | exact HBb.out.size) (HGw.out k hk))⟩
theorem dev_bytes {w : World} {S N : Nat → Prop} {p : Nat} {B : List Int} {L : List (Int × List Int)} (h : Dev 76 82 w S N p B L) {n : Nat} (hn : B.length = n * 64) (h4 : 4 ≤ n) (hm : n ≤ 1024) (hl : L.length < 4294967296) (hw : Waits n L) :
    Calls Try.prog 21 #[.pointer (some ⟨p, 0, none⟩)] w fun e w' =>
      ∃ g cap, e = .returned (.slice (some ⟨g, 0, none⟩) (aft (fun _ => true) L B L.length).length cap) ∧ (aft (fun _ => true) L B L.length).length ≤ cap ∧ w.heap.size ≤ g ∧ OwnBy w' g cap (aft (fun _ => true) L B L.length) ∧ Fr (fun _ => False) w w' := by
  have ht := Aside0.mk (dev_twin h hn h4 hm hl)
  have HN := Aside0.mk hn
  have HW := Aside0.mk hw
  clear h hn hw hl
  go_enter Try.func21, Try.ntmps21
  go_wp2_with (first
    | (go_at_call 45; refine ht.out.mono ?_; rintro e w1 ⟨p2, rfl, S1, N1, hD, hF, hS, hN⟩; have HD := Aside0.mk hD; have HF := Aside0.mk hF; have HS := Aside0.mk hS; clear hD hF hS hN)
    | (go_at_call 46; refine (dev_sync HD.out HN.out hm HW.out).mono ?_; rintro e w2 ⟨rfl, S2, N2, ⟨g2, c2, v2, hD2⟩, hF2, hS2, hN2⟩; have h0 := cell_of_blk hD2.cell (j := 0) rfl; have HD2 := Aside0.mk hD2; have HF2 := Aside0.mk hF2; have HS2 := Aside0.mk hS2; clear hD2 hF2 hS2 hN2))
  go_ret
  refine ⟨g2, c2, rfl, ?_, ?_, HD2.out.own, ?_⟩
  · obtain ⟨_, _, _, h2, _⟩ := HD2.out.own
    exact h2
  · rcases HS2.out _ HD2.out.sb with hq | hq
    · exact HS.out _ hq
    · exact Nat.le_trans HF.out.size hq
  · exact ⟨HF2.out.os.trans HF.out.os, HF2.out.tape.trans HF.out.tape, HF2.out.output.trans HF.out.output, Nat.le_trans HF.out.size HF2.out.size, fun k hk _ => (HF2.out.block k (Nat.lt_of_lt_of_le hk HF.out.size) (fun hq => by have := HS.out _ hq; omega)).trans (HF.out.block k hk (fun hq => hq))⟩
end Go.Proofs.Ytpaiigonagiemaa.PAll
/- The program's devices: what waits, backward (a range over a function). -/
namespace Go.Proofs.Ytpaiigonagiemaa.PAll
open Go.Proofs.Ytpaiigonagiemaa.Help
open Go.RowKit Go.Proofs.YtpaiigonagiemaaW.PrintWords Go.Proofs.YtpaiigonagiemaaW.PrintLast Go.Proofs.YtpaiigonagiemaaW.PrintMore
open Go.Shelf
attribute [local go_sem] Oper.semAt_some
set_option linter.unusedVariables false
set_option linter.unusedSimpArgs false
/-- The last k of nn, the last one first. -/
def down (nn k : Nat) : List Nat := (List.range k).map (fun t => nn - 1 - t)
theorem down_succ (nn k : Nat) : down nn (k + 1) = down nn k ++ [nn - 1 - k] := by simp [down, List.range_succ]
theorem down_length (nn k : Nat) : (down nn k).length = k := by simp [down]
def encB (fat : Nat → Int) (fA : Nat → Option Addr) (fc : Nat → Nat) (j : Nat) : Array Value := #[.int .i64 (j : Int), .agg #[.int .i64 (fat j), .slice (fA j) 64 (fc j)]]
set_option maxRecDepth 100000 in
set_option maxHeartbeats 4000000 in
theorem back_in (F : Fence) (n : Nat) (hf : F.fn 54) (hro : F.round = none) (hn : 1 ≤ n) (l Bs n₀ g nn c1 : Nat) (A1 : Option Addr) (fat : Nat → Int) (fA : Nat → Option Addr) (fc : Nat → Nat) (hnn : nn < 4294967296)
    (hA : 0 < nn → A1 = some ⟨g, 0, none⟩ ∧ g < n₀) (hBn : Bs < n₀) (J Jx : List Nat → World → Prop)
    (hY : ∀ pre x W, J pre W → pre.length < nn → YieldAt F (n - 1) Try.prog l (encB fat fA fc x) W fun e W' =>
      (e = .returned (.bool true) ∧ J (pre ++ [x]) W' ∧ Below n₀ W W') ∨ (e = .returned (.bool false) ∧ Jx (pre ++ [x]) W'))
    (W : World) (hBs : W.cell? ⟨Bs, 0, none⟩ = some (.slice A1 nn c1)) (hc : ∀ j, j < nn → W.cell? ⟨g, j * 2, none⟩ = some (.int .i64 (fat j)) ∧ W.cell? ⟨g, j * 2 + 1, none⟩ = some (.slice (fA j) 64 (fc j))) (h0 : J [] W) :
    CallsIn F n Try.prog 54 #[.func (.yield l) #[] #[], .pointer (some ⟨Bs, 0, none⟩)] W fun e W' => (∃ v, e = .returned v) ∧
      ((∃ ys, ys = down nn nn ∧ J ys W') ∨ (∃ pre, (∃ k, k ≤ nn ∧ pre = down nn k) ∧ Jx pre W')) := by
  refine callsIn_of_wp Try.func54 rfl hf ?_ hro
  simp only [Try.ntmps54, List.size_toArray, List.length_cons, List.length_nil, Nat.reduceAdd, Nat.reduceSub, Array.replicate_succ, Array.replicate_zero, List.push_toArray, List.append_toArray, List.nil_append, List.cons_append]
  gi_wp2
  gi_loopw [3] (fun i wr => ∃ k : Nat, k ≤ nn ∧ i = .int .i64 ((nn : Int) - 1 - k) ∧ J (down nn k) wr ∧ Below n₀ W wr)
    (fun i _ => (intOf i + 1).toNat)
  case atStart => exact ⟨0, Nat.zero_le _, by simp, h0, Below.refl _ _⟩
  case round =>
    obtain ⟨k, hk, rfl, hJs, hnx⟩ := hrel
    have hb := (hnx.cell (p := ⟨Bs, 0, none⟩) hBn).trans hBs
    by_cases hlt : k < nn
    · obtain ⟨j, hj⟩ : ∃ j : Nat, (nn : Int) - 1 - k = (j : Int) := ⟨nn - 1 - k, by omega⟩
      have hjn : j < nn := by omega
      have hjk : Aside0 (j = nn - 1 - k) := ⟨by omega⟩
      obtain ⟨rfl, hg⟩ := hA (by omega)
      obtain ⟨c0, c1'⟩ := hc j hjn
      replace c0 := (hnx.cell (p := ⟨g, j * 2, none⟩) hg).trans c0
      replace c1' := (hnx.cell (p := ⟨g, j * 2 + 1, none⟩) hg).trans c1'
      obtain ⟨fn, tmps, assign, body, hy, hR⟩ := hY _ j wr hJs (by rw [down_length]; exact hlt)
      dsimp only [encB] at hy
      rw [hj]
      have HJ := Aside0.mk hj
      clear hj
      gi_wp2
      refine hR.mono ?_
      rintro e W3 (⟨rfl, hJ3, hk3⟩ | ⟨rfl, hJx3⟩)
      · gi_wp2
        go_roundw
        case rel => exact ⟨k + 1, by omega, by have := HJ.out; push_cast; first | (congr 1; omega) | (simp; omega), by rw [down_succ, ← hjk.out]; exact hJ3, hnx.trans hk3⟩
        case measure => simp [intOf]
      · gi_wp2
        refine bodyPost_ret (results_none rfl _ _ _) rfl ?_
        exact ⟨⟨_, rfl⟩, .inr ⟨_, ⟨k + 1, by omega, by rw [down_succ, ← hjk.out]⟩, hJx3⟩⟩
    · obtain rfl : k = nn := by omega
      gi_wp2
      go_end0
      exact ⟨⟨_, rfl⟩, .inl ⟨_, rfl, hJs⟩⟩
theorem back_mk {w : World} {A : Option Addr} {l c : Nat} : Calls Try.prog 52 #[.slice A l c] w fun e w' => e = .returned (.func (.func 54) #[] #[.pointer (some ⟨w.heap.size, 0, none⟩)]) ∧ w.alloc (.cells #[.slice A l c] 74) = w' := by
  go_enter Try.func52, Try.ntmps52
  go_wp2
  go_ret
  exact ⟨rfl, rfl⟩
theorem back_stops {n : Nat} (hn : 1 ≤ n) (Bs n₀ g nn c1 : Nat) (A1 : Option Addr) (fat : Nat → Int) (fA : Nat → Option Addr) (fc : Nat → Nat) (hnn : nn < 4294967296)
    (hA : 0 < nn → A1 = some ⟨g, 0, none⟩ ∧ g < n₀) (hBn : Bs < n₀) (w : World) (hw : n₀ ≤ w.heap.size) (hBs : w.cell? ⟨Bs, 0, none⟩ = some (.slice A1 nn c1)) (hc : ∀ j, j < nn → w.cell? ⟨g, j * 2, none⟩ = some (.int .i64 (fat j)) ∧ w.cell? ⟨g, j * 2 + 1, none⟩ = some (.slice (fA j) 64 (fc j))) :
    SeqStopsK Fence.wide n Try.prog 54 #[.pointer (some ⟨Bs, 0, none⟩)] (encB fat fA fc) (Below n₀) (fun ys => ys = down nn nn) (fun pre => ∃ k, k ≤ nn ∧ pre = down nn k) nn w := fun l J Jx W hW _ _ hY h0 =>
  back_in Fence.wide n trivial rfl hn l Bs n₀ g nn c1 A1 fat fA fc hnn hA hBn J Jx hY W ((hW.cell (p := ⟨Bs, 0, none⟩) (by show Bs < _; omega)).trans hBs)
    (fun j hj => by
      obtain ⟨h1, h2⟩ := hc j hj
      have := (hA (by omega)).2
      exact ⟨(hW.cell (p := ⟨g, j * 2, none⟩) (by show g < _; omega)).trans h1, (hW.cell (p := ⟨g, j * 2 + 1, none⟩) (by show g < _; omega)).trans h2⟩) h0
end Go.Proofs.Ytpaiigonagiemaa.PAll
/- The program's devices: Read. -/
namespace Go.Proofs.Ytpaiigonagiemaa.PAll
open Go.Proofs.Ytpaiigonagiemaa.Help
open Go.RowKit Go.Proofs.YtpaiigonagiemaaW.PrintWords Go.Proofs.YtpaiigonagiemaaW.PrintLast Go.Proofs.YtpaiigonagiemaaW.PrintMore
open Go.Shelf
attribute [local go_sem] Oper.semAt_some
set_option linter.unusedVariables false
set_option linter.unusedSimpArgs false
/-- What the last one of the first k that wait has written to block i. -/
def lastAt (L : List (Int × List Int)) (i : Int) : Nat → Option (List Int)
  | 0 => none
  | k + 1 => match L[k]? with
    | some x => if x.1 = i then some x.2 else lastAt L i k
    | none => lastAt L i k
/-- A block, read. -/
def rblk (B : List Int) (L : List (Int × List Int)) (i : Int) : List Int := (lastAt L i L.length).getD ((B.drop (i.toNat * 64)).take 64)
theorem lastAt_none {L : List (Int × List Int)} {i : Int} (k : Nat) (h : ∀ j x, j < k → L[j]? = some x → x.1 ≠ i) : lastAt L i k = none := by
  induction k with
  | zero => rfl
  | succ k ih =>
    have ih := ih (fun j x hj => h j x (by omega))
    unfold lastAt
    cases hx : L[k]? with
    | none => exact ih
    | some x => simp only; rw [if_neg (h k x (by omega) hx)]; exact ih
theorem lastAt_some {L : List (Int × List Int)} {i : Int} {j : Nat} {x : Int × List Int} (hx : L[j]? = some x) (hi : x.1 = i) (k : Nat) (hk : j < k) (h : ∀ j' x', j < j' → j' < k → L[j']? = some x' → x'.1 ≠ i) : lastAt L i k = some x.2 := by
  induction k with
  | zero => omega
  | succ k ih =>
    unfold lastAt
    by_cases e : j = k
    · subst e
      rw [hx]
      simp only
      rw [if_pos hi]
    · have ih := ih (by omega) (fun j' x' h1 h2 => h j' x' h1 (by omega))
      cases hx' : L[k]? with
      | none => exact ih
      | some x' => simp only; rw [if_neg (h k x' (by omega) (by omega) hx')]; exact ih
theorem DevAt.items {TD TW : Nat} {w : World} {S N : Nat → Prop} {p gb cb : Nat} {A : Option Addr} {cl : Nat} {B : List Int} {L : List (Int × List Int)} (h : DevAt TD TW w S N p gb cb (.slice A L.length cl) B L) :
    ∃ (g : Nat) (fA : Nat → Option Addr) (fc : Nat → Nat), (0 < L.length → A = some ⟨g, 0, none⟩ ∧ S g) ∧ ∀ j (hj : j < L.length), w.cell? ⟨g, j * 2, none⟩ = some (.int .i64 (L[j]'hj).1) ∧ w.cell? ⟨g, j * 2 + 1, none⟩ = some (.slice (fA j) (L[j]'hj).2.length (fc j)) ∧ (L[j]'hj).2.length ≤ fc j ∧ Kd.C (Kd.int .u8) w (fA j) (L[j]'hj).2.length (L[j]'hj).2 ∧ ∀ a, fA j = some a → N a.block := by
  rcases Nat.eq_zero_or_pos L.length with h0 | hp
  · exact ⟨0, fun _ => none, fun _ => 0, fun h => by omega, fun j hj => by omega⟩
  · obtain ⟨g, A', c', e, hS, _⟩ := h.item hp
    have key : ∀ j, ∃ (A' : Option Addr) (c' : Nat), ∀ hj : j < L.length, w.cell? ⟨g, j * 2, none⟩ = some (.int .i64 (L[j]'hj).1) ∧ w.cell? ⟨g, j * 2 + 1, none⟩ = some (.slice A' (L[j]'hj).2.length c') ∧ (L[j]'hj).2.length ≤ c' ∧ Kd.C (Kd.int .u8) w A' (L[j]'hj).2.length (L[j]'hj).2 ∧ ∀ a, A' = some a → N a.block := by
      intro j
      by_cases hj : j < L.length
      · obtain ⟨g', A', c', e', hS', r⟩ := h.item hj
        have : g' = g := by rw [e] at e'; injection e' with e'; injection e' with e'; exact e'.symm
        subst this
        exact ⟨A', c', fun _ => r⟩
      · exact ⟨none, 0, fun h => absurd h hj⟩
    exact ⟨g, fun j => (key j).choose, fun j => (key j).choose_spec.choose, fun _ => ⟨e, hS⟩, fun j hj => (key j).choose_spec.choose_spec hj⟩
theorem OwnBy.cut {w : World} {g cap : Nat} {B : List Int} (h : OwnBy w g cap B) {off m : Nat} (hm : off + m ≤ B.length) : Kd.C (Kd.int .u8) w (some ⟨g, off, none⟩) m ((B.drop off).take m) := by
  obtain ⟨cur, hh, hcs, hle, hcm, htk⟩ := h
  have hl : ((B.drop off).take m).length = m := by rw [List.length_take, List.length_drop]; omega
  refine ⟨hl, by unfold maxLen at hcm; omega, fun _ => ⟨_, rfl, fun j p hj => ⟨[.int .u8 p], rfl, rfl, fun i u hi => ?_⟩⟩⟩
  obtain ⟨rfl, rfl⟩ : i = 0 ∧ u = .int .u8 p := by
    cases i with
    | zero => simpa using hi.symm
    | succ i => simp at hi
  have hjl : j < m := by rw [← hl]; exact (List.getElem?_eq_some_iff.1 hj).1
  rw [List.getElem?_take, if_pos hjl, List.getElem?_drop] at hj
  have h1 : cur[off + j]? = some (.int .u8 p) := by
    have := congrArg (fun l => l[off + j]?) htk
    simp only [List.getElem?_take, List.getElem?_map, hj] at this
    rw [if_pos (by omega)] at this
    simpa using this
  show w.cell? ((⟨g, off, none⟩ : Addr).add (j * 1 + 0)) = _
  by_cases hj0 : j = 0
  · subst hj0
    simp only [Nat.add_zero] at h1
    simp [Addr.add, World.cell?, hh, h1]
  · simp [Addr.add, World.cell?, hh, h1, hj0]
set_option maxRecDepth 100000 in
set_option maxHeartbeats 4000000 in
theorem dev_read {w : World} {S N : Nat → Prop} {p : Nat} {B : List Int} {L : List (Int × List Int)} (h : Dev 76 82 w S N p B L) {n : Nat} (hn : B.length = n * 64) (hm : n ≤ 1024) (hl : L.length < 4294967296) (hw : ∀ x ∈ L, x.2.length = 64) {i : Int} (h0 : 0 ≤ i) (hi : i < n) :
    Calls Try.prog 42 #[.pointer (some ⟨p, 0, none⟩), .int .i64 i] w fun e w' =>
      ∃ g cap, e = .returned (.tuple #[.slice (some ⟨g, 0, none⟩) 64 cap, .int .i64 0]) ∧ w.heap.size ≤ g ∧ 64 ≤ cap ∧ OwnBy w' g cap (rblk B L i) ∧ Below w.heap.size w w' := by
  have hb := Aside0.mk (fun (W : World) (hB : Below w.heap.size w W) => dev_has (h.below hB) hn hm i)
  obtain ⟨gb, cb, vl, h⟩ := h
  obtain ⟨A1, c1, rfl, hc1, hL1⟩ := h.lenL
  obtain ⟨g, fA, fc, hg, hit⟩ := h.items
  have E0 := Aside0.mk (decide_eq_true (⟨h0, hi⟩ : 0 ≤ i ∧ i < (n : Int)))
  have cp0 := cell_of_blk h.cell (j := 0) rfl
  have cp1 := cell_of_blk h.cell (j := 1) rfl
  have hps := h.slt p h.sp
  have H := Aside0.mk h
  have HL := Aside0.mk hl
  have HW := Aside0.mk hw
  have HG := Aside0.mk hg
  have HI := Aside0.mk hit
  have HN := Aside0.mk hn
  clear h hl hw hg hit hn
  obtain ⟨W0, hW0⟩ : ∃ W0, W0 = ((w.alloc (.cells #[.int .i64 i] 3)).alloc (.cells #[.slice none 0 0] 22)).alloc (.cells #[.int .i64 0] 24) := ⟨_, rfl⟩
  have hB0 : Aside0 (Below w.heap.size w W0) := ⟨by rw [hW0]; exact (((Below.refl _ w).alloc (Nat.le_refl _) _).alloc (by simp) _).alloc (by simp; omega) _⟩
  have hs0 : W0.heap.size = w.heap.size + 3 := by rw [hW0]; simp
  have hW0' := Aside0.mk hW0
  refine (callsIn_wide (n := 5)).1 ?_
  refine callsIn_of_wp_marks Try.func42 rfl trivial ?_ rfl
  simp only [Try.ntmps42, List.size_toArray, List.length_cons, List.length_nil, Nat.reduceAdd, Nat.reduceSub, Array.replicate_succ, Array.replicate_zero, List.push_toArray, List.append_toArray, List.nil_append, List.cons_append]
  clear hW0
  have b3 : W0.heap[w.heap.size]? = some (.cells #[.int .i64 i] 3 (0, 0)) := by
    rw [hW0'.out, Below.heap_alloc _ _ _ (by simp; omega), Below.heap_alloc _ _ _ (by simp)]; exact new_blk _ _
  have b4 : W0.heap[w.heap.size + 1]? = some (.cells #[.slice none 0 0] 22 (0, 0)) := by
    rw [hW0'.out, Below.heap_alloc _ _ _ (by simp)]
    have := new_blk (w.alloc (.cells #[.int .i64 i] 3)) (.cells #[.slice none 0 0] 22)
    simpa using this
  have b5 : W0.heap[w.heap.size + 1 + 1]? = some (.cells #[.int .i64 0] 24 (0, 0)) := by
    rw [hW0'.out]
    have := new_blk ((w.alloc (.cells #[.int .i64 i] 3)).alloc (.cells #[.slice none 0 0] 22)) (.cells #[.int .i64 0] 24)
    simpa using this
  have cp0' : W0.cell? ⟨p, 0, none⟩ = some (.slice (some ⟨gb, 0, none⟩) B.length cb) := (hB0.out.cell (p := ⟨p, 0, none⟩) hps).trans cp0
  have cp1' : W0.cell? ⟨p, 1, none⟩ = some (.slice A1 L.length c1) := (hB0.out.cell (p := ⟨p, 1, none⟩) hps).trans cp1
  gi_wp2_with (first
    | (refine ⟨trivial, ?_⟩; gi_at_call 51; refine (callsIn_wide.2 (hb.out _ (by rw [hW0'.out] at hB0; exact hB0.out))).mono ?_; rintro e w' ⟨rfl, rfl⟩; rw [E0.out, ← hW0'.out])
    | (refine ⟨trivial, ?_⟩; gi_at_call 52; refine (callsIn_wide.2 back_mk).mono ?_; rintro e w' ⟨rfl, rfl⟩))
  obtain ⟨W1, hW1⟩ : ∃ W1, W1 = W0.alloc (.cells #[.slice A1 L.length c1] 74) := ⟨_, rfl⟩
  rw [← hW1]
  have hs1 : W1.heap.size = w.heap.size + 4 := by rw [hW1]; simp [hs0]
  have hB1 : Below w.heap.size w W1 := by rw [hW1]; exact hB0.out.alloc (by omega) _
  have bs : W1.heap[w.heap.size + 3]? = some (.cells #[.slice A1 L.length c1] 74 (0, 0)) := by rw [hW1, ← hs0]; exact new_blk _ _
  have b01 : ∀ k, k < W0.heap.size → W1.heap[k]? = W0.heap[k]? := fun k hk => by rw [hW1]; exact Below.heap_alloc W0 _ k hk
  have hrow : ∀ j (hj : j < L.length), W1.cell? ⟨g, j * 2, none⟩ = some (.int .i64 (L[j]'hj).1) ∧ W1.cell? ⟨g, j * 2 + 1, none⟩ = some (.slice (fA j) 64 (fc j)) := fun j hj => by
    obtain ⟨q1, q2, _⟩ := HI.out j hj
    have hgs := H.out.slt g (HG.out (by omega)).2
    rw [HW.out _ (List.getElem_mem hj)] at q2
    exact ⟨(hB1.cell (p := ⟨g, j * 2, none⟩) hgs).trans q1, (hB1.cell (p := ⟨g, j * 2 + 1, none⟩) hgs).trans q2⟩
  obtain ⟨fat, hfat⟩ : ∃ fat : Nat → Int, fat = fun j => if hj : j < L.length then (L[j]'hj).1 else -1 := ⟨_, rfl⟩
  have fat1 : Aside0 (∀ j (hj : j < L.length), fat j = (L[j]'hj).1) := ⟨fun j hj => by rw [hfat]; exact dif_pos hj⟩
  have fat2 : Aside0 (∀ j, ¬ j < L.length → fat j = -1) := ⟨fun j hj => by rw [hfat]; exact dif_neg hj⟩
  clear hfat
  refine wpIn_rangeFunc_ownH (F := Fence.wide) rfl (by omega) (gf := 54) (lb := #[.pointer (some ⟨w.heap.size + 3, 0, none⟩)]) rfl trivial (enters_of Try.func54 (by kernel_rfl) rfl)
    (back_stops (by omega) (w.heap.size + 3) W1.heap.size g L.length c1 A1 fat fA fc HL.out (fun hp => ⟨(HG.out hp).1, by have := H.out.slt g (HG.out hp).2; omega⟩) (by omega) W1 (Nat.le_refl _) (cell_of_blk bs rfl) (fun j hj => by obtain ⟨q1, q2⟩ := hrow j hj; exact ⟨by rw [q1, fat1.out j hj], q2⟩)) belowK_t (belowK_b (Nat.le_refl _)) (Below.refl _ _) (fun _ => rfl)
    (fun pre W => (∀ j ∈ pre, ∀ x, L[j]? = some x → x.1 ≠ i) ∧ Below W1.heap.size W1 W)
    (fun c pre W => (c = .ret ∧ ∃ ini j x g2 cap, pre = ini ++ [j] ∧ (∀ j' ∈ ini, ∀ x, L[j']? = some x → x.1 ≠ i) ∧ L[j]? = some x ∧ x.1 = i ∧ W.cell? ⟨w.heap.size + 1, 0, none⟩ = some (.slice (some ⟨g2, 0, none⟩) 64 cap) ∧ W.cell? ⟨w.heap.size + 1 + 1, 0, none⟩ = some (.int .i64 0) ∧ w.heap.size ≤ g2 ∧ 64 ≤ cap ∧ OwnBy W g2 cap x.2) ∧ Below w.heap.size w W)
    ?hI ?hIx ?h0 (fun x a' W => ∃ Bx, W1.heap.size ≤ Bx ∧ W.heap[Bx]? = some (.cells #[.int .i64 (fat x), .slice (fA x) 64 (fc x)] 82 (0, 0)) ∧ a' = { tmps := #[.pointer (some ⟨p, 0, none⟩), .int .i64 i, undef, .pointer (some ⟨w.heap.size, 0, none⟩), .pointer (some ⟨w.heap.size + 1, 0, none⟩), .pointer (some ⟨w.heap.size + 1 + 1, 0, none⟩), undef, .pointer (some ⟨Bx, 0, none⟩), .pointer (some ⟨p, 0, none⟩), .int .i64 i, .bool true, .bool false, .pointer (some ⟨p, 0, none⟩), .pointer (some ⟨p, 0, none⟩), .pointer (some ⟨p, 1, none⟩), .slice A1 L.length c1, .func (.func 54) #[] #[.pointer (some ⟨w.heap.size + 3, 0, none⟩)], .int .i64 (x : Int), .agg #[.int .i64 (fat x), .slice (fA x) 64 (fc x)], undef, undef, undef, undef, undef, undef, undef, undef, undef, undef, undef, undef, undef, undef, undef, undef, undef, undef], defers := [] }) ?hAx ?assign ?body ?done ?stop
  case hI => exact OwnFrom.and (fun s W W' row hs hg hr => hs) (ownFrom_below (Nat.le_refl _) (Nat.le_refl _))
  case hIx =>
    refine fun c => OwnFrom.and ?_ (ownFrom_below (Nat.le_refl _) (by omega))
    rintro s W W' row ⟨hc, ini, j, x, g2, cap, e1, e2, e3, e4, e5, e6, e7, e8, e9⟩ hg hr
    refine ⟨hc, ini, j, x, g2, cap, e1, e2, e3, e4, cell_kept e5 hg (fun r e => (hr r e).2), cell_kept e6 hg (fun r e => (hr r e).2), e7, e8, e9.same (grown_blk hg e9.lt (fun e => ?_))⟩
    obtain ⟨o, ho, hoc⟩ := (hr _ e).2
    obtain ⟨cur, hcur, _⟩ := e9
    rw [hcur] at ho
    obtain rfl := Option.some.inj ho
    cases hoc
  case h0 => exact ⟨by simp, Below.refl _ _⟩
  case hAx =>
    rintro x a' s W W' row ⟨Bx, h1, h2, h3⟩ hg hr
    refine ⟨Bx, h1, (grown_blk hg (blk_lt h2) (fun e => ?_)).trans h2, h3⟩
    obtain ⟨o, ho, hoc⟩ := (hr _ e).2
    rw [h2] at ho
    obtain rfl := Option.some.inj ho
    cases hoc
  case assign =>
    rintro l pre x W K ⟨hi1, hi2⟩ hK
    dsimp only [encB]
    gi_wp2
    exact hK _ _ ((KeepsOthers.alloc _ _).from _) ((Below.refl _ W).alloc hi2.size _) ⟨hi1, hi2.alloc hi2.size _⟩ ⟨W.heap.size, hi2.size, new_blk _ _, rfl⟩
  case body =>
    rintro l pre x a' W hl ⟨r, hr⟩ ⟨hp, hB⟩ ⟨Bx, hBx, hbx, rfl⟩ hlt
    have cx0 := cell_of_blk hbx (j := 0) rfl
    have cx1 := cell_of_blk hbx (j := 1) rfl
    have c3 : W.cell? ⟨w.heap.size, 0, none⟩ = some (.int .i64 i) := cell_of_blk ((hB.block _ (by omega)).trans ((b01 _ (by omega)).trans b3)) rfl
    have c4 : W.cell? ⟨w.heap.size + 1, 0, none⟩ = some (.slice none 0 0) := cell_of_blk ((hB.block _ (by omega)).trans ((b01 _ (by omega)).trans b4)) rfl
    have c5 : W.cell? ⟨w.heap.size + 1 + 1, 0, none⟩ = some (.int .i64 0) := cell_of_blk ((hB.block _ (by omega)).trans ((b01 _ (by omega)).trans b5)) rfl
    have hbp := H.out.slt
    by_cases hfi : fat x = i
    · have hxl : x < L.length := by
        by_cases hq : x < L.length
        · exact hq
        · have := fat2.out x hq; omega
      obtain ⟨_, _, k1, k2, k3⟩ := HI.out x hxl
      have k0 := HW.out _ (List.getElem_mem hxl)
      have kx := List.getElem?_eq_getElem hxl
      have ki : (L[x]'hxl).1 = i := (fat1.out x hxl).symm.trans hfi
      generalize L[x]'hxl = y at *
      have hcl := clone_ok (w := W) (C_same k2 (fun a ha => (hB.block _ (by have := H.out.nlt _ (k3 a ha); omega)).trans (hB1.block _ (H.out.nlt _ (k3 a ha))))) k1 (by omega) (by omega)
      rw [k0] at hcl
      have HCL := Aside0.mk hcl
      have K0 := Aside0.mk k0
      have KX := Aside0.mk kx
      have KI := Aside0.mk ki
      have FI := Aside0.mk hfi
      rw [hfi] at cx0
      rw [hfi]
      clear hcl k0 k1 k2 k3 kx ki hfi
      have hsz := hB.size
      gi_wp2_with (refine ⟨trivial, ?_⟩; gi_at_call 36; refine (CallsIn.inRound l (callsIn_wide.2 HCL.out)).mono ?_; rintro e w2 ⟨g2, cap, rfl, hg2, hcap, hO, hBc⟩; have c4' := (hBc.cell (p := ⟨w.heap.size + 1, 0, none⟩) (by show w.heap.size + 1 < _; omega)).trans c4; have c5' := (hBc.cell (p := ⟨w.heap.size + 1 + 1, 0, none⟩) (by show w.heap.size + 1 + 1 < _; omega)).trans c5; have f4' := blk_frozen ((hBc.block _ (by omega)).trans ((hB.block _ (by omega)).trans ((b01 _ (by omega)).trans b4))) 0; have f5' := blk_frozen ((hBc.block _ (by omega)).trans ((hB.block _ (by omega)).trans ((b01 _ (by omega)).trans b5))) 0)
      have q4 := (hBc.block (w.heap.size + 1) (by omega)).trans ((hB.block _ (by omega)).trans ((b01 _ (by omega)).trans b4))
      have q5 := (hBc.block (w.heap.size + 1 + 1) (by omega)).trans ((hB.block _ (by omega)).trans ((b01 _ (by omega)).trans b5))
      have HBW : Below w.heap.size w W := hB1.trans (hB.mono hB1.size)
      have HB2 : Below w.heap.size w w2 := HBW.trans (hBc.mono HBW.size)
      have r4 := blk_put q4 0 (.slice (some ⟨g2, 0, none⟩) 64 cap) rfl
      have r4' := (Below.heap_setCell (w2.setCell ⟨w.heap.size + 1, 0, none⟩ (.slice (some ⟨g2, 0, none⟩) 64 cap)) ⟨w.heap.size + 1 + 1, 0, none⟩ (.int .i64 0) (w.heap.size + 1) (by show w.heap.size + 1 ≠ w.heap.size + 1 + 1; omega)).trans r4
      have r5 := blk_put ((Below.heap_setCell w2 ⟨w.heap.size + 1, 0, none⟩ (.slice (some ⟨g2, 0, none⟩) 64 cap) (w.heap.size + 1 + 1) (by show w.heap.size + 1 + 1 ≠ w.heap.size + 1; omega)).trans q5) 0 (.int .i64 0) rfl
      have hgl := hO.lt
      have hkf : KeepsFrom W1.heap.size W w2 := ⟨hBc.size, fun k o _ hk ho => (hBc.block k (blk_lt hk)).trans hk⟩
      refine ⟨hkf.trans (((KeepsOthers.setCell _ _ _).trans (KeepsOthers.setCell _ _ _)).from _), ⟨rfl, pre, x, y, g2, cap, rfl, hp, KX.out, KI.out, cell_of_blk r4' rfl, cell_of_blk r5 rfl, by omega, hcap, ?_⟩, ?_⟩
      · exact hO.same ((Below.heap_setCell _ _ _ g2 (by show g2 ≠ w.heap.size + 1 + 1; omega)).trans (Below.heap_setCell _ _ _ g2 (by show g2 ≠ w.heap.size + 1; omega)))
      · exact (HB2.setCell (p := ⟨w.heap.size + 1, 0, none⟩) (by show w.heap.size ≤ w.heap.size + 1; omega) _).setCell (p := ⟨w.heap.size + 1 + 1, 0, none⟩) (by show w.heap.size ≤ w.heap.size + 1 + 1; omega) _
    · gi_wp2
      refine ⟨KeepsFrom.refl _ _, Below.refl _ _, fun j hj z hz => ?_, hB⟩
      rcases List.mem_append.1 hj with hj | hj
      · exact hp j hj z hz
      · obtain rfl : j = x := by simpa using hj
        obtain ⟨hlt2, rfl⟩ := List.getElem?_eq_some_iff.1 hz
        rw [← fat1.out j hlt2]
        exact hfi
  case stop =>
    rintro D c pre W hD ⟨k, hk, rfl⟩ ⟨⟨rfl, ini, j, x, g2, cap, e1, e2, e3, e4, e5, e6, e7, e8, e9⟩, hB⟩ hK
    have hp4 := cell_kept e5 (grownBy_putObj' _ D (.deferred none)) (fun r e => by cases e; exact ⟨_, hK, rfl⟩)
    have hp5 := cell_kept e6 (grownBy_putObj' _ D (.deferred none)) (fun r e => by cases e; exact ⟨_, hK, rfl⟩)
    have hrb : rblk B L i = x.2 := by
      obtain ⟨k', rfl⟩ : ∃ k', k = k' + 1 := by
        cases k with
        | zero => simp [down] at e1
        | succ k' => exact ⟨k', rfl⟩
      rw [down_succ] at e1
      obtain ⟨rfl, e5⟩ := List.append_inj' e1 rfl
      obtain rfl : L.length - 1 - k' = j := by simpa using e5
      unfold rblk
      rw [lastAt_some e3 e4 L.length (by omega) (fun j' x' h1 h2 hx' => e2 j' (by
        simp only [down, List.mem_map, List.mem_range]
        exact ⟨L.length - 1 - j', by omega, by omega⟩) x' hx')]
      rfl
    have HRB := Aside0.mk hrb
    clear hrb e1 e2 e3 e4
    gi_wp2
    refine ⟨by simp, .inl ⟨_, _, rfl, run_takeDeferred hK, ?_⟩⟩
    refine ⟨.tuple #[.slice (some ⟨g2, 0, none⟩) 64 cap, .int .i64 0], ?_, g2, cap, rfl, e7, e8, ?_, hB.trans (belowK_b (w := w) (Nat.le_refl _) W D _ _ (by omega) hK rfl rfl)⟩
    · simp [results, Try.f42, go_sem, hp4, hp5]
    · rw [HRB.out]
      exact e9.same (World.putObj_heap_other (fun e => by
        obtain ⟨cur, hcur, _⟩ := e9
        rw [e, hK] at hcur
        cases hcur))
  case done =>
    rintro D ys W hD rfl ⟨hne, hB⟩ hK
    have hrb : lastAt L i L.length = none := lastAt_none _ (fun j x hj hx => hne j (by
      simp only [down, List.mem_map, List.mem_range]
      exact ⟨L.length - 1 - j, by omega, by omega⟩) x hx)
    have HRB := Aside0.mk hrb
    clear hrb hne
    have HBW : Below w.heap.size w W := hB1.trans (hB.mono hB1.size)
    have hsz := hB.size
    have c3 : W.cell? ⟨w.heap.size, 0, none⟩ = some (.int .i64 i) := cell_of_blk ((hB.block _ (by omega)).trans ((b01 _ (by omega)).trans b3)) rfl
    have hc4 := (hB.block (w.heap.size + 1) (by omega)).trans ((b01 _ (by omega)).trans b4)
    have hc5 := (hB.block (w.heap.size + 1 + 1) (by omega)).trans ((b01 _ (by omega)).trans b5)
    have cpW : W.cell? ⟨p, 0, none⟩ = some (.slice (some ⟨gb, 0, none⟩) (n * 64) cb) := by rw [← HN.out]; exact (HBW.cell (p := ⟨p, 0, none⟩) hps).trans cp0
    obtain ⟨q, rfl⟩ := Int.eq_ofNat_of_zero_le h0
    have hqn : q < n := by omega
    have hcb : n * 64 ≤ cb := by obtain ⟨_, _, _, h2, _⟩ := H.out.own; rw [HN.out] at h2; exact h2
    have hO := H.out.own.same (HBW.block gb (H.out.slt gb H.out.sb))
    have hcut := hO.cut (off := q * 64) (m := 64) (by rw [HN.out]; omega)
    have hlen : ((B.drop (q * 64)).take 64).length = 64 := by rw [List.length_take, List.length_drop, HN.out]; omega
    have hwr : IntKind.i64.wrap ((q : Int) * 64) = (q : Int) * 64 := wrapI (by omega) (by omega)
    have hwr1 : IntKind.i64.wrap ((q : Int) + 1) = (q : Int) + 1 := wrapI (by omega) (by omega)
    have hwr2 : IntKind.i64.wrap (((q : Int) + 1) * 64) = ((q : Int) + 1) * 64 := wrapI (by omega) (by omega)
    have hq1 : (0 : Int) ≤ (q : Int) * 64 := by omega
    have hq2 : (q : Int) * 64 ≤ ((q : Int) + 1) * 64 := by omega
    have hq3 : ((q : Int) * 64).toNat = q * 64 := by omega
    have hq3' : (((q : Int) + 1) * 64).toNat = (q + 1) * 64 := by omega
    have hq4 : ¬ cb = q * 64 := by omega
    have hq6 : ((q : Int) + 1) * 64 ≤ (cb : Int) := by omega
    have hq8 : (0 : Int) ≤ ((q : Int) + 1) * 64 := by omega
    have hq9 : (q : Int) ≤ (q : Int) + 1 := by omega
    have hq7 : (q + 1) * 64 - q * 64 = 64 := by omega
    have hcl := Aside0.mk (clone_ok (w := W.drew) (A := some ⟨gb, q * 64, none⟩) (c := cb - q * 64) (bs := (B.drop (q * 64)).take 64) (by rw [hlen]; exact C_same hcut (fun a ha => rfl)) (by omega) (by omega) (by omega))
    rw [hlen] at hcl
    have HLN := Aside0.mk hlen
    clear hO hcut hlen cp0 cp1
    gi_wp2
    refine wpIn_wide.2 ?_
    refine wp_region_noPanic ?_
    go_region_law (go_simp; go_at_call 36; refine hcl.out.mono ?_; rintro e w2 ⟨g2, cap, rfl, hg2, hcap, hO, hBc⟩; have c4' := cell_of_blk ((hBc.block _ (by show w.heap.size + 1 < W.heap.size; omega)).trans hc4) (j := 0) rfl; have c5' := cell_of_blk ((hBc.block _ (by show w.heap.size + 1 + 1 < W.heap.size; omega)).trans hc5) (j := 0) rfl; have f4' := blk_frozen ((hBc.block _ (by show w.heap.size + 1 < W.heap.size; omega)).trans hc4) 0; have f5' := blk_frozen ((hBc.block _ (by show w.heap.size + 1 + 1 < W.heap.size; omega)).trans hc5) 0)
    all_goals refine NoPanic.normal ?_
    all_goals
      have q4 := (hBc.block (w.heap.size + 1) (by show w.heap.size + 1 < W.heap.size; omega)).trans hc4
      have q5 := (hBc.block (w.heap.size + 1 + 1) (by show w.heap.size + 1 + 1 < W.heap.size; omega)).trans hc5
      have r4 := blk_put q4 0 (.slice (some ⟨g2, 0, none⟩) 64 cap) rfl
      have r4' := (Below.heap_setCell (w2.setCell ⟨w.heap.size + 1, 0, none⟩ (.slice (some ⟨g2, 0, none⟩) 64 cap)) ⟨w.heap.size + 1 + 1, 0, none⟩ (.int .i64 0) (w.heap.size + 1) (by show w.heap.size + 1 ≠ w.heap.size + 1 + 1; omega)).trans r4
      have r5 := blk_put ((Below.heap_setCell w2 ⟨w.heap.size + 1, 0, none⟩ (.slice (some ⟨g2, 0, none⟩) 64 cap) (w.heap.size + 1 + 1) (by show w.heap.size + 1 + 1 ≠ w.heap.size + 1; omega)).trans q5) 0 (.int .i64 0) rfl
      have hgl := hO.lt
      have hg2' : W.heap.size ≤ g2 := hg2
      have hDl := blk_lt hK
      have hK2 : w2.heap[D]? = some (.deferred (some [])) := (hBc.block D hDl).trans hK
      obtain ⟨W5, hW5⟩ : ∃ W5, W5 = (w2.setCell ⟨w.heap.size + 1, 0, none⟩ (.slice (some ⟨g2, 0, none⟩) 64 cap)).setCell ⟨w.heap.size + 1 + 1, 0, none⟩ (.int .i64 0) := ⟨_, rfl⟩
      have hset : ∀ k, W1.heap.size ≤ k → W5.heap[k]? = w2.heap[k]? := fun k hk => by
        rw [hW5]
        exact (Below.heap_setCell _ _ _ k (by show k ≠ w.heap.size + 1 + 1; omega)).trans (Below.heap_setCell _ _ _ k (by show k ≠ w.heap.size + 1; omega))
      have hK5 : W5.heap[D]? = some (.deferred (some [])) := (hset D hD).trans hK2
      have e5 : W5.cell? ⟨w.heap.size + 1, 0, none⟩ = some (.slice (some ⟨g2, 0, none⟩) 64 cap) := by rw [hW5]; exact cell_of_blk r4' rfl
      have e6 : W5.cell? ⟨w.heap.size + 1 + 1, 0, none⟩ = some (.int .i64 0) := by rw [hW5]; exact cell_of_blk r5 rfl
      have hBcW : Below W.heap.size W w2 := ⟨hBc.os, hBc.tape, hBc.output, hBc.size, hBc.block⟩
      have HB5 : Below w.heap.size w W5 := by
        rw [hW5]
        exact ((HBW.trans (hBcW.mono HBW.size)).setCell (p := ⟨w.heap.size + 1, 0, none⟩) (by show w.heap.size ≤ w.heap.size + 1; omega) _).setCell (p := ⟨w.heap.size + 1 + 1, 0, none⟩) (by show w.heap.size ≤ w.heap.size + 1 + 1; omega) _
      have hO5 : OwnBy W5 g2 cap ((B.drop (q * 64)).take 64) := hO.same (hset g2 (by omega))
      have hp4 := cell_kept e5 (grownBy_putObj' _ D (.deferred none)) (fun r e => by cases e; exact ⟨_, hK5, rfl⟩)
      have hp5 := cell_kept e6 (grownBy_putObj' _ D (.deferred none)) (fun r e => by cases e; exact ⟨_, hK5, rfl⟩)
      rw [← hW5]
      gi_wp2
      refine ⟨by simp, .inl ⟨_, _, rfl, run_takeDeferred hK5, ?_⟩⟩
      refine ⟨.tuple #[.slice (some ⟨g2, 0, none⟩) 64 cap, .int .i64 0], ?_, g2, cap, rfl, by omega, hcap, ?_, HB5.trans (belowK_b (w := w) (Nat.le_refl _) W5 D _ _ (by omega) hK5 rfl rfl)⟩
      · simp [results, Try.f42, go_sem, hp4, hp5]
      · have hrb : rblk B L (q : Int) = (B.drop (q * 64)).take 64 := by unfold rblk; rw [HRB.out]; rfl
        rw [hrb]
        exact hO5.same (World.putObj_heap_other (fun e => by
          obtain ⟨cur, hcur, _⟩ := hO5
          rw [e, hK5] at hcur
          cases hcur))
theorem dev_read_bad {w : World} {S N : Nat → Prop} {p : Nat} {B : List Int} {L : List (Int × List Int)} (h : Dev 76 82 w S N p B L) {n : Nat} (hn : B.length = n * 64) (hm : n ≤ 1024) {i : Int} (hi : ¬ (0 ≤ i ∧ i < n)) :
    Calls Try.prog 42 #[.pointer (some ⟨p, 0, none⟩), .int .i64 i] w fun e w' =>
      e = .returned (.tuple #[.slice none 0 0, .int .i64 1]) ∧ Below w.heap.size w w' := by
  have hb := Aside0.mk (fun (W : World) (hB : Below w.heap.size w W) => dev_has (h.below hB) hn hm i)
  have E0 := Aside0.mk (decide_eq_false hi)
  clear h hi
  obtain ⟨W0, hW0⟩ : ∃ W0, W0 = ((w.alloc (.cells #[.int .i64 i] 3)).alloc (.cells #[.slice none 0 0] 22)).alloc (.cells #[.int .i64 0] 24) := ⟨_, rfl⟩
  have hB0 : Aside0 (Below w.heap.size w W0) := ⟨by rw [hW0]; exact (((Below.refl _ w).alloc (Nat.le_refl _) _).alloc (by simp) _).alloc (by simp; omega) _⟩
  have hs0 : W0.heap.size = w.heap.size + 3 := by rw [hW0]; simp
  have hW0' := Aside0.mk hW0
  clear hW0
  have b4 : W0.heap[w.heap.size + 1]? = some (.cells #[.slice none 0 0] 22 (0, 0)) := by
    rw [hW0'.out, Below.heap_alloc _ _ _ (by simp)]
    have := new_blk (w.alloc (.cells #[.int .i64 i] 3)) (.cells #[.slice none 0 0] 22)
    simpa using this
  have b5 : W0.heap[w.heap.size + 1 + 1]? = some (.cells #[.int .i64 0] 24 (0, 0)) := by
    rw [hW0'.out]
    have := new_blk ((w.alloc (.cells #[.int .i64 i] 3)).alloc (.cells #[.slice none 0 0] 22)) (.cells #[.int .i64 0] 24)
    simpa using this
  have c4 := cell_of_blk b4 (j := 0) rfl
  have c5 := cell_of_blk b5 (j := 0) rfl
  have f4 := blk_frozen b4 0
  have f5 := blk_frozen b5 0
  go_enter Try.func42, Try.ntmps42
  go_wp2_with (go_at_call 51; refine (hb.out _ (by rw [hW0'.out] at hB0; exact hB0.out)).mono ?_; rintro e w' ⟨rfl, rfl⟩; rw [E0.out, ← hW0'.out])
  have r4 := blk_put b4 0 (.slice none 0 0) rfl
  have r4' := (Below.heap_setCell (W0.setCell ⟨w.heap.size + 1, 0, none⟩ (.slice none 0 0)) ⟨w.heap.size + 1 + 1, 0, none⟩ (.int .i64 1) (w.heap.size + 1) (by show w.heap.size + 1 ≠ w.heap.size + 1 + 1; omega)).trans r4
  have r5 := blk_put ((Below.heap_setCell W0 ⟨w.heap.size + 1, 0, none⟩ (.slice none 0 0) (w.heap.size + 1 + 1) (by show w.heap.size + 1 + 1 ≠ w.heap.size + 1; omega)).trans b5) 0 (.int .i64 1) rfl
  have e4 := cell_of_blk r4' (j := 0) rfl
  have e5 := cell_of_blk r5 (j := 0) rfl
  try simp only [Exit.inBlock, Exit.then]
  refine bodyPost_ret (v := .tuple #[.slice none 0 0, .int .i64 1]) ?_ rfl ?_
  · simp [results, Try.f42, go_sem, e4, e5]
  · exact ⟨rfl, (hB0.out.setCell (p := ⟨w.heap.size + 1, 0, none⟩) (by show w.heap.size ≤ w.heap.size + 1; omega) _).setCell (p := ⟨w.heap.size + 1 + 1, 0, none⟩) (by show w.heap.size ≤ w.heap.size + 1 + 1; omega) _⟩
end Go.Proofs.Ytpaiigonagiemaa.PAll
/- Devices side by side, and what each call does to them. -/
namespace Go.Proofs.Ytpaiigonagiemaa.PAll
open Go.Proofs.Ytpaiigonagiemaa.Help
open Go.RowKit Go.Proofs.YtpaiigonagiemaaW.PrintWords Go.Proofs.YtpaiigonagiemaaW.PrintLast Go.Proofs.YtpaiigonagiemaaW.PrintMore
set_option linter.unusedVariables false
set_option linter.unusedSimpArgs false
/-- A device: where it lies, how many blocks, its bytes, what waits. -/
structure DSt where
  p : Nat
  n : Nat
  B : List Int
  L : List (Int × List Int)
structure DSt.Ok (d : DSt) : Prop where
  len : d.B.length = d.n * 64
  n4 : 4 ≤ d.n
  nm : d.n ≤ 1024
  wait : Waits d.n d.L
def upd (D : Nat → Option DSt) (i : Nat) (d : DSt) : Nat → Option DSt := fun j => if j = i then some d else D j
theorem upd_same (D : Nat → Option DSt) (i : Nat) (d : DSt) : upd D i d i = some d := if_pos rfl
theorem upd_other (D : Nat → Option DSt) {i j : Nat} (d : DSt) (h : j ≠ i) : upd D i d j = D j := if_neg h
def noDev : Nat → Option DSt := fun _ => none
abbrev DevP := Dev 76 82
/-- A row of bytes that is kept: its block, its room, what it holds. -/
abbrev Kept3 := Nat × Nat × List Int
/-- The devices D, side by side, and rows of bytes R beside them; nothing that lay in w0 has turned. -/
def Devs (w0 W : World) (D : Nat → Option DSt) (R : List Kept3) : Prop :=
  Below w0.heap.size w0 W ∧ ∃ S N : Nat → Nat → Prop, (∀ i d, D i = some d → d.Ok ∧ DevP W (S i) (N i) d.p d.B d.L ∧ (∀ k, S i k → w0.heap.size ≤ k)) ∧
    (∀ i j d e, i ≠ j → D i = some d → D j = some e → ∀ k, S i k → ¬ S j k ∧ ¬ N j k) ∧ ∀ r ∈ R, OwnBy W r.1 r.2.1 r.2.2 ∧ ∀ i d, D i = some d → ¬ S i r.1
theorem Devs.none_ {w0 W : World} (h : Below w0.heap.size w0 W) : Devs w0 W noDev [] := ⟨h, fun _ _ => False, fun _ _ => False, ⟨fun i d h => by simp [noDev] at h, ⟨fun i j d e _ h => by simp [noDev] at h, fun r h => by cases h⟩⟩⟩
theorem Devs.below {w0 W W' : World} {D : Nat → Option DSt} {R : List Kept3} (h : Devs w0 W D R) (hf : Below W.heap.size W W') : Devs w0 W' D R := by
  obtain ⟨hb, S, N, hd, ha, hr⟩ := h
  exact ⟨hb.trans (hf.mono hb.size), S, N, fun i d hi => ⟨(hd i d hi).1, (hd i d hi).2.1.below hf, (hd i d hi).2.2⟩, ha, fun r h => ⟨(hr r h).1.same (hf.block _ (hr r h).1.lt), (hr r h).2⟩⟩
theorem Fr.to_below {w w' : World} (h : Fr (fun _ => False) w w') : Below w.heap.size w w' := ⟨h.os, h.tape, h.output, h.size, fun k hk => h.block k hk (fun h => h)⟩
theorem Dev.slt' {TD TW : Nat} {w : World} {S N : Nat → Prop} {p : Nat} {B : List Int} {L : List (Int × List Int)} (h : Dev TD TW w S N p B L) : (∀ k, S k → k < w.heap.size) ∧ (∀ k, N k → k < w.heap.size) ∧ (∀ k, S k → ¬ N k) := by
  obtain ⟨gb, cb, vl, h⟩ := h
  exact ⟨h.slt, h.nlt, h.ns⟩
/-- A call turns one of them. -/
theorem Devs.turn1 {w0 W W' : World} {D : Nat → Option DSt} {R : List Kept3} {i : Nat} {d : DSt} {B' : List Int} {L' : List (Int × List Int)} (hb : Below w0.heap.size w0 W) (hi : D i = some d)
    (ht : ∃ S N : Nat → Nat → Prop, (∀ i d, D i = some d → d.Ok ∧ DevP W (S i) (N i) d.p d.B d.L ∧ (∀ k, S i k → w0.heap.size ≤ k)) ∧ (∀ i j d e, i ≠ j → D i = some d → D j = some e → ∀ k, S i k → ¬ S j k ∧ ¬ N j k) ∧ (∀ r ∈ R, OwnBy W r.1 r.2.1 r.2.2 ∧ ∀ i d, D i = some d → ¬ S i r.1) ∧ DevTo 76 82 W W' (S i) (N i) d.p B' L') (hok : (DSt.mk d.p d.n B' L').Ok) : Devs w0 W' (upd D i ⟨d.p, d.n, B', L'⟩) R := by
  obtain ⟨S, N, hd, ha, hrr, S', N', h1, h2, h3, h4⟩ := ht
  obtain ⟨hok0, hdv, hs0⟩ := hd i d hi
  have hbs := hb.size
  refine ⟨⟨h2.os.trans hb.os, h2.tape.trans hb.tape, h2.output.trans hb.output, Nat.le_trans hb.size h2.size, fun k hk => (h2.block k (by omega) (fun hs => by have := hs0 k hs; omega)).trans (hb.block k hk)⟩,
    fun j => if j = i then S' else S j, fun j => if j = i then N' else N j, fun j e hj => ?_, fun j l e f hjl hj hl k hk => ?_, fun r hr => ?_⟩
  · by_cases hji : j = i
    · subst hji
      rw [upd_same] at hj
      obtain rfl := Option.some.inj hj
      simp only [if_pos]
      exact ⟨hok, h1, fun k hk => by
        rcases h3 k hk with hk | hk
        · exact hs0 k hk
        · omega⟩
    · rw [upd_other _ _ hji] at hj
      simp only [if_neg hji]
      obtain ⟨e1, e2, e3⟩ := hd j e hj
      exact ⟨e1, e2.keep h2 (fun k hk => ha i j d e (Ne.symm hji) hi hj k hk), e3⟩
  · by_cases hji : j = i
    · subst hji
      rw [upd_other _ _ (Ne.symm hjl)] at hl
      simp only [if_pos, if_neg (Ne.symm hjl)] at hk ⊢
      obtain ⟨l1, l2, l3⟩ := (hd l f hl).2.1.slt'
      rcases h3 k hk with hk | hk
      · exact ha j l d f hjl hi hl k hk
      · exact ⟨fun q => by have := l1 k q; omega, fun q => by have := l2 k q; omega⟩
    · rw [upd_other _ _ hji] at hj
      simp only [if_neg hji] at hk
      obtain ⟨j1, j2, j3⟩ := (hd j e hj).2.1.slt'
      have hkW := j1 k hk
      by_cases hli : l = i
      · subst hli
        simp only [if_pos]
        have := ha j l e d hji hj hi k hk
        exact ⟨fun q => (h3 k q).elim this.1 (fun q => by omega), fun q => (h4 k q).elim this.2 (fun q => by omega)⟩
      · rw [upd_other _ _ hli] at hl
        simp only [if_neg hli]
        exact ha j l e f hjl hj hl k hk
  · obtain ⟨r1, r2⟩ := hrr r hr
    refine ⟨r1.same (h2.block _ r1.lt (r2 i d hi)), fun j e hj => ?_⟩
    by_cases hji : j = i
    · subst hji
      simp only [if_pos]
      exact fun q => (h3 _ q).elim (r2 j d hi) (fun q => by have := r1.lt; omega)
    · rw [upd_other _ _ hji] at hj
      simp only [if_neg hji]
      exact r2 j e hj
/-- One more device. -/
theorem Devs.more {w0 W W' : World} {D : Nat → Option DSt} {R : List Kept3} {i : Nat} {d : DSt} {S N : Nat → Nat → Prop} (hb : Below w0.heap.size w0 W) (hd : ∀ i d, D i = some d → d.Ok ∧ DevP W (S i) (N i) d.p d.B d.L ∧ (∀ k, S i k → w0.heap.size ≤ k))
    (ha : ∀ i j d e, i ≠ j → D i = some d → D j = some e → ∀ k, S i k → ¬ S j k ∧ ¬ N j k) (hrr : ∀ r ∈ R, OwnBy W r.1 r.2.1 r.2.2 ∧ ∀ i d, D i = some d → ¬ S i r.1) (hi : D i = none) {N0 : Nat → Prop} (hN0 : ∀ j e, D j = some e → ∀ k, S j k → ¬ N0 k)
    (ht : DevNew 76 82 W W' N0 d.p d.B d.L) (hok : d.Ok) : Devs w0 W' (upd D i d) R := by
  obtain ⟨S', N', h1, h2, h3, h4⟩ := ht
  have hbs := hb.size
  refine ⟨hb.trans (h2.to_below.mono hb.size), fun j => if j = i then S' else S j, fun j => if j = i then N' else N j, fun j e hj => ?_, fun j l e f hjl hj hl k hk => ?_, fun r hr => ?_⟩
  · by_cases hji : j = i
    · subst hji
      rw [upd_same] at hj
      obtain rfl := Option.some.inj hj
      simp only [if_pos]
      exact ⟨hok, h1, fun k hk => by have := h3 k hk; omega⟩
    · rw [upd_other _ _ hji] at hj
      simp only [if_neg hji]
      obtain ⟨e1, e2, e3⟩ := hd j e hj
      exact ⟨e1, e2.below h2.to_below, e3⟩
  · by_cases hji : j = i
    · subst hji
      rw [upd_other _ _ (Ne.symm hjl)] at hl
      simp only [if_pos, if_neg (Ne.symm hjl)] at hk ⊢
      obtain ⟨l1, l2, l3⟩ := (hd l f hl).2.1.slt'
      have := h3 k hk
      exact ⟨fun q => by have := l1 k q; omega, fun q => by have := l2 k q; omega⟩
    · rw [upd_other _ _ hji] at hj
      simp only [if_neg hji] at hk
      obtain ⟨j1, j2, j3⟩ := (hd j e hj).2.1.slt'
      have hkW := j1 k hk
      by_cases hli : l = i
      · subst hli
        simp only [if_pos]
        exact ⟨fun q => by have := h3 k q; omega, fun q => (h4 k q).elim (hN0 j e hj k hk) (fun q => by omega)⟩
      · rw [upd_other _ _ hli] at hl
        simp only [if_neg hli]
        exact ha j l e f hjl hj hl k hk
  · obtain ⟨r1, r2⟩ := hrr r hr
    refine ⟨r1.same (h2.to_below.block _ r1.lt), fun j e hj => ?_⟩
    by_cases hji : j = i
    · subst hji
      simp only [if_pos]
      exact fun q => by have := r1.lt; have := h3 _ q; omega
    · rw [upd_other _ _ hji] at hj
      simp only [if_neg hji]
      exact r2 j e hj
/-- A row that is new is kept. -/
theorem Devs.row {w0 W W' : World} {D : Nat → Option DSt} {R : List Kept3} (h : Devs w0 W D R) (hf : Below W.heap.size W W') {g cap : Nat} {bs : List Int} (hO : OwnBy W' g cap bs) (hg : W.heap.size ≤ g) : Devs w0 W' D ((g, cap, bs) :: R) := by
  obtain ⟨hb, S, N, hd, ha, hrr⟩ := h
  refine ⟨hb.trans (hf.mono hb.size), S, N, fun i d hi => ⟨(hd i d hi).1, (hd i d hi).2.1.below hf, (hd i d hi).2.2⟩, ha, fun r h => ?_⟩
  rcases List.mem_cons.1 h with rfl | h
  · exact ⟨hO, fun i d hi q => by have := (hd i d hi).2.1.slt'.1 _ q; omega⟩
  · exact ⟨(hrr r h).1.same (hf.block _ (hrr r h).1.lt), (hrr r h).2⟩
theorem Devs.kept {w0 W : World} {D : Nat → Option DSt} {R : List Kept3} (h : Devs w0 W D R) {g cap : Nat} {bs : List Int} (hr : (g, cap, bs) ∈ R) : OwnBy W g cap bs := by
  obtain ⟨hb, S, N, hd, ha, hrr⟩ := h
  exact (hrr _ hr).1
/-- Such a row, as a string. -/
theorem OwnBy.str {w : World} {g cap : Nat} {bs : List Int} (h : OwnBy w g cap bs) : (convert 22 9 (.slice (some ⟨g, 0, none⟩) bs.length cap)).run Try.prog w = .ok (.string (strOfNums bs)) w :=
  Kd.C_string Try.underlying22 Try.underlying5 Try.underlying9 h.reads
theorem full_val (c : Int) : norialaw12_Full.f 65 c = some (List.replicate 64 c) := by kernel_rfl
theorem full_ok {W : World} (c : Int) : Calls Try.prog 25 #[.int .u8 c] W fun e w' => ∃ g cap, e = .returned (.slice (some ⟨g, 0, none⟩) 64 cap) ∧ W.heap.size ≤ g ∧ 64 ≤ cap ∧ OwnBy w' g cap (List.replicate 64 c) ∧ Below W.heap.size W w' := by
  refine (norialaw12_Full.calls 65 c _ W (full_val c)).mono ?_
  rintro e w' ⟨v, rfl, hR, hB⟩
  obtain ⟨g, cap, rfl, h1, h2, h3⟩ := own_form hR (by simp)
  rw [List.length_replicate] at *
  exact ⟨g, cap, rfl, h1, h2, h3, hB⟩
theorem Devs.new {w0 W : World} {D : Nat → Option DSt} {R : List Kept3} (h : Devs w0 W D R) (i : Nat) (hi : D i = none) {n : Nat} (h4 : 4 ≤ n) (hm : n ≤ 1024) :
    Calls Try.prog 16 #[.int .i64 n] W fun e w' => ∃ p, e = .returned (.tuple #[.pointer (some ⟨p, 0, none⟩), .int .i64 0]) ∧ Devs w0 w' (upd D i ⟨p, n, List.replicate (n * 64) 0, []⟩) R := by
  obtain ⟨hb, S, N, hd, ha, hrr⟩ := h
  refine (dev_new h4 hm).mono ?_
  rintro e w' ⟨p, rfl, hN⟩
  exact ⟨p, rfl, Devs.more (d := ⟨p, n, _, _⟩) hb hd ha hrr hi (fun _ _ _ _ _ h => h) hN ⟨List.length_replicate, h4, hm, fun x hx => by cases hx⟩⟩
theorem Devs.waits {w0 W : World} {D : Nat → Option DSt} {R : List Kept3} (h : Devs w0 W D R) {i : Nat} {d : DSt} (hi : D i = some d) :
    Calls Try.prog 23 #[.pointer (some ⟨d.p, 0, none⟩)] W fun e w' => e = .returned (.int .i64 d.L.length) ∧ W = w' := by
  obtain ⟨hb, S, N, hd, ha, hrr⟩ := h
  exact dev_waits (hd i d hi).2.1
theorem Devs.blocks {w0 W : World} {D : Nat → Option DSt} {R : List Kept3} (h : Devs w0 W D R) {i : Nat} {d : DSt} (hi : D i = some d) :
    Calls Try.prog 40 #[.pointer (some ⟨d.p, 0, none⟩)] W fun e w' => e = .returned (.int .i64 d.n) ∧ W = w' := by
  obtain ⟨hb, S, N, hd, ha, hrr⟩ := h
  exact dev_blocks (hd i d hi).2.1 (hd i d hi).1.len (hd i d hi).1.nm
theorem Devs.read {w0 W : World} {D : Nat → Option DSt} {R : List Kept3} (h : Devs w0 W D R) {i : Nat} {d : DSt} (hi : D i = some d) (hl : d.L.length < 4294967296) {j : Int} (h0 : 0 ≤ j) (hj : j < d.n) :
    Calls Try.prog 42 #[.pointer (some ⟨d.p, 0, none⟩), .int .i64 j] W fun e w' =>
      ∃ g cap, e = .returned (.tuple #[.slice (some ⟨g, 0, none⟩) 64 cap, .int .i64 0]) ∧ W.heap.size ≤ g ∧ 64 ≤ cap ∧ OwnBy w' g cap (rblk d.B d.L j) ∧ Below W.heap.size W w' := by
  obtain ⟨hb, S, N, hd, ha, hrr⟩ := h
  obtain ⟨ok, dv, _⟩ := hd i d hi
  exact dev_read dv ok.len ok.nm hl (fun x hx => (ok.wait x hx).2.2) h0 hj
theorem Devs.read_bad {w0 W : World} {D : Nat → Option DSt} {R : List Kept3} (h : Devs w0 W D R) {i : Nat} {d : DSt} (hi : D i = some d) {j : Int} (hj : ¬ (0 ≤ j ∧ j < d.n)) :
    Calls Try.prog 42 #[.pointer (some ⟨d.p, 0, none⟩), .int .i64 j] W fun e w' =>
      e = .returned (.tuple #[.slice none 0 0, .int .i64 1]) ∧ Below W.heap.size W w' := by
  obtain ⟨hb, S, N, hd, ha, hrr⟩ := h
  obtain ⟨ok, dv, _⟩ := hd i d hi
  exact dev_read_bad dv ok.len ok.nm hj
theorem Devs.write {w0 W : World} {D : Nat → Option DSt} {R : List Kept3} (h : Devs w0 W D R) {i : Nat} {d : DSt} (hi : D i = some d) (hl : d.L.length < 4294967296) {j : Int} (h0 : 0 ≤ j) (hj : j < d.n) {A : Option Addr} {c : Nat} {bs : List Int} (hr : Kd.C (Kd.int .u8) W A bs.length bs) (hc : bs.length ≤ c) (h64 : bs.length = 64) :
    Calls Try.prog 41 #[.pointer (some ⟨d.p, 0, none⟩), .int .i64 j, .slice A bs.length c] W fun e w' =>
      e = .returned (.int .i64 0) ∧ Devs w0 w' (upd D i ⟨d.p, d.n, d.B, d.L ++ [(j, bs)]⟩) R := by
  have h' := h
  obtain ⟨hb, S, N, hd, ha, hrr⟩ := h
  obtain ⟨ok, dv, hs⟩ := hd i d hi
  have ok' : (DSt.mk d.p d.n d.B (d.L ++ [(j, bs)])).Ok := ⟨ok.len, ok.n4, ok.nm, fun x hx => by
    rcases List.mem_append.1 hx with hx | hx
    · exact ok.wait x hx
    · obtain rfl : x = (j, bs) := by simpa using hx
      exact ⟨h0, hj, h64⟩⟩
  refine (dev_write dv ok.len ok.nm hl h0 hj hr hc h64).mono ?_
  rintro e w' ⟨rfl, ht⟩
  exact ⟨rfl, Devs.turn1 hb hi ⟨S, N, hd, ha, hrr, ht⟩ ok'⟩
theorem Devs.write_bad {w0 W : World} {D : Nat → Option DSt} {R : List Kept3} (h : Devs w0 W D R) {i : Nat} {d : DSt} (hi : D i = some d) {j : Int} {A : Option Addr} {l c : Nat} (hl : l ≤ 9223372036854775807) (hb : ¬ (0 ≤ j ∧ j < d.n) ∨ l ≠ 64) :
    Calls Try.prog 41 #[.pointer (some ⟨d.p, 0, none⟩), .int .i64 j, .slice A l c] W fun e w' => e = .returned (.int .i64 1) ∧ W = w' := by
  obtain ⟨hb', S, N, hd, ha, hrr⟩ := h
  obtain ⟨ok, dv, _⟩ := hd i d hi
  exact dev_write_bad dv ok.len ok.nm hl hb
theorem Devs.sync {w0 W : World} {D : Nat → Option DSt} {R : List Kept3} (h : Devs w0 W D R) {i : Nat} {d : DSt} (hi : D i = some d) :
    Calls Try.prog 46 #[.pointer (some ⟨d.p, 0, none⟩)] W fun e w' =>
      e = .returned (.tuple #[]) ∧ Devs w0 w' (upd D i ⟨d.p, d.n, aft (fun _ => true) d.L d.B d.L.length, []⟩) R := by
  obtain ⟨hb, S, N, hd, ha, hrr⟩ := h
  obtain ⟨ok, dv, hs⟩ := hd i d hi
  refine (dev_sync dv ok.len ok.nm ok.wait).mono ?_
  rintro e w' ⟨rfl, ht⟩
  exact ⟨rfl, Devs.turn1 hb hi ⟨S, N, hd, ha, hrr, ht⟩ ⟨aft_length ok.len ok.wait _, ok.n4, ok.nm, fun x hx => by cases hx⟩⟩
theorem Devs.twin {w0 W : World} {D : Nat → Option DSt} {R : List Kept3} (h : Devs w0 W D R) {i : Nat} {d : DSt} (hi : D i = some d) (hl : d.L.length < 4294967296) (j : Nat) (hj : D j = none) :
    Calls Try.prog 45 #[.pointer (some ⟨d.p, 0, none⟩)] W fun e w' => ∃ p2, e = .returned (.pointer (some ⟨p2, 0, none⟩)) ∧ Devs w0 w' (upd D j ⟨p2, d.n, d.B, d.L⟩) R := by
  obtain ⟨hb, S, N, hd, ha, hrr⟩ := h
  obtain ⟨ok, dv, hs⟩ := hd i d hi
  refine (dev_twin dv ok.len ok.n4 ok.nm hl).mono ?_
  rintro e w' ⟨p2, rfl, hN⟩
  refine ⟨p2, rfl, Devs.more (d := ⟨p2, d.n, d.B, d.L⟩) hb hd ha hrr hj (fun l f hl k hk => ?_) hN ⟨ok.len, ok.n4, ok.nm, ok.wait⟩⟩
  by_cases e : l = i
  · subst e
    exact dv.slt'.2.2 k hk
  · exact (ha l i f d e hl hi k hk).2
theorem Devs.bytes {w0 W : World} {D : Nat → Option DSt} {R : List Kept3} (h : Devs w0 W D R) {i : Nat} {d : DSt} (hi : D i = some d) (hl : d.L.length < 4294967296) :
    Calls Try.prog 21 #[.pointer (some ⟨d.p, 0, none⟩)] W fun e w' =>
      ∃ g cap, e = .returned (.slice (some ⟨g, 0, none⟩) (aft (fun _ => true) d.L d.B d.L.length).length cap) ∧ (aft (fun _ => true) d.L d.B d.L.length).length ≤ cap ∧ W.heap.size ≤ g ∧ OwnBy w' g cap (aft (fun _ => true) d.L d.B d.L.length) ∧ Below W.heap.size W w' := by
  obtain ⟨hb, S, N, hd, ha, hrr⟩ := h
  obtain ⟨ok, dv, hs⟩ := hd i d hi
  refine (dev_bytes dv ok.len ok.n4 ok.nm hl ok.wait).mono ?_
  rintro e w' ⟨g, cap, h1, h2, h3, h4, h5⟩
  exact ⟨g, cap, h1, h2, h3, h4, h5.to_below⟩
end Go.Proofs.Ytpaiigonagiemaa.PAll
/- The steps of a region that draws its order of evaluation, one law a step (a region's text as a list, its operation read off by counting). -/
namespace Go.Proofs.Ytpaiigonagiemaa.PAll
open Go.Proofs.Ytpaiigonagiemaa.Help
def nthOp : List Oper → Nat → Option Oper
  | [], _ => none
  | o :: _, 0 => some o
  | _ :: l, n + 1 => nthOp l n
theorem nthOp_eq : ∀ (l : List Oper) (i : Nat), l.toArray[i]? = nthOp l i
  | [], i => by simp [nthOp]
  | o :: l, 0 => by simp [nthOp]
  | o :: l, n + 1 => by
    have := nthOp_eq l n
    simpa [nthOp] using this
section
variable {P : Program} {l : List Oper} {Q : Exit → Act → World → Prop} {md : Region.Mode} {S : World → Prop}
theorem held_take (i : Nat) {oi : Oper} {v : Value} {fuel : Nat} {listed : Array Bool} {a : Act} {w : World} (hi : nthOp l i = some oi)
    (hc : (Region.noSelect l.toArray && (Region.free md l.toArray listed i && (Region.ready md l.toArray listed).contains i)) = true)
    (hQ : ∀ c a w, Q (.panic c) (a.put oi.dst v) w → Q (.panic c) a w)
    (hw : Region.wanted oi (yielded l.toArray a.tmps) = true) (hy : ∀ w, S w → (execOp a.eval oi).run P w = .ok (.value v) w) (hS : S w)
    (h : wpAnyH P md l.toArray Q S fuel (listed.setIfInBounds i true) (a.put oi.dst v) w) : wpAnyH P md l.toArray Q S (fuel + 1) listed a w := by
  rw [Bool.and_eq_true, Bool.and_eq_true] at hc
  exact wpAnyH_take ((nthOp_eq l i).trans hi) hc.1 hc.2.1 hc.2.2 hQ (.inl ⟨hw, hy⟩) hS h
theorem held_step (i : Nat) {o : Oper} {fuel : Nat} {listed : Array Bool} {a : Act} {w : World} {rs : List Nat} (ho : nthOp l i = some o)
    (h : ∀ K' : Act → World → Prop, Shut (∀ a w, S w → (S w → wpAnyH P md l.toArray Q S fuel (listed.setIfInBounds i true) a w) → K' a w) → if Region.wanted o (yielded l.toArray a.tmps) = true then Oper.wp P o a w K' Q else K' (a.put o.dst undef) w)
    (hs : AllReadyH P md l.toArray Q S fuel listed a w rs) : AllReadyH P md l.toArray Q S fuel listed a w (i :: rs) :=
  AllReadyH.cons ((nthOp_eq l i).trans ho) h hs
end
end Go.Proofs.Ytpaiigonagiemaa.PAll
/- Rows of bytes and of bools that were there ahead of all devices: what is read of them later. -/
namespace Go.Proofs.Ytpaiigonagiemaa.PAll
open Go.Proofs.Ytpaiigonagiemaa.Help
open Go.RowKit Go.Proofs.YtpaiigonagiemaaW.PrintWords Go.Proofs.YtpaiigonagiemaaW.PrintLast Go.Proofs.YtpaiigonagiemaaW.PrintMore
set_option linter.unusedVariables false
set_option linter.unusedSimpArgs false
theorem at_byte {w : World} {A : Option Addr} {l : List Int} (h : Kd.C (Kd.int .u8) w A l.length l) {j : Nat} (hj : j < l.length) : ∃ ad, A = some ad ∧ w.cell? (ad.add j) = some (.int .u8 (l[j]'hj)) := by
  obtain ⟨ad, e, hc⟩ := reads_cells h (by omega)
  exact ⟨ad, e, hc j _ (by simp [List.getElem?_eq_getElem hj])⟩
theorem C_lt {w : World} {A : Option Addr} {l : List Int} (h : Kd.C (Kd.int .u8) w A l.length l) : ∀ a, A = some a → 0 < l.length → a.block < w.heap.size := fun a ha h0 => by
  obtain ⟨ad, e, hc⟩ := at_byte h h0
  rw [e] at ha
  obtain rfl := Option.some.inj ha
  exact World.block_lt_of_cell? w (ad.add 0) hc
theorem C_lt_bool {w : World} {A : Option Addr} {l : List Bool} (h : Kd.C Kd.bool w A l.length l) : ∀ a, A = some a → 0 < l.length → a.block < w.heap.size := fun a ha h0 => by
  obtain ⟨ad, e, hc⟩ := at_flag h h0
  rw [e] at ha
  obtain rfl := Option.some.inj ha
  exact World.block_lt_of_cell? w (ad.add 0) hc
/-- A byte of a row that lay ahead stays. -/
theorem at_byte_later {w : World} {A : Option Addr} {l : List Int} (h : Kd.C (Kd.int .u8) w A l.length l) {j : Nat} (hj : j < l.length) :
    ∃ ad, A = some ad ∧ ∀ w', Below w.heap.size w w' → w'.cell? (ad.add j) = some (.int .u8 (l[j]'hj)) := by
  obtain ⟨ad, e, _⟩ := at_byte h hj
  refine ⟨ad, e, fun w' hB => ?_⟩
  obtain ⟨ad', e', hc⟩ := at_byte (C_same h (fun a ha => hB.block _ (C_lt h a ha (by omega)))) hj
  rw [e] at e'
  obtain rfl := Option.some.inj e'
  exact hc
theorem at_flag_later {w : World} {A : Option Addr} {l : List Bool} (h : Kd.C Kd.bool w A l.length l) {j : Nat} (hj : j < l.length) :
    ∃ ad, A = some ad ∧ ∀ w', Below w.heap.size w w' → w'.cell? (ad.add j) = some (.bool (l.getD j false)) := by
  obtain ⟨ad, e, _⟩ := at_flag h hj
  refine ⟨ad, e, fun w' hB => ?_⟩
  obtain ⟨ad', e', hc⟩ := at_flag (C_same_bool h (fun a ha => hB.block _ (C_lt_bool h a ha (by omega)))) hj
  rw [e] at e'
  obtain rfl := Option.some.inj e'
  exact hc
theorem C_later_bool {w w' : World} {A : Option Addr} {l : List Bool} (h : Kd.C Kd.bool w A l.length l) (hB : Below w.heap.size w w') : Kd.C Kd.bool w' A l.length l := by
  by_cases h0 : 0 < l.length
  · exact C_same_bool h (fun a ha => hB.block _ (C_lt_bool h a ha h0))
  · exact ⟨h.1, h.2.1, fun hn => absurd hn (by omega)⟩
end Go.Proofs.Ytpaiigonagiemaa.PAll
