/- The program's devices: Sync, Crash. -/
import Derived.Test.YtkpfhlfbhceebaaDProg1
import Derived.Laws.CopyOwn
namespace Go.Proofs.Ytkpfhlfbhceebaa.PAll
open Go.Proofs.Ytkpfhlfbhceebaa.Help
open Go.RowKit Go.Proofs.YtkpfhlfbhceebaaW.PrintWords Go.Proofs.YtkpfhlfbhceebaaW.PrintLast Go.Proofs.YtkpfhlfbhceebaaW.PrintMore
set_option linter.unusedVariables false
set_option linter.unusedSimpArgs false
/-- A block is written. -/
def dput (B : List Int) (x : Int × List Int) : List Int := B.take (x.1.toNat * 64) ++ (x.2 ++ B.drop (x.1.toNat * 64 + 64))
/-- What is written behind the first k that wait, of which c tells whether. -/
def aft (c : Nat → Bool) (L : List (Int × List Int)) (B : List Int) : Nat → List Int
  | 0 => B
  | k + 1 => match L[k]? with
    | some x => if c k then dput (aft c L B k) x else aft c L B k
    | none => aft c L B k
theorem dput_length {B : List Int} {x : Int × List Int} {n : Nat} (hn : B.length = n * 64) (h0 : 0 ≤ x.1) (h1 : x.1 < n) (h2 : x.2.length = 64) : (dput B x).length = B.length := by
  simp [dput]; omega
/-- What waits is for blocks that there are. -/
def Waits (n : Nat) (L : List (Int × List Int)) : Prop := ∀ x ∈ L, 0 ≤ x.1 ∧ x.1 < n ∧ x.2.length = 64
theorem aft_length {c : Nat → Bool} {L : List (Int × List Int)} {B : List Int} {n : Nat} (hn : B.length = n * 64) (hw : Waits n L) (k : Nat) : (aft c L B k).length = n * 64 := by
  induction k with
  | zero => exact hn
  | succ k ih =>
    unfold aft
    cases hx : L[k]? with
    | none => exact ih
    | some x =>
      obtain ⟨h0, h1, h2⟩ := hw x (List.mem_of_getElem? hx)
      simp only
      split
      · rw [dput_length ih h0 h1 h2]; exact ih
      · exact ih
theorem step_copy_row {P : Program} {ops : Array Oper} {o : Oper} {a : Act} {w : World} {K : Act → World → Prop} {Q : Exit → Act → World → Prop} {E : Prop} (hgd : o.guard = none) (d s : Operand) (dT sT : TypeId)
    (ho : o.op = .call { callee := .builtin .copy, args := #[d, s], argTypes := #[dT, sT] }) (elem : TypeId) (hu : P.underlying dT = some (.slice elem)) (hsz : (P.info? elem).map (·.size) = some 1)
    (g off dLen dCap : Nat) (ad : Addr) (sLen sCap : Nat) (hd : a.eval d = .slice (some ⟨g, off, none⟩) dLen dCap) (hs : a.eval s = .slice (some ad) sLen sCap)
    (cur : Array Value) (t : TypeId) (hg : w.heap[g]? = some (.cells cur t (0, 0))) (cs : List Value) (hn : cs.length = Nat.min sLen dLen)
    (hsrc : ∀ j v, cs[j]? = some v → w.cell? (ad.add j) = some v) (hfit : off + cs.length ≤ cur.size) (h1 : ∀ v ∈ cs, v.oneCell' = true)
    (h : K (a.put o.dst (goInt cs.length)) (w.setRow g (cur.toList.take off ++ (cs ++ cur.toList.drop (off + cs.length))).toArray)) :
    if Region.wanted o (yielded ops a.tmps) = true then Oper.wp P o a w K Q else E := by
  have hw : Region.wanted o (yielded ops a.tmps) = true := by simp [Region.wanted, hgd]
  rw [if_pos hw]
  have hrun := run_copy_row (P := P) w dT sT o.type elem g off dLen dCap ad sLen sCap cur t cs hu hsz hg hn hsrc hfit h1
  unfold Oper.wp
  simp [execOp, ho, resolve, invoke, builtin, hd, hs, hrun, Result.andThen]
  exact h
theorem DevAt.copied {TD TW : Nat} {w : World} {S N : Nat → Prop} {p gb cb n : Nat} {vl : Value} {B : List Int} {L : List (Int × List Int)} {x : Int × List Int} {cur : Array Value} (h : DevAt TD TW w S N p gb cb vl B L) (hne : TW ≠ 5) (hnd : TD ≠ 5) (hn : B.length = n * 64) (h0 : 0 ≤ x.1) (h1 : x.1 < n) (h2 : x.2.length = 64)
    (hcur : w.heap[gb]? = some (.cells cur 5 (0, 0))) (hcs : cur.size = cb) (hle : B.length ≤ cb) (hcm : cb ≤ maxLen) (htk : cur.toList.take B.length = B.map (Value.int .u8)) :
    DevAt TD TW (w.setRow gb (cur.toList.take (x.1.toNat * 64) ++ (x.2.map (Value.int .u8) ++ cur.toList.drop (x.1.toNat * 64 + 64))).toArray) S N p gb cb vl (dput B x) L ∧
      Fr S w (w.setRow gb (cur.toList.take (x.1.toNat * 64) ++ (x.2.map (Value.int .u8) ++ cur.toList.drop (x.1.toNat * 64 + 64))).toArray) := by
  have hlen := dput_length hn h0 h1 h2
  have hoth : ∀ k (c : Array Value), k ≠ gb → (w.setRow gb c).heap[k]? = w.heap[k]? := fun k c hk => setRow_other w gb k c hk
  have hpb : p ≠ gb := fun e => by
    have hc := h.cell
    rw [e, hcur] at hc
    injection hc with hc; injection hc with _ hc _
    exact hnd hc.symm
  have hlb : ∀ k, vl.ownBlock = some k → k ≠ gb := fun k hk e => by
    obtain ⟨_, cs, hc⟩ := OwnRow_lt h.row hk
    rw [e, hcur] at hc
    injection hc with hc; injection hc with _ hc _
    exact hne hc.symm
  have hnb : ∀ k, N k → k ≠ gb := fun k hk e => h.ns gb h.sb (e ▸ hk)
  constructor
  · refine ⟨?_, ?_, OwnRow_same h.row (fun k hk => hoth k _ (hlb k hk)) (fun y c hy => hy.same (fun k hk => hoth k _ (hnb k hk)) (fun _ h => h)), h.sp, h.sb, h.sl, h.ns, fun k hk => ?_, fun k hk => ?_⟩
    · rw [hlen, hoth p _ hpb]; exact h.cell
    · refine ⟨_, setRow_heap w gb _ _ 5 _ hcur, ?_, by rw [hlen]; exact hle, hcm, ?_⟩
      · simp [h2]; omega
      · rw [hlen]
        obtain ⟨R, hR⟩ : ∃ R, cur.toList = B.map (Value.int .u8) ++ R := ⟨cur.toList.drop B.length, by rw [← htk, List.take_append_drop]⟩
        have ho : x.1.toNat * 64 + 64 ≤ (B.map (Value.int .u8)).length := by rw [List.length_map]; omega
        have e1 : (B.map (Value.int .u8) ++ R).take (x.1.toNat * 64) = (B.map (Value.int .u8)).take (x.1.toNat * 64) := List.take_append_of_le_length (by omega)
        have e2 : (B.map (Value.int .u8) ++ R).drop (x.1.toNat * 64 + 64) = (B.map (Value.int .u8)).drop (x.1.toNat * 64 + 64) ++ R := List.drop_append_of_le_length ho
        rw [hR, e1, e2]
        simp only [dput, List.map_append, List.map_take, List.map_drop]
        rw [← List.append_assoc, ← List.append_assoc, ← List.append_assoc]
        exact List.take_left' (by simp [h2] at ho ⊢; omega)
    · have := h.slt k hk; simpa [World.setRow] using this
    · have := h.nlt k hk; simpa [World.setRow] using this
  · exact ⟨rfl, rfl, rfl, by simp [World.setRow], fun k hk hs => hoth k _ (fun e => hs (e ▸ h.sb))⟩
theorem sizeB : (Try.prog.info? 5).map (·.size) = some 1 := by kernel_rfl
theorem reads_cells {w : World} {A : Option Addr} {bs : List Int} (h : Kd.C (Kd.int .u8) w A bs.length bs) (h0 : 0 < bs.length) : ∃ ad, A = some ad ∧ ∀ j v, (bs.map (Value.int .u8))[j]? = some v → w.cell? (ad.add j) = some v := by
  obtain ⟨ad, e, hc⟩ := h.2.2 h0
  refine ⟨ad, e, fun j v hj => ?_⟩
  rw [List.getElem?_map] at hj
  obtain ⟨p, hp, rfl⟩ := Option.map_eq_some_iff.1 hj
  obtain ⟨c, hl, hp2, hcell⟩ := hc j p hp
  have hp2 : c = [Value.int .u8 p] := hp2
  subst hp2
  have := hcell 0 (.int .u8 p) rfl
  simpa [show (Kd.int .u8).sz = 1 from rfl] using this
/-- A block is written: copy. -/
theorem step_dev_copy {TD TW : Nat} {P : Program} {ops : Array Oper} {o : Oper} {a : Act} {w : World} {K : Act → World → Prop} {Q : Exit → Act → World → Prop} {E : Prop} {S N : Nat → Prop} {p gb cb n : Nat} {vl : Value} {B : List Int} {L : List (Int × List Int)} {x : Int × List Int}
    (h : DevAt TD TW w S N p gb cb vl B L) (hne : TW ≠ 5) (hnd : TD ≠ 5) (hn : B.length = n * 64) (h0 : 0 ≤ x.1) (h1 : x.1 < n) (h2 : x.2.length = 64) {A' : Option Addr} (hr : Kd.C (Kd.int .u8) w A' x.2.length x.2)
    (hgd : o.guard = none) (d s : Operand) (dT sT : TypeId)
    (ho : o.op = .call { callee := .builtin .copy, args := #[d, s], argTypes := #[dT, sT] }) (hu : P.underlying dT = some (.slice 5)) (hsz : (P.info? 5).map (·.size) = some 1) (off dLen dCap sCap : Nat) (hoff : off = x.1.toNat * 64) (hdl : 64 ≤ dLen)
    (hd : a.eval d = .slice (some ⟨gb, off, none⟩) dLen dCap) (hs : a.eval s = .slice A' 64 sCap)
    (hK : ∀ w' : World, DevAt TD TW w' S N p gb cb vl (dput B x) L → Fr S w w' → K (a.put o.dst (goInt 64)) w') :
    if Region.wanted o (yielded ops a.tmps) = true then Oper.wp P o a w K Q else E := by
  obtain ⟨cur, hcur, hcs, hle, hcm, htk⟩ := h.own
  obtain ⟨ad, rfl, hsrc⟩ := reads_cells hr (by omega)
  obtain ⟨q1, q2⟩ := h.copied hne hnd hn h0 h1 h2 hcur hcs hle hcm htk
  have hl : (x.2.map (Value.int .u8)).length = 64 := by rw [List.length_map, h2]
  refine step_copy_row hgd d s dT sT ho 5 hu hsz gb off dLen dCap ad 64 sCap hd hs cur 5 hcur (x.2.map (Value.int .u8)) (by rw [hl]; exact (Nat.min_eq_left hdl).symm) hsrc (by rw [hl]; omega) (by simp [Value.oneCell']) ?_
  rw [hl, hoff]
  exact hK _ q1 q2
theorem wrapI {x : Int} (h1 : -9223372036854775808 ≤ x) (h2 : x ≤ 9223372036854775807) : IntKind.i64.wrap x = x := by
  simp only [IntKind.wrap, IntKind.signed, IntKind.bits]
  simp
  omega
theorem DevAt.cleared {TD TW : Nat} {w : World} {S N : Nat → Prop} {p gb cb : Nat} {vl : Value} {B : List Int} {L : List (Int × List Int)} (h : DevAt TD TW w S N p gb cb vl B L) (hnd : TD ≠ 5) (hne : TW ≠ TD) :
    Dev TD TW (w.setCell ⟨p, 1, none⟩ (.slice none 0 0)) S N p B [] ∧ Fr S w (w.setCell ⟨p, 1, none⟩ (.slice none 0 0)) := by
  have hpb : gb ≠ p := fun e => by
    obtain ⟨cur, hcur, _⟩ := h.own
    have hc := h.cell
    rw [← e, hcur] at hc
    injection hc with hc; injection hc with _ hc _
    exact hnd hc.symm
  exact ⟨⟨gb, cb, .slice none 0 0, blk_put h.cell 1 _ rfl, h.own.same (Below.heap_setCell w _ _ gb hpb), OwnRow.none_ _ _ _ _ _, h.sp, h.sb, fun k hk => by simp [Value.ownBlock] at hk, h.ns, fun k hk => by have := h.slt k hk; simpa using this, fun k hk => by have := h.nlt k hk; simpa using this⟩, Fr.set (S := S) (p := ⟨p, 1, none⟩) h.sp _⟩
theorem dev_sync {w : World} {S N : Nat → Prop} {p : Nat} {B : List Int} {L : List (Int × List Int)} (h : Dev 62 65 w S N p B L) {n : Nat} (hn : B.length = n * 64) (hm : n ≤ 1024) (hw : Waits n L) :
    Calls Try.prog 13 #[.pointer (some ⟨p, 0, none⟩)] w fun e w' =>
      e = .returned (.tuple #[]) ∧ DevTo 62 65 w w' S N p (aft (fun _ => true) L B L.length) [] := by
  obtain ⟨gb, cb, vl, h⟩ := h
  obtain ⟨A, c, rfl, hc, hL⟩ := h.lenL
  have h1 := cell_of_blk h.cell (j := 1) rfl
  have H := Aside0.mk h
  have HN := Aside0.mk hn
  have HW := Aside0.mk hw
  have HC := Aside0.mk hc
  clear h hn hw hc
  go_enter Try.func13, Try.ntmps13
  go_wp2
  go_loopg [9] L.length (fun gg s9 wr => ∃ kk : Nat, kk ≤ L.length ∧ L.length - kk ≤ gg ∧ s9 = .int .i64 kk ∧ Aside0 (DevAt 62 65 wr S N p gb cb (.slice A L.length c) (aft (fun _ => true) L B kk) L) ∧ Aside0 (Fr S w wr))
  case atStart => exact ⟨0, Nat.zero_le _, by omega, rfl, H, ⟨Fr.refl S w⟩⟩
  case round =>
    obtain ⟨kk, hkk, hg, rfl, D, F⟩ := hrel
    have hp0 := cell_of_blk D.out.cell (j := 0) rfl
    have hp1 := cell_of_blk D.out.cell (j := 1) rfl
    have hfz := blk_frozen D.out.cell 1
    have hps := D.out.slt p D.out.sp
    rw [aft_length HN.out HW.out] at hp0
    by_cases hlt : kk < L.length
    · obtain ⟨g, A', c', rfl, hgS, hc0, hc1, hle, hC, hN⟩ := D.out.item hlt
      have HX := Aside0.mk (List.getElem?_eq_getElem hlt)
      have hxw := HW.out _ (List.getElem_mem hlt)
      generalize L[kk]'hlt = x at *
      obtain ⟨x1, x2⟩ := x
      simp only at hc0 hc1 hle hC hxw
      obtain ⟨hx0, hx1, hx2⟩ := hxw
      obtain ⟨q, rfl⟩ := Int.eq_ofNat_of_zero_le hx0
      have HC' := Aside0.mk hC
      have HX2 := Aside0.mk hx2
      have HX1 := Aside0.mk hx1
      have HX0 := Aside0.mk hx0
      have hgs := D.out.slt g hgS
      rw [hx2] at hc1 hle
      have HN' := Aside0.mk hN
      clear hC hN hx2 hx0
      have hq : q < n := by omega
      clear hx1
      go_wp2
      obtain ⟨w3, hw3⟩ : ∃ w3, w3 = wr.alloc (.cells #[.int .i64 q, .slice A' 64 c'] 65) := ⟨_, rfl⟩
      have hd3 : Aside0 (DevAt 62 65 w3 S N p gb cb (.slice (some ⟨g, 0, none⟩) L.length c) (aft (fun _ => true) L B kk) L) := ⟨by
        rw [hw3]; exact D.out.keep (by simp) (fun k hk => Below.heap_alloc wr _ k (by rcases hk with hk | hk; exact D.out.slt k hk; exact D.out.nlt k hk))⟩
      have hb3 : ∀ k, k < wr.heap.size → w3.heap[k]? = wr.heap[k]? := fun k hk => by rw [hw3]; exact Below.heap_alloc wr _ k hk
      have hd4 : Aside0 (DevAt 62 65 w3.drew S N p gb cb (.slice (some ⟨g, 0, none⟩) L.length c) (aft (fun _ => true) L B kk) L) := ⟨hd3.out.keep (Nat.le_refl _) (fun _ _ => rfl)⟩
      have hC4 : Aside0 (Kd.C (Kd.int .u8) w3.drew A' x2.length x2) := ⟨C_same HC'.out (fun a ha => hb3 _ (D.out.nlt _ (HN'.out a ha)))⟩
      have hf4 : Aside0 (Fr S wr w3.drew) := ⟨by rw [hw3]; exact (Fr.alloc (S := S) wr _).trans (Fr.drew (S := S) 1) (fun _ _ h => h)⟩
      have hn3 : w3.heap[wr.heap.size]? = some (.cells #[.int .i64 q, .slice A' 64 c'] 65 (0, 0)) := by rw [hw3]; exact new_blk _ _
      have hcq := cell_of_blk hn3 (j := 0) rfl
      have hcA := cell_of_blk hn3 (j := 1) rfl
      have hcp := cell_of_blk hd3.out.cell (j := 0) rfl
      rw [aft_length HN.out HW.out] at hcp
      have hcb : q * 64 ≤ n * 64 := by omega
      have hcl : n * 64 ≤ cb := by
        obtain ⟨cur, _, h1, h2, _⟩ := hd3.out.own
        rw [aft_length HN.out HW.out] at h2
        exact h2
      have hwr : IntKind.i64.wrap ((q : Int) * 64) = (q : Int) * 64 := wrapI (by omega) (by omega)
      have hq1 : (0 : Int) ≤ (q : Int) * 64 := by omega
      have hq2 : (q : Int) * 64 ≤ (n : Int) * 64 := by omega
      have hq3 : ((q : Int) * 64).toNat = q * 64 := by omega
      have hq4 : ¬ cb = q * 64 := by omega
      have hq5 : q ≤ n := by omega
      rw [← hw3]
      have hstep : aft (fun _ => true) L B (kk + 1) = dput (aft (fun _ => true) L B kk) ((q : Int), x2) := by simp [aft, HX.out]
      have HS := Aside0.mk hstep
      clear hstep
      have HW3 := Aside0.mk hw3
      clear hw3 hb3 hn3
      go_region_law (refine step_dev_copy (x := ((q : Int), x2)) hd4.out (by decide) (by decide) (aft_length HN.out HW.out kk) (Int.natCast_nonneg q) (by simp only; omega) HX2.out hC4.out rfl (.tmp 20) (.tmp 22) 31 31 rfl Try.underlying31 sizeB (q * 64) (n * 64 - q * 64) (cb - q * 64) c' rfl (by omega) rfl rfl ?_; intro w4 d4 f4; have D4 := Aside0.mk d4; have F4 := Aside0.mk f4; clear d4 f4)
      all_goals go_wp2
      all_goals go_roundg (L.length - (kk + 1))
      all_goals first
        | omega
        | exact ⟨kk + 1, by omega, by omega, by go_num, ⟨by rw [HS.out]; exact D4.out⟩, ⟨F.out.trans (hf4.out.trans F4.out (fun _ _ h => h)) (fun _ _ h => h)⟩⟩
    · have : kk = L.length := by omega
      subst this
      have hq := D.out.cleared (by decide) (by decide)
      have HQ := Aside0.mk hq
      clear hq
      go_wp2
      go_end0
      exact ⟨rfl, S, N, HQ.out.1, F.out.trans HQ.out.2 (fun _ _ h => h), fun k h => .inl h, fun k h => .inl h⟩
end Go.Proofs.Ytkpfhlfbhceebaa.PAll
