/- The program's devices: Read. -/
import Derived.Test.YtkpfhlfbhceebaaDRead1
import Derived.Test.YtkpfhlfbhceebaaDProg2
import Derived.Stop.RegionWithIn
namespace Go.Proofs.Ytkpfhlfbhceebaa.PAll
open Go.Proofs.Ytkpfhlfbhceebaa.Help
open Go.RowKit Go.Proofs.YtkpfhlfbhceebaaW.PrintWords Go.Proofs.YtkpfhlfbhceebaaW.PrintLast Go.Proofs.YtkpfhlfbhceebaaW.PrintMore
open Go.Shelf
attribute [local go_sem] Oper.semAt_some
set_option linter.unusedVariables false
set_option linter.unusedSimpArgs false
/-- What the last one of the first k that wait has written to block i. -/
def lastAt (L : List (Int × List Int)) (i : Int) : Nat → Option (List Int)
  | 0 => none
  | k + 1 => match L[k]? with
    | some x => if x.1 = i then some x.2 else lastAt L i k
    | none => lastAt L i k
/-- A block, read. -/
def rblk (B : List Int) (L : List (Int × List Int)) (i : Int) : List Int := (lastAt L i L.length).getD ((B.drop (i.toNat * 64)).take 64)
theorem lastAt_none {L : List (Int × List Int)} {i : Int} (k : Nat) (h : ∀ j x, j < k → L[j]? = some x → x.1 ≠ i) : lastAt L i k = none := by
  induction k with
  | zero => rfl
  | succ k ih =>
    have ih := ih (fun j x hj => h j x (by omega))
    unfold lastAt
    cases hx : L[k]? with
    | none => exact ih
    | some x => simp only; rw [if_neg (h k x (by omega) hx)]; exact ih
theorem lastAt_some {L : List (Int × List Int)} {i : Int} {j : Nat} {x : Int × List Int} (hx : L[j]? = some x) (hi : x.1 = i) (k : Nat) (hk : j < k) (h : ∀ j' x', j < j' → j' < k → L[j']? = some x' → x'.1 ≠ i) : lastAt L i k = some x.2 := by
  induction k with
  | zero => omega
  | succ k ih =>
    unfold lastAt
    by_cases e : j = k
    · subst e
      rw [hx]
      simp only
      rw [if_pos hi]
    · have ih := ih (by omega) (fun j' x' h1 h2 => h j' x' h1 (by omega))
      cases hx' : L[k]? with
      | none => exact ih
      | some x' => simp only; rw [if_neg (h k x' (by omega) (by omega) hx')]; exact ih
theorem DevAt.items {TD TW : Nat} {w : World} {S N : Nat → Prop} {p gb cb : Nat} {A : Option Addr} {cl : Nat} {B : List Int} {L : List (Int × List Int)} (h : DevAt TD TW w S N p gb cb (.slice A L.length cl) B L) :
    ∃ (g : Nat) (fA : Nat → Option Addr) (fc : Nat → Nat), (0 < L.length → A = some ⟨g, 0, none⟩ ∧ S g) ∧ ∀ j (hj : j < L.length), w.cell? ⟨g, j * 2, none⟩ = some (.int .i64 (L[j]'hj).1) ∧ w.cell? ⟨g, j * 2 + 1, none⟩ = some (.slice (fA j) (L[j]'hj).2.length (fc j)) ∧ (L[j]'hj).2.length ≤ fc j ∧ Kd.C (Kd.int .u8) w (fA j) (L[j]'hj).2.length (L[j]'hj).2 ∧ ∀ a, fA j = some a → N a.block := by
  rcases Nat.eq_zero_or_pos L.length with h0 | hp
  · exact ⟨0, fun _ => none, fun _ => 0, fun h => by omega, fun j hj => by omega⟩
  · obtain ⟨g, A', c', e, hS, _⟩ := h.item hp
    have key : ∀ j, ∃ (A' : Option Addr) (c' : Nat), ∀ hj : j < L.length, w.cell? ⟨g, j * 2, none⟩ = some (.int .i64 (L[j]'hj).1) ∧ w.cell? ⟨g, j * 2 + 1, none⟩ = some (.slice A' (L[j]'hj).2.length c') ∧ (L[j]'hj).2.length ≤ c' ∧ Kd.C (Kd.int .u8) w A' (L[j]'hj).2.length (L[j]'hj).2 ∧ ∀ a, A' = some a → N a.block := by
      intro j
      by_cases hj : j < L.length
      · obtain ⟨g', A', c', e', hS', r⟩ := h.item hj
        have : g' = g := by rw [e] at e'; injection e' with e'; injection e' with e'; exact e'.symm
        subst this
        exact ⟨A', c', fun _ => r⟩
      · exact ⟨none, 0, fun h => absurd h hj⟩
    exact ⟨g, fun j => (key j).choose, fun j => (key j).choose_spec.choose, fun _ => ⟨e, hS⟩, fun j hj => (key j).choose_spec.choose_spec hj⟩
theorem OwnBy.cut {w : World} {g cap : Nat} {B : List Int} (h : OwnBy w g cap B) {off m : Nat} (hm : off + m ≤ B.length) : Kd.C (Kd.int .u8) w (some ⟨g, off, none⟩) m ((B.drop off).take m) := by
  obtain ⟨cur, hh, hcs, hle, hcm, htk⟩ := h
  have hl : ((B.drop off).take m).length = m := by rw [List.length_take, List.length_drop]; omega
  refine ⟨hl, by unfold maxLen at hcm; omega, fun _ => ⟨_, rfl, fun j p hj => ⟨[.int .u8 p], rfl, rfl, fun i u hi => ?_⟩⟩⟩
  obtain ⟨rfl, rfl⟩ : i = 0 ∧ u = .int .u8 p := by
    cases i with
    | zero => simpa using hi.symm
    | succ i => simp at hi
  have hjl : j < m := by rw [← hl]; exact (List.getElem?_eq_some_iff.1 hj).1
  rw [List.getElem?_take, if_pos hjl, List.getElem?_drop] at hj
  have h1 : cur[off + j]? = some (.int .u8 p) := by
    have := congrArg (fun l => l[off + j]?) htk
    simp only [List.getElem?_take, List.getElem?_map, hj] at this
    rw [if_pos (by omega)] at this
    simpa using this
  show w.cell? ((⟨g, off, none⟩ : Addr).add (j * 1 + 0)) = _
  by_cases hj0 : j = 0
  · subst hj0
    simp only [Nat.add_zero] at h1
    simp [Addr.add, World.cell?, hh, h1]
  · simp [Addr.add, World.cell?, hh, h1, hj0]
set_option maxRecDepth 100000 in
set_option maxHeartbeats 4000000 in
theorem dev_read {w : World} {S N : Nat → Prop} {p : Nat} {B : List Int} {L : List (Int × List Int)} (h : Dev 62 65 w S N p B L) {n : Nat} (hn : B.length = n * 64) (hm : n ≤ 1024) (hl : L.length < 4294967296) (hw : ∀ x ∈ L, x.2.length = 64) {i : Int} (h0 : 0 ≤ i) (hi : i < n) :
    Calls Try.prog 19 #[.pointer (some ⟨p, 0, none⟩), .int .i64 i] w fun e w' =>
      ∃ g cap, e = .returned (.tuple #[.slice (some ⟨g, 0, none⟩) 64 cap, .int .i64 0]) ∧ w.heap.size ≤ g ∧ 64 ≤ cap ∧ OwnBy w' g cap (rblk B L i) ∧ Below w.heap.size w w' := by
  have hb := Aside0.mk (fun (W : World) (hB : Below w.heap.size w W) => dev_has (h.below hB) hn hm i)
  obtain ⟨gb, cb, vl, h⟩ := h
  obtain ⟨A1, c1, rfl, hc1, hL1⟩ := h.lenL
  obtain ⟨g, fA, fc, hg, hit⟩ := h.items
  have E0 := Aside0.mk (decide_eq_true (⟨h0, hi⟩ : 0 ≤ i ∧ i < (n : Int)))
  have cp0 := cell_of_blk h.cell (j := 0) rfl
  have cp1 := cell_of_blk h.cell (j := 1) rfl
  have hps := h.slt p h.sp
  have H := Aside0.mk h
  have HL := Aside0.mk hl
  have HW := Aside0.mk hw
  have HG := Aside0.mk hg
  have HI := Aside0.mk hit
  have HN := Aside0.mk hn
  clear h hl hw hg hit hn
  obtain ⟨W0, hW0⟩ : ∃ W0, W0 = ((w.alloc (.cells #[.int .i64 i] 3)).alloc (.cells #[.slice none 0 0] 31)).alloc (.cells #[.int .i64 0] 25) := ⟨_, rfl⟩
  have hB0 : Aside0 (Below w.heap.size w W0) := ⟨by rw [hW0]; exact (((Below.refl _ w).alloc (Nat.le_refl _) _).alloc (by simp) _).alloc (by simp; omega) _⟩
  have hs0 : W0.heap.size = w.heap.size + 3 := by rw [hW0]; simp
  have hW0' := Aside0.mk hW0
  refine (callsIn_wide (n := 5)).1 ?_
  refine callsIn_of_wp_marks Try.func19 rfl trivial ?_ rfl
  simp only [Try.ntmps19, List.size_toArray, List.length_cons, List.length_nil, Nat.reduceAdd, Nat.reduceSub, Array.replicate_succ, Array.replicate_zero, List.push_toArray, List.append_toArray, List.nil_append, List.cons_append]
  clear hW0
  have b3 : W0.heap[w.heap.size]? = some (.cells #[.int .i64 i] 3 (0, 0)) := by
    rw [hW0'.out, Below.heap_alloc _ _ _ (by simp; omega), Below.heap_alloc _ _ _ (by simp)]; exact new_blk _ _
  have b4 : W0.heap[w.heap.size + 1]? = some (.cells #[.slice none 0 0] 31 (0, 0)) := by
    rw [hW0'.out, Below.heap_alloc _ _ _ (by simp)]
    have := new_blk (w.alloc (.cells #[.int .i64 i] 3)) (.cells #[.slice none 0 0] 31)
    simpa using this
  have b5 : W0.heap[w.heap.size + 1 + 1]? = some (.cells #[.int .i64 0] 25 (0, 0)) := by
    rw [hW0'.out]
    have := new_blk ((w.alloc (.cells #[.int .i64 i] 3)).alloc (.cells #[.slice none 0 0] 31)) (.cells #[.int .i64 0] 25)
    simpa using this
  have cp0' : W0.cell? ⟨p, 0, none⟩ = some (.slice (some ⟨gb, 0, none⟩) B.length cb) := (hB0.out.cell (p := ⟨p, 0, none⟩) hps).trans cp0
  have cp1' : W0.cell? ⟨p, 1, none⟩ = some (.slice A1 L.length c1) := (hB0.out.cell (p := ⟨p, 1, none⟩) hps).trans cp1
  gi_wp2_with (first
    | (refine ⟨trivial, ?_⟩; gi_at_call 27; refine (callsIn_wide.2 (hb.out _ (by rw [hW0'.out] at hB0; exact hB0.out))).mono ?_; rintro e w' ⟨rfl, rfl⟩; rw [E0.out, ← hW0'.out])
    | (refine ⟨trivial, ?_⟩; gi_at_call 31; refine (callsIn_wide.2 back_mk).mono ?_; rintro e w' ⟨rfl, rfl⟩))
  obtain ⟨W1, hW1⟩ : ∃ W1, W1 = W0.alloc (.cells #[.slice A1 L.length c1] 60) := ⟨_, rfl⟩
  rw [← hW1]
  have hs1 : W1.heap.size = w.heap.size + 4 := by rw [hW1]; simp [hs0]
  have hB1 : Below w.heap.size w W1 := by rw [hW1]; exact hB0.out.alloc (by omega) _
  have bs : W1.heap[w.heap.size + 3]? = some (.cells #[.slice A1 L.length c1] 60 (0, 0)) := by rw [hW1, ← hs0]; exact new_blk _ _
  have b01 : ∀ k, k < W0.heap.size → W1.heap[k]? = W0.heap[k]? := fun k hk => by rw [hW1]; exact Below.heap_alloc W0 _ k hk
  have hrow : ∀ j (hj : j < L.length), W1.cell? ⟨g, j * 2, none⟩ = some (.int .i64 (L[j]'hj).1) ∧ W1.cell? ⟨g, j * 2 + 1, none⟩ = some (.slice (fA j) 64 (fc j)) := fun j hj => by
    obtain ⟨q1, q2, _⟩ := HI.out j hj
    have hgs := H.out.slt g (HG.out (by omega)).2
    rw [HW.out _ (List.getElem_mem hj)] at q2
    exact ⟨(hB1.cell (p := ⟨g, j * 2, none⟩) hgs).trans q1, (hB1.cell (p := ⟨g, j * 2 + 1, none⟩) hgs).trans q2⟩
  obtain ⟨fat, hfat⟩ : ∃ fat : Nat → Int, fat = fun j => if hj : j < L.length then (L[j]'hj).1 else -1 := ⟨_, rfl⟩
  have fat1 : Aside0 (∀ j (hj : j < L.length), fat j = (L[j]'hj).1) := ⟨fun j hj => by rw [hfat]; exact dif_pos hj⟩
  have fat2 : Aside0 (∀ j, ¬ j < L.length → fat j = -1) := ⟨fun j hj => by rw [hfat]; exact dif_neg hj⟩
  clear hfat
  refine wpIn_rangeFunc_ownH (F := Fence.wide) rfl (by omega) (gf := 33) (lb := #[.pointer (some ⟨w.heap.size + 3, 0, none⟩)]) rfl trivial (enters_of Try.func33 (by kernel_rfl) rfl)
    (back_stops (by omega) (w.heap.size + 3) W1.heap.size g L.length c1 A1 fat fA fc HL.out (fun hp => ⟨(HG.out hp).1, by have := H.out.slt g (HG.out hp).2; omega⟩) (by omega) W1 (Nat.le_refl _) (cell_of_blk bs rfl) (fun j hj => by obtain ⟨q1, q2⟩ := hrow j hj; exact ⟨by rw [q1, fat1.out j hj], q2⟩)) belowK_t (belowK_b (Nat.le_refl _)) (Below.refl _ _) (fun _ => rfl)
    (fun pre W => (∀ j ∈ pre, ∀ x, L[j]? = some x → x.1 ≠ i) ∧ Below W1.heap.size W1 W)
    (fun c pre W => (c = .ret ∧ ∃ ini j x g2 cap, pre = ini ++ [j] ∧ (∀ j' ∈ ini, ∀ x, L[j']? = some x → x.1 ≠ i) ∧ L[j]? = some x ∧ x.1 = i ∧ W.cell? ⟨w.heap.size + 1, 0, none⟩ = some (.slice (some ⟨g2, 0, none⟩) 64 cap) ∧ W.cell? ⟨w.heap.size + 1 + 1, 0, none⟩ = some (.int .i64 0) ∧ w.heap.size ≤ g2 ∧ 64 ≤ cap ∧ OwnBy W g2 cap x.2) ∧ Below w.heap.size w W)
    ?hI ?hIx ?h0 (fun x a' W => ∃ Bx, W1.heap.size ≤ Bx ∧ W.heap[Bx]? = some (.cells #[.int .i64 (fat x), .slice (fA x) 64 (fc x)] 65 (0, 0)) ∧ a' = { tmps := #[.pointer (some ⟨p, 0, none⟩), .int .i64 i, undef, .pointer (some ⟨w.heap.size, 0, none⟩), .pointer (some ⟨w.heap.size + 1, 0, none⟩), .pointer (some ⟨w.heap.size + 1 + 1, 0, none⟩), undef, .pointer (some ⟨Bx, 0, none⟩), .pointer (some ⟨p, 0, none⟩), .int .i64 i, .bool true, .bool false, .pointer (some ⟨p, 0, none⟩), .pointer (some ⟨p, 0, none⟩), .pointer (some ⟨p, 1, none⟩), .slice A1 L.length c1, .func (.func 33) #[] #[.pointer (some ⟨w.heap.size + 3, 0, none⟩)], .int .i64 (x : Int), .agg #[.int .i64 (fat x), .slice (fA x) 64 (fc x)], undef, undef, undef, undef, undef, undef, undef, undef, undef, undef, undef, undef, undef, undef, undef, undef, undef, undef], defers := [] }) ?hAx ?assign ?body ?done ?stop
  case hI => exact OwnFrom.and (fun s W W' row hs hg hr => hs) (ownFrom_below (Nat.le_refl _) (Nat.le_refl _))
  case hIx =>
    refine fun c => OwnFrom.and ?_ (ownFrom_below (Nat.le_refl _) (by omega))
    rintro s W W' row ⟨hc, ini, j, x, g2, cap, e1, e2, e3, e4, e5, e6, e7, e8, e9⟩ hg hr
    refine ⟨hc, ini, j, x, g2, cap, e1, e2, e3, e4, cell_kept e5 hg (fun r e => (hr r e).2), cell_kept e6 hg (fun r e => (hr r e).2), e7, e8, e9.same (grown_blk hg e9.lt (fun e => ?_))⟩
    obtain ⟨o, ho, hoc⟩ := (hr _ e).2
    obtain ⟨cur, hcur, _⟩ := e9
    rw [hcur] at ho
    obtain rfl := Option.some.inj ho
    cases hoc
  case h0 => exact ⟨by simp, Below.refl _ _⟩
  case hAx =>
    rintro x a' s W W' row ⟨Bx, h1, h2, h3⟩ hg hr
    refine ⟨Bx, h1, (grown_blk hg (blk_lt h2) (fun e => ?_)).trans h2, h3⟩
    obtain ⟨o, ho, hoc⟩ := (hr _ e).2
    rw [h2] at ho
    obtain rfl := Option.some.inj ho
    cases hoc
  case assign =>
    rintro l pre x W K ⟨hi1, hi2⟩ hK
    dsimp only [encB]
    gi_wp2
    exact hK _ _ ((KeepsOthers.alloc _ _).from _) ((Below.refl _ W).alloc hi2.size _) ⟨hi1, hi2.alloc hi2.size _⟩ ⟨W.heap.size, hi2.size, new_blk _ _, rfl⟩
  case body =>
    rintro l pre x a' W hl ⟨r, hr⟩ ⟨hp, hB⟩ ⟨Bx, hBx, hbx, rfl⟩ hlt
    have cx0 := cell_of_blk hbx (j := 0) rfl
    have cx1 := cell_of_blk hbx (j := 1) rfl
    have c3 : W.cell? ⟨w.heap.size, 0, none⟩ = some (.int .i64 i) := cell_of_blk ((hB.block _ (by omega)).trans ((b01 _ (by omega)).trans b3)) rfl
    have c4 : W.cell? ⟨w.heap.size + 1, 0, none⟩ = some (.slice none 0 0) := cell_of_blk ((hB.block _ (by omega)).trans ((b01 _ (by omega)).trans b4)) rfl
    have c5 : W.cell? ⟨w.heap.size + 1 + 1, 0, none⟩ = some (.int .i64 0) := cell_of_blk ((hB.block _ (by omega)).trans ((b01 _ (by omega)).trans b5)) rfl
    have hbp := H.out.slt
    by_cases hfi : fat x = i
    · have hxl : x < L.length := by
        by_cases hq : x < L.length
        · exact hq
        · have := fat2.out x hq; omega
      obtain ⟨_, _, k1, k2, k3⟩ := HI.out x hxl
      have k0 := HW.out _ (List.getElem_mem hxl)
      have kx := List.getElem?_eq_getElem hxl
      have ki : (L[x]'hxl).1 = i := (fat1.out x hxl).symm.trans hfi
      generalize L[x]'hxl = y at *
      have hcl := clone_ok (w := W) (C_same k2 (fun a ha => (hB.block _ (by have := H.out.nlt _ (k3 a ha); omega)).trans (hB1.block _ (H.out.nlt _ (k3 a ha))))) k1 (by omega) (by omega)
      rw [k0] at hcl
      have HCL := Aside0.mk hcl
      have K0 := Aside0.mk k0
      have KX := Aside0.mk kx
      have KI := Aside0.mk ki
      have FI := Aside0.mk hfi
      rw [hfi] at cx0
      rw [hfi]
      clear hcl k0 k1 k2 k3 kx ki hfi
      have hsz := hB.size
      gi_wp2_with (refine ⟨trivial, ?_⟩; gi_at_call 28; refine (CallsIn.inRound l (callsIn_wide.2 HCL.out)).mono ?_; rintro e w2 ⟨g2, cap, rfl, hg2, hcap, hO, hBc⟩; have c4' := (hBc.cell (p := ⟨w.heap.size + 1, 0, none⟩) (by show w.heap.size + 1 < _; omega)).trans c4; have c5' := (hBc.cell (p := ⟨w.heap.size + 1 + 1, 0, none⟩) (by show w.heap.size + 1 + 1 < _; omega)).trans c5; have f4' := blk_frozen ((hBc.block _ (by omega)).trans ((hB.block _ (by omega)).trans ((b01 _ (by omega)).trans b4))) 0; have f5' := blk_frozen ((hBc.block _ (by omega)).trans ((hB.block _ (by omega)).trans ((b01 _ (by omega)).trans b5))) 0)
      have q4 := (hBc.block (w.heap.size + 1) (by omega)).trans ((hB.block _ (by omega)).trans ((b01 _ (by omega)).trans b4))
      have q5 := (hBc.block (w.heap.size + 1 + 1) (by omega)).trans ((hB.block _ (by omega)).trans ((b01 _ (by omega)).trans b5))
      have HBW : Below w.heap.size w W := hB1.trans (hB.mono hB1.size)
      have HB2 : Below w.heap.size w w2 := HBW.trans (hBc.mono HBW.size)
      have r4 := blk_put q4 0 (.slice (some ⟨g2, 0, none⟩) 64 cap) rfl
      have r4' := (Below.heap_setCell (w2.setCell ⟨w.heap.size + 1, 0, none⟩ (.slice (some ⟨g2, 0, none⟩) 64 cap)) ⟨w.heap.size + 1 + 1, 0, none⟩ (.int .i64 0) (w.heap.size + 1) (by show w.heap.size + 1 ≠ w.heap.size + 1 + 1; omega)).trans r4
      have r5 := blk_put ((Below.heap_setCell w2 ⟨w.heap.size + 1, 0, none⟩ (.slice (some ⟨g2, 0, none⟩) 64 cap) (w.heap.size + 1 + 1) (by show w.heap.size + 1 + 1 ≠ w.heap.size + 1; omega)).trans q5) 0 (.int .i64 0) rfl
      have hgl := hO.lt
      have hkf : KeepsFrom W1.heap.size W w2 := ⟨hBc.size, fun k o _ hk ho => (hBc.block k (blk_lt hk)).trans hk⟩
      refine ⟨hkf.trans (((KeepsOthers.setCell _ _ _).trans (KeepsOthers.setCell _ _ _)).from _), ⟨rfl, pre, x, y, g2, cap, rfl, hp, KX.out, KI.out, cell_of_blk r4' rfl, cell_of_blk r5 rfl, by omega, hcap, ?_⟩, ?_⟩
      · exact hO.same ((Below.heap_setCell _ _ _ g2 (by show g2 ≠ w.heap.size + 1 + 1; omega)).trans (Below.heap_setCell _ _ _ g2 (by show g2 ≠ w.heap.size + 1; omega)))
      · exact (HB2.setCell (p := ⟨w.heap.size + 1, 0, none⟩) (by show w.heap.size ≤ w.heap.size + 1; omega) _).setCell (p := ⟨w.heap.size + 1 + 1, 0, none⟩) (by show w.heap.size ≤ w.heap.size + 1 + 1; omega) _
    · gi_wp2
      refine ⟨KeepsFrom.refl _ _, Below.refl _ _, fun j hj z hz => ?_, hB⟩
      rcases List.mem_append.1 hj with hj | hj
      · exact hp j hj z hz
      · obtain rfl : j = x := by simpa using hj
        obtain ⟨hlt2, rfl⟩ := List.getElem?_eq_some_iff.1 hz
        rw [← fat1.out j hlt2]
        exact hfi
  case stop =>
    rintro D c pre W hD ⟨k, hk, rfl⟩ ⟨⟨rfl, ini, j, x, g2, cap, e1, e2, e3, e4, e5, e6, e7, e8, e9⟩, hB⟩ hK
    have hp4 := cell_kept e5 (grownBy_putObj' _ D (.deferred none)) (fun r e => by cases e; exact ⟨_, hK, rfl⟩)
    have hp5 := cell_kept e6 (grownBy_putObj' _ D (.deferred none)) (fun r e => by cases e; exact ⟨_, hK, rfl⟩)
    have hrb : rblk B L i = x.2 := by
      obtain ⟨k', rfl⟩ : ∃ k', k = k' + 1 := by
        cases k with
        | zero => simp [down] at e1
        | succ k' => exact ⟨k', rfl⟩
      rw [down_succ] at e1
      obtain ⟨rfl, e5⟩ := List.append_inj' e1 rfl
      obtain rfl : L.length - 1 - k' = j := by simpa using e5
      unfold rblk
      rw [lastAt_some e3 e4 L.length (by omega) (fun j' x' h1 h2 hx' => e2 j' (by
        simp only [down, List.mem_map, List.mem_range]
        exact ⟨L.length - 1 - j', by omega, by omega⟩) x' hx')]
      rfl
    have HRB := Aside0.mk hrb
    clear hrb e1 e2 e3 e4
    gi_wp2
    refine ⟨by simp, .inl ⟨_, _, rfl, run_takeDeferred hK, ?_⟩⟩
    refine ⟨.tuple #[.slice (some ⟨g2, 0, none⟩) 64 cap, .int .i64 0], ?_, g2, cap, rfl, e7, e8, ?_, hB.trans (belowK_b (w := w) (Nat.le_refl _) W D _ _ (by omega) hK rfl rfl)⟩
    · simp [results, Try.f19, go_sem, hp4, hp5]
    · rw [HRB.out]
      exact e9.same (World.putObj_heap_other (fun e => by
        obtain ⟨cur, hcur, _⟩ := e9
        rw [e, hK] at hcur
        cases hcur))
  case done =>
    rintro D ys W hD rfl ⟨hne, hB⟩ hK
    have hrb : lastAt L i L.length = none := lastAt_none _ (fun j x hj hx => hne j (by
      simp only [down, List.mem_map, List.mem_range]
      exact ⟨L.length - 1 - j, by omega, by omega⟩) x hx)
    have HRB := Aside0.mk hrb
    clear hrb hne
    have HBW : Below w.heap.size w W := hB1.trans (hB.mono hB1.size)
    have hsz := hB.size
    have c3 : W.cell? ⟨w.heap.size, 0, none⟩ = some (.int .i64 i) := cell_of_blk ((hB.block _ (by omega)).trans ((b01 _ (by omega)).trans b3)) rfl
    have hc4 := (hB.block (w.heap.size + 1) (by omega)).trans ((b01 _ (by omega)).trans b4)
    have hc5 := (hB.block (w.heap.size + 1 + 1) (by omega)).trans ((b01 _ (by omega)).trans b5)
    have cpW : W.cell? ⟨p, 0, none⟩ = some (.slice (some ⟨gb, 0, none⟩) (n * 64) cb) := by rw [← HN.out]; exact (HBW.cell (p := ⟨p, 0, none⟩) hps).trans cp0
    obtain ⟨q, rfl⟩ := Int.eq_ofNat_of_zero_le h0
    have hqn : q < n := by omega
    have hcb : n * 64 ≤ cb := by obtain ⟨_, _, _, h2, _⟩ := H.out.own; rw [HN.out] at h2; exact h2
    have hO := H.out.own.same (HBW.block gb (H.out.slt gb H.out.sb))
    have hcut := hO.cut (off := q * 64) (m := 64) (by rw [HN.out]; omega)
    have hlen : ((B.drop (q * 64)).take 64).length = 64 := by rw [List.length_take, List.length_drop, HN.out]; omega
    have hwr : IntKind.i64.wrap ((q : Int) * 64) = (q : Int) * 64 := wrapI (by omega) (by omega)
    have hwr1 : IntKind.i64.wrap ((q : Int) + 1) = (q : Int) + 1 := wrapI (by omega) (by omega)
    have hwr2 : IntKind.i64.wrap (((q : Int) + 1) * 64) = ((q : Int) + 1) * 64 := wrapI (by omega) (by omega)
    have hq1 : (0 : Int) ≤ (q : Int) * 64 := by omega
    have hq2 : (q : Int) * 64 ≤ ((q : Int) + 1) * 64 := by omega
    have hq3 : ((q : Int) * 64).toNat = q * 64 := by omega
    have hq3' : (((q : Int) + 1) * 64).toNat = (q + 1) * 64 := by omega
    have hq4 : ¬ cb = q * 64 := by omega
    have hq6 : ((q : Int) + 1) * 64 ≤ (cb : Int) := by omega
    have hq8 : (0 : Int) ≤ ((q : Int) + 1) * 64 := by omega
    have hq9 : (q : Int) ≤ (q : Int) + 1 := by omega
    have hq7 : (q + 1) * 64 - q * 64 = 64 := by omega
    have hcl := Aside0.mk (clone_ok (w := W.drew) (A := some ⟨gb, q * 64, none⟩) (c := cb - q * 64) (bs := (B.drop (q * 64)).take 64) (by rw [hlen]; exact C_same hcut (fun a ha => rfl)) (by omega) (by omega) (by omega))
    rw [hlen] at hcl
    have HLN := Aside0.mk hlen
    clear hO hcut hlen cp0 cp1
    gi_wp2
    refine wpIn_wide.2 ?_
    refine wp_region_noPanic ?_
    go_region_law (go_simp; go_at_call 28; refine hcl.out.mono ?_; rintro e w2 ⟨g2, cap, rfl, hg2, hcap, hO, hBc⟩; have c4' := cell_of_blk ((hBc.block _ (by show w.heap.size + 1 < W.heap.size; omega)).trans hc4) (j := 0) rfl; have c5' := cell_of_blk ((hBc.block _ (by show w.heap.size + 1 + 1 < W.heap.size; omega)).trans hc5) (j := 0) rfl; have f4' := blk_frozen ((hBc.block _ (by show w.heap.size + 1 < W.heap.size; omega)).trans hc4) 0; have f5' := blk_frozen ((hBc.block _ (by show w.heap.size + 1 + 1 < W.heap.size; omega)).trans hc5) 0)
    all_goals refine NoPanic.normal ?_
    all_goals
      have q4 := (hBc.block (w.heap.size + 1) (by show w.heap.size + 1 < W.heap.size; omega)).trans hc4
      have q5 := (hBc.block (w.heap.size + 1 + 1) (by show w.heap.size + 1 + 1 < W.heap.size; omega)).trans hc5
      have r4 := blk_put q4 0 (.slice (some ⟨g2, 0, none⟩) 64 cap) rfl
      have r4' := (Below.heap_setCell (w2.setCell ⟨w.heap.size + 1, 0, none⟩ (.slice (some ⟨g2, 0, none⟩) 64 cap)) ⟨w.heap.size + 1 + 1, 0, none⟩ (.int .i64 0) (w.heap.size + 1) (by show w.heap.size + 1 ≠ w.heap.size + 1 + 1; omega)).trans r4
      have r5 := blk_put ((Below.heap_setCell w2 ⟨w.heap.size + 1, 0, none⟩ (.slice (some ⟨g2, 0, none⟩) 64 cap) (w.heap.size + 1 + 1) (by show w.heap.size + 1 + 1 ≠ w.heap.size + 1; omega)).trans q5) 0 (.int .i64 0) rfl
      have hgl := hO.lt
      have hg2' : W.heap.size ≤ g2 := hg2
      have hDl := blk_lt hK
      have hK2 : w2.heap[D]? = some (.deferred (some [])) := (hBc.block D hDl).trans hK
      obtain ⟨W5, hW5⟩ : ∃ W5, W5 = (w2.setCell ⟨w.heap.size + 1, 0, none⟩ (.slice (some ⟨g2, 0, none⟩) 64 cap)).setCell ⟨w.heap.size + 1 + 1, 0, none⟩ (.int .i64 0) := ⟨_, rfl⟩
      have hset : ∀ k, W1.heap.size ≤ k → W5.heap[k]? = w2.heap[k]? := fun k hk => by
        rw [hW5]
        exact (Below.heap_setCell _ _ _ k (by show k ≠ w.heap.size + 1 + 1; omega)).trans (Below.heap_setCell _ _ _ k (by show k ≠ w.heap.size + 1; omega))
      have hK5 : W5.heap[D]? = some (.deferred (some [])) := (hset D hD).trans hK2
      have e5 : W5.cell? ⟨w.heap.size + 1, 0, none⟩ = some (.slice (some ⟨g2, 0, none⟩) 64 cap) := by rw [hW5]; exact cell_of_blk r4' rfl
      have e6 : W5.cell? ⟨w.heap.size + 1 + 1, 0, none⟩ = some (.int .i64 0) := by rw [hW5]; exact cell_of_blk r5 rfl
      have hBcW : Below W.heap.size W w2 := ⟨hBc.os, hBc.tape, hBc.output, hBc.size, hBc.block⟩
      have HB5 : Below w.heap.size w W5 := by
        rw [hW5]
        exact ((HBW.trans (hBcW.mono HBW.size)).setCell (p := ⟨w.heap.size + 1, 0, none⟩) (by show w.heap.size ≤ w.heap.size + 1; omega) _).setCell (p := ⟨w.heap.size + 1 + 1, 0, none⟩) (by show w.heap.size ≤ w.heap.size + 1 + 1; omega) _
      have hO5 : OwnBy W5 g2 cap ((B.drop (q * 64)).take 64) := hO.same (hset g2 (by omega))
      have hp4 := cell_kept e5 (grownBy_putObj' _ D (.deferred none)) (fun r e => by cases e; exact ⟨_, hK5, rfl⟩)
      have hp5 := cell_kept e6 (grownBy_putObj' _ D (.deferred none)) (fun r e => by cases e; exact ⟨_, hK5, rfl⟩)
      rw [← hW5]
      gi_wp2
      refine ⟨by simp, .inl ⟨_, _, rfl, run_takeDeferred hK5, ?_⟩⟩
      refine ⟨.tuple #[.slice (some ⟨g2, 0, none⟩) 64 cap, .int .i64 0], ?_, g2, cap, rfl, by omega, hcap, ?_, HB5.trans (belowK_b (w := w) (Nat.le_refl _) W5 D _ _ (by omega) hK5 rfl rfl)⟩
      · simp [results, Try.f19, go_sem, hp4, hp5]
      · have hrb : rblk B L (q : Int) = (B.drop (q * 64)).take 64 := by unfold rblk; rw [HRB.out]; rfl
        rw [hrb]
        exact hO5.same (World.putObj_heap_other (fun e => by
          obtain ⟨cur, hcur, _⟩ := hO5
          rw [e, hK5] at hcur
          cases hcur))
theorem dev_read_bad {w : World} {S N : Nat → Prop} {p : Nat} {B : List Int} {L : List (Int × List Int)} (h : Dev 62 65 w S N p B L) {n : Nat} (hn : B.length = n * 64) (hm : n ≤ 1024) {i : Int} (hi : ¬ (0 ≤ i ∧ i < n)) :
    Calls Try.prog 19 #[.pointer (some ⟨p, 0, none⟩), .int .i64 i] w fun e w' =>
      e = .returned (.tuple #[.slice none 0 0, .int .i64 1]) ∧ Below w.heap.size w w' := by
  have hb := Aside0.mk (fun (W : World) (hB : Below w.heap.size w W) => dev_has (h.below hB) hn hm i)
  have E0 := Aside0.mk (decide_eq_false hi)
  clear h hi
  obtain ⟨W0, hW0⟩ : ∃ W0, W0 = ((w.alloc (.cells #[.int .i64 i] 3)).alloc (.cells #[.slice none 0 0] 31)).alloc (.cells #[.int .i64 0] 25) := ⟨_, rfl⟩
  have hB0 : Aside0 (Below w.heap.size w W0) := ⟨by rw [hW0]; exact (((Below.refl _ w).alloc (Nat.le_refl _) _).alloc (by simp) _).alloc (by simp; omega) _⟩
  have hs0 : W0.heap.size = w.heap.size + 3 := by rw [hW0]; simp
  have hW0' := Aside0.mk hW0
  clear hW0
  have b4 : W0.heap[w.heap.size + 1]? = some (.cells #[.slice none 0 0] 31 (0, 0)) := by
    rw [hW0'.out, Below.heap_alloc _ _ _ (by simp)]
    have := new_blk (w.alloc (.cells #[.int .i64 i] 3)) (.cells #[.slice none 0 0] 31)
    simpa using this
  have b5 : W0.heap[w.heap.size + 1 + 1]? = some (.cells #[.int .i64 0] 25 (0, 0)) := by
    rw [hW0'.out]
    have := new_blk ((w.alloc (.cells #[.int .i64 i] 3)).alloc (.cells #[.slice none 0 0] 31)) (.cells #[.int .i64 0] 25)
    simpa using this
  have c4 := cell_of_blk b4 (j := 0) rfl
  have c5 := cell_of_blk b5 (j := 0) rfl
  have f4 := blk_frozen b4 0
  have f5 := blk_frozen b5 0
  go_enter Try.func19, Try.ntmps19
  go_wp2_with (go_at_call 27; refine (hb.out _ (by rw [hW0'.out] at hB0; exact hB0.out)).mono ?_; rintro e w' ⟨rfl, rfl⟩; rw [E0.out, ← hW0'.out])
  have r4 := blk_put b4 0 (.slice none 0 0) rfl
  have r4' := (Below.heap_setCell (W0.setCell ⟨w.heap.size + 1, 0, none⟩ (.slice none 0 0)) ⟨w.heap.size + 1 + 1, 0, none⟩ (.int .i64 1) (w.heap.size + 1) (by show w.heap.size + 1 ≠ w.heap.size + 1 + 1; omega)).trans r4
  have r5 := blk_put ((Below.heap_setCell W0 ⟨w.heap.size + 1, 0, none⟩ (.slice none 0 0) (w.heap.size + 1 + 1) (by show w.heap.size + 1 + 1 ≠ w.heap.size + 1; omega)).trans b5) 0 (.int .i64 1) rfl
  have e4 := cell_of_blk r4' (j := 0) rfl
  have e5 := cell_of_blk r5 (j := 0) rfl
  try simp only [Exit.inBlock, Exit.then]
  refine bodyPost_ret (v := .tuple #[.slice none 0 0, .int .i64 1]) ?_ rfl ?_
  · simp [results, Try.f19, go_sem, e4, e5]
  · exact ⟨rfl, (hB0.out.setCell (p := ⟨w.heap.size + 1, 0, none⟩) (by show w.heap.size ≤ w.heap.size + 1; omega) _).setCell (p := ⟨w.heap.size + 1 + 1, 0, none⟩) (by show w.heap.size ≤ w.heap.size + 1 + 1; omega) _⟩
end Go.Proofs.Ytkpfhlfbhceebaa.PAll
