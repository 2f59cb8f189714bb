-- Printed by this session's own program (wip/tools/pp.py): out of the translation. Lean checks it.
import Derived.Test.YtijhfdhcnagkcaaPAllx0
import Derived.Test.YtijhfdhcnagkcaaPAllx3
namespace Go.Proofs.Ytijhfdhcnagkcaa.PAll
open Go.Proofs.Ytijhfdhcnagkcaa.Help
open Go.RowKit Go.Proofs.YtijhfdhcnagkcaaW.PrintWords Go.Proofs.YtijhfdhcnagkcaaW.PrintLast Go.Proofs.YtijhfdhcnagkcaaW.PrintMore
attribute [local go_sem] cell_put3_0 cell_put3_1 cell_put4_0 cell_put4_1 max2_int min2_int max_two min_two max_three min_three max_four min_four   -- for this text's walks alone
set_option linter.unusedVariables false
set_option linter.unusedSimpArgs false

/-! ### ext_Free: function 15 (given) -/
/-- A predicate on rooms, as a function value tells it: it may lay blocks. -/
def PredExt (P : Program) (g : Nat) (lb : Array Value) (p : S23 → Bool) (w : World) : Prop :=
  ∀ (W : World) (x : S23), Below w.heap.size w W → Calls P g (#[.agg #[.int .i64 x.f0, .int .i64 x.f1]] ++ lb) W fun e w' => e = .returned (.bool (p x)) ∧ Below w.heap.size w w'
def idxB (p : S23 → Bool) (l : List S23) : Int := match l.findIdx? p with | some i => (i : Int) | none => -1
theorem idxB_hit {p : S23 → Bool} {l : List S23} {i : Nat} (hi : i < l.length) (h : p (rd_T23 l (i : Int)) = true) (hall : ∀ j : Nat, j < i → p (rd_T23 l (j : Int)) = false) : idxB p l = (i : Int) := by
  have hget : ∀ j : Nat, (hj : j < l.length) → rd_T23 l (j : Int) = l[j] := by
    intro j hj
    unfold rd_T23
    rw [Int.toNat_natCast, List.getD_eq_getElem?_getD, List.getElem?_eq_getElem hj]
    rfl
  have : l.findIdx? p = some i := by
    rw [List.findIdx?_eq_some_iff_getElem]
    refine ⟨hi, by rw [← hget i hi]; exact h, fun j hj => ?_⟩
    rw [← hget j (by omega), hall j hj]
    simp
  unfold idxB
  rw [this]
theorem idxB_miss {p : S23 → Bool} {l : List S23} (hall : ∀ j : Nat, j < l.length → p (rd_T23 l (j : Int)) = false) : idxB p l = -1 := by
  have hget : ∀ j : Nat, (hj : j < l.length) → rd_T23 l (j : Int) = l[j] := by
    intro j hj
    unfold rd_T23
    rw [Int.toNat_natCast, List.getD_eq_getElem?_getD, List.getElem?_eq_getElem hj]
    rfl
  have : l.findIdx? p = none := by
    rw [List.findIdx?_eq_none_iff]
    intro x hx
    obtain ⟨j, hj, rfl⟩ := List.getElem_of_mem hx
    rw [← hget j hj]
    exact hall j hj
  unfold idxB
  rw [this]
theorem take1_pred (n : Int) (B : Nat) (w : World) (hB : B < w.heap.size) (hcell : w.cell? ⟨B, 0, none⟩ = some (.int .i64 n)) : PredExt Try.prog 24 #[.pointer (some ⟨B, 0, none⟩)] (fun x => decide (x.f1 ≥ n)) w := fun W x hb => by
  have hc : W.cell? ⟨B, 0, none⟩ = some (.int .i64 n) := (hb.cell (p := ⟨B, 0, none⟩) hB).trans hcell
  have hBW : B < W.heap.size := Nat.lt_of_lt_of_le hB hb.size
  have hne : B ≠ W.heap.size := by omega
  show Calls Try.prog 24 #[.agg #[.int .i64 x.f0, .int .i64 x.f1], .pointer (some ⟨B, 0, none⟩)] W _
  go_enter Try.func24, Try.ntmps24
  go_wp2
  all_goals (go_ret; exact ⟨by simp_all, hb.alloc hb.size _⟩)
theorem take2_pred (w : World) : PredExt Try.prog 27 #[] (fun x => decide (x.f1 < 1)) w := fun W x hb => by
  show Calls Try.prog 27 #[.agg #[.int .i64 x.f0, .int .i64 x.f1]] W _
  go_enter Try.func27, Try.ntmps27
  go_wp2
  all_goals (go_ret; exact ⟨by simp_all, hb.alloc hb.size _⟩)
set_option maxHeartbeats 2000000 in
theorem indexFunc_ext (p : S23 → Bool) (g : Nat) (lb : Array Value) (eg : ∀ args w, (callFunc g args).run Try.prog w = .ok (.enter g args) w) (A0 : Option Addr) (c0 : Nat) (l0 : List S23) (w : World) (hp : PredExt Try.prog g lb p w) (hr0 : Kd.C k23 w A0 l0.length l0) :
    Calls Try.prog 23 #[.slice A0 l0.length c0, .func (.func g) #[] lb] w fun e w' => e = .returned (.int .i64 (idxB p l0)) ∧ Below w.heap.size w w' := by
  have hL : l0.length ≤ 9223372036854775807 := hr0.2.1
  have HR0 := Aside0.mk hr0
  have HP := Aside0.mk hp
  clear hr0 hp
  go_enter Try.func23, Try.ntmps23
  go_wp2
  go_loopg [5, 8] l0.length (fun gg _ s8 wr => ∃ kk : Nat, kk ≤ l0.length ∧ l0.length - kk ≤ gg ∧ s8 = .int .i64 kk ∧ Aside0 (Below w.heap.size w wr) ∧ Aside0 (∀ j : Nat, j < kk → p (rd_T23 l0 (j : Int)) = false))
  case atStart => exact ⟨0, Nat.zero_le _, by omega, rfl, ⟨Below.refl _ w⟩, ⟨fun j hj => absurd hj (Nat.not_lt_zero _)⟩⟩
  case round =>
    obtain ⟨kk, hkk, hg, rfl, BW, A⟩ := hrel
    by_cases hlt : kk < l0.length
    · have hltz : (kk : Int) < (l0.length : Int) := by omega
      obtain ⟨ad, rfl, hx0, hx1⟩ := at_T23 HR0.out (kk : Int) (by omega) (by omega)
      replace hx0 := (BW.out.cell (World.block_lt_of_cell? w _ hx0)).trans hx0
      replace hx1 := (BW.out.cell (World.block_lt_of_cell? w _ hx1)).trans hx1
      have hcall := HP.out wr (rd_T23 l0 (kk : Int)) BW.out
      rw [Int.toNat_natCast] at hx0 hx1
      generalize hy : rd_T23 l0 (kk : Int) = y at hx0 hx1 hcall
      have B := Aside0.mk hy
      clear hy
      cases hq : p y with
      | true =>
        rw [hq] at hcall
        go_wp2_with (go_at_fn g; refine hcall.mono ?_; rintro e w' ⟨rfl, hb'⟩)
        go_ret
        refine ⟨?_, hb'⟩
        rw [idxB_hit hlt (by rw [B.out]; exact hq) A.out]; rfl
      | false =>
        rw [hq] at hcall
        go_wp2_with (go_at_fn g; refine hcall.mono ?_; rintro e w' ⟨rfl, hb'⟩)
        go_roundg (l0.length - (kk + 1))
        case measure => omega
        case rel =>
          refine ⟨kk + 1, by omega, by omega, by go_num, ⟨hb'⟩, ⟨fun j hj => ?_⟩⟩
          by_cases e : j = kk
          · subst e
            rw [B.out]; exact hq
          · exact A.out j (by omega)
    · have hltz : ¬ (kk : Int) < (l0.length : Int) := by omega
      have : kk = l0.length := by omega
      subst this
      go_wp2
      go_ret
      exact ⟨by rw [idxB_miss A.out]; rfl, BW.out⟩
/-- Block g is a row of rooms, the first ones l. -/
def OwnX (w : World) (g cap : Nat) (l : List S23) : Prop :=
  ∃ cur : Array Value, w.heap[g]? = some (.cells cur 23 (0, 0)) ∧ cur.size = cap * 2 ∧ l.length ≤ cap ∧ cap ≤ maxLen ∧ ∀ (j : Nat) (x : S23), l[j]? = some x → cur[j * 2]? = some (.int .i64 x.f0) ∧ cur[j * 2 + 1]? = some (.int .i64 x.f1)
theorem OwnX.of_R {w : World} {base g cap : Nat} {ok : Nat → Prop} {l : List S23} (h : Kd.R k23 23 w base ok (.slice (some ⟨g, 0, none⟩) l.length cap) l) : base ≤ g ∧ OwnX w g cap l := by
  have hb := Kd.R_base h g rfl
  refine ⟨hb, ?_⟩
  obtain ⟨_, inner, ho, hr⟩ := h
  rcases ho.2 with ⟨hv, _⟩ | ⟨g', cap', cur, hv, hg, hh, hnc, hcm, hcs, htk⟩
  · cases hv
  injection hv with ha _ hc
  injection ha with ha
  injection ha with hg'
  subst hg'; subst hc
  refine ⟨cur, hh, hcs, hnc, hcm, fun j x hj => ?_⟩
  have hK := hr.2 j x hj
  obtain ⟨c0, c1, e, h0, h1⟩ := hK
  have h0 : c0 = [.int .i64 x.f0] := h0
  have h1 : c1 = [.int .i64 x.f1] := h1
  subst h0; subst h1
  have hjl := (List.getElem?_eq_some_iff.1 hj).1
  have e : (inner.drop (j * 2)).take 2 = [.int .i64 x.f0, .int .i64 x.f1] := e
  have a0 : inner[j * 2]? = some (.int .i64 x.f0) := by
    have := congrArg (fun q => q[0]?) e
    simpa [List.getElem?_take, List.getElem?_drop] using this
  have a1 : inner[j * 2 + 1]? = some (.int .i64 x.f1) := by
    have := congrArg (fun q => q[1]?) e
    simpa [List.getElem?_take, List.getElem?_drop] using this
  have hsz : k23.sz = 2 := rfl
  rw [hsz] at htk
  have key : ∀ i : Nat, i < l.length * 2 → cur[i]? = inner[i]? := by
    intro i hi
    rw [← htk, List.getElem?_take, if_pos hi]
    simp
  rw [key _ (by omega), key _ (by omega)]
  exact ⟨a0, a1⟩
theorem OwnX.to_R {w : World} {base g cap : Nat} {l : List S23} (h : OwnX w g cap l) (hb : base ≤ g) : Kd.R k23 23 w base (fun _ => True) (.slice (some ⟨g, 0, none⟩) l.length cap) l := by
  obtain ⟨cur, hh, hcs, hnc, hcm, hc⟩ := h
  have hil : (cur.toList.take (l.length * 2)).length = l.length * 2 := by
    have h2 : cur.toList.length = cap * 2 := by simpa using hcs
    rw [List.length_take, h2]
    omega
  refine ⟨fun _ _ => trivial, cur.toList.take (l.length * 2), ⟨hil, .inr ⟨g, cap, cur, rfl, hb, hh, hnc, hcm, hcs, rfl⟩⟩, hil, fun j x hj => ?_⟩
  obtain ⟨a0, a1⟩ := hc j x hj
  have hjl := (List.getElem?_eq_some_iff.1 hj).1
  have e : ((cur.toList.take (l.length * 2)).drop (j * 2)).take 2 = [.int .i64 x.f0, .int .i64 x.f1] := by
    apply List.ext_getElem?
    intro i
    rw [List.getElem?_take]
    match i with
    | 0 => simp [List.getElem?_take, List.getElem?_drop, a0]; omega
    | 1 => simp [List.getElem?_take, List.getElem?_drop, a1]; omega
    | i + 2 => simp; intro h_; omega
  show k23.M _ _ _ x (((cur.toList.take (l.length * 2)).drop (j * 2)).take 2)
  rw [e]
  exact k23_mkM _ _ _ _
theorem OwnX.lt {w : World} {g cap : Nat} {l : List S23} (h : OwnX w g cap l) : g < w.heap.size := by
  obtain ⟨cur, hh, _⟩ := h
  exact blk_lt hh
theorem OwnX.cells {w : World} {g cap : Nat} {l : List S23} (h : OwnX w g cap l) {j : Nat} (hj : j < l.length) :
    w.cell? ⟨g, j * 2, none⟩ = some (.int .i64 (rd_T23 l (j : Int)).f0) ∧ w.cell? ⟨g, j * 2 + 1, none⟩ = some (.int .i64 (rd_T23 l (j : Int)).f1) ∧ w.frozen? ⟨g, j * 2, none⟩ = false ∧ w.frozen? ⟨g, j * 2 + 1, none⟩ = false := by
  obtain ⟨cur, hh, hcs, hnc, hcm, hc⟩ := h
  have hx : l[j]? = some (rd_T23 l (j : Int)) := by
    unfold rd_T23
    rw [Int.toNat_natCast, List.getD_eq_getElem?_getD, List.getElem?_eq_getElem hj]
    rfl
  obtain ⟨a0, a1⟩ := hc j _ hx
  exact ⟨by simp [World.cell?, hh, a0], by simp [World.cell?, hh, a1], blk_frozen hh _, blk_frozen hh _⟩
theorem OwnX.same {w w' : World} {g cap : Nat} {l : List S23} (h : OwnX w g cap l) (hs : w'.heap[g]? = w.heap[g]?) : OwnX w' g cap l := by
  obtain ⟨cur, hh, r⟩ := h
  exact ⟨cur, hs.trans hh, r⟩
theorem OwnX.below {w w' : World} {g cap : Nat} {l : List S23} (h : OwnX w g cap l) (hb : Below w.heap.size w w') : OwnX w' g cap l := h.same (hb.block g h.lt)
/-- A room is written. -/
theorem OwnX.put {w : World} {g cap : Nat} {l : List S23} (h : OwnX w g cap l) {i : Nat} (hi : i < l.length) (a b : Int) : OwnX ((w.setCell ⟨g, i * 2, none⟩ (.int .i64 a)).setCell ⟨g, i * 2 + 1, none⟩ (.int .i64 b)) g cap (l.set i ⟨a, b⟩) := by
  obtain ⟨cur, hh, hcs, hnc, hcm, hc⟩ := h
  refine ⟨(cur.setIfInBounds (i * 2) (.int .i64 a)).setIfInBounds (i * 2 + 1) (.int .i64 b), blk_put (blk_put hh _ _ rfl) _ _ rfl, by simp [hcs], by simpa using hnc, hcm, fun j x hj => ?_⟩
  by_cases e : j = i
  · subst e
    rw [List.getElem?_set_self hi] at hj
    obtain rfl := Option.some.inj hj
    constructor
    · rw [Array.getElem?_setIfInBounds_ne (by omega), Array.getElem?_setIfInBounds_self_of_lt (by omega)]
    · rw [Array.getElem?_setIfInBounds_self_of_lt (by simp; omega)]
  · rw [List.getElem?_set_ne (Ne.symm e)] at hj
    obtain ⟨a0, a1⟩ := hc j x hj
    constructor
    · rw [Array.getElem?_setIfInBounds_ne (by omega), Array.getElem?_setIfInBounds_ne (by omega)]; exact a0
    · rw [Array.getElem?_setIfInBounds_ne (by omega), Array.getElem?_setIfInBounds_ne (by omega)]; exact a1
/-- Of a row that is cut, and written behind the cut. -/
theorem OwnX.cut {w : World} {g cap : Nat} {l : List S23} (h : OwnX w g cap l) {i : Nat} (hi : i ≤ l.length) (zs : List Value) (hz : i * 2 + zs.length ≤ cap * 2) : OwnX (w.setCells g (i * 2) zs) g cap (l.take i) := by
  obtain ⟨cur, hh, hcs, hnc, hcm, hc⟩ := h
  obtain ⟨cur', h3, h4, h5⟩ := setCells_row zs (i * 2) w cur hh (by omega)
  refine ⟨cur', h3, by rw [h4, hcs], by rw [List.length_take]; omega, hcm, fun j x hj => ?_⟩
  rw [List.getElem?_take] at hj
  split at hj
  · rename_i hji
    obtain ⟨a0, a1⟩ := hc j x hj
    have key : ∀ q : Nat, q < i * 2 → cur'[q]? = cur[q]? := by
      intro q hq
      rw [← Array.getElem?_toList, h5, List.append_assoc, List.getElem?_append_left (by rw [List.length_take, Array.length_toList]; omega), List.getElem?_take, if_pos hq, Array.getElem?_toList]
    rw [key _ (by omega), key _ (by omega)]
    exact ⟨a0, a1⟩
  · cases hj
theorem run_clear_ext {w : World} {g cap : Nat} {l : List S23} (h : OwnX w g cap l) {i : Nat} (hi : i < l.length) (ty : TypeId) (c : Nat) :
    ∃ zs : List Value, zs.length = (l.length - i) * 2 ∧ (Builtin.clear_ #[33] ty #[.slice (some ⟨g, i * 2, none⟩) (l.length - i) c]).run Try.prog w = .ok (.tuple #[]) (w.setCells g (i * 2) zs) := by
  obtain ⟨cur, hh, hcs, hnc, hcm, hc⟩ := h
  have hz : (Builtin.zeroCells (Value.agg #[.int .i64 0, .int .i64 0]).cells (l.length - i)).toList.length = (l.length - i) * 2 := by
    simp [Builtin.zeroCells, Value.cells, Nat.mul_comm]
  have h1 : ∀ v ∈ (Builtin.zeroCells (Value.agg #[.int .i64 0, .int .i64 0]).cells (l.length - i)).toList, v.oneCell' = true := by
    intro v hv
    simp [Builtin.zeroCells, Value.cells] at hv
    obtain ⟨a, _, rfl⟩ := hv
    rcases Nat.mod_two_eq_zero_or_one a with h | h <;> rw [h] <;> rfl
  refine ⟨_, hz, ?_⟩
  have hst := run_storeCells_cells (P := Try.prog) g (i * 2) _ 0 w (by
    intro j hj
    rw [hz] at hj
    simp only [Nat.add_zero]
    rw [cell_of_row w g _ cur 23 (0, 0) hh]
    simp
    omega) (fun j _ => by simp only [Nat.add_zero]; exact blk_frozen hh _) h1
  simp only [Nat.add_zero] at hst
  obtain ⟨m, hm⟩ : ∃ m, l.length - i = m + 1 := ⟨l.length - i - 1, by omega⟩
  rw [hm] at hst ⊢
  have hu := Try.underlying33
  simp [Builtin.clear_, run_underlying Try.underlying33, Try.zeroValue23, hst]
theorem bcell {W w1 : World} (hb : Below W.heap.size W w1) : (∀ b o, b < W.heap.size → w1.cell? ⟨b, o, none⟩ = W.cell? ⟨b, o, none⟩) ∧ (∀ b o, b < W.heap.size → w1.frozen? ⟨b, o, none⟩ = W.frozen? ⟨b, o, none⟩) :=
  ⟨fun b o h => hb.cell (p := ⟨b, o, none⟩) h, fun b o h => hb.frozen (p := ⟨b, o, none⟩) h⟩
/-- Where slices.DeleteFunc stands: of l's first j rooms those that stay lie at the front of dk, i of them. -/
structure KeptX (p : S23 → Bool) (l : List S23) (j i : Nat) (dk : List S23) : Prop where
  len : dk.length = l.length
  front : dk.take i = (l.take j).filter fun x => !p x
  le : i ≤ j
  behind : ∀ q : Nat, j ≤ q → dk[q]? = l[q]?
theorem rdT_get {l : List S23} {j : Nat} (hj : j < l.length) : l[j]? = some (rd_T23 l (j : Int)) := by
  unfold rd_T23
  rw [Int.toNat_natCast, List.getD_eq_getElem?_getD, List.getElem?_eq_getElem hj]
  rfl
theorem rdT_elem {l : List S23} {j : Nat} (hj : j < l.length) : rd_T23 l (j : Int) = l[j] := by
  unfold rd_T23
  rw [Int.toNat_natCast, List.getD_eq_getElem?_getD, List.getElem?_eq_getElem hj]
  rfl
theorem KeptX.skip {p : S23 → Bool} {l dk : List S23} {j i : Nat} (h : KeptX p l j i dk) (hj : j < l.length) (hp : p (rd_T23 l (j : Int)) = true) : KeptX p l (j + 1) i dk := by
  refine ⟨h.len, ?_, by have := h.le; omega, fun q hq => h.behind q (by omega)⟩
  rw [List.take_succ_eq_append_getElem hj, List.filter_append, ← h.front, ← rdT_elem hj]
  simp [hp]
theorem KeptX.keep {p : S23 → Bool} {l dk : List S23} {j i : Nat} (h : KeptX p l j i dk) (hj : j < l.length) (hp : p (rd_T23 l (j : Int)) = false) : KeptX p l (j + 1) (i + 1) (dk.set i (rd_T23 l (j : Int))) := by
  have hle := h.le
  have hlen := h.len
  refine ⟨by rw [List.length_set, h.len], ?_, by omega, fun q hq => by rw [List.getElem?_set_ne (by omega)]; exact h.behind q (by omega)⟩
  rw [List.take_succ_eq_append_getElem hj, List.filter_append, ← h.front, ← rdT_elem hj]
  rw [List.take_succ_eq_append_getElem (by rw [List.length_set]; omega), List.take_set_of_le (Nat.le_refl i)]
  simp [hp]
set_option maxHeartbeats 4000000 in
theorem deleteFunc_ext (p : S23 → Bool) (g : Nat) (lb : Array Value) (eg : ∀ args w, (callFunc g args).run Try.prog w = .ok (.enter g args) w) (hp : ∀ w, PredExt Try.prog g lb p w) {base gb cap : Nat} (l0 : List S23) (w W0 : World) (hX : OwnX w gb cap l0) (hb : base ≤ gb) (hB : Below base W0 w) :
    Calls Try.prog 26 #[.slice (some ⟨gb, 0, none⟩) l0.length cap, .func (.func g) #[] lb] w fun e w' => ∃ v, e = .returned v ∧ Kd.R k23 23 w' base (fun _ => True) v (l0.filter fun x => !p x) ∧ Below base W0 w' ∧ ∀ k, k < w.heap.size → k ≠ gb → w'.heap[k]? = w.heap[k]? := by
  have hL : l0.length ≤ 9223372036854775807 := by obtain ⟨_, _, _, h1, h2, _⟩ := hX; unfold maxLen at h2; omega
  have hcapL : l0.length ≤ cap := by obtain ⟨_, _, _, h1, h2, _⟩ := hX; exact h1
  have hbw : base ≤ w.heap.size := Nat.le_trans hb (Nat.le_of_lt hX.lt)
  have hr0 : Kd.C k23 w (some ⟨gb, 0, none⟩) l0.length l0 := (Kd.R_reads' (hX.to_R hb)).2.2
  have hIF := indexFunc_ext p g lb eg (some ⟨gb, 0, none⟩) cap l0 w (hp w) hr0
  have HX := Aside0.mk hX
  have HP := Aside0.mk hp
  have HB := Aside0.mk hB
  have HR0 := Aside0.mk hr0
  clear hX hp hB hr0
  cases hfi : l0.findIdx? p with
  | none =>
    have e1 : idxB p l0 = -1 := by unfold idxB; rw [hfi]
    rw [e1] at hIF
    have hall : l0.filter (fun x => !p x) = l0 := by
      rw [List.filter_eq_self]
      intro x hx
      rw [List.findIdx?_eq_none_iff] at hfi
      simp [hfi x hx]
    have HA := Aside0.mk hall
    clear hall hfi e1
    go_enter Try.func26, Try.ntmps26
    go_wp2_with (go_at_call 23; refine hIF.mono ?_; rintro e w' ⟨rfl, hb'⟩)
    go_ret
    refine ⟨_, rfl, ?_, HB.out.trans (hb'.mono hbw), fun k hk _ => hb'.block k hk⟩
    rw [HA.out]
    exact (HX.out.below hb').to_R hb
  | some k0 =>
    have e1 : idxB p l0 = (k0 : Int) := by unfold idxB; rw [hfi]
    rw [e1] at hIF
    rw [List.findIdx?_eq_some_iff_getElem] at hfi
    obtain ⟨hk0, hpk, hbef⟩ := hfi
    have hne1 : ((k0 : Int) == -1) = false := beq_eq_false_iff_ne.2 (by omega)
    have HS := Aside0.mk (show KeptX p l0 (k0 + 1) k0 l0 from by
      refine KeptX.skip (j := k0) ⟨rfl, ?_, Nat.le_refl _, fun _ _ => rfl⟩ hk0 (by rw [rdT_elem hk0]; exact hpk)
      symm
      rw [List.filter_eq_self]
      intro x hx
      obtain ⟨j, hj, rfl⟩ := List.getElem_of_mem hx
      rw [List.length_take] at hj
      have := hbef j (by omega)
      simpa using this)
    clear hpk hbef e1
    go_enter Try.func26, Try.ntmps26
    go_wp2_with (go_at_call 23; refine hIF.mono ?_; rintro e w' ⟨rfl, hb'⟩)
    have HX1 := Aside0.mk (HX.out.below hb')
    have HB1 := Aside0.mk (HB.out.trans (hb'.mono hbw))
    have HK1 := Aside0.mk (show ∀ k, k < w.heap.size → k ≠ gb → w'.heap[k]? = w.heap[k]? from fun k hk _ => hb'.block k hk)
    have HS1 := Aside0.mk hb'.size
    clear hb' HX HB HR0 hIF
    go_loopg [5, 6, 7] l0.length (fun gg s5 s6 _ wr => ∃ (i j : Nat) (dk : List S23), s5 = .int .i64 i ∧ s6 = .int .i64 j ∧ j ≤ l0.length ∧ l0.length - j ≤ gg ∧ i < j ∧ Aside0 (KeptX p l0 j i dk) ∧ Aside0 (OwnX wr gb cap dk) ∧ Aside0 (Below base W0 wr) ∧ Aside0 (∀ k, k < w.heap.size → k ≠ gb → wr.heap[k]? = w.heap[k]?) ∧ Aside0 (w.heap.size ≤ wr.heap.size))
    case atStart => exact ⟨k0, k0 + 1, l0, rfl, by go_num, by omega, by omega, by omega, HS, HX1, HB1, HK1, HS1⟩
    case round =>
      clear HX1 HB1 HS HK1 HS1
      obtain ⟨i, j, dk, rfl, rfl, hj, hgg, hij, HK, HX, HB, HF, HSZ⟩ := hrel
      have hdl := HK.out.len
      have hgw := HX.out.lt
      by_cases hlt : j < l0.length
      · have hltz : (j : Int) < (l0.length : Int) := by omega
        obtain ⟨x0, x1, _, _⟩ := HX.out.cells (j := j) (by omega)
        obtain ⟨y0, y1, f0, f1⟩ := HX.out.cells (j := i) (by omega)
        have hrd : rd_T23 dk (j : Int) = rd_T23 l0 (j : Int) := by
          have := HK.out.behind j (Nat.le_refl _)
          rw [rdT_get (by omega), rdT_get hlt] at this
          exact Option.some.inj this
        rw [hrd] at x0 x1
        clear hrd hdl
        generalize hy : rd_T23 l0 (j : Int) = u at x0 x1
        have HU := Aside0.mk hy
        clear hy
        have hne : gb ≠ wr.heap.size := by omega
        cases hq : p u with
        | false =>
          have hcall : ∀ W : World, Calls Try.prog g (#[.agg #[.int .i64 u.f0, .int .i64 u.f1]] ++ lb) W fun e w' => e = .returned (.bool false) ∧ Below W.heap.size W w' := fun W => (HP.out W W u (Below.refl _ _)).mono fun e w' h => by rw [hq] at h; exact h
          go_wp2_with (go_at_fn g; refine (hcall _).mono ?_; rintro e w' ⟨rfl, hb'⟩; obtain ⟨hc, hf⟩ := bcell hb'; have hz : wr.heap.size < w'.heap.size := by (have := hb'.size; simp at this; omega))
          have hX' : OwnX w' gb cap dk := (HX.out.same (Below.heap_alloc wr _ gb hgw)).below hb'
          have hB' : Below base W0 w' := (HB.out.alloc (by omega) _).trans (hb'.mono (by simp; omega))
          have hF' : ∀ k, k < w.heap.size → k ≠ gb → w'.heap[k]? = w.heap[k]? := fun k hk hn => by
            rw [hb'.block k (by have := HSZ.out; simp; omega), Below.heap_alloc wr _ k (by have := HSZ.out; omega)]
            exact HF.out k hk hn
          have hS' : w.heap.size ≤ w'.heap.size := by have := HSZ.out; omega
          go_roundg (l0.length - (j + 1))
          case measure => omega
          case rel =>
            refine ⟨i + 1, j + 1, dk.set i u, by go_num, by go_num, by omega, Nat.le_refl _, by omega, ⟨?_⟩, ⟨hX'.put (by have := HK.out.len; omega) _ _⟩, ⟨(hB'.setCell hb _).setCell hb _⟩, ⟨fun k hk hn => by rw [Below.heap_setCell _ _ _ _ hn, Below.heap_setCell _ _ _ _ hn]; exact hF' k hk hn⟩, ⟨by simpa using hS'⟩⟩
            have := HK.out.keep hlt (by rw [HU.out]; exact hq)
            rw [HU.out] at this
            exact this
        | true =>
          have hcall : ∀ W : World, Calls Try.prog g (#[.agg #[.int .i64 u.f0, .int .i64 u.f1]] ++ lb) W fun e w' => e = .returned (.bool true) ∧ Below W.heap.size W w' := fun W => (HP.out W W u (Below.refl _ _)).mono fun e w' h => by rw [hq] at h; exact h
          go_wp2_with (go_at_fn g; refine (hcall _).mono ?_; rintro e w' ⟨rfl, hb'⟩; obtain ⟨hc, hf⟩ := bcell hb'; have hz : wr.heap.size < w'.heap.size := by (have := hb'.size; simp at this; omega))
          have hX' : OwnX w' gb cap dk := (HX.out.same (Below.heap_alloc wr _ gb hgw)).below hb'
          have hB' : Below base W0 w' := (HB.out.alloc (by omega) _).trans (hb'.mono (by simp; omega))
          have hF' : ∀ k, k < w.heap.size → k ≠ gb → w'.heap[k]? = w.heap[k]? := fun k hk hn => by
            rw [hb'.block k (by have := HSZ.out; simp; omega), Below.heap_alloc wr _ k (by have := HSZ.out; omega)]
            exact HF.out k hk hn
          have hS' : w.heap.size ≤ w'.heap.size := by have := HSZ.out; omega
          go_roundg (l0.length - (j + 1))
          case measure => omega
          case rel => exact ⟨i, j + 1, dk, rfl, by go_num, by omega, Nat.le_refl _, by omega, ⟨HK.out.skip hlt (by rw [HU.out]; exact hq)⟩, ⟨hX'⟩, ⟨hB'⟩, ⟨hF'⟩, ⟨hS'⟩⟩
      · obtain rfl : j = l0.length := by omega
        have hltz : ¬ (l0.length : Int) < (l0.length : Int) := by omega
        have hcap : ¬ cap = i := by omega
        have hil : (i : Int) ≤ (l0.length : Int) := by omega
        have hic : (i : Int) ≤ (cap : Int) := by omega
        obtain ⟨zs, hzl, hcl⟩ : ∃ zs : List Value, zs.length = (l0.length - i) * 2 ∧ ∀ ty, (Builtin.clear_ #[33] ty #[.slice (some ⟨gb, i * 2, none⟩) (l0.length - i) (cap - i)]).run Try.prog wr = .ok (.tuple #[]) (wr.setCells gb (i * 2) zs) := by
          obtain ⟨zs, h1, h2⟩ := run_clear_ext HX.out (i := i) (by omega) 0 (cap - i)
          rw [hdl] at h1 h2
          exact ⟨zs, h1, fun ty => h2⟩
        have HZ := Aside0.mk hzl
        have HD := Aside0.mk hdl
        clear hzl hdl
        go_wp2
        go_ret
        have hfr := HK.out.front
        rw [List.take_length] at hfr
        refine ⟨_, rfl, ?_, ?_, fun k hk hn => by rw [setCells_far zs _ k hn]; exact HF.out k hk hn⟩
        · rw [← hfr]
          have := (HX.out.cut (i := i) (by have := HD.out; omega) zs (by rw [HZ.out]; have := HD.out; omega)).to_R hb
          rw [List.length_take, HD.out, Nat.min_eq_left (by omega)] at this
          exact this
        · refine HB.out.trans ⟨?_, ?_, ?_, ?_, ?_⟩
          · exact (setCells_same gb zs (i * 2) wr).1
          · exact (setCells_same gb zs (i * 2) wr).2.1
          · exact (setCells_same gb zs (i * 2) wr).2.2.1
          · rw [(setCells_same gb zs (i * 2) wr).2.2.2]; exact Nat.le_refl _
          · intro k hk
            exact setCells_far zs _ k (by omega)
theorem k23_M {w w' : World} {base : Nat} {ok : Nat → Prop} {x : S23} {cs : List Value} (h : k23.K w x cs) : k23.M w' base ok x cs := by
  rw [k23_open h]
  exact k23_mkM _ _ _ _
set_option maxHeartbeats 4000000 in
theorem clone_ext (ad : Addr) (c0 : Nat) (l0 : List S23) (w : World) (hr0 : Kd.C k23 w (some ad) l0.length l0) (hc0 : l0.length ≤ c0) (hl : l0.length < 8796093022208) :
    Calls Try.prog 25 #[.slice (some ad) l0.length c0] w fun e w' => ∃ v0_ : Value, e = .returned (v0_) ∧ Kd.R k23 23 w' w.heap.size (fun _ => True) v0_ l0 ∧ Below w.heap.size w w' := by
  have HR0 := Aside0.mk hr0
  have HC0 := Aside0.mk hc0
  clear hr0 hc0
  have HB := Aside0.mk (Below.refl w.heap.size w)
  have LM := Aside0.mk hl
  clear hl
  have HN := @Lib.run_eql_slice_nil Try.prog w 33 23 (some ad) l0.length c0 0 0 Try.underlying33
  go_enter Try.func25, Try.ntmps25
  go_wp2_with (first | ((with_reducible refine gate_dst (N := 5) rfl ?_); refine Kd.R_lit k23 _ 23 ?hg (N := 5) ?hd (xs := ([] : List S23)) (inner := []) (ok := fun _ => True) (okp := fun _ => True) ?hr ?hp (fun _ hk => hk) trivial (Below.refl _ _) (Nat.le_refl _) (by simp) ?_; (case hd => rfl); (case hg => rfl); (case hr => first | (go_simp; done) | (go_simp; rfl)); (case hp => exact (Reps.none _ _)); intro v5 w4 ho5 hb hg_ hnew_; clear hg_ hnew_; have HO5 := Aside0.mk (Kd.R_lower ho5 (below_size HB.out)); have n1_ := Aside0.mk (below_step HB.out hb); clear HB; have HB := n1_; clear n1_; clear hb ho5) | ((with_reducible refine gate_builtin (b := .append) (xs := #[.tmp 5, .tmp 6]) rfl ?_); at_builtin; refine Kd.R_append_rows k23 (w0 := w) w.heap.size rfl (.tmp 5) (.tmp 6) 33 23 (.agg #[(.int .i64 0), (.int .i64 0)]) 16 rfl Try.underlying33 info23 rfl (by decide) (by omega) v5 [] l0 _ _ _ (fun _ => True) (fun _ => False) rfl rfl ?aO ?aR (fun _ _ h => h) (fun _ h => h.elim) ?aF ?aB ?aS ?aL ?_; (case aR => exact (ReadsRow.imp_ (Kd.C_below HR0.out HB.out) (Below.refl _ _) (fun p c h => k23_M h))); (case aB => exact HB.out); (case aF => exact (fun _ _ => trivial)); (case aO => exact HO5.out); (case aS => exact (below_size HB.out)); (case aL => have := LM.out; simp; omega); intro v7 w6 ho hb hg hat; have n0_ := Aside0.mk (hb); have HO7 := Aside0.mk (ho); clear HB; have HB := n0_; clear n0_; clear ho hb hg hat))
  go_ret
  exact ⟨_, rfl, by simpa using HO7.out, HB.out⟩
theorem new_blk (w : World) (o : Obj) : (w.alloc o).heap[w.heap.size]? = some o := by simp [World.alloc, -World.alloc_eq]
theorem cell_of_blk {w : World} {g j : Nat} {cs : Array Value} {t : TypeId} {v : Value} (h : w.heap[g]? = some (.cells cs t (0, 0))) (hj : cs[j]? = some v) : w.cell? ⟨g, j, none⟩ = some v := by simp [World.cell?, h, hj]
/-- Block b is a map of numbers, true at those of S. -/
def OwnSet (w : World) (b n : Nat) (S : Int → Bool) : Prop :=
  ∃ D : DataW Unit, w.ownsMap Try.prog 3 (plainElem Try.prog 4) b n D ∧ Maps.IsMap D ∧ ∀ q : Int, (Lit.int .i64 q).wf = true → D.atKey (.int .i64 q) (.lit (.bool false)) = .lit (.bool (S q))
theorem OwnSet.made (w : World) : OwnSet (w.alloc (.map #[] 0)) w.heap.size 0 (fun _ => false) :=
  ⟨.map [], World.ownsMap_made w _ _ _, ⟨[], rfl⟩, fun q _ => rfl⟩
theorem OwnSet.same {w w' : World} {b n : Nat} {S : Int → Bool} (h : OwnSet w b n S) (hs : w'.heap[b]? = w.heap[b]?) : OwnSet w' b n S := by
  obtain ⟨D, ⟨es, clock, hb, r⟩, hm, hat⟩ := h
  exact ⟨D, ⟨es, clock, hs.trans hb, r⟩, hm, hat⟩
theorem OwnSet.lt {w : World} {b n : Nat} {S : Int → Bool} (h : OwnSet w b n S) : b < w.heap.size := by
  obtain ⟨D, hD, _⟩ := h
  exact hD.lt
theorem OwnSet.below {w w' : World} {b n : Nat} {S : Int → Bool} (h : OwnSet w b n S) (hb : Below w.heap.size w w') : OwnSet w' b n S := h.same (hb.block b h.lt)
theorem plainElem_bool_inv {v : Value} {z : DataW Unit × List MemPlace} (h : plainElem Try.prog 4 v = some z) : ∃ x, v = .bool x ∧ z = (.lit (.bool x), []) := by
  unfold plainElem at h
  rw [Try.underlying4] at h
  cases v <;> simp at h
  exact ⟨_, rfl, h.symm⟩
theorem OwnSet.look {w : World} {b n : Nat} {S : Int → Bool} (h : OwnSet w b n S) {q : Int} (hq : (Lit.int .i64 q).wf = true) : (Instr.lookup 52 (.map (some b)) (.int .i64 q) false).run Try.prog w = .ok (.bool (S q)) w := by
  obtain ⟨D, hD, hm, hat⟩ := h
  obtain ⟨v, ps, hrun, hv⟩ := hD.lookup (Maps.int_keyed Try.underlying3) Try.underlying52 (z := .bool false) (by rw [Try.zeroValue4]) (plainElem_bool Try.underlying4 false) (Maps.keyOf_int_mk Try.underlying3 hq)
  obtain ⟨x, rfl, hx⟩ := plainElem_bool_inv hv
  rw [hat q hq] at hx
  simp only [Prod.mk.injEq, DataW.lit.injEq, Lit.bool.injEq] at hx
  rw [hx.1]
  exact hrun
theorem OwnSet.upd {w : World} {b n : Nat} {S : Int → Bool} (h : OwnSet w b n S) (hn : n < maxLen) {q : Int} (hq : (Lit.int .i64 q).wf = true) :
    ∃ w', (Instr.mapUpdate 52 (.map (some b)) (.int .i64 q) (.bool true)).run Try.prog w = .ok () w' ∧ OwnSet w' b (n + 1) (fun x => S x || x == q) ∧ w.grownBy w' (some b) := by
  obtain ⟨D, hD, hm, hat⟩ := h
  obtain ⟨w', hrun, hD', hg⟩ := hD.update (Maps.int_keyed Try.underlying3) Try.underlying52 hn (Maps.keyOf_int_mk Try.underlying3 hq) (plainElem_bool Try.underlying4 true)
  refine ⟨w', hrun, ⟨_, hD', hm.put _ _, fun x hx => ?_⟩, hg⟩
  by_cases e : x = q
  · subst e
    rw [Maps.atKey_put_same hm (by trivial)]
    simp
  · rw [Maps.atKey_put_other (by intro h; injection h with _ h; exact e h), hat x hx]
    simp [e]
/-- Is a block one of a room's, where the room may be? -/
def hasB (b : Int) (e : S23) (q : Int) : Bool := decide (ext_Check.f e.f0 e.f1 b = some 0) && (decide (e.f0 ≤ q) && decide (q < e.f0 + e.f1))
def takenB (b : Int) (l : List S23) (q : Int) : Bool := l.any fun e => hasB b e q
/-- One more free block behind pieces. -/
def addTo (l : List S23) (i : Int) : List S23 :=
  match l.getLast? with
  | some e => if e.f0 + e.f1 = i then l.dropLast ++ [⟨e.f0, e.f1 + 1⟩] else l ++ [⟨i, 1⟩]
  | none => [⟨i, 1⟩]
def scanF (T : Int → Bool) : Nat → List S23
  | 0 => []
  | j + 1 => if T (2 + (j : Int)) then scanF T j else addTo (scanF T j) (2 + (j : Int))
/-- What ext.Free answers. -/
def ext_Free.f (b : Int) (l : List S23) : Option (List S23) :=
  if l.length ≤ 1000 then some (scanF (takenB b l) ((mn b 1024) - 2).toNat) else none
theorem check_bd {x y b : Int} (h : ext_Check.f x y b = some 0) : 1 ≤ y ∧ 2 ≤ x ∧ x ≤ 1024 ∧ x + y ≤ mn b 1024 := by
  have hm : mn b 1024 ≤ 1024 := by unfold mn; split <;> omega
  unfold ext_Check.f at h
  by_cases c1 : y < 1
  · rw [if_pos c1] at h; cases h
  · rw [if_neg c1] at h
    by_cases c2 : x < 2
    · rw [if_pos c2] at h; cases h
    · rw [if_neg c2] at h
      by_cases c3 : x > mn b 1024
      · rw [if_pos c3] at h; cases h
      · rw [if_neg c3] at h
        by_cases c4 : y > wrap64 (mn b 1024 - x)
        · rw [if_pos c4] at h; cases h
        · have : wrap64 (mn b 1024 - x) = mn b 1024 - x := by unfold wrap64; omega
          omega
theorem check_some (x y b : Int) : ∃ c, ext_Check.f x y b = some c := by
  unfold ext_Check.f
  repeat' split
  all_goals exact ⟨_, rfl⟩
theorem addTo_len (l : List S23) (i : Int) : (addTo l i).length ≤ l.length + 1 := by
  unfold addTo
  split
  · split
    · simp
      try omega
    · simp
  · simp
theorem takenB_snoc (b : Int) (l : List S23) (e : S23) (q : Int) : takenB b (l ++ [e]) q = (takenB b l q || hasB b e q) := by simp [takenB]
theorem takeT_succ {l : List S23} {j : Nat} (hj : j < l.length) : l.take (j + 1) = l.take j ++ [rd_T23 l (j : Int)] := by
  rw [List.take_succ_eq_append_getElem hj, rdT_elem hj]
theorem scanF_len (T : Int → Bool) (j : Nat) : (scanF T j).length ≤ j := by
  induction j with
  | zero => simp [scanF]
  | succ j ih =>
    unfold scanF
    split
    · omega
    · have := addTo_len (scanF T j) (2 + (j : Int)); omega
theorem scan_last {T : Int → Bool} {j n : Nat} (hn : 1 ≤ n) (hf : ∀ i : Nat, i < n → T (2 + ((j + i : Nat) : Int)) = false) (hb : ∀ e, (scanF T j).getLast? = some e → e.f0 + e.f1 ≠ 2 + (j : Int)) :
    scanF T (j + n) = scanF T j ++ [⟨2 + (j : Int), (n : Int)⟩] := by
  induction n with
  | zero => omega
  | succ n ih =>
    have h0 := hf n (by omega)
    rw [show j + (n + 1) = (j + n) + 1 from rfl, scanF, h0, if_neg (by simp)]
    by_cases c : n = 0
    · subst c
      simp only [Nat.add_zero]
      unfold addTo
      cases hl : (scanF T j).getLast? with
      | none =>
        rw [List.getLast?_eq_none_iff] at hl
        rw [hl]
        simp
      | some e =>
        have := hb e hl
        simp only []
        rw [if_neg this]
        simp
    · rw [ih (by omega) (fun i hi => hf i (by omega))]
      unfold addTo
      rw [List.getLast?_concat]
      simp only []
      rw [if_pos (by omega), List.dropLast_concat]
      congr 3
/-- Where ext.Free stands at its label. -/
structure LabX (a0 : Int) (l1 : List S23) (w w' : World) (kq j : Nat) (v : Value) : Prop where
  le : j ≤ ((mn a0 1024) - 2).toNat
  left : ((mn a0 1024) - 2).toNat + 1 - j ≤ kq
  out : Kd.R k23 23 w' (w.heap.size + 1) (fun _ => True) v (scanF (takenB a0 l1) j)
  bound : ∀ e, (scanF (takenB a0 l1) j).getLast? = some e → e.f0 + e.f1 ≤ 2 + (j : Int) ∧ (e.f0 + e.f1 = 2 + (j : Int) → takenB a0 l1 (2 + (j : Int)) = true ∨ ((mn a0 1024) - 2).toNat ≤ j)
  set : OwnSet w' w.heap.size (l1.length * 1024) (takenB a0 l1)
  below : Below w.heap.size w w'
theorem mn_max (a : Int) : mn a 1024 ≤ 1024 := by unfold mn; split <;> omega
set_option maxHeartbeats 8000000 in
set_option maxRecDepth 100000 in
theorem ext_Free.calls (a0 : Int) (A1 : Option Addr) (c1 : Nat) (l1 : List S23) (r : List S23) (w : World) (hr1 : Kd.C k23 w A1 l1.length l1) (hc1 : l1.length ≤ c1) (h : ext_Free.f a0 l1 = some r) :
    Calls Try.prog 15 #[.int .i64 a0, .slice A1 l1.length c1] w fun e w' => ∃ v0_ : Value, e = .returned (v0_) ∧ Kd.R k23 23 w' w.heap.size (fun _ => True) v0_ r ∧ Below w.heap.size w w' := by
  unfold ext_Free.f at h
  split at h
  case isFalse => cases h
  case isTrue hlen =>
  obtain rfl := Option.some.inj h
  have HL := Aside0.mk hlen
  have HC := Aside0.mk hr1
  have hmm := @run_makeMap Try.prog
  clear h hr1 hc1
  go_enter Try.func15, Try.ntmps15
  go_wp2
  refine wp_scope_labs ?_
  intro G_ hG_
  go_wp2
  go_loopg [8, 9, 15] l1.length (fun gg _ _ s15 wr => ∃ kk : Nat, kk ≤ l1.length ∧ l1.length - kk ≤ gg ∧ s15 = .int .i64 kk ∧ Aside0 (OwnSet wr w.heap.size (kk * 1024) (takenB a0 (l1.take kk))) ∧ Aside0 (Below w.heap.size w wr))
  case atStart => exact ⟨0, Nat.zero_le _, by omega, rfl, ⟨OwnSet.made w⟩, ⟨(Below.refl _ _).alloc (Nat.le_refl _) _⟩⟩
  case round =>
    obtain ⟨kk, hkk, hg, rfl, HS, HB⟩ := hrel
    by_cases hlt : kk < l1.length
    · have hltz : (kk : Int) < (l1.length : Int) := by omega
      obtain ⟨ad, rfl, hx0, hx1⟩ := at_T23 HC.out (kk : Int) (by omega) (by omega)
      replace hx0 := (HB.out.cell (World.block_lt_of_cell? w _ hx0)).trans hx0
      replace hx1 := (HB.out.cell (World.block_lt_of_cell? w _ hx1)).trans hx1
      rw [Int.toNat_natCast] at hx0 hx1
      have hts := takeT_succ hlt
      generalize hy : rd_T23 l1 (kk : Int) = y at hx0 hx1 hts
      have HY := Aside0.mk hy
      have HT := Aside0.mk hts
      clear hy hts
      have hbs := HS.out.lt
      have hne : w.heap.size ≠ wr.heap.size := by omega
      obtain ⟨c, hc⟩ := check_some y.f0 y.f1 a0
      by_cases hc0 : c = 0
      · subst hc0
        obtain ⟨b1, b2, b3, b4⟩ := check_bd hc
        have hm : mn a0 1024 ≤ 1024 := by unfold mn; split <;> omega
        have b5 : y.f1 ≤ 1024 := by omega
        have HCK := Aside0.mk hc
        clear b4 hm
        go_wp2_with (go_at_call 10; refine (ext_Check.calls y.f0 y.f1 a0 0 _ HCK.out).mono ?_; rintro e w' ⟨rfl, hb'⟩; obtain ⟨hc, hf⟩ := bcell hb'; have hz : wr.heap.size < w'.heap.size := by (have := hb'.size; simp at this; omega))
        have hS' : OwnSet w' w.heap.size (kk * 1024) (takenB a0 (l1.take kk)) := (HS.out.same (Below.heap_alloc wr _ _ hbs)).below hb'
        have hB' : Below w.heap.size w w' := (HB.out.alloc (by omega) _).trans (hb'.mono (by simp; omega))
        have hbx : w'.heap[wr.heap.size]? = some (.cells #[.int .i64 y.f0, .int .i64 y.f1] 23 (0, 0)) := blk_below (new_blk wr _) hb'
        have HS' := Aside0.mk hS'
        have HB' := Aside0.mk hB'
        have HX' := Aside0.mk hbx
        clear hS' hB' hbx hc hf hb' hx0 hx1
        obtain ⟨BX, hBX⟩ : ∃ BX, BX = wr.heap.size := ⟨_, rfl⟩
        rw [← hBX] at HX' ⊢
        have hBX2 : w.heap.size ≤ BX := by omega
        have hBX3 : BX ≠ w.heap.size := by omega
        clear hBX hz
        obtain ⟨wo, rfl⟩ : ∃ wo : World, wo = wr := ⟨_, rfl⟩
        go_loopg [9, 25] y.f1.toNat (fun gg _ s25 w2 => ∃ m : Nat, (m : Int) ≤ y.f1 ∧ y.f1.toNat - m ≤ gg ∧ s25 = .int .i64 m ∧ Aside0 (OwnSet w2 w.heap.size (kk * 1024 + m) (fun q => takenB a0 (l1.take kk) q || (decide (y.f0 ≤ q) && decide (q < y.f0 + m)))) ∧ Aside0 (Below w.heap.size w w2) ∧ Aside0 (w2.heap[BX]? = some (.cells #[.int .i64 y.f0, .int .i64 y.f1] 23 (0, 0))))
        case atStart =>
          refine ⟨0, by omega, by omega, rfl, ⟨?_⟩, HB', HX'⟩
          have e : (fun q => takenB a0 (l1.take kk) q || (decide (y.f0 ≤ q) && decide (q < y.f0 + ((0 : Nat) : Int)))) = takenB a0 (l1.take kk) := by
            funext q
            by_cases c : y.f0 ≤ q
            · rw [decide_eq_false (show ¬ q < y.f0 + ((0 : Nat) : Int) by omega)]; simp
            · rw [decide_eq_false c]; simp
          rw [e]
          exact HS'.out
        case round =>
          clear HS' HB' HX'
          obtain ⟨m, hm, hgg, rfl, HS2, HB2, HX2⟩ := hrel
          have p0 := cell_of_blk HX2.out (j := 0) rfl
          have p1 := cell_of_blk HX2.out (j := 1) rfl
          by_cases hlt2 : (m : Int) < y.f1
          · obtain ⟨w3, hup, hS3, hg3⟩ := HS2.out.upd (q := y.f0 + (m : Int)) (by have := HL.out; unfold maxLen; omega) (WalkArith.wf_i64 (by omega))
            have HS3 := Aside0.mk hS3
            have HG3 := Aside0.mk hg3
            have HSL := Aside0.mk HS2.out.lt
            clear hS3 hg3
            go_wp2
            go_roundg (y.f1.toNat - (m + 1))
            case measure => omega
            case rel =>
              refine ⟨m + 1, by omega, by omega, by go_num, ⟨?_⟩, ⟨?_⟩, ⟨?_⟩⟩
              · have e : (fun q => takenB a0 (l1.take kk) q || (decide (y.f0 ≤ q) && decide (q < y.f0 + ((m + 1 : Nat) : Int)))) = (fun x => (takenB a0 (l1.take kk) x || (decide (y.f0 ≤ x) && decide (x < y.f0 + (m : Int)))) || x == y.f0 + (m : Int)) := by
                  funext q
                  rw [Bool.or_assoc]
                  congr 1
                  rw [Bool.eq_iff_iff]
                  simp
                  omega
                rw [e]
                exact HS3.out
              · exact HB2.out.grown HG3.out (by have := HSL.out; omega) (fun k hk => by injection hk with hk; omega)
              · exact (HG3.out.block BX (blk_lt HX2.out) (by intro h; injection h with h; exact hBX3 h)).trans HX2.out
          · have hme : (m : Int) = y.f1 := by omega
            have HME := Aside0.mk hme
            clear hme
            go_wp2
            go_roundg (l1.length - (kk + 1))
            case measure => omega
            case rel =>
              refine ⟨kk + 1, by omega, by omega, by go_num, ⟨?_⟩, HB2⟩
              have e : takenB a0 (l1.take (kk + 1)) = (fun q => takenB a0 (l1.take kk) q || (decide (y.f0 ≤ q) && decide (q < y.f0 + (m : Int)))) := by
                funext q
                rw [HT.out, takenB_snoc]
                unfold hasB
                rw [HCK.out, HME.out]
                simp
              rw [e]
              obtain ⟨D, hD, hr⟩ := HS2.out
              exact ⟨D, hD.mono (by omega), hr⟩
      · have hcb : (c != 0) = true := by simpa using hc0
        have HCK := Aside0.mk hc
        have HC0 := Aside0.mk hc0
        clear hc hc0
        go_wp2_with (go_at_call 10; refine (ext_Check.calls y.f0 y.f1 a0 c _ HCK.out).mono ?_; rintro e w' ⟨rfl, hb'⟩)
        have hS' : OwnSet w' w.heap.size (kk * 1024) (takenB a0 (l1.take kk)) := (HS.out.same (Below.heap_alloc wr _ _ hbs)).below hb'
        have hB' : Below w.heap.size w w' := (HB.out.alloc (by omega) _).trans (hb'.mono (by simp; omega))
        go_roundg (l1.length - (kk + 1))
        case measure => omega
        case rel =>
          refine ⟨kk + 1, by omega, by omega, by go_num, ⟨?_⟩, ⟨hB'⟩⟩
          have e : takenB a0 (l1.take (kk + 1)) = takenB a0 (l1.take kk) := by
            funext q
            rw [HT.out, takenB_snoc]
            unfold hasB
            rw [HCK.out, decide_eq_false (by intro h; injection h with h; exact HC0.out h)]
            simp
          rw [e]
          obtain ⟨D, hD, hr⟩ := hS'
          exact ⟨D, hD.mono (by omega), hr⟩
    · have hltz : ¬ (kk : Int) < (l1.length : Int) := by omega
      obtain rfl : kk = l1.length := by omega
      go_wp2
      rw [List.take_length] at HS
      go_step3
      simp only [Exit.then]
      go_step
      refine label_ghost hG_ 0 (by rfl) (fun kq_ a_ w_ => ∃ (jj : Nat) (v5 : Value) (z : Nat → Value), LabX a0 l1 w w_ kq_ jj v5 ∧ a_ = (⟨#[.int .i64 a0, .slice A1 l1.length c1, z 2, z 3, .slice none 0 0, v5, .map (some w.heap.size), z 7, z 8, z 9, .int .i64 (2 + (jj : Int)), z 11, z 12, z 13, z 14, z 15, z 16, z 17, z 18, z 19, z 20, z 21, z 22, z 23, z 24, z 25, z 26, z 27, z 28, z 29, z 30, z 31, z 32, z 33, z 34, z 35, z 36, z 37, z 38, z 39, z 40, z 41, z 42, z 43, z 44, z 45, z 46, z 47, z 48, z 49, z 50, z 51, z 52, z 53, z 54, z 55, z 56, z 57, z 58, z 59, z 60, z 61, z 62, z 63, z 64, z 65, z 66, z 67, z 68, z 69], []⟩ : Act)) (((mn a0 1024) - 2).toNat + 1) ?_ ?_
      · refine ⟨0, .slice none 0 0, ?_⟩
        refine ⟨fun k_ => Array.getD #[undef, undef, _, _, undef, undef, undef, _, _, _, undef, _, _, _, _, _, _, _, _, _, _, _, _, _, _, _, _, _, _, _, _, _, _, _, _, _, _, _, _, _, _, _, _, _, _, _, _, _, _, _, _, _, _, _, _, _, _, _, _, _, _, _, _, _, _, _, _, _, _, _] k_ undef, ?_, rfl⟩
        exact ⟨Nat.zero_le _, by omega, Kd.R_nil _ _ _ _ _, fun e he => by simp [scanF] at he, HS.out, HB.out⟩
      intro gko a_ w2 hinv_ J_0 K_0 hJ_0 hK_0 hKG_0
      obtain ⟨jj, v5, z, HLX, ha_⟩ := hinv_
      subst ha_
      have hmx := mn_max a0
      have hjle := HLX.le
      have HLX := Aside0.mk HLX
      have hmc : (1024 < a0 ∧ mn a0 1024 = 1024) ∨ (¬ 1024 < a0 ∧ mn a0 1024 = a0) := by unfold mn; split <;> omega
      rcases hmc with ⟨hA, hM⟩ | ⟨hA, hM⟩
      all_goals
        by_cases hge : 2 + (jj : Int) ≥ mn a0 1024
        · have hjN : jj = ((mn a0 1024) - 2).toNat := by omega
          have HJN := Aside0.mk hjN
          clear hjN hmx hjle
          rw [hM] at hge
          clear hM
          go_wp2
          try rw [labs_ret]
          go_ret
          refine ⟨_, rfl, ?_, HLX.out.below⟩
          rw [← HJN.out]
          exact Kd.R_lower HLX.out.out (Nat.le_succ _)
        · have hwf : (Lit.int .i64 (2 + (jj : Int))).wf = true := WalkArith.wf_i64 (by omega)
          have hlk := HLX.out.set.look hwf
          have hj1 : jj + 1 ≤ ((mn a0 1024) - 2).toNat := by omega
          have hj2 : 2 + (jj : Int) < 1024 := by omega
          rw [hM] at hge
          have HM := Aside0.mk hM
          have HJ1 := Aside0.mk hj1
          clear hM hj1 hmx hjle hwf
          cases hT : takenB a0 l1 (2 + (jj : Int)) with
          | true =>
            rw [hT] at hlk
            have HT := Aside0.mk hT
            clear hT
            go_wp2
            go_step3
            refine hKG_0 _ _ (hK_0 _ _ (Handed.intro (gko - 1) ?measure (hJ_0 _ _ _ ?rel_)))
            case measure => have := HLX.out.left; have := HLX.out.le; omega
            case rel_ =>
              refine ⟨jj + 1, v5, ?_⟩
              refine ⟨fun k_ => Array.getD #[undef, undef, _, _, undef, undef, undef, _, _, _, undef, _, _, _, _, _, _, _, _, _, _, _, _, _, _, _, _, _, _, _, _, _, _, _, _, _, _, _, _, _, _, _, _, _, _, _, _, _, _, _, _, _, _, _, _, _, _, _, _, _, _, _, _, _, _, _, _, _, _, _] k_ undef, ?_, rfl⟩
              have h0 := HLX.out
              have hsc : scanF (takenB a0 l1) (jj + 1) = scanF (takenB a0 l1) jj := by rw [scanF, HT.out, if_pos rfl]
              refine ⟨HJ1.out, by have := h0.left; omega, by rw [hsc]; exact h0.out, ?_, h0.set, h0.below⟩
              rw [hsc]
              intro e he
              have := (h0.bound e he).1
              exact ⟨by omega, fun hh => by omega⟩
          | false =>
            rw [hT] at hlk
            have HT := Aside0.mk hT
            clear hT
            go_wp2
            have hB2 : 2 + (jj : Int) + 1 ≤ mn a0 1024 := by have := HM.out; omega
            have HB2 := Aside0.mk hB2
            clear hB2
            go_loopg [11] (mn a0 1024 - 2).toNat (fun gg s11 w3 => ∃ n : Nat, 1 ≤ n ∧ n ≤ 1024 ∧ s11 = .int .i64 n ∧ w2 = w3 ∧ Aside0 ((mn a0 1024 - 2).toNat - n ≤ gg) ∧ Aside0 (2 + (jj : Int) + n ≤ mn a0 1024) ∧ Aside0 (∀ i : Nat, i < n → takenB a0 l1 (2 + ((jj + i : Nat) : Int)) = false))
            case atStart =>
              refine ⟨1, Nat.le_refl _, by omega, rfl, rfl, ⟨by omega⟩, HB2, ⟨fun i hi => ?_⟩⟩
              obtain rfl : i = 0 := by omega
              exact HT.out
            case round =>
              obtain ⟨n, hn1, hn2, rfl, hw, HG, HN, HF⟩ := hrel
              subst hw
              have hex : (2 + (jj : Int) + n ≥ mn a0 1024) ∨ ∃ b, 2 + (jj : Int) + n < mn a0 1024 ∧ takenB a0 l1 (2 + (jj : Int) + n) = b := by
                by_cases c : 2 + (jj : Int) + n ≥ mn a0 1024
                · exact .inl c
                · exact .inr ⟨_, by omega, rfl⟩
              rcases hex with hge2 | ⟨b, hlt2, hb⟩
              · have HE := Aside0.mk (show 2 + (jj : Int) + n ≥ mn a0 1024 ∨ takenB a0 l1 (2 + (jj : Int) + n) = true from .inl hge2)
                rw [HM.out] at hge2
                have hd := decide_eq_false (Int.not_lt.mpr hge2)
                go_wp2_with ((with_reducible refine gate_builtin (b := .append) (xs := #[.tmp 61, .tmp 65]) rfl ?_); at_builtin; refine Kd.R_append k23 (w0 := w2) (w.heap.size + 1) rfl (.tmp 61) (.tmp 65) 33 23 (.agg #[(.int .i64 0), (.int .i64 0)]) 16 rfl Try.underlying33 info23 rfl (by decide) (by omega) v5 (scanF (takenB a0 l1) jj) (⟨2 + (jj : Int), (n : Int)⟩ : S23) [.int .i64 (2 + (jj : Int)), .int .i64 (n : Int)] (fun _ => True) (fun _ => False) rfl rfl ?aP (fun _ hk => hk.elim) ?aF ?aO ?aB ?aS ?aL ?_; (case aP => exact k23_mkM _ _ _ (⟨2 + (jj : Int), (n : Int)⟩ : S23)); (case aB => exact Below.refl _ _); (case aF => exact (fun _ _ => trivial)); (case aO => exact HLX.out.out); (case aS => exact HLX.out.set.lt); (case aL => have := scanF_len (takenB a0 l1) jj; omega); intro v66 w7 ho hb hg hat; have HO7 := Aside0.mk ho; have HB7 := Aside0.mk hb; have HG7 := Aside0.mk hg; clear ho hb hg hat)
                go_step3
                refine hKG_0 _ _ (hK_0 _ _ (Handed.intro (gko - n) ?measure (hJ_0 _ _ _ ?rel_)))
                case measure => have := HLX.out.left; have := HLX.out.le; omega
                case rel_ =>
                  refine ⟨jj + n, v66, ?_⟩
                  rw [show (2 : Int) + (jj : Int) + (n : Int) = 2 + ((jj + n : Nat) : Int) from by omega]
                  refine ⟨fun k_ => Array.getD #[undef, undef, _, _, undef, undef, undef, _, _, _, undef, _, _, _, _, _, _, _, _, _, _, _, _, _, _, _, _, _, _, _, _, _, _, _, _, _, _, _, _, _, _, _, _, _, _, _, _, _, _, _, _, _, _, _, _, _, _, _, _, _, _, _, _, _, _, _, _, _, _, _] k_ undef, ?_, rfl⟩
                  have h0 := HLX.out
                  have hsc := scan_last (T := takenB a0 l1) (j := jj) (n := n) hn1 HF.out (fun e he hh => by
                    rcases (h0.bound e he).2 hh with h1 | h1
                    · rw [HT.out] at h1; cases h1
                    · have := HJ1.out; omega)
                  have hne : ∀ k, v5.ownBlock = some k → w.heap.size + 1 ≤ k := fun k hk => Kd.R_base h0.out k hk
                  refine ⟨by have := HN.out; omega, by have := h0.left; omega, by rw [hsc]; exact HO7.out, ?_, ?_, ?_⟩
                  · rw [hsc]
                    intro e he
                    rw [List.getLast?_concat] at he
                    obtain rfl := Option.some.inj he
                    refine ⟨by show 2 + (jj : Int) + (n : Int) ≤ _; omega, fun _ => ?_⟩
                    rcases HE.out with h1 | h1
                    · exact .inr (by omega)
                    · exact .inl (by rw [show (2 : Int) + ((jj + n : Nat) : Int) = 2 + (jj : Int) + (n : Int) from by omega]; exact h1)
                  · exact h0.set.same (HB7.out.block _ (Nat.lt_succ_self _))
                  · exact h0.below.trans (HB7.out.mono (Nat.le_succ _))
              · have hlk2 := HLX.out.set.look (q := 2 + (jj : Int) + (n : Int)) (WalkArith.wf_i64 (by have := mn_max a0; omega))
                rw [hb] at hlk2
                have HL2 := Aside0.mk hlt2
                rw [HM.out] at hlt2
                have hd := decide_eq_true hlt2
                cases b with
                | true =>
                  have HE := Aside0.mk (show 2 + (jj : Int) + n ≥ mn a0 1024 ∨ takenB a0 l1 (2 + (jj : Int) + n) = true from .inr hb)
                  clear hb
                  go_wp2_with ((with_reducible refine gate_builtin (b := .append) (xs := #[.tmp 61, .tmp 65]) rfl ?_); at_builtin; refine Kd.R_append k23 (w0 := w2) (w.heap.size + 1) rfl (.tmp 61) (.tmp 65) 33 23 (.agg #[(.int .i64 0), (.int .i64 0)]) 16 rfl Try.underlying33 info23 rfl (by decide) (by omega) v5 (scanF (takenB a0 l1) jj) (⟨2 + (jj : Int), (n : Int)⟩ : S23) [.int .i64 (2 + (jj : Int)), .int .i64 (n : Int)] (fun _ => True) (fun _ => False) rfl rfl ?aP (fun _ hk => hk.elim) ?aF ?aO ?aB ?aS ?aL ?_; (case aP => exact k23_mkM _ _ _ (⟨2 + (jj : Int), (n : Int)⟩ : S23)); (case aB => exact Below.refl _ _); (case aF => exact (fun _ _ => trivial)); (case aO => exact HLX.out.out); (case aS => exact HLX.out.set.lt); (case aL => have := scanF_len (takenB a0 l1) jj; omega); intro v66 w7 ho hb hg hat; have HO7 := Aside0.mk ho; have HB7 := Aside0.mk hb; have HG7 := Aside0.mk hg; clear ho hb hg hat)
                  go_step3
                  refine hKG_0 _ _ (hK_0 _ _ (Handed.intro (gko - n) ?measure (hJ_0 _ _ _ ?rel_)))
                  case measure => have := HLX.out.left; have := HLX.out.le; omega
                  case rel_ =>
                    refine ⟨jj + n, v66, ?_⟩
                    rw [show (2 : Int) + (jj : Int) + (n : Int) = 2 + ((jj + n : Nat) : Int) from by omega]
                    refine ⟨fun k_ => Array.getD #[undef, undef, _, _, undef, undef, undef, _, _, _, undef, _, _, _, _, _, _, _, _, _, _, _, _, _, _, _, _, _, _, _, _, _, _, _, _, _, _, _, _, _, _, _, _, _, _, _, _, _, _, _, _, _, _, _, _, _, _, _, _, _, _, _, _, _, _, _, _, _, _, _] k_ undef, ?_, rfl⟩
                    have h0 := HLX.out
                    have hsc := scan_last (T := takenB a0 l1) (j := jj) (n := n) hn1 HF.out (fun e he hh => by
                      rcases (h0.bound e he).2 hh with h1 | h1
                      · rw [HT.out] at h1; cases h1
                      · have := HJ1.out; omega)
                    have hne : ∀ k, v5.ownBlock = some k → w.heap.size + 1 ≤ k := fun k hk => Kd.R_base h0.out k hk
                    refine ⟨by have := HN.out; omega, by have := h0.left; omega, by rw [hsc]; exact HO7.out, ?_, ?_, ?_⟩
                    · rw [hsc]
                      intro e he
                      rw [List.getLast?_concat] at he
                      obtain rfl := Option.some.inj he
                      refine ⟨by show 2 + (jj : Int) + (n : Int) ≤ _; omega, fun _ => ?_⟩
                      rcases HE.out with h1 | h1
                      · exact .inr (by omega)
                      · exact .inl (by rw [show (2 : Int) + ((jj + n : Nat) : Int) = 2 + (jj : Int) + (n : Int) from by omega]; exact h1)
                    · exact h0.set.same (HB7.out.block _ (Nat.lt_succ_self _))
                    · exact h0.below.trans (HB7.out.mono (Nat.le_succ _))
                | false =>
                  have Hb := Aside0.mk hb
                  clear hb
                  go_wp2
                  go_roundg (gk - 1)
                  case measure => have := HG.out; have := HL2.out; omega
                  case rel =>
                    refine ⟨n + 1, by omega, by have := mn_max a0; have := HL2.out; omega, by go_num, rfl, ⟨by have := HG.out; have := HL2.out; omega⟩, ⟨by have := HL2.out; omega⟩, ⟨fun i hi => ?_⟩⟩
                    by_cases e : i = n
                    · subst e
                      rw [show (2 : Int) + ((jj + i : Nat) : Int) = 2 + (jj : Int) + (i : Int) from by omega]
                      exact Hb.out
                    · exact HF.out i (by omega)

-- NOT PRINTED: function 23 (ext_Ext_23)

-- NOT PRINTED: function 25 (ext_Ext_25)

-- NOT PRINTED: function 26 (ext_Ext_26)

end Go.Proofs.Ytijhfdhcnagkcaa.PAll
