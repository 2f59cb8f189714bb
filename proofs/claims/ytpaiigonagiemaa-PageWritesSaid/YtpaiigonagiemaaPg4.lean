/- page.Read over a system of devices. -/
import Derived.Test.YtpaiigonagiemaaPg3
namespace Go.Proofs.Ytpaiigonagiemaa.PAll
open Go.Proofs.Ytpaiigonagiemaa.Help
open Go.RowKit Go.Proofs.YtpaiigonagiemaaW.PrintWords Go.Proofs.YtpaiigonagiemaaW.PrintLast Go.Proofs.YtpaiigonagiemaaW.PrintMore
open Go.Proofs.Ytpaiigonagiemaa.Num (isB enc psz wrapB unwrapB isB_append isB_take isB_drop isB_nil)
set_option linter.unusedVariables false
set_option linter.unusedSimpArgs false
/-- Blocks that are read, one behind the other. -/
def pgR (B : List Int) (L : List (Int × List Int)) (at_ : Int) : Nat → List Int
  | 0 => []
  | k + 1 => pgR B L at_ k ++ rblk B L (at_ + (k : Int))
theorem rblk_isB {B : List Int} {L : List (Int × List Int)} (hB : isB B) (hL : ∀ x ∈ L, isB x.2) (j : Int) : isB (rblk B L j) := by
  have key : ∀ k b, lastAt L j k = some b → isB b := by
    intro k
    induction k with
    | zero => intro b h; cases h
    | succ k ih =>
      intro b h
      unfold lastAt at h
      cases hx : L[k]? with
      | none => rw [hx] at h; exact ih b h
      | some x =>
        rw [hx] at h
        simp only at h
        split at h
        · obtain rfl := Option.some.inj h
          exact hL x (List.mem_of_getElem? hx)
        · exact ih b h
  unfold rblk
  cases h : lastAt L j L.length with
  | some b => exact key _ b h
  | none => exact isB_take (isB_drop hB _) 64
theorem pgR_isB {B : List Int} {L : List (Int × List Int)} (hB : isB B) (hL : ∀ x ∈ L, isB x.2) (at_ : Int) (k : Nat) : isB (pgR B L at_ k) := by
  induction k with
  | zero => exact isB_nil
  | succ k ih => exact isB_append ih (rblk_isB hB hL _)
theorem pgR_length {n : Nat} {B : List Int} {L : List (Int × List Int)} (hB : B.length = n * 64) (hw : ∀ x ∈ L, x.2.length = 64) {at_ : Int} (h0 : 0 ≤ at_) (k : Nat) (hk : at_ + (k : Int) ≤ n) : (pgR B L at_ k).length = k * 64 := by
  induction k with
  | zero => rfl
  | succ k ih =>
    unfold pgR
    rw [List.length_append, ih (by omega), rblk_length hB hw (by omega) (by omega)]
    omega
theorem page_read_bad {w0 W : World} {D : Nat → Option MSt} {R : List (Nat × Obj)} (h : Mix w0 W D R) {i p n : Nat} {B : List Int} {L : List (Int × List Int)} (hi : D i = some ⟨false, p, n, B, L⟩) {at_ m : Int} (hbad : m < 1 ∨ at_ < 0 ∨ (n : Int) < at_ ∨ (n : Int) - at_ < m) :
    Calls Try.prog 18 #[.pointer (some ⟨p, 0, none⟩), .int .i64 at_, .int .i64 m] W fun e w' => e = .returned (.tuple #[.slice none 0 0, .int .i64 9]) ∧ W = w' := by
  have hn4 : n ≤ 1024 := (h.ok hi).nm
  have hbl := Aside0.mk (h.blocks hi)
  clear h hi
  by_cases c1 : m < 1
  · go_enter Try.func18, Try.ntmps18
    go_wp2_with (first | (go_at_call 40; refine hbl.out.mono ?_; rintro e w2 ⟨rfl, rfl⟩) | fail)
    all_goals first | (exfalso; omega) | skip
    all_goals go_ret2
    all_goals exact ⟨rfl, rfl⟩
  · have d1 : decide (m < 1) = false := decide_eq_false c1
    by_cases c2 : at_ < 0
    · go_enter Try.func18, Try.ntmps18
      go_wp2_with (first | (go_at_call 40; refine hbl.out.mono ?_; rintro e w2 ⟨rfl, rfl⟩) | fail)
      all_goals first | (exfalso; omega) | skip
      all_goals go_ret2
      all_goals exact ⟨rfl, rfl⟩
    · have d2 : decide (at_ < 0) = false := decide_eq_false c2
      by_cases c3 : (n : Int) < at_
      · go_enter Try.func18, Try.ntmps18
        go_wp2_with (first | (go_at_call 40; refine hbl.out.mono ?_; rintro e w2 ⟨rfl, rfl⟩) | fail)
        all_goals first | (exfalso; omega) | skip
        all_goals go_ret2
        all_goals exact ⟨rfl, rfl⟩
      · have d3 : decide ((n : Int) < at_) = false := decide_eq_false c3
        have hws : IntKind.i64.wrap ((n : Int) - at_) = (n : Int) - at_ := wrapI (by omega) (by omega)
        have d4 : decide ((n : Int) - at_ < m) = true := decide_eq_true (by omega)
        go_enter Try.func18, Try.ntmps18
        go_wp2_with (first | (go_at_call 40; refine hbl.out.mono ?_; rintro e w2 ⟨rfl, rfl⟩) | fail)
        all_goals first | (exfalso; omega) | skip
        all_goals go_ret2
        all_goals exact ⟨rfl, rfl⟩
set_option maxRecDepth 100000 in
set_option maxHeartbeats 4000000 in
theorem page_read {w0 W : World} {D : Nat → Option MSt} {R : List (Nat × Obj)} (h : Mix w0 W D R) {i p n : Nat} {B : List Int} {L : List (Int × List Int)} (hi : D i = some ⟨false, p, n, B, L⟩) (hl : L.length < 4294967296) (hBB : isB B) (hLB : ∀ x ∈ L, isB x.2) {at_ : Int} {m : Nat} (h0 : 0 ≤ at_) (h1 : 1 ≤ m) (hfit : at_ + (m : Int) ≤ n) :
    Calls Try.prog 18 #[.pointer (some ⟨p, 0, none⟩), .int .i64 at_, .int .i64 m] W fun e w' => ∃ v0_ : Value, e = .returned (.tuple #[v0_, .int .i64 (unwrapB (pgR B L at_ m)).2]) ∧ Kd.R (Kd.int .u8) 5 w' W.heap.size (fun _ => True) v0_ (unwrapB (pgR B L at_ m)).1 ∧ Below W.heap.size W w' := by
  have ok := h.ok hi
  have hn4 : n ≤ 1024 := ok.nm
  have hlen := pgR_length (L := L) ok.len (fun x hx => (ok.wait x hx).2.2) h0
  have HLEN := Aside0.mk hlen
  have HX := Aside0.mk h
  have HI := Aside0.mk hi
  have HL := Aside0.mk hl
  have HIB := Aside0.mk (pgR_isB hBB hLB at_)
  have hbl := Aside0.mk (h.blocks hi)
  have d1 : decide ((m : Int) < 1) = false := decide_eq_false (by omega)
  have d2 : decide (at_ < 0) = false := decide_eq_false (by omega)
  have d3 : decide ((n : Int) < at_) = false := decide_eq_false (by omega)
  have hws : IntKind.i64.wrap ((n : Int) - at_) = (n : Int) - at_ := wrapI (by omega) (by omega)
  have d4 : decide ((n : Int) - at_ < (m : Int)) = false := decide_eq_false (by omega)
  clear h hi hl hlen ok hBB hLB
  go_enter Try.func18, Try.ntmps18
  go_wp2_with (first | (go_at_call 40; refine hbl.out.mono ?_; rintro e w2 ⟨rfl, rfl⟩) | fail)
  all_goals first | (exfalso; omega) | skip
  go_loopg [8, 33] m (fun gg s8 s33 wr => ∃ kk : Nat, kk ≤ m ∧ m - kk ≤ gg ∧ s33 = .int .i64 kk ∧ Aside0 (Kd.R (Kd.int .u8) 5 wr W.heap.size (fun _ => True) s8 (pgR B L at_ kk)) ∧ Aside0 (Below W.heap.size W wr))
  case atStart => exact ⟨0, Nat.zero_le _, by omega, rfl, ⟨Kd.R_nil _ _ _ _ _⟩, ⟨Below.refl _ _⟩⟩
  case round =>
    obtain ⟨kk, hkk, hgg, rfl, HO, HB⟩ := hrel
    by_cases hlt : kk < m
    · have hwa : IntKind.i64.wrap (at_ + (kk : Int)) = at_ + (kk : Int) := wrapI (by omega) (by omega)
      have hwk : IntKind.i64.wrap ((kk : Int) + 1) = (kk : Int) + 1 := wrapI (by omega) (by omega)
      have ok2 := HX.out.ok HI.out
      have hrl := Aside0.mk (rblk_length (L := L) (j := at_ + (kk : Int)) ok2.len (fun x hx => (ok2.wait x hx).2.2) (by omega) (by simp only; omega))
      have hkl := Aside0.mk (HLEN.out kk (by omega))
      clear ok2
      go_wp2_with (first
        | (go_at_call 42; refine ((HX.out.below HB.out).read HI.out HL.out (j := at_ + (kk : Int)) (by omega) (by omega)).mono ?_; rintro e w3 ⟨gx, cx, rfl, hgx, hcx, hOx, hBx⟩; have HOx := Aside0.mk hOx; have HO3 := Aside0.mk (Kd.R_below HO.out hBx); have HB3 := Aside0.mk (below_step HB.out hBx); clear hOx hBx hgx)
        | ((with_reducible refine gate_builtin (b := .append) (xs := #[.tmp 44, .tmp 45]) rfl ?_); at_builtin; refine Kd.R_append_rows (Kd.int .u8) (w0 := W) W.heap.size rfl (.tmp 44) (.tmp 45) 22 5 (.int .u8 0) 1 rfl Try.underlying22 info5 rfl (by decide) (by omega) _ (pgR B L at_ kk) (rblk B L (at_ + (kk : Int))) _ _ _ (fun _ => True) (fun _ => False) rfl rfl ?aO ?aR (fun _ _ h => h) (fun _ h => h.elim) ?aF ?aB ?aS ?aL ?_; (case aR => exact (hrl.out ▸ HOx.out.reads)); (case aB => exact HB3.out); (case aF => exact (fun _ _ => trivial)); (case aO => exact HO3.out); (case aS => exact HB3.out.size); (case aL => rw [hkl.out]; omega); intro v7 w6 ho hb hg hat; have HB6 := Aside0.mk hb; have HO7 := Aside0.mk ho; clear ho hb hg hat)
        | fail)
      all_goals go_roundg (m - (kk + 1))
      all_goals first
        | omega
        | exact ⟨kk + 1, by omega, by omega, by go_num, HO7, HB6⟩
    · have : kk = m := by omega
      subst this
      have hyl := HLEN.out kk (by omega)
      have hyB := HIB.out kk
      obtain ⟨A9, c9, rfl, hc9, hC9⟩ := Kd.R_reads HO.out
      obtain ⟨y, hy⟩ : ∃ y, y = pgR B L at_ kk := ⟨_, rfl⟩
      rw [← hy] at hyl hyB hC9 hc9 ⊢
      have HY := Aside0.mk hy
      clear hy
      have HU := Aside0.mk (page_unwrap A9 c9 y _ hC9 hc9 hyB (by omega))
      clear hC9 hc9 hyB hyl HO
      go_wp2_with (first
        | (go_at_call 14; refine HU.out.mono ?_; rintro e w3 ⟨v9, rfl, ho, hb⟩; have HO9 := Aside0.mk ho; have HB9 := Aside0.mk hb; clear ho hb)
        | fail)
      all_goals go_ret2
      all_goals (rw [← HY.out]; exact ⟨_, rfl, Kd.R_lower HO9.out HB.out.size, below_step HB.out HB9.out⟩)
end Go.Proofs.Ytpaiigonagiemaa.PAll
