/- The program's devices: Waits, Blocks, has, Of, New, Write. -/
import Derived.Test.YtkpfhlfbhceebaaDBase
import Derived.Test.YtkpfhlfbhceebaaPAllx1
import Derived.Deep.RegionLaw
namespace Go.Proofs.Ytkpfhlfbhceebaa.PAll
open Go.Proofs.Ytkpfhlfbhceebaa.Help
open Go.RowKit Go.Proofs.YtkpfhlfbhceebaaW.PrintWords Go.Proofs.YtkpfhlfbhceebaaW.PrintLast Go.Proofs.YtkpfhlfbhceebaaW.PrintMore
set_option linter.unusedVariables false
set_option linter.unusedSimpArgs false
/-- What a call may have done to a device. -/
def DevTo (TD TW : Nat) (w w' : World) (S N : Nat → Prop) (p : Nat) (B : List Int) (L : List (Int × List Int)) : Prop :=
  ∃ S' N' : Nat → Prop, Dev TD TW w' S' N' p B L ∧ Fr S w w' ∧ (∀ k, S' k → S k ∨ w.heap.size ≤ k) ∧ ∀ k, N' k → N k ∨ w.heap.size ≤ k
/-- A device that is new. -/
def DevNew (TD TW : Nat) (w w' : World) (N : Nat → Prop) (p : Nat) (B : List Int) (L : List (Int × List Int)) : Prop :=
  ∃ S' N' : Nat → Prop, Dev TD TW w' S' N' p B L ∧ Fr (fun _ => False) w w' ∧ (∀ k, S' k → w.heap.size ≤ k) ∧ ∀ k, N' k → N k ∨ w.heap.size ≤ k
theorem dev_waits {w : World} {S N : Nat → Prop} {p : Nat} {B : List Int} {L : List (Int × List Int)} (h : Dev 62 65 w S N p B L) :
    Calls Try.prog 25 #[.pointer (some ⟨p, 0, none⟩)] w fun e w' => e = .returned (.int .i64 L.length) ∧ w = w' := by
  obtain ⟨gb, cb, vl, h⟩ := h
  obtain ⟨A, c, rfl, hc, hL⟩ := h.lenL
  have h0 := cell_of_blk h.cell (j := 0) rfl
  have h1 := cell_of_blk h.cell (j := 1) rfl
  go_enter Try.func25, Try.ntmps25
  go_wp2
  go_ret
  exact ⟨rfl, rfl⟩
theorem dev_blocks {w : World} {S N : Nat → Prop} {p : Nat} {B : List Int} {L : List (Int × List Int)} (h : Dev 62 65 w S N p B L) {n : Nat} (hn : B.length = n * 64) (hm : n ≤ 1024) :
    Calls Try.prog 26 #[.pointer (some ⟨p, 0, none⟩)] w fun e w' => e = .returned (.int .i64 n) ∧ w = w' := by
  obtain ⟨gb, cb, vl, h⟩ := h
  have h0 := cell_of_blk h.cell (j := 0) rfl
  have h1 := cell_of_blk h.cell (j := 1) rfl
  rw [hn] at h0
  have e1 : (((n * 64 : Nat) : Int).tdiv 64) = (n : Int) := by
    rw [Int.natCast_mul]
    exact Int.mul_tdiv_cancel _ (by decide)
  go_enter Try.func26, Try.ntmps26
  go_wp2
  all_goals go_ret
  refine ⟨?_, rfl⟩
  go_num
theorem dev_has {w : World} {S N : Nat → Prop} {p : Nat} {B : List Int} {L : List (Int × List Int)} (h : Dev 62 65 w S N p B L) {n : Nat} (hn : B.length = n * 64) (hm : n ≤ 1024) (i : Int) :
    Calls Try.prog 27 #[.pointer (some ⟨p, 0, none⟩), .int .i64 i] w fun e w' => e = .returned (.bool (decide (0 ≤ i ∧ i < n))) ∧ w = w' := by
  have hb := dev_blocks h hn hm
  go_enter Try.func27, Try.ntmps27
  go_wp2_with (go_at_call 26; refine hb.mono ?_; rintro e w' ⟨rfl, rfl⟩)
  all_goals go_ret
  all_goals refine ⟨?_, rfl⟩
  all_goals refine congrArg (fun b => Ending.returned (.bool b)) ?_
  all_goals rw [Bool.eq_iff_iff]
  all_goals simp
  all_goals omega
theorem own_form {w : World} {base : Nat} {ok : Nat → Prop} {v : Value} {bs : List Int} (hR : Kd.R (Kd.int .u8) 5 w base ok v bs) (h0 : 0 < bs.length) : ∃ g cap, v = .slice (some ⟨g, 0, none⟩) bs.length cap ∧ base ≤ g ∧ bs.length ≤ cap ∧ OwnBy w g cap bs := by
  have ho := Kd.own_of_R (enc := Value.int .u8) (h1 := fun _ => rfl) hR
  rcases ho.2 with ⟨hv, hl⟩ | ⟨g', cap', cur, hv, hg, hh, hnc, hcm, hcs, htk⟩
  · exact absurd hl (by omega)
  exact ⟨g', cap', hv, hg, hnc, ⟨cur, hh, by simpa using hcs, hnc, hcm, by simpa [encs] using htk⟩⟩
theorem clone_ok {w : World} {A : Option Addr} {c : Nat} {bs : List Int} (hr : Kd.C (Kd.int .u8) w A bs.length bs) (hc : bs.length ≤ c) (h0 : 0 < bs.length) (h1 : bs.length < 140737488355328) :
    Calls Try.prog 28 #[.slice A bs.length c] w fun e w' => ∃ g cap, e = .returned (.slice (some ⟨g, 0, none⟩) bs.length cap) ∧ w.heap.size ≤ g ∧ bs.length ≤ cap ∧ OwnBy w' g cap bs ∧ Below w.heap.size w w' := by
  refine (slices_Clone_byte_byte.calls A c bs bs w hr hc (by unfold slices_Clone_byte_byte.f; rw [if_pos h1])).mono ?_
  rintro e w' ⟨v, rfl, hR, hB⟩
  obtain ⟨g, cap, rfl, h2, h3, h4⟩ := own_form hR h0
  exact ⟨g, cap, rfl, h2, h3, h4, hB⟩
theorem dev_of {w : World} {A : Option Addr} {c n : Nat} {bs : List Int} (hr : Kd.C (Kd.int .u8) w A bs.length bs) (hc : bs.length ≤ c) (hn : bs.length = n * 64) (h4 : 4 ≤ n) (hm : n ≤ 1024) :
    Calls Try.prog 22 #[.slice A bs.length c] w fun e w' =>
      ∃ p, e = .returned (.tuple #[.pointer (some ⟨p, 0, none⟩), .int .i64 0]) ∧ DevNew 62 65 w w' (fun _ => False) p bs [] := by
  have hcl := clone_ok hr hc (by omega) (by omega)
  rw [hn] at hcl ⊢
  have e1 : (((n * 64 : Nat) : Int).tdiv 64) = (n : Int) := by
    rw [Int.natCast_mul]
    exact Int.mul_tdiv_cancel _ (by decide)
  have e2 : (((n * 64 : Nat) : Int).tmod 64) = 0 := by
    rw [Int.natCast_mul]
    exact Int.mul_tmod_left _ _
  go_enter Try.func22, Try.ntmps22
  go_wp2_with (go_at_call 28; refine hcl.mono ?_; rintro e w1 ⟨g, cap, rfl, hg, hnc, hO, hB⟩)
  go_ret2
  refine ⟨w1.heap.size, rfl, fun k => k = w1.heap.size ∨ k = g, fun _ => False, ⟨g, cap, .slice none 0 0, ?_⟩, (Fr.of_below hB).trans (Fr.alloc (S := fun _ => False) w1 _) (fun _ _ h => h), ?_, fun k h => h.elim⟩
  · have hlt := hO.lt
    exact ⟨by rw [hn]; exact new_blk _ _, hO.same (Below.heap_alloc w1 _ g hlt), OwnRow.none_ _ _ _ _ _, .inl rfl, .inr rfl, fun k h => by simp [Value.ownBlock] at h, fun k h h2 => h2, fun k h => by rcases h with rfl | rfl <;> simp <;> omega, fun k h => h.elim⟩
  · rintro k (rfl | rfl)
    · exact hB.size
    · exact hg
theorem dev_of_bad {w : World} {A : Option Addr} {c : Nat} {bs : List Int} (hr : Kd.C (Kd.int .u8) w A bs.length bs) (hn : ¬ (bs.length % 64 = 0 ∧ 4 ≤ bs.length / 64 ∧ bs.length / 64 ≤ 1024)) :
    Calls Try.prog 22 #[.slice A bs.length c] w fun e w' => e = .returned (.tuple #[.pointer none, .int .i64 1]) ∧ w = w' := by
  have hL : bs.length ≤ 9223372036854775807 := hr.2.1
  have e1 : ((bs.length : Int).tdiv 64) = ((bs.length / 64 : Nat) : Int) := by rw [Int.tdiv_eq_ediv_of_nonneg (by omega)]; omega
  have e2 : ((bs.length : Int).tmod 64) = ((bs.length % 64 : Nat) : Int) := by rw [Int.tmod_eq_emod_of_nonneg (by omega)]; omega
  have hcond : (!decide (((bs.length % 64 : Nat) : Int) = 0) || (decide (((bs.length / 64 : Nat) : Int) < 4)) || decide ((1024 : Int) < ((bs.length / 64 : Nat) : Int))) = true := by
    simp; omega
  go_enter Try.func22, Try.ntmps22
  go_wp2
  all_goals first | (exfalso; omega) | skip
  all_goals (go_ret2; exact ⟨rfl, rfl⟩)
theorem DevNew.from {TD TW : Nat} {a b c : World} {N : Nat → Prop} {p : Nat} {B : List Int} {L : List (Int × List Int)} (hf : Fr (fun _ => False) a b) (h : DevNew TD TW b c N p B L) : DevNew TD TW a c N p B L := by
  obtain ⟨S, N', h1, h2, h3, h4⟩ := h
  exact ⟨S, N', h1, hf.trans h2 (fun _ _ h => h), fun k hk => Nat.le_trans hf.size (h3 k hk), fun k hk => (h4 k hk).imp_right (Nat.le_trans hf.size)⟩
theorem dev_new {w : World} {n : Nat} (h4 : 4 ≤ n) (hm : n ≤ 1024) :
    Calls Try.prog 9 #[.int .i64 n] w fun e w' =>
      ∃ p, e = .returned (.tuple #[.pointer (some ⟨p, 0, none⟩), .int .i64 0]) ∧ DevNew 62 65 w w' (fun _ => False) p (List.replicate (n * 64) 0) [] := by
  have E0 : Aside0 ((n : Int) * 64 = ((n * 64 : Nat) : Int)) := ⟨by rw [Int.natCast_mul]; rfl⟩
  have c1 : decide ((n : Int) < 4) = false := by simp; omega
  have c2 : decide ((1024 : Int) < (n : Int)) = false := by simp; omega
  go_enter Try.func9, Try.ntmps9
  go_wp2_with (first
    | ((with_reducible refine gate_dst (N := 12) rfl ?_); refine Kd.R_make (Kd.int .u8) _ 5 rfl (N := 12) rfl 31 _ _ rfl ((n : Int) * 64) rfl rfl Try.underlying31 (.int .u8 0) 1 info5 rfl (by decide) (by omega) 0 (ok := fun _ => True) (okp := fun _ => True) rfl (fun _ hk => hk) trivial (by omega) (by omega) (Below.refl _ _) (Nat.le_refl _) ?_; intro v1 w1 ho hb hg_ hnew_; clear hg_ hnew_; rw [E0.out, Int.toNat_natCast] at ho; obtain ⟨g, cap, rfl, hg, hc, hO⟩ := own_form ho (by rw [List.length_replicate]; omega); have HOF := Aside0.mk (dev_of (n := n) hO.reads hc (by rw [List.length_replicate]) h4 hm); have HO := Aside0.mk hO; have HB := Aside0.mk hb; clear ho hO hb hc; rw [List.length_replicate] at *)
    | (go_at_call 22; refine HOF.out.mono ?_; rintro e w2 ⟨p, rfl, hN⟩; replace hN := Aside0.mk hN))
  go_ret2
  exact ⟨p, rfl, hN.out.from (Fr.of_below HB.out)⟩
theorem dev_new_bad {w : World} {n : Int} (hn : n < 4 ∨ 1024 < n) :
    Calls Try.prog 9 #[.int .i64 n] w fun e w' => e = .returned (.tuple #[.pointer none, .int .i64 1]) ∧ w = w' := by
  go_enter Try.func9, Try.ntmps9
  go_wp2
  all_goals first | (exfalso; omega) | skip
  all_goals (go_ret2; exact ⟨rfl, rfl⟩)
theorem grown_blk {w w' : World} {row : Option Nat} (h : w.grownBy w' row) {k : Nat} (hk : k < w.heap.size) (hne : row ≠ some k) : w'.heap[k]? = w.heap[k]? := h.block k hk (fun e => hne e.symm)
theorem OwnRow_lt {α : Type} {R : α → List Value → Prop} {e size base : Nat} {w : World} {v : Value} {ps : List α} (h : OwnRow R e size w base v ps) {k : Nat} (hk : v.ownBlock = some k) : k < w.heap.size ∧ ∃ cs, w.heap[k]? = some (.cells cs e (0, 0)) := by
  obtain ⟨inner, ho, hr⟩ := h
  rcases ho.2 with ⟨hv, _⟩ | ⟨g, cap, cur, hv, hg, hh, _⟩
  · rw [hv] at hk; cases hk
  · rw [hv] at hk
    obtain rfl := Option.some.inj hk
    exact ⟨blk_lt hh, cur, hh⟩
/-- One more waits. -/
theorem DevAt.waits_new {TD TW : Nat} {W0 W w2 : World} {S N : Nat → Prop} {p gb cb : Nat} {vl v1 : Value} {B : List Int} {L : List (Int × List Int)} {x : Int × List Int} (h : DevAt TD TW W0 S N p gb cb vl B L) (hne : TW ≠ TD) (hne5 : TW ≠ 5) (hnd : TD ≠ 5) (hB : Below W0.heap.size W0 W) {gA cA : Nat} (hgA : W0.heap.size ≤ gA) (hO : OwnBy W gA cA x.2)
    (hrow : OwnRow (WItem W (fun k => N k ∨ k = gA)) TW 2 w2 0 v1 (L ++ [x])) (hg : W.grownBy w2 vl.ownBlock) (hv : v1.ownBlock = vl.ownBlock ∨ ∃ b, v1.ownBlock = some b ∧ W.heap.size ≤ b) :
    w2.cell? ⟨p, 1, none⟩ = some vl ∧ w2.frozen? ⟨p, 1, none⟩ = false ∧ DevTo TD TW W0 (w2.setCell ⟨p, 1, none⟩ v1) S N p B (L ++ [x]) := by
  have hWs := hB.size
  have hp : p < W0.heap.size := h.slt p h.sp
  have hgb : gb < W0.heap.size := h.slt gb h.sb
  have hgl := hO.lt
  have hneP : vl.ownBlock ≠ some p := fun e => by
    obtain ⟨_, cs, hc⟩ := OwnRow_lt h.row e
    rw [h.cell] at hc
    injection hc with hc; injection hc with _ hc _
    exact hne hc.symm
  have hneB : vl.ownBlock ≠ some gb := fun e => by
    obtain ⟨_, cs, hc⟩ := OwnRow_lt h.row e
    obtain ⟨cur, hc2, _⟩ := h.own
    rw [hc2] at hc
    injection hc with hc; injection hc with _ hc _
    exact hne5 hc.symm
  have hneN : ∀ k, N k → vl.ownBlock ≠ some k := fun k hk e => h.ns k (h.sl k e) hk
  have hcp : w2.heap[p]? = some (.cells #[.slice (some ⟨gb, 0, none⟩) B.length cb, vl] TD (0, 0)) := (grown_blk hg (by omega) hneP).trans ((hB.block p hp).trans h.cell)
  have hpb : p ≠ gb := fun e => by
    subst e
    obtain ⟨cur, hc2, _⟩ := h.own
    have hc := h.cell
    rw [hc2] at hc
    injection hc with hc; injection hc with _ hc _
    exact hnd hc.symm
  have hne1 : v1.ownBlock ≠ some p := fun e => by
    obtain ⟨_, cs, hc⟩ := OwnRow_lt hrow e
    rw [hcp] at hc
    injection hc with hc; injection hc with _ hc _
    exact hne hc.symm
  have hset : ∀ k, k ≠ p → (w2.setCell ⟨p, 1, none⟩ v1).heap[k]? = w2.heap[k]? := fun k hk => Below.heap_setCell w2 _ v1 k hk
  have hgs := hg.size
  refine ⟨cell_of_blk hcp rfl, blk_frozen hcp _, fun k => S k ∨ (v1.ownBlock = some k ∧ W0.heap.size ≤ k), fun k => N k ∨ k = gA, ⟨gb, cb, v1, ?_⟩, ?_, ?_, ?_⟩
  · refine ⟨?_, ?_, ?_, .inl h.sp, .inl h.sb, ?_, ?_, ?_, ?_⟩
    · exact blk_put hcp 1 v1 rfl
    · exact h.own.same ((hset gb (Ne.symm hpb)).trans ((grown_blk hg (by omega) hneB).trans (hB.block gb hgb)))
    · refine OwnRow_same hrow (fun k hk => hset k (fun e => hne1 (e ▸ hk))) (fun y c hy => hy.same (fun k hk => ?_) (fun _ h => h))
      have hkp : k ≠ p := fun e => by
        subst e
        rcases hk with hk | hk
        · exact h.ns _ h.sp hk
        · omega
      rw [hset k hkp]
      rcases hk with hk | rfl
      · exact grown_blk hg (by have := h.nlt k hk; omega) (hneN k hk)
      · exact grown_blk hg hgl (fun e => by have := h.slt _ (h.sl _ e); omega)
    · intro k hk
      rcases hv with e | ⟨b, e, hb⟩
      · exact .inl (h.sl k (e ▸ hk))
      · exact .inr ⟨hk, by rw [e] at hk; obtain rfl := Option.some.inj hk; omega⟩
    · rintro k (hk | ⟨hk, hk2⟩) (hn | rfl)
      · exact h.ns k hk hn
      · have := h.slt _ hk; omega
      · have := h.nlt _ hn; omega
      · rcases hv with e | ⟨b, e, hb⟩
        · have := h.slt _ (h.sl _ (e ▸ hk)); omega
        · rw [e] at hk; obtain rfl := Option.some.inj hk; omega
    · rintro k (hk | ⟨hk, _⟩)
      · have := h.slt k hk; simp; omega
      · have := (OwnRow_lt hrow hk).1; simpa using this
    · rintro k (hk | rfl)
      · have := h.nlt k hk; simp; omega
      · simp; omega
  · exact ((Fr.of_below (S := S) hB).trans (Fr.grown (S := S) hg (fun k hk => h.sl k hk)) (fun _ _ h => h)).trans (Fr.set (S := S) (p := ⟨p, 1, none⟩) h.sp v1) (fun _ _ h => h)
  · rintro k (hk | ⟨_, hk⟩)
    · exact .inl hk
    · exact .inr hk
  · rintro k (hk | rfl)
    · exact .inl hk
    · exact .inr hgA
theorem infoW : (Try.prog.info? 65).map (fun i => (i.zero, i.size, i.bytes)) = some (some (.agg #[.int .i64 0, .slice none 0 0]), 2, 32) := by kernel_rfl
theorem WItem_new {w : World} {gA cA m : Nat} {N : Nat → Prop} {i : Int} {bs : List Int} (hm : bs.length = m) (hO : OwnBy w gA cA bs) (hc : m ≤ cA) : WItem w (fun k => N k ∨ k = gA) (i, bs) [.int .i64 i, .slice (some ⟨gA, 0, none⟩) m cA] := by
  subst hm
  exact ⟨_, cA, rfl, hc, hO.reads, fun a ha => by obtain rfl := Option.some.inj ha; exact .inr rfl⟩
theorem dev_write {w : World} {S N : Nat → Prop} {p : Nat} {B : List Int} {L : List (Int × List Int)} (h : Dev 62 65 w S N p B L) {n : Nat} (hn : B.length = n * 64) (hm : n ≤ 1024) (hL : L.length < 4294967296) {i : Int} (h0 : 0 ≤ i) (hi : i < n)
    {A : Option Addr} {c : Nat} {bs : List Int} (hr : Kd.C (Kd.int .u8) w A bs.length bs) (hc : bs.length ≤ c) (h64 : bs.length = 64) :
    Calls Try.prog 11 #[.pointer (some ⟨p, 0, none⟩), .int .i64 i, .slice A bs.length c] w fun e w' =>
      e = .returned (.int .i64 0) ∧ DevTo 62 65 w w' S N p B (L ++ [(i, bs)]) := by
  have hb := Aside0.mk (dev_has h hn hm i)
  obtain ⟨gb, cb, vl, h⟩ := h
  have H := Aside0.mk h
  have h1 := cell_of_blk h.cell (j := 1) rfl
  have hcl := Aside0.mk (clone_ok (w := w.drew) hr hc (by omega) (by omega))
  have hL0 := Aside0.mk hL
  have E0 := Aside0.mk (decide_eq_true (⟨h0, hi⟩ : 0 ≤ i ∧ i < (n : Int)))
  have h64' := Aside0.mk h64
  rw [h64] at hcl ⊢
  clear h hL hr h64
  go_enter Try.func11, Try.ntmps11
  go_wp2_with (go_at_call 27; refine hb.out.mono ?_; rintro e w' ⟨rfl, rfl⟩; rw [E0.out])
  go_region_law (first
    | (refine OwnRow.append_step (R := WItem w1 (fun k => N k ∨ k = gA)) (w0 := w1) (W := w1) 0 (by simp [Region.wanted]) (.tmp 20) (.tmp 25) 60 65 (.agg #[.int .i64 0, .slice none 0 0]) 2 32 rfl Try.underlying60 infoW rfl (by decide) (by decide) vl L (i, bs) [.int .i64 i, .slice (some ⟨gA, 0, none⟩) 64 cA] rfl rfl (WItem_new h64'.out hO.out hcA) rfl (by simp [Value.oneCell']) (OwnRow_same H.out.row (fun k hk => hB.out.block k (H.out.slt k (H.out.sl k hk))) (fun _ _ hp => hp.same (fun k hk => hB.out.block k (H.out.nlt k hk)) (fun _ hk => .inl hk))) (Below.refl _ _) (Nat.zero_le _) (by have := hL0.out; omega) ?_
       rintro v1 w2 hrow hb2 hg hv
       obtain ⟨A1, c1, rfl, hc1⟩ := hrow.slice_
       obtain ⟨q1, q2, q3⟩ := H.out.waits_new (x := (i, bs)) (by decide) (by decide) (by decide) hB.out hgA hO.out hrow hg hv
       have Q3 := Aside0.mk q3
       clear q3 hrow hb2 hg hv)
    | (go_simp; go_at_call 28; refine hcl.out.mono ?_; rintro e w1 ⟨gA, cA, rfl, hgA, hcA, hO, hB⟩; have hO := Aside0.mk hO; have hB : Aside0 (Below w.heap.size w w1) := ⟨hB.os, hB.tape, hB.output, hB.size, hB.block⟩; have h1' : w1.cell? ⟨p, 1, none⟩ = some vl := (hB.out.cell (p := ⟨p, 1, none⟩) (H.out.slt p H.out.sp)).trans h1; have hp1 : p < w1.heap.size := Nat.lt_of_lt_of_le (H.out.slt p H.out.sp) hB.out.size; have hp2 : p ≠ w1.heap.size := Nat.ne_of_lt hp1))
  all_goals go_wp2
  all_goals go_ret
  all_goals exact ⟨rfl, by have q := Q3.out; rw [List.length_append, List.length_singleton] at q; exact q⟩
theorem dev_write_bad {w : World} {S N : Nat → Prop} {p : Nat} {B : List Int} {L : List (Int × List Int)} (h : Dev 62 65 w S N p B L) {n : Nat} (hn : B.length = n * 64) (hm : n ≤ 1024) {i : Int} {A : Option Addr} {l c : Nat} (hl : l ≤ 9223372036854775807) (hb : ¬ (0 ≤ i ∧ i < n) ∨ l ≠ 64) :
    Calls Try.prog 11 #[.pointer (some ⟨p, 0, none⟩), .int .i64 i, .slice A l c] w fun e w' =>
      e = .returned (.int .i64 1) ∧ w = w' := by
  have hh := Aside0.mk (dev_has h hn hm i)
  have E0 := Aside0.mk hb
  clear hb
  generalize hq : decide (0 ≤ i ∧ i < (n : Int)) = q at hh
  go_enter Try.func11, Try.ntmps11
  cases q with
  | false =>
    clear hq
    go_wp2_with (go_at_call 27; refine hh.out.mono ?_; rintro e w' ⟨rfl, rfl⟩)
    go_ret
    exact ⟨rfl, rfl⟩
  | true =>
    have hl2 : l ≠ 64 := by
      rcases E0.out with hb | hb
      · exact absurd (of_decide_eq_true hq) hb
      · exact hb
    have hl3 : (l : Int) ≠ 64 := by omega
    clear hq
    go_wp2_with (go_at_call 27; refine hh.out.mono ?_; rintro e w' ⟨rfl, rfl⟩)
    go_ret
    exact ⟨rfl, rfl⟩
end Go.Proofs.Ytkpfhlfbhceebaa.PAll
