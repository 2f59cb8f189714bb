/- same; a read and a write of either device, in bounds or not; DevOf walked. -/
import Derived.Test.YtkpfhlfbhceebaaRSys
import Derived.Test.YtkpfhlfbhceebaaDKnown
import Derived.Test.YtkpfhlfbhceebaaDOrd
import Derived.OpenShut
namespace Go.Proofs.Ytkpfhlfbhceebaa.PAll
open Go.Proofs.Ytkpfhlfbhceebaa.Help
open Go.RowKit Go.Proofs.YtkpfhlfbhceebaaW.PrintWords Go.Proofs.YtkpfhlfbhceebaaW.PrintLast Go.Proofs.YtkpfhlfbhceebaaW.PrintMore
set_option linter.unusedVariables false
set_option linter.unusedSimpArgs false
/-- A row that lay ahead, as a string, in any later world. -/
theorem C_later {w w' : World} {A : Option Addr} {l : List Int} (h : Kd.C (Kd.int .u8) w A l.length l) (hB : Below w.heap.size w w') : Kd.C (Kd.int .u8) w' A l.length l := by
  by_cases h0 : 0 < l.length
  · exact C_same h (fun a ha => hB.block _ (C_lt h a ha h0))
  · exact ⟨h.1, h.2.1, fun hn => absurd hn (by omega)⟩
theorem C_str {w : World} {A : Option Addr} {c : Nat} {l : List Int} (h : Kd.C (Kd.int .u8) w A l.length l) : (convert 31 9 (.slice A l.length c)).run Try.prog w = .ok (.string (strOfNums l)) w :=
  Kd.C_string Try.underlying31 Try.underlying5 Try.underlying9 h
/-- What a read answers, and what it tells. -/
def rerr (n : Nat) (j : Int) : Int := if 0 ≤ j ∧ j < n then 0 else 1
def rstr (n : Nat) (B : List Int) (L : List (Int × List Int)) (j : Int) : ByteArray := strOfNums (if 0 ≤ j ∧ j < n then rblk B L j else [])
theorem nil_str (w : World) : (convert 31 9 (.slice none 0 0)).run Try.prog w = .ok (.string (strOfNums [])) w :=
  C_str (A := none) (c := 0) (l := []) ⟨rfl, by decide, fun hn => absurd hn (by decide)⟩
theorem rblk_length {n : Nat} {B : List Int} {L : List (Int × List Int)} (hB : B.length = n * 64) (hw : ∀ x ∈ L, x.2.length = 64) {j : Int} (h0 : 0 ≤ j) (hj : j < n) : (rblk B L j).length = 64 := by
  have key : ∀ k b, lastAt L j k = some b → b.length = 64 := by
    intro k
    induction k with
    | zero => intro b h; cases h
    | succ k ih =>
      intro b h
      unfold lastAt at h
      cases hx : L[k]? with
      | none => rw [hx] at h; exact ih b h
      | some x =>
        rw [hx] at h
        simp only at h
        split at h
        · obtain rfl := Option.some.inj h
          exact hw x (List.mem_of_getElem? hx)
        · exact ih b h
  unfold rblk
  cases h : lastAt L j L.length with
  | some b => exact key _ b h
  | none =>
    show (List.take 64 (List.drop (j.toNat * 64) B)).length = 64
    rw [List.length_take, List.length_drop]; omega
theorem Mix.readX {w0 W : World} {D : Nat → Option MSt} {R : List (Nat × Obj)} (h : Mix w0 W D R) {i p n : Nat} {B : List Int} {L : List (Int × List Int)} (hi : D i = some ⟨false, p, n, B, L⟩) (hl : L.length < 4294967296) (j : Int) :
    Calls Try.prog 19 #[.pointer (some ⟨p, 0, none⟩), .int .i64 j] W fun e w' => ∃ v, e = .returned (.tuple #[v, .int .i64 (rerr n j)]) ∧ Below W.heap.size W w' ∧
      ∀ W', Below w'.heap.size w' W' → (convert 31 9 v).run Try.prog W' = .ok (.string (rstr n B L j)) W' := by
  have ok := h.ok hi
  by_cases hj : 0 ≤ j ∧ j < n
  · refine (h.read hi hl hj.1 hj.2).mono ?_
    rintro e w' ⟨g, cap, rfl, hg, hc, hO, hB⟩
    refine ⟨_, by unfold rerr; rw [if_pos hj], hB, fun W' hW => ?_⟩
    have := (hO.same (hW.block _ hO.lt)).str
    rw [rblk_length ok.len (fun x hx => (ok.wait x hx).2.2) hj.1 hj.2] at this
    unfold rstr
    rw [if_pos hj]
    exact this
  · refine (h.read_bad hi hj).mono ?_
    rintro e w' ⟨rfl, hB⟩
    refine ⟨_, by unfold rerr; rw [if_neg hj], hB, fun W' hW => ?_⟩
    unfold rstr
    rw [if_neg hj]
    exact nil_str W'
theorem Mix.rreadX {w0 W : World} {D : Nat → Option MSt} {R : List (Nat × Obj)} (h : Mix w0 W D R) {i p n : Nat} {B : List Int} {L : List (Int × List Int)} (hi : D i = some ⟨true, p, n, B, L⟩) (hl : L.length < 4294967296) (j : Int) :
    Calls Try.prog 20 #[.pointer (some ⟨p, 0, none⟩), .int .i64 j] W fun e w' => ∃ v, e = .returned (.tuple #[v, .int .i64 (rerr n j)]) ∧ Below W.heap.size W w' ∧
      ∀ W', Below w'.heap.size w' W' → (convert 31 9 v).run Try.prog W' = .ok (.string (rstr n B L j)) W' := by
  have ok := h.ok hi
  by_cases hj : 0 ≤ j ∧ j < n
  · refine (h.rread hi hl hj.1 hj.2).mono ?_
    rintro e w' ⟨g, cap, rfl, hg, hc, hO, hB⟩
    refine ⟨_, by unfold rerr; rw [if_pos hj], hB, fun W' hW => ?_⟩
    have := (hO.same (hW.block _ hO.lt)).str
    rw [rblk_length ok.len (fun x hx => (ok.wait x hx).2.2) hj.1 hj.2] at this
    unfold rstr
    rw [if_pos hj]
    exact this
  · refine (h.rread_bad hi hj).mono ?_
    rintro e w' ⟨rfl, hB⟩
    refine ⟨_, by unfold rerr; rw [if_neg hj], hB, fun W' hW => ?_⟩
    unfold rstr
    rw [if_neg hj]
    exact nil_str W'
theorem Mix.rwaits' {w0 W : World} {D : Nat → Option MSt} {R : List (Nat × Obj)} (h : Mix w0 W D R) {i p n : Nat} {B : List Int} {L : List (Int × List Int)} (hi : D i = some ⟨true, p, n, B, L⟩) :
    ∃ A c, L.length ≤ 9223372036854775807 ∧ ∀ W', Below W.heap.size W W' → W'.cell? ⟨p, 1, none⟩ = some (.slice A L.length c) := by
  obtain ⟨hb, S, N, hd, ha, hrr⟩ := h
  obtain ⟨ok, dv, hs⟩ := hd i _ hi
  obtain ⟨gb, cb, vl, h⟩ := dv
  obtain ⟨A, c, rfl, _, hl⟩ := h.lenL
  exact ⟨A, c, hl, fun W' hB => (hB.cell (p := ⟨p, 1, none⟩) (h.slt p h.sp)).trans (cell_of_blk h.cell (j := 1) rfl)⟩
set_option maxRecDepth 100000 in
set_option maxHeartbeats 4000000 in
theorem mix_same {w0 W : World} {D : Nat → Option MSt} {R : List (Nat × Obj)} (h : Mix w0 W D R) {i j p pm n : Nat} {B : List Int} {L : List (Int × List Int)} (hi : D i = some ⟨false, p, n, B, L⟩) (hj : D j = some ⟨true, pm, n, B, L⟩) (hl : L.length < 4294967296) :
    Calls Try.prog 21 #[.pointer (some ⟨p, 0, none⟩), .pointer (some ⟨pm, 0, none⟩)] W fun e w' => e = .returned (.bool true) ∧ Below W.heap.size W w' := by
  have ok := h.ok hi
  obtain ⟨A, c, hL, hcell⟩ := h.rwaits' hj
  obtain ⟨Bs, hBs⟩ : ∃ B', aft (fun _ => true) L B L.length = B' := ⟨_, rfl⟩
  have hBsl : Bs.length = n * 64 := by rw [← hBs]; exact aft_length ok.len ok.wait _
  have HBs := Aside0.mk hBs
  have HBsl := Aside0.mk hBsl
  have HI := Aside0.mk hi
  have HJ := Aside0.mk hj
  have HL := Aside0.mk hl
  have HQ := Aside0.mk (h.below (W' := W.drew) ⟨rfl, rfl, rfl, Nat.le_refl _, fun _ _ => rfl⟩)
  have HB : Aside0 (Below W.heap.size W W.drew) := ⟨⟨rfl, rfl, rfl, Nat.le_refl _, fun _ _ => rfl⟩⟩
  have hS := Aside0.mk hcell
  have hS0 := hcell _ HB.out
  clear ok hBs hBsl h hi hj hl hcell
  go_enter Try.func21, Try.ntmps21
  go_wp2
  refine wp_region_noPanic ?_
  refine wp_region_held_drew (S := (fun w' => w'.cell? ⟨pm, 1, none⟩ = some (.slice A L.length c))) (by kernel_rfl) ?_ (fun hHeld => ?_)
  · (try dsimp only) <;> (first | assumption | exact hS.out _ HB.out)
  refine held_take 0 (v := ?_) rfl (by kernel_rfl) (fun _ _ _ h => h) (by rfl) ?_ (by assumption) ?_
  rotate_left 1
  · (intro w hSw; (try dsimp only at hSw); go_simp)
    all_goals with_reducible rfl
  (try simp only [Act.put, List.setIfInBounds_toArray, List.set_cons_zero, List.set_cons_succ])
  refine held_take 2 (v := ?_) rfl (by kernel_rfl) (fun _ _ _ h => h) (by rfl) ?_ (by assumption) ?_
  rotate_left 1
  · (intro w hSw; (try dsimp only at hSw); go_simp)
    all_goals with_reducible rfl
  (try simp only [Act.put, List.setIfInBounds_toArray, List.set_cons_zero, List.set_cons_succ])
  refine wpAnyH_ready (rs := [1]) (by kernel_rfl) (by simp) ?_
  refine held_step 1 rfl (fun K hK => ?_) ?_
  · go_simp
    go_wp2_with (first | (go_at_call 26; refine (HQ.out.blocks HI.out).mono ?_; rintro e w1 ⟨rfl, rfl⟩) | (go_at_call 29; refine (HQ.out.rblocks HJ.out).mono ?_; rintro e w1 ⟨rfl, rfl⟩) | (go_at_call 25; refine (HQ.out.waits HI.out).mono ?_; rintro e w1 ⟨rfl, rfl⟩) | (go_at_call 24; have hc := HQ.out.bytes HI.out HL.out; rw [HBs.out, HBsl.out] at hc; (with_reducible refine hc.mono ?_); clear hc; rintro e wA ⟨gA, cA, rfl, hcF, hgF, hOA, hBF⟩; replace HQ := Aside0.mk (HQ.out.below hBF); replace HB := Aside0.mk (below_step HB.out hBF); have hcA := hOA.str; rw [HBsl.out] at hcA; have HOA := Aside0.mk hOA; clear hOA hBF hgF hcF) | (go_at_call 32; have hc := HQ.out.rbytes HJ.out HL.out; rw [HBs.out, HBsl.out] at hc; (with_reducible refine hc.mono ?_); clear hc; rintro e wB ⟨gB, cB, rfl, hcF, hgF, hOB, hBF⟩; replace HQ := Aside0.mk (HQ.out.below hBF); replace HB := Aside0.mk (below_step HB.out hBF); have hcA1 := (HOA.out.same (hBF.block _ HOA.out.lt)).str; rw [HBsl.out] at hcA1; have hcB := hOB.str; rw [HBsl.out] at hcB; clear hOB hBF hgF hcF) | fail)
    refine hK.out _ _ ?_ ?_
    · (try dsimp only) <;> (first | assumption | exact hS.out _ HB.out)
    clear hK K hHeld
    intro hHeld
    (try simp only [Act.put, List.setIfInBounds_toArray, List.set_cons_zero, List.set_cons_succ])
    refine wpAnyH_ready (rs := [3]) (by kernel_rfl) (by simp) ?_
    refine held_step 3 rfl (fun K hK => ?_) ?_
    · go_simp
      go_wp2_with (first | (go_at_call 26; refine (HQ.out.blocks HI.out).mono ?_; rintro e w1 ⟨rfl, rfl⟩) | (go_at_call 29; refine (HQ.out.rblocks HJ.out).mono ?_; rintro e w1 ⟨rfl, rfl⟩) | (go_at_call 25; refine (HQ.out.waits HI.out).mono ?_; rintro e w1 ⟨rfl, rfl⟩) | (go_at_call 24; have hc := HQ.out.bytes HI.out HL.out; rw [HBs.out, HBsl.out] at hc; (with_reducible refine hc.mono ?_); clear hc; rintro e wA ⟨gA, cA, rfl, hcF, hgF, hOA, hBF⟩; replace HQ := Aside0.mk (HQ.out.below hBF); replace HB := Aside0.mk (below_step HB.out hBF); have hcA := hOA.str; rw [HBsl.out] at hcA; have HOA := Aside0.mk hOA; clear hOA hBF hgF hcF) | (go_at_call 32; have hc := HQ.out.rbytes HJ.out HL.out; rw [HBs.out, HBsl.out] at hc; (with_reducible refine hc.mono ?_); clear hc; rintro e wB ⟨gB, cB, rfl, hcF, hgF, hOB, hBF⟩; replace HQ := Aside0.mk (HQ.out.below hBF); replace HB := Aside0.mk (below_step HB.out hBF); have hcA1 := (HOA.out.same (hBF.block _ HOA.out.lt)).str; rw [HBsl.out] at hcA1; have hcB := hOB.str; rw [HBsl.out] at hcB; clear hOB hBF hgF hcF) | fail)
      refine hK.out _ _ ?_ ?_
      · (try dsimp only) <;> (first | assumption | exact hS.out _ HB.out)
      clear hK K hHeld
      intro hHeld
      (try simp only [Act.put, List.setIfInBounds_toArray, List.set_cons_zero, List.set_cons_succ])
      refine held_take 4 (v := ?_) rfl (by kernel_rfl) (fun _ _ _ h => h) (by rfl) ?_ (by assumption) ?_
      rotate_left 1
      · (intro w hSw; (try dsimp only at hSw); go_simp)
        all_goals with_reducible rfl
      (try simp only [Act.put, List.setIfInBounds_toArray, List.set_cons_zero, List.set_cons_succ])
      refine held_take 5 (v := ?_) rfl (by kernel_rfl) (fun _ _ _ h => h) (by rfl) ?_ (by assumption) ?_
      rotate_left 1
      · (intro w hSw; (try dsimp only at hSw); go_simp)
        all_goals with_reducible rfl
      (try simp only [Act.put, List.setIfInBounds_toArray, List.set_cons_zero, List.set_cons_succ])
      refine held_take 6 (v := ?_) rfl (by kernel_rfl) (fun _ _ _ h => h) (by rfl) ?_ (by assumption) ?_
      rotate_left 1
      · (intro w hSw; (try dsimp only at hSw); go_simp)
        all_goals with_reducible rfl
      (try simp only [Act.put, List.setIfInBounds_toArray, List.set_cons_zero, List.set_cons_succ])
      refine held_take 8 (v := ?_) rfl (by kernel_rfl) (fun _ _ _ h => h) (by rfl) ?_ (by assumption) ?_
      rotate_left 1
      · (intro w hSw; (try dsimp only at hSw); go_simp)
        all_goals with_reducible rfl
      (try simp only [Act.put, List.setIfInBounds_toArray, List.set_cons_zero, List.set_cons_succ])
      refine held_take 9 (v := ?_) rfl (by kernel_rfl) (fun _ _ _ h => h) (by rfl) ?_ (by assumption) ?_
      rotate_left 1
      · (intro w hSw; (try dsimp only at hSw); go_simp)
        all_goals with_reducible rfl
      (try simp only [Act.put, List.setIfInBounds_toArray, List.set_cons_zero, List.set_cons_succ])
      refine held_take 10 (v := ?_) rfl (by kernel_rfl) (fun _ _ _ h => h) (by rfl) ?_ (by assumption) ?_
      rotate_left 1
      · (intro w hSw; (try dsimp only at hSw); go_simp)
        all_goals with_reducible rfl
      (try simp only [Act.put, List.setIfInBounds_toArray, List.set_cons_zero, List.set_cons_succ])
      refine held_take 11 (v := ?_) rfl (by kernel_rfl) (fun _ _ _ h => h) (by rfl) ?_ (by assumption) ?_
      rotate_left 1
      · (intro w hSw; (try dsimp only at hSw); go_simp)
        all_goals with_reducible rfl
      (try simp only [Act.put, List.setIfInBounds_toArray, List.set_cons_zero, List.set_cons_succ])
      refine held_take 12 (v := ?_) rfl (by kernel_rfl) (fun _ _ _ h => h) (by rfl) ?_ (by assumption) ?_
      rotate_left 1
      · (intro w hSw; (try dsimp only at hSw); go_simp)
        all_goals with_reducible rfl
      (try simp only [Act.put, List.setIfInBounds_toArray, List.set_cons_zero, List.set_cons_succ])
      refine wpAnyH_ready (rs := [7]) (by kernel_rfl) (by simp) ?_
      refine held_step 7 rfl (fun K hK => ?_) ?_
      · go_simp
        go_wp2_with (first | (go_at_call 26; refine (HQ.out.blocks HI.out).mono ?_; rintro e w1 ⟨rfl, rfl⟩) | (go_at_call 29; refine (HQ.out.rblocks HJ.out).mono ?_; rintro e w1 ⟨rfl, rfl⟩) | (go_at_call 25; refine (HQ.out.waits HI.out).mono ?_; rintro e w1 ⟨rfl, rfl⟩) | (go_at_call 24; have hc := HQ.out.bytes HI.out HL.out; rw [HBs.out, HBsl.out] at hc; (with_reducible refine hc.mono ?_); clear hc; rintro e wA ⟨gA, cA, rfl, hcF, hgF, hOA, hBF⟩; replace HQ := Aside0.mk (HQ.out.below hBF); replace HB := Aside0.mk (below_step HB.out hBF); have hcA := hOA.str; rw [HBsl.out] at hcA; have HOA := Aside0.mk hOA; clear hOA hBF hgF hcF) | (go_at_call 32; have hc := HQ.out.rbytes HJ.out HL.out; rw [HBs.out, HBsl.out] at hc; (with_reducible refine hc.mono ?_); clear hc; rintro e wB ⟨gB, cB, rfl, hcF, hgF, hOB, hBF⟩; replace HQ := Aside0.mk (HQ.out.below hBF); replace HB := Aside0.mk (below_step HB.out hBF); have hcA1 := (HOA.out.same (hBF.block _ HOA.out.lt)).str; rw [HBsl.out] at hcA1; have hcB := hOB.str; rw [HBsl.out] at hcB; clear hOB hBF hgF hcF) | fail)
        refine hK.out _ _ ?_ ?_
        · (try dsimp only) <;> (first | assumption | exact hS.out _ HB.out)
        clear hK K hHeld
        intro hHeld
        (try simp only [Act.put, List.setIfInBounds_toArray, List.set_cons_zero, List.set_cons_succ])
        refine held_take 13 (v := ?_) rfl (by kernel_rfl) (fun _ _ _ h => h) (by rfl) ?_ (by assumption) ?_
        rotate_left 1
        · (intro w hSw; (try dsimp only at hSw); go_simp)
          all_goals with_reducible rfl
        (try simp only [Act.put, List.setIfInBounds_toArray, List.set_cons_zero, List.set_cons_succ])
        refine held_take 14 (v := ?_) rfl (by kernel_rfl) (fun _ _ _ h => h) (by rfl) ?_ (by assumption) ?_
        rotate_left 1
        · (intro w hSw; (try dsimp only at hSw); go_simp)
          all_goals with_reducible rfl
        (try simp only [Act.put, List.setIfInBounds_toArray, List.set_cons_zero, List.set_cons_succ])
        refine held_take 15 (v := ?_) rfl (by kernel_rfl) (fun _ _ _ h => h) (by rfl) ?_ (by assumption) ?_
        rotate_left 1
        · (intro w hSw; (try dsimp only at hSw); go_simp)
          all_goals with_reducible rfl
        (try simp only [Act.put, List.setIfInBounds_toArray, List.set_cons_zero, List.set_cons_succ])
        refine held_take 16 (v := ?_) rfl (by kernel_rfl) (fun _ _ _ h => h) (by rfl) ?_ (by assumption) ?_
        rotate_left 1
        · (intro w hSw; (try dsimp only at hSw); go_simp)
          all_goals with_reducible rfl
        (try simp only [Act.put, List.setIfInBounds_toArray, List.set_cons_zero, List.set_cons_succ])
        refine held_take 19 (v := ?_) rfl (by kernel_rfl) (fun _ _ _ h => h) (by rfl) ?_ (by assumption) ?_
        rotate_left 1
        · (intro w hSw; (try dsimp only at hSw); go_simp)
          all_goals with_reducible rfl
        (try simp only [Act.put, List.setIfInBounds_toArray, List.set_cons_zero, List.set_cons_succ])
        refine wpAnyH_ready (rs := [17]) (by kernel_rfl) (by simp) ?_
        refine held_step 17 rfl (fun K hK => ?_) ?_
        · go_simp
          go_wp2_with (first | (go_at_call 26; refine (HQ.out.blocks HI.out).mono ?_; rintro e w1 ⟨rfl, rfl⟩) | (go_at_call 29; refine (HQ.out.rblocks HJ.out).mono ?_; rintro e w1 ⟨rfl, rfl⟩) | (go_at_call 25; refine (HQ.out.waits HI.out).mono ?_; rintro e w1 ⟨rfl, rfl⟩) | (go_at_call 24; have hc := HQ.out.bytes HI.out HL.out; rw [HBs.out, HBsl.out] at hc; (with_reducible refine hc.mono ?_); clear hc; rintro e wA ⟨gA, cA, rfl, hcF, hgF, hOA, hBF⟩; replace HQ := Aside0.mk (HQ.out.below hBF); replace HB := Aside0.mk (below_step HB.out hBF); have hcA := hOA.str; rw [HBsl.out] at hcA; have HOA := Aside0.mk hOA; clear hOA hBF hgF hcF) | (go_at_call 32; have hc := HQ.out.rbytes HJ.out HL.out; rw [HBs.out, HBsl.out] at hc; (with_reducible refine hc.mono ?_); clear hc; rintro e wB ⟨gB, cB, rfl, hcF, hgF, hOB, hBF⟩; replace HQ := Aside0.mk (HQ.out.below hBF); replace HB := Aside0.mk (below_step HB.out hBF); have hcA1 := (HOA.out.same (hBF.block _ HOA.out.lt)).str; rw [HBsl.out] at hcA1; have hcB := hOB.str; rw [HBsl.out] at hcB; clear hOB hBF hgF hcF) | fail)
          refine hK.out _ _ ?_ ?_
          · (try dsimp only) <;> (first | assumption | exact hS.out _ HB.out)
          clear hK K hHeld
          intro hHeld
          (try simp only [Act.put, List.setIfInBounds_toArray, List.set_cons_zero, List.set_cons_succ])
          refine wpAnyH_ready (rs := [18, 20]) (by kernel_rfl) (by simp) ?_
          refine held_step 18 rfl (fun K hK => ?_) ?_
          · go_simp
            refine hK.out _ _ ?_ ?_
            · (try dsimp only) <;> (first | assumption | exact hS.out _ HB.out)
            clear hK K hHeld
            intro hHeld
            (try simp only [Act.put, List.setIfInBounds_toArray, List.set_cons_zero, List.set_cons_succ])
            refine wpAnyH_ready (rs := [20]) (by kernel_rfl) (by simp) ?_
            refine held_step 20 rfl (fun K hK => ?_) ?_
            · go_simp
              go_wp2_with (first | (go_at_call 26; refine (HQ.out.blocks HI.out).mono ?_; rintro e w1 ⟨rfl, rfl⟩) | (go_at_call 29; refine (HQ.out.rblocks HJ.out).mono ?_; rintro e w1 ⟨rfl, rfl⟩) | (go_at_call 25; refine (HQ.out.waits HI.out).mono ?_; rintro e w1 ⟨rfl, rfl⟩) | (go_at_call 24; have hc := HQ.out.bytes HI.out HL.out; rw [HBs.out, HBsl.out] at hc; (with_reducible refine hc.mono ?_); clear hc; rintro e wA ⟨gA, cA, rfl, hcF, hgF, hOA, hBF⟩; replace HQ := Aside0.mk (HQ.out.below hBF); replace HB := Aside0.mk (below_step HB.out hBF); have hcA := hOA.str; rw [HBsl.out] at hcA; have HOA := Aside0.mk hOA; clear hOA hBF hgF hcF) | (go_at_call 32; have hc := HQ.out.rbytes HJ.out HL.out; rw [HBs.out, HBsl.out] at hc; (with_reducible refine hc.mono ?_); clear hc; rintro e wB ⟨gB, cB, rfl, hcF, hgF, hOB, hBF⟩; replace HQ := Aside0.mk (HQ.out.below hBF); replace HB := Aside0.mk (below_step HB.out hBF); have hcA1 := (HOA.out.same (hBF.block _ HOA.out.lt)).str; rw [HBsl.out] at hcA1; have hcB := hOB.str; rw [HBsl.out] at hcB; clear hOB hBF hgF hcF) | fail)
              refine hK.out _ _ ?_ ?_
              · (try dsimp only) <;> (first | assumption | exact hS.out _ HB.out)
              clear hK K hHeld
              intro hHeld
              (try simp only [Act.put, List.setIfInBounds_toArray, List.set_cons_zero, List.set_cons_succ])
              refine wpAnyH_ready (rs := [21]) (by kernel_rfl) (by simp) ?_
              refine held_step 21 rfl (fun K hK => ?_) ?_
              · go_simp
                refine hK.out _ _ ?_ ?_
                · (try dsimp only) <;> (first | assumption | exact hS.out _ HB.out)
                clear hK K hHeld
                intro hHeld
                (try simp only [Act.put, List.setIfInBounds_toArray, List.set_cons_zero, List.set_cons_succ])
                refine held_take 22 (v := ?_) rfl (by kernel_rfl) (fun _ _ _ h => h) (by rfl) ?_ (by assumption) ?_
                rotate_left 1
                · (intro w hSw; (try dsimp only at hSw); go_simp)
                  all_goals with_reducible rfl
                (try simp only [Act.put, List.setIfInBounds_toArray, List.set_cons_zero, List.set_cons_succ])
                refine held_take 23 (v := ?_) rfl (by kernel_rfl) (fun _ _ _ h => h) (by rfl) ?_ (by assumption) ?_
                rotate_left 1
                · (intro w hSw; (try dsimp only at hSw); go_simp)
                  all_goals with_reducible rfl
                (try simp only [Act.put, List.setIfInBounds_toArray, List.set_cons_zero, List.set_cons_succ])
                refine held_take 24 (v := ?_) rfl (by kernel_rfl) (fun _ _ _ h => h) (by rfl) ?_ (by assumption) ?_
                rotate_left 1
                · (intro w hSw; (try dsimp only at hSw); go_simp)
                  all_goals with_reducible rfl
                (try simp only [Act.put, List.setIfInBounds_toArray, List.set_cons_zero, List.set_cons_succ])
                refine wpAnyH_done (by kernel_rfl) ?_ _
                refine NoPanic.normal ?_
                go_wp2
                go_ret
                exact ⟨by simp, HB.out⟩
              exact AllReadyH.nil
            exact AllReadyH.nil
          refine held_step 20 rfl (fun K hK => ?_) ?_
          · go_simp
            go_wp2_with (first | (go_at_call 26; refine (HQ.out.blocks HI.out).mono ?_; rintro e w1 ⟨rfl, rfl⟩) | (go_at_call 29; refine (HQ.out.rblocks HJ.out).mono ?_; rintro e w1 ⟨rfl, rfl⟩) | (go_at_call 25; refine (HQ.out.waits HI.out).mono ?_; rintro e w1 ⟨rfl, rfl⟩) | (go_at_call 24; have hc := HQ.out.bytes HI.out HL.out; rw [HBs.out, HBsl.out] at hc; (with_reducible refine hc.mono ?_); clear hc; rintro e wA ⟨gA, cA, rfl, hcF, hgF, hOA, hBF⟩; replace HQ := Aside0.mk (HQ.out.below hBF); replace HB := Aside0.mk (below_step HB.out hBF); have hcA := hOA.str; rw [HBsl.out] at hcA; have HOA := Aside0.mk hOA; clear hOA hBF hgF hcF) | (go_at_call 32; have hc := HQ.out.rbytes HJ.out HL.out; rw [HBs.out, HBsl.out] at hc; (with_reducible refine hc.mono ?_); clear hc; rintro e wB ⟨gB, cB, rfl, hcF, hgF, hOB, hBF⟩; replace HQ := Aside0.mk (HQ.out.below hBF); replace HB := Aside0.mk (below_step HB.out hBF); have hcA1 := (HOA.out.same (hBF.block _ HOA.out.lt)).str; rw [HBsl.out] at hcA1; have hcB := hOB.str; rw [HBsl.out] at hcB; clear hOB hBF hgF hcF) | fail)
            refine hK.out _ _ ?_ ?_
            · (try dsimp only) <;> (first | assumption | exact hS.out _ HB.out)
            clear hK K hHeld
            intro hHeld
            (try simp only [Act.put, List.setIfInBounds_toArray, List.set_cons_zero, List.set_cons_succ])
            refine wpAnyH_ready (rs := [18, 21]) (by kernel_rfl) (by simp) ?_
            refine held_step 18 rfl (fun K hK => ?_) ?_
            · go_simp
              refine hK.out _ _ ?_ ?_
              · (try dsimp only) <;> (first | assumption | exact hS.out _ HB.out)
              clear hK K hHeld
              intro hHeld
              (try simp only [Act.put, List.setIfInBounds_toArray, List.set_cons_zero, List.set_cons_succ])
              refine wpAnyH_ready (rs := [21]) (by kernel_rfl) (by simp) ?_
              refine held_step 21 rfl (fun K hK => ?_) ?_
              · go_simp
                refine hK.out _ _ ?_ ?_
                · (try dsimp only) <;> (first | assumption | exact hS.out _ HB.out)
                clear hK K hHeld
                intro hHeld
                (try simp only [Act.put, List.setIfInBounds_toArray, List.set_cons_zero, List.set_cons_succ])
                refine held_take 22 (v := ?_) rfl (by kernel_rfl) (fun _ _ _ h => h) (by rfl) ?_ (by assumption) ?_
                rotate_left 1
                · (intro w hSw; (try dsimp only at hSw); go_simp)
                  all_goals with_reducible rfl
                (try simp only [Act.put, List.setIfInBounds_toArray, List.set_cons_zero, List.set_cons_succ])
                refine held_take 23 (v := ?_) rfl (by kernel_rfl) (fun _ _ _ h => h) (by rfl) ?_ (by assumption) ?_
                rotate_left 1
                · (intro w hSw; (try dsimp only at hSw); go_simp)
                  all_goals with_reducible rfl
                (try simp only [Act.put, List.setIfInBounds_toArray, List.set_cons_zero, List.set_cons_succ])
                refine held_take 24 (v := ?_) rfl (by kernel_rfl) (fun _ _ _ h => h) (by rfl) ?_ (by assumption) ?_
                rotate_left 1
                · (intro w hSw; (try dsimp only at hSw); go_simp)
                  all_goals with_reducible rfl
                (try simp only [Act.put, List.setIfInBounds_toArray, List.set_cons_zero, List.set_cons_succ])
                refine wpAnyH_done (by kernel_rfl) ?_ _
                refine NoPanic.normal ?_
                go_wp2
                go_ret
                exact ⟨by simp, HB.out⟩
              exact AllReadyH.nil
            refine held_step 21 rfl (fun K hK => ?_) ?_
            · go_simp
              refine hK.out _ _ ?_ ?_
              · (try dsimp only) <;> (first | assumption | exact hS.out _ HB.out)
              clear hK K hHeld
              intro hHeld
              (try simp only [Act.put, List.setIfInBounds_toArray, List.set_cons_zero, List.set_cons_succ])
              refine wpAnyH_ready (rs := [18]) (by kernel_rfl) (by simp) ?_
              refine held_step 18 rfl (fun K hK => ?_) ?_
              · go_simp
                refine hK.out _ _ ?_ ?_
                · (try dsimp only) <;> (first | assumption | exact hS.out _ HB.out)
                clear hK K hHeld
                intro hHeld
                (try simp only [Act.put, List.setIfInBounds_toArray, List.set_cons_zero, List.set_cons_succ])
                refine held_take 22 (v := ?_) rfl (by kernel_rfl) (fun _ _ _ h => h) (by rfl) ?_ (by assumption) ?_
                rotate_left 1
                · (intro w hSw; (try dsimp only at hSw); go_simp)
                  all_goals with_reducible rfl
                (try simp only [Act.put, List.setIfInBounds_toArray, List.set_cons_zero, List.set_cons_succ])
                refine held_take 23 (v := ?_) rfl (by kernel_rfl) (fun _ _ _ h => h) (by rfl) ?_ (by assumption) ?_
                rotate_left 1
                · (intro w hSw; (try dsimp only at hSw); go_simp)
                  all_goals with_reducible rfl
                (try simp only [Act.put, List.setIfInBounds_toArray, List.set_cons_zero, List.set_cons_succ])
                refine held_take 24 (v := ?_) rfl (by kernel_rfl) (fun _ _ _ h => h) (by rfl) ?_ (by assumption) ?_
                rotate_left 1
                · (intro w hSw; (try dsimp only at hSw); go_simp)
                  all_goals with_reducible rfl
                (try simp only [Act.put, List.setIfInBounds_toArray, List.set_cons_zero, List.set_cons_succ])
                refine wpAnyH_done (by kernel_rfl) ?_ _
                refine NoPanic.normal ?_
                go_wp2
                go_ret
                exact ⟨by simp, HB.out⟩
              exact AllReadyH.nil
            exact AllReadyH.nil
          exact AllReadyH.nil
        exact AllReadyH.nil
      exact AllReadyH.nil
    exact AllReadyH.nil
  exact AllReadyH.nil
end Go.Proofs.Ytkpfhlfbhceebaa.PAll
