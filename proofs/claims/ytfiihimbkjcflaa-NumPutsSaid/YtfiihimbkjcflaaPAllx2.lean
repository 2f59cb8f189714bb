-- Printed by this session's own program (wip/tools/pp.py): out of the translation. Lean checks it.
import Derived.Test.YtfiihimbkjcflaaPAllx0
import Derived.Test.YtfiihimbkjcflaaPAllx1
namespace Go.Proofs.Ytfiihimbkjcflaa.PAll
open Go.Proofs.Ytfiihimbkjcflaa.Help
open Go.RowKit Go.Proofs.YtfiihimbkjcflaaW.PrintWords Go.Proofs.YtfiihimbkjcflaaW.PrintLast Go.Proofs.YtfiihimbkjcflaaW.PrintMore
attribute [local go_sem] max2_int min2_int max_two min_two max_three min_three max_four min_four   -- for this text's walks alone
set_option linter.unusedVariables false
set_option linter.unusedSimpArgs false

/-! ### num_Sum: function 20 -/
mutual
def num_Sum.l0 : Nat → Int → List Int → Int → Int → Option (Int)
  | 0, _, _, _, _ => none
  | k + 1, x3, x7, x8, x9 => if x9 < x8 then (if 0 ≤ x9 then (if x9 < (x7.length : Int) then (num_Sum.l1 k (Go.bits .xor .u32 x3 ((rd x7 x9) % 4294967296)) x7 x8 x9 0) else (none)) else (none)) else (some (Go.bits .xor .u32 4294967295 x3))
def num_Sum.l1 : Nat → Int → List Int → Int → Int → Int → Option (Int)
  | 0, _, _, _, _, _ => none
  | k + 1, x3, x7, x8, x9, x17 => if x17 < 8 then (if (Go.bits .and .u32 x3 1) = 1 then (num_Sum.l1 k (Go.bits .xor .u32 (x3 / 2) 3988292384) x7 x8 x9 (wrap64 (x17 + 1))) else (num_Sum.l1 k (x3 / 2) x7 x8 x9 (wrap64 (x17 + 1)))) else (num_Sum.l0 k x3 x7 x8 (wrap64 (x9 + 1)))
end
def num_Sum.f (k : Nat) (l0 : List Int) : Option (Int) := num_Sum.l0 k 4294967295 l0 (l0.length : Int) 0
theorem num_Sum.mono_l : ∀ k, (∀ y0 y1 y2 y3, LeO (num_Sum.l0 k y0 y1 y2 y3) (num_Sum.l0 (k + 1) y0 y1 y2 y3)) ∧ (∀ y0 y1 y2 y3 y4, LeO (num_Sum.l1 k y0 y1 y2 y3 y4) (num_Sum.l1 (k + 1) y0 y1 y2 y3 y4))
  | 0 => ⟨fun _ _ _ _ r h => by simp [num_Sum.l0] at h, fun _ _ _ _ _ r h => by simp [num_Sum.l1] at h⟩
  | k + 1 => by
    obtain ⟨ih0, ih1⟩ := num_Sum.mono_l k
    refine ⟨?_, ?_⟩
    · intro y0 y1 y2 y3
      unfold num_Sum.l0
      repeat' first
      | (with_reducible exact ih0 _ _ _ _)
      | (with_reducible exact ih1 _ _ _ _ _)
      | (with_reducible exact LeO.refl _)
      | (with_reducible exact LeO.none _)
      | (with_reducible refine LeO.ite ?_ ?_)
      | (with_reducible refine LeO.bind ?_ (fun _ => ?_))
      | exact ih0 _ _ _ _
      | exact ih1 _ _ _ _ _
      | exact LeO.none _
      | refine LeO.ite ?_ ?_
      | refine LeO.bind ?_ (fun _ => ?_)
    · intro y0 y1 y2 y3 y4
      unfold num_Sum.l1
      repeat' first
      | (with_reducible exact ih0 _ _ _ _)
      | (with_reducible exact ih1 _ _ _ _ _)
      | (with_reducible exact LeO.refl _)
      | (with_reducible exact LeO.none _)
      | (with_reducible refine LeO.ite ?_ ?_)
      | (with_reducible refine LeO.bind ?_ (fun _ => ?_))
      | exact ih0 _ _ _ _
      | exact ih1 _ _ _ _ _
      | exact LeO.none _
      | refine LeO.ite ?_ ?_
      | refine LeO.bind ?_ (fun _ => ?_)
theorem num_Sum.mono : ∀ a0 k, LeO (num_Sum.f k a0) (num_Sum.f (k + 1) a0) := by
  intro a0 k
  obtain ⟨ih0, ih1⟩ := num_Sum.mono_l k
  unfold num_Sum.f
  repeat' first
      | (with_reducible exact ih0 _ _ _ _)
      | (with_reducible exact ih1 _ _ _ _ _)
      | (with_reducible exact LeO.refl _)
      | (with_reducible exact LeO.none _)
      | (with_reducible refine LeO.ite ?_ ?_)
      | (with_reducible refine LeO.bind ?_ (fun _ => ?_))
      | exact ih0 _ _ _ _
      | exact ih1 _ _ _ _ _
      | exact LeO.none _
      | refine LeO.ite ?_ ?_
      | refine LeO.bind ?_ (fun _ => ?_)
set_option maxHeartbeats 8000000 in
set_option maxRecDepth 100000 in
theorem num_Sum.calls (k : Nat) (A0 : Option Addr) (c0 : Nat) (l0 : List Int) (r : Int) (w : World) (hr0 : Kd.C (Kd.int .u8) w A0 l0.length l0) (hc0 : l0.length ≤ c0) (h : num_Sum.f k l0 = some r) :
    Calls Try.prog 20 #[.slice A0 l0.length c0] w fun e w' => e = .returned (.int .u32 r) ∧ Drawn0 w w' := by
  have HR0 := Aside0.mk hr0
  have HC0 := Aside0.mk hc0
  clear hr0 hc0
  have H : (num_Sum.l0 k 4294967295 l0 (l0.length : Int) 0) = some r := h
  clear h
  have H' := Aside0.mk H
  clear H
  go_enter Try.func20, Try.ntmps20
  go_wp2
  go_loopg [3, 9] k (fun kq v3 v9 w' => ∃ (x3_1 : Int) (x9_1 : Int), v3 = .int .u32 x3_1 ∧ v9 = .int .i64 x9_1 ∧ Aside0 (num_Sum.l0 kq x3_1 l0 (l0.length : Int) x9_1 = some r) ∧ Aside0 (kq ≤ k) ∧ Drawn0 w w')
  case atStart => exact ⟨(4294967295), (0), (by first | rfl | (simp; done) | (simp [*]; done)), (by first | rfl | (simp; done) | (simp [*]; done)), H', ⟨Nat.le_refl _⟩, by repeat (first | exact Drawn0.refl _ | apply Drawn0.step)⟩
  case round =>
    clear H'
    obtain ⟨x3_1, x9_1, rfl, rfl, HA, HK1, ⟨m1, rfl⟩⟩ := hrel
    cases gk with
    | zero => exact absurd HA.out (by simp [num_Sum.l0])
    | succ k1 =>
      have H := HA.out
      clear HA
      simp only [num_Sum.l0] at H
      by_cases c2 : x9_1 < (l0.length : Int)
      · rw [if_pos c2] at H
        have c2b0 : decide (x9_1 < (l0.length : Int)) = true := decide_eq_true c2
        clear c2
        by_cases c3 : 0 ≤ x9_1
        · rw [if_pos c3] at H
          have c3b0 : decide (0 ≤ x9_1) = true := decide_eq_true c3
          clear c3
          by_cases c4 : x9_1 < (l0.length : Int)
          · rw [if_pos c4] at H
            have c4b0 : decide (x9_1 < (l0.length : Int)) = true := decide_eq_true c4
            clear c4
            have H' := Aside0.mk H
            clear H
            have p115 : 0 ≤ (x9_1 : Int) := of_decide_eq_true (by first | (with_reducible assumption) | assumption)
            have q115 : x9_1 < (l0.length : Int) := of_decide_eq_true (by first | (with_reducible assumption) | assumption)
            obtain ⟨ad115, e115, hx115_0⟩ := Kd.at_int HR0.out x9_1 p115 q115
            cases e115
            replace p115 := eq_true p115
            replace q115 := eq_true q115
            go_wp2
            go_loopg [3, 17] k1 (fun kq v3 v17 w' => ∃ (x3_2 : Int) (x17_2 : Int), v3 = .int .u32 x3_2 ∧ v17 = .int .i64 x17_2 ∧ Aside0 (num_Sum.l1 kq x3_2 l0 (l0.length : Int) x9_1 x17_2 = some r) ∧ Aside0 (kq ≤ k1) ∧ Drawn0 w w')
            case atStart => exact ⟨(Go.bits .xor .u32 x3_1 ((rd l0 x9_1) % 4294967296)), (0), (by first | rfl | (simp; done) | (simp [*]; done)), (by first | rfl | (simp; done) | (simp [*]; done)), H', ⟨Nat.le_refl _⟩, by repeat (first | exact Drawn0.refl _ | apply Drawn0.step)⟩
            case round =>
              clear H'
              try clear p1
              try clear q1
              try clear hx1
              try clear c2
              try clear c2b0
              try clear p2
              try clear c3
              try clear c3b0
              try clear c4
              try clear c4b0
              try clear hx115_0
              try clear p115
              try clear q115
              obtain ⟨x3_2, x17_2, rfl, rfl, HA, HK2, ⟨m2, rfl⟩⟩ := hrel
              cases gk with
              | zero => exact absurd HA.out (by simp [num_Sum.l1])
              | succ k2 =>
                have H := HA.out
                clear HA
                simp only [num_Sum.l1] at H
                by_cases c5 : x17_2 < 8
                · rw [if_pos c5] at H
                  have c5b0 : decide (x17_2 < 8) = true := decide_eq_true c5
                  clear c5
                  by_cases c6 : (Go.bits .and .u32 x3_2 1) = 1
                  · rw [if_pos c6] at H
                    have c6b0 : ((Go.bits .and .u32 x3_2 1) == 1) = true := beq_iff_eq.mpr c6
                    have c6b1 : ((Go.bits .and .u32 x3_2 1) != 1) = false := bne_eq_false_iff_eq.mpr c6
                    clear c6
                    have H' := Aside0.mk H
                    clear H
                    go_wp2
                    go_roundg k2
                    case measure => have := HK1.out; have := HK2.out; omega
                    case rel => exact ⟨(Go.bits .xor .u32 (x3_2 / 2) 3988292384), (wrap64 (x17_2 + 1)), (by first | rfl | (simp; done) | (simp [*]; done)), (by first | rfl | (simp; done) | (simp [*]; done)), H', ⟨by have := HK1.out; have := HK2.out; omega⟩, by repeat (first | exact Drawn0.refl _ | apply Drawn0.step)⟩
                  · rw [if_neg c6] at H
                    have c6b0 : ((Go.bits .and .u32 x3_2 1) == 1) = false := beq_eq_false_iff_ne.mpr c6
                    have c6b1 : ((Go.bits .and .u32 x3_2 1) != 1) = true := bne_iff_ne.mpr c6
                    have H' := Aside0.mk H
                    clear H
                    go_wp2
                    go_roundg k2
                    case measure => have := HK1.out; have := HK2.out; omega
                    case rel => exact ⟨(x3_2 / 2), (wrap64 (x17_2 + 1)), (by first | rfl | (simp; done) | (simp [*]; done)), (by first | rfl | (simp; done) | (simp [*]; done)), H', ⟨by have := HK1.out; have := HK2.out; omega⟩, by repeat (first | exact Drawn0.refl _ | apply Drawn0.step)⟩
                · rw [if_neg c5] at H
                  have c5b0 : decide (x17_2 < 8) = false := decide_eq_false c5
                  clear c5
                  have H' := Aside0.mk H
                  clear H
                  go_wp2
                  go_roundg k2
                  case measure => have := HK1.out; have := HK2.out; omega
                  case rel => exact ⟨(x3_2), (wrap64 (x9_1 + 1)), (by first | rfl | (simp; done) | (simp [*]; done)), (by first | rfl | (simp; done) | (simp [*]; done)), H', ⟨by have := HK1.out; have := HK2.out; omega⟩, by repeat (first | exact Drawn0.refl _ | apply Drawn0.step)⟩
          · rw [if_neg c4] at H
            exact absurd H (by simp)
        · rw [if_neg c3] at H
          exact absurd H (by simp)
      · rw [if_neg c2] at H
        have c2b0 : decide (x9_1 < (l0.length : Int)) = false := decide_eq_false c2
        clear c2
        obtain rfl := Option.some.inj H
        go_wp2
        go_ret
        exact ⟨by first | rfl | (simp; done) | (simp [*]; done), by repeat (first | exact Drawn0.refl _ | apply Drawn0.step)⟩

/-! ### num_Put4: function 22 -/
def num_Put4.f (l0 : List Int) (a1 : Int) : Option (List Int) := (slices_Clone_byte_byte.f l0).bind fun t116 => ((some (([(a1) % 256, (a1 / 256) % 256, (a1 / 65536) % 256, (a1 / 16777216) % 256] : List Int) : List Int)).bind fun y119 => (if t116.length + y119.length < 140737488355328 then (some (t116 ++ y119)) else (none)))
set_option maxHeartbeats 8000000 in
set_option maxRecDepth 100000 in
theorem num_Put4.calls (A0 : Option Addr) (c0 : Nat) (l0 : List Int) (a1 : Int) (r : List Int) (w : World) (hr0 : Kd.C (Kd.int .u8) w A0 l0.length l0) (hc0 : l0.length ≤ c0) (h : num_Put4.f l0 a1 = some r) :
    Calls Try.prog 22 #[.slice A0 l0.length c0, .int .u32 a1] w fun e w' => ∃ v0_ : Value, e = .returned (v0_) ∧ Kd.R (Kd.int .u8) 5 w' w.heap.size (fun _ => True) v0_ r ∧ Below w.heap.size w w' := by
  have HR0 := Aside0.mk hr0
  have HC0 := Aside0.mk hc0
  clear hr0 hc0
  have HB := Aside0.mk (Below.refl w.heap.size w)
  have H : ((slices_Clone_byte_byte.f l0).bind fun t116 => ((some (([(a1) % 256, (a1 / 256) % 256, (a1 / 65536) % 256, (a1 / 16777216) % 256] : List Int) : List Int)).bind fun y119 => (if t116.length + y119.length < 140737488355328 then (some (t116 ++ y119)) else (none)))) = some r := h
  clear h
  replace H := Option.bind_eq_some_iff.mp H
  obtain ⟨t116, A30, H⟩ := H
  replace H : ((some (([(a1) % 256, (a1 / 256) % 256, (a1 / 65536) % 256, (a1 / 16777216) % 256] : List Int) : List Int)).bind fun y119 => (if t116.length + y119.length < 140737488355328 then (some (t116 ++ y119)) else (none))) = some r := H
  have A3 := Aside0.mk A30
  clear A30
  obtain ⟨y119, hy119⟩ : ∃ y_ : List Int, y_ = (([(a1) % 256, (a1 / 256) % 256, (a1 / 65536) % 256, (a1 / 16777216) % 256] : List Int)) := ⟨_, rfl⟩
  replace H : (if t116.length + y119.length < 140737488355328 then (some (t116 ++ y119)) else (none)) = some r := by first | (rw [hy119]; with_reducible exact H) | (have H2_ := (Option.bind_some _ _).symm.trans H; rw [hy119]; with_reducible exact H2_) | (have H2_ := (Option.bind_some _ _).symm.trans H; with_reducible exact H2_) | with_reducible exact H | (rw [hy119]; exact H) | exact H
  have Ny119 := Aside0.mk hy119
  clear hy119
  by_cases c4 : t116.length + y119.length < 140737488355328
  · rw [if_pos c4] at H
    have LMc4 := Aside0.mk c4
    clear c4
    obtain ⟨y122, hy122⟩ : ∃ y_ : List Int, y_ = (t116 ++ y119) := ⟨_, rfl⟩
    replace H : (some y122) = some r := by first | (rw [hy122]; with_reducible exact H) | (have H2_ := (Option.bind_some _ _).symm.trans H; rw [hy122]; with_reducible exact H2_) | (have H2_ := (Option.bind_some _ _).symm.trans H; with_reducible exact H2_) | with_reducible exact H | (rw [hy122]; exact H) | exact H
    have Ny122 := Aside0.mk hy122
    clear hy122
    obtain rfl := Option.some.inj H
    go_enter Try.func22, Try.ntmps22
    go_wp2_with (first | ((with_reducible refine gate_callee (f := 23) rfl ?_); refine goesL_ (some 6) rfl rfl Try.func23 (by kernel_rfl) rfl #[.slice A0 l0.length c0] rfl (by (try simp only [List.map_toArray, List.map_cons, List.map_nil]); first | done | rfl | (simp only [List.length_drop, List.length_take]; rfl)) ?_; (with_reducible refine (slices_Clone_byte_byte.calls _ _ l0 t116 _ ?side1 ?side2 A3.out).mono ?_); (case side1 => repeat (first | exact HR0.out | (with_reducible refine Kd.C_alloc ?_ _) | (with_reducible refine Kd.C_drewN ?_ _) | (with_reducible refine Kd.C_drew ?_))); (case side2 => exact HC0.out); rintro e w5 ⟨v117, rfl, ho0, hb⟩; refine ⟨_, rfl, ?_⟩; have n0_ := Aside0.mk (Kd.R_lower ho0 (below_size (by repeat (first | (with_reducible first | exact HB.out | apply below_alloc | apply pw_below_drewN | apply below_drew1) | exact HB.out)))); have n1_ := Aside0.mk (below_step (by repeat (first | (with_reducible first | exact HB.out | apply below_alloc | apply pw_below_drewN | apply below_drew1) | exact HB.out)) hb); clear HB; have HO118 := n0_; have HB := n1_; clear n0_ n1_; (try clear hb); (try clear hb2); (try clear hk); (try clear hi); (try clear ho0)) | ((with_reducible refine gate_dst (N := 18) rfl ?_); refine Kd.R_lit (Kd.int .u8) _ 5 ?hg (N := 18) ?hd (xs := ([(a1) % 256, (a1 / 256) % 256, (a1 / 65536) % 256, (a1 / 16777216) % 256] : List Int)) (inner := [.int .u8 ((a1) % 256), .int .u8 ((a1 / 256) % 256), .int .u8 ((a1 / 65536) % 256), .int .u8 ((a1 / 16777216) % 256)]) (ok := fun _ => True) (okp := fun _ => True) ?hr ?hp (fun _ hk => hk) trivial (Below.refl _ _) (Nat.le_refl _) (by simp) ?_; (case hd => rfl); (case hg => rfl); (case hr => first | (go_simp; done) | (go_simp; rfl)); (case hp => exact (Reps.one (show Kd.M (Kd.int .u8) _ _ _ ((a1) % 256) [.int .u8 ((a1) % 256)] from rfl) (Reps.one (show Kd.M (Kd.int .u8) _ _ _ ((a1 / 256) % 256) [.int .u8 ((a1 / 256) % 256)] from rfl) (Reps.one (show Kd.M (Kd.int .u8) _ _ _ ((a1 / 65536) % 256) [.int .u8 ((a1 / 65536) % 256)] from rfl) (Reps.one (show Kd.M (Kd.int .u8) _ _ _ ((a1 / 16777216) % 256) [.int .u8 ((a1 / 16777216) % 256)] from rfl) (Reps.none _ _)))))); intro v120 w6 ho7 hb hg_ hnew_; clear hg_ hnew_; (first | rw [← Ny119.out] at ho7 | (simp only [Int.reduceToNat] at ho7; rw [← Ny119.out] at ho7)); have n0_ := Aside0.mk (Kd.R_elder' (by (with_reducible repeat (first | apply Kd.R_alloc | apply Kd.R_drewN | apply Kd.R_drew)); exact HO118.out) (Kd.R_base ho7) hb); have n1_ := Aside0.mk (Kd.R_lower (Kd.R_new' ho7 (Kd.R_lt (by (with_reducible repeat (first | apply Kd.R_alloc | apply Kd.R_drewN | apply Kd.R_drew)); exact HO118.out))) (below_size (by repeat (first | (with_reducible first | exact HB.out | apply below_alloc | apply pw_below_drewN | apply below_drew1) | exact HB.out)))); have n2_ := Aside0.mk (below_step (by repeat (first | (with_reducible first | exact HB.out | apply below_alloc | apply pw_below_drewN | apply below_drew1) | exact HB.out)) hb); clear HO118; clear HB; have HO118 := n0_; have HO121 := n1_; have HB := n2_; clear n0_ n1_ n2_; clear hb ho7; obtain ⟨Ao9, co9, eo9⟩ := Kd.R_slice HO121.out; subst eo9) | ((with_reducible refine gate_builtin (b := .append) (xs := #[.tmp 6, .tmp 18]) rfl ?_); at_builtin; refine Kd.R_append_rows (Kd.int .u8) (w0 := w) w.heap.size rfl (.tmp 6) (.tmp 18) 22 5 (.int .u8 0) 1 rfl Try.underlying22 info5 rfl (by decide) (by omega) v117 t116 y119 _ _ _ (fun k_ => some k_ ≠ (.slice Ao9 y119.length co9 : Value).ownBlock) (fun _ => False) rfl rfl ?aO ?aR (fun _ _ h => h) (fun _ h => h.elim) ?aF ?aB ?aS ?aL ?_; (case aR => repeat (first | exact (Kd.R_reads' HO121.out).2.2 | (with_reducible refine Kd.C_alloc ?_ _) | (with_reducible refine Kd.C_drewN ?_ _) | (with_reducible refine Kd.C_drew ?_))); (case aB => exact (by repeat (first | (with_reducible first | exact HB.out | apply below_alloc | apply pw_below_drewN | apply below_drew1) | exact HB.out))); (case aF => exact (fun k_ hk => Kd.fresh' (Kd.R_lt (by (with_reducible repeat (first | apply Kd.R_alloc | apply Kd.R_drewN | apply Kd.R_drew)); exact HO121.out)) k_ hk)); (case aO => exact (by (with_reducible repeat (first | apply Kd.R_alloc | apply Kd.R_drewN | apply Kd.R_drew)); exact Kd.R_mono HO118.out (fun _ hk => hk.2))); (case aS => exact (below_size (by repeat (first | (with_reducible first | exact HB.out | apply below_alloc | apply pw_below_drewN | apply below_drew1) | exact HB.out)))); (case aL => have := LMc4.out; omega); intro v123 w8 ho hb hg hat; rw [← Ny122.out] at ho; have n0_ := Aside0.mk (Kd.R_after (ok := (fun _ => True)) (by (with_reducible repeat (first | apply Kd.R_alloc | apply Kd.R_drewN | apply Kd.R_drew)); exact HO121.out) hg hat); have n1_ := Aside0.mk (hb); have n2_ := Aside0.mk (ho); clear HO121; clear HB; clear HO118; have HO121 := n0_; have HB := n1_; have HO124 := n2_; clear n0_ n1_ n2_; clear ho hb hg hat))
    go_ret
    exact ⟨_, by first | rfl | (simp [errW_none, errW_some] <;> rfl) | (simp [*, errW_none, errW_some] <;> rfl), by (with_reducible repeat (first | apply Kd.R_alloc | apply Kd.R_drewN | apply Kd.R_drew)); exact Kd.R_mono HO124.out (fun _ hk => trivial), by repeat (first | (with_reducible first | exact HB.out | apply below_alloc | apply pw_below_drewN | apply below_drew1) | exact HB.out)⟩
  · rw [if_neg c4] at H
    exact absurd H (by simp)

/-! ### norialaw1_known: function 9 -/
def norialaw1_known.f (k : Nat)  : Option (Bool) := (num_Put.f k (([9] : List Int)) 300).bind fun t128 => ((num_Get.f k t128 1).bind fun bt131 => ((num_Get.f k (([128] : List Int)) 0).bind fun bt137 => ((num_Get.f k (([128, 0] : List Int)) 0).bind fun bt143 => ((num_Get.f k ([] : List Int) 1).bind fun bt146 => ((num_Get4.f k (([1, 2, 0, 0, 9] : List Int)) 0).bind fun bt152 => ((num_Get4.f k (([1, 2, 0] : List Int)) 0).bind fun bt158 => (if (strOfNums t128).toList = ([9, 172, 2] : List UInt8) then (if bt131.1 = 300 then (if bt131.2.1 = 2 then (if bt131.2.2 = 0 then (if bt137.2.2 = 5 then (if bt143.2.2 = 2 then (if bt146.2.2 = 1 then ((num_Zig.f (-3)).bind fun t161 => (if t161 = 5 then ((num_Zag.f 5).bind fun t162 => (if t162 = (-3) then ((num_Zig.f (-9223372036854775808)).bind fun t163 => (if t163 = 18446744073709551615 then ((num_Sum.f k ([49, 50, 51, 52, 53, 54, 55, 56, 57] : List Int)).bind fun t164 => (if t164 = 3421780262 then (if bt152.1 = 513 then (if bt152.2.1 = 4 then (if bt152.2.2 = 0 then (if bt158.2.2 = 5 then ((num_Put4.f ([] : List Int) 513).bind fun t165 => (some ((strOfNums t165).toList == ([1, 2, 0, 0] : List UInt8)))) else (none)) else (none)) else (none)) else (none)) else (none))) else (none))) else (none))) else (none))) else (none)) else (none)) else (none)) else (none)) else (none)) else (none)) else (none))))))))
theorem norialaw1_known.mono : ∀ k, LeO (norialaw1_known.f k ) (norialaw1_known.f (k + 1) ) := by
  intro  k
  unfold norialaw1_known.f
  repeat' first
      | (with_reducible exact num_Get.mono _ _ _)
      | (with_reducible exact num_Get4.mono _ _ _)
      | (with_reducible exact num_Put.mono _ _ _)
      | (with_reducible exact num_Sum.mono _ _)
      | (with_reducible exact LeO.refl _)
      | (with_reducible exact LeO.none _)
      | (with_reducible refine LeO.ite ?_ ?_)
      | (with_reducible refine LeO.bind ?_ (fun _ => ?_))
      | exact num_Get.mono _ _ _
      | exact num_Get4.mono _ _ _
      | exact num_Put.mono _ _ _
      | exact num_Sum.mono _ _
      | exact LeO.none _
      | refine LeO.ite ?_ ?_
      | refine LeO.bind ?_ (fun _ => ?_)
set_option maxHeartbeats 8000000 in
set_option maxRecDepth 100000 in
theorem norialaw1_known.calls (k : Nat)  (r : Bool) (w : World) (h : norialaw1_known.f k  = some r) :
    Calls Try.prog 9 #[] w fun e w' => e = .returned (.bool r) ∧ Below w.heap.size w w' := by
  have kc_ := fun (w : World) (C : Array Value) (n c : Nat) => Lib.run_convert_bytes_const (P := Try.prog) w 22 5 C n c Try.underlying22 Try.underlying5
  have kd_ : ∀ (w : World) (m : Nat) (C : Array Value) (n c : Nat), (convert 22 22 (.slice (some ⟨w.heap.size, 0, none⟩) n c)).run Try.prog ((w.drewN m).alloc (.cells C 5)) = .ok (.slice (some ⟨w.heap.size, 0, none⟩) n c) ((w.drewN m).alloc (.cells C 5 (C.size, C.size + 1))) := fun w m C n c => Lib.run_convert_bytes_const (P := Try.prog) (w.drewN m) 22 5 C n c Try.underlying22 Try.underlying5
  have HB := Aside0.mk (Below.refl w.heap.size w)
  have H : ((num_Put.f k (([9] : List Int)) 300).bind fun t128 => ((num_Get.f k t128 1).bind fun bt131 => ((num_Get.f k (([128] : List Int)) 0).bind fun bt137 => ((num_Get.f k (([128, 0] : List Int)) 0).bind fun bt143 => ((num_Get.f k ([] : List Int) 1).bind fun bt146 => ((num_Get4.f k (([1, 2, 0, 0, 9] : List Int)) 0).bind fun bt152 => ((num_Get4.f k (([1, 2, 0] : List Int)) 0).bind fun bt158 => (if (strOfNums t128).toList = ([9, 172, 2] : List UInt8) then (if bt131.1 = 300 then (if bt131.2.1 = 2 then (if bt131.2.2 = 0 then (if bt137.2.2 = 5 then (if bt143.2.2 = 2 then (if bt146.2.2 = 1 then ((num_Zig.f (-3)).bind fun t161 => (if t161 = 5 then ((num_Zag.f 5).bind fun t162 => (if t162 = (-3) then ((num_Zig.f (-9223372036854775808)).bind fun t163 => (if t163 = 18446744073709551615 then ((num_Sum.f k ([49, 50, 51, 52, 53, 54, 55, 56, 57] : List Int)).bind fun t164 => (if t164 = 3421780262 then (if bt152.1 = 513 then (if bt152.2.1 = 4 then (if bt152.2.2 = 0 then (if bt158.2.2 = 5 then ((num_Put4.f ([] : List Int) 513).bind fun t165 => (some ((strOfNums t165).toList == ([1, 2, 0, 0] : List UInt8)))) else (none)) else (none)) else (none)) else (none)) else (none))) else (none))) else (none))) else (none))) else (none)) else (none)) else (none)) else (none)) else (none)) else (none)) else (none))))))))) = some r := h
  clear h
  obtain ⟨y125, hy125⟩ : ∃ y_ : List Int, y_ = (([9] : List Int)) := ⟨_, rfl⟩
  replace H : ((num_Put.f k y125 300).bind fun t128 => ((num_Get.f k t128 1).bind fun bt131 => ((num_Get.f k (([128] : List Int)) 0).bind fun bt137 => ((num_Get.f k (([128, 0] : List Int)) 0).bind fun bt143 => ((num_Get.f k ([] : List Int) 1).bind fun bt146 => ((num_Get4.f k (([1, 2, 0, 0, 9] : List Int)) 0).bind fun bt152 => ((num_Get4.f k (([1, 2, 0] : List Int)) 0).bind fun bt158 => (if (strOfNums t128).toList = ([9, 172, 2] : List UInt8) then (if bt131.1 = 300 then (if bt131.2.1 = 2 then (if bt131.2.2 = 0 then (if bt137.2.2 = 5 then (if bt143.2.2 = 2 then (if bt146.2.2 = 1 then ((num_Zig.f (-3)).bind fun t161 => (if t161 = 5 then ((num_Zag.f 5).bind fun t162 => (if t162 = (-3) then ((num_Zig.f (-9223372036854775808)).bind fun t163 => (if t163 = 18446744073709551615 then ((num_Sum.f k ([49, 50, 51, 52, 53, 54, 55, 56, 57] : List Int)).bind fun t164 => (if t164 = 3421780262 then (if bt152.1 = 513 then (if bt152.2.1 = 4 then (if bt152.2.2 = 0 then (if bt158.2.2 = 5 then ((num_Put4.f ([] : List Int) 513).bind fun t165 => (some ((strOfNums t165).toList == ([1, 2, 0, 0] : List UInt8)))) else (none)) else (none)) else (none)) else (none)) else (none))) else (none))) else (none))) else (none))) else (none)) else (none)) else (none)) else (none)) else (none)) else (none)) else (none))))))))) = some r := by first | (rw [hy125]; with_reducible exact H) | (have H2_ := (Option.bind_some _ _).symm.trans H; rw [hy125]; with_reducible exact H2_) | (have H2_ := (Option.bind_some _ _).symm.trans H; with_reducible exact H2_) | with_reducible exact H | (rw [hy125]; exact H) | exact H
  have Ny125 := Aside0.mk hy125
  clear hy125
  replace H := Option.bind_eq_some_iff.mp H
  obtain ⟨t128, A10, H⟩ := H
  replace H : ((num_Get.f k t128 1).bind fun bt131 => ((num_Get.f k (([128] : List Int)) 0).bind fun bt137 => ((num_Get.f k (([128, 0] : List Int)) 0).bind fun bt143 => ((num_Get.f k ([] : List Int) 1).bind fun bt146 => ((num_Get4.f k (([1, 2, 0, 0, 9] : List Int)) 0).bind fun bt152 => ((num_Get4.f k (([1, 2, 0] : List Int)) 0).bind fun bt158 => (if (strOfNums t128).toList = ([9, 172, 2] : List UInt8) then (if bt131.1 = 300 then (if bt131.2.1 = 2 then (if bt131.2.2 = 0 then (if bt137.2.2 = 5 then (if bt143.2.2 = 2 then (if bt146.2.2 = 1 then ((num_Zig.f (-3)).bind fun t161 => (if t161 = 5 then ((num_Zag.f 5).bind fun t162 => (if t162 = (-3) then ((num_Zig.f (-9223372036854775808)).bind fun t163 => (if t163 = 18446744073709551615 then ((num_Sum.f k ([49, 50, 51, 52, 53, 54, 55, 56, 57] : List Int)).bind fun t164 => (if t164 = 3421780262 then (if bt152.1 = 513 then (if bt152.2.1 = 4 then (if bt152.2.2 = 0 then (if bt158.2.2 = 5 then ((num_Put4.f ([] : List Int) 513).bind fun t165 => (some ((strOfNums t165).toList == ([1, 2, 0, 0] : List UInt8)))) else (none)) else (none)) else (none)) else (none)) else (none))) else (none))) else (none))) else (none))) else (none)) else (none)) else (none)) else (none)) else (none)) else (none)) else (none)))))))) = some r := H
  have A1 := Aside0.mk A10
  clear A10
  replace H := Option.bind_eq_some_iff.mp H
  obtain ⟨⟨t131, t132, t133⟩, A20, H⟩ := H
  replace H : ((num_Get.f k (([128] : List Int)) 0).bind fun bt137 => ((num_Get.f k (([128, 0] : List Int)) 0).bind fun bt143 => ((num_Get.f k ([] : List Int) 1).bind fun bt146 => ((num_Get4.f k (([1, 2, 0, 0, 9] : List Int)) 0).bind fun bt152 => ((num_Get4.f k (([1, 2, 0] : List Int)) 0).bind fun bt158 => (if (strOfNums t128).toList = ([9, 172, 2] : List UInt8) then (if t131 = 300 then (if t132 = 2 then (if t133 = 0 then (if bt137.2.2 = 5 then (if bt143.2.2 = 2 then (if bt146.2.2 = 1 then ((num_Zig.f (-3)).bind fun t161 => (if t161 = 5 then ((num_Zag.f 5).bind fun t162 => (if t162 = (-3) then ((num_Zig.f (-9223372036854775808)).bind fun t163 => (if t163 = 18446744073709551615 then ((num_Sum.f k ([49, 50, 51, 52, 53, 54, 55, 56, 57] : List Int)).bind fun t164 => (if t164 = 3421780262 then (if bt152.1 = 513 then (if bt152.2.1 = 4 then (if bt152.2.2 = 0 then (if bt158.2.2 = 5 then ((num_Put4.f ([] : List Int) 513).bind fun t165 => (some ((strOfNums t165).toList == ([1, 2, 0, 0] : List UInt8)))) else (none)) else (none)) else (none)) else (none)) else (none))) else (none))) else (none))) else (none))) else (none)) else (none)) else (none)) else (none)) else (none)) else (none)) else (none))))))) = some r := H
  have A2 := Aside0.mk A20
  clear A20
  obtain ⟨y134, hy134⟩ : ∃ y_ : List Int, y_ = (([128] : List Int)) := ⟨_, rfl⟩
  replace H : ((num_Get.f k y134 0).bind fun bt137 => ((num_Get.f k (([128, 0] : List Int)) 0).bind fun bt143 => ((num_Get.f k ([] : List Int) 1).bind fun bt146 => ((num_Get4.f k (([1, 2, 0, 0, 9] : List Int)) 0).bind fun bt152 => ((num_Get4.f k (([1, 2, 0] : List Int)) 0).bind fun bt158 => (if (strOfNums t128).toList = ([9, 172, 2] : List UInt8) then (if t131 = 300 then (if t132 = 2 then (if t133 = 0 then (if bt137.2.2 = 5 then (if bt143.2.2 = 2 then (if bt146.2.2 = 1 then ((num_Zig.f (-3)).bind fun t161 => (if t161 = 5 then ((num_Zag.f 5).bind fun t162 => (if t162 = (-3) then ((num_Zig.f (-9223372036854775808)).bind fun t163 => (if t163 = 18446744073709551615 then ((num_Sum.f k ([49, 50, 51, 52, 53, 54, 55, 56, 57] : List Int)).bind fun t164 => (if t164 = 3421780262 then (if bt152.1 = 513 then (if bt152.2.1 = 4 then (if bt152.2.2 = 0 then (if bt158.2.2 = 5 then ((num_Put4.f ([] : List Int) 513).bind fun t165 => (some ((strOfNums t165).toList == ([1, 2, 0, 0] : List UInt8)))) else (none)) else (none)) else (none)) else (none)) else (none))) else (none))) else (none))) else (none))) else (none)) else (none)) else (none)) else (none)) else (none)) else (none)) else (none))))))) = some r := by first | (rw [hy134]; with_reducible exact H) | (have H2_ := (Option.bind_some _ _).symm.trans H; rw [hy134]; with_reducible exact H2_) | (have H2_ := (Option.bind_some _ _).symm.trans H; with_reducible exact H2_) | with_reducible exact H | (rw [hy134]; exact H) | exact H
  have Ny134 := Aside0.mk hy134
  clear hy134
  replace H := Option.bind_eq_some_iff.mp H
  obtain ⟨⟨t137, t138, t139⟩, A30, H⟩ := H
  replace H : ((num_Get.f k (([128, 0] : List Int)) 0).bind fun bt143 => ((num_Get.f k ([] : List Int) 1).bind fun bt146 => ((num_Get4.f k (([1, 2, 0, 0, 9] : List Int)) 0).bind fun bt152 => ((num_Get4.f k (([1, 2, 0] : List Int)) 0).bind fun bt158 => (if (strOfNums t128).toList = ([9, 172, 2] : List UInt8) then (if t131 = 300 then (if t132 = 2 then (if t133 = 0 then (if t139 = 5 then (if bt143.2.2 = 2 then (if bt146.2.2 = 1 then ((num_Zig.f (-3)).bind fun t161 => (if t161 = 5 then ((num_Zag.f 5).bind fun t162 => (if t162 = (-3) then ((num_Zig.f (-9223372036854775808)).bind fun t163 => (if t163 = 18446744073709551615 then ((num_Sum.f k ([49, 50, 51, 52, 53, 54, 55, 56, 57] : List Int)).bind fun t164 => (if t164 = 3421780262 then (if bt152.1 = 513 then (if bt152.2.1 = 4 then (if bt152.2.2 = 0 then (if bt158.2.2 = 5 then ((num_Put4.f ([] : List Int) 513).bind fun t165 => (some ((strOfNums t165).toList == ([1, 2, 0, 0] : List UInt8)))) else (none)) else (none)) else (none)) else (none)) else (none))) else (none))) else (none))) else (none))) else (none)) else (none)) else (none)) else (none)) else (none)) else (none)) else (none)))))) = some r := H
  have A3 := Aside0.mk A30
  clear A30
  obtain ⟨y140, hy140⟩ : ∃ y_ : List Int, y_ = (([128, 0] : List Int)) := ⟨_, rfl⟩
  replace H : ((num_Get.f k y140 0).bind fun bt143 => ((num_Get.f k ([] : List Int) 1).bind fun bt146 => ((num_Get4.f k (([1, 2, 0, 0, 9] : List Int)) 0).bind fun bt152 => ((num_Get4.f k (([1, 2, 0] : List Int)) 0).bind fun bt158 => (if (strOfNums t128).toList = ([9, 172, 2] : List UInt8) then (if t131 = 300 then (if t132 = 2 then (if t133 = 0 then (if t139 = 5 then (if bt143.2.2 = 2 then (if bt146.2.2 = 1 then ((num_Zig.f (-3)).bind fun t161 => (if t161 = 5 then ((num_Zag.f 5).bind fun t162 => (if t162 = (-3) then ((num_Zig.f (-9223372036854775808)).bind fun t163 => (if t163 = 18446744073709551615 then ((num_Sum.f k ([49, 50, 51, 52, 53, 54, 55, 56, 57] : List Int)).bind fun t164 => (if t164 = 3421780262 then (if bt152.1 = 513 then (if bt152.2.1 = 4 then (if bt152.2.2 = 0 then (if bt158.2.2 = 5 then ((num_Put4.f ([] : List Int) 513).bind fun t165 => (some ((strOfNums t165).toList == ([1, 2, 0, 0] : List UInt8)))) else (none)) else (none)) else (none)) else (none)) else (none))) else (none))) else (none))) else (none))) else (none)) else (none)) else (none)) else (none)) else (none)) else (none)) else (none)))))) = some r := by first | (rw [hy140]; with_reducible exact H) | (have H2_ := (Option.bind_some _ _).symm.trans H; rw [hy140]; with_reducible exact H2_) | (have H2_ := (Option.bind_some _ _).symm.trans H; with_reducible exact H2_) | with_reducible exact H | (rw [hy140]; exact H) | exact H
  have Ny140 := Aside0.mk hy140
  clear hy140
  replace H := Option.bind_eq_some_iff.mp H
  obtain ⟨⟨t143, t144, t145⟩, A40, H⟩ := H
  replace H : ((num_Get.f k ([] : List Int) 1).bind fun bt146 => ((num_Get4.f k (([1, 2, 0, 0, 9] : List Int)) 0).bind fun bt152 => ((num_Get4.f k (([1, 2, 0] : List Int)) 0).bind fun bt158 => (if (strOfNums t128).toList = ([9, 172, 2] : List UInt8) then (if t131 = 300 then (if t132 = 2 then (if t133 = 0 then (if t139 = 5 then (if t145 = 2 then (if bt146.2.2 = 1 then ((num_Zig.f (-3)).bind fun t161 => (if t161 = 5 then ((num_Zag.f 5).bind fun t162 => (if t162 = (-3) then ((num_Zig.f (-9223372036854775808)).bind fun t163 => (if t163 = 18446744073709551615 then ((num_Sum.f k ([49, 50, 51, 52, 53, 54, 55, 56, 57] : List Int)).bind fun t164 => (if t164 = 3421780262 then (if bt152.1 = 513 then (if bt152.2.1 = 4 then (if bt152.2.2 = 0 then (if bt158.2.2 = 5 then ((num_Put4.f ([] : List Int) 513).bind fun t165 => (some ((strOfNums t165).toList == ([1, 2, 0, 0] : List UInt8)))) else (none)) else (none)) else (none)) else (none)) else (none))) else (none))) else (none))) else (none))) else (none)) else (none)) else (none)) else (none)) else (none)) else (none)) else (none))))) = some r := H
  have A4 := Aside0.mk A40
  clear A40
  replace H := Option.bind_eq_some_iff.mp H
  obtain ⟨⟨t146, t147, t148⟩, A50, H⟩ := H
  replace H : ((num_Get4.f k (([1, 2, 0, 0, 9] : List Int)) 0).bind fun bt152 => ((num_Get4.f k (([1, 2, 0] : List Int)) 0).bind fun bt158 => (if (strOfNums t128).toList = ([9, 172, 2] : List UInt8) then (if t131 = 300 then (if t132 = 2 then (if t133 = 0 then (if t139 = 5 then (if t145 = 2 then (if t148 = 1 then ((num_Zig.f (-3)).bind fun t161 => (if t161 = 5 then ((num_Zag.f 5).bind fun t162 => (if t162 = (-3) then ((num_Zig.f (-9223372036854775808)).bind fun t163 => (if t163 = 18446744073709551615 then ((num_Sum.f k ([49, 50, 51, 52, 53, 54, 55, 56, 57] : List Int)).bind fun t164 => (if t164 = 3421780262 then (if bt152.1 = 513 then (if bt152.2.1 = 4 then (if bt152.2.2 = 0 then (if bt158.2.2 = 5 then ((num_Put4.f ([] : List Int) 513).bind fun t165 => (some ((strOfNums t165).toList == ([1, 2, 0, 0] : List UInt8)))) else (none)) else (none)) else (none)) else (none)) else (none))) else (none))) else (none))) else (none))) else (none)) else (none)) else (none)) else (none)) else (none)) else (none)) else (none)))) = some r := H
  have A5 := Aside0.mk A50
  clear A50
  obtain ⟨y149, hy149⟩ : ∃ y_ : List Int, y_ = (([1, 2, 0, 0, 9] : List Int)) := ⟨_, rfl⟩
  replace H : ((num_Get4.f k y149 0).bind fun bt152 => ((num_Get4.f k (([1, 2, 0] : List Int)) 0).bind fun bt158 => (if (strOfNums t128).toList = ([9, 172, 2] : List UInt8) then (if t131 = 300 then (if t132 = 2 then (if t133 = 0 then (if t139 = 5 then (if t145 = 2 then (if t148 = 1 then ((num_Zig.f (-3)).bind fun t161 => (if t161 = 5 then ((num_Zag.f 5).bind fun t162 => (if t162 = (-3) then ((num_Zig.f (-9223372036854775808)).bind fun t163 => (if t163 = 18446744073709551615 then ((num_Sum.f k ([49, 50, 51, 52, 53, 54, 55, 56, 57] : List Int)).bind fun t164 => (if t164 = 3421780262 then (if bt152.1 = 513 then (if bt152.2.1 = 4 then (if bt152.2.2 = 0 then (if bt158.2.2 = 5 then ((num_Put4.f ([] : List Int) 513).bind fun t165 => (some ((strOfNums t165).toList == ([1, 2, 0, 0] : List UInt8)))) else (none)) else (none)) else (none)) else (none)) else (none))) else (none))) else (none))) else (none))) else (none)) else (none)) else (none)) else (none)) else (none)) else (none)) else (none)))) = some r := by first | (rw [hy149]; with_reducible exact H) | (have H2_ := (Option.bind_some _ _).symm.trans H; rw [hy149]; with_reducible exact H2_) | (have H2_ := (Option.bind_some _ _).symm.trans H; with_reducible exact H2_) | with_reducible exact H | (rw [hy149]; exact H) | exact H
  have Ny149 := Aside0.mk hy149
  clear hy149
  replace H := Option.bind_eq_some_iff.mp H
  obtain ⟨⟨t152, t153, t154⟩, A60, H⟩ := H
  replace H : ((num_Get4.f k (([1, 2, 0] : List Int)) 0).bind fun bt158 => (if (strOfNums t128).toList = ([9, 172, 2] : List UInt8) then (if t131 = 300 then (if t132 = 2 then (if t133 = 0 then (if t139 = 5 then (if t145 = 2 then (if t148 = 1 then ((num_Zig.f (-3)).bind fun t161 => (if t161 = 5 then ((num_Zag.f 5).bind fun t162 => (if t162 = (-3) then ((num_Zig.f (-9223372036854775808)).bind fun t163 => (if t163 = 18446744073709551615 then ((num_Sum.f k ([49, 50, 51, 52, 53, 54, 55, 56, 57] : List Int)).bind fun t164 => (if t164 = 3421780262 then (if t152 = 513 then (if t153 = 4 then (if t154 = 0 then (if bt158.2.2 = 5 then ((num_Put4.f ([] : List Int) 513).bind fun t165 => (some ((strOfNums t165).toList == ([1, 2, 0, 0] : List UInt8)))) else (none)) else (none)) else (none)) else (none)) else (none))) else (none))) else (none))) else (none))) else (none)) else (none)) else (none)) else (none)) else (none)) else (none)) else (none))) = some r := H
  have A6 := Aside0.mk A60
  clear A60
  obtain ⟨y155, hy155⟩ : ∃ y_ : List Int, y_ = (([1, 2, 0] : List Int)) := ⟨_, rfl⟩
  replace H : ((num_Get4.f k y155 0).bind fun bt158 => (if (strOfNums t128).toList = ([9, 172, 2] : List UInt8) then (if t131 = 300 then (if t132 = 2 then (if t133 = 0 then (if t139 = 5 then (if t145 = 2 then (if t148 = 1 then ((num_Zig.f (-3)).bind fun t161 => (if t161 = 5 then ((num_Zag.f 5).bind fun t162 => (if t162 = (-3) then ((num_Zig.f (-9223372036854775808)).bind fun t163 => (if t163 = 18446744073709551615 then ((num_Sum.f k ([49, 50, 51, 52, 53, 54, 55, 56, 57] : List Int)).bind fun t164 => (if t164 = 3421780262 then (if t152 = 513 then (if t153 = 4 then (if t154 = 0 then (if bt158.2.2 = 5 then ((num_Put4.f ([] : List Int) 513).bind fun t165 => (some ((strOfNums t165).toList == ([1, 2, 0, 0] : List UInt8)))) else (none)) else (none)) else (none)) else (none)) else (none))) else (none))) else (none))) else (none))) else (none)) else (none)) else (none)) else (none)) else (none)) else (none)) else (none))) = some r := by first | (rw [hy155]; with_reducible exact H) | (have H2_ := (Option.bind_some _ _).symm.trans H; rw [hy155]; with_reducible exact H2_) | (have H2_ := (Option.bind_some _ _).symm.trans H; with_reducible exact H2_) | with_reducible exact H | (rw [hy155]; exact H) | exact H
  have Ny155 := Aside0.mk hy155
  clear hy155
  replace H := Option.bind_eq_some_iff.mp H
  obtain ⟨⟨t158, t159, t160⟩, A70, H⟩ := H
  replace H : (if (strOfNums t128).toList = ([9, 172, 2] : List UInt8) then (if t131 = 300 then (if t132 = 2 then (if t133 = 0 then (if t139 = 5 then (if t145 = 2 then (if t148 = 1 then ((num_Zig.f (-3)).bind fun t161 => (if t161 = 5 then ((num_Zag.f 5).bind fun t162 => (if t162 = (-3) then ((num_Zig.f (-9223372036854775808)).bind fun t163 => (if t163 = 18446744073709551615 then ((num_Sum.f k ([49, 50, 51, 52, 53, 54, 55, 56, 57] : List Int)).bind fun t164 => (if t164 = 3421780262 then (if t152 = 513 then (if t153 = 4 then (if t154 = 0 then (if t160 = 5 then ((num_Put4.f ([] : List Int) 513).bind fun t165 => (some ((strOfNums t165).toList == ([1, 2, 0, 0] : List UInt8)))) else (none)) else (none)) else (none)) else (none)) else (none))) else (none))) else (none))) else (none))) else (none)) else (none)) else (none)) else (none)) else (none)) else (none)) else (none)) = some r := H
  have A7 := Aside0.mk A70
  clear A70
  by_cases c8 : (strOfNums t128).toList = ([9, 172, 2] : List UInt8)
  · rw [if_pos c8] at H
    have c8b0 : ((strOfNums t128).toList == ([9, 172, 2] : List UInt8)) = true := beq_iff_eq.mpr c8
    have c8b1 : ((strOfNums t128).toList != ([9, 172, 2] : List UInt8)) = false := bne_eq_false_iff_eq.mpr c8
    clear c8
    by_cases c9 : t131 = 300
    · rw [if_pos c9] at H
      have c9b0 : (t131 == 300) = true := beq_iff_eq.mpr c9
      have c9b1 : (t131 != 300) = false := bne_eq_false_iff_eq.mpr c9
      clear c9
      by_cases c10 : t132 = 2
      · rw [if_pos c10] at H
        have c10b0 : (t132 == 2) = true := beq_iff_eq.mpr c10
        have c10b1 : (t132 != 2) = false := bne_eq_false_iff_eq.mpr c10
        clear c10
        by_cases c11 : t133 = 0
        · rw [if_pos c11] at H
          have c11b0 : (t133 == 0) = true := beq_iff_eq.mpr c11
          have c11b1 : (t133 != 0) = false := bne_eq_false_iff_eq.mpr c11
          clear c11
          by_cases c12 : t139 = 5
          · rw [if_pos c12] at H
            have c12b0 : (t139 == 5) = true := beq_iff_eq.mpr c12
            have c12b1 : (t139 != 5) = false := bne_eq_false_iff_eq.mpr c12
            clear c12
            by_cases c13 : t145 = 2
            · rw [if_pos c13] at H
              have c13b0 : (t145 == 2) = true := beq_iff_eq.mpr c13
              have c13b1 : (t145 != 2) = false := bne_eq_false_iff_eq.mpr c13
              clear c13
              by_cases c14 : t148 = 1
              · rw [if_pos c14] at H
                have c14b0 : (t148 == 1) = true := beq_iff_eq.mpr c14
                have c14b1 : (t148 != 1) = false := bne_eq_false_iff_eq.mpr c14
                clear c14
                replace H := Option.bind_eq_some_iff.mp H
                obtain ⟨t161, A150, H⟩ := H
                replace H : (if t161 = 5 then ((num_Zag.f 5).bind fun t162 => (if t162 = (-3) then ((num_Zig.f (-9223372036854775808)).bind fun t163 => (if t163 = 18446744073709551615 then ((num_Sum.f k ([49, 50, 51, 52, 53, 54, 55, 56, 57] : List Int)).bind fun t164 => (if t164 = 3421780262 then (if t152 = 513 then (if t153 = 4 then (if t154 = 0 then (if t160 = 5 then ((num_Put4.f ([] : List Int) 513).bind fun t165 => (some ((strOfNums t165).toList == ([1, 2, 0, 0] : List UInt8)))) else (none)) else (none)) else (none)) else (none)) else (none))) else (none))) else (none))) else (none)) = some r := H
                have A15 := Aside0.mk A150
                clear A150
                by_cases c16 : t161 = 5
                · rw [if_pos c16] at H
                  have c16b0 : (t161 == 5) = true := beq_iff_eq.mpr c16
                  have c16b1 : (t161 != 5) = false := bne_eq_false_iff_eq.mpr c16
                  clear c16
                  replace H := Option.bind_eq_some_iff.mp H
                  obtain ⟨t162, A170, H⟩ := H
                  replace H : (if t162 = (-3) then ((num_Zig.f (-9223372036854775808)).bind fun t163 => (if t163 = 18446744073709551615 then ((num_Sum.f k ([49, 50, 51, 52, 53, 54, 55, 56, 57] : List Int)).bind fun t164 => (if t164 = 3421780262 then (if t152 = 513 then (if t153 = 4 then (if t154 = 0 then (if t160 = 5 then ((num_Put4.f ([] : List Int) 513).bind fun t165 => (some ((strOfNums t165).toList == ([1, 2, 0, 0] : List UInt8)))) else (none)) else (none)) else (none)) else (none)) else (none))) else (none))) else (none)) = some r := H
                  have A17 := Aside0.mk A170
                  clear A170
                  by_cases c18 : t162 = (-3)
                  · rw [if_pos c18] at H
                    have c18b0 : (t162 == (-3)) = true := beq_iff_eq.mpr c18
                    have c18b1 : (t162 != (-3)) = false := bne_eq_false_iff_eq.mpr c18
                    clear c18
                    replace H := Option.bind_eq_some_iff.mp H
                    obtain ⟨t163, A190, H⟩ := H
                    replace H : (if t163 = 18446744073709551615 then ((num_Sum.f k ([49, 50, 51, 52, 53, 54, 55, 56, 57] : List Int)).bind fun t164 => (if t164 = 3421780262 then (if t152 = 513 then (if t153 = 4 then (if t154 = 0 then (if t160 = 5 then ((num_Put4.f ([] : List Int) 513).bind fun t165 => (some ((strOfNums t165).toList == ([1, 2, 0, 0] : List UInt8)))) else (none)) else (none)) else (none)) else (none)) else (none))) else (none)) = some r := H
                    have A19 := Aside0.mk A190
                    clear A190
                    by_cases c20 : t163 = 18446744073709551615
                    · rw [if_pos c20] at H
                      have c20b0 : (t163 == 18446744073709551615) = true := beq_iff_eq.mpr c20
                      have c20b1 : (t163 != 18446744073709551615) = false := bne_eq_false_iff_eq.mpr c20
                      clear c20
                      replace H := Option.bind_eq_some_iff.mp H
                      obtain ⟨t164, A210, H⟩ := H
                      replace H : (if t164 = 3421780262 then (if t152 = 513 then (if t153 = 4 then (if t154 = 0 then (if t160 = 5 then ((num_Put4.f ([] : List Int) 513).bind fun t165 => (some ((strOfNums t165).toList == ([1, 2, 0, 0] : List UInt8)))) else (none)) else (none)) else (none)) else (none)) else (none)) = some r := H
                      have A21 := Aside0.mk A210
                      clear A210
                      by_cases c22 : t164 = 3421780262
                      · rw [if_pos c22] at H
                        have c22b0 : (t164 == 3421780262) = true := beq_iff_eq.mpr c22
                        have c22b1 : (t164 != 3421780262) = false := bne_eq_false_iff_eq.mpr c22
                        clear c22
                        by_cases c23 : t152 = 513
                        · rw [if_pos c23] at H
                          have c23b0 : (t152 == 513) = true := beq_iff_eq.mpr c23
                          have c23b1 : (t152 != 513) = false := bne_eq_false_iff_eq.mpr c23
                          clear c23
                          by_cases c24 : t153 = 4
                          · rw [if_pos c24] at H
                            have c24b0 : (t153 == 4) = true := beq_iff_eq.mpr c24
                            have c24b1 : (t153 != 4) = false := bne_eq_false_iff_eq.mpr c24
                            clear c24
                            by_cases c25 : t154 = 0
                            · rw [if_pos c25] at H
                              have c25b0 : (t154 == 0) = true := beq_iff_eq.mpr c25
                              have c25b1 : (t154 != 0) = false := bne_eq_false_iff_eq.mpr c25
                              clear c25
                              by_cases c26 : t160 = 5
                              · rw [if_pos c26] at H
                                have c26b0 : (t160 == 5) = true := beq_iff_eq.mpr c26
                                have c26b1 : (t160 != 5) = false := bne_eq_false_iff_eq.mpr c26
                                clear c26
                                replace H := Option.bind_eq_some_iff.mp H
                                obtain ⟨t165, A270, H⟩ := H
                                replace H : (some ((strOfNums t165).toList == ([1, 2, 0, 0] : List UInt8))) = some r := H
                                have A27 := Aside0.mk A270
                                clear A270
                                obtain rfl := Option.some.inj H
                                go_enter Try.func9, Try.ntmps9
                                go_wp2_with (first | ((with_reducible refine gate_dst (N := 20) rfl ?_); (try (refine gate_guard (by rfl) ?_; dsimp only)); refine Kd.R_lit (Kd.int .u8) _ 5 ?hg (N := 20) ?hd (xs := ([9] : List Int)) (inner := [.int .u8 9]) (ok := fun _ => True) (okp := fun _ => True) ?hr ?hp (fun _ hk => hk) trivial (Below.refl _ _) (Nat.le_refl _) (by simp) ?_; (case hd => rfl); (case hg => rfl); (case hr => first | (go_simp; done) | (go_simp; rfl)); (case hp => exact (Reps.one (show Kd.M (Kd.int .u8) _ _ _ 9 [.int .u8 9] from rfl) (Reps.none _ _))); intro v126 w28 ho29 hb hg_ hnew_; clear hg_ hnew_; (first | rw [← Ny125.out] at ho29 | (simp only [Int.reduceToNat] at ho29; rw [← Ny125.out] at ho29)); have n0_ := Aside0.mk (Kd.R_lower ho29 (below_size (by repeat (first | (with_reducible first | exact HB.out | apply below_alloc | apply pw_below_drewN | apply below_drew1) | exact HB.out)))); have n1_ := Aside0.mk (below_step (by repeat (first | (with_reducible first | exact HB.out | apply below_alloc | apply pw_below_drewN | apply below_drew1) | exact HB.out)) hb); clear HB; have HO127 := n0_; have HB := n1_; clear n0_ n1_; clear hb ho29; obtain ⟨Ao30, co30, eo30⟩ := Kd.R_slice HO127.out; subst eo30) | ((with_reducible refine gate_callee (f := 10) rfl ?_); refine goesL_ (some 21) rfl rfl Try.func10 (by kernel_rfl) rfl #[.slice Ao30 y125.length co30, .int .u64 300] rfl (by (try simp only [List.map_toArray, List.map_cons, List.map_nil]); first | done | rfl | (simp only [List.length_drop, List.length_take]; rfl)) ?_; (with_reducible refine (num_Put.calls k _ _ y125 300 t128 _ ?side1 ?side2 A1.out).mono ?_); (case side1 => repeat (first | exact (Kd.R_reads' HO127.out).2.2 | (with_reducible refine Kd.C_alloc ?_ _) | (with_reducible refine Kd.C_drewN ?_ _) | (with_reducible refine Kd.C_drew ?_))); (case side2 => exact (Kd.R_reads' HO127.out).2.1); rintro e w31 ⟨v129, rfl, ho0, hb⟩; refine ⟨_, rfl, ?_⟩; have n0_ := Aside0.mk (Kd.R_elder' (by (with_reducible repeat (first | apply Kd.R_alloc | apply Kd.R_drewN | apply Kd.R_drew)); exact HO127.out) (Kd.R_base ho0) hb); have n1_ := Aside0.mk (Kd.R_lower (Kd.R_new' ho0 (Kd.R_lt (by (with_reducible repeat (first | apply Kd.R_alloc | apply Kd.R_drewN | apply Kd.R_drew)); exact HO127.out))) (below_size (by repeat (first | (with_reducible first | exact HB.out | apply below_alloc | apply pw_below_drewN | apply below_drew1) | exact HB.out)))); have n2_ := Aside0.mk (below_step (by repeat (first | (with_reducible first | exact HB.out | apply below_alloc | apply pw_below_drewN | apply below_drew1) | exact HB.out)) hb); clear HO127; clear HB; have HO127 := n0_; have HO130 := n1_; have HB := n2_; clear n0_ n1_ n2_; (try clear hb); (try clear hb2); (try clear hk); (try clear hi); (try clear ho0); obtain ⟨Ao32, co32, eo32⟩ := Kd.R_slice HO130.out; subst eo32) | (go_at_call 11; (with_reducible refine (num_Get.calls k _ _ t128 1 t131 t132 t133 _ ?side1 ?side2 A2.out).mono ?_); (case side1 => repeat (first | exact (Kd.R_reads' HO130.out).2.2 | (with_reducible refine Kd.C_alloc ?_ _) | (with_reducible refine Kd.C_drewN ?_ _) | (with_reducible refine Kd.C_drew ?_))); (case side2 => exact (Kd.R_reads' HO130.out).2.1); rintro e w' ⟨rfl, ⟨nd, rfl⟩⟩) | ((with_reducible refine gate_dst (N := 29) rfl ?_); (try (refine gate_guard (by rfl) ?_; dsimp only)); refine Kd.R_lit (Kd.int .u8) _ 5 ?hg (N := 29) ?hd (xs := ([128] : List Int)) (inner := [.int .u8 128]) (ok := fun _ => True) (okp := fun _ => True) ?hr ?hp (fun _ hk => hk) trivial (Below.refl _ _) (Nat.le_refl _) (by simp) ?_; (case hd => rfl); (case hg => rfl); (case hr => first | (go_simp; done) | (go_simp; rfl)); (case hp => exact (Reps.one (show Kd.M (Kd.int .u8) _ _ _ 128 [.int .u8 128] from rfl) (Reps.none _ _))); intro v135 w33 ho34 hb hg_ hnew_; clear hg_ hnew_; (first | rw [← Ny134.out] at ho34 | (simp only [Int.reduceToNat] at ho34; rw [← Ny134.out] at ho34)); have n0_ := Aside0.mk (Kd.R_elder' (by (with_reducible repeat (first | apply Kd.R_alloc | apply Kd.R_drewN | apply Kd.R_drew)); exact HO127.out) (Kd.R_base ho34) hb); have n1_ := Aside0.mk (Kd.R_elder' (by (with_reducible repeat (first | apply Kd.R_alloc | apply Kd.R_drewN | apply Kd.R_drew)); exact HO130.out) (Kd.R_base ho34) hb); have n2_ := Aside0.mk (Kd.R_lower (Kd.R_new' (Kd.R_new' ho34 (Kd.R_lt (by (with_reducible repeat (first | apply Kd.R_alloc | apply Kd.R_drewN | apply Kd.R_drew)); exact HO127.out))) (Kd.R_lt (by (with_reducible repeat (first | apply Kd.R_alloc | apply Kd.R_drewN | apply Kd.R_drew)); exact HO130.out))) (below_size (by repeat (first | (with_reducible first | exact HB.out | apply below_alloc | apply pw_below_drewN | apply below_drew1) | exact HB.out)))); have n3_ := Aside0.mk (below_step (by repeat (first | (with_reducible first | exact HB.out | apply below_alloc | apply pw_below_drewN | apply below_drew1) | exact HB.out)) hb); clear HO127; clear HO130; clear HB; have HO127 := n0_; have HO130 := n1_; have HO136 := n2_; have HB := n3_; clear n0_ n1_ n2_ n3_; clear hb ho34; obtain ⟨Ao35, co35, eo35⟩ := Kd.R_slice HO136.out; subst eo35) | (go_at_call 11; (with_reducible refine (num_Get.calls k _ _ y134 0 t137 t138 t139 _ ?side1 ?side2 A3.out).mono ?_); (case side1 => repeat (first | exact (Kd.R_reads' HO136.out).2.2 | (with_reducible refine Kd.C_alloc ?_ _) | (with_reducible refine Kd.C_drewN ?_ _) | (with_reducible refine Kd.C_drew ?_))); (case side2 => exact (Kd.R_reads' HO136.out).2.1); rintro e w' ⟨rfl, ⟨nd, rfl⟩⟩) | ((with_reducible refine gate_dst (N := 35) rfl ?_); (try (refine gate_guard (by rfl) ?_; dsimp only)); refine Kd.R_lit (Kd.int .u8) _ 5 ?hg (N := 35) ?hd (xs := ([128, 0] : List Int)) (inner := [.int .u8 128, .int .u8 0]) (ok := fun _ => True) (okp := fun _ => True) ?hr ?hp (fun _ hk => hk) trivial (Below.refl _ _) (Nat.le_refl _) (by simp) ?_; (case hd => rfl); (case hg => rfl); (case hr => first | (go_simp; done) | (go_simp; rfl)); (case hp => exact (Reps.one (show Kd.M (Kd.int .u8) _ _ _ 128 [.int .u8 128] from rfl) (Reps.one (show Kd.M (Kd.int .u8) _ _ _ 0 [.int .u8 0] from rfl) (Reps.none _ _)))); intro v141 w36 ho37 hb hg_ hnew_; clear hg_ hnew_; (first | rw [← Ny140.out] at ho37 | (simp only [Int.reduceToNat] at ho37; rw [← Ny140.out] at ho37)); have n0_ := Aside0.mk (Kd.R_elder' (by (with_reducible repeat (first | apply Kd.R_alloc | apply Kd.R_drewN | apply Kd.R_drew)); exact HO127.out) (Kd.R_base ho37) hb); have n1_ := Aside0.mk (Kd.R_elder' (by (with_reducible repeat (first | apply Kd.R_alloc | apply Kd.R_drewN | apply Kd.R_drew)); exact HO130.out) (Kd.R_base ho37) hb); have n2_ := Aside0.mk (Kd.R_elder' (by (with_reducible repeat (first | apply Kd.R_alloc | apply Kd.R_drewN | apply Kd.R_drew)); exact HO136.out) (Kd.R_base ho37) hb); have n3_ := Aside0.mk (Kd.R_lower (Kd.R_new' (Kd.R_new' (Kd.R_new' ho37 (Kd.R_lt (by (with_reducible repeat (first | apply Kd.R_alloc | apply Kd.R_drewN | apply Kd.R_drew)); exact HO127.out))) (Kd.R_lt (by (with_reducible repeat (first | apply Kd.R_alloc | apply Kd.R_drewN | apply Kd.R_drew)); exact HO130.out))) (Kd.R_lt (by (with_reducible repeat (first | apply Kd.R_alloc | apply Kd.R_drewN | apply Kd.R_drew)); exact HO136.out))) (below_size (by repeat (first | (with_reducible first | exact HB.out | apply below_alloc | apply pw_below_drewN | apply below_drew1) | exact HB.out)))); have n4_ := Aside0.mk (below_step (by repeat (first | (with_reducible first | exact HB.out | apply below_alloc | apply pw_below_drewN | apply below_drew1) | exact HB.out)) hb); clear HO127; clear HO130; clear HO136; clear HB; have HO127 := n0_; have HO130 := n1_; have HO136 := n2_; have HO142 := n3_; have HB := n4_; clear n0_ n1_ n2_ n3_ n4_; clear hb ho37; obtain ⟨Ao38, co38, eo38⟩ := Kd.R_slice HO142.out; subst eo38) | (go_at_call 11; (with_reducible refine (num_Get.calls k _ _ y140 0 t143 t144 t145 _ ?side1 ?side2 A4.out).mono ?_); (case side1 => repeat (first | exact (Kd.R_reads' HO142.out).2.2 | (with_reducible refine Kd.C_alloc ?_ _) | (with_reducible refine Kd.C_drewN ?_ _) | (with_reducible refine Kd.C_drew ?_))); (case side2 => exact (Kd.R_reads' HO142.out).2.1); rintro e w' ⟨rfl, ⟨nd, rfl⟩⟩) | (go_at_call 11; (refine (num_Get.calls k _ _ ([] : List Int) 1 t146 t147 t148 _ ?side1 ?side2 A5.out).mono ?_); (case side1 => exact Kd.C_nil _ _); (case side2 => exact Nat.le_refl _); rintro e w' ⟨rfl, ⟨nd, rfl⟩⟩) | ((with_reducible refine gate_dst (N := 46) rfl ?_); (try (refine gate_guard (by rfl) ?_; dsimp only)); refine Kd.R_lit (Kd.int .u8) _ 5 ?hg (N := 46) ?hd (xs := ([1, 2, 0, 0, 9] : List Int)) (inner := [.int .u8 1, .int .u8 2, .int .u8 0, .int .u8 0, .int .u8 9]) (ok := fun _ => True) (okp := fun _ => True) ?hr ?hp (fun _ hk => hk) trivial (Below.refl _ _) (Nat.le_refl _) (by simp) ?_; (case hd => rfl); (case hg => rfl); (case hr => first | (go_simp; done) | (go_simp; rfl)); (case hp => exact (Reps.one (show Kd.M (Kd.int .u8) _ _ _ 1 [.int .u8 1] from rfl) (Reps.one (show Kd.M (Kd.int .u8) _ _ _ 2 [.int .u8 2] from rfl) (Reps.one (show Kd.M (Kd.int .u8) _ _ _ 0 [.int .u8 0] from rfl) (Reps.one (show Kd.M (Kd.int .u8) _ _ _ 0 [.int .u8 0] from rfl) (Reps.one (show Kd.M (Kd.int .u8) _ _ _ 9 [.int .u8 9] from rfl) (Reps.none _ _))))))); intro v150 w39 ho40 hb hg_ hnew_; clear hg_ hnew_; (first | rw [← Ny149.out] at ho40 | (simp only [Int.reduceToNat] at ho40; rw [← Ny149.out] at ho40)); have n0_ := Aside0.mk (Kd.R_elder' (by (with_reducible repeat (first | apply Kd.R_alloc | apply Kd.R_drewN | apply Kd.R_drew)); exact HO127.out) (Kd.R_base ho40) hb); have n1_ := Aside0.mk (Kd.R_elder' (by (with_reducible repeat (first | apply Kd.R_alloc | apply Kd.R_drewN | apply Kd.R_drew)); exact HO130.out) (Kd.R_base ho40) hb); have n2_ := Aside0.mk (Kd.R_elder' (by (with_reducible repeat (first | apply Kd.R_alloc | apply Kd.R_drewN | apply Kd.R_drew)); exact HO136.out) (Kd.R_base ho40) hb); have n3_ := Aside0.mk (Kd.R_elder' (by (with_reducible repeat (first | apply Kd.R_alloc | apply Kd.R_drewN | apply Kd.R_drew)); exact HO142.out) (Kd.R_base ho40) hb); have n4_ := Aside0.mk (Kd.R_lower (Kd.R_new' (Kd.R_new' (Kd.R_new' (Kd.R_new' ho40 (Kd.R_lt (by (with_reducible repeat (first | apply Kd.R_alloc | apply Kd.R_drewN | apply Kd.R_drew)); exact HO127.out))) (Kd.R_lt (by (with_reducible repeat (first | apply Kd.R_alloc | apply Kd.R_drewN | apply Kd.R_drew)); exact HO130.out))) (Kd.R_lt (by (with_reducible repeat (first | apply Kd.R_alloc | apply Kd.R_drewN | apply Kd.R_drew)); exact HO136.out))) (Kd.R_lt (by (with_reducible repeat (first | apply Kd.R_alloc | apply Kd.R_drewN | apply Kd.R_drew)); exact HO142.out))) (below_size (by repeat (first | (with_reducible first | exact HB.out | apply below_alloc | apply pw_below_drewN | apply below_drew1) | exact HB.out)))); have n5_ := Aside0.mk (below_step (by repeat (first | (with_reducible first | exact HB.out | apply below_alloc | apply pw_below_drewN | apply below_drew1) | exact HB.out)) hb); clear HO127; clear HO130; clear HO136; clear HO142; clear HB; have HO127 := n0_; have HO130 := n1_; have HO136 := n2_; have HO142 := n3_; have HO151 := n4_; have HB := n5_; clear n0_ n1_ n2_ n3_ n4_ n5_; clear hb ho40; obtain ⟨Ao41, co41, eo41⟩ := Kd.R_slice HO151.out; subst eo41) | (go_at_call 14; (with_reducible refine (num_Get4.calls k _ _ y149 0 t152 t153 t154 _ ?side1 ?side2 A6.out).mono ?_); (case side1 => repeat (first | exact (Kd.R_reads' HO151.out).2.2 | (with_reducible refine Kd.C_alloc ?_ _) | (with_reducible refine Kd.C_drewN ?_ _) | (with_reducible refine Kd.C_drew ?_))); (case side2 => exact (Kd.R_reads' HO151.out).2.1); rintro e w' ⟨rfl, ⟨nd, rfl⟩⟩) | ((with_reducible refine gate_dst (N := 52) rfl ?_); (try (refine gate_guard (by rfl) ?_; dsimp only)); refine Kd.R_lit (Kd.int .u8) _ 5 ?hg (N := 52) ?hd (xs := ([1, 2, 0] : List Int)) (inner := [.int .u8 1, .int .u8 2, .int .u8 0]) (ok := fun _ => True) (okp := fun _ => True) ?hr ?hp (fun _ hk => hk) trivial (Below.refl _ _) (Nat.le_refl _) (by simp) ?_; (case hd => rfl); (case hg => rfl); (case hr => first | (go_simp; done) | (go_simp; rfl)); (case hp => exact (Reps.one (show Kd.M (Kd.int .u8) _ _ _ 1 [.int .u8 1] from rfl) (Reps.one (show Kd.M (Kd.int .u8) _ _ _ 2 [.int .u8 2] from rfl) (Reps.one (show Kd.M (Kd.int .u8) _ _ _ 0 [.int .u8 0] from rfl) (Reps.none _ _))))); intro v156 w42 ho43 hb hg_ hnew_; clear hg_ hnew_; (first | rw [← Ny155.out] at ho43 | (simp only [Int.reduceToNat] at ho43; rw [← Ny155.out] at ho43)); have n0_ := Aside0.mk (Kd.R_elder' (by (with_reducible repeat (first | apply Kd.R_alloc | apply Kd.R_drewN | apply Kd.R_drew)); exact HO127.out) (Kd.R_base ho43) hb); have n1_ := Aside0.mk (Kd.R_elder' (by (with_reducible repeat (first | apply Kd.R_alloc | apply Kd.R_drewN | apply Kd.R_drew)); exact HO130.out) (Kd.R_base ho43) hb); have n2_ := Aside0.mk (Kd.R_elder' (by (with_reducible repeat (first | apply Kd.R_alloc | apply Kd.R_drewN | apply Kd.R_drew)); exact HO136.out) (Kd.R_base ho43) hb); have n3_ := Aside0.mk (Kd.R_elder' (by (with_reducible repeat (first | apply Kd.R_alloc | apply Kd.R_drewN | apply Kd.R_drew)); exact HO142.out) (Kd.R_base ho43) hb); have n4_ := Aside0.mk (Kd.R_elder' (by (with_reducible repeat (first | apply Kd.R_alloc | apply Kd.R_drewN | apply Kd.R_drew)); exact HO151.out) (Kd.R_base ho43) hb); have n5_ := Aside0.mk (Kd.R_lower (Kd.R_new' (Kd.R_new' (Kd.R_new' (Kd.R_new' (Kd.R_new' ho43 (Kd.R_lt (by (with_reducible repeat (first | apply Kd.R_alloc | apply Kd.R_drewN | apply Kd.R_drew)); exact HO127.out))) (Kd.R_lt (by (with_reducible repeat (first | apply Kd.R_alloc | apply Kd.R_drewN | apply Kd.R_drew)); exact HO130.out))) (Kd.R_lt (by (with_reducible repeat (first | apply Kd.R_alloc | apply Kd.R_drewN | apply Kd.R_drew)); exact HO136.out))) (Kd.R_lt (by (with_reducible repeat (first | apply Kd.R_alloc | apply Kd.R_drewN | apply Kd.R_drew)); exact HO142.out))) (Kd.R_lt (by (with_reducible repeat (first | apply Kd.R_alloc | apply Kd.R_drewN | apply Kd.R_drew)); exact HO151.out))) (below_size (by repeat (first | (with_reducible first | exact HB.out | apply below_alloc | apply pw_below_drewN | apply below_drew1) | exact HB.out)))); have n6_ := Aside0.mk (below_step (by repeat (first | (with_reducible first | exact HB.out | apply below_alloc | apply pw_below_drewN | apply below_drew1) | exact HB.out)) hb); clear HO127; clear HO130; clear HO136; clear HO142; clear HO151; clear HB; have HO127 := n0_; have HO130 := n1_; have HO136 := n2_; have HO142 := n3_; have HO151 := n4_; have HO157 := n5_; have HB := n6_; clear n0_ n1_ n2_ n3_ n4_ n5_ n6_; clear hb ho43; obtain ⟨Ao44, co44, eo44⟩ := Kd.R_slice HO157.out; subst eo44) | (go_at_call 14; (with_reducible refine (num_Get4.calls k _ _ y155 0 t158 t159 t160 _ ?side1 ?side2 A7.out).mono ?_); (case side1 => repeat (first | exact (Kd.R_reads' HO157.out).2.2 | (with_reducible refine Kd.C_alloc ?_ _) | (with_reducible refine Kd.C_drewN ?_ _) | (with_reducible refine Kd.C_drew ?_))); (case side2 => exact (Kd.R_reads' HO157.out).2.1); rintro e w' ⟨rfl, ⟨nd, rfl⟩⟩; have hcv45 := own_string (P := Try.prog) Try.underlying22 Try.underlying5 Try.underlying9 (Kd.own_of_R HO130.out); have hcv45d := fun m_ => own_string (P := Try.prog) Try.underlying22 Try.underlying5 Try.underlying9 (Kd.own_of_R (Kd.R_drewN HO130.out m_))) | (go_at_call 16; (with_reducible refine (num_Zig.calls (-3) t161 _ A15.out).mono ?_); rintro e w' ⟨rfl, ⟨nd, rfl⟩⟩) | (go_at_call 18; (with_reducible refine (num_Zag.calls 5 t162 _ A17.out).mono ?_); rintro e w' ⟨rfl, ⟨nd, rfl⟩⟩) | (go_at_call 16; (with_reducible refine (num_Zig.calls (-9223372036854775808) t163 _ A19.out).mono ?_); rintro e w' ⟨rfl, ⟨nd, rfl⟩⟩) | (go_at_call 20; (refine (num_Sum.calls k _ _ ([49, 50, 51, 52, 53, 54, 55, 56, 57] : List Int) t164 _ ?side1 ?side2 A21.out).mono ?_); (case side1 => exact C_konst _ _ rfl (by decide)); (case side2 => exact Nat.le_refl _); rintro e w' ⟨rfl, ⟨nd, rfl⟩⟩) | (go_at_call 22; (refine (num_Put4.calls _ _ ([] : List Int) 513 t165 _ ?side1 ?side2 A27.out).mono ?_); (case side1 => exact Kd.C_nil _ _); (case side2 => exact Nat.le_refl _); rintro e w46 ⟨v166, rfl, ho0, hb⟩; have n0_ := Aside0.mk (Kd.R_elder' (by (with_reducible repeat (first | apply Kd.R_alloc | apply Kd.R_drewN | apply Kd.R_drew)); exact HO127.out) (Kd.R_base ho0) hb); have n1_ := Aside0.mk (Kd.R_elder' (by (with_reducible repeat (first | apply Kd.R_alloc | apply Kd.R_drewN | apply Kd.R_drew)); exact HO130.out) (Kd.R_base ho0) hb); have n2_ := Aside0.mk (Kd.R_elder' (by (with_reducible repeat (first | apply Kd.R_alloc | apply Kd.R_drewN | apply Kd.R_drew)); exact HO136.out) (Kd.R_base ho0) hb); have n3_ := Aside0.mk (Kd.R_elder' (by (with_reducible repeat (first | apply Kd.R_alloc | apply Kd.R_drewN | apply Kd.R_drew)); exact HO142.out) (Kd.R_base ho0) hb); have n4_ := Aside0.mk (Kd.R_elder' (by (with_reducible repeat (first | apply Kd.R_alloc | apply Kd.R_drewN | apply Kd.R_drew)); exact HO151.out) (Kd.R_base ho0) hb); have n5_ := Aside0.mk (Kd.R_elder' (by (with_reducible repeat (first | apply Kd.R_alloc | apply Kd.R_drewN | apply Kd.R_drew)); exact HO157.out) (Kd.R_base ho0) hb); have n6_ := Aside0.mk (Kd.R_lower (Kd.R_new' (Kd.R_new' (Kd.R_new' (Kd.R_new' (Kd.R_new' (Kd.R_new' ho0 (Kd.R_lt (by (with_reducible repeat (first | apply Kd.R_alloc | apply Kd.R_drewN | apply Kd.R_drew)); exact HO127.out))) (Kd.R_lt (by (with_reducible repeat (first | apply Kd.R_alloc | apply Kd.R_drewN | apply Kd.R_drew)); exact HO130.out))) (Kd.R_lt (by (with_reducible repeat (first | apply Kd.R_alloc | apply Kd.R_drewN | apply Kd.R_drew)); exact HO136.out))) (Kd.R_lt (by (with_reducible repeat (first | apply Kd.R_alloc | apply Kd.R_drewN | apply Kd.R_drew)); exact HO142.out))) (Kd.R_lt (by (with_reducible repeat (first | apply Kd.R_alloc | apply Kd.R_drewN | apply Kd.R_drew)); exact HO151.out))) (Kd.R_lt (by (with_reducible repeat (first | apply Kd.R_alloc | apply Kd.R_drewN | apply Kd.R_drew)); exact HO157.out))) (below_size (by repeat (first | (with_reducible first | exact HB.out | apply below_alloc | apply pw_below_drewN | apply below_drew1) | exact HB.out)))); have n7_ := Aside0.mk (below_step (by repeat (first | (with_reducible first | exact HB.out | apply below_alloc | apply pw_below_drewN | apply below_drew1) | exact HB.out)) hb); clear HO127; clear HO130; clear HO136; clear HO142; clear HO151; clear HO157; clear HB; have HO127 := n0_; have HO130 := n1_; have HO136 := n2_; have HO142 := n3_; have HO151 := n4_; have HO157 := n5_; have HO167 := n6_; have HB := n7_; clear n0_ n1_ n2_ n3_ n4_ n5_ n6_ n7_; (try clear hb); (try clear hb2); (try clear hk); (try clear hi); (try clear ho0); have hcv47 := own_string (P := Try.prog) Try.underlying22 Try.underlying5 Try.underlying9 (Kd.own_of_R HO167.out); have hcv47d := fun m_ => own_string (P := Try.prog) Try.underlying22 Try.underlying5 Try.underlying9 (Kd.own_of_R (Kd.R_drewN HO167.out m_))))
                                go_ret
                                exact ⟨by first | rfl | (simp [errW_none, errW_some] <;> rfl) | (simp [*, errW_none, errW_some] <;> rfl), by repeat (first | (with_reducible first | exact HB.out | apply below_alloc | apply pw_below_drewN | apply below_drew1) | exact HB.out)⟩
                              · rw [if_neg c26] at H
                                exact absurd H (by simp)
                            · rw [if_neg c25] at H
                              exact absurd H (by simp)
                          · rw [if_neg c24] at H
                            exact absurd H (by simp)
                        · rw [if_neg c23] at H
                          exact absurd H (by simp)
                      · rw [if_neg c22] at H
                        exact absurd H (by simp)
                    · rw [if_neg c20] at H
                      exact absurd H (by simp)
                  · rw [if_neg c18] at H
                    exact absurd H (by simp)
                · rw [if_neg c16] at H
                  exact absurd H (by simp)
              · rw [if_neg c14] at H
                exact absurd H (by simp)
            · rw [if_neg c13] at H
              exact absurd H (by simp)
          · rw [if_neg c12] at H
            exact absurd H (by simp)
        · rw [if_neg c11] at H
          exact absurd H (by simp)
      · rw [if_neg c10] at H
        exact absurd H (by simp)
    · rw [if_neg c9] at H
      exact absurd H (by simp)
  · rw [if_neg c8] at H
    exact absurd H (by simp)

/-! ### noriaref11_Put: function 12 -/
def noriaref11_Put.l0 : Nat → Int → List Int → Option (List Int)
  | 0, _, _ => none
  | k + 1, x1, x5 => if x1 ≥ 128 then (if x5.length < 140737488355328 then (noriaref11_Put.l0 k (x1 / 128) (x5 ++ [Go.bits .or .u8 ((x1) % 256) 128])) else (none)) else (if x5.length < 140737488355328 then (some (x5 ++ [(x1) % 256])) else (none))
def noriaref11_Put.f (k : Nat) (l0 : List Int) (a1 : Int) : Option (List Int) := (some (([] : List Int) : List Int)).bind fun y168 => (if y168.length + l0.length < 140737488355328 then (noriaref11_Put.l0 k a1 (y168 ++ l0)) else (none))
theorem noriaref11_Put.mono_l : ∀ k, (∀ y0 y1, LeO (noriaref11_Put.l0 k y0 y1) (noriaref11_Put.l0 (k + 1) y0 y1))
  | 0 => fun _ _ r h => by simp [noriaref11_Put.l0] at h
  | k + 1 => by
    have ih0 := noriaref11_Put.mono_l k
    · intro y0 y1
      unfold noriaref11_Put.l0
      repeat' first
      | (with_reducible exact ih0 _ _)
      | (with_reducible exact LeO.refl _)
      | (with_reducible exact LeO.none _)
      | (with_reducible refine LeO.ite ?_ ?_)
      | (with_reducible refine LeO.bind ?_ (fun _ => ?_))
      | exact ih0 _ _
      | exact LeO.none _
      | refine LeO.ite ?_ ?_
      | refine LeO.bind ?_ (fun _ => ?_)
theorem noriaref11_Put.mono : ∀ a0 a1 k, LeO (noriaref11_Put.f k a0 a1) (noriaref11_Put.f (k + 1) a0 a1) := by
  intro a0 a1 k
  have ih0 := noriaref11_Put.mono_l k
  unfold noriaref11_Put.f
  repeat' first
      | (with_reducible exact ih0 _ _)
      | (with_reducible exact LeO.refl _)
      | (with_reducible exact LeO.none _)
      | (with_reducible refine LeO.ite ?_ ?_)
      | (with_reducible refine LeO.bind ?_ (fun _ => ?_))
      | exact ih0 _ _
      | exact LeO.none _
      | refine LeO.ite ?_ ?_
      | refine LeO.bind ?_ (fun _ => ?_)
set_option maxHeartbeats 8000000 in
set_option maxRecDepth 100000 in
theorem noriaref11_Put.calls (k : Nat) (A0 : Option Addr) (c0 : Nat) (l0 : List Int) (a1 : Int) (r : List Int) (w : World) (hr0 : Kd.C (Kd.int .u8) w A0 l0.length l0) (hc0 : l0.length ≤ c0) (h : noriaref11_Put.f k l0 a1 = some r) :
    Calls Try.prog 12 #[.slice A0 l0.length c0, .int .u64 a1] w fun e w' => ∃ v0_ : Value, e = .returned (v0_) ∧ Kd.R (Kd.int .u8) 5 w' w.heap.size (fun _ => True) v0_ r ∧ Below w.heap.size w w' := by
  have HR0 := Aside0.mk hr0
  have HC0 := Aside0.mk hc0
  clear hr0 hc0
  have HB := Aside0.mk (Below.refl w.heap.size w)
  have H : ((some (([] : List Int) : List Int)).bind fun y168 => (if y168.length + l0.length < 140737488355328 then (noriaref11_Put.l0 k a1 (y168 ++ l0)) else (none))) = some r := h
  clear h
  obtain ⟨y168, hy168⟩ : ∃ y_ : List Int, y_ = (([] : List Int)) := ⟨_, rfl⟩
  replace H : (if y168.length + l0.length < 140737488355328 then (noriaref11_Put.l0 k a1 (y168 ++ l0)) else (none)) = some r := by first | (rw [hy168]; with_reducible exact H) | (have H2_ := (Option.bind_some _ _).symm.trans H; rw [hy168]; with_reducible exact H2_) | (have H2_ := (Option.bind_some _ _).symm.trans H; with_reducible exact H2_) | with_reducible exact H | (rw [hy168]; exact H) | exact H
  have Ny168 := Aside0.mk hy168
  clear hy168
  by_cases c3 : y168.length + l0.length < 140737488355328
  · rw [if_pos c3] at H
    have LMc3 := Aside0.mk c3
    clear c3
    obtain ⟨y171, hy171⟩ : ∃ y_ : List Int, y_ = (y168 ++ l0) := ⟨_, rfl⟩
    replace H : (noriaref11_Put.l0 k a1 y171) = some r := by first | (rw [hy171]; with_reducible exact H) | (have H2_ := (Option.bind_some _ _).symm.trans H; rw [hy171]; with_reducible exact H2_) | (have H2_ := (Option.bind_some _ _).symm.trans H; with_reducible exact H2_) | with_reducible exact H | (rw [hy171]; exact H) | exact H
    have Ny171 := Aside0.mk hy171
    clear hy171
    have H' := Aside0.mk H
    clear H
    go_enter Try.func12, Try.ntmps12
    go_wp2_with (first | ((with_reducible refine gate_dst (N := 6) rfl ?_); refine Kd.R_lit (Kd.int .u8) _ 5 ?hg (N := 6) ?hd (xs := ([] : List Int)) (inner := []) (ok := fun _ => True) (okp := fun _ => True) ?hr ?hp (fun _ hk => hk) trivial (Below.refl _ _) (Nat.le_refl _) (by simp) ?_; (case hd => rfl); (case hg => rfl); (case hr => first | (go_simp; done) | (go_simp; rfl)); (case hp => exact (Reps.none _ _)); intro v169 w4 ho5 hb hg_ hnew_; clear hg_ hnew_; (first | rw [← Ny168.out] at ho5 | (simp only [Int.reduceToNat] at ho5; rw [← Ny168.out] at ho5)); have n0_ := Aside0.mk (Kd.R_lower ho5 (below_size (by repeat (first | (with_reducible first | exact HB.out | apply below_alloc | apply pw_below_drewN | apply below_drew1) | exact HB.out)))); have n1_ := Aside0.mk (below_step (by repeat (first | (with_reducible first | exact HB.out | apply below_alloc | apply pw_below_drewN | apply below_drew1) | exact HB.out)) hb); clear HB; have HO170 := n0_; have HB := n1_; clear n0_ n1_; clear hb ho5) | ((with_reducible refine gate_builtin (b := .append) (xs := #[.tmp 6, .tmp 7]) rfl ?_); at_builtin; refine Kd.R_append_rows (Kd.int .u8) (w0 := w) w.heap.size rfl (.tmp 6) (.tmp 7) 22 5 (.int .u8 0) 1 rfl Try.underlying22 info5 rfl (by decide) (by omega) v169 y168 l0 _ _ _ (fun _ => True) (fun _ => False) rfl rfl ?aO ?aR (fun _ _ h => h) (fun _ h => h.elim) ?aF ?aB ?aS ?aL ?_; (case aR => repeat (first | exact (Kd.C_below HR0.out HB.out) | (with_reducible refine Kd.C_alloc ?_ _) | (with_reducible refine Kd.C_drewN ?_ _) | (with_reducible refine Kd.C_drew ?_))); (case aB => exact (by repeat (first | (with_reducible first | exact HB.out | apply below_alloc | apply pw_below_drewN | apply below_drew1) | exact HB.out))); (case aF => exact (fun _ _ => trivial)); (case aO => exact (by (with_reducible repeat (first | apply Kd.R_alloc | apply Kd.R_drewN | apply Kd.R_drew)); exact HO170.out)); (case aS => exact (below_size (by repeat (first | (with_reducible first | exact HB.out | apply below_alloc | apply pw_below_drewN | apply below_drew1) | exact HB.out)))); (case aL => have := LMc3.out; omega); intro v172 w6 ho hb hg hat; rw [← Ny171.out] at ho; have n0_ := Aside0.mk (hb); have n1_ := Aside0.mk (ho); clear HB; clear HO170; have HB := n0_; have HO173 := n1_; clear n0_ n1_; clear ho hb hg hat))
    go_loopg [1, 5] k (fun kq v1 v5 w' => ∃ (x1_1 : Int) (x5_1 : List Int), v1 = .int .u64 x1_1 ∧ Aside0 (noriaref11_Put.l0 kq x1_1 x5_1 = some r) ∧ Aside0 (kq ≤ k) ∧ Aside0 (Kd.R (Kd.int .u8) 5 w' w.heap.size (fun _ => True) v5 x5_1) ∧ Aside0 (Below w.heap.size w w'))
    case atStart => exact ⟨(a1), (y171), (by first | rfl | (simp; done) | (simp [*]; done)), H', ⟨Nat.le_refl _⟩, ⟨by (with_reducible repeat (first | apply Kd.R_alloc | apply Kd.R_drewN | apply Kd.R_drew)); exact HO173.out⟩, ⟨by repeat (first | (with_reducible first | exact HB.out | apply below_alloc | apply pw_below_drewN | apply below_drew1) | exact HB.out)⟩⟩
    case round =>
      clear H'
      try clear c1
      try clear p2
      try clear c3
      obtain ⟨x1_1, x5_1, rfl, HA, HK1, HO_5, HB⟩ := hrel
      cases gk with
      | zero => exact absurd HA.out (by simp [noriaref11_Put.l0])
      | succ k1 =>
        have H := HA.out
        clear HA
        simp only [noriaref11_Put.l0] at H
        by_cases c7 : x1_1 ≥ 128
        · rw [if_pos c7] at H
          have c7b0 : decide (128 ≤ x1_1) = true := decide_eq_true c7
          clear c7
          by_cases c8 : x5_1.length < 140737488355328
          · rw [if_pos c8] at H
            have LMc8 := Aside0.mk c8
            clear c8
            obtain ⟨y174, hy174⟩ : ∃ y_ : List Int, y_ = (x5_1 ++ [Go.bits .or .u8 ((x1_1) % 256) 128]) := ⟨_, rfl⟩
            replace H : (noriaref11_Put.l0 k1 (x1_1 / 128) y174) = some r := by first | (rw [hy174]; with_reducible exact H) | (have H2_ := (Option.bind_some _ _).symm.trans H; rw [hy174]; with_reducible exact H2_) | (have H2_ := (Option.bind_some _ _).symm.trans H; with_reducible exact H2_) | with_reducible exact H | (rw [hy174]; exact H) | exact H
            have Ny174 := Aside0.mk hy174
            clear hy174
            have H' := Aside0.mk H
            clear H
            go_wp2_with (first | ((with_reducible refine gate_builtin (b := .append) (xs := #[.tmp 11, .tmp 15]) rfl ?_); at_builtin; refine Kd.R_append (Kd.int .u8) (w0 := w) w.heap.size rfl (.tmp 11) (.tmp 15) 22 5 (.int .u8 0) 1 rfl Try.underlying22 info5 rfl (by decide) (by omega) u5 x5_1 (Go.bits .or .u8 ((x1_1) % 256) 128) [.int .u8 (Go.bits .or .u8 ((x1_1) % 256) 128)] (fun _ => True) (fun _ => False) rfl rfl ?aP (fun _ hk => hk.elim) ?aF ?aO ?aB ?aS ?aL ?_; (case aP => exact rfl); (case aB => exact (by repeat (first | (with_reducible first | exact HB.out | apply below_alloc | apply pw_below_drewN | apply below_drew1) | exact HB.out))); (case aF => exact (fun _ _ => trivial)); (case aO => exact (by (with_reducible repeat (first | apply Kd.R_alloc | apply Kd.R_drewN | apply Kd.R_drew)); exact HO_5.out)); (case aS => exact (below_size (by repeat (first | (with_reducible first | exact HB.out | apply below_alloc | apply pw_below_drewN | apply below_drew1) | exact HB.out)))); (case aL => have := LMc8.out; omega); intro v175 w9 ho hb hg hat; rw [← Ny174.out] at ho; have n0_ := Aside0.mk (hb); have n1_ := Aside0.mk (ho); clear HB; clear HO_5; have HB := n0_; have HO176 := n1_; clear n0_ n1_; clear ho hb hg hat))
            go_roundg k1
            case measure => have := HK1.out; omega
            case rel => exact ⟨(x1_1 / 128), (y174), (by first | rfl | (simp; done) | (simp [*]; done)), H', ⟨by have := HK1.out; omega⟩, ⟨by (with_reducible repeat (first | apply Kd.R_alloc | apply Kd.R_drewN | apply Kd.R_drew)); exact HO176.out⟩, ⟨by repeat (first | (with_reducible first | exact HB.out | apply below_alloc | apply pw_below_drewN | apply below_drew1) | exact HB.out)⟩⟩
          · rw [if_neg c8] at H
            exact absurd H (by simp)
        · rw [if_neg c7] at H
          have c7b0 : decide (128 ≤ x1_1) = false := decide_eq_false c7
          clear c7
          by_cases c10 : x5_1.length < 140737488355328
          · rw [if_pos c10] at H
            have LMc10 := Aside0.mk c10
            clear c10
            obtain ⟨y177, hy177⟩ : ∃ y_ : List Int, y_ = (x5_1 ++ [(x1_1) % 256]) := ⟨_, rfl⟩
            replace H : (some y177) = some r := by first | (rw [hy177]; with_reducible exact H) | (have H2_ := (Option.bind_some _ _).symm.trans H; rw [hy177]; with_reducible exact H2_) | (have H2_ := (Option.bind_some _ _).symm.trans H; with_reducible exact H2_) | with_reducible exact H | (rw [hy177]; exact H) | exact H
            have Ny177 := Aside0.mk hy177
            clear hy177
            obtain rfl := Option.some.inj H
            go_wp2_with (first | ((with_reducible refine gate_builtin (b := .append) (xs := #[.tmp 19, .tmp 22]) rfl ?_); at_builtin; refine Kd.R_append (Kd.int .u8) (w0 := w) w.heap.size rfl (.tmp 19) (.tmp 22) 22 5 (.int .u8 0) 1 rfl Try.underlying22 info5 rfl (by decide) (by omega) u5 x5_1 ((x1_1) % 256) [.int .u8 ((x1_1) % 256)] (fun _ => True) (fun _ => False) rfl rfl ?aP (fun _ hk => hk.elim) ?aF ?aO ?aB ?aS ?aL ?_; (case aP => exact rfl); (case aB => exact (by repeat (first | (with_reducible first | exact HB.out | apply below_alloc | apply pw_below_drewN | apply below_drew1) | exact HB.out))); (case aF => exact (fun _ _ => trivial)); (case aO => exact (by (with_reducible repeat (first | apply Kd.R_alloc | apply Kd.R_drewN | apply Kd.R_drew)); exact HO_5.out)); (case aS => exact (below_size (by repeat (first | (with_reducible first | exact HB.out | apply below_alloc | apply pw_below_drewN | apply below_drew1) | exact HB.out)))); (case aL => have := LMc10.out; omega); intro v178 w11 ho hb hg hat; rw [← Ny177.out] at ho; have n0_ := Aside0.mk (hb); have n1_ := Aside0.mk (ho); clear HB; clear HO_5; have HB := n0_; have HO179 := n1_; clear n0_ n1_; clear ho hb hg hat))
            go_ret
            exact ⟨_, by first | rfl | (simp [errW_none, errW_some] <;> rfl) | (simp [*, errW_none, errW_some] <;> rfl), by (with_reducible repeat (first | apply Kd.R_alloc | apply Kd.R_drewN | apply Kd.R_drew)); exact HO179.out, by repeat (first | (with_reducible first | exact HB.out | apply below_alloc | apply pw_below_drewN | apply below_drew1) | exact HB.out)⟩
          · rw [if_neg c10] at H
            exact absurd H (by simp)
  · rw [if_neg c3] at H
    exact absurd H (by simp)

end Go.Proofs.Ytfiihimbkjcflaa.PAll
