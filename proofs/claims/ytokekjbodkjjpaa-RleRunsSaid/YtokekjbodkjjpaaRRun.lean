import Derived.Test.YtokekjbodkjjpaaNSame
import Derived.Test.YtokekjbodkjjpaaNPut
import Derived.Test.YtokekjbodkjjpaaNRPut
import Derived.Test.YtokekjbodkjjpaaNGet
import Derived.Test.YtokekjbodkjjpaaNBits
/- Runs of numbers that are alike: what rle's functions compute. -/
set_option linter.unusedSimpArgs false
set_option linter.unusedVariables false
namespace Go.Proofs.Ytokekjbodkjjpaa.Num
open Go Go.RowKit Go.Proofs.Ytokekjbodkjjpaa.PAll Go.Proofs.YtokekjbodkjjpaaW.PrintWords Go.Proofs.YtokekjbodkjjpaaW.PrintLast Go.Proofs.YtokekjbodkjjpaaW.PrintMore
def expand : List (Nat × Int) → List Int
  | [] => []
  | (n, v) :: rs => List.replicate n v ++ expand rs
def encR : List (Nat × Int) → List Int
  | [] => []
  | (n, v) :: rs => enc n ++ (enc v.toNat ++ encR rs)
def good : List (Nat × Int) → Prop
  | [] => True
  | (n, v) :: rs => 1 ≤ n ∧ (0 ≤ v ∧ v ≤ 18446744073709551615) ∧ (expand rs).head? ≠ some v ∧ good rs
def isV (l : List Int) : Prop := ∀ x ∈ l, 0 ≤ x ∧ x ≤ 18446744073709551615
theorem isV_of_wf {l : List Int} (h : ∀ x ∈ l, (Lit.int .u64 x).wf = true) : isV l := fun x hx => wf_u64 (h x hx)
theorem expand_append (a b : List (Nat × Int)) : expand (a ++ b) = expand a ++ expand b := by
  induction a with
  | nil => rfl
  | cons p a ih => obtain ⟨n, v⟩ := p; simp only [List.cons_append, expand, ih, List.append_assoc]
theorem encR_append (a b : List (Nat × Int)) : encR (a ++ b) = encR a ++ encR b := by
  induction a with
  | nil => rfl
  | cons p a ih => obtain ⟨n, v⟩ := p; simp only [List.cons_append, encR, ih, List.append_assoc]
theorem head_rep {n : Nat} (h : 1 ≤ n) (v : Int) (t : List Int) : (List.replicate n v ++ t).head? = some v := by
  obtain ⟨m, rfl⟩ : ∃ m, n = m + 1 := ⟨n - 1, by omega⟩
  rfl
theorem last_rep {n : Nat} (h : 1 ≤ n) (v : Int) (t : List Int) : (t ++ List.replicate n v).getLast? = some v := by
  obtain ⟨m, rfl⟩ : ∃ m, n = m + 1 := ⟨n - 1, by omega⟩
  rw [List.replicate_succ', ← List.append_assoc]
  simp
theorem last_app {a b : List Int} (h : b ≠ []) : (a ++ b).getLast? = b.getLast? := by
  rw [List.getLast?_append]
  cases hb : b.getLast? with
  | none => rw [List.getLast?_eq_none_iff] at hb; exact absurd hb h
  | some x => rfl
theorem head_app {a b : List Int} (h : a ≠ []) : (a ++ b).head? = a.head? := by
  cases a with
  | nil => exact absurd rfl h
  | cons x a => rfl
theorem exists_runs (l : List Int) (hl : isV l) : ∃ rs, l = expand rs ∧ good rs := by
  induction l with
  | nil => exact ⟨[], rfl, trivial⟩
  | cons x l ih =>
    obtain ⟨rs, rfl, hg⟩ := ih (fun y hy => hl y (by simp [hy]))
    have hx := hl x (by simp)
    cases rs with
    | nil => exact ⟨[(1, x)], rfl, Nat.le_refl _, hx, by simp [expand], trivial⟩
    | cons p rs =>
      obtain ⟨n, y⟩ := p
      by_cases c : x = y
      · subst c
        exact ⟨(n + 1, x) :: rs, by simp [expand, List.replicate_succ], by omega, hg.2.1, hg.2.2.1, hg.2.2.2⟩
      · refine ⟨(1, x) :: (n, y) :: rs, by simp [expand], Nat.le_refl _, hx, ?_, hg⟩
        rw [expand, head_rep hg.1]
        intro h
        exact c (Option.some.inj h).symm
theorem good_append (a b : List (Nat × Int)) (ha : good a) (hb : good b) (h : ∀ v, (expand a).getLast? = some v → (expand b).head? ≠ some v) : good (a ++ b) := by
  induction a with
  | nil => exact hb
  | cons p a ih =>
    obtain ⟨n, v⟩ := p
    obtain ⟨h1, h2, h3, h4⟩ := ha
    refine ⟨h1, h2, ?_, ih h4 ?_⟩
    · show (expand (a ++ b)).head? ≠ some v
      rw [expand_append]
      by_cases c : expand a = []
      · rw [c, List.nil_append]
        apply h
        rw [expand, c, List.append_nil]
        exact last_rep (t := []) h1 v
      · rw [head_app c]; exact h3
    · intro u hu
      apply h
      rw [expand, last_app (fun c => by rw [c] at hu; cases hu)]
      exact hu
theorem good_last {a : List (Nat × Int)} (ha : good a) (hne : a ≠ []) : ∃ b n v, a = b ++ [(n, v)] ∧ 1 ≤ n ∧ good b := by
  induction a with
  | nil => exact absurd rfl hne
  | cons p a ih =>
    obtain ⟨n, v⟩ := p
    by_cases c : a = []
    · subst c
      exact ⟨[], n, v, rfl, ha.1, trivial⟩
    · obtain ⟨b, m, u, rfl, hm, hb⟩ := ih ha.2.2.2 c
      refine ⟨(n, v) :: b, m, u, rfl, hm, ha.1, ha.2.1, ?_, hb⟩
      have h3 := ha.2.2.1
      rw [expand_append] at h3
      by_cases c2 : expand b = []
      · rw [c2]; simp
      · rw [head_app c2] at h3; exact h3
theorem good_merge (a : List (Nat × Int)) {m n : Nat} {v : Int} {b : List (Nat × Int)} (ha : good (a ++ [(m, v)])) (hb : good ((n, v) :: b)) : good (a ++ (m + n, v) :: b) := by
  induction a with
  | nil => exact ⟨by have := ha.1; omega, hb.2.1, hb.2.2.1, hb.2.2.2⟩
  | cons p a ih =>
    obtain ⟨k, u⟩ := p
    obtain ⟨h1, h2, h3, h4⟩ := ha
    refine ⟨h1, h2, ?_, ih h4⟩
    have h3 : (expand (a ++ [(m, v)])).head? ≠ some u := h3
    show (expand (a ++ (m + n, v) :: b)).head? ≠ some u
    rw [expand_append] at h3 ⊢
    by_cases c : expand a = []
    · have hm : 1 ≤ m := by
        have : ∀ a : List (Nat × Int), good (a ++ [(m, v)]) → 1 ≤ m := by
          intro a
          induction a with
          | nil => exact fun h => h.1
          | cons p a ih => exact fun h => ih h.2.2.2
        exact this a h4
      rw [c, List.nil_append, expand, head_rep hm] at h3
      rw [c, List.nil_append, expand, head_rep (by omega)]
      exact h3
    · rw [head_app c] at h3 ⊢; exact h3
theorem good_len (a : List (Nat × Int)) (h : good a) : a.length ≤ (expand a).length := by
  induction a with
  | nil => simp
  | cons p a ih =>
    obtain ⟨n, v⟩ := p
    have := ih h.2.2.2
    have := h.1
    simp only [expand, List.length_append, List.length_replicate, List.length_cons]
    omega
theorem encR_len (a : List (Nat × Int)) (h : good a) (hL : (expand a).length ≤ 1000000) : (encR a).length ≤ 20 * a.length := by
  induction a with
  | nil => simp [encR]
  | cons p a ih =>
    obtain ⟨n, v⟩ := p
    simp only [expand, List.length_append, List.length_replicate] at hL
    have := ih h.2.2.2 (by omega)
    have h1 := enc_len10 (u := n) (by omega)
    have h2 := enc_len10 (u := v.toNat) (by have := h.2.1; omega)
    simp only [encR, List.length_append, List.length_cons]
    omega
theorem encR_B (a : List (Nat × Int)) : isB (encR a) := by
  induction a with
  | nil => exact isB_nil
  | cons p a ih => obtain ⟨n, v⟩ := p; exact isB_append (enc_isB _) (isB_append (enc_isB _) ih)
theorem rd_at {l : List Int} {i : Nat} (h : i < l.length) : rd l (i : Int) = l[i] := by
  unfold rd
  rw [Int.toNat_natCast, List.getD_eq_getElem?_getD, List.getElem?_eq_getElem h]
  rfl
theorem rd_rep {pre t : List Int} {n j : Nat} {v : Int} (h : j < n) : rd (pre ++ (List.replicate n v ++ t)) ((pre.length + j : Nat) : Int) = v := by
  rw [rd_at (by simp only [List.length_append, List.length_replicate]; omega), List.getElem_append_right (by omega), List.getElem_append_left (by simp only [List.length_replicate]; omega)]
  exact List.getElem_replicate _
theorem rd_behind {pre t : List Int} {n : Nat} {v : Int} (h : 0 < t.length) (hn : t.head? ≠ some v) : rd (pre ++ (List.replicate n v ++ t)) ((pre.length + n : Nat) : Int) ≠ v := by
  cases t with
  | nil => simp at h
  | cons u t =>
    rw [rd_at (by simp only [List.length_append, List.length_replicate, List.length_cons]; omega), List.getElem_append_right (by omega), List.getElem_append_right (by simp only [List.length_replicate]; omega)]
    simp only [List.length_replicate, Nat.add_sub_cancel_left, Nat.sub_self, List.getElem_cons_zero]
    intro h2
    apply hn
    rw [h2]
    rfl
theorem run_l0 {n : Nat} {v : Int} {t : List Int} (h1 : 1 ≤ n) (ht : t.head? ≠ some v) (hL : n + t.length ≤ 70368744177664) : ∀ (d i k : Nat), i + d = n → 1 ≤ i → d < k → rle_run.l0 k (List.replicate n v ++ t) i = some (n : Int) := by
  have hlen : (List.replicate n v ++ t).length = n + t.length := by simp only [List.length_append, List.length_replicate]
  have h0 := rd_rep (pre := []) (t := t) (v := v) (j := 0) (n := n) (by omega)
  simp only [List.nil_append, List.length_nil, Nat.zero_add] at h0
  rw [show ((0 : Nat) : Int) = 0 from rfl] at h0
  intro d
  induction d with
  | zero =>
    intro i k hi h2 hk
    obtain ⟨k, rfl⟩ : ∃ m, k = m + 1 := ⟨k - 1, by omega⟩
    obtain rfl : i = n := by omega
    simp only [rle_run.l0]
    rw [hlen]
    by_cases c : (i : Int) < ((i + t.length : Nat) : Int)
    · have := rd_behind (pre := []) (n := i) (v := v) (t := t) (by omega) ht
      simp only [List.nil_append, List.length_nil, Nat.zero_add] at this
      rw [if_pos c, if_pos (by omega), if_pos (by omega), h0, if_neg this]
    · rw [if_neg c]
  | succ d ih =>
    intro i k hi h2 hk
    obtain ⟨k, rfl⟩ : ∃ m, k = m + 1 := ⟨k - 1, by omega⟩
    have := rd_rep (pre := []) (t := t) (v := v) (j := i) (n := n) (by omega)
    simp only [List.nil_append, List.length_nil, Nat.zero_add] at this
    simp only [rle_run.l0]
    rw [hlen, if_pos (by omega), if_pos (by omega), if_pos (by omega), h0, this, if_pos rfl, wr (by omega) (by omega)]
    exact ih (i + 1) k (by omega) (by omega) (by omega)
theorem run_eq {n : Nat} {v : Int} {t : List Int} (h1 : 1 ≤ n) (ht : t.head? ≠ some v) (hL : n + t.length ≤ 70368744177664) {k : Nat} (hk : n < k) : rle_run.f k (List.replicate n v ++ t) = some (n : Int) :=
  run_l0 h1 ht hL (n - 1) 1 k (by omega) (Nat.le_refl _) (by omega)
theorem drop_rep (n : Nat) (v : Int) (t : List Int) : (List.replicate n v ++ t).drop n = t := List.drop_left' (by simp)
theorem rruns_l0 : ∀ (rs : List (Nat × Int)) (c k : Nat), good rs → (expand rs).length + c ≤ 1000000 → 2 * (expand rs).length + 10 < k → rle_Runs.l0 k (expand rs) c = some ((c + rs.length : Nat) : Int) := by
  intro rs
  induction rs with
  | nil =>
    intro c k _ _ hk
    obtain ⟨k, rfl⟩ : ∃ m, k = m + 1 := ⟨k - 1, by omega⟩
    show rle_Runs.l0 (k + 1) [] (c : Int) = some ((c + 0 : Nat) : Int)
    simp only [rle_Runs.l0]
    rw [if_neg (by simp), Nat.add_zero]
  | cons p rs ih =>
    intro c k hg hL hk
    obtain ⟨k, rfl⟩ : ∃ m, k = m + 1 := ⟨k - 1, by omega⟩
    obtain ⟨n, v⟩ := p
    obtain ⟨h1, h2, h3, h4⟩ := hg
    have hlen : (List.replicate n v ++ expand rs).length = n + (expand rs).length := by simp only [List.length_append, List.length_replicate]
    simp only [expand] at hL hk ⊢
    rw [hlen] at hL hk
    simp only [rle_Runs.l0]
    rw [hlen, if_pos (by omega), run_eq h1 h3 (by omega) (by omega), Option.bind_some, if_pos (by omega), if_pos (by omega), Int.toNat_natCast, drop_rep, wr (by omega) (by omega)]
    have := ih (c + 1) k h4 (by omega) (by omega)
    rw [show ((c + 1 : Nat) : Int) = (c : Int) + 1 from by omega] at this
    rw [this, List.length_cons, show c + 1 + rs.length = c + (rs.length + 1) from by omega]
theorem runs_eq {rs : List (Nat × Int)} {k : Nat} (hg : good rs) (hL : (expand rs).length ≤ 1000000) (hk : 2 * (expand rs).length + 10 < k) : rle_Runs.f k (expand rs) = some (rs.length : Int) := by
  have := rruns_l0 rs 0 k hg (by omega) hk
  rw [Nat.zero_add] at this
  exact this
theorem rput_runs_l0 : ∀ (rs : List (Nat × Int)) (acc : List Int) (k : Nat), good rs → (expand rs).length ≤ 1000000 → acc.length + 20 * (expand rs).length ≤ 70368744177664 → 2 * (expand rs).length + 20 < k → rle_Put.l0 k (expand rs) acc = some (acc ++ encR rs) := by
  intro rs
  induction rs with
  | nil =>
    intro c k _ _ _ hk
    obtain ⟨k, rfl⟩ : ∃ m, k = m + 1 := ⟨k - 1, by omega⟩
    show rle_Put.l0 (k + 1) [] c = some (c ++ [])
    simp only [rle_Put.l0]
    rw [if_neg (by simp), List.append_nil]
  | cons p rs ih =>
    intro acc k hg hL hA hk
    obtain ⟨k, rfl⟩ : ∃ m, k = m + 1 := ⟨k - 1, by omega⟩
    obtain ⟨n, v⟩ := p
    obtain ⟨h1, h2, h3, h4⟩ := hg
    have hlen : (List.replicate n v ++ expand rs).length = n + (expand rs).length := by simp only [List.length_append, List.length_replicate]
    have h0 := rd_rep (pre := []) (t := expand rs) (v := v) (j := 0) (n := n) (by omega)
    simp only [List.nil_append, List.length_nil, Nat.zero_add] at h0
    rw [show ((0 : Nat) : Int) = 0 from rfl] at h0
    have e1 := enc_len10 (u := n) (by simp only [expand] at hL; rw [hlen] at hL; omega)
    have e2 := enc_len10 (u := v.toNat) (by omega)
    simp only [expand] at hL hk hA ⊢
    rw [hlen] at hL hk hA
    simp only [rle_Put.l0]
    rw [hlen, if_pos (by omega), run_eq h1 h3 (by omega) (by omega), Option.bind_some, wu (by omega) (by omega), put_eq k (by omega) (by omega) (by omega) (by omega), Option.bind_some, if_pos (by omega), h0,
      put_eq k h2.1 h2.2 (by rw [List.length_append, Int.toNat_natCast]; omega) (by omega), Option.bind_some, if_pos (by omega), if_pos (by omega), Int.toNat_natCast, drop_rep]
    rw [ih _ k h4 (by omega) (by rw [List.length_append, List.length_append]; omega) (by omega)]
    simp only [encR, List.append_assoc]
theorem rput_runs {rs : List (Nat × Int)} {k : Nat} (hg : good rs) (hL : (expand rs).length ≤ 1000000) (hk : 2 * (expand rs).length + 20 < k) : rle_Put.f k (expand rs) = some (encR rs) :=
  rput_runs_l0 rs [] k hg hL (by simp; omega) hk
/-- One, times any number. -/
theorem mul_one_ {a : Nat} (h : a ≤ 1000000) : bits_Mul.f 1 (a : Int) = some (0, (a : Int)) := by
  have e1 : Go.bits .and .u64 (a : Int) 4294967295 = (a : Int) := by
    have := u64_and_nat a 4294967295 (by omega) (by decide)
    rw [show ((4294967295 : Nat) : Int) = 4294967295 from rfl] at this
    rw [this, show (4294967295 : Nat) = 2 ^ 32 - 1 from rfl, Nat.and_two_pow_sub_one_eq_mod]
    omega
  have e2 : Go.bits .and .u64 1 4294967295 = 1 := by decide +kernel
  have e3 : Go.bits .and .u64 0 4294967295 = 0 := by decide +kernel
  have e4 : (a : Int) / 4294967296 = 0 := by omega
  unfold bits_Mul.f bits_Mul64.f
  rw [e1, e2, e4, show (1 : Int) / 4294967296 = 0 from by decide]
  simp only [Int.zero_mul, Int.one_mul, Int.mul_zero]
  rw [wu (x := 0) (by omega) (by omega), wu (x := (a : Int)) (by omega) (by omega), e4, Int.add_zero, wu (x := 0) (by omega) (by omega), e3, Int.add_zero, wu (x := 0) (by omega) (by omega)]
  rfl
theorem repeat_eq {n : Nat} {v : Int} (h1 : 1 ≤ n) (h2 : n ≤ 1000000) : slices_Repeat_uint64_uint64.f [v] (n : Int) = some (List.replicate n v) := by
  unfold slices_Repeat_uint64_uint64.f
  rw [if_pos ⟨rfl, by omega, by omega, mul_one_ h2⟩, Int.toNat_natCast]
  rfl
theorem last_rd {l : List Int} {v : Int} (h : 0 < l.length) : (rd l ((l.length - 1 : Nat) : Int) == v) = decide (l.getLast? = some v) := by
  rw [rd_at (by omega), List.getLast?_eq_getElem?, List.getElem?_eq_getElem (by omega)]
  by_cases c : l[l.length - 1] = v
  · rw [c]; simp
  · rw [decide_eq_false (by simpa using c)]
    simpa using c
/-- One run read. -/
theorem rget_step {B pre rest acc : List Int} {n : Nat} {v most : Int} {k : Nat} (hB : B = pre ++ (enc n ++ (enc v.toNat ++ rest))) (hBB : isB B) (hL : B.length ≤ 70368744177664) (hn : n < 18446744073709551616) (hv : 0 ≤ v ∧ v ≤ 18446744073709551615) (hacc : acc.length ≤ 1000000) (hk : 22 ≤ k) :
    rle_Get.l0 (k + 1) B most acc (pre.length : Int) = rle_Get.j1 k B most acc (n : Int) v ((pre ++ (enc n ++ enc v.toNat)).length : Int) (decide (n = 0) || decide (acc.getLast? = some v)) := by
  have e1 := enc_len10 hn
  have e2 := enc_len10 (u := v.toNat) (by omega)
  have p1 := enc_len_pos n
  have hlen : B.length = pre.length + ((enc n).length + ((enc v.toNat).length + rest.length)) := by rw [hB]; simp only [List.length_append]
  have hd1 : B.drop pre.length = enc n ++ (enc v.toNat ++ rest) := by rw [hB, List.drop_left]
  have hd2 : B.drop (pre.length + (enc n).length) = enc v.toNat ++ rest := by rw [← List.drop_drop, hd1, List.drop_left]
  simp only [rle_Get.l0]
  rw [if_pos (by omega), get_eq k hBB (by omega) (by omega) hL hk, Int.toNat_natCast, hd1, gd_put n hn, Option.bind_some, if_pos rfl]
  rw [show ((n : Int), ((enc n).length : Int), (0 : Int)).2.1 = ((enc n).length : Int) from rfl, wr (x := (pre.length : Int) + ((enc n).length : Int)) (by omega) (by omega), get_eq k hBB (by omega) (by omega) hL hk]
  rw [show ((pre.length : Int) + ((enc n).length : Int)).toNat = pre.length + (enc n).length from by omega, hd2, gd_put _ (by omega), Option.bind_some, if_pos rfl]
  rw [show ((v.toNat : Nat) : Int) = v from Int.toNat_of_nonneg hv.1]
  rw [show (v, ((enc v.toNat).length : Int), (0 : Int)).2.1 = ((enc v.toNat).length : Int) from rfl, wr (x := (pre.length : Int) + ((enc n).length : Int) + ((enc v.toNat).length : Int)) (by omega) (by omega)]
  rw [show (pre.length : Int) + ((enc n).length : Int) + ((enc v.toNat).length : Int) = ((pre ++ (enc n ++ enc v.toNat)).length : Int) from by simp only [List.length_append]; omega]
  dsimp only
  by_cases c : n = 0
  · rw [if_pos (by omega), c]
    simp
  · rw [if_neg (by omega), decide_eq_false c, Bool.false_or]
    by_cases c2 : 0 < acc.length
    · rw [if_pos (by omega), wr (by omega) (by omega), if_pos (by omega), if_pos (by omega), show (acc.length : Int) - 1 = ((acc.length - 1 : Nat) : Int) from by omega, last_rd c2]
    · obtain rfl : acc = [] := by
        cases acc with
        | nil => rfl
        | cons x t => simp at c2
      rw [if_neg (by simp)]
      rfl
theorem rget_runs : ∀ (rs : List (Nat × Int)) (B pre rest acc : List Int) (most k : Nat), good rs → B = pre ++ (encR rs ++ rest) → isB B → B.length ≤ 70368744177664 → acc.length + (expand rs).length ≤ most → most ≤ 1000000 → (∀ v, acc.getLast? = some v → (expand rs).head? ≠ some v) → 2 * rs.length + 30 < k →
    rle_Get.l0 k B most acc (pre.length : Int) = rle_Get.l0 (k - 2 * rs.length) B most (acc ++ expand rs) ((pre ++ encR rs).length : Int) := by
  intro rs
  induction rs with
  | nil =>
    intro B pre rest acc most k _ _ _ _ _ _ _ _
    simp only [expand, encR, List.append_nil, List.length_nil, Nat.mul_zero, Nat.sub_zero]
  | cons p rs ih =>
    intro B pre rest acc most k hg hB hBB hL hA hM hlast hk
    obtain ⟨n, v⟩ := p
    obtain ⟨h1, h2, h3, h4⟩ := hg
    simp only [List.length_cons] at hk
    obtain ⟨k, rfl⟩ : ∃ m, k = m + 2 := ⟨k - 2, by omega⟩
    have hlen : (expand ((n, v) :: rs)).length = n + (expand rs).length := by simp only [expand, List.length_append, List.length_replicate]
    rw [hlen] at hA
    have hne : ¬ acc.getLast? = some v := by
      intro h
      exact hlast v h (by rw [expand, head_rep h1])
    have e1 := enc_len10 (u := n) (by omega)
    have e2 := enc_len10 (u := v.toNat) (by omega)
    simp only [encR] at hB
    rw [show k + 2 = (k + 1) + 1 from rfl, rget_step (n := n) (rest := encR rs ++ rest) (by rw [hB]; simp only [List.append_assoc]) hBB hL (by omega) h2 (by omega) (by omega), decide_eq_false (show ¬ n = 0 by omega), decide_eq_false hne]
    simp only [rle_Get.j1, Bool.or_self]
    rw [if_neg (by simp), wr (x := (most : Int) - (acc.length : Int)) (by omega) (by omega), wu (by omega) (by omega), if_neg (by omega), wr (by omega) (by omega), repeat_eq h1 (by omega), Option.bind_some, if_pos (by rw [List.length_replicate]; omega)]
    have := ih B (pre ++ (enc n ++ enc v.toNat)) rest (acc ++ List.replicate n v) most k h4 (by rw [hB]; simp only [List.append_assoc]) hBB hL (by rw [List.length_append, List.length_replicate]; omega) hM (by
      intro u hu
      rw [last_rep h1] at hu
      obtain rfl := Option.some.inj hu
      exact h3) (by omega)
    rw [this, List.length_cons, show k + 1 + 1 - 2 * (rs.length + 1) = k - 2 * rs.length from by omega]
    simp only [expand, encR, List.append_assoc]
/-- What Put told is read again. -/
theorem rget_put {rs : List (Nat × Int)} {most k : Nat} (hg : good rs) (hL : (expand rs).length ≤ most) (hM : most ≤ 1000000) (hk : 2 * (expand rs).length + 40 < k) : rle_Get.f k (encR rs) most = some (expand rs, 0) := by
  have h1 := good_len rs hg
  have h2 := encR_len rs hg (by omega)
  have := rget_runs rs (encR rs) [] [] [] most k hg (by simp) (encR_B rs) (by omega) (by simpa using hL) hM (by intro v h; cases h) (by omega)
  unfold rle_Get.f
  rw [if_neg (by omega)]
  simp only [List.nil_append, List.length_nil] at this
  rw [show ((0 : Nat) : Int) = 0 from rfl] at this
  rw [this]
  obtain ⟨j, hj⟩ : ∃ j, k - 2 * rs.length = j + 1 := ⟨k - 2 * rs.length - 1, by omega⟩
  rw [hj]
  simp only [rle_Get.l0]
  rw [if_neg (by omega)]
theorem rleKnown : norialaw5_known.f 100 = some true := by decide +kernel
theorem known_k {k : Nat} (h : 100 ≤ k) : norialaw5_known.f k = some true := at_rounds norialaw5_known.mono h rleKnown
end Go.Proofs.Ytokekjbodkjjpaa.Num
