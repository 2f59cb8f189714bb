import Derived.Test.YtijhfdhcnagkcaaEnc
import Derived.Test.YtijhfdhcnagkcaaPAllx5
/- Rooms: what ext's functions and their references compute. -/
set_option linter.unusedSimpArgs false
set_option linter.unusedVariables false
namespace Go.Proofs.Ytijhfdhcnagkcaa.Num
open Go Go.RowKit Go.Proofs.Ytijhfdhcnagkcaa.PAll Go.Proofs.YtijhfdhcnagkcaaW.PrintWords Go.Proofs.YtijhfdhcnagkcaaW.PrintLast Go.Proofs.YtijhfdhcnagkcaaW.PrintMore
theorem lt_ge_ (a b : Int) : a < b ∨ b ≤ a := by omega
theorem extKnown : norialaw14_known.f = some true := by decide +kernel
theorem of_eq (a b : Int) : norialaw14_Of.f a b = some (a, b) := rfl
def to28 (e : S23) : S28 := ⟨e.f0, e.f1⟩
def small (e : S23) : Prop := 1 ≤ e.f1 ∧ e.f1 ≤ 5000 ∧ 0 ≤ e.f0 ∧ e.f0 ≤ 5000
theorem holds_eq {a : S23} (ha : small a) {q : Int} (h0 : 0 ≤ q) (h1 : q ≤ 5000) : ext_Ext_holds.f a.f0 a.f1 q = some (decide (a.f0 ≤ q ∧ q < a.f0 + a.f1)) := by
  obtain ⟨a1, a2, a3, a4⟩ := ha
  unfold ext_Ext_holds.f
  by_cases c : q ≥ a.f0
  · rw [if_pos c, wr (by omega) (by omega)]
    congr 1
    rw [Bool.eq_iff_iff, decide_eq_true_iff, decide_eq_true_iff]
    omega
  · rw [if_neg c, decide_eq_false (by omega)]
def ovl (a b : S23) : Bool := decide (a.f0 < b.f0 + b.f1 ∧ b.f0 < a.f0 + a.f1)
theorem ovl_eq {a b : S23} (ha : small a) (hb : small b) : ext_Overlap.f a.f0 a.f1 b.f0 b.f1 = some (ovl a b) := by
  have ha' := ha
  have hb' := hb
  obtain ⟨a1, a2, a3, a4⟩ := ha
  obtain ⟨b1, b2, b3, b4⟩ := hb
  unfold ext_Overlap.f ovl
  rw [if_pos (by omega), if_pos (by omega), holds_eq ha' (by omega) (by omega), Option.bind_some]
  by_cases c : a.f0 ≤ b.f0 ∧ b.f0 < a.f0 + a.f1
  · rw [if_pos (decide_eq_true c), decide_eq_true (by omega)]
  · rw [if_neg (by simpa using c), holds_eq hb' (by omega) (by omega), Option.bind_some]
    congr 1
    rw [Bool.eq_iff_iff, decide_eq_true_iff, decide_eq_true_iff]
    omega
theorem ovl_comm (a b : S23) : ovl a b = ovl b a := by
  unfold ovl
  rw [Bool.eq_iff_iff, decide_eq_true_iff, decide_eq_true_iff]
  omega
theorem ovl_self {a : S23} (h : 1 ≤ a.f1) : ovl a a = true := by
  unfold ovl
  rw [decide_eq_true_iff]
  omega
theorem check_ref (x y b : Int) : noriaref18_CheckExt.f x y b = ext_Check.f x y b := by
  unfold noriaref18_CheckExt.f ext_Check.f
  by_cases c : b > 1024
  · rw [if_pos c, show mn b 1024 = 1024 from by unfold mn; split <;> omega]
  · rw [if_neg c, show mn b 1024 = b from by unfold mn; split <;> omega]
theorem check_small {x y b : Int} (h : ext_Check.f x y b = some 0) : small ⟨x, y⟩ := by
  obtain ⟨h1, h2, h3, h4⟩ := check_bd h
  have := mn_max b
  exact ⟨h1, by show y ≤ 5000; omega, by show 0 ≤ x; omega, by show x ≤ 5000; omega⟩
theorem check_ok {x y b : Int} (h1 : 1 ≤ y) (h2 : 2 ≤ x) (h3 : x + y ≤ mn b 1024) : ext_Check.f x y b = some 0 := by
  have := mn_max b
  unfold ext_Check.f
  rw [if_neg (by omega), if_neg (by omega), if_neg (by omega), wr (by omega) (by omega), if_neg (by omega)]
theorem in_eq {b : S23} (hb : small b) {a i : Int} (h0 : 0 ≤ a) (h1 : a ≤ 5000) (h2 : 0 ≤ i) (h3 : i ≤ 5000) : noriaref18_in.f b.f0 b.f1 a i = some (decide (b.f0 ≤ a + i ∧ a + i < b.f0 + b.f1)) := by
  obtain ⟨b1, b2, b3, b4⟩ := hb
  unfold noriaref18_in.f
  rw [if_neg (by omega), wr (x := b.f0 - i) (by omega) (by omega)]
  by_cases c : a ≥ b.f0 - i
  · rw [if_pos c, wr (by omega) (by omega), wr (by omega) (by omega)]
    congr 1
    rw [Bool.eq_iff_iff, decide_eq_true_iff, decide_eq_true_iff]
    omega
  · rw [if_neg c, decide_eq_false (by omega)]
theorem rovl_l0 {a b : S23} (ha : small a) (hb : small b) (ha4 : a.f1 ≤ 1024) : ∀ (d : Nat) (i k : Nat), (i : Int) + d = a.f1 → 2 * d + 2 < k → (∀ j : Nat, j < i → ¬ (b.f0 ≤ a.f0 + j ∧ a.f0 + j < b.f0 + b.f1)) →
    noriaref18_Overlap.l0 k i a.f0 a.f1 b.f0 b.f1 = some (ovl a b) := by
  have ha' := ha
  have hb' := hb
  obtain ⟨a1, a2, a3, a4⟩ := ha
  obtain ⟨b1, b2, b3, b4⟩ := hb
  intro d
  induction d with
  | zero =>
    intro i k hi hk hno
    obtain ⟨k, rfl⟩ : ∃ m, k = m + 2 := ⟨k - 2, by omega⟩
    show noriaref18_Overlap.l0 (k + 1 + 1) _ _ _ _ _ = _
    simp only [noriaref18_Overlap.l0]
    rw [if_neg (by omega)]
    simp only [noriaref18_Overlap.j1]
    rw [if_neg (by simp)]
    congr 1
    symm
    unfold ovl
    rw [decide_eq_false_iff_not]
    rintro ⟨h1, h2⟩
    have h3 := hno ((if b.f0 ≤ a.f0 then 0 else (b.f0 - a.f0).toNat)) (by split <;> omega)
    apply h3
    split <;> omega
  | succ d ih =>
    intro i k hi hk hno
    obtain ⟨k, rfl⟩ : ∃ m, k = m + 2 := ⟨k - 2, by omega⟩
    show noriaref18_Overlap.l0 (k + 1 + 1) _ _ _ _ _ = _
    simp only [noriaref18_Overlap.l0]
    rw [if_pos (by omega), decide_eq_true (by omega)]
    simp only [noriaref18_Overlap.j1]
    rw [if_pos trivial, in_eq hb' (by omega) (by omega) (by omega) (by omega), Option.bind_some]
    by_cases c : b.f0 ≤ a.f0 + (i : Int) ∧ a.f0 + (i : Int) < b.f0 + b.f1
    · rw [if_pos (decide_eq_true c)]
      congr 1
      symm
      unfold ovl
      rw [decide_eq_true_iff]
      omega
    · rw [if_neg (by simpa using c), wr (by omega) (by omega)]
      have := ih (i + 1) k (by omega) (by omega) (fun j hj => by
        rcases Nat.lt_or_ge j i with h | h
        · exact hno j h
        · obtain rfl : j = i := by omega
          exact c)
      rw [show ((i + 1 : Nat) : Int) = (i : Int) + 1 from by omega] at this
      exact this
theorem rovl_eq {a b : S23} (ha : small a) (hb : small b) (ha4 : a.f1 ≤ 1024) {k : Nat} (hk : 3000 ≤ k) : noriaref18_Overlap.f k a.f0 a.f1 b.f0 b.f1 = some (ovl a b) := by
  have h1 := ha.1
  exact rovl_l0 ha hb ha4 a.f1.toNat 0 k (by omega) (by omega) (fun j hj => by omega)
/-! ### pieces -/
/-- Of so many blocks from 2 on the free ones, as few pieces as may be. -/
structure Pieces (T : Int → Bool) (n : Nat) (l : List S23) : Prop where
  each : ∀ e ∈ l, 2 ≤ e.f0 ∧ 1 ≤ e.f1 ∧ e.f0 + e.f1 ≤ 2 + (n : Int)
  free : ∀ e ∈ l, ∀ q, e.f0 ≤ q → q < e.f0 + e.f1 → T q = false
  apart : l.Pairwise fun a b => a.f0 + a.f1 < b.f0
  all : ∀ q, 2 ≤ q → q < 2 + (n : Int) → T q = false → ∃ e ∈ l, e.f0 ≤ q ∧ q < e.f0 + e.f1
theorem getLast_split {l : List S23} {e : S23} (h : l.getLast? = some e) : ∃ p, l = p ++ [e] ∧ l.dropLast = p := by
  have hne : l ≠ [] := by rintro rfl; cases h
  refine ⟨l.dropLast, ?_, rfl⟩
  have h2 := List.getLast?_eq_some_getLast hne
  rw [h2] at h
  obtain rfl := Option.some.inj h
  exact (List.dropLast_concat_getLast hne).symm
theorem addTo_pieces {T : Int → Bool} {n : Nat} {l : List S23} (h : Pieces T n l) (hT : T (2 + (n : Int)) = false) : Pieces T (n + 1) (addTo l (2 + (n : Int))) := by
  have hnew : ∀ l', l' = l ++ [⟨2 + (n : Int), 1⟩] → (∀ e ∈ l, e.f0 + e.f1 < 2 + (n : Int)) → Pieces T (n + 1) l' := by
    rintro _ rfl hlt
    refine ⟨?_, ?_, ?_, ?_⟩
    · intro e he
      rcases List.mem_append.mp he with h1 | h1
      · have := h.each e h1; omega
      · obtain rfl := List.mem_singleton.mp h1
        show 2 ≤ 2 + (n : Int) ∧ (1 : Int) ≤ 1 ∧ 2 + (n : Int) + 1 ≤ _
        omega
    · intro e he q q1 q2
      rcases List.mem_append.mp he with h1 | h1
      · exact h.free e h1 q q1 q2
      · obtain rfl := List.mem_singleton.mp h1
        have q1 : 2 + (n : Int) ≤ q := q1
        have q2 : q < 2 + (n : Int) + 1 := q2
        rw [show q = 2 + (n : Int) from by omega]
        exact hT
    · rw [List.pairwise_append]
      refine ⟨h.apart, List.pairwise_singleton _ _, fun a ha b hb => ?_⟩
      obtain rfl := List.mem_singleton.mp hb
      exact hlt a ha
    · intro q q1 q2 q3
      rcases lt_ge_ q (2 + (n : Int)) with h1 | h1
      · obtain ⟨e, he, h2⟩ := h.all q q1 h1 q3
        exact ⟨e, List.mem_append_left _ he, h2⟩
      · exact ⟨_, List.mem_append_right _ (List.mem_singleton.mpr rfl), by show 2 + (n : Int) ≤ q; omega, by show q < 2 + (n : Int) + 1; omega⟩
  unfold addTo
  cases hl : l.getLast? with
  | none =>
    rw [List.getLast?_eq_none_iff] at hl
    exact hnew _ (by rw [hl]; rfl) (fun e he => by rw [hl] at he; cases he)
  | some e =>
    obtain ⟨p, hp, hd⟩ := getLast_split hl
    have hpre : ∀ a ∈ p, a.f0 + a.f1 < e.f0 := by
      have := h.apart
      rw [hp, List.pairwise_append] at this
      exact fun a ha => this.2.2 a ha e (List.mem_singleton.mpr rfl)
    have hee := h.each e (by rw [hp]; simp)
    simp only []
    by_cases c : e.f0 + e.f1 = 2 + (n : Int)
    · rw [if_pos c, hd]
      refine ⟨?_, ?_, ?_, ?_⟩
      · intro a ha
        rcases List.mem_append.mp ha with h1 | h1
        · have := h.each a (by rw [hp]; exact List.mem_append_left _ h1); omega
        · obtain rfl := List.mem_singleton.mp h1
          show 2 ≤ e.f0 ∧ 1 ≤ e.f1 + 1 ∧ e.f0 + (e.f1 + 1) ≤ _
          omega
      · intro a ha q q1 q2
        rcases List.mem_append.mp ha with h1 | h1
        · exact h.free a (by rw [hp]; exact List.mem_append_left _ h1) q q1 q2
        · obtain rfl := List.mem_singleton.mp h1
          have q1 : e.f0 ≤ q := q1
          have q2 : q < e.f0 + (e.f1 + 1) := q2
          rcases lt_ge_ q (e.f0 + e.f1) with h2 | h2
          · exact h.free e (by rw [hp]; simp) q q1 h2
          · rw [show q = 2 + (n : Int) from by omega]
            exact hT
      · have := h.apart
        rw [hp, List.pairwise_append] at this
        rw [List.pairwise_append]
        refine ⟨this.1, List.pairwise_singleton _ _, fun a ha b hb => ?_⟩
        obtain rfl := List.mem_singleton.mp hb
        exact hpre a ha
      · intro q q1 q2 q3
        rcases lt_ge_ q (2 + (n : Int)) with h1 | h1
        · obtain ⟨a, ha, h2, h3⟩ := h.all q q1 h1 q3
          rw [hp] at ha
          rcases List.mem_append.mp ha with h4 | h4
          · exact ⟨a, List.mem_append_left _ h4, h2, h3⟩
          · obtain rfl := List.mem_singleton.mp h4
            exact ⟨_, List.mem_append_right _ (List.mem_singleton.mpr rfl), h2, by show q < a.f0 + (a.f1 + 1); omega⟩
        · exact ⟨_, List.mem_append_right _ (List.mem_singleton.mpr rfl), by show e.f0 ≤ q; omega, by show q < e.f0 + (e.f1 + 1); omega⟩
    · rw [if_neg c]
      refine hnew _ rfl (fun a ha => ?_)
      rw [hp] at ha
      rcases List.mem_append.mp ha with h1 | h1
      · have := hpre a h1; omega
      · obtain rfl := List.mem_singleton.mp h1; omega
theorem scan_pieces (T : Int → Bool) (n : Nat) : Pieces T n (scanF T n) := by
  induction n with
  | zero => exact ⟨fun e he => (List.not_mem_nil he).elim, fun e he => (List.not_mem_nil he).elim, List.Pairwise.nil, fun q h1 h2 _ => by omega⟩
  | succ n ih =>
    rw [scanF]
    by_cases c : T (2 + (n : Int)) = true
    · rw [if_pos c]
      refine ⟨fun e he => by have := ih.each e he; omega, ih.free, ih.apart, fun q q1 q2 q3 => ?_⟩
      rcases lt_ge_ q (2 + (n : Int)) with h1 | h1
      · exact ih.all q q1 h1 q3
      · rw [show q = 2 + (n : Int) from by omega, c] at q3; cases q3
    · rw [if_neg c]
      exact addTo_pieces ih (by simpa using c)
theorem rd23_mem {l : List S23} {i : Nat} (h : i < l.length) : rd_T23 l (i : Int) ∈ l := by rw [rdT_elem h]; exact List.getElem_mem h
theorem free_eq {b : Int} {l : List S23} (h : l.length ≤ 1000) : ext_Free.f b l = some (scanF (takenB b l) ((mn b 1024) - 2).toNat) := by unfold ext_Free.f; rw [if_pos h]
theorem taken_of {b q : Int} {l : List S23} {e : S23} (he : e ∈ l) (hc : ext_Check.f e.f0 e.f1 b = some 0) (h1 : e.f0 ≤ q) (h2 : q < e.f0 + e.f1) : takenB b l q = true := by
  unfold takenB
  rw [List.any_eq_true]
  refine ⟨e, he, ?_⟩
  unfold hasB
  rw [decide_eq_true hc, decide_eq_true h1, decide_eq_true h2]
  rfl
theorem hasB_iff {b : Int} {e : S23} {q : Int} : hasB b e q = true ↔ (ext_Check.f e.f0 e.f1 b = some 0 ∧ e.f0 ≤ q ∧ q < e.f0 + e.f1) := by
  unfold hasB
  rw [Bool.and_eq_true, Bool.and_eq_true, decide_eq_true_iff, decide_eq_true_iff, decide_eq_true_iff]
theorem taken_take {b q : Int} {l : List S23} {i : Nat} (h : takenB b (l.take i) q = true) : takenB b l q = true := by
  unfold takenB at h ⊢
  rw [List.any_eq_true] at h ⊢
  obtain ⟨x, hx, h⟩ := h
  exact ⟨x, List.mem_of_mem_take hx, h⟩
end Go.Proofs.Ytijhfdhcnagkcaa.Num
