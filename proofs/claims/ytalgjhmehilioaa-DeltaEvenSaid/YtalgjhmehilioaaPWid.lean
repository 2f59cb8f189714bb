import Derived.Test.YtalgjhmehilioaaPPut
/- pack.Width and its reference; Size; Put whole. -/
set_option linter.unusedSimpArgs false
set_option linter.unusedVariables false
namespace Go.Proofs.Ytalgjhmehilioaa.Num
open Go Go.RowKit Go.Proofs.Ytalgjhmehilioaa.PAll Go.Proofs.YtalgjhmehilioaaW.PrintWords Go.Proofs.YtalgjhmehilioaaW.PrintLast Go.Proofs.YtalgjhmehilioaaW.PrintMore
def wid : List Int → Nat
  | [] => 0
  | x :: l => max (blen x.toNat) (wid l)
theorem wid_le {l : List Int} {w : Nat} : wid l ≤ w ↔ ∀ x ∈ l, x.toNat < 2 ^ w := by
  induction l with
  | nil => simp [wid]
  | cons x l ih =>
    simp only [wid, Nat.max_le, List.mem_cons, forall_eq_or_imp, ih, blen_lt]
theorem wid_le64 {l : List Int} (h : isU l) : wid l ≤ 64 := wid_le.mpr (fun x hx => by have := h x hx; omega)
theorem drop_rd {l : List Int} {i : Nat} (h : i < l.length) : l.drop i = rd l (i : Int) :: l.drop (i + 1) := by
  rw [List.drop_eq_getElem_cons h]
  unfold rd
  rw [Int.toNat_natCast, List.getD_eq_getElem?_getD, List.getElem?_eq_getElem h]
  rfl
theorem mx_nat (a b : Nat) : mx (a : Int) (b : Int) = ((max a b : Nat) : Int) := by unfold mx; split <;> omega
theorem width_l0 {l : List Int} (hl : isU l) (hL : l.length ≤ 70368744177664) : ∀ (d m i k : Nat), i + d = l.length → d + 1 < k → pack_Width.l0 k m l l.length i = some ((max m (wid (l.drop i)) : Nat) : Int) := by
  intro d
  induction d with
  | zero =>
    intro m i k hi hk
    obtain ⟨k, rfl⟩ : ∃ m, k = m + 1 := ⟨k - 1, by omega⟩
    simp only [pack_Width.l0]
    rw [if_neg (by omega), List.drop_of_length_le (by omega)]
    simp [wid]
  | succ d ih =>
    intro m i k hi hk
    obtain ⟨k, rfl⟩ : ∃ m, k = m + 1 := ⟨k - 1, by omega⟩
    have hv := rd_mem_U hl (i := i) (by omega)
    simp only [pack_Width.l0]
    rw [if_pos (by omega), if_pos (by omega), if_pos (by omega), len64_eq k hv.1 hv.2 (by omega), Option.bind_some, mx_nat, wr (x := (i : Int) + 1) (by omega) (by omega)]
    have := ih (max m (blen (rd l (i : Int)).toNat)) (i + 1) k (by omega) (by omega)
    rw [show ((i + 1 : Nat) : Int) = (i : Int) + 1 from by omega] at this
    rw [this, drop_rd (i := i) (by omega), wid, Nat.max_assoc]
theorem width_eq {l : List Int} (hl : isU l) (hL : l.length ≤ 70368744177664) {k : Nat} (hk : l.length + 1 < k) : pack_Width.f k l = some ((wid l : Nat) : Int) := by
  have := width_l0 hl hL l.length 0 0 k (by omega) hk
  rw [List.drop_zero, Nat.zero_max] at this
  exact this
theorem may_ok {n w : Nat} (hn : n ≤ 65536) (hw : w ≤ 64) : pack_may.f n w = some true := by
  unfold pack_may.f
  rw [if_pos (by omega), if_pos (by omega), if_pos (by omega), decide_eq_true (by omega)]
theorem size_ok {n w : Nat} (hn : n ≤ 65536) (hw : w ≤ 64) : pack_Size.f n w = some (((n * w + 7) / 8 : Nat) : Int) := by
  have hmax : n * w ≤ 65536 * 64 := Nat.mul_le_mul hn hw
  have he : (n : Int) * (w : Int) = ((n * w : Nat) : Int) := by simp
  unfold pack_Size.f
  rw [may_ok hn hw, Option.bind_some, if_pos rfl, he]
  generalize n * w = q at hmax
  rw [wr (x := (q : Int)) (by omega) (by omega), wr (x := (q : Int) + 7) (by omega) (by omega), show Int.tdiv ((q : Int) + 7) 8 = (((q + 7) / 8 : Nat) : Int) from rfl, wr (by omega) (by omega)]
/-- What Put answers. -/
theorem put_ok {l : List Int} {w k : Nat} (hl : isU l) (hL : l.length ≤ 65536) (hw : w ≤ 64) (hwd : wid l ≤ w) (hk : 70 * (l.length + 2) < k) : ∃ r, packs l w r ∧ pack_Put.f k l w = some (r, 0) := by
  have hm : l.length * w ≤ l.length * 64 := Nat.mul_le_mul (Nat.le_refl _) hw
  have hm2 : l.length * (w + 2) ≤ l.length * 66 := Nat.mul_le_mul (Nat.le_refl _) (by omega)
  obtain ⟨r, hr, he⟩ := put_l0 hl hL hw l.length 0 _ (k - 1) (by omega) (by rw [Nat.zero_mul]; exact packsTo_zero l w) (by omega)
  refine ⟨r, hr, ?_⟩
  unfold pack_Put.f
  rw [if_neg (by omega), if_neg (by omega), width_eq hl (by omega) (by omega), Option.bind_some]
  obtain ⟨k, rfl⟩ : ∃ m, k = m + 1 := ⟨k - 1, by omega⟩
  simp only [pack_Put.j0]
  rw [decide_eq_false (by omega), if_neg (by simp), if_neg (by omega), size_ok hL hw, Option.bind_some, if_pos (by omega), if_pos (by omega), Int.toNat_natCast, ← he]
  simp
theorem put_bad {l : List Int} {w : Int} {k : Nat} (hl : isU l) (hL : l.length ≤ 70368744177664) (hw : w < 0 ∨ 64 < w ∨ w < (wid l : Int)) (hk : l.length + 2 < k) : pack_Put.f k l w = some ([], 1) := by
  unfold pack_Put.f
  have hj : ∀ k, 0 < k → pack_Put.j0 k l w 0 true = some ([], 1) := by
    intro k hk
    obtain ⟨k, rfl⟩ : ∃ m, k = m + 1 := ⟨k - 1, by omega⟩
    simp only [pack_Put.j0]
    rw [if_pos trivial]
  by_cases c1 : w < 0
  · rw [if_pos c1, hj k (by omega)]
  · rw [if_neg c1]
    by_cases c2 : w > 64
    · rw [if_pos c2, hj k (by omega)]
    · rw [if_neg c2, width_eq hl hL (by omega), Option.bind_some, decide_eq_true (by omega), hj k (by omega)]
end Go.Proofs.Ytalgjhmehilioaa.Num
