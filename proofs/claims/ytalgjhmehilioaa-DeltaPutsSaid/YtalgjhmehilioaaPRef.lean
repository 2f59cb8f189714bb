import Derived.Test.YtalgjhmehilioaaPWid
/- The reference's Width, Size, PutBits. -/
set_option linter.unusedSimpArgs false
set_option linter.unusedVariables false
namespace Go.Proofs.Ytalgjhmehilioaa.Num
open Go Go.RowKit Go.Proofs.Ytalgjhmehilioaa.PAll Go.Proofs.YtalgjhmehilioaaW.PrintWords Go.Proofs.YtalgjhmehilioaaW.PrintLast Go.Proofs.YtalgjhmehilioaaW.PrintMore
theorem shr_zero {v : Int} (h0 : 0 ≤ v) {b : Nat} (hb : b ≤ 64) : (shr .u64 v (b : Int) = 0) ↔ blen v.toNat ≤ b := by
  obtain ⟨u, rfl⟩ := Int.eq_ofNat_of_zero_le h0
  have e : shr .u64 (u : Int) (b : Int) = ((u / 2 ^ b : Nat) : Int) := by
    unfold shr
    rw [Int.toNat_natCast, Nat.min_eq_left (by show b ≤ 64; omega)]
    simp
  rw [e, blen_lt, Int.toNat_natCast]
  have hp : 0 < 2 ^ b := Nat.pow_pos (by omega)
  have := Nat.div_eq_zero_iff (a := u) (b := 2 ^ b)
  constructor
  · intro h
    rcases this.mp (by omega) with h | h
    · omega
    · exact h
  · intro h
    have := this.mpr (Or.inr h)
    omega
theorem rwidth_l1 {l : List Int} {i : Nat} (hl : isU l) (hi : i < l.length) (hL : l.length ≤ 65536) : ∀ (d m k : Nat), m + d = 64 → d < k → ∃ j, j ≤ d + 1 ∧
    noriaref11_Width.l1 k l m i = noriaref11_Width.l0 (k - j) l ((max m (blen (rd l (i : Int)).toNat) : Nat) : Int) ((i + 1 : Nat) : Int) := by
  have hv := rd_mem_U hl hi
  have h64 := blen_le64 (u := (rd l (i : Int)).toNat) (by omega)
  intro d
  induction d with
  | zero =>
    intro m k hm hk
    obtain ⟨k, rfl⟩ : ∃ m, k = m + 1 := ⟨k - 1, by omega⟩
    refine ⟨1, by omega, ?_⟩
    simp only [noriaref11_Width.l1]
    rw [if_neg (by omega), wr (by omega) (by omega), show max m (blen (rd l (i : Int)).toNat) = m from by omega]
    rfl
  | succ d ih =>
    intro m k hm hk
    obtain ⟨k, rfl⟩ : ∃ m, k = m + 1 := ⟨k - 1, by omega⟩
    have hz := shr_zero hv.1 (b := m) (by omega)
    by_cases c : blen (rd l (i : Int)).toNat ≤ m
    · refine ⟨1, by omega, ?_⟩
      simp only [noriaref11_Width.l1]
      rw [if_pos (by omega), if_pos (by omega), if_pos (by omega), wu (by omega) (by omega), if_pos (by omega), if_pos (hz.mpr c), wr (by omega) (by omega), show max m (blen (rd l (i : Int)).toNat) = m from by omega]
      rfl
    · obtain ⟨j, hj, he⟩ := ih (m + 1) k (by omega) (by omega)
      refine ⟨j + 1, by omega, ?_⟩
      simp only [noriaref11_Width.l1]
      rw [if_pos (by omega), if_pos (by omega), if_pos (by omega), wu (by omega) (by omega), if_pos (by omega), if_neg (fun h => c (hz.mp h)), wr (by omega) (by omega), show (m : Int) + 1 = ((m + 1 : Nat) : Int) from by omega, he,
        show k + 1 - (j + 1) = k - j from by omega, show max (m + 1) (blen (rd l (i : Int)).toNat) = max m (blen (rd l (i : Int)).toNat) from by omega]
theorem rwidth_l0 {l : List Int} (hl : isU l) (hL : l.length ≤ 65536) : ∀ (d m i k : Nat), i + d = l.length → m ≤ 64 → 70 * (d + 1) < k → noriaref11_Width.l0 k l m i = some ((max m (wid (l.drop i)) : Nat) : Int) := by
  intro d
  induction d with
  | zero =>
    intro m i k hi hm hk
    obtain ⟨k, rfl⟩ : ∃ m, k = m + 1 := ⟨k - 1, by omega⟩
    simp only [noriaref11_Width.l0]
    rw [if_neg (by omega), List.drop_of_length_le (by omega)]
    simp [wid]
  | succ d ih =>
    intro m i k hi hm hk
    obtain ⟨k, rfl⟩ : ∃ m, k = m + 1 := ⟨k - 1, by omega⟩
    have hv := rd_mem_U hl (i := i) (by omega)
    have h64 := blen_le64 (u := (rd l (i : Int)).toNat) (by omega)
    simp only [noriaref11_Width.l0]
    obtain ⟨j, hj, he⟩ := rwidth_l1 hl (i := i) (by omega) hL (64 - m) m k (by omega) (by omega)
    rw [if_pos (by omega), he, ih _ _ _ (by omega) (by omega) (by omega), drop_rd (i := i) (by omega), wid, Nat.max_assoc]
theorem rwidth_eq {l : List Int} (hl : isU l) (hL : l.length ≤ 65536) {k : Nat} (hk : 70 * (l.length + 1) < k) : noriaref11_Width.f k l = some ((wid l : Nat) : Int) := by
  have := rwidth_l0 hl hL l.length 0 0 k (by omega) (by omega) hk
  rw [List.drop_zero, Nat.zero_max] at this
  exact this
theorem rsize_eq (n w : Int) : noriaref11_Size.f n w = pack_Size.f n w := by
  unfold noriaref11_Size.f pack_Size.f pack_may.f
  by_cases c1 : n < 0
  · rw [if_pos c1, if_neg (show ¬ n ≥ 0 by omega)]; rfl
  · rw [if_neg c1, if_pos (show n ≥ 0 by omega)]
    by_cases c2 : n > 65536
    · rw [if_pos c2, if_neg (show ¬ n ≤ 65536 by omega)]; rfl
    · rw [if_neg c2, if_pos (show n ≤ 65536 by omega)]
      by_cases c3 : w < 0
      · rw [if_pos c3, if_neg (show ¬ w ≥ 0 by omega)]; rfl
      · rw [if_neg c3, if_pos (show w ≥ 0 by omega)]
        by_cases c4 : w > 64
        · rw [if_pos c4, decide_eq_false (show ¬ w ≤ 64 by omega)]; rfl
        · rw [if_neg c4, decide_eq_true (show w ≤ 64 by omega)]; rfl
theorem rput_l1 {l : List Int} {w i : Nat} (hl : isU l) (hL : l.length ≤ 65536) (hw : w ≤ 64) (hi : i < l.length) : ∀ (d b p : Nat) (acc : List Int) (k : Nat), b + d = w → p = i * w + b → packsTo l w p acc → d < k →
    ∃ r, packsTo l w ((i + 1) * w) r ∧ noriaref11_PutBits.l1 k l w acc p i b = noriaref11_PutBits.l0 (k - (d + 1)) l w r (((i + 1) * w : Nat) : Int) ((i + 1 : Nat) : Int) := by
  intro d
  induction d with
  | zero =>
    intro b p acc k hb hp h hk
    obtain ⟨k, rfl⟩ : ∃ m, k = m + 1 := ⟨k - 1, by omega⟩
    have e : p = (i + 1) * w := by rw [hp, Nat.add_mul]; omega
    refine ⟨acc, e ▸ h, ?_⟩
    simp only [noriaref11_PutBits.l1]
    rw [if_neg (by omega), wr (by omega) (by omega), e]
    rfl
  | succ d ih =>
    intro b p acc k hb hp h hk
    obtain ⟨k, rfl⟩ : ∃ m, k = m + 1 := ⟨k - 1, by omega⟩
    have hv := rd_mem_U hl hi
    have hlt : p < l.length * w := by
      have : (i + 1) * w ≤ l.length * w := Nat.mul_le_mul (by omega) (Nat.le_refl _)
      rw [Nat.add_mul] at this
      omega
    have hmax : l.length * w ≤ 65536 * 64 := Nat.mul_le_mul hL hw
    have hbit : bitOf l w p = (rd l (i : Int)).toNat.testBit b := by
      rw [hp, bitOf_at hi (by omega)]
      unfold rd
      rw [Int.toNat_natCast]
    have hp8 : p / 8 < acc.length := by rw [h.1]; omega
    simp only [noriaref11_PutBits.l1]
    rw [if_pos (by omega), if_pos (by omega), if_pos (by omega), wu (x := (b : Int)) (by omega) (by omega), if_pos (by omega), bit_of_shr hv.1 hv.2 (by omega : b < 64), ← hbit,
      show Int.tdiv (p : Int) 8 = ((p / 8 : Nat) : Int) from rfl, show Int.tmod (p : Int) 8 = ((p % 8 : Nat) : Int) from rfl, wr (x := ((p / 8 : Nat) : Int)) (by omega) (by omega), wu (x := ((p % 8 : Nat) : Int)) (by omega) (by omega),
      wr (x := (p : Int) + 1) (by omega) (by omega), wr (x := (b : Int) + 1) (by omega) (by omega), Int.toNat_natCast]
    cases c : bitOf l w p
    · rw [if_neg (by simp)]
      obtain ⟨r, hr, he⟩ := ih (b + 1) (p + 1) _ k (by omega) (by omega) (packs_zero h c) (by omega)
      refine ⟨r, hr, ?_⟩
      rw [show k + 1 - (d + 1 + 1) = k - (d + 1) from by omega, ← he]
      rfl
    · have hs := put_turn h hlt hv.1 hv.2 (b := b) (by omega) hbit
      rw [bit_of_shr hv.1 hv.2 (by omega : b < 64), ← hbit, c] at hs
      rw [if_pos rfl, if_pos (by omega), if_pos (by omega), if_pos (by omega)]
      obtain ⟨r, hr, he⟩ := ih (b + 1) (p + 1) _ k (by omega) (by omega) hs (by omega)
      refine ⟨r, hr, ?_⟩
      rw [show k + 1 - (d + 1 + 1) = k - (d + 1) from by omega, ← he]
      rfl
theorem rput_l0 {l : List Int} {w : Nat} (hl : isU l) (hL : l.length ≤ 65536) (hw : w ≤ 64) : ∀ (d i : Nat) (acc : List Int) (k : Nat), i + d = l.length → packsTo l w (i * w) acc → d * (w + 2) < k →
    ∃ r, packs l w r ∧ noriaref11_PutBits.l0 k l w acc ((i * w : Nat) : Int) i = some (r, 0) := by
  intro d
  induction d with
  | zero =>
    intro i acc k hi h hk
    obtain ⟨k, rfl⟩ : ∃ m, k = m + 1 := ⟨k - 1, by omega⟩
    rw [show i = l.length from by omega] at h
    refine ⟨acc, packs_of h, ?_⟩
    simp only [noriaref11_PutBits.l0]
    rw [if_neg (by omega)]
  | succ d ih =>
    intro i acc k hi h hk
    rw [Nat.add_mul] at hk
    obtain ⟨k, rfl⟩ : ∃ m, k = m + 1 := ⟨k - 1, by omega⟩
    obtain ⟨r, hr, he⟩ := rput_l1 hl hL hw (i := i) (by omega) w 0 (i * w) acc k (by omega) rfl h (by omega)
    obtain ⟨s, hs, hf⟩ := ih (i + 1) r (k - (w + 1)) (by omega) hr (by omega)
    refine ⟨s, hs, ?_⟩
    simp only [noriaref11_PutBits.l0]
    rw [if_pos (by omega)]
    rw [← hf, ← he]
    rfl
theorem rput_ok {l : List Int} {w k : Nat} (hl : isU l) (hL : l.length ≤ 65536) (hw : w ≤ 64) (hwd : wid l ≤ w) (hk : 70 * (l.length + 2) < k) : ∃ r, packs l w r ∧ noriaref11_PutBits.f k l w = some (r, 0) := by
  have hm : l.length * w ≤ l.length * 64 := Nat.mul_le_mul (Nat.le_refl _) hw
  have hm2 : l.length * (w + 2) ≤ l.length * 66 := Nat.mul_le_mul (Nat.le_refl _) (by omega)
  obtain ⟨r, hr, he⟩ := rput_l0 hl hL hw l.length 0 _ (k - 1) (by omega) (by rw [Nat.zero_mul]; exact packsTo_zero l w) (by omega)
  refine ⟨r, hr, ?_⟩
  unfold noriaref11_PutBits.f
  rw [if_neg (by omega), if_neg (by omega), rwidth_eq hl hL (by omega), Option.bind_some]
  obtain ⟨k, rfl⟩ : ∃ m, k = m + 1 := ⟨k - 1, by omega⟩
  simp only [noriaref11_PutBits.j0]
  rw [decide_eq_false (by omega), if_neg (by simp), if_neg (by omega), rsize_eq, size_ok hL hw, Option.bind_some, if_pos (by omega), if_pos (by omega), Int.toNat_natCast, ← he]
  simp
theorem rput_bad {l : List Int} {w : Int} {k : Nat} (hl : isU l) (hL : l.length ≤ 65536) (hw : w < 0 ∨ 64 < w ∨ w < (wid l : Int)) (hk : 70 * (l.length + 2) < k) : noriaref11_PutBits.f k l w = some ([], 1) := by
  unfold noriaref11_PutBits.f
  have hj : ∀ k, 0 < k → noriaref11_PutBits.j0 k l w true = some ([], 1) := by
    intro k hk
    obtain ⟨k, rfl⟩ : ∃ m, k = m + 1 := ⟨k - 1, by omega⟩
    simp only [noriaref11_PutBits.j0]
    rw [if_pos trivial]
  by_cases c1 : w < 0
  · rw [if_pos c1, hj k (by omega)]
  · rw [if_neg c1]
    by_cases c2 : w > 64
    · rw [if_pos c2, hj k (by omega)]
    · rw [if_neg c2, rwidth_eq hl hL (by omega), Option.bind_some, decide_eq_true (by omega), hj k (by omega)]
end Go.Proofs.Ytalgjhmehilioaa.Num
