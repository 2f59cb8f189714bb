/- Numbers of eight bits are bytes; of one bit eight stand in a byte, the first one lowest; no conditions. -/
import Derived.Test.YtdkgmdikkaiemaaPRGet
set_option linter.unusedSimpArgs false
set_option linter.unusedVariables false
namespace Go.Proofs.Ytdkgmdikkaiemaa.Pure
open Go Go.RowKit Go.Proofs.Ytdkgmdikkaiemaa.PAll Go.Proofs.YtdkgmdikkaiemaaW.PrintWords Go.Proofs.YtdkgmdikkaiemaaW.PrintLast Go.Proofs.YtdkgmdikkaiemaaW.PrintMore Go.Proofs.Ytdkgmdikkaiemaa.Num
/-- The bits of bytes, the first n of them. -/
def bitsOf (s : List Int) (n : Nat) : List Int := (List.range n).map fun j => if bitAt s j then 1 else 0
theorem bitsOf_len (s : List Int) (n : Nat) : (bitsOf s n).length = n := by simp [bitsOf]
theorem bitsOf_succ (s : List Int) (n : Nat) : bitsOf s (n + 1) = bitsOf s n ++ [if bitAt s n then 1 else 0] := by simp [bitsOf, List.range_succ]
theorem bitsOf_U (s : List Int) (n : Nat) : isU (bitsOf s n) := by
  intro x hx
  obtain ⟨j, _, rfl⟩ := List.mem_map.mp hx
  split <;> omega
theorem bitsOf_wid (s : List Int) (n : Nat) : wid (bitsOf s n) ≤ 1 := by
  rw [wid_le]
  intro x hx
  obtain ⟨j, _, rfl⟩ := List.mem_map.mp hx
  split <;> simp
theorem bitsOf_at {s : List Int} {n j : Nat} (h : j < n) : (bitsOf s n).getD j 0 = if bitAt s j then 1 else 0 := by
  rw [List.getD_eq_getElem?_getD, List.getElem?_eq_getElem (by rw [bitsOf_len]; exact h)]
  simp [bitsOf]
theorem packs_bits {s : List Int} (hs : isB s) : packs (bitsOf s (8 * s.length)) 1 s := by
  refine ⟨by rw [bitsOf_len]; omega, hs, fun j => ?_⟩
  unfold bitOf
  rw [bitsOf_len]
  rcases Nat.lt_or_ge j (8 * s.length) with c | c
  · rw [decide_eq_true (by omega), Nat.div_one, Nat.mod_one, bitsOf_at c]
    cases bitAt s j <;> rfl
  · rw [decide_eq_false (by omega), bitAt_out c]
    rfl
theorem packs_bytes {s : List Int} (hs : isB s) : packs s 8 s := by
  refine ⟨by omega, hs, fun j => ?_⟩
  unfold bitOf bitAt
  rcases Nat.lt_or_ge j (8 * s.length) with c | c
  · rw [decide_eq_true (by omega), Bool.true_and]
  · rw [decide_eq_false (by omega), List.getD_eq_getElem?_getD, List.getElem?_eq_none (by omega)]
    simp
theorem wid_bytes {s : List Int} (hs : isB s) : wid s ≤ 8 := by
  rw [wid_le]
  intro x hx
  have := hs x hx
  omega
theorem isU_bytes {s : List Int} (hs : isB s) : isU s := fun x hx => by have := hs x hx; omega
theorem parts_l1 {s : List Int} (hs : isB s) (hL : s.length ≤ 200) (x3 : List Int) {i : Nat} (hi : i < s.length) : ∀ (d b k : Nat), b + d = 8 → d < k →
    norialaw4_PackParts.l1 k s x3 (bitsOf s (8 * i + b)) i b = norialaw4_PackParts.l0 (k - (d + 1)) s x3 (bitsOf s (8 * (i + 1))) ((i + 1 : Nat) : Int) := by
  intro d
  induction d with
  | zero =>
    intro b k hb hk
    obtain ⟨k, rfl⟩ : ∃ m, k = m + 1 := ⟨k - 1, by omega⟩
    simp only [norialaw4_PackParts.l1]
    rw [if_neg (by omega), wr (by omega) (by omega), show 8 * i + b = 8 * (i + 1) from by omega]
    rfl
  | succ d ih =>
    intro b k hb hk
    obtain ⟨k, rfl⟩ : ∃ m, k = m + 1 := ⟨k - 1, by omega⟩
    have hbit := bit_of_byte hs (8 * i + b)
    rw [show (8 * i + b) / 8 = i from by omega, show (8 * i + b) % 8 = b from by omega] at hbit
    simp only [norialaw4_PackParts.l1]
    rw [if_pos (by omega), if_pos (by omega), if_pos (by omega), wu (x := (b : Int)) (by omega) (by omega), if_pos (by omega), if_pos (by rw [bitsOf_len]; omega), hbit, wu (x := if bitAt s (8 * i + b) = true then 1 else 0) (by split <;> omega) (by split <;> omega), ← bitsOf_succ, wr (by omega) (by omega)]
    have := ih (b + 1) k (by omega) (by omega)
    rw [show k + 1 - (d + 1 + 1) = k - (d + 1) from by omega, ← this]
    rfl
theorem parts_l0 {s : List Int} (hs : isB s) (hL : s.length ≤ 200) : ∀ (d i k : Nat), i + d = s.length → 1000000 + 20 * d < k →
    norialaw4_PackParts.l0 k s (s.take i) (bitsOf s (8 * i)) i = some true := by
  intro d
  induction d with
  | zero =>
    intro i k hi hk
    obtain ⟨k, rfl⟩ : ∃ m, k = m + 1 := ⟨k - 1, by omega⟩
    obtain ⟨r, hr, he⟩ := put_ok (l := s) (w := 8) (k := k) (isU_bytes hs) (by omega) (by omega) (wid_bytes hs) (by omega)
    obtain ⟨q, hq, hf⟩ := put_ok (l := bitsOf s (8 * s.length)) (w := 1) (k := k) (bitsOf_U _ _) (by rw [bitsOf_len]; omega) (by omega) (bitsOf_wid _ _) (by rw [bitsOf_len]; omega)
    have e1 := packs_unique hr (packs_bytes hs)
    have e2 := packs_unique hq (packs_bits hs)
    rw [e1] at he
    rw [e2] at hf
    simp only [norialaw4_PackParts.l0]
    rw [if_neg (by omega), List.take_of_length_le (by omega), show i = s.length from by omega]
    rw [show pack_Put.f k s 8 = some (s, 0) from he, Option.bind_some, show pack_Put.f k (bitsOf s (8 * s.length)) 1 = some (s, 0) from hf, Option.bind_some, if_pos (show wrap64 (((s, (0 : Int)).2) + ((s, (0 : Int)).2)) = 0 from (by unfold wrap64; decide : wrap64 ((0 : Int) + 0) = 0)), if_pos rfl]
    simp
  | succ d ih =>
    intro i k hi hk
    obtain ⟨k, rfl⟩ : ∃ m, k = m + 1 := ⟨k - 1, by omega⟩
    have hm := hs _ (List.getElem_mem (show i < s.length by omega))
    have hrd : rd s (i : Int) = s[i]'(by omega) := by
      unfold rd
      rw [Int.toNat_natCast, List.getD_eq_getElem?_getD, List.getElem?_eq_getElem (by omega)]
      rfl
    simp only [norialaw4_PackParts.l0]
    rw [if_pos (by omega), if_pos (by omega), if_pos (by rw [List.length_take]; omega), hrd, wu (by omega) (by omega)]
    have h1 := parts_l1 hs hL (s.take (i + 1)) (i := i) (by omega) 8 0 k (by omega) (by omega)
    have h2 := ih (i + 1) (k - 9) (by omega) (by omega)
    rw [show s.take i ++ [s[i]'(by omega)] = s.take (i + 1) from (List.take_succ_eq_append_getElem (by omega)).symm, ← h2, ← h1]
    rfl
theorem PackParts : norialaw4_PackParts.Pure := by
  intro s hL1 hL2 hwf
  have hs := isB_of_wf hwf
  obtain ⟨k, hk⟩ : ∃ k, 2000000 ≤ k := ⟨2000000, Nat.le_refl _⟩
  refine ⟨k, ?_⟩
  unfold norialaw4_PackParts.f
  rw [known_k (by omega), Option.bind_some, if_pos rfl]
  by_cases hc : (s.length : Int) > 200
  · rw [if_pos hc]
  · rw [if_neg hc]
    have := parts_l0 hs (by omega) s.length 0 k (by omega) (by omega)
    rw [List.take_zero] at this
    exact this
end Go.Proofs.Ytdkgmdikkaiemaa.Pure
