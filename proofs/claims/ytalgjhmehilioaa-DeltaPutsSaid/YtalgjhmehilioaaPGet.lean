import Derived.Test.YtalgjhmehilioaaPRef
/- pack.Get and its reference. -/
set_option linter.unusedSimpArgs false
set_option linter.unusedVariables false
namespace Go.Proofs.Ytalgjhmehilioaa.Num
open Go Go.RowKit Go.Proofs.Ytalgjhmehilioaa.PAll Go.Proofs.YtalgjhmehilioaaW.PrintWords Go.Proofs.YtalgjhmehilioaaW.PrintLast Go.Proofs.YtalgjhmehilioaaW.PrintMore
/-- The number whose b bits lie at p. -/
def gbits (s : List Int) (p : Nat) : Nat → Nat
  | 0 => 0
  | b + 1 => gbits s p b ||| (if bitAt s (p + b) then 2 ^ b else 0)
theorem gbits_lt (s : List Int) (p : Nat) : ∀ b, gbits s p b < 2 ^ b := by
  intro b
  induction b with
  | zero => simp [gbits]
  | succ b ih =>
    have h : 2 ^ b < 2 ^ (b + 1) := Nat.pow_lt_pow_right (by omega) (by omega)
    exact Nat.or_lt_two_pow (Nat.lt_trans ih h) (by split <;> omega)
theorem gbits_bit (s : List Int) (p : Nat) : ∀ b j, (gbits s p b).testBit j = (decide (j < b) && bitAt s (p + j)) := by
  intro b
  induction b with
  | zero => intro j; simp [gbits]
  | succ b ih =>
    intro j
    have e : (if bitAt s (p + b) then 2 ^ b else 0 : Nat).testBit j = (bitAt s (p + b) && decide (b = j)) := by
      cases c : bitAt s (p + b)
      · simp
      · rw [if_pos rfl, Nat.testBit_two_pow]; simp
    simp only [gbits]
    rw [Nat.testBit_or, ih, e]
    by_cases c : j = b
    · subst c; simp
    · rw [show decide (j < b + 1) = decide (j < b) from by congr 1; apply propext; omega, show decide (b = j) = false from by simp; omega]
      simp
def gets (s : List Int) (w n : Nat) : List Int := (List.range n).map fun i => (gbits s (i * w) w : Int)
theorem gets_len (s : List Int) (w n : Nat) : (gets s w n).length = n := by simp [gets]
theorem gets_succ (s : List Int) (w n : Nat) : gets s w (n + 1) = gets s w n ++ [(gbits s (n * w) w : Int)] := by simp [gets, List.range_succ]
theorem gets_at {s : List Int} {w n i : Nat} (h : i < n) : (gets s w n).getD i 0 = (gbits s (i * w) w : Int) := by
  rw [List.getD_eq_getElem?_getD, List.getElem?_eq_getElem (by rw [gets_len]; exact h)]
  simp [gets]
theorem gets_U {s : List Int} {w n : Nat} (hw : w ≤ 64) : isU (gets s w n) := by
  intro x hx
  obtain ⟨i, _, rfl⟩ := List.mem_map.mp hx
  have := gbits_lt s (i * w) w
  have h2 : 2 ^ w ≤ 2 ^ 64 := Nat.pow_le_pow_right (by omega) hw
  omega
theorem gets_wid {s : List Int} {w n : Nat} : wid (gets s w n) ≤ w := by
  rw [wid_le]
  intro x hx
  obtain ⟨i, _, rfl⟩ := List.mem_map.mp hx
  rw [Int.toNat_natCast]
  exact gbits_lt s (i * w) w
theorem gets_bits {s : List Int} {w n j : Nat} (hj : j < n * w) : bitOf (gets s w n) w j = bitAt s j := by
  have hw : 0 < w := by 
    rcases Nat.eq_zero_or_pos w with h | h
    · subst h; omega
    · exact h
  have hi : j / w < n := by rw [Nat.div_lt_iff_lt_mul hw]; exact hj
  have hm := Nat.mod_lt j hw
  have hd := Nat.div_add_mod j w
  unfold bitOf
  rw [gets_len, gets_at hi, Int.toNat_natCast, gbits_bit, decide_eq_true hj, decide_eq_true hm, Nat.mul_comm (j / w) w, hd]
  simp
/-- Bytes with nothing behind the numbers are what Put makes of what Get reads. -/
theorem gets_packs {s : List Int} {w n : Nat} (hs : isB s) (hl : s.length = (n * w + 7) / 8) (hz : ∀ j, n * w ≤ j → bitAt s j = false) : packs (gets s w n) w s := by
  refine ⟨by rw [gets_len]; exact hl, hs, fun j => ?_⟩
  rcases Nat.lt_or_ge j (n * w) with c | c
  · rw [gets_bits c]
  · rw [hz j c, bitOf_out (by rw [gets_len]; exact c)]
/-- Get reads what Put laid. -/
theorem gets_back {l r : List Int} {w : Nat} (hl : isU l) (hw : wid l ≤ w) (h : packs l w r) : gets r w l.length = l := by
  apply List.ext_getElem (gets_len _ _ _)
  intro i h1 h2
  have e1 : (gets r w l.length)[i] = ((gbits r (i * w) w : Nat) : Int) := by simp [gets]
  have hx := hl _ (List.getElem_mem h2)
  have hlt := wid_le.mp hw _ (List.getElem_mem h2)
  rw [e1]
  have : gbits r (i * w) w = (l[i]).toNat := by
    apply Nat.eq_of_testBit_eq
    intro b
    rw [gbits_bit]
    rcases Nat.lt_or_ge b w with c | c
    · rw [h.2.2, bitOf_at h2 c, decide_eq_true c, List.getD_eq_getElem?_getD, List.getElem?_eq_getElem h2]
      simp
    · rw [decide_eq_false (by omega), Nat.testBit_lt_two_pow (Nat.lt_of_lt_of_le hlt (Nat.pow_le_pow_right (by omega) c))]
      simp
  rw [this, Int.toNat_of_nonneg hx.1]
theorem or_u64 {a b : Nat} (ha : a < 18446744073709551616) (hb : b < 18446744073709551616) : Go.bits .or .u64 (a : Int) (b : Int) = ((a ||| b : Nat) : Int) := by
  have h : (a ||| b) < 18446744073709551616 := Nat.or_lt_two_pow (n := 64) ha hb
  show IntKind.u64.wrap ((BitVec.ofInt 64 (a : Int) ||| BitVec.ofInt 64 (b : Int)).toNat : Int) = _
  rw [BitVec.toNat_or, BitVec.toNat_ofInt, BitVec.toNat_ofInt]
  rw [show ((a : Int) % (2 ^ 64 : Nat)).toNat = a from by omega, show ((b : Int) % (2 ^ 64 : Nat)).toNat = b from by omega]
  exact wu (by omega) (by omega)
theorem and1_8 {x : Nat} (h1 : x < 256) : Go.bits .and .u8 (x : Int) 1 = ((x % 2 : Nat) : Int) := by
  show IntKind.u8.wrap ((BitVec.ofInt 8 (x : Int) &&& BitVec.ofInt 8 1).toNat : Int) = _
  rw [BitVec.toNat_and, BitVec.toNat_ofInt, show (BitVec.ofInt 8 1).toNat = 1 from rfl, show ((x : Int) % (2 ^ 8 : Nat)).toNat = x from by omega, Nat.and_one_is_mod]
  show ((x % 2 : Nat) : Int) % 256 = _
  omega
theorem bit_of_byte {s : List Int} (hs : isB s) (p : Nat) : Go.bits .and .u8 (shr .u8 (rd s ((p / 8 : Nat) : Int)) ((p % 8 : Nat) : Int)) 1 = if bitAt s p then 1 else 0 := by
  have hB := rd_B hs (p / 8)
  have hd : rd s ((p / 8 : Nat) : Int) = s.getD (p / 8) 0 := by unfold rd; rw [Int.toNat_natCast]
  rw [hd] at hB ⊢
  unfold bitAt
  generalize s.getD (p / 8) 0 = v at hB
  obtain ⟨u, rfl⟩ := Int.eq_ofNat_of_zero_le hB.1
  have e : shr .u8 (u : Int) ((p % 8 : Nat) : Int) = ((u / 2 ^ (p % 8) : Nat) : Int) := by
    unfold shr
    rw [Int.toNat_natCast, Nat.min_eq_left (by show p % 8 ≤ 8; omega)]
    simp
  have hle := Nat.div_le_self u (2 ^ (p % 8))
  rw [e, Int.toNat_natCast, Nat.testBit_eq_decide_div_mod_eq]
  generalize u / 2 ^ (p % 8) = q at hle ⊢
  rw [and1_8 (by omega)]
  by_cases c : q % 2 = 1
  · rw [if_pos (by simp [c])]; omega
  · rw [if_neg (by simp [c])]; omega
theorem shl64 {b : Nat} (hb : b < 64) (v : Bool) : shl .u64 (if v then 1 else 0 : Int) (b : Int) = ((if v then 2 ^ b else 0 : Nat) : Int) := by
  unfold shl
  rw [Int.toNat_natCast, Nat.min_eq_left (by show b ≤ 64; omega)]
  have h : 2 ^ b < 2 ^ 64 := Nat.pow_lt_pow_right (by omega) hb
  cases v
  · simp; rfl
  · have e : (1 : Int) * 2 ^ b = ((2 ^ b : Nat) : Int) := by simp
    rw [if_pos rfl, if_pos rfl, e]
    generalize (2 ^ b : Nat) = q at h ⊢
    exact wu (x := (q : Int)) (Int.natCast_nonneg q) (by omega)
theorem gbits_or {s : List Int} {p b : Nat} (hb : b < 64) (v : Bool) : Go.bits .or .u64 ((gbits s p b : Nat) : Int) ((if v then 2 ^ b else 0 : Nat) : Int) = ((gbits s p b ||| (if v then 2 ^ b else 0) : Nat) : Int) := by
  have h1 := gbits_lt s p b
  have h : 2 ^ b < 2 ^ 64 := Nat.pow_lt_pow_right (by omega) hb
  exact or_u64 (by omega) (by split <;> omega)
theorem get_l1 {s : List Int} {w n : Nat} (hs : isB s) (hl : s.length = (n * w + 7) / 8) (hw : w ≤ 64) (hn : n ≤ 65536) {i : Nat} (hi : i < n) (x6 : List Int) (h6 : x6.length = i) : ∀ (d b p k : Nat), b + d = w → p = i * w + b → d < k →
    pack_Get.l1 k s w x6 p (gbits s (i * w) b : Int) n i w b = pack_Get.l0 (k - (d + 1)) s w (x6 ++ [(gbits s (i * w) w : Int)]) (((i + 1) * w : Nat) : Int) n ((i + 1 : Nat) : Int) := by
  intro d
  induction d with
  | zero =>
    intro b p k hb hp hk
    obtain ⟨k, rfl⟩ : ∃ m, k = m + 1 := ⟨k - 1, by omega⟩
    have e : p = (i + 1) * w := by rw [hp, Nat.add_mul]; omega
    simp only [pack_Get.l1]
    rw [if_neg (by omega), if_pos (by omega), wr (by omega) (by omega), e, show b = w from by omega]
    rfl
  | succ d ih =>
    intro b p k hb hp hk
    obtain ⟨k, rfl⟩ : ∃ m, k = m + 1 := ⟨k - 1, by omega⟩
    have hlt : p < n * w := by
      have : (i + 1) * w ≤ n * w := Nat.mul_le_mul (by omega) (Nat.le_refl _)
      rw [Nat.add_mul] at this
      omega
    have hmax : n * w ≤ 65536 * 64 := Nat.mul_le_mul hn hw
    simp only [pack_Get.l1]
    rw [if_pos (by omega), show Int.tdiv (p : Int) 8 = ((p / 8 : Nat) : Int) from rfl, show Int.tmod (p : Int) 8 = ((p % 8 : Nat) : Int) from rfl, wr (x := ((p / 8 : Nat) : Int)) (by omega) (by omega), if_pos (by omega), if_pos (by omega), if_pos (by omega), if_pos (by omega),
      bit_of_byte hs, wu (x := if bitAt s p = true then 1 else 0) (by split <;> omega) (by split <;> omega), shl64 (by omega), gbits_or (by omega),
      wr (x := (p : Int) + 1) (by omega) (by omega), wr (x := (b : Int) + 1) (by omega) (by omega)]
    have := ih (b + 1) (p + 1) k (by omega) (by omega) (by omega)
    rw [show k + 1 - (d + 1 + 1) = k - (d + 1) from by omega, ← this, gbits, ← hp]
    rfl
open Classical in
theorem get_l2 {s : List Int} (hs : isB s) (hL : s.length ≤ 1000000) (l : List Int) : ∀ (d p k : Nat), p + d = 8 * s.length → d < k →
    pack_Get.l2 k s l p = if ∀ j, p ≤ j → bitAt s j = false then some (l, 0) else some ([], 2) := by
  intro d
  induction d with
  | zero =>
    intro p k hp hk
    obtain ⟨k, rfl⟩ : ∃ m, k = m + 1 := ⟨k - 1, by omega⟩
    simp only [pack_Get.l2]
    rw [wr (by omega) (by omega), if_neg (by omega), if_pos (fun j hj => bitAt_out (by omega))]
  | succ d ih =>
    intro p k hp hk
    obtain ⟨k, rfl⟩ : ∃ m, k = m + 1 := ⟨k - 1, by omega⟩
    simp only [pack_Get.l2]
    rw [wr (x := 8 * (s.length : Int)) (by omega) (by omega), if_pos (by omega), show Int.tdiv (p : Int) 8 = ((p / 8 : Nat) : Int) from rfl, show Int.tmod (p : Int) 8 = ((p % 8 : Nat) : Int) from rfl, wr (x := ((p / 8 : Nat) : Int)) (by omega) (by omega), if_pos (by omega), if_pos (by omega), if_pos (by omega),
      bit_of_byte hs, wr (x := (p : Int) + 1) (by omega) (by omega)]
    cases c : bitAt s p
    · rw [if_neg (by simp)]
      have := ih (p + 1) k (by omega) (by omega)
      rw [show ((p + 1 : Nat) : Int) = (p : Int) + 1 from by omega] at this
      rw [this]
      congr 1
      apply propext
      constructor
      · intro h j hj
        rcases Nat.lt_or_ge p j with q | q
        · exact h j q
        · rw [show j = p from by omega]; exact c
      · intro h j hj
        exact h j (by omega)
    · rw [if_pos (by simp), if_neg (fun h => by rw [h p (Nat.le_refl _)] at c; cases c)]
open Classical in
theorem get_l0 {s : List Int} {w n : Nat} (hs : isB s) (hl : s.length = (n * w + 7) / 8) (hw : w ≤ 64) (hn : n ≤ 65536) : ∀ (d i k : Nat), i + d = n → d * (w + 2) + 10 < k →
    pack_Get.l0 k s w (gets s w i) ((i * w : Nat) : Int) n i = if ∀ j, n * w ≤ j → bitAt s j = false then some (gets s w n, 0) else some ([], 2) := by
  have hmax : n * w ≤ 65536 * 64 := Nat.mul_le_mul hn hw
  intro d
  induction d with
  | zero =>
    intro i k hi hk
    obtain ⟨k, rfl⟩ : ∃ m, k = m + 1 := ⟨k - 1, by omega⟩
    simp only [pack_Get.l0]
    rw [if_neg (by omega), show i = n from by omega]
    exact get_l2 hs (by omega) _ (8 * s.length - n * w) _ _ (by omega) (by omega)
  | succ d ih =>
    intro i k hi hk
    rw [Nat.add_mul] at hk
    obtain ⟨k, rfl⟩ : ∃ m, k = m + 1 := ⟨k - 1, by omega⟩
    have h1 := get_l1 hs hl hw hn (i := i) (by omega) (gets s w i) (gets_len _ _ _) w 0 (i * w) k (by omega) (by omega) (by omega)
    have h2 := ih (i + 1) (k - (w + 1)) (by omega) (by omega)
    rw [gets_succ] at h2
    simp only [pack_Get.l0]
    rw [if_pos (by omega), ← h2, ← h1]
    rfl
open Classical in
theorem get_len {n w : Nat} {k : Nat} {s : List Int} (hn : n ≤ 65536) (hw : w ≤ 64) (hs : isB s) (hk : 70 * (n + 2) < k) : pack_Get.f k s n w =
    if s.length < (n * w + 7) / 8 then some ([], 5) else if s.length > (n * w + 7) / 8 then some ([], 4) else if ∀ j, n * w ≤ j → bitAt s j = false then some (gets s w n, 0) else some ([], 2) := by
  have hm2 : n * (w + 2) ≤ n * 66 := Nat.mul_le_mul (Nat.le_refl _) (by omega)
  unfold pack_Get.f
  rw [may_ok hn hw, Option.bind_some, if_pos rfl, size_ok hn hw, Option.bind_some]
  by_cases c1 : s.length < (n * w + 7) / 8
  · rw [if_pos c1, if_pos (by omega)]
  · rw [if_neg c1, if_neg (by omega)]
    by_cases c2 : s.length > (n * w + 7) / 8
    · rw [if_pos c2, if_pos (by omega)]
    · rw [if_neg c2, if_neg (by omega)]
      have := get_l0 hs (by omega) hw hn n 0 k (by omega) (by omega)
      rw [Nat.zero_mul] at this
      exact this
end Go.Proofs.Ytalgjhmehilioaa.Num
