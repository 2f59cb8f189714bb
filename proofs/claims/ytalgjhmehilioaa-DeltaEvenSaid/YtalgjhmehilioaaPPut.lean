import Derived.Test.YtalgjhmehilioaaPBits
import Derived.Test.YtalgjhmehilioaaPLen
import Derived.Test.YtalgjhmehilioaaNBits
/- What pack.Put and its reference compute: bytes whose bits are the numbers' bits. -/
set_option linter.unusedSimpArgs false
set_option linter.unusedVariables false
namespace Go.Proofs.Ytalgjhmehilioaa.Num
open Go Go.RowKit Go.Proofs.Ytalgjhmehilioaa.PAll Go.Proofs.YtalgjhmehilioaaW.PrintWords Go.Proofs.YtalgjhmehilioaaW.PrintLast Go.Proofs.YtalgjhmehilioaaW.PrintMore
def isU (l : List Int) : Prop := ∀ x ∈ l, 0 ≤ x ∧ x ≤ 18446744073709551615
theorem isU_of_wf {l : List Int} (h : ∀ x ∈ l, (Lit.int .u64 x).wf = true) : isU l := fun x hx => wf_u64 (h x hx)
theorem rd_mem_U {l : List Int} (h : isU l) {i : Nat} (hi : i < l.length) : 0 ≤ rd l (i : Int) ∧ rd l (i : Int) ≤ 18446744073709551615 := by
  unfold rd
  rw [Int.toNat_natCast, List.getD_eq_getElem?_getD, List.getElem?_eq_getElem hi]
  exact h _ (List.getElem_mem hi)
/-- The first p bits of l's numbers, in bytes. -/
def packsTo (l : List Int) (w p : Nat) (r : List Int) : Prop := r.length = (l.length * w + 7) / 8 ∧ isB r ∧ ∀ j, bitAt r j = (decide (j < p) && bitOf l w j)
def packs (l : List Int) (w : Nat) (r : List Int) : Prop := r.length = (l.length * w + 7) / 8 ∧ isB r ∧ ∀ j, bitAt r j = bitOf l w j
theorem packs_unique {l : List Int} {w : Nat} {r s : List Int} (hr : packs l w r) (hs : packs l w s) : r = s :=
  bits_inj hr.2.1 hs.2.1 (by rw [hr.1, hs.1]) (fun j _ => by rw [hr.2.2, hs.2.2])
theorem packs_of {l : List Int} {w : Nat} {r : List Int} (h : packsTo l w (l.length * w) r) : packs l w r := by
  refine ⟨h.1, h.2.1, fun j => ?_⟩
  rw [h.2.2]
  rcases Nat.lt_or_ge j (l.length * w) with c | c
  · simp [c]
  · rw [bitOf_out c, Bool.and_false]
theorem packsTo_zero (l : List Int) (w : Nat) : packsTo l w 0 (List.replicate ((l.length * w + 7) / 8) 0) := by
  refine ⟨List.length_replicate, isB_zeros _, fun j => ?_⟩
  rw [bitAt_zeros]
  simp
theorem packs_zero {l : List Int} {w p : Nat} {r : List Int} (h : packsTo l w p r) (hb : bitOf l w p = false) : packsTo l w (p + 1) r := by
  refine ⟨h.1, h.2.1, fun j => ?_⟩
  rw [h.2.2]
  by_cases c : j = p
  · subst c; simp [hb]
  · rw [show decide (j < p) = decide (j < p + 1) from by congr 1; apply propext; omega]
theorem packs_one {l : List Int} {w p : Nat} {r : List Int} (h : packsTo l w p r) (hp : p < l.length * w) (hb : bitOf l w p = true) :
    packsTo l w (p + 1) (r.set (p / 8) (((r.getD (p / 8) 0).toNat ||| 2 ^ (p % 8) : Nat) : Int)) := by
  have hp8 : p < 8 * r.length := by rw [h.1]; omega
  have hm : 0 ≤ r.getD (p / 8) 0 ∧ r.getD (p / 8) 0 ≤ 255 := by
    rw [List.getD_eq_getElem?_getD, List.getElem?_eq_getElem (by omega : p / 8 < r.length)]
    exact h.2.1 _ (List.getElem_mem _)
  have hv := or_bd (a := (r.getD (p / 8) 0).toNat) (s := p % 8) (by omega) (by omega)
  refine ⟨by rw [List.length_set, h.1], isB_set h.2.1 (by omega) (by omega) _, fun j => ?_⟩
  rw [bitAt_set hp8 rfl, h.2.2]
  by_cases c : j = p
  · subst c; simp [hb]
  · rw [if_neg c, show decide (j < p) = decide (j < p + 1) from by congr 1; apply propext; omega]
theorem bit_of_shr {v : Int} (h0 : 0 ≤ v) (h1 : v ≤ 18446744073709551615) {b : Nat} (hb : b < 64) : Go.bits .and .u64 (shr .u64 v (b : Int)) 1 = if v.toNat.testBit b then 1 else 0 := by
  obtain ⟨u, rfl⟩ := Int.eq_ofNat_of_zero_le h0
  have e : shr .u64 (u : Int) (b : Int) = ((u / 2 ^ b : Nat) : Int) := by
    unfold shr
    rw [Int.toNat_natCast, Nat.min_eq_left (by show b ≤ 64; omega)]
    simp
  have hle := Nat.div_le_self u (2 ^ b)
  rw [e, Int.toNat_natCast, Nat.testBit_eq_decide_div_mod_eq]
  generalize u / 2 ^ b = q at hle ⊢
  rw [and1_64 (by omega) (by omega)]
  by_cases c : q % 2 = 1
  · rw [if_pos (by simp [c])]; omega
  · rw [if_neg (by simp [c])]; omega
theorem or_u8 {a b : Nat} (ha : a < 256) (hb : b < 256) : Go.bits .or .u8 (a : Int) (b : Int) = ((a ||| b : Nat) : Int) := by
  have h : (a ||| b) < 256 := Nat.or_lt_two_pow (n := 8) ha hb
  show IntKind.u8.wrap ((BitVec.ofInt 8 (a : Int) ||| BitVec.ofInt 8 (b : Int)).toNat : Int) = _
  rw [BitVec.toNat_or, BitVec.toNat_ofInt, BitVec.toNat_ofInt]
  rw [show ((a : Int) % (2 ^ 8 : Nat)).toNat = a from by omega, show ((b : Int) % (2 ^ 8 : Nat)).toNat = b from by omega]
  show ((a ||| b : Nat) : Int) % 256 = _
  omega
theorem shl_bit {b : Nat} (hb : b < 8) (v : Bool) : shl .u8 ((if v then 1 else 0 : Int) % 256) (b : Int) = ((if v then 2 ^ b else 0 : Nat) : Int) := by
  unfold shl
  rw [Int.toNat_natCast, Nat.min_eq_left (by show b ≤ 8; omega)]
  cases v
  · simp; rfl
  · have : b = 0 ∨ b = 1 ∨ b = 2 ∨ b = 3 ∨ b = 4 ∨ b = 5 ∨ b = 6 ∨ b = 7 := by omega
    rcases this with h | h | h | h | h | h | h | h <;> subst h <;> rfl
theorem rd_B {l : List Int} (h : isB l) (i : Nat) : 0 ≤ rd l (i : Int) ∧ rd l (i : Int) ≤ 255 := by
  unfold rd
  rw [Int.toNat_natCast, List.getD_eq_getElem?_getD]
  rcases Nat.lt_or_ge i l.length with c | c
  · rw [List.getElem?_eq_getElem c]; exact h _ (List.getElem_mem c)
  · rw [List.getElem?_eq_none c]; exact ⟨by decide, by decide⟩
/-- One turn of Put's inner loop. -/
theorem put_turn {l : List Int} {w p b : Nat} {r : List Int} {v : Int} (h : packsTo l w p r) (hp : p < l.length * w) (h0 : 0 ≤ v) (h1 : v ≤ 18446744073709551615) (hb : b < 64)
    (hv : bitOf l w p = v.toNat.testBit b) :
    packsTo l w (p + 1) (r.set (p / 8) (Go.bits .or .u8 (rd r ((p / 8 : Nat) : Int)) (shl .u8 ((Go.bits .and .u64 (shr .u64 v (b : Int)) 1) % 256) ((p % 8 : Nat) : Int)))) := by
  have hB := rd_B h.2.1 (p / 8)
  have hd : rd r ((p / 8 : Nat) : Int) = r.getD (p / 8) 0 := by unfold rd; rw [Int.toNat_natCast]
  have hp8 : p / 8 < r.length := by rw [h.1]; omega
  rw [bit_of_shr h0 h1 hb, ← hv, shl_bit (by omega)]
  have hn : ((rd r ((p / 8 : Nat) : Int)).toNat : Int) = rd r ((p / 8 : Nat) : Int) := Int.toNat_of_nonneg hB.1
  rw [← hn]
  cases c : bitOf l w p
  · have e := or_u8 (a := (rd r ((p / 8 : Nat) : Int)).toNat) (b := 0) (by omega) (by omega)
    rw [if_neg (by simp), e, Nat.or_zero, hn, hd]
    have : r.set (p / 8) (r.getD (p / 8) 0) = r := by
      rw [List.getD_eq_getElem?_getD, List.getElem?_eq_getElem hp8]
      exact List.set_getElem_self hp8
    rw [this]
    exact packs_zero h c
  · have hlt : 2 ^ (p % 8) < 256 := by
      have : 2 ^ (p % 8) < 2 ^ 8 := Nat.pow_lt_pow_right (by omega) (by omega)
      omega
    have e := or_u8 (a := (rd r ((p / 8 : Nat) : Int)).toNat) (b := 2 ^ (p % 8)) (by omega) hlt
    rw [if_pos rfl, e, hd]
    exact packs_one h hp c
theorem put_l1 {l : List Int} {w i : Nat} (hl : isU l) (hL : l.length ≤ 65536) (hw : w ≤ 64) (hi : i < l.length) : ∀ (d b p : Nat) (acc : List Int) (k : Nat), b + d = w → p = i * w + b → packsTo l w p acc → d < k →
    ∃ r, packsTo l w ((i + 1) * w) r ∧ pack_Put.l1 k w acc p (rd l (i : Int)) l l.length i w b = pack_Put.l0 (k - (d + 1)) w r (((i + 1) * w : Nat) : Int) l l.length ((i + 1 : Nat) : Int) := by
  intro d
  induction d with
  | zero =>
    intro b p acc k hb hp h hk
    obtain ⟨k, rfl⟩ : ∃ m, k = m + 1 := ⟨k - 1, by omega⟩
    have e : p = (i + 1) * w := by rw [hp, Nat.add_mul]; omega
    refine ⟨acc, e ▸ h, ?_⟩
    simp only [pack_Put.l1]
    rw [if_neg (by omega), wr (by omega) (by omega), e]
    rfl
  | succ d ih =>
    intro b p acc k hb hp h hk
    obtain ⟨k, rfl⟩ : ∃ m, k = m + 1 := ⟨k - 1, by omega⟩
    have hv := rd_mem_U hl hi
    have hlt : p < l.length * w := by
      have : (i + 1) * w ≤ l.length * w := Nat.mul_le_mul (by omega) (Nat.le_refl _)
      rw [Nat.add_mul] at this
      omega
    have hmax : l.length * w ≤ 65536 * 64 := Nat.mul_le_mul hL hw
    have hbit : bitOf l w p = (rd l (i : Int)).toNat.testBit b := by
      rw [hp, bitOf_at hi (by omega)]
      unfold rd
      rw [Int.toNat_natCast]
    have hs := put_turn h hlt hv.1 hv.2 (b := b) (by omega) hbit
    have hp8 : p / 8 < acc.length := by rw [h.1]; omega
    simp only [pack_Put.l1]
    rw [if_pos (by omega), show Int.tdiv (p : Int) 8 = ((p / 8 : Nat) : Int) from rfl, show Int.tmod (p : Int) 8 = ((p % 8 : Nat) : Int) from rfl, wr (x := ((p / 8 : Nat) : Int)) (by omega) (by omega), if_pos (by omega), if_pos (by omega), if_pos (by omega), if_pos (by omega), wr (x := (p : Int) + 1) (by omega) (by omega), wr (x := (b : Int) + 1) (by omega) (by omega), Int.toNat_natCast]
    obtain ⟨r, hr, he⟩ := ih (b + 1) (p + 1) _ k (by omega) (by omega) hs (by omega)
    refine ⟨r, hr, ?_⟩
    rw [show k + 1 - (d + 1 + 1) = k - (d + 1) from by omega, ← he]
    rfl
theorem put_l0 {l : List Int} {w : Nat} (hl : isU l) (hL : l.length ≤ 65536) (hw : w ≤ 64) : ∀ (d i : Nat) (acc : List Int) (k : Nat), i + d = l.length → packsTo l w (i * w) acc → d * (w + 2) < k →
    ∃ r, packs l w r ∧ pack_Put.l0 k w acc ((i * w : Nat) : Int) l l.length i = some (r, 0) := by
  intro d
  induction d with
  | zero =>
    intro i acc k hi h hk
    obtain ⟨k, rfl⟩ : ∃ m, k = m + 1 := ⟨k - 1, by omega⟩
    rw [show i = l.length from by omega] at h
    refine ⟨acc, packs_of h, ?_⟩
    simp only [pack_Put.l0]
    rw [if_neg (by omega)]
  | succ d ih =>
    intro i acc k hi h hk
    rw [Nat.add_mul] at hk
    obtain ⟨k, rfl⟩ : ∃ m, k = m + 1 := ⟨k - 1, by omega⟩
    obtain ⟨r, hr, he⟩ := put_l1 hl hL hw (i := i) (by omega) w 0 (i * w) acc k (by omega) rfl h (by omega)
    obtain ⟨s, hs, hf⟩ := ih (i + 1) r (k - (w + 1)) (by omega) hr (by omega)
    refine ⟨s, hs, ?_⟩
    simp only [pack_Put.l0]
    rw [if_pos (by omega), if_pos (by omega), if_pos (by omega)]
    rw [← hf, ← he]
    rfl
end Go.Proofs.Ytalgjhmehilioaa.Num
