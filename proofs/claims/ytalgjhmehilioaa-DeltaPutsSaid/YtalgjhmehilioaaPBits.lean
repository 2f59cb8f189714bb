import Derived.Test.YtalgjhmehilioaaEnc
/- Bits in bytes, the first one lowest: plain lemmas (no program). -/
set_option linter.unusedSimpArgs false
set_option linter.unusedVariables false
namespace Go.Proofs.Ytalgjhmehilioaa.Num
open Go Go.RowKit Go.Proofs.YtalgjhmehilioaaW.PrintWords Go.Proofs.YtalgjhmehilioaaW.PrintLast Go.Proofs.YtalgjhmehilioaaW.PrintMore
/-- Bit j of bytes. -/
def bitAt (x : List Int) (j : Nat) : Bool := (x.getD (j / 8) 0).toNat.testBit (j % 8)
theorem testBit_hi {a i : Nat} (h : a < 256) (hi : 8 ≤ i) : a.testBit i = false := Nat.testBit_lt_two_pow (Nat.lt_of_lt_of_le h (by rw [show (256 : Nat) = 2 ^ 8 from rfl]; exact Nat.pow_le_pow_right (by omega) hi))
/-- Bytes are what their bits are. -/
theorem bits_inj {x y : List Int} (hx : isB x) (hy : isB y) (hl : x.length = y.length) (h : ∀ j, j < 8 * x.length → bitAt x j = bitAt y j) : x = y := by
  apply List.ext_getElem hl
  intro i h1 h2
  have hxi := hx _ (List.getElem_mem h1)
  have hyi := hy _ (List.getElem_mem h2)
  have e : (x[i]).toNat = (y[i]).toNat := by
    apply Nat.eq_of_testBit_eq
    intro b
    rcases Nat.lt_or_ge b 8 with hb | hb
    · have := h (8 * i + b) (by omega)
      unfold bitAt at this
      rw [show (8 * i + b) / 8 = i from by omega, show (8 * i + b) % 8 = b from by omega] at this
      rw [List.getD_eq_getElem?_getD, List.getD_eq_getElem?_getD, List.getElem?_eq_getElem h1, List.getElem?_eq_getElem h2] at this
      exact this
    · rw [testBit_hi (by omega) hb, testBit_hi (by omega) hb]
  omega
theorem bitAt_out {x : List Int} {j : Nat} (h : 8 * x.length ≤ j) : bitAt x j = false := by
  unfold bitAt
  rw [List.getD_eq_getElem?_getD, List.getElem?_eq_none (by omega)]
  simp
theorem bitAt_zeros (n j : Nat) : bitAt (List.replicate n 0) j = false := by
  unfold bitAt
  rw [List.getD_eq_getElem?_getD, List.getElem?_replicate]
  split <;> simp
theorem bitAt_append (x y : List Int) (j : Nat) : bitAt (x ++ y) j = if j < 8 * x.length then bitAt x j else bitAt y (j - 8 * x.length) := by
  unfold bitAt
  simp only [List.getD_eq_getElem?_getD]
  split
  · rw [List.getElem?_append_left (by omega)]
  · rw [List.getElem?_append_right (by omega), show (j - 8 * x.length) / 8 = j / 8 - x.length from by omega, show (j - 8 * x.length) % 8 = j % 8 from by omega]
/-- A bit laid over bytes. -/
theorem bitAt_set {x : List Int} {j v : Nat} (hj : j < 8 * x.length) (hv : v = (x.getD (j / 8) 0).toNat ||| (2 ^ (j % 8))) (i : Nat) :
    bitAt (x.set (j / 8) (v : Int)) i = if i = j then true else bitAt x i := by
  have hlt : j / 8 < x.length := by omega
  unfold bitAt
  simp only [List.getD_eq_getElem?_getD]
  by_cases c : i / 8 = j / 8
  · rw [c, List.getElem?_set_self hlt]
    simp only [Option.getD_some, Int.toNat_natCast]
    rw [hv, Nat.testBit_or, Nat.testBit_two_pow]
    by_cases c2 : i = j
    · subst c2; simp
    · rw [if_neg c2]
      have : decide (j % 8 = i % 8) = false := by simp; omega
      rw [this, Bool.or_false, List.getD_eq_getElem?_getD]
  · rw [List.getElem?_set_ne (by omega), if_neg (by rintro rfl; exact c rfl)]
theorem or_bd {a s : Nat} (ha : a < 256) (hs : s < 8) : a ||| 2 ^ s < 256 := by
  have : 2 ^ s < 2 ^ 8 := Nat.pow_lt_pow_right (by omega) hs
  exact Nat.or_lt_two_pow (n := 8) (by omega) this
theorem isB_set {x : List Int} (hx : isB x) {v : Int} (h0 : 0 ≤ v) (h1 : v ≤ 255) (i : Nat) : isB (x.set i v) := by
  intro y hy
  rcases List.mem_or_eq_of_mem_set hy with h | h
  · exact hx y h
  · rw [h]; exact ⟨h0, h1⟩
theorem isB_zeros (n : Nat) : isB (List.replicate n 0) := by
  intro y hy
  rw [(List.mem_replicate.mp hy).2]
  omega
/-- Bit j of numbers of w bits each. -/
def bitOf (l : List Int) (w j : Nat) : Bool := decide (j < l.length * w) && (l.getD (j / w) 0).toNat.testBit (j % w)
theorem bitOf_out {l : List Int} {w j : Nat} (h : l.length * w ≤ j) : bitOf l w j = false := by
  unfold bitOf
  simp [show ¬ j < l.length * w from by omega]
theorem bitOf_at {l : List Int} {w i b : Nat} (hi : i < l.length) (hb : b < w) : bitOf l w (i * w + b) = (l.getD i 0).toNat.testBit b := by
  unfold bitOf
  have h1 : i * w + b < l.length * w := by
    have : (i + 1) * w ≤ l.length * w := Nat.mul_le_mul (by omega) (Nat.le_refl _)
    rw [Nat.add_mul] at this
    omega
  have h2 : (i * w + b) / w = i := by
    rw [Nat.mul_comm, Nat.mul_add_div (by omega), Nat.div_eq_of_lt hb]; rfl
  have h3 : (i * w + b) % w = b := by
    rw [Nat.mul_comm, Nat.mul_add_mod, Nat.mod_eq_of_lt hb]
  rw [h2, h3]
  simp [h1]
end Go.Proofs.Ytalgjhmehilioaa.Num
