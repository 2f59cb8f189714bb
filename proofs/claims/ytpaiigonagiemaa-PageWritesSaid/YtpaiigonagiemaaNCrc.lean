import Derived.Test.YtpaiigonagiemaaNBits
/- The sum of bytes, plainly; with one byte changed it is another. -/
set_option linter.unusedSimpArgs false
set_option linter.unusedVariables false
namespace Go.Proofs.Ytpaiigonagiemaa.Num
open Go Go.RowKit Go.Proofs.YtpaiigonagiemaaW.PrintWords Go.Proofs.YtpaiigonagiemaaW.PrintLast Go.Proofs.YtpaiigonagiemaaW.PrintMore
theorem xor_rc {a b c : Nat} (h : a ^^^ c = b ^^^ c) : a = b := by
  have := congrArg (fun n => n ^^^ c) h
  simpa [Nat.xor_assoc] using this
theorem xor_lc {a b c : Nat} (h : c ^^^ a = c ^^^ b) : a = b := by
  rw [Nat.xor_comm c a, Nat.xor_comm c b] at h
  exact xor_rc h
def crcStep (s : Nat) : Nat := if s % 2 = 1 then (s / 2) ^^^ 3988292384 else s / 2
def crcSteps : Nat → Nat → Nat
  | 0, s => s
  | n + 1, s => crcSteps n (crcStep s)
def crcFrom : List Int → Nat → Nat
  | [], s => s
  | x :: l, s => crcFrom l (crcSteps 8 (s ^^^ x.toNat))
/-- The sum. -/
def crc (l : List Int) : Int := 4294967295 - ((crcFrom l 4294967295 : Nat) : Int)
theorem crcStep_lt {s : Nat} (h : s < 4294967296) : crcStep s < 4294967296 := by
  unfold crcStep
  split
  · exact Nat.xor_lt_two_pow (n := 32) (by omega) (by decide)
  · omega
theorem crcSteps_lt (n : Nat) : ∀ s, s < 4294967296 → crcSteps n s < 4294967296 := by
  induction n with
  | zero => intro s h; exact h
  | succ n ih => intro s h; exact ih _ (crcStep_lt h)
theorem xor_B {s : Nat} {x : Int} (hs : s < 4294967296) (hx : x ≤ 255) : s ^^^ x.toNat < 4294967296 := Nat.xor_lt_two_pow (n := 32) hs (by omega)
theorem crcFrom_lt (l : List Int) : ∀ s, isB l → s < 4294967296 → crcFrom l s < 4294967296 := by
  induction l with
  | nil => intro s _ h; exact h
  | cons x l ih =>
    intro s hl h
    obtain ⟨hx, hl'⟩ := isB_cons hl
    exact ih _ hl' (crcSteps_lt 8 _ (xor_B h hx.2))
theorem crc_bd {l : List Int} (hl : isB l) : 0 ≤ crc l ∧ crc l ≤ 4294967295 := by
  have := crcFrom_lt l 4294967295 hl (by decide)
  unfold crc
  omega
theorem crcStep_inj {a b : Nat} (ha : a < 4294967296) (hb : b < 4294967296) (h : crcStep a = crcStep b) : a = b := by
  have key : ∀ c d : Nat, c < 4294967296 → d < 4294967296 → (c / 2) ^^^ 3988292384 ≠ d / 2 := by
    intro c d hc hd he
    have h1 := congrArg (fun n => Nat.testBit n 31) he
    simp only [Nat.testBit_xor] at h1
    have h2 : (c / 2).testBit 31 = false := Nat.testBit_lt_two_pow (by omega)
    have h3 : (d / 2).testBit 31 = false := Nat.testBit_lt_two_pow (by omega)
    rw [h2, h3] at h1
    revert h1
    decide
  unfold crcStep at h
  by_cases c1 : a % 2 = 1 <;> by_cases c2 : b % 2 = 1
  · rw [if_pos c1, if_pos c2] at h
    have := xor_rc h
    omega
  · rw [if_pos c1, if_neg c2] at h
    exact absurd h (key a b ha hb)
  · rw [if_neg c1, if_pos c2] at h
    exact absurd h.symm (key b a hb ha)
  · rw [if_neg c1, if_neg c2] at h
    omega
theorem crcSteps_inj (n : Nat) : ∀ a b, a < 4294967296 → b < 4294967296 → crcSteps n a = crcSteps n b → a = b := by
  induction n with
  | zero => intro a b _ _ h; exact h
  | succ n ih => intro a b ha hb h; exact crcStep_inj ha hb (ih _ _ (crcStep_lt ha) (crcStep_lt hb) h)
theorem crcFrom_inj (l : List Int) : ∀ s t, isB l → s < 4294967296 → t < 4294967296 → crcFrom l s = crcFrom l t → s = t := by
  induction l with
  | nil => intro s t _ _ _ h; exact h
  | cons x l ih =>
    intro s t hl hs ht h
    obtain ⟨hx, hl'⟩ := isB_cons hl
    have h1 := ih _ _ hl' (crcSteps_lt 8 _ (xor_B hs hx.2)) (crcSteps_lt 8 _ (xor_B ht hx.2)) h
    have h2 := crcSteps_inj 8 _ _ (xor_B hs hx.2) (xor_B ht hx.2) h1
    exact xor_rc h2
/-- One byte changed: another sum. -/
theorem crcFrom_set (l : List Int) : ∀ (j : Nat) (y : Int) s, isB l → 0 ≤ y → y ≤ 255 → s < 4294967296 → (hj : j < l.length) → y ≠ l[j] → crcFrom (l.set j y) s ≠ crcFrom l s := by
  induction l with
  | nil => intro j y s _ _ _ _ hj; simp at hj
  | cons x l ih =>
    intro j y s hl y0 y1 hs hj hne
    obtain ⟨hx, hl'⟩ := isB_cons hl
    cases j with
    | zero =>
      simp only [List.set_cons_zero, crcFrom]
      intro h
      have h1 := crcFrom_inj l _ _ hl' (crcSteps_lt 8 _ (xor_B hs y1)) (crcSteps_lt 8 _ (xor_B hs hx.2)) h
      have h2 := crcSteps_inj 8 _ _ (xor_B hs y1) (xor_B hs hx.2) h1
      have h3 := xor_lc h2
      simp only [List.getElem_cons_zero] at hne
      omega
    | succ j =>
      simp only [List.set_cons_succ, crcFrom]
      exact ih j y _ hl' y0 y1 (crcSteps_lt 8 _ (xor_B hs hx.2)) (by simpa using hj) (by simpa using hne)
theorem crc_set {l : List Int} {j : Nat} {y : Int} (hl : isB l) (y0 : 0 ≤ y) (y1 : y ≤ 255) (hj : j < l.length) (hne : y ≠ l[j]) : crc (l.set j y) ≠ crc l := by
  have := crcFrom_set l j y 4294967295 hl y0 y1 (by decide) hj hne
  unfold crc
  omega
/-- One bit turned makes another byte. -/
theorem turn_ne {x : Int} {m : Nat} (h0 : 0 ≤ x) (h1 : x ≤ 255) (hm0 : 0 < m) (hm : m < 256) : Go.bits .xor .u8 x (m : Int) ≠ x ∧ 0 ≤ Go.bits .xor .u8 x (m : Int) ∧ Go.bits .xor .u8 x (m : Int) ≤ 255 := by
  have e := u8_xor_nat x.toNat m (by omega) hm
  rw [Int.toNat_of_nonneg h0] at e
  rw [e]
  have hlt : x.toNat ^^^ m < 2 ^ 8 := Nat.xor_lt_two_pow (by omega) (by omega)
  refine ⟨fun h => ?_, by omega, by omega⟩
  have h2 : x.toNat ^^^ m = x.toNat ^^^ 0 := by rw [Nat.xor_zero]; omega
  have := xor_lc h2
  omega
end Go.Proofs.Ytpaiigonagiemaa.Num
