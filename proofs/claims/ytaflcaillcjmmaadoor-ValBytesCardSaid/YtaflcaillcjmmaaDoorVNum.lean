import Derived.Lib.ItoaLen
import Derived.Lib.ItoaMem
import Derived.Lib.ParseIntB
import Derived.Lib.SlTrimSet
import Derived.Stop.FmtTextWidths
/- Numerals there and back: plain lemmas (no program). -/
set_option linter.unusedSimpArgs false
set_option linter.unusedVariables false
namespace Go.Proofs.YtaflcaillcjmmaaDoor.Num
open Go
def isD (c : UInt8) : Prop := 48 ≤ c.toNat ∧ c.toNat ≤ 57
theorem dec_digits : ∀ (u : Nat), ∀ c ∈ Lib.decDigits u, isD c := by
  intro u
  induction u using Nat.strongRecOn with
  | _ u ih =>
    intro c hc
    rw [Lib.decDigits] at hc
    split at hc
    · rename_i h
      rw [List.mem_singleton] at hc
      subst hc
      unfold isD
      rw [UInt8.toNat_ofNat']
      omega
    · rename_i h
      rcases List.mem_append.mp hc with h' | h'
      · exact ih (u / 10) (by omega) c h'
      · rw [List.mem_singleton] at h'
        subst h'
        unfold isD
        rw [UInt8.toNat_ofNat']
        omega
theorem dec_pos (u : Nat) : 1 ≤ (Lib.decDigits u).length := by rw [Lib.decDigits_length]; exact Lib.nDigits_pos u
def valOf (acc : Nat) (l : List UInt8) : Nat := l.foldl (fun a c => a * 10 + (c.toNat - 48)) acc
theorem valOf_append (acc : Nat) (a b : List UInt8) : valOf acc (a ++ b) = valOf (valOf acc a) b := by simp [valOf]
theorem valOf_le (l : List UInt8) : ∀ acc, acc ≤ valOf acc l := by
  induction l with
  | nil => intro acc; exact Nat.le_refl _
  | cons c l ih => intro acc; have := ih (acc * 10 + (c.toNat - 48)); simp only [valOf, List.foldl_cons] at this ⊢; omega
theorem val_dec (u : Nat) : valOf 0 (Lib.decDigits u) = u := by
  induction u using Nat.strongRecOn with
  | _ u ih =>
    rw [Lib.decDigits]
    split
    · rename_i h
      simp only [valOf, List.foldl_cons, List.foldl_nil]
      rw [UInt8.toNat_ofNat']
      omega
    · rename_i h
      rw [valOf_append, ih (u / 10) (by omega)]
      simp only [valOf, List.foldl_cons, List.foldl_nil]
      rw [UInt8.toNat_ofNat']
      omega
theorem dec_head (u : Nat) (h : 1 < (Lib.decDigits u).length) : (Lib.decDigits u).head? ≠ some 48 := by
  induction u using Nat.strongRecOn with
  | _ u ih =>
    rw [Lib.decDigits] at h ⊢
    split at h
    · simp at h
    · rename_i h'
      rw [dif_neg h']
      by_cases h1 : 1 < (Lib.decDigits (u / 10)).length
      · have := ih (u / 10) (by omega) h1
        cases hd : Lib.decDigits (u / 10) with
        | nil => rw [hd] at h1; simp at h1
        | cons a t => rw [hd] at this; simpa using this
      · have h2 := dec_pos (u / 10)
        by_cases h3 : u / 10 < 10
        · rw [Lib.decDigits, dif_pos h3]
          simp only [List.cons_append, List.head?_cons, ne_eq, Option.some.injEq]
          intro e
          have := congrArg UInt8.toNat e
          rw [UInt8.toNat_ofNat'] at this
          simp at this
          omega
        · rw [Lib.decDigits, dif_neg h3] at h1
          have := dec_pos (u / 10 / 10)
          simp at h1
          rw [h1] at this
          simp at this
theorem parseM_ok : ∀ (l : List UInt8) (acc M : Nat), (∀ c ∈ l, isD c) → valOf acc l ≤ M → M < 18446744073709551616 → Lib.parseUintM M acc l = .ok (valOf acc l) := by
  intro l
  induction l with
  | nil => intro acc M _ _ _; rfl
  | cons c l ih =>
    intro acc M hd hv hM
    have hc := hd c (by simp)
    unfold isD at hc
    have h1 := valOf_le l (acc * 10 + (c.toNat - 48))
    have h2 : valOf acc (c :: l) = valOf (acc * 10 + (c.toNat - 48)) l := rfl
    rw [h2] at hv ⊢
    unfold Lib.parseUintM
    rw [if_pos hc, if_neg (by omega), if_neg (by omega)]
    exact ih _ M (fun c h => hd c (by simp [h])) hv hM
theorem dec_cons (u : Nat) : ∃ c l, Lib.decDigits u = c :: l ∧ isD c := by
  cases h : Lib.decDigits u with
  | nil => have := dec_pos u; rw [h] at this; simp at this
  | cons c l => exact ⟨c, l, rfl, dec_digits u c (by rw [h]; simp)⟩
theorem dec_inj {u v : Nat} (h : Lib.decDigits u = Lib.decDigits v) : u = v := by rw [← val_dec u, h, val_dec]
theorem parseU_dec (u : Nat) (h : u < 18446744073709551616) : Lib.parseUintB 64 (Lib.decDigits u) = .ok u := by
  unfold Lib.parseUintB
  obtain ⟨c, l, e, _⟩ := dec_cons u
  rw [if_neg (by rw [e]; simp), parseM_ok _ 0 _ (dec_digits u) (by rw [val_dec]; omega) (by decide), val_dec]
theorem itoa_inj {a b : Int} (h : Lib.itoa a = Lib.itoa b) : a = b := by
  unfold Lib.itoa at h
  obtain ⟨c, l, e, hc⟩ := dec_cons a.toNat
  obtain ⟨c', l', e', hc'⟩ := dec_cons b.toNat
  unfold isD at hc hc'
  split at h <;> split at h
  · have := dec_inj (List.cons.inj h).2; omega
  · rw [e'] at h
    have := congrArg UInt8.toNat (List.cons.inj h).1
    simp at this; omega
  · rw [e] at h
    have := congrArg UInt8.toNat (List.cons.inj h).1
    simp at this; omega
  · have := dec_inj h; omega
theorem parse_itoa (a : Int) (h0 : -9223372036854775808 ≤ a) (h1 : a ≤ 9223372036854775807) : Lib.parseIntB 64 (Lib.itoa a) = .ok a := by
  unfold Lib.itoa
  split
  · rename_i h
    simp only [Lib.parseIntB]
    rw [if_pos (by decide), parseU_dec _ (by omega)]
    simp only []
    rw [if_neg (by simp), if_neg (by simp; omega), if_pos (by decide)]
    congr 1
    omega
  · rename_i h
    obtain ⟨c, l, e, hc⟩ := dec_cons a.toNat
    rw [e]
    unfold isD at hc
    simp only [Lib.parseIntB]
    rw [if_neg (by omega), ← e, parseU_dec _ (by omega)]
    simp only []
    rw [if_neg (by simp; omega), if_neg (by simp; omega), if_neg (by omega)]
    congr 1
    omega
theorem drop_all {p : UInt8 → Bool} : ∀ {l : List UInt8}, (∀ c ∈ l, p c = true) → l.dropWhile p = [] := by
  intro l h
  induction l with
  | nil => rfl
  | cons c l ih => rw [List.dropWhile_cons, if_pos (h c (by simp))]; exact ih fun c' h' => h c' (by simp [h'])
/-- Where all is in the set, nothing is left. -/
theorem trim_all {l cs : List UInt8} (h : ∀ c ∈ l, cs.contains c = true) : Lib.trimS l cs = [] := by
  unfold Lib.trimS Lib.trimRightS
  rw [drop_all (fun c hc => h c (List.mem_reverse.mp hc))]
  rfl
theorem digit_in {c : UInt8} (h : isD c) : ([48, 49, 50, 51, 52, 53, 54, 55, 56, 57] : List UInt8).contains c = true := by
  have key : ∀ n : Fin 256, 48 ≤ n.val → n.val ≤ 57 → ([48, 49, 50, 51, 52, 53, 54, 55, 56, 57] : List UInt8).contains (UInt8.ofNat n.val) = true := by decide +kernel
  have := key ⟨c.toNat, UInt8.toNat_lt c⟩ h.1 h.2
  simpa using this
end Go.Proofs.YtaflcaillcjmmaaDoor.Num
