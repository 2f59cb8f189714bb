import Derived.Test.YtaflcaillcjmmaaDoorVStr
import Derived.Test.YtaflcaillcjmmaaDoorVCmp
import Derived.Test.YtaflcaillcjmmaaDoorVNum
import Derived.Test.YtaflcaillcjmmaaDoorPAllx4
import Derived.Test.YtaflcaillcjmmaaDoorPAllx3
import Derived.Test.YtaflcaillcjmmaaDoorPAllx2
/- Bytes in words and back. -/
set_option linter.unusedSimpArgs false
set_option linter.unusedVariables false
namespace Go.Proofs.YtaflcaillcjmmaaDoor.Num
open Go Go.RowKit Go.Proofs.YtaflcaillcjmmaaDoor.PAll Go.Proofs.YtaflcaillcjmmaaDoor.Help Go.Proofs.YtaflcaillcjmmaaDoorW.PrintWords Go.Proofs.YtaflcaillcjmmaaDoorW.PrintLast Go.Proofs.YtaflcaillcjmmaaDoorW.PrintMore
/-- A digit's word. -/
def hd (n : Nat) : UInt8 := UInt8.ofNat (if n < 10 then 48 + n else 87 + n)
def hex2 (c : UInt8) : List UInt8 := [hd (c.toNat / 16), hd (c.toNat % 16)]
def hexL (l : List UInt8) : List UInt8 := l.flatMap hex2
theorem hexL_nil : hexL [] = [] := rfl
theorem hexL_cons (c : UInt8) (l : List UInt8) : hexL (c :: l) = hd (c.toNat / 16) :: hd (c.toNat % 16) :: hexL l := rfl
theorem hexL_length (l : List UInt8) : (hexL l).length = 2 * l.length := by
  induction l with
  | nil => rfl
  | cons c l ih => rw [hexL_cons]; simp only [List.length_cons, ih]; omega
theorem hd_lt : ∀ a b : Fin 16, decide (hd a.val < hd b.val) = decide (a.val < b.val) := by decide +kernel
theorem hd_eq : ∀ a b : Fin 16, (hd a.val == hd b.val) = decide (a.val = b.val) := by decide +kernel
theorem hex_less : ∀ x y : List UInt8, Op.bytesLess (hexL x) (hexL y) = Op.bytesLess x y
  | [], [] => rfl
  | [], d :: y => rfl
  | c :: x, [] => rfl
  | c :: x, d :: y => by
    have ih := hex_less x y
    have lc := UInt8.toNat_lt c
    have ld := UInt8.toNat_lt d
    rw [hexL_cons, hexL_cons]
    simp only [Op.bytesLess, ih]
    have e1 := hd_lt ⟨c.toNat / 16, by omega⟩ ⟨d.toNat / 16, by omega⟩
    have e2 := hd_lt ⟨c.toNat % 16, by omega⟩ ⟨d.toNat % 16, by omega⟩
    have e3 := hd_eq ⟨c.toNat / 16, by omega⟩ ⟨d.toNat / 16, by omega⟩
    have e4 := hd_eq ⟨c.toNat % 16, by omega⟩ ⟨d.toNat % 16, by omega⟩
    simp only [] at e1 e2 e3 e4
    rw [e1, e2, e3, e4]
    rcases Nat.lt_trichotomy c.toNat d.toNat with h | h | h
    · have a1 : decide (c < d) = true := decide_eq_true (UInt8.lt_iff_toNat_lt.2 h)
      rw [a1]
      by_cases h1 : c.toNat / 16 < d.toNat / 16
      · simp [h1]
      · have h2 : c.toNat / 16 = d.toNat / 16 := by omega
        have h3 : c.toNat % 16 < d.toNat % 16 := by omega
        simp [h2, h3]
    · obtain rfl : c = d := UInt8.toNat_inj.1 h
      have a1 : decide (c < c) = false := decide_eq_false (fun h' => by have := UInt8.lt_iff_toNat_lt.1 h'; omega)
      simp [a1]
    · have a1 : decide (c < d) = false := decide_eq_false (fun h' => by have := UInt8.lt_iff_toNat_lt.1 h'; omega)
      have a2 : (c == d) = false := by rw [beq_eq_false_iff_ne]; intro h'; rw [h'] at h; omega
      rw [a1, a2]
      by_cases h1 : c.toNat / 16 = d.toNat / 16
      · have h3 : ¬ c.toNat % 16 < d.toNat % 16 := by omega
        have h4 : ¬ c.toNat % 16 = d.toNat % 16 := by omega
        simp [h1, h3, h4]
      · have h2 : ¬ c.toNat / 16 < d.toNat / 16 := by omega
        simp [h1, h2]
end Go.Proofs.YtaflcaillcjmmaaDoor.Num
