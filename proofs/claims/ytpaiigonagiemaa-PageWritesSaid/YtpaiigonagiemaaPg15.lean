/- page: Write and Read of any place, by the program and by the reference. -/
import Derived.Test.YtpaiigonagiemaaPg14
namespace Go.Proofs.Ytpaiigonagiemaa.PAll
open Go.Proofs.Ytpaiigonagiemaa.Help
open Go.RowKit Go.Proofs.YtpaiigonagiemaaW.PrintWords Go.Proofs.YtpaiigonagiemaaW.PrintLast Go.Proofs.YtpaiigonagiemaaW.PrintMore
open Go.Proofs.Ytpaiigonagiemaa.Num (isB enc psz wrapB unwrapB isB_append isB_take isB_drop isB_nil wrapB_length wrapB_isB)
set_option linter.unusedVariables false
set_option linter.unusedSimpArgs false
/-- Which blocks a page writes, and what is answered. -/
def wL (n : Nat) (at_ : Int) (b : List Int) : List (Int × List Int) := if 0 ≤ at_ ∧ at_ + (psz b.length : Int) ≤ n then pgW at_ (wrapB b) (psz b.length) else []
def wE (n : Nat) (at_ : Int) (b : List Int) : Int := if 0 ≤ at_ ∧ at_ + (psz b.length : Int) ≤ n then 0 else 9
/-- What a page that is read tells, and what is answered. -/
def rP (n : Nat) (B : List Int) (L : List (Int × List Int)) (at_ m : Int) : List Int × Int := if 1 ≤ m ∧ 0 ≤ at_ ∧ at_ + m ≤ n then unwrapB (pgR B L at_ m.toNat) else ([], 9)
theorem page_writeX {w0 W : World} {D : Nat → Option MSt} {R : List (Nat × Obj)} (h : Mix w0 W D R) {i p n : Nat} {B : List Int} (hi : D i = some ⟨false, p, n, B, []⟩) {at_ : Int} (h1 : -9223372036854775808 ≤ at_)
    {A : Option Addr} {c : Nat} {b : List Int} (hr : Kd.C (Kd.int .u8) W A b.length b) (hc : b.length ≤ c) (hB : isB b) (h8 : b.length ≤ 8192) :
    Calls Try.prog 17 #[.pointer (some ⟨p, 0, none⟩), .int .i64 at_, .slice A b.length c] W fun e w' => e = .returned (.int .i64 (wE n at_ b)) ∧ ∃ R', Mix w0 w' (updM D i ⟨false, p, n, B, wL n at_ b⟩) R' := by
  by_cases hf : 0 ≤ at_ ∧ at_ + (psz b.length : Int) ≤ n
  · unfold wE wL
    rw [if_pos hf, if_pos hf]
    refine (page_write h hi (by simp) hf.1 hr hc hB h8 hf.2).mono ?_
    rintro e w' ⟨rfl, g, o, h'⟩
    exact ⟨rfl, _, h'⟩
  · unfold wE wL
    rw [if_neg hf, if_neg hf, updM_self hi]
    refine (page_write_bad h hi h1 hr hc hB h8 hf).mono ?_
    rintro e w' ⟨rfl, hB'⟩
    exact ⟨rfl, _, h.below hB'⟩
theorem ref_page_writeX {w0 W : World} {D : Nat → Option MSt} {R : List (Nat × Obj)} (h : Mix w0 W D R) {i p n : Nat} {B : List Int} (hi : D i = some ⟨true, p, n, B, []⟩) {at_ : Int} (h1 : -9223372036854775808 ≤ at_)
    {A : Option Addr} {c : Nat} {b : List Int} (hr : Kd.C (Kd.int .u8) W A b.length b) (hc : b.length ≤ c) (hB : isB b) (h8 : b.length ≤ 8192) :
    Calls Try.prog 20 #[.pointer (some ⟨p, 0, none⟩), .int .i64 at_, .slice A b.length c] W fun e w' => e = .returned (.int .i64 (wE n at_ b)) ∧ ∃ R', Mix w0 w' (updM D i ⟨true, p, n, B, wL n at_ b⟩) R' := by
  by_cases hf : 0 ≤ at_ ∧ at_ + (psz b.length : Int) ≤ n
  · unfold wE wL
    rw [if_pos hf, if_pos hf]
    refine (ref_page_write h hi (by simp) hf.1 hr hc hB h8 hf.2).mono ?_
    rintro e w' ⟨rfl, g, o, h'⟩
    exact ⟨rfl, _, h'⟩
  · unfold wE wL
    rw [if_neg hf, if_neg hf, updM_self hi]
    refine (ref_page_write_bad h hi h1 hr hc hB h8 hf).mono ?_
    rintro e w' ⟨rfl, hB'⟩
    exact ⟨rfl, _, h.below hB'⟩
theorem page_readX {w0 W : World} {D : Nat → Option MSt} {R : List (Nat × Obj)} (h : Mix w0 W D R) {i p n : Nat} {B : List Int} {L : List (Int × List Int)} (hi : D i = some ⟨false, p, n, B, L⟩) (hl : L.length < 4294967296) (hBB : isB B) (hLB : ∀ x ∈ L, isB x.2) (at_ m : Int) :
    Calls Try.prog 18 #[.pointer (some ⟨p, 0, none⟩), .int .i64 at_, .int .i64 m] W fun e w' => ∃ v0_ : Value, e = .returned (.tuple #[v0_, .int .i64 (rP n B L at_ m).2]) ∧ Kd.R (Kd.int .u8) 5 w' W.heap.size (fun _ => True) v0_ (rP n B L at_ m).1 ∧ Below W.heap.size W w' := by
  by_cases hf : 1 ≤ m ∧ 0 ≤ at_ ∧ at_ + m ≤ n
  · unfold rP
    rw [if_pos hf]
    obtain ⟨k, rfl⟩ := Int.eq_ofNat_of_zero_le (show 0 ≤ m by omega)
    exact page_read h hi hl hBB hLB (m := k) hf.2.1 (by omega) hf.2.2
  · unfold rP
    rw [if_neg hf]
    refine (page_read_bad h hi (at_ := at_) (m := m) (by omega)).mono ?_
    rintro e w' ⟨rfl, rfl⟩
    exact ⟨_, rfl, Kd.R_nil _ _ _ _ _, Below.refl _ _⟩
theorem ref_page_readX {w0 W : World} {D : Nat → Option MSt} {R : List (Nat × Obj)} (h : Mix w0 W D R) {i p n : Nat} {B : List Int} {L : List (Int × List Int)} (hi : D i = some ⟨true, p, n, B, L⟩) (hl : L.length < 4294967296) (hBB : isB B) (hLB : ∀ x ∈ L, isB x.2) (at_ m : Int) :
    Calls Try.prog 24 #[.pointer (some ⟨p, 0, none⟩), .int .i64 at_, .int .i64 m] W fun e w' => ∃ v0_ : Value, e = .returned (.tuple #[v0_, .int .i64 (rP n B L at_ m).2]) ∧ Kd.R (Kd.int .u8) 5 w' W.heap.size (fun _ => True) v0_ (rP n B L at_ m).1 ∧ Below W.heap.size W w' := by
  by_cases hf : 1 ≤ m ∧ 0 ≤ at_ ∧ at_ + m ≤ n
  · unfold rP
    rw [if_pos hf]
    obtain ⟨k, rfl⟩ := Int.eq_ofNat_of_zero_le (show 0 ≤ m by omega)
    exact ref_page_read h hi hl hBB hLB (m := k) hf.2.1 (by omega) hf.2.2
  · unfold rP
    rw [if_neg hf]
    refine (ref_page_read_bad h hi (at_ := at_) (m := m) (by omega)).mono ?_
    rintro e w' ⟨rfl, rfl⟩
    exact ⟨_, rfl, Kd.R_nil _ _ _ _ _, Below.refl _ _⟩
theorem psz_le11 {n : Nat} (h : n ≤ 600) : psz n ≤ 11 := by have := Num.enc_len2 (n := n) (by omega); unfold psz; omega
theorem wL_length {n : Nat} {at_ : Int} {b : List Int} (h : b.length ≤ 600) : (wL n at_ b).length ≤ 11 := by
  have := psz_le11 h
  unfold wL
  split
  · rw [pgW_length]; exact this
  · simp
theorem wL_isB {n : Nat} {at_ : Int} {b : List Int} (hB : isB b) : ∀ y ∈ wL n at_ b, isB y.2 := by
  unfold wL
  split
  · exact pgW_isB (wrapB_isB hB) _ _
  · intro y hy; cases hy
theorem wE_or (n : Nat) (at_ : Int) (b : List Int) : wE n at_ b = 9 ∨ (wE n at_ b = 0 ∧ 0 ≤ at_ ∧ at_ + (psz b.length : Int) ≤ n) := by
  unfold wE
  split
  · rename_i h; exact .inr ⟨rfl, h⟩
  · exact .inl rfl
theorem rP_wL {n : Nat} {at_ : Int} {b B : List Int} (hB : isB b) (h8 : b.length ≤ 8192) (hf : 0 ≤ at_ ∧ at_ + (psz b.length : Int) ≤ n) : rP n B (wL n at_ b) at_ (psz b.length : Int) = (b, 0) := by
  have h1 := Num.psz_fits b.length
  unfold rP wL
  rw [if_pos ⟨by omega, hf.1, hf.2⟩, if_pos hf, Int.toNat_natCast]
  have := pgR_pgW B [] at_ (wrapB b) (psz b.length) (psz b.length) (Nat.le_refl _)
  rw [List.nil_append] at this
  rw [this, List.take_of_length_le (by rw [wrapB_length]; omega), Num.unwrap_wrap hB h8]
end Go.Proofs.Ytpaiigonagiemaa.PAll
