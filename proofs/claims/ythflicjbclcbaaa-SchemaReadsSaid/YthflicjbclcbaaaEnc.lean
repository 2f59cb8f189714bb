import Derived.Test.YthflicjbclcbaaaWWords
import Derived.Test.YthflicjbclcbaaaWMore
import Derived.Laws.BitsAllLaws
import Derived.Laws.Strings
/- Numbers in bytes, seven bits a byte: plain lemmas (no program). -/
set_option linter.unusedSimpArgs false
set_option linter.unusedVariables false
namespace Go.Proofs.Ythflicjbclcbaaa.Num
open Go Go.RowKit Go.Proofs.YthflicjbclcbaaaW.PrintWords Go.Proofs.YthflicjbclcbaaaW.PrintLast Go.Proofs.YthflicjbclcbaaaW.PrintMore
def isB (l : List Int) : Prop := ∀ x ∈ l, 0 ≤ x ∧ x ≤ 255
theorem isB_of_wf {l : List Int} (h : ∀ x ∈ l, (Lit.int .u8 x).wf = true) : isB l := by
  intro x hx
  have := h x hx
  simp [Lit.wf, IntKind.min, IntKind.max, IntKind.signed, IntKind.bits] at this
  omega
theorem isB_nil : isB [] := fun x hx => by cases hx
theorem isB_append {a b : List Int} (ha : isB a) (hb : isB b) : isB (a ++ b) := by
  intro x hx
  rcases List.mem_append.mp hx with h | h
  · exact ha x h
  · exact hb x h
theorem isB_take {a : List Int} (ha : isB a) (n : Nat) : isB (a.take n) := fun x hx => ha x (List.mem_of_mem_take hx)
theorem isB_drop {a : List Int} (ha : isB a) (n : Nat) : isB (a.drop n) := fun x hx => ha x (List.mem_of_mem_drop hx)
theorem isB_cons {x : Int} {l : List Int} (h : isB (x :: l)) : (0 ≤ x ∧ x ≤ 255) ∧ isB l := ⟨h x (by simp), fun y hy => h y (by simp [hy])⟩
theorem wf_i64 {a : Int} (h : (Lit.int .i64 a).wf = true) : -9223372036854775808 ≤ a ∧ a ≤ 9223372036854775807 := by
  simp [Lit.wf, IntKind.min, IntKind.max, IntKind.signed, IntKind.bits] at h
  omega
theorem wf_u64 {a : Int} (h : (Lit.int .u64 a).wf = true) : 0 ≤ a ∧ a ≤ 18446744073709551615 := by
  simp [Lit.wf, IntKind.min, IntKind.max, IntKind.signed, IntKind.bits] at h
  omega
theorem wf_u16 {a : Int} (h : (Lit.int .u16 a).wf = true) : 0 ≤ a ∧ a ≤ 65535 := by
  simp [Lit.wf, IntKind.min, IntKind.max, IntKind.signed, IntKind.bits] at h
  omega
theorem wf_u8 {a : Int} (h : (Lit.int .u8 a).wf = true) : 0 ≤ a ∧ a ≤ 255 := by
  simp [Lit.wf, IntKind.min, IntKind.max, IntKind.signed, IntKind.bits] at h
  omega
theorem wr {x : Int} (h0 : -9223372036854775808 ≤ x) (h1 : x ≤ 9223372036854775807) : wrap64 x = x := by unfold wrap64; omega
theorem wu {x : Int} (h0 : 0 ≤ x) (h1 : x ≤ 18446744073709551615) : IntKind.u64.wrap x = x := by
  simp [IntKind.wrap, IntKind.signed, IntKind.bits]; omega
/-- Bytes' texts are alike just where the bytes are. -/
theorem strOf_inj {a b : List Int} (ha : isB a) (hb : isB b) : ((strOfNums a).toList = (strOfNums b).toList) ↔ a = b := by
  constructor
  · intro h
    have h2 : (strOfNums a).data.toList = (strOfNums b).data.toList := by simpa only [ByteArray.toList_eq] using h
    simp only [strOfNums] at h2
    have h3 : a.map (fun x => UInt8.ofNat x.toNat) = b.map (fun x => UInt8.ofNat x.toNat) := by simpa using h2
    clear h h2
    induction a generalizing b with
    | nil => cases b with
      | nil => rfl
      | cons y b => simp at h3
    | cons x a ih => cases b with
      | nil => simp at h3
      | cons y b =>
        simp only [List.map_cons, List.cons.injEq] at h3
        obtain ⟨⟨x0, x1⟩, ha'⟩ := isB_cons ha
        obtain ⟨⟨y0, y1⟩, hb'⟩ := isB_cons hb
        have := ih ha' hb' h3.2
        have e : x.toNat % 256 = y.toNat % 256 := by
          have := congrArg UInt8.toNat h3.1
          simpa using this
        have : x = y := by omega
        simp_all
  · rintro rfl
    rfl
def enc (u : Nat) : List Int := if h : u < 128 then [(u : Int)] else ((u % 128 + 128 : Nat) : Int) :: enc (u / 128)
termination_by u
decreasing_by omega
theorem enc_lt {u : Nat} (h : u < 128) : enc u = [(u : Int)] := by rw [enc, dif_pos h]
theorem enc_ge {u : Nat} (h : 128 ≤ u) : enc u = ((u % 128 + 128 : Nat) : Int) :: enc (u / 128) := by rw [enc, dif_neg (by omega)]
theorem enc_isB (u : Nat) : isB (enc u) := by
  induction u using Nat.strongRecOn with
  | _ u ih =>
    by_cases h : u < 128
    · rw [enc_lt h]; intro x hx; simp at hx; omega
    · rw [enc_ge (by omega)]
      intro x hx
      rcases List.mem_cons.mp hx with rfl | hx
      · omega
      · exact ih _ (by omega) x hx
theorem enc_len_pos (u : Nat) : 0 < (enc u).length := by
  by_cases h : u < 128
  · rw [enc_lt h]; simp
  · rw [enc_ge (by omega)]; simp
theorem enc_len_le (n : Nat) : ∀ u : Nat, u < 128 ^ (n + 1) → (enc u).length ≤ n + 1 := by
  induction n with
  | zero => intro u h; rw [enc_lt (by omega)]; simp
  | succ n ih =>
    intro u h
    by_cases h2 : u < 128
    · rw [enc_lt h2]; simp
    · rw [enc_ge (by omega)]
      have := ih (u / 128) (by rw [Nat.div_lt_iff_lt_mul (by omega)]; rw [Nat.pow_succ] at h; omega)
      simp; omega
theorem enc_len10 {u : Nat} (h : u < 18446744073709551616) : (enc u).length ≤ 10 := enc_len_le 9 u (Nat.lt_trans h (by decide))
theorem enc_len_mono {a b : Nat} (h : a ≤ b) : (enc a).length ≤ (enc b).length := by
  induction b using Nat.strongRecOn generalizing a with
  | _ b ih =>
    by_cases ha : a < 128
    · rw [enc_lt ha]; have := enc_len_pos b; simp only [List.length_cons, List.length_nil]; omega
    · rw [enc_ge (u := a) (by omega), enc_ge (u := b) (by omega)]
      have := ih (b / 128) (by omega) (a := a / 128) (by omega)
      simp; omega
/-- Bytes as a number: from the n-th byte on, u so far. -/
def gd : Nat → Nat → List Int → Int × Int × Int
  | _, _, [] => (0, 0, 5)
  | n, u, x :: s =>
    if n = 9 ∧ 1 < x then (0, 0, 2) else
    if 0 < n ∧ x = 0 then (0, 0, 2) else
    if x < 128 then (((u + x.toNat * 128 ^ n : Nat) : Int), (n : Int) + 1, 0) else gd (n + 1) (u + (x.toNat % 128) * 128 ^ n) s
theorem pow9 : (128 : Nat) ^ 9 = 9223372036854775808 := by decide
theorem gd_enc (d : Nat) : ∀ (n u v : Nat) (t : List Int), n + d = 9 → (n = 0 ∨ 0 < v) → u + v * 128 ^ n < 18446744073709551616 → v < 2 * 128 ^ d →
    gd n u (enc v ++ t) = (((u + v * 128 ^ n : Nat) : Int), (n : Int) + (enc v).length, 0) := by
  induction d with
  | zero =>
    intro n u v t hn h0 hb hv
    obtain rfl : n = 9 := by omega
    have hv2 : v < 2 := by simpa using hv
    rw [enc_lt (by omega)]
    simp only [List.cons_append, List.nil_append, gd]
    rw [if_neg (by omega), if_neg (by omega), if_pos (by omega)]
    simp
  | succ d ih =>
    intro n u v t hn h0 hb hv
    by_cases h : v < 128
    · rw [enc_lt h]
      simp only [List.cons_append, List.nil_append, gd]
      rw [if_neg (by omega), if_neg (by omega), if_pos (by omega)]
      simp
    · rw [enc_ge (by omega)]
      simp only [List.cons_append, gd]
      rw [if_neg (by omega), if_neg (by omega), if_neg (by omega)]
      have e : (((v % 128 + 128 : Nat) : Int)).toNat % 128 = v % 128 := by omega
      rw [e]
      have e2 : u + v % 128 * 128 ^ n + v / 128 * 128 ^ (n + 1) = u + v * 128 ^ n := by
        have hvv : v = v % 128 + v / 128 * 128 := by omega
        have : v * 128 ^ n = (v % 128 + v / 128 * 128) * 128 ^ n := by rw [← hvv]
        rw [this, Nat.pow_succ, Nat.add_mul, Nat.mul_assoc (v / 128) 128 (128 ^ n), Nat.mul_comm 128 (128 ^ n)]
        omega
      rw [ih (n + 1) _ (v / 128) t (by omega) (by omega) (by rw [e2]; exact hb) (by rw [Nat.div_lt_iff_lt_mul (by omega)]; rw [Nat.pow_succ] at hv; omega), e2]
      simp only [List.length_cons]
      congr 2
      omega
theorem gd_put (u : Nat) (hu : u < 18446744073709551616) (t : List Int) : gd 0 0 (enc u ++ t) = ((u : Int), ((enc u).length : Int), 0) := by
  have := gd_enc 9 0 0 u t rfl (.inl rfl) (by simpa using hu) (by rw [pow9]; omega)
  simpa using this
/-- What is read is told so again. -/
theorem gd_back : ∀ (s : List Int) (n u : Nat) (U N : Int), isB s → n ≤ 9 → gd n u s = (U, N, 0) → u < 128 ^ n →
    ∃ v : Nat, U = ((u + v * 128 ^ n : Nat) : Int) ∧ (N = (n : Int) + (enc v).length) ∧ (enc v).length ≤ s.length ∧ s.take (enc v).length = enc v ∧ u + v * 128 ^ n < 18446744073709551616 ∧ (0 < n → 0 < v) := by
  intro s
  induction s with
  | nil => intro n u U N _ _ h; simp [gd] at h
  | cons x s ih =>
    intro n u U N hs hn h hu
    obtain ⟨⟨x0, x1⟩, hs'⟩ := isB_cons hs
    simp only [gd] at h
    by_cases c1 : n = 9 ∧ 1 < x
    · rw [if_pos c1] at h; simp at h
    · rw [if_neg c1] at h
      by_cases c2 : 0 < n ∧ x = 0
      · rw [if_pos c2] at h; simp at h
      · rw [if_neg c2] at h
        by_cases c3 : x < 128
        · rw [if_pos c3] at h
          simp only [Prod.mk.injEq] at h
          obtain ⟨rfl, rfl, _⟩ := h
          have hb : u + x.toNat * 128 ^ n < 18446744073709551616 := by
            by_cases h9 : n = 9
            · subst h9
              rw [pow9] at hu ⊢
              omega
            · have h8 : 128 ^ n ≤ 128 ^ 8 := Nat.pow_le_pow_right (by omega) (by omega)
              have h7 : x.toNat * 128 ^ n ≤ 127 * 128 ^ 8 := Nat.mul_le_mul (by omega) h8
              have : (127 : Nat) * 128 ^ 8 + 128 ^ 8 < 18446744073709551616 := by decide
              omega
          refine ⟨x.toNat, rfl, ?_, ?_, ?_, hb, fun _ => by omega⟩
          · rw [enc_lt (by omega)]; simp
          · rw [enc_lt (by omega)]; simp
          · rw [enc_lt (by omega)]; simp; omega
        · rw [if_neg c3] at h
          have hn8 : n ≤ 8 := by omega
          have hp : 0 < 128 ^ n := Nat.pow_pos (by omega)
          have hu2 : u + x.toNat % 128 * 128 ^ n < 128 ^ (n + 1) := by
            rw [Nat.pow_succ]
            have : x.toNat % 128 * 128 ^ n ≤ 127 * 128 ^ n := Nat.mul_le_mul (by omega) (Nat.le_refl _)
            omega
          obtain ⟨v, e1, e2, e3, e4, e5, e6⟩ := ih (n + 1) _ U N hs' (by omega) h hu2
          have hv0 := e6 (by omega)
          have E : u + x.toNat % 128 * 128 ^ n + v * 128 ^ (n + 1) = u + (x.toNat % 128 + v * 128) * 128 ^ n := by
            rw [Nat.pow_succ, Nat.add_mul, Nat.mul_assoc v 128 (128 ^ n), Nat.mul_comm 128 (128 ^ n)]
            omega
          have en : enc (x.toNat % 128 + v * 128) = x :: enc v := by
            rw [enc_ge (by omega)]
            have a1 : (x.toNat % 128 + v * 128) / 128 = v := by omega
            have a2 : ((((x.toNat % 128 + v * 128) % 128 + 128 : Nat) : Int)) = x := by omega
            rw [a1, a2]
          refine ⟨x.toNat % 128 + v * 128, by rw [e1, E], ?_, ?_, ?_, by rw [← E]; exact e5, fun _ => by omega⟩
          · rw [en, e2]; simp only [List.length_cons]; omega
          · rw [en]; simp only [List.length_cons]; omega
          · rw [en]; simp only [List.length_cons, List.take_succ_cons, e4]
/-- Of a front of a number nothing is read. -/
theorem gd_front : ∀ (j v n u : Nat), j < (enc v).length → n + (enc v).length ≤ 10 → gd n u ((enc v).take j) = (0, 0, 5) := by
  intro j
  induction j with
  | zero => intro v n u _ _; simp [gd]
  | succ j ih =>
    intro v n u hj hn
    have hv : 128 ≤ v := by
      rcases Nat.lt_or_ge v 128 with h | h
      · rw [enc_lt h] at hj; simp at hj
      · exact h
    rw [enc_ge hv] at hj hn ⊢
    simp only [List.length_cons] at hj hn
    simp only [List.take_succ_cons, gd]
    have hl := enc_len_pos (v / 128)
    rw [if_neg (by omega), if_neg (by omega), if_neg (by omega)]
    exact ih _ _ _ (by omega) (by omega)
theorem gd_res (s : List Int) : ∀ n u, isB s → gd n u s = (0, 0, 5) ∨ gd n u s = (0, 0, 2) ∨ ∃ U N, gd n u s = (U, N, 0) := by
  induction s with
  | nil => intro n u _; exact .inl rfl
  | cons x s ih =>
    intro n u hs
    obtain ⟨_, hs'⟩ := isB_cons hs
    simp only [gd]
    split
    · exact .inr (.inl rfl)
    · split
      · exact .inr (.inl rfl)
      · split
        · exact .inr (.inr ⟨_, _, rfl⟩)
        · exact ih _ _ hs'
end Go.Proofs.Ythflicjbclcbaaa.Num
