/- Numbers put one behind the other are read one by one, of a front those that are whole; no conditions. -/
import Derived.Test.YtfiihimbkjcflaaNKnown
import Derived.Test.YtfiihimbkjcflaaNPut
import Derived.Test.YtfiihimbkjcflaaNGet
set_option linter.unusedSimpArgs false
set_option linter.unusedVariables false
namespace Go.Proofs.Ytfiihimbkjcflaa.Pure
open Go Go.RowKit Go.Proofs.Ytfiihimbkjcflaa.PAll Go.Proofs.Ytfiihimbkjcflaa.Num Go.Proofs.YtfiihimbkjcflaaW.PrintWords Go.Proofs.YtfiihimbkjcflaaW.PrintLast
def encs : List Int → List Int
  | [] => []
  | x :: s => enc x.toNat ++ encs s
def endsFrom : Nat → List Int → List Int
  | _, [] => []
  | n, x :: s => ((n + (enc x.toNat).length : Nat) : Int) :: endsFrom (n + (enc x.toNat).length) s
theorem encs_append (p s : List Int) : encs (p ++ s) = encs p ++ encs s := by
  induction p with
  | nil => rfl
  | cons x p ih => simp only [List.cons_append, encs, ih, List.append_assoc]
theorem ends_append (p s : List Int) : ∀ n, endsFrom n (p ++ s) = endsFrom n p ++ endsFrom (n + (encs p).length) s := by
  induction p with
  | nil => intro n; simp [endsFrom, encs]
  | cons x p ih => intro n; simp only [List.cons_append, endsFrom, encs, ih, List.length_append, Nat.add_assoc]
theorem ends_length (p : List Int) : ∀ n, (endsFrom n p).length = p.length := by
  induction p with
  | nil => intro n; rfl
  | cons x p ih => intro n; simp only [endsFrom, List.length_cons, ih]
theorem encs_isB (p : List Int) : isB (encs p) := by
  induction p with
  | nil => exact isB_nil
  | cons x p ih => exact isB_append (enc_isB _) ih
def allU (l : List Int) : Prop := ∀ x ∈ l, 0 ≤ x ∧ x ≤ 18446744073709551615
theorem encs_le (p : List Int) (h : allU p) : (encs p).length ≤ 10 * p.length := by
  induction p with
  | nil => simp [encs]
  | cons x p ih =>
    have := ih (fun y hy => h y (by simp [hy]))
    have h2 := h x (by simp)
    have := enc_len10 (u := x.toNat) (by omega)
    simp only [encs, List.length_append, List.length_cons]
    omega
theorem rd_mid (p s : List Int) (x : Int) : rd (p ++ x :: s) (p.length : Int) = x := by
  unfold rd
  simp [List.getD]
theorem rows_l1 : ∀ (s p l : List Int) (k kk : Nat), l = p ++ s → allU l → l.length ≤ 60 → (encs p).length ≤ kk → kk ≤ (encs l).length → s.length + 100 < k →
    norialaw1_NumRows.l1 k l (encs l) (endsFrom 0 l) kk ((encs p).length : Int) (p.length : Int) = some true := by
  intro s
  induction s with
  | nil =>
    intro p l k kk hl hu h60 h1 h2 hk
    obtain ⟨k, rfl⟩ : ∃ m, k = m + 1 := ⟨k - 1, by omega⟩
    simp only [List.append_nil] at hl
    subst hl
    simp only [norialaw1_NumRows.l1]
    rw [if_neg (by omega)]
    simp
  | cons x s ih =>
    intro p l k kk hl hu h60 h1 h2 hk
    obtain ⟨k, rfl⟩ : ∃ m, k = m + 1 := ⟨k - 1, by omega⟩
    have hle := encs_le l hu
    have hx := hu x (by rw [hl]; simp)
    have hlp : p.length < l.length := by rw [hl]; simp
    simp only [List.length_cons] at hk
    simp only [norialaw1_NumRows.l1]
    rw [if_pos (by omega), if_pos (by omega), if_pos (by omega), Int.toNat_natCast]
    rw [get_eq k (isB_take (encs_isB l) _) (by omega) (by rw [List.length_take]; omega) (by rw [List.length_take]; omega) (by omega), Option.bind_some, Int.toNat_natCast]
    have hE : (encs l) = encs p ++ (enc x.toNat ++ encs s) := by rw [hl, encs_append]; rfl
    have hd : ((encs l).take kk).drop (encs p).length = (enc x.toNat ++ encs s).take (kk - (encs p).length) := by
      rw [List.drop_take, hE, List.drop_left]
    have hr : rd (endsFrom 0 l) (p.length : Int) = (((encs p).length + (enc x.toNat).length : Nat) : Int) := by
      have e : endsFrom 0 l = endsFrom 0 p ++ (((0 + (encs p).length + (enc x.toNat).length : Nat) : Int) :: endsFrom (0 + (encs p).length + (enc x.toNat).length) s) := by rw [hl, ends_append]; rfl
      have e2 := rd_mid (endsFrom 0 p) (endsFrom (0 + (encs p).length + (enc x.toNat).length) s) ((0 + (encs p).length + (enc x.toNat).length : Nat) : Int)
      rw [ends_length] at e2
      rw [e, e2, Nat.zero_add]
    rw [if_pos (by omega), if_pos (by rw [ends_length]; omega), hr, hd]
    have h10 := enc_len10 (u := x.toNat) (by omega)
    by_cases c : (((encs p).length + (enc x.toNat).length : Nat) : Int) > (kk : Int)
    · rw [if_pos c, List.take_append_of_le_length (by omega), gd_front _ _ 0 0 (by omega) (by omega)]
      rfl
    · rw [if_neg c]
      obtain ⟨j, hj⟩ : ∃ j, kk - (encs p).length = (enc x.toNat).length + j := ⟨kk - (encs p).length - (enc x.toNat).length, by omega⟩
      rw [hj, List.take_length_add_append, gd_put _ (by omega)]
      simp only [if_true]
      have hlx : rd l (p.length : Int) = x := by rw [hl]; exact rd_mid p s x
      rw [hlx, if_pos (by omega), wr (x := ((encs p).length : Int) + ((enc x.toNat).length : Int)) (by omega) (by omega), if_pos (by omega), wr (x := (p.length : Int) + 1) (by omega) (by omega)]
      have := ih (p ++ [x]) l k kk (by rw [hl]; simp) hu h60 (by rw [encs_append]; simp [encs]; omega) h2 (by omega)
      rw [encs_append] at this
      simp only [encs, List.append_nil, List.length_append, List.length_cons, List.length_nil] at this
      rw [show ((encs p).length : Int) + ((enc x.toNat).length : Int) = (((encs p).length + (enc x.toNat).length : Nat) : Int) from by omega, show (p.length : Int) + 1 = ((p.length + (0 + 1) : Nat) : Int) from by omega]
      exact this
theorem rows_l0 : ∀ (s p l : List Int) (k : Nat) (cut : Int), l = p ++ s → allU l → l.length ≤ 60 → 0 ≤ cut → cut ≤ 255 → s.length + s.length + p.length + 200 < k →
    norialaw1_NumRows.l0 k l cut (encs p) (endsFrom 0 p) (p.length : Int) = some true := by
  intro s
  induction s with
  | nil =>
    intro p l k cut hl hu h60 c0 c1 hk
    obtain ⟨k, rfl⟩ : ∃ m, k = m + 1 := ⟨k - 1, by omega⟩
    simp only [List.append_nil] at hl
    subst hl
    have hle := encs_le l hu
    simp only [norialaw1_NumRows.l0]
    rw [if_neg (by omega), wr (x := ((encs l).length : Int) + 1) (by omega) (by omega), if_neg (by omega), wr (x := cut) (by omega) (by omega)]
    have ht : Int.tmod cut (((encs l).length : Int) + 1) = cut % (((encs l).length : Int) + 1) := Int.tmod_eq_emod_of_nonneg c0
    rw [ht]
    have hk0 : 0 ≤ cut % (((encs l).length : Int) + 1) := Int.emod_nonneg _ (by omega)
    have hk1 : cut % (((encs l).length : Int) + 1) < ((encs l).length : Int) + 1 := Int.emod_lt_of_pos _ (by omega)
    obtain ⟨q, hq⟩ := Int.eq_ofNat_of_zero_le hk0
    rw [hq] at hk1 ⊢
    exact rows_l1 l [] l k q rfl hu h60 (by simp [encs]) (by omega) (by simp at hk; omega)
  | cons x s ih =>
    intro p l k cut hl hu h60 c0 c1 hk
    obtain ⟨k, rfl⟩ : ∃ m, k = m + 1 := ⟨k - 1, by omega⟩
    have hx := hu x (by rw [hl]; simp)
    have hlp : p.length < l.length := by rw [hl]; simp
    have hle := encs_le p (fun y hy => hu y (by rw [hl]; simp [hy]))
    simp only [norialaw1_NumRows.l0]
    have hlx : rd l (p.length : Int) = x := by rw [hl]; exact rd_mid p s x
    simp only [List.length_cons] at hk
    rw [if_pos (by omega), if_pos (by omega), hlx, put_eq k hx.1 hx.2 (by omega) (by omega), Option.bind_some, if_pos (by rw [ends_length]; omega), wr (by omega) (by omega)]
    have := ih (p ++ [x]) l k cut (by rw [hl]; simp) hu h60 c0 c1 (by simp; omega)
    rw [encs_append, ends_append] at this
    simp only [encs, endsFrom, List.append_nil, Nat.zero_add] at this
    rw [show (p.length : Int) + 1 = ((p ++ [x]).length : Int) from by simp]
    rw [List.length_append]
    exact this
theorem NumRows : norialaw1_NumRows.Pure := by
  intro l0 a1 _ _ hb ha
  have hu := wf_u8 ha
  have hU : allU l0 := fun x hx => wf_u64 (hb x hx)
  obtain ⟨k, hk⟩ : ∃ k, 1000 ≤ k := ⟨_, Nat.le_refl _⟩
  refine ⟨k, ?_⟩
  unfold norialaw1_NumRows.f
  rw [known_k (by omega), Option.bind_some, if_pos rfl]
  by_cases hl : (l0.length : Int) > 60
  · rw [if_pos hl]
  · rw [if_neg hl]
    exact rows_l0 l0 [] l0 k a1 rfl hU (by omega) hu.1 hu.2 (by simp; omega)
end Go.Proofs.Ytfiihimbkjcflaa.Pure
