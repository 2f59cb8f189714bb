/- Rows of whole bytes packed one behind the other are packed at once; no conditions. -/
import Derived.Test.YtdkgmdikkaiemaaPurePackPuts
set_option linter.unusedSimpArgs false
set_option linter.unusedVariables false
namespace Go.Proofs.Ytdkgmdikkaiemaa.Pure
open Go Go.RowKit Go.Proofs.Ytdkgmdikkaiemaa.PAll Go.Proofs.YtdkgmdikkaiemaaW.PrintWords Go.Proofs.YtdkgmdikkaiemaaW.PrintLast Go.Proofs.YtdkgmdikkaiemaaW.PrintMore Go.Proofs.Ytdkgmdikkaiemaa.Num
theorem packs_join {l m r s : List Int} {c : Nat} (h : packs l (8 * c) r) (h2 : packs m (8 * c) s) : packs (l ++ m) (8 * c) (r ++ s) := by
  have e1 : l.length * (8 * c) = 8 * (l.length * c) := by rw [Nat.mul_left_comm]
  have e2 : m.length * (8 * c) = 8 * (m.length * c) := by rw [Nat.mul_left_comm]
  have hr : r.length = l.length * c := by rw [h.1, e1]; omega
  have hs : s.length = m.length * c := by rw [h2.1, e2]; omega
  refine ⟨?_, isB_append h.2.1 h2.2.1, fun j => ?_⟩
  · rw [List.length_append, List.length_append, Nat.add_mul, e1, e2, hr, hs]; omega
  · rw [bitAt_append, hr, h.2.2, h2.2.2]
    unfold bitOf
    rw [List.length_append, Nat.add_mul, e1, e2]
    rcases Nat.eq_zero_or_pos c with hc | hc
    · subst hc; simp
    · split
      · rename_i hj
        have hi : j / (8 * c) < l.length := by rw [Nat.div_lt_iff_lt_mul (by omega), e1]; exact hj
        rw [decide_eq_true (by omega), decide_eq_true (by omega), List.getD_eq_getElem?_getD, List.getD_eq_getElem?_getD, List.getElem?_append_left hi]
      · rename_i hj
        have hj2 : j = (j - 8 * (l.length * c)) + (8 * c) * l.length := by
          rw [Nat.mul_assoc, Nat.mul_comm c]; omega
        have hd : j / (8 * c) = (j - 8 * (l.length * c)) / (8 * c) + l.length := by
          conv => lhs; rw [hj2]
          rw [Nat.add_mul_div_left _ _ (by omega)]
        have hmm : j % (8 * c) = (j - 8 * (l.length * c)) % (8 * c) := by
          conv => lhs; rw [hj2]
          rw [Nat.add_mul_mod_self_left]
        rw [hd, hmm, List.getD_eq_getElem?_getD, List.getD_eq_getElem?_getD, List.getElem?_append_right (Nat.le_add_left _ _), Nat.add_sub_cancel]
        congr 2
        apply propext
        omega
theorem strOf_append (a b : List Int) : strOfNums a ++ strOfNums b = strOfNums (a ++ b) := by
  unfold strOfNums
  apply ByteArray.ext
  simp [ByteArray.data_append]
theorem strOf_size (a : List Int) : (strOfNums a).size = a.length := by
  simp [strOfNums, ByteArray.size]
theorem isU_append {a b : List Int} (ha : isU a) (hb : isU b) : isU (a ++ b) := by
  intro x hx
  rcases List.mem_append.mp hx with h | h
  · exact ha x h
  · exact hb x h
theorem wid_append (a b : List Int) : wid (a ++ b) = max (wid a) (wid b) := by
  induction a with
  | nil => simp [wid]
  | cons x a ih => simp only [List.cons_append, wid, ih, Nat.max_assoc]
theorem packJoins_j0 {a b : List Int} {c k : Nat} {n : Int} (ha : isU a) (hb : isU b) (hla : a.length ≤ 100) (hlb : b.length ≤ 100) (hc : c ≤ 8) (hn : wrap64 (8 * (wrap64 (Int.tmod n 9))) = ((8 * c : Nat) : Int)) (hk : 100000 ≤ k) :
    norialaw4_PackJoins.j0 (k + 1) a b n false = some true := by
  have hab := isU_append ha hb
  have hlab : (a ++ b).length = a.length + b.length := List.length_append
  simp only [norialaw4_PackJoins.j0]
  rw [if_neg (by simp), hn]
  by_cases h1 : wid a ≤ 8 * c
  · obtain ⟨r, hr, he⟩ := put_ok (l := a) (w := 8 * c) (k := k) ha (by omega) (by omega) h1 (by omega)
    rw [he, Option.bind_some]
    by_cases h2 : wid b ≤ 8 * c
    · obtain ⟨s, hs, hf⟩ := put_ok (l := b) (w := 8 * c) (k := k) hb (by omega) (by omega) h2 (by omega)
      obtain ⟨q, hq, hg⟩ := put_ok (l := a ++ b) (w := 8 * c) (k := k) hab (by omega) (by omega) (by rw [wid_append]; omega) (by omega)
      have e := packs_unique hq (packs_join hr hs)
      subst e
      have hm1 : a.length * (8 * c) ≤ 100 * 64 := Nat.mul_le_mul hla (by omega)
      have hm2 : b.length * (8 * c) ≤ 100 * 64 := Nat.mul_le_mul hlb (by omega)
      have h3 : r.length ≤ 1000 := by rw [hr.1]; omega
      have h4 : s.length ≤ 1000 := by rw [hs.1]; omega
      rw [hf, Option.bind_some, Option.bind_some, if_pos (by simp; omega), Option.bind_some, List.nil_append, if_pos (by omega), hg, Option.bind_some, if_pos rfl, if_pos rfl, if_pos rfl, if_pos (by rw [strOf_size, strOf_size]; show r.length + s.length ≤ _; omega), strOf_append]
      simp
    · rw [put_bad (k := k) hb (by omega) (by omega) (by omega), Option.bind_some, Option.bind_some, if_pos (by simp; omega), Option.bind_some, List.nil_append, if_pos (by omega), put_bad (k := k) hab (by omega) (by rw [wid_append]; omega) (by omega), Option.bind_some, if_pos rfl, if_neg (by decide)]
      rfl
  · rw [put_bad (k := k) ha (by omega) (by omega) (by omega), Option.bind_some]
    obtain ⟨x, hx⟩ : ∃ x, pack_Put.f k b ((8 * c : Nat) : Int) = some x := by
      by_cases h2 : wid b ≤ 8 * c
      · obtain ⟨s, hs, hf⟩ := put_ok (l := b) (w := 8 * c) (k := k) hb (by omega) (by omega) h2 (by omega)
        exact ⟨_, hf⟩
      · exact ⟨_, put_bad (k := k) hb (by omega) (by omega) (by omega)⟩
    rw [hx, Option.bind_some, Option.bind_some, if_pos (by simp; omega), Option.bind_some, List.nil_append, if_pos (by omega), put_bad (k := k) hab (by omega) (by rw [wid_append]; omega) (by omega), Option.bind_some, if_neg (by decide)]
    rfl
theorem PackJoins : norialaw4_PackJoins.Pure := by
  intro a b n hL1 hL2 hwa hL3 hL4 hwb hn
  have ha := isU_of_wf hwa
  have hb := isU_of_wf hwb
  have hn := wf_u8 hn
  obtain ⟨k, hk⟩ : ∃ k, 100000 ≤ k := ⟨100000, Nat.le_refl _⟩
  refine ⟨k + 1, ?_⟩
  have ht : norialaw4_PackJoins.j0 (k + 1) a b n true = some true := by
    simp only [norialaw4_PackJoins.j0]
    rw [if_pos trivial]
  unfold norialaw4_PackJoins.f
  rw [known_k (by omega), Option.bind_some, if_pos rfl]
  by_cases h1 : (a.length : Int) > 100
  · rw [if_pos h1]; exact ht
  · rw [if_neg h1]
    by_cases h2 : (b.length : Int) > 100
    · rw [decide_eq_true h2]; exact ht
    · rw [decide_eq_false h2]
      obtain ⟨m, rfl⟩ := Int.eq_ofNat_of_zero_le hn.1
      refine packJoins_j0 (c := m % 9) ha hb (by omega) (by omega) (by omega) ?_ hk
      rw [show Int.tmod (m : Int) 9 = ((m % 9 : Nat) : Int) from rfl, wr (x := ((m % 9 : Nat) : Int)) (by omega) (by omega), wr (by omega) (by omega)]
      omega
end Go.Proofs.Ytdkgmdikkaiemaa.Pure
