import Derived.Test.YtokekjbodkjjpaaRRun
/- The reference's PutRuns, Runs. -/
set_option linter.unusedSimpArgs false
set_option linter.unusedVariables false
namespace Go.Proofs.Ytokekjbodkjjpaa.Num
open Go Go.RowKit Go.Proofs.Ytokekjbodkjjpaa.PAll Go.Proofs.YtokekjbodkjjpaaW.PrintWords Go.Proofs.YtokekjbodkjjpaaW.PrintLast Go.Proofs.YtokekjbodkjjpaaW.PrintMore
theorem refput_l1 {pre t acc : List Int} {n : Nat} {v : Int} (h1 : 1 ≤ n) (hv : 0 ≤ v ∧ v ≤ 18446744073709551615) (ht : t.head? ≠ some v) (hL : (pre ++ (List.replicate n v ++ t)).length ≤ 1000000) (hA : acc.length ≤ 70368744170000) : ∀ (d i k : Nat), i + d = n → 1 ≤ i → d + 10 < k →
    noriaref11_PutRuns.l1 k (pre ++ (List.replicate n v ++ t)) acc pre.length i = noriaref11_PutRuns.l0 (k - (d + 1)) (pre ++ (List.replicate n v ++ t)) (acc ++ (enc n ++ enc v.toNat)) ((pre.length + n : Nat) : Int) := by
  have hlen : (pre ++ (List.replicate n v ++ t)).length = pre.length + (n + t.length) := by simp only [List.length_append, List.length_replicate]
  have h0 := rd_rep (pre := pre) (t := t) (v := v) (j := 0) (n := n) (by omega)
  simp only [Nat.add_zero] at h0
  have e1 := enc_len10 (u := n) (by omega)
  have p1 : ∀ kk, 10 ≤ kk → noriaref11_Put.f kk acc (IntKind.u64.wrap (n : Int)) = some (acc ++ enc n) := by
    intro kk hk
    rw [wu (by omega) (by omega), rput_eq kk (by omega) (by omega) (by omega) hk, Int.toNat_natCast]
  have p2 : ∀ kk, 10 ≤ kk → noriaref11_Put.f kk (acc ++ enc n) v = some (acc ++ enc n ++ enc v.toNat) := by
    intro kk hk
    rw [rput_eq kk hv.1 hv.2 (by rw [List.length_append]; omega) hk]
  intro d
  induction d with
  | zero =>
    intro i k hi h2 hk
    obtain ⟨k, rfl⟩ : ∃ m, k = m + 1 := ⟨k - 1, by omega⟩
    obtain rfl : i = n := by omega
    simp only [noriaref11_PutRuns.l1]
    rw [hlen, wr (x := (pre.length : Int) + (i : Int)) (by omega) (by omega), p1 k (by omega), Option.bind_some, h0, p2 k (by omega), Option.bind_some, show k + 1 - (0 + 1) = k from by omega, List.append_assoc,
      show (pre.length : Int) + (i : Int) = ((pre.length + i : Nat) : Int) from by omega]
    by_cases c : ((pre.length + i : Nat) : Int) < ((pre.length + (i + t.length) : Nat) : Int)
    · rw [if_pos c, if_pos (by omega), if_pos (by omega), if_pos (by omega), if_neg (rd_behind (by omega) ht)]
    · rw [if_neg c, Option.bind_some, if_pos (by omega), if_pos (by omega), p2 k (by omega), Option.bind_some, List.append_assoc]
  | succ d ih =>
    intro i k hi h2 hk
    obtain ⟨k, rfl⟩ : ∃ m, k = m + 1 := ⟨k - 1, by omega⟩
    have hr := rd_rep (pre := pre) (t := t) (v := v) (j := i) (n := n) (by omega)
    simp only [noriaref11_PutRuns.l1]
    rw [hlen, wr (x := (pre.length : Int) + (i : Int)) (by omega) (by omega), show (pre.length : Int) + (i : Int) = ((pre.length + i : Nat) : Int) from by omega, hr, h0, if_pos (by omega), if_pos (by omega), if_pos (by omega), if_pos (by omega), if_pos rfl, wr (by omega) (by omega)]
    rw [show k + 1 - (d + 1 + 1) = k - (d + 1) from by omega, ← ih (i + 1) k (by omega) (by omega) (by omega)]
    rfl
theorem refput_l0 : ∀ (rs : List (Nat × Int)) (L pre acc : List Int) (k : Nat), good rs → L = pre ++ expand rs → L.length ≤ 1000000 → acc.length + 20 * (expand rs).length ≤ 70368744100000 → 2 * (expand rs).length + 20 < k →
    noriaref11_PutRuns.l0 k L acc pre.length = some (acc ++ encR rs) := by
  intro rs
  induction rs with
  | nil =>
    intro L pre acc k _ hE hL hA hk
    obtain ⟨k, rfl⟩ : ∃ m, k = m + 1 := ⟨k - 1, by omega⟩
    subst hE
    simp only [noriaref11_PutRuns.l0, encR]
    rw [if_neg (by simp [expand]), List.append_nil]
  | cons p rs ih =>
    intro L pre acc k hg hE hL hA hk
    obtain ⟨k, rfl⟩ : ∃ m, k = m + 1 := ⟨k - 1, by omega⟩
    obtain ⟨n, v⟩ := p
    obtain ⟨h1, h2, h3, h4⟩ := hg
    have hE : L = pre ++ (List.replicate n v ++ expand rs) := hE
    subst hE
    have hlen : (pre ++ (List.replicate n v ++ expand rs)).length = pre.length + (n + (expand rs).length) := by simp only [List.length_append, List.length_replicate]
    have hlen2 : (expand ((n, v) :: rs)).length = n + (expand rs).length := by simp only [expand, List.length_append, List.length_replicate]
    rw [hlen2] at hA hk
    have e1 := enc_len10 (u := n) (by omega)
    have e2 := enc_len10 (u := v.toNat) (by omega)
    have h := refput_l1 (pre := pre) (t := expand rs) (acc := acc) h1 h2 h3 hL (by omega) (n - 1) 1 k (by omega) (by omega) (by omega)
    simp only [noriaref11_PutRuns.l0]
    rw [if_pos (by omega)]
    rw [show ((1 : Nat) : Int) = 1 from rfl] at h
    rw [h]
    have := ih (pre ++ (List.replicate n v ++ expand rs)) (pre ++ List.replicate n v) (acc ++ (enc n ++ enc v.toNat)) (k - (n - 1 + 1)) h4 (by rw [List.append_assoc]) hL (by simp only [List.length_append]; omega) (by omega)
    rw [List.length_append, List.length_replicate] at this
    rw [this]
    simp only [encR, List.append_assoc]
theorem refput_eq {rs : List (Nat × Int)} {k : Nat} (hg : good rs) (hL : (expand rs).length ≤ 1000000) (hk : 2 * (expand rs).length + 20 < k) : noriaref11_PutRuns.f k (expand rs) = some (encR rs) :=
  refput_l0 rs (expand rs) [] [] k hg rfl hL (by simp; omega) hk
theorem refruns_in {pre t : List Int} {n c : Nat} {v : Int} (hc : c ≤ 1000000) (hL : (pre ++ (List.replicate n v ++ t)).length ≤ 1000000) : ∀ (d i k : Nat), i + d = n → 1 ≤ i → d < k →
    noriaref11_Runs.l0 k (pre ++ (List.replicate n v ++ t)) c ((pre.length + i : Nat) : Int) = noriaref11_Runs.l0 (k - d) (pre ++ (List.replicate n v ++ t)) c ((pre.length + n : Nat) : Int) := by
  have hlen : (pre ++ (List.replicate n v ++ t)).length = pre.length + (n + t.length) := by simp only [List.length_append, List.length_replicate]
  intro d
  induction d with
  | zero =>
    intro i k hi h1 hk
    obtain rfl : i = n := by omega
    rfl
  | succ d ih =>
    intro i k hi h1 hk
    obtain ⟨k, rfl⟩ : ∃ m, k = m + 1 := ⟨k - 1, by omega⟩
    have hr := rd_rep (pre := pre) (t := t) (v := v) (j := i) (n := n) (by omega)
    have hr2 := rd_rep (pre := pre) (t := t) (v := v) (j := i - 1) (n := n) (by omega)
    rw [show ((pre.length + (i - 1) : Nat) : Int) = ((pre.length + i : Nat) : Int) - 1 from by omega] at hr2
    simp only [noriaref11_Runs.l0]
    rw [hlen, if_pos (by omega), if_neg (by omega), if_pos (by omega), wr (x := ((pre.length + i : Nat) : Int) - 1) (by omega) (by omega), if_pos (by omega), if_pos (by omega), hr, hr2, if_pos rfl, wr (x := ((pre.length + i : Nat) : Int) + 1) (by omega) (by omega)]
    have := ih (i + 1) k (by omega) (by omega) (by omega)
    rw [show ((pre.length + (i + 1) : Nat) : Int) = ((pre.length + i : Nat) : Int) + 1 from by omega] at this
    rw [this, show k + 1 - (d + 1) = k - d from by omega]
theorem refruns_l0 : ∀ (rs : List (Nat × Int)) (L pre : List Int) (c k : Nat), good rs → L = pre ++ expand rs → L.length ≤ 1000000 → c + (expand rs).length ≤ 1000000 → (∀ v, pre.getLast? = some v → (expand rs).head? ≠ some v) → (expand rs).length + 10 < k →
    noriaref11_Runs.l0 k L c pre.length = some ((c + rs.length : Nat) : Int) := by
  intro rs
  induction rs with
  | nil =>
    intro L pre c k _ hE hL hA hl hk
    obtain ⟨k, rfl⟩ : ∃ m, k = m + 1 := ⟨k - 1, by omega⟩
    subst hE
    simp only [noriaref11_Runs.l0]
    rw [if_neg (by simp [expand])]
    rfl
  | cons p rs ih =>
    intro L pre c k hg hE hL hA hl hk
    obtain ⟨k, rfl⟩ : ∃ m, k = m + 1 := ⟨k - 1, by omega⟩
    obtain ⟨n, v⟩ := p
    obtain ⟨h1, h2, h3, h4⟩ := hg
    have hE : L = pre ++ (List.replicate n v ++ expand rs) := hE
    subst hE
    have hlen : (pre ++ (List.replicate n v ++ expand rs)).length = pre.length + (n + (expand rs).length) := by simp only [List.length_append, List.length_replicate]
    have hlen2 : (expand ((n, v) :: rs)).length = n + (expand rs).length := by simp only [expand, List.length_append, List.length_replicate]
    rw [hlen2] at hA hk
    have hh : (expand ((n, v) :: rs)).head? = some v := by rw [expand, head_rep h1]
    have h0 := rd_rep (pre := pre) (t := expand rs) (v := v) (j := 0) (n := n) (by omega)
    simp only [Nat.add_zero] at h0
    have hin := refruns_in (pre := pre) (t := expand rs) (v := v) (n := n) (c := c + 1) (by omega) hL (n - 1) 1 k (by omega) (by omega) (by omega)
    have hre := ih (pre ++ (List.replicate n v ++ expand rs)) (pre ++ List.replicate n v) (c + 1) (k - (n - 1)) h4 (by rw [List.append_assoc]) hL (by omega) (by
      intro u hu
      rw [last_rep h1] at hu
      obtain rfl := Option.some.inj hu
      exact h3) (by omega)
    rw [List.length_append, List.length_replicate] at hre
    rw [hre] at hin
    rw [show ((c + 1 : Nat) : Int) = (c : Int) + 1 from by omega, show ((pre.length + 1 : Nat) : Int) = (pre.length : Int) + 1 from by omega] at hin
    have hfin : c + 1 + rs.length = c + (rs.length + 1) := by omega
    rw [hfin] at hin
    simp only [noriaref11_Runs.l0]
    rw [hlen, if_pos (by omega), wr (x := (c : Int) + 1) (by omega) (by omega), wr (x := (pre.length : Int) + 1) (by omega) (by omega), List.length_cons]
    by_cases cz : pre.length = 0
    · rw [if_pos (by omega), hin]
    · have hb : rd (pre ++ (List.replicate n v ++ expand rs)) ((pre.length : Int) - 1) ≠ v := by
        rw [show (pre.length : Int) - 1 = ((pre.length - 1 : Nat) : Int) from by omega, rd_at (by omega), List.getElem_append_left (by omega)]
        intro hq
        apply hl v _ hh
        rw [List.getLast?_eq_getElem?, List.getElem?_eq_getElem (by omega), hq]
      rw [if_neg (by omega), if_pos (by omega), wr (x := (pre.length : Int) - 1) (by omega) (by omega), if_pos (by omega), if_pos (by omega), h0, if_neg (fun hq => hb hq.symm), hin]
theorem refruns_eq {rs : List (Nat × Int)} {k : Nat} (hg : good rs) (hL : (expand rs).length ≤ 1000000) (hk : (expand rs).length + 10 < k) : noriaref11_Runs.f k (expand rs) = some (rs.length : Int) := by
  have := refruns_l0 rs (expand rs) [] 0 k hg rfl hL (by omega) (by intro v h; cases h) hk
  rw [Nat.zero_add] at this
  exact this
end Go.Proofs.Ytokekjbodkjjpaa.Num
