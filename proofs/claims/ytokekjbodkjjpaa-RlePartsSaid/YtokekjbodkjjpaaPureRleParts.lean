/- Two rows told one behind the other are both rows, where the one's last number is another than the other's first; no conditions. -/
import Derived.Test.YtokekjbodkjjpaaRRun
set_option linter.unusedSimpArgs false
set_option linter.unusedVariables false
namespace Go.Proofs.Ytokekjbodkjjpaa.Pure
open Go Go.RowKit Go.Proofs.Ytokekjbodkjjpaa.PAll Go.Proofs.YtokekjbodkjjpaaW.PrintWords Go.Proofs.YtokekjbodkjjpaaW.PrintLast Go.Proofs.YtokekjbodkjjpaaW.PrintMore Go.Proofs.Ytokekjbodkjjpaa.Num
theorem parts_no {ra rb : List (Nat × Int)} {k : Nat} (ha : good ra) (hb : good rb) (hla : (expand ra).length ≤ 200) (hlb : (expand rb).length ≤ 200) (h : ∀ v, (expand ra).getLast? = some v → (expand rb).head? ≠ some v) (hk : 5000 ≤ k) :
    norialaw5_RleParts.j1 (k + 1) (expand ra) (expand rb) (expand ra ++ expand rb) (expand ra ++ expand rb) 0 false = some true := by
  have hg := good_append ra rb ha hb h
  have h1 := good_len ra ha
  have h2 := good_len rb hb
  have hlen : (expand (ra ++ rb)).length = (expand ra).length + (expand rb).length := by rw [expand_append, List.length_append]
  simp only [norialaw5_RleParts.j1]
  rw [if_neg (by simp), if_pos trivial, same_self (by rw [List.length_append]; omega) (by rw [List.length_append]; omega), Option.bind_some, if_pos rfl, ← expand_append, runs_eq hg (by omega) (by omega), Option.bind_some, runs_eq ha (by omega) (by omega), Option.bind_some, runs_eq hb (by omega) (by omega), Option.bind_some, wr (by omega) (by omega), List.length_append]
  simp
theorem parts_get_no {ra rb : List (Nat × Int)} {k : Nat} (ha : good ra) (hb : good rb) (hla : (expand ra).length ≤ 200) (hlb : (expand rb).length ≤ 200) (h : ∀ v, (expand ra).getLast? = some v → (expand rb).head? ≠ some v) (hk : 5000 ≤ k) :
    rle_Get.f k (encR ra ++ encR rb) ((expand ra ++ expand rb).length : Int) = some (expand ra ++ expand rb, 0) := by
  have hg := good_append ra rb ha hb h
  have hlen : (expand (ra ++ rb)).length = (expand ra).length + (expand rb).length := by rw [expand_append, List.length_append]
  have := rget_put (k := k) hg (Nat.le_refl _) (by omega) (by omega)
  rw [encR_append, expand_append] at this
  exact this
theorem parts_get_yes {ra rb : List (Nat × Int)} {k n : Nat} {v : Int} (ha : good ra) (hb : good ((n, v) :: rb)) (hla : (expand ra).length ≤ 200) (hlb : (expand ((n, v) :: rb)).length ≤ 200) (h : (expand ra).getLast? = some v) (hk : 5000 ≤ k) :
    rle_Get.f k (encR ra ++ encR ((n, v) :: rb)) ((expand ra ++ expand ((n, v) :: rb)).length : Int) = some ([], 2) := by
  have h1 := good_len ra ha
  have h2 := good_len _ hb
  have e1 := encR_len ra ha (by omega)
  have e2 := encR_len _ hb (by omega)
  have hbl : n ≤ 200 := by simp only [expand, List.length_append, List.length_replicate] at hlb; omega
  have hBB : isB (encR ra ++ encR ((n, v) :: rb)) := isB_append (encR_B _) (encR_B _)
  have hBL : (encR ra ++ encR ((n, v) :: rb)).length ≤ 70368744177664 := by rw [List.length_append]; omega
  have hr := rget_runs ra (encR ra ++ encR ((n, v) :: rb)) [] (encR ((n, v) :: rb)) [] (expand ra ++ expand ((n, v) :: rb)).length k ha (by simp) hBB hBL (by rw [List.length_append]; simp only [List.length_nil]; omega) (by rw [List.length_append]; omega) (by intro v h; cases h) (by omega)
  unfold rle_Get.f
  rw [if_neg (by omega)]
  simp only [List.nil_append, List.length_nil] at hr
  rw [show ((0 : Nat) : Int) = 0 from rfl] at hr
  rw [hr]
  obtain ⟨j, hj⟩ : ∃ j, k - 2 * ra.length = j + 2 := ⟨k - 2 * ra.length - 2, by omega⟩
  rw [hj, show j + 2 = (j + 1) + 1 from rfl, rget_step (B := encR ra ++ encR ((n, v) :: rb)) (n := n) (v := v) (rest := encR rb) rfl hBB hBL (by omega) hb.2.1 (by omega) (by omega), decide_eq_true h, Bool.or_true]
  simp only [rle_Get.j1]
  rw [if_pos trivial]
theorem parts_yes {ra rb : List (Nat × Int)} {k n : Nat} {v : Int} (ha : good ra) (hb : good ((n, v) :: rb)) (hla : (expand ra).length ≤ 200) (hlb : (expand ((n, v) :: rb)).length ≤ 200) (h : (expand ra).getLast? = some v) (hk : 5000 ≤ k) :
    norialaw5_RleParts.j1 (k + 1) (expand ra) (expand ((n, v) :: rb)) (expand ra ++ expand ((n, v) :: rb)) [] 2 true = some true := by
  have hne : ra ≠ [] := by rintro rfl; cases h
  obtain ⟨c, m, u, rfl, hm, hc⟩ := good_last ha hne
  have hu : u = v := by
    rw [expand_append] at h
    simp only [expand, List.append_nil] at h
    rw [last_rep hm] at h
    exact Option.some.inj h
  subst hu
  have hg := good_merge c ha hb
  have hE : expand (c ++ (m + n, u) :: rb) = expand (c ++ [(m, u)]) ++ expand ((n, u) :: rb) := by
    rw [expand_append, expand_append]
    simp only [expand, List.append_nil, ← List.replicate_append_replicate, List.append_assoc]
  have h1 := good_len _ ha
  have h2 := good_len _ hb
  have hlen : (expand (c ++ (m + n, u) :: rb)).length = (expand (c ++ [(m, u)])).length + (expand ((n, u) :: rb)).length := by rw [hE, List.length_append]
  simp only [norialaw5_RleParts.j1]
  rw [if_pos trivial, if_pos trivial, if_pos (by simp), ← hE, runs_eq hg (by omega) (by omega), Option.bind_some, runs_eq ha (by omega) (by omega), Option.bind_some, runs_eq hb (by omega) (by omega), Option.bind_some, wr (x := ((c ++ [(m, u)]).length : Int) + (((n, u) :: rb).length : Int)) (by omega) (by omega), wr (by omega) (by omega)]
  simp only [List.length_append, List.length_cons, List.length_nil]
  congr 1
  rw [beq_iff_eq]
  omega
theorem RleParts : norialaw5_RleParts.Pure := by
  intro a b hL1 hL2 hwa hL3 hL4 hwb
  obtain ⟨ra, rfl, ha⟩ := exists_runs a (isV_of_wf hwa)
  obtain ⟨rb, rfl, hb⟩ := exists_runs b (isV_of_wf hwb)
  obtain ⟨k, hk⟩ : ∃ k, 10000 ≤ k := ⟨10000, Nat.le_refl _⟩
  refine ⟨k + 2, ?_⟩
  have ht : norialaw5_RleParts.j0 (k + 2) (expand ra) (expand rb) true = some true := by
    show norialaw5_RleParts.j0 (k + 1 + 1) (expand ra) (expand rb) true = some true
    simp only [norialaw5_RleParts.j0]
    rw [if_pos trivial]
  unfold norialaw5_RleParts.f
  rw [known_k (by omega), Option.bind_some, if_pos rfl]
  by_cases h0 : ((expand ra).length : Int) > 200
  · rw [if_pos h0]; exact ht
  · rw [if_neg h0]
    by_cases hc : ((expand rb).length : Int) > 200
    · rw [decide_eq_true hc]; exact ht
    · rw [decide_eq_false hc]
      have e1 := encR_len ra ha (by omega)
      have e2 := encR_len rb hb (by omega)
      have h1 := good_len ra ha
      have h2 := good_len rb hb
      show norialaw5_RleParts.j0 (k + 1 + 1) (expand ra) (expand rb) false = some true
      simp only [norialaw5_RleParts.j0, Option.bind_some, List.nil_append]
      rw [if_neg (by simp), if_pos (by simp only [List.length_nil]; omega), if_pos (by omega), rput_runs ha (by omega) (by omega), Option.bind_some, if_pos (by simp only [List.length_nil]; omega), rput_runs hb (by omega) (by omega), Option.bind_some, if_pos (by omega)]
      have hno : ∀ bb : Bool, bb = false → (∀ v, (expand ra).getLast? = some v → (expand rb).head? ≠ some v) → ((rle_Get.f (k + 1) (encR ra ++ encR rb) ((expand ra ++ expand rb).length : Int)).bind fun bt293 => norialaw5_RleParts.j1 (k + 1) (expand ra) (expand rb) (expand ra ++ expand rb) bt293.1 bt293.2 bb) = some true := by
        intro bb hbb h
        subst hbb
        rw [parts_get_no ha hb (by omega) (by omega) h (by omega), Option.bind_some]
        exact parts_no ha hb (by omega) (by omega) h (by omega)
      by_cases ca : 0 < (expand ra).length
      · by_cases cb : 0 < (expand rb).length
        · cases rb with
          | nil => simp [expand] at cb
          | cons p rb =>
            obtain ⟨n, v⟩ := p
            have hh : (expand ((n, v) :: rb)).head? = some v := by rw [expand, head_rep hb.1]
            have hr0 : rd (expand ((n, v) :: rb)) 0 = v := by
              have := rd_rep (pre := []) (t := expand rb) (v := v) (j := 0) (n := n) (by have := hb.1; omega)
              simp only [List.nil_append, List.length_nil, Nat.zero_add] at this
              exact this
            have hlast := last_rd (l := expand ra) (v := v) ca
            rw [show (((expand ra).length - 1 : Nat) : Int) = ((expand ra).length : Int) - 1 from by omega] at hlast
            by_cases cv : (expand ra).getLast? = some v
            · rw [parts_get_yes ha hb (by omega) (by omega) cv (by omega), Option.bind_some, if_pos (by omega), if_pos (by omega), wr (x := ((expand ra).length : Int) - 1) (by omega) (by omega), if_pos (by omega), if_pos (by omega), if_pos (by omega), hr0, hlast, decide_eq_true cv]
              exact parts_yes ha hb (by omega) (by omega) cv (by omega)
            · have := hno _ rfl (by intro u hu hq; rw [hh] at hq; obtain rfl := Option.some.inj hq; exact cv hu)
              rw [← this]
              congr 1
              funext bt
              rw [if_pos (by omega), if_pos (by omega), wr (x := ((expand ra).length : Int) - 1) (by omega) (by omega), if_pos (by omega), if_pos (by omega), if_pos (by omega), hr0, hlast, decide_eq_false cv]
        · have hz : expand rb = [] := List.length_eq_zero_iff.mp (by omega)
          have := hno _ rfl (by intro u hu hq; rw [hz] at hq; cases hq)
          rw [← this]
          congr 1
          funext bt
          rw [if_pos (by omega), if_neg (by omega)]
      · have hz : expand ra = [] := List.length_eq_zero_iff.mp (by omega)
        have := hno _ rfl (by intro u hu hq; rw [hz] at hu; cases hu)
        rw [← this]
        congr 1
        funext bt
        rw [if_neg (by omega)]
end Go.Proofs.Ytokekjbodkjjpaa.Pure
