import Derived.Test.YtalgjhmehilioaaPRGet
import Derived.Test.YtalgjhmehilioaaNRZig
/- Steps from number to number, round the end of 64 bits: what delta's functions and their reference compute. -/
set_option linter.unusedSimpArgs false
set_option linter.unusedVariables false
namespace Go.Proofs.Ytalgjhmehilioaa.Num
open Go Go.RowKit Go.Proofs.Ytalgjhmehilioaa.PAll Go.Proofs.YtalgjhmehilioaaW.PrintWords Go.Proofs.YtalgjhmehilioaaW.PrintLast Go.Proofs.YtalgjhmehilioaaW.PrintMore
def isI (l : List Int) : Prop := ∀ x ∈ l, -9223372036854775808 ≤ x ∧ x ≤ 9223372036854775807
theorem isI_of_wf {l : List Int} (h : ∀ x ∈ l, (Lit.int .i64 x).wf = true) : isI l := fun x hx => wf_i64 (h x hx)
theorem isI_cons {x : Int} {l : List Int} (h : isI (x :: l)) : (-9223372036854775808 ≤ x ∧ x ≤ 9223372036854775807) ∧ isI l := ⟨h x (by simp), fun y hy => h y (by simp [hy])⟩
theorem isU_cons {x : Int} {l : List Int} (h : isU (x :: l)) : (0 ≤ x ∧ x ≤ 18446744073709551615) ∧ isU l := ⟨h x (by simp), fun y hy => h y (by simp [hy])⟩
theorem rd_mem_I {l : List Int} (h : isI l) {i : Nat} (hi : i < l.length) : -9223372036854775808 ≤ rd l (i : Int) ∧ rd l (i : Int) ≤ 9223372036854775807 := by
  unfold rd
  rw [Int.toNat_natCast, List.getD_eq_getElem?_getD, List.getElem?_eq_getElem hi]
  exact h _ (List.getElem_mem hi)
theorem wr_bd (x : Int) : -9223372036854775808 ≤ wrap64 x ∧ wrap64 x ≤ 9223372036854775807 := by unfold wrap64; omega
def stepsFrom : Int → List Int → List Int
  | _, [] => []
  | p, n :: s => zig (wrap64 (n - p)) :: stepsFrom n s
def sumsFrom : Int → List Int → List Int
  | _, [] => []
  | p, u :: s => wrap64 (p + zag u) :: sumsFrom (wrap64 (p + zag u)) s
theorem steps_len (l : List Int) : ∀ p, (stepsFrom p l).length = l.length := by
  induction l with
  | nil => intro p; rfl
  | cons x l ih => intro p; simp only [stepsFrom, List.length_cons, ih]
theorem sums_len (l : List Int) : ∀ p, (sumsFrom p l).length = l.length := by
  induction l with
  | nil => intro p; rfl
  | cons x l ih => intro p; simp only [sumsFrom, List.length_cons, ih]
theorem steps_U (l : List Int) : ∀ p, isU (stepsFrom p l) := by
  induction l with
  | nil => intro p x hx; cases hx
  | cons n l ih =>
    intro p x hx
    rcases List.mem_cons.mp hx with rfl | h
    · exact zig_bd (wr_bd _).1 (wr_bd _).2
    · exact ih n x h
theorem sums_I (l : List Int) : ∀ p, isI (sumsFrom p l) := by
  induction l with
  | nil => intro p x hx; cases hx
  | cons n l ih =>
    intro p x hx
    rcases List.mem_cons.mp hx with rfl | h
    · exact wr_bd _
    · exact ih _ x h
theorem wr_back {p n : Int} (h : -9223372036854775808 ≤ n ∧ n ≤ 9223372036854775807) : wrap64 (p + wrap64 (n - p)) = n := by unfold wrap64; omega
theorem wr_forth {p z : Int} (h : -9223372036854775808 ≤ z ∧ z ≤ 9223372036854775807) : wrap64 (wrap64 (p + z) - p) = z := by unfold wrap64; omega
theorem sums_steps (l : List Int) : ∀ p, isI l → sumsFrom p (stepsFrom p l) = l := by
  induction l with
  | nil => intro p _; rfl
  | cons n l ih =>
    intro p h
    obtain ⟨hn, hl⟩ := isI_cons h
    simp only [stepsFrom, sumsFrom, zag_zig, wr_back hn, ih n hl]
theorem steps_sums (l : List Int) : ∀ p, isU l → stepsFrom p (sumsFrom p l) = l := by
  induction l with
  | nil => intro p _; rfl
  | cons u l ih =>
    intro p h
    obtain ⟨hu, hl⟩ := isU_cons h
    simp only [stepsFrom, sumsFrom, wr_forth (zag_bd hu.1 hu.2), zig_zag u hu.1, ih _ hl]
theorem dsteps_l0 {l : List Int} (hl : isI l) (hL : l.length ≤ 1000000) : ∀ (d i k : Nat) (acc : List Int) (p : Int), i + d = l.length → acc.length = i → -9223372036854775808 ≤ p ∧ p ≤ 9223372036854775807 → d < k →
    delta_Steps.l0 k acc p l l.length i = some (acc ++ stepsFrom p (l.drop i)) := by
  intro d
  induction d with
  | zero =>
    intro i k acc p hi ha hp hk
    obtain ⟨k, rfl⟩ : ∃ m, k = m + 1 := ⟨k - 1, by omega⟩
    simp only [delta_Steps.l0]
    rw [if_neg (by omega), List.drop_of_length_le (by omega)]
    simp [stepsFrom]
  | succ d ih =>
    intro i k acc p hi ha hp hk
    obtain ⟨k, rfl⟩ : ∃ m, k = m + 1 := ⟨k - 1, by omega⟩
    have hv := rd_mem_I hl (i := i) (by omega)
    simp only [delta_Steps.l0]
    rw [if_pos (by omega), if_pos (by omega), if_pos (by omega), zig_eq (wr_bd _).1 (wr_bd _).2, Option.bind_some, if_pos (by omega), wr (x := (i : Int) + 1) (by omega) (by omega)]
    have := ih (i + 1) k (acc ++ [zig (wrap64 (rd l (i : Int) - p))]) (rd l (i : Int)) (by omega) (by simp [ha]) hv (by omega)
    rw [show ((i + 1 : Nat) : Int) = (i : Int) + 1 from by omega] at this
    rw [this, drop_rd (i := i) (by omega), stepsFrom]
    simp
theorem dsteps_eq {l : List Int} (hl : isI l) (hL : l.length ≤ 1000000) {k : Nat} (hk : l.length < k) : delta_Steps.f k l = some (stepsFrom 0 l) := by
  have := dsteps_l0 hl hL l.length 0 k [] 0 (by omega) rfl (by omega) hk
  rw [List.drop_zero, List.nil_append] at this
  exact this
theorem dget_l0 {s : List Int} (hs : isU s) (hL : s.length ≤ 1000000) : ∀ (d i k : Nat) (acc : List Int) (p : Int), i + d = s.length → acc.length = i → d < k →
    delta_Get.l0 k acc p s s.length i = some (acc ++ sumsFrom p (s.drop i), 0) := by
  intro d
  induction d with
  | zero =>
    intro i k acc p hi ha hk
    obtain ⟨k, rfl⟩ : ∃ m, k = m + 1 := ⟨k - 1, by omega⟩
    simp only [delta_Get.l0]
    rw [if_neg (by omega), List.drop_of_length_le (by omega)]
    simp [sumsFrom]
  | succ d ih =>
    intro i k acc p hi ha hk
    obtain ⟨k, rfl⟩ : ∃ m, k = m + 1 := ⟨k - 1, by omega⟩
    have hv := rd_mem_U hs (i := i) (by omega)
    simp only [delta_Get.l0]
    rw [if_pos (by omega), if_pos (by omega), if_pos (by omega), zag_eq hv.1 hv.2, Option.bind_some, if_pos (by omega), wr (x := (i : Int) + 1) (by omega) (by omega)]
    have := ih (i + 1) k (acc ++ [wrap64 (p + zag (rd s (i : Int)))]) (wrap64 (p + zag (rd s (i : Int)))) (by omega) (by simp [ha]) (by omega)
    rw [show ((i + 1 : Nat) : Int) = (i : Int) + 1 from by omega] at this
    rw [this, drop_rd (i := i) (by omega), sumsFrom]
    simp
/-- What Put answers. -/
theorem dput_ok {l : List Int} {k : Nat} (hl : isI l) (hL : l.length ≤ 65536) (hk : 70 * (l.length + 2) < k) : ∃ r, packs (stepsFrom 0 l) (wid (stepsFrom 0 l)) r ∧ delta_Put.f k l = some (((wid (stepsFrom 0 l) : Nat) : Int) :: r) := by
  have hu := steps_U l 0
  have h64 := wid_le64 hu
  have hln := steps_len l 0
  obtain ⟨r, hr, he⟩ := put_ok (l := stepsFrom 0 l) (w := wid (stepsFrom 0 l)) (k := k) hu (by omega) h64 (Nat.le_refl _) (by omega)
  refine ⟨r, hr, ?_⟩
  have hm : (stepsFrom 0 l).length * wid (stepsFrom 0 l) ≤ 65536 * 64 := Nat.mul_le_mul (by omega) h64
  have hrl := hr.1
  unfold delta_Put.f
  rw [dsteps_eq hl (by omega) (by omega), Option.bind_some, width_eq hu (by omega) (by omega), Option.bind_some, he, Option.bind_some, Option.bind_some, if_pos (by simp only [List.length_cons, List.length_nil]; omega)]
  rw [show ((wid (stepsFrom 0 l) : Nat) : Int) % 256 = ((wid (stepsFrom 0 l) : Nat) : Int) from by omega]
  rfl
/-- pack.Get and its reference are alike. -/
theorem get_cases {s : List Int} (hs : isB s) (n w : Int) {k : Nat} (hk : 5000000 ≤ k) : ∃ l e, pack_Get.f k s n w = some (l, e) ∧ noriaref11_GetBits.f k s n w = some (l, e) ∧
    ((l = [] ∧ e ≠ 0) ∨ (e = 0 ∧ ∃ (n' w' : Nat), n = n' ∧ w = w' ∧ n' ≤ 65536 ∧ w' ≤ 64 ∧ l = gets s w' n' ∧ packs l w' s)) := by
  by_cases c : n < 0 ∨ 65536 < n ∨ w < 0 ∨ 64 < w
  · exact ⟨[], 1, get_out c, rget_out c (by omega), .inl ⟨rfl, by decide⟩⟩
  · obtain ⟨n, rfl⟩ := Int.eq_ofNat_of_zero_le (show 0 ≤ n by omega)
    obtain ⟨w, rfl⟩ := Int.eq_ofNat_of_zero_le (show 0 ≤ w by omega)
    have h1 := get_len (k := k) (n := n) (w := w) (by omega) (by omega) hs (by omega)
    have h2 := rget_len (k := k) (n := n) (w := w) (by omega) (by omega) hs (by omega)
    by_cases c1 : s.length < (n * w + 7) / 8
    · rw [if_pos c1] at h1 h2
      exact ⟨_, _, h1, h2, .inl ⟨rfl, by decide⟩⟩
    · rw [if_neg c1] at h1 h2
      by_cases c2 : s.length > (n * w + 7) / 8
      · rw [if_pos c2] at h1 h2
        exact ⟨_, _, h1, h2, .inl ⟨rfl, by decide⟩⟩
      · rw [if_neg c2] at h1 h2
        by_cases c3 : ∀ j, n * w ≤ j → bitAt s j = false
        · rw [if_pos c3] at h1 h2
          exact ⟨_, _, h1, h2, .inr ⟨rfl, n, w, rfl, rfl, by omega, by omega, rfl, gets_packs hs (by omega) c3⟩⟩
        · rw [if_neg c3] at h1 h2
          exact ⟨_, _, h1, h2, .inl ⟨rfl, by decide⟩⟩
theorem ints_l0 (l : List Int) (hL : l.length ≤ 70368744177664) : ∀ (d i k : Nat), i + d = l.length → d < k → norialaw6_ints.l0 k l l i = some true := by
  intro d
  induction d with
  | zero =>
    intro i k hi hk
    obtain ⟨k, rfl⟩ : ∃ m, k = m + 1 := ⟨k - 1, by omega⟩
    simp only [norialaw6_ints.l0]
    rw [if_neg (by omega)]
  | succ d ih =>
    intro i k hi hk
    obtain ⟨k, rfl⟩ : ∃ m, k = m + 1 := ⟨k - 1, by omega⟩
    simp only [norialaw6_ints.l0]
    rw [if_pos (by omega), if_pos (by omega), if_pos (by omega), wr (by omega) (by omega)]
    simp only [if_true]
    exact ih (i + 1) k (by omega) (by omega)
theorem ints_self {l : List Int} {k : Nat} (hL : l.length ≤ 70368744177664) (hk : l.length < k) : norialaw6_ints.f k l l = some true := by
  unfold norialaw6_ints.f
  rw [if_pos rfl]
  exact ints_l0 l hL l.length 0 k (by omega) hk
/-- What Get answers where there is a first byte and the numbers may be so many. -/
theorem dget_of {s l : List Int} {w n e : Int} {k : Nat} (hn0 : 0 ≤ n) (hn : n ≤ 65536) (hw0 : 0 ≤ w) (hw : w ≤ 255) (hg : pack_Get.f k s n w = some (l, e)) (hU : isU l) (hL : l.length ≤ 65536) (hk : 70000 < k) :
    delta_Get.f (k + 1) (w :: s) n = if e = 0 then (if w = ((wid l : Nat) : Int) then some (sumsFrom 0 l, 0) else some ([], 2)) else some ([], e) := by
  have hrd : rd (w :: s) 0 = w := rfl
  unfold delta_Get.f
  rw [if_neg (by omega), decide_eq_false (by omega)]
  simp only [delta_Get.j0]
  rw [if_neg (by simp), if_neg (by simp only [List.length_cons]; omega), if_pos (by simp only [List.length_cons]; omega), if_pos (by simp only [List.length_cons]; omega), List.drop_one, List.tail_cons, hrd, wr (by omega) (by omega), hg, Option.bind_some]
  by_cases c : e = 0
  · rw [if_pos c, if_pos c, width_eq hU (by omega) (by omega), Option.bind_some]
    by_cases c2 : w = ((wid l : Nat) : Int)
    · rw [if_pos c2, if_pos c2]
      have := dget_l0 hU (by omega) l.length 0 k [] 0 (by omega) rfl (by omega)
      rw [List.drop_zero, List.nil_append] at this
      exact this
    · rw [if_neg c2, if_neg c2]
  · rw [if_neg c, if_neg c]
theorem dget_bad {b : List Int} {n : Int} {k : Nat} (hn : n < 0 ∨ 65536 < n) : delta_Get.f (k + 1) b n = some ([], 1) := by
  have hj : delta_Get.j0 (k + 1) b n [] 0 true = some ([], 1) := by simp only [delta_Get.j0]; rw [if_pos trivial]
  unfold delta_Get.f
  by_cases c : n < 0
  · rw [if_pos c, hj]
  · rw [if_neg c, decide_eq_true (by omega), hj]
theorem dget_nil {n : Int} {k : Nat} (hn0 : 0 ≤ n) (hn : n ≤ 65536) : delta_Get.f (k + 1) [] n = some ([], 5) := by
  unfold delta_Get.f
  rw [if_neg (by omega), decide_eq_false (by omega)]
  simp only [delta_Get.j0]
  rw [if_neg (by simp), if_pos (by simp)]
/-- What Put told is read again. -/
theorem dget_put {l r : List Int} {k : Nat} (hl : isI l) (hL : l.length ≤ 65536) (hr : packs (stepsFrom 0 l) (wid (stepsFrom 0 l)) r) (hk : 5000000 ≤ k) :
    delta_Get.f (k + 1) (((wid (stepsFrom 0 l) : Nat) : Int) :: r) l.length = some (l, 0) := by
  have hu := steps_U l 0
  have h64 := wid_le64 hu
  have hln := steps_len l 0
  have hg : pack_Get.f k r (l.length : Int) ((wid (stepsFrom 0 l) : Nat) : Int) = some (stepsFrom 0 l, 0) := by
    rw [get_len (by omega) h64 hr.2.1 (by omega), if_neg (by rw [hr.1, hln]; omega), if_neg (by rw [hr.1, hln]; omega), if_pos (fun j hj => by rw [hr.2.2]; exact bitOf_out (by rw [hln]; exact hj)), ← hln, gets_back hu (Nat.le_refl _) hr]
  rw [dget_of (by omega) (by omega) (by omega) (by omega) hg hu (by omega) (by omega), if_pos rfl, if_pos rfl, sums_steps l 0 hl]
theorem deltaKnown : norialaw6_known.f 100 = some true := by decide +kernel
theorem known_k {k : Nat} (h : 100 ≤ k) : norialaw6_known.f k = some true := at_rounds norialaw6_known.mono h deltaKnown
end Go.Proofs.Ytalgjhmehilioaa.Num
