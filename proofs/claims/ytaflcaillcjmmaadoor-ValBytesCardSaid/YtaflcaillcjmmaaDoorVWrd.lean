import Derived.Test.YtaflcaillcjmmaaDoorVTxt
import Derived.Test.YtaflcaillcjmmaaDoorPAllx3
/- Bytes read from words. -/
set_option linter.unusedSimpArgs false
set_option linter.unusedVariables false
namespace Go.Proofs.YtaflcaillcjmmaaDoor.Num
open Go Go.RowKit Go.Proofs.YtaflcaillcjmmaaDoor.PAll Go.Proofs.YtaflcaillcjmmaaDoor.Help Go.Proofs.YtaflcaillcjmmaaDoorW.PrintWords Go.Proofs.YtaflcaillcjmmaaDoorW.PrintLast Go.Proofs.YtaflcaillcjmmaaDoorW.PrintMore
theorem hexL_get : ∀ (L : List UInt8) (i : Nat) (c : UInt8), L[i]? = some c → (hexL L)[2 * i]? = some (hd (c.toNat / 16)) ∧ (hexL L)[2 * i + 1]? = some (hd (c.toNat % 16))
  | [], i, c, h => by simp at h
  | d :: L, 0, c, h => by
    simp at h
    subst h
    exact ⟨rfl, rfl⟩
  | d :: L, i + 1, c, h => by
    have := hexL_get L i c (by simpa using h)
    rw [hexL_cons, show 2 * (i + 1) = 2 * i + 1 + 1 by omega]
    exact this
theorem bt_get {l : List UInt8} {j : Nat} {c : UInt8} (h : l[j]? = some c) : bt (ofL l) (j : Int) = (c.toNat : Int) := by
  obtain ⟨h1, h2⟩ := List.getElem?_eq_some_iff.1 h
  rw [bt_ofL h1, h2]
theorem idx_hd : ∀ n : Fin 16, Lib.indexByte digs.data.toList (((hd n.val).toNat : Int)).toNat.toUInt8 = (n.val : Int) := by decide +kernel
theorem or_hd : ∀ c : Fin 256, (Go.bits .or .i64 (wrap64 (((c.val / 16 : Nat) : Int) * 16)) ((c.val % 16 : Nat) : Int)) % 256 = (c.val : Int) := by decide +kernel
theorem hd_in : ∀ n : Fin 16, digs.data.toList.contains (hd n.val) = true := by decide +kernel
theorem hexL_in {L : List UInt8} : ∀ c ∈ hexL L, digs.data.toList.contains c = true := by
  induction L with
  | nil => intro c h; cases h
  | cons d L ih =>
    intro c h
    have ld := UInt8.toNat_lt d
    rw [hexL_cons] at h
    rcases List.mem_cons.mp h with rfl | h
    · exact hd_in ⟨d.toNat / 16, by omega⟩
    · rcases List.mem_cons.mp h with rfl | h
      · exact hd_in ⟨d.toNat % 16, by omega⟩
      · exact ih c h
theorem word_loop : ∀ (d i k : Nat) (L : List UInt8), i + d = L.length → L.length ≤ 1000 → d < k →
    val_word.l0 k (ofL (hexL L)) (nums (L.take i)) ((2 * i : Nat) : Int) = some (2, 0, ofL L, (0, 0), 0) := by
  intro d
  induction d with
  | zero =>
    intro i k L hi hL hk
    obtain ⟨k, rfl⟩ : ∃ m, k = m + 1 := ⟨k - 1, by omega⟩
    simp only [val_word.l0]
    rw [if_neg (by rw [ofL_size, hexL_length]; omega), List.take_of_length_le (by omega), strOf_nums]
  | succ d ih =>
    intro i k L hi hL hk
    obtain ⟨k, rfl⟩ : ∃ m, k = m + 1 := ⟨k - 1, by omega⟩
    have hlt : i < L.length := by omega
    have lc := UInt8.toNat_lt L[i]
    obtain ⟨g1, g2⟩ := hexL_get L i L[i] (List.getElem?_eq_getElem hlt)
    simp only [val_word.l0, strings_IndexByte.f]
    rw [wr (x := ((2 * i : Nat) : Int) + 1) (by omega) (by omega), wr (x := ((2 * i : Nat) : Int) + 2) (by omega) (by omega)]
    rw [show ((2 * i : Nat) : Int) + 1 = ((2 * i + 1 : Nat) : Int) by omega, bt_get g1, bt_get g2]
    rw [idx_hd ⟨L[i].toNat / 16, by omega⟩, idx_hd ⟨L[i].toNat % 16, by omega⟩]
    simp only [Option.bind_some]
    rw [or_hd ⟨L[i].toNat, lc⟩]
    rw [if_pos (by rw [ofL_size, hexL_length]; omega), if_pos (by omega), if_pos (by omega), if_pos (by rw [ofL_size, hexL_length]; omega), if_pos (by simp [nums]; omega)]
    have e : nums (L.take i) ++ [((L[i].toNat : Nat) : Int)] = nums (L.take (i + 1)) := by
      rw [List.take_succ_eq_append_getElem hlt, nums_append]
      rfl
    simp only [] at e ⊢
    rw [e, show ((2 * i : Nat) : Int) + 2 = ((2 * (i + 1) : Nat) : Int) by omega]
    exact ih (i + 1) k L (by omega) hL (by omega)
theorem word_str (k : Nat) (hk : 1100 ≤ k) (L : List UInt8) (hL : L.length ≤ 255) : val_word.f k (ofL (hexL L)) = some (2, 0, ofL L, (0, 0), 0) := by
  obtain ⟨k, rfl⟩ : ∃ m, k = m + 1 := ⟨k - 1, by omega⟩
  unfold val_word.f
  rw [if_neg (by rw [ofL_size, hexL_length]; omega)]
  have ht : strings_Trim.f (ofL (hexL L)) digs = some (ofL []) := by
    unfold strings_Trim.f
    rw [if_pos ⟨by rw [ofL_size, hexL_length]; omega, by decide, by decide⟩, ofL_data, trim_all (fun c hc => hexL_in c hc)]
  rw [ht, Option.bind_some, ofL_toList]
  simp only [val_word.j0, List.isEmpty_nil, Bool.not_true, Bool.false_eq_true, if_false]
  rw [if_neg (by rw [ofL_size, hexL_length]; omega)]
  exact word_loop L.length 0 k L (by omega) (by omega) (by omega)
theorem parse_str (k : Nat) (hk : 1101 ≤ k) (L : List UInt8) (hL : L.length ≤ 255) : val_Parse.f k (ofL (34 :: hexL L)) = some (2, 0, ofL L, (0, 0), 0) := by
  unfold val_Parse.f
  rw [ofL_toList, if_neg (by intro h; exact absurd (List.cons.inj h).1 (by decide)), prefix_one, Option.bind_some, if_pos (by simp), if_pos (by rw [ofL_size]; simp; omega)]
  rw [ofL_extract]
  have e : (List.drop 1 (List.take (ofL (34 :: hexL L)).size (34 :: hexL L))) = hexL L := by rw [List.take_of_length_le (by rw [ofL_size]; exact Nat.le_refl _)]; rfl
  rw [e, word_str k (by omega) L hL]
  rfl
end Go.Proofs.YtaflcaillcjmmaaDoor.Num
