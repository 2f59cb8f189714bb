import Derived.Test.YtaflcaillcjmmaaGreatDoorPAllx8
import Derived.Test.YtaflcaillcjmmaaGreatDoorRdA
import Derived.Test.YtaflcaillcjmmaaGreatDoorPAllx3
import Derived.Test.YtaflcaillcjmmaaGreatDoorPAllx6
import Derived.Test.YtaflcaillcjmmaaGreatDoorPAllx7
import Derived.Test.YtaflcaillcjmmaaGreatDoorPAllx12
import Derived.Test.YtaflcaillcjmmaaGreatDoorPAllx10
import Derived.Test.YtaflcaillcjmmaaGreatDoorPAllx5
/- What val.Compare tells of two of a kind without a point. -/
set_option linter.unusedSimpArgs false
set_option linter.unusedVariables false
namespace Go.Proofs.YtaflcaillcjmmaaGreatDoor.Num
open Go Go.RowKit Go.Proofs.YtaflcaillcjmmaaGreatDoor.PAll Go.Proofs.YtaflcaillcjmmaaGreatDoor.Help Go.Proofs.YtaflcaillcjmmaaGreatDoorW.PrintWords Go.Proofs.YtaflcaillcjmmaaGreatDoorW.PrintLast Go.Proofs.YtaflcaillcjmmaaGreatDoorW.PrintMore
theorem f00 : cmp_Compare_float64.f 0 0 = some 0 := by decide +kernel
theorem c00 : cEq 0 0 0 0 = true := by decide +kernel
theorem cInt (a b : Int) : cmp_Compare_int.f a b = some (if a < b then -1 else if b < a then 1 else 0) := by
  simp only [cmp_Compare_int.f, cmp_isNaN_int.f, Option.bind_some, bne_self_eq_false, Bool.false_eq_true, if_false]
  by_cases h : a < b <;> by_cases h' : b < a <;> simp [h, h']
theorem cInt64 (a b : Int) : cmp_Compare_int64.f a b = some (if a < b then -1 else if b < a then 1 else 0) := by
  simp only [cmp_Compare_int64.f, cmp_isNaN_int64.f, Option.bind_some, bne_self_eq_false, Bool.false_eq_true, if_false]
  by_cases h : a < b <;> by_cases h' : b < a <;> simp [h, h']
theorem cStr (a b : ByteArray) : cmp_Compare_string.f a b = some (if Op.bytesLess a.toList b.toList = true then -1 else if Op.bytesLess b.toList a.toList = true then 1 else 0) := by
  simp only [cmp_Compare_string.f, cmp_isNaN_string.f, Option.bind_some, bne_self_eq_false, Bool.false_eq_true, if_false]
  by_cases h : Op.bytesLess a.toList b.toList = true <;> by_cases h' : Op.bytesLess b.toList a.toList = true <;> simp [h, h']
theorem less_self (l : List UInt8) : Op.bytesLess l l = false := by
  have := bytesLess_flip l l
  simp at this
  exact this
theorem or_five (k : Nat) (hk : 7 ≤ k) (x y : Int) : cmp_Or_int.f k [0, x, y, 0, 0] = some (if x = 0 then y else x) := by
  obtain ⟨k, rfl⟩ : ∃ m, k = m + 7 := ⟨k - 7, by omega⟩
  unfold cmp_Or_int.f
  by_cases hx : x = 0
  · subst hx
    by_cases hy : y = 0
    · subst hy; simp [cmp_Or_int.l0, rd, wrap64]
    · simp [cmp_Or_int.l0, rd, wrap64, hy]
  · simp [cmp_Or_int.l0, rd, wrap64, hx]
theorem compare_num (k : Nat) (hk : 7 ≤ k) (a b : Int) : val_Compare.f k 1 a ⟨#[]⟩ (0, 0) 1 b ⟨#[]⟩ (0, 0) = some (if a < b then -1 else if b < a then 1 else 0) := by
  simp only [val_Compare.f, cInt, cInt64, cStr, f00, Option.bind_some, less_self, Int.lt_irrefl, Bool.false_eq_true, if_false]
  rw [or_five k hk]
  simp only [Option.bind_some]
  by_cases h : (if a < b then (-1 : Int) else if b < a then 1 else 0) = 0
  · rw [if_pos h, h]
  · rw [if_neg h]
theorem compare_str (k : Nat) (hk : 7 ≤ k) (a b : ByteArray) : val_Compare.f k 2 0 a (0, 0) 2 0 b (0, 0) = some (if Op.bytesLess a.toList b.toList = true then -1 else if Op.bytesLess b.toList a.toList = true then 1 else 0) := by
  simp only [val_Compare.f, cInt, cInt64, cStr, f00, Option.bind_some, less_self, Int.lt_irrefl, Bool.false_eq_true, if_false]
  rw [or_five k hk, if_pos rfl]
  rfl
end Go.Proofs.YtaflcaillcjmmaaGreatDoor.Num
/- Bytes in words and back. -/
set_option linter.unusedSimpArgs false
set_option linter.unusedVariables false
namespace Go.Proofs.YtaflcaillcjmmaaGreatDoor.Num
open Go Go.RowKit Go.Proofs.YtaflcaillcjmmaaGreatDoor.PAll Go.Proofs.YtaflcaillcjmmaaGreatDoor.Help Go.Proofs.YtaflcaillcjmmaaGreatDoorW.PrintWords Go.Proofs.YtaflcaillcjmmaaGreatDoorW.PrintLast Go.Proofs.YtaflcaillcjmmaaGreatDoorW.PrintMore
/-- A digit's word. -/
def hd (n : Nat) : UInt8 := UInt8.ofNat (if n < 10 then 48 + n else 87 + n)
def hex2 (c : UInt8) : List UInt8 := [hd (c.toNat / 16), hd (c.toNat % 16)]
def hexL (l : List UInt8) : List UInt8 := l.flatMap hex2
theorem hexL_nil : hexL [] = [] := rfl
theorem hexL_cons (c : UInt8) (l : List UInt8) : hexL (c :: l) = hd (c.toNat / 16) :: hd (c.toNat % 16) :: hexL l := rfl
theorem hexL_length (l : List UInt8) : (hexL l).length = 2 * l.length := by
  induction l with
  | nil => rfl
  | cons c l ih => rw [hexL_cons]; simp only [List.length_cons, ih]; omega
theorem hd_lt : ∀ a b : Fin 16, decide (hd a.val < hd b.val) = decide (a.val < b.val) := by decide +kernel
theorem hd_eq : ∀ a b : Fin 16, (hd a.val == hd b.val) = decide (a.val = b.val) := by decide +kernel
theorem hex_less : ∀ x y : List UInt8, Op.bytesLess (hexL x) (hexL y) = Op.bytesLess x y
  | [], [] => rfl
  | [], d :: y => rfl
  | c :: x, [] => rfl
  | c :: x, d :: y => by
    have ih := hex_less x y
    have lc := UInt8.toNat_lt c
    have ld := UInt8.toNat_lt d
    rw [hexL_cons, hexL_cons]
    simp only [Op.bytesLess, ih]
    have e1 := hd_lt ⟨c.toNat / 16, by omega⟩ ⟨d.toNat / 16, by omega⟩
    have e2 := hd_lt ⟨c.toNat % 16, by omega⟩ ⟨d.toNat % 16, by omega⟩
    have e3 := hd_eq ⟨c.toNat / 16, by omega⟩ ⟨d.toNat / 16, by omega⟩
    have e4 := hd_eq ⟨c.toNat % 16, by omega⟩ ⟨d.toNat % 16, by omega⟩
    simp only [] at e1 e2 e3 e4
    rw [e1, e2, e3, e4]
    rcases Nat.lt_trichotomy c.toNat d.toNat with h | h | h
    · have a1 : decide (c < d) = true := decide_eq_true (UInt8.lt_iff_toNat_lt.2 h)
      rw [a1]
      by_cases h1 : c.toNat / 16 < d.toNat / 16
      · simp [h1]
      · have h2 : c.toNat / 16 = d.toNat / 16 := by omega
        have h3 : c.toNat % 16 < d.toNat % 16 := by omega
        simp [h2, h3]
    · obtain rfl : c = d := UInt8.toNat_inj.1 h
      have a1 : decide (c < c) = false := decide_eq_false (fun h' => by have := UInt8.lt_iff_toNat_lt.1 h'; omega)
      simp [a1]
    · have a1 : decide (c < d) = false := decide_eq_false (fun h' => by have := UInt8.lt_iff_toNat_lt.1 h'; omega)
      have a2 : (c == d) = false := by rw [beq_eq_false_iff_ne]; intro h'; rw [h'] at h; omega
      rw [a1, a2]
      by_cases h1 : c.toNat / 16 = d.toNat / 16
      · have h3 : ¬ c.toNat % 16 < d.toNat % 16 := by omega
        have h4 : ¬ c.toNat % 16 = d.toNat % 16 := by omega
        simp [h1, h3, h4]
      · have h2 : ¬ c.toNat / 16 < d.toNat / 16 := by omega
        simp [h1, h2]
end Go.Proofs.YtaflcaillcjmmaaGreatDoor.Num
/- Bytes told in words. -/
set_option linter.unusedSimpArgs false
set_option linter.unusedVariables false
namespace Go.Proofs.YtaflcaillcjmmaaGreatDoor.Num
open Go Go.RowKit Go.Proofs.YtaflcaillcjmmaaGreatDoor.PAll Go.Proofs.YtaflcaillcjmmaaGreatDoor.Help Go.Proofs.YtaflcaillcjmmaaGreatDoorW.PrintWords Go.Proofs.YtaflcaillcjmmaaGreatDoorW.PrintLast Go.Proofs.YtaflcaillcjmmaaGreatDoorW.PrintMore
abbrev digs : ByteArray := ⟨#[48, 49, 50, 51, 52, 53, 54, 55, 56, 57, 97, 98, 99, 100, 101, 102]⟩
def nums (l : List UInt8) : List Int := l.map fun c => (c.toNat : Int)
theorem strOf_nums (l : List UInt8) : strOfNums (nums l) = ofL l := by
  unfold strOfNums nums ofL
  congr 2
  rw [List.map_map]
  induction l with
  | nil => rfl
  | cons c l ih => rw [List.map_cons, ih]; simp
theorem nums_append (a b : List UInt8) : nums (a ++ b) = nums a ++ nums b := by simp [nums]
theorem digs_at : ∀ n : Fin 16, bt digs (n.val : Int) = ((hd n.val).toNat : Int) := by decide +kernel
theorem and15 : ∀ n : Fin 256, Go.bits .and .u8 (n.val : Int) 15 = ((n.val % 16 : Nat) : Int) := by decide +kernel
theorem bt_ofL {l : List UInt8} {i : Nat} (h : i < l.length) : bt (ofL l) (i : Int) = (l[i].toNat : Int) := by
  unfold bt
  rw [dif_pos (by rw [ofL_size]; simpa using h)]
  rfl
theorem wr {x : Int} (h0 : -9223372036854775808 ≤ x) (h1 : x ≤ 9223372036854775807) : wrap64 x = x := by unfold wrap64; omega
theorem text_loop : ∀ (d i k : Nat) (L x : List UInt8), i + d = L.length → L.length ≤ 1000 → x.length ≤ 1 + 2 * i → d < k →
    val_Text.l0 k (nums x) (L.length : Int) (i : Int) 2 0 (ofL L) (0, 0) = some (ofL (x ++ hexL (L.drop i))) := by
  intro d
  induction d with
  | zero =>
    intro i k L x hi hL hx hk
    obtain ⟨k, rfl⟩ : ∃ m, k = m + 1 := ⟨k - 1, by omega⟩
    simp only [val_Text.l0]
    rw [if_neg (by omega), List.drop_of_length_le (by omega), hexL_nil, List.append_nil, strOf_nums]
  | succ d ih =>
    intro i k L x hi hL hx hk
    obtain ⟨k, rfl⟩ : ∃ m, k = m + 1 := ⟨k - 1, by omega⟩
    have hlt : i < L.length := by omega
    have lc := UInt8.toNat_lt L[i]
    simp only [val_Text.l0]
    rw [bt_ofL hlt, and15 ⟨L[i].toNat, lc⟩]
    rw [show ((L[i].toNat : Int) / 16) = ((L[i].toNat / 16 : Nat) : Int) by omega]
    rw [digs_at ⟨L[i].toNat / 16, by omega⟩, digs_at ⟨L[i].toNat % 16, by omega⟩]
    simp only []
    rw [if_pos (by omega), if_pos (by omega), if_pos (by rw [ofL_size]; omega), if_pos (by omega), if_pos (by omega), if_pos (by omega), if_pos (by omega), Option.bind_some]
    rw [if_pos (by simp [nums]; omega), wr (by omega) (by omega)]
    have e : nums x ++ [((hd (L[i].toNat / 16)).toNat : Int), ((hd (L[i].toNat % 16)).toNat : Int)] = nums (x ++ hex2 L[i]) := by rw [nums_append]; rfl
    rw [e, show ((i : Int) + 1) = ((i + 1 : Nat) : Int) by omega, ih (i + 1) k L _ (by omega) hL (by simp [hex2]; omega) (by omega)]
    rw [List.drop_eq_getElem_cons hlt, hexL_cons, List.append_assoc]
    rfl
theorem text_str (k : Nat) (hk : 1100 ≤ k) (L : List UInt8) (hL : L.length ≤ 1000) : val_Text.f k 2 0 (ofL L) (0, 0) = some (ofL (34 :: hexL L)) := by
  unfold val_Text.f
  rw [if_neg (by decide), if_pos rfl, ofL_size]
  have := text_loop L.length 0 k L [34] (by omega) hL (by simp) (by omega)
  exact this
end Go.Proofs.YtaflcaillcjmmaaGreatDoor.Num
/- Bytes read from words. -/
set_option linter.unusedSimpArgs false
set_option linter.unusedVariables false
namespace Go.Proofs.YtaflcaillcjmmaaGreatDoor.Num
open Go Go.RowKit Go.Proofs.YtaflcaillcjmmaaGreatDoor.PAll Go.Proofs.YtaflcaillcjmmaaGreatDoor.Help Go.Proofs.YtaflcaillcjmmaaGreatDoorW.PrintWords Go.Proofs.YtaflcaillcjmmaaGreatDoorW.PrintLast Go.Proofs.YtaflcaillcjmmaaGreatDoorW.PrintMore
theorem hexL_get : ∀ (L : List UInt8) (i : Nat) (c : UInt8), L[i]? = some c → (hexL L)[2 * i]? = some (hd (c.toNat / 16)) ∧ (hexL L)[2 * i + 1]? = some (hd (c.toNat % 16))
  | [], i, c, h => by simp at h
  | d :: L, 0, c, h => by
    simp at h
    subst h
    exact ⟨rfl, rfl⟩
  | d :: L, i + 1, c, h => by
    have := hexL_get L i c (by simpa using h)
    rw [hexL_cons, show 2 * (i + 1) = 2 * i + 1 + 1 by omega]
    exact this
theorem bt_get {l : List UInt8} {j : Nat} {c : UInt8} (h : l[j]? = some c) : bt (ofL l) (j : Int) = (c.toNat : Int) := by
  obtain ⟨h1, h2⟩ := List.getElem?_eq_some_iff.1 h
  rw [bt_ofL h1, h2]
theorem idx_hd : ∀ n : Fin 16, Lib.indexByte digs.data.toList (((hd n.val).toNat : Int)).toNat.toUInt8 = (n.val : Int) := by decide +kernel
theorem or_hd : ∀ c : Fin 256, (Go.bits .or .i64 (wrap64 (((c.val / 16 : Nat) : Int) * 16)) ((c.val % 16 : Nat) : Int)) % 256 = (c.val : Int) := by decide +kernel
theorem hd_in : ∀ n : Fin 16, digs.data.toList.contains (hd n.val) = true := by decide +kernel
theorem hexL_in {L : List UInt8} : ∀ c ∈ hexL L, digs.data.toList.contains c = true := by
  induction L with
  | nil => intro c h; cases h
  | cons d L ih =>
    intro c h
    have ld := UInt8.toNat_lt d
    rw [hexL_cons] at h
    rcases List.mem_cons.mp h with rfl | h
    · exact hd_in ⟨d.toNat / 16, by omega⟩
    · rcases List.mem_cons.mp h with rfl | h
      · exact hd_in ⟨d.toNat % 16, by omega⟩
      · exact ih c h
theorem word_loop : ∀ (d i k : Nat) (L : List UInt8), i + d = L.length → L.length ≤ 1000 → d < k →
    val_word.l0 k (ofL (hexL L)) (nums (L.take i)) ((2 * i : Nat) : Int) = some (2, 0, ofL L, (0, 0), 0) := by
  intro d
  induction d with
  | zero =>
    intro i k L hi hL hk
    obtain ⟨k, rfl⟩ : ∃ m, k = m + 1 := ⟨k - 1, by omega⟩
    simp only [val_word.l0]
    rw [if_neg (by rw [ofL_size, hexL_length]; omega), List.take_of_length_le (by omega), strOf_nums]
  | succ d ih =>
    intro i k L hi hL hk
    obtain ⟨k, rfl⟩ : ∃ m, k = m + 1 := ⟨k - 1, by omega⟩
    have hlt : i < L.length := by omega
    have lc := UInt8.toNat_lt L[i]
    obtain ⟨g1, g2⟩ := hexL_get L i L[i] (List.getElem?_eq_getElem hlt)
    simp only [val_word.l0, strings_IndexByte.f]
    rw [wr (x := ((2 * i : Nat) : Int) + 1) (by omega) (by omega), wr (x := ((2 * i : Nat) : Int) + 2) (by omega) (by omega)]
    rw [show ((2 * i : Nat) : Int) + 1 = ((2 * i + 1 : Nat) : Int) by omega, bt_get g1, bt_get g2]
    rw [idx_hd ⟨L[i].toNat / 16, by omega⟩, idx_hd ⟨L[i].toNat % 16, by omega⟩]
    simp only [Option.bind_some]
    rw [or_hd ⟨L[i].toNat, lc⟩]
    rw [if_pos (by rw [ofL_size, hexL_length]; omega), if_pos (by omega), if_pos (by omega), if_pos (by rw [ofL_size, hexL_length]; omega), if_pos (by simp [nums]; omega)]
    have e : nums (L.take i) ++ [((L[i].toNat : Nat) : Int)] = nums (L.take (i + 1)) := by
      rw [List.take_succ_eq_append_getElem hlt, nums_append]
      rfl
    simp only [] at e ⊢
    rw [e, show ((2 * i : Nat) : Int) + 2 = ((2 * (i + 1) : Nat) : Int) by omega]
    exact ih (i + 1) k L (by omega) hL (by omega)
theorem word_str (k : Nat) (hk : 1100 ≤ k) (L : List UInt8) (hL : L.length ≤ 255) : val_word.f k (ofL (hexL L)) = some (2, 0, ofL L, (0, 0), 0) := by
  obtain ⟨k, rfl⟩ : ∃ m, k = m + 1 := ⟨k - 1, by omega⟩
  unfold val_word.f
  rw [if_neg (by rw [ofL_size, hexL_length]; omega)]
  have ht : strings_Trim.f (ofL (hexL L)) digs = some (ofL []) := by
    unfold strings_Trim.f
    rw [if_pos ⟨by rw [ofL_size, hexL_length]; omega, by decide, by decide⟩, ofL_data, trim_all (fun c hc => hexL_in c hc)]
  rw [ht, Option.bind_some, ofL_toList]
  simp only [val_word.j0, List.isEmpty_nil, Bool.not_true, Bool.false_eq_true, if_false]
  rw [if_neg (by rw [ofL_size, hexL_length]; omega)]
  exact word_loop L.length 0 k L (by omega) (by omega) (by omega)
theorem parse_str (k : Nat) (hk : 1101 ≤ k) (L : List UInt8) (hL : L.length ≤ 255) : val_Parse.f k (ofL (34 :: hexL L)) = some (2, 0, ofL L, (0, 0), 0) := by
  unfold val_Parse.f
  rw [ofL_toList, if_neg (by intro h; exact absurd (List.cons.inj h).1 (by decide)), prefix_one, Option.bind_some, if_pos (by simp), if_pos (by rw [ofL_size]; simp; omega)]
  rw [ofL_extract]
  have e : (List.drop 1 (List.take (ofL (34 :: hexL L)).size (34 :: hexL L))) = hexL L := by rw [List.take_of_length_le (by rw [ofL_size]; exact Nat.le_refl _)]; rfl
  rw [e, word_str k (by omega) L hL]
  rfl
end Go.Proofs.YtaflcaillcjmmaaGreatDoor.Num
/- Bytes in words: the program's reader and the document's; what is told again. -/
set_option linter.unusedSimpArgs false
set_option linter.unusedVariables false
namespace Go.Proofs.YtaflcaillcjmmaaGreatDoor.Num
open Go Go.RowKit Go.Proofs.YtaflcaillcjmmaaGreatDoor.PAll Go.Proofs.YtaflcaillcjmmaaGreatDoor.Lia Go.Proofs.YtaflcaillcjmmaaGreatDoor.Help Go.Proofs.YtaflcaillcjmmaaGreatDoorW.PrintWords Go.Proofs.YtaflcaillcjmmaaGreatDoorW.PrintLast Go.Proofs.YtaflcaillcjmmaaGreatDoorW.PrintMore
abbrev Res := Int × Int × ByteArray × (Nat × Nat) × Int
abbrev bad (e : Int) : Res := (0, 0, ⟨#[]⟩, (0, 0), e)
/-- A digit's number; -1: none. -/
def hv (c : Nat) : Int := if 48 ≤ c ∧ c ≤ 57 then (c : Int) - 48 else if 97 ≤ c ∧ c ≤ 102 then (c : Int) - 87 else -1
theorem hex_run (k : Nat) (hk : 1 ≤ k) (c : UInt8) : noriaref11_hex.f k ((c.toNat : Nat) : Int) = some (hv c.toNat) := by
  obtain ⟨k, rfl⟩ : ∃ m, k = m + 1 := ⟨k - 1, by omega⟩
  have hc := UInt8.toNat_lt c
  unfold noriaref11_hex.f hv
  by_cases g : ((c.toNat : Nat) : Int) ≥ 48
  · rw [if_pos g]
    by_cases g2 : ((c.toNat : Nat) : Int) ≤ 57
    · rw [decide_eq_true g2, if_pos (by omega)]
      simp only [noriaref11_hex.j0]
      rw [if_pos trivial]
      congr 1
      omega
    · rw [decide_eq_false g2, if_neg (by omega)]
      simp only [noriaref11_hex.j0]
      rw [if_neg (by simp)]
      by_cases g3 : ((c.toNat : Nat) : Int) ≥ 97
      · rw [if_pos g3]
        by_cases g4 : ((c.toNat : Nat) : Int) ≤ 102
        · rw [if_pos g4, if_pos (by omega)]
          congr 1
          omega
        · rw [if_neg g4, if_neg (by omega)]
      · rw [if_neg g3, if_neg (by omega)]
  · rw [if_neg g, if_neg (by omega), if_neg (by omega)]
    simp only [noriaref11_hex.j0]
    rw [if_neg (by simp), if_neg (by omega)]
theorem hv_hd : ∀ n : Fin 16, hv (hd n.val).toNat = (n.val : Int) := by decide +kernel
theorem hd_hv : ∀ c : Fin 256, 0 ≤ hv c.val → hv c.val < 16 ∧ hd (hv c.val).toNat = UInt8.ofNat c.val := by decide +kernel
theorem hv_out : ∀ c : Fin 256, hv c.val < 0 → digs.data.toList.contains (UInt8.ofNat c.val) = false := by decide +kernel
/-- Two digits a byte. -/
def unhex : List UInt8 → Option (List UInt8)
  | a :: b :: R => if 0 ≤ hv a.toNat ∧ 0 ≤ hv b.toNat then (unhex R).map (UInt8.ofNat (16 * hv a.toNat + hv b.toNat).toNat :: ·) else none
  | _ => some []
theorem byte_of {a b : UInt8} (ha : 0 ≤ hv a.toNat) (hb : 0 ≤ hv b.toNat) :
    hex2 (UInt8.ofNat (16 * hv a.toNat + hv b.toNat).toNat) = [a, b] ∧ (wrap64 (wrap64 (16 * hv a.toNat) + hv b.toNat)) % 256 = (((UInt8.ofNat (16 * hv a.toNat + hv b.toNat).toNat).toNat : Nat) : Int) := by
  have ha2 := hd_hv ⟨a.toNat, UInt8.toNat_lt a⟩ ha
  have hb2 := hd_hv ⟨b.toNat, UInt8.toNat_lt b⟩ hb
  simp only [UInt8.ofNat_toNat] at ha2 hb2
  obtain ⟨a1, a2⟩ := ha2
  obtain ⟨b1, b2⟩ := hb2
  have e : (UInt8.ofNat (16 * hv a.toNat + hv b.toNat).toNat).toNat = (16 * hv a.toNat + hv b.toNat).toNat := by
    rw [UInt8.toNat_ofNat']
    omega
  constructor
  · unfold hex2
    rw [e, show (16 * hv a.toNat + hv b.toNat).toNat / 16 = (hv a.toNat).toNat by omega, show (16 * hv a.toNat + hv b.toNat).toNat % 16 = (hv b.toNat).toNat by omega, a2, b2]
  · rw [e, wr' (x := 16 * hv a.toNat) (by omega) (by omega), wr' (by omega) (by omega)]
    omega
theorem unhex_some : ∀ (n : Nat) (R M : List UInt8), R.length = 2 * n → unhex R = some M → R = hexL M ∧ M.length = n
  | 0, R, M, h, e => by
    obtain rfl : R = [] := List.length_eq_zero_iff.1 (by omega)
    simp [unhex] at e
    subst e
    exact ⟨rfl, rfl⟩
  | n + 1, R, M, h, e => by
    match R, h with
    | a :: b :: R, h =>
      rw [unhex] at e
      split at e
      · rename_i g
        obtain ⟨M', h1, h2⟩ := Option.map_eq_some_iff.1 e
        obtain ⟨h3, h4⟩ := unhex_some n R M' (by simp at h; omega) h1
        subst h2
        have := (byte_of g.1 g.2).1
        unfold hex2 at this
        have e1 := (List.cons.inj this).1
        have e2 := (List.cons.inj (List.cons.inj this).2).1
        refine ⟨?_, by simp [h4]⟩
        rw [hexL_cons, e1, e2, ← h3]
      · cases e
theorem unhex_none : ∀ (n : Nat) (R : List UInt8), R.length = 2 * n → unhex R = none → ∃ c ∈ R, digs.data.toList.contains c = false
  | 0, R, h, e => by
    obtain rfl : R = [] := List.length_eq_zero_iff.1 (by omega)
    simp [unhex] at e
  | n + 1, R, h, e => by
    match R, h with
    | a :: b :: R, h =>
      rw [unhex] at e
      split at e
      · rename_i g
        have h1 : unhex R = none := by
          cases hu : unhex R with
          | none => rfl
          | some M => rw [hu] at e; simp at e
        obtain ⟨c, h2, h3⟩ := unhex_none n R (by simp at h; omega) h1
        exact ⟨c, by simp [h2], h3⟩
      · rename_i g
        by_cases ga : hv a.toNat < 0
        · have := hv_out ⟨a.toNat, UInt8.toNat_lt a⟩ ga
          simp only [UInt8.ofNat_toNat] at this
          exact ⟨a, by simp, this⟩
        · have := hv_out ⟨b.toNat, UInt8.toNat_lt b⟩ (by simp only; omega)
          simp only [UInt8.ofNat_toNat] at this
          exact ⟨b, by simp, this⟩
/-- What is told of a text behind '"'. -/
def hexRes (R : List UInt8) : Res := if R.length % 2 = 1 then bad 2 else match unhex R with
  | none => bad 2
  | some M => if M.length > 255 then bad 4 else (2, 0, ofL M, (0, 0), 0)
theorem hexL_append (a b : List UInt8) : hexL (a ++ b) = hexL a ++ hexL b := by simp [hexL]
/-- The document's loop. -/
theorem refHex : ∀ (n : Nat) (P R : List UInt8) (k : Nat), R.length = 2 * n → P.length + n ≤ 1000 → n + 3 ≤ k →
    noriaref11_ParseVal.l0 k (ofL (34 :: (hexL P ++ R))) (nums P) ((1 + 2 * P.length : Nat) : Int) = some (match unhex R with
      | none => bad 2
      | some M => if (P ++ M).length > 255 then bad 4 else (2, 0, ofL (P ++ M), (0, 0), 0)) := by
  intro n
  induction n with
  | zero =>
    intro P R k h hl hk
    obtain ⟨k, rfl⟩ : ∃ m, k = m + 1 := ⟨k - 1, by omega⟩
    obtain rfl : R = [] := List.length_eq_zero_iff.1 (by omega)
    simp only [noriaref11_ParseVal.l0, unhex]
    rw [if_neg (by rw [ofL_size]; simp [hexL_length]; omega), List.append_nil]
    have hn : (nums P).length = P.length := by simp [nums]
    rw [hn]
    by_cases g : P.length > 255
    · rw [if_pos (by omega), if_pos g]
    · rw [if_neg (by omega), if_neg g, strOf_nums]
  | succ n ih =>
    intro P R k h hl hk
    obtain ⟨k, rfl⟩ : ∃ m, k = m + 1 := ⟨k - 1, by omega⟩
    match R, h with
    | a :: b :: R, h =>
      have hsz : (ofL (34 :: (hexL P ++ a :: b :: R))).size = 1 + 2 * P.length + 2 + R.length := by
        rw [ofL_size]; simp [hexL_length]; omega
      have g1 : bt (ofL (34 :: (hexL P ++ a :: b :: R))) ((1 + 2 * P.length : Nat) : Int) = (a.toNat : Int) := by
        apply bt_get
        rw [show 1 + 2 * P.length = (hexL P).length + 1 by rw [hexL_length]; omega, List.getElem?_cons_succ, List.getElem?_append_right (Nat.le_refl _)]
        simp
      have g2 : bt (ofL (34 :: (hexL P ++ a :: b :: R))) ((1 + 2 * P.length + 1 : Nat) : Int) = (b.toNat : Int) := by
        apply bt_get
        rw [show 1 + 2 * P.length + 1 = (hexL P).length + 1 + 1 by rw [hexL_length]; omega, List.getElem?_cons_succ, List.getElem?_append_right (by omega)]
        simp
      have w1 : wrap64 (((1 + 2 * P.length : Nat) : Int) + 1) = ((1 + 2 * P.length + 1 : Nat) : Int) := by rw [wr' (by omega) (by omega)]; omega
      have w2 : wrap64 (((1 + 2 * P.length : Nat) : Int) + 2) = ((1 + 2 * (P.length + 1) : Nat) : Int) := by rw [wr' (by omega) (by omega)]; omega
      simp only [noriaref11_ParseVal.l0]
      rw [w1, w2, g1, g2, hex_run k (by omega), hex_run k (by omega)]
      rw [if_pos (by omega), if_pos (by omega), Option.bind_some, if_pos (by omega), if_pos (by omega), Option.bind_some]
      rw [unhex]
      by_cases ga : hv a.toNat < 0
      · rw [if_pos ga, if_neg (by omega)]
      · rw [if_neg ga]
        by_cases gb : hv b.toNat < 0
        · rw [if_pos gb, if_neg (by omega)]
        · have hb := byte_of (a := a) (b := b) (by omega) (by omega)
          rw [if_neg gb, if_pos (show 0 ≤ hv a.toNat ∧ 0 ≤ hv b.toNat by omega), if_pos (by simp [nums]; omega), hb.2]
          generalize UInt8.ofNat (16 * hv a.toNat + hv b.toNat).toNat = c at *
          have e1 : nums P ++ [((c.toNat : Nat) : Int)] = nums (P ++ [c]) := by rw [nums_append]; rfl
          have e2 : hexL P ++ a :: b :: R = hexL (P ++ [c]) ++ R := by
            have : hexL [c] = [a, b] := by rw [← hb.1]; simp [hexL]
            rw [hexL_append, this, List.append_assoc]
            rfl
          rw [e1, e2]
          have := ih (P ++ [c]) R k (by simp at h; omega) (by simp; omega) (by omega)
          rw [show (P ++ [c]).length = P.length + 1 by simp] at this
          rw [this]
          cases unhex R with
          | none => rfl
          | some M => simp only [Option.map_some, List.append_assoc, List.singleton_append]
/-- The program's reader of bytes. -/
theorem word_run (k : Nat) (hk : 1100 ≤ k) (R : List UInt8) (hl : R.length ≤ 700) : val_word.f k (ofL R) = some (hexRes R) := by
  unfold hexRes
  by_cases h : R.length % 2 = 1
  · obtain ⟨k, rfl⟩ : ∃ m, k = m + 1 := ⟨k - 1, by omega⟩
    unfold val_word.f
    rw [if_pos (by rw [ofL_size]; omega), if_pos h]
    simp only [val_word.j0]
    rw [if_pos trivial]
  · rw [if_neg h]
    obtain ⟨n, hn⟩ : ∃ n, R.length = 2 * n := ⟨R.length / 2, by omega⟩
    cases hu : unhex R with
    | some M =>
      obtain ⟨h1, h2⟩ := unhex_some n R M hn hu
      by_cases g : M.length > 255
      · simp only [if_pos g]
        obtain ⟨k, rfl⟩ : ∃ m, k = m + 1 := ⟨k - 1, by omega⟩
        unfold val_word.f
        rw [if_neg (by rw [ofL_size]; omega)]
        have ht : strings_Trim.f (ofL R) digs = some (ofL []) := by
          unfold strings_Trim.f
          rw [if_pos ⟨by rw [ofL_size]; omega, by decide, by decide⟩, ofL_data, trim_all (fun c hc => hexL_in c (by rw [← h1]; exact hc))]
        rw [ht, Option.bind_some, ofL_toList]
        simp only [val_word.j0, List.isEmpty_nil, Bool.not_true, Bool.false_eq_true, if_false]
        rw [if_pos (by rw [ofL_size]; omega)]
      · simp only [if_neg g]
        rw [h1]
        exact word_str k hk M (by omega)
    | none =>
      obtain ⟨c, hc1, hc2⟩ := unhex_none n R hn hu
      obtain ⟨k, rfl⟩ : ∃ m, k = m + 1 := ⟨k - 1, by omega⟩
      unfold val_word.f
      rw [if_neg (by rw [ofL_size]; omega)]
      have hne := trim_some hc1 hc2
      have ht : strings_Trim.f (ofL R) digs = some (ofL (Lib.trimS R digs.data.toList)) := by
        unfold strings_Trim.f
        rw [if_pos ⟨by rw [ofL_size]; omega, by decide, by decide⟩, ofL_data]
      rw [ht, Option.bind_some, ofL_toList]
      have he : (Lib.trimS R digs.data.toList).isEmpty = false := by
        cases hx : Lib.trimS R digs.data.toList with
        | nil => exact absurd hx hne
        | cons _ _ => rfl
      rw [he]
      simp only [val_word.j0]
      rw [if_pos (by simp)]
/-! ### what is read, all in all -/
def pointVal (r : (Nat × Nat) × Int) : Res := if r.2 = 0 then (3, 0, ⟨#[]⟩, r.1, 0) else bad r.2
def pval (L : List UInt8) : Res :=
  if L = [45] then bad 0 else if L.head? = some 34 then hexRes (L.drop 1) else if L.getLast? = some 105 then pointVal (ppt L.dropLast) else numVal (pnum L)
theorem last_split {L : List UInt8} (h : L.getLast? = some 105) : L = L.dropLast ++ [105] := by
  rcases List.eq_nil_or_concat L with rfl | ⟨m, c, rfl⟩
  · simp at h
  · simp at h
    subst h
    simp
theorem parse_all (k : Nat) (hk : 1101 ≤ k) (L : List UInt8) (hl : L.length ≤ 700) : val_Parse.f k (ofL L) = some (pval L) := by
  unfold pval
  by_cases h1 : L = [45]
  · rw [if_pos h1]
    unfold val_Parse.f
    rw [ofL_toList, if_pos h1]
  · rw [if_neg h1]
    by_cases h2 : L.head? = some 34
    · rw [if_pos h2]
      unfold val_Parse.f
      rw [ofL_toList, if_neg h1, prefix_one, Option.bind_some, if_pos (by simpa using h2)]
      have hne : 1 ≤ L.length := by
        cases L with
        | nil => simp at h2
        | cons _ _ => simp
      rw [if_pos (by rw [ofL_size]; omega), ofL_extract, ofL_size, List.take_length, word_run k (by omega) _ (by rw [List.length_drop]; omega), Option.bind_some]
    · rw [if_neg h2]
      by_cases h3 : L.getLast? = some 105
      · rw [if_pos h3]
        have hs := last_split h3
        unfold val_Parse.f
        rw [ofL_toList, if_neg h1, prefix_one, Option.bind_some, if_neg (by simpa using h2), suffix_one _ _ (by omega), Option.bind_some, if_pos (by simpa using h3)]
        have := point_run k (by omega) L.dropLast (by rw [List.length_dropLast]; omega)
        rw [← hs] at this
        rw [this, Option.bind_some]
        unfold pointVal
        split <;> rfl
      · rw [if_neg h3]
        exact parse_run k (by omega) L (by omega) h1 h2 h3
theorem ref_all (k : Nat) (hk : 4200 ≤ k) (L : List UInt8) (hl : L.length ≤ 700) : noriaref11_ParseVal.f k (ofL L) = some (pval L) := by
  unfold pval noriaref11_ParseVal.f
  rw [ofL_toList]
  by_cases h1 : L = [45]
  · rw [if_pos h1, if_pos h1]
  · rw [if_neg h1, if_neg h1]
    cases L with
    | nil =>
      rw [if_pos rfl, if_neg (by simp), if_neg (by simp)]
      rfl
    | cons c l =>
      simp only [List.length_cons] at hl
      rw [if_neg (by simp), if_pos (by rw [ofL_size, List.length_cons]; omega), bt_ofL0]
      by_cases h2 : c = 34
      · subst h2
        rw [if_pos (show (((34 : UInt8).toNat : Nat) : Int) = 34 from rfl), if_pos (show (34 :: l).head? = some 34 from rfl)]
        rw [ofL_size]
        unfold hexRes
        simp only [List.drop_one, List.tail_cons]
        by_cases g : (((34 :: l : List UInt8).length : Nat) : Int) % 2 = 0
        · rw [if_pos g, if_pos (by simp only [List.length_cons] at g; omega)]
        · simp only [List.length_cons] at g
          rw [if_neg (by simp only [List.length_cons]; omega), if_neg (by omega)]
          have := refHex (l.length / 2) [] l k (by omega) (by simp; omega) (by omega)
          simp only [List.nil_append, hexL_nil] at this
          exact this
      · rw [if_neg (fun e => h2 (UInt8.toNat_inj.1 (by rw [show (34 : UInt8).toNat = 34 from rfl]; omega))), if_neg (show ¬ (c :: l).head? = some 34 from fun e => h2 (Option.some.inj e))]
        have hw : wrap64 (((ofL (c :: l)).size : Int) - 1) = ((l.length : Nat) : Int) := by rw [ofL_size, List.length_cons, wr' (by omega) (by omega)]; omega
        rw [hw, if_pos (by omega), if_pos (by rw [ofL_size, List.length_cons]; omega)]
        have hlast : bt (ofL (c :: l)) ((l.length : Nat) : Int) = (((c :: l).getLast (by simp)).toNat : Int) := by
          rw [bt_ofL' (by simp)]
          rw [List.getLast_eq_getElem]
          simp
        have hgl : (c :: l).getLast? = some ((c :: l).getLast (by simp)) := List.getLast?_eq_some_getLast (by simp)
        rw [hlast]
        by_cases h3 : (c :: l).getLast? = some 105
        · have h3' : (c :: l).getLast (by simp) = 105 := Option.some.inj (hgl.symm.trans h3)
          rw [if_pos (by rw [h3']; rfl), if_pos h3]
          have hs := last_split h3
          have := refPoint (c :: l).dropLast (by rw [List.length_dropLast]; simp; omega) k (by omega)
          rw [← hs] at this
          rw [this, Option.bind_some]
          unfold pointVal
          split <;> rfl
        · rw [if_neg (fun e => h3 (by rw [hgl]; congr 1; exact UInt8.toNat_inj.1 (by rw [show (105 : UInt8).toNat = 105 from rfl]; omega))), if_neg h3]
          rw [refNum k (by omega) (c :: l) (by simp; omega), Option.bind_some]
          unfold numVal
          split <;> rfl
end Go.Proofs.YtaflcaillcjmmaaGreatDoor.Num
/- What is read is told so again, and may be. -/
set_option linter.unusedSimpArgs false
set_option linter.unusedVariables false
namespace Go.Proofs.YtaflcaillcjmmaaGreatDoor.Num
open Go Go.RowKit Go.Proofs.YtaflcaillcjmmaaGreatDoor.PAll Go.Proofs.YtaflcaillcjmmaaGreatDoor.Lia Go.Proofs.YtaflcaillcjmmaaGreatDoor.Help Go.Proofs.YtaflcaillcjmmaaGreatDoorW.PrintWords Go.Proofs.YtaflcaillcjmmaaGreatDoorW.PrintLast Go.Proofs.YtaflcaillcjmmaaGreatDoorW.PrintMore
theorem good00 : point_Good.f (0, 0) = some true := by decide +kernel
theorem whole_of (n : Int) (h : n.natAbs ≤ 1048576) : point_whole.f (fOfI n) = some true := by
  simp only [point_whole.f, math_Trunc.f, math_Abs.f]
  rw [if_neg (by rw [fNaN_of n h]; simp), Option.bind_some, fTrunc_of n h, if_pos (fEq_of n h), Option.bind_some, fLe_of n h]
theorem good_of (m n : Int) (h : m.natAbs ≤ 1048576) (h' : n.natAbs ≤ 1048576) : point_Good.f (fOfI m, fOfI n) = some true := by
  simp only [point_Good.f]
  rw [whole_of m h, Option.bind_some, if_pos rfl, whole_of n h', Option.bind_some]
theorem cEq_of (m n : Int) (h : m.natAbs ≤ 1048576) (h' : n.natAbs ≤ 1048576) : cEq (fOfI m) (fOfI n) (fOfI m) (fOfI n) = true := by
  unfold cEq
  rw [fEq_of m h, fEq_of n h']
  rfl
/-- What is told of what is read: it is the same, it may be, it is told so. -/
structure Fine (k : Nat) (L : List UInt8) (r : Res) : Prop where
  same : cEq r.2.2.2.1.1 r.2.2.2.1.2 r.2.2.2.1.1 r.2.2.2.1.2 = true
  text : r.2.2.2.2 = 0 → val_Text.f k r.1 r.2.1 r.2.2.1 r.2.2.2.1 = some (ofL L)
  check : r.2.2.2.2 = 0 → val_Check.f k r.1 r.2.1 r.2.2.1 r.2.2.2.1 = some 0
theorem check_of (k : Nat) (hk : 3 ≤ k) (t n : Int) (s : ByteArray) (c : Nat × Nat) (h0 : 0 ≤ t) (h3 : t ≤ 3) (ho : val_own.f t n s c = some (t, n, s, c)) (hc : cEq c.1 c.2 c.1 c.2 = true) (hg : point_Good.f c = some true) (hs : s.size ≤ 255) :
    val_Check.f k t n s c = some 0 := by
  obtain ⟨k, rfl⟩ : ∃ m, k = m + 2 := ⟨k - 2, by omega⟩
  unfold val_Check.f
  rw [if_neg (by omega), decide_eq_false (by omega)]
  simp only [val_Check.j0]
  rw [if_neg (by simp), ho, Option.bind_some]
  simp only [beq_self_eq_true, Bool.not_true, hc, Bool.or_self, Bool.false_eq_true, if_false]
  rw [hg, Option.bind_some]
  simp only [Bool.not_true, val_Check.j1]
  rw [if_neg (by simp), if_neg (by omega)]
theorem fine_bad (k : Nat) (L : List UInt8) (e : Int) (h : e ≠ 0) : Fine k L (bad e) := ⟨c00, fun z => absurd z h, fun z => absurd z h⟩
theorem fine_null (k : Nat) (hk : 3 ≤ k) : Fine k [45] (bad 0) where
  same := c00
  text := fun _ => rfl
  check := fun _ => check_of k hk 0 0 _ _ (by omega) (by omega) rfl c00 good00 (by decide)
theorem fine_num (k : Nat) (hk : 3 ≤ k) (L : List UInt8) : Fine k L (numVal (pnum L)) := by
  unfold numVal pnum
  by_cases g : good L
  · rw [if_pos g]
    by_cases f : fits L
    · rw [if_pos f, if_pos rfl]
      refine ⟨c00, fun _ => ?_, fun _ => check_of k hk 1 _ _ _ (by omega) (by omega) rfl c00 good00 (show (⟨#[]⟩ : ByteArray).size ≤ 255 by decide)⟩
      show val_Text.f k 1 (numv L) ⟨#[]⟩ (0, 0) = some (ofL L)
      unfold val_Text.f strconv_FormatInt.f
      rw [if_pos rfl, if_pos ⟨rfl, f.1, f.2⟩, itoa_good g]
      rfl
    · rw [if_neg f, if_neg (by decide)]
      exact fine_bad k L 1 (by decide)
  · rw [if_neg g, if_neg (by decide)]
    exact fine_bad k L 2 (by decide)
theorem fine_hex (k : Nat) (hk : 1100 ≤ k) (R : List UInt8) (hl : R.length ≤ 700) : Fine k (34 :: R) (hexRes R) := by
  unfold hexRes
  by_cases h : R.length % 2 = 1
  · rw [if_pos h]
    exact fine_bad _ _ 2 (by decide)
  · rw [if_neg h]
    cases hu : unhex R with
    | none => exact fine_bad _ _ 2 (by decide)
    | some M =>
      obtain ⟨h1, h2⟩ := unhex_some (R.length / 2) R M (by omega) hu
      by_cases g : M.length > 255
      · simp only [if_pos g]
        exact fine_bad _ _ 4 (by decide)
      · simp only [if_neg g]
        refine ⟨c00, fun _ => ?_, fun _ => check_of k (by omega) 2 0 _ _ (by omega) (by omega) rfl c00 good00 (by rw [ofL_size]; omega)⟩
        rw [h1]
        exact text_str k hk M (by omega)
theorem ofL_append (a b : List UInt8) : ofL a ++ ofL b = ofL (a ++ b) := by
  rw [← toList_ofL (ofL a ++ ofL b)]
  congr 1
theorem format_good {X : List UInt8} (g : good X) (h : (numv X).natAbs ≤ 1048576) : strconv_FormatInt.f (fToI .i64 (fOfI (numv X))) 10 = some (ofL X) := by
  rw [fToI_of _ h]
  unfold strconv_FormatInt.f
  rw [if_pos ⟨rfl, by omega, by omega⟩, itoa_good g]
/-- A point is told so again. -/
theorem point_text (L X Y : List UInt8) (hl : L.length ≤ 999) (gx : good X) (gy : good Y) (hx : (numv X).natAbs ≤ 1048576) (hy : (numv Y).natAbs ≤ 1048576) (hxl : X.length ≤ 999) (hyl : Y.length ≤ 999)
    (h : (Y.head? = some 45 ∧ L = X ++ Y) ∨ (Y.head? ≠ some 45 ∧ L = X ++ 43 :: Y)) : point_Text.f (fOfI (numv X), fOfI (numv Y)) = some (ofL (L ++ [105])) := by
  unfold point_Text.f
  simp only [fToIok_of _ hx, fToIok_of _ hy, if_true, format_good gx hx, format_good gy hy, Option.bind_some]
  have hne : Y ≠ [] := fun e => good_nil (e ▸ gy)
  cases hY : Y with
  | nil => exact absurd hY hne
  | cons c t =>
    rw [← hY]
    have hp : 0 < Y.length := by rw [hY]; simp
    have hb : bt (ofL Y) 0 = (c.toNat : Int) := by rw [hY]; exact bt_ofL0 c t
    have hhd : Y.head? = some c := by rw [hY]; rfl
    rw [if_pos (by rw [ofL_size]; omega), hb]
    have hi : (⟨#[105]⟩ : ByteArray) = ofL [105] := rfl
    have hp43 : (⟨#[43]⟩ : ByteArray) = ofL [43] := rfl
    rcases h with ⟨h1, h2⟩ | ⟨h1, h2⟩
    · rw [hhd] at h1
      have hc := Option.some.inj h1
      rw [if_pos (by rw [hc]; rfl), if_pos (by simp only [ofL_size]; omega), if_pos (by simp only [ofL_size]; omega), hi, ofL_append, ofL_append, ← h2]
    · rw [hhd] at h1
      have hc : c ≠ 45 := fun e => h1 (by rw [e])
      rw [if_neg (fun e => hc (UInt8.toNat_inj.1 (by rw [show (45 : UInt8).toNat = 45 from rfl]; omega)))]
      rw [if_pos (by simp only [ofL_size]; omega), if_pos (by simp only [ofL_size]; omega), if_pos (by simp only [ofL_size]; omega), hi, hp43, ofL_append, ofL_append, ofL_append, h2]
      simp
theorem fine_point (k : Nat) (hk : 3 ≤ k) (L : List UInt8) (hl : L.length ≤ 999) : Fine k (L ++ [105]) (pointVal (ppt L)) := by
  unfold pointVal ppt
  by_cases h : lia L L.length < 1
  · rw [if_pos h, if_neg (by decide)]
    exact fine_bad _ _ 2 (by decide)
  · rw [if_neg h]
    rcases lia_spec L L.length with ⟨h1, _⟩ | ⟨p, h1, h2, h3, h4⟩
    · omega
    rw [h2, Int.toNat_natCast]
    rw [h2] at h
    have hgd : L.getD p 0 = L[p] := by rw [List.getD, List.getElem?_eq_getElem h1]; rfl
    have hcons := List.drop_eq_getElem_cons h1
    unfold comb
    by_cases b1 : (pdec (L.take p)).2 = 2 ∨ (pdec (tail43 (L.drop p))).2 = 2
    · rw [if_pos b1, if_neg (by decide)]
      exact fine_bad _ _ 2 (by decide)
    · rw [if_neg b1]
      by_cases b2 : (pdec (L.take p)).2 = 0 ∧ (pdec (tail43 (L.drop p))).2 = 0
      · rw [if_pos b2, if_pos rfl]
        have key : ∀ X, (pdec X).2 = 0 → good X ∧ (numv X).natAbs ≤ 1048576 ∧ (pdec X).1 = fOfI (numv X) := by
          intro X hX
          unfold pdec at hX ⊢
          by_cases g : good X
          · rw [if_pos g] at hX ⊢
            by_cases f : fits X ∧ -1048576 ≤ numv X ∧ numv X ≤ 1048576
            · rw [if_pos f]
              exact ⟨g, by omega, rfl⟩
            · rw [if_neg f] at hX
              exact absurd hX (by decide)
          · rw [if_neg g] at hX
            exact absurd hX (by decide)
        obtain ⟨gx, hx, ex⟩ := key _ b2.1
        obtain ⟨gy, hy, ey⟩ := key _ b2.2
        have hT : (tail43 (L.drop p)).length ≤ 999 := by
          have := tail43_len (L.drop p)
          rw [List.length_drop] at this
          omega
        rw [ex, ey]
        refine ⟨cEq_of _ _ hx hy, fun _ => ?_, fun _ => check_of k hk 3 0 _ _ (by omega) (by omega) rfl (cEq_of _ _ hx hy) (good_of _ _ hx hy) (show (⟨#[]⟩ : ByteArray).size ≤ 255 by decide)⟩
        have hpt : point_Text.f (fOfI (numv (L.take p)), fOfI (numv (tail43 (L.drop p)))) = some (ofL (L ++ [105])) := by
          refine point_text L _ _ hl gx gy hx hy (by rw [List.length_take]; omega) hT ?_
          have hs := h3
          unfold sgn at hs
          rw [hgd] at hs
          by_cases c43 : L[p].toNat = 43
          · have hc : L[p] = 43 := UInt8.toNat_inj.1 c43
            have ht : tail43 (L.drop p) = L.drop (p + 1) := by
              unfold tail43
              rw [hcons, hc]
              simp
            right
            rw [ht]
            constructor
            · intro e
              have hq : ¬ sgn L (p + 1) := by
                rcases Nat.lt_or_ge (p + 1) L.length with h' | h'
                · exact h4 (p + 1) (by omega) h'
                · intro z; have := sgn_lt z; omega
              apply hq
              have : L.getD (p + 1) 0 = 45 := by
                rw [List.head?_drop] at e
                simp [List.getD, e]
              unfold sgn
              rw [this]
              right; rfl
            · rw [← hc, ← hcons, List.take_append_drop]
          · have hc : L[p] = 45 := UInt8.toNat_inj.1 (by rcases hs with h' | h'; exact absurd h' c43; exact h')
            have ht : tail43 (L.drop p) = L.drop p := by
              unfold tail43
              rw [hcons, hc]
              simp
            left
            rw [ht]
            exact ⟨by rw [hcons, hc]; rfl, by rw [List.take_append_drop]⟩
        show val_Text.f k 3 0 ⟨#[]⟩ (fOfI (numv (L.take p)), fOfI (numv (tail43 (L.drop p)))) = some (ofL (L ++ [105]))
        unfold val_Text.f
        rw [if_neg (by decide), if_neg (by decide), if_pos rfl, hpt]
        rfl
      · rw [if_neg b2, if_neg (by decide)]
        exact fine_bad _ _ 1 (by decide)
theorem fine_all (k : Nat) (hk : 1100 ≤ k) (L : List UInt8) (hl : L.length ≤ 700) : Fine k L (pval L) := by
  unfold pval
  by_cases h1 : L = [45]
  · rw [if_pos h1, h1]
    exact fine_null k (by omega)
  · rw [if_neg h1]
    by_cases h2 : L.head? = some 34
    · rw [if_pos h2]
      cases L with
      | nil => simp at h2
      | cons c l =>
        have hc : c = 34 := Option.some.inj h2
        subst hc
        simp only [List.length_cons] at hl
        exact fine_hex k hk l (by omega)
    · rw [if_neg h2]
      by_cases h3 : L.getLast? = some 105
      · rw [if_pos h3]
        have := fine_point k (by omega) L.dropLast (by rw [List.length_dropLast]; omega)
        rw [← last_split h3] at this
        exact this
      · rw [if_neg h3]
        exact fine_num k (by omega) L
end Go.Proofs.YtaflcaillcjmmaaGreatDoor.Num
