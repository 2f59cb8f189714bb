import Derived.Test.YtaflcaillcjmmaaDoorVHex
/- Bytes told in words. -/
set_option linter.unusedSimpArgs false
set_option linter.unusedVariables false
namespace Go.Proofs.YtaflcaillcjmmaaDoor.Num
open Go Go.RowKit Go.Proofs.YtaflcaillcjmmaaDoor.PAll Go.Proofs.YtaflcaillcjmmaaDoor.Help Go.Proofs.YtaflcaillcjmmaaDoorW.PrintWords Go.Proofs.YtaflcaillcjmmaaDoorW.PrintLast Go.Proofs.YtaflcaillcjmmaaDoorW.PrintMore
abbrev digs : ByteArray := ⟨#[48, 49, 50, 51, 52, 53, 54, 55, 56, 57, 97, 98, 99, 100, 101, 102]⟩
def nums (l : List UInt8) : List Int := l.map fun c => (c.toNat : Int)
theorem strOf_nums (l : List UInt8) : strOfNums (nums l) = ofL l := by
  unfold strOfNums nums ofL
  congr 2
  rw [List.map_map]
  induction l with
  | nil => rfl
  | cons c l ih => rw [List.map_cons, ih]; simp
theorem nums_append (a b : List UInt8) : nums (a ++ b) = nums a ++ nums b := by simp [nums]
theorem digs_at : ∀ n : Fin 16, bt digs (n.val : Int) = ((hd n.val).toNat : Int) := by decide +kernel
theorem and15 : ∀ n : Fin 256, Go.bits .and .u8 (n.val : Int) 15 = ((n.val % 16 : Nat) : Int) := by decide +kernel
theorem bt_ofL {l : List UInt8} {i : Nat} (h : i < l.length) : bt (ofL l) (i : Int) = (l[i].toNat : Int) := by
  unfold bt
  rw [dif_pos (by rw [ofL_size]; simpa using h)]
  rfl
theorem wr {x : Int} (h0 : -9223372036854775808 ≤ x) (h1 : x ≤ 9223372036854775807) : wrap64 x = x := by unfold wrap64; omega
theorem text_loop : ∀ (d i k : Nat) (L x : List UInt8), i + d = L.length → L.length ≤ 1000 → x.length ≤ 1 + 2 * i → d < k →
    val_Text.l0 k (nums x) (L.length : Int) (i : Int) 2 0 (ofL L) (0, 0) = some (ofL (x ++ hexL (L.drop i))) := by
  intro d
  induction d with
  | zero =>
    intro i k L x hi hL hx hk
    obtain ⟨k, rfl⟩ : ∃ m, k = m + 1 := ⟨k - 1, by omega⟩
    simp only [val_Text.l0]
    rw [if_neg (by omega), List.drop_of_length_le (by omega), hexL_nil, List.append_nil, strOf_nums]
  | succ d ih =>
    intro i k L x hi hL hx hk
    obtain ⟨k, rfl⟩ : ∃ m, k = m + 1 := ⟨k - 1, by omega⟩
    have hlt : i < L.length := by omega
    have lc := UInt8.toNat_lt L[i]
    simp only [val_Text.l0]
    rw [bt_ofL hlt, and15 ⟨L[i].toNat, lc⟩]
    rw [show ((L[i].toNat : Int) / 16) = ((L[i].toNat / 16 : Nat) : Int) by omega]
    rw [digs_at ⟨L[i].toNat / 16, by omega⟩, digs_at ⟨L[i].toNat % 16, by omega⟩]
    simp only []
    rw [if_pos (by omega), if_pos (by omega), if_pos (by rw [ofL_size]; omega), if_pos (by omega), if_pos (by omega), if_pos (by omega), if_pos (by omega), Option.bind_some]
    rw [if_pos (by simp [nums]; omega), wr (by omega) (by omega)]
    have e : nums x ++ [((hd (L[i].toNat / 16)).toNat : Int), ((hd (L[i].toNat % 16)).toNat : Int)] = nums (x ++ hex2 L[i]) := by rw [nums_append]; rfl
    rw [e, show ((i : Int) + 1) = ((i + 1 : Nat) : Int) by omega, ih (i + 1) k L _ (by omega) hL (by simp [hex2]; omega) (by omega)]
    rw [List.drop_eq_getElem_cons hlt, hexL_cons, List.append_assoc]
    rfl
theorem text_str (k : Nat) (hk : 1100 ≤ k) (L : List UInt8) (hL : L.length ≤ 1000) : val_Text.f k 2 0 (ofL L) (0, 0) = some (ofL (34 :: hexL L)) := by
  unfold val_Text.f
  rw [if_neg (by decide), if_pos rfl, ofL_size]
  have := text_loop L.length 0 k L [34] (by omega) hL (by simp) (by omega)
  exact this
end Go.Proofs.YtaflcaillcjmmaaDoor.Num
