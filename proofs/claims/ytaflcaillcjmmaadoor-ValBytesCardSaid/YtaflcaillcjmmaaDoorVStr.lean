import Derived.Test.YtaflcaillcjmmaaDoorPAllx6
import Derived.Test.YtaflcaillcjmmaaDoorPAllx3
import Derived.Test.YtaflcaillcjmmaaDoorPAllx4
import Derived.Test.YtaflcaillcjmmaaDoorPAllx4
import Derived.Test.YtaflcaillcjmmaaDoorPAllx3
import Derived.Laws.Strings
/- What the strings' functions tell at one byte. -/
set_option linter.unusedSimpArgs false
set_option linter.unusedVariables false
namespace Go.Proofs.YtaflcaillcjmmaaDoor.Num
open Go Go.RowKit Go.Proofs.YtaflcaillcjmmaaDoor.PAll Go.Proofs.YtaflcaillcjmmaaDoor.Help Go.Proofs.YtaflcaillcjmmaaDoorW.PrintWords Go.Proofs.YtaflcaillcjmmaaDoorW.PrintLast Go.Proofs.YtaflcaillcjmmaaDoorW.PrintMore
/-- Bytes out of a list. -/
abbrev ofL (l : List UInt8) : ByteArray := ⟨l.toArray⟩
theorem ofL_toList (l : List UInt8) : (ofL l).toList = l := by rw [ByteArray.toList_eq]
theorem ofL_data (l : List UInt8) : (ofL l).data.toList = l := rfl
theorem ofL_size (l : List UInt8) : (ofL l).size = l.length := rfl
theorem toList_ofL (s : ByteArray) : ofL s.data.toList = s := by cases s; rfl
theorem ofL_extract (l : List UInt8) (i j : Nat) : (ofL l).extract i j = ofL ((l.take j).drop i) := by
  rw [← toList_ofL ((ofL l).extract i j)]
  congr 1
  rw [ByteArray.data_extract]
  simp [List.extract_eq_take_drop, List.drop_take]
theorem bt_ofL0 (c : UInt8) (l : List UInt8) : bt (ofL (c :: l)) 0 = (c.toNat : Int) := by
  unfold bt
  rw [dif_pos (by rw [ofL_size]; simp)]
  rfl
theorem prefix_one (l : List UInt8) (b : UInt8) : strings_HasPrefix.f (ofL l) ⟨#[b]⟩ = some (decide (l.head? = some b)) := by
  unfold strings_HasPrefix.f stringslite_HasPrefix.f
  have h1 : ((⟨#[b]⟩ : ByteArray).size : Int) = 1 := rfl
  have h2 : (⟨#[b]⟩ : ByteArray).toList = [b] := by rw [ByteArray.toList_eq]
  rw [h1, h2, ofL_size]
  cases l with
  | nil => rw [if_neg (by simp)]; simp
  | cons c l =>
    rw [if_pos (by simp; omega), if_pos (by omega), if_pos (by simp; omega)]
    rw [show ((1 : Int).toNat) = 1 from rfl, ofL_extract, ofL_toList]
    simp [Bool.beq_eq_decide_eq]
theorem suffix_one (l : List UInt8) (b : UInt8) (hl : l.length ≤ 281474976710656) : strings_HasSuffix.f (ofL l) ⟨#[b]⟩ = some (decide (l.getLast? = some b)) := by
  unfold strings_HasSuffix.f stringslite_HasSuffix.f
  have h1 : ((⟨#[b]⟩ : ByteArray).size : Int) = 1 := rfl
  have h2 : (⟨#[b]⟩ : ByteArray).toList = [b] := by rw [ByteArray.toList_eq]
  rw [h1, h2, ofL_size]
  rcases List.eq_nil_or_concat l with rfl | ⟨m, c, rfl⟩
  · rw [if_neg (by simp)]; simp
  · simp only [List.concat_eq_append, List.length_append, List.length_cons, List.length_nil] at hl ⊢
    have e : wrap64 (((m.length + (0 + 1) : Nat) : Int) - 1) = (m.length : Int) := by unfold wrap64; omega
    rw [if_pos (by omega), e, if_pos (by omega), if_pos (by omega), ofL_extract, ofL_toList, Int.toNat_natCast, List.take_of_length_le (by simp)]
    simp [Bool.beq_eq_decide_eq]
theorem trimPrefix_one (l : List UInt8) (b : UInt8) : strings_TrimPrefix.f (ofL l) ⟨#[b]⟩ = some (ofL (if l.head? = some b then l.drop 1 else l)) := by
  unfold strings_TrimPrefix.f stringslite_TrimPrefix.f
  have h0 := prefix_one l b
  unfold strings_HasPrefix.f at h0
  have h0' : stringslite_HasPrefix.f (ofL l) ⟨#[b]⟩ = some (decide (l.head? = some b)) := by
    cases h : stringslite_HasPrefix.f (ofL l) ⟨#[b]⟩ with
    | none => rw [h] at h0; simp at h0
    | some r => rw [h] at h0; simpa using h0
  have h1 : ((⟨#[b]⟩ : ByteArray).size : Int) = 1 := rfl
  rw [h0', h1, ofL_size]
  simp only [Option.bind_some]
  by_cases h : l.head? = some b
  · cases l with
    | nil => simp at h
    | cons c l =>
      rw [if_pos (by simpa using h), if_pos (by omega), if_pos (by simp; omega), if_pos h]
      rw [show ((1 : Int).toNat) = 1 from rfl, ofL_extract]
      simp
  · rw [if_neg (by simpa using h), if_neg h]
    rfl
end Go.Proofs.YtaflcaillcjmmaaDoor.Num
