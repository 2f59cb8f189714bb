import Derived.Lib.ItoaLen
import Derived.Lib.ItoaMem
import Derived.Lib.ParseIntB
import Derived.Lib.SlTrimSet
import Derived.Stop.FmtTextWidths
import Derived.Test.YtaflcaillcjmmaaGreatDoorPAllx5
import Derived.Test.YtaflcaillcjmmaaGreatDoorPAllx3
import Derived.Laws.Strings
import Derived.Test.YtaflcaillcjmmaaGreatDoorFl
import Derived.Test.YtaflcaillcjmmaaGreatDoorTd
import Derived.Test.YtaflcaillcjmmaaGreatDoorPAllx10
import Derived.Test.YtaflcaillcjmmaaGreatDoorPAllx4
import Derived.Test.YtaflcaillcjmmaaGreatDoorLiaL
import Derived.Test.YtaflcaillcjmmaaGreatDoorPAllx11
/- Numerals there and back: plain lemmas (no program). -/
set_option linter.unusedSimpArgs false
set_option linter.unusedVariables false
namespace Go.Proofs.YtaflcaillcjmmaaGreatDoor.Num
open Go
def isD (c : UInt8) : Prop := 48 ≤ c.toNat ∧ c.toNat ≤ 57
theorem dec_digits : ∀ (u : Nat), ∀ c ∈ Lib.decDigits u, isD c := by
  intro u
  induction u using Nat.strongRecOn with
  | _ u ih =>
    intro c hc
    rw [Lib.decDigits] at hc
    split at hc
    · rename_i h
      rw [List.mem_singleton] at hc
      subst hc
      unfold isD
      rw [UInt8.toNat_ofNat']
      omega
    · rename_i h
      rcases List.mem_append.mp hc with h' | h'
      · exact ih (u / 10) (by omega) c h'
      · rw [List.mem_singleton] at h'
        subst h'
        unfold isD
        rw [UInt8.toNat_ofNat']
        omega
theorem dec_pos (u : Nat) : 1 ≤ (Lib.decDigits u).length := by rw [Lib.decDigits_length]; exact Lib.nDigits_pos u
def valOf (acc : Nat) (l : List UInt8) : Nat := l.foldl (fun a c => a * 10 + (c.toNat - 48)) acc
theorem valOf_append (acc : Nat) (a b : List UInt8) : valOf acc (a ++ b) = valOf (valOf acc a) b := by simp [valOf]
theorem valOf_le (l : List UInt8) : ∀ acc, acc ≤ valOf acc l := by
  induction l with
  | nil => intro acc; exact Nat.le_refl _
  | cons c l ih => intro acc; have := ih (acc * 10 + (c.toNat - 48)); simp only [valOf, List.foldl_cons] at this ⊢; omega
theorem val_dec (u : Nat) : valOf 0 (Lib.decDigits u) = u := by
  induction u using Nat.strongRecOn with
  | _ u ih =>
    rw [Lib.decDigits]
    split
    · rename_i h
      simp only [valOf, List.foldl_cons, List.foldl_nil]
      rw [UInt8.toNat_ofNat']
      omega
    · rename_i h
      rw [valOf_append, ih (u / 10) (by omega)]
      simp only [valOf, List.foldl_cons, List.foldl_nil]
      rw [UInt8.toNat_ofNat']
      omega
theorem dec_head (u : Nat) (h : 1 < (Lib.decDigits u).length) : (Lib.decDigits u).head? ≠ some 48 := by
  induction u using Nat.strongRecOn with
  | _ u ih =>
    rw [Lib.decDigits] at h ⊢
    split at h
    · simp at h
    · rename_i h'
      rw [dif_neg h']
      by_cases h1 : 1 < (Lib.decDigits (u / 10)).length
      · have := ih (u / 10) (by omega) h1
        cases hd : Lib.decDigits (u / 10) with
        | nil => rw [hd] at h1; simp at h1
        | cons a t => rw [hd] at this; simpa using this
      · have h2 := dec_pos (u / 10)
        by_cases h3 : u / 10 < 10
        · rw [Lib.decDigits, dif_pos h3]
          simp only [List.cons_append, List.head?_cons, ne_eq, Option.some.injEq]
          intro e
          have := congrArg UInt8.toNat e
          rw [UInt8.toNat_ofNat'] at this
          simp at this
          omega
        · rw [Lib.decDigits, dif_neg h3] at h1
          have := dec_pos (u / 10 / 10)
          simp at h1
          rw [h1] at this
          simp at this
theorem parseM_ok : ∀ (l : List UInt8) (acc M : Nat), (∀ c ∈ l, isD c) → valOf acc l ≤ M → M < 18446744073709551616 → Lib.parseUintM M acc l = .ok (valOf acc l) := by
  intro l
  induction l with
  | nil => intro acc M _ _ _; rfl
  | cons c l ih =>
    intro acc M hd hv hM
    have hc := hd c (by simp)
    unfold isD at hc
    have h1 := valOf_le l (acc * 10 + (c.toNat - 48))
    have h2 : valOf acc (c :: l) = valOf (acc * 10 + (c.toNat - 48)) l := rfl
    rw [h2] at hv ⊢
    unfold Lib.parseUintM
    rw [if_pos hc, if_neg (by omega), if_neg (by omega)]
    exact ih _ M (fun c h => hd c (by simp [h])) hv hM
theorem dec_cons (u : Nat) : ∃ c l, Lib.decDigits u = c :: l ∧ isD c := by
  cases h : Lib.decDigits u with
  | nil => have := dec_pos u; rw [h] at this; simp at this
  | cons c l => exact ⟨c, l, rfl, dec_digits u c (by rw [h]; simp)⟩
theorem dec_inj {u v : Nat} (h : Lib.decDigits u = Lib.decDigits v) : u = v := by rw [← val_dec u, h, val_dec]
theorem parseU_dec (u : Nat) (h : u < 18446744073709551616) : Lib.parseUintB 64 (Lib.decDigits u) = .ok u := by
  unfold Lib.parseUintB
  obtain ⟨c, l, e, _⟩ := dec_cons u
  rw [if_neg (by rw [e]; simp), parseM_ok _ 0 _ (dec_digits u) (by rw [val_dec]; omega) (by decide), val_dec]
theorem itoa_inj {a b : Int} (h : Lib.itoa a = Lib.itoa b) : a = b := by
  unfold Lib.itoa at h
  obtain ⟨c, l, e, hc⟩ := dec_cons a.toNat
  obtain ⟨c', l', e', hc'⟩ := dec_cons b.toNat
  unfold isD at hc hc'
  split at h <;> split at h
  · have := dec_inj (List.cons.inj h).2; omega
  · rw [e'] at h
    have := congrArg UInt8.toNat (List.cons.inj h).1
    simp at this; omega
  · rw [e] at h
    have := congrArg UInt8.toNat (List.cons.inj h).1
    simp at this; omega
  · have := dec_inj h; omega
theorem parse_itoa (a : Int) (h0 : -9223372036854775808 ≤ a) (h1 : a ≤ 9223372036854775807) : Lib.parseIntB 64 (Lib.itoa a) = .ok a := by
  unfold Lib.itoa
  split
  · rename_i h
    simp only [Lib.parseIntB]
    rw [if_pos (by decide), parseU_dec _ (by omega)]
    simp only []
    rw [if_neg (by simp), if_neg (by simp; omega), if_pos (by decide)]
    congr 1
    omega
  · rename_i h
    obtain ⟨c, l, e, hc⟩ := dec_cons a.toNat
    rw [e]
    unfold isD at hc
    simp only [Lib.parseIntB]
    rw [if_neg (by omega), ← e, parseU_dec _ (by omega)]
    simp only []
    rw [if_neg (by simp; omega), if_neg (by simp; omega), if_neg (by omega)]
    congr 1
    omega
theorem drop_all {p : UInt8 → Bool} : ∀ {l : List UInt8}, (∀ c ∈ l, p c = true) → l.dropWhile p = [] := by
  intro l h
  induction l with
  | nil => rfl
  | cons c l ih => rw [List.dropWhile_cons, if_pos (h c (by simp))]; exact ih fun c' h' => h c' (by simp [h'])
/-- Where all is in the set, nothing is left. -/
theorem trim_all {l cs : List UInt8} (h : ∀ c ∈ l, cs.contains c = true) : Lib.trimS l cs = [] := by
  unfold Lib.trimS Lib.trimRightS
  rw [drop_all (fun c hc => h c (List.mem_reverse.mp hc))]
  rfl
theorem digit_in {c : UInt8} (h : isD c) : ([48, 49, 50, 51, 52, 53, 54, 55, 56, 57] : List UInt8).contains c = true := by
  have key : ∀ n : Fin 256, 48 ≤ n.val → n.val ≤ 57 → ([48, 49, 50, 51, 52, 53, 54, 55, 56, 57] : List UInt8).contains (UInt8.ofNat n.val) = true := by decide +kernel
  have := key ⟨c.toNat, UInt8.toNat_lt c⟩ h.1 h.2
  simpa using this
end Go.Proofs.YtaflcaillcjmmaaGreatDoor.Num
/- What the strings' functions tell at one byte. -/
set_option linter.unusedSimpArgs false
set_option linter.unusedVariables false
namespace Go.Proofs.YtaflcaillcjmmaaGreatDoor.Num
open Go Go.RowKit Go.Proofs.YtaflcaillcjmmaaGreatDoor.PAll Go.Proofs.YtaflcaillcjmmaaGreatDoor.Help Go.Proofs.YtaflcaillcjmmaaGreatDoorW.PrintWords Go.Proofs.YtaflcaillcjmmaaGreatDoorW.PrintLast Go.Proofs.YtaflcaillcjmmaaGreatDoorW.PrintMore
/-- Bytes out of a list. -/
abbrev ofL (l : List UInt8) : ByteArray := ⟨l.toArray⟩
theorem ofL_toList (l : List UInt8) : (ofL l).toList = l := by rw [ByteArray.toList_eq]
theorem ofL_data (l : List UInt8) : (ofL l).data.toList = l := rfl
theorem ofL_size (l : List UInt8) : (ofL l).size = l.length := rfl
theorem toList_ofL (s : ByteArray) : ofL s.data.toList = s := by cases s; rfl
theorem ofL_extract (l : List UInt8) (i j : Nat) : (ofL l).extract i j = ofL ((l.take j).drop i) := by
  rw [← toList_ofL ((ofL l).extract i j)]
  congr 1
  rw [ByteArray.data_extract]
  simp [List.extract_eq_take_drop, List.drop_take]
theorem bt_ofL0 (c : UInt8) (l : List UInt8) : bt (ofL (c :: l)) 0 = (c.toNat : Int) := by
  unfold bt
  rw [dif_pos (by rw [ofL_size]; simp)]
  rfl
theorem prefix_one (l : List UInt8) (b : UInt8) : strings_HasPrefix.f (ofL l) ⟨#[b]⟩ = some (decide (l.head? = some b)) := by
  unfold strings_HasPrefix.f stringslite_HasPrefix.f
  have h1 : ((⟨#[b]⟩ : ByteArray).size : Int) = 1 := rfl
  have h2 : (⟨#[b]⟩ : ByteArray).toList = [b] := by rw [ByteArray.toList_eq]
  rw [h1, h2, ofL_size]
  cases l with
  | nil => rw [if_neg (by simp)]; simp
  | cons c l =>
    rw [if_pos (by simp; omega), if_pos (by omega), if_pos (by simp; omega)]
    rw [show ((1 : Int).toNat) = 1 from rfl, ofL_extract, ofL_toList]
    simp [Bool.beq_eq_decide_eq]
theorem suffix_one (l : List UInt8) (b : UInt8) (hl : l.length ≤ 281474976710656) : strings_HasSuffix.f (ofL l) ⟨#[b]⟩ = some (decide (l.getLast? = some b)) := by
  unfold strings_HasSuffix.f stringslite_HasSuffix.f
  have h1 : ((⟨#[b]⟩ : ByteArray).size : Int) = 1 := rfl
  have h2 : (⟨#[b]⟩ : ByteArray).toList = [b] := by rw [ByteArray.toList_eq]
  rw [h1, h2, ofL_size]
  rcases List.eq_nil_or_concat l with rfl | ⟨m, c, rfl⟩
  · rw [if_neg (by simp)]; simp
  · simp only [List.concat_eq_append, List.length_append, List.length_cons, List.length_nil] at hl ⊢
    have e : wrap64 (((m.length + (0 + 1) : Nat) : Int) - 1) = (m.length : Int) := by unfold wrap64; omega
    rw [if_pos (by omega), e, if_pos (by omega), if_pos (by omega), ofL_extract, ofL_toList, Int.toNat_natCast, List.take_of_length_le (by simp)]
    simp [Bool.beq_eq_decide_eq]
theorem trimPrefix_one (l : List UInt8) (b : UInt8) : strings_TrimPrefix.f (ofL l) ⟨#[b]⟩ = some (ofL (if l.head? = some b then l.drop 1 else l)) := by
  unfold strings_TrimPrefix.f stringslite_TrimPrefix.f
  have h0 := prefix_one l b
  unfold strings_HasPrefix.f at h0
  have h0' : stringslite_HasPrefix.f (ofL l) ⟨#[b]⟩ = some (decide (l.head? = some b)) := by
    cases h : stringslite_HasPrefix.f (ofL l) ⟨#[b]⟩ with
    | none => rw [h] at h0; simp at h0
    | some r => rw [h] at h0; simpa using h0
  have h1 : ((⟨#[b]⟩ : ByteArray).size : Int) = 1 := rfl
  rw [h0', h1, ofL_size]
  simp only [Option.bind_some]
  by_cases h : l.head? = some b
  · cases l with
    | nil => simp at h
    | cons c l =>
      rw [if_pos (by simpa using h), if_pos (by omega), if_pos (by simp; omega), if_pos h]
      rw [show ((1 : Int).toNat) = 1 from rfl, ofL_extract]
      simp
  · rw [if_neg (by simpa using h), if_neg h]
    rfl
end Go.Proofs.YtaflcaillcjmmaaGreatDoor.Num
/- Numerals just so written: what they are, what they stand for; plain lemmas (no program). -/
set_option linter.unusedSimpArgs false
set_option linter.unusedVariables false
namespace Go.Proofs.YtaflcaillcjmmaaGreatDoor.Num
open Go
def isDb (c : UInt8) : Bool := decide (48 ≤ c.toNat ∧ c.toNat ≤ 57)
instance (c : UInt8) : Decidable (isD c) := by unfold isD; infer_instance
theorem isDb_iff {c : UInt8} : isDb c = true ↔ isD c := by unfold isDb isD; simp
/-- Behind the sign. -/
def body (L : List UInt8) : List UInt8 := if L.head? = some 45 then L.drop 1 else L
/-- A numeral just so written. -/
def good (L : List UInt8) : Prop := body L ≠ [] ∧ (∀ c ∈ body L, isD c) ∧ ¬ (1 < (body L).length ∧ (body L).head? = some 48) ∧ L ≠ [45, 48]
instance (L : List UInt8) : Decidable (good L) := by
  unfold good
  infer_instance
def numv (L : List UInt8) : Int := if L.head? = some 45 then -((valOf 0 (body L) : Nat) : Int) else ((valOf 0 (body L) : Nat) : Int)
def fits (L : List UInt8) : Prop := -9223372036854775808 ≤ numv L ∧ numv L ≤ 9223372036854775807
instance (L : List UInt8) : Decidable (fits L) := by unfold fits; infer_instance
theorem body_minus (l : List UInt8) : body (45 :: l) = l := by simp [body]
theorem body_plain {c : UInt8} {l : List UInt8} (h : c ≠ 45) : body (c :: l) = c :: l := by
  unfold body
  rw [if_neg]
  intro e
  exact h (Option.some.inj e)
theorem good_nil : ¬ good [] := fun h => h.1 rfl
/-- A numeral: a sign and its digits. -/
theorem good_cases {L : List UInt8} (h : good L) : (L = 45 :: body L ∧ numv L = -((valOf 0 (body L) : Nat) : Int)) ∨ (L = body L ∧ numv L = ((valOf 0 (body L) : Nat) : Int) ∧ L.head? ≠ some 45) := by
  cases L with
  | nil => exact absurd h good_nil
  | cons c l =>
    by_cases e : c = 45
    · subst e
      exact .inl ⟨by rw [body_minus], by simp [numv]⟩
    · have e' : (c :: l).head? ≠ some 45 := fun x => e (Option.some.inj x)
      exact .inr ⟨(body_plain e).symm, by unfold numv; rw [if_neg e'], e'⟩
/-- A text in whose body stands a byte that is no digit. -/
theorem bad_of_mem {L : List UInt8} {c : UInt8} (h : c ∈ body L) (hc : ¬ isD c) : ¬ good L := fun g => hc (g.2.1 c h)
/-! ### the digits of what digits stand for -/
theorem valOf_snoc (D : List UInt8) (d : UInt8) : valOf 0 (D ++ [d]) = 10 * valOf 0 D + (d.toNat - 48) := by
  rw [valOf_append]
  simp only [valOf, List.foldl_cons, List.foldl_nil]
  omega
theorem valOf_pos : ∀ (D : List UInt8), (∀ c ∈ D, isD c) → D ≠ [] → D.head? ≠ some 48 → 1 ≤ valOf 0 D := by
  intro D hD hne hh
  cases D with
  | nil => exact absurd rfl hne
  | cons c l =>
    have hc := hD c (by simp)
    unfold isD at hc
    have h48 : c.toNat ≠ 48 := by
      intro e
      apply hh
      rw [List.head?_cons]
      congr 1
      apply UInt8.toNat_inj.1
      rw [e]; rfl
    have := valOf_le l (0 * 10 + (c.toNat - 48))
    have e : valOf 0 (c :: l) = valOf (0 * 10 + (c.toNat - 48)) l := rfl
    rw [e]
    omega
theorem dec_valOf : ∀ (n : Nat) (D : List UInt8), D.length = n → (∀ c ∈ D, isD c) → D ≠ [] → ¬ (1 < D.length ∧ D.head? = some 48) → Lib.decDigits (valOf 0 D) = D := by
  intro n
  induction n with
  | zero => intro D hl _ hne; exact absurd (List.length_eq_zero_iff.1 hl) hne
  | succ n ih =>
    intro D hl hD hne hz
    rcases List.eq_nil_or_concat D with rfl | ⟨E, d, rfl⟩
    · exact absurd rfl hne
    rw [List.concat_eq_append] at *
    have hd := hD d (by simp)
    unfold isD at hd
    have hb : UInt8.ofNat (48 + (d.toNat - 48)) = d := by
      rw [show 48 + (d.toNat - 48) = d.toNat by omega]
      simp
    rw [valOf_snoc]
    by_cases hE : E = []
    · subst hE
      rw [show valOf 0 [] = 0 from rfl, Lib.decDigits, dif_pos (by omega)]
      simp only [List.nil_append]
      rw [show 10 * 0 + (d.toNat - 48) = d.toNat - 48 by omega]
      first | rw [hb] | (congr 1; exact hb) | (rw [Nat.add_comm]; rw [hb])
    · have hE2 : 0 < E.length := List.length_pos_iff.2 hE
      have hh : E.head? ≠ some 48 := by
        intro e
        apply hz
        refine ⟨by simp; omega, ?_⟩
        cases E with
        | nil => exact absurd rfl hE
        | cons a t => simpa using e
      have hv := valOf_pos E (fun c hc => hD c (by simp [hc])) hE hh
      have ihE := ih E (by simp at hl; omega) (fun c hc => hD c (by simp [hc])) hE (fun x => hh x.2)
      rw [Lib.decDigits, dif_neg (by omega)]
      rw [show (10 * valOf 0 E + (d.toNat - 48)) / 10 = valOf 0 E by omega, show (10 * valOf 0 E + (d.toNat - 48)) % 10 = d.toNat - 48 by omega, ihE]
      congr 1
      first | rw [hb] | (rw [Nat.add_comm]; rw [hb])
/-- A numeral's number is told so again. -/
theorem itoa_good {L : List UInt8} (h : good L) : Lib.itoa (numv L) = L := by
  have hd := dec_valOf _ (body L) rfl h.2.1 h.1 h.2.2.1
  rcases good_cases h with ⟨e, hv⟩ | ⟨e, hv, _⟩
  · have hp : 1 ≤ valOf 0 (body L) := by
      by_cases hh : (body L).head? = some 48
      · exfalso
        have hl : ¬ 1 < (body L).length := fun x => h.2.2.1 ⟨x, hh⟩
        cases hb : body L with
        | nil => exact h.1 hb
        | cons a t =>
          rw [hb] at hh hl
          simp at hh hl
          subst hh
          subst hl
          rw [hb] at e
          exact h.2.2.2 e
      · exact valOf_pos _ h.2.1 h.1 hh
    rw [hv]
    unfold Lib.itoa
    rw [if_pos (by omega), show (-((valOf 0 (body L) : Nat) : Int)).natAbs = valOf 0 (body L) by omega, hd]
    exact e.symm
  · rw [hv]
    unfold Lib.itoa
    rw [if_neg (by omega), show (((valOf 0 (body L) : Nat) : Int)).toNat = valOf 0 (body L) by omega, hd]
    exact e.symm
/-! ### strconv.ParseInt at a numeral -/
theorem parseM_gen : ∀ (l : List UInt8) (acc : Nat), (∀ c ∈ l, isD c) → acc ≤ 18446744073709551615 →
    Lib.parseUintM 18446744073709551615 acc l = if valOf acc l ≤ 18446744073709551615 then .ok (valOf acc l) else .range := by
  intro l
  induction l with
  | nil => intro acc _ ha; rw [show valOf acc [] = acc from rfl, if_pos ha]; rfl
  | cons c l ih =>
    intro acc hd ha
    have hc := hd c (by simp)
    unfold isD at hc
    have h1 := valOf_le l (acc * 10 + (c.toNat - 48))
    have h2 : valOf acc (c :: l) = valOf (acc * 10 + (c.toNat - 48)) l := rfl
    rw [h2]
    unfold Lib.parseUintM
    rw [if_pos hc]
    by_cases g1 : 1844674407370955162 ≤ acc
    · rw [if_pos g1, if_neg (by omega)]
    · rw [if_neg g1]
      by_cases g2 : 18446744073709551615 < acc * 10 + (c.toNat - 48)
      · rw [if_pos g2, if_neg (by omega)]
      · rw [if_neg g2]
        exact ih _ (fun c h => hd c (by simp [h])) (by omega)
theorem parse_good {L : List UInt8} (h : good L) : Lib.parseIntB 64 L = if fits L then .ok (numv L) else .range := by
  have hU : Lib.parseUintB 64 (body L) = if valOf 0 (body L) ≤ 18446744073709551615 then .ok (valOf 0 (body L)) else .range := by
    unfold Lib.parseUintB
    rw [if_neg h.1]
    exact parseM_gen _ 0 h.2.1 (by omega)
  rcases good_cases h with ⟨e, hv⟩ | ⟨e, hv, hh⟩
  · have hf : fits L ↔ valOf 0 (body L) ≤ 9223372036854775808 := by unfold fits; rw [hv]; omega
    generalize hb : body L = B at *
    subst e
    simp only [Lib.parseIntB]
    rw [if_pos (by decide), hU]
    by_cases g : valOf 0 B ≤ 18446744073709551615
    · rw [if_pos g]
      simp only []
      rw [if_neg (by simp)]
      by_cases g2 : valOf 0 B ≤ 9223372036854775808
      · rw [if_pos (hf.2 g2), if_neg (by simp; omega), if_pos (by decide), hv]
      · rw [if_neg (fun x => g2 (hf.1 x)), if_pos (by simp; omega)]
    · rw [if_neg g, if_neg (fun x => by have := hf.1 x; omega)]
  · have hf : fits L ↔ valOf 0 (body L) ≤ 9223372036854775807 := by unfold fits; rw [hv]; omega
    cases hL : L with
    | nil => rw [hL] at h; exact absurd h good_nil
    | cons c r =>
      have hc := h.2.1 c (by rw [← e, hL]; simp)
      unfold isD at hc
      simp only [Lib.parseIntB]
      rw [if_neg (by omega), ← hL]
      rw [← e] at hU hf hv
      rw [hU]
      by_cases g : valOf 0 L ≤ 18446744073709551615
      · rw [if_pos g]
        simp only []
        by_cases g2 : valOf 0 L ≤ 9223372036854775807
        · rw [if_pos (hf.2 g2), if_neg (by simp; omega), if_neg (by simp; omega), if_neg (by omega), hv]
        · rw [if_neg (fun x => g2 (hf.1 x)), if_pos (by simp; omega)]
      · rw [if_neg g, if_neg (fun x => by have := hf.1 x; omega)]
/-! ### strings.Trim tells whether all is in the set -/
theorem drop_some {p : UInt8 → Bool} : ∀ {l : List UInt8} {c : UInt8}, c ∈ l → p c = false → c ∈ l.dropWhile p := by
  intro l
  induction l with
  | nil => intro c h; cases h
  | cons d l ih =>
    intro c h hp
    rw [List.dropWhile_cons]
    split
    · rename_i hd
      rcases List.mem_cons.mp h with rfl | h
      · rw [hp] at hd; cases hd
      · exact ih h hp
    · exact h
theorem trim_some {l cs : List UInt8} {c : UInt8} (h : c ∈ l) (hc : cs.contains c = false) : Lib.trimS l cs ≠ [] := by
  have : c ∈ Lib.trimS l cs := by
    unfold Lib.trimS
    first
    | (unfold Lib.trimRightS; rw [List.mem_reverse]; apply drop_some _ hc; rw [List.mem_reverse]; exact drop_some h hc)
    | (apply drop_some _ hc; unfold Lib.trimRightS; rw [List.mem_reverse]; apply drop_some _ hc; rw [List.mem_reverse]; exact h)
  intro e
  rw [e] at this
  cases this
theorem digit_out {c : UInt8} (h : ¬ isD c) : ([48, 49, 50, 51, 52, 53, 54, 55, 56, 57] : List UInt8).contains c = false := by
  have key : ∀ n : Fin 256, ¬ (48 ≤ n.val ∧ n.val ≤ 57) → ([48, 49, 50, 51, 52, 53, 54, 55, 56, 57] : List UInt8).contains (UInt8.ofNat n.val) = false := by decide +kernel
  have := key ⟨c.toNat, UInt8.toNat_lt c⟩ h
  simpa using this
end Go.Proofs.YtaflcaillcjmmaaGreatDoor.Num
/- Whole numbers of up to 20 bits as floats: exact; made whole they are the same; told as whole numbers they are the number. -/
set_option linter.unusedSimpArgs false
set_option linter.unusedVariables false
namespace Go.Proofs.YtaflcaillcjmmaaGreatDoor.Help
open Go
set_option maxRecDepth 100000
theorem log_lt {m l : Nat} (h : m ≠ 0) (hl : m.log2 = l) : 2 ^ l ≤ m ∧ m < 2 ^ (l + 1) := (Nat.log2_eq_iff h).1 hl
/-- The word of a whole number that is not 0. -/
theorem nearest_small (neg : Bool) (m l : Nat) (h : m ≠ 0) (hl : m.log2 = l) (h20 : l ≤ 20) :
    Ieee.double.nearest neg m 0 = Ieee.double.word neg ((l + 1022) * 4503599627370496 + m * 2 ^ (52 - l)) := by
  obtain ⟨h1, h2⟩ := log_lt h hl
  have hb : m * 2 ^ (52 - l) < 9007199254740992 := by
    calc m * 2 ^ (52 - l) < 2 ^ (l + 1) * 2 ^ (52 - l) := Nat.mul_lt_mul_of_pos_right h2 (Nat.two_pow_pos _)
    _ = 9007199254740992 := by rw [← Nat.pow_add, show l + 1 + (52 - l) = 53 by omega]
  have lp : Ieee.double.leastPlace = -1074 := by decide
  have hl2 : max ((0 : Int) + (m.log2 : Int) - (Ieee.double.fractionBits : Int)) Ieee.double.leastPlace = (l : Int) - 52 := by
    rw [lp, hl, show (Ieee.double.fractionBits : Int) = 52 from rfl]
    omega
  unfold Ieee.Format.nearest
  rw [if_neg h]
  simp only [hl2]
  rw [lp, show ((0 : Int) - ((l : Int) - 52)).toNat = 52 - l by omega, show (((l : Int) - 52) - 0).toNat = 0 by omega]
  rw [show (((l : Int) - 52) - -1074).toNat = l + 1022 by omega]
  have hc : Ieee.Toward.even.cut neg (m <<< (52 - l)) 0 = m * 2 ^ (52 - l) := by
    simp [Ieee.Toward.cut, Nat.shiftLeft_eq]
    omega
  rw [hc, show Ieee.double.binade = 4503599627370496 by decide, show Ieee.double.infRung = 9218868437227405312 by decide, Nat.min_eq_left (by omega)]
theorem read_small (neg : Bool) (m l : Nat) (h : m ≠ 0) (hl : m.log2 = l) (h20 : l ≤ 20) :
    Ieee.double.read (Ieee.double.nearest neg m 0) = .number neg (m * 2 ^ (52 - l)) ((l : Int) - 52) := by
  obtain ⟨h1, h2⟩ := log_lt h hl
  have hb : m * 2 ^ (52 - l) < 9007199254740992 := by
    calc m * 2 ^ (52 - l) < 2 ^ (l + 1) * 2 ^ (52 - l) := Nat.mul_lt_mul_of_pos_right h2 (Nat.two_pow_pos _)
    _ = 9007199254740992 := by rw [← Nat.pow_add, show l + 1 + (52 - l) = 53 by omega]
  have ha : 4503599627370496 ≤ m * 2 ^ (52 - l) := by
    calc 4503599627370496 = 2 ^ l * 2 ^ (52 - l) := by rw [← Nat.pow_add, show l + (52 - l) = 52 by omega]
    _ ≤ m * 2 ^ (52 - l) := Nat.mul_le_mul_right _ h1
  rw [nearest_small neg m l h hl h20]
  generalize m * 2 ^ (52 - l) = q at *
  have lp : Ieee.double.leastPlace = -1074 := by decide
  unfold Ieee.Format.read Ieee.Format.word
  rw [show Ieee.double.binade = 4503599627370496 by decide, show Ieee.double.infRung = 9218868437227405312 by decide, show Ieee.double.signWeight = 9223372036854775808 by decide, lp]
  have e1 : ((if neg = true then 9223372036854775808 + ((l + 1022) * 4503599627370496 + q) else (l + 1022) * 4503599627370496 + q) / 9223372036854775808 % 2 == 1) = neg := by
    cases neg
    · simp only [Bool.false_eq_true, if_false]; rw [beq_eq_false_iff_ne]; omega
    · simp only [if_true]; rw [beq_iff_eq]; omega
  have e2 : (if neg = true then 9223372036854775808 + ((l + 1022) * 4503599627370496 + q) else (l + 1022) * 4503599627370496 + q) % 9223372036854775808 = (l + 1022) * 4503599627370496 + q := by
    split <;> omega
  simp only [e1, e2]
  rw [if_neg (by omega), if_pos (by omega)]
  have e3 : 4503599627370496 + ((l + 1022) * 4503599627370496 + q) % 4503599627370496 = q := by omega
  have e4 : ((l + 1022) * 4503599627370496 + q) / 4503599627370496 = l + 1023 := by omega
  rw [e3, e4]
  congr 1
  omega
theorem integral_small (neg : Bool) (m l : Nat) (h : m ≠ 0) (hl : m.log2 = l) (h20 : l ≤ 20) :
    (Ieee.double.read (Ieee.double.nearest neg m 0)).integral .zero = .number neg m 0 := by
  obtain ⟨h1, h2⟩ := log_lt h hl
  rw [read_small neg m l h hl h20]
  unfold Ieee.Datum.integral
  simp only
  rw [show ((l : Int) - 52).toNat = 0 by omega, show (-((l : Int) - 52)).toNat = 52 - l by omega]
  congr 1
  unfold Ieee.Toward.cut
  simp only [Nat.shiftLeft_eq, Nat.pow_zero, Nat.mul_one, Nat.one_mul, Bool.toNat_false, Nat.add_zero]
  have hlog : (m * 2 ^ (52 - l)).log2 = 52 := by
    rw [Nat.log2_eq_iff (Nat.ne_of_gt (Nat.mul_pos (by omega) (Nat.two_pow_pos _)))]
    constructor
    · calc 2 ^ 52 = 2 ^ l * 2 ^ (52 - l) := by rw [← Nat.pow_add, show l + (52 - l) = 52 by omega]
      _ ≤ m * 2 ^ (52 - l) := Nat.mul_le_mul_right _ h1
    · calc m * 2 ^ (52 - l) < 2 ^ (l + 1) * 2 ^ (52 - l) := Nat.mul_lt_mul_of_pos_right h2 (Nat.two_pow_pos _)
      _ = 2 ^ (52 + 1) := by rw [← Nat.pow_add, show l + 1 + (52 - l) = 53 by omega]
  rw [hlog, Nat.min_eq_left (by omega), Nat.mul_div_cancel _ (Nat.two_pow_pos _)]
theorem log_le {m : Nat} (h : m ≠ 0) (hm : m ≤ 1048576) : m.log2 ≤ 20 := by
  rcases Nat.lt_or_ge 20 m.log2 with h' | h'
  · exfalso
    have := (log_lt h rfl).1
    have := Nat.pow_le_pow_right (n := 2) (by omega) (show 21 ≤ m.log2 by omega)
    omega
  · exact h'
theorem fOfI_def (n : Int) : fOfI n = Ieee.double.nearest (decide (n < 0)) n.natAbs 0 := rfl
/-- Made whole, it is the number. -/
theorem fl_int (n : Int) (h : n.natAbs ≤ 1048576) : (FloatKind.f64.decode (fOfI n)).integral .zero = .number (decide (n < 0)) n.natAbs 0 := by
  by_cases h0 : n = 0
  · subst h0; decide +kernel
  · have hm : n.natAbs ≠ 0 := by omega
    exact integral_small _ _ _ hm rfl (log_le hm h)
theorem fTrunc_of (n : Int) (h : n.natAbs ≤ 1048576) : fTrunc (fOfI n) = fOfI n := by
  unfold fTrunc
  rw [fl_int n h]
  rfl
theorem fToIq_of (n : Int) (h : n.natAbs ≤ 1048576) : fToIq .i64 (fOfI n) = some n := by
  unfold fToIq Ieee.Datum.toInt
  rw [fl_int n h]
  have : Ieee.signed (decide (n < 0)) n.natAbs 0 = n := by
    unfold Ieee.signed
    rw [Nat.shiftLeft_zero]
    by_cases c : n < 0
    · rw [if_pos (by simpa using c)]; omega
    · rw [if_neg (by simpa using c)]; omega
  simp only [this]
  rw [if_pos]
  have e1 : IntKind.i64.min = -9223372036854775808 := by decide
  have e2 : IntKind.i64.max = 9223372036854775807 := by decide
  rw [e1, e2]
  omega
theorem fToIok_of (n : Int) (h : n.natAbs ≤ 1048576) : fToIok .i64 (fOfI n) = true := by unfold fToIok; rw [fToIq_of n h]; rfl
theorem fToI_of (n : Int) (h : n.natAbs ≤ 1048576) : fToI .i64 (fOfI n) = n := by unfold fToI; rw [fToIq_of n h]; rfl
theorem fEq_of (n : Int) (h : n.natAbs ≤ 1048576) : fEq (fOfI n) (fOfI n) = true := by
  by_cases h0 : n = 0
  · subst h0; decide +kernel
  · have hm : n.natAbs ≠ 0 := by omega
    unfold fEq Ieee.Format.order
    have := read_small (decide (n < 0)) n.natAbs _ hm rfl (log_le hm h)
    rw [show FloatKind.f64.format = Ieee.double from rfl, fOfI_def, this]
    simp [Ieee.Datum.order]
theorem read_zero : Ieee.double.read 0 = .number false 0 (-1074) := by decide +kernel
theorem fNaN_of (n : Int) (h : n.natAbs ≤ 1048576) : fNaN (fOfI n) = false := by
  by_cases h0 : n = 0
  · subst h0; decide +kernel
  · have hm : n.natAbs ≠ 0 := by omega
    have := read_small (decide (n < 0)) n.natAbs _ hm rfl (log_le hm h)
    unfold fNaN FloatKind.decode
    rw [show FloatKind.f64.format = Ieee.double from rfl, fOfI_def, this]
    rfl
theorem andNot_top (x : Nat) (h : x < 18446744073709551616) : (Go.bits .andNot .u64 (x : Int) 9223372036854775808).toNat = x % 9223372036854775808 := by
  have e : (BitVec.ofInt 64 (x : Int) &&& ~~~(BitVec.ofInt 64 9223372036854775808)).toNat = x % 9223372036854775808 := by
    rw [show ~~~(BitVec.ofInt 64 9223372036854775808) = BitVec.ofNat 64 9223372036854775807 by decide]
    rw [show BitVec.ofInt 64 (x : Int) = BitVec.ofNat 64 x by simp]
    rw [BitVec.toNat_and, BitVec.toNat_ofNat, BitVec.toNat_ofNat]
    rw [Nat.mod_eq_of_lt h, show (9223372036854775807 % 2 ^ 64) = 2 ^ 63 - 1 by decide, Nat.and_two_pow_sub_one_eq_mod]
  have : Go.bits .andNot .u64 (x : Int) 9223372036854775808 = IntKind.u64.wrap ((BitVec.ofInt 64 (x : Int) &&& ~~~(BitVec.ofInt 64 9223372036854775808)).toNat : Nat) := rfl
  rw [this, e]
  have : IntKind.u64.wrap ((x % 9223372036854775808 : Nat) : Int) = ((x % 9223372036854775808 : Nat) : Int) := by
    have hb : IntKind.u64.bits = 64 := rfl
    have hs : IntKind.u64.signed = false := rfl
    simp only [IntKind.wrap, hb, hs]
    simp
    omega
  rw [this]
  omega
theorem fAbs_of (n : Int) (h : n.natAbs ≤ 1048576) : fAbs (fOfI n) = fOfI (n.natAbs : Int) := by
  by_cases h0 : n = 0
  · subst h0; decide +kernel
  · have hm : n.natAbs ≠ 0 := by omega
    have hl := log_le hm h
    obtain ⟨h1, h2⟩ := log_lt hm rfl
    have hb : n.natAbs * 2 ^ (52 - n.natAbs.log2) < 9007199254740992 := by
      calc n.natAbs * 2 ^ (52 - n.natAbs.log2) < 2 ^ (n.natAbs.log2 + 1) * 2 ^ (52 - n.natAbs.log2) := Nat.mul_lt_mul_of_pos_right h2 (Nat.two_pow_pos _)
      _ = 9007199254740992 := by rw [← Nat.pow_add, show n.natAbs.log2 + 1 + (52 - n.natAbs.log2) = 53 by omega]
    have e2 : decide (((n.natAbs : Nat) : Int) < 0) = false := decide_eq_false (by omega)
    have e3 : (((n.natAbs : Nat) : Int)).natAbs = n.natAbs := by omega
    unfold fAbs
    rw [fOfI_def, fOfI_def, e2, e3, nearest_small _ _ _ hm rfl hl, nearest_small _ _ _ hm rfl hl]
    unfold Ieee.Format.word
    rw [show Ieee.double.signWeight = 9223372036854775808 by decide]
    generalize n.natAbs * 2 ^ (52 - n.natAbs.log2) = q at *
    have ht : n.natAbs.log2 ≤ 20 := hl
    generalize n.natAbs.log2 = lg at *
    cases decide (n < 0)
    · simp only [Bool.false_eq_true, if_false]
      rw [andNot_top _ (by omega)]
      omega
    · simp only [if_true, Bool.false_eq_true, if_false]
      rw [andNot_top _ (by omega)]
      omega
theorem fLe_of (n : Int) (h : n.natAbs ≤ 1048576) : fLe (fAbs (fOfI n)) 4697254411347427328 = true := by
  rw [fAbs_of n h]
  by_cases h0 : n.natAbs = 0
  · rw [h0]; decide +kernel
  · have hl := log_le h0 h
    have e2 : decide (((n.natAbs : Nat) : Int) < 0) = false := decide_eq_false (by omega)
    have e3 : (((n.natAbs : Nat) : Int)).natAbs = n.natAbs := by omega
    have r1 := read_small false n.natAbs _ h0 rfl hl
    have r2 : Ieee.double.read 4697254411347427328 = .number false 4503599627370496 (-32) := by decide +kernel
    have : Ieee.double.order (fOfI (n.natAbs : Int)) 4697254411347427328 = some .lt ∨ Ieee.double.order (fOfI (n.natAbs : Int)) 4697254411347427328 = some .eq := by
      unfold Ieee.Format.order
      rw [fOfI_def, e2, e3, r1, r2]
      unfold Ieee.Datum.order
      simp only
      have hb : min ((n.natAbs.log2 : Int) - 52) (-32) = (n.natAbs.log2 : Int) - 52 := by omega
      rw [hb, show (((n.natAbs.log2 : Int) - 52) - ((n.natAbs.log2 : Int) - 52)).toNat = 0 by omega, show ((-32 : Int) - ((n.natAbs.log2 : Int) - 52)).toNat = 20 - n.natAbs.log2 by omega]
      unfold Ieee.signed
      simp only [Bool.false_eq_true, if_false, Nat.shiftLeft_zero, Nat.shiftLeft_eq, Nat.pow_zero, Nat.mul_one]
      have hle : n.natAbs * 2 ^ (52 - n.natAbs.log2) ≤ 4503599627370496 * 2 ^ (20 - n.natAbs.log2) := by
        calc n.natAbs * 2 ^ (52 - n.natAbs.log2) ≤ 1048576 * 2 ^ (52 - n.natAbs.log2) := Nat.mul_le_mul_right _ h
        _ = 2 ^ 20 * (2 ^ 32 * 2 ^ (20 - n.natAbs.log2)) := by rw [← Nat.pow_add, show 32 + (20 - n.natAbs.log2) = 52 - n.natAbs.log2 by omega]
        _ = 4503599627370496 * 2 ^ (20 - n.natAbs.log2) := by rw [← Nat.mul_assoc]
      generalize n.natAbs * 2 ^ (52 - n.natAbs.log2) = A at *
      generalize 4503599627370496 * 2 ^ (20 - n.natAbs.log2) = B at *
      rcases Nat.lt_or_eq_of_le hle with c | c
      · left
        have hc : compare ((A : Nat) : Int) ((B : Nat) : Int) = .lt := by
          simp only [compare, compareOfLessAndEq]
          rw [if_pos (by omega)]
        rw [hc]
      · right
        rw [c]
        simp
    unfold fLe
    rw [show FloatKind.f64.format = Ieee.double from rfl]
    rcases this with e | e <;> rw [e] <;> rfl
end Go.Proofs.YtaflcaillcjmmaaGreatDoor.Help
/- The document's reader of numbers: what it tells of any text. -/
set_option linter.unusedSimpArgs false
set_option linter.unusedVariables false
namespace Go.Proofs.YtaflcaillcjmmaaGreatDoor.Num
open Go Go.RowKit Go.Proofs.YtaflcaillcjmmaaGreatDoor.PAll Go.Proofs.YtaflcaillcjmmaaGreatDoor.Help Go.Proofs.YtaflcaillcjmmaaGreatDoorW.PrintWords Go.Proofs.YtaflcaillcjmmaaGreatDoorW.PrintLast Go.Proofs.YtaflcaillcjmmaaGreatDoorW.PrintMore
/-- What is told of a text as a number. -/
def pnum (L : List UInt8) : Int × Int := if good L then (if fits L then (numv L, 0) else (0, 1)) else (0, 2)
theorem wr' {x : Int} (h0 : -9223372036854775808 ≤ x) (h1 : x ≤ 9223372036854775807) : wrap64 x = x := by unfold wrap64; omega
theorem bt_ofL' {l : List UInt8} {i : Nat} (h : i < l.length) : bt (ofL l) (i : Int) = (l[i].toNat : Int) := by
  unfold bt
  rw [dif_pos (by rw [ofL_size]; simpa using h)]
  rfl
theorem valOf_take_succ (D : List UInt8) (i : Nat) (h : i < D.length) : valOf 0 (D.take (i + 1)) = 10 * valOf 0 (D.take i) + (D[i].toNat - 48) := by
  rw [List.take_succ_eq_append_getElem h, valOf_snoc]
theorem valOf_take_le (D : List UInt8) (i : Nat) : valOf 0 (D.take i) ≤ valOf 0 D := by
  have e : valOf 0 D = valOf (valOf 0 (D.take i)) (D.drop i) := by rw [← valOf_append, List.take_append_drop]
  rw [e]
  exact valOf_le _ _
/-- What stands at the end. -/
def fin (minus : Bool) (V : Nat) : Int × Int := if V ≤ 9223372036854775808 then (if minus = true then (-(V : Int), 0) else (if V = 9223372036854775808 then (0, 1) else ((V : Int), 0))) else (0, 1)
theorem l1_run (minus : Bool) (D : List UInt8) (hD : ∀ c ∈ D, isD c) (hl : D.length ≤ 1000) : ∀ (d i k : Nat), i + d = D.length → d < k → valOf 0 (D.take i) ≤ 9223372036854775808 →
    noriaref11_ParseNum.l1 k (ofL D) minus (-((valOf 0 (D.take i) : Nat) : Int)) (i : Int) = some (fin minus (valOf 0 D)) := by
  intro d
  induction d with
  | zero =>
    intro i k hi hk hv
    obtain ⟨k, rfl⟩ : ∃ m, k = m + 1 := ⟨k - 1, by omega⟩
    simp only [noriaref11_ParseNum.l1]
    rw [if_neg (by rw [ofL_size]; omega)]
    rw [List.take_of_length_le (by omega)] at hv ⊢
    unfold fin
    rw [if_pos hv]
    cases minus
    · simp only [Bool.false_eq_true, if_false]
      by_cases h : valOf 0 D = 9223372036854775808
      · rw [if_pos (by omega), if_pos h]
      · rw [if_neg (by omega), if_neg h, wr' (by omega) (by omega)]
        simp
    · simp
  | succ d ih =>
    intro i k hi hk hv
    obtain ⟨k, rfl⟩ : ∃ m, k = m + 1 := ⟨k - 1, by omega⟩
    have hlt : i < D.length := by omega
    have hc := hD D[i] (List.getElem_mem hlt)
    unfold isD at hc
    have hs := valOf_take_succ D i hlt
    simp only [noriaref11_ParseNum.l1]
    rw [if_pos (by rw [ofL_size]; omega), if_pos (by omega), bt_ofL' hlt]
    rw [show (((D[i].toNat : Nat) : Int) - 48) % 256 = ((D[i].toNat - 48 : Nat) : Int) by omega]
    rw [Td.wrap_td (by omega) (by omega)]
    rw [show (-9223372036854775808 : Int) + ((D[i].toNat - 48 : Nat) : Int) = -(9223372036854775808 - ((D[i].toNat - 48 : Nat) : Int)) by omega, Td.tdiv_neg (by omega)]
    by_cases g : 9223372036854775808 < valOf 0 (D.take (i + 1))
    · rw [if_pos (by omega)]
      have := valOf_take_le D (i + 1)
      unfold fin
      rw [if_neg (by omega)]
    · rw [if_neg (by omega), wr' (x := 10 * -((valOf 0 (D.take i) : Nat) : Int)) (by omega) (by omega), wr' (x := (i : Int) + 1) (by omega) (by omega), wr' (by omega) (by omega)]
      rw [show (10 : Int) * -((valOf 0 (D.take i) : Nat) : Int) - ((D[i].toNat - 48 : Nat) : Int) = -((valOf 0 (D.take (i + 1)) : Nat) : Int) by omega, show (i : Int) + 1 = ((i + 1 : Nat) : Int) by omega]
      exact ih (i + 1) k (by omega) (by omega) (by omega)
/-- The test of each byte. -/
theorem l0_run (minus : Bool) (D : List UInt8) (hl : D.length ≤ 1000) : ∀ (d i k : Nat), i + d = D.length → d + 1001 < k → (∀ c ∈ D.take i, isD c) →
    noriaref11_ParseNum.l0 k (ofL D) minus (i : Int) = some (if ∀ c ∈ D, isD c then fin minus (valOf 0 D) else (0, 2)) := by
  intro d
  induction d with
  | zero =>
    intro i k hi hk hp
    obtain ⟨k, rfl⟩ : ∃ m, k = m + 1 := ⟨k - 1, by omega⟩
    rw [List.take_of_length_le (by omega)] at hp
    simp only [noriaref11_ParseNum.l0]
    rw [if_neg (by rw [ofL_size]; omega), if_pos hp]
    have := l1_run minus D hp hl D.length 0 k (by omega) (by omega) (by simp [valOf])
    simpa [valOf] using this
  | succ d ih =>
    intro i k hi hk hp
    obtain ⟨k, rfl⟩ : ∃ m, k = m + 1 := ⟨k - 1, by omega⟩
    have hlt : i < D.length := by omega
    have step : noriaref11_ParseNum.l0 (k + 1) (ofL D) minus (i : Int) = if isD D[i] then noriaref11_ParseNum.l0 k (ofL D) minus ((i + 1 : Nat) : Int) else some (0, 2) := by
      simp only [noriaref11_ParseNum.l0]
      rw [if_pos (by rw [ofL_size]; omega), if_pos (by omega), bt_ofL' hlt, wr' (x := (i : Int) + 1) (by omega) (by omega), show (i : Int) + 1 = ((i + 1 : Nat) : Int) by omega]
      by_cases g1 : ((D[i].toNat : Nat) : Int) < 48
      · rw [if_pos g1, if_neg (by unfold isD; omega)]
      · rw [if_neg g1]
        by_cases g2 : ((D[i].toNat : Nat) : Int) > 57
        · rw [if_pos g2, if_neg (by unfold isD; omega)]
        · rw [if_neg g2, if_pos (by unfold isD; omega)]
    rw [step]
    by_cases g : isD D[i]
    · rw [if_pos g]
      refine ih (i + 1) k (by omega) (by omega) ?_
      intro c hc
      rw [List.take_succ_eq_append_getElem hlt] at hc
      rcases List.mem_append.mp hc with hc | hc
      · exact hp c hc
      · rw [List.mem_singleton] at hc
        rw [hc]
        exact g
    · rw [if_neg g, if_neg (fun z => g (z _ (List.getElem_mem hlt)))]
theorem fin_pnum_minus (D : List UInt8) (h : good (45 :: D)) : fin true (valOf 0 D) = pnum (45 :: D) := by
  unfold pnum
  rw [if_pos h]
  have hv : numv (45 :: D) = -((valOf 0 D : Nat) : Int) := by unfold numv; rw [body_minus]; simp
  have hf : fits (45 :: D) ↔ valOf 0 D ≤ 9223372036854775808 := by unfold fits; rw [hv]; omega
  unfold fin
  by_cases g : valOf 0 D ≤ 9223372036854775808
  · rw [if_pos g, if_pos rfl, if_pos (hf.2 g), hv]
  · rw [if_neg g, if_neg (fun z => g (hf.1 z))]
theorem fin_pnum_plain (D : List UInt8) (hh : D.head? ≠ some 45) (h : good D) : fin false (valOf 0 D) = pnum D := by
  unfold pnum
  rw [if_pos h]
  have hb : body D = D := by unfold body; rw [if_neg hh]
  have hv : numv D = ((valOf 0 D : Nat) : Int) := by unfold numv; rw [if_neg hh, hb]
  have hf : fits D ↔ valOf 0 D ≤ 9223372036854775807 := by unfold fits; rw [hv]; omega
  unfold fin
  by_cases g : valOf 0 D ≤ 9223372036854775808
  · rw [if_pos g, if_neg (by simp)]
    by_cases g2 : valOf 0 D = 9223372036854775808
    · rw [if_pos g2, if_neg (fun z => by have := hf.1 z; omega)]
    · rw [if_neg g2, if_pos (hf.2 (by omega)), hv]
  · rw [if_neg g, if_neg (fun z => by have := hf.1 z; omega)]
/-- Behind the sign: the digits D. -/
theorem j1_run (minus : Bool) (D : List UInt8) (hl : D.length ≤ 1000) (k : Nat) (hk : 2010 ≤ k) :
    noriaref11_ParseNum.j1 k (ofL D) minus = some (if D ≠ [] ∧ (∀ c ∈ D, isD c) ∧ ¬ (D.head? = some 48 ∧ (1 < D.length ∨ minus = true)) then fin minus (valOf 0 D) else (0, 2)) := by
  obtain ⟨k, rfl⟩ : ∃ m, k = m + 2 := ⟨k - 2, by omega⟩
  have run : ∀ k, 2005 ≤ k → noriaref11_ParseNum.l0 k (ofL D) minus 0 = some (if ∀ c ∈ D, isD c then fin minus (valOf 0 D) else (0, 2)) := by
    intro k hk
    exact l0_run minus D hl D.length 0 k (by omega) (by omega) (by simp)
  simp only [noriaref11_ParseNum.j1, noriaref11_ParseNum.j2]
  cases D with
  | nil =>
    rw [ofL_toList, if_pos rfl, if_pos trivial, if_neg (by simp)]
  | cons c l =>
    rw [ofL_toList, if_neg (by simp), if_pos (by rw [ofL_size]; simp), bt_ofL0]
    by_cases g : ((c.toNat : Nat) : Int) = 48
    · have hc : c = 48 := UInt8.toNat_inj.1 (by rw [show (48 : UInt8).toNat = 48 from rfl]; omega)
      rw [if_pos g]
      by_cases g2 : ((ofL (c :: l)).size : Int) > 1
      · rw [if_pos g2, if_pos trivial, if_neg]
        rintro ⟨_, _, h⟩
        rw [ofL_size] at g2
        exact h ⟨by rw [hc]; rfl, .inl (by omega)⟩
      · rw [if_neg g2]
        rw [ofL_size] at g2
        cases minus
        · rw [if_neg (by simp), run _ (by omega)]
          congr 1
          by_cases q : ∀ c' ∈ c :: l, isD c'
          · rw [if_pos q, if_pos]
            exact ⟨by simp, q, by rintro ⟨_, h | h⟩; omega; cases h⟩
          · rw [if_neg q, if_neg (fun z => q z.2.1)]
        · rw [if_pos rfl, if_neg]
          rintro ⟨_, _, h⟩
          exact h ⟨by rw [hc]; rfl, .inr rfl⟩
    · rw [if_neg g, if_neg (by simp), run _ (by omega)]
      congr 1
      by_cases q : ∀ c' ∈ c :: l, isD c'
      · rw [if_pos q, if_pos]
        refine ⟨by simp, q, ?_⟩
        rintro ⟨h, _⟩
        rw [List.head?_cons] at h
        have := Option.some.inj h
        subst this
        exact g rfl
      · rw [if_neg q, if_neg (fun z => q z.2.1)]
/-- The document's reader of numbers. -/
theorem refNum (k : Nat) (hk : 2020 ≤ k) (L : List UInt8) (hl : L.length ≤ 1000) : noriaref11_ParseNum.f k (ofL L) = some (pnum L) := by
  obtain ⟨k, rfl⟩ : ∃ m, k = m + 1 := ⟨k - 1, by omega⟩
  unfold noriaref11_ParseNum.f
  cases L with
  | nil =>
    rw [if_neg (by rw [ofL_size]; simp)]
    simp only [noriaref11_ParseNum.j0]
    rw [if_neg (by simp), j1_run false [] (by simp) k (by omega), if_neg (by simp)]
    rfl
  | cons c l =>
    simp only [List.length_cons] at hl
    rw [if_pos (by rw [ofL_size]; simp), if_pos (by rw [ofL_size]; simp), bt_ofL0]
    simp only [noriaref11_ParseNum.j0]
    by_cases g : c = 45
    · subst g
      rw [show ((((45 : UInt8).toNat : Nat) : Int) == 45) = true from rfl, if_pos rfl, if_pos (by rw [ofL_size]; simp; omega), ofL_extract]
      have e : (List.drop 1 (List.take (ofL (45 :: l)).size (45 :: l))) = l := by rw [List.take_of_length_le (by rw [ofL_size]; exact Nat.le_refl _)]; rfl
      rw [e, j1_run true l (by omega) k (by omega)]
      congr 1
      by_cases q : good (45 :: l)
      · rw [← fin_pnum_minus l q, if_pos]
        obtain ⟨q1, q2, q3, q4⟩ := q
        rw [body_minus] at q1 q2 q3
        refine ⟨q1, q2, ?_⟩
        rintro ⟨h, _⟩
        by_cases q5 : 1 < l.length
        · exact q3 ⟨q5, h⟩
        · cases l with
          | nil => exact q1 rfl
          | cons a t =>
            simp at h q5
            subst h
            subst q5
            exact q4 rfl
      · rw [if_neg]
        · unfold pnum; rw [if_neg q]
        · rintro ⟨h1, h2, h3⟩
          apply q
          refine ⟨by rw [body_minus]; exact h1, by rw [body_minus]; exact h2, by rw [body_minus]; exact fun z => h3 ⟨z.2, .inl z.1⟩, ?_⟩
          intro e
          have := (List.cons.inj e).2
          subst this
          exact h3 ⟨rfl, .inr rfl⟩
    · have hne : ((((c.toNat : Nat) : Int)) == 45) = false := by
        rw [beq_eq_false_iff_ne]
        intro e
        exact g (UInt8.toNat_inj.1 (by rw [show (45 : UInt8).toNat = 45 from rfl]; omega))
      have hh : (c :: l).head? ≠ some 45 := fun e => g (Option.some.inj e)
      rw [hne, if_neg (by simp), j1_run false (c :: l) (by simp; omega) k (by omega)]
      congr 1
      have hb : body (c :: l) = c :: l := body_plain g
      by_cases q : good (c :: l)
      · rw [← fin_pnum_plain _ hh q, if_pos]
        obtain ⟨q1, q2, q3, q4⟩ := q
        rw [hb] at q1 q2 q3
        exact ⟨q1, q2, by rintro ⟨h, h' | h'⟩; exact q3 ⟨h', h⟩; cases h'⟩
      · rw [if_neg]
        · unfold pnum; rw [if_neg q]
        · rintro ⟨h1, h2, h3⟩
          apply q
          refine ⟨by rw [hb]; exact h1, by rw [hb]; exact h2, by rw [hb]; exact fun z => h3 ⟨z.2, .inl z.1⟩, ?_⟩
          intro e
          exact g (List.cons.inj e).1
end Go.Proofs.YtaflcaillcjmmaaGreatDoor.Num
/- The program's readers of numbers: what they tell of any text. -/
set_option linter.unusedSimpArgs false
set_option linter.unusedVariables false
namespace Go.Proofs.YtaflcaillcjmmaaGreatDoor.Num
open Go Go.RowKit Go.Proofs.YtaflcaillcjmmaaGreatDoor.PAll Go.Proofs.YtaflcaillcjmmaaGreatDoor.Help Go.Proofs.YtaflcaillcjmmaaGreatDoorW.PrintWords Go.Proofs.YtaflcaillcjmmaaGreatDoorW.PrintLast Go.Proofs.YtaflcaillcjmmaaGreatDoorW.PrintMore
abbrev decs : ByteArray := ⟨#[48, 49, 50, 51, 52, 53, 54, 55, 56, 57]⟩
theorem trim_dig (B : List UInt8) (hl : B.length ≤ 1000) : ∃ T : List UInt8, strings_Trim.f (ofL B) decs = some (ofL T) ∧ (T = [] ↔ ∀ c ∈ B, isD c) := by
  refine ⟨Lib.trimS B [48, 49, 50, 51, 52, 53, 54, 55, 56, 57], ?_, ?_⟩
  · unfold strings_Trim.f
    rw [if_pos ⟨by rw [ofL_size]; omega, by decide, by decide⟩, ofL_data]
  · constructor
    · intro h c hc
      cases hD : decide (isD c) with
      | true => exact of_decide_eq_true hD
      | false => exact absurd h (trim_some hc (digit_out (of_decide_eq_false hD)))
    · intro h
      exact trim_all (fun c hc => digit_in (h c hc))
/-- The four tests of a numeral. -/
theorem shape {α : Type} (L : List UInt8) (hl : L.length ≤ 1000) (J : Bool → Option α) :
    (if (ofL (body L)).toList = ([] : List UInt8) then (J true) else ((strings_Trim.f (ofL (body L)) decs).bind fun t => (if t.toList = ([] : List UInt8) then (if ((ofL (body L)).size : Int) > 1 then (if 0 < ((ofL (body L)).size : Int) then (if (bt (ofL (body L)) 0) = 48 then (J true) else (J ((ofL L).toList == ([45, 48] : List UInt8)))) else (none)) else (J ((ofL L).toList == ([45, 48] : List UInt8)))) else (J true)))) = J (decide (¬ good L)) := by
  have hbl : (body L).length ≤ 1000 := by
    unfold body
    split
    · rw [List.length_drop]; omega
    · exact hl
  obtain ⟨T, hT, hT2⟩ := trim_dig (body L) hbl
  have hbad : ¬ good L → decide (¬ good L) = true := fun h => decide_eq_true h
  rw [hT, Option.bind_some]
  simp only [ofL_toList, ofL_size]
  by_cases h1 : body L = []
  · rw [if_pos h1, hbad (fun g => g.1 h1)]
  · rw [if_neg h1]
    by_cases h2 : ∀ c ∈ body L, isD c
    · rw [if_pos (hT2.2 h2)]
      cases hb : body L with
      | nil => exact absurd hb h1
      | cons c l =>
        have h0 : bt (ofL (c :: l)) 0 = (c.toNat : Int) := bt_ofL0 c l
        rw [h0]
        by_cases h3 : ((c :: l).length : Int) > 1
        · rw [if_pos h3, if_pos (by omega)]
          by_cases h4 : ((c.toNat : Nat) : Int) = 48
          · have hc : c = 48 := UInt8.toNat_inj.1 (by rw [show (48 : UInt8).toNat = 48 from rfl]; omega)
            rw [if_pos h4, hbad (fun g => g.2.2.1 (by rw [hb]; exact ⟨by omega, by rw [hc]; rfl⟩))]
          · rw [if_neg h4]
            by_cases h5 : L = [45, 48]
            · rw [hbad (fun g => g.2.2.2 h5), h5]
              rfl
            · have hg : good L := ⟨h1, h2, by rw [hb]; rintro ⟨_, e⟩; exact h4 (by have := Option.some.inj e; rw [this]; rfl), h5⟩
              rw [show decide (¬ good L) = false from decide_eq_false (fun z => z hg), show (L == [45, 48]) = false from beq_eq_false_iff_ne.2 h5]
        · rw [if_neg h3]
          by_cases h5 : L = [45, 48]
          · rw [hbad (fun g => g.2.2.2 h5), h5]
            rfl
          · have hg : good L := ⟨h1, h2, by rw [hb]; rintro ⟨e, _⟩; omega, h5⟩
            rw [show decide (¬ good L) = false from decide_eq_false (fun z => z hg), show (L == [45, 48]) = false from beq_eq_false_iff_ne.2 h5]
    · rw [if_neg (fun z => h2 (hT2.1 z)), hbad (fun g => h2 g.2.1)]
theorem parseInt_good {L : List UInt8} (h : good L) (hl : L.length ≤ 1000) : ∃ v, strconv_ParseInt.f (ofL L) 10 64 = some (if fits L then (numv L, none) else (v, some 0)) := by
  refine ⟨Lib.intSat 64 (ofL L).data.toList, ?_⟩
  unfold strconv_ParseInt.f
  rw [if_pos ⟨by rw [ofL_size]; omega, rfl, rfl⟩, ofL_data, parse_good h]
  by_cases g : fits L
  · simp only [if_pos g]
  · simp only [if_neg g]
/-- What is told of a text as a point's part. -/
def pdec (L : List UInt8) : Nat × Int := if good L then (if fits L ∧ -1048576 ≤ numv L ∧ numv L ≤ 1048576 then (fOfI (numv L), 0) else (0, 1)) else (0, 2)
theorem decimal_run (k : Nat) (hk : 1 ≤ k) (L : List UInt8) (hl : L.length ≤ 1000) : point_decimal.f k (ofL L) = some (pdec L) := by
  obtain ⟨k, rfl⟩ : ∃ m, k = m + 1 := ⟨k - 1, by omega⟩
  unfold point_decimal.f
  rw [trimPrefix_one, Option.bind_some]
  have := shape L hl (point_decimal.j0 (k + 1) (ofL L))
  refine Eq.trans this ?_
  simp only [point_decimal.j0]
  unfold pdec
  by_cases g : good L
  · rw [show decide (¬ good L) = false from decide_eq_false (fun z => z g), if_neg (by simp), if_pos g]
    obtain ⟨v, hv⟩ := parseInt_good g hl
    rw [hv, Option.bind_some]
    by_cases f : fits L
    · rw [if_pos f]
      simp only [point_part.f, Option.isNone_none, if_true]
      by_cases a : numv L ≥ -1048576
      · rw [if_pos a, Option.bind_some]
        by_cases b : numv L ≤ 1048576
        · rw [if_pos (decide_eq_true b), if_pos ⟨f, a, b⟩]
        · rw [if_neg (by simpa using b), if_neg (fun z => b z.2.2)]
      · rw [if_neg a, Option.bind_some, if_neg (by simp), if_neg (fun z => a z.2.1)]
    · rw [if_neg f, if_neg (fun z => f z.1)]
      simp only [point_part.f]
      by_cases a : v ≥ -1048576
      · rw [if_pos a, Option.bind_some, if_neg (by simp)]
      · rw [if_neg a, Option.bind_some, if_neg (by simp)]
  · rw [decide_eq_true g, if_pos rfl, if_neg g]
/-- A value that a number tells, or why there is none. -/
def numVal (r : Int × Int) : Int × Int × ByteArray × (Nat × Nat) × Int := if r.2 = 0 then (1, r.1, ⟨#[]⟩, (0, 0), 0) else (0, 0, ⟨#[]⟩, (0, 0), r.2)
theorem parse_run (k : Nat) (hk : 1 ≤ k) (L : List UInt8) (hl : L.length ≤ 1000) (h1 : L ≠ [45]) (h2 : L.head? ≠ some 34) (h3 : L.getLast? ≠ some 105) : val_Parse.f k (ofL L) = some (numVal (pnum L)) := by
  obtain ⟨k, rfl⟩ : ∃ m, k = m + 1 := ⟨k - 1, by omega⟩
  unfold val_Parse.f
  rw [ofL_toList, if_neg h1, prefix_one, Option.bind_some, if_neg (by simpa using h2), suffix_one _ _ (by omega), Option.bind_some, if_neg (by simpa using h3)]
  rw [trimPrefix_one, Option.bind_some]
  have := shape L hl (val_Parse.j0 (k + 1) (ofL L))
  rw [ofL_toList L] at this
  refine Eq.trans this ?_
  simp only [val_Parse.j0]
  unfold pnum numVal
  by_cases g : good L
  · rw [show decide (¬ good L) = false from decide_eq_false (fun z => z g), if_neg (by simp), if_pos g]
    obtain ⟨v, hv⟩ := parseInt_good g hl
    rw [hv, Option.bind_some]
    by_cases f : fits L
    · rw [if_pos f, if_pos f]
      rfl
    · rw [if_neg f, if_neg f]
      rfl
  · rw [decide_eq_true g, if_pos rfl, if_neg g]
    rfl
end Go.Proofs.YtaflcaillcjmmaaGreatDoor.Num
/- Points: the program's reader, which looks for the last sign, and the document's, which looks for the first one, tell the same. -/
set_option linter.unusedSimpArgs false
set_option linter.unusedVariables false
namespace Go.Proofs.YtaflcaillcjmmaaGreatDoor.Num
open Go Go.RowKit Go.Proofs.YtaflcaillcjmmaaGreatDoor.PAll Go.Proofs.YtaflcaillcjmmaaGreatDoor.Lia Go.Proofs.YtaflcaillcjmmaaGreatDoor.Help Go.Proofs.YtaflcaillcjmmaaGreatDoorW.PrintWords Go.Proofs.YtaflcaillcjmmaaGreatDoorW.PrintLast Go.Proofs.YtaflcaillcjmmaaGreatDoorW.PrintMore
def sgn (L : List UInt8) (j : Nat) : Prop := (L.getD j 0).toNat = 43 ∨ (L.getD j 0).toNat = 45
instance (L : List UInt8) (j : Nat) : Decidable (sgn L j) := by unfold sgn; infer_instance
theorem sgn_lt {L : List UInt8} {j : Nat} (h : sgn L j) : j < L.length := by
  rcases Nat.lt_or_ge j L.length with h' | h'
  · exact h'
  · exfalso
    unfold sgn at h
    rw [List.getD, List.getElem?_eq_none h'] at h
    simp at h
theorem lia_spec (L : List UInt8) : ∀ n, (lia L n = -1 ∧ ∀ j, j < n → ¬ sgn L j) ∨ (∃ p, p < n ∧ lia L n = (p : Int) ∧ sgn L p ∧ ∀ j, p < j → j < n → ¬ sgn L j)
  | 0 => .inl ⟨rfl, by omega⟩
  | n + 1 => by
    by_cases h : sgn L n
    · right
      refine ⟨n, by omega, ?_, h, by omega⟩
      have h' : (L.getD n 0).toNat = 43 ∨ (L.getD n 0).toNat = 45 := h
      rw [lia, if_pos h']
    · have h' : ¬ ((L.getD n 0).toNat = 43 ∨ (L.getD n 0).toNat = 45) := h
      have e : lia L (n + 1) = lia L n := by rw [lia, if_neg h']
      rw [e]
      rcases lia_spec L n with ⟨h1, h2⟩ | ⟨p, h1, h2, h3, h4⟩
      · left
        refine ⟨h1, fun j hj => ?_⟩
        rcases Nat.lt_or_eq_of_le (Nat.lt_succ_iff.1 hj) with h' | h'
        · exact h2 j h'
        · rw [h']; exact h
      · right
        refine ⟨p, by omega, h2, h3, fun j hp hj => ?_⟩
        rcases Nat.lt_or_eq_of_le (Nat.lt_succ_iff.1 hj) with h' | h'
        · exact h4 j hp h'
        · rw [h']; exact h
/-- Behind a plus. -/
def tail43 (L : List UInt8) : List UInt8 := if L.head? = some 43 then L.drop 1 else L
def comb (x y : Nat × Int) : (Nat × Nat) × Int := if x.2 = 2 ∨ y.2 = 2 then ((0, 0), 2) else if x.2 = 0 ∧ y.2 = 0 then ((x.1, y.1), 0) else ((0, 0), 1)
/-- The program's answer. -/
def ppt (L : List UInt8) : (Nat × Nat) × Int := if lia L L.length < 1 then ((0, 0), 2) else comb (pdec (L.take (lia L L.length).toNat)) (pdec (tail43 (L.drop (lia L L.length).toNat)))
theorem size_i (L : List UInt8) : (ofL (L ++ [105])).size = L.length + 1 := by rw [ofL_size, List.length_append]; rfl
theorem cut_i (L : List UInt8) (hl : L.length ≤ 999) : strings_CutSuffix.f (ofL (L ++ [105])) ⟨#[105]⟩ = some (ofL L, true) := by
  unfold strings_CutSuffix.f stringslite_CutSuffix.f
  have h0 := suffix_one (L ++ [105]) 105 (by simp; omega)
  unfold strings_HasSuffix.f at h0
  have h0' : stringslite_HasSuffix.f (ofL (L ++ [105])) ⟨#[105]⟩ = some true := by
    cases h : stringslite_HasSuffix.f (ofL (L ++ [105])) ⟨#[105]⟩ with
    | none => rw [h] at h0; simp at h0
    | some r => rw [h] at h0; simpa using h0
  have h1 : ((⟨#[105]⟩ : ByteArray).size : Int) = 1 := rfl
  rw [h0', h1, size_i]
  simp only [Option.bind_some, if_true]
  rw [wr' (by omega) (by omega), if_pos (by omega), if_pos (by omega)]
  rw [ofL_extract]
  have e : (((L.length + 1 : Nat) : Int) - 1).toNat = L.length := by omega
  rw [e]
  simp
theorem tail43_len (L : List UInt8) : (tail43 L).length ≤ L.length := by
  unfold tail43
  split
  · rw [List.length_drop]; omega
  · exact Nat.le_refl _
/-- The program's reader of points. -/
theorem point_run (k : Nat) (hk : 3 ≤ k) (L : List UInt8) (hl : L.length ≤ 999) : point_Parse.f k (ofL (L ++ [105])) = some (ppt L) := by
  obtain ⟨k, rfl⟩ : ∃ m, k = m + 2 := ⟨k - 2, by omega⟩
  have hr := lia_range L L.length
  unfold point_Parse.f
  rw [cut_i L hl, Option.bind_some]
  simp only [strings_LastIndexAny.f]
  rw [if_pos ⟨by rw [ofL_size]; omega, trivial⟩, Option.bind_some, if_pos trivial, ofL_size]
  simp only [point_Parse.j0]
  unfold ppt
  by_cases h : lia L L.length < 1
  · rw [if_pos (decide_eq_true h), if_pos h]
  · rw [if_neg (by simpa using h), if_neg h, if_pos (by omega), if_pos (by rw [ofL_size]; omega)]
    rw [ofL_extract, ofL_extract, ofL_size, List.drop_zero, List.take_length]
    rw [decimal_run _ (by omega) _ (by rw [List.length_take]; omega), Option.bind_some, trimPrefix_one, Option.bind_some]
    rw [show (if (L.drop (lia L L.length).toNat).head? = some 43 then (L.drop (lia L L.length).toNat).drop 1 else L.drop (lia L L.length).toNat) = tail43 (L.drop (lia L L.length).toNat) from rfl]
    rw [decimal_run _ (by omega) _ (by have := tail43_len (L.drop (lia L L.length).toNat); rw [List.length_drop] at this; omega), Option.bind_some]
    generalize pdec (L.take (lia L L.length).toNat) = x
    generalize pdec (tail43 (L.drop (lia L L.length).toNat)) = y
    unfold comb
    by_cases hx : x.2 = 2
    · rw [if_pos hx, if_pos (.inl hx)]
      simp only [point_Parse.j1]
      rfl
    · rw [if_neg hx]
      simp only [point_Parse.j1]
      by_cases hy : y.2 = 2
      · rw [if_pos (show (y.2 == 2) = true by simpa using hy), if_pos (.inr hy)]
      · rw [if_neg (show ¬ (y.2 == 2) = true by simpa using hy), if_neg (show ¬ (x.2 = 2 ∨ y.2 = 2) by simp [hx, hy])]
        by_cases hx0 : x.2 = 0
        · rw [if_pos hx0]
          by_cases hy0 : y.2 = 0
          · rw [if_pos hy0, if_pos ⟨hx0, hy0⟩]
          · rw [if_neg hy0, if_neg (fun z => hy0 z.2)]
        · rw [if_neg hx0, if_neg (fun z => hx0 z.1)]
/-! ### the document's -/
theorem bt_getD (L : List UInt8) (j : Nat) (h : j < L.length) : bt (ofL (L ++ [105])) (j : Int) = ((L.getD j 0).toNat : Int) := by
  rw [bt_ofL' (by rw [List.length_append]; omega)]
  rw [List.getElem_append_left h, List.getD, List.getElem?_eq_getElem h]
  rfl
/-- What it tells where the first sign stands at p. -/
def rtail (L : List UInt8) (p : Nat) : (Nat × Nat) × Int := if (L.drop p).head? = some 43 ∧ (L.drop (p + 1)).head? = some 45 then ((0, 0), 2) else comb (pdec (L.take p)) (pdec (tail43 (L.drop p)))
theorem j4_run (k : Nat) (x y : List UInt8) : noriaref11_ParsePoint.j4 (k + 1) (pnum x).1 (pnum x).2 (pnum y).1 (pnum y).2 (decide ((pnum x).2 = 2 ∨ (pnum y).2 = 2)) = some (comb (pdec x) (pdec y)) := by
  simp only [noriaref11_ParsePoint.j4, noriaref11_Of.f]
  unfold pnum pdec comb
  by_cases gx : good x
  · by_cases gy : good y
    · simp only [if_pos gx, if_pos gy]
      by_cases fx : fits x
      · by_cases fy : fits y
        · simp only [if_pos fx, if_pos fy]
          rw [if_neg (by simp), if_pos trivial, if_pos trivial]
          by_cases a1 : numv x < -1048576
          · rw [if_pos a1, if_neg (c := fits x ∧ -1048576 ≤ numv x ∧ numv x ≤ 1048576) (by omega)]
            by_cases b1 : (fits y ∧ -1048576 ≤ numv y ∧ numv y ≤ 1048576)
            · rw [if_pos b1]; simp
            · rw [if_neg b1]; simp
          · rw [if_neg a1]
            by_cases a2 : numv x > 1048576
            · rw [if_pos a2, if_neg (c := fits x ∧ -1048576 ≤ numv x ∧ numv x ≤ 1048576) (by omega)]
              by_cases b1 : (fits y ∧ -1048576 ≤ numv y ∧ numv y ≤ 1048576)
              · rw [if_pos b1]; simp
              · rw [if_neg b1]; simp
            · rw [if_neg a2, if_pos (c := fits x ∧ -1048576 ≤ numv x ∧ numv x ≤ 1048576) ⟨fx, by omega, by omega⟩]
              by_cases b1 : numv y < -1048576
              · rw [if_pos b1, if_neg (c := fits y ∧ -1048576 ≤ numv y ∧ numv y ≤ 1048576) (by omega)]; simp
              · rw [if_neg b1]
                by_cases b2 : numv y > 1048576
                · rw [if_pos b2, if_neg (c := fits y ∧ -1048576 ≤ numv y ∧ numv y ≤ 1048576) (by omega)]; simp
                · rw [if_neg b2, if_pos (c := fits y ∧ -1048576 ≤ numv y ∧ numv y ≤ 1048576) ⟨fy, by omega, by omega⟩]; simp
        · simp only [if_pos fx, if_neg fy, fy, false_and, if_false]
          by_cases a : (fits x ∧ -1048576 ≤ numv x ∧ numv x ≤ 1048576)
          · rw [if_pos a]; simp
          · rw [if_neg a]; simp
      · simp only [if_neg fx, fx, false_and, if_false]
        by_cases fy : fits y
        · simp only [if_pos fy]
          by_cases a : (fits y ∧ -1048576 ≤ numv y ∧ numv y ≤ 1048576)
          · rw [if_pos a]; simp
          · rw [if_neg a]; simp
        · simp only [if_neg fy, fy, false_and, if_false]; simp
    · simp only [if_neg gy]
      simp
  · simp only [if_neg gx]
    simp
theorem j3_run (L T : List UInt8) (p k : Nat) (hl : L.length ≤ 999) (hp : p ≤ L.length) (hT : T.length ≤ 999) (hk : 2030 ≤ k) :
    noriaref11_ParsePoint.j3 k (ofL (L ++ [105])) (p : Int) (ofL T) = some (comb (pdec (L.take p)) (pdec T)) := by
  obtain ⟨k, rfl⟩ : ∃ m, k = m + 2 := ⟨k - 2, by omega⟩
  simp only [noriaref11_ParsePoint.j3]
  rw [if_pos (by omega), if_pos (by rw [size_i]; omega), ofL_extract, Int.toNat_natCast, List.drop_zero]
  have e : (L ++ [105]).take p = L.take p := List.take_append_of_le_length hp
  rw [e, refNum _ (by omega) _ (by rw [List.length_take]; omega), Option.bind_some, refNum _ (by omega) _ (by omega), Option.bind_some]
  have := j4_run k (L.take p) T
  by_cases hx : (pnum (L.take p)).2 = 2
  · rw [if_pos hx]
    rw [decide_eq_true (Or.inl hx)] at this
    exact this
  · rw [if_neg hx]
    have e2 : decide ((pnum (L.take p)).2 = 2 ∨ (pnum T).2 = 2) = ((pnum T).2 == 2) := by
      by_cases hy : (pnum T).2 = 2
      · rw [decide_eq_true (Or.inr hy), hy]; rfl
      · rw [decide_eq_false (by simp [hx, hy]), beq_eq_false_iff_ne.2 hy]
    rw [e2] at this
    exact this
/-- Behind the loop. -/
theorem j2_end (L : List UInt8) (p k : Nat) (i : Int) (hl : L.length ≤ 999) (hp1 : 1 ≤ p) (hs : sgn L p) (hk : 2040 ≤ k) :
    noriaref11_ParsePoint.j2 k (ofL (L ++ [105])) (p : Int) i false = some (rtail L p) := by
  obtain ⟨k, rfl⟩ : ∃ m, k = m + 1 := ⟨k - 1, by omega⟩
  have hp := sgn_lt hs
  have hw : wrap64 (((ofL (L ++ [105])).size : Int) - 1) = (L.length : Int) := by rw [size_i, wr' (by omega) (by omega)]; omega
  have hex : (ofL (L ++ [105])).extract (p : Int).toNat ((L.length : Int)).toNat = ofL (L.drop p) := by
    rw [ofL_extract, Int.toNat_natCast, Int.toNat_natCast]
    simp
  have hcons := List.drop_eq_getElem_cons hp
  have hgd : L.getD p 0 = L[p] := by rw [List.getD, List.getElem?_eq_getElem hp]; rfl
  simp only [noriaref11_ParsePoint.j2, hw, hex]
  rw [if_neg (by simp), if_neg (by omega), if_pos (by omega), if_pos (by omega), if_pos (by rw [size_i]; omega)]
  rw [if_pos (by rw [ofL_size, List.length_drop]; omega)]
  have hb0 : bt (ofL (L.drop p)) 0 = (L[p].toNat : Int) := by rw [hcons]; exact bt_ofL0 _ _
  have hhead : (L.drop p).head? = some L[p] := by rw [hcons]; rfl
  have hd1 : (ofL (L.drop p)).extract 1 (ofL (L.drop p)).size = ofL (L.drop (p + 1)) := by
    rw [ofL_extract, ofL_size, List.take_length, List.drop_drop, Nat.add_comm]
  rw [hb0, hd1]
  unfold rtail
  rw [hhead]
  by_cases g : (L[p].toNat : Int) = 43
  · have hc : L[p] = 43 := UInt8.toNat_inj.1 (by rw [show (43 : UInt8).toNat = 43 from rfl]; omega)
    have ht : tail43 (L.drop p) = L.drop (p + 1) := by
      unfold tail43
      rw [if_pos (by rw [hhead, hc]), List.drop_drop, Nat.add_comm]
    rw [if_pos g, if_pos (by rw [ofL_size, List.length_drop]; omega)]
    cases hT : L.drop (p + 1) with
    | nil =>
      rw [if_neg (by rw [ofL_size]; simp), if_neg (by simp), ht, hT]
      exact j3_run L [] p k hl (by omega) (by simp) (by omega)
    | cons a t =>
      have hlen : (a :: t).length ≤ 999 := by rw [← hT, List.length_drop]; omega
      rw [if_pos (by rw [ofL_size]; simp), if_pos (by rw [ofL_size]; simp), bt_ofL0]
      by_cases g2 : ((a.toNat : Nat) : Int) = 45
      · have ha : a = 45 := UInt8.toNat_inj.1 (by rw [show (45 : UInt8).toNat = 45 from rfl]; omega)
        rw [if_pos g2, if_pos ⟨by rw [hc], by rw [ha]; rfl⟩]
      · rw [if_neg g2, if_neg (by rintro ⟨_, e⟩; exact g2 (by have := Option.some.inj e; rw [this]; rfl)), ht, hT]
        exact j3_run L (a :: t) p k hl (by omega) hlen (by omega)
  · have hc : L[p] ≠ 43 := fun e => g (by rw [e]; rfl)
    have ht : tail43 (L.drop p) = L.drop p := by
      unfold tail43
      rw [if_neg (by rw [hhead]; exact fun e => hc (Option.some.inj e))]
    rw [if_neg g, if_neg (fun z => hc (Option.some.inj z.1)), ht]
    exact j3_run L (L.drop p) p k hl (by omega) (by rw [List.length_drop]; omega) (by omega)
theorem l0_none (L : List UInt8) (hl : L.length ≤ 999) : ∀ (d i k : Nat), i + d = L.length → (∀ j, i ≤ j → ¬ sgn L j) → 2 * d + 2 ≤ k →
    noriaref11_ParsePoint.l0 k (ofL (L ++ [105])) 0 (i : Int) = some ((0, 0), 2) := by
  have hw : wrap64 (((ofL (L ++ [105])).size : Int) - 1) = (L.length : Int) := by rw [size_i, wr' (by omega) (by omega)]; omega
  intro d
  induction d with
  | zero =>
    intro i k hi hs hk
    obtain ⟨k, rfl⟩ : ∃ m, k = m + 2 := ⟨k - 2, by omega⟩
    simp only [noriaref11_ParsePoint.l0, noriaref11_ParsePoint.j2, hw]
    rw [if_neg (by omega), if_neg (by simp), if_pos trivial]
  | succ d ih =>
    intro i k hi hs hk
    obtain ⟨k, rfl⟩ : ∃ m, k = m + 2 := ⟨k - 2, by omega⟩
    have hlt : i < L.length := by omega
    have hsi := hs i (Nat.le_refl _)
    unfold sgn at hsi
    simp only [noriaref11_ParsePoint.l0, noriaref11_ParsePoint.j2, hw]
    rw [if_pos (by omega), if_pos (by simp), if_pos (by omega), if_pos (by rw [size_i]; omega), bt_getD L i hlt, if_neg (by omega), if_neg (by omega)]
    rw [wr' (by omega) (by omega), show (i : Int) + 1 = ((i + 1 : Nat) : Int) by omega]
    exact ih (i + 1) k (by omega) (fun j hj => hs j (by omega)) (by omega)
theorem l0_some (L : List UInt8) (hl : L.length ≤ 999) (p : Nat) (hp : sgn L p) : ∀ (d i k : Nat), i + d = p → 1 ≤ i → (∀ j, i ≤ j → j < p → ¬ sgn L j) → 2 * d + 2050 ≤ k →
    noriaref11_ParsePoint.l0 k (ofL (L ++ [105])) 0 (i : Int) = some (rtail L p) := by
  have hw : wrap64 (((ofL (L ++ [105])).size : Int) - 1) = (L.length : Int) := by rw [size_i, wr' (by omega) (by omega)]; omega
  have hpl := sgn_lt hp
  intro d
  induction d with
  | zero =>
    intro i k hi h1 hs hk
    obtain rfl : i = p := by omega
    obtain ⟨k, rfl⟩ : ∃ m, k = m + 3 := ⟨k - 3, by omega⟩
    have hgo : noriaref11_ParsePoint.l0 (k + 1) (ofL (L ++ [105])) (i : Int) ((i + 1 : Nat) : Int) = some (rtail L i) := by
      simp only [noriaref11_ParsePoint.l0, hw]
      by_cases q : ((i + 1 : Nat) : Int) < (L.length : Int)
      · rw [if_pos q, show ((i : Int) == 0) = false from beq_eq_false_iff_ne.2 (by omega)]
        exact j2_end L i k _ hl h1 hp (by omega)
      · rw [if_neg q]
        exact j2_end L i k _ hl h1 hp (by omega)
    have hp' := hp
    unfold sgn at hp'
    have e1 : noriaref11_ParsePoint.l0 (k + 3) (ofL (L ++ [105])) 0 (i : Int) = noriaref11_ParsePoint.j2 (k + 2) (ofL (L ++ [105])) 0 (i : Int) true := by
      simp only [noriaref11_ParsePoint.l0, hw]
      rw [if_pos (by omega)]
      rfl
    rw [e1]
    have e2 : noriaref11_ParsePoint.j2 (k + 2) (ofL (L ++ [105])) 0 (i : Int) true = noriaref11_ParsePoint.l0 (k + 1) (ofL (L ++ [105])) (i : Int) ((i + 1 : Nat) : Int) := by
      rw [noriaref11_ParsePoint.j2]
      rw [if_pos rfl, if_pos (by omega), if_pos (by rw [size_i]; omega), bt_getD L i hpl, wr' (by omega) (by omega), show (i : Int) + 1 = ((i + 1 : Nat) : Int) by omega]
      by_cases g : (((L.getD i 0).toNat : Nat) : Int) = 43
      · rw [if_pos g]
      · rw [if_neg g, if_pos (by omega)]
    rw [e2]
    exact hgo
  | succ d ih =>
    intro i k hi h1 hs hk
    obtain ⟨k, rfl⟩ : ∃ m, k = m + 2 := ⟨k - 2, by omega⟩
    have hlt : i < L.length := by omega
    have hsi := hs i (Nat.le_refl _) (by omega)
    unfold sgn at hsi
    have e1 : noriaref11_ParsePoint.l0 (k + 2) (ofL (L ++ [105])) 0 (i : Int) = noriaref11_ParsePoint.j2 (k + 1) (ofL (L ++ [105])) 0 (i : Int) true := by
      rw [noriaref11_ParsePoint.l0, hw]
      rw [if_pos (by omega)]
      rfl
    rw [e1, noriaref11_ParsePoint.j2]
    rw [if_pos rfl, if_pos (by omega), if_pos (by rw [size_i]; omega), bt_getD L i hlt, if_neg (by omega), if_neg (by omega)]
    rw [wr' (by omega) (by omega), show (i : Int) + 1 = ((i + 1 : Nat) : Int) by omega]
    exact ih (i + 1) k (by omega) (by omega) (fun j hj hj2 => hs j (by omega) hj2) (by omega)
/-! ### both -/
theorem first_sgn (L : List UInt8) : ∀ (d i : Nat), (∃ j, i ≤ j ∧ j < i + d ∧ sgn L j) → ∃ q, i ≤ q ∧ sgn L q ∧ ∀ j, i ≤ j → j < q → ¬ sgn L j := by
  intro d
  induction d with
  | zero => rintro i ⟨j, h1, h2, _⟩; omega
  | succ d ih =>
    rintro i ⟨j, h1, h2, h3⟩
    by_cases h : sgn L i
    · exact ⟨i, Nat.le_refl _, h, by omega⟩
    · obtain ⟨q, q1, q2, q3⟩ := ih (i + 1) ⟨j, by rcases Nat.lt_or_eq_of_le h1 with h' | h'; omega; subst h'; exact absurd h3 h, by omega, h3⟩
      refine ⟨q, by omega, q2, fun x hx hx2 => ?_⟩
      rcases Nat.lt_or_eq_of_le hx with h' | h'
      · exact q3 x (by omega) hx2
      · subst h'; exact h
theorem mem_body {X : List UInt8} {c : UInt8} (h : c ∈ X.drop 1) : c ∈ body X := by
  unfold body
  split
  · exact h
  · exact List.mem_of_mem_drop h
theorem sgn_not {L : List UInt8} {j : Nat} (h : sgn L j) : ¬ isD (L.getD j 0) := by unfold sgn at h; unfold isD; omega
theorem getD_mem_drop {L : List UInt8} {j n : Nat} (h : j < L.length) (hn : n ≤ j) : L.getD j 0 ∈ L.drop n := by
  rw [List.getD, List.getElem?_eq_getElem h]
  apply List.mem_of_getElem? (i := j - n)
  rw [List.getElem?_drop, show n + (j - n) = j by omega, List.getElem?_eq_getElem h]
  rfl
theorem pdec_bad {X : List UInt8} (h : ¬ good X) : pdec X = (0, 2) := by unfold pdec; rw [if_neg h]
theorem comb_left {x y : Nat × Int} (h : x = (0, 2)) : comb x y = ((0, 0), 2) := by unfold comb; rw [if_pos (.inl (by rw [h]))]
theorem comb_right {x y : Nat × Int} (h : y = (0, 2)) : comb x y = ((0, 0), 2) := by unfold comb; rw [if_pos (.inr (by rw [h]))]
/-- The document's reader of points tells what the program's tells. -/
theorem refPoint (L : List UInt8) (hl : L.length ≤ 999) (k : Nat) (hk : 4100 ≤ k) : noriaref11_ParsePoint.f k (ofL (L ++ [105])) = some (ppt L) := by
  obtain ⟨k, rfl⟩ : ∃ m, k = m + 1 := ⟨k - 1, by omega⟩
  have hw : wrap64 (((ofL (L ++ [105])).size : Int) - 1) = (L.length : Int) := by rw [size_i, wr' (by omega) (by omega)]; omega
  have hlast : bt (ofL (L ++ [105])) (L.length : Int) = 105 := by
    rw [bt_ofL' (by simp)]
    simp
  unfold noriaref11_ParsePoint.f
  rw [hw]
  by_cases hn : ((ofL (L ++ [105])).size : Int) < 4
  · rw [if_pos hn]
    simp only [noriaref11_ParsePoint.j0]
    rw [if_pos trivial]
    rw [size_i] at hn
    unfold ppt
    rcases lia_spec L L.length with ⟨h1, _⟩ | ⟨p, h1, h2, h3, h4⟩
    · rw [h1, if_pos (by omega)]
    · rw [h2]
      by_cases hp : (p : Int) < 1
      · rw [if_pos hp]
      · obtain rfl : p = 1 := by omega
        rw [if_neg hp]
        symm
        congr 1
        apply comb_right
        apply pdec_bad
        rw [show ((1 : Nat) : Int).toNat = 1 from rfl]
        have hlen : (L.drop 1).length = 1 := by rw [List.length_drop]; omega
        obtain ⟨c, hc⟩ := List.length_eq_one_iff.1 hlen
        rw [hc]
        intro g
        unfold tail43 at g
        by_cases e : ([c] : List UInt8).head? = some 43
        · rw [if_pos e] at g
          exact g.1 rfl
        · rw [if_neg e] at g
          have hgd : L.getD 1 0 = c := by
            have : (L.drop 1)[0]? = some c := by rw [hc]; rfl
            rw [List.getElem?_drop] at this
            simp [List.getD, this]
          unfold sgn at h3
          rw [hgd] at h3
          have hc45 : c = 45 := by
            apply UInt8.toNat_inj.1
            rcases h3 with h3 | h3
            · exfalso
              apply e
              rw [show c = 43 from UInt8.toNat_inj.1 h3]
              rfl
            · exact h3
          subst hc45
          exact g.1 rfl
  · rw [if_neg hn, if_pos (by omega), if_pos (by rw [size_i]; omega), hlast]
    simp only [noriaref11_ParsePoint.j0]
    rw [if_neg (by simp)]
    by_cases hs : ∃ j, 1 ≤ j ∧ sgn L j
    · obtain ⟨j, hj1, hj2⟩ := hs
      have hjl := sgn_lt hj2
      obtain ⟨q, q1, q2, q3⟩ := first_sgn L L.length 1 ⟨j, hj1, by omega, hj2⟩
      have hql := sgn_lt q2
      have := l0_some L hl q q2 (q - 1) 1 k (by omega) (by omega) q3 (by omega)
      rw [show ((1 : Nat) : Int) = 1 from rfl] at this
      rw [this]
      congr 1
      rcases lia_spec L L.length with ⟨_, h2⟩ | ⟨p, h1, h2, h3, h4⟩
      · exact absurd q2 (h2 q hql)
      · have hpq : q ≤ p := by
          rcases Nat.lt_or_ge p q with h | h
          · exact absurd q2 (h4 q h hql)
          · exact h
        unfold ppt
        rw [h2, if_neg (by omega), Int.toNat_natCast]
        unfold rtail
        rcases Nat.lt_or_eq_of_le hpq with hlt | rfl
        · have hbad : pdec (L.take p) = (0, 2) := by
            apply pdec_bad
            apply bad_of_mem (c := L.getD q 0) _ (sgn_not q2)
            apply mem_body
            have : (L.take p).getD q 0 = L.getD q 0 := by simp [List.getD, hlt]
            rw [← this]
            exact getD_mem_drop (by rw [List.length_take]; omega) q1
          rw [comb_left hbad]
          by_cases h45 : (L.drop q).head? = some 43 ∧ (L.drop (q + 1)).head? = some 45
          · rw [if_pos h45]
          · rw [if_neg h45]
            apply comb_right
            apply pdec_bad
            apply bad_of_mem (c := L.getD p 0) _ (sgn_not h3)
            unfold tail43
            by_cases e : (L.drop q).head? = some 43
            · rw [if_pos e, List.drop_drop]
              have e2 : (L.drop (q + 1)).head? ≠ some 45 := fun z => h45 ⟨e, z⟩
              unfold body
              rw [if_neg (by first | exact e2 | (rw [Nat.add_comm]; exact e2))]
              exact getD_mem_drop h1 (by omega)
            · rw [if_neg e]
              apply mem_body
              rw [List.drop_drop]
              exact getD_mem_drop h1 (by omega)
        · rw [if_neg]
          rintro ⟨_, e⟩
          have hq1 : ¬ sgn L (q + 1) := by
            rcases Nat.lt_or_ge (q + 1) L.length with h | h
            · exact h4 (q + 1) (by omega) h
            · intro z; have := sgn_lt z; omega
          apply hq1
          have : L.getD (q + 1) 0 = 45 := by
            rw [List.head?_drop] at e
            simp [List.getD, e]
          unfold sgn
          rw [this]
          right; rfl
    · have hno : ∀ j, 1 ≤ j → ¬ sgn L j := fun j h1 h2 => hs ⟨j, h1, h2⟩
      have hL : 1 ≤ L.length := by rw [size_i] at hn; omega
      have := l0_none L hl (L.length - 1) 1 k (by omega) hno (by omega)
      rw [show ((1 : Nat) : Int) = 1 from rfl] at this
      rw [this]
      unfold ppt
      rcases lia_spec L L.length with ⟨h1, _⟩ | ⟨p, h1, h2, h3, h4⟩
      · rw [h1, if_pos (by omega)]
      · rw [h2]
        rw [if_pos]
        rcases Nat.lt_or_ge p 1 with h | h
        · omega
        · exact absurd h3 (hno p h)
end Go.Proofs.YtaflcaillcjmmaaGreatDoor.Num
