/- The reference's device: Crash. -/
import Derived.Test.YtkpfhlfbhceebaaRProg4
import Derived.Test.YtkpfhlfbhceebaaDFlags
namespace Go.Proofs.Ytkpfhlfbhceebaa.PAll
open Go.Proofs.Ytkpfhlfbhceebaa.Help
open Go.RowKit Go.Proofs.YtkpfhlfbhceebaaW.PrintWords Go.Proofs.YtkpfhlfbhceebaaW.PrintLast Go.Proofs.YtkpfhlfbhceebaaW.PrintMore
open Go.Proofs.YtkpfhlfbhceebaaW.PrintWords.Kd (raw reads_raw)
set_option linter.unusedVariables false
set_option linter.unusedSimpArgs false

/-- What is kept of what waits, of the first k. -/
def keepL (c : Nat → Bool) (L : List (Int × List Int)) : Nat → List (Int × List Int)
  | 0 => []
  | k + 1 => match L[k]? with
    | some x => if c k then keepL c L k ++ [x] else keepL c L k
    | none => keepL c L k
theorem keepL_length (c : Nat → Bool) (L : List (Int × List Int)) (k : Nat) : (keepL c L k).length ≤ k := by
  induction k with
  | zero => exact Nat.le_refl _
  | succ k ih =>
    unfold keepL
    cases L[k]? with
    | none => exact Nat.le_succ_of_le ih
    | some x =>
      simp only
      split
      · rw [List.length_append, List.length_singleton]; omega
      · omega
theorem aft_append (c : Nat → Bool) (L : List (Int × List Int)) (x : Int × List Int) (B : List Int) : ∀ k, k ≤ L.length → aft c (L ++ [x]) B k = aft c L B k
  | 0, _ => rfl
  | k + 1, h => by
    unfold aft
    rw [List.getElem?_append_left (by omega), aft_append c L x B k (by omega)]
theorem keepL_aft (c : Nat → Bool) (L : List (Int × List Int)) (B : List Int) (k : Nat) : aft (fun _ => true) (keepL c L k) B (keepL c L k).length = aft c L B k := by
  induction k with
  | zero => rfl
  | succ k ih =>
    unfold keepL
    show _ = (match L[k]? with | some x => if c k then dput (aft c L B k) x else aft c L B k | none => aft c L B k)
    cases hx : L[k]? with
    | none => exact ih
    | some x =>
      simp only
      cases hc : c k with
      | false => rw [if_neg (by decide), if_neg (by decide)]; exact ih
      | true =>
        rw [if_pos rfl, if_pos rfl, List.length_append, List.length_singleton]
        show (match (keepL c L k ++ [x])[(keepL c L k).length]? with | some x => if true then dput (aft _ _ B _) x else aft _ _ B _ | none => aft _ _ B _) = _
        rw [List.getElem?_append_right (Nat.le_refl _), Nat.sub_self]
        simp only [List.getElem?_cons_zero, if_true]
        rw [aft_append _ _ _ _ _ (Nat.le_refl _), ih]
theorem keepL_mem {c : Nat → Bool} {L : List (Int × List Int)} {k : Nat} {x : Int × List Int} (h : x ∈ keepL c L k) : x ∈ L := by
  induction k with
  | zero => cases h
  | succ k ih =>
    unfold keepL at h
    cases hx : L[k]? with
    | none => rw [hx] at h; exact ih h
    | some y =>
      rw [hx] at h
      simp only at h
      split at h
      · rcases List.mem_append.1 h with h | h
        · exact ih h
        · obtain rfl : x = y := by simpa using h
          exact List.mem_of_getElem? hx
      · exact ih h
theorem DevTo.then {TD TW : Nat} {a b c : World} {S N S' N' : Nat → Prop} {p : Nat} {B : List Int} {L : List (Int × List Int)} (hf : Fr S a b) (t1 : ∀ k, S' k → S k ∨ a.heap.size ≤ k) (t2 : ∀ k, N' k → N k ∨ a.heap.size ≤ k) (h : DevTo TD TW b c S' N' p B L) : DevTo TD TW a c S N p B L := by
  obtain ⟨S2, N2, hd, hf2, u1, u2⟩ := h
  have hs := hf.size
  refine ⟨S2, N2, hd, hf.trans hf2 (fun q hq h => ?_), fun k hk => ?_, fun k hk => ?_⟩
  · rcases t1 q h with h | h
    · exact h
    · omega
  · rcases u1 k hk with h | h
    · exact t1 k h
    · exact .inr (by omega)
  · rcases u2 k hk with h | h
    · exact t2 k h
    · exact .inr (by omega)
set_option maxRecDepth 100000 in
set_option maxHeartbeats 4000000 in
theorem ref_crash {w : World} {S N : Nat → Prop} {p : Nat} {B : List Int} {L : List (Int × List Int)} (h : Dev 58 67 w S N p B L) {n : Nat} (hn : B.length = n * 64) (h4 : 4 ≤ n) (hm : n ≤ 1024) (hw : Waits n L) (hl : L.length < 4294967296)
    {A : Option Addr} {c : Nat} {ks : List Bool} (hr : Kd.C Kd.bool w A ks.length ks) :
    Calls Try.prog 16 #[.pointer (some ⟨p, 0, none⟩), .slice A ks.length c] w fun e w' =>
      e = .returned (.tuple #[]) ∧ DevTo 58 67 w w' S N p (aft (fun k => ks.getD k false) L B L.length) [] := by
  obtain ⟨gb, cb, vl, h⟩ := h
  obtain ⟨A1, c1, rfl, hc1, hL⟩ := h.lenL
  have hks : ks.length ≤ 9223372036854775807 := hr.2.1
  have hps := h.slt p h.sp
  have H := Aside0.mk h
  have HN := Aside0.mk hn
  have HW := Aside0.mk hw
  have HL0 := Aside0.mk hl
  have HR := Aside0.mk hr
  clear h hn hw hl hr
  go_enter Try.func16, Try.ntmps16
  go_wp2
  go_loopg [4, 5] L.length (fun gg s4 s5 wr => ∃ kk : Nat, kk ≤ L.length ∧ L.length - kk ≤ gg ∧ s5 = .int .i64 kk ∧ Aside0 (OwnRow (WItem w N) 67 2 wr w.heap.size s4 (keepL (fun k => ks.getD k false) L kk)) ∧ Aside0 (Below w.heap.size w wr))
  case atStart => exact ⟨0, Nat.zero_le _, by omega, rfl, ⟨OwnRow.none_ _ _ _ _ _⟩, ⟨Below.refl _ _⟩⟩
  case round =>
    obtain ⟨kk, hkk, hgg, rfl, HO, HB⟩ := hrel
    have hp1 : wr.cell? ⟨p, 1, none⟩ = some (.slice A1 L.length c1) := (HB.out.cell (p := ⟨p, 1, none⟩) hps).trans (cell_of_blk H.out.cell (j := 1) rfl)
    by_cases hlt : kk < L.length
    · have HX := Aside0.mk (List.getElem?_eq_getElem hlt)
      by_cases hkl : kk < ks.length
      · obtain ⟨ad, rfl, hcf⟩ := at_flag_later HR.out hkl
        have hcf1 := hcf _ HB.out
        cases hf : ks.getD kk false with
        | true =>
          rw [hf] at hcf1
          have HF := Aside0.mk hf
          clear hf hcf
          obtain ⟨g, A', c', rfl, hgS, hc0, hc1', hle, hC, hNx⟩ := H.out.item hlt
          have hgl := H.out.slt g hgS
          have hc0a : wr.cell? ⟨g, kk * 2, none⟩ = some _ := (HB.out.cell (p := ⟨g, kk * 2, none⟩) hgl).trans hc0
          have hc1a : wr.cell? ⟨g, kk * 2 + 1, none⟩ = some _ := (HB.out.cell (p := ⟨g, kk * 2 + 1, none⟩) hgl).trans hc1'
          generalize L[kk]'hlt = x at *
          obtain ⟨x1, x2⟩ := x
          simp only at hc0a hc1a hle hC hNx
          have HI : Aside0 (WItem w N (x1, x2) [.int .i64 x1, .slice A' x2.length c']) := ⟨⟨A', c', rfl, hle, hC, hNx⟩⟩
          have hkk1 : keepL (fun k => ks.getD k false) L (kk + 1) = keepL (fun k => ks.getD k false) L kk ++ [(x1, x2)] := by
            show (match L[kk]? with | some x => if ks.getD kk false then _ else _ | none => _) = _
            rw [HX.out, HF.out]; rfl
          have HK := Aside0.mk hkk1
          clear hkk1 hC hNx hle hc0 hc1'
          go_wp2_with (first
            | ((with_reducible refine gate_builtin (b := .append) (xs := #[.tmp 25, .tmp 33]) rfl ?_); at_builtin
               refine OwnRow.append (R := WItem w N) (w0 := w) (W := wr) w.heap.size rfl (.tmp 25) (.tmp 33) 56 67 (.agg #[.int .i64 0, .slice none 0 0]) 2 32 rfl Try.underlying56 infoRW rfl (by decide) (by decide) _ (keepL (fun k => ks.getD k false) L kk) (x1, x2) [.int .i64 x1, .slice A' x2.length c'] rfl rfl HI.out rfl (by simp [Value.oneCell']) HO.out HB.out HB.out.size (by have := keepL_length (fun k => ks.getD k false) L kk; have := HL0.out; omega) ?_
               intro v1 w1 hrow hb hg hat
               have HROW := Aside0.mk hrow
               have HB1 := Aside0.mk hb
               clear hrow hb hg hat)
            | fail)
          all_goals go_roundg (L.length - (kk + 1))
          all_goals first
            | omega
            | exact ⟨kk + 1, by omega, by omega, by go_num, ⟨by rw [HK.out]; exact HROW.out⟩, HB1⟩
        | false =>
          rw [hf] at hcf1
          have HF := Aside0.mk hf
          clear hf hcf
          have hkk1 : keepL (fun k => ks.getD k false) L (kk + 1) = keepL (fun k => ks.getD k false) L kk := by
            show (match L[kk]? with | some x => if ks.getD kk false then _ else _ | none => _) = _
            rw [HX.out, HF.out]; rfl
          have HK := Aside0.mk hkk1
          clear hkk1
          go_wp2
          all_goals go_roundg (L.length - (kk + 1))
          all_goals first
            | omega
            | exact ⟨kk + 1, by omega, by omega, by go_num, ⟨by rw [HK.out]; exact HO.out⟩, HB⟩
      · have hkk1 : keepL (fun k => ks.getD k false) L (kk + 1) = keepL (fun k => ks.getD k false) L kk := by
          show (match L[kk]? with | some x => if ks.getD kk false then _ else _ | none => _) = _
          rw [HX.out, List.getD_eq_getElem?_getD, List.getElem?_eq_none (by omega)]; rfl
        have HK := Aside0.mk hkk1
        clear hkk1
        go_wp2
        all_goals go_roundg (L.length - (kk + 1))
        all_goals first
          | omega
          | exact ⟨kk + 1, by omega, by omega, by go_num, ⟨by rw [HK.out]; exact HO.out⟩, HB⟩
    · have : kk = L.length := by omega
      subst this
      obtain ⟨A2, c2, rfl, hc2⟩ := HO.out.slice_
      obtain ⟨q1, q2, S1, N1, hD1, hF1, t1, t2⟩ := DevAt.waits_put (N2 := fun _ => False) H.out (by decide) HB.out ((OwnRow_same HO.out (fun _ _ => rfl) (fun y cc hy => hy.same (N' := fun k => N k ∨ False) (fun k hk => HB.out.block k (H.out.nlt k hk)) (fun _ h => .inl h))).lower (Nat.zero_le _)) (fun k hk => by obtain ⟨inner, ho, _⟩ := HO.out; exact own_base ho k hk) (fun k hk => hk.elim)
      have HD1 := Aside0.mk hD1
      have HF1 := Aside0.mk hF1
      have HT1 := Aside0.mk t1
      have HT2 := Aside0.mk t2
      have HWK : Aside0 (Waits n (keepL (fun k => ks.getD k false) L L.length)) := ⟨fun x hx => HW.out x (keepL_mem hx)⟩
      clear hD1 hF1 t1 t2
      go_wp2_with (first
        | (go_at_call 14; refine (ref_sync HD1.out HN.out h4 hm HWK.out).mono ?_; rintro e w2 ⟨rfl, hT⟩; have HT := Aside0.mk hT; clear hT)
        | fail)
      go_end0
      refine ⟨rfl, DevTo.then HF1.out HT1.out HT2.out ?_⟩
      have := HT.out
      rw [keepL_aft] at this
      exact this
end Go.Proofs.Ytkpfhlfbhceebaa.PAll
