/- The program's devices and the reference's, side by side (printed by gen_mix.py out of DSys). -/
import Derived.Test.YtkpfhlfbhceebaaDSys
import Derived.Test.YtkpfhlfbhceebaaRProg5
namespace Go.Proofs.Ytkpfhlfbhceebaa.PAll
open Go.Proofs.Ytkpfhlfbhceebaa.Help
open Go.RowKit Go.Proofs.YtkpfhlfbhceebaaW.PrintWords Go.Proofs.YtkpfhlfbhceebaaW.PrintLast Go.Proofs.YtkpfhlfbhceebaaW.PrintMore
set_option linter.unusedVariables false
set_option linter.unusedSimpArgs false
structure MSt where
  k : Bool
  p : Nat
  n : Nat
  B : List Int
  L : List (Int × List Int)
structure MSt.Ok (d : MSt) : Prop where
  len : d.B.length = d.n * 64
  n4 : 4 ≤ d.n
  nm : d.n ≤ 1024
  wait : Waits d.n d.L
def updM (D : Nat → Option MSt) (i : Nat) (d : MSt) : Nat → Option MSt := fun j => if j = i then some d else D j
theorem updM_same (D : Nat → Option MSt) (i : Nat) (d : MSt) : updM D i d i = some d := if_pos rfl
theorem updM_other (D : Nat → Option MSt) {i j : Nat} (d : MSt) (h : j ≠ i) : updM D i d j = D j := if_neg h
def noMix : Nat → Option MSt := fun _ => none
/-- The types of a device and of one that waits: false: the program's, true: the reference's. -/
def tD : Bool → Nat
  | false => 62
  | true => 58
def tW : Bool → Nat
  | false => 65
  | true => 67
abbrev DevK (k : Bool) := Dev (tD k) (tW k)
/-- The devices D, side by side, and rows of bytes R beside them; nothing that lay in w0 has turned. -/
def Mix (w0 W : World) (D : Nat → Option MSt) (R : List (Nat × Obj)) : Prop :=
  Below w0.heap.size w0 W ∧ ∃ S N : Nat → Nat → Prop, (∀ i d, D i = some d → d.Ok ∧ DevK d.k W (S i) (N i) d.p d.B d.L ∧ (∀ k, S i k → w0.heap.size ≤ k)) ∧
    (∀ i j d e, i ≠ j → D i = some d → D j = some e → ∀ k, S i k → ¬ S j k ∧ ¬ N j k) ∧ ∀ r ∈ R, W.heap[r.1]? = some r.2 ∧ ∀ i d, D i = some d → ¬ S i r.1
theorem Mix.none_ {w0 W : World} (h : Below w0.heap.size w0 W) : Mix w0 W noMix [] := ⟨h, fun _ _ => False, fun _ _ => False, ⟨fun i d h => by simp [noMix] at h, ⟨fun i j d e _ h => by simp [noMix] at h, fun r h => by cases h⟩⟩⟩
theorem Mix.below {w0 W W' : World} {D : Nat → Option MSt} {R : List (Nat × Obj)} (h : Mix w0 W D R) (hf : Below W.heap.size W W') : Mix w0 W' D R := by
  obtain ⟨hb, S, N, hd, ha, hr⟩ := h
  exact ⟨hb.trans (hf.mono hb.size), S, N, fun i d hi => ⟨(hd i d hi).1, (hd i d hi).2.1.below hf, (hd i d hi).2.2⟩, ha, fun r h => ⟨(hf.block _ (blk_lt (hr r h).1)).trans (hr r h).1, (hr r h).2⟩⟩
/-- A call turns one of them. -/
theorem Mix.turn1 {w0 W W' : World} {D : Nat → Option MSt} {R : List (Nat × Obj)} {i : Nat} {d : MSt} {B' : List Int} {L' : List (Int × List Int)} (hb : Below w0.heap.size w0 W) (hi : D i = some d)
    (ht : ∃ S N : Nat → Nat → Prop, (∀ i d, D i = some d → d.Ok ∧ DevK d.k W (S i) (N i) d.p d.B d.L ∧ (∀ k, S i k → w0.heap.size ≤ k)) ∧ (∀ i j d e, i ≠ j → D i = some d → D j = some e → ∀ k, S i k → ¬ S j k ∧ ¬ N j k) ∧ (∀ r ∈ R, W.heap[r.1]? = some r.2 ∧ ∀ i d, D i = some d → ¬ S i r.1) ∧ DevTo (tD d.k) (tW d.k) W W' (S i) (N i) d.p B' L') (hok : (MSt.mk d.k d.p d.n B' L').Ok) : Mix w0 W' (updM D i ⟨d.k, d.p, d.n, B', L'⟩) R := by
  obtain ⟨S, N, hd, ha, hrr, S', N', h1, h2, h3, h4⟩ := ht
  obtain ⟨hok0, hdv, hs0⟩ := hd i d hi
  have hbs := hb.size
  refine ⟨⟨h2.os.trans hb.os, h2.tape.trans hb.tape, h2.output.trans hb.output, Nat.le_trans hb.size h2.size, fun k hk => (h2.block k (by omega) (fun hs => by have := hs0 k hs; omega)).trans (hb.block k hk)⟩,
    fun j => if j = i then S' else S j, fun j => if j = i then N' else N j, fun j e hj => ?_, fun j l e f hjl hj hl k hk => ?_, fun r hr => ?_⟩
  · by_cases hji : j = i
    · subst hji
      rw [updM_same] at hj
      obtain rfl := Option.some.inj hj
      simp only [if_pos]
      exact ⟨hok, h1, fun k hk => by
        rcases h3 k hk with hk | hk
        · exact hs0 k hk
        · omega⟩
    · rw [updM_other _ _ hji] at hj
      simp only [if_neg hji]
      obtain ⟨e1, e2, e3⟩ := hd j e hj
      exact ⟨e1, e2.keep h2 (fun k hk => ha i j d e (Ne.symm hji) hi hj k hk), e3⟩
  · by_cases hji : j = i
    · subst hji
      rw [updM_other _ _ (Ne.symm hjl)] at hl
      simp only [if_pos, if_neg (Ne.symm hjl)] at hk ⊢
      obtain ⟨l1, l2, l3⟩ := (hd l f hl).2.1.slt'
      rcases h3 k hk with hk | hk
      · exact ha j l d f hjl hi hl k hk
      · exact ⟨fun q => by have := l1 k q; omega, fun q => by have := l2 k q; omega⟩
    · rw [updM_other _ _ hji] at hj
      simp only [if_neg hji] at hk
      obtain ⟨j1, j2, j3⟩ := (hd j e hj).2.1.slt'
      have hkW := j1 k hk
      by_cases hli : l = i
      · subst hli
        simp only [if_pos]
        have := ha j l e d hji hj hi k hk
        exact ⟨fun q => (h3 k q).elim this.1 (fun q => by omega), fun q => (h4 k q).elim this.2 (fun q => by omega)⟩
      · rw [updM_other _ _ hli] at hl
        simp only [if_neg hli]
        exact ha j l e f hjl hj hl k hk
  · obtain ⟨r1, r2⟩ := hrr r hr
    refine ⟨(h2.block _ (blk_lt r1) (r2 i d hi)).trans r1, fun j e hj => ?_⟩
    by_cases hji : j = i
    · subst hji
      simp only [if_pos]
      exact fun q => (h3 _ q).elim (r2 j d hi) (fun q => by have := blk_lt r1; omega)
    · rw [updM_other _ _ hji] at hj
      simp only [if_neg hji]
      exact r2 j e hj
/-- One more device. -/
theorem Mix.more {w0 W W' : World} {D : Nat → Option MSt} {R : List (Nat × Obj)} {i : Nat} {d : MSt} {S N : Nat → Nat → Prop} (hb : Below w0.heap.size w0 W) (hd : ∀ i d, D i = some d → d.Ok ∧ DevK d.k W (S i) (N i) d.p d.B d.L ∧ (∀ k, S i k → w0.heap.size ≤ k))
    (ha : ∀ i j d e, i ≠ j → D i = some d → D j = some e → ∀ k, S i k → ¬ S j k ∧ ¬ N j k) (hrr : ∀ r ∈ R, W.heap[r.1]? = some r.2 ∧ ∀ i d, D i = some d → ¬ S i r.1) (hi : D i = none) {N0 : Nat → Prop} (hN0 : ∀ j e, D j = some e → ∀ k, S j k → ¬ N0 k)
    (ht : DevNew (tD d.k) (tW d.k) W W' N0 d.p d.B d.L) (hok : d.Ok) : Mix w0 W' (updM D i d) R := by
  obtain ⟨S', N', h1, h2, h3, h4⟩ := ht
  have hbs := hb.size
  refine ⟨hb.trans (h2.to_below.mono hb.size), fun j => if j = i then S' else S j, fun j => if j = i then N' else N j, fun j e hj => ?_, fun j l e f hjl hj hl k hk => ?_, fun r hr => ?_⟩
  · by_cases hji : j = i
    · subst hji
      rw [updM_same] at hj
      obtain rfl := Option.some.inj hj
      simp only [if_pos]
      exact ⟨hok, h1, fun k hk => by have := h3 k hk; omega⟩
    · rw [updM_other _ _ hji] at hj
      simp only [if_neg hji]
      obtain ⟨e1, e2, e3⟩ := hd j e hj
      exact ⟨e1, e2.below h2.to_below, e3⟩
  · by_cases hji : j = i
    · subst hji
      rw [updM_other _ _ (Ne.symm hjl)] at hl
      simp only [if_pos, if_neg (Ne.symm hjl)] at hk ⊢
      obtain ⟨l1, l2, l3⟩ := (hd l f hl).2.1.slt'
      have := h3 k hk
      exact ⟨fun q => by have := l1 k q; omega, fun q => by have := l2 k q; omega⟩
    · rw [updM_other _ _ hji] at hj
      simp only [if_neg hji] at hk
      obtain ⟨j1, j2, j3⟩ := (hd j e hj).2.1.slt'
      have hkW := j1 k hk
      by_cases hli : l = i
      · subst hli
        simp only [if_pos]
        exact ⟨fun q => by have := h3 k q; omega, fun q => (h4 k q).elim (hN0 j e hj k hk) (fun q => by omega)⟩
      · rw [updM_other _ _ hli] at hl
        simp only [if_neg hli]
        exact ha j l e f hjl hj hl k hk
  · obtain ⟨r1, r2⟩ := hrr r hr
    refine ⟨(h2.to_below.block _ (blk_lt r1)).trans r1, fun j e hj => ?_⟩
    by_cases hji : j = i
    · subst hji
      simp only [if_pos]
      exact fun q => by have := blk_lt r1; have := h3 _ q; omega
    · rw [updM_other _ _ hji] at hj
      simp only [if_neg hji]
      exact r2 j e hj
/-- A row that is new is kept. -/
theorem Mix.row {w0 W W' : World} {D : Nat → Option MSt} {R : List (Nat × Obj)} (h : Mix w0 W D R) (hf : Below W.heap.size W W') {g : Nat} {o : Obj} (hO : W'.heap[g]? = some o) (hg : W.heap.size ≤ g) : Mix w0 W' D ((g, o) :: R) := by
  obtain ⟨hb, S, N, hd, ha, hrr⟩ := h
  refine ⟨hb.trans (hf.mono hb.size), S, N, fun i d hi => ⟨(hd i d hi).1, (hd i d hi).2.1.below hf, (hd i d hi).2.2⟩, ha, fun r h => ?_⟩
  rcases List.mem_cons.1 h with rfl | h
  · exact ⟨hO, fun i d hi q => by have := (hd i d hi).2.1.slt'.1 _ q; omega⟩
  · exact ⟨(hf.block _ (blk_lt (hrr r h).1)).trans (hrr r h).1, (hrr r h).2⟩
theorem Mix.kept {w0 W : World} {D : Nat → Option MSt} {R : List (Nat × Obj)} (h : Mix w0 W D R) {g : Nat} {o : Obj} (hr : (g, o) ∈ R) : W.heap[g]? = some o := by
  obtain ⟨hb, S, N, hd, ha, hrr⟩ := h
  exact (hrr _ hr).1
theorem Mix.blocks {w0 W : World} {D : Nat → Option MSt} {R : List (Nat × Obj)} (h : Mix w0 W D R) {i p n : Nat} {B : List Int} {L : List (Int × List Int)} (hi : D i = some ⟨false, p, n, B, L⟩) :
    Calls Try.prog 26 #[.pointer (some ⟨p, 0, none⟩)] W fun e w' => e = .returned (.int .i64 n) ∧ W = w' := by
  obtain ⟨hb, S, N, hd, ha, hrr⟩ := h
  obtain ⟨ok, dv, hs⟩ := hd i _ hi
  exact dev_blocks dv ok.len ok.nm
theorem Mix.rblocks {w0 W : World} {D : Nat → Option MSt} {R : List (Nat × Obj)} (h : Mix w0 W D R) {i p n : Nat} {B : List Int} {L : List (Int × List Int)} (hi : D i = some ⟨true, p, n, B, L⟩) :
    Calls Try.prog 29 #[.pointer (some ⟨p, 0, none⟩)] W fun e w' => e = .returned (.int .i64 n) ∧ W = w' := by
  obtain ⟨hb, S, N, hd, ha, hrr⟩ := h
  obtain ⟨ok, dv, hs⟩ := hd i _ hi
  exact ref_blocks dv ok.len ok.nm
theorem Mix.waits {w0 W : World} {D : Nat → Option MSt} {R : List (Nat × Obj)} (h : Mix w0 W D R) {i p n : Nat} {B : List Int} {L : List (Int × List Int)} (hi : D i = some ⟨false, p, n, B, L⟩) :
    Calls Try.prog 25 #[.pointer (some ⟨p, 0, none⟩)] W fun e w' => e = .returned (.int .i64 L.length) ∧ W = w' := by
  obtain ⟨hb, S, N, hd, ha, hrr⟩ := h
  obtain ⟨ok, dv, hs⟩ := hd i _ hi
  exact dev_waits dv
theorem Mix.rwaits {w0 W : World} {D : Nat → Option MSt} {R : List (Nat × Obj)} (h : Mix w0 W D R) {i p n : Nat} {B : List Int} {L : List (Int × List Int)} (hi : D i = some ⟨true, p, n, B, L⟩) : ∃ A c, W.cell? ⟨p, 1, none⟩ = some (.slice A L.length c) ∧ L.length ≤ 9223372036854775807 := by
  obtain ⟨hb, S, N, hd, ha, hrr⟩ := h
  obtain ⟨ok, dv, hs⟩ := hd i _ hi
  obtain ⟨gb, cb, vl, h⟩ := dv
  obtain ⟨A, c, rfl, _, hl⟩ := h.lenL
  exact ⟨A, c, cell_of_blk h.cell (j := 1) rfl, hl⟩
theorem Mix.read {w0 W : World} {D : Nat → Option MSt} {R : List (Nat × Obj)} (h : Mix w0 W D R) {i p n : Nat} {B : List Int} {L : List (Int × List Int)} (hi : D i = some ⟨false, p, n, B, L⟩) (hl : L.length < 4294967296) {j : Int} (h0 : 0 ≤ j) (hj : j < n) :
    Calls Try.prog 19 #[.pointer (some ⟨p, 0, none⟩), .int .i64 j] W fun e w' => ∃ g cap, e = .returned (.tuple #[.slice (some ⟨g, 0, none⟩) 64 cap, .int .i64 0]) ∧ W.heap.size ≤ g ∧ 64 ≤ cap ∧ OwnBy w' g cap (rblk B L j) ∧ Below W.heap.size W w' := by
  obtain ⟨hb, S, N, hd, ha, hrr⟩ := h
  obtain ⟨ok, dv, hs⟩ := hd i _ hi
  exact dev_read dv ok.len ok.nm hl (fun x hx => (ok.wait x hx).2.2) h0 hj
theorem Mix.rread {w0 W : World} {D : Nat → Option MSt} {R : List (Nat × Obj)} (h : Mix w0 W D R) {i p n : Nat} {B : List Int} {L : List (Int × List Int)} (hi : D i = some ⟨true, p, n, B, L⟩) (hl : L.length < 4294967296) {j : Int} (h0 : 0 ≤ j) (hj : j < n) :
    Calls Try.prog 20 #[.pointer (some ⟨p, 0, none⟩), .int .i64 j] W fun e w' => ∃ g cap, e = .returned (.tuple #[.slice (some ⟨g, 0, none⟩) 64 cap, .int .i64 0]) ∧ W.heap.size ≤ g ∧ 64 ≤ cap ∧ OwnBy w' g cap (rblk B L j) ∧ Below W.heap.size W w' := by
  obtain ⟨hb, S, N, hd, ha, hrr⟩ := h
  obtain ⟨ok, dv, hs⟩ := hd i _ hi
  exact ref_read dv ok.len ok.nm hl (fun x hx => (ok.wait x hx).2.2) h0 hj
theorem Mix.read_bad {w0 W : World} {D : Nat → Option MSt} {R : List (Nat × Obj)} (h : Mix w0 W D R) {i p n : Nat} {B : List Int} {L : List (Int × List Int)} (hi : D i = some ⟨false, p, n, B, L⟩) {j : Int} (hj : ¬ (0 ≤ j ∧ j < n)) :
    Calls Try.prog 19 #[.pointer (some ⟨p, 0, none⟩), .int .i64 j] W fun e w' => e = .returned (.tuple #[.slice none 0 0, .int .i64 1]) ∧ Below W.heap.size W w' := by
  obtain ⟨hb, S, N, hd, ha, hrr⟩ := h
  obtain ⟨ok, dv, hs⟩ := hd i _ hi
  exact dev_read_bad dv ok.len ok.nm hj
theorem Mix.rread_bad {w0 W : World} {D : Nat → Option MSt} {R : List (Nat × Obj)} (h : Mix w0 W D R) {i p n : Nat} {B : List Int} {L : List (Int × List Int)} (hi : D i = some ⟨true, p, n, B, L⟩) {j : Int} (hj : ¬ (0 ≤ j ∧ j < n)) :
    Calls Try.prog 20 #[.pointer (some ⟨p, 0, none⟩), .int .i64 j] W fun e w' => e = .returned (.tuple #[.slice none 0 0, .int .i64 1]) ∧ Below W.heap.size W w' := by
  obtain ⟨hb, S, N, hd, ha, hrr⟩ := h
  obtain ⟨ok, dv, hs⟩ := hd i _ hi
  refine (ref_read_bad dv ok.len ok.nm hj).mono ?_
  rintro e w' ⟨rfl, rfl⟩
  exact ⟨rfl, Below.refl _ _⟩
theorem Mix.write {w0 W : World} {D : Nat → Option MSt} {R : List (Nat × Obj)} (h : Mix w0 W D R) {i p n : Nat} {B : List Int} {L : List (Int × List Int)} (hi : D i = some ⟨false, p, n, B, L⟩) (hl : L.length < 4294967296) {j : Int} (h0 : 0 ≤ j) (hj : j < n) {A : Option Addr} {c : Nat} {bs : List Int} (hr : Kd.C (Kd.int .u8) W A bs.length bs) (hc : bs.length ≤ c) (h64 : bs.length = 64) :
    Calls Try.prog 11 #[.pointer (some ⟨p, 0, none⟩), .int .i64 j, .slice A bs.length c] W fun e w' => e = .returned (.int .i64 0) ∧ Mix w0 w' (updM D i ⟨false, p, n, B, L ++ [(j, bs)]⟩) R := by
  obtain ⟨hb, S, N, hd, ha, hrr⟩ := h
  obtain ⟨ok, dv, hs⟩ := hd i _ hi
  have ok' : (MSt.mk false p n B (L ++ [(j, bs)])).Ok := ⟨ok.len, ok.n4, ok.nm, fun x hx => by
    rcases List.mem_append.1 hx with hx | hx
    · exact ok.wait x hx
    · obtain rfl : x = (j, bs) := by simpa using hx
      exact ⟨h0, hj, h64⟩⟩
  refine (dev_write dv ok.len ok.nm hl h0 hj hr hc h64).mono ?_
  rintro e w' ⟨rfl, ht⟩
  exact ⟨rfl, Mix.turn1 hb hi ⟨S, N, hd, ha, hrr, ht⟩ ok'⟩
theorem Mix.rwrite {w0 W : World} {D : Nat → Option MSt} {R : List (Nat × Obj)} (h : Mix w0 W D R) {i p n : Nat} {B : List Int} {L : List (Int × List Int)} (hi : D i = some ⟨true, p, n, B, L⟩) (hl : L.length < 4294967296) {j : Int} (h0 : 0 ≤ j) (hj : j < n) {A : Option Addr} {c : Nat} {bs : List Int} (hr : Kd.C (Kd.int .u8) W A bs.length bs) (hc : bs.length ≤ c) (h64 : bs.length = 64) :
    Calls Try.prog 12 #[.pointer (some ⟨p, 0, none⟩), .int .i64 j, .slice A bs.length c] W fun e w' => e = .returned (.int .i64 0) ∧ Mix w0 w' (updM D i ⟨true, p, n, B, L ++ [(j, bs)]⟩) R := by
  obtain ⟨hb, S, N, hd, ha, hrr⟩ := h
  obtain ⟨ok, dv, hs⟩ := hd i _ hi
  have ok' : (MSt.mk true p n B (L ++ [(j, bs)])).Ok := ⟨ok.len, ok.n4, ok.nm, fun x hx => by
    rcases List.mem_append.1 hx with hx | hx
    · exact ok.wait x hx
    · obtain rfl : x = (j, bs) := by simpa using hx
      exact ⟨h0, hj, h64⟩⟩
  refine (ref_write dv ok.len ok.nm hl h0 hj hr hc h64).mono ?_
  rintro e w' ⟨rfl, ht⟩
  exact ⟨rfl, Mix.turn1 hb hi ⟨S, N, hd, ha, hrr, ht⟩ ok'⟩
theorem Mix.write_bad {w0 W : World} {D : Nat → Option MSt} {R : List (Nat × Obj)} (h : Mix w0 W D R) {i p n : Nat} {B : List Int} {L : List (Int × List Int)} (hi : D i = some ⟨false, p, n, B, L⟩) {j : Int} {A : Option Addr} {l c : Nat} (hl : l ≤ 9223372036854775807) (hbb : ¬ (0 ≤ j ∧ j < n) ∨ l ≠ 64) :
    Calls Try.prog 11 #[.pointer (some ⟨p, 0, none⟩), .int .i64 j, .slice A l c] W fun e w' => e = .returned (.int .i64 1) ∧ W = w' := by
  obtain ⟨hb, S, N, hd, ha, hrr⟩ := h
  obtain ⟨ok, dv, hs⟩ := hd i _ hi
  exact dev_write_bad dv ok.len ok.nm hl hbb
theorem Mix.rwrite_bad {w0 W : World} {D : Nat → Option MSt} {R : List (Nat × Obj)} (h : Mix w0 W D R) {i p n : Nat} {B : List Int} {L : List (Int × List Int)} (hi : D i = some ⟨true, p, n, B, L⟩) {j : Int} {A : Option Addr} {l c : Nat} (hl : l ≤ 9223372036854775807) (hbb : ¬ (0 ≤ j ∧ j < n) ∨ l ≠ 64) :
    Calls Try.prog 12 #[.pointer (some ⟨p, 0, none⟩), .int .i64 j, .slice A l c] W fun e w' => e = .returned (.int .i64 1) ∧ W = w' := by
  obtain ⟨hb, S, N, hd, ha, hrr⟩ := h
  obtain ⟨ok, dv, hs⟩ := hd i _ hi
  exact ref_write_bad dv ok.len ok.nm hl hbb
theorem Mix.sync {w0 W : World} {D : Nat → Option MSt} {R : List (Nat × Obj)} (h : Mix w0 W D R) {i p n : Nat} {B : List Int} {L : List (Int × List Int)} (hi : D i = some ⟨false, p, n, B, L⟩) :
    Calls Try.prog 13 #[.pointer (some ⟨p, 0, none⟩)] W fun e w' => e = .returned (.tuple #[]) ∧ Mix w0 w' (updM D i ⟨false, p, n, aft (fun _ => true) L B L.length, []⟩) R := by
  obtain ⟨hb, S, N, hd, ha, hrr⟩ := h
  obtain ⟨ok, dv, hs⟩ := hd i _ hi
  refine (dev_sync dv ok.len ok.nm ok.wait).mono ?_
  rintro e w' ⟨rfl, ht⟩
  exact ⟨rfl, Mix.turn1 hb hi ⟨S, N, hd, ha, hrr, ht⟩ ⟨aft_length ok.len ok.wait _, ok.n4, ok.nm, fun x hx => by cases hx⟩⟩
theorem Mix.rsync {w0 W : World} {D : Nat → Option MSt} {R : List (Nat × Obj)} (h : Mix w0 W D R) {i p n : Nat} {B : List Int} {L : List (Int × List Int)} (hi : D i = some ⟨true, p, n, B, L⟩) :
    Calls Try.prog 14 #[.pointer (some ⟨p, 0, none⟩)] W fun e w' => e = .returned (.tuple #[]) ∧ Mix w0 w' (updM D i ⟨true, p, n, aft (fun _ => true) L B L.length, []⟩) R := by
  obtain ⟨hb, S, N, hd, ha, hrr⟩ := h
  obtain ⟨ok, dv, hs⟩ := hd i _ hi
  refine (ref_sync dv ok.len ok.n4 ok.nm ok.wait).mono ?_
  rintro e w' ⟨rfl, ht⟩
  exact ⟨rfl, Mix.turn1 hb hi ⟨S, N, hd, ha, hrr, ht⟩ ⟨aft_length ok.len ok.wait _, ok.n4, ok.nm, fun x hx => by cases hx⟩⟩
theorem Mix.crash {w0 W : World} {D : Nat → Option MSt} {R : List (Nat × Obj)} (h : Mix w0 W D R) {i p n : Nat} {B : List Int} {L : List (Int × List Int)} (hi : D i = some ⟨false, p, n, B, L⟩) (hl : L.length < 4294967296) {A : Option Addr} {c : Nat} {ks : List Bool} (hr : Kd.C Kd.bool w0 A ks.length ks) :
    Calls Try.prog 15 #[.pointer (some ⟨p, 0, none⟩), .slice A ks.length c] W fun e w' => e = .returned (.tuple #[]) ∧ Mix w0 w' (updM D i ⟨false, p, n, aft (fun k => ks.getD k false) L B L.length, []⟩) R := by
  obtain ⟨hb, S, N, hd, ha, hrr⟩ := h
  obtain ⟨ok, dv, hs⟩ := hd i _ hi
  refine (dev_crash dv ok.len ok.nm ok.wait (C_later_bool hr hb) (fun a e h0 => ⟨fun hk => by have := hs _ hk; have := C_lt_bool hr a e h0; omega, Nat.lt_of_lt_of_le (C_lt_bool hr a e h0) hb.size⟩)).mono ?_
  rintro e w' ⟨rfl, ht⟩
  exact ⟨rfl, Mix.turn1 hb hi ⟨S, N, hd, ha, hrr, ht⟩ ⟨aft_length ok.len ok.wait _, ok.n4, ok.nm, fun x hx => by cases hx⟩⟩
theorem Mix.rcrash {w0 W : World} {D : Nat → Option MSt} {R : List (Nat × Obj)} (h : Mix w0 W D R) {i p n : Nat} {B : List Int} {L : List (Int × List Int)} (hi : D i = some ⟨true, p, n, B, L⟩) (hl : L.length < 4294967296) {A : Option Addr} {c : Nat} {ks : List Bool} (hr : Kd.C Kd.bool w0 A ks.length ks) :
    Calls Try.prog 16 #[.pointer (some ⟨p, 0, none⟩), .slice A ks.length c] W fun e w' => e = .returned (.tuple #[]) ∧ Mix w0 w' (updM D i ⟨true, p, n, aft (fun k => ks.getD k false) L B L.length, []⟩) R := by
  obtain ⟨hb, S, N, hd, ha, hrr⟩ := h
  obtain ⟨ok, dv, hs⟩ := hd i _ hi
  refine (ref_crash dv ok.len ok.n4 ok.nm ok.wait hl (C_later_bool hr hb)).mono ?_
  rintro e w' ⟨rfl, ht⟩
  exact ⟨rfl, Mix.turn1 hb hi ⟨S, N, hd, ha, hrr, ht⟩ ⟨aft_length ok.len ok.wait _, ok.n4, ok.nm, fun x hx => by cases hx⟩⟩
theorem Mix.twin {w0 W : World} {D : Nat → Option MSt} {R : List (Nat × Obj)} (h : Mix w0 W D R) {i p n : Nat} {B : List Int} {L : List (Int × List Int)} (hi : D i = some ⟨false, p, n, B, L⟩) (hl : L.length < 4294967296) (j : Nat) (hj : D j = none) :
    Calls Try.prog 17 #[.pointer (some ⟨p, 0, none⟩)] W fun e w' => ∃ p2, e = .returned (.pointer (some ⟨p2, 0, none⟩)) ∧ Mix w0 w' (updM D j ⟨false, p2, n, B, L⟩) R := by
  obtain ⟨hb, S, N, hd, ha, hrr⟩ := h
  obtain ⟨ok, dv, hs⟩ := hd i _ hi
  refine (dev_twin dv ok.len ok.n4 ok.nm hl).mono ?_
  rintro e w' ⟨p2, rfl, hN⟩
  refine ⟨p2, rfl, Mix.more (d := ⟨false, p2, n, B, L⟩) hb hd ha hrr hj (fun l f hl k hk => ?_) hN ⟨ok.len, ok.n4, ok.nm, ok.wait⟩⟩
  by_cases e : l = i
  · subst e
    rw [hi] at hl
    obtain rfl := Option.some.inj hl
    exact dv.slt'.2.2 k hk
  · exact (ha l i f _ e hl hi k hk).2
theorem Mix.rtwin {w0 W : World} {D : Nat → Option MSt} {R : List (Nat × Obj)} (h : Mix w0 W D R) {i p n : Nat} {B : List Int} {L : List (Int × List Int)} (hi : D i = some ⟨true, p, n, B, L⟩) (hl : L.length < 4294967296) (j : Nat) (hj : D j = none) :
    Calls Try.prog 34 #[.pointer (some ⟨p, 0, none⟩)] W fun e w' => ∃ p2, e = .returned (.pointer (some ⟨p2, 0, none⟩)) ∧ Mix w0 w' (updM D j ⟨true, p2, n, B, L⟩) R := by
  obtain ⟨hb, S, N, hd, ha, hrr⟩ := h
  obtain ⟨ok, dv, hs⟩ := hd i _ hi
  refine (ref_twin dv ok.len ok.n4 ok.nm hl).mono ?_
  rintro e w' ⟨p2, rfl, hN⟩
  refine ⟨p2, rfl, Mix.more (d := ⟨true, p2, n, B, L⟩) hb hd ha hrr hj (fun l f hl k hk => ?_) hN ⟨ok.len, ok.n4, ok.nm, ok.wait⟩⟩
  by_cases e : l = i
  · subst e
    rw [hi] at hl
    obtain rfl := Option.some.inj hl
    exact dv.slt'.2.2 k hk
  · exact (ha l i f _ e hl hi k hk).2
theorem Mix.bytes {w0 W : World} {D : Nat → Option MSt} {R : List (Nat × Obj)} (h : Mix w0 W D R) {i p n : Nat} {B : List Int} {L : List (Int × List Int)} (hi : D i = some ⟨false, p, n, B, L⟩) (hl : L.length < 4294967296) :
    Calls Try.prog 24 #[.pointer (some ⟨p, 0, none⟩)] W fun e w' => ∃ g cap, e = .returned (.slice (some ⟨g, 0, none⟩) (aft (fun _ => true) L B L.length).length cap) ∧ (aft (fun _ => true) L B L.length).length ≤ cap ∧ W.heap.size ≤ g ∧ OwnBy w' g cap (aft (fun _ => true) L B L.length) ∧ Below W.heap.size W w' := by
  obtain ⟨hb, S, N, hd, ha, hrr⟩ := h
  obtain ⟨ok, dv, hs⟩ := hd i _ hi
  refine (dev_bytes dv ok.len ok.n4 ok.nm hl ok.wait).mono ?_
  rintro e w' ⟨g, cap, h1, h2, h3, h4, h5⟩
  exact ⟨g, cap, h1, h2, h3, h4, h5.to_below⟩
theorem Mix.rbytes {w0 W : World} {D : Nat → Option MSt} {R : List (Nat × Obj)} (h : Mix w0 W D R) {i p n : Nat} {B : List Int} {L : List (Int × List Int)} (hi : D i = some ⟨true, p, n, B, L⟩) (hl : L.length < 4294967296) :
    Calls Try.prog 32 #[.pointer (some ⟨p, 0, none⟩)] W fun e w' => ∃ g cap, e = .returned (.slice (some ⟨g, 0, none⟩) (aft (fun _ => true) L B L.length).length cap) ∧ (aft (fun _ => true) L B L.length).length ≤ cap ∧ W.heap.size ≤ g ∧ OwnBy w' g cap (aft (fun _ => true) L B L.length) ∧ Below W.heap.size W w' := by
  obtain ⟨hb, S, N, hd, ha, hrr⟩ := h
  obtain ⟨ok, dv, hs⟩ := hd i _ hi
  refine (ref_bytes dv ok.len ok.n4 ok.nm hl ok.wait).mono ?_
  rintro e w' ⟨g, cap, h1, h2, h3, h4, h5⟩
  exact ⟨g, cap, h1, h2, h3, h4, h5.to_below⟩
theorem Mix.new {w0 W : World} {D : Nat → Option MSt} {R : List (Nat × Obj)} (h : Mix w0 W D R) (i : Nat) (hi : D i = none) {n : Nat} (h4 : 4 ≤ n) (hm : n ≤ 1024) :
    Calls Try.prog 9 #[.int .i64 n] W fun e w' => ∃ p, e = .returned (.tuple #[.pointer (some ⟨p, 0, none⟩), .int .i64 0]) ∧ Mix w0 w' (updM D i ⟨false, p, n, List.replicate (n * 64) 0, []⟩) R := by
  obtain ⟨hb, S, N, hd, ha, hrr⟩ := h
  refine (dev_new h4 hm).mono ?_
  rintro e w' ⟨p, rfl, hN⟩
  exact ⟨p, rfl, Mix.more (d := ⟨false, p, n, _, _⟩) hb hd ha hrr hi (fun _ _ _ _ _ h => h) hN ⟨List.length_replicate, h4, hm, fun x hx => by cases hx⟩⟩
theorem Mix.rnew {w0 W : World} {D : Nat → Option MSt} {R : List (Nat × Obj)} (h : Mix w0 W D R) (i : Nat) (hi : D i = none) {n : Nat} (h4 : 4 ≤ n) (hm : n ≤ 1024) :
    Calls Try.prog 10 #[.int .i64 n] W fun e w' => ∃ p, e = .returned (.tuple #[.pointer (some ⟨p, 0, none⟩), .int .i64 0]) ∧ Mix w0 w' (updM D i ⟨true, p, n, List.replicate (n * 64) 0, []⟩) R := by
  obtain ⟨hb, S, N, hd, ha, hrr⟩ := h
  refine (ref_new h4 hm).mono ?_
  rintro e w' ⟨p, rfl, hN⟩
  exact ⟨p, rfl, Mix.more (d := ⟨true, p, n, _, _⟩) hb hd ha hrr hi (fun _ _ _ _ _ h => h) hN ⟨List.length_replicate, h4, hm, fun x hx => by cases hx⟩⟩
theorem Mix.of {w0 W : World} {D : Nat → Option MSt} {R : List (Nat × Obj)} (h : Mix w0 W D R) (i : Nat) (hi : D i = none) {A : Option Addr} {c n : Nat} {bs : List Int} (hr : Kd.C (Kd.int .u8) W A bs.length bs) (hc : bs.length ≤ c) (hn : bs.length = n * 64) (h4 : 4 ≤ n) (hm : n ≤ 1024) :
    Calls Try.prog 22 #[.slice A bs.length c] W fun e w' => ∃ p, e = .returned (.tuple #[.pointer (some ⟨p, 0, none⟩), .int .i64 0]) ∧ Mix w0 w' (updM D i ⟨false, p, n, bs, []⟩) R := by
  obtain ⟨hb, S, N, hd, ha, hrr⟩ := h
  refine (dev_of hr hc hn h4 hm).mono ?_
  rintro e w' ⟨p, rfl, hN⟩
  exact ⟨p, rfl, Mix.more (d := ⟨false, p, n, _, _⟩) hb hd ha hrr hi (fun _ _ _ _ _ h => h) hN ⟨hn, h4, hm, fun x hx => by cases hx⟩⟩
theorem Mix.rof {w0 W : World} {D : Nat → Option MSt} {R : List (Nat × Obj)} (h : Mix w0 W D R) (i : Nat) (hi : D i = none) {A : Option Addr} {c n : Nat} {bs : List Int} (hr : Kd.C (Kd.int .u8) W A bs.length bs) (hc : bs.length ≤ c) (hn : bs.length = n * 64) (h4 : 4 ≤ n) (hm : n ≤ 1024) :
    Calls Try.prog 23 #[.slice A bs.length c] W fun e w' => ∃ p, e = .returned (.tuple #[.pointer (some ⟨p, 0, none⟩), .int .i64 0]) ∧ Mix w0 w' (updM D i ⟨true, p, n, bs, []⟩) R := by
  obtain ⟨hb, S, N, hd, ha, hrr⟩ := h
  refine (ref_of hr hc hn h4 hm).mono ?_
  rintro e w' ⟨p, rfl, hN⟩
  exact ⟨p, rfl, Mix.more (d := ⟨true, p, n, _, _⟩) hb hd ha hrr hi (fun _ _ _ _ _ h => h) hN ⟨hn, h4, hm, fun x hx => by cases hx⟩⟩
theorem Mix.under {w0 W : World} {D : Nat → Option MSt} {R : List (Nat × Obj)} (h : Mix w0 W D R) : Below w0.heap.size w0 W := h.1
theorem Mix.ok {w0 W : World} {D : Nat → Option MSt} {R : List (Nat × Obj)} (h : Mix w0 W D R) {i : Nat} {d : MSt} (hi : D i = some d) : d.Ok := by
  obtain ⟨hb, S, N, hd, _⟩ := h
  exact (hd i d hi).1
theorem Mix.pack {w0 W : World} {D : Nat → Option MSt} {R : List (Nat × Obj)} (h : Mix w0 W D R) : ∃ Dx Rx, Dx = D ∧ Rx = R ∧ Mix w0 W Dx Rx := ⟨D, R, rfl, rfl, h⟩
theorem updM_self {D : Nat → Option MSt} {i : Nat} {d : MSt} (h : D i = some d) : updM D i d = D := by
  funext j
  unfold updM
  split
  · rename_i e
    rw [e]; exact h.symm
  · rfl
/-- Two of them, and no other. -/
theorem Mix.two {w0 W : World} {D : Nat → Option MSt} {R : List (Nat × Obj)} (h : Mix w0 W D R) {i j : Nat} {a b : MSt} (hij : i ≠ j) (hi : D i = some a) (hj : D j = some b) : Mix w0 W (updM (updM noMix 0 a) 1 b) R := by
  obtain ⟨hb, S, N, hd, ha, hrr⟩ := h
  have key : ∀ q d, updM (updM noMix 0 a) 1 b q = some d → (q = 0 ∧ d = a) ∨ (q = 1 ∧ d = b) := by
    intro q d hq
    unfold updM at hq
    by_cases h1 : q = 1
    · rw [if_pos h1] at hq
      exact .inr ⟨h1, (Option.some.inj hq).symm⟩
    · rw [if_neg h1] at hq
      by_cases h0 : q = 0
      · rw [if_pos h0] at hq
        exact .inl ⟨h0, (Option.some.inj hq).symm⟩
      · rw [if_neg h0] at hq
        simp [noMix] at hq
  refine ⟨hb, fun q => if q = 0 then S i else S j, fun q => if q = 0 then N i else N j, fun q d hq => ?_, fun q r d e hqr hq hr k hk => ?_, fun r hr => ⟨(hrr r hr).1, fun q d hq => ?_⟩⟩
  · rcases key q d hq with ⟨rfl, rfl⟩ | ⟨rfl, rfl⟩
    · exact hd i _ hi
    · exact hd j _ hj
  · rcases key q d hq with ⟨rfl, rfl⟩ | ⟨rfl, rfl⟩ <;> rcases key r e hr with ⟨rfl, rfl⟩ | ⟨rfl, rfl⟩
    · exact absurd rfl hqr
    · exact ha i j _ _ hij hi hj k hk
    · exact ha j i _ _ (Ne.symm hij) hj hi k hk
    · exact absurd rfl hqr
  · rcases key q d hq with ⟨rfl, rfl⟩ | ⟨rfl, rfl⟩
    · exact (hrr r hr).2 i _ hi
    · exact (hrr r hr).2 j _ hj
end Go.Proofs.Ytkpfhlfbhceebaa.PAll
