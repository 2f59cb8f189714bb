/- Devices side by side, and what each call does to them. -/
import Derived.Test.YtkpfhlfbhceebaaDProg4
import Derived.Test.YtkpfhlfbhceebaaDRead2
namespace Go.Proofs.Ytkpfhlfbhceebaa.PAll
open Go.Proofs.Ytkpfhlfbhceebaa.Help
open Go.RowKit Go.Proofs.YtkpfhlfbhceebaaW.PrintWords Go.Proofs.YtkpfhlfbhceebaaW.PrintLast Go.Proofs.YtkpfhlfbhceebaaW.PrintMore
set_option linter.unusedVariables false
set_option linter.unusedSimpArgs false
/-- A device: where it lies, how many blocks, its bytes, what waits. -/
structure DSt where
  p : Nat
  n : Nat
  B : List Int
  L : List (Int × List Int)
structure DSt.Ok (d : DSt) : Prop where
  len : d.B.length = d.n * 64
  n4 : 4 ≤ d.n
  nm : d.n ≤ 1024
  wait : Waits d.n d.L
def upd (D : Nat → Option DSt) (i : Nat) (d : DSt) : Nat → Option DSt := fun j => if j = i then some d else D j
theorem upd_same (D : Nat → Option DSt) (i : Nat) (d : DSt) : upd D i d i = some d := if_pos rfl
theorem upd_other (D : Nat → Option DSt) {i j : Nat} (d : DSt) (h : j ≠ i) : upd D i d j = D j := if_neg h
def noDev : Nat → Option DSt := fun _ => none
abbrev DevP := Dev 62 65
/-- A row of bytes that is kept: its block, its room, what it holds. -/
abbrev Kept3 := Nat × Nat × List Int
/-- The devices D, side by side, and rows of bytes R beside them; nothing that lay in w0 has turned. -/
def Devs (w0 W : World) (D : Nat → Option DSt) (R : List Kept3) : Prop :=
  Below w0.heap.size w0 W ∧ ∃ S N : Nat → Nat → Prop, (∀ i d, D i = some d → d.Ok ∧ DevP W (S i) (N i) d.p d.B d.L ∧ (∀ k, S i k → w0.heap.size ≤ k)) ∧
    (∀ i j d e, i ≠ j → D i = some d → D j = some e → ∀ k, S i k → ¬ S j k ∧ ¬ N j k) ∧ ∀ r ∈ R, OwnBy W r.1 r.2.1 r.2.2 ∧ ∀ i d, D i = some d → ¬ S i r.1
theorem Devs.none_ {w0 W : World} (h : Below w0.heap.size w0 W) : Devs w0 W noDev [] := ⟨h, fun _ _ => False, fun _ _ => False, ⟨fun i d h => by simp [noDev] at h, ⟨fun i j d e _ h => by simp [noDev] at h, fun r h => by cases h⟩⟩⟩
theorem Devs.below {w0 W W' : World} {D : Nat → Option DSt} {R : List Kept3} (h : Devs w0 W D R) (hf : Below W.heap.size W W') : Devs w0 W' D R := by
  obtain ⟨hb, S, N, hd, ha, hr⟩ := h
  exact ⟨hb.trans (hf.mono hb.size), S, N, fun i d hi => ⟨(hd i d hi).1, (hd i d hi).2.1.below hf, (hd i d hi).2.2⟩, ha, fun r h => ⟨(hr r h).1.same (hf.block _ (hr r h).1.lt), (hr r h).2⟩⟩
theorem Fr.to_below {w w' : World} (h : Fr (fun _ => False) w w') : Below w.heap.size w w' := ⟨h.os, h.tape, h.output, h.size, fun k hk => h.block k hk (fun h => h)⟩
theorem Dev.slt' {TD TW : Nat} {w : World} {S N : Nat → Prop} {p : Nat} {B : List Int} {L : List (Int × List Int)} (h : Dev TD TW w S N p B L) : (∀ k, S k → k < w.heap.size) ∧ (∀ k, N k → k < w.heap.size) ∧ (∀ k, S k → ¬ N k) := by
  obtain ⟨gb, cb, vl, h⟩ := h
  exact ⟨h.slt, h.nlt, h.ns⟩
/-- A call turns one of them. -/
theorem Devs.turn1 {w0 W W' : World} {D : Nat → Option DSt} {R : List Kept3} {i : Nat} {d : DSt} {B' : List Int} {L' : List (Int × List Int)} (hb : Below w0.heap.size w0 W) (hi : D i = some d)
    (ht : ∃ S N : Nat → Nat → Prop, (∀ i d, D i = some d → d.Ok ∧ DevP W (S i) (N i) d.p d.B d.L ∧ (∀ k, S i k → w0.heap.size ≤ k)) ∧ (∀ i j d e, i ≠ j → D i = some d → D j = some e → ∀ k, S i k → ¬ S j k ∧ ¬ N j k) ∧ (∀ r ∈ R, OwnBy W r.1 r.2.1 r.2.2 ∧ ∀ i d, D i = some d → ¬ S i r.1) ∧ DevTo 62 65 W W' (S i) (N i) d.p B' L') (hok : (DSt.mk d.p d.n B' L').Ok) : Devs w0 W' (upd D i ⟨d.p, d.n, B', L'⟩) R := by
  obtain ⟨S, N, hd, ha, hrr, S', N', h1, h2, h3, h4⟩ := ht
  obtain ⟨hok0, hdv, hs0⟩ := hd i d hi
  have hbs := hb.size
  refine ⟨⟨h2.os.trans hb.os, h2.tape.trans hb.tape, h2.output.trans hb.output, Nat.le_trans hb.size h2.size, fun k hk => (h2.block k (by omega) (fun hs => by have := hs0 k hs; omega)).trans (hb.block k hk)⟩,
    fun j => if j = i then S' else S j, fun j => if j = i then N' else N j, fun j e hj => ?_, fun j l e f hjl hj hl k hk => ?_, fun r hr => ?_⟩
  · by_cases hji : j = i
    · subst hji
      rw [upd_same] at hj
      obtain rfl := Option.some.inj hj
      simp only [if_pos]
      exact ⟨hok, h1, fun k hk => by
        rcases h3 k hk with hk | hk
        · exact hs0 k hk
        · omega⟩
    · rw [upd_other _ _ hji] at hj
      simp only [if_neg hji]
      obtain ⟨e1, e2, e3⟩ := hd j e hj
      exact ⟨e1, e2.keep h2 (fun k hk => ha i j d e (Ne.symm hji) hi hj k hk), e3⟩
  · by_cases hji : j = i
    · subst hji
      rw [upd_other _ _ (Ne.symm hjl)] at hl
      simp only [if_pos, if_neg (Ne.symm hjl)] at hk ⊢
      obtain ⟨l1, l2, l3⟩ := (hd l f hl).2.1.slt'
      rcases h3 k hk with hk | hk
      · exact ha j l d f hjl hi hl k hk
      · exact ⟨fun q => by have := l1 k q; omega, fun q => by have := l2 k q; omega⟩
    · rw [upd_other _ _ hji] at hj
      simp only [if_neg hji] at hk
      obtain ⟨j1, j2, j3⟩ := (hd j e hj).2.1.slt'
      have hkW := j1 k hk
      by_cases hli : l = i
      · subst hli
        simp only [if_pos]
        have := ha j l e d hji hj hi k hk
        exact ⟨fun q => (h3 k q).elim this.1 (fun q => by omega), fun q => (h4 k q).elim this.2 (fun q => by omega)⟩
      · rw [upd_other _ _ hli] at hl
        simp only [if_neg hli]
        exact ha j l e f hjl hj hl k hk
  · obtain ⟨r1, r2⟩ := hrr r hr
    refine ⟨r1.same (h2.block _ r1.lt (r2 i d hi)), fun j e hj => ?_⟩
    by_cases hji : j = i
    · subst hji
      simp only [if_pos]
      exact fun q => (h3 _ q).elim (r2 j d hi) (fun q => by have := r1.lt; omega)
    · rw [upd_other _ _ hji] at hj
      simp only [if_neg hji]
      exact r2 j e hj
/-- One more device. -/
theorem Devs.more {w0 W W' : World} {D : Nat → Option DSt} {R : List Kept3} {i : Nat} {d : DSt} {S N : Nat → Nat → Prop} (hb : Below w0.heap.size w0 W) (hd : ∀ i d, D i = some d → d.Ok ∧ DevP W (S i) (N i) d.p d.B d.L ∧ (∀ k, S i k → w0.heap.size ≤ k))
    (ha : ∀ i j d e, i ≠ j → D i = some d → D j = some e → ∀ k, S i k → ¬ S j k ∧ ¬ N j k) (hrr : ∀ r ∈ R, OwnBy W r.1 r.2.1 r.2.2 ∧ ∀ i d, D i = some d → ¬ S i r.1) (hi : D i = none) {N0 : Nat → Prop} (hN0 : ∀ j e, D j = some e → ∀ k, S j k → ¬ N0 k)
    (ht : DevNew 62 65 W W' N0 d.p d.B d.L) (hok : d.Ok) : Devs w0 W' (upd D i d) R := by
  obtain ⟨S', N', h1, h2, h3, h4⟩ := ht
  have hbs := hb.size
  refine ⟨hb.trans (h2.to_below.mono hb.size), fun j => if j = i then S' else S j, fun j => if j = i then N' else N j, fun j e hj => ?_, fun j l e f hjl hj hl k hk => ?_, fun r hr => ?_⟩
  · by_cases hji : j = i
    · subst hji
      rw [upd_same] at hj
      obtain rfl := Option.some.inj hj
      simp only [if_pos]
      exact ⟨hok, h1, fun k hk => by have := h3 k hk; omega⟩
    · rw [upd_other _ _ hji] at hj
      simp only [if_neg hji]
      obtain ⟨e1, e2, e3⟩ := hd j e hj
      exact ⟨e1, e2.below h2.to_below, e3⟩
  · by_cases hji : j = i
    · subst hji
      rw [upd_other _ _ (Ne.symm hjl)] at hl
      simp only [if_pos, if_neg (Ne.symm hjl)] at hk ⊢
      obtain ⟨l1, l2, l3⟩ := (hd l f hl).2.1.slt'
      have := h3 k hk
      exact ⟨fun q => by have := l1 k q; omega, fun q => by have := l2 k q; omega⟩
    · rw [upd_other _ _ hji] at hj
      simp only [if_neg hji] at hk
      obtain ⟨j1, j2, j3⟩ := (hd j e hj).2.1.slt'
      have hkW := j1 k hk
      by_cases hli : l = i
      · subst hli
        simp only [if_pos]
        exact ⟨fun q => by have := h3 k q; omega, fun q => (h4 k q).elim (hN0 j e hj k hk) (fun q => by omega)⟩
      · rw [upd_other _ _ hli] at hl
        simp only [if_neg hli]
        exact ha j l e f hjl hj hl k hk
  · obtain ⟨r1, r2⟩ := hrr r hr
    refine ⟨r1.same (h2.to_below.block _ r1.lt), fun j e hj => ?_⟩
    by_cases hji : j = i
    · subst hji
      simp only [if_pos]
      exact fun q => by have := r1.lt; have := h3 _ q; omega
    · rw [upd_other _ _ hji] at hj
      simp only [if_neg hji]
      exact r2 j e hj
/-- A row that is new is kept. -/
theorem Devs.row {w0 W W' : World} {D : Nat → Option DSt} {R : List Kept3} (h : Devs w0 W D R) (hf : Below W.heap.size W W') {g cap : Nat} {bs : List Int} (hO : OwnBy W' g cap bs) (hg : W.heap.size ≤ g) : Devs w0 W' D ((g, cap, bs) :: R) := by
  obtain ⟨hb, S, N, hd, ha, hrr⟩ := h
  refine ⟨hb.trans (hf.mono hb.size), S, N, fun i d hi => ⟨(hd i d hi).1, (hd i d hi).2.1.below hf, (hd i d hi).2.2⟩, ha, fun r h => ?_⟩
  rcases List.mem_cons.1 h with rfl | h
  · exact ⟨hO, fun i d hi q => by have := (hd i d hi).2.1.slt'.1 _ q; omega⟩
  · exact ⟨(hrr r h).1.same (hf.block _ (hrr r h).1.lt), (hrr r h).2⟩
theorem Devs.kept {w0 W : World} {D : Nat → Option DSt} {R : List Kept3} (h : Devs w0 W D R) {g cap : Nat} {bs : List Int} (hr : (g, cap, bs) ∈ R) : OwnBy W g cap bs := by
  obtain ⟨hb, S, N, hd, ha, hrr⟩ := h
  exact (hrr _ hr).1
/-- Such a row, as a string. -/
theorem OwnBy.str {w : World} {g cap : Nat} {bs : List Int} (h : OwnBy w g cap bs) : (convert 31 9 (.slice (some ⟨g, 0, none⟩) bs.length cap)).run Try.prog w = .ok (.string (strOfNums bs)) w :=
  Kd.C_string Try.underlying31 Try.underlying5 Try.underlying9 h.reads
theorem full_val (c : Int) : norialaw12_Full.f 65 c = some (List.replicate 64 c) := by kernel_rfl
theorem full_ok {W : World} (c : Int) : Calls Try.prog 18 #[.int .u8 c] W fun e w' => ∃ g cap, e = .returned (.slice (some ⟨g, 0, none⟩) 64 cap) ∧ W.heap.size ≤ g ∧ 64 ≤ cap ∧ OwnBy w' g cap (List.replicate 64 c) ∧ Below W.heap.size W w' := by
  refine (norialaw12_Full.calls 65 c _ W (full_val c)).mono ?_
  rintro e w' ⟨v, rfl, hR, hB⟩
  obtain ⟨g, cap, rfl, h1, h2, h3⟩ := own_form hR (by simp)
  rw [List.length_replicate] at *
  exact ⟨g, cap, rfl, h1, h2, h3, hB⟩
theorem Devs.new {w0 W : World} {D : Nat → Option DSt} {R : List Kept3} (h : Devs w0 W D R) (i : Nat) (hi : D i = none) {n : Nat} (h4 : 4 ≤ n) (hm : n ≤ 1024) :
    Calls Try.prog 9 #[.int .i64 n] W fun e w' => ∃ p, e = .returned (.tuple #[.pointer (some ⟨p, 0, none⟩), .int .i64 0]) ∧ Devs w0 w' (upd D i ⟨p, n, List.replicate (n * 64) 0, []⟩) R := by
  obtain ⟨hb, S, N, hd, ha, hrr⟩ := h
  refine (dev_new h4 hm).mono ?_
  rintro e w' ⟨p, rfl, hN⟩
  exact ⟨p, rfl, Devs.more (d := ⟨p, n, _, _⟩) hb hd ha hrr hi (fun _ _ _ _ _ h => h) hN ⟨List.length_replicate, h4, hm, fun x hx => by cases hx⟩⟩
theorem Devs.waits {w0 W : World} {D : Nat → Option DSt} {R : List Kept3} (h : Devs w0 W D R) {i : Nat} {d : DSt} (hi : D i = some d) :
    Calls Try.prog 25 #[.pointer (some ⟨d.p, 0, none⟩)] W fun e w' => e = .returned (.int .i64 d.L.length) ∧ W = w' := by
  obtain ⟨hb, S, N, hd, ha, hrr⟩ := h
  exact dev_waits (hd i d hi).2.1
theorem Devs.blocks {w0 W : World} {D : Nat → Option DSt} {R : List Kept3} (h : Devs w0 W D R) {i : Nat} {d : DSt} (hi : D i = some d) :
    Calls Try.prog 26 #[.pointer (some ⟨d.p, 0, none⟩)] W fun e w' => e = .returned (.int .i64 d.n) ∧ W = w' := by
  obtain ⟨hb, S, N, hd, ha, hrr⟩ := h
  exact dev_blocks (hd i d hi).2.1 (hd i d hi).1.len (hd i d hi).1.nm
theorem Devs.read {w0 W : World} {D : Nat → Option DSt} {R : List Kept3} (h : Devs w0 W D R) {i : Nat} {d : DSt} (hi : D i = some d) (hl : d.L.length < 4294967296) {j : Int} (h0 : 0 ≤ j) (hj : j < d.n) :
    Calls Try.prog 19 #[.pointer (some ⟨d.p, 0, none⟩), .int .i64 j] W fun e w' =>
      ∃ g cap, e = .returned (.tuple #[.slice (some ⟨g, 0, none⟩) 64 cap, .int .i64 0]) ∧ W.heap.size ≤ g ∧ 64 ≤ cap ∧ OwnBy w' g cap (rblk d.B d.L j) ∧ Below W.heap.size W w' := by
  obtain ⟨hb, S, N, hd, ha, hrr⟩ := h
  obtain ⟨ok, dv, _⟩ := hd i d hi
  exact dev_read dv ok.len ok.nm hl (fun x hx => (ok.wait x hx).2.2) h0 hj
theorem Devs.read_bad {w0 W : World} {D : Nat → Option DSt} {R : List Kept3} (h : Devs w0 W D R) {i : Nat} {d : DSt} (hi : D i = some d) {j : Int} (hj : ¬ (0 ≤ j ∧ j < d.n)) :
    Calls Try.prog 19 #[.pointer (some ⟨d.p, 0, none⟩), .int .i64 j] W fun e w' =>
      e = .returned (.tuple #[.slice none 0 0, .int .i64 1]) ∧ Below W.heap.size W w' := by
  obtain ⟨hb, S, N, hd, ha, hrr⟩ := h
  obtain ⟨ok, dv, _⟩ := hd i d hi
  exact dev_read_bad dv ok.len ok.nm hj
theorem Devs.write {w0 W : World} {D : Nat → Option DSt} {R : List Kept3} (h : Devs w0 W D R) {i : Nat} {d : DSt} (hi : D i = some d) (hl : d.L.length < 4294967296) {j : Int} (h0 : 0 ≤ j) (hj : j < d.n) {A : Option Addr} {c : Nat} {bs : List Int} (hr : Kd.C (Kd.int .u8) W A bs.length bs) (hc : bs.length ≤ c) (h64 : bs.length = 64) :
    Calls Try.prog 11 #[.pointer (some ⟨d.p, 0, none⟩), .int .i64 j, .slice A bs.length c] W fun e w' =>
      e = .returned (.int .i64 0) ∧ Devs w0 w' (upd D i ⟨d.p, d.n, d.B, d.L ++ [(j, bs)]⟩) R := by
  have h' := h
  obtain ⟨hb, S, N, hd, ha, hrr⟩ := h
  obtain ⟨ok, dv, hs⟩ := hd i d hi
  have ok' : (DSt.mk d.p d.n d.B (d.L ++ [(j, bs)])).Ok := ⟨ok.len, ok.n4, ok.nm, fun x hx => by
    rcases List.mem_append.1 hx with hx | hx
    · exact ok.wait x hx
    · obtain rfl : x = (j, bs) := by simpa using hx
      exact ⟨h0, hj, h64⟩⟩
  refine (dev_write dv ok.len ok.nm hl h0 hj hr hc h64).mono ?_
  rintro e w' ⟨rfl, ht⟩
  exact ⟨rfl, Devs.turn1 hb hi ⟨S, N, hd, ha, hrr, ht⟩ ok'⟩
theorem Devs.write_bad {w0 W : World} {D : Nat → Option DSt} {R : List Kept3} (h : Devs w0 W D R) {i : Nat} {d : DSt} (hi : D i = some d) {j : Int} {A : Option Addr} {l c : Nat} (hl : l ≤ 9223372036854775807) (hb : ¬ (0 ≤ j ∧ j < d.n) ∨ l ≠ 64) :
    Calls Try.prog 11 #[.pointer (some ⟨d.p, 0, none⟩), .int .i64 j, .slice A l c] W fun e w' => e = .returned (.int .i64 1) ∧ W = w' := by
  obtain ⟨hb', S, N, hd, ha, hrr⟩ := h
  obtain ⟨ok, dv, _⟩ := hd i d hi
  exact dev_write_bad dv ok.len ok.nm hl hb
theorem Devs.sync {w0 W : World} {D : Nat → Option DSt} {R : List Kept3} (h : Devs w0 W D R) {i : Nat} {d : DSt} (hi : D i = some d) :
    Calls Try.prog 13 #[.pointer (some ⟨d.p, 0, none⟩)] W fun e w' =>
      e = .returned (.tuple #[]) ∧ Devs w0 w' (upd D i ⟨d.p, d.n, aft (fun _ => true) d.L d.B d.L.length, []⟩) R := by
  obtain ⟨hb, S, N, hd, ha, hrr⟩ := h
  obtain ⟨ok, dv, hs⟩ := hd i d hi
  refine (dev_sync dv ok.len ok.nm ok.wait).mono ?_
  rintro e w' ⟨rfl, ht⟩
  exact ⟨rfl, Devs.turn1 hb hi ⟨S, N, hd, ha, hrr, ht⟩ ⟨aft_length ok.len ok.wait _, ok.n4, ok.nm, fun x hx => by cases hx⟩⟩
theorem Devs.crash {w0 W0 W : World} {D : Nat → Option DSt} {R : List Kept3} (h : Devs w0 W0 D R) (hf : Below W0.heap.size W0 W) {i : Nat} {d : DSt} (hi : D i = some d) {A : Option Addr} {c : Nat} {ks : List Bool} (hr : Kd.C Kd.bool W A ks.length ks)
    (hA : ∀ a, A = some a → 0 < ks.length → a.block < W.heap.size ∧ (a.block < w0.heap.size ∨ W0.heap.size ≤ a.block)) :
    Calls Try.prog 15 #[.pointer (some ⟨d.p, 0, none⟩), .slice A ks.length c] W fun e w' =>
      e = .returned (.tuple #[]) ∧ Devs w0 w' (upd D i ⟨d.p, d.n, aft (fun k => ks.getD k false) d.L d.B d.L.length, []⟩) R := by
  obtain ⟨hb, S, N, hd, ha, hrr⟩ := h
  have hlt := (hd i d hi).2.1.slt'.1
  have hd' : ∀ i d, D i = some d → d.Ok ∧ DevP W (S i) (N i) d.p d.B d.L ∧ (∀ k, S i k → w0.heap.size ≤ k) := fun i d hi => ⟨(hd i d hi).1, (hd i d hi).2.1.below hf, (hd i d hi).2.2⟩
  obtain ⟨ok, dv, hs⟩ := hd' i d hi
  refine (dev_crash dv ok.len ok.nm ok.wait hr (fun a e h0 => ⟨fun hk => ?_, (hA a e h0).1⟩)).mono ?_
  · have := hlt _ hk
    have := hs _ hk
    rcases (hA a e h0).2 with h | h <;> omega
  rintro e w' ⟨rfl, ht⟩
  exact ⟨rfl, Devs.turn1 (hb.trans (hf.mono hb.size)) hi ⟨S, N, hd', ha, fun r h => ⟨(hrr r h).1.same (hf.block _ (hrr r h).1.lt), (hrr r h).2⟩, ht⟩ ⟨aft_length ok.len ok.wait _, ok.n4, ok.nm, fun x hx => by cases hx⟩⟩
theorem Devs.twin {w0 W : World} {D : Nat → Option DSt} {R : List Kept3} (h : Devs w0 W D R) {i : Nat} {d : DSt} (hi : D i = some d) (hl : d.L.length < 4294967296) (j : Nat) (hj : D j = none) :
    Calls Try.prog 17 #[.pointer (some ⟨d.p, 0, none⟩)] W fun e w' => ∃ p2, e = .returned (.pointer (some ⟨p2, 0, none⟩)) ∧ Devs w0 w' (upd D j ⟨p2, d.n, d.B, d.L⟩) R := by
  obtain ⟨hb, S, N, hd, ha, hrr⟩ := h
  obtain ⟨ok, dv, hs⟩ := hd i d hi
  refine (dev_twin dv ok.len ok.n4 ok.nm hl).mono ?_
  rintro e w' ⟨p2, rfl, hN⟩
  refine ⟨p2, rfl, Devs.more (d := ⟨p2, d.n, d.B, d.L⟩) hb hd ha hrr hj (fun l f hl k hk => ?_) hN ⟨ok.len, ok.n4, ok.nm, ok.wait⟩⟩
  by_cases e : l = i
  · subst e
    exact dv.slt'.2.2 k hk
  · exact (ha l i f d e hl hi k hk).2
theorem Devs.bytes {w0 W : World} {D : Nat → Option DSt} {R : List Kept3} (h : Devs w0 W D R) {i : Nat} {d : DSt} (hi : D i = some d) (hl : d.L.length < 4294967296) :
    Calls Try.prog 24 #[.pointer (some ⟨d.p, 0, none⟩)] W fun e w' =>
      ∃ g cap, e = .returned (.slice (some ⟨g, 0, none⟩) (aft (fun _ => true) d.L d.B d.L.length).length cap) ∧ (aft (fun _ => true) d.L d.B d.L.length).length ≤ cap ∧ W.heap.size ≤ g ∧ OwnBy w' g cap (aft (fun _ => true) d.L d.B d.L.length) ∧ Below W.heap.size W w' := by
  obtain ⟨hb, S, N, hd, ha, hrr⟩ := h
  obtain ⟨ok, dv, hs⟩ := hd i d hi
  refine (dev_bytes dv ok.len ok.n4 ok.nm hl ok.wait).mono ?_
  rintro e w' ⟨g, cap, h1, h2, h3, h4, h5⟩
  exact ⟨g, cap, h1, h2, h3, h4, h5.to_below⟩
end Go.Proofs.Ytkpfhlfbhceebaa.PAll
