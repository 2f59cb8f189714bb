/- One device, and an array of eight bytes beside it. -/
import Derived.Test.YtkpfhlfbhceebaaDFlags
import Derived.OpenShut
namespace Go.Proofs.Ytkpfhlfbhceebaa.PAll
open Go.Proofs.Ytkpfhlfbhceebaa.Help
open Go.RowKit Go.Proofs.YtkpfhlfbhceebaaW.PrintWords Go.Proofs.YtkpfhlfbhceebaaW.PrintLast Go.Proofs.YtkpfhlfbhceebaaW.PrintMore
set_option linter.unusedVariables false
set_option linter.unusedSimpArgs false
/-- One device, and beside it the array of 8 bytes at block q. -/
def One (w0 W : World) (q : Nat) (cs : List Int) (d : DSt) : Prop :=
  Below w0.heap.size w0 W ∧ d.Ok ∧ w0.heap.size ≤ q ∧ W.heap[q]? = some (.cells (cs.map (Value.int .u8)).toArray 50 (0, 0)) ∧
    ∃ S N : Nat → Prop, DevP W S N d.p d.B d.L ∧ (∀ k, S k → w0.heap.size ≤ k) ∧ ¬ S q ∧ ¬ N q
theorem One.below {w0 W W' : World} {q : Nat} {cs : List Int} {d : DSt} (h : One w0 W q cs d) (hf : Below W.heap.size W W') : One w0 W' q cs d := by
  obtain ⟨hb, ok, hq, hc, S, N, hd, hs, h1, h2⟩ := h
  exact ⟨hb.trans (hf.mono hb.size), ok, hq, (hf.block q (blk_lt hc)).trans hc, S, N, hd.below hf, hs, h1, h2⟩
theorem One.turn {w0 W W' : World} {q : Nat} {cs : List Int} {d : DSt} {S N : Nat → Prop} {B' : List Int} {L' : List (Int × List Int)} (hb : Below w0.heap.size w0 W) (hq : w0.heap.size ≤ q) (hc : W.heap[q]? = some (.cells (cs.map (Value.int .u8)).toArray 50 (0, 0)))
    (hs : ∀ k, S k → w0.heap.size ≤ k) (h1 : ¬ S q) (h2 : ¬ N q) (ht : DevTo 62 65 W W' S N d.p B' L') (ok : (DSt.mk d.p d.n B' L').Ok) : One w0 W' q cs ⟨d.p, d.n, B', L'⟩ := by
  obtain ⟨S', N', hd, hf, t1, t2⟩ := ht
  have hql := blk_lt hc
  refine ⟨hb.trans (hf.below hb.size hs), ok, hq, (hf.block q hql h1).trans hc, S', N', hd, fun k hk => ?_, fun h => ?_, fun h => ?_⟩
  · rcases t1 k hk with h | h
    · exact hs k h
    · have := hb.size; omega
  · rcases t1 q h with h | h
    · exact h1 h
    · omega
  · rcases t2 q h with h | h
    · exact h2 h
    · omega
theorem One.write {w0 W : World} {q : Nat} {cs : List Int} {d : DSt} (h : One w0 W q cs d) (hl : d.L.length < 4294967296) {j : Int} (h0 : 0 ≤ j) (hj : j < d.n) {A : Option Addr} {c : Nat} {bs : List Int} (hr : Kd.C (Kd.int .u8) W A bs.length bs) (hc : bs.length ≤ c) (h64 : bs.length = 64) :
    Calls Try.prog 11 #[.pointer (some ⟨d.p, 0, none⟩), .int .i64 j, .slice A bs.length c] W fun e w' =>
      e = .returned (.int .i64 0) ∧ One w0 w' q cs ⟨d.p, d.n, d.B, d.L ++ [(j, bs)]⟩ := by
  obtain ⟨hb, ok, hq, hcc, S, N, hd, hs, h1, h2⟩ := h
  have ok' : (DSt.mk d.p d.n d.B (d.L ++ [(j, bs)])).Ok := ⟨ok.len, ok.n4, ok.nm, fun x hx => by
    rcases List.mem_append.1 hx with hx | hx
    · exact ok.wait x hx
    · obtain rfl : x = (j, bs) := by simpa using hx
      exact ⟨h0, hj, h64⟩⟩
  refine (dev_write hd ok.len ok.nm hl h0 hj hr hc h64).mono ?_
  rintro e w' ⟨rfl, ht⟩
  exact ⟨rfl, One.turn hb hq hcc hs h1 h2 ht ok'⟩
theorem One.sync {w0 W : World} {q : Nat} {cs : List Int} {d : DSt} (h : One w0 W q cs d) :
    Calls Try.prog 13 #[.pointer (some ⟨d.p, 0, none⟩)] W fun e w' =>
      e = .returned (.tuple #[]) ∧ One w0 w' q cs ⟨d.p, d.n, aft (fun _ => true) d.L d.B d.L.length, []⟩ := by
  obtain ⟨hb, ok, hq, hcc, S, N, hd, hs, h1, h2⟩ := h
  refine (dev_sync hd ok.len ok.nm ok.wait).mono ?_
  rintro e w' ⟨rfl, ht⟩
  exact ⟨rfl, One.turn hb hq hcc hs h1 h2 ht ⟨aft_length ok.len ok.wait _, ok.n4, ok.nm, fun x hx => by cases hx⟩⟩
theorem One.crash {w0 W : World} {q : Nat} {cs : List Int} {d : DSt} (h : One w0 W q cs d) {A : Option Addr} {c : Nat} {ks : List Bool} (hr : Kd.C Kd.bool w0 A ks.length ks)  :
    Calls Try.prog 15 #[.pointer (some ⟨d.p, 0, none⟩), .slice A ks.length c] W fun e w' =>
      e = .returned (.tuple #[]) ∧ One w0 w' q cs ⟨d.p, d.n, aft (fun k => ks.getD k false) d.L d.B d.L.length, []⟩ := by
  obtain ⟨hb, ok, hq, hcc, S, N, hd, hs, h1, h2⟩ := h
  refine (dev_crash hd ok.len ok.nm ok.wait (C_later_bool hr hb) (fun a e h0 => ⟨fun hk => ?_, Nat.lt_of_lt_of_le (C_lt_bool hr a e h0) hb.size⟩)).mono ?_
  · have := hs _ hk
    have := C_lt_bool hr a e h0
    omega
  rintro e w' ⟨rfl, ht⟩
  exact ⟨rfl, One.turn hb hq hcc hs h1 h2 ht ⟨aft_length ok.len ok.wait _, ok.n4, ok.nm, fun x hx => by cases hx⟩⟩
theorem One.waits {w0 W : World} {q : Nat} {cs : List Int} {d : DSt} (h : One w0 W q cs d) :
    Calls Try.prog 25 #[.pointer (some ⟨d.p, 0, none⟩)] W fun e w' => e = .returned (.int .i64 d.L.length) ∧ W = w' := by
  obtain ⟨hb, ok, hq, hcc, S, N, hd, hs, h1, h2⟩ := h
  exact dev_waits hd
theorem One.read {w0 W : World} {q : Nat} {cs : List Int} {d : DSt} (h : One w0 W q cs d) (hl : d.L.length < 4294967296) {j : Int} (h0 : 0 ≤ j) (hj : j < d.n) :
    Calls Try.prog 19 #[.pointer (some ⟨d.p, 0, none⟩), .int .i64 j] W fun e w' =>
      ∃ g cap, e = .returned (.tuple #[.slice (some ⟨g, 0, none⟩) 64 cap, .int .i64 0]) ∧ W.heap.size ≤ g ∧ 64 ≤ cap ∧ OwnBy w' g cap (rblk d.B d.L j) ∧ Below W.heap.size W w' := by
  obtain ⟨hb, ok, hq, hcc, S, N, hd, hs, h1, h2⟩ := h
  exact dev_read hd ok.len ok.nm hl (fun x hx => (ok.wait x hx).2.2) h0 hj
theorem One.cell {w0 W : World} {q : Nat} {cs : List Int} {d : DSt} (h : One w0 W q cs d) {j : Nat} (hj : j < cs.length) : W.cell? ⟨q, j, none⟩ = some (.int .u8 (cs.getD j 0)) := by
  obtain ⟨hb, ok, hq, hcc, _⟩ := h
  refine cell_of_blk hcc ?_
  simp [List.getD_eq_getElem?_getD, List.getElem?_eq_getElem hj]
theorem One.under {w0 W : World} {q : Nat} {cs : List Int} {d : DSt} (h : One w0 W q cs d) : Below w0.heap.size w0 W := h.1
theorem One.frozen {w0 W : World} {q : Nat} {cs : List Int} {d : DSt} (h : One w0 W q cs d) (j : Nat) : W.frozen? ⟨q, j, none⟩ = false := by
  obtain ⟨hb, ok, hq, hcc, _⟩ := h
  exact blk_frozen hcc j
theorem One.poke {w0 W : World} {q : Nat} {cs : List Int} {d : DSt} (h : One w0 W q cs d) {j : Nat} (hj : j < cs.length) (x : Int) : One w0 (W.setCell ⟨q, j, none⟩ (.int .u8 x)) q (cs.set j x) d := by
  obtain ⟨hb, ok, hq, hcc, S, N, hd, hs, h1, h2⟩ := h
  have hf : Fr (fun k => k = q) W (W.setCell ⟨q, j, none⟩ (.int .u8 x)) := Fr.set (S := fun k => k = q) (p := ⟨q, j, none⟩) rfl _
  refine ⟨hb.trans (hf.below hb.size (fun k hk => hk ▸ hq)), ok, hq, ?_, S, N, hd.keep hf (fun k hk => by subst hk; exact ⟨h1, h2⟩), hs, h1, h2⟩
  have hlt := blk_lt hcc
  have h' : W.heap[q] = .cells (cs.map (Value.int .u8)).toArray 50 (0, 0) := by simpa [Array.getElem?_eq_getElem hlt] using hcc
  show (W.heap.modify q _)[q]? = _
  rw [Array.getElem?_eq_getElem (by simpa using hlt), Array.getElem_modify_self, h']
  simp
/-- A device that was made, and the array made behind it. -/
theorem One.start {w0 W : World} {d : DSt} {D : Nat → Option DSt} {R : List Kept3} (h : Devs w0 W D R) (hi : D 0 = some d) :
    One w0 (W.alloc (.cells #[.int .u8 0, .int .u8 0, .int .u8 0, .int .u8 0, .int .u8 0, .int .u8 0, .int .u8 0, .int .u8 0] 50)) W.heap.size (List.replicate 8 0) d := by
  obtain ⟨hb, S, N, hd, _⟩ := h
  obtain ⟨ok, dv, hs⟩ := hd 0 d hi
  have hf : Below W.heap.size W (W.alloc (.cells #[.int .u8 0, .int .u8 0, .int .u8 0, .int .u8 0, .int .u8 0, .int .u8 0, .int .u8 0, .int .u8 0] 50)) := (Fr.alloc (S := fun _ => False) W _).to_below
  exact ⟨hb.trans (hf.mono hb.size), ok, hb.size, new_blk _ _, S 0, N 0, dv.below hf, hs, fun h => Nat.lt_irrefl _ (dv.slt'.1 _ h), fun h => Nat.lt_irrefl _ (dv.slt'.2.1 _ h)⟩
end Go.Proofs.Ytkpfhlfbhceebaa.PAll
