import Derived.Test.YtcpjlbdjnaaaiaaGreatDoorPk
import Derived.Test.YtcpjlbdjnaaaiaaGreatDoorPAllx0
import Derived.Test.YtcpjlbdjnaaaiaaGreatDoorPAllx7
import Derived.Test.YtcpjlbdjnaaaiaaGreatDoorPAllx14
namespace Go.Proofs.YtcpjlbdjnaaaiaaGreatDoor.PAll
open Go.Proofs.YtcpjlbdjnaaaiaaGreatDoor.Help
open Go.RowKit Go.Proofs.YtcpjlbdjnaaaiaaGreatDoorW.PrintWords Go.Proofs.YtcpjlbdjnaaaiaaGreatDoorW.PrintLast Go.Proofs.YtcpjlbdjnaaaiaaGreatDoorW.PrintMore
set_option linter.unusedVariables false
set_option linter.unusedSimpArgs false
def req_reader_names.l0 : Nat → List ByteArray → ByteArray → Int → Int → Option (List ByteArray × ByteArray × Int × Int)
 | 0, _, _, _, _ => none
 | k + 1, x3, x1000, x1001, x1002 => if x1002 = 0 then ((req_reader_word.f x1000 x1001 x1002).bind fun bt431 => ((req_named.f bt431.1).bind fun t435 => (if t435 = true then (if x3.length < 8796093022208 then ((some (x3 ++ [bt431.1] : List ByteArray)).bind fun y436 => ((req_reader_is.f bt431.2.1 bt431.2.2.1 bt431.2.2.2 (⟨#[44]⟩ : ByteArray)).bind fun bt439 => (if bt439.1 = true then (req_reader_names.l0 k y436 bt439.2.1 bt439.2.2.1 bt439.2.2.2) else (some (y436, bt439.2.1, bt439.2.2.1, bt439.2.2.2))))) else (none)) else ((req_reader_wrong.f bt431.2.1 bt431.2.2.1 bt431.2.2.2 2).bind fun bt443 => (if x3.length < 8796093022208 then ((some (x3 ++ [bt431.1] : List ByteArray)).bind fun y446 => ((req_reader_is.f bt443.1 bt443.2.1 bt443.2.2 (⟨#[44]⟩ : ByteArray)).bind fun bt449 => (if bt449.1 = true then (req_reader_names.l0 k y446 bt449.2.1 bt449.2.2.1 bt449.2.2.2) else (some (y446, bt449.2.1, bt449.2.2.1, bt449.2.2.2))))) else (none)))))) else (some (x3, x1000, x1001, x1002))
def req_reader_names.f (k : Nat) (s0_0 : ByteArray) (s0_1 : Int) (s0_2 : Int) : Option (List ByteArray × ByteArray × Int × Int) := req_reader_names.l0 k ([] : List ByteArray) s0_0 s0_1 s0_2
set_option maxHeartbeats 8000000 in
set_option maxRecDepth 100000 in
theorem req_reader_names.calls (k : Nat) (g : Nat) (s0_0 : ByteArray) (s0_1 : Int) (s0_2 : Int) (r1 : List ByteArray) (r2 : ByteArray) (r3 : Int) (r4 : Int) (w0 w : World) (hI : IsS64 w0 w g s0_0 s0_1 s0_2) (hB : Below w0.heap.size w0 w) (h : req_reader_names.f k s0_0 s0_1 s0_2 = some (r1, r2, r3, r4)) :
  Calls Tryz.prog 35 #[.pointer (some ⟨g, 0, none⟩)] w fun e w' => ∃ v0_ : Value, e = .returned (v0_) ∧ Kd.R Kd.string 9 w' w.heap.size (fun _ => True) v0_ r1 ∧ IsS64 w0 w' g r2 r3 r4 ∧ Below w0.heap.size w0 w' ∧ KeepBut w w' g none := by
 have HI0 := Mk hI
 have HK := Mk (KeepBut.refl w g none)
 have HL := Mk hB.size
 clear hI
 have HW0 := Mk hB.size
 have HB := Mk hB
 clear hB
 have H : (req_reader_names.l0 k ([] : List ByteArray) s0_0 s0_1 s0_2) = some (r1, r2, r3, r4) := h
 clear h
 have H' := Mk H
 clear H
 go_enter Tryz.func35, Tryz.ntmps35
 go_wp2
 go_loopg [3] k (fun kq v3 w' => ∃ (x3_1 : List ByteArray) (x1000_1 : ByteArray) (x1001_1 : Int) (x1002_1 : Int), Aside0 (req_reader_names.l0 kq x3_1 x1000_1 x1001_1 x1002_1 = some (r1, r2, r3, r4)) ∧ Aside0 (kq ≤ k) ∧ Aside0 (Kd.R Kd.string 9 w' w.heap.size (fun _ => True) v3 x3_1) ∧ Aside0 (IsS64 w0 w' g x1000_1 x1001_1 x1002_1) ∧ Aside0 (KeepBut w w' g none) ∧ Aside0 (Below w0.heap.size w0 w'))
 case atStart => exact ⟨(([] : List ByteArray)), (s0_0), (s0_1), (s0_2), H', ⟨Nat.le_refl _⟩, ⟨by first | exact Kd.R_nil _ _ _ _ _ | exact Kd.N_nil _ _ _ _ _ | exact Kd.V_nil _ _ _ _ _ | exact Kd.Q_nil _ _ _ _ _ | exact Kd.S_nil _ _ _ _ _⟩, ⟨hI HI0⟩, ⟨kK⟩, ⟨bB⟩⟩
 case round =>
  clear H'
  obtain ⟨x3_1, x1000_1, x1001_1, x1002_1, HA, HK1, HO_3, HI0, HK, HB⟩ := hrel
  cases gk with
  | zero => exact absurd HA.out (by simp [req_reader_names.l0])
  | succ k1 =>
   have H := HA.out
   clear HA
   simp only [req_reader_names.l0] at H
   by_cases c2 : x1002_1 = 0
   ·rw [if_pos c2] at H
    have c2b0 := beq_iff_eq.mpr c2
    have c2b1 := bne_eq_false_iff_eq.mpr c2
    clear c2
    replace H := Option.bind_eq_some_iff.mp H
    obtain ⟨⟨t431, t432, t433, t434⟩, A30, H⟩ := H
    try dsimp only at H
    have A3 := Mk A30
    clear A30
    replace H := Option.bind_eq_some_iff.mp H
    obtain ⟨t435, A40, H⟩ := H
    try dsimp only at H
    have A4 := Mk A40
    clear A40
    by_cases c5 : t435 = true
    ·subst c5
     rw [if_pos rfl] at H
     try dsimp only at H
     by_cases c6 : x3_1.length < 8796093022208
     ·rw [if_pos c6] at H
      have LMc6 := Mk c6
      clear c6
      obtain ⟨y436, hy436⟩ : ∃ y_ : List ByteArray, y_ = (x3_1 ++ [t431]) := ⟨_, rfl⟩
      replace H : ((req_reader_is.f t432 t433 t434 (⟨#[44]⟩ : ByteArray)).bind fun bt439 => (if bt439.1 = true then (req_reader_names.l0 k1 y436 bt439.2.1 bt439.2.2.1 bt439.2.2.2) else (some (y436, bt439.2.1, bt439.2.2.1, bt439.2.2.2)))) = some (r1, r2, r3, r4) := by first | (rw [hy436]; with_reducible exact H) | (have H2_ := (Option.bind_some _ _).symm.trans H; rw [hy436]; with_reducible exact H2_) | (have H2_ := (Option.bind_some _ _).symm.trans H; with_reducible exact H2_) | with_reducible exact H | (rw [hy436]; exact H) | exact H
      have Ny436 := Mk hy436
      clear hy436
      replace H := Option.bind_eq_some_iff.mp H
      obtain ⟨⟨t439, t440, t441, t442⟩, A70, H⟩ := H
      try dsimp only at H
      have A7 := Mk A70
      clear A70
      by_cases c8 : t439 = true
      ·subst c8
       rw [if_pos rfl] at H
       try dsimp only at H
       have H' := Mk H
       clear H
       obtain ⟨HGz9, hgz9⟩ := HI0.out
       have hcz9_0 := cellS64_0 HGz9
       have hcz9_1 := cellS64_1 HGz9
       have hcz9_2 := cellS64_2 HGz9
       have hfz9_0 := blk_frozen HGz9 0
       have hfz9_1 := blk_frozen HGz9 1
       have hfz9_2 := blk_frozen HGz9 2
       clear HGz9 hgz9
       go_wp2_with (first | ((with_reducible refine gate_callee (f := 67) rfl ?_); refine goesL_ (some 11) rfl rfl Tryz.func67 kR rfl #[.pointer (some ⟨g, 0, none⟩)] rfl mA ?_; (with_reducible refine (req_reader_word.calls g x1000_1 x1001_1 x1002_1 t431 t432 t433 t434 w0 _ ?side1 ?side2 A3.out).mono ?_); (case side1 => exact hI HI0); (case side2 => exact bB); rintro e w10 ⟨rfl, hi, hb, hk⟩; refine ⟨_, rfl, ?_⟩; replace HO_3 := Mk (Kd.R_mono (Kd.R_keep (IsS64.apart (show IsS64 w0 _ g x1000_1 x1001_1 x1002_1 from hI HI0) (rU HO_3) (by decide)) hk (fun _ h => h.2)) (fun _ h => h.1)); replace HK := Mk (KeepBut.trans kK hk (.inl rfl)); replace HB := Mk (hb); replace HI0 := Mk (hi); clear hb hk hi) | ((with_reducible refine gate_callee (f := 48) rfl ?_); refine goesL_ (some 13) rfl rfl Tryz.func48 kR rfl #[.string t431] rfl mA ?_; (with_reducible refine (req_named.calls t431 true _ A4.out).mono ?_); rintro e w11 ⟨rfl, hb⟩; refine ⟨_, rfl, ?_⟩; replace HO_3 := Mk (Kd.R_below (rU HO_3) hb); replace HI0 := Mk (IsS64.below (hI HI0) hb); replace HK := Mk (KeepBut.trans kK (KeepBut.of_below hb g none) (.inl rfl)); replace HB := Mk (below_step bB hb); clear hb) | ((with_reducible refine gate_builtin (b := .append) (xs := #[.tmp 17, .tmp 19]) rfl ?_); at_builtin; refine Kd.R_append Kd.string w.heap.size rfl (.tmp 17) (.tmp 19) 35 9 (.string ⟨#[]⟩) 16 rfl Tryz.underlying35 info9 rfl (by decide) (by omega) u3 x3_1 t431 [.string t431] (fun _ => True) (fun _ => False) rfl rfl ?aP (fun _ hk => hk.elim) ?aF ?aO (Below.refl _ _) ?aS ?aL ?_; (case aP => exact rfl); (case aF => exact (fun _ _ => trivial)); (case aO => exact (rU HO_3)); (case aS => exact (keep_size (w := w) (g := g) (row := none) kK)); (case aL => have := LMc6.out; omega); intro v437 w12 ho hb hg hat; rw [← Ny436.out] at ho; have n0_ := Mk (IsS64.grown (hI HI0) hg (IsS64.own_ne HI0.out HO_3.out (by decide))); have n1_ := Mk (below_weaken bB HL.out hb); have n2_ := Mk (KeepBut.trans kK (KeepBut.of_grown hg g) (Kd.R_base2 HO_3.out)); have n3_ := Mk (ho); clear HI0; clear HB; clear HK; clear HO_3; have HI0 := n0_; have HB := n1_; have HK := n2_; have HO438 := n3_; clear n0_ n1_ n2_ n3_; clear ho hb hg hat) | ((with_reducible refine gate_callee (f := 66) rfl ?_); refine goesL_ (some 22) rfl rfl Tryz.func66 kR rfl #[.pointer (some ⟨g, 0, none⟩), .string (⟨#[44]⟩ : ByteArray)] rfl mA ?_; (with_reducible refine (req_reader_is.calls g t432 t433 t434 (⟨#[44]⟩ : ByteArray) true t440 t441 t442 w0 _ ?side1 ?side2 A7.out).mono ?_); (case side1 => exact hI HI0); (case side2 => exact bB); rintro e w13 ⟨rfl, hi, hb, hk⟩; refine ⟨_, rfl, ?_⟩; replace HO438 := Mk (Kd.R_mono (Kd.R_keep (IsS64.apart (show IsS64 w0 _ g t432 t433 t434 from hI HI0) (rU HO438) (by decide)) hk (fun _ h => h.2)) (fun _ h => h.1)); replace HK := Mk (KeepBut.trans kK hk (.inl rfl)); replace HB := Mk (hb); replace HI0 := Mk (hi); clear hb hk hi))
       go_roundg k1
       case measure => have := HK1.out; omega
       case rel => exact ⟨(y436), (t440), (t441), (t442), H', ⟨by have := HK1.out; omega⟩, ⟨rU HO438⟩, ⟨hI HI0⟩, ⟨kK⟩, ⟨bB⟩⟩
      ·replace c8 := Bool.eq_false_iff.mpr c8
       subst c8
       rw [if_neg (show ¬ (false = true) by decide)] at H
       try dsimp only at H
       simp only [Option.some.injEq, Prod.mk.injEq] at H
       obtain ⟨rfl, rfl, rfl, rfl⟩ := H
       obtain ⟨HGz14, hgz14⟩ := HI0.out
       have hcz14_0 := cellS64_0 HGz14
       have hcz14_1 := cellS64_1 HGz14
       have hcz14_2 := cellS64_2 HGz14
       have hfz14_0 := blk_frozen HGz14 0
       have hfz14_1 := blk_frozen HGz14 1
       have hfz14_2 := blk_frozen HGz14 2
       clear HGz14 hgz14
       go_wp2_with (first | ((with_reducible refine gate_callee (f := 67) rfl ?_); refine goesL_ (some 11) rfl rfl Tryz.func67 kR rfl #[.pointer (some ⟨g, 0, none⟩)] rfl mA ?_; (with_reducible refine (req_reader_word.calls g x1000_1 x1001_1 x1002_1 t431 t432 t433 t434 w0 _ ?side1 ?side2 A3.out).mono ?_); (case side1 => exact hI HI0); (case side2 => exact bB); rintro e w15 ⟨rfl, hi, hb, hk⟩; refine ⟨_, rfl, ?_⟩; replace HO_3 := Mk (Kd.R_mono (Kd.R_keep (IsS64.apart (show IsS64 w0 _ g x1000_1 x1001_1 x1002_1 from hI HI0) (rU HO_3) (by decide)) hk (fun _ h => h.2)) (fun _ h => h.1)); replace HK := Mk (KeepBut.trans kK hk (.inl rfl)); replace HB := Mk (hb); replace HI0 := Mk (hi); clear hb hk hi) | ((with_reducible refine gate_callee (f := 48) rfl ?_); refine goesL_ (some 13) rfl rfl Tryz.func48 kR rfl #[.string t431] rfl mA ?_; (with_reducible refine (req_named.calls t431 true _ A4.out).mono ?_); rintro e w16 ⟨rfl, hb⟩; refine ⟨_, rfl, ?_⟩; replace HO_3 := Mk (Kd.R_below (rU HO_3) hb); replace HI0 := Mk (IsS64.below (hI HI0) hb); replace HK := Mk (KeepBut.trans kK (KeepBut.of_below hb g none) (.inl rfl)); replace HB := Mk (below_step bB hb); clear hb) | ((with_reducible refine gate_builtin (b := .append) (xs := #[.tmp 17, .tmp 19]) rfl ?_); at_builtin; refine Kd.R_append Kd.string w.heap.size rfl (.tmp 17) (.tmp 19) 35 9 (.string ⟨#[]⟩) 16 rfl Tryz.underlying35 info9 rfl (by decide) (by omega) u3 x3_1 t431 [.string t431] (fun _ => True) (fun _ => False) rfl rfl ?aP (fun _ hk => hk.elim) ?aF ?aO (Below.refl _ _) ?aS ?aL ?_; (case aP => exact rfl); (case aF => exact (fun _ _ => trivial)); (case aO => exact (rU HO_3)); (case aS => exact (keep_size (w := w) (g := g) (row := none) kK)); (case aL => have := LMc6.out; omega); intro v437 w17 ho hb hg hat; rw [← Ny436.out] at ho; have n0_ := Mk (IsS64.grown (hI HI0) hg (IsS64.own_ne HI0.out HO_3.out (by decide))); have n1_ := Mk (below_weaken bB HL.out hb); have n2_ := Mk (KeepBut.trans kK (KeepBut.of_grown hg g) (Kd.R_base2 HO_3.out)); have n3_ := Mk (ho); clear HI0; clear HB; clear HK; clear HO_3; have HI0 := n0_; have HB := n1_; have HK := n2_; have HO438 := n3_; clear n0_ n1_ n2_ n3_; clear ho hb hg hat) | ((with_reducible refine gate_callee (f := 66) rfl ?_); refine goesL_ (some 22) rfl rfl Tryz.func66 kR rfl #[.pointer (some ⟨g, 0, none⟩), .string (⟨#[44]⟩ : ByteArray)] rfl mA ?_; (with_reducible refine (req_reader_is.calls g t432 t433 t434 (⟨#[44]⟩ : ByteArray) false t440 t441 t442 w0 _ ?side1 ?side2 A7.out).mono ?_); (case side1 => exact hI HI0); (case side2 => exact bB); rintro e w18 ⟨rfl, hi, hb, hk⟩; refine ⟨_, rfl, ?_⟩; replace HO438 := Mk (Kd.R_mono (Kd.R_keep (IsS64.apart (show IsS64 w0 _ g t432 t433 t434 from hI HI0) (rU HO438) (by decide)) hk (fun _ h => h.2)) (fun _ h => h.1)); replace HK := Mk (KeepBut.trans kK hk (.inl rfl)); replace HB := Mk (hb); replace HI0 := Mk (hi); clear hb hk hi))
       go_ret
       exact ⟨_, eW, by (repeat apply Rup); exact HO438.out, hI HI0, bB, kK⟩
     ·rw [if_neg c6] at H
      exact absurd H (by simp)
    ·replace c5 := Bool.eq_false_iff.mpr c5
     subst c5
     rw [if_neg (show ¬ (false = true) by decide)] at H
     try dsimp only at H
     replace H := Option.bind_eq_some_iff.mp H
     obtain ⟨⟨t443, t444, t445⟩, A190, H⟩ := H
     try dsimp only at H
     have A19 := Mk A190
     clear A190
     by_cases c20 : x3_1.length < 8796093022208
     ·rw [if_pos c20] at H
      have LMc20 := Mk c20
      clear c20
      obtain ⟨y446, hy446⟩ : ∃ y_ : List ByteArray, y_ = (x3_1 ++ [t431]) := ⟨_, rfl⟩
      replace H : ((req_reader_is.f t443 t444 t445 (⟨#[44]⟩ : ByteArray)).bind fun bt449 => (if bt449.1 = true then (req_reader_names.l0 k1 y446 bt449.2.1 bt449.2.2.1 bt449.2.2.2) else (some (y446, bt449.2.1, bt449.2.2.1, bt449.2.2.2)))) = some (r1, r2, r3, r4) := by first | (rw [hy446]; with_reducible exact H) | (have H2_ := (Option.bind_some _ _).symm.trans H; rw [hy446]; with_reducible exact H2_) | (have H2_ := (Option.bind_some _ _).symm.trans H; with_reducible exact H2_) | with_reducible exact H | (rw [hy446]; exact H) | exact H
      have Ny446 := Mk hy446
      clear hy446
      replace H := Option.bind_eq_some_iff.mp H
      obtain ⟨⟨t449, t450, t451, t452⟩, A210, H⟩ := H
      try dsimp only at H
      have A21 := Mk A210
      clear A210
      by_cases c22 : t449 = true
      ·subst c22
       rw [if_pos rfl] at H
       try dsimp only at H
       have H' := Mk H
       clear H
       obtain ⟨HGz23, hgz23⟩ := HI0.out
       have hcz23_0 := cellS64_0 HGz23
       have hcz23_1 := cellS64_1 HGz23
       have hcz23_2 := cellS64_2 HGz23
       have hfz23_0 := blk_frozen HGz23 0
       have hfz23_1 := blk_frozen HGz23 1
       have hfz23_2 := blk_frozen HGz23 2
       clear HGz23 hgz23
       go_wp2_with (first | ((with_reducible refine gate_callee (f := 67) rfl ?_); refine goesL_ (some 11) rfl rfl Tryz.func67 kR rfl #[.pointer (some ⟨g, 0, none⟩)] rfl mA ?_; (with_reducible refine (req_reader_word.calls g x1000_1 x1001_1 x1002_1 t431 t432 t433 t434 w0 _ ?side1 ?side2 A3.out).mono ?_); (case side1 => exact hI HI0); (case side2 => exact bB); rintro e w24 ⟨rfl, hi, hb, hk⟩; refine ⟨_, rfl, ?_⟩; replace HO_3 := Mk (Kd.R_mono (Kd.R_keep (IsS64.apart (show IsS64 w0 _ g x1000_1 x1001_1 x1002_1 from hI HI0) (rU HO_3) (by decide)) hk (fun _ h => h.2)) (fun _ h => h.1)); replace HK := Mk (KeepBut.trans kK hk (.inl rfl)); replace HB := Mk (hb); replace HI0 := Mk (hi); clear hb hk hi) | ((with_reducible refine gate_callee (f := 48) rfl ?_); refine goesL_ (some 13) rfl rfl Tryz.func48 kR rfl #[.string t431] rfl mA ?_; (with_reducible refine (req_named.calls t431 false _ A4.out).mono ?_); rintro e w25 ⟨rfl, hb⟩; refine ⟨_, rfl, ?_⟩; replace HO_3 := Mk (Kd.R_below (rU HO_3) hb); replace HI0 := Mk (IsS64.below (hI HI0) hb); replace HK := Mk (KeepBut.trans kK (KeepBut.of_below hb g none) (.inl rfl)); replace HB := Mk (below_step bB hb); clear hb) | ((with_reducible refine gate_callee (f := 57) rfl ?_); refine goesL_ (some 16) rfl rfl Tryz.func57 kR rfl #[.pointer (some ⟨g, 0, none⟩), .int .i64 2] rfl mA ?_; (with_reducible refine (req_reader_wrong.calls g t432 t433 t434 2 t443 t444 t445 w0 _ ?side1 ?side2 A19.out).mono ?_); (case side1 => exact hI HI0); (case side2 => exact bB); rintro e w26 ⟨rfl, hi, hb, hk⟩; refine ⟨_, rfl, ?_⟩; replace HO_3 := Mk (Kd.R_mono (Kd.R_keep (IsS64.apart (show IsS64 w0 _ g t432 t433 t434 from hI HI0) (rU HO_3) (by decide)) hk (fun _ h => h.2)) (fun _ h => h.1)); replace HK := Mk (KeepBut.trans kK hk (.inl rfl)); replace HB := Mk (hb); replace HI0 := Mk (hi); clear hb hk hi) | ((with_reducible refine gate_builtin (b := .append) (xs := #[.tmp 17, .tmp 19]) rfl ?_); at_builtin; refine Kd.R_append Kd.string w.heap.size rfl (.tmp 17) (.tmp 19) 35 9 (.string ⟨#[]⟩) 16 rfl Tryz.underlying35 info9 rfl (by decide) (by omega) u3 x3_1 t431 [.string t431] (fun _ => True) (fun _ => False) rfl rfl ?aP (fun _ hk => hk.elim) ?aF ?aO (Below.refl _ _) ?aS ?aL ?_; (case aP => exact rfl); (case aF => exact (fun _ _ => trivial)); (case aO => exact (rU HO_3)); (case aS => exact (keep_size (w := w) (g := g) (row := none) kK)); (case aL => have := LMc20.out; omega); intro v447 w27 ho hb hg hat; rw [← Ny446.out] at ho; have n0_ := Mk (IsS64.grown (hI HI0) hg (IsS64.own_ne HI0.out HO_3.out (by decide))); have n1_ := Mk (below_weaken bB HL.out hb); have n2_ := Mk (KeepBut.trans kK (KeepBut.of_grown hg g) (Kd.R_base2 HO_3.out)); have n3_ := Mk (ho); clear HI0; clear HB; clear HK; clear HO_3; have HI0 := n0_; have HB := n1_; have HK := n2_; have HO448 := n3_; clear n0_ n1_ n2_ n3_; clear ho hb hg hat) | ((with_reducible refine gate_callee (f := 66) rfl ?_); refine goesL_ (some 22) rfl rfl Tryz.func66 kR rfl #[.pointer (some ⟨g, 0, none⟩), .string (⟨#[44]⟩ : ByteArray)] rfl mA ?_; (with_reducible refine (req_reader_is.calls g t443 t444 t445 (⟨#[44]⟩ : ByteArray) true t450 t451 t452 w0 _ ?side1 ?side2 A21.out).mono ?_); (case side1 => exact hI HI0); (case side2 => exact bB); rintro e w28 ⟨rfl, hi, hb, hk⟩; refine ⟨_, rfl, ?_⟩; replace HO448 := Mk (Kd.R_mono (Kd.R_keep (IsS64.apart (show IsS64 w0 _ g t443 t444 t445 from hI HI0) (rU HO448) (by decide)) hk (fun _ h => h.2)) (fun _ h => h.1)); replace HK := Mk (KeepBut.trans kK hk (.inl rfl)); replace HB := Mk (hb); replace HI0 := Mk (hi); clear hb hk hi))
       go_roundg k1
       case measure => have := HK1.out; omega
       case rel => exact ⟨(y446), (t450), (t451), (t452), H', ⟨by have := HK1.out; omega⟩, ⟨rU HO448⟩, ⟨hI HI0⟩, ⟨kK⟩, ⟨bB⟩⟩
      ·replace c22 := Bool.eq_false_iff.mpr c22
       subst c22
       rw [if_neg (show ¬ (false = true) by decide)] at H
       try dsimp only at H
       simp only [Option.some.injEq, Prod.mk.injEq] at H
       obtain ⟨rfl, rfl, rfl, rfl⟩ := H
       obtain ⟨HGz29, hgz29⟩ := HI0.out
       have hcz29_0 := cellS64_0 HGz29
       have hcz29_1 := cellS64_1 HGz29
       have hcz29_2 := cellS64_2 HGz29
       have hfz29_0 := blk_frozen HGz29 0
       have hfz29_1 := blk_frozen HGz29 1
       have hfz29_2 := blk_frozen HGz29 2
       clear HGz29 hgz29
       go_wp2_with (first | ((with_reducible refine gate_callee (f := 67) rfl ?_); refine goesL_ (some 11) rfl rfl Tryz.func67 kR rfl #[.pointer (some ⟨g, 0, none⟩)] rfl mA ?_; (with_reducible refine (req_reader_word.calls g x1000_1 x1001_1 x1002_1 t431 t432 t433 t434 w0 _ ?side1 ?side2 A3.out).mono ?_); (case side1 => exact hI HI0); (case side2 => exact bB); rintro e w30 ⟨rfl, hi, hb, hk⟩; refine ⟨_, rfl, ?_⟩; replace HO_3 := Mk (Kd.R_mono (Kd.R_keep (IsS64.apart (show IsS64 w0 _ g x1000_1 x1001_1 x1002_1 from hI HI0) (rU HO_3) (by decide)) hk (fun _ h => h.2)) (fun _ h => h.1)); replace HK := Mk (KeepBut.trans kK hk (.inl rfl)); replace HB := Mk (hb); replace HI0 := Mk (hi); clear hb hk hi) | ((with_reducible refine gate_callee (f := 48) rfl ?_); refine goesL_ (some 13) rfl rfl Tryz.func48 kR rfl #[.string t431] rfl mA ?_; (with_reducible refine (req_named.calls t431 false _ A4.out).mono ?_); rintro e w31 ⟨rfl, hb⟩; refine ⟨_, rfl, ?_⟩; replace HO_3 := Mk (Kd.R_below (rU HO_3) hb); replace HI0 := Mk (IsS64.below (hI HI0) hb); replace HK := Mk (KeepBut.trans kK (KeepBut.of_below hb g none) (.inl rfl)); replace HB := Mk (below_step bB hb); clear hb) | ((with_reducible refine gate_callee (f := 57) rfl ?_); refine goesL_ (some 16) rfl rfl Tryz.func57 kR rfl #[.pointer (some ⟨g, 0, none⟩), .int .i64 2] rfl mA ?_; (with_reducible refine (req_reader_wrong.calls g t432 t433 t434 2 t443 t444 t445 w0 _ ?side1 ?side2 A19.out).mono ?_); (case side1 => exact hI HI0); (case side2 => exact bB); rintro e w32 ⟨rfl, hi, hb, hk⟩; refine ⟨_, rfl, ?_⟩; replace HO_3 := Mk (Kd.R_mono (Kd.R_keep (IsS64.apart (show IsS64 w0 _ g t432 t433 t434 from hI HI0) (rU HO_3) (by decide)) hk (fun _ h => h.2)) (fun _ h => h.1)); replace HK := Mk (KeepBut.trans kK hk (.inl rfl)); replace HB := Mk (hb); replace HI0 := Mk (hi); clear hb hk hi) | ((with_reducible refine gate_builtin (b := .append) (xs := #[.tmp 17, .tmp 19]) rfl ?_); at_builtin; refine Kd.R_append Kd.string w.heap.size rfl (.tmp 17) (.tmp 19) 35 9 (.string ⟨#[]⟩) 16 rfl Tryz.underlying35 info9 rfl (by decide) (by omega) u3 x3_1 t431 [.string t431] (fun _ => True) (fun _ => False) rfl rfl ?aP (fun _ hk => hk.elim) ?aF ?aO (Below.refl _ _) ?aS ?aL ?_; (case aP => exact rfl); (case aF => exact (fun _ _ => trivial)); (case aO => exact (rU HO_3)); (case aS => exact (keep_size (w := w) (g := g) (row := none) kK)); (case aL => have := LMc20.out; omega); intro v447 w33 ho hb hg hat; rw [← Ny446.out] at ho; have n0_ := Mk (IsS64.grown (hI HI0) hg (IsS64.own_ne HI0.out HO_3.out (by decide))); have n1_ := Mk (below_weaken bB HL.out hb); have n2_ := Mk (KeepBut.trans kK (KeepBut.of_grown hg g) (Kd.R_base2 HO_3.out)); have n3_ := Mk (ho); clear HI0; clear HB; clear HK; clear HO_3; have HI0 := n0_; have HB := n1_; have HK := n2_; have HO448 := n3_; clear n0_ n1_ n2_ n3_; clear ho hb hg hat) | ((with_reducible refine gate_callee (f := 66) rfl ?_); refine goesL_ (some 22) rfl rfl Tryz.func66 kR rfl #[.pointer (some ⟨g, 0, none⟩), .string (⟨#[44]⟩ : ByteArray)] rfl mA ?_; (with_reducible refine (req_reader_is.calls g t443 t444 t445 (⟨#[44]⟩ : ByteArray) false t450 t451 t452 w0 _ ?side1 ?side2 A21.out).mono ?_); (case side1 => exact hI HI0); (case side2 => exact bB); rintro e w34 ⟨rfl, hi, hb, hk⟩; refine ⟨_, rfl, ?_⟩; replace HO448 := Mk (Kd.R_mono (Kd.R_keep (IsS64.apart (show IsS64 w0 _ g t443 t444 t445 from hI HI0) (rU HO448) (by decide)) hk (fun _ h => h.2)) (fun _ h => h.1)); replace HK := Mk (KeepBut.trans kK hk (.inl rfl)); replace HB := Mk (hb); replace HI0 := Mk (hi); clear hb hk hi))
       go_ret
       exact ⟨_, eW, by (repeat apply Rup); exact HO448.out, hI HI0, bB, kK⟩
     ·rw [if_neg c20] at H
      exact absurd H (by simp)
   ·rw [if_neg c2] at H
    have c2b0 := beq_eq_false_iff_ne.mpr c2
    have c2b1 := bne_iff_ne.mpr c2
    simp only [Option.some.injEq, Prod.mk.injEq] at H
    obtain ⟨rfl, rfl, rfl, rfl⟩ := H
    obtain ⟨HGz35, hgz35⟩ := HI0.out
    have hcz35_0 := cellS64_0 HGz35
    have hcz35_1 := cellS64_1 HGz35
    have hcz35_2 := cellS64_2 HGz35
    have hfz35_0 := blk_frozen HGz35 0
    have hfz35_1 := blk_frozen HGz35 1
    have hfz35_2 := blk_frozen HGz35 2
    clear HGz35 hgz35
    go_wp2
    go_ret
    exact ⟨_, eW, by (repeat apply Rup); exact HO_3.out, hI HI0, bB, kK⟩
end Go.Proofs.YtcpjlbdjnaaaiaaGreatDoor.PAll
