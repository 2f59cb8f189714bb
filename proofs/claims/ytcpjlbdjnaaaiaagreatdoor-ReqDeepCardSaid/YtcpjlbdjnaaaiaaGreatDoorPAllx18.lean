import Derived.Test.YtcpjlbdjnaaaiaaGreatDoorPk
import Derived.Test.YtcpjlbdjnaaaiaaGreatDoorPAllx0
import Derived.Test.YtcpjlbdjnaaaiaaGreatDoorPAllx4
import Derived.Test.YtcpjlbdjnaaaiaaGreatDoorPAllx14
import Derived.Test.YtcpjlbdjnaaaiaaGreatDoorPAllx15
import Derived.Test.YtcpjlbdjnaaaiaaGreatDoorPAllx16
import Derived.Test.YtcpjlbdjnaaaiaaGreatDoorPAllx17
namespace Go.Proofs.YtcpjlbdjnaaaiaaGreatDoor.PAll
open Go.Proofs.YtcpjlbdjnaaaiaaGreatDoor.Help
open Go.RowKit Go.Proofs.YtcpjlbdjnaaaiaaGreatDoorW.PrintWords Go.Proofs.YtcpjlbdjnaaaiaaGreatDoorW.PrintLast Go.Proofs.YtcpjlbdjnaaaiaaGreatDoorW.PrintMore
set_option linter.unusedVariables false
set_option linter.unusedSimpArgs false
mutual
def req_reader_pred.j0 : Nat → Int → Bool → ByteArray → Int → Int → Int → Int → Int → Int → ByteArray → (Nat × Nat) → (Nat × Nat) → (Nat × Nat) → Option (Int × Int × Int × Int × ByteArray × (Nat × Nat) × (Nat × Nat) × (Nat × Nat) × (List (S30)) × ByteArray × Int × Int)
 | 0, _, _, _, _, _, _, _, _, _, _, _, _, _ => none
 | k + 1, x1, x41, x1000, x1001, x1002, x339000, x339001, x339002, x339003, x339004, x339005, x339006, x339007 => if x41 = true then ((req_reader_kids.f k x1000 x1001 x1002 x1 2 8).bind fun bt348 => (some (x339000, x339001, x339002, x339003, x339004, x339005, x339006, x339007, bt348.1, bt348.2.1, bt348.2.2.1, bt348.2.2.2))) else (if x339000 = 7 then ((req_reader_column.f k x1000 x1001 x1002).bind fun bt354 => (some (x339000, bt354.1, x339002, x339003, x339004, x339005, x339006, x339007, ([] : List (S30)), bt354.2.1, bt354.2.2.1, bt354.2.2.2))) else (if x339000 = 8 then ((req_reader_column.f k x1000 x1001 x1002).bind fun bt358 => ((req_reader_corner.f k bt358.2.1 bt358.2.2.1 bt358.2.2.2).bind fun bt362 => ((req_reader_corner.f k bt362.2.1 bt362.2.2.1 bt362.2.2.2).bind fun bt366 => (some (x339000, bt358.1, x339002, x339003, x339004, x339005, bt362.1, bt366.1, ([] : List (S30)), bt366.2.1, bt366.2.2.1, bt366.2.2.2))))) else ((req_reader_column.f k x1000 x1001 x1002).bind fun bt370 => ((req_reader_value.f k bt370.2.1 bt370.2.2.1 bt370.2.2.2).bind fun bt374 => (some (x339000, bt370.1, bt374.1, bt374.2.1, bt374.2.2.1, bt374.2.2.2.1, x339006, x339007, ([] : List (S30)), bt374.2.2.2.2.1, bt374.2.2.2.2.2.1, bt374.2.2.2.2.2.2))))))
def req_reader_pred.f : Nat → ByteArray → Int → Int → Int → Option (Int × Int × Int × Int × ByteArray × (Nat × Nat) × (Nat × Nat) × (Nat × Nat) × (List (S30)) × ByteArray × Int × Int)
 | 0, _, _, _, _ => none
 | k + 1, s0_0, s0_1, s0_2, a1 => if a1 > 8 then ((req_reader_wrong.f s0_0 s0_1 s0_2 16).bind fun bt327 => (some (0, 0, 0, 0, (⟨#[]⟩ : ByteArray), ((0, 0) : Nat × Nat), ((0, 0) : Nat × Nat), ((0, 0) : Nat × Nat), ([] : List (S30)), bt327.1, bt327.2.1, bt327.2.2))) else ((req_signs.f).bind fun t330 => ((req_reader_upTo.f s0_0 s0_1 s0_2 (⟨#[32, 40, 41, 44, 59]⟩ : ByteArray)).bind fun bt333 => ((slices_Index_string_string.f k t330 bt333.1).bind fun t337 => (if (wrap64 (t337 + 1)) = 0 then ((req_reader_wrong.f bt333.2.1 bt333.2.2.1 bt333.2.2.2 2).bind fun bt339 => (some (wrap64 (t337 + 1), 0, 0, 0, (⟨#[]⟩ : ByteArray), ((0, 0) : Nat × Nat), ((0, 0) : Nat × Nat), ((0, 0) : Nat × Nat), ([] : List (S30)), bt339.1, bt339.2.1, bt339.2.2))) else (if (wrap64 (t337 + 1)) = 12 then (some (wrap64 (t337 + 1), 0, 0, 0, (⟨#[]⟩ : ByteArray), ((0, 0) : Nat × Nat), ((0, 0) : Nat × Nat), ((0, 0) : Nat × Nat), ([] : List (S30)), bt333.2.1, bt333.2.2.1, bt333.2.2.2)) else (if (wrap64 (t337 + 1)) = 11 then ((req_reader_kids.f k bt333.2.1 bt333.2.2.1 bt333.2.2.2 a1 1 1).bind fun bt342 => (some (wrap64 (t337 + 1), 0, 0, 0, (⟨#[]⟩ : ByteArray), ((0, 0) : Nat × Nat), ((0, 0) : Nat × Nat), ((0, 0) : Nat × Nat), bt342.1, bt342.2.1, bt342.2.2.1, bt342.2.2.2))) else (if (wrap64 (t337 + 1)) = 9 then (req_reader_pred.j0 k a1 true bt333.2.1 bt333.2.2.1 bt333.2.2.2 (wrap64 (t337 + 1)) 0 0 0 (⟨#[]⟩ : ByteArray) ((0, 0) : Nat × Nat) ((0, 0) : Nat × Nat) ((0, 0) : Nat × Nat)) else (req_reader_pred.j0 k a1 ((wrap64 (t337 + 1)) == 10) bt333.2.1 bt333.2.2.1 bt333.2.2.2 (wrap64 (t337 + 1)) 0 0 0 (⟨#[]⟩ : ByteArray) ((0, 0) : Nat × Nat) ((0, 0) : Nat × Nat) ((0, 0) : Nat × Nat)))))))))
def req_reader_kids.j1 : Nat → Int → Int → List (S30) → ByteArray → Int → Int → Option ((List (S30)) × ByteArray × Int × Int)
 | 0, _, _, _, _, _, _ => none
 | k + 1, x2, x3, x9, x1000, x1001, x1002 => (req_reader_sign.f k x1000 x1001 x1002 (⟨#[41]⟩ : ByteArray)).bind fun bt470 => (if (x9.length : Int) < x2 then ((req_reader_wrong.f bt470.1 bt470.2.1 bt470.2.2 2).bind fun bt473 => (some (x9, bt473.1, bt473.2.1, bt473.2.2))) else (if (x9.length : Int) > x3 then ((req_reader_wrong.f bt470.1 bt470.2.1 bt470.2.2 2).bind fun bt476 => (some (x9, bt476.1, bt476.2.1, bt476.2.2))) else (some (x9, bt470.1, bt470.2.1, bt470.2.2))))
def req_reader_kids.l0 : Nat → Int → Int → Int → List (S30) → ByteArray → Int → Int → Option ((List (S30)) × ByteArray × Int × Int)
 | 0, _, _, _, _, _, _, _ => none
 | k + 1, x1, x2, x3, x9, x1000, x1001, x1002 => if x1002 = 0 then ((req_reader_pred.f k x1000 x1001 x1002 (wrap64 (x1 + 1))).bind fun bt449 => (if x9.length < 1172812402961 then ((some (x9 ++ [(⟨bt449.1, bt449.2.1, (⟨bt449.2.2.1, bt449.2.2.2.1, bt449.2.2.2.2.1, bt449.2.2.2.2.2.1⟩ : S25), (⟨bt449.2.2.2.2.2.2.1, bt449.2.2.2.2.2.2.2.1⟩ : S27), bt449.2.2.2.2.2.2.2.2.1⟩ : S30)] : List (S30))).bind fun y463 => ((req_reader_is.f bt449.2.2.2.2.2.2.2.2.2.1 bt449.2.2.2.2.2.2.2.2.2.2.1 bt449.2.2.2.2.2.2.2.2.2.2.2 (⟨#[59]⟩ : ByteArray)).bind fun bt466 => (if bt466.1 = true then (req_reader_kids.l0 k x1 x2 x3 y463 bt466.2.1 bt466.2.2.1 bt466.2.2.2) else (req_reader_kids.j1 k x2 x3 y463 bt466.2.1 bt466.2.2.1 bt466.2.2.2)))) else (none))) else (req_reader_kids.j1 k x2 x3 x9 x1000 x1001 x1002)
def req_reader_kids.f : Nat → ByteArray → Int → Int → Int → Int → Int → Option ((List (S30)) × ByteArray × Int × Int)
 | 0, _, _, _, _, _, _ => none
 | k + 1, s0_0, s0_1, s0_2, a1, a2, a3 => (req_reader_sign.f k s0_0 s0_1 s0_2 (⟨#[40]⟩ : ByteArray)).bind fun bt446 => (req_reader_kids.l0 k a1 a2 a3 ([] : List (S30)) bt446.1 bt446.2.1 bt446.2.2)
end
@[reducible] def req_reader_pred.Has (k : Nat) : Prop := ∀ (g : Nat) (s0_0 : ByteArray) (s0_1 : Int) (s0_2 : Int) (a1 : Int) (r1 : Int) (r2 : Int) (r3 : Int) (r4 : Int) (r5 : ByteArray) (r6 : (Nat × Nat)) (r7 : (Nat × Nat)) (r8 : (Nat × Nat)) (r9 : List (S30)) (r10 : ByteArray) (r11 : Int) (r12 : Int) (w0 w : World) (hI : IsS64 w0 w g s0_0 s0_1 s0_2) (hB : Below w0.heap.size w0 w) (h : req_reader_pred.f k s0_0 s0_1 s0_2 a1 = some (r1, r2, r3, r4, r5, r6, r7, r8, r9, r10, r11, r12)) (hG_ : Glob w0),
  Calls Tryz.prog 24 #[.pointer (some ⟨g, 0, none⟩), .int .i64 a1] w fun e w' => ∃ v8_ : Value, e = .returned (.agg #[.int .i64 r1, .int .i64 r2, .int .i64 r3, .int .i64 r4, .string r5, .complex .f64 r6.1 r6.2, .complex .f64 r7.1 r7.2, .complex .f64 r8.1 r8.2, v8_]) ∧ Kd.R k30 30 w' w.heap.size (fun _ => True) v8_ r9 ∧ IsS64 w0 w' g r10 r11 r12 ∧ Below w0.heap.size w0 w' ∧ KeepBut w w' g none
set_option maxHeartbeats 8000000 in
set_option maxRecDepth 100000 in
theorem req_reader_kids.calls (k : Nat) (ihP : ∀ j, j < k → req_reader_pred.Has j) (g : Nat) (s0_0 : ByteArray) (s0_1 : Int) (s0_2 : Int) (a1 : Int) (a2 : Int) (a3 : Int) (r1 : List (S30)) (r2 : ByteArray) (r3 : Int) (r4 : Int) (w0 w : World) (hI : IsS64 w0 w g s0_0 s0_1 s0_2) (hB : Below w0.heap.size w0 w) (h : req_reader_kids.f k s0_0 s0_1 s0_2 a1 a2 a3 = some (r1, r2, r3, r4)) (hG_ : Glob w0) :
  Calls Tryz.prog 59 #[.pointer (some ⟨g, 0, none⟩), .int .i64 a1, .int .i64 a2, .int .i64 a3] w fun e w' => ∃ v0_ : Value, e = .returned (v0_) ∧ Kd.R k30 30 w' w.heap.size (fun _ => True) v0_ r1 ∧ IsS64 w0 w' g r2 r3 r4 ∧ Below w0.heap.size w0 w' ∧ KeepBut w w' g none := by
 rcases k with _ | k
 ·exact absurd h (by simp [req_reader_kids.f])
 have HG_ := Mk hG_
 clear hG_
 have HI0 := Mk hI
 have HK := Mk (KeepBut.refl w g none)
 have HL := Mk hB.size
 clear hI
 have HW0 := Mk hB.size
 have HB := Mk hB
 clear hB
 have H : ((req_reader_sign.f k s0_0 s0_1 s0_2 (⟨#[40]⟩ : ByteArray)).bind fun bt446 => (req_reader_kids.l0 k a1 a2 a3 ([] : List (S30)) bt446.1 bt446.2.1 bt446.2.2)) = some (r1, r2, r3, r4) := h
 clear h
 replace H := Option.bind_eq_some_iff.mp H
 obtain ⟨⟨t446, t447, t448⟩, A50, H⟩ := H
 try dsimp only at H
 have A5 := Mk A50
 clear A50
 have HC6 := Mk H
 clear H
 go_enter Tryz.func59, Tryz.ntmps59
 go_upto_block 0 with (first | ((with_reducible refine gate_callee (f := 36) rfl ?_); refine goesL_ (some 11) rfl rfl Tryz.func36 kR rfl #[.pointer (some ⟨g, 0, none⟩), .string (⟨#[40]⟩ : ByteArray)] rfl mA ?_; (with_reducible refine (req_reader_sign.calls k g s0_0 s0_1 s0_2 (⟨#[40]⟩ : ByteArray) t446 t447 t448 w0 _ ?side1 ?side2 A5.out).mono ?_); (case side1 => exact hI HI0); (case side2 => exact bB); rintro e w7 ⟨rfl, hi, hb, hk⟩; refine ⟨_, rfl, ?_⟩; replace HK := Mk (KeepBut.trans kK hk (.inl rfl)); replace HB := Mk (hb); replace HI0 := Mk (hi); clear hb hk hi))
 (try simp only [Act.put, List.setIfInBounds_toArray, List.set_cons_zero, List.set_cons_succ])
 go_cut [9] (fun v9 wc => ∃ (kq : Nat) (x9_5 : List (S30)) (x1000_5 : ByteArray) (x1001_5 : Int) (x1002_5 : Int), Aside0 (req_reader_kids.j1 kq a2 a3 x9_5 x1000_5 x1001_5 x1002_5 = some (r1, r2, r3, r4)) ∧ Aside0 (kq ≤ k) ∧ Aside0 (Kd.R k30 30 wc w.heap.size (fun _ => True) v9 x9_5) ∧ Aside0 (IsS64 w0 wc g x1000_5 x1001_5 x1002_5) ∧ Aside0 (KeepBut w wc g none) ∧ Aside0 (Below w0.heap.size w0 wc))
 case first =>
  have H := HC6.out
  clear HC6
  have H' := Mk H
  clear H
  go_wp2
  go_loopg [9] k (fun kq v9 w' => ∃ (x9_1 : List (S30)) (x1000_1 : ByteArray) (x1001_1 : Int) (x1002_1 : Int), Aside0 (req_reader_kids.l0 kq a1 a2 a3 x9_1 x1000_1 x1001_1 x1002_1 = some (r1, r2, r3, r4)) ∧ Aside0 (kq ≤ k) ∧ Aside0 (Kd.R k30 30 w' w.heap.size (fun _ => True) v9 x9_1) ∧ Aside0 (IsS64 w0 w' g x1000_1 x1001_1 x1002_1) ∧ Aside0 (KeepBut w w' g none) ∧ Aside0 (Below w0.heap.size w0 w'))
  case atStart => exact ⟨(([] : List (S30))), (t446), (t447), (t448), H', ⟨Nat.le_refl _⟩, ⟨by first | exact Kd.R_nil _ _ _ _ _ | exact Kd.N_nil _ _ _ _ _ | exact Kd.V_nil _ _ _ _ _ | exact Kd.Q_nil _ _ _ _ _ | exact Kd.S_nil _ _ _ _ _⟩, ⟨hI HI0⟩, ⟨kK⟩, ⟨bB⟩⟩
  case round =>
   clear H'
   try clear p2
   try clear c3
   try clear c5
   obtain ⟨x9_1, x1000_1, x1001_1, x1002_1, HA, HK1, HO_9, HI0, HK, HB⟩ := hrel
   cases gk with
   | zero => exact absurd HA.out (by simp [req_reader_kids.l0])
   | succ k1 =>
    have H := HA.out
    clear HA
    simp only [req_reader_kids.l0] at H
    by_cases c8 : x1002_1 = 0
    ·rw [if_pos c8] at H
     have c8b0 := beq_iff_eq.mpr c8
     have c8b1 := bne_eq_false_iff_eq.mpr c8
     clear c8
     (first | rw [c8b0] | (simp only [i64_w, i32_w]; rw [c8b0]) | skip)
     replace H := Option.bind_eq_some_iff.mp H
     obtain ⟨⟨t449, t450, t451, t452, t453, t454, t455, t456, t457, t460, t461, t462⟩, A90, H⟩ := H
     try dsimp only at H
     have A9 := Mk A90
     clear A90
     by_cases c10 : x9_1.length < 1172812402961
     ·rw [if_pos c10] at H
      have LMc10 := Mk c10
      clear c10
      obtain ⟨y463, hy463⟩ : ∃ y_ : List (S30), y_ = (x9_1 ++ [(⟨t449, t450, (⟨t451, t452, t453, t454⟩ : S25), (⟨t455, t456⟩ : S27), t457⟩ : S30)]) := ⟨_, rfl⟩
      replace H : ((req_reader_is.f t460 t461 t462 (⟨#[59]⟩ : ByteArray)).bind fun bt466 => (if bt466.1 = true then (req_reader_kids.l0 k1 a1 a2 a3 y463 bt466.2.1 bt466.2.2.1 bt466.2.2.2) else (req_reader_kids.j1 k1 a2 a3 y463 bt466.2.1 bt466.2.2.1 bt466.2.2.2))) = some (r1, r2, r3, r4) := by first | (rw [hy463]; with_reducible exact H) | (have H2_ := (Option.bind_some _ _).symm.trans H; rw [hy463]; with_reducible exact H2_) | (have H2_ := (Option.bind_some _ _).symm.trans H; with_reducible exact H2_) | with_reducible exact H | (rw [hy463]; exact H) | exact H
      have Ny463 := Mk hy463
      clear hy463
      replace H := Option.bind_eq_some_iff.mp H
      obtain ⟨⟨t466, t467, t468, t469⟩, A110, H⟩ := H
      try dsimp only at H
      have A11 := Mk A110
      clear A110
      by_cases c12 : t466 = true
      ·subst c12
       rw [if_pos rfl] at H
       try dsimp only at H
       have H' := Mk H
       clear H
       obtain ⟨HGz13, hgz13⟩ := HI0.out
       have hcz13_0 := cellS64_0 HGz13
       have hcz13_1 := cellS64_1 HGz13
       have hcz13_2 := cellS64_2 HGz13
       have hfz13_0 := blk_frozen HGz13 0
       have hfz13_1 := blk_frozen HGz13 1
       have hfz13_2 := blk_frozen HGz13 2
       clear HGz13 hgz13
       go_wp2_with (first | ((with_reducible refine gate_callee (f := 24) rfl ?_); refine goesL_ (some 21) rfl rfl Tryz.func24 kR rfl #[.pointer (some ⟨g, 0, none⟩), .int .i64 (wrap64 (a1 + 1))] rfl mA ?_; (with_reducible refine (ihP k1 (by first | omega | (have := HK1.out; omega)) g x1000_1 x1001_1 x1002_1 (wrap64 (a1 + 1)) t449 t450 t451 t452 t453 t454 t455 t456 t457 t460 t461 t462 w0 _ ?side1 ?side2 A9.out HG_.out).mono ?_); (case side1 => exact hI HI0); (case side2 => exact bB); rintro e w14 ⟨v458, rfl, ho0, hi, hb, hk⟩; refine ⟨_, rfl, ?_⟩; have HO459 := Mk (Kd.R_lower (Kd.R_new' ho0 (Kd.R_lt (rU HO_9))) (keep_size (w := w) (g := g) (row := none) kK)); replace HO_9 := Mk (Kd.R_mono (Kd.R_told (Kd.R_oldK (IsS64.apart (show IsS64 w0 _ g x1000_1 x1001_1 x1002_1 from hI HI0) (rU HO_9) (by decide)) hk) (Kd.R_base ho0)) (fun _ h_ => h_.1)); replace HK := Mk (KeepBut.trans kK hk (.inl rfl)); replace HB := Mk (hb); replace HI0 := Mk (hi); clear hb hk hi ho0; obtain ⟨Ao16, co16, eo16⟩ := Kd.R_slice HO459.out; subst eo16) | ((with_reducible refine gate_builtin (b := .append) (xs := #[.tmp 17, .tmp 22]) rfl ?_); (try (refine gate_guard (by rfl) ?_; dsimp only)); at_builtin; refine Kd.R_append k30 w.heap.size rfl (.tmp 17) (.tmp 22) 28 30 (.agg #[(.int .i64 0), (.int .i64 0), (.int .i64 0), (.int .i64 0), (.string ⟨#[]⟩), (.complex .f64 0 0), (.complex .f64 0 0), (.complex .f64 0 0), (.slice none 0 0)]) 120 rfl Tryz.underlying28 info30 rfl (by decide) (by omega) u9 x9_1 (⟨t449, t450, (⟨t451, t452, t453, t454⟩ : S25), (⟨t455, t456⟩ : S27), t457⟩ : S30) [.int .i64 t449, .int .i64 t450, .int .i64 t451, .int .i64 t452, .string t453, .complex .f64 t454.1 t454.2, .complex .f64 t455.1 t455.2, .complex .f64 t456.1 t456.2, .slice Ao16 t457.length co16] (fun _ => True) (fun k_ => ((fun _ => True)) k_ ∧ some k_ ≠ (u9 : Value).ownBlock) rfl rfl ?aP (fun _ hk => hk) ?aF ?aO (Below.refl _ _) ?aS ?aL ?_; (case aP => exact k30_mkM _ _ _ (⟨t449, t450, (⟨t451, t452, t453, t454⟩ : S25), (⟨t455, t456⟩ : S27), t457⟩ : S30) (Kd.R_mono (HO459.out) (fun k_ hk => ⟨trivial, hk.2⟩))); (case aF => exact (fun _ _ => trivial)); (case aO => exact (by (repeat apply Rup); exact Kd.R_mono HO_9.out (fun _ hk => trivial))); (case aS => exact (keep_size (w := w) (g := g) (row := none) kK)); (case aL => have := LMc10.out; omega); intro v464 w15 ho hb hg hat; rw [← Ny463.out] at ho; have n0_ := Mk (IsS64.grown (hI HI0) hg (IsS64.own_ne HI0.out HO_9.out (by decide))); have n1_ := Mk (below_weaken bB HL.out hb); have n2_ := Mk (KeepBut.trans kK (KeepBut.of_grown hg g) (Kd.R_base2 HO_9.out)); have n3_ := Mk (ho); clear HI0; clear HB; clear HK; clear HO_9; clear HO459; have HI0 := n0_; have HB := n1_; have HK := n2_; have HO465 := n3_; clear n0_ n1_ n2_ n3_; clear ho hb hg hat) | ((with_reducible refine gate_callee (f := 66) rfl ?_); refine goesL_ (some 25) rfl rfl Tryz.func66 kR rfl #[.pointer (some ⟨g, 0, none⟩), .string (⟨#[59]⟩ : ByteArray)] rfl mA ?_; (with_reducible refine (req_reader_is.calls g t460 t461 t462 (⟨#[59]⟩ : ByteArray) true t467 t468 t469 w0 _ ?side1 ?side2 A11.out).mono ?_); (case side1 => exact hI HI0); (case side2 => exact bB); rintro e w17 ⟨rfl, hi, hb, hk⟩; refine ⟨_, rfl, ?_⟩; replace HO465 := Mk (Kd.R_mono (Kd.R_keep (IsS64.apart (show IsS64 w0 _ g t460 t461 t462 from hI HI0) (rU HO465) (by decide)) hk (fun _ h => h.2)) (fun _ h => h.1)); replace HK := Mk (KeepBut.trans kK hk (.inl rfl)); replace HB := Mk (hb); replace HI0 := Mk (hi); clear hb hk hi))
       go_roundg k1
       case measure => have := HK1.out; omega
       case rel => exact ⟨(y463), (t467), (t468), (t469), H', ⟨by have := HK1.out; omega⟩, ⟨rU HO465⟩, ⟨hI HI0⟩, ⟨kK⟩, ⟨bB⟩⟩
      ·replace c12 := Bool.eq_false_iff.mpr c12
       subst c12
       rw [if_neg (show ¬ (false = true) by decide)] at H
       try dsimp only at H
       have H' := Mk H
       clear H
       obtain ⟨HGz18, hgz18⟩ := HI0.out
       have hcz18_0 := cellS64_0 HGz18
       have hcz18_1 := cellS64_1 HGz18
       have hcz18_2 := cellS64_2 HGz18
       have hfz18_0 := blk_frozen HGz18 0
       have hfz18_1 := blk_frozen HGz18 1
       have hfz18_2 := blk_frozen HGz18 2
       clear HGz18 hgz18
       go_wp2_with (first | ((with_reducible refine gate_callee (f := 24) rfl ?_); refine goesL_ (some 21) rfl rfl Tryz.func24 kR rfl #[.pointer (some ⟨g, 0, none⟩), .int .i64 (wrap64 (a1 + 1))] rfl mA ?_; (with_reducible refine (ihP k1 (by first | omega | (have := HK1.out; omega)) g x1000_1 x1001_1 x1002_1 (wrap64 (a1 + 1)) t449 t450 t451 t452 t453 t454 t455 t456 t457 t460 t461 t462 w0 _ ?side1 ?side2 A9.out HG_.out).mono ?_); (case side1 => exact hI HI0); (case side2 => exact bB); rintro e w19 ⟨v458, rfl, ho0, hi, hb, hk⟩; refine ⟨_, rfl, ?_⟩; have HO459 := Mk (Kd.R_lower (Kd.R_new' ho0 (Kd.R_lt (rU HO_9))) (keep_size (w := w) (g := g) (row := none) kK)); replace HO_9 := Mk (Kd.R_mono (Kd.R_told (Kd.R_oldK (IsS64.apart (show IsS64 w0 _ g x1000_1 x1001_1 x1002_1 from hI HI0) (rU HO_9) (by decide)) hk) (Kd.R_base ho0)) (fun _ h_ => h_.1)); replace HK := Mk (KeepBut.trans kK hk (.inl rfl)); replace HB := Mk (hb); replace HI0 := Mk (hi); clear hb hk hi ho0; obtain ⟨Ao21, co21, eo21⟩ := Kd.R_slice HO459.out; subst eo21) | ((with_reducible refine gate_builtin (b := .append) (xs := #[.tmp 17, .tmp 22]) rfl ?_); (try (refine gate_guard (by rfl) ?_; dsimp only)); at_builtin; refine Kd.R_append k30 w.heap.size rfl (.tmp 17) (.tmp 22) 28 30 (.agg #[(.int .i64 0), (.int .i64 0), (.int .i64 0), (.int .i64 0), (.string ⟨#[]⟩), (.complex .f64 0 0), (.complex .f64 0 0), (.complex .f64 0 0), (.slice none 0 0)]) 120 rfl Tryz.underlying28 info30 rfl (by decide) (by omega) u9 x9_1 (⟨t449, t450, (⟨t451, t452, t453, t454⟩ : S25), (⟨t455, t456⟩ : S27), t457⟩ : S30) [.int .i64 t449, .int .i64 t450, .int .i64 t451, .int .i64 t452, .string t453, .complex .f64 t454.1 t454.2, .complex .f64 t455.1 t455.2, .complex .f64 t456.1 t456.2, .slice Ao21 t457.length co21] (fun _ => True) (fun k_ => ((fun _ => True)) k_ ∧ some k_ ≠ (u9 : Value).ownBlock) rfl rfl ?aP (fun _ hk => hk) ?aF ?aO (Below.refl _ _) ?aS ?aL ?_; (case aP => exact k30_mkM _ _ _ (⟨t449, t450, (⟨t451, t452, t453, t454⟩ : S25), (⟨t455, t456⟩ : S27), t457⟩ : S30) (Kd.R_mono (HO459.out) (fun k_ hk => ⟨trivial, hk.2⟩))); (case aF => exact (fun _ _ => trivial)); (case aO => exact (by (repeat apply Rup); exact Kd.R_mono HO_9.out (fun _ hk => trivial))); (case aS => exact (keep_size (w := w) (g := g) (row := none) kK)); (case aL => have := LMc10.out; omega); intro v464 w20 ho hb hg hat; rw [← Ny463.out] at ho; have n0_ := Mk (IsS64.grown (hI HI0) hg (IsS64.own_ne HI0.out HO_9.out (by decide))); have n1_ := Mk (below_weaken bB HL.out hb); have n2_ := Mk (KeepBut.trans kK (KeepBut.of_grown hg g) (Kd.R_base2 HO_9.out)); have n3_ := Mk (ho); clear HI0; clear HB; clear HK; clear HO_9; clear HO459; have HI0 := n0_; have HB := n1_; have HK := n2_; have HO465 := n3_; clear n0_ n1_ n2_ n3_; clear ho hb hg hat) | ((with_reducible refine gate_callee (f := 66) rfl ?_); refine goesL_ (some 25) rfl rfl Tryz.func66 kR rfl #[.pointer (some ⟨g, 0, none⟩), .string (⟨#[59]⟩ : ByteArray)] rfl mA ?_; (with_reducible refine (req_reader_is.calls g t460 t461 t462 (⟨#[59]⟩ : ByteArray) false t467 t468 t469 w0 _ ?side1 ?side2 A11.out).mono ?_); (case side1 => exact hI HI0); (case side2 => exact bB); rintro e w22 ⟨rfl, hi, hb, hk⟩; refine ⟨_, rfl, ?_⟩; replace HO465 := Mk (Kd.R_mono (Kd.R_keep (IsS64.apart (show IsS64 w0 _ g t460 t461 t462 from hI HI0) (rU HO465) (by decide)) hk (fun _ h => h.2)) (fun _ h => h.1)); replace HK := Mk (KeepBut.trans kK hk (.inl rfl)); replace HB := Mk (hb); replace HI0 := Mk (hi); clear hb hk hi))
       go_meet
       case rel => exact ⟨_, (y463), (t467), (t468), (t469), H', ⟨by have := HK1.out; first | omega | exact Nat.le_refl _⟩, ⟨rU HO465⟩, ⟨hI HI0⟩, ⟨kK⟩, ⟨bB⟩⟩
     ·rw [if_neg c10] at H
      exact absurd H (by simp)
    ·rw [if_neg c8] at H
     have c8b0 := beq_eq_false_iff_ne.mpr c8
     have c8b1 := bne_iff_ne.mpr c8
     (first | rw [c8b0] | (simp only [i64_w, i32_w]; rw [c8b0]) | skip)
     have H' := Mk H
     clear H
     obtain ⟨HGz23, hgz23⟩ := HI0.out
     have hcz23_0 := cellS64_0 HGz23
     have hcz23_1 := cellS64_1 HGz23
     have hcz23_2 := cellS64_2 HGz23
     have hfz23_0 := blk_frozen HGz23 0
     have hfz23_1 := blk_frozen HGz23 1
     have hfz23_2 := blk_frozen HGz23 2
     clear HGz23 hgz23
     go_wp2
     go_meet
     case rel => exact ⟨_, (x9_1), (x1000_1), (x1001_1), (x1002_1), H', ⟨by have := HK1.out; first | omega | exact Nat.le_refl _⟩, ⟨rU HO_9⟩, ⟨hI HI0⟩, ⟨kK⟩, ⟨bB⟩⟩
 case rest =>
  clear HC6
  try clear c1
  try clear c2
  try clear p2
  try clear c3
  try clear c5
  try clear c6
  try clear p6
  try clear c8
  try clear c8b0
  try clear c8b1
  try clear c10
  try clear c12
  try clear p2
  obtain ⟨kq, x9_5, x1000_5, x1001_5, x1002_5, HA, HJ5, HO_9, HI0, HK, HB⟩ := hcut
  cases kq with
  | zero => exact absurd HA.out (by simp [req_reader_kids.j1])
  | succ kj5 =>
   have H := HA.out
   clear HA
   simp only [req_reader_kids.j1] at H
   replace H := Option.bind_eq_some_iff.mp H
   obtain ⟨⟨t470, t471, t472⟩, A240, H⟩ := H
   try dsimp only at H
   have A24 := Mk A240
   clear A240
   by_cases c25 : (x9_5.length : Int) < a2
   ·rw [if_pos c25] at H
    have c25b0 := decide_eq_true c25
    clear c25
    replace H := Option.bind_eq_some_iff.mp H
    obtain ⟨⟨t473, t474, t475⟩, A260, H⟩ := H
    try dsimp only at H
    have A26 := Mk A260
    clear A260
    simp only [Option.some.injEq, Prod.mk.injEq] at H
    obtain ⟨rfl, rfl, rfl, rfl⟩ := H
    go_wp2_with (first | ((with_reducible refine gate_callee (f := 36) rfl ?_); refine goesL_ (some 28) rfl rfl Tryz.func36 kR rfl #[.pointer (some ⟨g, 0, none⟩), .string (⟨#[41]⟩ : ByteArray)] rfl mA ?_; (with_reducible refine (req_reader_sign.calls kj5 g x1000_5 x1001_5 x1002_5 (⟨#[41]⟩ : ByteArray) t470 t471 t472 w0 _ ?side1 ?side2 A24.out).mono ?_); (case side1 => exact hI HI0); (case side2 => exact bB); rintro e w27 ⟨rfl, hi, hb, hk⟩; refine ⟨_, rfl, ?_⟩; replace HO_9 := Mk (Kd.R_mono (Kd.R_keep (IsS64.apart (show IsS64 w0 _ g x1000_5 x1001_5 x1002_5 from hI HI0) (rU HO_9) (by decide)) hk (fun _ h => h.2)) (fun _ h => h.1)); replace HK := Mk (KeepBut.trans kK hk (.inl rfl)); replace HB := Mk (hb); replace HI0 := Mk (hi); clear hb hk hi; obtain ⟨Ao28, co28, eo28⟩ := Kd.R_slice HO_9.out; subst eo28) | ((with_reducible refine gate_callee (f := 57) rfl ?_); refine goesL_ (some 40) rfl rfl Tryz.func57 kR rfl #[.pointer (some ⟨g, 0, none⟩), .int .i64 2] rfl mA ?_; (with_reducible refine (req_reader_wrong.calls g t470 t471 t472 2 t473 t474 t475 w0 _ ?side1 ?side2 A26.out).mono ?_); (case side1 => exact hI HI0); (case side2 => exact bB); rintro e w29 ⟨rfl, hi, hb, hk⟩; refine ⟨_, rfl, ?_⟩; replace HO_9 := Mk (Kd.R_mono (Kd.R_keep (IsS64.apart (show IsS64 w0 _ g t470 t471 t472 from hI HI0) (rU HO_9) (by decide)) hk (fun _ h => h.2)) (fun _ h => h.1)); replace HK := Mk (KeepBut.trans kK hk (.inl rfl)); replace HB := Mk (hb); replace HI0 := Mk (hi); clear hb hk hi))
    go_ret
    exact ⟨_, eW, by (repeat apply Rup); exact HO_9.out, hI HI0, bB, kK⟩
   ·rw [if_neg c25] at H
    have c25b0 := decide_eq_false c25
    clear c25
    by_cases c30 : (x9_5.length : Int) > a3
    ·rw [if_pos c30] at H
     have c30b0 := decide_eq_true c30
     clear c30
     replace H := Option.bind_eq_some_iff.mp H
     obtain ⟨⟨t476, t477, t478⟩, A310, H⟩ := H
     try dsimp only at H
     have A31 := Mk A310
     clear A310
     simp only [Option.some.injEq, Prod.mk.injEq] at H
     obtain ⟨rfl, rfl, rfl, rfl⟩ := H
     go_wp2_with (first | ((with_reducible refine gate_callee (f := 36) rfl ?_); refine goesL_ (some 28) rfl rfl Tryz.func36 kR rfl #[.pointer (some ⟨g, 0, none⟩), .string (⟨#[41]⟩ : ByteArray)] rfl mA ?_; (with_reducible refine (req_reader_sign.calls kj5 g x1000_5 x1001_5 x1002_5 (⟨#[41]⟩ : ByteArray) t470 t471 t472 w0 _ ?side1 ?side2 A24.out).mono ?_); (case side1 => exact hI HI0); (case side2 => exact bB); rintro e w32 ⟨rfl, hi, hb, hk⟩; refine ⟨_, rfl, ?_⟩; replace HO_9 := Mk (Kd.R_mono (Kd.R_keep (IsS64.apart (show IsS64 w0 _ g x1000_5 x1001_5 x1002_5 from hI HI0) (rU HO_9) (by decide)) hk (fun _ h => h.2)) (fun _ h => h.1)); replace HK := Mk (KeepBut.trans kK hk (.inl rfl)); replace HB := Mk (hb); replace HI0 := Mk (hi); clear hb hk hi; obtain ⟨Ao33, co33, eo33⟩ := Kd.R_slice HO_9.out; subst eo33) | ((with_reducible refine gate_callee (f := 57) rfl ?_); refine goesL_ (some 40) rfl rfl Tryz.func57 kR rfl #[.pointer (some ⟨g, 0, none⟩), .int .i64 2] rfl mA ?_; (with_reducible refine (req_reader_wrong.calls g t470 t471 t472 2 t476 t477 t478 w0 _ ?side1 ?side2 A31.out).mono ?_); (case side1 => exact hI HI0); (case side2 => exact bB); rintro e w34 ⟨rfl, hi, hb, hk⟩; refine ⟨_, rfl, ?_⟩; replace HO_9 := Mk (Kd.R_mono (Kd.R_keep (IsS64.apart (show IsS64 w0 _ g t470 t471 t472 from hI HI0) (rU HO_9) (by decide)) hk (fun _ h => h.2)) (fun _ h => h.1)); replace HK := Mk (KeepBut.trans kK hk (.inl rfl)); replace HB := Mk (hb); replace HI0 := Mk (hi); clear hb hk hi))
     go_ret
     exact ⟨_, eW, by (repeat apply Rup); exact HO_9.out, hI HI0, bB, kK⟩
    ·rw [if_neg c30] at H
     have c30b0 := decide_eq_false c30
     clear c30
     simp only [Option.some.injEq, Prod.mk.injEq] at H
     obtain ⟨rfl, rfl, rfl, rfl⟩ := H
     go_wp2_with (first | ((with_reducible refine gate_callee (f := 36) rfl ?_); refine goesL_ (some 28) rfl rfl Tryz.func36 kR rfl #[.pointer (some ⟨g, 0, none⟩), .string (⟨#[41]⟩ : ByteArray)] rfl mA ?_; (with_reducible refine (req_reader_sign.calls kj5 g x1000_5 x1001_5 x1002_5 (⟨#[41]⟩ : ByteArray) t470 t471 t472 w0 _ ?side1 ?side2 A24.out).mono ?_); (case side1 => exact hI HI0); (case side2 => exact bB); rintro e w35 ⟨rfl, hi, hb, hk⟩; refine ⟨_, rfl, ?_⟩; replace HO_9 := Mk (Kd.R_mono (Kd.R_keep (IsS64.apart (show IsS64 w0 _ g x1000_5 x1001_5 x1002_5 from hI HI0) (rU HO_9) (by decide)) hk (fun _ h => h.2)) (fun _ h => h.1)); replace HK := Mk (KeepBut.trans kK hk (.inl rfl)); replace HB := Mk (hb); replace HI0 := Mk (hi); clear hb hk hi; obtain ⟨Ao36, co36, eo36⟩ := Kd.R_slice HO_9.out; subst eo36))
     go_ret
     exact ⟨_, eW, by (repeat apply Rup); exact HO_9.out, hI HI0, bB, kK⟩
set_option maxHeartbeats 8000000 in
set_option maxRecDepth 100000 in
theorem req_reader_pred.has : ∀ k, req_reader_pred.Has k := by
 refine fun k => Nat.strongRecOn k ?_
 intro k ih g s0_0 s0_1 s0_2 a1 r1 r2 r3 r4 r5 r6 r7 r8 r9 r10 r11 r12 w0 w hI hB h hG_
 rcases k with _ | k
 ·exact absurd h (by simp [req_reader_pred.f])
 have HG_ := Mk hG_
 clear hG_
 have hu30 := Tryz.underlying30
 have hu25 := Tryz.underlying25
 have HI0 := Mk hI
 have HK := Mk (KeepBut.refl w g none)
 have HL := Mk hB.size
 clear hI
 have HW0 := Mk hB.size
 have HB := Mk hB
 clear hB
 have H : (if a1 > 8 then ((req_reader_wrong.f s0_0 s0_1 s0_2 16).bind fun bt327 => (some (0, 0, 0, 0, (⟨#[]⟩ : ByteArray), ((0, 0) : Nat × Nat), ((0, 0) : Nat × Nat), ((0, 0) : Nat × Nat), ([] : List (S30)), bt327.1, bt327.2.1, bt327.2.2))) else ((req_signs.f).bind fun t330 => ((req_reader_upTo.f s0_0 s0_1 s0_2 (⟨#[32, 40, 41, 44, 59]⟩ : ByteArray)).bind fun bt333 => ((slices_Index_string_string.f k t330 bt333.1).bind fun t337 => (if (wrap64 (t337 + 1)) = 0 then ((req_reader_wrong.f bt333.2.1 bt333.2.2.1 bt333.2.2.2 2).bind fun bt339 => (some (wrap64 (t337 + 1), 0, 0, 0, (⟨#[]⟩ : ByteArray), ((0, 0) : Nat × Nat), ((0, 0) : Nat × Nat), ((0, 0) : Nat × Nat), ([] : List (S30)), bt339.1, bt339.2.1, bt339.2.2))) else (if (wrap64 (t337 + 1)) = 12 then (some (wrap64 (t337 + 1), 0, 0, 0, (⟨#[]⟩ : ByteArray), ((0, 0) : Nat × Nat), ((0, 0) : Nat × Nat), ((0, 0) : Nat × Nat), ([] : List (S30)), bt333.2.1, bt333.2.2.1, bt333.2.2.2)) else (if (wrap64 (t337 + 1)) = 11 then ((req_reader_kids.f k bt333.2.1 bt333.2.2.1 bt333.2.2.2 a1 1 1).bind fun bt342 => (some (wrap64 (t337 + 1), 0, 0, 0, (⟨#[]⟩ : ByteArray), ((0, 0) : Nat × Nat), ((0, 0) : Nat × Nat), ((0, 0) : Nat × Nat), bt342.1, bt342.2.1, bt342.2.2.1, bt342.2.2.2))) else (if (wrap64 (t337 + 1)) = 9 then (req_reader_pred.j0 k a1 true bt333.2.1 bt333.2.2.1 bt333.2.2.2 (wrap64 (t337 + 1)) 0 0 0 (⟨#[]⟩ : ByteArray) ((0, 0) : Nat × Nat) ((0, 0) : Nat × Nat) ((0, 0) : Nat × Nat)) else (req_reader_pred.j0 k a1 ((wrap64 (t337 + 1)) == 10) bt333.2.1 bt333.2.2.1 bt333.2.2.2 (wrap64 (t337 + 1)) 0 0 0 (⟨#[]⟩ : ByteArray) ((0, 0) : Nat × Nat) ((0, 0) : Nat × Nat) ((0, 0) : Nat × Nat)))))))))) = some (r1, r2, r3, r4, r5, r6, r7, r8, r9, r10, r11, r12) := h
 clear h
 by_cases c3 : a1 > 8
 ·rw [if_pos c3] at H
  have c3b0 := decide_eq_true c3
  clear c3
  replace H := Option.bind_eq_some_iff.mp H
  obtain ⟨⟨t327, t328, t329⟩, A40, H⟩ := H
  try dsimp only at H
  have A4 := Mk A40
  clear A40
  simp only [Option.some.injEq, Prod.mk.injEq] at H
  obtain ⟨rfl, rfl, rfl, rfl, rfl, rfl, rfl, rfl, rfl, rfl, rfl, rfl⟩ := H
  go_enter Tryz.func24, Tryz.ntmps24
  go_wp2_with (first | ((with_reducible refine gate_dst (N := 4) rfl ?_); refine boxE 4 #[.int .i64 0, .int .i64 0, .int .i64 0, .int .i64 0, .string (⟨#[]⟩ : ByteArray), .complex .f64 0 0, .complex .f64 0 0, .complex .f64 0 0, .slice none 0 0] 30 ?_; intro gb326 hg w5 hbox hb; have BK326 := Mk (hbox); have GW326 := (gW : Aside0 (w.heap.size ≤ gb326)); have GE326 := (gV : Aside0 (w0.heap.size ≤ gb326)); have NB0_326 := Mk ((by rw [hg]; exact Nat.ne_of_lt (IsS64.lt (show IsS64 w0 _ g s0_0 s0_1 s0_2 from hI HI0)) : g ≠ gb326)); have NB326_0 := Mk ((by rw [hg]; exact Nat.ne_of_gt (IsS64.lt (show IsS64 w0 _ g s0_0 s0_1 s0_2 from hI HI0)) : gb326 ≠ g)); replace HI0 := Mk (IsS64.below (hI HI0) hb); replace HK := Mk (KeepBut.trans kK (KeepBut.of_below hb g none) (.inl rfl)); replace HB := Mk (below_step bB hb); clear hb hbox hg) | ((with_reducible refine gate_callee (f := 57) rfl ?_); refine goesL_ (some 9) rfl rfl Tryz.func57 kR rfl #[.pointer (some ⟨g, 0, none⟩), .int .i64 16] rfl mA ?_; (with_reducible refine (req_reader_wrong.calls g s0_0 s0_1 s0_2 16 t327 t328 t329 w0 _ ?side1 ?side2 A4.out).mono ?_); (case side1 => exact hI HI0); (case side2 => exact bB); rintro e w6 ⟨rfl, hi, hb, hk⟩; refine ⟨_, rfl, ?_⟩; replace BK326 := Mk (kblk hk BK326 NB326_0); replace HK := Mk (KeepBut.trans kK hk (.inl rfl)); replace HB := Mk (hb); replace HI0 := Mk (hi); clear hb hk hi; have hnb7 := NB326_0.out; have hnc7 := NB0_326.out; obtain ⟨_, _, _, _, _, _, _, _, _, _, _, _, _, _, _, _, _, _⟩ := z9 BK326))
  refine bodyPost_ret (results_cell_row rfl _ _ gb326 30 #[.int .i64 0, .int .i64 0, .int .i64 0, .int .i64 0, .string (⟨#[]⟩ : ByteArray), .complex .f64 0 0, .complex .f64 0 0, .complex .f64 0 0, .slice none 0 0] (0, 0) _ rfl (bP BK326) Tryz.underlying30 rfl kR) rfl ?_
  exact ⟨_, eW, by first | exact Kd.R_nil _ _ _ _ _ | exact Kd.N_nil _ _ _ _ _ | exact Kd.V_nil _ _ _ _ _ | exact Kd.Q_nil _ _ _ _ _ | exact Kd.S_nil _ _ _ _ _, hI HI0, bB, kK⟩
 ·rw [if_neg c3] at H
  have c3b0 := decide_eq_false c3
  clear c3
  replace H := Option.bind_eq_some_iff.mp H
  obtain ⟨t330, A90, H⟩ := H
  try dsimp only at H
  have A9 := Mk A90
  clear A90
  replace H := Option.bind_eq_some_iff.mp H
  obtain ⟨⟨t333, t334, t335, t336⟩, A100, H⟩ := H
  try dsimp only at H
  have A10 := Mk A100
  clear A100
  replace H := Option.bind_eq_some_iff.mp H
  obtain ⟨t337, A110, H⟩ := H
  try dsimp only at H
  have A11 := Mk A110
  clear A110
  by_cases c12 : (wrap64 (t337 + 1)) = 0
  ·rw [if_pos c12] at H
   have c12b0 := beq_iff_eq.mpr c12
   have c12b1 := bne_eq_false_iff_eq.mpr c12
   clear c12
   replace H := Option.bind_eq_some_iff.mp H
   obtain ⟨⟨t339, t340, t341⟩, A130, H⟩ := H
   try dsimp only at H
   have A13 := Mk A130
   clear A130
   simp only [Option.some.injEq, Prod.mk.injEq] at H
   obtain ⟨rfl, rfl, rfl, rfl, rfl, rfl, rfl, rfl, rfl, rfl, rfl, rfl⟩ := H
   go_enter Tryz.func24, Tryz.ntmps24
   go_wp2_with (first | ((with_reducible refine gate_dst (N := 4) rfl ?_); refine boxE 4 #[.int .i64 0, .int .i64 0, .int .i64 0, .int .i64 0, .string (⟨#[]⟩ : ByteArray), .complex .f64 0 0, .complex .f64 0 0, .complex .f64 0 0, .slice none 0 0] 30 ?_; intro gb326 hg w14 hbox hb; have BK326 := Mk (hbox); have GW326 := (gW : Aside0 (w.heap.size ≤ gb326)); have GE326 := (gV : Aside0 (w0.heap.size ≤ gb326)); have NB0_326 := Mk ((by rw [hg]; exact Nat.ne_of_lt (IsS64.lt (show IsS64 w0 _ g s0_0 s0_1 s0_2 from hI HI0)) : g ≠ gb326)); have NB326_0 := Mk ((by rw [hg]; exact Nat.ne_of_gt (IsS64.lt (show IsS64 w0 _ g s0_0 s0_1 s0_2 from hI HI0)) : gb326 ≠ g)); replace HI0 := Mk (IsS64.below (hI HI0) hb); replace HK := Mk (KeepBut.trans kK (KeepBut.of_below hb g none) (.inl rfl)); replace HB := Mk (below_step bB hb); clear hb hbox hg) | ((with_reducible refine gate_callee (f := 29) rfl ?_); refine goesL_ (some 11) rfl rfl Tryz.func29 kR rfl #[] rfl mA ?_; (with_reducible refine (req_signs.calls  t330 _ A9.out).mono ?_); rintro e w15 ⟨v331, rfl, ho0, hb⟩; refine ⟨_, rfl, ?_⟩; have HO332 := Mk (Kd.R_lower ho0 (keep_size (w := w) (g := g) (row := none) kK)); replace HI0 := Mk (IsS64.below (hI HI0) hb); replace BK326 := bkb BK326 hb; replace HK := Mk (KeepBut.trans kK (KeepBut.of_below hb g none) (.inl rfl)); replace HB := Mk (below_step bB hb); clear hb ho0) | ((with_reducible refine gate_callee (f := 58) rfl ?_); refine goesL_ (some 13) rfl rfl Tryz.func58 kR rfl #[.pointer (some ⟨g, 0, none⟩), .string (⟨#[32, 40, 41, 44, 59]⟩ : ByteArray)] rfl mA ?_; (with_reducible refine (req_reader_upTo.calls g s0_0 s0_1 s0_2 (⟨#[32, 40, 41, 44, 59]⟩ : ByteArray) t333 t334 t335 t336 w0 _ ?side1 ?side2 A10.out).mono ?_); (case side1 => exact hI HI0); (case side2 => exact bB); rintro e w16 ⟨rfl, hi, hb, hk⟩; refine ⟨_, rfl, ?_⟩; replace BK326 := Mk (kblk hk BK326 NB326_0); replace HO332 := Mk (Kd.R_mono (Kd.R_keep (IsS64.apart (show IsS64 w0 _ g s0_0 s0_1 s0_2 from hI HI0) (rU HO332) (by decide)) hk (fun _ h => h.2)) (fun _ h => h.1)); replace HK := Mk (KeepBut.trans kK hk (.inl rfl)); replace HB := Mk (hb); replace HI0 := Mk (hi); clear hb hk hi; obtain ⟨Ao17, co17, eo17⟩ := Kd.R_slice HO332.out; subst eo17) | (go_at_call 32; (with_reducible refine (slices_Index_string_string.calls k _ _ t330 t333 t337 _ ?side1 ?side2 A11.out).mono ?_); (case side1 => exact cU (Kd.R_reads' HO332.out).2.2); (case side2 => exact (Kd.R_reads' HO332.out).2.1); rintro e w' ⟨rfl, ⟨nd, rfl⟩⟩; (try (rw [drewN_self w16]; generalize hq_ : World.drewN w16 _ = w16; have n0_ : Aside0 (Kd.R Kd.string 9 w16 w.heap.size (fun _ => True) (.slice Ao17 t330.length co17) t330) := ⟨by rw [← hq_]; exact (rU HO332)⟩; have n1_ : Aside0 (w16.heap[gb326]? = some (.cells #[.int .i64 0, .int .i64 0, .int .i64 0, .int .i64 0, .string (⟨#[]⟩ : ByteArray), .complex .f64 0 0, .complex .f64 0 0, .complex .f64 0 0, .slice none 0 0] 30 (0, 0))) := ⟨by rw [← hq_]; exact (bK BK326)⟩; have n2_ : Aside0 (IsS64 w0 w16 g t334 t335 t336) := ⟨by rw [← hq_]; exact (hI HI0)⟩; have n3_ : Aside0 (KeepBut w w16 g none) := ⟨by rw [← hq_]; exact kK⟩; have n4_ : Aside0 (Below w0.heap.size w0 w16) := ⟨by rw [← hq_]; exact bB⟩; clear HO332 BK326 HI0 HK HB hq_; have HO332 := n0_; have BK326 := n1_; have HI0 := n2_; have HK := n3_; have HB := n4_; clear n0_ n1_ n2_ n3_ n4_))) | ((with_reducible refine gate_dst (N := 5) rfl ?_); refine boxE 5 #[.int .i64 0, .int .i64 0, .int .i64 0, .int .i64 0, .string (⟨#[]⟩ : ByteArray), .complex .f64 0 0, .complex .f64 0 0, .complex .f64 0 0, .slice none 0 0] 30 ?_; intro gb338 hg w18 hbox hb; have BK338 := Mk (hbox); have GW338 := (gW : Aside0 (w.heap.size ≤ gb338)); have GE338 := (gV : Aside0 (w0.heap.size ≤ gb338)); have NB326_338 := (gL BK326 : Aside0 (gb326 ≠ gb338)); have NB338_326 := (gG BK326 : Aside0 (gb338 ≠ gb326)); have NB0_338 := Mk ((by rw [hg]; exact Nat.ne_of_lt (IsS64.lt (show IsS64 w0 _ g t334 t335 t336 from hI HI0)) : g ≠ gb338)); have NB338_0 := Mk ((by rw [hg]; exact Nat.ne_of_gt (IsS64.lt (show IsS64 w0 _ g t334 t335 t336 from hI HI0)) : gb338 ≠ g)); replace HO332 := Mk (Kd.R_below (rU HO332) hb); replace HI0 := Mk (IsS64.below (hI HI0) hb); replace BK326 := bkb BK326 hb; replace HK := Mk (KeepBut.trans kK (KeepBut.of_below hb g none) (.inl rfl)); replace HB := Mk (below_step bB hb); clear hb hbox hg; have hnb19 := NB338_326.out; have hnc19 := NB326_338.out; have hnb20 := NB338_0.out; have hnc20 := NB0_338.out; obtain ⟨_, _, _, _, _, _, _, _, _, _, _, _, _, _, _, _, _, _⟩ := z9 BK338) | ((with_reducible refine gate_callee (f := 57) rfl ?_); refine goesL_ (some 28) rfl rfl Tryz.func57 kR rfl #[.pointer (some ⟨g, 0, none⟩), .int .i64 2] rfl mA ?_; (with_reducible refine (req_reader_wrong.calls g t334 t335 t336 2 t339 t340 t341 w0 _ ?side1 ?side2 A13.out).mono ?_); (case side1 => exact hI HI0); (case side2 => exact bB); rintro e w22 ⟨rfl, hi, hb, hk⟩; refine ⟨_, rfl, ?_⟩; replace BK326 := Mk (kblk hk BK326 NB326_0); replace HO332 := Mk (Kd.R_mono (Kd.R_keep (IsS64.apart (show IsS64 w0 _ g t334 t335 t336 from hI HI0) (by (repeat apply Rup); exact (Kd.R_mono (Kd.R_far (p := ⟨gb338, 8, none⟩) (Kd.R_far (p := ⟨gb338, 7, none⟩) (Kd.R_far (p := ⟨gb338, 6, none⟩) (Kd.R_far (p := ⟨gb338, 5, none⟩) (Kd.R_far (p := ⟨gb338, 4, none⟩) (Kd.R_far (p := ⟨gb338, 3, none⟩) (Kd.R_far (p := ⟨gb338, 2, none⟩) (Kd.R_far (p := ⟨gb338, 1, none⟩) (Kd.R_far (p := ⟨gb338, 0, none⟩) (Kd.R_types HO332.out BK338.out (by decide)) (fun _ hk => hk.2) (.int .i64 (wrap64 (t337 + 1)))) (fun _ hk => hk.2) (.int .i64 0)) (fun _ hk => hk.2) (.int .i64 0)) (fun _ hk => hk.2) (.int .i64 0)) (fun _ hk => hk.2) (.string (⟨#[]⟩ : ByteArray))) (fun _ hk => hk.2) (.complex .f64 0 0)) (fun _ hk => hk.2) (.complex .f64 0 0)) (fun _ hk => hk.2) (.complex .f64 0 0)) (fun _ hk => hk.2) (.slice none 0 0)) (fun _ h_ => h_.1))) (by decide)) hk (fun _ h => h.2)) (fun _ h => h.1)); replace BK338 := Mk (KeepBut.blk hk (g' := gb338) (o := .cells #[.int .i64 (wrap64 (t337 + 1)), .int .i64 0, .int .i64 0, .int .i64 0, .string (⟨#[]⟩ : ByteArray), .complex .f64 0 0, .complex .f64 0 0, .complex .f64 0 0, .slice none 0 0] 30 (0, 0)) (bP BK338) NB338_0.out (by simp)); replace HK := Mk (KeepBut.trans kK hk (.inl rfl)); replace HB := Mk (hb); replace HI0 := Mk (hi); clear hb hk hi; obtain ⟨_, _, _, _, _, _, _, _, _, _, _, _, _, _, _, _, _, _⟩ := z9 BK338; have hnb24 := NB326_0.out; have hnc24 := NB0_326.out; obtain ⟨_, _, _, _, _, _, _, _, _, _, _, _, _, _, _, _, _, _⟩ := z9 BK326))
   refine bodyPost_ret (results_cell_row rfl _ _ gb326 30 #[.int .i64 (wrap64 (t337 + 1)), .int .i64 0, .int .i64 0, .int .i64 0, .string (⟨#[]⟩ : ByteArray), .complex .f64 0 0, .complex .f64 0 0, .complex .f64 0 0, .slice none 0 0] (0, 0) _ rfl (bP BK326) Tryz.underlying30 rfl kR) rfl ?_
   exact ⟨_, eW, by first | exact Kd.R_nil _ _ _ _ _ | exact Kd.N_nil _ _ _ _ _ | exact Kd.V_nil _ _ _ _ _ | exact Kd.Q_nil _ _ _ _ _ | exact Kd.S_nil _ _ _ _ _, hI HI0, bB, kK⟩
  ·rw [if_neg c12] at H
   have c12b0 := beq_eq_false_iff_ne.mpr c12
   have c12b1 := bne_iff_ne.mpr c12
   by_cases c26 : (wrap64 (t337 + 1)) = 12
   ·rw [if_pos c26] at H
    have c26b0 := beq_iff_eq.mpr c26
    have c26b1 := bne_eq_false_iff_eq.mpr c26
    clear c26
    simp only [Option.some.injEq, Prod.mk.injEq] at H
    obtain ⟨rfl, rfl, rfl, rfl, rfl, rfl, rfl, rfl, rfl, rfl, rfl, rfl⟩ := H
    go_enter Tryz.func24, Tryz.ntmps24
    go_wp2_with (first | ((with_reducible refine gate_dst (N := 4) rfl ?_); refine boxE 4 #[.int .i64 0, .int .i64 0, .int .i64 0, .int .i64 0, .string (⟨#[]⟩ : ByteArray), .complex .f64 0 0, .complex .f64 0 0, .complex .f64 0 0, .slice none 0 0] 30 ?_; intro gb326 hg w27 hbox hb; have BK326 := Mk (hbox); have GW326 := (gW : Aside0 (w.heap.size ≤ gb326)); have GE326 := (gV : Aside0 (w0.heap.size ≤ gb326)); have NB0_326 := Mk ((by rw [hg]; exact Nat.ne_of_lt (IsS64.lt (show IsS64 w0 _ g s0_0 s0_1 s0_2 from hI HI0)) : g ≠ gb326)); have NB326_0 := Mk ((by rw [hg]; exact Nat.ne_of_gt (IsS64.lt (show IsS64 w0 _ g s0_0 s0_1 s0_2 from hI HI0)) : gb326 ≠ g)); replace HI0 := Mk (IsS64.below (hI HI0) hb); replace HK := Mk (KeepBut.trans kK (KeepBut.of_below hb g none) (.inl rfl)); replace HB := Mk (below_step bB hb); clear hb hbox hg) | ((with_reducible refine gate_callee (f := 29) rfl ?_); refine goesL_ (some 11) rfl rfl Tryz.func29 kR rfl #[] rfl mA ?_; (with_reducible refine (req_signs.calls  t330 _ A9.out).mono ?_); rintro e w28 ⟨v331, rfl, ho0, hb⟩; refine ⟨_, rfl, ?_⟩; have HO332 := Mk (Kd.R_lower ho0 (keep_size (w := w) (g := g) (row := none) kK)); replace HI0 := Mk (IsS64.below (hI HI0) hb); replace BK326 := bkb BK326 hb; replace HK := Mk (KeepBut.trans kK (KeepBut.of_below hb g none) (.inl rfl)); replace HB := Mk (below_step bB hb); clear hb ho0) | ((with_reducible refine gate_callee (f := 58) rfl ?_); refine goesL_ (some 13) rfl rfl Tryz.func58 kR rfl #[.pointer (some ⟨g, 0, none⟩), .string (⟨#[32, 40, 41, 44, 59]⟩ : ByteArray)] rfl mA ?_; (with_reducible refine (req_reader_upTo.calls g s0_0 s0_1 s0_2 (⟨#[32, 40, 41, 44, 59]⟩ : ByteArray) t333 t334 t335 t336 w0 _ ?side1 ?side2 A10.out).mono ?_); (case side1 => exact hI HI0); (case side2 => exact bB); rintro e w29 ⟨rfl, hi, hb, hk⟩; refine ⟨_, rfl, ?_⟩; replace BK326 := Mk (kblk hk BK326 NB326_0); replace HO332 := Mk (Kd.R_mono (Kd.R_keep (IsS64.apart (show IsS64 w0 _ g s0_0 s0_1 s0_2 from hI HI0) (rU HO332) (by decide)) hk (fun _ h => h.2)) (fun _ h => h.1)); replace HK := Mk (KeepBut.trans kK hk (.inl rfl)); replace HB := Mk (hb); replace HI0 := Mk (hi); clear hb hk hi; obtain ⟨Ao30, co30, eo30⟩ := Kd.R_slice HO332.out; subst eo30) | (go_at_call 32; (with_reducible refine (slices_Index_string_string.calls k _ _ t330 t333 t337 _ ?side1 ?side2 A11.out).mono ?_); (case side1 => exact cU (Kd.R_reads' HO332.out).2.2); (case side2 => exact (Kd.R_reads' HO332.out).2.1); rintro e w' ⟨rfl, ⟨nd, rfl⟩⟩; (try (rw [drewN_self w29]; generalize hq_ : World.drewN w29 _ = w29; have n0_ : Aside0 (Kd.R Kd.string 9 w29 w.heap.size (fun _ => True) (.slice Ao30 t330.length co30) t330) := ⟨by rw [← hq_]; exact (rU HO332)⟩; have n1_ : Aside0 (w29.heap[gb326]? = some (.cells #[.int .i64 0, .int .i64 0, .int .i64 0, .int .i64 0, .string (⟨#[]⟩ : ByteArray), .complex .f64 0 0, .complex .f64 0 0, .complex .f64 0 0, .slice none 0 0] 30 (0, 0))) := ⟨by rw [← hq_]; exact (bK BK326)⟩; have n2_ : Aside0 (IsS64 w0 w29 g t334 t335 t336) := ⟨by rw [← hq_]; exact (hI HI0)⟩; have n3_ : Aside0 (KeepBut w w29 g none) := ⟨by rw [← hq_]; exact kK⟩; have n4_ : Aside0 (Below w0.heap.size w0 w29) := ⟨by rw [← hq_]; exact bB⟩; clear HO332 BK326 HI0 HK HB hq_; have HO332 := n0_; have BK326 := n1_; have HI0 := n2_; have HK := n3_; have HB := n4_; clear n0_ n1_ n2_ n3_ n4_))) | ((with_reducible refine gate_dst (N := 5) rfl ?_); refine boxE 5 #[.int .i64 0, .int .i64 0, .int .i64 0, .int .i64 0, .string (⟨#[]⟩ : ByteArray), .complex .f64 0 0, .complex .f64 0 0, .complex .f64 0 0, .slice none 0 0] 30 ?_; intro gb338 hg w31 hbox hb; have BK338 := Mk (hbox); have GW338 := (gW : Aside0 (w.heap.size ≤ gb338)); have GE338 := (gV : Aside0 (w0.heap.size ≤ gb338)); have NB326_338 := (gL BK326 : Aside0 (gb326 ≠ gb338)); have NB338_326 := (gG BK326 : Aside0 (gb338 ≠ gb326)); have NB0_338 := Mk ((by rw [hg]; exact Nat.ne_of_lt (IsS64.lt (show IsS64 w0 _ g t334 t335 t336 from hI HI0)) : g ≠ gb338)); have NB338_0 := Mk ((by rw [hg]; exact Nat.ne_of_gt (IsS64.lt (show IsS64 w0 _ g t334 t335 t336 from hI HI0)) : gb338 ≠ g)); replace HO332 := Mk (Kd.R_below (rU HO332) hb); replace HI0 := Mk (IsS64.below (hI HI0) hb); replace BK326 := bkb BK326 hb; replace HK := Mk (KeepBut.trans kK (KeepBut.of_below hb g none) (.inl rfl)); replace HB := Mk (below_step bB hb); clear hb hbox hg; have hnb32 := NB338_326.out; have hnc32 := NB326_338.out; have hnb33 := NB338_0.out; have hnc33 := NB0_338.out; obtain ⟨_, _, _, _, _, _, _, _, _, _, _, _, _, _, _, _, _, _⟩ := z9 BK338; have hnb35 := NB326_0.out; have hnc35 := NB0_326.out; obtain ⟨_, _, _, _, _, _, _, _, _, _, _, _, _, _, _, _, _, _⟩ := z9 BK326))
    refine bodyPost_ret (results_cell_row rfl _ _ gb326 30 #[.int .i64 (wrap64 (t337 + 1)), .int .i64 0, .int .i64 0, .int .i64 0, .string (⟨#[]⟩ : ByteArray), .complex .f64 0 0, .complex .f64 0 0, .complex .f64 0 0, .slice none 0 0] (0, 0) _ rfl (bP BK326) Tryz.underlying30 rfl kR) rfl ?_
    exact ⟨_, eW, by first | exact Kd.R_nil _ _ _ _ _ | exact Kd.N_nil _ _ _ _ _ | exact Kd.V_nil _ _ _ _ _ | exact Kd.Q_nil _ _ _ _ _ | exact Kd.S_nil _ _ _ _ _, hI HI0, bB, kK⟩
   ·rw [if_neg c26] at H
    have c26b0 := beq_eq_false_iff_ne.mpr c26
    have c26b1 := bne_iff_ne.mpr c26
    by_cases c37 : (wrap64 (t337 + 1)) = 11
    ·rw [if_pos c37] at H
     have c37b0 := beq_iff_eq.mpr c37
     have c37b1 := bne_eq_false_iff_eq.mpr c37
     clear c37
     replace H := Option.bind_eq_some_iff.mp H
     obtain ⟨⟨t342, t345, t346, t347⟩, A380, H⟩ := H
     try dsimp only at H
     have A38 := Mk A380
     clear A380
     simp only [Option.some.injEq, Prod.mk.injEq] at H
     obtain ⟨rfl, rfl, rfl, rfl, rfl, rfl, rfl, rfl, rfl, rfl, rfl, rfl⟩ := H
     go_enter Tryz.func24, Tryz.ntmps24
     go_wp2_with (first | ((with_reducible refine gate_dst (N := 4) rfl ?_); refine boxE 4 #[.int .i64 0, .int .i64 0, .int .i64 0, .int .i64 0, .string (⟨#[]⟩ : ByteArray), .complex .f64 0 0, .complex .f64 0 0, .complex .f64 0 0, .slice none 0 0] 30 ?_; intro gb326 hg w39 hbox hb; have BK326 := Mk (hbox); have GW326 := (gW : Aside0 (w.heap.size ≤ gb326)); have GE326 := (gV : Aside0 (w0.heap.size ≤ gb326)); have NB0_326 := Mk ((by rw [hg]; exact Nat.ne_of_lt (IsS64.lt (show IsS64 w0 _ g s0_0 s0_1 s0_2 from hI HI0)) : g ≠ gb326)); have NB326_0 := Mk ((by rw [hg]; exact Nat.ne_of_gt (IsS64.lt (show IsS64 w0 _ g s0_0 s0_1 s0_2 from hI HI0)) : gb326 ≠ g)); replace HI0 := Mk (IsS64.below (hI HI0) hb); replace HK := Mk (KeepBut.trans kK (KeepBut.of_below hb g none) (.inl rfl)); replace HB := Mk (below_step bB hb); clear hb hbox hg) | ((with_reducible refine gate_callee (f := 29) rfl ?_); refine goesL_ (some 11) rfl rfl Tryz.func29 kR rfl #[] rfl mA ?_; (with_reducible refine (req_signs.calls  t330 _ A9.out).mono ?_); rintro e w40 ⟨v331, rfl, ho0, hb⟩; refine ⟨_, rfl, ?_⟩; have HO332 := Mk (Kd.R_lower ho0 (keep_size (w := w) (g := g) (row := none) kK)); replace HI0 := Mk (IsS64.below (hI HI0) hb); replace BK326 := bkb BK326 hb; replace HK := Mk (KeepBut.trans kK (KeepBut.of_below hb g none) (.inl rfl)); replace HB := Mk (below_step bB hb); clear hb ho0) | ((with_reducible refine gate_callee (f := 58) rfl ?_); refine goesL_ (some 13) rfl rfl Tryz.func58 kR rfl #[.pointer (some ⟨g, 0, none⟩), .string (⟨#[32, 40, 41, 44, 59]⟩ : ByteArray)] rfl mA ?_; (with_reducible refine (req_reader_upTo.calls g s0_0 s0_1 s0_2 (⟨#[32, 40, 41, 44, 59]⟩ : ByteArray) t333 t334 t335 t336 w0 _ ?side1 ?side2 A10.out).mono ?_); (case side1 => exact hI HI0); (case side2 => exact bB); rintro e w41 ⟨rfl, hi, hb, hk⟩; refine ⟨_, rfl, ?_⟩; replace BK326 := Mk (kblk hk BK326 NB326_0); replace HO332 := Mk (Kd.R_mono (Kd.R_keep (IsS64.apart (show IsS64 w0 _ g s0_0 s0_1 s0_2 from hI HI0) (rU HO332) (by decide)) hk (fun _ h => h.2)) (fun _ h => h.1)); replace HK := Mk (KeepBut.trans kK hk (.inl rfl)); replace HB := Mk (hb); replace HI0 := Mk (hi); clear hb hk hi; obtain ⟨Ao42, co42, eo42⟩ := Kd.R_slice HO332.out; subst eo42) | (go_at_call 32; (with_reducible refine (slices_Index_string_string.calls k _ _ t330 t333 t337 _ ?side1 ?side2 A11.out).mono ?_); (case side1 => exact cU (Kd.R_reads' HO332.out).2.2); (case side2 => exact (Kd.R_reads' HO332.out).2.1); rintro e w' ⟨rfl, ⟨nd, rfl⟩⟩; (try (rw [drewN_self w41]; generalize hq_ : World.drewN w41 _ = w41; have n0_ : Aside0 (Kd.R Kd.string 9 w41 w.heap.size (fun _ => True) (.slice Ao42 t330.length co42) t330) := ⟨by rw [← hq_]; exact (rU HO332)⟩; have n1_ : Aside0 (w41.heap[gb326]? = some (.cells #[.int .i64 0, .int .i64 0, .int .i64 0, .int .i64 0, .string (⟨#[]⟩ : ByteArray), .complex .f64 0 0, .complex .f64 0 0, .complex .f64 0 0, .slice none 0 0] 30 (0, 0))) := ⟨by rw [← hq_]; exact (bK BK326)⟩; have n2_ : Aside0 (IsS64 w0 w41 g t334 t335 t336) := ⟨by rw [← hq_]; exact (hI HI0)⟩; have n3_ : Aside0 (KeepBut w w41 g none) := ⟨by rw [← hq_]; exact kK⟩; have n4_ : Aside0 (Below w0.heap.size w0 w41) := ⟨by rw [← hq_]; exact bB⟩; clear HO332 BK326 HI0 HK HB hq_; have HO332 := n0_; have BK326 := n1_; have HI0 := n2_; have HK := n3_; have HB := n4_; clear n0_ n1_ n2_ n3_ n4_))) | ((with_reducible refine gate_dst (N := 5) rfl ?_); refine boxE 5 #[.int .i64 0, .int .i64 0, .int .i64 0, .int .i64 0, .string (⟨#[]⟩ : ByteArray), .complex .f64 0 0, .complex .f64 0 0, .complex .f64 0 0, .slice none 0 0] 30 ?_; intro gb338 hg w43 hbox hb; have BK338 := Mk (hbox); have GW338 := (gW : Aside0 (w.heap.size ≤ gb338)); have GE338 := (gV : Aside0 (w0.heap.size ≤ gb338)); have NB326_338 := (gL BK326 : Aside0 (gb326 ≠ gb338)); have NB338_326 := (gG BK326 : Aside0 (gb338 ≠ gb326)); have NB0_338 := Mk ((by rw [hg]; exact Nat.ne_of_lt (IsS64.lt (show IsS64 w0 _ g t334 t335 t336 from hI HI0)) : g ≠ gb338)); have NB338_0 := Mk ((by rw [hg]; exact Nat.ne_of_gt (IsS64.lt (show IsS64 w0 _ g t334 t335 t336 from hI HI0)) : gb338 ≠ g)); replace HO332 := Mk (Kd.R_below (rU HO332) hb); replace HI0 := Mk (IsS64.below (hI HI0) hb); replace BK326 := bkb BK326 hb; replace HK := Mk (KeepBut.trans kK (KeepBut.of_below hb g none) (.inl rfl)); replace HB := Mk (below_step bB hb); clear hb hbox hg; have hnb44 := NB338_326.out; have hnc44 := NB326_338.out; have hnb45 := NB338_0.out; have hnc45 := NB0_338.out; obtain ⟨_, _, _, _, _, _, _, _, _, _, _, _, _, _, _, _, _, _⟩ := z9 BK338) | ((with_reducible refine gate_callee (f := 59) rfl ?_); refine goesL_ (some 39) rfl rfl Tryz.func59 kR rfl #[.pointer (some ⟨g, 0, none⟩), .int .i64 a1, .int .i64 1, .int .i64 1] rfl mA ?_; (with_reducible refine (req_reader_kids.calls k (fun j hj => ih j (by first | omega | (have := HJ1.out; omega))) g t334 t335 t336 a1 1 1 t342 t345 t346 t347 w0 _ ?side1 ?side2 A38.out HG_.out).mono ?_); (case side1 => exact hI HI0); (case side2 => exact bB); rintro e w47 ⟨v343, rfl, ho0, hi, hb, hk⟩; refine ⟨_, rfl, ?_⟩; have HO344 := Mk (Kd.R_lower (Kd.R_newB (Kd.R_newB ho0 (g := gb326) (o := .cells #[.int .i64 0, .int .i64 0, .int .i64 0, .int .i64 0, .string (⟨#[]⟩ : ByteArray), .complex .f64 0 0, .complex .f64 0 0, .complex .f64 0 0, .slice none 0 0] 30 (0, 0)) (bK BK326)) (g := gb338) (o := .cells #[.int .i64 (wrap64 (t337 + 1)), .int .i64 0, .int .i64 0, .int .i64 0, .string (⟨#[]⟩ : ByteArray), .complex .f64 0 0, .complex .f64 0 0, .complex .f64 0 0, .slice none 0 0] 30 (0, 0)) (bP BK338)) (keep_size (w := w) (g := g) (row := none) kK)); replace BK326 := Mk (kblk hk BK326 NB326_0); replace HO332 := Mk (Kd.R_mono (Kd.R_keep (IsS64.apart (show IsS64 w0 _ g t334 t335 t336 from hI HI0) (by (repeat apply Rup); exact (Kd.R_mono (Kd.R_far (p := ⟨gb338, 8, none⟩) (Kd.R_far (p := ⟨gb338, 7, none⟩) (Kd.R_far (p := ⟨gb338, 6, none⟩) (Kd.R_far (p := ⟨gb338, 5, none⟩) (Kd.R_far (p := ⟨gb338, 4, none⟩) (Kd.R_far (p := ⟨gb338, 3, none⟩) (Kd.R_far (p := ⟨gb338, 2, none⟩) (Kd.R_far (p := ⟨gb338, 1, none⟩) (Kd.R_far (p := ⟨gb338, 0, none⟩) (Kd.R_types HO332.out BK338.out (by decide)) (fun _ hk => hk.2) (.int .i64 (wrap64 (t337 + 1)))) (fun _ hk => hk.2) (.int .i64 0)) (fun _ hk => hk.2) (.int .i64 0)) (fun _ hk => hk.2) (.int .i64 0)) (fun _ hk => hk.2) (.string (⟨#[]⟩ : ByteArray))) (fun _ hk => hk.2) (.complex .f64 0 0)) (fun _ hk => hk.2) (.complex .f64 0 0)) (fun _ hk => hk.2) (.complex .f64 0 0)) (fun _ hk => hk.2) (.slice none 0 0)) (fun _ h_ => h_.1))) (by decide)) hk (fun _ h => h.2)) (fun _ h => h.1)); replace BK338 := Mk (KeepBut.blk hk (g' := gb338) (o := .cells #[.int .i64 (wrap64 (t337 + 1)), .int .i64 0, .int .i64 0, .int .i64 0, .string (⟨#[]⟩ : ByteArray), .complex .f64 0 0, .complex .f64 0 0, .complex .f64 0 0, .slice none 0 0] 30 (0, 0)) (bP BK338) NB338_0.out (by simp)); replace HK := Mk (KeepBut.trans kK hk (.inl rfl)); replace HB := Mk (hb); replace HI0 := Mk (hi); clear hb hk hi ho0; obtain ⟨Ao48, co48, eo48⟩ := Kd.R_slice HO344.out; subst eo48; obtain ⟨_, _, _, _, _, _, _, _, _, _, _, _, _, _, _, _, _, _⟩ := z9 BK338; have hnb50 := NB326_0.out; have hnc50 := NB0_326.out; obtain ⟨_, _, _, _, _, _, _, _, _, _, _, _, _, _, _, _, _, _⟩ := z9 BK326))
     refine bodyPost_ret (results_cell_row rfl _ _ gb326 30 #[.int .i64 (wrap64 (t337 + 1)), .int .i64 0, .int .i64 0, .int .i64 0, .string (⟨#[]⟩ : ByteArray), .complex .f64 0 0, .complex .f64 0 0, .complex .f64 0 0, .slice Ao48 t342.length co48] (0, 0) _ rfl (bP BK326) Tryz.underlying30 rfl kR) rfl ?_
     exact ⟨_, eW, by (repeat apply Rup); exact Kd.R_mono (Kd.R_far (p := ⟨gb326, 8, none⟩) (Kd.R_far (p := ⟨gb326, 7, none⟩) (Kd.R_far (p := ⟨gb326, 6, none⟩) (Kd.R_far (p := ⟨gb326, 5, none⟩) (Kd.R_far (p := ⟨gb326, 4, none⟩) (Kd.R_far (p := ⟨gb326, 3, none⟩) (Kd.R_far (p := ⟨gb326, 2, none⟩) (Kd.R_far (p := ⟨gb326, 1, none⟩) (Kd.R_far (p := ⟨gb326, 0, none⟩) (Kd.R_far (p := ⟨gb338, 8, none⟩) (Kd.R_mono (Kd.R_mono HO344.out (fun k_ hk => (⟨hk, hk.2⟩ : _ ∧ k_ ≠ gb338))) (fun k_ hk => (⟨hk, hk.1.1.2⟩ : _ ∧ k_ ≠ gb326))) (fun _ hk => hk.1.2) (.slice Ao48 t342.length co48)) (fun _ hk => hk.2) (.int .i64 (wrap64 (t337 + 1)))) (fun _ hk => hk.2) (.int .i64 0)) (fun _ hk => hk.2) (.int .i64 0)) (fun _ hk => hk.2) (.int .i64 0)) (fun _ hk => hk.2) (.string (⟨#[]⟩ : ByteArray))) (fun _ hk => hk.2) (.complex .f64 0 0)) (fun _ hk => hk.2) (.complex .f64 0 0)) (fun _ hk => hk.2) (.complex .f64 0 0)) (fun _ hk => hk.2) (.slice Ao48 t342.length co48)) (fun _ hk => trivial), hI HI0, bB, kK⟩
    ·rw [if_neg c37] at H
     have c37b0 := beq_eq_false_iff_ne.mpr c37
     have c37b1 := bne_iff_ne.mpr c37
     have HC52 := Mk H
     clear H
     go_enter Tryz.func24, Tryz.ntmps24
     go_upto_region 12 with (first | ((with_reducible refine gate_dst (N := 4) rfl ?_); refine boxE 4 #[.int .i64 0, .int .i64 0, .int .i64 0, .int .i64 0, .string (⟨#[]⟩ : ByteArray), .complex .f64 0 0, .complex .f64 0 0, .complex .f64 0 0, .slice none 0 0] 30 ?_; intro gb326 hg w53 hbox hb; have BK326 := Mk (hbox); have GW326 := (gW : Aside0 (w.heap.size ≤ gb326)); have GE326 := (gV : Aside0 (w0.heap.size ≤ gb326)); have NB0_326 := Mk ((by rw [hg]; exact Nat.ne_of_lt (IsS64.lt (show IsS64 w0 _ g s0_0 s0_1 s0_2 from hI HI0)) : g ≠ gb326)); have NB326_0 := Mk ((by rw [hg]; exact Nat.ne_of_gt (IsS64.lt (show IsS64 w0 _ g s0_0 s0_1 s0_2 from hI HI0)) : gb326 ≠ g)); replace HI0 := Mk (IsS64.below (hI HI0) hb); replace HK := Mk (KeepBut.trans kK (KeepBut.of_below hb g none) (.inl rfl)); replace HB := Mk (below_step bB hb); clear hb hbox hg) | ((with_reducible refine gate_callee (f := 29) rfl ?_); refine goesL_ (some 11) rfl rfl Tryz.func29 kR rfl #[] rfl mA ?_; (with_reducible refine (req_signs.calls  t330 _ A9.out).mono ?_); rintro e w54 ⟨v331, rfl, ho0, hb⟩; refine ⟨_, rfl, ?_⟩; have HO332 := Mk (Kd.R_lower ho0 (keep_size (w := w) (g := g) (row := none) kK)); replace HI0 := Mk (IsS64.below (hI HI0) hb); replace BK326 := bkb BK326 hb; replace HK := Mk (KeepBut.trans kK (KeepBut.of_below hb g none) (.inl rfl)); replace HB := Mk (below_step bB hb); clear hb ho0) | ((with_reducible refine gate_callee (f := 58) rfl ?_); refine goesL_ (some 13) rfl rfl Tryz.func58 kR rfl #[.pointer (some ⟨g, 0, none⟩), .string (⟨#[32, 40, 41, 44, 59]⟩ : ByteArray)] rfl mA ?_; (with_reducible refine (req_reader_upTo.calls g s0_0 s0_1 s0_2 (⟨#[32, 40, 41, 44, 59]⟩ : ByteArray) t333 t334 t335 t336 w0 _ ?side1 ?side2 A10.out).mono ?_); (case side1 => exact hI HI0); (case side2 => exact bB); rintro e w55 ⟨rfl, hi, hb, hk⟩; refine ⟨_, rfl, ?_⟩; replace BK326 := Mk (kblk hk BK326 NB326_0); replace HO332 := Mk (Kd.R_mono (Kd.R_keep (IsS64.apart (show IsS64 w0 _ g s0_0 s0_1 s0_2 from hI HI0) (rU HO332) (by decide)) hk (fun _ h => h.2)) (fun _ h => h.1)); replace HK := Mk (KeepBut.trans kK hk (.inl rfl)); replace HB := Mk (hb); replace HI0 := Mk (hi); clear hb hk hi; obtain ⟨Ao56, co56, eo56⟩ := Kd.R_slice HO332.out; subst eo56) | (go_at_call 32; (with_reducible refine (slices_Index_string_string.calls k _ _ t330 t333 t337 _ ?side1 ?side2 A11.out).mono ?_); (case side1 => exact cU (Kd.R_reads' HO332.out).2.2); (case side2 => exact (Kd.R_reads' HO332.out).2.1); rintro e w' ⟨rfl, ⟨nd, rfl⟩⟩; (try (rw [drewN_self w55]; generalize hq_ : World.drewN w55 _ = w55; have n0_ : Aside0 (Kd.R Kd.string 9 w55 w.heap.size (fun _ => True) (.slice Ao56 t330.length co56) t330) := ⟨by rw [← hq_]; exact (rU HO332)⟩; have n1_ : Aside0 (w55.heap[gb326]? = some (.cells #[.int .i64 0, .int .i64 0, .int .i64 0, .int .i64 0, .string (⟨#[]⟩ : ByteArray), .complex .f64 0 0, .complex .f64 0 0, .complex .f64 0 0, .slice none 0 0] 30 (0, 0))) := ⟨by rw [← hq_]; exact (bK BK326)⟩; have n2_ : Aside0 (IsS64 w0 w55 g t334 t335 t336) := ⟨by rw [← hq_]; exact (hI HI0)⟩; have n3_ : Aside0 (KeepBut w w55 g none) := ⟨by rw [← hq_]; exact kK⟩; have n4_ : Aside0 (Below w0.heap.size w0 w55) := ⟨by rw [← hq_]; exact bB⟩; clear HO332 BK326 HI0 HK HB hq_; have HO332 := n0_; have BK326 := n1_; have HI0 := n2_; have HK := n3_; have HB := n4_; clear n0_ n1_ n2_ n3_ n4_))) | ((with_reducible refine gate_dst (N := 5) rfl ?_); refine boxE 5 #[.int .i64 0, .int .i64 0, .int .i64 0, .int .i64 0, .string (⟨#[]⟩ : ByteArray), .complex .f64 0 0, .complex .f64 0 0, .complex .f64 0 0, .slice none 0 0] 30 ?_; intro gb338 hg w57 hbox hb; have BK338 := Mk (hbox); have GW338 := (gW : Aside0 (w.heap.size ≤ gb338)); have GE338 := (gV : Aside0 (w0.heap.size ≤ gb338)); have NB326_338 := (gL BK326 : Aside0 (gb326 ≠ gb338)); have NB338_326 := (gG BK326 : Aside0 (gb338 ≠ gb326)); have NB0_338 := Mk ((by rw [hg]; exact Nat.ne_of_lt (IsS64.lt (show IsS64 w0 _ g t334 t335 t336 from hI HI0)) : g ≠ gb338)); have NB338_0 := Mk ((by rw [hg]; exact Nat.ne_of_gt (IsS64.lt (show IsS64 w0 _ g t334 t335 t336 from hI HI0)) : gb338 ≠ g)); replace HO332 := Mk (Kd.R_below (rU HO332) hb); replace HI0 := Mk (IsS64.below (hI HI0) hb); replace BK326 := bkb BK326 hb; replace HK := Mk (KeepBut.trans kK (KeepBut.of_below hb g none) (.inl rfl)); replace HB := Mk (below_step bB hb); clear hb hbox hg; have hnb58 := NB338_326.out; have hnc58 := NB326_338.out; have hnb59 := NB338_0.out; have hnc59 := NB0_338.out; obtain ⟨_, _, _, _, _, _, _, _, _, _, _, _, _, _, _, _, _, _⟩ := z9 BK338))
     (try simp only [Act.put, List.setIfInBounds_toArray, List.set_cons_zero, List.set_cons_succ])
     go_cut [41] (fun v41 wc => ∃ (kq : Nat) (x41_51 : Bool), v41 = .bool x41_51 ∧ Aside0 (req_reader_pred.j0 kq a1 x41_51 t334 t335 t336 (wrap64 (t337 + 1)) 0 0 0 (⟨#[]⟩ : ByteArray) ((0, 0) : Nat × Nat) ((0, 0) : Nat × Nat) ((0, 0) : Nat × Nat) = some (r1, r2, r3, r4, r5, r6, r7, r8, r9, r10, r11, r12)) ∧ Aside0 (kq ≤ k) ∧ Aside0 (wc.heap[gb326]? = some (.cells #[.int .i64 0, .int .i64 0, .int .i64 0, .int .i64 0, .string (⟨#[]⟩ : ByteArray), .complex .f64 0 0, .complex .f64 0 0, .complex .f64 0 0, (.slice none 0 0)] 30 (0, 0))) ∧ Aside0 (wc.heap[gb338]? = some (.cells #[.int .i64 (wrap64 (t337 + 1)), .int .i64 0, .int .i64 0, .int .i64 0, .string (⟨#[]⟩ : ByteArray), .complex .f64 0 0, .complex .f64 0 0, .complex .f64 0 0, (.slice none 0 0)] 30 (0, 0))) ∧ Aside0 (IsS64 w0 wc g t334 t335 t336) ∧ Aside0 (KeepBut w wc g none) ∧ Aside0 (Below w0.heap.size w0 wc))
     case first =>
      have H := HC52.out
      clear HC52
      by_cases c61 : (wrap64 (t337 + 1)) = 9
      ·rw [if_pos c61] at H
       have c61b0 := beq_iff_eq.mpr c61
       have c61b1 := bne_eq_false_iff_eq.mpr c61
       clear c61
       (first | rw [c61b0] | (simp only [i64_w, i32_w]; rw [c61b0]) | skip)
       have H' := Mk H
       clear H
       have hnb62 := NB338_326.out
       have hnc62 := NB326_338.out
       have hnb63 := NB338_0.out
       have hnc63 := NB0_338.out
       obtain ⟨_, _, _, _, _, _, _, _, _, _, _, _, _, _, _, _, _, _⟩ := z9 BK338
       go_wp2
       go_meet
       case rel => exact ⟨_, (true), sS, H', ⟨by first | omega | exact Nat.le_refl _⟩, ⟨by (with_reducible repeat refine bU ?_); refine blk_far ?_ NB326_338.out _; (with_reducible repeat refine bU ?_); refine blk_far ?_ NB326_338.out _; (with_reducible repeat refine bU ?_); refine blk_far ?_ NB326_338.out _; (with_reducible repeat refine bU ?_); refine blk_far ?_ NB326_338.out _; (with_reducible repeat refine bU ?_); refine blk_far ?_ NB326_338.out _; (with_reducible repeat refine bU ?_); refine blk_far ?_ NB326_338.out _; (with_reducible repeat refine bU ?_); refine blk_far ?_ NB326_338.out _; (with_reducible repeat refine bU ?_); refine blk_far ?_ NB326_338.out _; (with_reducible repeat refine bU ?_); refine blk_far ?_ NB326_338.out _; (with_reducible repeat refine bU ?_); exact BK326.out⟩, ⟨by (with_reducible repeat refine bU ?_); refine blk_put (cs := #[.int .i64 (wrap64 (t337 + 1)), .int .i64 0, .int .i64 0, .int .i64 0, .string (⟨#[]⟩ : ByteArray), .complex .f64 0 0, .complex .f64 0 0, .complex .f64 0 0, .slice none 0 0]) ?_ 8 _ rfl; (with_reducible repeat refine bU ?_); refine blk_put (cs := #[.int .i64 (wrap64 (t337 + 1)), .int .i64 0, .int .i64 0, .int .i64 0, .string (⟨#[]⟩ : ByteArray), .complex .f64 0 0, .complex .f64 0 0, .complex .f64 0 0, .slice none 0 0]) ?_ 7 _ rfl; (with_reducible repeat refine bU ?_); refine blk_put (cs := #[.int .i64 (wrap64 (t337 + 1)), .int .i64 0, .int .i64 0, .int .i64 0, .string (⟨#[]⟩ : ByteArray), .complex .f64 0 0, .complex .f64 0 0, .complex .f64 0 0, .slice none 0 0]) ?_ 6 _ rfl; (with_reducible repeat refine bU ?_); refine blk_put (cs := #[.int .i64 (wrap64 (t337 + 1)), .int .i64 0, .int .i64 0, .int .i64 0, .string (⟨#[]⟩ : ByteArray), .complex .f64 0 0, .complex .f64 0 0, .complex .f64 0 0, .slice none 0 0]) ?_ 5 _ rfl; (with_reducible repeat refine bU ?_); refine blk_put (cs := #[.int .i64 (wrap64 (t337 + 1)), .int .i64 0, .int .i64 0, .int .i64 0, .string (⟨#[]⟩ : ByteArray), .complex .f64 0 0, .complex .f64 0 0, .complex .f64 0 0, .slice none 0 0]) ?_ 4 _ rfl; (with_reducible repeat refine bU ?_); refine blk_put (cs := #[.int .i64 (wrap64 (t337 + 1)), .int .i64 0, .int .i64 0, .int .i64 0, .string (⟨#[]⟩ : ByteArray), .complex .f64 0 0, .complex .f64 0 0, .complex .f64 0 0, .slice none 0 0]) ?_ 3 _ rfl; (with_reducible repeat refine bU ?_); refine blk_put (cs := #[.int .i64 (wrap64 (t337 + 1)), .int .i64 0, .int .i64 0, .int .i64 0, .string (⟨#[]⟩ : ByteArray), .complex .f64 0 0, .complex .f64 0 0, .complex .f64 0 0, .slice none 0 0]) ?_ 2 _ rfl; (with_reducible repeat refine bU ?_); refine blk_put (cs := #[.int .i64 (wrap64 (t337 + 1)), .int .i64 0, .int .i64 0, .int .i64 0, .string (⟨#[]⟩ : ByteArray), .complex .f64 0 0, .complex .f64 0 0, .complex .f64 0 0, .slice none 0 0]) ?_ 1 _ rfl; (with_reducible repeat refine bU ?_); refine blk_put (cs := #[.int .i64 0, .int .i64 0, .int .i64 0, .int .i64 0, .string (⟨#[]⟩ : ByteArray), .complex .f64 0 0, .complex .f64 0 0, .complex .f64 0 0, .slice none 0 0]) ?_ 0 _ rfl; (with_reducible repeat refine bU ?_); exact BK338.out⟩, ⟨hI HI0⟩, ⟨kK⟩, ⟨bB⟩⟩
      ·rw [if_neg c61] at H
       have c61b0 := beq_eq_false_iff_ne.mpr c61
       have c61b1 := bne_iff_ne.mpr c61
       (first | rw [c61b0] | (simp only [i64_w, i32_w]; rw [c61b0]) | skip)
       have H' := Mk H
       clear H
       have hnb65 := NB338_326.out
       have hnc65 := NB326_338.out
       have hnb66 := NB338_0.out
       have hnc66 := NB0_338.out
       obtain ⟨_, _, _, _, _, _, _, _, _, _, _, _, _, _, _, _, _, _⟩ := z9 BK338
       go_wp2
       go_meet
       case rel => exact ⟨_, (((wrap64 (t337 + 1)) == 10)), sS, H', ⟨by first | omega | exact Nat.le_refl _⟩, ⟨by (with_reducible repeat refine bU ?_); refine blk_far ?_ NB326_338.out _; (with_reducible repeat refine bU ?_); refine blk_far ?_ NB326_338.out _; (with_reducible repeat refine bU ?_); refine blk_far ?_ NB326_338.out _; (with_reducible repeat refine bU ?_); refine blk_far ?_ NB326_338.out _; (with_reducible repeat refine bU ?_); refine blk_far ?_ NB326_338.out _; (with_reducible repeat refine bU ?_); refine blk_far ?_ NB326_338.out _; (with_reducible repeat refine bU ?_); refine blk_far ?_ NB326_338.out _; (with_reducible repeat refine bU ?_); refine blk_far ?_ NB326_338.out _; (with_reducible repeat refine bU ?_); refine blk_far ?_ NB326_338.out _; (with_reducible repeat refine bU ?_); exact BK326.out⟩, ⟨by (with_reducible repeat refine bU ?_); refine blk_put (cs := #[.int .i64 (wrap64 (t337 + 1)), .int .i64 0, .int .i64 0, .int .i64 0, .string (⟨#[]⟩ : ByteArray), .complex .f64 0 0, .complex .f64 0 0, .complex .f64 0 0, .slice none 0 0]) ?_ 8 _ rfl; (with_reducible repeat refine bU ?_); refine blk_put (cs := #[.int .i64 (wrap64 (t337 + 1)), .int .i64 0, .int .i64 0, .int .i64 0, .string (⟨#[]⟩ : ByteArray), .complex .f64 0 0, .complex .f64 0 0, .complex .f64 0 0, .slice none 0 0]) ?_ 7 _ rfl; (with_reducible repeat refine bU ?_); refine blk_put (cs := #[.int .i64 (wrap64 (t337 + 1)), .int .i64 0, .int .i64 0, .int .i64 0, .string (⟨#[]⟩ : ByteArray), .complex .f64 0 0, .complex .f64 0 0, .complex .f64 0 0, .slice none 0 0]) ?_ 6 _ rfl; (with_reducible repeat refine bU ?_); refine blk_put (cs := #[.int .i64 (wrap64 (t337 + 1)), .int .i64 0, .int .i64 0, .int .i64 0, .string (⟨#[]⟩ : ByteArray), .complex .f64 0 0, .complex .f64 0 0, .complex .f64 0 0, .slice none 0 0]) ?_ 5 _ rfl; (with_reducible repeat refine bU ?_); refine blk_put (cs := #[.int .i64 (wrap64 (t337 + 1)), .int .i64 0, .int .i64 0, .int .i64 0, .string (⟨#[]⟩ : ByteArray), .complex .f64 0 0, .complex .f64 0 0, .complex .f64 0 0, .slice none 0 0]) ?_ 4 _ rfl; (with_reducible repeat refine bU ?_); refine blk_put (cs := #[.int .i64 (wrap64 (t337 + 1)), .int .i64 0, .int .i64 0, .int .i64 0, .string (⟨#[]⟩ : ByteArray), .complex .f64 0 0, .complex .f64 0 0, .complex .f64 0 0, .slice none 0 0]) ?_ 3 _ rfl; (with_reducible repeat refine bU ?_); refine blk_put (cs := #[.int .i64 (wrap64 (t337 + 1)), .int .i64 0, .int .i64 0, .int .i64 0, .string (⟨#[]⟩ : ByteArray), .complex .f64 0 0, .complex .f64 0 0, .complex .f64 0 0, .slice none 0 0]) ?_ 2 _ rfl; (with_reducible repeat refine bU ?_); refine blk_put (cs := #[.int .i64 (wrap64 (t337 + 1)), .int .i64 0, .int .i64 0, .int .i64 0, .string (⟨#[]⟩ : ByteArray), .complex .f64 0 0, .complex .f64 0 0, .complex .f64 0 0, .slice none 0 0]) ?_ 1 _ rfl; (with_reducible repeat refine bU ?_); refine blk_put (cs := #[.int .i64 0, .int .i64 0, .int .i64 0, .int .i64 0, .string (⟨#[]⟩ : ByteArray), .complex .f64 0 0, .complex .f64 0 0, .complex .f64 0 0, .slice none 0 0]) ?_ 0 _ rfl; (with_reducible repeat refine bU ?_); exact BK338.out⟩, ⟨hI HI0⟩, ⟨kK⟩, ⟨bB⟩⟩
     case rest =>
      clear HC52
      try clear c1
      try clear c2
      try clear p2
      try clear c3
      try clear c3b0
      try clear c4
      try clear c5
      try clear c6
      try clear p6
      try clear c7
      try clear c12
      try clear c12b0
      try clear c12b1
      try clear c19
      try clear c20
      try clear c24
      try clear c26
      try clear c26b0
      try clear c26b1
      try clear c29
      try clear c32
      try clear c33
      try clear c35
      try clear c37
      try clear c37b0
      try clear c37b1
      try clear c44
      try clear c45
      try clear c50
      try clear c57
      try clear c58
      try clear c59
      try clear c61
      try clear c61b0
      try clear c61b1
      try clear c62
      try clear c63
      try clear p64
      try clear c65
      try clear c66
      obtain ⟨kq, x41_51, rfl, HA, HJ51, BK326, BK338, HI0, HK, HB⟩ := hcut
      cases kq with
      | zero => exact absurd HA.out (by simp [req_reader_pred.j0])
      | succ kj51 =>
       have H := HA.out
       clear HA
       simp only [req_reader_pred.j0] at H
       by_cases c68 : x41_51 = true
       ·subst c68
        rw [if_pos rfl] at H
        try dsimp only at H
        replace H := Option.bind_eq_some_iff.mp H
        obtain ⟨⟨t348, t351, t352, t353⟩, A690, H⟩ := H
        try dsimp only at H
        have A69 := Mk A690
        clear A690
        simp only [Option.some.injEq, Prod.mk.injEq] at H
        obtain ⟨rfl, rfl, rfl, rfl, rfl, rfl, rfl, rfl, rfl, rfl, rfl, rfl⟩ := H
        go_wp2_with (first | ((with_reducible refine gate_callee (f := 59) rfl ?_); refine goesL_ (some 52) rfl rfl Tryz.func59 kR rfl #[.pointer (some ⟨g, 0, none⟩), .int .i64 a1, .int .i64 2, .int .i64 8] rfl mA ?_; (with_reducible refine (req_reader_kids.calls kj51 (fun j hj => ih j (by first | omega | (have := HJ51.out; omega))) g t334 t335 t336 a1 2 8 t348 t351 t352 t353 w0 _ ?side1 ?side2 A69.out HG_.out).mono ?_); (case side1 => exact hI HI0); (case side2 => exact bB); rintro e w70 ⟨v349, rfl, ho0, hi, hb, hk⟩; refine ⟨_, rfl, ?_⟩; have HO350 := Mk (Kd.R_lower (Kd.R_newB (Kd.R_newB ho0 (g := gb326) (o := .cells #[.int .i64 0, .int .i64 0, .int .i64 0, .int .i64 0, .string (⟨#[]⟩ : ByteArray), .complex .f64 0 0, .complex .f64 0 0, .complex .f64 0 0, .slice none 0 0] 30 (0, 0)) (bK BK326)) (g := gb338) (o := .cells #[.int .i64 (wrap64 (t337 + 1)), .int .i64 0, .int .i64 0, .int .i64 0, .string (⟨#[]⟩ : ByteArray), .complex .f64 0 0, .complex .f64 0 0, .complex .f64 0 0, .slice none 0 0] 30 (0, 0)) (bK BK338)) (keep_size (w := w) (g := g) (row := none) kK)); replace BK326 := Mk (kblk hk BK326 NB326_0); replace BK338 := Mk (kblk hk BK338 NB338_0); replace HK := Mk (KeepBut.trans kK hk (.inl rfl)); replace HB := Mk (hb); replace HI0 := Mk (hi); clear hb hk hi ho0; obtain ⟨Ao71, co71, eo71⟩ := Kd.R_slice HO350.out; subst eo71; have hnb72 := NB338_326.out; have hnc72 := NB326_338.out; have hnb73 := NB338_0.out; have hnc73 := NB0_338.out; obtain ⟨_, _, _, _, _, _, _, _, _, _, _, _, _, _, _, _, _, _⟩ := z9 BK338; have hnb75 := NB326_0.out; have hnc75 := NB0_326.out; obtain ⟨_, _, _, _, _, _, _, _, _, _, _, _, _, _, _, _, _, _⟩ := z9 BK326))
        refine bodyPost_ret (results_cell_row rfl _ _ gb326 30 #[.int .i64 (wrap64 (t337 + 1)), .int .i64 0, .int .i64 0, .int .i64 0, .string (⟨#[]⟩ : ByteArray), .complex .f64 0 0, .complex .f64 0 0, .complex .f64 0 0, .slice Ao71 t348.length co71] (0, 0) _ rfl (bP BK326) Tryz.underlying30 rfl kR) rfl ?_
        exact ⟨_, eW, by (repeat apply Rup); exact Kd.R_mono (Kd.R_far (p := ⟨gb326, 8, none⟩) (Kd.R_far (p := ⟨gb326, 7, none⟩) (Kd.R_far (p := ⟨gb326, 6, none⟩) (Kd.R_far (p := ⟨gb326, 5, none⟩) (Kd.R_far (p := ⟨gb326, 4, none⟩) (Kd.R_far (p := ⟨gb326, 3, none⟩) (Kd.R_far (p := ⟨gb326, 2, none⟩) (Kd.R_far (p := ⟨gb326, 1, none⟩) (Kd.R_far (p := ⟨gb326, 0, none⟩) (Kd.R_far (p := ⟨gb338, 8, none⟩) (Kd.R_mono (Kd.R_mono HO350.out (fun k_ hk => (⟨hk, hk.2⟩ : _ ∧ k_ ≠ gb338))) (fun k_ hk => (⟨hk, hk.1.1.2⟩ : _ ∧ k_ ≠ gb326))) (fun _ hk => hk.1.2) (.slice Ao71 t348.length co71)) (fun _ hk => hk.2) (.int .i64 (wrap64 (t337 + 1)))) (fun _ hk => hk.2) (.int .i64 0)) (fun _ hk => hk.2) (.int .i64 0)) (fun _ hk => hk.2) (.int .i64 0)) (fun _ hk => hk.2) (.string (⟨#[]⟩ : ByteArray))) (fun _ hk => hk.2) (.complex .f64 0 0)) (fun _ hk => hk.2) (.complex .f64 0 0)) (fun _ hk => hk.2) (.complex .f64 0 0)) (fun _ hk => hk.2) (.slice Ao71 t348.length co71)) (fun _ hk => trivial), hI HI0, bB, kK⟩
       ·replace c68 := Bool.eq_false_iff.mpr c68
        subst c68
        rw [if_neg (show ¬ (false = true) by decide)] at H
        try dsimp only at H
        by_cases c77 : (wrap64 (t337 + 1)) = 7
        ·rw [if_pos c77] at H
         have c77b0 := beq_iff_eq.mpr c77
         have c77b1 := bne_eq_false_iff_eq.mpr c77
         clear c77
         replace H := Option.bind_eq_some_iff.mp H
         obtain ⟨⟨t354, t355, t356, t357⟩, A780, H⟩ := H
         try dsimp only at H
         have A78 := Mk A780
         clear A780
         simp only [Option.some.injEq, Prod.mk.injEq] at H
         obtain ⟨rfl, rfl, rfl, rfl, rfl, rfl, rfl, rfl, rfl, rfl, rfl, rfl⟩ := H
         have hnb79 := NB338_326.out
         have hnc79 := NB326_338.out
         have hnb80 := NB338_0.out
         have hnc80 := NB0_338.out
         obtain ⟨_, _, _, _, _, _, _, _, _, _, _, _, _, _, _, _, _, _⟩ := z9 BK338
         go_wp2_with (first | ((with_reducible refine gate_callee (f := 60) rfl ?_); refine goesL_ (some 59) rfl rfl Tryz.func60 kR rfl #[.pointer (some ⟨g, 0, none⟩)] rfl mA ?_; (with_reducible refine (req_reader_column.calls kj51 g t334 t335 t336 t354 t355 t356 t357 w0 _ ?side1 ?side2 A78.out HG_.out).mono ?_); (case side1 => exact hI HI0); (case side2 => exact bB); rintro e w82 ⟨rfl, hi, hb, hk⟩; refine ⟨_, rfl, ?_⟩; replace BK326 := Mk (kblk hk BK326 NB326_0); replace BK338 := Mk (kblk hk BK338 NB338_0); replace HK := Mk (KeepBut.trans kK hk (.inl rfl)); replace HB := Mk (hb); replace HI0 := Mk (hi); clear hb hk hi; obtain ⟨_, _, _, _, _, _, _, _, _, _, _, _, _, _, _, _, _, _⟩ := z9 BK338; have hnb84 := NB326_0.out; have hnc84 := NB0_326.out; obtain ⟨_, _, _, _, _, _, _, _, _, _, _, _, _, _, _, _, _, _⟩ := z9 BK326))
         refine bodyPost_ret (results_cell_row rfl _ _ gb326 30 #[.int .i64 (wrap64 (t337 + 1)), .int .i64 t354, .int .i64 0, .int .i64 0, .string (⟨#[]⟩ : ByteArray), .complex .f64 0 0, .complex .f64 0 0, .complex .f64 0 0, .slice none 0 0] (0, 0) _ rfl (bP BK326) Tryz.underlying30 rfl kR) rfl ?_
         exact ⟨_, eW, by first | exact Kd.R_nil _ _ _ _ _ | exact Kd.N_nil _ _ _ _ _ | exact Kd.V_nil _ _ _ _ _ | exact Kd.Q_nil _ _ _ _ _ | exact Kd.S_nil _ _ _ _ _, hI HI0, bB, kK⟩
        ·rw [if_neg c77] at H
         have c77b0 := beq_eq_false_iff_ne.mpr c77
         have c77b1 := bne_iff_ne.mpr c77
         by_cases c86 : (wrap64 (t337 + 1)) = 8
         ·rw [if_pos c86] at H
          have c86b0 := beq_iff_eq.mpr c86
          have c86b1 := bne_eq_false_iff_eq.mpr c86
          clear c86
          replace H := Option.bind_eq_some_iff.mp H
          obtain ⟨⟨t358, t359, t360, t361⟩, A870, H⟩ := H
          try dsimp only at H
          have A87 := Mk A870
          clear A870
          replace H := Option.bind_eq_some_iff.mp H
          obtain ⟨⟨t362, t363, t364, t365⟩, A880, H⟩ := H
          try dsimp only at H
          have A88 := Mk A880
          clear A880
          replace H := Option.bind_eq_some_iff.mp H
          obtain ⟨⟨t366, t367, t368, t369⟩, A890, H⟩ := H
          try dsimp only at H
          have A89 := Mk A890
          clear A890
          simp only [Option.some.injEq, Prod.mk.injEq] at H
          obtain ⟨rfl, rfl, rfl, rfl, rfl, rfl, rfl, rfl, rfl, rfl, rfl, rfl⟩ := H
          have hnb90 := NB338_326.out
          have hnc90 := NB326_338.out
          have hnb91 := NB338_0.out
          have hnc91 := NB0_338.out
          obtain ⟨_, _, _, _, _, _, _, _, _, _, _, _, _, _, _, _, _, _⟩ := z9 BK338
          go_wp2_with (first | ((with_reducible refine gate_callee (f := 60) rfl ?_); refine goesL_ (some 66) rfl rfl Tryz.func60 kR rfl #[.pointer (some ⟨g, 0, none⟩)] rfl mA ?_; (with_reducible refine (req_reader_column.calls kj51 g t334 t335 t336 t358 t359 t360 t361 w0 _ ?side1 ?side2 A87.out HG_.out).mono ?_); (case side1 => exact hI HI0); (case side2 => exact bB); rintro e w93 ⟨rfl, hi, hb, hk⟩; refine ⟨_, rfl, ?_⟩; replace BK326 := Mk (kblk hk BK326 NB326_0); replace BK338 := Mk (kblk hk BK338 NB338_0); replace HK := Mk (KeepBut.trans kK hk (.inl rfl)); replace HB := Mk (hb); replace HI0 := Mk (hi); clear hb hk hi; obtain ⟨_, _, _, _, _, _, _, _, _, _, _, _, _, _, _, _, _, _⟩ := z9 BK338) | ((with_reducible refine gate_callee (f := 61) rfl ?_); refine goesL_ (some 69) rfl rfl Tryz.func61 kR rfl #[.pointer (some ⟨g, 0, none⟩)] rfl mA ?_; (with_reducible refine (req_reader_corner.calls kj51 g t359 t360 t361 t362 t363 t364 t365 w0 _ ?side1 ?side2 A88.out HG_.out).mono ?_); (case side1 => exact hI HI0); (case side2 => exact bB); rintro e w95 ⟨rfl, hi, hb, hk⟩; refine ⟨_, rfl, ?_⟩; replace BK326 := Mk (kblk hk BK326 NB326_0); replace BK338 := Mk (KeepBut.blk hk (g' := gb338) (o := .cells #[.int .i64 (wrap64 (t337 + 1)), .int .i64 t358, .int .i64 0, .int .i64 0, .string (⟨#[]⟩ : ByteArray), .complex .f64 0 0, .complex .f64 0 0, .complex .f64 0 0, .slice none 0 0] 30 (0, 0)) (bP BK338) NB338_0.out (by simp)); replace HK := Mk (KeepBut.trans kK hk (.inl rfl)); replace HB := Mk (hb); replace HI0 := Mk (hi); clear hb hk hi) | ((with_reducible refine gate_callee (f := 61) rfl ?_); refine goesL_ (some 71) rfl rfl Tryz.func61 kR rfl #[.pointer (some ⟨g, 0, none⟩)] rfl mA ?_; (with_reducible refine (req_reader_corner.calls kj51 g t363 t364 t365 t366 t367 t368 t369 w0 _ ?side1 ?side2 A89.out HG_.out).mono ?_); (case side1 => exact hI HI0); (case side2 => exact bB); rintro e w96 ⟨rfl, hi, hb, hk⟩; refine ⟨_, rfl, ?_⟩; replace BK326 := Mk (kblk hk BK326 NB326_0); replace BK338 := Mk (kblk hk BK338 NB338_0); replace HK := Mk (KeepBut.trans kK hk (.inl rfl)); replace HB := Mk (hb); replace HI0 := Mk (hi); clear hb hk hi; obtain ⟨_, _, _, _, _, _, _, _, _, _, _, _, _, _, _, _, _, _⟩ := z9 BK338; have hnb98 := NB326_0.out; have hnc98 := NB0_326.out; obtain ⟨_, _, _, _, _, _, _, _, _, _, _, _, _, _, _, _, _, _⟩ := z9 BK326))
          refine bodyPost_ret (results_cell_row rfl _ _ gb326 30 #[.int .i64 (wrap64 (t337 + 1)), .int .i64 t358, .int .i64 0, .int .i64 0, .string (⟨#[]⟩ : ByteArray), .complex .f64 0 0, .complex .f64 t362.1 t362.2, .complex .f64 t366.1 t366.2, .slice none 0 0] (0, 0) _ rfl (bP BK326) Tryz.underlying30 rfl kR) rfl ?_
          exact ⟨_, eW, by first | exact Kd.R_nil _ _ _ _ _ | exact Kd.N_nil _ _ _ _ _ | exact Kd.V_nil _ _ _ _ _ | exact Kd.Q_nil _ _ _ _ _ | exact Kd.S_nil _ _ _ _ _, hI HI0, bB, kK⟩
         ·rw [if_neg c86] at H
          have c86b0 := beq_eq_false_iff_ne.mpr c86
          have c86b1 := bne_iff_ne.mpr c86
          replace H := Option.bind_eq_some_iff.mp H
          obtain ⟨⟨t370, t371, t372, t373⟩, A1000, H⟩ := H
          try dsimp only at H
          have A100 := Mk A1000
          clear A1000
          replace H := Option.bind_eq_some_iff.mp H
          obtain ⟨⟨t374, t375, t376, t377, t378, t379, t380⟩, A1010, H⟩ := H
          try dsimp only at H
          have A101 := Mk A1010
          clear A1010
          simp only [Option.some.injEq, Prod.mk.injEq] at H
          obtain ⟨rfl, rfl, rfl, rfl, rfl, rfl, rfl, rfl, rfl, rfl, rfl, rfl⟩ := H
          have hnb102 := NB338_326.out
          have hnc102 := NB326_338.out
          have hnb103 := NB338_0.out
          have hnc103 := NB0_338.out
          obtain ⟨_, _, _, _, _, _, _, _, _, _, _, _, _, _, _, _, _, _⟩ := z9 BK338
          go_wp2_with (first | ((with_reducible refine gate_callee (f := 60) rfl ?_); refine goesL_ (some 18) rfl rfl Tryz.func60 kR rfl #[.pointer (some ⟨g, 0, none⟩)] rfl mA ?_; (with_reducible refine (req_reader_column.calls kj51 g t334 t335 t336 t370 t371 t372 t373 w0 _ ?side1 ?side2 A100.out HG_.out).mono ?_); (case side1 => exact hI HI0); (case side2 => exact bB); rintro e w105 ⟨rfl, hi, hb, hk⟩; refine ⟨_, rfl, ?_⟩; replace BK326 := Mk (kblk hk BK326 NB326_0); replace BK338 := Mk (kblk hk BK338 NB338_0); replace HK := Mk (KeepBut.trans kK hk (.inl rfl)); replace HB := Mk (hb); replace HI0 := Mk (hi); clear hb hk hi; obtain ⟨_, _, _, _, _, _, _, _, _, _, _, _, _, _, _, _, _, _⟩ := z9 BK338) | ((with_reducible refine gate_callee (f := 62) rfl ?_); refine goesL_ (some 21) rfl rfl Tryz.func62 kR rfl #[.pointer (some ⟨g, 0, none⟩)] rfl mA ?_; (with_reducible refine (req_reader_value.calls kj51 g t371 t372 t373 t374 t375 t376 t377 t378 t379 t380 w0 _ ?side1 ?side2 A101.out HG_.out).mono ?_); (case side1 => exact hI HI0); (case side2 => exact bB); rintro e w107 ⟨rfl, hi, hb, hk⟩; refine ⟨_, rfl, ?_⟩; replace BK326 := Mk (kblk hk BK326 NB326_0); replace BK338 := Mk (KeepBut.blk hk (g' := gb338) (o := .cells #[.int .i64 (wrap64 (t337 + 1)), .int .i64 t370, .int .i64 0, .int .i64 0, .string (⟨#[]⟩ : ByteArray), .complex .f64 0 0, .complex .f64 0 0, .complex .f64 0 0, .slice none 0 0] 30 (0, 0)) (bP BK338) NB338_0.out (by simp)); replace HK := Mk (KeepBut.trans kK hk (.inl rfl)); replace HB := Mk (hb); replace HI0 := Mk (hi); clear hb hk hi; obtain ⟨_, _, _, _, _, _, _, _, _, _, _, _, _, _, _, _, _, _⟩ := z9 BK338; have hnb109 := NB326_0.out; have hnc109 := NB0_326.out; obtain ⟨_, _, _, _, _, _, _, _, _, _, _, _, _, _, _, _, _, _⟩ := z9 BK326))
          refine bodyPost_ret (results_cell_row rfl _ _ gb326 30 #[.int .i64 (wrap64 (t337 + 1)), .int .i64 t370, .int .i64 t374, .int .i64 t375, .string t376, .complex .f64 t377.1 t377.2, .complex .f64 0 0, .complex .f64 0 0, .slice none 0 0] (0, 0) _ rfl (bP BK326) Tryz.underlying30 rfl kR) rfl ?_
          exact ⟨_, eW, by first | exact Kd.R_nil _ _ _ _ _ | exact Kd.N_nil _ _ _ _ _ | exact Kd.V_nil _ _ _ _ _ | exact Kd.Q_nil _ _ _ _ _ | exact Kd.S_nil _ _ _ _ _, hI HI0, bB, kK⟩
theorem req_reader_pred.calls (k : Nat) (g : Nat) (s0_0 : ByteArray) (s0_1 : Int) (s0_2 : Int) (a1 : Int) (r1 : Int) (r2 : Int) (r3 : Int) (r4 : Int) (r5 : ByteArray) (r6 : (Nat × Nat)) (r7 : (Nat × Nat)) (r8 : (Nat × Nat)) (r9 : List (S30)) (r10 : ByteArray) (r11 : Int) (r12 : Int) (w0 w : World) (hI : IsS64 w0 w g s0_0 s0_1 s0_2) (hB : Below w0.heap.size w0 w) (h : req_reader_pred.f k s0_0 s0_1 s0_2 a1 = some (r1, r2, r3, r4, r5, r6, r7, r8, r9, r10, r11, r12)) (hG_ : Glob w0) :
  Calls Tryz.prog 24 #[.pointer (some ⟨g, 0, none⟩), .int .i64 a1] w fun e w' => ∃ v8_ : Value, e = .returned (.agg #[.int .i64 r1, .int .i64 r2, .int .i64 r3, .int .i64 r4, .string r5, .complex .f64 r6.1 r6.2, .complex .f64 r7.1 r7.2, .complex .f64 r8.1 r8.2, v8_]) ∧ Kd.R k30 30 w' w.heap.size (fun _ => True) v8_ r9 ∧ IsS64 w0 w' g r10 r11 r12 ∧ Below w0.heap.size w0 w' ∧ KeepBut w w' g none := req_reader_pred.has k g s0_0 s0_1 s0_2 a1 r1 r2 r3 r4 r5 r6 r7 r8 r9 r10 r11 r12 w0 w hI hB h hG_
def req_reader_end.f (s0_0 : ByteArray) (s0_1 : Int) (s0_2 : Int) : Option (Int × ByteArray × Int × Int) := if s0_1 < (s0_0.size : Int) then ((req_reader_wrong.f s0_0 s0_1 s0_2 2).bind fun bt381 => (some (bt381.2.2, bt381.1, bt381.2.1, bt381.2.2))) else (some (s0_2, s0_0, s0_1, s0_2))
set_option maxHeartbeats 8000000 in
set_option maxRecDepth 100000 in
theorem req_reader_end.calls (g : Nat) (s0_0 : ByteArray) (s0_1 : Int) (s0_2 : Int) (r1 : Int) (r2 : ByteArray) (r3 : Int) (r4 : Int) (w0 w : World) (hI : IsS64 w0 w g s0_0 s0_1 s0_2) (hB : Below w0.heap.size w0 w) (h : req_reader_end.f s0_0 s0_1 s0_2 = some (r1, r2, r3, r4)) :
  Calls Tryz.prog 25 #[.pointer (some ⟨g, 0, none⟩)] w fun e w' => e = .returned (.int .i64 r1) ∧ IsS64 w0 w' g r2 r3 r4 ∧ Below w0.heap.size w0 w' ∧ KeepBut w w' g none := by
 have HI0 := Mk hI
 have HK := Mk (KeepBut.refl w g none)
 have HL := Mk hB.size
 clear hI
 have HW0 := Mk hB.size
 have HB := Mk hB
 clear hB
 have H : (if s0_1 < (s0_0.size : Int) then ((req_reader_wrong.f s0_0 s0_1 s0_2 2).bind fun bt381 => (some (bt381.2.2, bt381.1, bt381.2.1, bt381.2.2))) else (some (s0_2, s0_0, s0_1, s0_2))) = some (r1, r2, r3, r4) := h
 clear h
 by_cases c2 : s0_1 < (s0_0.size : Int)
 ·rw [if_pos c2] at H
  have c2b0 := decide_eq_true c2
  clear c2
  replace H := Option.bind_eq_some_iff.mp H
  obtain ⟨⟨t381, t382, t383⟩, A30, H⟩ := H
  try dsimp only at H
  have A3 := Mk A30
  clear A30
  simp only [Option.some.injEq, Prod.mk.injEq] at H
  obtain ⟨rfl, rfl, rfl, rfl⟩ := H
  obtain ⟨HGz4, hgz4⟩ := HI0.out
  have hcz4_0 := cellS64_0 HGz4
  have hcz4_1 := cellS64_1 HGz4
  have hcz4_2 := cellS64_2 HGz4
  have hfz4_0 := blk_frozen HGz4 0
  have hfz4_1 := blk_frozen HGz4 1
  have hfz4_2 := blk_frozen HGz4 2
  clear HGz4 hgz4
  go_enter Tryz.func25, Tryz.ntmps25
  go_wp2_with (first | (go_at_call 57; (with_reducible refine (req_reader_wrong.calls g s0_0 s0_1 s0_2 2 t381 t382 t383 w0 _ ?side1 ?side2 A3.out).mono ?_); (case side1 => exact hI HI0); (case side2 => exact bB); rintro e w5 ⟨rfl, hi, hb, hk⟩; replace HK := Mk (KeepBut.trans kK hk (.inl rfl)); replace HB := Mk (hb); replace HI0 := Mk (hi); clear hb hk hi; obtain ⟨HGz6, hgz6⟩ := HI0.out; have hcz6_0 := cellS64_0 HGz6; have hcz6_1 := cellS64_1 HGz6; have hcz6_2 := cellS64_2 HGz6; have hfz6_0 := blk_frozen HGz6 0; have hfz6_1 := blk_frozen HGz6 1; have hfz6_2 := blk_frozen HGz6 2; clear HGz6 hgz6))
  repeat (go_quiet (first | (go_at_call 57; (with_reducible refine (req_reader_wrong.calls g s0_0 s0_1 s0_2 2 t381 t382 t383 w0 _ ?side1 ?side2 A3.out).mono ?_); (case side1 => exact hI HI0); (case side2 => exact bB); rintro e w5 ⟨rfl, hi, hb, hk⟩; replace HK := Mk (KeepBut.trans kK hk (.inl rfl)); replace HB := Mk (hb); replace HI0 := Mk (hi); clear hb hk hi; obtain ⟨HGz6, hgz6⟩ := HI0.out; have hcz6_0 := cellS64_0 HGz6; have hcz6_1 := cellS64_1 HGz6; have hcz6_2 := cellS64_2 HGz6; have hfz6_0 := blk_frozen HGz6 0; have hfz6_1 := blk_frozen HGz6 1; have hfz6_2 := blk_frozen HGz6 2; clear HGz6 hgz6)); try go_wp2_with (first | (go_at_call 57; (with_reducible refine (req_reader_wrong.calls g s0_0 s0_1 s0_2 2 t381 t382 t383 w0 _ ?side1 ?side2 A3.out).mono ?_); (case side1 => exact hI HI0); (case side2 => exact bB); rintro e w5 ⟨rfl, hi, hb, hk⟩; replace HK := Mk (KeepBut.trans kK hk (.inl rfl)); replace HB := Mk (hb); replace HI0 := Mk (hi); clear hb hk hi; obtain ⟨HGz6, hgz6⟩ := HI0.out; have hcz6_0 := cellS64_0 HGz6; have hcz6_1 := cellS64_1 HGz6; have hcz6_2 := cellS64_2 HGz6; have hfz6_0 := blk_frozen HGz6 0; have hfz6_1 := blk_frozen HGz6 1; have hfz6_2 := blk_frozen HGz6 2; clear HGz6 hgz6)))
  go_ret
  exact ⟨eW, hI HI0, bB, kK⟩
 ·rw [if_neg c2] at H
  have c2b0 := decide_eq_false c2
  clear c2
  simp only [Option.some.injEq, Prod.mk.injEq] at H
  obtain ⟨rfl, rfl, rfl, rfl⟩ := H
  obtain ⟨HGz7, hgz7⟩ := HI0.out
  have hcz7_0 := cellS64_0 HGz7
  have hcz7_1 := cellS64_1 HGz7
  have hcz7_2 := cellS64_2 HGz7
  have hfz7_0 := blk_frozen HGz7 0
  have hfz7_1 := blk_frozen HGz7 1
  have hfz7_2 := blk_frozen HGz7 2
  clear HGz7 hgz7
  go_enter Tryz.func25, Tryz.ntmps25
  go_wp2
  repeat (go_quiet (fail); try go_wp2)
  go_ret
  exact ⟨eW, hI HI0, bB, kK⟩
def req_PredParse.f (k : Nat) (a0 : ByteArray) : Option (Int × Int × Int × Int × ByteArray × (Nat × Nat) × (Nat × Nat) × (Nat × Nat) × (List (S30)) × Int) := (req_reader_pred.f k a0 0 0 1).bind fun bt386 => ((req_reader_end.f bt386.2.2.2.2.2.2.2.2.2.1 bt386.2.2.2.2.2.2.2.2.2.2.1 bt386.2.2.2.2.2.2.2.2.2.2.2).bind fun bt401 => (if bt401.1 = 0 then (some (bt386.1, bt386.2.1, bt386.2.2.1, bt386.2.2.2.1, bt386.2.2.2.2.1, bt386.2.2.2.2.2.1, bt386.2.2.2.2.2.2.1, bt386.2.2.2.2.2.2.2.1, bt386.2.2.2.2.2.2.2.2.1, 0)) else (some (0, 0, 0, 0, (⟨#[]⟩ : ByteArray), ((0, 0) : Nat × Nat), ((0, 0) : Nat × Nat), ((0, 0) : Nat × Nat), ([] : List (S30)), bt401.1))))
set_option maxHeartbeats 8000000 in
set_option maxRecDepth 100000 in
theorem req_PredParse.calls (k : Nat) (a0 : ByteArray) (r1 : Int) (r2 : Int) (r3 : Int) (r4 : Int) (r5 : ByteArray) (r6 : (Nat × Nat)) (r7 : (Nat × Nat)) (r8 : (Nat × Nat)) (r9 : List (S30)) (r10 : Int) (w : World) (h : req_PredParse.f k a0 = some (r1, r2, r3, r4, r5, r6, r7, r8, r9, r10)) (hG_ : Glob w) :
  Calls Tryz.prog 8 #[.string a0] w fun e w' => ∃ v8_ : Value, e = .returned (.tuple #[.agg #[.int .i64 r1, .int .i64 r2, .int .i64 r3, .int .i64 r4, .string r5, .complex .f64 r6.1 r6.2, .complex .f64 r7.1 r7.2, .complex .f64 r8.1 r8.2, v8_], .int .i64 r10]) ∧ Kd.R k30 30 w' w.heap.size (fun _ => True) v8_ r9 ∧ Below w.heap.size w w' := by
 have HG_ := Mk hG_
 clear hG_
 have hu30 := Tryz.underlying30
 have hu64 := Tryz.underlying64
 have HB := Mk (Below.refl w.heap.size w)
 have H : ((req_reader_pred.f k a0 0 0 1).bind fun bt386 => ((req_reader_end.f bt386.2.2.2.2.2.2.2.2.2.1 bt386.2.2.2.2.2.2.2.2.2.2.1 bt386.2.2.2.2.2.2.2.2.2.2.2).bind fun bt401 => (if bt401.1 = 0 then (some (bt386.1, bt386.2.1, bt386.2.2.1, bt386.2.2.2.1, bt386.2.2.2.2.1, bt386.2.2.2.2.2.1, bt386.2.2.2.2.2.2.1, bt386.2.2.2.2.2.2.2.1, bt386.2.2.2.2.2.2.2.2.1, 0)) else (some (0, 0, 0, 0, (⟨#[]⟩ : ByteArray), ((0, 0) : Nat × Nat), ((0, 0) : Nat × Nat), ((0, 0) : Nat × Nat), ([] : List (S30)), bt401.1))))) = some (r1, r2, r3, r4, r5, r6, r7, r8, r9, r10) := h
 clear h
 replace H := Option.bind_eq_some_iff.mp H
 obtain ⟨⟨t386, t387, t388, t389, t390, t391, t392, t393, t394, t397, t398, t399⟩, A20, H⟩ := H
 try dsimp only at H
 have A2 := Mk A20
 clear A20
 replace H := Option.bind_eq_some_iff.mp H
 obtain ⟨⟨t401, t402, t403, t404⟩, A30, H⟩ := H
 try dsimp only at H
 have A3 := Mk A30
 clear A30
 by_cases c4 : t401 = 0
 ·rw [if_pos c4] at H
  have c4b0 := beq_iff_eq.mpr c4
  have c4b1 := bne_eq_false_iff_eq.mpr c4
  clear c4
  simp only [Option.some.injEq, Prod.mk.injEq] at H
  obtain ⟨rfl, rfl, rfl, rfl, rfl, rfl, rfl, rfl, rfl, rfl⟩ := H
  go_enter Tryz.func8, Tryz.ntmps8
  go_wp2_with (first | ((with_reducible refine gate_dst (N := 2) rfl ?_); refine boxE 2 #[.int .i64 0, .int .i64 0, .int .i64 0, .int .i64 0, .string (⟨#[]⟩ : ByteArray), .complex .f64 0 0, .complex .f64 0 0, .complex .f64 0 0, .slice none 0 0] 30 ?_; intro gb384 hg w5 hbox hb; have BK384 := Mk (hbox); have GW384 := Mk ((gS : w.heap.size ≤ gb384)); have GE384 := Mk ((gS : w.heap.size ≤ gb384)); replace HB := Mk (below_step bB hb); clear hb hbox hg) | ((with_reducible refine gate_dst (N := 9) rfl ?_); refine boxE 9 #[.string a0, .int .i64 0, .int .i64 0] 64 ?_; intro gb385 hg w6 hbox hb; have HI385 := Mk ((⟨hbox, by rw [hg]; exact (below_size bB)⟩ : IsS64 w _ gb385 a0 0 0)); have GW385 := Mk ((gS : w.heap.size ≤ gb385)); have GE385 := Mk ((gS : w.heap.size ≤ gb385)); have NB384_385 := (gL BK384 : Aside0 (gb384 ≠ gb385)); have NB385_384 := (gG BK384 : Aside0 (gb385 ≠ gb384)); replace BK384 := bkb BK384 hb; replace HB := Mk (below_step bB hb); clear hb hbox hg) | ((with_reducible refine gate_callee (f := 24) rfl ?_); refine goesL_ (some 11) rfl rfl Tryz.func24 kR rfl #[.pointer (some ⟨gb385, 0, none⟩), .int .i64 1] rfl mA ?_; (with_reducible refine (req_reader_pred.calls k gb385 a0 0 0 1 t386 t387 t388 t389 t390 t391 t392 t393 t394 t397 t398 t399 w _ ?side1 ?side2 A2.out HG_.out).mono ?_); (case side1 => exact hI HI385); (case side2 => exact bB); rintro e w7 ⟨v395, rfl, ho0, hi, hb, hk⟩; refine ⟨_, rfl, ?_⟩; have HO396 := Mk (Kd.R_lower (Kd.R_newB ho0 (g := gb384) (o := .cells #[.int .i64 0, .int .i64 0, .int .i64 0, .int .i64 0, .string (⟨#[]⟩ : ByteArray), .complex .f64 0 0, .complex .f64 0 0, .complex .f64 0 0, .slice none 0 0] 30 (0, 0)) (bK BK384)) (below_size bB)); replace BK384 := Mk (kblk hk BK384 NB384_385); replace HB := Mk (hb); replace HI385 := Mk (hi); clear hb hk hi ho0) | ((with_reducible refine gate_dst (N := 5) rfl ?_); refine boxE 5 #[.int .i64 0, .int .i64 0, .int .i64 0, .int .i64 0, .string (⟨#[]⟩ : ByteArray), .complex .f64 0 0, .complex .f64 0 0, .complex .f64 0 0, .slice none 0 0] 30 ?_; intro gb400 hg w8 hbox hb; have BK400 := Mk (hbox); have GW400 := Mk ((gS : w.heap.size ≤ gb400)); have GE400 := Mk ((gS : w.heap.size ≤ gb400)); have NB384_400 := (gL BK384 : Aside0 (gb384 ≠ gb400)); have NB400_384 := (gG BK384 : Aside0 (gb400 ≠ gb384)); have NB385_400 := Mk ((by rw [hg]; exact Nat.ne_of_lt (IsS64.lt (show IsS64 w _ gb385 t397 t398 t399 from hI HI385)) : gb385 ≠ gb400)); have NB400_385 := Mk ((by rw [hg]; exact Nat.ne_of_gt (IsS64.lt (show IsS64 w _ gb385 t397 t398 t399 from hI HI385)) : gb400 ≠ gb385)); replace HO396 := Mk (Kd.R_below (Kd.R_elderB (rU HO396) gb400 (Nat.le_of_eq hg.symm)) hb); replace BK384 := bkb BK384 hb; replace HI385 := Mk (IsS64.below (hI HI385) hb); replace HB := Mk (below_step bB hb); clear hb hbox hg; have hnb9 := NB400_384.out; have hnc9 := NB384_400.out; have hnb10 := NB400_385.out; have hnc10 := NB385_400.out; obtain ⟨_, _, _, _, _, _, _, _, _, _, _, _, _, _, _, _, _, _⟩ := z9 BK400; obtain ⟨Ao12, co12, eo12⟩ := Kd.R_slice HO396.out; subst eo12) | ((with_reducible refine gate_callee (f := 25) rfl ?_); refine goesL_ (some 13) rfl rfl Tryz.func25 kR rfl #[.pointer (some ⟨gb385, 0, none⟩)] rfl mA ?_; (with_reducible refine (req_reader_end.calls gb385 t397 t398 t399 t401 t402 t403 t404 w _ ?side1 ?side2 A3.out).mono ?_); (case side1 => exact hI HI385); (case side2 => exact bB); rintro e w13 ⟨rfl, hi, hb, hk⟩; refine ⟨_, rfl, ?_⟩; replace BK384 := Mk (kblk hk BK384 NB384_385); replace HO396 := Mk (Kd.R_mono (Kd.R_keep (IsS64.apart (show IsS64 w _ gb385 t397 t398 t399 from hI HI385) (by (repeat apply Rup); exact (Kd.R_mono (Kd.R_far (p := ⟨gb400, 8, none⟩) (Kd.R_far (p := ⟨gb400, 7, none⟩) (Kd.R_far (p := ⟨gb400, 6, none⟩) (Kd.R_far (p := ⟨gb400, 5, none⟩) (Kd.R_far (p := ⟨gb400, 4, none⟩) (Kd.R_far (p := ⟨gb400, 3, none⟩) (Kd.R_far (p := ⟨gb400, 2, none⟩) (Kd.R_far (p := ⟨gb400, 1, none⟩) (Kd.R_far (p := ⟨gb400, 0, none⟩) (Kd.R_mono HO396.out (fun k_ hk => (⟨hk, hk.2⟩ : _ ∧ k_ ≠ gb400))) (fun _ hk => hk.2) (.int .i64 t386)) (fun _ hk => hk.2) (.int .i64 t387)) (fun _ hk => hk.2) (.int .i64 t388)) (fun _ hk => hk.2) (.int .i64 t389)) (fun _ hk => hk.2) (.string t390)) (fun _ hk => hk.2) (.complex .f64 t391.1 t391.2)) (fun _ hk => hk.2) (.complex .f64 t392.1 t392.2)) (fun _ hk => hk.2) (.complex .f64 t393.1 t393.2)) (fun _ hk => hk.2) (.slice Ao12 t394.length co12)) (fun _ h_ => h_.1))) (by decide)) hk (fun _ h => h.2)) (fun _ h => h.1)); replace BK400 := Mk (KeepBut.blk hk (g' := gb400) (o := .cells #[.int .i64 t386, .int .i64 t387, .int .i64 t388, .int .i64 t389, .string t390, .complex .f64 t391.1 t391.2, .complex .f64 t392.1 t392.2, .complex .f64 t393.1 t393.2, .slice Ao12 t394.length co12] 30 (0, 0)) (bP BK400) NB400_385.out (by simp)); replace HB := Mk (hb); replace HI385 := Mk (hi); clear hb hk hi; obtain ⟨_, _, _, _, _, _, _, _, _, _, _, _, _, _, _, _, _, _⟩ := z9 BK400; have hnb15 := NB384_385.out; have hnc15 := NB385_384.out; obtain ⟨_, _, _, _, _, _, _, _, _, _, _, _, _, _, _, _, _, _⟩ := z9 BK384))
  refine bodyPost_ret (results_ct rfl _ _ gb384 30 #[.int .i64 t386, .int .i64 t387, .int .i64 t388, .int .i64 t389, .string t390, .complex .f64 t391.1 t391.2, .complex .f64 t392.1 t392.2, .complex .f64 t393.1 t393.2, .slice Ao12 t394.length co12] (0, 0) _ rfl (bP BK384) Tryz.underlying30 rfl kR) rfl ?_
  exact ⟨_, eW, by (repeat apply Rup); exact Kd.R_mono (Kd.R_far (p := ⟨gb384, 8, none⟩) (Kd.R_far (p := ⟨gb384, 7, none⟩) (Kd.R_far (p := ⟨gb384, 6, none⟩) (Kd.R_far (p := ⟨gb384, 5, none⟩) (Kd.R_far (p := ⟨gb384, 4, none⟩) (Kd.R_far (p := ⟨gb384, 3, none⟩) (Kd.R_far (p := ⟨gb384, 2, none⟩) (Kd.R_far (p := ⟨gb384, 1, none⟩) (Kd.R_far (p := ⟨gb384, 0, none⟩) (Kd.R_mono HO396.out (fun k_ hk => (⟨hk, hk.1.2⟩ : _ ∧ k_ ≠ gb384))) (fun _ hk => hk.2) (.int .i64 t386)) (fun _ hk => hk.2) (.int .i64 t387)) (fun _ hk => hk.2) (.int .i64 t388)) (fun _ hk => hk.2) (.int .i64 t389)) (fun _ hk => hk.2) (.string t390)) (fun _ hk => hk.2) (.complex .f64 t391.1 t391.2)) (fun _ hk => hk.2) (.complex .f64 t392.1 t392.2)) (fun _ hk => hk.2) (.complex .f64 t393.1 t393.2)) (fun _ hk => hk.2) (.slice Ao12 t394.length co12)) (fun _ hk => trivial), bB⟩
 ·rw [if_neg c4] at H
  have c4b0 := beq_eq_false_iff_ne.mpr c4
  have c4b1 := bne_iff_ne.mpr c4
  simp only [Option.some.injEq, Prod.mk.injEq] at H
  obtain ⟨rfl, rfl, rfl, rfl, rfl, rfl, rfl, rfl, rfl, rfl⟩ := H
  go_enter Tryz.func8, Tryz.ntmps8
  go_wp2_with (first | ((with_reducible refine gate_dst (N := 2) rfl ?_); refine boxE 2 #[.int .i64 0, .int .i64 0, .int .i64 0, .int .i64 0, .string (⟨#[]⟩ : ByteArray), .complex .f64 0 0, .complex .f64 0 0, .complex .f64 0 0, .slice none 0 0] 30 ?_; intro gb384 hg w17 hbox hb; have BK384 := Mk (hbox); have GW384 := Mk ((gS : w.heap.size ≤ gb384)); have GE384 := Mk ((gS : w.heap.size ≤ gb384)); replace HB := Mk (below_step bB hb); clear hb hbox hg) | ((with_reducible refine gate_dst (N := 9) rfl ?_); refine boxE 9 #[.string a0, .int .i64 0, .int .i64 0] 64 ?_; intro gb385 hg w18 hbox hb; have HI385 := Mk ((⟨hbox, by rw [hg]; exact (below_size bB)⟩ : IsS64 w _ gb385 a0 0 0)); have GW385 := Mk ((gS : w.heap.size ≤ gb385)); have GE385 := Mk ((gS : w.heap.size ≤ gb385)); have NB384_385 := (gL BK384 : Aside0 (gb384 ≠ gb385)); have NB385_384 := (gG BK384 : Aside0 (gb385 ≠ gb384)); replace BK384 := bkb BK384 hb; replace HB := Mk (below_step bB hb); clear hb hbox hg) | ((with_reducible refine gate_callee (f := 24) rfl ?_); refine goesL_ (some 11) rfl rfl Tryz.func24 kR rfl #[.pointer (some ⟨gb385, 0, none⟩), .int .i64 1] rfl mA ?_; (with_reducible refine (req_reader_pred.calls k gb385 a0 0 0 1 t386 t387 t388 t389 t390 t391 t392 t393 t394 t397 t398 t399 w _ ?side1 ?side2 A2.out HG_.out).mono ?_); (case side1 => exact hI HI385); (case side2 => exact bB); rintro e w19 ⟨v395, rfl, ho0, hi, hb, hk⟩; refine ⟨_, rfl, ?_⟩; have HO396 := Mk (Kd.R_lower (Kd.R_newB ho0 (g := gb384) (o := .cells #[.int .i64 0, .int .i64 0, .int .i64 0, .int .i64 0, .string (⟨#[]⟩ : ByteArray), .complex .f64 0 0, .complex .f64 0 0, .complex .f64 0 0, .slice none 0 0] 30 (0, 0)) (bK BK384)) (below_size bB)); replace BK384 := Mk (kblk hk BK384 NB384_385); replace HB := Mk (hb); replace HI385 := Mk (hi); clear hb hk hi ho0) | ((with_reducible refine gate_dst (N := 5) rfl ?_); refine boxE 5 #[.int .i64 0, .int .i64 0, .int .i64 0, .int .i64 0, .string (⟨#[]⟩ : ByteArray), .complex .f64 0 0, .complex .f64 0 0, .complex .f64 0 0, .slice none 0 0] 30 ?_; intro gb400 hg w20 hbox hb; have BK400 := Mk (hbox); have GW400 := Mk ((gS : w.heap.size ≤ gb400)); have GE400 := Mk ((gS : w.heap.size ≤ gb400)); have NB384_400 := (gL BK384 : Aside0 (gb384 ≠ gb400)); have NB400_384 := (gG BK384 : Aside0 (gb400 ≠ gb384)); have NB385_400 := Mk ((by rw [hg]; exact Nat.ne_of_lt (IsS64.lt (show IsS64 w _ gb385 t397 t398 t399 from hI HI385)) : gb385 ≠ gb400)); have NB400_385 := Mk ((by rw [hg]; exact Nat.ne_of_gt (IsS64.lt (show IsS64 w _ gb385 t397 t398 t399 from hI HI385)) : gb400 ≠ gb385)); replace HO396 := Mk (Kd.R_below (Kd.R_elderB (rU HO396) gb400 (Nat.le_of_eq hg.symm)) hb); replace BK384 := bkb BK384 hb; replace HI385 := Mk (IsS64.below (hI HI385) hb); replace HB := Mk (below_step bB hb); clear hb hbox hg; have hnb21 := NB400_384.out; have hnc21 := NB384_400.out; have hnb22 := NB400_385.out; have hnc22 := NB385_400.out; obtain ⟨_, _, _, _, _, _, _, _, _, _, _, _, _, _, _, _, _, _⟩ := z9 BK400; obtain ⟨Ao24, co24, eo24⟩ := Kd.R_slice HO396.out; subst eo24) | ((with_reducible refine gate_callee (f := 25) rfl ?_); refine goesL_ (some 13) rfl rfl Tryz.func25 kR rfl #[.pointer (some ⟨gb385, 0, none⟩)] rfl mA ?_; (with_reducible refine (req_reader_end.calls gb385 t397 t398 t399 t401 t402 t403 t404 w _ ?side1 ?side2 A3.out).mono ?_); (case side1 => exact hI HI385); (case side2 => exact bB); rintro e w25 ⟨rfl, hi, hb, hk⟩; refine ⟨_, rfl, ?_⟩; replace BK384 := Mk (kblk hk BK384 NB384_385); replace HO396 := Mk (Kd.R_mono (Kd.R_keep (IsS64.apart (show IsS64 w _ gb385 t397 t398 t399 from hI HI385) (by (repeat apply Rup); exact (Kd.R_mono (Kd.R_far (p := ⟨gb400, 8, none⟩) (Kd.R_far (p := ⟨gb400, 7, none⟩) (Kd.R_far (p := ⟨gb400, 6, none⟩) (Kd.R_far (p := ⟨gb400, 5, none⟩) (Kd.R_far (p := ⟨gb400, 4, none⟩) (Kd.R_far (p := ⟨gb400, 3, none⟩) (Kd.R_far (p := ⟨gb400, 2, none⟩) (Kd.R_far (p := ⟨gb400, 1, none⟩) (Kd.R_far (p := ⟨gb400, 0, none⟩) (Kd.R_mono HO396.out (fun k_ hk => (⟨hk, hk.2⟩ : _ ∧ k_ ≠ gb400))) (fun _ hk => hk.2) (.int .i64 t386)) (fun _ hk => hk.2) (.int .i64 t387)) (fun _ hk => hk.2) (.int .i64 t388)) (fun _ hk => hk.2) (.int .i64 t389)) (fun _ hk => hk.2) (.string t390)) (fun _ hk => hk.2) (.complex .f64 t391.1 t391.2)) (fun _ hk => hk.2) (.complex .f64 t392.1 t392.2)) (fun _ hk => hk.2) (.complex .f64 t393.1 t393.2)) (fun _ hk => hk.2) (.slice Ao24 t394.length co24)) (fun _ h_ => h_.1))) (by decide)) hk (fun _ h => h.2)) (fun _ h => h.1)); replace BK400 := Mk (KeepBut.blk hk (g' := gb400) (o := .cells #[.int .i64 t386, .int .i64 t387, .int .i64 t388, .int .i64 t389, .string t390, .complex .f64 t391.1 t391.2, .complex .f64 t392.1 t392.2, .complex .f64 t393.1 t393.2, .slice Ao24 t394.length co24] 30 (0, 0)) (bP BK400) NB400_385.out (by simp)); replace HB := Mk (hb); replace HI385 := Mk (hi); clear hb hk hi; have hnb26 := NB384_385.out; have hnc26 := NB385_384.out; obtain ⟨_, _, _, _, _, _, _, _, _, _, _, _, _, _, _, _, _, _⟩ := z9 BK384))
  refine bodyPost_ret (results_ct rfl _ _ gb384 30 #[.int .i64 0, .int .i64 0, .int .i64 0, .int .i64 0, .string (⟨#[]⟩ : ByteArray), .complex .f64 0 0, .complex .f64 0 0, .complex .f64 0 0, .slice none 0 0] (0, 0) _ rfl (bP BK384) Tryz.underlying30 rfl kR) rfl ?_
  exact ⟨_, eW, by first | exact Kd.R_nil _ _ _ _ _ | exact Kd.N_nil _ _ _ _ _ | exact Kd.V_nil _ _ _ _ _ | exact Kd.Q_nil _ _ _ _ _ | exact Kd.S_nil _ _ _ _ _, bB⟩
def strings_Cut.f (a0 : ByteArray) (a1 : ByteArray) : Option (ByteArray × ByteArray × Bool) :=
 if a0.size < 4294967281 then some (⟨(Lib.cut a0.data.toList a1.data.toList).1.toArray⟩, ⟨(Lib.cut a0.data.toList a1.data.toList).2.1.toArray⟩, (Lib.cut a0.data.toList a1.data.toList).2.2) else none
theorem strings_Cut.calls (a0 : ByteArray) (a1 : ByteArray) (r1 : ByteArray) (r2 : ByteArray) (r3 : Bool) (w : World) (h : strings_Cut.f a0 a1 = some (r1, r2, r3)) (hG_ : Glob w) :
  Calls Tryz.prog 31 #[.string a0, .string a1] w fun e w' => e = .returned (.tuple #[.string r1, .string r2, .bool r3]) ∧ Drawn0 w w' := by
 unfold strings_Cut.f at h
 split at h
 ·rename_i c
  injection h with h
  injection h with h1 h
  injection h with h2 h3
  subst h1 h2 h3
  obtain ⟨m, hm⟩ := hG_.maxLen
  refine (Tryz.strings_Cut a0 a1 m w c hm).mono ?_
  rintro e w' ⟨rfl, n, rfl⟩
  exact ⟨rfl, n, rfl⟩
 ·cases h
end Go.Proofs.YtcpjlbdjnaaaiaaGreatDoor.PAll
