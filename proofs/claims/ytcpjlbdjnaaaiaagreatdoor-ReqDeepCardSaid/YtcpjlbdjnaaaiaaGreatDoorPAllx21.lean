import Derived.Test.YtcpjlbdjnaaaiaaGreatDoorPk
import Derived.Test.YtcpjlbdjnaaaiaaGreatDoorPAllx0
import Derived.Test.YtcpjlbdjnaaaiaaGreatDoorPAllx12
import Derived.Test.YtcpjlbdjnaaaiaaGreatDoorPAllx14
import Derived.Test.YtcpjlbdjnaaaiaaGreatDoorPAllx15
import Derived.Test.YtcpjlbdjnaaaiaaGreatDoorPAllx18
import Derived.Test.YtcpjlbdjnaaaiaaGreatDoorPAllx19
import Derived.Test.YtcpjlbdjnaaaiaaGreatDoorPAllx20
namespace Go.Proofs.YtcpjlbdjnaaaiaaGreatDoor.PAll
open Go.Proofs.YtcpjlbdjnaaaiaaGreatDoor.Help
open Go.RowKit Go.Proofs.YtcpjlbdjnaaaiaaGreatDoorW.PrintWords Go.Proofs.YtcpjlbdjnaaaiaaGreatDoorW.PrintLast Go.Proofs.YtcpjlbdjnaaaiaaGreatDoorW.PrintMore
set_option linter.unusedVariables false
set_option linter.unusedSimpArgs false
mutual
def req_Parse.j0 : Nat → Bool → Int → Int → Int → Int → Int → Int → ByteArray → (Nat × Nat) → (Nat × Nat) → (Nat × Nat) → ByteArray → Int → Int → Option (Int × Int × List ByteArray × Int × Int × Int × Int × ByteArray × (Nat × Nat) × (Nat × Nat) × (Nat × Nat) × (List (S30)) × (List (List (S25))) × Int)
 | 0, _, _, _, _, _, _, _, _, _, _, _, _, _, _ => none
 | k + 1, x37, x454000, x454001, x454003, x454004, x454005, x454006, x454007, x454008, x454009, x454010, x458000, x458001, x458002 => if x37 = true then (some (0, 0, ([] : List ByteArray), 0, 0, 0, 0, (⟨#[]⟩ : ByteArray), ((0, 0) : Nat × Nat), ((0, 0) : Nat × Nat), ((0, 0) : Nat × Nat), ([] : List (S30)), ([] : List (List (S25))), 2)) else (if x454000 = 1 then ((req_reader_names.f k x458000 x458001 x458002).bind fun bt462 => ((req_reader_sign.f k bt462.2.1 bt462.2.2.1 bt462.2.2.2 (⟨#[32]⟩ : ByteArray)).bind fun bt468 => (if bt468.2.2 = 0 then ((req_reader_pred.f k bt468.1 bt468.2.1 bt468.2.2 1).bind fun bt471 => ((req_reader_end.f bt471.2.2.2.2.2.2.2.2.2.1 bt471.2.2.2.2.2.2.2.2.2.2.1 bt471.2.2.2.2.2.2.2.2.2.2.2).bind fun bt485 => (if bt485.1 = 0 then (some (x454000, x454001, bt462.1, bt471.1, bt471.2.1, bt471.2.2.1, bt471.2.2.2.1, bt471.2.2.2.2.1, bt471.2.2.2.2.2.1, bt471.2.2.2.2.2.2.1, bt471.2.2.2.2.2.2.2.1, bt471.2.2.2.2.2.2.2.2.1, ([] : List (List (S25))), 0)) else (some (0, 0, ([] : List ByteArray), 0, 0, 0, 0, (⟨#[]⟩ : ByteArray), ((0, 0) : Nat × Nat), ((0, 0) : Nat × Nat), ((0, 0) : Nat × Nat), ([] : List (S30)), ([] : List (List (S25))), bt485.1))))) else ((req_reader_end.f bt468.1 bt468.2.1 bt468.2.2).bind fun bt489 => (if bt489.1 = 0 then (some (x454000, x454001, bt462.1, x454003, x454004, x454005, x454006, x454007, x454008, x454009, x454010, ([] : List (S30)), ([] : List (List (S25))), 0)) else (some (0, 0, ([] : List ByteArray), 0, 0, 0, 0, (⟨#[]⟩ : ByteArray), ((0, 0) : Nat × Nat), ((0, 0) : Nat × Nat), ((0, 0) : Nat × Nat), ([] : List (S30)), ([] : List (List (S25))), bt489.1))))))) else (if x454000 = 4 then ((req_reader_rows.f k x458000 x458001 x458002).bind fun bt493 => (req_Parse.j1 k x454000 x454001 x454003 x454004 x454005 x454006 x454007 x454008 x454009 x454010 bt493.1 bt493.2.1 bt493.2.2.1 bt493.2.2.2)) else (if x454000 = 2 then ((req_reader_number.f k x458000 x458001 x458002).bind fun bt499 => (req_Parse.j1 k x454000 bt499.1 x454003 x454004 x454005 x454006 x454007 x454008 x454009 x454010 ([] : List (List (S25))) bt499.2.1 bt499.2.2.1 bt499.2.2.2)) else (if x454000 = 3 then ((req_reader_number.f k x458000 x458001 x458002).bind fun bt503 => (req_Parse.j1 k x454000 bt503.1 x454003 x454004 x454005 x454006 x454007 x454008 x454009 x454010 ([] : List (List (S25))) bt503.2.1 bt503.2.2.1 bt503.2.2.2)) else (req_Parse.j1 k x454000 x454001 x454003 x454004 x454005 x454006 x454007 x454008 x454009 x454010 ([] : List (List (S25))) x458000 x458001 x458002)))))
def req_Parse.j1 : Nat → Int → Int → Int → Int → Int → Int → ByteArray → (Nat × Nat) → (Nat × Nat) → (Nat × Nat) → List (List (S25)) → ByteArray → Int → Int → Option (Int × Int × List ByteArray × Int × Int × Int × Int × ByteArray × (Nat × Nat) × (Nat × Nat) × (Nat × Nat) × (List (S30)) × (List (List (S25))) × Int)
 | 0, _, _, _, _, _, _, _, _, _, _, _, _, _, _ => none
 | k + 1, x454000, x454001, x454003, x454004, x454005, x454006, x454007, x454008, x454009, x454010, x454012, x458000, x458001, x458002 => (req_reader_end.f x458000 x458001 x458002).bind fun bt507 => (if bt507.1 = 0 then (some (x454000, x454001, ([] : List ByteArray), x454003, x454004, x454005, x454006, x454007, x454008, x454009, x454010, ([] : List (S30)), x454012, 0)) else (some (0, 0, ([] : List ByteArray), 0, 0, 0, 0, (⟨#[]⟩ : ByteArray), ((0, 0) : Nat × Nat), ((0, 0) : Nat × Nat), ((0, 0) : Nat × Nat), ([] : List (S30)), ([] : List (List (S25))), bt507.1)))
end
def req_Parse.f (k : Nat) (a0 : ByteArray) : Option (Int × Int × List ByteArray × Int × Int × Int × Int × ByteArray × (Nat × Nat) × (Nat × Nat) × (Nat × Nat) × (List (S30)) × (List (List (S25))) × Int) := (strings_Cut.f a0 (⟨#[32]⟩ : ByteArray)).bind fun bt454 => ((req_words.f).bind fun t458 => ((slices_Index_string_string.f k t458 bt454.1).bind fun t461 => (if (wrap64 (t461 + 1)) = 0 then (req_Parse.j0 k true (wrap64 (t461 + 1)) 0 0 0 0 0 (⟨#[]⟩ : ByteArray) ((0, 0) : Nat × Nat) ((0, 0) : Nat × Nat) ((0, 0) : Nat × Nat) a0 (mn (wrap64 ((bt454.1.size : Int) + 1)) (a0.size : Int)) 0) else (req_Parse.j0 k (bt454.2.2 != ((wrap64 (t461 + 1)) != 5)) (wrap64 (t461 + 1)) 0 0 0 0 0 (⟨#[]⟩ : ByteArray) ((0, 0) : Nat × Nat) ((0, 0) : Nat × Nat) ((0, 0) : Nat × Nat) a0 (mn (wrap64 ((bt454.1.size : Int) + 1)) (a0.size : Int)) 0))))
set_option maxHeartbeats 8000000 in
set_option maxRecDepth 100000 in
theorem req_Parse.calls (k : Nat) (a0 : ByteArray) (r1 : Int) (r2 : Int) (r3 : List ByteArray) (r4 : Int) (r5 : Int) (r6 : Int) (r7 : Int) (r8 : ByteArray) (r9 : (Nat × Nat)) (r10 : (Nat × Nat)) (r11 : (Nat × Nat)) (r12 : List (S30)) (r13 : List (List (S25))) (r14 : Int) (w : World) (h : req_Parse.f k a0 = some (r1, r2, r3, r4, r5, r6, r7, r8, r9, r10, r11, r12, r13, r14)) (hG_ : Glob w) :
  Calls Tryz.prog 13 #[.string a0] w fun e w' => ∃ v2_ v11_ v12_ : Value, e = .returned (.tuple #[.agg #[.int .i64 r1, .int .i64 r2, v2_, .int .i64 r4, .int .i64 r5, .int .i64 r6, .int .i64 r7, .string r8, .complex .f64 r9.1 r9.2, .complex .f64 r10.1 r10.2, .complex .f64 r11.1 r11.2, v11_, v12_], .int .i64 r14]) ∧ Kd.R Kd.string 9 w' w.heap.size (fun _ => True) v2_ r3 ∧ Kd.R k30 30 w' w.heap.size (fun _ => True) v11_ r12 ∧ Kd.S (Kd.slice 25 k25) 46 w' w.heap.size (fun _ => True) v12_ r13 ∧ Below w.heap.size w w' := by
 have HG_ := Mk hG_
 clear hG_
 have hu38 := Tryz.underlying38
 have hu64 := Tryz.underlying64
 have hu30 := Tryz.underlying30
 have HB := Mk (Below.refl w.heap.size w)
 have H : ((strings_Cut.f a0 (⟨#[32]⟩ : ByteArray)).bind fun bt454 => ((req_words.f).bind fun t458 => ((slices_Index_string_string.f k t458 bt454.1).bind fun t461 => (if (wrap64 (t461 + 1)) = 0 then (req_Parse.j0 k true (wrap64 (t461 + 1)) 0 0 0 0 0 (⟨#[]⟩ : ByteArray) ((0, 0) : Nat × Nat) ((0, 0) : Nat × Nat) ((0, 0) : Nat × Nat) a0 (mn (wrap64 ((bt454.1.size : Int) + 1)) (a0.size : Int)) 0) else (req_Parse.j0 k (bt454.2.2 != ((wrap64 (t461 + 1)) != 5)) (wrap64 (t461 + 1)) 0 0 0 0 0 (⟨#[]⟩ : ByteArray) ((0, 0) : Nat × Nat) ((0, 0) : Nat × Nat) ((0, 0) : Nat × Nat) a0 (mn (wrap64 ((bt454.1.size : Int) + 1)) (a0.size : Int)) 0))))) = some (r1, r2, r3, r4, r5, r6, r7, r8, r9, r10, r11, r12, r13, r14) := h
 clear h
 replace H := Option.bind_eq_some_iff.mp H
 obtain ⟨⟨t454, t455, t456⟩, A20, H⟩ := H
 try dsimp only at H
 have A2 := Mk A20
 clear A20
 obtain ⟨ji3, hji3⟩ : ∃ j_ : Int, (mn (wrap64 ((t454.size : Int) + 1)) (a0.size : Int)) = j_ := ⟨_, rfl⟩
 replace H : ((req_words.f).bind fun t458 => ((slices_Index_string_string.f k t458 t454).bind fun t461 => (if (wrap64 (t461 + 1)) = 0 then (req_Parse.j0 k true (wrap64 (t461 + 1)) 0 0 0 0 0 (⟨#[]⟩ : ByteArray) ((0, 0) : Nat × Nat) ((0, 0) : Nat × Nat) ((0, 0) : Nat × Nat) a0 ji3 0) else (req_Parse.j0 k (t456 != ((wrap64 (t461 + 1)) != 5)) (wrap64 (t461 + 1)) 0 0 0 0 0 (⟨#[]⟩ : ByteArray) ((0, 0) : Nat × Nat) ((0, 0) : Nat × Nat) ((0, 0) : Nat × Nat) a0 ji3 0)))) = some (r1, r2, r3, r4, r5, r6, r7, r8, r9, r10, r11, r12, r13, r14) := by first | (rw [hji3] at H; exact H) | (simp only [hji3] at H ⊢; exact H)
 (try rw [hji3] at A2)
 have hji3_ : (if (a0.size : Int) < (wrap64 ((t454.size : Int) + 1)) then (a0.size : Int) else (wrap64 ((t454.size : Int) + 1))) = ji3 := hji3
 replace H := Option.bind_eq_some_iff.mp H
 obtain ⟨t458, A40, H⟩ := H
 try dsimp only at H
 have A4 := Mk A40
 clear A40
 replace H := Option.bind_eq_some_iff.mp H
 obtain ⟨t461, A50, H⟩ := H
 try dsimp only at H
 have A5 := Mk A50
 clear A50
 have HC6 := Mk H
 clear H
 go_enter Tryz.func13, Tryz.ntmps13
 try go_wp2_with (first | ((with_reducible refine gate_dst (N := 2) rfl ?_); refine boxE 2 #[.int .i64 0, .int .i64 0, .slice none 0 0, .int .i64 0, .int .i64 0, .int .i64 0, .int .i64 0, .string (⟨#[]⟩ : ByteArray), .complex .f64 0 0, .complex .f64 0 0, .complex .f64 0 0, .slice none 0 0, .slice none 0 0] 38 ?_; intro gb453 hg w7 hbox hb; have BK453 := Mk (hbox); have GW453 := Mk ((gS : w.heap.size ≤ gb453)); have GE453 := Mk ((gS : w.heap.size ≤ gb453)); replace HB := Mk (below_step bB hb); clear hb hbox hg))
 refine wp_scope_labs ?_
 intro G_ hG_
 go_upto_region 4 with (first | (go_at_call 31; (with_reducible refine (strings_Cut.calls a0 (⟨#[32]⟩ : ByteArray) t454 t455 t456 _ A2.out (Glob.below HG_.out bB)).mono ?_); rintro e w' ⟨rfl, ⟨nd, rfl⟩⟩; (try (rw [drewN_self w7]; generalize hq_ : World.drewN w7 _ = w7; have n0_ : Aside0 (w7.heap[gb453]? = some (.cells #[.int .i64 0, .int .i64 0, .slice none 0 0, .int .i64 0, .int .i64 0, .int .i64 0, .int .i64 0, .string (⟨#[]⟩ : ByteArray), .complex .f64 0 0, .complex .f64 0 0, .complex .f64 0 0, .slice none 0 0, .slice none 0 0] 38 (0, 0))) := ⟨by rw [← hq_]; exact (bK BK453)⟩; have n1_ : Aside0 (Below w.heap.size w w7) := ⟨by rw [← hq_]; exact bB⟩; clear BK453 HB hq_; have BK453 := n0_; have HB := n1_; clear n0_ n1_))) | ((with_reducible refine gate_dst (N := 22) rfl ?_); refine boxE 22 #[.string a0, .int .i64 ji3, .int .i64 0] 64 ?_; intro gb457 hg w8 hbox hb; have HI457 := Mk ((⟨hbox, by rw [hg]; exact (below_size bB)⟩ : IsS64 w _ gb457 a0 ji3 0)); have GW457 := Mk ((gS : w.heap.size ≤ gb457)); have GE457 := Mk ((gS : w.heap.size ≤ gb457)); have NB453_457 := (gL BK453 : Aside0 (gb453 ≠ gb457)); have NB457_453 := (gG BK453 : Aside0 (gb457 ≠ gb453)); replace BK453 := bkb BK453 hb; replace HB := Mk (below_step bB hb); clear hb hbox hg) | ((with_reducible refine gate_callee (f := 20) rfl ?_); refine goesL_ (some 23) rfl rfl Tryz.func20 kR rfl #[] rfl mA ?_; (with_reducible refine (req_words.calls  t458 _ A4.out).mono ?_); rintro e w9 ⟨v459, rfl, ho0, hb⟩; refine ⟨_, rfl, ?_⟩; have HO460 := Mk (Kd.R_lower ho0 (below_size bB)); replace BK453 := bkb BK453 hb; replace HI457 := Mk (IsS64.below (hI HI457) hb); replace HB := Mk (below_step bB hb); clear hb ho0; obtain ⟨Ao10, co10, eo10⟩ := Kd.R_slice HO460.out; subst eo10) | (go_at_call 32; (with_reducible refine (slices_Index_string_string.calls k _ _ t458 t454 t461 _ ?side1 ?side2 A5.out).mono ?_); (case side1 => exact cU (Kd.R_reads' HO460.out).2.2); (case side2 => exact (Kd.R_reads' HO460.out).2.1); rintro e w' ⟨rfl, ⟨nd, rfl⟩⟩; (try (rw [drewN_self w9]; generalize hq_ : World.drewN w9 _ = w9; have n0_ : Aside0 (Kd.R Kd.string 9 w9 w.heap.size (fun _ => True) (.slice Ao10 t458.length co10) t458) := ⟨by rw [← hq_]; exact (rU HO460)⟩; have n1_ : Aside0 (w9.heap[gb453]? = some (.cells #[.int .i64 0, .int .i64 0, .slice none 0 0, .int .i64 0, .int .i64 0, .int .i64 0, .int .i64 0, .string (⟨#[]⟩ : ByteArray), .complex .f64 0 0, .complex .f64 0 0, .complex .f64 0 0, .slice none 0 0, .slice none 0 0] 38 (0, 0))) := ⟨by rw [← hq_]; exact (bK BK453)⟩; have n2_ : Aside0 (IsS64 w w9 gb457 a0 ji3 0) := ⟨by rw [← hq_]; exact (hI HI457)⟩; have n3_ : Aside0 (Below w.heap.size w w9) := ⟨by rw [← hq_]; exact bB⟩; clear HO460 BK453 HI457 HB hq_; have HO460 := n0_; have BK453 := n1_; have HI457 := n2_; have HB := n3_; clear n0_ n1_ n2_ n3_)); have hnb11 := NB453_457.out; have hnc11 := NB457_453.out; obtain ⟨_, _, _, _, _, _, _, _, _, _, _, _, _, _, _, _, _, _, _, _, _, _, _, _, _, _⟩ := z13 BK453))
 (try simp only [Act.put, List.setIfInBounds_toArray, List.set_cons_zero, List.set_cons_succ])
 go_cut [37] (fun v37 wc => ∃ (kq : Nat) (x37_5 : Bool), v37 = .bool x37_5 ∧ Aside0 (req_Parse.j0 kq x37_5 (wrap64 (t461 + 1)) 0 0 0 0 0 (⟨#[]⟩ : ByteArray) ((0, 0) : Nat × Nat) ((0, 0) : Nat × Nat) ((0, 0) : Nat × Nat) a0 ji3 0 = some (r1, r2, r3, r4, r5, r6, r7, r8, r9, r10, r11, r12, r13, r14)) ∧ Aside0 (kq ≤ k) ∧ Aside0 (wc.heap[gb453]? = some (.cells #[.int .i64 (wrap64 (t461 + 1)), .int .i64 0, (.slice none 0 0), .int .i64 0, .int .i64 0, .int .i64 0, .int .i64 0, .string (⟨#[]⟩ : ByteArray), .complex .f64 0 0, .complex .f64 0 0, .complex .f64 0 0, (.slice none 0 0), (.slice none 0 0)] 38 (0, 0))) ∧ Aside0 (IsS64 w wc gb457 a0 ji3 0) ∧ Aside0 (Below w.heap.size w wc))
 case first =>
  have H := HC6.out
  clear HC6
  by_cases c13 : (wrap64 (t461 + 1)) = 0
  ·rw [if_pos c13] at H
   have c13b0 := beq_iff_eq.mpr c13
   have c13b1 := bne_eq_false_iff_eq.mpr c13
   clear c13
   (first | rw [c13b0] | (simp only [i64_w, i32_w]; rw [c13b0]) | skip)
   have H' := Mk H
   clear H
   have hnb14 := NB453_457.out
   have hnc14 := NB457_453.out
   obtain ⟨_, _, _, _, _, _, _, _, _, _, _, _, _, _, _, _, _, _, _, _, _, _, _, _, _, _⟩ := z13 BK453
   go_wp2
   go_meet
   case rel => exact ⟨_, (true), sS, H', ⟨by first | omega | exact Nat.le_refl _⟩, ⟨by (with_reducible repeat refine bU ?_); refine blk_put (cs := #[.int .i64 0, .int .i64 0, .slice none 0 0, .int .i64 0, .int .i64 0, .int .i64 0, .int .i64 0, .string (⟨#[]⟩ : ByteArray), .complex .f64 0 0, .complex .f64 0 0, .complex .f64 0 0, .slice none 0 0, .slice none 0 0]) ?_ 0 _ rfl; (with_reducible repeat refine bU ?_); exact BK453.out⟩, ⟨hI HI457⟩, ⟨bB⟩⟩
  ·rw [if_neg c13] at H
   have c13b0 := beq_eq_false_iff_ne.mpr c13
   have c13b1 := bne_iff_ne.mpr c13
   (first | rw [c13b0] | (simp only [i64_w, i32_w]; rw [c13b0]) | skip)
   have H' := Mk H
   clear H
   have hnb16 := NB453_457.out
   have hnc16 := NB457_453.out
   obtain ⟨_, _, _, _, _, _, _, _, _, _, _, _, _, _, _, _, _, _, _, _, _, _, _, _, _, _⟩ := z13 BK453
   go_wp2
   go_meet
   case rel => exact ⟨_, ((t456 != ((wrap64 (t461 + 1)) != 5))), sS, H', ⟨by first | omega | exact Nat.le_refl _⟩, ⟨by (with_reducible repeat refine bU ?_); refine blk_put (cs := #[.int .i64 0, .int .i64 0, .slice none 0 0, .int .i64 0, .int .i64 0, .int .i64 0, .int .i64 0, .string (⟨#[]⟩ : ByteArray), .complex .f64 0 0, .complex .f64 0 0, .complex .f64 0 0, .slice none 0 0, .slice none 0 0]) ?_ 0 _ rfl; (with_reducible repeat refine bU ?_); exact BK453.out⟩, ⟨hI HI457⟩, ⟨bB⟩⟩
 case rest =>
  clear HC6
  try clear c1
  try clear c2
  try clear p2
  try clear p6
  try clear c11
  try clear c13
  try clear c13b0
  try clear c13b1
  try clear c14
  try clear c16
  obtain ⟨kq, x37_5, rfl, HA, HJ5, BK453, HI457, HB⟩ := hcut
  cases kq with
  | zero => exact absurd HA.out (by simp [req_Parse.j0])
  | succ kj5 =>
   have H := HA.out
   clear HA
   simp only [req_Parse.j0] at H
   by_cases c18 : x37_5 = true
   ·subst c18
    rw [if_pos rfl] at H
    try dsimp only at H
    simp only [Option.some.injEq, Prod.mk.injEq] at H
    obtain ⟨rfl, rfl, rfl, rfl, rfl, rfl, rfl, rfl, rfl, rfl, rfl, rfl, rfl, rfl⟩ := H
    go_wp2
    go_step3
    refine hG_ 0 _ _ _ (by rfl) ?_
    have hnb19 := NB453_457.out
    have hnc19 := NB457_453.out
    obtain ⟨_, _, _, _, _, _, _, _, _, _, _, _, _, _, _, _, _, _, _, _, _, _, _, _, _, _⟩ := z13 BK453
    go_wp2
    try rw [labs_ret]
    refine bodyPost_ret (results_ct rfl _ _ gb453 38 #[.int .i64 0, .int .i64 0, .slice none 0 0, .int .i64 0, .int .i64 0, .int .i64 0, .int .i64 0, .string (⟨#[]⟩ : ByteArray), .complex .f64 0 0, .complex .f64 0 0, .complex .f64 0 0, .slice none 0 0, .slice none 0 0] (0, 0) _ rfl (bP BK453) Tryz.underlying38 rfl kR) rfl ?_
    exact ⟨_, _, _, by first | rfl | (simp [errW_none, errW_some] <;> rfl) | (simp only [← hji3]; first | rfl | (simp [errW_none, errW_some] <;> rfl)) | (simp [*, errW_none, errW_some] <;> rfl), by first | exact Kd.R_nil _ _ _ _ _ | exact Kd.N_nil _ _ _ _ _ | exact Kd.V_nil _ _ _ _ _ | exact Kd.Q_nil _ _ _ _ _ | exact Kd.S_nil _ _ _ _ _, by first | exact Kd.R_nil _ _ _ _ _ | exact Kd.N_nil _ _ _ _ _ | exact Kd.V_nil _ _ _ _ _ | exact Kd.Q_nil _ _ _ _ _ | exact Kd.S_nil _ _ _ _ _, by first | exact Kd.S_nil _ _ _ _ _ | exact Kd.N_nil _ _ _ _ _ | exact Kd.V_nil _ _ _ _ _ | exact Kd.Q_nil _ _ _ _ _ | exact Kd.R_nil _ _ _ _ _, bB⟩
   ·replace c18 := Bool.eq_false_iff.mpr c18
    subst c18
    rw [if_neg (show ¬ (false = true) by decide)] at H
    try dsimp only at H
    have HC21 := Mk H
    clear H
    have hnb22 := NB453_457.out
    have hnc22 := NB457_453.out
    obtain ⟨_, _, _, _, _, _, _, _, _, _, _, _, _, _, _, _, _, _, _, _, _, _, _, _, _, _⟩ := z13 BK453
    go_upto_block 0 with (fail)
    go_cut [] (fun wc => ∃ (kq : Nat) (x454001_20 : Int) (x454012_20 : List (List (S25))) (x458000_20 : ByteArray) (x458001_20 : Int) (x458002_20 : Int) (u454012 : Value), Aside0 (req_Parse.j1 kq (wrap64 (t461 + 1)) x454001_20 0 0 0 0 (⟨#[]⟩ : ByteArray) ((0, 0) : Nat × Nat) ((0, 0) : Nat × Nat) ((0, 0) : Nat × Nat) x454012_20 x458000_20 x458001_20 x458002_20 = some (r1, r2, r3, r4, r5, r6, r7, r8, r9, r10, r11, r12, r13, r14)) ∧ Aside0 (kq ≤ kj5) ∧ Aside0 (Kd.S (Kd.slice 25 k25) 46 wc w.heap.size (fun _ => True) u454012 x454012_20) ∧ Aside0 (wc.heap[gb453]? = some (.cells #[.int .i64 (wrap64 (t461 + 1)), .int .i64 x454001_20, (.slice none 0 0), .int .i64 0, .int .i64 0, .int .i64 0, .int .i64 0, .string (⟨#[]⟩ : ByteArray), .complex .f64 0 0, .complex .f64 0 0, .complex .f64 0 0, (.slice none 0 0), u454012] 38 (0, 0))) ∧ Aside0 (IsS64 w wc gb457 x458000_20 x458001_20 x458002_20) ∧ Aside0 (Below w.heap.size w wc))
    case first =>
     have H := HC21.out
     clear HC21
     by_cases c24 : (wrap64 (t461 + 1)) = 1
     ·rw [if_pos c24] at H
      have c24b0 := beq_iff_eq.mpr c24
      have c24b1 := bne_eq_false_iff_eq.mpr c24
      clear c24
      (first | rw [c24b0] | (simp only [i64_w, i32_w]; rw [c24b0]) | skip)
      replace H := Option.bind_eq_some_iff.mp H
      obtain ⟨⟨t462, t465, t466, t467⟩, A250, H⟩ := H
      try dsimp only at H
      have A25 := Mk A250
      clear A250
      replace H := Option.bind_eq_some_iff.mp H
      obtain ⟨⟨t468, t469, t470⟩, A260, H⟩ := H
      try dsimp only at H
      have A26 := Mk A260
      clear A260
      by_cases c27 : t470 = 0
      ·rw [if_pos c27] at H
       have c27b0 := beq_iff_eq.mpr c27
       have c27b1 := bne_eq_false_iff_eq.mpr c27
       clear c27
       replace H := Option.bind_eq_some_iff.mp H
       obtain ⟨⟨t471, t472, t473, t474, t475, t476, t477, t478, t479, t482, t483, t484⟩, A280, H⟩ := H
       try dsimp only at H
       have A28 := Mk A280
       clear A280
       replace H := Option.bind_eq_some_iff.mp H
       obtain ⟨⟨t485, t486, t487, t488⟩, A290, H⟩ := H
       try dsimp only at H
       have A29 := Mk A290
       clear A290
       by_cases c30 : t485 = 0
       ·rw [if_pos c30] at H
        have c30b0 := beq_iff_eq.mpr c30
        have c30b1 := bne_eq_false_iff_eq.mpr c30
        clear c30
        simp only [Option.some.injEq, Prod.mk.injEq] at H
        obtain ⟨rfl, rfl, rfl, rfl, rfl, rfl, rfl, rfl, rfl, rfl, rfl, rfl, rfl, rfl⟩ := H
        go_wp2
        go_step3
        refine hG_ 1 _ _ _ (by rfl) ?_
        go_wp2_with (first | ((with_reducible refine gate_callee (f := 35) rfl ?_); refine goesL_ (some 54) rfl rfl Tryz.func35 kR rfl #[.pointer (some ⟨gb457, 0, none⟩)] rfl mA ?_; (with_reducible refine (req_reader_names.calls kj5 gb457 a0 ji3 0 t462 t465 t466 t467 w _ ?side1 ?side2 A25.out).mono ?_); (case side1 => exact hI HI457); (case side2 => exact bB); rintro e w31 ⟨v463, rfl, ho0, hi, hb, hk⟩; refine ⟨_, rfl, ?_⟩; have HO464 := Mk (Kd.R_lower ho0 (below_size bB)); replace BK453 := Mk (kblk hk BK453 NB453_457); replace HB := Mk (hb); replace HI457 := Mk (hi); clear hb hk hi ho0; obtain ⟨Ao32, co32, eo32⟩ := Kd.R_slice HO464.out; subst eo32; have hnb33 := NB453_457.out; have hnc33 := NB457_453.out; obtain ⟨_, _, _, _, _, _, _, _, _, _, _, _, _, _, _, _, _, _, _, _, _, _, _, _, _, _⟩ := z13 BK453) | ((with_reducible refine gate_callee (f := 36) rfl ?_); refine goesL_ (some 57) rfl rfl Tryz.func36 kR rfl #[.pointer (some ⟨gb457, 0, none⟩), .string (⟨#[32]⟩ : ByteArray)] rfl mA ?_; (with_reducible refine (req_reader_sign.calls kj5 gb457 t465 t466 t467 (⟨#[32]⟩ : ByteArray) t468 t469 t470 w _ ?side1 ?side2 A26.out).mono ?_); (case side1 => exact hI HI457); (case side2 => exact bB); rintro e w35 ⟨rfl, hi, hb, hk⟩; refine ⟨_, rfl, ?_⟩; replace HO464 := Mk (Kd.R_mono (Kd.R_keep (IsS64.apart (show IsS64 w _ gb457 t465 t466 t467 from hI HI457) (by (repeat apply Rup); exact (Kd.R_mono (Kd.R_far (p := ⟨gb453, 2, none⟩) (Kd.R_types HO464.out BK453.out (by decide)) (fun _ hk => hk.2) (.slice Ao32 t462.length co32)) (fun _ h_ => h_.1))) (by decide)) hk (fun _ h => h.2)) (fun _ h => h.1)); replace BK453 := Mk (KeepBut.blk hk (g' := gb453) (o := .cells #[.int .i64 (wrap64 (t461 + 1)), .int .i64 0, .slice Ao32 t462.length co32, .int .i64 0, .int .i64 0, .int .i64 0, .int .i64 0, .string (⟨#[]⟩ : ByteArray), .complex .f64 0 0, .complex .f64 0 0, .complex .f64 0 0, .slice none 0 0, .slice none 0 0] 38 (0, 0)) (bP BK453) NB453_457.out (by simp)); replace HB := Mk (hb); replace HI457 := Mk (hi); clear hb hk hi; obtain ⟨HGz36, hgz36⟩ := HI457.out; have hcz36_0 := cellS64_0 HGz36; have hcz36_1 := cellS64_1 HGz36; have hcz36_2 := cellS64_2 HGz36; have hfz36_0 := blk_frozen HGz36 0; have hfz36_1 := blk_frozen HGz36 1; have hfz36_2 := blk_frozen HGz36 2; clear HGz36 hgz36) | ((with_reducible refine gate_callee (f := 24) rfl ?_); refine goesL_ (some 64) rfl rfl Tryz.func24 kR rfl #[.pointer (some ⟨gb457, 0, none⟩), .int .i64 1] rfl mA ?_; (with_reducible refine (req_reader_pred.calls kj5 gb457 t468 t469 t470 1 t471 t472 t473 t474 t475 t476 t477 t478 t479 t482 t483 t484 w _ ?side1 ?side2 A28.out HG_.out).mono ?_); (case side1 => exact hI HI457); (case side2 => exact bB); rintro e w37 ⟨v480, rfl, ho0, hi, hb, hk⟩; refine ⟨_, rfl, ?_⟩; have HO481 := Mk (Kd.R_lower ho0 (below_size bB)); replace BK453 := Mk (kblk hk BK453 NB453_457); replace HO464 := Mk (Kd.R_mono (Kd.R_keep (IsS64.apart (show IsS64 w _ gb457 t468 t469 t470 from hI HI457) (rU HO464) (by decide)) hk (fun _ h => h.2)) (fun _ h => h.1)); replace HB := Mk (hb); replace HI457 := Mk (hi); clear hb hk hi ho0; obtain ⟨_, _, _, _, _, _, _, _, _, _, _, _, _, _, _, _, _, _, _, _, _, _, _, _, _, _⟩ := z13 BK453; obtain ⟨Ao39, co39, eo39⟩ := Kd.R_slice HO481.out; subst eo39))
        have n0_ : Aside0 (Kd.R Kd.string 9 (((((((((w37.setCell ⟨gb453, 3, none⟩ (.int .i64 t471)).setCell ⟨gb453, 4, none⟩ (.int .i64 t472)).setCell ⟨gb453, 5, none⟩ (.int .i64 t473)).setCell ⟨gb453, 6, none⟩ (.int .i64 t474)).setCell ⟨gb453, 7, none⟩ (.string t475)).setCell ⟨gb453, 8, none⟩ (.complex .f64 t476.1 t476.2)).setCell ⟨gb453, 9, none⟩ (.complex .f64 t477.1 t477.2)).setCell ⟨gb453, 10, none⟩ (.complex .f64 t478.1 t478.2)).setCell ⟨gb453, 11, none⟩ (.slice Ao39 t479.length co39)) w.heap.size (fun _ => True) (.slice Ao32 t462.length co32) t462) := ⟨by (repeat apply Rup); exact Kd.R_mono (Kd.R_far (p := ⟨gb453, 11, none⟩) (Kd.R_far (p := ⟨gb453, 10, none⟩) (Kd.R_far (p := ⟨gb453, 9, none⟩) (Kd.R_far (p := ⟨gb453, 8, none⟩) (Kd.R_far (p := ⟨gb453, 7, none⟩) (Kd.R_far (p := ⟨gb453, 6, none⟩) (Kd.R_far (p := ⟨gb453, 5, none⟩) (Kd.R_far (p := ⟨gb453, 4, none⟩) (Kd.R_far (p := ⟨gb453, 3, none⟩) (Kd.R_types HO464.out BK453.out (by decide)) (fun _ hk => hk.2) (.int .i64 t471)) (fun _ hk => hk.2) (.int .i64 t472)) (fun _ hk => hk.2) (.int .i64 t473)) (fun _ hk => hk.2) (.int .i64 t474)) (fun _ hk => hk.2) (.string t475)) (fun _ hk => hk.2) (.complex .f64 t476.1 t476.2)) (fun _ hk => hk.2) (.complex .f64 t477.1 t477.2)) (fun _ hk => hk.2) (.complex .f64 t478.1 t478.2)) (fun _ hk => hk.2) (.slice Ao39 t479.length co39)) (fun _ hk => trivial)⟩
        have n1_ : Aside0 (Kd.R k30 30 (((((((((w37.setCell ⟨gb453, 3, none⟩ (.int .i64 t471)).setCell ⟨gb453, 4, none⟩ (.int .i64 t472)).setCell ⟨gb453, 5, none⟩ (.int .i64 t473)).setCell ⟨gb453, 6, none⟩ (.int .i64 t474)).setCell ⟨gb453, 7, none⟩ (.string t475)).setCell ⟨gb453, 8, none⟩ (.complex .f64 t476.1 t476.2)).setCell ⟨gb453, 9, none⟩ (.complex .f64 t477.1 t477.2)).setCell ⟨gb453, 10, none⟩ (.complex .f64 t478.1 t478.2)).setCell ⟨gb453, 11, none⟩ (.slice Ao39 t479.length co39)) w.heap.size (fun _ => True) (.slice Ao39 t479.length co39) t479) := ⟨by (repeat apply Rup); exact Kd.R_mono (Kd.R_far (p := ⟨gb453, 11, none⟩) (Kd.R_far (p := ⟨gb453, 10, none⟩) (Kd.R_far (p := ⟨gb453, 9, none⟩) (Kd.R_far (p := ⟨gb453, 8, none⟩) (Kd.R_far (p := ⟨gb453, 7, none⟩) (Kd.R_far (p := ⟨gb453, 6, none⟩) (Kd.R_far (p := ⟨gb453, 5, none⟩) (Kd.R_far (p := ⟨gb453, 4, none⟩) (Kd.R_far (p := ⟨gb453, 3, none⟩) (Kd.R_types HO481.out BK453.out (by decide)) (fun _ hk => hk.2) (.int .i64 t471)) (fun _ hk => hk.2) (.int .i64 t472)) (fun _ hk => hk.2) (.int .i64 t473)) (fun _ hk => hk.2) (.int .i64 t474)) (fun _ hk => hk.2) (.string t475)) (fun _ hk => hk.2) (.complex .f64 t476.1 t476.2)) (fun _ hk => hk.2) (.complex .f64 t477.1 t477.2)) (fun _ hk => hk.2) (.complex .f64 t478.1 t478.2)) (fun _ hk => hk.2) (.slice Ao39 t479.length co39)) (fun _ hk => trivial)⟩
        have n2_ : Aside0 ((((((((((w37.setCell ⟨gb453, 3, none⟩ (.int .i64 t471)).setCell ⟨gb453, 4, none⟩ (.int .i64 t472)).setCell ⟨gb453, 5, none⟩ (.int .i64 t473)).setCell ⟨gb453, 6, none⟩ (.int .i64 t474)).setCell ⟨gb453, 7, none⟩ (.string t475)).setCell ⟨gb453, 8, none⟩ (.complex .f64 t476.1 t476.2)).setCell ⟨gb453, 9, none⟩ (.complex .f64 t477.1 t477.2)).setCell ⟨gb453, 10, none⟩ (.complex .f64 t478.1 t478.2)).setCell ⟨gb453, 11, none⟩ (.slice Ao39 t479.length co39)).heap[gb453]? = some (.cells #[.int .i64 (wrap64 (t461 + 1)), .int .i64 0, .slice Ao32 t462.length co32, .int .i64 t471, .int .i64 t472, .int .i64 t473, .int .i64 t474, .string t475, .complex .f64 t476.1 t476.2, .complex .f64 t477.1 t477.2, .complex .f64 t478.1 t478.2, .slice Ao39 t479.length co39, .slice none 0 0] 38 (0, 0))) := ⟨by (with_reducible repeat refine bU ?_); refine blk_put (cs := #[.int .i64 (wrap64 (t461 + 1)), .int .i64 0, .slice Ao32 t462.length co32, .int .i64 t471, .int .i64 t472, .int .i64 t473, .int .i64 t474, .string t475, .complex .f64 t476.1 t476.2, .complex .f64 t477.1 t477.2, .complex .f64 t478.1 t478.2, .slice none 0 0, .slice none 0 0]) ?_ 11 _ rfl; (with_reducible repeat refine bU ?_); refine blk_put (cs := #[.int .i64 (wrap64 (t461 + 1)), .int .i64 0, .slice Ao32 t462.length co32, .int .i64 t471, .int .i64 t472, .int .i64 t473, .int .i64 t474, .string t475, .complex .f64 t476.1 t476.2, .complex .f64 t477.1 t477.2, .complex .f64 0 0, .slice none 0 0, .slice none 0 0]) ?_ 10 _ rfl; (with_reducible repeat refine bU ?_); refine blk_put (cs := #[.int .i64 (wrap64 (t461 + 1)), .int .i64 0, .slice Ao32 t462.length co32, .int .i64 t471, .int .i64 t472, .int .i64 t473, .int .i64 t474, .string t475, .complex .f64 t476.1 t476.2, .complex .f64 0 0, .complex .f64 0 0, .slice none 0 0, .slice none 0 0]) ?_ 9 _ rfl; (with_reducible repeat refine bU ?_); refine blk_put (cs := #[.int .i64 (wrap64 (t461 + 1)), .int .i64 0, .slice Ao32 t462.length co32, .int .i64 t471, .int .i64 t472, .int .i64 t473, .int .i64 t474, .string t475, .complex .f64 0 0, .complex .f64 0 0, .complex .f64 0 0, .slice none 0 0, .slice none 0 0]) ?_ 8 _ rfl; (with_reducible repeat refine bU ?_); refine blk_put (cs := #[.int .i64 (wrap64 (t461 + 1)), .int .i64 0, .slice Ao32 t462.length co32, .int .i64 t471, .int .i64 t472, .int .i64 t473, .int .i64 t474, .string (⟨#[]⟩ : ByteArray), .complex .f64 0 0, .complex .f64 0 0, .complex .f64 0 0, .slice none 0 0, .slice none 0 0]) ?_ 7 _ rfl; (with_reducible repeat refine bU ?_); refine blk_put (cs := #[.int .i64 (wrap64 (t461 + 1)), .int .i64 0, .slice Ao32 t462.length co32, .int .i64 t471, .int .i64 t472, .int .i64 t473, .int .i64 0, .string (⟨#[]⟩ : ByteArray), .complex .f64 0 0, .complex .f64 0 0, .complex .f64 0 0, .slice none 0 0, .slice none 0 0]) ?_ 6 _ rfl; (with_reducible repeat refine bU ?_); refine blk_put (cs := #[.int .i64 (wrap64 (t461 + 1)), .int .i64 0, .slice Ao32 t462.length co32, .int .i64 t471, .int .i64 t472, .int .i64 0, .int .i64 0, .string (⟨#[]⟩ : ByteArray), .complex .f64 0 0, .complex .f64 0 0, .complex .f64 0 0, .slice none 0 0, .slice none 0 0]) ?_ 5 _ rfl; (with_reducible repeat refine bU ?_); refine blk_put (cs := #[.int .i64 (wrap64 (t461 + 1)), .int .i64 0, .slice Ao32 t462.length co32, .int .i64 t471, .int .i64 0, .int .i64 0, .int .i64 0, .string (⟨#[]⟩ : ByteArray), .complex .f64 0 0, .complex .f64 0 0, .complex .f64 0 0, .slice none 0 0, .slice none 0 0]) ?_ 4 _ rfl; (with_reducible repeat refine bU ?_); refine blk_put (cs := #[.int .i64 (wrap64 (t461 + 1)), .int .i64 0, .slice Ao32 t462.length co32, .int .i64 0, .int .i64 0, .int .i64 0, .int .i64 0, .string (⟨#[]⟩ : ByteArray), .complex .f64 0 0, .complex .f64 0 0, .complex .f64 0 0, .slice none 0 0, .slice none 0 0]) ?_ 3 _ rfl; (with_reducible repeat refine bU ?_); exact BK453.out⟩
        have n3_ : Aside0 (IsS64 w (((((((((w37.setCell ⟨gb453, 3, none⟩ (.int .i64 t471)).setCell ⟨gb453, 4, none⟩ (.int .i64 t472)).setCell ⟨gb453, 5, none⟩ (.int .i64 t473)).setCell ⟨gb453, 6, none⟩ (.int .i64 t474)).setCell ⟨gb453, 7, none⟩ (.string t475)).setCell ⟨gb453, 8, none⟩ (.complex .f64 t476.1 t476.2)).setCell ⟨gb453, 9, none⟩ (.complex .f64 t477.1 t477.2)).setCell ⟨gb453, 10, none⟩ (.complex .f64 t478.1 t478.2)).setCell ⟨gb453, 11, none⟩ (.slice Ao39 t479.length co39)) gb457 t482 t483 t484) := ⟨hI HI457⟩
        have n4_ : Aside0 (Below w.heap.size w (((((((((w37.setCell ⟨gb453, 3, none⟩ (.int .i64 t471)).setCell ⟨gb453, 4, none⟩ (.int .i64 t472)).setCell ⟨gb453, 5, none⟩ (.int .i64 t473)).setCell ⟨gb453, 6, none⟩ (.int .i64 t474)).setCell ⟨gb453, 7, none⟩ (.string t475)).setCell ⟨gb453, 8, none⟩ (.complex .f64 t476.1 t476.2)).setCell ⟨gb453, 9, none⟩ (.complex .f64 t477.1 t477.2)).setCell ⟨gb453, 10, none⟩ (.complex .f64 t478.1 t478.2)).setCell ⟨gb453, 11, none⟩ (.slice Ao39 t479.length co39))) := ⟨bB⟩
        (try clear HO464)
        (try clear HO481)
        (try clear BK453)
        (try clear HI457)
        (try clear HB)
        generalize (((((((((w37.setCell ⟨gb453, 3, none⟩ (.int .i64 t471)).setCell ⟨gb453, 4, none⟩ (.int .i64 t472)).setCell ⟨gb453, 5, none⟩ (.int .i64 t473)).setCell ⟨gb453, 6, none⟩ (.int .i64 t474)).setCell ⟨gb453, 7, none⟩ (.string t475)).setCell ⟨gb453, 8, none⟩ (.complex .f64 t476.1 t476.2)).setCell ⟨gb453, 9, none⟩ (.complex .f64 t477.1 t477.2)).setCell ⟨gb453, 10, none⟩ (.complex .f64 t478.1 t478.2)).setCell ⟨gb453, 11, none⟩ (.slice Ao39 t479.length co39)) = w40 at n0_ n1_ n2_ n3_ n4_ ⊢
        have HO464 := n0_
        have HO481 := n1_
        have BK453 := n2_
        have HI457 := n3_
        have HB := n4_
        clear n0_ n1_ n2_ n3_ n4_
        go_step3
        go_wp2_with (first | ((with_reducible refine gate_callee (f := 25) rfl ?_); refine goesL_ (some 67) rfl rfl Tryz.func25 kR rfl #[.pointer (some ⟨gb457, 0, none⟩)] rfl mA ?_; (with_reducible refine (req_reader_end.calls gb457 t482 t483 t484 t485 t486 t487 t488 w _ ?side1 ?side2 A29.out).mono ?_); (case side1 => exact hI HI457); (case side2 => exact bB); rintro e w41 ⟨rfl, hi, hb, hk⟩; refine ⟨_, rfl, ?_⟩; replace BK453 := Mk (kblk hk BK453 NB453_457); replace HO464 := Mk (Kd.R_mono (Kd.R_keep (IsS64.apart (show IsS64 w _ gb457 t482 t483 t484 from hI HI457) (rU HO464) (by decide)) hk (fun _ h => h.2)) (fun _ h => h.1)); replace HO481 := Mk (Kd.R_mono (Kd.R_keep (IsS64.apart (show IsS64 w _ gb457 t482 t483 t484 from hI HI457) (rU HO481) (by decide)) hk (fun _ h => h.2)) (fun _ h => h.1)); replace HB := Mk (hb); replace HI457 := Mk (hi); clear hb hk hi; obtain ⟨_, _, _, _, _, _, _, _, _, _, _, _, _, _, _, _, _, _, _, _, _, _, _, _, _, _⟩ := z13 BK453))
        try rw [labs_ret]
        refine bodyPost_ret (results_ct rfl _ _ gb453 38 #[.int .i64 (wrap64 (t461 + 1)), .int .i64 0, .slice Ao32 t462.length co32, .int .i64 t471, .int .i64 t472, .int .i64 t473, .int .i64 t474, .string t475, .complex .f64 t476.1 t476.2, .complex .f64 t477.1 t477.2, .complex .f64 t478.1 t478.2, .slice Ao39 t479.length co39, .slice none 0 0] (0, 0) _ rfl (bP BK453) Tryz.underlying38 rfl kR) rfl ?_
        exact ⟨_, _, _, by first | rfl | (simp [errW_none, errW_some] <;> rfl) | (simp only [← hji3]; first | rfl | (simp [errW_none, errW_some] <;> rfl)) | (simp [*, errW_none, errW_some] <;> rfl), by (repeat apply Rup); exact Kd.R_mono (Kd.R_far (p := ⟨gb453, 12, none⟩) (Kd.R_far (p := ⟨gb453, 11, none⟩) (Kd.R_far (p := ⟨gb453, 10, none⟩) (Kd.R_far (p := ⟨gb453, 9, none⟩) (Kd.R_far (p := ⟨gb453, 8, none⟩) (Kd.R_far (p := ⟨gb453, 7, none⟩) (Kd.R_far (p := ⟨gb453, 6, none⟩) (Kd.R_far (p := ⟨gb453, 5, none⟩) (Kd.R_far (p := ⟨gb453, 4, none⟩) (Kd.R_far (p := ⟨gb453, 3, none⟩) (Kd.R_far (p := ⟨gb453, 2, none⟩) (Kd.R_far (p := ⟨gb453, 1, none⟩) (Kd.R_far (p := ⟨gb453, 0, none⟩) (Kd.R_types HO464.out BK453.out (by decide)) (fun _ hk => hk.2) (.int .i64 (wrap64 (t461 + 1)))) (fun _ hk => hk.2) (.int .i64 0)) (fun _ hk => hk.2) (.slice Ao32 t462.length co32)) (fun _ hk => hk.2) (.int .i64 t471)) (fun _ hk => hk.2) (.int .i64 t472)) (fun _ hk => hk.2) (.int .i64 t473)) (fun _ hk => hk.2) (.int .i64 t474)) (fun _ hk => hk.2) (.string t475)) (fun _ hk => hk.2) (.complex .f64 t476.1 t476.2)) (fun _ hk => hk.2) (.complex .f64 t477.1 t477.2)) (fun _ hk => hk.2) (.complex .f64 t478.1 t478.2)) (fun _ hk => hk.2) (.slice Ao39 t479.length co39)) (fun _ hk => hk.2) (.slice none 0 0)) (fun _ hk => trivial), by (repeat apply Rup); exact Kd.R_mono (Kd.R_far (p := ⟨gb453, 12, none⟩) (Kd.R_far (p := ⟨gb453, 11, none⟩) (Kd.R_far (p := ⟨gb453, 10, none⟩) (Kd.R_far (p := ⟨gb453, 9, none⟩) (Kd.R_far (p := ⟨gb453, 8, none⟩) (Kd.R_far (p := ⟨gb453, 7, none⟩) (Kd.R_far (p := ⟨gb453, 6, none⟩) (Kd.R_far (p := ⟨gb453, 5, none⟩) (Kd.R_far (p := ⟨gb453, 4, none⟩) (Kd.R_far (p := ⟨gb453, 3, none⟩) (Kd.R_far (p := ⟨gb453, 2, none⟩) (Kd.R_far (p := ⟨gb453, 1, none⟩) (Kd.R_far (p := ⟨gb453, 0, none⟩) (Kd.R_types HO481.out BK453.out (by decide)) (fun _ hk => hk.2) (.int .i64 (wrap64 (t461 + 1)))) (fun _ hk => hk.2) (.int .i64 0)) (fun _ hk => hk.2) (.slice Ao32 t462.length co32)) (fun _ hk => hk.2) (.int .i64 t471)) (fun _ hk => hk.2) (.int .i64 t472)) (fun _ hk => hk.2) (.int .i64 t473)) (fun _ hk => hk.2) (.int .i64 t474)) (fun _ hk => hk.2) (.string t475)) (fun _ hk => hk.2) (.complex .f64 t476.1 t476.2)) (fun _ hk => hk.2) (.complex .f64 t477.1 t477.2)) (fun _ hk => hk.2) (.complex .f64 t478.1 t478.2)) (fun _ hk => hk.2) (.slice Ao39 t479.length co39)) (fun _ hk => hk.2) (.slice none 0 0)) (fun _ hk => trivial), by first | exact Kd.S_nil _ _ _ _ _ | exact Kd.N_nil _ _ _ _ _ | exact Kd.V_nil _ _ _ _ _ | exact Kd.Q_nil _ _ _ _ _ | exact Kd.R_nil _ _ _ _ _, bB⟩
       ·rw [if_neg c30] at H
        have c30b0 := beq_eq_false_iff_ne.mpr c30
        have c30b1 := bne_iff_ne.mpr c30
        simp only [Option.some.injEq, Prod.mk.injEq] at H
        obtain ⟨rfl, rfl, rfl, rfl, rfl, rfl, rfl, rfl, rfl, rfl, rfl, rfl, rfl, rfl⟩ := H
        go_wp2
        go_step3
        refine hG_ 1 _ _ _ (by rfl) ?_
        go_wp2_with (first | ((with_reducible refine gate_callee (f := 35) rfl ?_); refine goesL_ (some 54) rfl rfl Tryz.func35 kR rfl #[.pointer (some ⟨gb457, 0, none⟩)] rfl mA ?_; (with_reducible refine (req_reader_names.calls kj5 gb457 a0 ji3 0 t462 t465 t466 t467 w _ ?side1 ?side2 A25.out).mono ?_); (case side1 => exact hI HI457); (case side2 => exact bB); rintro e w43 ⟨v463, rfl, ho0, hi, hb, hk⟩; refine ⟨_, rfl, ?_⟩; have HO464 := Mk (Kd.R_lower ho0 (below_size bB)); replace BK453 := Mk (kblk hk BK453 NB453_457); replace HB := Mk (hb); replace HI457 := Mk (hi); clear hb hk hi ho0; obtain ⟨Ao44, co44, eo44⟩ := Kd.R_slice HO464.out; subst eo44; have hnb45 := NB453_457.out; have hnc45 := NB457_453.out; obtain ⟨_, _, _, _, _, _, _, _, _, _, _, _, _, _, _, _, _, _, _, _, _, _, _, _, _, _⟩ := z13 BK453) | ((with_reducible refine gate_callee (f := 36) rfl ?_); refine goesL_ (some 57) rfl rfl Tryz.func36 kR rfl #[.pointer (some ⟨gb457, 0, none⟩), .string (⟨#[32]⟩ : ByteArray)] rfl mA ?_; (with_reducible refine (req_reader_sign.calls kj5 gb457 t465 t466 t467 (⟨#[32]⟩ : ByteArray) t468 t469 t470 w _ ?side1 ?side2 A26.out).mono ?_); (case side1 => exact hI HI457); (case side2 => exact bB); rintro e w47 ⟨rfl, hi, hb, hk⟩; refine ⟨_, rfl, ?_⟩; replace HO464 := Mk (Kd.R_mono (Kd.R_keep (IsS64.apart (show IsS64 w _ gb457 t465 t466 t467 from hI HI457) (by (repeat apply Rup); exact (Kd.R_mono (Kd.R_far (p := ⟨gb453, 2, none⟩) (Kd.R_types HO464.out BK453.out (by decide)) (fun _ hk => hk.2) (.slice Ao44 t462.length co44)) (fun _ h_ => h_.1))) (by decide)) hk (fun _ h => h.2)) (fun _ h => h.1)); replace BK453 := Mk (KeepBut.blk hk (g' := gb453) (o := .cells #[.int .i64 (wrap64 (t461 + 1)), .int .i64 0, .slice Ao44 t462.length co44, .int .i64 0, .int .i64 0, .int .i64 0, .int .i64 0, .string (⟨#[]⟩ : ByteArray), .complex .f64 0 0, .complex .f64 0 0, .complex .f64 0 0, .slice none 0 0, .slice none 0 0] 38 (0, 0)) (bP BK453) NB453_457.out (by simp)); replace HB := Mk (hb); replace HI457 := Mk (hi); clear hb hk hi; obtain ⟨HGz48, hgz48⟩ := HI457.out; have hcz48_0 := cellS64_0 HGz48; have hcz48_1 := cellS64_1 HGz48; have hcz48_2 := cellS64_2 HGz48; have hfz48_0 := blk_frozen HGz48 0; have hfz48_1 := blk_frozen HGz48 1; have hfz48_2 := blk_frozen HGz48 2; clear HGz48 hgz48) | ((with_reducible refine gate_callee (f := 24) rfl ?_); refine goesL_ (some 64) rfl rfl Tryz.func24 kR rfl #[.pointer (some ⟨gb457, 0, none⟩), .int .i64 1] rfl mA ?_; (with_reducible refine (req_reader_pred.calls kj5 gb457 t468 t469 t470 1 t471 t472 t473 t474 t475 t476 t477 t478 t479 t482 t483 t484 w _ ?side1 ?side2 A28.out HG_.out).mono ?_); (case side1 => exact hI HI457); (case side2 => exact bB); rintro e w49 ⟨v480, rfl, ho0, hi, hb, hk⟩; refine ⟨_, rfl, ?_⟩; have HO481 := Mk (Kd.R_lower ho0 (below_size bB)); replace BK453 := Mk (kblk hk BK453 NB453_457); replace HO464 := Mk (Kd.R_mono (Kd.R_keep (IsS64.apart (show IsS64 w _ gb457 t468 t469 t470 from hI HI457) (rU HO464) (by decide)) hk (fun _ h => h.2)) (fun _ h => h.1)); replace HB := Mk (hb); replace HI457 := Mk (hi); clear hb hk hi ho0; obtain ⟨_, _, _, _, _, _, _, _, _, _, _, _, _, _, _, _, _, _, _, _, _, _, _, _, _, _⟩ := z13 BK453; obtain ⟨Ao51, co51, eo51⟩ := Kd.R_slice HO481.out; subst eo51))
        have n0_ : Aside0 (Kd.R Kd.string 9 (((((((((w49.setCell ⟨gb453, 3, none⟩ (.int .i64 t471)).setCell ⟨gb453, 4, none⟩ (.int .i64 t472)).setCell ⟨gb453, 5, none⟩ (.int .i64 t473)).setCell ⟨gb453, 6, none⟩ (.int .i64 t474)).setCell ⟨gb453, 7, none⟩ (.string t475)).setCell ⟨gb453, 8, none⟩ (.complex .f64 t476.1 t476.2)).setCell ⟨gb453, 9, none⟩ (.complex .f64 t477.1 t477.2)).setCell ⟨gb453, 10, none⟩ (.complex .f64 t478.1 t478.2)).setCell ⟨gb453, 11, none⟩ (.slice Ao51 t479.length co51)) w.heap.size (fun _ => True) (.slice Ao44 t462.length co44) t462) := ⟨by (repeat apply Rup); exact Kd.R_mono (Kd.R_far (p := ⟨gb453, 11, none⟩) (Kd.R_far (p := ⟨gb453, 10, none⟩) (Kd.R_far (p := ⟨gb453, 9, none⟩) (Kd.R_far (p := ⟨gb453, 8, none⟩) (Kd.R_far (p := ⟨gb453, 7, none⟩) (Kd.R_far (p := ⟨gb453, 6, none⟩) (Kd.R_far (p := ⟨gb453, 5, none⟩) (Kd.R_far (p := ⟨gb453, 4, none⟩) (Kd.R_far (p := ⟨gb453, 3, none⟩) (Kd.R_types HO464.out BK453.out (by decide)) (fun _ hk => hk.2) (.int .i64 t471)) (fun _ hk => hk.2) (.int .i64 t472)) (fun _ hk => hk.2) (.int .i64 t473)) (fun _ hk => hk.2) (.int .i64 t474)) (fun _ hk => hk.2) (.string t475)) (fun _ hk => hk.2) (.complex .f64 t476.1 t476.2)) (fun _ hk => hk.2) (.complex .f64 t477.1 t477.2)) (fun _ hk => hk.2) (.complex .f64 t478.1 t478.2)) (fun _ hk => hk.2) (.slice Ao51 t479.length co51)) (fun _ hk => trivial)⟩
        have n1_ : Aside0 (Kd.R k30 30 (((((((((w49.setCell ⟨gb453, 3, none⟩ (.int .i64 t471)).setCell ⟨gb453, 4, none⟩ (.int .i64 t472)).setCell ⟨gb453, 5, none⟩ (.int .i64 t473)).setCell ⟨gb453, 6, none⟩ (.int .i64 t474)).setCell ⟨gb453, 7, none⟩ (.string t475)).setCell ⟨gb453, 8, none⟩ (.complex .f64 t476.1 t476.2)).setCell ⟨gb453, 9, none⟩ (.complex .f64 t477.1 t477.2)).setCell ⟨gb453, 10, none⟩ (.complex .f64 t478.1 t478.2)).setCell ⟨gb453, 11, none⟩ (.slice Ao51 t479.length co51)) w.heap.size (fun _ => True) (.slice Ao51 t479.length co51) t479) := ⟨by (repeat apply Rup); exact Kd.R_mono (Kd.R_far (p := ⟨gb453, 11, none⟩) (Kd.R_far (p := ⟨gb453, 10, none⟩) (Kd.R_far (p := ⟨gb453, 9, none⟩) (Kd.R_far (p := ⟨gb453, 8, none⟩) (Kd.R_far (p := ⟨gb453, 7, none⟩) (Kd.R_far (p := ⟨gb453, 6, none⟩) (Kd.R_far (p := ⟨gb453, 5, none⟩) (Kd.R_far (p := ⟨gb453, 4, none⟩) (Kd.R_far (p := ⟨gb453, 3, none⟩) (Kd.R_types HO481.out BK453.out (by decide)) (fun _ hk => hk.2) (.int .i64 t471)) (fun _ hk => hk.2) (.int .i64 t472)) (fun _ hk => hk.2) (.int .i64 t473)) (fun _ hk => hk.2) (.int .i64 t474)) (fun _ hk => hk.2) (.string t475)) (fun _ hk => hk.2) (.complex .f64 t476.1 t476.2)) (fun _ hk => hk.2) (.complex .f64 t477.1 t477.2)) (fun _ hk => hk.2) (.complex .f64 t478.1 t478.2)) (fun _ hk => hk.2) (.slice Ao51 t479.length co51)) (fun _ hk => trivial)⟩
        have n2_ : Aside0 ((((((((((w49.setCell ⟨gb453, 3, none⟩ (.int .i64 t471)).setCell ⟨gb453, 4, none⟩ (.int .i64 t472)).setCell ⟨gb453, 5, none⟩ (.int .i64 t473)).setCell ⟨gb453, 6, none⟩ (.int .i64 t474)).setCell ⟨gb453, 7, none⟩ (.string t475)).setCell ⟨gb453, 8, none⟩ (.complex .f64 t476.1 t476.2)).setCell ⟨gb453, 9, none⟩ (.complex .f64 t477.1 t477.2)).setCell ⟨gb453, 10, none⟩ (.complex .f64 t478.1 t478.2)).setCell ⟨gb453, 11, none⟩ (.slice Ao51 t479.length co51)).heap[gb453]? = some (.cells #[.int .i64 (wrap64 (t461 + 1)), .int .i64 0, .slice Ao44 t462.length co44, .int .i64 t471, .int .i64 t472, .int .i64 t473, .int .i64 t474, .string t475, .complex .f64 t476.1 t476.2, .complex .f64 t477.1 t477.2, .complex .f64 t478.1 t478.2, .slice Ao51 t479.length co51, .slice none 0 0] 38 (0, 0))) := ⟨by (with_reducible repeat refine bU ?_); refine blk_put (cs := #[.int .i64 (wrap64 (t461 + 1)), .int .i64 0, .slice Ao44 t462.length co44, .int .i64 t471, .int .i64 t472, .int .i64 t473, .int .i64 t474, .string t475, .complex .f64 t476.1 t476.2, .complex .f64 t477.1 t477.2, .complex .f64 t478.1 t478.2, .slice none 0 0, .slice none 0 0]) ?_ 11 _ rfl; (with_reducible repeat refine bU ?_); refine blk_put (cs := #[.int .i64 (wrap64 (t461 + 1)), .int .i64 0, .slice Ao44 t462.length co44, .int .i64 t471, .int .i64 t472, .int .i64 t473, .int .i64 t474, .string t475, .complex .f64 t476.1 t476.2, .complex .f64 t477.1 t477.2, .complex .f64 0 0, .slice none 0 0, .slice none 0 0]) ?_ 10 _ rfl; (with_reducible repeat refine bU ?_); refine blk_put (cs := #[.int .i64 (wrap64 (t461 + 1)), .int .i64 0, .slice Ao44 t462.length co44, .int .i64 t471, .int .i64 t472, .int .i64 t473, .int .i64 t474, .string t475, .complex .f64 t476.1 t476.2, .complex .f64 0 0, .complex .f64 0 0, .slice none 0 0, .slice none 0 0]) ?_ 9 _ rfl; (with_reducible repeat refine bU ?_); refine blk_put (cs := #[.int .i64 (wrap64 (t461 + 1)), .int .i64 0, .slice Ao44 t462.length co44, .int .i64 t471, .int .i64 t472, .int .i64 t473, .int .i64 t474, .string t475, .complex .f64 0 0, .complex .f64 0 0, .complex .f64 0 0, .slice none 0 0, .slice none 0 0]) ?_ 8 _ rfl; (with_reducible repeat refine bU ?_); refine blk_put (cs := #[.int .i64 (wrap64 (t461 + 1)), .int .i64 0, .slice Ao44 t462.length co44, .int .i64 t471, .int .i64 t472, .int .i64 t473, .int .i64 t474, .string (⟨#[]⟩ : ByteArray), .complex .f64 0 0, .complex .f64 0 0, .complex .f64 0 0, .slice none 0 0, .slice none 0 0]) ?_ 7 _ rfl; (with_reducible repeat refine bU ?_); refine blk_put (cs := #[.int .i64 (wrap64 (t461 + 1)), .int .i64 0, .slice Ao44 t462.length co44, .int .i64 t471, .int .i64 t472, .int .i64 t473, .int .i64 0, .string (⟨#[]⟩ : ByteArray), .complex .f64 0 0, .complex .f64 0 0, .complex .f64 0 0, .slice none 0 0, .slice none 0 0]) ?_ 6 _ rfl; (with_reducible repeat refine bU ?_); refine blk_put (cs := #[.int .i64 (wrap64 (t461 + 1)), .int .i64 0, .slice Ao44 t462.length co44, .int .i64 t471, .int .i64 t472, .int .i64 0, .int .i64 0, .string (⟨#[]⟩ : ByteArray), .complex .f64 0 0, .complex .f64 0 0, .complex .f64 0 0, .slice none 0 0, .slice none 0 0]) ?_ 5 _ rfl; (with_reducible repeat refine bU ?_); refine blk_put (cs := #[.int .i64 (wrap64 (t461 + 1)), .int .i64 0, .slice Ao44 t462.length co44, .int .i64 t471, .int .i64 0, .int .i64 0, .int .i64 0, .string (⟨#[]⟩ : ByteArray), .complex .f64 0 0, .complex .f64 0 0, .complex .f64 0 0, .slice none 0 0, .slice none 0 0]) ?_ 4 _ rfl; (with_reducible repeat refine bU ?_); refine blk_put (cs := #[.int .i64 (wrap64 (t461 + 1)), .int .i64 0, .slice Ao44 t462.length co44, .int .i64 0, .int .i64 0, .int .i64 0, .int .i64 0, .string (⟨#[]⟩ : ByteArray), .complex .f64 0 0, .complex .f64 0 0, .complex .f64 0 0, .slice none 0 0, .slice none 0 0]) ?_ 3 _ rfl; (with_reducible repeat refine bU ?_); exact BK453.out⟩
        have n3_ : Aside0 (IsS64 w (((((((((w49.setCell ⟨gb453, 3, none⟩ (.int .i64 t471)).setCell ⟨gb453, 4, none⟩ (.int .i64 t472)).setCell ⟨gb453, 5, none⟩ (.int .i64 t473)).setCell ⟨gb453, 6, none⟩ (.int .i64 t474)).setCell ⟨gb453, 7, none⟩ (.string t475)).setCell ⟨gb453, 8, none⟩ (.complex .f64 t476.1 t476.2)).setCell ⟨gb453, 9, none⟩ (.complex .f64 t477.1 t477.2)).setCell ⟨gb453, 10, none⟩ (.complex .f64 t478.1 t478.2)).setCell ⟨gb453, 11, none⟩ (.slice Ao51 t479.length co51)) gb457 t482 t483 t484) := ⟨hI HI457⟩
        have n4_ : Aside0 (Below w.heap.size w (((((((((w49.setCell ⟨gb453, 3, none⟩ (.int .i64 t471)).setCell ⟨gb453, 4, none⟩ (.int .i64 t472)).setCell ⟨gb453, 5, none⟩ (.int .i64 t473)).setCell ⟨gb453, 6, none⟩ (.int .i64 t474)).setCell ⟨gb453, 7, none⟩ (.string t475)).setCell ⟨gb453, 8, none⟩ (.complex .f64 t476.1 t476.2)).setCell ⟨gb453, 9, none⟩ (.complex .f64 t477.1 t477.2)).setCell ⟨gb453, 10, none⟩ (.complex .f64 t478.1 t478.2)).setCell ⟨gb453, 11, none⟩ (.slice Ao51 t479.length co51))) := ⟨bB⟩
        (try clear HO464)
        (try clear HO481)
        (try clear BK453)
        (try clear HI457)
        (try clear HB)
        generalize (((((((((w49.setCell ⟨gb453, 3, none⟩ (.int .i64 t471)).setCell ⟨gb453, 4, none⟩ (.int .i64 t472)).setCell ⟨gb453, 5, none⟩ (.int .i64 t473)).setCell ⟨gb453, 6, none⟩ (.int .i64 t474)).setCell ⟨gb453, 7, none⟩ (.string t475)).setCell ⟨gb453, 8, none⟩ (.complex .f64 t476.1 t476.2)).setCell ⟨gb453, 9, none⟩ (.complex .f64 t477.1 t477.2)).setCell ⟨gb453, 10, none⟩ (.complex .f64 t478.1 t478.2)).setCell ⟨gb453, 11, none⟩ (.slice Ao51 t479.length co51)) = w52 at n0_ n1_ n2_ n3_ n4_ ⊢
        have HO464 := n0_
        have HO481 := n1_
        have BK453 := n2_
        have HI457 := n3_
        have HB := n4_
        clear n0_ n1_ n2_ n3_ n4_
        go_step3
        go_wp2_with (first | ((with_reducible refine gate_callee (f := 25) rfl ?_); refine goesL_ (some 67) rfl rfl Tryz.func25 kR rfl #[.pointer (some ⟨gb457, 0, none⟩)] rfl mA ?_; (with_reducible refine (req_reader_end.calls gb457 t482 t483 t484 t485 t486 t487 t488 w _ ?side1 ?side2 A29.out).mono ?_); (case side1 => exact hI HI457); (case side2 => exact bB); rintro e w53 ⟨rfl, hi, hb, hk⟩; refine ⟨_, rfl, ?_⟩; replace BK453 := Mk (kblk hk BK453 NB453_457); replace HO464 := Mk (Kd.R_mono (Kd.R_keep (IsS64.apart (show IsS64 w _ gb457 t482 t483 t484 from hI HI457) (rU HO464) (by decide)) hk (fun _ h => h.2)) (fun _ h => h.1)); replace HO481 := Mk (Kd.R_mono (Kd.R_keep (IsS64.apart (show IsS64 w _ gb457 t482 t483 t484 from hI HI457) (rU HO481) (by decide)) hk (fun _ h => h.2)) (fun _ h => h.1)); replace HB := Mk (hb); replace HI457 := Mk (hi); clear hb hk hi))
        go_step3
        obtain ⟨_, _, _, _, _, _, _, _, _, _, _, _, _, _, _, _, _, _, _, _, _, _, _, _, _, _⟩ := z13 BK453
        go_wp2
        try rw [labs_ret]
        refine bodyPost_ret (results_ct rfl _ _ gb453 38 #[.int .i64 0, .int .i64 0, .slice none 0 0, .int .i64 0, .int .i64 0, .int .i64 0, .int .i64 0, .string (⟨#[]⟩ : ByteArray), .complex .f64 0 0, .complex .f64 0 0, .complex .f64 0 0, .slice none 0 0, .slice none 0 0] (0, 0) _ rfl (bP BK453) Tryz.underlying38 rfl kR) rfl ?_
        exact ⟨_, _, _, by first | rfl | (simp [errW_none, errW_some] <;> rfl) | (simp only [← hji3]; first | rfl | (simp [errW_none, errW_some] <;> rfl)) | (simp [*, errW_none, errW_some] <;> rfl), by first | exact Kd.R_nil _ _ _ _ _ | exact Kd.N_nil _ _ _ _ _ | exact Kd.V_nil _ _ _ _ _ | exact Kd.Q_nil _ _ _ _ _ | exact Kd.S_nil _ _ _ _ _, by first | exact Kd.R_nil _ _ _ _ _ | exact Kd.N_nil _ _ _ _ _ | exact Kd.V_nil _ _ _ _ _ | exact Kd.Q_nil _ _ _ _ _ | exact Kd.S_nil _ _ _ _ _, by first | exact Kd.S_nil _ _ _ _ _ | exact Kd.N_nil _ _ _ _ _ | exact Kd.V_nil _ _ _ _ _ | exact Kd.Q_nil _ _ _ _ _ | exact Kd.R_nil _ _ _ _ _, bB⟩
      ·rw [if_neg c27] at H
       have c27b0 := beq_eq_false_iff_ne.mpr c27
       have c27b1 := bne_iff_ne.mpr c27
       replace H := Option.bind_eq_some_iff.mp H
       obtain ⟨⟨t489, t490, t491, t492⟩, A550, H⟩ := H
       try dsimp only at H
       have A55 := Mk A550
       clear A550
       by_cases c56 : t489 = 0
       ·rw [if_pos c56] at H
        have c56b0 := beq_iff_eq.mpr c56
        have c56b1 := bne_eq_false_iff_eq.mpr c56
        clear c56
        simp only [Option.some.injEq, Prod.mk.injEq] at H
        obtain ⟨rfl, rfl, rfl, rfl, rfl, rfl, rfl, rfl, rfl, rfl, rfl, rfl, rfl, rfl⟩ := H
        go_wp2
        go_step3
        refine hG_ 1 _ _ _ (by rfl) ?_
        go_wp2_with (first | ((with_reducible refine gate_callee (f := 35) rfl ?_); refine goesL_ (some 54) rfl rfl Tryz.func35 kR rfl #[.pointer (some ⟨gb457, 0, none⟩)] rfl mA ?_; (with_reducible refine (req_reader_names.calls kj5 gb457 a0 ji3 0 t462 t465 t466 t467 w _ ?side1 ?side2 A25.out).mono ?_); (case side1 => exact hI HI457); (case side2 => exact bB); rintro e w57 ⟨v463, rfl, ho0, hi, hb, hk⟩; refine ⟨_, rfl, ?_⟩; have HO464 := Mk (Kd.R_lower ho0 (below_size bB)); replace BK453 := Mk (kblk hk BK453 NB453_457); replace HB := Mk (hb); replace HI457 := Mk (hi); clear hb hk hi ho0; obtain ⟨Ao58, co58, eo58⟩ := Kd.R_slice HO464.out; subst eo58; have hnb59 := NB453_457.out; have hnc59 := NB457_453.out; obtain ⟨_, _, _, _, _, _, _, _, _, _, _, _, _, _, _, _, _, _, _, _, _, _, _, _, _, _⟩ := z13 BK453) | ((with_reducible refine gate_callee (f := 36) rfl ?_); refine goesL_ (some 57) rfl rfl Tryz.func36 kR rfl #[.pointer (some ⟨gb457, 0, none⟩), .string (⟨#[32]⟩ : ByteArray)] rfl mA ?_; (with_reducible refine (req_reader_sign.calls kj5 gb457 t465 t466 t467 (⟨#[32]⟩ : ByteArray) t468 t469 t470 w _ ?side1 ?side2 A26.out).mono ?_); (case side1 => exact hI HI457); (case side2 => exact bB); rintro e w61 ⟨rfl, hi, hb, hk⟩; refine ⟨_, rfl, ?_⟩; replace HO464 := Mk (Kd.R_mono (Kd.R_keep (IsS64.apart (show IsS64 w _ gb457 t465 t466 t467 from hI HI457) (by (repeat apply Rup); exact (Kd.R_mono (Kd.R_far (p := ⟨gb453, 2, none⟩) (Kd.R_types HO464.out BK453.out (by decide)) (fun _ hk => hk.2) (.slice Ao58 t462.length co58)) (fun _ h_ => h_.1))) (by decide)) hk (fun _ h => h.2)) (fun _ h => h.1)); replace BK453 := Mk (KeepBut.blk hk (g' := gb453) (o := .cells #[.int .i64 (wrap64 (t461 + 1)), .int .i64 0, .slice Ao58 t462.length co58, .int .i64 0, .int .i64 0, .int .i64 0, .int .i64 0, .string (⟨#[]⟩ : ByteArray), .complex .f64 0 0, .complex .f64 0 0, .complex .f64 0 0, .slice none 0 0, .slice none 0 0] 38 (0, 0)) (bP BK453) NB453_457.out (by simp)); replace HB := Mk (hb); replace HI457 := Mk (hi); clear hb hk hi; obtain ⟨HGz62, hgz62⟩ := HI457.out; have hcz62_0 := cellS64_0 HGz62; have hcz62_1 := cellS64_1 HGz62; have hcz62_2 := cellS64_2 HGz62; have hfz62_0 := blk_frozen HGz62 0; have hfz62_1 := blk_frozen HGz62 1; have hfz62_2 := blk_frozen HGz62 2; clear HGz62 hgz62))
        go_step3
        go_wp2_with (first | ((with_reducible refine gate_callee (f := 25) rfl ?_); refine goesL_ (some 67) rfl rfl Tryz.func25 kR rfl #[.pointer (some ⟨gb457, 0, none⟩)] rfl mA ?_; (with_reducible refine (req_reader_end.calls gb457 t468 t469 t470 t489 t490 t491 t492 w _ ?side1 ?side2 A55.out).mono ?_); (case side1 => exact hI HI457); (case side2 => exact bB); rintro e w63 ⟨rfl, hi, hb, hk⟩; refine ⟨_, rfl, ?_⟩; replace BK453 := Mk (kblk hk BK453 NB453_457); replace HO464 := Mk (Kd.R_mono (Kd.R_keep (IsS64.apart (show IsS64 w _ gb457 t468 t469 t470 from hI HI457) (rU HO464) (by decide)) hk (fun _ h => h.2)) (fun _ h => h.1)); replace HB := Mk (hb); replace HI457 := Mk (hi); clear hb hk hi; obtain ⟨_, _, _, _, _, _, _, _, _, _, _, _, _, _, _, _, _, _, _, _, _, _, _, _, _, _⟩ := z13 BK453))
        try rw [labs_ret]
        refine bodyPost_ret (results_ct rfl _ _ gb453 38 #[.int .i64 (wrap64 (t461 + 1)), .int .i64 0, .slice Ao58 t462.length co58, .int .i64 0, .int .i64 0, .int .i64 0, .int .i64 0, .string (⟨#[]⟩ : ByteArray), .complex .f64 0 0, .complex .f64 0 0, .complex .f64 0 0, .slice none 0 0, .slice none 0 0] (0, 0) _ rfl (bP BK453) Tryz.underlying38 rfl kR) rfl ?_
        exact ⟨_, _, _, by first | rfl | (simp [errW_none, errW_some] <;> rfl) | (simp only [← hji3]; first | rfl | (simp [errW_none, errW_some] <;> rfl)) | (simp [*, errW_none, errW_some] <;> rfl), by (repeat apply Rup); exact Kd.R_mono (Kd.R_far (p := ⟨gb453, 12, none⟩) (Kd.R_far (p := ⟨gb453, 11, none⟩) (Kd.R_far (p := ⟨gb453, 10, none⟩) (Kd.R_far (p := ⟨gb453, 9, none⟩) (Kd.R_far (p := ⟨gb453, 8, none⟩) (Kd.R_far (p := ⟨gb453, 7, none⟩) (Kd.R_far (p := ⟨gb453, 6, none⟩) (Kd.R_far (p := ⟨gb453, 5, none⟩) (Kd.R_far (p := ⟨gb453, 4, none⟩) (Kd.R_far (p := ⟨gb453, 3, none⟩) (Kd.R_far (p := ⟨gb453, 2, none⟩) (Kd.R_far (p := ⟨gb453, 1, none⟩) (Kd.R_far (p := ⟨gb453, 0, none⟩) (Kd.R_types HO464.out BK453.out (by decide)) (fun _ hk => hk.2) (.int .i64 (wrap64 (t461 + 1)))) (fun _ hk => hk.2) (.int .i64 0)) (fun _ hk => hk.2) (.slice Ao58 t462.length co58)) (fun _ hk => hk.2) (.int .i64 0)) (fun _ hk => hk.2) (.int .i64 0)) (fun _ hk => hk.2) (.int .i64 0)) (fun _ hk => hk.2) (.int .i64 0)) (fun _ hk => hk.2) (.string (⟨#[]⟩ : ByteArray))) (fun _ hk => hk.2) (.complex .f64 0 0)) (fun _ hk => hk.2) (.complex .f64 0 0)) (fun _ hk => hk.2) (.complex .f64 0 0)) (fun _ hk => hk.2) (.slice none 0 0)) (fun _ hk => hk.2) (.slice none 0 0)) (fun _ hk => trivial), by first | exact Kd.R_nil _ _ _ _ _ | exact Kd.N_nil _ _ _ _ _ | exact Kd.V_nil _ _ _ _ _ | exact Kd.Q_nil _ _ _ _ _ | exact Kd.S_nil _ _ _ _ _, by first | exact Kd.S_nil _ _ _ _ _ | exact Kd.N_nil _ _ _ _ _ | exact Kd.V_nil _ _ _ _ _ | exact Kd.Q_nil _ _ _ _ _ | exact Kd.R_nil _ _ _ _ _, bB⟩
       ·rw [if_neg c56] at H
        have c56b0 := beq_eq_false_iff_ne.mpr c56
        have c56b1 := bne_iff_ne.mpr c56
        simp only [Option.some.injEq, Prod.mk.injEq] at H
        obtain ⟨rfl, rfl, rfl, rfl, rfl, rfl, rfl, rfl, rfl, rfl, rfl, rfl, rfl, rfl⟩ := H
        go_wp2
        go_step3
        refine hG_ 1 _ _ _ (by rfl) ?_
        go_wp2_with (first | ((with_reducible refine gate_callee (f := 35) rfl ?_); refine goesL_ (some 54) rfl rfl Tryz.func35 kR rfl #[.pointer (some ⟨gb457, 0, none⟩)] rfl mA ?_; (with_reducible refine (req_reader_names.calls kj5 gb457 a0 ji3 0 t462 t465 t466 t467 w _ ?side1 ?side2 A25.out).mono ?_); (case side1 => exact hI HI457); (case side2 => exact bB); rintro e w65 ⟨v463, rfl, ho0, hi, hb, hk⟩; refine ⟨_, rfl, ?_⟩; have HO464 := Mk (Kd.R_lower ho0 (below_size bB)); replace BK453 := Mk (kblk hk BK453 NB453_457); replace HB := Mk (hb); replace HI457 := Mk (hi); clear hb hk hi ho0; obtain ⟨Ao66, co66, eo66⟩ := Kd.R_slice HO464.out; subst eo66; have hnb67 := NB453_457.out; have hnc67 := NB457_453.out; obtain ⟨_, _, _, _, _, _, _, _, _, _, _, _, _, _, _, _, _, _, _, _, _, _, _, _, _, _⟩ := z13 BK453) | ((with_reducible refine gate_callee (f := 36) rfl ?_); refine goesL_ (some 57) rfl rfl Tryz.func36 kR rfl #[.pointer (some ⟨gb457, 0, none⟩), .string (⟨#[32]⟩ : ByteArray)] rfl mA ?_; (with_reducible refine (req_reader_sign.calls kj5 gb457 t465 t466 t467 (⟨#[32]⟩ : ByteArray) t468 t469 t470 w _ ?side1 ?side2 A26.out).mono ?_); (case side1 => exact hI HI457); (case side2 => exact bB); rintro e w69 ⟨rfl, hi, hb, hk⟩; refine ⟨_, rfl, ?_⟩; replace HO464 := Mk (Kd.R_mono (Kd.R_keep (IsS64.apart (show IsS64 w _ gb457 t465 t466 t467 from hI HI457) (by (repeat apply Rup); exact (Kd.R_mono (Kd.R_far (p := ⟨gb453, 2, none⟩) (Kd.R_types HO464.out BK453.out (by decide)) (fun _ hk => hk.2) (.slice Ao66 t462.length co66)) (fun _ h_ => h_.1))) (by decide)) hk (fun _ h => h.2)) (fun _ h => h.1)); replace BK453 := Mk (KeepBut.blk hk (g' := gb453) (o := .cells #[.int .i64 (wrap64 (t461 + 1)), .int .i64 0, .slice Ao66 t462.length co66, .int .i64 0, .int .i64 0, .int .i64 0, .int .i64 0, .string (⟨#[]⟩ : ByteArray), .complex .f64 0 0, .complex .f64 0 0, .complex .f64 0 0, .slice none 0 0, .slice none 0 0] 38 (0, 0)) (bP BK453) NB453_457.out (by simp)); replace HB := Mk (hb); replace HI457 := Mk (hi); clear hb hk hi; obtain ⟨HGz70, hgz70⟩ := HI457.out; have hcz70_0 := cellS64_0 HGz70; have hcz70_1 := cellS64_1 HGz70; have hcz70_2 := cellS64_2 HGz70; have hfz70_0 := blk_frozen HGz70 0; have hfz70_1 := blk_frozen HGz70 1; have hfz70_2 := blk_frozen HGz70 2; clear HGz70 hgz70))
        go_step3
        go_wp2_with (first | ((with_reducible refine gate_callee (f := 25) rfl ?_); refine goesL_ (some 67) rfl rfl Tryz.func25 kR rfl #[.pointer (some ⟨gb457, 0, none⟩)] rfl mA ?_; (with_reducible refine (req_reader_end.calls gb457 t468 t469 t470 t489 t490 t491 t492 w _ ?side1 ?side2 A55.out).mono ?_); (case side1 => exact hI HI457); (case side2 => exact bB); rintro e w71 ⟨rfl, hi, hb, hk⟩; refine ⟨_, rfl, ?_⟩; replace BK453 := Mk (kblk hk BK453 NB453_457); replace HO464 := Mk (Kd.R_mono (Kd.R_keep (IsS64.apart (show IsS64 w _ gb457 t468 t469 t470 from hI HI457) (rU HO464) (by decide)) hk (fun _ h => h.2)) (fun _ h => h.1)); replace HB := Mk (hb); replace HI457 := Mk (hi); clear hb hk hi))
        go_step3
        obtain ⟨_, _, _, _, _, _, _, _, _, _, _, _, _, _, _, _, _, _, _, _, _, _, _, _, _, _⟩ := z13 BK453
        go_wp2
        try rw [labs_ret]
        refine bodyPost_ret (results_ct rfl _ _ gb453 38 #[.int .i64 0, .int .i64 0, .slice none 0 0, .int .i64 0, .int .i64 0, .int .i64 0, .int .i64 0, .string (⟨#[]⟩ : ByteArray), .complex .f64 0 0, .complex .f64 0 0, .complex .f64 0 0, .slice none 0 0, .slice none 0 0] (0, 0) _ rfl (bP BK453) Tryz.underlying38 rfl kR) rfl ?_
        exact ⟨_, _, _, by first | rfl | (simp [errW_none, errW_some] <;> rfl) | (simp only [← hji3]; first | rfl | (simp [errW_none, errW_some] <;> rfl)) | (simp [*, errW_none, errW_some] <;> rfl), by first | exact Kd.R_nil _ _ _ _ _ | exact Kd.N_nil _ _ _ _ _ | exact Kd.V_nil _ _ _ _ _ | exact Kd.Q_nil _ _ _ _ _ | exact Kd.S_nil _ _ _ _ _, by first | exact Kd.R_nil _ _ _ _ _ | exact Kd.N_nil _ _ _ _ _ | exact Kd.V_nil _ _ _ _ _ | exact Kd.Q_nil _ _ _ _ _ | exact Kd.S_nil _ _ _ _ _, by first | exact Kd.S_nil _ _ _ _ _ | exact Kd.N_nil _ _ _ _ _ | exact Kd.V_nil _ _ _ _ _ | exact Kd.Q_nil _ _ _ _ _ | exact Kd.R_nil _ _ _ _ _, bB⟩
     ·rw [if_neg c24] at H
      have c24b0 := beq_eq_false_iff_ne.mpr c24
      have c24b1 := bne_iff_ne.mpr c24
      (first | rw [c24b0] | (simp only [i64_w, i32_w]; rw [c24b0]) | skip)
      by_cases c73 : (wrap64 (t461 + 1)) = 4
      ·rw [if_pos c73] at H
       have c73b0 := beq_iff_eq.mpr c73
       have c73b1 := bne_eq_false_iff_eq.mpr c73
       clear c73
       replace H := Option.bind_eq_some_iff.mp H
       obtain ⟨⟨t493, t496, t497, t498⟩, A740, H⟩ := H
       try dsimp only at H
       have A74 := Mk A740
       clear A740
       have H' := Mk H
       clear H
       go_wp2_with (first | ((with_reducible refine gate_callee (f := 33) rfl ?_); refine goesL_ (some 45) rfl rfl Tryz.func33 kR rfl #[.pointer (some ⟨gb457, 0, none⟩)] rfl mA ?_; (with_reducible refine (req_reader_rows.calls kj5 gb457 a0 ji3 0 t493 t496 t497 t498 w _ ?side1 ?side2 A74.out HG_.out).mono ?_); (case side1 => exact hI HI457); (case side2 => exact bB); rintro e w75 ⟨v494, rfl, ho0, hi, hb, hk⟩; refine ⟨_, rfl, ?_⟩; have HO495 := Mk (Kd.S_lower ho0 (below_size bB)); replace BK453 := Mk (kblk hk BK453 NB453_457); replace HB := Mk (hb); replace HI457 := Mk (hi); clear hb hk hi ho0; obtain ⟨Ao76, co76, eo76⟩ := Kd.S_slice HO495.out; subst eo76; have hnb77 := NB453_457.out; have hnc77 := NB457_453.out; obtain ⟨_, _, _, _, _, _, _, _, _, _, _, _, _, _, _, _, _, _, _, _, _, _, _, _, _, _⟩ := z13 BK453))
       go_meet
       case rel => exact ⟨_, (0), (t493), (t496), (t497), (t498), (.slice Ao76 t493.length co76), H', ⟨by have := HJ5.out; first | omega | exact Nat.le_refl _⟩, ⟨by (with_reducible repeat (first | apply Kd.S_alloc | apply Kd.S_drewN | apply Kd.S_drew)); exact Kd.S_mono (Kd.S_far (p := ⟨gb453, 12, none⟩) (Kd.S_types HO495.out BK453.out (by decide)) (fun _ hk => hk.2) (.slice Ao76 t493.length co76)) (fun _ hk => trivial)⟩, ⟨by (with_reducible repeat refine bU ?_); refine blk_put (cs := #[.int .i64 (wrap64 (t461 + 1)), .int .i64 0, .slice none 0 0, .int .i64 0, .int .i64 0, .int .i64 0, .int .i64 0, .string (⟨#[]⟩ : ByteArray), .complex .f64 0 0, .complex .f64 0 0, .complex .f64 0 0, .slice none 0 0, .slice none 0 0]) ?_ 12 _ rfl; (with_reducible repeat refine bU ?_); exact BK453.out⟩, ⟨hI HI457⟩, ⟨bB⟩⟩
      ·rw [if_neg c73] at H
       have c73b0 := beq_eq_false_iff_ne.mpr c73
       have c73b1 := bne_iff_ne.mpr c73
       by_cases c79 : (wrap64 (t461 + 1)) = 2
       ·rw [if_pos c79] at H
        have c79b0 := beq_iff_eq.mpr c79
        have c79b1 := bne_eq_false_iff_eq.mpr c79
        clear c79
        replace H := Option.bind_eq_some_iff.mp H
        obtain ⟨⟨t499, t500, t501, t502⟩, A800, H⟩ := H
        try dsimp only at H
        have A80 := Mk A800
        clear A800
        have H' := Mk H
        clear H
        go_wp2_with (first | ((with_reducible refine gate_callee (f := 34) rfl ?_); refine goesL_ (some 51) rfl rfl Tryz.func34 kR rfl #[.pointer (some ⟨gb457, 0, none⟩)] rfl mA ?_; (with_reducible refine (req_reader_number.calls kj5 gb457 a0 ji3 0 t499 t500 t501 t502 w _ ?side1 ?side2 A80.out HG_.out).mono ?_); (case side1 => exact hI HI457); (case side2 => exact bB); rintro e w81 ⟨rfl, hi, hb, hk⟩; refine ⟨_, rfl, ?_⟩; replace BK453 := Mk (kblk hk BK453 NB453_457); replace HB := Mk (hb); replace HI457 := Mk (hi); clear hb hk hi; have hnb82 := NB453_457.out; have hnc82 := NB457_453.out; obtain ⟨_, _, _, _, _, _, _, _, _, _, _, _, _, _, _, _, _, _, _, _, _, _, _, _, _, _⟩ := z13 BK453))
        go_meet
        case rel => exact ⟨_, (t499), (([] : List (List (S25)))), (t500), (t501), (t502), (.slice none 0 0), H', ⟨by have := HJ5.out; first | omega | exact Nat.le_refl _⟩, ⟨by first | exact Kd.S_nil _ _ _ _ _ | exact Kd.N_nil _ _ _ _ _ | exact Kd.V_nil _ _ _ _ _ | exact Kd.Q_nil _ _ _ _ _ | exact Kd.R_nil _ _ _ _ _⟩, ⟨by (with_reducible repeat refine bU ?_); refine blk_put (cs := #[.int .i64 (wrap64 (t461 + 1)), .int .i64 0, .slice none 0 0, .int .i64 0, .int .i64 0, .int .i64 0, .int .i64 0, .string (⟨#[]⟩ : ByteArray), .complex .f64 0 0, .complex .f64 0 0, .complex .f64 0 0, .slice none 0 0, .slice none 0 0]) ?_ 1 _ rfl; (with_reducible repeat refine bU ?_); exact BK453.out⟩, ⟨hI HI457⟩, ⟨bB⟩⟩
       ·rw [if_neg c79] at H
        have c79b0 := beq_eq_false_iff_ne.mpr c79
        have c79b1 := bne_iff_ne.mpr c79
        by_cases c84 : (wrap64 (t461 + 1)) = 3
        ·rw [if_pos c84] at H
         have c84b0 := beq_iff_eq.mpr c84
         have c84b1 := bne_eq_false_iff_eq.mpr c84
         clear c84
         replace H := Option.bind_eq_some_iff.mp H
         obtain ⟨⟨t503, t504, t505, t506⟩, A850, H⟩ := H
         try dsimp only at H
         have A85 := Mk A850
         clear A850
         have H' := Mk H
         clear H
         go_wp2_with (first | ((with_reducible refine gate_callee (f := 34) rfl ?_); refine goesL_ (some 51) rfl rfl Tryz.func34 kR rfl #[.pointer (some ⟨gb457, 0, none⟩)] rfl mA ?_; (with_reducible refine (req_reader_number.calls kj5 gb457 a0 ji3 0 t503 t504 t505 t506 w _ ?side1 ?side2 A85.out HG_.out).mono ?_); (case side1 => exact hI HI457); (case side2 => exact bB); rintro e w86 ⟨rfl, hi, hb, hk⟩; refine ⟨_, rfl, ?_⟩; replace BK453 := Mk (kblk hk BK453 NB453_457); replace HB := Mk (hb); replace HI457 := Mk (hi); clear hb hk hi; have hnb87 := NB453_457.out; have hnc87 := NB457_453.out; obtain ⟨_, _, _, _, _, _, _, _, _, _, _, _, _, _, _, _, _, _, _, _, _, _, _, _, _, _⟩ := z13 BK453))
         go_meet
         case rel => exact ⟨_, (t503), (([] : List (List (S25)))), (t504), (t505), (t506), (.slice none 0 0), H', ⟨by have := HJ5.out; first | omega | exact Nat.le_refl _⟩, ⟨by first | exact Kd.S_nil _ _ _ _ _ | exact Kd.N_nil _ _ _ _ _ | exact Kd.V_nil _ _ _ _ _ | exact Kd.Q_nil _ _ _ _ _ | exact Kd.R_nil _ _ _ _ _⟩, ⟨by (with_reducible repeat refine bU ?_); refine blk_put (cs := #[.int .i64 (wrap64 (t461 + 1)), .int .i64 0, .slice none 0 0, .int .i64 0, .int .i64 0, .int .i64 0, .int .i64 0, .string (⟨#[]⟩ : ByteArray), .complex .f64 0 0, .complex .f64 0 0, .complex .f64 0 0, .slice none 0 0, .slice none 0 0]) ?_ 1 _ rfl; (with_reducible repeat refine bU ?_); exact BK453.out⟩, ⟨hI HI457⟩, ⟨bB⟩⟩
        ·rw [if_neg c84] at H
         have c84b0 := beq_eq_false_iff_ne.mpr c84
         have c84b1 := bne_iff_ne.mpr c84
         have H' := Mk H
         clear H
         go_wp2
         go_meet
         case rel => exact ⟨_, (0), (([] : List (List (S25)))), (a0), (ji3), (0), (.slice none 0 0), H', ⟨by have := HJ5.out; first | omega | exact Nat.le_refl _⟩, ⟨by first | exact Kd.S_nil _ _ _ _ _ | exact Kd.N_nil _ _ _ _ _ | exact Kd.V_nil _ _ _ _ _ | exact Kd.Q_nil _ _ _ _ _ | exact Kd.R_nil _ _ _ _ _⟩, ⟨by (with_reducible repeat refine bU ?_); exact BK453.out⟩, ⟨hI HI457⟩, ⟨bB⟩⟩
    case rest =>
     clear HC21
     try clear c1
     try clear c2
     try clear p2
     try clear c3
     try clear p3
     try clear c4
     try clear c5
     try clear c6
     try clear p6
     try clear c7
     try clear c8
     try clear c11
     try clear c13
     try clear c13b0
     try clear c13b1
     try clear c14
     try clear c16
     try clear c18
     try clear c19
     try clear c20
     try clear c22
     try clear c24
     try clear c24b0
     try clear c24b1
     try clear c25
     try clear c27
     try clear c27b0
     try clear c27b1
     try clear c30
     try clear c30b0
     try clear c30b1
     try clear c33
     try clear c34
     try clear c35
     try clear c36
     try clear c45
     try clear c56
     try clear c56b0
     try clear c56b1
     try clear c59
     try clear p64
     try clear c67
     try clear c73
     try clear c73b0
     try clear c73b1
     try clear c77
     try clear c79
     try clear c79b0
     try clear c79b1
     try clear c82
     try clear c84
     try clear c84b0
     try clear c84b1
     try clear c87
     try clear p2
     try clear p6
     obtain ⟨kq, x454001_20, x454012_20, x458000_20, x458001_20, x458002_20, u454012, HA, HJ20, HO_454012, BK453, HI457, HB⟩ := hcut
     cases kq with
     | zero => exact absurd HA.out (by simp [req_Parse.j1])
     | succ kj20 =>
      have H := HA.out
      clear HA
      simp only [req_Parse.j1] at H
      replace H := Option.bind_eq_some_iff.mp H
      obtain ⟨⟨t507, t508, t509, t510⟩, A890, H⟩ := H
      try dsimp only at H
      have A89 := Mk A890
      clear A890
      by_cases c90 : t507 = 0
      ·rw [if_pos c90] at H
       have c90b0 := beq_iff_eq.mpr c90
       have c90b1 := bne_eq_false_iff_eq.mpr c90
       clear c90
       simp only [Option.some.injEq, Prod.mk.injEq] at H
       obtain ⟨rfl, rfl, rfl, rfl, rfl, rfl, rfl, rfl, rfl, rfl, rfl, rfl, rfl, rfl⟩ := H
       go_wp2
       go_step3
       refine hG_ 2 _ _ _ (by rfl) ?_
       go_wp2_with (first | ((with_reducible refine gate_callee (f := 25) rfl ?_); refine goesL_ (some 67) rfl rfl Tryz.func25 kR rfl #[.pointer (some ⟨gb457, 0, none⟩)] rfl mA ?_; (with_reducible refine (req_reader_end.calls gb457 x458000_20 x458001_20 x458002_20 t507 t508 t509 t510 w _ ?side1 ?side2 A89.out).mono ?_); (case side1 => exact hI HI457); (case side2 => exact bB); rintro e w91 ⟨rfl, hi, hb, hk⟩; refine ⟨_, rfl, ?_⟩; replace HO_454012 := Mk (Kd.S_mono (Kd.S_keep (IsS64.apartS (show IsS64 w _ gb457 x458000_20 x458001_20 x458002_20 from hI HI457) (sU HO_454012) (by decide)) hk (fun _ h => h.2)) (fun _ h => h.1)); replace BK453 := Mk (kblk hk BK453 NB453_457); replace HB := Mk (hb); replace HI457 := Mk (hi); clear hb hk hi; have hnb92 := NB453_457.out; have hnc92 := NB457_453.out; obtain ⟨_, _, _, _, _, _, _, _, _, _, _, _, _, _, _, _, _, _, _, _, _, _, _, _, _, _⟩ := z13 BK453; obtain ⟨Ao94, co94, eo94⟩ := Kd.S_slice HO_454012.out; subst eo94))
       try rw [labs_ret]
       refine bodyPost_ret (results_ct rfl _ _ gb453 38 #[.int .i64 (wrap64 (t461 + 1)), .int .i64 x454001_20, .slice none 0 0, .int .i64 0, .int .i64 0, .int .i64 0, .int .i64 0, .string (⟨#[]⟩ : ByteArray), .complex .f64 0 0, .complex .f64 0 0, .complex .f64 0 0, .slice none 0 0, .slice Ao94 x454012_20.length co94] (0, 0) _ rfl (bP BK453) Tryz.underlying38 rfl kR) rfl ?_
       exact ⟨_, _, _, by first | rfl | (simp [errW_none, errW_some] <;> rfl) | (simp only [← hji3]; first | rfl | (simp [errW_none, errW_some] <;> rfl)) | (simp [*, errW_none, errW_some] <;> rfl), by first | exact Kd.R_nil _ _ _ _ _ | exact Kd.N_nil _ _ _ _ _ | exact Kd.V_nil _ _ _ _ _ | exact Kd.Q_nil _ _ _ _ _ | exact Kd.S_nil _ _ _ _ _, by first | exact Kd.R_nil _ _ _ _ _ | exact Kd.N_nil _ _ _ _ _ | exact Kd.V_nil _ _ _ _ _ | exact Kd.Q_nil _ _ _ _ _ | exact Kd.S_nil _ _ _ _ _, by (with_reducible repeat (first | apply Kd.S_alloc | apply Kd.S_drewN | apply Kd.S_drew)); exact Kd.S_mono (Kd.S_far (p := ⟨gb453, 12, none⟩) (Kd.S_far (p := ⟨gb453, 11, none⟩) (Kd.S_far (p := ⟨gb453, 10, none⟩) (Kd.S_far (p := ⟨gb453, 9, none⟩) (Kd.S_far (p := ⟨gb453, 8, none⟩) (Kd.S_far (p := ⟨gb453, 7, none⟩) (Kd.S_far (p := ⟨gb453, 6, none⟩) (Kd.S_far (p := ⟨gb453, 5, none⟩) (Kd.S_far (p := ⟨gb453, 4, none⟩) (Kd.S_far (p := ⟨gb453, 3, none⟩) (Kd.S_far (p := ⟨gb453, 2, none⟩) (Kd.S_far (p := ⟨gb453, 1, none⟩) (Kd.S_far (p := ⟨gb453, 0, none⟩) (Kd.S_types HO_454012.out BK453.out (by decide)) (fun _ hk => hk.2) (.int .i64 (wrap64 (t461 + 1)))) (fun _ hk => hk.2) (.int .i64 x454001_20)) (fun _ hk => hk.2) (.slice none 0 0)) (fun _ hk => hk.2) (.int .i64 0)) (fun _ hk => hk.2) (.int .i64 0)) (fun _ hk => hk.2) (.int .i64 0)) (fun _ hk => hk.2) (.int .i64 0)) (fun _ hk => hk.2) (.string (⟨#[]⟩ : ByteArray))) (fun _ hk => hk.2) (.complex .f64 0 0)) (fun _ hk => hk.2) (.complex .f64 0 0)) (fun _ hk => hk.2) (.complex .f64 0 0)) (fun _ hk => hk.2) (.slice none 0 0)) (fun _ hk => hk.2) (.slice Ao94 x454012_20.length co94)) (fun _ hk => trivial), bB⟩
      ·rw [if_neg c90] at H
       have c90b0 := beq_eq_false_iff_ne.mpr c90
       have c90b1 := bne_iff_ne.mpr c90
       simp only [Option.some.injEq, Prod.mk.injEq] at H
       obtain ⟨rfl, rfl, rfl, rfl, rfl, rfl, rfl, rfl, rfl, rfl, rfl, rfl, rfl, rfl⟩ := H
       go_wp2
       go_step3
       refine hG_ 2 _ _ _ (by rfl) ?_
       go_wp2_with (first | ((with_reducible refine gate_callee (f := 25) rfl ?_); refine goesL_ (some 67) rfl rfl Tryz.func25 kR rfl #[.pointer (some ⟨gb457, 0, none⟩)] rfl mA ?_; (with_reducible refine (req_reader_end.calls gb457 x458000_20 x458001_20 x458002_20 t507 t508 t509 t510 w _ ?side1 ?side2 A89.out).mono ?_); (case side1 => exact hI HI457); (case side2 => exact bB); rintro e w95 ⟨rfl, hi, hb, hk⟩; refine ⟨_, rfl, ?_⟩; replace HO_454012 := Mk (Kd.S_mono (Kd.S_keep (IsS64.apartS (show IsS64 w _ gb457 x458000_20 x458001_20 x458002_20 from hI HI457) (sU HO_454012) (by decide)) hk (fun _ h => h.2)) (fun _ h => h.1)); replace BK453 := Mk (kblk hk BK453 NB453_457); replace HB := Mk (hb); replace HI457 := Mk (hi); clear hb hk hi))
       go_step3
       have hnb96 := NB453_457.out
       have hnc96 := NB457_453.out
       obtain ⟨_, _, _, _, _, _, _, _, _, _, _, _, _, _, _, _, _, _, _, _, _, _, _, _, _, _⟩ := z13 BK453
       go_wp2
       try rw [labs_ret]
       refine bodyPost_ret (results_ct rfl _ _ gb453 38 #[.int .i64 0, .int .i64 0, .slice none 0 0, .int .i64 0, .int .i64 0, .int .i64 0, .int .i64 0, .string (⟨#[]⟩ : ByteArray), .complex .f64 0 0, .complex .f64 0 0, .complex .f64 0 0, .slice none 0 0, .slice none 0 0] (0, 0) _ rfl (bP BK453) Tryz.underlying38 rfl kR) rfl ?_
       exact ⟨_, _, _, by first | rfl | (simp [errW_none, errW_some] <;> rfl) | (simp only [← hji3]; first | rfl | (simp [errW_none, errW_some] <;> rfl)) | (simp [*, errW_none, errW_some] <;> rfl), by first | exact Kd.R_nil _ _ _ _ _ | exact Kd.N_nil _ _ _ _ _ | exact Kd.V_nil _ _ _ _ _ | exact Kd.Q_nil _ _ _ _ _ | exact Kd.S_nil _ _ _ _ _, by first | exact Kd.R_nil _ _ _ _ _ | exact Kd.N_nil _ _ _ _ _ | exact Kd.V_nil _ _ _ _ _ | exact Kd.Q_nil _ _ _ _ _ | exact Kd.S_nil _ _ _ _ _, by first | exact Kd.S_nil _ _ _ _ _ | exact Kd.N_nil _ _ _ _ _ | exact Kd.V_nil _ _ _ _ _ | exact Kd.Q_nil _ _ _ _ _ | exact Kd.R_nil _ _ _ _ _, bB⟩
end Go.Proofs.YtcpjlbdjnaaaiaaGreatDoor.PAll
