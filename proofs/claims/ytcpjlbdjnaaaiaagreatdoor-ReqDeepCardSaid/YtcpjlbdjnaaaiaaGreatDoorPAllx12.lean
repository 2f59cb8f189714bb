import Derived.Test.YtcpjlbdjnaaaiaaGreatDoorPk
import Derived.Test.YtcpjlbdjnaaaiaaGreatDoorPAllx0
namespace Go.Proofs.YtcpjlbdjnaaaiaaGreatDoor.PAll
open Go.Proofs.YtcpjlbdjnaaaiaaGreatDoor.Help
open Go.RowKit Go.Proofs.YtcpjlbdjnaaaiaaGreatDoorW.PrintWords Go.Proofs.YtcpjlbdjnaaaiaaGreatDoorW.PrintLast Go.Proofs.YtcpjlbdjnaaaiaaGreatDoorW.PrintMore
set_option linter.unusedVariables false
set_option linter.unusedSimpArgs false
def req_words.f  : Option (List ByteArray) := some (([(⟨#[111, 112, 101, 110]⟩ : ByteArray), (⟨#[102, 101, 116, 99, 104]⟩ : ByteArray), (⟨#[115, 104, 117, 116]⟩ : ByteArray), (⟨#[97, 112, 112, 101, 110, 100]⟩ : ByteArray), (⟨#[99, 111, 117, 110, 116]⟩ : ByteArray)] : List ByteArray))
set_option maxHeartbeats 8000000 in
set_option maxRecDepth 100000 in
theorem req_words.calls  (r : List ByteArray) (w : World) (h : req_words.f  = some r) :
  Calls Tryz.prog 20 #[] w fun e w' => ∃ v0_ : Value, e = .returned (v0_) ∧ Kd.R Kd.string 9 w' w.heap.size (fun _ => True) v0_ r ∧ Below w.heap.size w w' := by
 have HB := Mk (Below.refl w.heap.size w)
 have H : (some (([(⟨#[111, 112, 101, 110]⟩ : ByteArray), (⟨#[102, 101, 116, 99, 104]⟩ : ByteArray), (⟨#[115, 104, 117, 116]⟩ : ByteArray), (⟨#[97, 112, 112, 101, 110, 100]⟩ : ByteArray), (⟨#[99, 111, 117, 110, 116]⟩ : ByteArray)] : List ByteArray))) = some r := h
 clear h
 obtain ⟨y190, hy190⟩ : ∃ y_ : List ByteArray, y_ = (([(⟨#[111, 112, 101, 110]⟩ : ByteArray), (⟨#[102, 101, 116, 99, 104]⟩ : ByteArray), (⟨#[115, 104, 117, 116]⟩ : ByteArray), (⟨#[97, 112, 112, 101, 110, 100]⟩ : ByteArray), (⟨#[99, 111, 117, 110, 116]⟩ : ByteArray)] : List ByteArray)) := ⟨_, rfl⟩
 replace H : (some y190) = some r := by first | (rw [hy190]; with_reducible exact H) | (have H2_ := (Option.bind_some _ _).symm.trans H; rw [hy190]; with_reducible exact H2_) | (have H2_ := (Option.bind_some _ _).symm.trans H; with_reducible exact H2_) | with_reducible exact H | (rw [hy190]; exact H) | exact H
 have Ny190 := Mk hy190
 clear hy190
 obtain rfl := Option.some.inj H
 go_enter Tryz.func20, Tryz.ntmps20
 go_wp2_with (first | ((with_reducible refine gate_dst (N := 1) rfl ?_); refine Kd.R_lit Kd.string _ 9 ?hg (N := 1) ?hd (xs := ([(⟨#[111, 112, 101, 110]⟩ : ByteArray), (⟨#[102, 101, 116, 99, 104]⟩ : ByteArray), (⟨#[115, 104, 117, 116]⟩ : ByteArray), (⟨#[97, 112, 112, 101, 110, 100]⟩ : ByteArray), (⟨#[99, 111, 117, 110, 116]⟩ : ByteArray)] : List ByteArray)) (inner := [.string (⟨#[111, 112, 101, 110]⟩ : ByteArray), .string (⟨#[102, 101, 116, 99, 104]⟩ : ByteArray), .string (⟨#[115, 104, 117, 116]⟩ : ByteArray), .string (⟨#[97, 112, 112, 101, 110, 100]⟩ : ByteArray), .string (⟨#[99, 111, 117, 110, 116]⟩ : ByteArray)]) (ok := fun _ => True) (okp := fun _ => True) ?hr ?hp (fun _ hk => hk) trivial (Below.refl _ _) (Nat.le_refl _) (by simp) ?_; (case hd => rfl); (case hg => rfl); (case hr => exact hR); (case hp => exact (Reps.one (show Kd.M Kd.string _ _ _ (⟨#[111, 112, 101, 110]⟩ : ByteArray) [.string (⟨#[111, 112, 101, 110]⟩ : ByteArray)] from rfl) (Reps.one (show Kd.M Kd.string _ _ _ (⟨#[102, 101, 116, 99, 104]⟩ : ByteArray) [.string (⟨#[102, 101, 116, 99, 104]⟩ : ByteArray)] from rfl) (Reps.one (show Kd.M Kd.string _ _ _ (⟨#[115, 104, 117, 116]⟩ : ByteArray) [.string (⟨#[115, 104, 117, 116]⟩ : ByteArray)] from rfl) (Reps.one (show Kd.M Kd.string _ _ _ (⟨#[97, 112, 112, 101, 110, 100]⟩ : ByteArray) [.string (⟨#[97, 112, 112, 101, 110, 100]⟩ : ByteArray)] from rfl) (Reps.one (show Kd.M Kd.string _ _ _ (⟨#[99, 111, 117, 110, 116]⟩ : ByteArray) [.string (⟨#[99, 111, 117, 110, 116]⟩ : ByteArray)] from rfl) (Reps.none _ _))))))); intro v191 w1 ho2 hb hg_ hnew_; clear hg_ hnew_; (first | rw [← Ny190.out] at ho2 | (simp only [Int.reduceToNat] at ho2; rw [← Ny190.out] at ho2)); have HO192 := Mk (Kd.R_lower ho2 (below_size bB)); replace HB := Mk (below_step bB hb); clear hb ho2))
 go_ret
 exact ⟨_, eW, by (repeat apply Rup); exact HO192.out, bB⟩
end Go.Proofs.YtcpjlbdjnaaaiaaGreatDoor.PAll
