/- page.Unwrap walked. -/
import Derived.Test.YtpaiigonagiemaaPg1
import Derived.OpenShut
namespace Go.Proofs.Ytpaiigonagiemaa.PAll
open Go.Proofs.Ytpaiigonagiemaa.Help
open Go.RowKit Go.Proofs.YtpaiigonagiemaaW.PrintWords Go.Proofs.YtpaiigonagiemaaW.PrintLast Go.Proofs.YtpaiigonagiemaaW.PrintMore
open Go.Proofs.Ytpaiigonagiemaa.Num (isB enc gd psz crc g4 unwrapB wrapB isB_drop isB_take sum_eq get_eq get4_eq size_eq enc_len2 psz_fits gd_back wrap_eq wrap_long size_out)
set_option linter.unusedVariables false
set_option linter.unusedSimpArgs false
theorem nz_call (x : Int) (W : World) : Calls Try.prog 35 #[.int .u8 x] W fun e w' => e = .returned (.bool (x != 0)) ∧ Below W.heap.size W w' := by
  go_enter Try.func35, Try.ntmps35
  go_wp2
  all_goals (go_ret; exact ⟨by simp, by first | exact Below.refl _ _ | exact (Below.refl _ _).alloc (Nat.le_refl _) _⟩)
theorem C_at {w : World} {A : Option Addr} {l : List Int} (h : Kd.C (Kd.int .u8) w A l.length l) {j : Nat} (hj : j < l.length) : ∃ ad, A = some ad ∧ ∀ w', Below w.heap.size w w' → w'.cell? (ad.add j) = some (.int .u8 (l[j]'hj)) := at_byte_later h hj
set_option maxHeartbeats 2000000 in
theorem index_nz (A0 : Option Addr) (c0 : Nat) (l0 : List Int) (w : World) (hr0 : Kd.C (Kd.int .u8) w A0 l0.length l0) :
    Calls Try.prog 50 #[.slice A0 l0.length c0, .func (.func 35) #[] #[]] w fun e w' => ∃ r : Int, e = .returned (.int .i64 r) ∧ (decide (r ≥ 0) = l0.any (· != 0)) ∧ Below w.heap.size w w' := by
  have hL : l0.length ≤ 9223372036854775807 := hr0.2.1
  have HR0 := Aside0.mk hr0
  clear hr0
  go_enter Try.func50, Try.ntmps50
  go_wp2
  go_loopg [5, 8] l0.length (fun gg _ s8 wr => ∃ kk : Nat, kk ≤ l0.length ∧ l0.length - kk ≤ gg ∧ s8 = .int .i64 kk ∧ Aside0 (Below w.heap.size w wr) ∧ Aside0 ((l0.take kk).any (· != 0) = false))
  case atStart => exact ⟨0, Nat.zero_le _, by omega, rfl, ⟨Below.refl _ w⟩, ⟨by simp⟩⟩
  case round =>
    obtain ⟨kk, hkk, hg, rfl, BW, A⟩ := hrel
    by_cases hlt : kk < l0.length
    · have hltz : (kk : Int) < (l0.length : Int) := by omega
      obtain ⟨ad, rfl, hce⟩ := C_at HR0.out hlt
      have hx0 := hce _ BW.out
      have htk : l0.take (kk + 1) = l0.take kk ++ [l0[kk]'hlt] := by simp
      have hme := List.getElem_mem hlt
      generalize l0[kk]'hlt = y at *
      have HT := Aside0.mk htk
      have HM := Aside0.mk hme
      have hcall := nz_call y wr
      clear htk hme hce
      cases hq : (y != 0) with
      | true =>
        rw [hq] at hcall
        go_wp2_with (go_at_call 35; refine hcall.mono ?_; rintro e w' ⟨rfl, hb'⟩)
        go_ret
        refine ⟨_, rfl, ?_, below_step BW.out hb'⟩
        rw [List.any_eq_true.2 ⟨y, HM.out, hq⟩]
        simp
      | false =>
        rw [hq] at hcall
        go_wp2_with (go_at_call 35; refine hcall.mono ?_; rintro e w' ⟨rfl, hb'⟩)
        go_roundg (l0.length - (kk + 1))
        case measure => omega
        case rel => exact ⟨kk + 1, by omega, by omega, by go_num, ⟨below_step BW.out hb'⟩, ⟨by rw [HT.out, List.any_append, A.out]; simp [hq]⟩⟩
    · have hltz : ¬ (kk : Int) < (l0.length : Int) := by omega
      have : kk = l0.length := by omega
      subst this
      have hA := A.out
      rw [List.take_length] at hA
      go_wp2
      go_ret
      exact ⟨-1, rfl, by first | (rw [hA]; rfl) | decide | simp, BW.out⟩
theorem contains_nz (A0 : Option Addr) (c0 : Nat) (l0 : List Int) (w : World) (hr0 : Kd.C (Kd.int .u8) w A0 l0.length l0) :
    Calls Try.prog 34 #[.slice A0 l0.length c0, .func (.func 35) #[] #[]] w fun e w' => e = .returned (.bool (l0.any (· != 0))) ∧ Below w.heap.size w w' := by
  have hi := index_nz A0 c0 l0 w hr0
  go_enter Try.func34, Try.ntmps34
  go_wp2_with (go_at_call 50; refine hi.mono ?_; rintro e w' ⟨r, rfl, hr, hB⟩)
  go_ret
  exact ⟨by rw [← hr]; rfl, hB⟩
/-- What is decoded is a number, of so many bytes. -/
theorem gd_spec {s : List Int} (hB : isB s) {U N : Int} (h : gd 0 0 s = (U, N, 0)) : ∃ v : Nat, U = (v : Int) ∧ N = ((enc v).length : Int) ∧ (enc v).length ≤ s.length ∧ s.take (enc v).length = enc v ∧ v < 18446744073709551616 := by
  obtain ⟨v, h1, h2, h3, h4, h5, _⟩ := gd_back s 0 0 U N hB (by omega) h (by decide)
  exact ⟨v, by rw [h1]; simp, by rw [h2]; simp, h3, h4, by simpa using h5⟩
set_option maxRecDepth 100000 in
set_option maxHeartbeats 4000000 in
theorem page_unwrap (A0 : Option Addr) (c0 : Nat) (b : List Int) (w : World) (hr0 : Kd.C (Kd.int .u8) w A0 b.length b) (hc0 : b.length ≤ c0) (hB : isB b) (hlb : b.length ≤ 100000) :
    Calls Try.prog 14 #[.slice A0 b.length c0] w fun e w' => ∃ v0_ : Value, e = .returned (.tuple #[v0_, .int .i64 (unwrapB b).2]) ∧ Kd.R (Kd.int .u8) 5 w' w.heap.size (fun _ => True) v0_ (unwrapB b).1 ∧ Below w.heap.size w w' := by
  have hm : ((b.length : Int).tmod 64) = ((b.length % 64 : Nat) : Int) := by rw [Int.tmod_eq_emod_of_nonneg (by omega)]; omega
  by_cases hbad : b.length = 0 ∨ b.length % 64 ≠ 0
  · have hu : unwrapB b = ([], 12) := by unfold unwrapB; rw [if_pos hbad]
    rw [hu]
    by_cases h0 : b.length = 0
    · go_enter Try.func14, Try.ntmps14
      go_wp2
      all_goals first | (exfalso; omega) | skip
      all_goals (go_ret2; exact ⟨_, rfl, Kd.R_nil _ _ _ _ _, Below.refl _ _⟩)
    · obtain ⟨r, hr⟩ : ∃ r : Nat, r = b.length % 64 := ⟨_, rfl⟩
      rw [← hr] at hm
      have hr0' : ¬ r = 0 := by omega
      have h1 : ((r : Int) != 0) = true := by rw [bne_iff_ne]; omega
      clear hr hbad
      have h2 : decide ((b.length : Int) = 0) = false := decide_eq_false (by omega)
      go_enter Try.func14, Try.ntmps14
      go_wp2
      all_goals first | (exfalso; omega) | skip
      all_goals (go_ret2; exact ⟨_, rfl, Kd.R_nil _ _ _ _ _, Below.refl _ _⟩)
  · have hn0 : ¬ b.length = 0 := by omega
    have hm0 : b.length % 64 = 0 := by omega
    have h64 : 64 ≤ b.length := by omega
    rw [hm0] at hm
    have HR0 := Aside0.mk hr0
    have HC0 := Aside0.mk hc0
    obtain ⟨i0, hi0, _, hsz0, _⟩ := info_parts info5
    have HI0 := Aside0.mk hi0
    have HSZ0 := Aside0.mk hsz0
    obtain ⟨A4, hcut4, hA4, hC4⟩ := print_drop_of (P := Try.prog) (Value.int .u8) 0 22 5 .i64 Try.underlying22 hi0 hsz0 A0 c0 b 4 (by omega) (by omega) hc0
    have hR4 := Kd.C_of_reads (h1 := fun _ => rfl) (hA4 _ (Kd.reads_of_C hr0))
    have ht4 : (4 : Int).toNat = 4 := rfl
    rw [ht4] at hcut4 hR4 hC4
    have HR4 : Aside0 (Kd.C (Kd.int .u8) w A4 (b.drop 4).length (b.drop 4)) := ⟨hR4⟩
    have HC4 := Aside0.mk hC4
    clear hA4 hR4 hC4
    obtain ⟨k, hk⟩ : ∃ k, k = 2000000 := ⟨_, rfl⟩
    have hg4 := get4_eq (l := b) (a := 0) k hB (by omega) (by omega) (by omega) (by omega)
    have hgt := get_eq (l := b) (a := 4) k hB (by omega) (by omega) (by omega) (by omega)
    have hsm := sum_eq (l := b.drop 4) k (isB_drop hB 4) (by rw [List.length_drop]; omega) (by rw [List.length_drop]; omega)
    rw [ht4] at hgt
    obtain ⟨s, t1, t2, hs⟩ : ∃ s t1 t2, g4 b 0 = (s, t1, t2) := ⟨_, _, _, rfl⟩
    obtain ⟨U, N, e, hu⟩ : ∃ U N e, gd 0 0 (b.drop 4) = (U, N, e) := ⟨_, _, _, rfl⟩
    obtain ⟨cr, hcr⟩ : ∃ c, c = crc (b.drop 4) := ⟨_, rfl⟩
    rw [hs] at hg4
    rw [hu] at hgt
    rw [← hcr] at hsm
    have G4 := Aside0.mk hg4
    have GT := Aside0.mk hgt
    have SM := Aside0.mk hsm
    have hun : unwrapB b = if s ≠ cr ∨ e ≠ 0 ∨ 8192 < U ∨ Num.psz U.toNat * 64 ≠ b.length then ([], 12) else if (b.drop (4 + N.toNat + U.toNat)).any (· != 0) then ([], 12) else ((b.take (4 + N.toNat + U.toNat)).drop (4 + N.toNat), 0) := by
      unfold unwrapB
      rw [if_neg hbad, hs, hu, hcr]
    have hql : (b.drop 4).length = b.length - 4 := List.length_drop
    have hqB := isB_drop hB 4
    generalize b.drop 4 = q at *
    have HQL := Aside0.mk hql
    have HQB := Aside0.mk hqB
    have HUN := Aside0.mk hun
    have HU := Aside0.mk hu
    have HBB := Aside0.mk hB
    have KK := Aside0.mk hk
    clear hg4 hgt hsm hs hcr hun hu hr0 hc0 hbad hi0 hsz0 hB hk hql hqB
    by_cases hsc : s = cr
    · subst hsc
      by_cases he : e = 0
      · subst he
        obtain ⟨v, rfl, rfl, hvl, hvt, hv64⟩ := gd_spec HQB.out HU.out
        by_cases hU : v ≤ 8192
        · have hU2 : decide ((8192 : Int) < (v : Int)) = false := by simp; omega
          have hsn : (s != s) = false := by simp
          have hwv : IntKind.i64.wrap (v : Int) = (v : Int) := wrapI (by omega) (by omega)
          have hps := psz_fits v
          have hp2 : Num.psz v ≤ 130 := by have := enc_len2 hU; unfold Num.psz; omega
          have hsz := size_eq hU k (by have := KK.out; omega)
          have SZ := Aside0.mk hsz
          obtain ⟨z, hz⟩ : ∃ z, z = Num.psz v := ⟨_, rfl⟩
          obtain ⟨m, hmm⟩ : ∃ m, m = (enc v).length := ⟨_, rfl⟩
          have hm2 : m ≤ 2 := by rw [hmm]; exact enc_len2 hU
          rw [← hz, ← hmm] at hps
          rw [← hz] at SZ hp2
          rw [← hmm] at GT
          have hun2 := HUN.out
          rw [← hmm, Int.toNat_natCast, Int.toNat_natCast, ← hz] at hun2
          have HU2 := Aside0.mk hun2
          have hw64 : IntKind.i64.wrap ((z : Int) * 64) = (z : Int) * 64 := wrapI (by omega) (by omega)
          clear hsz hun2 HUN HU hz hmm hvl hvt hv64
          by_cases hzl : z * 64 = b.length
          · have hzn : ((z : Int) * 64 != (b.length : Int)) = false := by rw [bne_eq_false_iff_eq]; omega
            have hw4 : IntKind.i64.wrap (4 + (m : Int)) = 4 + (m : Int) := wrapI (by omega) (by omega)
            have hw5 : IntKind.i64.wrap (4 + (m : Int) + (v : Int)) = 4 + (m : Int) + (v : Int) := wrapI (by omega) (by omega)
            obtain ⟨A5, hcut5, hA5, hC5⟩ := print_drop_of (P := Try.prog) (Value.int .u8) 0 22 5 .i64 Try.underlying22 HI0.out HSZ0.out A0 c0 b (4 + (m : Int) + (v : Int)) (by omega) (by omega) HC0.out
            have hR5 := Kd.C_of_reads (h1 := fun _ => rfl) (hA5 _ (Kd.reads_of_C HR0.out))
            obtain ⟨A6, hcut6, hA6, hC6⟩ := print_mid_of (P := Try.prog) (Value.int .u8) 0 22 5 .i64 .i64 Try.underlying22 HI0.out HSZ0.out A0 c0 b (4 + (m : Int)) (4 + (m : Int) + (v : Int)) (by omega) (by omega) (by omega) HC0.out
            have hR6 := Kd.C_of_reads (h1 := fun _ => rfl) (hA6 _ (Kd.reads_of_C HR0.out))
            have ht1 : (4 + (m : Int) + (v : Int)).toNat = 4 + m + v := by omega
            have ht2 : (4 + (m : Int)).toNat = 4 + m := by omega
            rw [ht1] at hcut5 hR5 hC5
            rw [ht1, ht2] at hcut6 hR6 hC6
            obtain ⟨x5, hx5⟩ : ∃ x, x = b.drop (4 + m + v) := ⟨_, rfl⟩
            obtain ⟨x6, hx6⟩ : ∃ x, x = (b.take (4 + m + v)).drop (4 + m) := ⟨_, rfl⟩
            have hx6l : x6.length ≤ 100000 := by rw [hx6, List.length_drop, List.length_take]; omega
            rw [← hx5] at hcut5 hR5 hC5
            rw [← hx6] at hcut6 hR6 hC6
            have hu3 := HU2.out
            rw [← hx5, ← hx6] at hu3
            have HU3 := Aside0.mk hu3
            have HR5 : Aside0 (Kd.C (Kd.int .u8) w A5 x5.length x5) := ⟨hR5⟩
            have HR6 : Aside0 (Kd.C (Kd.int .u8) w A6 x6.length x6) := ⟨hR6⟩
            have HC6 := Aside0.mk hC6
            have HX6 := Aside0.mk hx6l
            clear hA5 hA6 hR5 hR6 hC5 hC6 hx5 hx6 hu3 HU2 hx6l ht1 ht2 hps hp2
            have hcl : Aside0 (slices_Clone_byte_byte.f x6 = some x6) := ⟨by unfold slices_Clone_byte_byte.f; rw [if_pos (by have := HX6.out; omega)]⟩
            cases hany : x5.any (· != 0) with
            | true =>
              have HAny := Aside0.mk hany
              clear hany
              go_enter Try.func14, Try.ntmps14
              go_wp2_with (first
                | (go_at_call 32; (with_reducible refine (num_Get4.calls k _ _ b 0 s t1 t2 _ HR0.out HC0.out G4.out).mono ?_); rintro e1 w' ⟨rfl, ⟨nd, rfl⟩⟩)
                | (go_at_call 33; (with_reducible refine (num_Get.calls k _ _ b 4 _ _ _ _ (Kd.C_drewN HR0.out _) HC0.out GT.out).mono ?_); rintro e1 w' ⟨rfl, ⟨nd2, rfl⟩⟩)
                | (go_at_call 28; (with_reducible refine (num_Sum.calls k _ _ q _ _ (Kd.C_drewN HR4.out _) HC4.out SM.out).mono ?_); rintro e1 w' ⟨rfl, ⟨nd3, rfl⟩⟩)
                | (go_at_call 12; (with_reducible refine (page_Size.calls k _ _ _ SZ.out).mono ?_); rintro e1 w3 ⟨rfl, hbz⟩; have HBz : Aside0 (Below w.heap.size w w3) := ⟨below_step (pw_below_drewN (Below.refl _ _) _) hbz⟩; clear hbz)
                | (go_at_call 34; refine (contains_nz _ _ x5 _ (Kd.C_below HR5.out HBz.out)).mono ?_; rw [HAny.out]; rintro e1 w4 ⟨rfl, hbx⟩; have HBx : Aside0 (Below w.heap.size w w4) := ⟨below_step HBz.out hbx⟩; clear hbx)
                | (go_at_call 36; refine (slices_Clone_byte_byte.calls _ _ x6 x6 _ (Kd.C_below HR6.out HBx.out) HC6.out hcl.out).mono ?_; rintro e1 w5 ⟨v9, rfl, ho, hby⟩; have HO := Aside0.mk ho; have HBy := Aside0.mk hby; clear ho hby)
                | fail)
              all_goals first | (exfalso; omega) | skip
              all_goals go_ret2
              all_goals (rw [HU3.out, if_neg (by simp [hzl]; omega), if_pos HAny.out]; exact ⟨_, rfl, Kd.R_nil _ _ _ _ _, HBx.out⟩)
            | false =>
              have HAny := Aside0.mk hany
              clear hany
              go_enter Try.func14, Try.ntmps14
              go_wp2_with (first
                | (go_at_call 32; (with_reducible refine (num_Get4.calls k _ _ b 0 s t1 t2 _ HR0.out HC0.out G4.out).mono ?_); rintro e1 w' ⟨rfl, ⟨nd, rfl⟩⟩)
                | (go_at_call 33; (with_reducible refine (num_Get.calls k _ _ b 4 _ _ _ _ (Kd.C_drewN HR0.out _) HC0.out GT.out).mono ?_); rintro e1 w' ⟨rfl, ⟨nd2, rfl⟩⟩)
                | (go_at_call 28; (with_reducible refine (num_Sum.calls k _ _ q _ _ (Kd.C_drewN HR4.out _) HC4.out SM.out).mono ?_); rintro e1 w' ⟨rfl, ⟨nd3, rfl⟩⟩)
                | (go_at_call 12; (with_reducible refine (page_Size.calls k _ _ _ SZ.out).mono ?_); rintro e1 w3 ⟨rfl, hbz⟩; have HBz : Aside0 (Below w.heap.size w w3) := ⟨below_step (pw_below_drewN (Below.refl _ _) _) hbz⟩; clear hbz)
                | (go_at_call 34; refine (contains_nz _ _ x5 _ (Kd.C_below HR5.out HBz.out)).mono ?_; rw [HAny.out]; rintro e1 w4 ⟨rfl, hbx⟩; have HBx : Aside0 (Below w.heap.size w w4) := ⟨below_step HBz.out hbx⟩; clear hbx)
                | (go_at_call 36; refine (slices_Clone_byte_byte.calls _ _ x6 x6 _ (Kd.C_below HR6.out HBx.out) HC6.out hcl.out).mono ?_; rintro e1 w5 ⟨v9, rfl, ho, hby⟩; have HO := Aside0.mk ho; have HBy := Aside0.mk hby; clear ho hby)
                | fail)
              all_goals first | (exfalso; omega) | skip
              all_goals go_ret2
              all_goals (rw [HU3.out, if_neg (by simp [hzl]; omega), if_neg (by rw [HAny.out]; decide)]; exact ⟨_, rfl, Kd.R_lower HO.out HBx.out.size, below_step HBx.out HBy.out⟩)
          · have hzn : ((z : Int) * 64 != (b.length : Int)) = true := by rw [bne_iff_ne]; omega
            go_enter Try.func14, Try.ntmps14
            go_wp2_with (first
                | (go_at_call 32; (with_reducible refine (num_Get4.calls k _ _ b 0 s t1 t2 _ HR0.out HC0.out G4.out).mono ?_); rintro e1 w' ⟨rfl, ⟨nd, rfl⟩⟩)
                | (go_at_call 33; (with_reducible refine (num_Get.calls k _ _ b 4 _ _ _ _ (Kd.C_drewN HR0.out _) HC0.out GT.out).mono ?_); rintro e1 w' ⟨rfl, ⟨nd2, rfl⟩⟩)
                | (go_at_call 28; (with_reducible refine (num_Sum.calls k _ _ q _ _ (Kd.C_drewN HR4.out _) HC4.out SM.out).mono ?_); rintro e1 w' ⟨rfl, ⟨nd3, rfl⟩⟩)
                | (go_at_call 12; (with_reducible refine (page_Size.calls k _ _ _ SZ.out).mono ?_); rintro e1 w3 ⟨rfl, hbz⟩; have HBz : Aside0 (Below w.heap.size w w3) := ⟨below_step (pw_below_drewN (Below.refl _ _) _) hbz⟩; clear hbz)
                | fail)
            all_goals first | (exfalso; omega) | skip
            all_goals go_ret2
            all_goals (rw [HU2.out, if_pos (.inr (.inr (.inr hzl)))]; exact ⟨_, rfl, Kd.R_nil _ _ _ _ _, HBz.out⟩)
        · have hU2 : decide ((8192 : Int) < (v : Int)) = true := by simp; omega
          have hsn : (s != s) = false := by simp
          go_enter Try.func14, Try.ntmps14
          go_wp2_with (first
        | (go_at_call 32; (with_reducible refine (num_Get4.calls k _ _ b 0 s t1 t2 _ HR0.out HC0.out G4.out).mono ?_); rintro e1 w' ⟨rfl, ⟨nd, rfl⟩⟩)
        | (go_at_call 33; (with_reducible refine (num_Get.calls k _ _ b 4 _ _ _ _ (Kd.C_drewN HR0.out _) HC0.out GT.out).mono ?_); rintro e1 w' ⟨rfl, ⟨nd2, rfl⟩⟩)
        | (go_at_call 28; (with_reducible refine (num_Sum.calls k _ _ q _ _ (Kd.C_drewN HR4.out _) HC4.out SM.out).mono ?_); rintro e1 w' ⟨rfl, ⟨nd3, rfl⟩⟩)
        | fail)
          all_goals first | (exfalso; omega) | skip
          all_goals go_ret2
          all_goals (rw [HUN.out, if_pos (.inr (.inr (.inl (by omega))))]; exact ⟨_, rfl, Kd.R_nil _ _ _ _ _, pw_below_drewN (Below.refl _ _) _⟩)
      · have he2 : (e != 0) = true := by simp; omega
        have hsn : (s != s) = false := by simp
        go_enter Try.func14, Try.ntmps14
        go_wp2_with (first
        | (go_at_call 32; (with_reducible refine (num_Get4.calls k _ _ b 0 s t1 t2 _ HR0.out HC0.out G4.out).mono ?_); rintro e1 w' ⟨rfl, ⟨nd, rfl⟩⟩)
        | (go_at_call 33; (with_reducible refine (num_Get.calls k _ _ b 4 _ _ _ _ (Kd.C_drewN HR0.out _) HC0.out GT.out).mono ?_); rintro e1 w' ⟨rfl, ⟨nd2, rfl⟩⟩)
        | (go_at_call 28; (with_reducible refine (num_Sum.calls k _ _ q _ _ (Kd.C_drewN HR4.out _) HC4.out SM.out).mono ?_); rintro e1 w' ⟨rfl, ⟨nd3, rfl⟩⟩)
        | fail)
        all_goals first | (exfalso; omega) | skip
        all_goals go_ret2
        all_goals (rw [HUN.out, if_pos (.inr (.inl he))]; exact ⟨_, rfl, Kd.R_nil _ _ _ _ _, pw_below_drewN (Below.refl _ _) _⟩)
    · have hsn : (s != cr) = true := by simp; omega
      go_enter Try.func14, Try.ntmps14
      go_wp2_with (first
        | (go_at_call 32; (with_reducible refine (num_Get4.calls k _ _ b 0 s t1 t2 _ HR0.out HC0.out G4.out).mono ?_); rintro e1 w' ⟨rfl, ⟨nd, rfl⟩⟩)
        | (go_at_call 33; (with_reducible refine (num_Get.calls k _ _ b 4 _ _ _ _ (Kd.C_drewN HR0.out _) HC0.out GT.out).mono ?_); rintro e1 w' ⟨rfl, ⟨nd2, rfl⟩⟩)
        | (go_at_call 28; (with_reducible refine (num_Sum.calls k _ _ q cr _ (Kd.C_drewN HR4.out _) HC4.out SM.out).mono ?_); rintro e1 w' ⟨rfl, ⟨nd3, rfl⟩⟩)
        | fail)
      all_goals first | (exfalso; omega) | skip
      all_goals go_ret2
      all_goals (rw [HUN.out, if_pos (.inl hsc)]; exact ⟨_, rfl, Kd.R_nil _ _ _ _ _, pw_below_drewN (Below.refl _ _) _⟩)
end Go.Proofs.Ytpaiigonagiemaa.PAll
