/- The walks of DelayMore, DelayRates, DelayExact. -/
import Derived.Test.YtfbcadfbmopnhaaLaw18
namespace Go.Proofs.Ytfbcadfbmopnhaa
open Go.RowKit Go.Lib
set_option linter.unusedVariables false

theorem delayMore_core (a0 b0 : Int) (m m' n k r more F X Y Z V : Nat) (hm : IntKind.u64.wrap a0 = m) (hm' : IntKind.u64.wrap b0 = m') (hn : (m : Int) % 1073741824 = n) (hk : (m' : Int) % 1073741824 = k) (ln : n < 1073741824) (lk : k < 1073741824)
    (hX : X ≤ 1000000000) (hY : Y ≤ 1000000000) (hXZ : X ≤ Z) (hYZ : Y ≤ Z) (hV : V ≤ X) (hZ : Z = 1000000000 ∨ ((Z : Int) == 1000000000) = false ∧ X + Y ≤ Z ∧ Z ≤ X + Y + 1)
    (cx : ∀ w, Calls Try.prog 13 #[.int .i64 n, .int .u64 r] w fun e w' => e = .returned (.int .u64 X) ∧ w = w')
    (cy : ∀ w, Calls Try.prog 13 #[.int .i64 k, .int .u64 r] w fun e w' => e = .returned (.int .u64 Y) ∧ w = w')
    (cz : ∀ w, Calls Try.prog 13 #[.int .i64 (n + k), .int .u64 r] w fun e w' => e = .returned (.int .u64 Z) ∧ w = w')
    (ca : ∀ w, Calls Try.prog 17 #[.int .u64 r, .int .u64 more] w fun e w' => e = .returned (.int .u64 F) ∧ w = w')
    (cv : ∀ w, Calls Try.prog 13 #[.int .i64 n, .int .u64 F] w fun e w' => e = .returned (.int .u64 V) ∧ w = w')
    (c0 : ∀ w, Calls Try.prog 13 #[.int .i64 0, .int .u64 r] w fun e w' => e = .returned (.int .u64 0) ∧ w = w')
    (cn : ∀ w, Calls Try.prog 13 #[.int .i64 (-n), .int .u64 r] w fun e w' => e = .returned (.int .u64 0) ∧ w = w')
    (cu : ∀ w, Calls Try.prog 13 #[.int .i64 n, .int .u64 18446744073709551615] w fun e w' => e = .returned (.int .u64 0) ∧ w = w') (w : World) :
    Calls Try.prog 4 #[.int .i64 a0, .int .i64 b0, .int .u64 r, .int .u64 more] w fun e w' => e = .returned (.bool true) ∧ w = w' := by
  have CX := Lib.hid cx
  have CY := Lib.hid cy
  have CZ := Lib.hid cz
  have CA := Lib.hid ca
  have CV := Lib.hid cv
  have C0 := Lib.hid c0
  have CN := Lib.hid cn
  have CU := Lib.hid cu
  clear cx cy cz ca cv c0 cn cu
  rcases hZ with rfl | ⟨z1, z2, z3⟩
  all_goals
    go_enter Try.func4, Try.ntmps4
    go_wp2_with fail
    refine (CX.out _).mono ?_; rintro e w' ⟨rfl, rfl⟩
    go_wp2_with fail
    refine (CY.out _).mono ?_; rintro e w' ⟨rfl, rfl⟩
    go_wp2_with fail
    refine (CZ.out _).mono ?_; rintro e w' ⟨rfl, rfl⟩
    go_wp2_with fail
    refine (CA.out _).mono ?_; rintro e w' ⟨rfl, rfl⟩
    go_wp2_with fail
    refine (awake18 _).mono ?_; rintro e w' ⟨rfl, rfl⟩
    go_wp2_with fail
    all_goals
      refine (CV.out _).mono ?_; rintro e w' ⟨rfl, rfl⟩
      go_wp2_with fail
      refine (C0.out _).mono ?_; rintro e w' ⟨rfl, rfl⟩
      go_wp2_with fail
      refine (CN.out _).mono ?_; rintro e w' ⟨rfl, rfl⟩
      go_wp2_with fail
      refine (CU.out _).mono ?_; rintro e w' ⟨rfl, rfl⟩
      go_wp2
      go_ret
      exact ⟨rfl, rfl⟩

theorem u64_conv (a : Int) (K : Nat) (hK : 0 < K) : ∃ m n : Nat, IntKind.u64.wrap a = m ∧ (m : Int) % K = n ∧ n < K :=
  ⟨(IntKind.u64.wrap a).toNat, (IntKind.u64.wrap a).toNat % K, by rw [IntKind.wrap_u64]; omega, by simp, Nat.mod_lt _ hK⟩

theorem delayMore_any (a0 b0 : Int) (r more : Nat) (hr : r < 18446744073709551616) (hm : more < 18446744073709551616) (w : World) :
    Calls Try.prog 4 #[.int .i64 a0, .int .i64 b0, .int .u64 r, .int .u64 more] w fun e w' => e = .returned (.bool true) ∧ w = w' := by
  obtain ⟨m, n, e1, e2, e3⟩ := u64_conv a0 1073741824 (by omega)
  obtain ⟨m', k, f1, f2, f3⟩ := u64_conv b0 1073741824 (by omega)
  have hF : satAdd r more < 18446744073709551616 := satAdd_lt
  have hF2 := satAdd_eq r more
  refine delayMore_core a0 b0 m m' n k r more (satAdd r more) (delayOf n r) (delayOf k r) (delayOf (n + k : Nat) r) (delayOf n (satAdd r more)) e1 f1 e2 f2 e3 f3
    (delayOf_le _ _) (delayOf_le _ _) (delayOf_mono (by omega)) (delayOf_mono (by omega)) (delayOf_anti (by omega) (by omega)) ?_
    (of_any _ _ (by omega) (by omega) hr) (of_any _ _ (by omega) (by omega) hr) (fun w => ?_) (radd_any r more hr hm) (of_any _ _ (by omega) (by omega) hF) (fun w => ?_) (fun w => ?_) (fun w => ?_) w
  · by_cases h : delayOf (n + k : Nat) r = 1000000000
    · exact .inl h
    · exact .inr ⟨by rw [beq_eq_false_iff_ne]; omega, delayOf_add h⟩
  · have h := of_any ((n + k : Nat) : Int) r (by omega) (by omega) hr w
    rw [show (((n + k : Nat) : Int)) = (n : Int) + k from by simp] at h ⊢
    exact h
  · have h := of_any 0 r (by omega) (by omega) hr w
    rw [show delayOf 0 r = 0 from by simp [delayOf]] at h
    exact h
  · have h := of_any (-(n : Int)) r (by omega) (by omega) hr w
    rw [show delayOf (-(n : Int)) r = 0 from by unfold delayOf; rw [if_pos (by omega)]] at h
    exact h
  · have h := of_any n 18446744073709551615 (by omega) (by omega) (by omega) w
    rw [show delayOf n 18446744073709551615 = 0 from by simp [delayOf]] at h
    exact h

theorem delayRates_core (s a b ri xi yi d dx dy : Int) (hri : 0 ≤ ri) (hx : a = 0 ∧ xi = 18446744073709551615 ∨ (a == 0) = false ∧ xi = a) (hy : b = 0 ∧ yi = 18446744073709551615 ∨ (b == 0) = false ∧ yi = b)
    (h1 : ri ≤ xi) (h2 : ri ≤ yi) (h3 : dx ≤ d) (h4 : dy ≤ d) (h5 : (ri != 0) = true) (hor : ri = xi ∨ (ri == xi) = false ∧ ri = yi)
    (cl : ∀ w, Calls Try.prog 15 #[.int .u64 a, .int .u64 b] w fun e w' => e = .returned (.int .u64 ri) ∧ w = w')
    (cm : ∀ w, Calls Try.prog 15 #[.int .u64 b, .int .u64 a] w fun e w' => e = .returned (.int .u64 ri) ∧ w = w')
    (cd : ∀ w, Calls Try.prog 13 #[.int .i64 s, .int .u64 ri] w fun e w' => e = .returned (.int .u64 d) ∧ w = w')
    (cx : ∀ w, Calls Try.prog 13 #[.int .i64 s, .int .u64 xi] w fun e w' => e = .returned (.int .u64 dx) ∧ w = w')
    (cy : ∀ w, Calls Try.prog 13 #[.int .i64 s, .int .u64 yi] w fun e w' => e = .returned (.int .u64 dy) ∧ w = w') (w : World) :
    Calls Try.prog 5 #[.int .u64 a, .int .u64 b, .int .i64 s] w fun e w' => e = .returned (.bool true) ∧ w = w' := by
  have CL := Lib.hid cl
  have CM := Lib.hid cm
  have CD := Lib.hid cd
  have CX := Lib.hid cx
  have CY := Lib.hid cy
  clear cl cm cd cx cy
  rcases hor with rfl | ⟨g1, rfl⟩ <;> rcases hx with ⟨rfl, rfl⟩ | ⟨x1, rfl⟩ <;> rcases hy with ⟨rfl, rfl⟩ | ⟨y1, rfl⟩
  all_goals first | (exfalso; simp at g1; done) | skip
  all_goals
    go_enter Try.func5, Try.ntmps5
    go_wp2_with fail
    refine (CL.out _).mono ?_; rintro e w' ⟨rfl, rfl⟩
    go_wp2_with fail
    refine (CD.out _).mono ?_; rintro e w' ⟨rfl, rfl⟩
    go_wp2_with fail
    refine (awake18 _).mono ?_; rintro e w' ⟨rfl, rfl⟩
    go_wp2_with fail
    refine (CM.out _).mono ?_; rintro e w' ⟨rfl, rfl⟩
    go_wp2_with fail
    refine (CX.out _).mono ?_; rintro e w' ⟨rfl, rfl⟩
    go_wp2_with fail
    refine (CY.out _).mono ?_; rintro e w' ⟨rfl, rfl⟩
    go_wp2
    go_ret
    exact ⟨rfl, rfl⟩

theorem delayOf_anti_int {s : Int} {r r' : Nat} (h : r ≤ r') (hr : r' ≤ 18446744073709551615) : delayOf s r' ≤ delayOf s r := by
  by_cases hs : s < 1
  · unfold delayOf; rw [if_pos hs, if_pos hs]; omega
  · obtain ⟨n, rfl⟩ := Int.eq_ofNat_of_zero_le (show 0 ≤ s from by omega)
    exact delayOf_anti h hr

theorem delayRates_any (s : Int) (a b : Nat) (hs : s ≤ 9223372036854775807) (hs' : -9223372036854775808 ≤ s) (ha : a < 18446744073709551616) (hb : b < 18446744073709551616) (w : World) :
    Calls Try.prog 5 #[.int .u64 a, .int .u64 b, .int .i64 s] w fun e w' => e = .returned (.bool true) ∧ w = w' := by
  have na : nz a = if a = 0 then 18446744073709551615 else a := rfl
  have nb : nz b = if b = 0 then 18446744073709551615 else b := rfl
  have hl : les a b = min (nz a) (nz b) := rfl
  have hl' : les b a = les a b := by unfold les; rw [Nat.min_comm]
  have la : nz a < 18446744073709551616 := by rw [na]; split <;> omega
  have lb : nz b < 18446744073709551616 := by rw [nb]; split <;> omega
  have pa : 0 < nz a := by rw [na]; split <;> omega
  have pb : 0 < nz b := by rw [nb]; split <;> omega
  refine delayRates_core s a b (les a b : Nat) (nz a : Nat) (nz b : Nat) (delayOf s (les a b) : Nat) (delayOf s (nz a) : Nat) (delayOf s (nz b) : Nat) (by omega) ?_ ?_ (by omega) (by omega) ?_ ?_ (by rw [bne_iff_ne]; omega) ?_
    (lesser_any a b ha hb) (fun w => ?_) (of_any s _ hs hs' (by omega)) (of_any s _ hs hs' la) (of_any s _ hs hs' lb) w
  · rcases Nat.eq_zero_or_pos a with h | h
    · rw [if_pos h] at na; exact .inl ⟨by omega, by omega⟩
    · rw [if_neg (by omega)] at na; exact .inr ⟨by rw [beq_eq_false_iff_ne]; omega, by omega⟩
  · rcases Nat.eq_zero_or_pos b with h | h
    · rw [if_pos h] at nb; exact .inl ⟨by omega, by omega⟩
    · rw [if_neg (by omega)] at nb; exact .inr ⟨by rw [beq_eq_false_iff_ne]; omega, by omega⟩
  · exact Int.ofNat_le.2 (delayOf_anti_int (by omega) (by omega))
  · exact Int.ofNat_le.2 (delayOf_anti_int (by omega) (by omega))
  · by_cases h : les a b = nz a
    · exact .inl (by omega)
    · exact .inr ⟨by rw [beq_eq_false_iff_ne]; omega, by omega⟩
  · have h := lesser_any b a hb ha w
    rw [hl'] at h
    exact h

theorem delayExact_core (n0 : Int) (m n r0 r k : Nat) (X : Int) (hm : IntKind.u64.wrap n0 = m) (hn : (m : Int) % 100000 = k) (hk : 1 + (k : Int) = n) (hr0 : (r0 : Int) % 1000000000 = r) (ln : n ≤ 100000) (ln0 : 0 < n) (lr : r < 1000000000)
    (hX : (n : Int) * 1000000000 = X) (hX' : IntKind.u64.wrap X = X) (Q : Int) (hQ : X.tdiv ((n : Int) + r) = Q) (hQ' : IntKind.u64.wrap Q = Q)
    (c1 : ∀ w, Calls Try.prog 13 #[.int .i64 n, .int .u64 (n + r)] w fun e w' => e = .returned (.int .u64 Q) ∧ w = w')
    (c2 : ∀ w, Calls Try.prog 13 #[.int .i64 n, .int .u64 n] w fun e w' => e = .returned (.int .u64 1000000000) ∧ w = w')
    (c3 : ∀ w, Calls Try.prog 13 #[.int .i64 n, .int .u64 1] w fun e w' => e = .returned (.int .u64 1000000000) ∧ w = w') (w : World) :
    Calls Try.prog 6 #[.int .i64 n0, .int .u64 r0] w fun e w' => e = .returned (.bool true) ∧ Grown w w' := by
  have C1 := Lib.hid c1
  have C2 := Lib.hid c2
  have C3 := Lib.hid c3
  clear c1 c2 c3
  have y : (((n : Int) + r) == 0) = false := by rw [beq_eq_false_iff_ne]; omega
  have w1 : IntKind.u64.wrap (n : Int) = n := by rw [IntKind.wrap_u64]; omega
  go_enter Try.func6, Try.ntmps6
  go_wp2_with fail
  go_quiet (first | (go_at_call 12; exact still (awake18 _)) | (go_at_call 13; first | with_reducible exact still (C1.out _) | with_reducible exact still (C2.out _) | with_reducible exact still (C3.out _)))
  go_wp2
  go_ret
  exact ⟨rfl, grown_drewN _ _⟩
end Go.Proofs.Ytfbcadfbmopnhaa
