/- The walk of SatEdges. -/
import Derived.Test.YtgdbmjokpbjoaaaLaw01
namespace Go.Proofs.Ytgdbmjokpbjoaaa
open Go.RowKit Go.Lib
set_option linter.unusedVariables false

theorem u64_conv (a : Int) (K : Nat) (hK : 0 < K) : ∃ m n : Nat, IntKind.u64.wrap a = m ∧ (m : Int) % K = n ∧ n < K :=
  ⟨(IntKind.u64.wrap a).toNat, (IntKind.u64.wrap a).toNat % K, by rw [IntKind.wrap_u64]; omega, by simp, Nat.mod_lt _ hK⟩

set_option maxHeartbeats 1000000 in
theorem satEdges_core (a m q n n' P P' : Nat) (k : Int) (la : a < 18446744073709551616) (em : IntKind.u64.wrap k = m) (eq : (m : Int) % 63 = q) (en : 1 + (q : Int) = n) (en' : (64 : Int) - n = n') (ln : n ≤ 64) (ln' : n' ≤ 64)
    (eP : IntKind.u64.wrap (2 ^ n) = (P : Int)) (eP' : IntKind.u64.wrap (2 ^ n') = (P' : Int))
    (c1 : ∀ w, Calls Try.prog 18 #[.int .u64 18446744073709551615, .int .u64 a] w fun e w' => e = .returned (.int .u64 18446744073709551615) ∧ w = w')
    (c2 : ∀ w, Calls Try.prog 20 #[.int .u64 0, .int .u64 a] w fun e w' => e = .returned (.int .u64 0) ∧ w = w')
    (c3 : ∀ w, Calls Try.prog 18 #[.int .u64 (18446744073709551615 - a), .int .u64 a] w fun e w' => e = .returned (.int .u64 18446744073709551615) ∧ w = w')
    (c4 : ∀ w, Calls Try.prog 20 #[.int .u64 18446744073709551615, .int .u64 (18446744073709551615 - a)] w fun e w' => e = .returned (.int .u64 a) ∧ w = w')
    (c5 : ∀ w, Calls Try.prog 22 #[.int .u64 P, .int .u64 P'] w fun e w' => e = .returned (.int .u64 18446744073709551615) ∧ w = w')
    (c6 : ∀ w, Calls Try.prog 22 #[.int .u64 a, .int .u64 1] w fun e w' => e = .returned (.int .u64 a) ∧ w = w')
    (c7 : ∀ w, Calls Try.prog 22 #[.int .u64 a, .int .u64 0] w fun e w' => e = .returned (.int .u64 0) ∧ w = w')
    (c8 : ∀ w, Calls Try.prog 24 #[.int .u64 9223372036854775808] w fun e w' => e = .returned (.int .i64 9223372036854775807) ∧ w = w')
    (c9 : ∀ w, Calls Try.prog 24 #[.int .u64 18446744073709551615] w fun e w' => e = .returned (.int .i64 9223372036854775807) ∧ w = w') (w : World) :
    Calls Try.prog 6 #[.int .u64 a, .int .i64 k] w fun e w' => e = .returned (.bool true) ∧ Below w.heap.size w w' := by
  have C1 := Lib.hid c1
  have C2 := Lib.hid c2
  have C3 := Lib.hid c3
  have C4 := Lib.hid c4
  have C5 := Lib.hid c5
  have C6 := Lib.hid c6
  have C7 := Lib.hid c7
  have C8 := Lib.hid c8
  have C9 := Lib.hid c9
  clear c1 c2 c3 c4 c5 c6 c7 c8 c9
  go_enter Try.func6, Try.ntmps6
  go_wp2_with fail
  refine (awake01 _).mono ?_; rintro e w1 ⟨rfl, b1⟩
  go_wp2_with fail
  refine (C1.out _).mono ?_; rintro e w' ⟨rfl, rfl⟩
  go_wp2_with fail
  refine (C2.out _).mono ?_; rintro e w' ⟨rfl, rfl⟩
  go_wp2_with fail
  refine (C3.out _).mono ?_; rintro e w' ⟨rfl, rfl⟩
  go_wp2_with fail
  refine (C4.out _).mono ?_; rintro e w' ⟨rfl, rfl⟩
  go_wp2_with fail
  refine (C5.out _).mono ?_; rintro e w' ⟨rfl, rfl⟩
  go_wp2_with fail
  refine (C6.out _).mono ?_; rintro e w' ⟨rfl, rfl⟩
  go_wp2_with fail
  refine (C7.out _).mono ?_; rintro e w' ⟨rfl, rfl⟩
  go_wp2_with fail
  refine (C8.out _).mono ?_; rintro e w' ⟨rfl, rfl⟩
  go_wp2_with fail
  refine (C9.out _).mono ?_; rintro e w' ⟨rfl, rfl⟩
  go_wp2
  go_ret
  exact ⟨rfl, b1⟩

theorem pow_wrap (n : Nat) (h : n < 64) : IntKind.u64.wrap (2 ^ n) = ((2 ^ n : Nat) : Int) := by
  have h1 : (2 : Nat) ^ n < 18446744073709551616 := Nat.lt_of_le_of_lt (Nat.pow_le_pow_right (by omega) (show n ≤ 63 from by omega)) (by omega)
  rw [IntKind.wrap_u64, show ((2 : Int) ^ n) = ((2 ^ n : Nat) : Int) from by simp]
  generalize (2 : Nat) ^ n = p at *
  omega
theorem satEdges_any (a : Nat) (k : Int) (ha : a < 18446744073709551616) (w : World) :
    Calls Try.prog 6 #[.int .u64 a, .int .i64 k] w fun e w' => e = .returned (.bool true) ∧ Below w.heap.size w w' := by
  obtain ⟨m, q, e1, e2, e3⟩ := u64_conv k 63 (by omega)
  have hp1 : (2 : Nat) ^ (1 + q) < 18446744073709551616 := Nat.lt_of_le_of_lt (Nat.pow_le_pow_right (by omega) (show 1 + q ≤ 63 from by omega)) (by omega)
  have hp2 : (2 : Nat) ^ (63 - q) < 18446744073709551616 := Nat.lt_of_le_of_lt (Nat.pow_le_pow_right (by omega) (show 63 - q ≤ 63 from by omega)) (by omega)
  have hpp : (2 : Nat) ^ (1 + q) * 2 ^ (63 - q) = 18446744073709551616 := by rw [← Nat.pow_add, show 1 + q + (63 - q) = 64 from by omega]
  refine satEdges_core a m q (1 + q) (63 - q) (2 ^ (1 + q)) (2 ^ (63 - q)) k ha e1 e2 (by simp) (by omega) (by omega) (by omega) (pow_wrap _ (by omega)) (pow_wrap _ (by omega))
    (fun w => ?_) (fun w => ?_) (fun w => ?_) (fun w => ?_) (fun w => ?_) (fun w => ?_) (fun w => ?_) (fun w => ?_) (fun w => ?_) w
  · have h := add_any 18446744073709551615 a (by omega) ha w
    rw [show satAdd 18446744073709551615 a = 18446744073709551615 from by rw [satAdd_eq]; omega] at h
    exact h
  · have h := sub_any 0 a (by omega) ha w
    rw [show satSub 0 a = 0 from by unfold satSub; omega] at h
    exact h
  · have h := add_any (18446744073709551615 - a) a (by omega) ha w
    rw [show satAdd (18446744073709551615 - a) a = 18446744073709551615 from by rw [satAdd_eq]; omega, show ((18446744073709551615 - a : Nat) : Int) = 18446744073709551615 - a from by omega] at h
    exact h
  · have h := sub_any 18446744073709551615 (18446744073709551615 - a) (by omega) (by omega) w
    rw [show satSub 18446744073709551615 (18446744073709551615 - a) = a from by unfold satSub; omega, show ((18446744073709551615 - a : Nat) : Int) = 18446744073709551615 - a from by omega] at h
    exact h
  · have h := smul_any _ _ hp1 hp2 w
    rw [show satMul (2 ^ (1 + q)) (2 ^ (63 - q)) = 18446744073709551615 from by rw [satMul_eq, hpp]; omega] at h
    exact h
  · have h := smul_any a 1 ha (by omega) w
    rw [show satMul a 1 = a from by rw [satMul_eq]; omega] at h
    exact h
  · have h := smul_any a 0 ha (by omega) w
    rw [show satMul a 0 = 0 from by rw [satMul_eq]; omega] at h
    exact h
  · have h := int_any 9223372036854775808 (by omega) w
    rw [show satInt 9223372036854775808 = 9223372036854775807 from by unfold satInt; omega] at h
    exact h
  · have h := int_any 18446744073709551615 (by omega) w
    rw [show satInt 18446744073709551615 = 9223372036854775807 from by unfold satInt; omega] at h
    exact h
end Go.Proofs.Ytgdbmjokpbjoaaa
