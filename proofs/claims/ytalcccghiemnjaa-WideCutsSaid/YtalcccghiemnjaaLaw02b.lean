/- The walks of the statements over wide (canterlaw02/more.go): each comes to true. -/
import Derived.Test.YtalcccghiemnjaaLaw02
import Derived.Test.YtalcccghiemnjaaBase
namespace Go.Proofs.Ytalcccghiemnjaa
open Go.RowKit Go.Lib

theorem wideCuts_zero (hi lo : Nat) (w : World) :
    Calls Try.prog 13 #[.int .u64 hi, .int .u64 lo, .int .u64 0] w fun e w' => e = .returned (.bool true) ∧ w = w' := by
  have c2 : Calls Try.prog 28 #[.int .u64 0, .int .u64 18446744073709551615, .int .u64 1] w fun e w' => e = .returned (.tuple #[.int .u64 18446744073709551615, .int .i64 0]) ∧ w = w' := by
    have h := div_any 0 18446744073709551615 1 (by omega) (by omega) (by omega) w
    rw [show (0 * 18446744073709551616 + 18446744073709551615) / 1 = 18446744073709551615 from by omega] at h
    exact h
  have c3 : Calls Try.prog 28 #[.int .u64 1, .int .u64 lo, .int .u64 1] w fun e w' => e = .returned (.tuple #[.int .u64 0, .int .i64 3]) ∧ w = w' :=
    div_over 1 lo 1 (by omega) (by omega) w
  have H2 := Lib.hid c2
  have H3 := Lib.hid c3
  clear c2 c3
  go_enter Try.func13, Try.ntmps13
  go_wp2_with fail
  refine (div_zero hi lo _).mono ?_; rintro e w' ⟨rfl, rfl⟩
  go_wp2_with fail
  refine H2.out.mono ?_; rintro e w' ⟨rfl, rfl⟩
  go_wp2_with fail
  refine H3.out.mono ?_; rintro e w' ⟨rfl, rfl⟩
  go_wp2_with (go_at_call 30; refine (awake02 _).mono ?_; rintro e w' ⟨rfl, rfl⟩)
  go_ret
  exact ⟨rfl, rfl⟩

theorem wideCuts_pos (hi lo c : Nat) (hl : lo < 18446744073709551616) (hc : c < 18446744073709551616) (h0 : 0 < c) (w : World) :
    Calls Try.prog 13 #[.int .u64 hi, .int .u64 lo, .int .u64 c] w fun e w' => e = .returned (.bool true) ∧ w = w' := by
  have c2 : Calls Try.prog 28 #[.int .u64 ((c : Int) - 1), .int .u64 18446744073709551615, .int .u64 c] w fun e w' => e = .returned (.tuple #[.int .u64 18446744073709551615, .int .i64 0]) ∧ w = w' := by
    have h := div_any (c - 1) 18446744073709551615 c (by omega) (by omega) (by omega) w
    rw [show ((c - 1) * 18446744073709551616 + 18446744073709551615) / c = 18446744073709551615 from by
      rw [Nat.div_eq_iff h0]; omega] at h
    rw [show ((c : Int) - 1) = ((c - 1 : Nat) : Int) from by omega]
    exact h
  have c3 := div_over c lo c h0 (Nat.le_refl _) w
  have H2 := Lib.hid c2
  have H3 := Lib.hid c3
  clear c2 c3
  have y0 : ((c : Int) == 0) = false := by rw [beq_eq_false_iff_ne]; omega
  have y1 : 1 ≤ c := h0
  by_cases h : c ≤ hi
  · have t1 : decide (c ≤ hi) = true := by simpa using h
    go_enter Try.func13, Try.ntmps13
    go_wp2_with fail
    refine (div_over hi lo c h0 h _).mono ?_; rintro e w' ⟨rfl, rfl⟩
    go_wp2_with fail
    refine H2.out.mono ?_; rintro e w' ⟨rfl, rfl⟩
    go_wp2_with fail
    refine H3.out.mono ?_; rintro e w' ⟨rfl, rfl⟩
    go_wp2_with (go_at_call 30; refine (awake02 _).mono ?_; rintro e w' ⟨rfl, rfl⟩)
    go_ret
    exact ⟨rfl, rfl⟩
  · have t1 : decide (c ≤ hi) = false := by simpa using h
    have h' : hi < c := by omega
    go_enter Try.func13, Try.ntmps13
    go_wp2_with fail
    refine (div_any hi lo c h' hl hc _).mono ?_; rintro e w' ⟨rfl, rfl⟩
    go_wp2_with fail
    refine H2.out.mono ?_; rintro e w' ⟨rfl, rfl⟩
    go_wp2_with fail
    refine H3.out.mono ?_; rintro e w' ⟨rfl, rfl⟩
    go_wp2_with (go_at_call 30; refine (awake02 _).mono ?_; rintro e w' ⟨rfl, rfl⟩)
    go_ret
    exact ⟨rfl, rfl⟩

theorem parts_facts (a n : Nat) (ha : a < 18446744073709551616) (hn : n < 64) :
    hi64 a (2 ^ n) = (if n = 0 then 0 else a / 2 ^ (64 - n)) ∧ lo64 a (2 ^ n) = a * 2 ^ n % 18446744073709551616 := by
  refine ⟨?_, rfl⟩
  unfold hi64
  by_cases h : n = 0
  · subst h; rw [if_pos rfl]; omega
  · rw [if_neg h, show (18446744073709551616 : Nat) = 2 ^ (64 - n) * 2 ^ n from by rw [← Nat.pow_add, show 64 - n + n = 64 from by omega]]
    exact Nat.mul_div_mul_right _ _ (Nat.two_pow_pos n)

theorem wideParts_any (a b : Nat) (k : Int) (ha : a < 18446744073709551616) (hb : b < 18446744073709551616) (w : World) :
    Calls Try.prog 12 #[.int .u64 a, .int .u64 b, .int .i64 k] w fun e w' => e = .returned (.bool true) ∧ w = w' := by
  obtain ⟨m, hm⟩ : ∃ m : Nat, IntKind.u64.wrap k = m := ⟨(IntKind.u64.wrap k).toNat, by rw [IntKind.wrap_u64]; omega⟩
  obtain ⟨n, hn, hn'⟩ : ∃ n : Nat, (m : Int) % 64 = n ∧ n < 64 := ⟨m % 64, by omega, by omega⟩
  have g0 : n ≤ 64 := by omega
  obtain ⟨f1, f2⟩ := parts_facts a n ha hn'
  have hp1 : (2 : Nat) ^ n < 18446744073709551616 := Nat.lt_of_le_of_lt (Nat.pow_le_pow_right (by omega) (show n ≤ 63 from by omega)) (by omega)
  obtain ⟨p, hp⟩ : ∃ p : Nat, 2 ^ n = p := ⟨_, rfl⟩
  have q1 : IntKind.u64.wrap (2 ^ n) = (p : Int) := by
    rw [← hp, IntKind.wrap_u64, show ((2 : Int) ^ n) = ((2 ^ n : Nat) : Int) from by simp]
    omega
  have q2 : IntKind.u64.wrap ((a : Int) * 2 ^ n) = ((lo64 a p : Nat) : Int) := by
    rw [← hp, f2, IntKind.wrap_u64, show ((a : Int) * (2 : Int) ^ n) = ((a * 2 ^ n : Nat) : Int) from by simp]
    omega
  have q3 : IntKind.u64.wrap ((a : Int) * b) = ((lo64 a b : Nat) : Int) := by
    unfold lo64
    rw [IntKind.wrap_u64, show ((a : Int) * (b : Int)) = ((a * b : Nat) : Int) from by simp]
    omega
  have q4 : hi64 b a = hi64 a b := by unfold hi64; rw [Nat.mul_comm]
  have q5 : lo64 b a = lo64 a b := by unfold lo64; rw [Nat.mul_comm]
  rw [hp] at f1 f2 hp1
  have cp := mul_any a p ha hp1
  have HP := Lib.hid hp
  clear hp
  rcases Nat.eq_zero_or_pos n with h | h
  · subst h
    rw [if_pos rfl] at f1
    have Hp : p = 1 := HP.out.symm
    subst Hp
    clear q1
    have F1 := Lib.hid f1
    have F2 : lo64 a 1 = a := by rw [f2]; omega
    clear f1 f2
    have cp1 : ∀ w, Calls Try.prog 26 #[.int .u64 a, .int .u64 1] w fun e w' => e = .returned (.tuple #[.int .u64 0, .int .u64 a]) ∧ w = w' := fun w => by
      have h := cp w
      rw [F1.out, F2] at h
      exact h
    have CP := Lib.hid cp1
    clear cp cp1 q2 F2
    go_enter Try.func12, Try.ntmps12
    go_wp2_with fail
    refine (CP.out _).mono ?_; rintro e w' ⟨rfl, rfl⟩
    go_wp2_with fail
    refine (mul_any a b ha hb _).mono ?_; rintro e w' ⟨rfl, rfl⟩
    go_wp2_with fail
    refine (mul_any b a hb ha _).mono ?_; rintro e w' ⟨rfl, rfl⟩
    go_wp2_with (go_at_call 30; refine (awake02 _).mono ?_; rintro e w' ⟨rfl, rfl⟩)
    go_ret
    exact ⟨rfl, rfl⟩
  · rw [if_neg (by omega)] at f1
    have q6 : (a : Int) / 2 ^ (64 - n) = ((hi64 a p : Nat) : Int) := by rw [f1]; simp
    have F1 := Lib.hid f1
    have F2 := Lib.hid f2
    clear f1 f2
    go_enter Try.func12, Try.ntmps12
    go_wp2_with fail
    refine (cp _).mono ?_; rintro e w' ⟨rfl, rfl⟩
    go_wp2_with fail
    refine (mul_any a b ha hb _).mono ?_; rintro e w' ⟨rfl, rfl⟩
    go_wp2_with fail
    refine (mul_any b a hb ha _).mono ?_; rintro e w' ⟨rfl, rfl⟩
    go_wp2_with (go_at_call 30; refine (awake02 _).mono ?_; rintro e w' ⟨rfl, rfl⟩)
    go_ret
    exact ⟨rfl, rfl⟩

theorem small_facts (a b c : Nat) (ha : a < 4294967296) (hb : b < 4294967296) (h0 : 0 < c) :
    hi64 a b = 0 ∧ lo64 a b = a * b ∧ a * b < 18446744073709551616 ∧ mulDiv a b c = a * b / c ∧ mulDiv a 0 0 = 0 ∧ mulDiv (1 + a) (1 + b) 0 = 18446744073709551615 := by
  have h1 : a * b ≤ 4294967295 * 4294967295 := Nat.mul_le_mul (by omega) (by omega)
  have h2 := Nat.div_le_self (a * b) c
  refine ⟨by unfold hi64; omega, by unfold lo64; omega, by omega, by rw [mulDiv_min h0]; omega, by rw [mulDiv_none]; rfl, ?_⟩
  rw [mulDiv_none, if_neg (by rw [Nat.add_mul]; omega)]

theorem wideSmall_core (a b d P Q R a0 b0 c0 : Nat) (ha : a < 4294967296) (hb : b < 4294967296) (hd : d ≤ 4294967296) (hd0 : 0 < d) (ea : (a0 : Int) % 4294967296 = a) (eb : (b0 : Int) % 4294967296 = b) (ec : 1 + (c0 : Int) % 4294967296 = d)
    (eP : (a : Int) * b = P) (eQ : (P : Int) / d = Q) (eR : (a : Int) / d = R) (hP : P < 18446744073709551616)
    (cm : ∀ w, Calls Try.prog 26 #[.int .u64 a, .int .u64 b] w fun e w' => e = .returned (.tuple #[.int .u64 0, .int .u64 P]) ∧ w = w')
    (cd : ∀ w, Calls Try.prog 28 #[.int .u64 0, .int .u64 a, .int .u64 d] w fun e w' => e = .returned (.tuple #[.int .u64 R, .int .i64 0]) ∧ w = w')
    (c1 : ∀ w, Calls Try.prog 31 #[.int .u64 a, .int .u64 b, .int .u64 d] w fun e w' => e = .returned (.int .u64 Q) ∧ w = w')
    (c2 : ∀ w, Calls Try.prog 31 #[.int .u64 a, .int .u64 0, .int .u64 0] w fun e w' => e = .returned (.int .u64 0) ∧ w = w')
    (c3 : ∀ w, Calls Try.prog 31 #[.int .u64 (1 + a), .int .u64 (1 + b), .int .u64 0] w fun e w' => e = .returned (.int .u64 18446744073709551615) ∧ w = w') (w : World) :
    Calls Try.prog 11 #[.int .u64 a0, .int .u64 b0, .int .u64 c0] w fun e w' => e = .returned (.bool true) ∧ Grown w w' := by
  have y : ((d : Int) == 0) = false := by rw [beq_eq_false_iff_ne]; omega
  have CM := Lib.hid cm
  have CD := Lib.hid cd
  have C1 := Lib.hid c1
  have C2 := Lib.hid c2
  have C3 := Lib.hid c3
  clear cm cd c1 c2 c3
  have w1 : IntKind.u64.wrap (P : Int) = P := by rw [IntKind.wrap_u64]; omega
  have w2 : IntKind.u64.wrap (1 + (a : Int)) = 1 + a := by rw [IntKind.wrap_u64]; omega
  have w4 : (a : Int).tdiv d = R := by rw [Int.tdiv_eq_ediv_of_nonneg (by omega)]; exact eR
  have w5 : (P : Int).tdiv d = Q := by rw [Int.tdiv_eq_ediv_of_nonneg (by omega)]; exact eQ
  have r1 : R ≤ a := by have := Nat.div_le_self a d; have e : ((a / d : Nat) : Int) = R := by simpa using eR
                        omega
  have r2 : Q ≤ P := by have := Nat.div_le_self P d; have e : ((P / d : Nat) : Int) = Q := by simpa using eQ
                        omega
  have w6 : IntKind.u64.wrap (R : Int) = R := by rw [IntKind.wrap_u64]; omega
  have w7 : IntKind.u64.wrap (Q : Int) = Q := by rw [IntKind.wrap_u64]; omega
  have w3 : IntKind.u64.wrap (1 + (b : Int)) = 1 + b := by rw [IntKind.wrap_u64]; omega
  go_enter Try.func11, Try.ntmps11
  go_wp2_with fail
  refine (CM.out _).mono ?_; rintro e w' ⟨rfl, rfl⟩
  go_wp2_with fail
  refine (CD.out _).mono ?_; rintro e w' ⟨rfl, rfl⟩
  go_wp2_with fail
  go_quiet (first | (go_at_call 30; exact still (awake02 _)) | (go_at_call 31; first | with_reducible exact still (C1.out _) | with_reducible exact still (C2.out _) | with_reducible exact still (C3.out _)))
  go_wp2
  go_ret
  exact ⟨rfl, grown_drewN _ _⟩

theorem wideSmall_any (a b c : Nat) (w : World) :
    Calls Try.prog 11 #[.int .u64 a, .int .u64 b, .int .u64 c] w fun e w' => e = .returned (.bool true) ∧ Grown w w' := by
  have la : a % 4294967296 < 4294967296 := by omega
  have lb : b % 4294967296 < 4294967296 := by omega
  have lc : 1 + c % 4294967296 ≤ 4294967296 := by omega
  have l0 : 0 < 1 + c % 4294967296 := by omega
  have ea : (a : Int) % 4294967296 = ((a % 4294967296 : Nat) : Int) := by omega
  have eb : (b : Int) % 4294967296 = ((b % 4294967296 : Nat) : Int) := by omega
  have ec : 1 + (c : Int) % 4294967296 = ((1 + c % 4294967296 : Nat) : Int) := by omega
  generalize a % 4294967296 = x at *
  generalize b % 4294967296 = y at *
  generalize 1 + c % 4294967296 = d at *
  obtain ⟨f1, f2, f3, f4, f5, f6⟩ := small_facts x y d la lb l0
  refine wideSmall_core x y d (x * y) (x * y / d) (x / d) a b c la lb lc l0 ea eb ec (by simp) (by simp) (by simp) f3 (fun w => ?_) (fun w => ?_) (fun w => ?_) (fun w => ?_) (fun w => ?_) w
  · have h := mul_any x y (by omega) (by omega) w
    rw [f1, f2] at h
    exact h
  · have h := div_any 0 x d l0 (by omega) (by omega) w
    rw [Nat.zero_mul, Nat.zero_add] at h
    exact h
  · have h := muldiv_any x y d (by omega) (by omega) (by omega) w
    rw [f4] at h
    exact h
  · have h := muldiv_any x 0 0 (by omega) (by omega) (by omega) w
    rw [f5] at h
    exact h
  · have h := muldiv_any (1 + x) (1 + y) 0 (by omega) (by omega) (by omega) w
    rw [f6] at h
    exact h
end Go.Proofs.Ytalcccghiemnjaa
