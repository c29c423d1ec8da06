/- The walks of the statements over wide (canterlaw02): each comes to true. -/
import Derived.Test.YtalcccghiemnjaaWide
import Derived.RowKit3
import Derived.OpenShut
import Derived.Test.YtalcccghiemnjaaMulDiv
namespace Go.Proofs.Ytalcccghiemnjaa
open Go.RowKit Go.Lib

theorem u64_of {a : Int} (h : (Lit.int .u64 a).wf = true) : ∃ n : Nat, a = n ∧ n < 18446744073709551616 := by
  have h2 := bounds_u64 h
  exact ⟨a.toNat, by omega, by omega⟩

theorem awake02 (w : World) : Calls Try.prog 30 #[] w fun e w' => e = .returned (.bool true) ∧ w = w' := by
  have c1 : Calls Try.prog 26 #[.int .u64 9223372036854775808, .int .u64 4] w fun e w' => e = .returned (.tuple #[.int .u64 2, .int .u64 0]) ∧ w = w' :=
    mul_any 9223372036854775808 4 (by omega) (by omega) w
  have c2 : Calls Try.prog 31 #[.int .u64 7, .int .u64 3, .int .u64 2] w fun e w' => e = .returned (.int .u64 10) ∧ w = w' :=
    muldiv_any 7 3 2 (by omega) (by omega) (by omega) w
  have H1 := Lib.hid c1
  have H2 := Lib.hid c2
  clear c1 c2
  go_enter Try.func30, Try.ntmps30
  go_wp2_with (first | (go_at_call 26; refine H1.out.mono ?_; rintro e w' ⟨rfl, rfl⟩) | (go_at_call 31; refine H2.out.mono ?_; rintro e w' ⟨rfl, rfl⟩))
  go_ret
  exact ⟨rfl, rfl⟩

set_option maxHeartbeats 1000000 in
theorem wideTells_any (a b c : Nat) (ha : a < 18446744073709551616) (hb : b < 18446744073709551616) (hc : c < 18446744073709551616) (w : World) :
    Calls Try.prog 8 #[.int .u64 a, .int .u64 b, .int .u64 c] w fun e w' => e = .returned (.bool true) ∧ w = w' := by
  go_enter Try.func8, Try.ntmps8
  go_wp2_with (first
    | (go_at_call 26; refine (mul_any a b ha hb _).mono ?_; rintro e w' ⟨rfl, rfl⟩)
    | (go_at_call 27; refine (rwide_any a b ha hb _).mono ?_; rintro e w' ⟨rfl, rfl⟩)
    | (go_at_call 28; refine (div_all a b c hb hc _).mono ?_; rintro e w' ⟨rfl, rfl⟩)
    | (go_at_call 29; refine (rdiv_all a b c hb hc _).mono ?_; rintro e w' ⟨rfl, rfl⟩)
    | (go_at_call 30; refine (awake02 _).mono ?_; rintro e w' ⟨rfl, rfl⟩)
    | (go_at_call 31; refine (muldiv_any a b c ha hb hc _).mono ?_; rintro e w' ⟨rfl, rfl⟩)
    | (go_at_call 32; refine (rmuldiv_any a b c ha hb hc _).mono ?_; rintro e w' ⟨rfl, rfl⟩))
  go_ret
  exact ⟨rfl, rfl⟩

theorem back_facts {a b c : Nat} (hc : c < 18446744073709551616) (h0 : 0 < c) (h1 : hi64 a b < c) (q : Nat) (hq : q = a * b / c) :
    q < 18446744073709551616 ∧ (hi64 q c = hi64 a b ∧ lo64 q c ≤ lo64 a b ∧ lo64 a b - lo64 q c < c ∨ hi64 q c + 1 = hi64 a b ∧ lo64 a b < lo64 q c ∧ lo64 a b + 18446744073709551616 - lo64 q c < c) := by
  have h3 := hl64 a b
  have h4 := hl64 q c
  have hlt : q < 18446744073709551616 := by
    have := mt (hi_le_iff (a := a) (b := b) h0).2 (by omega)
    omega
  have l1 := lo64_lt a b
  have l2 := lo64_lt q c
  have e1 : c * q + a * b % c = a * b := by rw [hq]; exact Nat.div_add_mod _ _
  have e2 := Nat.mod_lt (a * b) h0
  rw [Nat.mul_comm] at e1
  generalize a * b % c = r at *
  generalize a * b = X at *
  generalize q * c = Y at *
  refine ⟨hlt, ?_⟩
  omega

theorem wideBack_zero (a b : Nat) (ha : a < 18446744073709551616) (hb : b < 18446744073709551616) (w : World) :
    Calls Try.prog 9 #[.int .u64 a, .int .u64 b, .int .u64 0] w fun e w' => e = .returned (.bool true) ∧ w = w' := by
  go_enter Try.func9, Try.ntmps9
  go_wp2_with (first
    | (go_at_call 26; refine (mul_any a b ha hb _).mono ?_; rintro e w' ⟨rfl, rfl⟩)
    | (go_at_call 28; refine (div_zero _ _ _).mono ?_; rintro e w' ⟨rfl, rfl⟩)
    | (go_at_call 30; refine (awake02 _).mono ?_; rintro e w' ⟨rfl, rfl⟩))
  go_ret
  exact ⟨rfl, rfl⟩

theorem wideBack_over (a b c : Nat) (ha : a < 18446744073709551616) (hb : b < 18446744073709551616) (hc : c < 18446744073709551616) (h0 : 0 < c) (h1 : c ≤ hi64 a b) (w : World) :
    Calls Try.prog 9 #[.int .u64 a, .int .u64 b, .int .u64 c] w fun e w' => e = .returned (.bool true) ∧ w = w' := by
  have y0 : ((c : Int) == 0) = false := by rw [beq_eq_false_iff_ne]; omega
  have y1 : decide (c ≤ hi64 a b) = true := by simpa using h1
  have em : mulDiv a b c = 18446744073709551615 := by
    have := (hi_le_iff h0).1 h1
    rw [mulDiv_min h0]; omega
  have CM : Calls Try.prog 31 #[.int .u64 a, .int .u64 b, .int .u64 c] w fun e w' => e = .returned (.int .u64 18446744073709551615) ∧ w = w' := by
    have h := muldiv_any a b c ha hb hc w
    rw [em] at h
    exact h
  have HM := Lib.hid CM
  clear CM em
  go_enter Try.func9, Try.ntmps9
  go_wp2_with (first
    | (go_at_call 26; refine (mul_any a b ha hb _).mono ?_; rintro e w' ⟨rfl, rfl⟩)
    | (go_at_call 28; refine (div_over _ _ c h0 h1 _).mono ?_; rintro e w' ⟨rfl, rfl⟩)
    | (go_at_call 30; refine (awake02 _).mono ?_; rintro e w' ⟨rfl, rfl⟩)
    | (go_at_call 31; refine HM.out.mono ?_; rintro e w' ⟨rfl, rfl⟩))
  go_ret
  exact ⟨rfl, rfl⟩

theorem wideBack_fits (a b c : Nat) (ha : a < 18446744073709551616) (hb : b < 18446744073709551616) (hc : c < 18446744073709551616) (h0 : 0 < c) (h1 : hi64 a b < c) (w : World) :
    Calls Try.prog 9 #[.int .u64 a, .int .u64 b, .int .u64 c] w fun e w' => e = .returned (.bool true) ∧ w = w' := by
  have y0 : ((c : Int) == 0) = false := by rw [beq_eq_false_iff_ne]; omega
  obtain ⟨q, hq⟩ : ∃ q, q = a * b / c := ⟨_, rfl⟩
  obtain ⟨hqlt, hf⟩ := back_facts hc h0 h1 q hq
  have em : mulDiv a b c = q := by
    have := mt (hi_le_iff (a := a) (b := b) h0).2 (by omega)
    rw [mulDiv_min h0]; omega
  have CM := muldiv_any a b c ha hb hc w
  rw [em] at CM
  have CD := div_any (hi64 a b) (lo64 a b) c h1 (lo64_lt a b) hc w
  rw [hl64, ← hq] at CD
  have CQ := mul_any q c hqlt hc w
  have C0 := mul_any a b ha hb w
  have b1 := lo64_lt a b
  have b2 := lo64_lt q c
  have b3 := hi64_lt q c hqlt hc
  have b4 := hi64_lt a b ha hb
  clear hq em
  generalize hi64 a b = h at *
  generalize lo64 a b = l at *
  generalize hi64 q c = x at *
  generalize lo64 q c = y at *
  have HM := Lib.hid CM
  have HD := Lib.hid CD
  have HQ := Lib.hid CQ
  have H0 := Lib.hid C0
  clear CM CD CQ C0
  rcases hf with ⟨rfl, f2, f3⟩ | ⟨rfl, f2, f3⟩
  · have t1 : decide (y ≤ l) = true := by simpa using f2
    have t2 : decide (l < y) = false := by simp; omega
    have t3 : IntKind.u64.wrap ((l : Int) - y) = ((l - y : Nat) : Int) := by rw [IntKind.wrap_u64]; omega
    have t4 : decide (l - y < c) = true := by simpa using f3
    go_enter Try.func9, Try.ntmps9
    go_wp2_with (first
      | (go_at_call 26; (first | (with_reducible refine H0.out.mono ?_) | (with_reducible refine HQ.out.mono ?_)); rintro e w' ⟨rfl, rfl⟩)
      | (go_at_call 28; refine HD.out.mono ?_; rintro e w' ⟨rfl, rfl⟩)
      | (go_at_call 30; refine (awake02 _).mono ?_; rintro e w' ⟨rfl, rfl⟩)
      | (go_at_call 31; refine HM.out.mono ?_; rintro e w' ⟨rfl, rfl⟩))
    go_ret
    exact ⟨rfl, rfl⟩
  · have t2 : decide (l < y) = true := by simpa using f2
    have t3 : IntKind.u64.wrap ((l : Int) - y) = ((l + 18446744073709551616 - y : Nat) : Int) := by rw [IntKind.wrap_u64]; omega
    have t4 : decide (l + 18446744073709551616 - y < c) = true := by simpa using f3
    go_enter Try.func9, Try.ntmps9
    go_wp2_with (first
      | (go_at_call 26; (first | (with_reducible refine H0.out.mono ?_) | (with_reducible refine HQ.out.mono ?_)); rintro e w' ⟨rfl, rfl⟩)
      | (go_at_call 28; refine HD.out.mono ?_; rintro e w' ⟨rfl, rfl⟩)
      | (go_at_call 30; refine (awake02 _).mono ?_; rintro e w' ⟨rfl, rfl⟩)
      | (go_at_call 31; refine HM.out.mono ?_; rintro e w' ⟨rfl, rfl⟩))
    go_ret
    exact ⟨rfl, rfl⟩

set_option maxHeartbeats 1000000 in
theorem wideOrders_any (a b c d : Nat) (ha : a < 18446744073709551616) (hb : b < 18446744073709551616) (hc : c < 18446744073709551616) (hd : d < 18446744073709551616) (w : World) :
    Calls Try.prog 10 #[.int .u64 a, .int .u64 b, .int .u64 c, .int .u64 d] w fun e w' => e = .returned (.bool true) ∧ w = w' := by
  have wa := W64.of_nat ha
  have wb := W64.of_nat hb
  have wc := W64.of_nat hc
  have wd := W64.of_nat hd
  have gc : mulDiv b a c = mulDiv a b c := mulDiv_comm b a c
  have ga : a ≤ d ∧ decide (mulDiv a b c ≤ mulDiv d b c) = true ∨ d < a ∧ decide (mulDiv d b c ≤ mulDiv a b c) = true := by
    rcases Nat.lt_or_ge d a with h | h
    · exact .inr ⟨h, by simpa using mulDiv_mono (Nat.le_of_lt h) (Nat.le_refl b)⟩
    · exact .inl ⟨h, by simpa using mulDiv_mono h (Nat.le_refl b)⟩
  have gd : c ≤ d ∧ (0 < c → decide (mulDiv a b d ≤ mulDiv a b c) = true) ∨ d < c := by
    rcases Nat.lt_or_ge d c with h | h
    · exact .inr h
    · exact .inl ⟨h, fun h0 => by simpa using mulDiv_anti h0 h⟩
  have gb : b = 0 ∨ ((b : Int) == 0) = false ∧ mulDiv a b b = a := by
    rcases Nat.eq_zero_or_pos b with h | h
    · exact .inl h
    · exact .inr ⟨by rw [beq_eq_false_iff_ne]; omega, mulDiv_self ha h⟩
  have gz : c = 0 ∨ ((c : Int) == 0) = false ∧ 0 < c := by
    rcases Nat.eq_zero_or_pos c with h | h
    · exact .inl h
    · exact .inr ⟨by rw [beq_eq_false_iff_ne]; omega, h⟩
  rcases ga with ⟨ga, ga'⟩ | ⟨ga, ga'⟩ <;> rcases gb with rfl | ⟨gb, gb'⟩ <;> rcases gz with rfl | ⟨gz, gz'⟩ <;> rcases gd with ⟨gd, gd'⟩ | gd
  all_goals first | (exfalso; omega) | skip
  all_goals (try have gd' := gd' gz')
  all_goals (try clear gz')
  all_goals
    go_enter Try.func10, Try.ntmps10
    go_wp2_with (first
      | (go_at_call 30; refine (awake02 _).mono ?_; rintro e w' ⟨rfl, rfl⟩)
      | (go_at_call 31; refine (muldiv_i _ _ _ (by assumption) (by assumption) (by assumption) _).mono ?_; rintro e w' ⟨rfl, rfl⟩; simp only [Int.toNat_natCast, Int.toNat_zero]))
  all_goals go_ret
  all_goals exact ⟨rfl, rfl⟩
end Go.Proofs.Ytalcccghiemnjaa
