/- The walks of the statements over delay (canterlaw18): each comes to true. -/
import Derived.Test.YtfbcadfbmopnhaaDelay
namespace Go.Proofs.Ytfbcadfbmopnhaa
open Go.RowKit Go.Lib

theorem awake18 (w : World) : Calls Try.prog 12 #[] w fun e w' => e = .returned (.bool true) ∧ w = w' := by
  have c1 : ∀ w, Calls Try.prog 13 #[.int .i64 1000, .int .u64 1000000] w fun e w' => e = .returned (.int .u64 1000000) ∧ w = w' := fun w => by
    have h := of_any 1000 1000000 (by omega) (by omega) (by omega) w
    rw [show delayOf 1000 1000000 = 1000000 from by simp [delayOf, mulDiv, hi64]] at h
    exact h
  have c2 : ∀ w, Calls Try.prog 15 #[.int .u64 0, .int .u64 5] w fun e w' => e = .returned (.int .u64 5) ∧ w = w' := fun w => by
    have h := lesser_any 0 5 (by omega) (by omega) w
    rw [show les 0 5 = 5 from by simp [les, nz]] at h
    exact h
  have c3 : ∀ w, Calls Try.prog 13 #[.int .i64 1, .int .u64 0] w fun e w' => e = .returned (.int .u64 1000000000) ∧ w = w' := fun w => by
    have h := of_any 1 0 (by omega) (by omega) (by omega) w
    rw [show delayOf 1 0 = 1000000000 from by simp [delayOf, mulDiv]] at h
    exact h
  have H1 := Lib.hid c1
  have H2 := Lib.hid c2
  have H3 := Lib.hid c3
  clear c1 c2 c3
  go_enter Try.func12, Try.ntmps12
  go_wp2_with fail
  refine (H1.out _).mono ?_; rintro e w' ⟨rfl, rfl⟩
  go_wp2_with fail
  refine (H2.out _).mono ?_; rintro e w' ⟨rfl, rfl⟩
  go_wp2_with fail
  refine (H3.out _).mono ?_; rintro e w' ⟨rfl, rfl⟩
  go_wp2
  go_ret
  exact ⟨rfl, rfl⟩

theorem delayTells_any (s : Int) (r b : Nat) (hs : s ≤ 9223372036854775807) (hs' : -9223372036854775808 ≤ s) (hr : r < 18446744073709551616) (hb : b < 18446744073709551616) (w : World) :
    Calls Try.prog 3 #[.int .i64 s, .int .u64 r, .int .u64 b] w fun e w' => e = .returned (.bool true) ∧ w = w' := by
  go_enter Try.func3, Try.ntmps3
  go_wp2_with (first
    | (go_at_call 12; refine (awake18 _).mono ?_; rintro e w' ⟨rfl, rfl⟩)
    | (go_at_call 13; refine (of_any s r hs hs' hr _).mono ?_; rintro e w' ⟨rfl, rfl⟩)
    | (go_at_call 14; refine (rof_any s r hs hs' hr _).mono ?_; rintro e w' ⟨rfl, rfl⟩)
    | (go_at_call 15; refine (lesser_any r b hr hb _).mono ?_; rintro e w' ⟨rfl, rfl⟩)
    | (go_at_call 16; refine (rlesser_any r b hr hb _).mono ?_; rintro e w' ⟨rfl, rfl⟩))
  go_ret
  exact ⟨rfl, rfl⟩

/-! plain facts on delayOf -/
theorem delayOf_nat (n r : Nat) : delayOf n r = if n = 0 then 0 else if r = 18446744073709551615 then 0 else min (mulDiv n 1000000000 r) 1000000000 := by
  unfold delayOf
  rw [Int.toNat_natCast]
  by_cases h : n = 0
  · subst h; rfl
  · rw [if_neg (by omega), if_neg h]
theorem delayOf_mono {n m r : Nat} (h : n ≤ m) : delayOf n r ≤ delayOf m r := by
  rw [delayOf_nat, delayOf_nat]
  have := mulDiv_mono (c := r) h (Nat.le_refl 1000000000)
  by_cases h0 : n = 0
  · rw [if_pos h0]; omega
  · have hm : ¬ m = 0 := by omega
    rw [if_neg h0, if_neg hm]
    split <;> omega
theorem div_add_two (x y r : Nat) (h2 : 0 < r) : x / r + y / r ≤ (x + y) / r ∧ (x + y) / r ≤ x / r + y / r + 1 := by
  have e1 := Nat.div_add_mod x r
  have e2 := Nat.div_add_mod y r
  have l1 := Nat.mod_lt x h2
  have l2 := Nat.mod_lt y h2
  have e3 : x + y = r * (x / r + y / r) + (x % r + y % r) := by rw [Nat.mul_add]; omega
  have e4 : (x + y) / r = (x / r + y / r) + (x % r + y % r) / r := by rw [e3, Nat.mul_add_div h2]
  have e5 : (x % r + y % r) / r ≤ 1 := by
    rw [← Nat.lt_succ_iff, Nat.div_lt_iff_lt_mul h2]; omega
  rw [e4]
  generalize (x % r + y % r) / r = t at *
  generalize x / r = q1 at *
  generalize y / r = q2 at *
  exact ⟨by omega, by omega⟩
theorem add_core (A B C top K : Nat) (hK : K ≤ top) (h : min (min top C) K ≠ K) (e : A + B ≤ C ∧ C ≤ A + B + 1) :
    min (min top A) K + min (min top B) K ≤ min (min top C) K ∧ min (min top C) K ≤ min (min top A) K + min (min top B) K + 1 := by omega
theorem delayOf_anti {n r r' : Nat} (h : r ≤ r') (hr : r' ≤ 18446744073709551615) : delayOf n r' ≤ delayOf n r := by
  rw [delayOf_nat, delayOf_nat]
  by_cases h0 : n = 0
  · rw [if_pos h0, if_pos h0]; omega
  · rw [if_neg h0, if_neg h0]
    by_cases h1 : r' = 18446744073709551615
    · rw [if_pos h1]; omega
    · rw [if_neg h1, if_neg (by omega)]
      rcases Nat.eq_zero_or_pos r with h2 | h2
      · subst h2
        have : mulDiv n 1000000000 0 = 18446744073709551615 := by rw [mulDiv_none, if_neg (by omega)]
        omega
      · have := mulDiv_anti (a := n) (b := 1000000000) h2 h
        omega
theorem delayOf_add {n m r : Nat} (h : delayOf (n + m : Nat) r ≠ 1000000000) : delayOf n r + delayOf m r ≤ delayOf (n + m : Nat) r ∧ delayOf (n + m : Nat) r ≤ delayOf n r + delayOf m r + 1 := by
  rw [delayOf_nat, delayOf_nat, delayOf_nat] at *
  by_cases h1 : r = 18446744073709551615
  · simp [h1]
  · simp only [if_neg h1] at *
    by_cases hn : n = 0
    · subst hn; simp
    · by_cases hm : m = 0
      · subst hm; simp
      · rw [if_neg (by omega)] at h
        rw [if_neg hn, if_neg hm, if_neg (by omega)]
        rcases Nat.eq_zero_or_pos r with h2 | h2
        · subst h2
          rw [mulDiv_none, if_neg (by omega)] at h
          omega
        · have e := div_add_two (n * 1000000000) (m * 1000000000) r h2
          rw [← Nat.add_mul] at e
          rw [mulDiv_min h2] at h
          rw [mulDiv_min h2, mulDiv_min h2, mulDiv_min h2]
          exact add_core _ _ _ _ _ (by omega) h e
end Go.Proofs.Ytfbcadfbmopnhaa
