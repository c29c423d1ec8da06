-- plain math of 128 by 64 division, bit by bit
namespace Go.Proofs.Ytgdbmjokpbjoaaa.DivMath

/-- what is still to come: the answer out of a state with d rounds left -/
def R (d c hi lo q : Nat) : Nat := q * 2 ^ d + (hi * 2 ^ d + lo / 2 ^ (64 - d)) / c

theorem lo_step {d lo : Nat} (hd : d < 64) (_ : lo < 18446744073709551616) :
    lo / 2 ^ (64 - (d + 1)) = (lo / 9223372036854775808) * 2 ^ d + (2 * lo % 18446744073709551616) / 2 ^ (64 - d) := by
  have e1 : 64 - d = (64 - (d + 1)) + 1 := by omega
  have e2 : 2 * lo % 18446744073709551616 = (lo % 9223372036854775808) * 2 := by omega
  have e3 : lo = 2 ^ (64 - (d + 1)) * (2 ^ d * (lo / 9223372036854775808)) + lo % 9223372036854775808 := by
    rw [← Nat.mul_assoc, ← Nat.pow_add, show 64 - (d + 1) + d = 63 from by omega]
    have := Nat.div_add_mod lo 9223372036854775808
    omega
  rw [e1, Nat.pow_succ, e2, Nat.mul_div_mul_right _ _ (by omega)]
  generalize hb : lo / 9223372036854775808 = b at *
  generalize hl : lo % 9223372036854775808 = l at *
  rw [e3, Nat.mul_add_div (Nat.pos_of_ne_zero (by simp)), Nat.mul_comm]

theorem R_step {d c hi lo q : Nat} (hd : d < 64) (hlo : lo < 18446744073709551616) (hc : 0 < c) :
    R (d + 1) c hi lo q =
      if 2 * hi + lo / 9223372036854775808 < c then R d c (2 * hi + lo / 9223372036854775808) (2 * lo % 18446744073709551616) (2 * q)
      else R d c (2 * hi + lo / 9223372036854775808 - c) (2 * lo % 18446744073709551616) (2 * q + 1) := by
  have h0 := lo_step hd hlo
  unfold R
  rw [h0]
  generalize lo / 9223372036854775808 = b
  generalize (2 * lo % 18446744073709551616) / 2 ^ (64 - d) = t
  have e : hi * 2 ^ (d + 1) + (b * 2 ^ d + t) = (2 * hi + b) * 2 ^ d + t := by
    rw [Nat.pow_succ, Nat.add_mul, Nat.mul_comm 2 hi, Nat.mul_assoc hi 2, Nat.mul_comm 2 (2 ^ d)]; omega
  have eq : q * 2 ^ (d + 1) = 2 * q * 2 ^ d := by
    rw [Nat.pow_succ, Nat.mul_comm 2 q, Nat.mul_assoc q 2, Nat.mul_comm 2 (2 ^ d)]
  rw [e, eq]
  generalize 2 * hi + b = N
  by_cases h : N < c
  · rw [if_pos h]
  · rw [if_neg h]
    have e4 : N * 2 ^ d + t = c * 2 ^ d + ((N - c) * 2 ^ d + t) := by
      rw [← Nat.add_assoc, ← Nat.add_mul, show c + (N - c) = N from by omega]
    rw [e4, Nat.mul_add_div hc, Nat.add_mul]
    omega

theorem R_zero {c hi lo q : Nat} (hlo : lo < 18446744073709551616) (hh : hi < c) : R 0 c hi lo q = q := by
  unfold R
  rw [Nat.div_eq_of_lt (a := lo) (by simpa using hlo)]
  simp [Nat.div_eq_of_lt hh]

theorem R_all (c hi lo : Nat) : R 64 c hi lo 0 = (hi * 18446744073709551616 + lo) / c := by
  unfold R; simp

theorem R_lt {c hi lo : Nat} (hlo : lo < 18446744073709551616) (hh : hi < c) : R 64 c hi lo 0 < 18446744073709551616 := by
  rw [R_all, Nat.div_lt_iff_lt_mul (by omega)]
  have : (hi + 1) * 18446744073709551616 ≤ c * 18446744073709551616 := Nat.mul_le_mul_right _ hh
  omega

theorem R_q {d c hi lo q B : Nat} (h : R d c hi lo q < B) : q * 2 ^ d < B := by
  unfold R at h
  exact Nat.lt_of_le_of_lt (Nat.le_add_right _ _) h

theorem R_q2 {d c hi lo q B : Nat} (h : R d c hi lo q < B) : q < B :=
  Nat.lt_of_le_of_lt (Nat.le_mul_of_pos_right q (Nat.two_pow_pos d)) (R_q h)
end Go.Proofs.Ytgdbmjokpbjoaaa.DivMath
