/- Plain facts on hi64, lo64, dq, de, mulDiv: no program in sight. -/
import Derived.Test.YtgdbmjokpbjoaaaWide
namespace Go.Proofs.Ytgdbmjokpbjoaaa

theorem hi_le_iff {a b c : Nat} (hc : 0 < c) : c ≤ hi64 a b ↔ 18446744073709551616 ≤ a * b / c := by
  unfold hi64
  rw [Nat.le_div_iff_mul_le (by omega), Nat.le_div_iff_mul_le hc, Nat.mul_comm]

theorem mulDiv_min {a b c : Nat} (hc : 0 < c) : mulDiv a b c = min 18446744073709551615 (a * b / c) := by
  unfold mulDiv
  by_cases h0 : a * b = 0
  · rw [if_pos h0, h0]; simp
  · rw [if_neg h0]
    by_cases h1 : c ≤ hi64 a b
    · rw [if_pos h1]; have := (hi_le_iff hc).1 h1; omega
    · rw [if_neg h1]; have := mt (hi_le_iff hc).2 h1; omega
theorem mulDiv_none {a b : Nat} : mulDiv a b 0 = if a * b = 0 then 0 else 18446744073709551615 := by
  unfold mulDiv; simp
theorem mulDiv_le (a b c : Nat) : mulDiv a b c ≤ 18446744073709551615 := by
  rcases Nat.eq_zero_or_pos c with rfl | h
  · rw [mulDiv_none]; split <;> omega
  · rw [mulDiv_min h]; omega
theorem mulDiv_lt (a b c : Nat) : mulDiv a b c < 18446744073709551616 := by have := mulDiv_le a b c; omega
theorem mulDiv_mono {a a' b b' c : Nat} (h : a ≤ a') (h' : b ≤ b') : mulDiv a b c ≤ mulDiv a' b' c := by
  have hm : a * b ≤ a' * b' := Nat.mul_le_mul h h'
  rcases Nat.eq_zero_or_pos c with rfl | hc
  · rw [mulDiv_none, mulDiv_none]; split <;> split <;> omega
  · rw [mulDiv_min hc, mulDiv_min hc]
    have := Nat.div_le_div_right (c := c) hm
    omega
theorem mulDiv_comm (a b c : Nat) : mulDiv a b c = mulDiv b a c := by
  unfold mulDiv hi64; rw [Nat.mul_comm]
theorem mulDiv_self {a b : Nat} (ha : a < 18446744073709551616) (hb : 0 < b) : mulDiv a b b = a := by
  rw [mulDiv_min hb, Nat.mul_div_cancel _ hb]; omega
theorem mulDiv_anti {a b c d : Nat} (hc : 0 < c) (h : c ≤ d) : mulDiv a b d ≤ mulDiv a b c := by
  rw [mulDiv_min hc, mulDiv_min (by omega)]
  have := Nat.div_le_div_left (a := a * b) h hc
  omega
theorem dq_eq {a b c : Nat} (h : de (hi64 a b) c = 0) : 0 < c ∧ hi64 a b < c ∧ dq (hi64 a b) (lo64 a b) c = a * b / c := by
  have h3 := hl64 a b
  have h5 : ¬ c = 0 ∧ ¬ c ≤ hi64 a b := by
    unfold de at h
    refine ⟨fun e => by simp [e] at h, fun e => ?_⟩
    by_cases hc : c = 0 <;> simp [hc, e] at h
  refine ⟨by omega, by omega, ?_⟩
  simp [dq, h5.1, h5.2, h3]

/-! The contracts over Int: whatever stands at the call, a cast or a numeral. -/
section
open Go.RowKit Go.Lib
def W64 (a : Int) : Prop := 0 ≤ a ∧ a < 18446744073709551616
theorem W64.of_nat {n : Nat} (h : n < 18446744073709551616) : W64 (n : Int) := ⟨by omega, by omega⟩
theorem W64.nat {a : Int} (h : W64 a) : ∃ n : Nat, a = n ∧ n < 18446744073709551616 := ⟨a.toNat, by have := h.1; omega, by have := h.2; have := h.1; omega⟩
theorem mul_i (a b : Int) (ha : W64 a) (hb : W64 b) (w : World) :
    Calls Try.prog 46 #[.int .u64 a, .int .u64 b] w fun e w' => e = .returned (.tuple #[.int .u64 (hi64 a.toNat b.toNat : Nat), .int .u64 (lo64 a.toNat b.toNat : Nat)]) ∧ w = w' := by
  obtain ⟨a, rfl, ka⟩ := ha.nat
  obtain ⟨b, rfl, kb⟩ := hb.nat
  exact mul_any a b ka kb w
theorem div_i (a b c : Int) (ha : W64 a) (hb : W64 b) (hc : W64 c) (w : World) :
    Calls Try.prog 47 #[.int .u64 a, .int .u64 b, .int .u64 c] w fun e w' => e = .returned (.tuple #[.int .u64 (dq a.toNat b.toNat c.toNat : Nat), .int .i64 (de a.toNat c.toNat : Nat)]) ∧ w = w' := by
  obtain ⟨a, rfl, ka⟩ := ha.nat
  obtain ⟨b, rfl, kb⟩ := hb.nat
  obtain ⟨c, rfl, kc⟩ := hc.nat
  exact div_all a b c kb kc w
theorem muldiv_i (a b c : Int) (ha : W64 a) (hb : W64 b) (hc : W64 c) (w : World) :
    Calls Try.prog 42 #[.int .u64 a, .int .u64 b, .int .u64 c] w fun e w' => e = .returned (.int .u64 (mulDiv a.toNat b.toNat c.toNat : Nat)) ∧ w = w' := by
  obtain ⟨a, rfl, ka⟩ := ha.nat
  obtain ⟨b, rfl, kb⟩ := hb.nat
  obtain ⟨c, rfl, kc⟩ := hc.nat
  exact muldiv_any a b c ka kb kc w
theorem rmuldiv_i (a b c : Int) (ha : W64 a) (hb : W64 b) (hc : W64 c) (w : World) :
    Calls Try.prog 43 #[.int .u64 a, .int .u64 b, .int .u64 c] w fun e w' => e = .returned (.int .u64 (mulDiv a.toNat b.toNat c.toNat : Nat)) ∧ w = w' := by
  obtain ⟨a, rfl, ka⟩ := ha.nat
  obtain ⟨b, rfl, kb⟩ := hb.nat
  obtain ⟨c, rfl, kc⟩ := hc.nat
  exact rmuldiv_any a b c ka kb kc w
end
end Go.Proofs.Ytgdbmjokpbjoaaa
