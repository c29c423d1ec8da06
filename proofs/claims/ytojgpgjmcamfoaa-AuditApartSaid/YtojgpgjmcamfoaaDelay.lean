/- The contracts of delay.Of, delay.Lesser and of their references. -/
import Derived.Test.YtojgpgjmcamfoaaSat
import Derived.WalkSpells
namespace Go.Proofs.Ytojgpgjmcamfoaa
open Go.RowKit Go.Lib

def delayOf (s : Int) (r : Nat) : Nat := if s < 1 then 0 else if r = 18446744073709551615 then 0 else min (mulDiv s.toNat 1000000000 r) 1000000000
theorem delayOf_le (s : Int) (r : Nat) : delayOf s r ≤ 1000000000 := by unfold delayOf; split <;> (try split) <;> omega

theorem of_any (s : Int) (r : Nat) (hs : s ≤ 9223372036854775807) (hs' : -9223372036854775808 ≤ s) (hr : r < 18446744073709551616) (w : World) :
    Calls Try.prog 49 #[.int .i64 s, .int .u64 r] w fun e w' => e = .returned (.int .u64 (delayOf s r : Nat)) ∧ w = w' := by
  unfold delayOf
  by_cases h1 : s < 1
  · rw [if_pos h1]
    go_enter Try.func49, Try.ntmps49
    go_wp2
    go_ret
    exact ⟨rfl, rfl⟩
  · rw [if_neg h1]
    obtain ⟨n, rfl⟩ := Int.eq_ofNat_of_zero_le (show 0 ≤ s from by omega)
    by_cases h2 : r = 18446744073709551615
    · rw [if_pos h2]
      subst h2
      go_enter Try.func49, Try.ntmps49
      go_wp2
      go_ret
      exact ⟨rfl, rfl⟩
    · rw [if_neg h2]
      have y : ((r : Int) == 18446744073709551615) = false := by rw [beq_eq_false_iff_ne]; omega
      clear h2
      have C : ∀ w, Calls Try.prog 58 #[.int .u64 n, .int .u64 1000000000, .int .u64 r] w fun e w' => e = .returned (.int .u64 (mulDiv n 1000000000 r : Nat)) ∧ w = w' :=
        fun w => muldiv_any n 1000000000 r (by omega) (by omega) hr w
      have HC := Lib.hid C
      clear C
      rw [Int.toNat_natCast]
      generalize mulDiv n 1000000000 r = m at *
      go_enter Try.func49, Try.ntmps49
      go_wp2_with (go_at_call 58; refine (HC.out _).mono ?_; rintro e w' ⟨rfl, rfl⟩)
      all_goals go_ret
      all_goals exact ⟨ret64 (by omega), rfl⟩
theorem rof_any (s : Int) (r : Nat) (hs : s ≤ 9223372036854775807) (hs' : -9223372036854775808 ≤ s) (hr : r < 18446744073709551616) (w : World) :
    Calls Try.prog 50 #[.int .i64 s, .int .u64 r] w fun e w' => e = .returned (.int .u64 (delayOf s r : Nat)) ∧ w = w' := by
  unfold delayOf
  by_cases h1 : s < 1
  · rw [if_pos h1]
    go_enter Try.func50, Try.ntmps50
    go_wp2
    go_ret
    exact ⟨rfl, rfl⟩
  · rw [if_neg h1]
    obtain ⟨n, rfl⟩ := Int.eq_ofNat_of_zero_le (show 0 ≤ s from by omega)
    by_cases h2 : r = 18446744073709551615
    · rw [if_pos h2]
      subst h2
      go_enter Try.func50, Try.ntmps50
      go_wp2
      go_ret
      exact ⟨rfl, rfl⟩
    · rw [if_neg h2]
      have y : ((r : Int) == 18446744073709551615) = false := by rw [beq_eq_false_iff_ne]; omega
      clear h2
      have C : ∀ w, Calls Try.prog 59 #[.int .u64 n, .int .u64 1000000000, .int .u64 r] w fun e w' => e = .returned (.int .u64 (mulDiv n 1000000000 r : Nat)) ∧ w = w' :=
        fun w => rmuldiv_any n 1000000000 r (by omega) (by omega) hr w
      have HC := Lib.hid C
      clear C
      rw [Int.toNat_natCast]
      generalize mulDiv n 1000000000 r = m at *
      go_enter Try.func50, Try.ntmps50
      go_wp2_with (go_at_call 59; refine (HC.out _).mono ?_; rintro e w' ⟨rfl, rfl⟩)
      all_goals go_ret
      all_goals exact ⟨ret64 (by omega), rfl⟩

theorem eq0 {a : Nat} (h : ((a : Int) == 0) = true) : a = 0 := by simpa using h
theorem ne0 {a : Nat} (h : ((a : Int) == 0) = false) : ¬ a = 0 := by simpa using h
theorem val64 {k : IntKind} {a b : Int} (h : a = b) : Value.int k a = .int k b := by rw [h]
def nz (a : Nat) : Nat := if a = 0 then 18446744073709551615 else a
def les (a b : Nat) : Nat := min (nz a) (nz b)
end Go.Proofs.Ytojgpgjmcamfoaa
