/- The contracts of sat.Add, sat.Sub, sat.Mul and of their references: held sums, differences, products. -/
import Derived.Test.YtgdbmjokpbjoaaaBase
import Derived.Lib.Hide
import Derived.Outline
import Derived.WalkKit
import Derived.WalkMore
import Derived.Laws.Externs
import Derived.Test.YtgdbmjokpbjoaaaMulDiv
namespace Go.Proofs.Ytgdbmjokpbjoaaa
open Go.RowKit Go.Lib

theorem ret64 {k : IntKind} {a b : Int} (h : a = b) : Ending.returned (.int k a) = .returned (.int k b) := by rw [h]

def satAdd (a b : Nat) : Nat := if a + b < 18446744073709551616 then a + b else 18446744073709551615
theorem satAdd_lt {a b : Nat} : satAdd a b < 18446744073709551616 := by unfold satAdd; split <;> omega
theorem satAdd_eq (a b : Nat) : satAdd a b = min (a + b) 18446744073709551615 := by unfold satAdd; split <;> omega
def satSub (a b : Nat) : Nat := a - b
theorem satSub_lt {a b : Nat} (h : a < 18446744073709551616) : satSub a b < 18446744073709551616 := by unfold satSub; omega
def satMul (a b : Nat) : Nat := if a * b < 18446744073709551616 then a * b else 18446744073709551615
theorem satMul_lt {a b : Nat} : satMul a b < 18446744073709551616 := by unfold satMul; split <;> omega
theorem satMul_eq (a b : Nat) : satMul a b = min (a * b) 18446744073709551615 := by unfold satMul; split <;> omega

theorem u64_of {a : Int} (h : (Lit.int .u64 a).wf = true) : ∃ n : Nat, a = n ∧ n < 18446744073709551616 := by
  have h2 := bounds_u64 h
  exact ⟨a.toNat, by omega, by omega⟩

theorem add64_run (x y : Nat) (w : World) : (callFunc 38 #[.int .u64 x, .int .u64 y, .int .u64 0]).run Try.prog w =
    .ok (.value (.tuple #[.int .u64 (((x + y) % 18446744073709551616 : Nat) : Int), .int .u64 (((x + y) / 18446744073709551616 : Nat) : Int)])) w := by
  rw [run_callFunc_extern Try.func38 (by kernel_rfl) (by kernel_rfl) (by kernel_rfl) (e := add64Entry) (by kernel_rfl), run_add64 x y 0 (by omega) (by omega) (by omega) (by omega)]
  simp only [Result.andThen]
  congr 5 <;> omega
/-- the same, by what it comes to -/
theorem add64_low (x y : Nat) (h : x + y < 18446744073709551616) (w : World) : (callFunc 38 #[.int .u64 x, .int .u64 y, .int .u64 0]).run Try.prog w =
    .ok (.value (.tuple #[.int .u64 ((x + y : Nat) : Int), .int .u64 0])) w := by
  rw [add64_run, Nat.mod_eq_of_lt h, Nat.div_eq_of_lt h]; rfl
theorem add64_high (x y : Nat) (hx : x < 18446744073709551616) (hy : y < 18446744073709551616) (h : ¬ x + y < 18446744073709551616) (w : World) : (callFunc 38 #[.int .u64 x, .int .u64 y, .int .u64 0]).run Try.prog w =
    .ok (.value (.tuple #[.int .u64 ((x + y - 18446744073709551616 : Nat) : Int), .int .u64 1])) w := by
  rw [add64_run, show (x + y) / 18446744073709551616 = 1 from by omega, show (x + y) % 18446744073709551616 = x + y - 18446744073709551616 from by omega]; rfl

theorem add_any (a b : Nat) (ha : a < 18446744073709551616) (hb : b < 18446744073709551616) (w : World) :
    Calls Try.prog 18 #[.int .u64 a, .int .u64 b] w fun e w' => e = .returned (.int .u64 (satAdd a b : Nat)) ∧ w = w' := by
  unfold satAdd
  by_cases h : a + b < 18446744073709551616
  · rw [if_pos h]
    have hr := add64_low a b h
    generalize a + b = s at *
    go_enter Try.func18, Try.ntmps18
    go_wp2
    go_ret
    exact ⟨rfl, rfl⟩
  · rw [if_neg h]
    have hr := add64_high a b ha hb h
    generalize a + b - 18446744073709551616 = s at *
    clear h
    go_enter Try.func18, Try.ntmps18
    go_wp2
    go_ret
    exact ⟨rfl, rfl⟩
theorem radd_any (a b : Nat) (ha : a < 18446744073709551616) (hb : b < 18446744073709551616) (w : World) :
    Calls Try.prog 19 #[.int .u64 a, .int .u64 b] w fun e w' => e = .returned (.int .u64 (satAdd a b : Nat)) ∧ w = w' := by
  unfold satAdd
  by_cases h : a + b < 18446744073709551616
  · rw [if_pos h]
    go_enter Try.func19, Try.ntmps19
    go_wp2
    go_ret
    exact ⟨by simp, rfl⟩
  · rw [if_neg h]
    go_enter Try.func19, Try.ntmps19
    go_wp2
    go_ret
    exact ⟨rfl, rfl⟩
theorem sub_any (a b : Nat) (ha : a < 18446744073709551616) (hb : b < 18446744073709551616) (w : World) :
    Calls Try.prog 20 #[.int .u64 a, .int .u64 b] w fun e w' => e = .returned (.int .u64 (satSub a b : Nat)) ∧ w = w' := by
  unfold satSub
  rcases Nat.le_total a b with h | h
  · rw [Nat.sub_eq_zero_of_le h]
    go_enter Try.func20, Try.ntmps20
    go_wp2
    go_ret
    exact ⟨rfl, rfl⟩
  · rw [show ((a - b : Nat) : Int) = (a : Int) - b from by omega]
    go_enter Try.func20, Try.ntmps20
    go_wp2
    all_goals go_ret
    all_goals exact ⟨ret64 (by omega), rfl⟩
theorem rsub_any (a b : Nat) (ha : a < 18446744073709551616) (hb : b < 18446744073709551616) (w : World) :
    Calls Try.prog 21 #[.int .u64 a, .int .u64 b] w fun e w' => e = .returned (.int .u64 (satSub a b : Nat)) ∧ w = w' := by
  unfold satSub
  by_cases h : a < b
  · rw [Nat.sub_eq_zero_of_le (by omega)]
    go_enter Try.func21, Try.ntmps21
    go_wp2
    go_ret
    exact ⟨rfl, rfl⟩
  · rw [show ((a - b : Nat) : Int) = (a : Int) - b from by omega]
    go_enter Try.func21, Try.ntmps21
    go_wp2
    all_goals go_ret
    all_goals exact ⟨rfl, rfl⟩
theorem satMul_low {a b : Nat} (h : hi64 a b = 0) : satMul a b = lo64 a b := by
  have h3 := hl64 a b
  have h4 := lo64_lt a b
  unfold satMul
  rw [if_pos (by omega)]; omega
theorem satMul_high {a b : Nat} (h : 0 < hi64 a b) : satMul a b = 18446744073709551615 := by
  have h3 := hl64 a b
  unfold satMul
  rw [if_neg (by omega)]
theorem smul_any (a b : Nat) (ha : a < 18446744073709551616) (hb : b < 18446744073709551616) (w : World) :
    Calls Try.prog 22 #[.int .u64 a, .int .u64 b] w fun e w' => e = .returned (.int .u64 (satMul a b : Nat)) ∧ w = w' := by
  have C := mul64_any a b ha hb w
  have e1 := satMul_low (a := a) (b := b)
  have e2 := satMul_high (a := a) (b := b)
  generalize hi64 a b = h at *
  generalize lo64 a b = l at *
  generalize satMul a b = r at *
  have HC := Lib.hid C
  clear C
  rcases Nat.eq_zero_or_pos h with rfl | hp
  · obtain rfl := e1 rfl
    clear e1 e2
    go_enter Try.func22, Try.ntmps22
    go_wp2_with (go_at_call 39; refine HC.out.mono ?_; rintro e w' ⟨rfl, rfl⟩)
    go_ret
    exact ⟨rfl, rfl⟩
  · obtain rfl := e2 hp
    clear e1 e2
    go_enter Try.func22, Try.ntmps22
    go_wp2_with (go_at_call 39; refine HC.out.mono ?_; rintro e w' ⟨rfl, rfl⟩)
    go_ret
    exact ⟨rfl, rfl⟩
theorem rmul_any (a b : Nat) (_ : a < 18446744073709551616) (hb : b < 18446744073709551616) (w : World) :
    Calls Try.prog 23 #[.int .u64 a, .int .u64 b] w fun e w' => e = .returned (.int .u64 (satMul a b : Nat)) ∧ w = w' := by
  unfold satMul
  rcases Nat.eq_zero_or_pos b with rfl | hp
  · rw [Nat.mul_zero, if_pos (by omega)]
    go_enter Try.func23, Try.ntmps23
    go_wp2
    go_ret
    exact ⟨rfl, rfl⟩
  · have y : ((b : Int) == 0) = false := by rw [beq_eq_false_iff_ne]; omega
    have hq : 18446744073709551615 / b < a ↔ ¬ a * b < 18446744073709551616 := by
      rw [Nat.div_lt_iff_lt_mul hp]; omega
    obtain ⟨q, hq1⟩ : ∃ q : Nat, 18446744073709551615 / b = q := ⟨_, rfl⟩
    have hq2 : (18446744073709551615 : Int) / b = q := by rw [← hq1]; simp
    rw [hq1] at hq
    clear hq1
    by_cases h : a * b < 18446744073709551616
    · rw [if_pos h]
      have t1 : decide (q < a) = false := by simp; omega
      have t2 : IntKind.u64.wrap ((a : Int) * b) = ((a * b : Nat) : Int) := by
        rw [IntKind.wrap_u64, show (a : Int) * b = ((a * b : Nat) : Int) from by simp]; omega
      obtain ⟨P, hP⟩ : ∃ P : Nat, a * b = P := ⟨_, rfl⟩
      rw [hP] at t2 ⊢
      clear hq h hP
      go_enter Try.func23, Try.ntmps23
      go_wp2
      go_ret
      exact ⟨rfl, rfl⟩
    · rw [if_neg h]
      have t1 : decide (q < a) = true := by simp; omega
      clear hq h
      go_enter Try.func23, Try.ntmps23
      go_wp2
      go_ret
      exact ⟨rfl, rfl⟩
def satInt (a : Nat) : Nat := min a 9223372036854775807
theorem int_any (a : Nat) (ha : a < 18446744073709551616) (w : World) :
    Calls Try.prog 24 #[.int .u64 a] w fun e w' => e = .returned (.int .i64 (satInt a : Nat)) ∧ w = w' := by
  unfold satInt
  rcases Nat.lt_or_ge a 9223372036854775808 with h | h
  · rw [Nat.min_eq_left (by omega)]
    go_enter Try.func24, Try.ntmps24
    go_wp2
    all_goals go_ret
    all_goals exact ⟨ret64 (by omega), rfl⟩
  · rw [Nat.min_eq_right (by omega)]
    go_enter Try.func24, Try.ntmps24
    go_wp2
    all_goals go_ret
    all_goals exact ⟨rfl, rfl⟩
theorem rint_any (a : Nat) (ha : a < 18446744073709551616) (w : World) :
    Calls Try.prog 25 #[.int .u64 a] w fun e w' => e = .returned (.int .i64 (satInt a : Nat)) ∧ w = w' := by
  unfold satInt
  rcases Nat.lt_or_ge a 9223372036854775808 with h | h
  · rw [Nat.min_eq_left (by omega)]
    go_enter Try.func25, Try.ntmps25
    go_wp2
    all_goals go_ret
    all_goals exact ⟨ret64 (by omega), rfl⟩
  · rw [Nat.min_eq_right (by omega)]
    go_enter Try.func25, Try.ntmps25
    go_wp2
    all_goals go_ret
    all_goals exact ⟨rfl, rfl⟩
end Go.Proofs.Ytgdbmjokpbjoaaa
