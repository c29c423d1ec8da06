/- The contracts of sat.Add, sat.Sub, sat.Mul and of their references: held sums, differences, products. -/
import Derived.Test.YtojgpgjmcamfoaaBase
import Derived.Lib.Hide
import Derived.Outline
import Derived.WalkKit
import Derived.WalkMore
import Derived.Laws.Externs
import Derived.Test.YtojgpgjmcamfoaaMulDiv
namespace Go.Proofs.Ytojgpgjmcamfoaa
open Go.RowKit Go.Lib

theorem ret64 {k : IntKind} {a b : Int} (h : a = b) : Ending.returned (.int k a) = .returned (.int k b) := by rw [h]

def satAdd (a b : Nat) : Nat := if a + b < 18446744073709551616 then a + b else 18446744073709551615
theorem satAdd_lt {a b : Nat} : satAdd a b < 18446744073709551616 := by unfold satAdd; split <;> omega
theorem satAdd_eq (a b : Nat) : satAdd a b = min (a + b) 18446744073709551615 := by unfold satAdd; split <;> omega
def satSub (a b : Nat) : Nat := a - b
theorem satSub_lt {a b : Nat} (h : a < 18446744073709551616) : satSub a b < 18446744073709551616 := by unfold satSub; omega
def satMul (a b : Nat) : Nat := if a * b < 18446744073709551616 then a * b else 18446744073709551615
theorem satMul_lt {a b : Nat} : satMul a b < 18446744073709551616 := by unfold satMul; split <;> omega
theorem satMul_eq (a b : Nat) : satMul a b = min (a * b) 18446744073709551615 := by unfold satMul; split <;> omega

theorem u64_of {a : Int} (h : (Lit.int .u64 a).wf = true) : ∃ n : Nat, a = n ∧ n < 18446744073709551616 := by
  have h2 := bounds_u64 h
  exact ⟨a.toNat, by omega, by omega⟩

theorem add64_run (x y : Nat) (w : World) : (callFunc 57 #[.int .u64 x, .int .u64 y, .int .u64 0]).run Try.prog w =
    .ok (.value (.tuple #[.int .u64 (((x + y) % 18446744073709551616 : Nat) : Int), .int .u64 (((x + y) / 18446744073709551616 : Nat) : Int)])) w := by
  rw [run_callFunc_extern Try.func57 (by kernel_rfl) (by kernel_rfl) (by kernel_rfl) (e := add64Entry) (by kernel_rfl), run_add64 x y 0 (by omega) (by omega) (by omega) (by omega)]
  simp only [Result.andThen]
  congr 5 <;> omega
/-- the same, by what it comes to -/
theorem add64_low (x y : Nat) (h : x + y < 18446744073709551616) (w : World) : (callFunc 57 #[.int .u64 x, .int .u64 y, .int .u64 0]).run Try.prog w =
    .ok (.value (.tuple #[.int .u64 ((x + y : Nat) : Int), .int .u64 0])) w := by
  rw [add64_run, Nat.mod_eq_of_lt h, Nat.div_eq_of_lt h]; rfl
theorem add64_high (x y : Nat) (hx : x < 18446744073709551616) (hy : y < 18446744073709551616) (h : ¬ x + y < 18446744073709551616) (w : World) : (callFunc 57 #[.int .u64 x, .int .u64 y, .int .u64 0]).run Try.prog w =
    .ok (.value (.tuple #[.int .u64 ((x + y - 18446744073709551616 : Nat) : Int), .int .u64 1])) w := by
  rw [add64_run, show (x + y) / 18446744073709551616 = 1 from by omega, show (x + y) % 18446744073709551616 = x + y - 18446744073709551616 from by omega]; rfl

theorem add_any (a b : Nat) (ha : a < 18446744073709551616) (hb : b < 18446744073709551616) (w : World) :
    Calls Try.prog 41 #[.int .u64 a, .int .u64 b] w fun e w' => e = .returned (.int .u64 (satAdd a b : Nat)) ∧ w = w' := by
  unfold satAdd
  by_cases h : a + b < 18446744073709551616
  · rw [if_pos h]
    have hr := add64_low a b h
    generalize a + b = s at *
    go_enter Try.func41, Try.ntmps41
    go_wp2
    go_ret
    exact ⟨rfl, rfl⟩
  · rw [if_neg h]
    have hr := add64_high a b ha hb h
    generalize a + b - 18446744073709551616 = s at *
    clear h
    go_enter Try.func41, Try.ntmps41
    go_wp2
    go_ret
    exact ⟨rfl, rfl⟩
theorem radd_any (a b : Nat) (ha : a < 18446744073709551616) (hb : b < 18446744073709551616) (w : World) :
    Calls Try.prog 44 #[.int .u64 a, .int .u64 b] w fun e w' => e = .returned (.int .u64 (satAdd a b : Nat)) ∧ w = w' := by
  unfold satAdd
  by_cases h : a + b < 18446744073709551616
  · rw [if_pos h]
    go_enter Try.func44, Try.ntmps44
    go_wp2
    go_ret
    exact ⟨by simp, rfl⟩
  · rw [if_neg h]
    go_enter Try.func44, Try.ntmps44
    go_wp2
    go_ret
    exact ⟨rfl, rfl⟩
theorem sub_any (a b : Nat) (ha : a < 18446744073709551616) (hb : b < 18446744073709551616) (w : World) :
    Calls Try.prog 42 #[.int .u64 a, .int .u64 b] w fun e w' => e = .returned (.int .u64 (satSub a b : Nat)) ∧ w = w' := by
  unfold satSub
  rcases Nat.le_total a b with h | h
  · rw [Nat.sub_eq_zero_of_le h]
    go_enter Try.func42, Try.ntmps42
    go_wp2
    go_ret
    exact ⟨rfl, rfl⟩
  · rw [show ((a - b : Nat) : Int) = (a : Int) - b from by omega]
    go_enter Try.func42, Try.ntmps42
    go_wp2
    all_goals go_ret
    all_goals exact ⟨ret64 (by omega), rfl⟩
theorem rsub_any (a b : Nat) (ha : a < 18446744073709551616) (hb : b < 18446744073709551616) (w : World) :
    Calls Try.prog 45 #[.int .u64 a, .int .u64 b] w fun e w' => e = .returned (.int .u64 (satSub a b : Nat)) ∧ w = w' := by
  unfold satSub
  by_cases h : a < b
  · rw [Nat.sub_eq_zero_of_le (by omega)]
    go_enter Try.func45, Try.ntmps45
    go_wp2
    go_ret
    exact ⟨rfl, rfl⟩
  · rw [show ((a - b : Nat) : Int) = (a : Int) - b from by omega]
    go_enter Try.func45, Try.ntmps45
    go_wp2
    all_goals go_ret
    all_goals exact ⟨rfl, rfl⟩
end Go.Proofs.Ytojgpgjmcamfoaa
