/- The awake of the statements on sat. -/
import Derived.Test.YtgdbmjokpbjoaaaSum
import Derived.Below
namespace Go.Proofs.Ytgdbmjokpbjoaaa
open Go.RowKit Go.Lib
set_option linter.unusedVariables false

theorem awake01 (w : World) : Calls Try.prog 14 #[] w fun e w' => e = .returned (.bool true) ∧ Below w.heap.size w w' := by
  have c1 : ∀ w b, w.cell? ⟨b, 0, none⟩ = some (.int .u64 1) → w.cell? ⟨b, 1, none⟩ = some (.int .u64 2) → b < w.heap.size → Calls Try.prog 16 #[.slice (some ⟨b, 0, none⟩) 2 2] w fun e w' => e = .returned (.tuple #[.int .u64 3, .int .i64 0]) ∧ w = w' := fun w b h0 h1 hb =>
    sum_any (some ⟨b, 0, none⟩) [1, 2] 2 w ⟨by simp, by simp, fun _ => ⟨b, 0, rfl, hb, fun j hj => by
      have : j = 0 ∨ j = 1 := by simp at hj; omega
      rcases this with rfl | rfl
      · exact h0
      · exact h1⟩⟩
  have c2 : ∀ w, Calls Try.prog 18 #[.int .u64 1, .int .u64 2] w fun e w' => e = .returned (.int .u64 3) ∧ w = w' := fun w => add_any 1 2 (by omega) (by omega) w
  have c3 : ∀ w, Calls Try.prog 22 #[.int .u64 2, .int .u64 3] w fun e w' => e = .returned (.int .u64 6) ∧ w = w' := fun w => smul_any 2 3 (by omega) (by omega) w
  have c4 : ∀ w, Calls Try.prog 20 #[.int .u64 3, .int .u64 2] w fun e w' => e = .returned (.int .u64 1) ∧ w = w' := fun w => sub_any 3 2 (by omega) (by omega) w
  have c5 : ∀ w, Calls Try.prog 24 #[.int .u64 7] w fun e w' => e = .returned (.int .i64 7) ∧ w = w' := fun w => by
    have h := int_any 7 (by omega) w
    rw [show satInt 7 = 7 from by decide] at h
    exact h
  have H1 := Lib.hid c1
  have H2 := Lib.hid c2
  have H3 := Lib.hid c3
  have H4 := Lib.hid c4
  have H5 := Lib.hid c5
  clear c1 c2 c3 c4 c5
  go_enter Try.func14, Try.ntmps14
  go_wp2_with fail
  refine (H1.out _ _ (by simp [go_sem]) (by simp [go_sem]) (by simp)).mono ?_; rintro e w' ⟨rfl, rfl⟩
  go_wp2_with fail
  refine (H2.out _).mono ?_; rintro e w' ⟨rfl, rfl⟩
  go_wp2_with fail
  refine (H3.out _).mono ?_; rintro e w' ⟨rfl, rfl⟩
  go_wp2_with fail
  refine (H4.out _).mono ?_; rintro e w' ⟨rfl, rfl⟩
  go_wp2_with fail
  refine (H5.out _).mono ?_; rintro e w' ⟨rfl, rfl⟩
  go_wp2
  go_ret
  exact ⟨rfl, (Below.refl _ _).alloc (Nat.le_refl _) _⟩
end Go.Proofs.Ytgdbmjokpbjoaaa
