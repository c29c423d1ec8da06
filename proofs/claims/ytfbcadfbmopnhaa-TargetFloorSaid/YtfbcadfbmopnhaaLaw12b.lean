/- The walks of TargetExact and TargetFloor. -/
import Derived.Test.YtfbcadfbmopnhaaLaw12
namespace Go.Proofs.Ytfbcadfbmopnhaa
open Go.RowKit Go.Lib
set_option linter.unusedVariables false

theorem targetExact_core (k0 m0 g0 k m g P Q R W : Nat) (ek : (k0 : Int) % 1000000 = k) (em : (m0 : Int) % 10000 = m) (eg : (g0 : Int) % 8 = g) (lk : k < 1000000) (lm : m < 10000) (lg : g < 8)
    (eP : (k : Int) * m = P) (eQ : (P : Int) * g = Q) (eR : (k : Int) * g = R) (lP : P < 10000000000) (lQ : Q < 80000000000) (lR : R < 8000000) (hW : Q ≤ W)
    (cB : ∀ w, Calls Try.prog 19 #[.int .u64 (k * 1000), .int .u64 (m * 1000000), .int .u64 (g * 256)] w fun e w' => e = .returned (.int .u64 Q) ∧ Below w.heap.size w w')
    (cR : ∀ w, Calls Try.prog 23 #[.int .u64 (k * 256), .int .u64 g] w fun e w' => e = .returned (.int .u64 R) ∧ Below w.heap.size w w')
    (cW : ∀ w, Calls Try.prog 21 #[.int .u64 (k * 1000), .int .u64 (1 + m * 1000000), .int .u64 (g * 256), .int .u64 0, .int .u64 0] w fun e w' => e = .returned (.int .u64 W) ∧ Below w.heap.size w w') (w : World) :
    Calls Try.prog 10 #[.int .u64 k0, .int .u64 m0, .int .u64 g0] w fun e w' => e = .returned (.bool true) ∧ Below w.heap.size w w' := by
  have CB := Lib.hid cB
  have CR := Lib.hid cR
  have CW := Lib.hid cW
  clear cB cR cW
  go_enter Try.func10, Try.ntmps10
  go_wp2_with fail
  refine (CB.out _).mono ?_; rintro e w1 ⟨rfl, b1⟩
  go_wp2_with fail
  refine (awake12 _).mono ?_; rintro e w2 ⟨rfl, b2⟩
  go_wp2_with fail
  refine (CR.out _).mono ?_; rintro e w3 ⟨rfl, b3⟩
  go_wp2_with fail
  refine (CW.out _).mono ?_; rintro e w4 ⟨rfl, b4⟩
  go_wp2
  go_ret
  exact ⟨rfl, bmore (bmore (bmore b1 b2) b3) b4⟩

theorem exact_facts12 (k m g : Nat) (lk : k < 1000000) (lm : m < 10000) (lg : g < 8) :
    k * m < 10000000000 ∧ k * m * g < 80000000000 ∧ k * g < 8000000 ∧ bdp (k * 1000) (m * 1000000) (g * 256) = k * m * g ∧ trate (k * 256) g = k * g ∧ k * m * g ≤ window (k * 1000) (1 + m * 1000000) (g * 256) 0 0 := by
  have l1 : k * m ≤ 999999 * 9999 := Nat.mul_le_mul (by omega) (by omega)
  have l2 : k * m * g ≤ 999999 * 9999 * 7 := Nat.mul_le_mul l1 (by omega)
  have l3 : k * g ≤ 999999 * 7 := Nat.mul_le_mul (by omega) (by omega)
  have e1 : mulDiv (k * 1000) (m * 1000000) 1000000000 = k * m := by
    rw [mulDiv_min (by omega), show k * 1000 * (m * 1000000) = k * m * 1000000000 from by rw [Nat.mul_mul_mul_comm], Nat.mul_div_cancel _ (by omega)]
    omega
  have e2 : bdp (k * 1000) (m * 1000000) (g * 256) = k * m * g := by
    unfold bdp
    rw [e1, mulDiv_min (by omega), ← Nat.mul_assoc, Nat.mul_div_cancel _ (by omega)]
    omega
  refine ⟨by omega, by omega, by omega, e2, ?_, ?_⟩
  · unfold trate
    rw [mulDiv_min (by omega), Nat.mul_right_comm, Nat.mul_div_cancel _ (by omega)]
    omega
  · have h1 : bdp (k * 1000) (m * 1000000) (g * 256) ≤ bdp (k * 1000) (1 + m * 1000000) (g * 256) := bdp_mono (Nat.le_refl _) (by omega) (Nat.le_refl _)
    have h2 := satAdd_le_left (bdp (k * 1000) (1 + m * 1000000) (g * 256)) (satMul 3 0) (bdp_lt _ _ _)
    unfold window
    rw [if_neg (by omega)]
    omega

theorem targetExact_any (k0 m0 g0 : Nat) (w : World) :
    Calls Try.prog 10 #[.int .u64 k0, .int .u64 m0, .int .u64 g0] w fun e w' => e = .returned (.bool true) ∧ Below w.heap.size w w' := by
  have lk : k0 % 1000000 < 1000000 := by omega
  have lm : m0 % 10000 < 10000 := by omega
  have lg : g0 % 8 < 8 := by omega
  have ek : (k0 : Int) % 1000000 = (k0 % 1000000 : Nat) := by omega
  have em : (m0 : Int) % 10000 = (m0 % 10000 : Nat) := by omega
  have eg : (g0 : Int) % 8 = (g0 % 8 : Nat) := by omega
  generalize k0 % 1000000 = k at *
  generalize m0 % 10000 = m at *
  generalize g0 % 8 = g at *
  obtain ⟨f1, f2, f3, f4, f5, f6⟩ := exact_facts12 k m g lk lm lg
  refine targetExact_core k0 m0 g0 k m g (k * m) (k * m * g) (k * g) _ ek em eg lk lm lg (by simp) (by simp) (by simp) f1 f2 f3 f6 (fun w => ?_) (fun w => ?_) (fun w => ?_) w
  · have h := bdp_any (k * 1000) (m * 1000000) (g * 256) (by omega) (by omega) (by omega) w
    rw [f4] at h
    exact h
  · have h := rate_any (k * 256) g (by omega) (by omega) w
    rw [f5] at h
    exact h
  · have h := window_any (k * 1000) (1 + m * 1000000) (g * 256) 0 0 (by omega) (by omega) (by omega) (by omega) (by omega) w
    exact h

theorem targetFloor_core (v x0 g t0 m0 x t m B S W : Int) (et : t0 % 1073741824 = t) (em : m0 % 1073741824 = m) (bt0 : 0 ≤ t0) (bm0 : 0 ≤ m0) (lt0 : 0 ≤ t) (lt : t < 1073741824) (lm0 : 0 ≤ m) (lm : m < 1073741824) (hx : x0 = 0 ∧ x = 1 ∨ x0 = 1 ∧ x = 1 ∨ 1 < x0 ∧ x = x0)
    (hB : 0 ≤ B) (hBW : B ≤ W) (htW : 3 * t ≤ W) (hmW : 4 * m ≤ W) (hor : W = 4 * m ∨ (W == 4 * m) = false ∧ W = S)
    (cN : ∀ w, Calls Try.prog 21 #[.int .u64 v, .int .u64 0, .int .u64 g, .int .u64 t, .int .u64 m] w fun e w' => e = .returned (.int .u64 (10 * m)) ∧ Below w.heap.size w w')
    (cW : ∀ w, Calls Try.prog 21 #[.int .u64 v, .int .u64 x, .int .u64 g, .int .u64 t, .int .u64 m] w fun e w' => e = .returned (.int .u64 W) ∧ Below w.heap.size w w')
    (cB : ∀ w, Calls Try.prog 19 #[.int .u64 v, .int .u64 x, .int .u64 g] w fun e w' => e = .returned (.int .u64 B) ∧ Below w.heap.size w w')
    (cS : ∀ w, Calls Try.prog 17 #[.int .u64 B, .int .u64 (3 * t)] w fun e w' => e = .returned (.int .u64 S) ∧ w = w') (w : World) :
    Calls Try.prog 11 #[.int .u64 v, .int .u64 x0, .int .u64 g, .int .u64 t0, .int .u64 m0] w fun e w' => e = .returned (.bool true) ∧ Below w.heap.size w w' := by
  have CN := Lib.hid cN
  have CW := Lib.hid cW
  have CB := Lib.hid cB
  have CS := Lib.hid cS
  clear cN cW cB cS
  rcases hx with ⟨rfl, rfl⟩ | ⟨rfl, rfl⟩ | ⟨hx, rfl⟩ <;> rcases hor with rfl | ⟨hw, rfl⟩
  all_goals
    go_enter Try.func11, Try.ntmps11
    go_wp2_with fail
    refine (CN.out _).mono ?_; rintro e w1 ⟨rfl, b1⟩
    go_wp2_with fail
    refine (CW.out _).mono ?_; rintro e w2 ⟨rfl, b2⟩
    go_wp2_with fail
    refine (CB.out _).mono ?_; rintro e w3 ⟨rfl, b3⟩
    go_wp2_with fail
    refine (awake12 _).mono ?_; rintro e w4 ⟨rfl, b4⟩
    go_wp2_with (go_at_call 17; refine (CS.out _).mono ?_; rintro e w5 ⟨rfl, rfl⟩)
    go_ret
    exact ⟨rfl, bmore (bmore (bmore b1 b2) b3) b4⟩

theorem targetFloor_any (v x0 g t0 m0 : Nat) (hv : v < 18446744073709551616) (hx : x0 < 18446744073709551616) (hg : g < 18446744073709551616) (w : World) :
    Calls Try.prog 11 #[.int .u64 v, .int .u64 x0, .int .u64 g, .int .u64 t0, .int .u64 m0] w fun e w' => e = .returned (.bool true) ∧ Below w.heap.size w w' := by
  have lt : t0 % 1073741824 < 1073741824 := by omega
  have lm : m0 % 1073741824 < 1073741824 := by omega
  have et : (t0 : Int) % 1073741824 = (t0 % 1073741824 : Nat) := by omega
  have em : (m0 : Int) % 1073741824 = (m0 % 1073741824 : Nat) := by omega
  generalize t0 % 1073741824 = t at *
  generalize m0 % 1073741824 = m at *
  obtain ⟨x, hx1, hx2, hx3⟩ : ∃ x : Nat, ((x0 : Int) = 0 ∧ (x : Int) = 1 ∨ (x0 : Int) = 1 ∧ (x : Int) = 1 ∨ 1 < (x0 : Int) ∧ (x : Int) = x0) ∧ x < 18446744073709551616 ∧ ¬ x = 0 := by
    rcases Nat.eq_zero_or_pos x0 with h | h
    · exact ⟨1, .inl ⟨by omega, rfl⟩, by omega, by omega⟩
    · by_cases h1 : x0 = 1
      · exact ⟨1, .inr (.inl ⟨by omega, rfl⟩), by omega, by omega⟩
      · exact ⟨x0, .inr (.inr ⟨by omega, rfl⟩), hx, by omega⟩
  have e3 : satMul 3 t = 3 * t := by rw [satMul_eq]; omega
  have e4 : satMul 4 m = 4 * m := by rw [satMul_eq]; omega
  have e10 : satMul 10 m = 10 * m := by rw [satMul_eq]; omega
  have hWn : window v 0 g t m = 10 * m := by unfold window; rw [if_pos rfl, e10]
  have hW : window v x g t m = max (satAdd (bdp v x g) (3 * t)) (4 * m) := by unfold window; rw [if_neg hx3, e3, e4]
  have hS := satAdd_eq (bdp v x g) (3 * t)
  have hBl := bdp_lt v x g
  refine targetFloor_core v x0 g t0 m0 x t m (bdp v x g : Nat) (satAdd (bdp v x g) (3 * t) : Nat) (window v x g t m : Nat) et em (by omega) (by omega) (by omega) (by omega) (by omega) (by omega) hx1 (by omega) (by omega) (by omega) (by omega) ?_
    (fun w => ?_) (window_any v x g t m hv hx2 hg (by omega) (by omega)) (bdp_any v x g hv hx2 hg) (fun w => ?_) w
  · by_cases h : window v x g t m = 4 * m
    · exact .inl (by omega)
    · exact .inr ⟨by rw [beq_eq_false_iff_ne]; omega, by omega⟩
  · have h := window_any v 0 g t m hv (by omega) hg (by omega) (by omega) w
    rw [hWn] at h
    exact h
  · have h := radd_any (bdp v x g) (3 * t) hBl (by omega) w
    exact h
end Go.Proofs.Ytfbcadfbmopnhaa
