/- The walks of SatMore and SatEdges. -/
import Derived.Test.YtgdbmjokpbjoaaaSum
import Derived.Below
namespace Go.Proofs.Ytgdbmjokpbjoaaa
open Go.RowKit Go.Lib
set_option linter.unusedVariables false

theorem awake01 (w : World) : Calls Try.prog 14 #[] w fun e w' => e = .returned (.bool true) ∧ Below w.heap.size w w' := by
  have c1 : ∀ w b, w.cell? ⟨b, 0, none⟩ = some (.int .u64 1) → w.cell? ⟨b, 1, none⟩ = some (.int .u64 2) → b < w.heap.size → Calls Try.prog 16 #[.slice (some ⟨b, 0, none⟩) 2 2] w fun e w' => e = .returned (.tuple #[.int .u64 3, .int .i64 0]) ∧ w = w' := fun w b h0 h1 hb =>
    sum_any (some ⟨b, 0, none⟩) [1, 2] 2 w ⟨by simp, by simp, fun _ => ⟨b, 0, rfl, hb, fun j hj => by
      have : j = 0 ∨ j = 1 := by simp at hj; omega
      rcases this with rfl | rfl
      · exact h0
      · exact h1⟩⟩
  have c2 : ∀ w, Calls Try.prog 18 #[.int .u64 1, .int .u64 2] w fun e w' => e = .returned (.int .u64 3) ∧ w = w' := fun w => add_any 1 2 (by omega) (by omega) w
  have c3 : ∀ w, Calls Try.prog 22 #[.int .u64 2, .int .u64 3] w fun e w' => e = .returned (.int .u64 6) ∧ w = w' := fun w => smul_any 2 3 (by omega) (by omega) w
  have c4 : ∀ w, Calls Try.prog 20 #[.int .u64 3, .int .u64 2] w fun e w' => e = .returned (.int .u64 1) ∧ w = w' := fun w => sub_any 3 2 (by omega) (by omega) w
  have c5 : ∀ w, Calls Try.prog 24 #[.int .u64 7] w fun e w' => e = .returned (.int .i64 7) ∧ w = w' := fun w => by
    have h := int_any 7 (by omega) w
    rw [show satInt 7 = 7 from by decide] at h
    exact h
  have H1 := Lib.hid c1
  have H2 := Lib.hid c2
  have H3 := Lib.hid c3
  have H4 := Lib.hid c4
  have H5 := Lib.hid c5
  clear c1 c2 c3 c4 c5
  go_enter Try.func14, Try.ntmps14
  go_wp2_with fail
  refine (H1.out _ _ (by simp [go_sem]) (by simp [go_sem]) (by simp)).mono ?_; rintro e w' ⟨rfl, rfl⟩
  go_wp2_with fail
  refine (H2.out _).mono ?_; rintro e w' ⟨rfl, rfl⟩
  go_wp2_with fail
  refine (H3.out _).mono ?_; rintro e w' ⟨rfl, rfl⟩
  go_wp2_with fail
  refine (H4.out _).mono ?_; rintro e w' ⟨rfl, rfl⟩
  go_wp2_with fail
  refine (H5.out _).mono ?_; rintro e w' ⟨rfl, rfl⟩
  go_wp2
  go_ret
  exact ⟨rfl, (Below.refl _ _).alloc (Nat.le_refl _) _⟩

set_option maxHeartbeats 2000000 in
theorem satMore_core (a b c lo hi s A1 A2 M1 M2 S1 S2 m S3 T bc : Int) (hlo : a < b ∧ lo = a ∧ hi = b ∨ b < a ∧ lo = b ∧ hi = a ∨ a = b ∧ lo = b ∧ hi = b) (hA : A1 ≤ A2) (hM : M1 ≤ M2) (hS : S1 ≤ S2)
    (hs : s = 18446744073709551615 ∨ (s == 18446744073709551615) = false ∧ S3 = a)
    (c1 : ∀ w, Calls Try.prog 18 #[.int .u64 a, .int .u64 b] w fun e w' => e = .returned (.int .u64 s) ∧ w = w')
    (c2 : ∀ w, Calls Try.prog 18 #[.int .u64 lo, .int .u64 c] w fun e w' => e = .returned (.int .u64 A1) ∧ w = w')
    (c3 : ∀ w, Calls Try.prog 18 #[.int .u64 hi, .int .u64 c] w fun e w' => e = .returned (.int .u64 A2) ∧ w = w')
    (c4 : ∀ w, Calls Try.prog 22 #[.int .u64 lo, .int .u64 c] w fun e w' => e = .returned (.int .u64 M1) ∧ w = w')
    (c5 : ∀ w, Calls Try.prog 22 #[.int .u64 hi, .int .u64 c] w fun e w' => e = .returned (.int .u64 M2) ∧ w = w')
    (c6 : ∀ w, Calls Try.prog 20 #[.int .u64 lo, .int .u64 c] w fun e w' => e = .returned (.int .u64 S1) ∧ w = w')
    (c7 : ∀ w, Calls Try.prog 20 #[.int .u64 hi, .int .u64 c] w fun e w' => e = .returned (.int .u64 S2) ∧ w = w')
    (c8 : ∀ w, Calls Try.prog 18 #[.int .u64 b, .int .u64 a] w fun e w' => e = .returned (.int .u64 s) ∧ w = w')
    (c9 : ∀ w, Calls Try.prog 22 #[.int .u64 a, .int .u64 b] w fun e w' => e = .returned (.int .u64 m) ∧ w = w')
    (c10 : ∀ w, Calls Try.prog 22 #[.int .u64 b, .int .u64 a] w fun e w' => e = .returned (.int .u64 m) ∧ w = w')
    (c11 : ∀ w, Calls Try.prog 20 #[.int .u64 s, .int .u64 b] w fun e w' => e = .returned (.int .u64 S3) ∧ w = w')
    (c12 : ∀ w, Calls Try.prog 18 #[.int .u64 s, .int .u64 c] w fun e w' => e = .returned (.int .u64 T) ∧ w = w')
    (c13 : ∀ w, Calls Try.prog 18 #[.int .u64 b, .int .u64 c] w fun e w' => e = .returned (.int .u64 bc) ∧ w = w')
    (c14 : ∀ w, Calls Try.prog 18 #[.int .u64 a, .int .u64 bc] w fun e w' => e = .returned (.int .u64 T) ∧ w = w') (w : World) :
    Calls Try.prog 4 #[.int .u64 a, .int .u64 b, .int .u64 c] w fun e w' => e = .returned (.bool true) ∧ Below w.heap.size w w' := by
  have C1 := Lib.hid c1
  have C2 := Lib.hid c2
  have C3 := Lib.hid c3
  have C4 := Lib.hid c4
  have C5 := Lib.hid c5
  have C6 := Lib.hid c6
  have C7 := Lib.hid c7
  have C8 := Lib.hid c8
  have C9 := Lib.hid c9
  have C10 := Lib.hid c10
  have C11 := Lib.hid c11
  have C12 := Lib.hid c12
  have C13 := Lib.hid c13
  have C14 := Lib.hid c14
  clear c1 c2 c3 c4 c5 c6 c7 c8 c9 c10 c11 c12 c13 c14
  rcases hlo with ⟨hab, rfl, rfl⟩ | ⟨hab, rfl, rfl⟩ | ⟨rfl, rfl, rfl⟩ <;> rcases hs with rfl | ⟨hs, rfl⟩
  all_goals
    go_enter Try.func4, Try.ntmps4
    go_wp2_with fail
    refine (C1.out _).mono ?_; rintro e w' ⟨rfl, rfl⟩
    go_wp2_with fail
    refine (awake01 _).mono ?_; rintro e w1 ⟨rfl, b1⟩
    go_wp2_with fail
    refine (C2.out _).mono ?_; rintro e w' ⟨rfl, rfl⟩
    go_wp2_with fail
    refine (C3.out _).mono ?_; rintro e w' ⟨rfl, rfl⟩
    go_wp2_with fail
    refine (C4.out _).mono ?_; rintro e w' ⟨rfl, rfl⟩
    go_wp2_with fail
    refine (C5.out _).mono ?_; rintro e w' ⟨rfl, rfl⟩
    go_wp2_with fail
    refine (C6.out _).mono ?_; rintro e w' ⟨rfl, rfl⟩
    go_wp2_with fail
    refine (C7.out _).mono ?_; rintro e w' ⟨rfl, rfl⟩
    go_wp2_with fail
    refine (C1.out _).mono ?_; rintro e w' ⟨rfl, rfl⟩
    go_wp2_with fail
    refine (C8.out _).mono ?_; rintro e w' ⟨rfl, rfl⟩
    go_wp2_with fail
    refine (C9.out _).mono ?_; rintro e w' ⟨rfl, rfl⟩
    go_wp2_with fail
    refine (C10.out _).mono ?_; rintro e w' ⟨rfl, rfl⟩
    go_wp2_with (go_at_call 20; refine (C11.out _).mono ?_; rintro e w' ⟨rfl, rfl⟩)
    refine (C1.out _).mono ?_; rintro e w' ⟨rfl, rfl⟩
    go_wp2_with fail
    refine (C12.out _).mono ?_; rintro e w' ⟨rfl, rfl⟩
    go_wp2_with fail
    refine (C13.out _).mono ?_; rintro e w' ⟨rfl, rfl⟩
    go_wp2_with fail
    refine (C14.out _).mono ?_; rintro e w' ⟨rfl, rfl⟩
    go_wp2
    go_ret
    exact ⟨rfl, b1⟩

theorem satMul_comm (a b : Nat) : satMul a b = satMul b a := by unfold satMul; rw [Nat.mul_comm]
theorem satAdd_comm (a b : Nat) : satAdd a b = satAdd b a := by unfold satAdd; rw [Nat.add_comm]
theorem satMore_any (a b c : Nat) (ha : a < 18446744073709551616) (hb : b < 18446744073709551616) (hc : c < 18446744073709551616) (w : World) :
    Calls Try.prog 4 #[.int .u64 a, .int .u64 b, .int .u64 c] w fun e w' => e = .returned (.bool true) ∧ Below w.heap.size w w' := by
  obtain ⟨lo, hi, hlo, llo, lhi, hle⟩ : ∃ lo hi : Nat, ((a : Int) < b ∧ (lo : Int) = a ∧ (hi : Int) = b ∨ (b : Int) < a ∧ (lo : Int) = b ∧ (hi : Int) = a ∨ (a : Int) = b ∧ (lo : Int) = b ∧ (hi : Int) = b) ∧ lo < 18446744073709551616 ∧ hi < 18446744073709551616 ∧ lo ≤ hi := by
    rcases Nat.lt_trichotomy a b with h | h | h
    · exact ⟨a, b, .inl ⟨by omega, rfl, rfl⟩, ha, hb, by omega⟩
    · exact ⟨b, b, .inr (.inr ⟨by omega, rfl, rfl⟩), hb, hb, by omega⟩
    · exact ⟨b, a, .inr (.inl ⟨by omega, rfl, rfl⟩), hb, ha, by omega⟩
  have hs := satAdd_eq a b
  have hm : satMul lo c ≤ satMul hi c := by
    have := Nat.mul_le_mul_right c hle
    rw [satMul_eq, satMul_eq]; omega
  have hA : satAdd lo c ≤ satAdd hi c := by rw [satAdd_eq, satAdd_eq]; omega
  have hT : satAdd a (satAdd b c) = satAdd (satAdd a b) c := by simp only [satAdd_eq]; omega
  have ls : satAdd a b < 18446744073709551616 := satAdd_lt
  refine satMore_core a b c lo hi (satAdd a b : Nat) (satAdd lo c : Nat) (satAdd hi c : Nat) (satMul lo c : Nat) (satMul hi c : Nat) (satSub lo c : Nat) (satSub hi c : Nat) (satMul a b : Nat) (satSub (satAdd a b) b : Nat) (satAdd (satAdd a b) c : Nat) (satAdd b c : Nat) hlo
    (Int.ofNat_le.2 hA) (Int.ofNat_le.2 hm) (by unfold satSub; omega) ?_
    (add_any a b ha hb) (add_any lo c llo hc) (add_any hi c lhi hc) (smul_any lo c llo hc) (smul_any hi c lhi hc) (sub_any lo c llo hc) (sub_any hi c lhi hc) (fun w => ?_) (smul_any a b ha hb) (fun w => ?_) (sub_any _ b ls hb) (add_any _ c ls hc) (add_any b c hb hc) (fun w => ?_) w
  · by_cases h : satAdd a b = 18446744073709551615
    · exact .inl (by omega)
    · exact .inr ⟨by rw [beq_eq_false_iff_ne]; omega, by unfold satSub; omega⟩
  · have h := add_any b a hb ha w
    rw [satAdd_comm] at h
    exact h
  · have h := smul_any b a hb ha w
    rw [satMul_comm] at h
    exact h
  · have h := add_any a (satAdd b c) ha satAdd_lt w
    rw [hT] at h
    exact h
end Go.Proofs.Ytgdbmjokpbjoaaa
