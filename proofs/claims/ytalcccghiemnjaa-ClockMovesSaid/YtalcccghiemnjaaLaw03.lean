/- The walks of ClockNil and ClockSteps. -/
import Derived.Test.YtalcccghiemnjaaClock
namespace Go.Proofs.Ytalcccghiemnjaa
open Go.RowKit Go.Lib
set_option linter.unusedVariables false

theorem clockNil_any (t : Nat) (ht : t < 18446744073709551616) (w : World) :
    Calls Try.prog 6 #[.int .u64 t] w fun e w' => e = .returned (.bool true) ∧ Below w.heap.size w w' := by
  have c1 : ∀ w, Calls Try.prog 20 #[.int .u64 18446744073709551615] w fun e w' => e = .returned (.pointer (some ⟨w.heap.size + 1, 0, none⟩)) ∧ Own w w' (w.heap.size + 1) 56 (clk 4611686018427387904) := fun w => by
    refine (cnew_any 18446744073709551615 w).mono fun e w' ⟨h1, h2⟩ => ⟨h1, ?_⟩
    have := Own.made (w0 := w) ((Below.refl w.heap.size w).alloc (Nat.le_refl _) (.cells #[.int .u64 (18446744073709551615 : Nat)] 22)) 56 (clk (tmin 18446744073709551615))
    rw [show tmin 18446744073709551615 = 4611686018427387904 from by decide] at h2 this
    rw [h2]
    simpa using this
  have c2 : ∀ w0 w b, Own w0 w b 56 (clk 4611686018427387904) → Calls Try.prog 24 #[.pointer (some ⟨b, 0, none⟩), .int .u64 t] w fun e w' => e = .returned (.int .u64 4611686018427387904) ∧ Own w0 w' b 56 (clk 4611686018427387904) := fun w0 w b h => by
    have c := after_own b 4611686018427387904 t (by omega) ht w0 w h
    rw [show tmin (satAdd 4611686018427387904 t) = 4611686018427387904 from by rw [tmin_eq, satAdd_eq]; omega] at c
    exact c
  have c3 : ∀ w b, At w b 56 (clk 4611686018427387904) → Calls Try.prog 22 #[.pointer (some ⟨b, 0, none⟩), .int .u64 4611686018427387904] w fun e w' => e = .returned (.int .i64 0) ∧ Put w w' b 56 (clk 4611686018427387904) := fun w b h =>
    move_any b 4611686018427387904 4611686018427387904 w h
  have c4 : ∀ w b, At w b 56 (clk 4611686018427387904) → Calls Try.prog 23 #[.pointer (some ⟨b, 0, none⟩)] w fun e w' => e = .returned (.int .u64 4611686018427387904) ∧ w = w' := fun w b h =>
    now_any b 4611686018427387904 w h
  have H1 := Lib.hid c1
  have H2 := Lib.hid c2
  have H3 := Lib.hid c3
  have H4 := Lib.hid c4
  clear c1 c2 c3 c4
  go_enter Try.func6, Try.ntmps6
  go_wp2_with fail
  refine (H1.out _).mono ?_; rintro e w1 ⟨rfl, o1⟩
  have O1 := Lib.hid o1
  clear o1
  go_wp2_with fail
  refine (awake03 _).mono ?_; rintro e w2 ⟨rfl, b2⟩
  have O2 := Lib.hid (O1.out.below b2)
  clear b2
  go_wp2_with fail
  refine (now_nil _).mono ?_; rintro e w' ⟨rfl, rfl⟩
  go_wp2_with fail
  refine (move_nil _ _).mono ?_; rintro e w' ⟨rfl, rfl⟩
  go_wp2_with fail
  refine (after_nil _ _).mono ?_; rintro e w' ⟨rfl, rfl⟩
  go_wp2_with fail
  refine (H4.out _ _ O2.out.1).mono ?_; rintro e w' ⟨rfl, rfl⟩
  go_wp2_with fail
  refine (H2.out _ _ _ O2.out).mono ?_; rintro e w3 ⟨rfl, o3⟩
  have O3 := Lib.hid o3
  clear o3
  go_wp2_with fail
  refine (H3.out _ _ O3.out.1).mono ?_; rintro e w4 ⟨rfl, p4⟩
  have O4 := Lib.hid (O3.out.put p4)
  clear p4
  go_wp2
  go_ret
  exact ⟨rfl, O4.out.2.1⟩

/-- after k steps -/
def StepRel (w0 : World) (b a len : Nat) (v6 v7 : Value) (wr : World) : Prop :=
  ∃ k N : Nat, k ≤ len ∧ k ≤ 60 ∧ N ≤ a + k * 1125899906842624 ∧ v6 = .int .u64 N ∧ v7 = .int .i64 k ∧ Own w0 wr b 56 (clk N)

theorem step_ok {N d : Nat} (hN : N < 2000000000000000000) (hd : d < 1125899906842624) : tmin (satAdd N d) = N + d ∧ mvE N (N + d) = 0 ∧ mvN N (N + d) = N + d := by
  refine ⟨by rw [tmin_eq, satAdd_eq]; omega, ?_, ?_⟩
  · unfold mvE; rw [if_neg (by omega), if_neg (by omega)]
  · unfold mvN; rw [if_neg (by omega), if_neg (by omega)]

set_option maxHeartbeats 1000000 in
theorem steps_core (a0 a : Nat) (sp : Option Addr) (len cap : Nat) (zs : List Int) (ea : (a0 : Int) % 1152921504606846976 = a) (la : a < 1152921504606846976) (w : World) (hrow : IntRow .u64 w sp len zs) :
    Calls Try.prog 7 #[.int .u64 a0, .slice sp len cap] w fun e w' => e = .returned (.bool true) ∧ Below w.heap.size w w' := by
  have hlen := hrow.1
  have HN := Lib.hid (fun w => cnew_any a w)
  have HR := Lib.hid hrow
  have HA := Lib.hid la
  clear hrow la
  have hta : tmin a = a := by have := HA.out; rw [tmin_eq]; omega
  have HT := Lib.hid hta
  clear hta
  go_enter Try.func7, Try.ntmps7
  go_wp2_with fail
  refine (HN.out _).mono ?_; rintro e w1 ⟨rfl, hw1⟩
  have O1 : Hid (Own w w1 (w.heap.size + 1) 56 (clk a)) := by
    have := Own.made (w0 := w) ((Below.refl w.heap.size w).alloc (Nat.le_refl _) (.cells #[.int .u64 a] 22)) 56 (clk (tmin a))
    rw [HT.out] at this hw1
    rw [hw1]; exact Lib.hid (by simpa using this)
  clear hw1
  go_wp2_with fail
  refine (awake03 _).mono ?_; rintro e w2 ⟨rfl, b2⟩
  have O2 := Lib.hid (O1.out.below b2)
  clear b2
  go_wp2_with fail
  try rw [ea]
  clear ea
  go_loopw [6, 7] (fun v6 v7 wr => StepRel w (w.heap.size + 1) a len v6 v7 wr) (fun _ v7 _ => 60 - (intOf v7).toNat)
  case atStart => exact ⟨0, a, by omega, by omega, by omega, rfl, rfl, O2.out⟩
  case round =>
    obtain ⟨k, N, hk1, hk2, hN, rfl, rfl, hO⟩ := hrel
    have HO := Lib.hid hO
    clear hO
    have hNb : N < 2000000000000000000 := by have := HA.out; omega
    by_cases hlt : k < len ∧ k < 60
    · obtain ⟨hlt, hlt2⟩ := hlt
      obtain ⟨b, off, n, rfl, hb, ln, _, hc⟩ := HR.out.nat_at hlt
      have hck := (HO.out.2.1.cell (p := ⟨b, off + k, none⟩) hb).trans hc
      obtain ⟨d, hd, ld⟩ : ∃ d : Nat, (n : Int) % 1125899906842624 = d ∧ d < 1125899906842624 := ⟨n % 1125899906842624, by omega, by omega⟩
      obtain ⟨M, hM⟩ : ∃ M : Nat, (N : Int) + d = M := ⟨N + d, by simp⟩
      obtain ⟨s1, s2, s3⟩ := step_ok hNb ld
      have eM : N + d = M := by omega
      rw [eM] at s1 s2 s3
      have c1 : Calls Try.prog 24 #[.pointer (some ⟨w.heap.size + 1, 0, none⟩), .int .u64 d] wr fun e w' => e = .returned (.int .u64 M) ∧ Own w w' (w.heap.size + 1) 56 (clk N) := by
        have h := after_own (w.heap.size + 1) N d (by omega) (by omega) w wr HO.out
        rw [s1] at h
        exact h
      have c2 : ∀ wq, Own w wq (w.heap.size + 1) 56 (clk N) → Calls Try.prog 22 #[.pointer (some ⟨w.heap.size + 1, 0, none⟩), .int .u64 M] wq fun e w' => e = .returned (.int .i64 0) ∧ Own w w' (w.heap.size + 1) 56 (clk M) := fun wq ho => by
        have h := move_any (w.heap.size + 1) N M wq ho.1
        rw [s2, s3] at h
        exact h.mono fun e w' ⟨h1, h2⟩ => ⟨h1, ho.put h2⟩
      have C1 := Lib.hid c1
      have C2 := Lib.hid c2
      have HM := Lib.hid eM
      have hMb : M < 3000000000000000000 := by omega
      clear c1 c2 s1 s2 s3 hc ln eM
      go_wp2_with fail
      refine C1.out.mono ?_; rintro e w4 ⟨rfl, o4⟩
      have O4 := Lib.hid o4
      clear o4
      go_wp2_with fail
      refine (C2.out _ O4.out).mono ?_; rintro e w5 ⟨rfl, o5⟩
      have O5 := Lib.hid o5
      clear o5
      go_wp2
      go_roundw
      case rel => exact ⟨k + 1, M, by omega, by omega, by have := HM.out; omega, rfl, by go_num, O5.out⟩
      case measure => simp [intOf]; omega
    · have t : decide (k < len) = false ∨ k < len ∧ 60 ≤ k := by simp; omega
      have c1 : Calls Try.prog 24 #[.pointer (some ⟨w.heap.size + 1, 0, none⟩), .int .u64 0] wr fun e w' => e = .returned (.int .u64 N) ∧ Own w w' (w.heap.size + 1) 56 (clk N) := by
        have h := after_own (w.heap.size + 1) N 0 (by omega) (by omega) w wr HO.out
        rw [show tmin (satAdd N 0) = N from by rw [tmin_eq, satAdd_eq]; omega] at h
        exact h
      have c2 : ∀ wq, Own w wq (w.heap.size + 1) 56 (clk N) → Calls Try.prog 22 #[.pointer (some ⟨w.heap.size + 1, 0, none⟩), .int .u64 N] wq fun e w' => e = .returned (.int .i64 0) ∧ Own w w' (w.heap.size + 1) 56 (clk N) := fun wq ho => by
        have h := move_any (w.heap.size + 1) N N wq ho.1
        rw [show mvE N N = 0 from by unfold mvE; rw [if_neg (by omega), if_neg (by omega)], show mvN N N = N from by unfold mvN; rw [if_neg (by omega), if_neg (by omega)]] at h
        exact h.mono fun e w' ⟨h1, h2⟩ => ⟨h1, ho.put h2⟩
      have c3 : 0 < N → ∀ wq, Own w wq (w.heap.size + 1) 56 (clk N) → Calls Try.prog 22 #[.pointer (some ⟨w.heap.size + 1, 0, none⟩), .int .u64 ((N : Int) - 1)] wq fun e w' => e = .returned (.int .i64 4) ∧ Own w w' (w.heap.size + 1) 56 (clk N) := fun h0 wq ho => by
        have h := move_any (w.heap.size + 1) N (N - 1) wq ho.1
        rw [show mvE N (N - 1) = 4 from by unfold mvE; rw [if_neg (by omega), if_pos (by omega)], show mvN N (N - 1) = N from by unfold mvN; rw [if_neg (by omega), if_pos (by omega)], show ((N - 1 : Nat) : Int) = (N : Int) - 1 from by omega] at h
        exact h.mono fun e w' ⟨h1, h2⟩ => ⟨h1, ho.put h2⟩
      have C1 := Lib.hid c1
      have C2 := Lib.hid c2
      have C3 := Lib.hid c3
      have hz : N = 0 ∨ 0 < N ∧ ((N : Int) == 0) = false := by
        rcases Nat.eq_zero_or_pos N with h | h
        · exact .inl h
        · exact .inr ⟨h, by rw [beq_eq_false_iff_ne]; omega⟩
      clear c1 c2 c3 hN hlt
      rcases t with t | ⟨t', t⟩ <;> rcases hz with rfl | ⟨hz, hz'⟩
      all_goals
        go_wp2_with fail
        refine (now_any _ _ _ HO.out.1).mono ?_; rintro e w' ⟨rfl, rfl⟩
        go_wp2_with fail
        refine C1.out.mono ?_; rintro e w4 ⟨rfl, o4⟩
        have O4 := Lib.hid o4
        clear o4
        go_wp2_with fail
        refine (C2.out _ O4.out).mono ?_; rintro e w5 ⟨rfl, o5⟩
        have O5 := Lib.hid o5
        clear o5
        go_wp2_with (go_at_call 22; refine (C3.out (by assumption) _ O5.out).mono ?_; rintro e w6 ⟨rfl, o6⟩)
        go_ret
        first | exact ⟨rfl, O5.out.2.1⟩ | exact ⟨rfl, o6.2.1⟩

theorem steps_any (a0 : Nat) (sp : Option Addr) (len cap : Nat) (zs : List Int) (w : World) (hrow : IntRow .u64 w sp len zs) :
    Calls Try.prog 7 #[.int .u64 a0, .slice sp len cap] w fun e w' => e = .returned (.bool true) ∧ Below w.heap.size w w' :=
  steps_core a0 (a0 % 1152921504606846976) sp len cap zs (by omega) (by omega) w hrow
end Go.Proofs.Ytalcccghiemnjaa
