/- The walk of CycleRound. -/
import Derived.Test.YtalcccghiemnjaaLaw14
namespace Go.Proofs.Ytalcccghiemnjaa
open Go.RowKit Go.Lib
set_option linter.unusedVariables false

def gsum (P : Nat) : Nat → Nat
  | 0 => 0
  | i + 1 => gsum P i + if i < 8 then gainOf ((P + i) % 8) else 0
theorem gainOf_le (p : Nat) : gainOf p ≤ 320 := by unfold gainOf; split <;> (try split) <;> omega
theorem gsum_le (P i : Nat) : gsum P i ≤ 320 * i := by
  induction i with
  | zero => simp [gsum]
  | succ i ih =>
    have := gainOf_le ((P + i) % 8)
    unfold gsum
    split <;> omega
theorem gsum_all (P i : Nat) (hP : P < 8) : gsum P (8 + i) = 2048 := by
  induction i with
  | zero =>
    have : P = 0 ∨ P = 1 ∨ P = 2 ∨ P = 3 ∨ P = 4 ∨ P = 5 ∨ P = 6 ∨ P = 7 := by omega
    rcases this with rfl | rfl | rfl | rfl | rfl | rfl | rfl | rfl <;> decide
  | succ i ih =>
    show gsum P ((8 + i) + 1) = 2048
    unfold gsum
    rw [ih, if_neg (by omega)]

def RoundRel (w0 : World) (b P rtt n : Nat) (v8 v9 v11 : Value) (wr : World) : Prop :=
  ∃ i N : Nat, i ≤ n ∧ N = i * (rtt + 1) ∧ v8 = .int .u64 N ∧ v9 = .int .u64 (gsum P i : Nat) ∧ v11 = .int .i64 i ∧ Own w0 wr b 52 (cyc ((P + i) % 8) N)

theorem round_next {w0 wr w4 : World} {b P rtt n i N q : Nat} {s : Int} (hi : i < n) (hq : Hid ((P + i) % 8 = q)) (hN : Hid (N + rtt + 1 = (i + 1) * (rtt + 1))) (hO : Own w0 wr b 52 (cyc q N))
    (p4 : Put wr w4 b 52 (cyc ((q + 1) % 8) (N + rtt + 1))) (hs : s = ((gsum P (i + 1) : Nat) : Int)) :
    RoundRel w0 b P rtt n (.int .u64 ((N : Int) + rtt + 1)) (.int .u64 s) (.int .i64 ((i : Int) + 1)) w4 := by
  refine ⟨i + 1, N + rtt + 1, by omega, hN.out, by simp, by rw [hs], by simp, ?_⟩
  have h := hO.put p4
  have hq' := hq.out
  rw [show (q + 1) % 8 = (P + (i + 1)) % 8 from by omega] at h
  exact h

set_option maxHeartbeats 2000000 in
theorem round_core (r0 : Nat) (ph n0 : Int) (rtt m n P : Nat) (er : (r0 : Int) % 1000000 = rtt) (em : IntKind.u64.wrap n0 = m) (en : (m : Int) % 40 = n) (lr : rtt < 1000000) (ln : n < 40) (hP : (ph % 8).toNat = P) (w : World) :
    Calls Try.prog 3 #[.int .u64 r0, .int .i64 ph, .int .i64 n0] w fun e w' => e = .returned (.bool true) ∧ Below w.heap.size w w' := by
  have lP : P < 8 := by omega
  have HP := Lib.hid hP
  clear hP
  have HN := Lib.hid new_any
  go_enter Try.func3, Try.ntmps3
  go_wp2_with fail
  refine (HN.out _).mono ?_; rintro e w1 ⟨rfl, hw1⟩
  have O1 : Hid (Own w w1 w.heap.size 52 (cyc 0 0)) := by rw [hw1]; exact Own.made (Below.refl _ _) _ _
  clear hw1
  go_wp2_with fail
  refine (awake14 _).mono ?_; rintro e w2 ⟨rfl, b2⟩
  have O2 := Lib.hid (O1.out.below b2)
  clear b2
  go_wp2_with fail
  refine (start_any w.heap.size 0 0 0 ph _ O2.out.1).mono ?_; rintro e w3 ⟨rfl, p3⟩
  rw [HP.out] at p3
  have O3 := Lib.hid (O2.out.put p3)
  clear p3
  go_wp2_with fail
  refine (phase_any w.heap.size P 0 _ O3.out.1).mono ?_; rintro e w' ⟨rfl, rfl⟩
  go_wp2_with fail
  try rw [er]
  try rw [en]
  clear er en em
  go_loopw [8, 9, 11] (fun v8 v9 v11 wr => RoundRel w w.heap.size P rtt n v8 v9 v11 wr) (fun _ _ v11 _ => n - (intOf v11).toNat)
  case atStart => exact ⟨0, 0, by omega, by simp, rfl, rfl, rfl, by rw [Nat.add_zero, Nat.mod_eq_of_lt lP]; exact O3.out⟩
  case round =>
    obtain ⟨i, N, hi, hN, rfl, rfl, rfl, hO⟩ := hrel
    have HO := Lib.hid hO
    have hg := gsum_le P i
    clear hO
    by_cases hlt : i < n
    · have hN1 : N ≤ 40 * 1000000 := by rw [hN]; exact Nat.mul_le_mul (by omega) (by omega)
      have hN2 : N + rtt + 1 = (i + 1) * (rtt + 1) := by rw [hN, Nat.add_mul]; omega
      obtain ⟨q, hq⟩ : ∃ q, (P + i) % 8 = q := ⟨_, rfl⟩
      have hq' : ((P : Int) + i) % 8 = q := by omega
      have lq : q < 8 := by omega
      rw [hq] at HO
      have n1 : q ≠ 1 → nextB q N (N + rtt) rtt 1 0 0 0 = false := fun h => by
        unfold nextB endsB
        rw [if_neg h]
        split <;> simp
      have n2 : nextB q N (N + rtt + 1) rtt 1 1 0 0 = true := by
        unfold nextB endsB
        have : decide (rtt < N + rtt + 1 - N) = true := by simp; omega
        rw [this]
        split <;> (try split) <;> simp
      have c2 := update_yes w.heap.size q N (N + rtt + 1) rtt 1 1 0 0 lq (by omega) (by omega) wr HO.out.1 n2
      rw [show ((N + rtt + 1 : Nat) : Int) = (N : Int) + rtt + 1 from by simp] at c2
      have C2 := Lib.hid c2
      have hgs : gsum P (i + 1) = gsum P i + if i < 8 then gainOf q else 0 := by rw [← hq]; rfl
      have hg2 := gainOf_le q
      have HG := Lib.hid hgs
      have HN2 := Lib.hid hN2
      have HQ := Lib.hid hq
      clear hN hN2 n2 c2 hgs hq
      generalize hgi : gsum P i = G at *
      clear hgi
      have i8 : i < 8 ∨ 8 ≤ i := by omega
      have q1 : q = 1 ∨ q ≠ 1 ∧ ((q : Int) != 1) = true := by
        by_cases h : q = 1
        · exact .inl h
        · exact .inr ⟨h, by rw [bne_iff_ne]; omega⟩
      rcases q1 with rfl | ⟨q1, q1'⟩
      · clear n1
        rcases i8 with i8 | i8
        · go_wp2_with fail
          refine (phase_any w.heap.size 1 N _ HO.out.1).mono ?_; rintro e w' ⟨rfl, rfl⟩
          go_wp2_with fail
          refine (phase_any w.heap.size 1 N _ HO.out.1).mono ?_; rintro e w' ⟨rfl, rfl⟩
          go_wp2_with fail
          refine (gain_any w.heap.size 1 N _ HO.out.1).mono ?_; rintro e w' ⟨rfl, rfl⟩
          go_wp2_with fail
          refine C2.out.mono ?_; rintro e w4 ⟨rfl, p4⟩
          have P4 := Lib.hid p4
          clear p4
          go_wp2
          go_roundw
          case rel => exact round_next hlt HQ HN2 HO.out P4.out (by rw [HG.out]; rw [if_pos i8]; simp)
          case measure => simp [intOf]; omega
        · go_wp2_with fail
          refine (phase_any w.heap.size 1 N _ HO.out.1).mono ?_; rintro e w' ⟨rfl, rfl⟩
          go_wp2_with fail
          refine (phase_any w.heap.size 1 N _ HO.out.1).mono ?_; rintro e w' ⟨rfl, rfl⟩
          go_wp2_with fail
          refine C2.out.mono ?_; rintro e w4 ⟨rfl, p4⟩
          have P4 := Lib.hid p4
          clear p4
          go_wp2
          go_roundw
          case rel => exact round_next hlt HQ HN2 HO.out P4.out (by rw [HG.out]; rw [if_neg (by omega)]; simp)
          case measure => simp [intOf]; omega
      · have c1 := update_no w.heap.size q N (N + rtt) rtt 1 0 0 0 (by omega) (by omega) wr HO.out.1 (n1 q1)
        rw [show ((N + rtt : Nat) : Int) = (N : Int) + rtt from by simp] at c1
        have C1 := Lib.hid c1
        clear c1 n1 q1
        rcases i8 with i8 | i8
        · go_wp2_with fail
          refine (phase_any w.heap.size q N _ HO.out.1).mono ?_; rintro e w' ⟨rfl, rfl⟩
          go_wp2_with fail
          refine (phase_any w.heap.size q N _ HO.out.1).mono ?_; rintro e w' ⟨rfl, rfl⟩
          go_wp2_with fail
          refine C1.out.mono ?_; rintro e w' ⟨rfl, rfl⟩
          go_wp2_with fail
          refine (gain_any w.heap.size q N _ HO.out.1).mono ?_; rintro e w' ⟨rfl, rfl⟩
          go_wp2_with fail
          refine C2.out.mono ?_; rintro e w4 ⟨rfl, p4⟩
          have P4 := Lib.hid p4
          clear p4
          go_wp2
          go_roundw
          case rel => exact round_next hlt HQ HN2 HO.out P4.out (by rw [HG.out]; rw [if_pos i8]; simp)
          case measure => simp [intOf]; omega
        · go_wp2_with fail
          refine (phase_any w.heap.size q N _ HO.out.1).mono ?_; rintro e w' ⟨rfl, rfl⟩
          go_wp2_with fail
          refine (phase_any w.heap.size q N _ HO.out.1).mono ?_; rintro e w' ⟨rfl, rfl⟩
          go_wp2_with fail
          refine C1.out.mono ?_; rintro e w' ⟨rfl, rfl⟩
          go_wp2_with fail
          refine C2.out.mono ?_; rintro e w4 ⟨rfl, p4⟩
          have P4 := Lib.hid p4
          clear p4
          go_wp2
          go_roundw
          case rel => exact round_next hlt HQ HN2 HO.out P4.out (by rw [HG.out]; rw [if_neg (by omega)]; simp)
          case measure => simp [intOf]; omega
    · obtain rfl : i = n := by omega
      have hs : i < 8 ∨ 8 ≤ i ∧ gsum P i = 2048 := by
        rcases Nat.lt_or_ge i 8 with h | h
        · exact .inl h
        · exact .inr ⟨h, by rw [show i = 8 + (i - 8) from by omega]; exact gsum_all P _ lP⟩
      generalize gsum P i = G at *
      clear hN
      rcases hs with hs | ⟨hs, rfl⟩
      all_goals
        go_wp2_with fail
        refine (start_nil _ _ _).mono ?_; rintro e w' ⟨rfl, rfl⟩
        go_wp2_with fail
        refine (phase_nil _).mono ?_; rintro e w' ⟨rfl, rfl⟩
        go_wp2_with fail
        refine (gain_nil _).mono ?_; rintro e w' ⟨rfl, rfl⟩
        go_wp2_with fail
        refine (update_nil _ _ _ _ _ _ _).mono ?_; rintro e w' ⟨rfl, rfl⟩
        go_wp2
        go_ret
        exact ⟨rfl, HO.out.2.1⟩

theorem round_any (r0 : Nat) (ph n0 : Int) (w : World) :
    Calls Try.prog 3 #[.int .u64 r0, .int .i64 ph, .int .i64 n0] w fun e w' => e = .returned (.bool true) ∧ Below w.heap.size w w' := by
  obtain ⟨m, n, e1, e2, e3⟩ := u64_conv n0 40 (by omega)
  exact round_core r0 ph n0 (r0 % 1000000) m n _ (by omega) e1 e2 (by omega) e3 rfl w
end Go.Proofs.Ytalcccghiemnjaa
