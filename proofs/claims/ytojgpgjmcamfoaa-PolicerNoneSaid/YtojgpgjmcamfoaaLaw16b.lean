/- The walk of PolicerSteady. -/
import Derived.Test.YtojgpgjmcamfoaaLaw16
namespace Go.Proofs.Ytojgpgjmcamfoaa
open Go.RowKit Go.Lib
set_option linter.unusedVariables false

theorem awake16 (w : World) : Calls Try.prog 36 #[] w fun e w' => e = .returned (.bool true) ∧ Below w.heap.size w w' := by
  have hs : stF 100000 50000 12 = ⟨true, true, 100000, 3, 600000, 4000000000, 400000, 250000⟩ := by rw [stF_many (by omega) (by omega) rfl 12 (by omega)]; rfl
  have CS : Hid (Calls Try.prog 40 #[.int .i64 12, .int .u64 100000, .int .u64 50000] w fun e w' => e = .returned (.pointer (some ⟨w.heap.size, 0, none⟩)) ∧ Own w w' w.heap.size 92 (pol ⟨true, true, 100000, 3, 600000, 4000000000, 400000, 250000⟩)) := Lib.hid (by
    have := steady_any 12 100000 50000 (by omega) (by omega) (by omega) w
    rw [hs] at this
    exact this)
  clear hs
  go_enter Try.func36, Try.ntmps36
  go_wp2_with fail
  refine CS.out.mono ?_; rintro e w1 ⟨rfl, h1⟩
  have H1 := Lib.hid h1
  clear h1
  go_wp2_with fail
  refine (use_yes w.heap.size _ _ H1.out.1 rfl).mono ?_; rintro e w' ⟨rfl, rfl⟩
  go_wp2
  go_ret
  exact ⟨rfl, H1.out.2.1⟩

/-- what Use tells, whichever it is -/
theorem use_both (b : Nat) (s : PL) (w : World) (h : At w b 92 (pol s)) (u : Bool) (v : Nat) (hu : s.use = u) (hv : v = if u then s.bw else 0) :
    Calls Try.prog 39 #[.pointer (some ⟨b, 0, none⟩)] w fun e w' => e = .returned (.tuple #[.int .u64 v, .bool u]) ∧ w = w' := by
  subst hv
  cases u
  · exact use_no b s w h hu
  · exact use_yes b s w h hu

set_option maxRecDepth 8000 in
set_option maxHeartbeats 1000000 in
theorem psteady_core (v0 v1 bw few m n : Nat) (n0 : Int) (k0 : v0 < 18446744073709551616) (k1 : v1 < 18446744073709551616) (hb : 1000 + v0 % 1000000 = bw) (hf : v1 % (bw / 10) = few) (em : IntKind.u64.wrap n0 = m) (en : m % 60 = n) (w : World) :
    Calls Try.prog 13 #[.int .u64 v0, .int .u64 v1, .int .i64 n0] w fun e w' => e = .returned (.bool true) ∧ Below w.heap.size w w' := by
  have hn : n < 60 := by omega
  have hb1 : 1000 ≤ bw := by omega
  have hb2 : bw ≤ 1000999 := by omega
  obtain ⟨D, hD⟩ : ∃ D, bw / 10 = D := ⟨_, rfl⟩
  obtain ⟨h, hh⟩ : ∃ h, bw / 2 = h := ⟨_, rfl⟩
  have hfl : few < D := by rw [← hf, hD]; exact Nat.mod_lt _ (by omega)
  have S1 : Hid (∀ W : World, Calls Try.prog 40 #[.int .i64 n, .int .u64 bw, .int .u64 h] W fun e w' => e = .returned (.pointer (some ⟨W.heap.size, 0, none⟩)) ∧ Own W w' W.heap.size 92 (pol (stF bw h n))) := Lib.hid (fun W => steady_any n bw h (by omega) (by omega) (by omega) W)
  have S2 : Hid (∀ W : World, Calls Try.prog 40 #[.int .i64 n, .int .u64 bw, .int .u64 0] W fun e w' => e = .returned (.pointer (some ⟨W.heap.size, 0, none⟩)) ∧ Own W w' W.heap.size 92 (pol (stF bw 0 n))) := Lib.hid (fun W => steady_any n bw 0 (by omega) (by omega) (by omega) W)
  have S3 : Hid (∀ W : World, Calls Try.prog 40 #[.int .i64 n, .int .u64 bw, .int .u64 few] W fun e w' => e = .returned (.pointer (some ⟨W.heap.size, 0, none⟩)) ∧ Own W w' W.heap.size 92 (pol (stF bw few n))) := Lib.hid (fun W => steady_any n bw few (by omega) (by omega) (by omega) W)
  have u2 := (stF_none bw n).1
  have u3 := (stF_few (f := few) hb1 (by omega) (by omega) n (by omega)).1
  have u1 := many_use (bw := bw) (h := h) hn
  rw [← stF_many hb1 (by omega) hh n (by omega)] at u1
  have U2 := Lib.hid u2
  have U3 := Lib.hid u3
  have U1 : Hid ((stF bw h n).use = (decide (9 ≤ n) && decide (n < 57))) := Lib.hid u1.1
  have U1b : Hid ((decide (9 ≤ n) && decide (n < 57)) = true → (stF bw h n).bw = bw) := Lib.hid (fun hh => u1.2 (by rw [u1.1]; exact hh))
  clear u1 u2 u3
  have a1 : (v0 : Int) % 1000000 + 1000 = bw := by omega
  have a1b : 1000 + (v0 : Int) % 1000000 = bw := by omega
  have a2 : (bw : Int) / 10 = D := by omega
  have a3 : (bw : Int) / 2 = h := by omega
  have a4 : (v1 : Int) % D = few := by rw [← hf, hD]; simp
  have a5 : (m : Int) % 60 = n := by omega
  have a6 : IntKind.u64.wrap (bw : Int) = bw := by rw [IntKind.wrap_u64]; omega
  have a7 : ((D : Int) == 0) = false := by rw [beq_eq_false_iff_ne]; omega
  have a8 : (0 : Int) < D := by omega
  have ln := hn
  have l0 : few < 18446744073709551616 := by omega
  have l1 : D < 18446744073709551616 := by omega
  have l2 : 1 ≤ D := by omega
  clear hb hf en hD hh hfl hb1
  have PN : Hid (∀ w : World, Calls Try.prog 37 #[.pointer none, .bool true, .agg #[.int .u64 0, .int .u64 0, .int .u64 0, .int .u64 0, .int .u64 0, .int .u64 0, .int .u64 1, .int .u64 0, .bool false]] w fun e w' => e = .returned (.tuple #[]) ∧ Below w.heap.size w w') := Lib.hid (fun w => pupd_nil true ⟨0, 0, 0, 0, 0, 0, 1, 0, false⟩ w)
  have hc : (9 ≤ n ∧ n < 57) ∨ n < 9 ∨ 57 ≤ n := by omega
  rcases hc with hc | hc | hc
  · have hd : (decide (9 ≤ n) && decide (n < 57)) = true := by simp; omega
    have hu := U1.out
    rw [hd] at hu
    have hv := U1b.out hd
    have HU := fun b W hh => use_both b (stF bw h n) W hh true bw hu (by rw [hv]; rfl)
    have y1 : decide (9 ≤ n) = true := by simp; omega
    have y2 : decide (n < 57) = true := by simp; omega
    have y3 : decide ((9 : Int) ≤ n) = true := by simp; omega
    have y4 : decide ((n : Int) < 57) = true := by simp; omega
    have CU : Hid (∀ (b : Nat) (W : World), At W b 92 (pol (stF bw h n)) → Calls Try.prog 39 #[.pointer (some ⟨b, 0, none⟩)] W fun e w' => e = .returned (.tuple #[.int .u64 bw, .bool true]) ∧ W = w') := Lib.hid (fun b W hh => HU b W hh)
    clear hd hu hv HU hc
    go_enter Try.func13, Try.ntmps13
    go_wp2_with fail
    refine (S1.out _).mono ?_; rintro e w1 ⟨rfl, o1⟩
    have O1 := Lib.hid o1
    clear o1
    go_wp2_with fail
    refine (CU.out _ _ O1.out.1).mono ?_; rintro e w' ⟨rfl, rfl⟩
    go_wp2_with fail
    refine (S2.out _).mono ?_; rintro e w2 ⟨rfl, o2⟩
    have O2 := Lib.hid o2
    clear o2
    go_wp2_with fail
    refine (use_no _ _ _ O2.out.1 U2.out).mono ?_; rintro e w' ⟨rfl, rfl⟩
    go_wp2_with fail
    try rw [a4]
    refine (S3.out _).mono ?_; rintro e w3 ⟨rfl, o3⟩
    have O3 := Lib.hid o3
    clear o3
    go_wp2_with fail
    refine (use_no _ _ _ O3.out.1 U3.out).mono ?_; rintro e w' ⟨rfl, rfl⟩
    go_wp2_with fail
    refine (PN.out _).mono ?_; rintro e w4 ⟨rfl, b4⟩
    have B4 := Lib.hid b4
    clear b4
    go_wp2_with fail
    refine (use_nil _).mono ?_; rintro e w' ⟨rfl, rfl⟩
    go_wp2_with fail
    refine (awake16 _).mono ?_; rintro e w5 ⟨rfl, b5⟩
    have B5 := Lib.hid b5
    clear b5
    go_wp2
    go_ret
    exact ⟨rfl, (((O1.out.2.1.trans (O2.out.2.1.mono O1.out.2.1.size)).trans (O3.out.2.1.mono (Nat.le_trans O1.out.2.1.size O2.out.2.1.size))).trans (B4.out.mono (Nat.le_trans O1.out.2.1.size (Nat.le_trans O2.out.2.1.size O3.out.2.1.size)))).trans (B5.out.mono (Nat.le_trans O1.out.2.1.size (Nat.le_trans O2.out.2.1.size (Nat.le_trans O3.out.2.1.size B4.out.size))))⟩
  · have hd : (decide (9 ≤ n) && decide (n < 57)) = false := by simp; omega
    have hu := U1.out
    rw [hd] at hu
    have HU := fun b W hh => use_both b (stF bw h n) W hh false 0 hu rfl
    have y1 : decide (9 ≤ n) = false := by simp; omega
    have y3 : decide ((9 : Int) ≤ n) = false := by simp; omega
    have CU : Hid (∀ (b : Nat) (W : World), At W b 92 (pol (stF bw h n)) → Calls Try.prog 39 #[.pointer (some ⟨b, 0, none⟩)] W fun e w' => e = .returned (.tuple #[.int .u64 0, .bool false]) ∧ W = w') := Lib.hid (fun b W hh => HU b W hh)
    clear hd hu HU hc
    go_enter Try.func13, Try.ntmps13
    go_wp2_with fail
    refine (S1.out _).mono ?_; rintro e w1 ⟨rfl, o1⟩
    have O1 := Lib.hid o1
    clear o1
    go_wp2_with fail
    refine (CU.out _ _ O1.out.1).mono ?_; rintro e w' ⟨rfl, rfl⟩
    go_wp2_with fail
    refine (S2.out _).mono ?_; rintro e w2 ⟨rfl, o2⟩
    have O2 := Lib.hid o2
    clear o2
    go_wp2_with fail
    refine (use_no _ _ _ O2.out.1 U2.out).mono ?_; rintro e w' ⟨rfl, rfl⟩
    go_wp2_with fail
    try rw [a4]
    refine (S3.out _).mono ?_; rintro e w3 ⟨rfl, o3⟩
    have O3 := Lib.hid o3
    clear o3
    go_wp2_with fail
    refine (use_no _ _ _ O3.out.1 U3.out).mono ?_; rintro e w' ⟨rfl, rfl⟩
    go_wp2_with fail
    refine (PN.out _).mono ?_; rintro e w4 ⟨rfl, b4⟩
    have B4 := Lib.hid b4
    clear b4
    go_wp2_with fail
    refine (use_nil _).mono ?_; rintro e w' ⟨rfl, rfl⟩
    go_wp2_with fail
    refine (awake16 _).mono ?_; rintro e w5 ⟨rfl, b5⟩
    have B5 := Lib.hid b5
    clear b5
    go_wp2
    go_ret
    exact ⟨rfl, (((O1.out.2.1.trans (O2.out.2.1.mono O1.out.2.1.size)).trans (O3.out.2.1.mono (Nat.le_trans O1.out.2.1.size O2.out.2.1.size))).trans (B4.out.mono (Nat.le_trans O1.out.2.1.size (Nat.le_trans O2.out.2.1.size O3.out.2.1.size)))).trans (B5.out.mono (Nat.le_trans O1.out.2.1.size (Nat.le_trans O2.out.2.1.size (Nat.le_trans O3.out.2.1.size B4.out.size))))⟩
  · have hd : (decide (9 ≤ n) && decide (n < 57)) = false := by simp; omega
    have hu := U1.out
    rw [hd] at hu
    have HU := fun b W hh => use_both b (stF bw h n) W hh false 0 hu rfl
    have y1 : decide (9 ≤ n) = true := by simp; omega
    have y2 : decide (n < 57) = false := by simp; omega
    have y3 : decide ((9 : Int) ≤ n) = true := by simp; omega
    have y4 : decide ((n : Int) < 57) = false := by simp; omega
    have CU : Hid (∀ (b : Nat) (W : World), At W b 92 (pol (stF bw h n)) → Calls Try.prog 39 #[.pointer (some ⟨b, 0, none⟩)] W fun e w' => e = .returned (.tuple #[.int .u64 0, .bool false]) ∧ W = w') := Lib.hid (fun b W hh => HU b W hh)
    clear hd hu HU hc
    go_enter Try.func13, Try.ntmps13
    go_wp2_with fail
    refine (S1.out _).mono ?_; rintro e w1 ⟨rfl, o1⟩
    have O1 := Lib.hid o1
    clear o1
    go_wp2_with fail
    refine (CU.out _ _ O1.out.1).mono ?_; rintro e w' ⟨rfl, rfl⟩
    go_wp2_with fail
    refine (S2.out _).mono ?_; rintro e w2 ⟨rfl, o2⟩
    have O2 := Lib.hid o2
    clear o2
    go_wp2_with fail
    refine (use_no _ _ _ O2.out.1 U2.out).mono ?_; rintro e w' ⟨rfl, rfl⟩
    go_wp2_with fail
    try rw [a4]
    refine (S3.out _).mono ?_; rintro e w3 ⟨rfl, o3⟩
    have O3 := Lib.hid o3
    clear o3
    go_wp2_with fail
    refine (use_no _ _ _ O3.out.1 U3.out).mono ?_; rintro e w' ⟨rfl, rfl⟩
    go_wp2_with fail
    refine (PN.out _).mono ?_; rintro e w4 ⟨rfl, b4⟩
    have B4 := Lib.hid b4
    clear b4
    go_wp2_with fail
    refine (use_nil _).mono ?_; rintro e w' ⟨rfl, rfl⟩
    go_wp2_with fail
    refine (awake16 _).mono ?_; rintro e w5 ⟨rfl, b5⟩
    have B5 := Lib.hid b5
    clear b5
    go_wp2
    go_ret
    exact ⟨rfl, (((O1.out.2.1.trans (O2.out.2.1.mono O1.out.2.1.size)).trans (O3.out.2.1.mono (Nat.le_trans O1.out.2.1.size O2.out.2.1.size))).trans (B4.out.mono (Nat.le_trans O1.out.2.1.size (Nat.le_trans O2.out.2.1.size O3.out.2.1.size)))).trans (B5.out.mono (Nat.le_trans O1.out.2.1.size (Nat.le_trans O2.out.2.1.size (Nat.le_trans O3.out.2.1.size B4.out.size))))⟩

theorem psteady_any (v0 v1 : Nat) (n0 : Int) (k0 : v0 < 18446744073709551616) (k1 : v1 < 18446744073709551616) (w : World) :
    Calls Try.prog 13 #[.int .u64 v0, .int .u64 v1, .int .i64 n0] w fun e w' => e = .returned (.bool true) ∧ Below w.heap.size w w' := by
  have em : IntKind.u64.wrap n0 = ((IntKind.u64.wrap n0).toNat : Nat) := by rw [IntKind.wrap_u64]; omega
  exact psteady_core v0 v1 _ _ _ _ n0 k0 k1 rfl rfl em rfl w
end Go.Proofs.Ytojgpgjmcamfoaa
