/- The walk of ProbeWay. -/
import Derived.Test.YtgdbmjokpbjoaaaProbe3
namespace Go.Proofs.Ytgdbmjokpbjoaaa
open Go.RowKit Go.Lib
set_option linter.unusedVariables false

/-- Update at numbers spelled anyhow, its answer told -/
theorem upd_res (b : Nat) (s : PS) (n r : Nat) (start : Bool) (fl fo : Nat) {N R FL FO : Int} {x y : Bool} {s' : PS} (hu : updF s n r start fl fo = (x, y, s')) (hst : s.stamp < 18446744073709551616) (hn : n < 18446744073709551616) (hN : N = n) (hR : R = r) (hFL : FL = fl) (hFO : FO = fo) (w : World) (h : At w b 69 (prb s)) :
    Calls Try.prog 29 #[.pointer (some ⟨b, 0, none⟩), .int .u64 N, .int .u64 R, .bool start, .int .u64 FL, .int .u64 FO] w
      fun e w' => e = .returned (.tuple #[.bool x, .bool y]) ∧ Put w w' b 69 (prb s') := by
  have c := upd_any b s n r start fl fo hst hn w h
  rw [hu] at c
  subst hN hR hFL hFO
  exact c

/-- the seven answers of the way -/
def WayF (r a T1 T3 N2 N3 N4 N5 : Nat) : Prop :=
  updF ⟨0, 0, false, 0, false⟩ a r false 9 4 = (false, false, ⟨r, a, false, 0, false⟩) ∧
  updF ⟨r, a, false, 0, false⟩ T1 (r + 1) false 9 4 = (false, false, ⟨r, a, false, 0, false⟩) ∧
  updF ⟨r, a, false, 0, false⟩ T3 (r + 1) false 9 4 = (true, false, ⟨r + 1, T3, true, 0, false⟩) ∧
  updF ⟨r + 1, T3, true, 0, false⟩ N2 (r + 2) true 5 4 = (false, false, ⟨r + 1, T3, true, 0, false⟩) ∧
  updF ⟨r + 1, T3, true, 0, false⟩ N3 (r + 2) true 4 4 = (false, false, ⟨r + 1, T3, true, N4, false⟩) ∧
  updF ⟨r + 1, T3, true, N4, false⟩ N4 (r + 2) true 4 4 = (false, false, ⟨r + 1, T3, true, N4, true⟩) ∧
  updF ⟨r + 1, T3, true, N4, true⟩ N5 (r + 2) false 4 4 = (false, true, ⟨r + 1, N5, false, N4, true⟩)
theorem way_gen (r a T1 T3 N2 N3 N4 N5 : Nat) (lr : 0 < r) (h1 : ¬ satAdd a 10000000000 < T1) (h3 : satAdd a 10000000000 < T3) (k2 : ¬ satAdd T3 10000000000 < N2) (k3 : ¬ satAdd T3 10000000000 < N3) (k4 : ¬ satAdd T3 10000000000 < N4) (k5 : ¬ satAdd T3 10000000000 < N5)
    (hx : satAdd N3 200000000 = N4) (h0 : ¬ N4 = 0) (h5 : ¬ N5 ≤ N4) : WayF r a T1 T3 N2 N3 N4 N5 := by
  have n0 : ¬ r = 0 := by omega
  refine ⟨?_, ?_, ?_, ?_, ?_, ?_, ?_⟩
  · simp [updF, s1F, setF, expF, lr]
  · simp [updF, s1F, setF, expF, h1, n0]
  · simp [updF, s1F, setF, expF, h3, lr]
  · simp [updF, s1F, setF, expF, k2, leavesF]
  · simp [updF, s1F, setF, expF, k3, leavesF, hx]
  · simp [updF, s1F, setF, expF, k4, leavesF, h0]
  · simp [updF, s1F, setF, expF, k5, leavesF, h0, h5]
theorem sat_small (a b : Nat) (h : a + b < 18446744073709551616) : satAdd a b = a + b := by unfold satAdd; rw [if_pos h]
theorem way_facts (r a l : Nat) (lr : 0 < r) (la : a < 1099511627776) (ll : l < 1000) :
    WayF r a (a + 10000000000) (a + 10000000001 + l) (a + 10000000002 + l) (a + 10000000003 + l) (a + 10200000003 + l) (a + 10200000004 + l) := by
  refine way_gen r a _ _ _ _ _ _ lr ?_ ?_ ?_ ?_ ?_ ?_ ?_ ?_ ?_
  · rw [sat_small _ _ (by omega)]; omega
  · rw [sat_small _ _ (by omega)]; omega
  · rw [sat_small _ _ (by omega)]; omega
  · rw [sat_small _ _ (by omega)]; omega
  · rw [sat_small _ _ (by omega)]; omega
  · rw [sat_small _ _ (by omega)]; omega
  · rw [sat_small _ _ (by omega)]; omega
  · omega
  · omega

set_option maxHeartbeats 1000000 in
theorem way_core (r0 a0 l0 r a l : Nat) (hr : 1 + (r0 : Int) % 1000000 = r) (ha : (a0 : Int) % 1099511627776 = a) (hl : (l0 : Int) % 1000 = l) (lr : 0 < r) (lr' : r ≤ 1000000) (la : a < 1099511627776) (ll : l < 1000) (T1 T3 N2 N3 N4 N5 : Nat) (hw : WayF r a T1 T3 N2 N3 N4 N5) (t1 : T1 = a + 10000000000) (t3 : T3 = a + 10000000001 + l) (t4 : N2 = a + 10000000002 + l) (t5 : N3 = a + 10000000003 + l) (t6 : N4 = a + 10200000003 + l) (t7 : N5 = a + 10200000004 + l) (w : World) :
    Calls Try.prog 9 #[.int .u64 r0, .int .u64 a0, .int .u64 l0] w fun e w' => e = .returned (.bool true) ∧ Below w.heap.size w w' := by
  have HW := Lib.hid hw
  clear hw
  have wr : IntKind.u64.wrap (r : Int) = r := by rw [IntKind.wrap_u64]; omega
  go_enter Try.func9, Try.ntmps9
  go_wp2_with fail
  refine (pnew_any _).mono ?_; rintro e w1 ⟨rfl, hw1⟩
  have O1 : Hid (Own w w1 w.heap.size 69 (prb ⟨0, 0, false, 0, false⟩)) := by rw [hw1]; exact Own.made (Below.refl _ _) _ _
  clear hw1
  go_wp2_with fail
  refine (awake15 _).mono ?_; rintro e w2 ⟨rfl, b2⟩
  have O2 := Lib.hid (O1.out.below b2)
  clear b2
  try rw [hr]
  try rw [ha]
  try rw [hl]
  try rw [wr]
  clear hr ha hl
  go_wp2_with fail
  refine (upd_res w.heap.size _ a r _ 9 4 HW.out.1 (by simp) (by omega) (by omega) (by omega) rfl rfl _ O2.out.1).mono ?_; rintro e w3 ⟨rfl, p3⟩
  have O3 := Lib.hid (O2.out.put p3)
  clear p3
  go_wp2_with fail
  refine (upd_res w.heap.size _ T1 (r + 1) _ 9 4 HW.out.2.1 (by dsimp only; omega) (by omega) (by omega) (by omega) rfl rfl _ O3.out.1).mono ?_; rintro e w4 ⟨rfl, p4⟩
  have O4 := Lib.hid (O3.out.put p4)
  clear p4
  go_wp2_with fail
  refine (upd_res w.heap.size _ T3 (r + 1) _ 9 4 HW.out.2.2.1 (by dsimp only; omega) (by omega) (by omega) (by omega) rfl rfl _ O4.out.1).mono ?_; rintro e w5 ⟨rfl, p5⟩
  have O5 := Lib.hid (O4.out.put p5)
  clear p5
  go_wp2_with fail
  refine (upd_res w.heap.size _ N2 (r + 2) _ 5 4 HW.out.2.2.2.1 (by dsimp only; omega) (by omega) (by omega) (by omega) rfl rfl _ O5.out.1).mono ?_; rintro e w6 ⟨rfl, p6⟩
  have O6 := Lib.hid (O5.out.put p6)
  clear p6
  go_wp2_with fail
  refine (upd_res w.heap.size _ N3 (r + 2) _ 4 4 HW.out.2.2.2.2.1 (by dsimp only; omega) (by omega) (by omega) (by omega) rfl rfl _ O6.out.1).mono ?_; rintro e w7 ⟨rfl, p7⟩
  have O7 := Lib.hid (O6.out.put p7)
  clear p7
  go_wp2_with fail
  refine (upd_res w.heap.size _ N4 (r + 2) _ 4 4 HW.out.2.2.2.2.2.1 (by dsimp only; omega) (by omega) (by omega) (by omega) rfl rfl _ O7.out.1).mono ?_; rintro e w8 ⟨rfl, p8⟩
  have O8 := Lib.hid (O7.out.put p8)
  clear p8
  go_wp2_with fail
  refine (upd_res w.heap.size _ N5 (r + 2) _ 4 4 HW.out.2.2.2.2.2.2 (by dsimp only; omega) (by omega) (by omega) (by omega) rfl rfl _ O8.out.1).mono ?_; rintro e w9 ⟨rfl, p9⟩
  have O9 := Lib.hid (O8.out.put p9)
  clear p9
  go_wp2_with fail
  refine (upd_nil 1 1 true 1 1 _).mono ?_; rintro e w' ⟨rfl, rfl⟩
  go_wp2_with fail
  refine (best_any w.heap.size ⟨r + 1, N5, false, N4, true⟩ _ O9.out.1).mono ?_; rintro e w' ⟨rfl, rfl⟩
  go_wp2_with fail
  refine (best_nil _).mono ?_; rintro e w' ⟨rfl, rfl⟩
  go_wp2_with fail
  refine (in_nil _).mono ?_; rintro e w' ⟨rfl, rfl⟩
  go_wp2
  go_ret
  exact ⟨rfl, O9.out.2.1⟩

theorem way_any (r0 a0 l0 : Nat) (w : World) :
    Calls Try.prog 9 #[.int .u64 r0, .int .u64 a0, .int .u64 l0] w fun e w' => e = .returned (.bool true) ∧ Below w.heap.size w w' :=
  way_core r0 a0 l0 (1 + r0 % 1000000) (a0 % 1099511627776) (l0 % 1000) (by simp) (by simp) (by simp) (by omega) (by omega) (by omega) (by omega) _ _ _ _ _ _ (way_facts _ _ _ (by omega) (by omega) (by omega)) rfl rfl rfl rfl rfl rfl w
end Go.Proofs.Ytgdbmjokpbjoaaa
