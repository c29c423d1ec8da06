/- The walks of CycleHolds and CycleRound. -/
import Derived.Test.YtalcccghiemnjaaCycle
namespace Go.Proofs.Ytalcccghiemnjaa
open Go.RowKit Go.Lib
set_option linter.unusedVariables false

theorem u64_conv (a : Int) (K : Nat) (hK : 0 < K) : ∃ m n : Nat, IntKind.u64.wrap a = m ∧ (m : Int) % K = n ∧ n < K :=
  ⟨(IntKind.u64.wrap a).toNat, (IntKind.u64.wrap a).toNat % K, by rw [IntKind.wrap_u64]; omega, by simp, Nat.mod_lt _ hK⟩

set_option maxHeartbeats 1000000 in
theorem holds_core (r0 u0 o0 : Nat) (far : Int) (rtt u up up1 one one1 m f now : Nat) (er : (r0 : Int) % 1000000 = rtt) (eu : (u0 : Int) % 1000000 = u) (eu2 : 10 + (u : Int) = up) (eu3 : (up : Int) - 1 = up1) (eo : (o0 : Int) % 1000000 = one) (eo2 : (one : Int) + 1 = one1)
    (em : IntKind.u64.wrap far = m) (ef : (m : Int) % 1000 = f) (en : (rtt : Int) + 1 + f = now) (lr : rtt < 1000000) (lu : u < 1000000) (lo : one < 1000000) (lf : f < 1000) (w : World) :
    Calls Try.prog 4 #[.int .u64 r0, .int .u64 u0, .int .u64 o0, .int .i64 far] w fun e w' => e = .returned (.bool true) ∧ Below w.heap.size w w' := by
  have bn : now < 18446744073709551616 := by omega
  have br : rtt < 18446744073709551616 := by omega
  have n1 : nextB 0 0 now rtt 0 up1 up one = false := by unfold nextB endsB; simp; omega
  have n2 : nextB 0 0 now rtt 0 up up one = true := by unfold nextB endsB; simp; omega
  have n3 : nextB 0 0 now rtt 1 0 up one = true := by unfold nextB endsB; simp; omega
  have n4 : nextB 1 0 0 rtt 0 one up one = true := by unfold nextB endsB; simp
  have n5 : nextB 1 0 rtt rtt 0 one1 up one = false := by unfold nextB endsB; simp; omega
  have N1 := Lib.hid n1
  have N2 := Lib.hid n2
  have N3 := Lib.hid n3
  have N4 := Lib.hid n4
  have N5 := Lib.hid n5
  clear n1 n2 n3 n4 n5
  have HN := Lib.hid new_any
  go_enter Try.func4, Try.ntmps4
  go_wp2_with fail
  refine (HN.out _).mono ?_; rintro e w1 ⟨rfl, hw1⟩
  have O1 : Hid (Own w w1 w.heap.size 52 (cyc 0 0)) := by rw [hw1]; exact Own.made (Below.refl _ _) _ _
  clear hw1
  go_wp2_with fail
  refine (awake14 _).mono ?_; rintro e w2 ⟨rfl, b2⟩
  have O2 := Lib.hid (O1.out.below b2)
  clear b2
  go_wp2_with fail
  refine (start_nat w.heap.size 0 0 0 0 (by omega) _ O2.out.1).mono ?_; rintro e w3 ⟨rfl, p3⟩
  have O3 := Lib.hid (O2.out.put p3)
  clear p3
  go_wp2_with fail
  refine (update_no w.heap.size 0 0 now rtt 0 up1 up one (by omega) bn _ O3.out.1 N1.out).mono ?_; rintro e w' ⟨rfl, rfl⟩
  go_wp2_with fail
  refine (start_nat w.heap.size 0 0 0 0 (by omega) _ O3.out.1).mono ?_; rintro e w4 ⟨rfl, p4⟩
  have O4 := Lib.hid (O3.out.put p4)
  clear p4
  go_wp2_with fail
  refine (update_yes w.heap.size 0 0 now rtt 0 up up one (by omega) (by omega) bn _ O4.out.1 N2.out).mono ?_; rintro e w5 ⟨rfl, p5⟩
  have O5 := Lib.hid (O4.out.put p5)
  clear p5
  go_wp2_with fail
  refine (start_nat w.heap.size 1 now 0 0 (by omega) _ O5.out.1).mono ?_; rintro e w6 ⟨rfl, p6⟩
  have O6 := Lib.hid (O5.out.put p6)
  clear p6
  go_wp2_with fail
  refine (update_yes w.heap.size 0 0 now rtt 1 0 up one (by omega) (by omega) bn _ O6.out.1 N3.out).mono ?_; rintro e w7 ⟨rfl, p7⟩
  have O7 := Lib.hid (O6.out.put p7)
  clear p7
  go_wp2_with fail
  refine (start_nat w.heap.size 1 now 0 1 (by omega) _ O7.out.1).mono ?_; rintro e w8 ⟨rfl, p8⟩
  have O8 := Lib.hid (O7.out.put p8)
  clear p8
  go_wp2_with fail
  refine (update_yes w.heap.size 1 0 0 rtt 0 one up one (by omega) (by omega) (by omega) _ O8.out.1 N4.out).mono ?_; rintro e w9 ⟨rfl, p9⟩
  have O9 := Lib.hid (O8.out.put p9)
  clear p9
  go_wp2_with fail
  refine (start_nat w.heap.size 2 0 0 1 (by omega) _ O9.out.1).mono ?_; rintro e w10 ⟨rfl, p10⟩
  have O10 := Lib.hid (O9.out.put p10)
  clear p10
  go_wp2_with fail
  refine (update_no w.heap.size 1 0 rtt rtt 0 one1 up one (by omega) br _ O10.out.1 N5.out).mono ?_; rintro e w' ⟨rfl, rfl⟩
  go_wp2_with fail
  refine (gain_any w.heap.size 1 0 _ O10.out.1).mono ?_; rintro e w' ⟨rfl, rfl⟩
  go_wp2
  go_ret
  exact ⟨rfl, O10.out.2.1⟩

theorem holds_any (r0 u0 o0 : Nat) (far : Int) (w : World) :
    Calls Try.prog 4 #[.int .u64 r0, .int .u64 u0, .int .u64 o0, .int .i64 far] w fun e w' => e = .returned (.bool true) ∧ Below w.heap.size w w' := by
  obtain ⟨m, f, e1, e2, e3⟩ := u64_conv far 1000 (by omega)
  exact holds_core r0 u0 o0 far (r0 % 1000000) (u0 % 1000000) (10 + u0 % 1000000) (9 + u0 % 1000000) (o0 % 1000000) (o0 % 1000000 + 1) m f (r0 % 1000000 + 1 + f) (by omega) (by omega) (by omega) (by omega) (by omega) (by omega) e1 e2 (by omega) (by omega) (by omega) (by omega) e3 w
end Go.Proofs.Ytalcccghiemnjaa
