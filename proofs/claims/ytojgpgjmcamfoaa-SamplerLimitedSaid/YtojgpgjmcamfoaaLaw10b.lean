/- The walk of SamplerLimited. -/
import Derived.Test.YtojgpgjmcamfoaaSamJ
namespace Go.Proofs.Ytojgpgjmcamfoaa
open Go.RowKit Go.Lib
set_option linter.unusedVariables false

theorem satAdd_is {a b c : Nat} (h : a + b = c) (hc : c < 18446744073709551616) : satAdd a b = c := by unfold satAdd; rw [if_pos (by omega), h]
section
variable {z : Nat} (h1 : 1 ≤ z) (h2 : z ≤ 1000)
include h1 h2
theorem lim1 : limF sam0 z = ⟨0, 0, 0, z, false, 0, 0, 0, false, 0, 0⟩ := by
  unfold limF sam0
  simp only [satAdd_is (Nat.zero_add z) (show z < 18446744073709551616 by omega)]
  rw [Nat.max_eq_right h1]
theorem lim2 : sentF ⟨0, 0, 0, z, false, 0, 0, 0, false, 0, 0⟩ 1 z = ⟨0, 0, 0, z, false, 0, 0, 0, false, 0, 0⟩ := by unfold sentF; rw [if_neg (by omega)]
theorem lim2v : sentV ⟨0, 0, 0, z, false, 0, 0, 0, false, 0, 0⟩ 1 = ⟨1, 0, 0, 0, true⟩ := by
  unfold sentV
  simp only
  congr 1
  simp; omega
theorem lim3 : ackF ⟨0, 0, 0, z, false, 0, 0, 0, false, 0, 0⟩ 2 z ⟨0, 0, 0, 0, false⟩ = ⟨z, 2, 0, z, true, z, 0, 0, false, 0, 2⟩ := by
  unfold ackF
  simp only [satAdd_is (Nat.zero_add z) (show z < 18446744073709551616 by omega)]
  rw [if_pos (by simp), if_neg (by omega)]
  rfl
theorem lim4 : sentF ⟨z, 2, 0, z, true, z, 0, 0, false, 0, 2⟩ 2 z = ⟨z, 2, 0, z, true, z, 0, 0, false, 0, 2⟩ := by unfold sentF; rw [if_neg (by omega)]
theorem lim4v : sentV ⟨z, 2, 0, z, true, z, 0, 0, false, 0, 2⟩ 2 = ⟨2, z, 2, 0, true⟩ := by
  unfold sentV
  simp only
  congr 1
  simp; omega
theorem lim5 : ackF ⟨z, 2, 0, z, true, z, 0, 0, false, 0, 2⟩ 3 z ⟨1, 0, 0, 0, true⟩ = ⟨z + z, 3, 1, 0, true, z + z, 0, 0, true, 1, 2⟩ := by
  unfold ackF
  simp only [satAdd_is (rfl : z + z = z + z) (show z + z < 18446744073709551616 by omega)]
  rw [if_pos (by simp), if_pos (by omega)]
  rfl
theorem lim6 : sentF ⟨z + z, 3, 1, 0, true, z + z, 0, 0, true, 1, 2⟩ 3 z = ⟨z + z, 3, 1, 0, true, z + z, 0, 0, true, 1, 2⟩ := by unfold sentF; rw [if_neg (by omega)]
end
theorem lim6v {z : Nat} : sentV ⟨z + z, 3, 1, 0, true, z + z, 0, 0, true, 1, 2⟩ 3 = ⟨3, z + z, 3, 1, false⟩ := rfl

set_option maxRecDepth 8000 in
set_option maxHeartbeats 4000000 in
theorem limited_core (v z : Nat) (hz : 1 + v % 1000 = z) (w : World) :
    Calls Try.prog 6 #[.int .u64 v] w fun e w' => e = .returned (.bool true) ∧ Below w.heap.size w w' := by
  have h1 : 1 ≤ z := by omega
  have h2 : z ≤ 1000 := by omega
  have U1 := Lib.hid (lim1 h1 h2)
  have U2 := Lib.hid (lim2 h1 h2)
  have V2 := Lib.hid (lim2v h1 h2)
  have U3 := Lib.hid (lim3 h1 h2)
  have U4 := Lib.hid (lim4 h1 h2)
  have V4 := Lib.hid (lim4v h1 h2)
  have U5 := Lib.hid (lim5 h1 h2)
  have U6 := Lib.hid (lim6 h1 h2)
  have V6 := Lib.hid (lim6v (z := z))
  have q : 1 + (v : Int) % 1000 = z := by omega
  have q2 : (v : Int) % 1000 + 1 = z := by omega
  have q3 : IntKind.u64.wrap (z : Int) = z := by rw [IntKind.wrap_u64]; omega
  obtain ⟨Y, hY⟩ : ∃ Y, z + z = Y := ⟨_, rfl⟩
  rw [hY] at U5 U6 V6
  have hY2 : Y ≤ 2000 := by omega
  clear hz hY
  go_enter Try.func6, Try.ntmps6
  go_wp2_with fail
  refine (samnew_any _).mono ?_; rintro e w1 ⟨rfl, hw1⟩
  have O1 : Hid (Own w w1 w.heap.size 78 (sam sam0)) := by rw [hw1]; exact Lib.hid (Own.made (Below.refl _ _) _ _)
  clear hw1
  go_wp2_with fail
  refine (awake10 _).mono ?_; rintro e w2 ⟨rfl, b2⟩
  have O2 := Lib.hid (O1.out.below b2)
  clear b2
  go_wp2_with fail
  refine (sent_res w.heap.size sam0 sam0 0 0 ⟨0, 0, 0, 0, false⟩ (V := .agg #[.int .u64 0, .int .u64 0, .int .u64 0, .int .u64 0, .bool false]) rfl rfl rfl rfl rfl _ O2.out.1).mono ?_; rintro e w3 ⟨rfl, p3⟩
  have O3 := Lib.hid ((O2.out.put p3).alloc (.cells #[.int .u64 0, .int .u64 0, .int .u64 0, .int .u64 0, .bool false] 30))
  have A3 := Lib.hid (At.made w3 30 #[.int .u64 0, .int .u64 0, .int .u64 0, .int .u64 0, .bool false])
  have hx3 : w.heap.size < w3.heap.size := p3.1.lt
  clear p3
  go_wp2_with fail
  refine (limit_res w.heap.size sam0 _ z U1.out rfl sam0_ok (by omega) _ O3.out.1).mono ?_; rintro e w4 ⟨rfl, p4⟩
  have O4 := Lib.hid (O3.out.put p4)
  have A4 := Lib.hid (p4.other A3.out (by omega))
  clear p4 A3
  go_wp2_with fail
  refine (sent_res w.heap.size _ _ 1 z ⟨1, 0, 0, 0, true⟩ (V := .agg #[.int .u64 1, .int .u64 0, .int .u64 0, .int .u64 0, .bool true]) U2.out V2.out rfl rfl rfl _ O4.out.1).mono ?_; rintro e w5 ⟨rfl, p5⟩
  have O5 := Lib.hid ((O4.out.put p5).alloc (.cells #[.int .u64 1, .int .u64 0, .int .u64 0, .int .u64 0, .bool true] 30))
  have A5 := p5.other A4.out (by omega)
  have hx5 : w3.heap.size < w5.heap.size := A5.lt
  have B5 := Lib.hid (At.made w5 30 #[.int .u64 1, .int .u64 0, .int .u64 0, .int .u64 0, .bool true])
  have a0 : w5.cell? ⟨w3.heap.size, 0, none⟩ = some (.int .u64 0) := A5.cell 0
  have a1 : w5.cell? ⟨w3.heap.size, 1, none⟩ = some (.int .u64 0) := A5.cell 1
  have a2 : w5.cell? ⟨w3.heap.size, 2, none⟩ = some (.int .u64 0) := A5.cell 2
  have a3 : w5.cell? ⟨w3.heap.size, 3, none⟩ = some (.int .u64 0) := A5.cell 3
  have a4 : w5.cell? ⟨w3.heap.size, 4, none⟩ = some (.bool false) := A5.cell 4
  have A5' := Lib.hid (At.al A5 (.cells #[.int .u64 1, .int .u64 0, .int .u64 0, .int .u64 0, .bool true] 30))
  clear p5 A4 A5
  go_wp2_with fail
  refine (acked_res w.heap.size _ _ 2 z ⟨0, 0, 0, 0, false⟩ U3.out rfl rfl rfl ⟨by simp, by simp, by simp, by simp, by simp⟩ (by omega) (by omega) ⟨by simp, by simp, by simp⟩ _ O5.out.1).mono ?_; rintro e w6 ⟨rfl, p6⟩
  have O6 := Lib.hid (O5.out.put p6)
  have A6 := Lib.hid (p6.other A5'.out (by omega))
  have B6 := Lib.hid (p6.other B5.out (by omega))
  clear p6 A5' B5 a0 a1 a2 a3 a4
  go_wp2_with fail
  refine (sent_res w.heap.size _ _ 2 z ⟨2, z, 2, 0, true⟩ (V := .agg #[.int .u64 2, .int .u64 z, .int .u64 2, .int .u64 0, .bool true]) U4.out V4.out rfl rfl rfl _ O6.out.1).mono ?_; rintro e w7 ⟨rfl, p7⟩
  have O7 := Lib.hid ((O6.out.put p7).alloc (.cells #[.int .u64 2, .int .u64 z, .int .u64 2, .int .u64 0, .bool true] 30))
  have A7 := Lib.hid (At.al (p7.other A6.out (by omega)) (.cells #[.int .u64 2, .int .u64 z, .int .u64 2, .int .u64 0, .bool true] 30))
  have B7 := p7.other B6.out (by omega)
  have hx7 : w5.heap.size < w7.heap.size := B7.lt
  have b0 : w7.cell? ⟨w5.heap.size, 0, none⟩ = some (.int .u64 1) := B7.cell 0
  have b1 : w7.cell? ⟨w5.heap.size, 1, none⟩ = some (.int .u64 0) := B7.cell 1
  have b2 : w7.cell? ⟨w5.heap.size, 2, none⟩ = some (.int .u64 0) := B7.cell 2
  have b3 : w7.cell? ⟨w5.heap.size, 3, none⟩ = some (.int .u64 0) := B7.cell 3
  have b4 : w7.cell? ⟨w5.heap.size, 4, none⟩ = some (.bool true) := B7.cell 4
  have B7' := Lib.hid (At.al B7 (.cells #[.int .u64 2, .int .u64 z, .int .u64 2, .int .u64 0, .bool true] 30))
  have C7 := Lib.hid (At.made w7 30 #[.int .u64 2, .int .u64 z, .int .u64 2, .int .u64 0, .bool true])
  clear p7 A6 B6 B7
  go_wp2_with fail
  refine (acked_res w.heap.size _ _ 3 z ⟨1, 0, 0, 0, true⟩ U5.out rfl rfl rfl ⟨by simp; omega, by simp, by simp, by simp; omega, by simp⟩ (by omega) (by omega) ⟨by simp, by simp, by simp⟩ _ O7.out.1).mono ?_; rintro e w8 ⟨rfl, p8⟩
  have O8 := Lib.hid (O7.out.put p8)
  have A8 := Lib.hid (p8.other A7.out (by omega))
  have B8 := Lib.hid (p8.other B7'.out (by omega))
  have C8 := Lib.hid (p8.other C7.out (by omega))
  clear p8 A7 B7' C7 b0 b1 b2 b3 b4
  go_wp2_with fail
  refine (sent_res w.heap.size _ _ 3 z ⟨3, Y, 3, 1, false⟩ (V := .agg #[.int .u64 3, .int .u64 Y, .int .u64 3, .int .u64 1, .bool false]) U6.out V6.out rfl rfl rfl _ O8.out.1).mono ?_; rintro e w9 ⟨rfl, p9⟩
  have O9 := Lib.hid ((O8.out.put p9).alloc (.cells #[.int .u64 3, .int .u64 Y, .int .u64 3, .int .u64 1, .bool false] 30))
  have A9 := p9.other A8.out (by omega)
  have B9 := p9.other B8.out (by omega)
  have C9 := p9.other C8.out (by omega)
  have hx9 : w7.heap.size < w9.heap.size := C9.lt
  have a0 : w9.cell? ⟨w3.heap.size, 0, none⟩ = some (.int .u64 0) := A9.cell 0
  have a1 : w9.cell? ⟨w3.heap.size, 1, none⟩ = some (.int .u64 0) := A9.cell 1
  have a2 : w9.cell? ⟨w3.heap.size, 2, none⟩ = some (.int .u64 0) := A9.cell 2
  have a3 : w9.cell? ⟨w3.heap.size, 3, none⟩ = some (.int .u64 0) := A9.cell 3
  have a4 : w9.cell? ⟨w3.heap.size, 4, none⟩ = some (.bool false) := A9.cell 4
  have A9' := Lib.hid (At.al A9 (.cells #[.int .u64 3, .int .u64 Y, .int .u64 3, .int .u64 1, .bool false] 30))
  have B9' := Lib.hid (At.al B9 (.cells #[.int .u64 3, .int .u64 Y, .int .u64 3, .int .u64 1, .bool false] 30))
  have C9' := Lib.hid (At.al C9 (.cells #[.int .u64 3, .int .u64 Y, .int .u64 3, .int .u64 1, .bool false] 30))
  have D9 := Lib.hid (At.made w9 30 #[.int .u64 3, .int .u64 Y, .int .u64 3, .int .u64 1, .bool false])
  clear p9 A8 B8 C8 A9 B9 C9
  have hx10 : w3.heap.size < w9.heap.size := by omega
  have hx11 : w5.heap.size < w9.heap.size := by omega
  go_wp2_with fail
  refine (acked_nil 1 z ⟨0, 0, 0, 0, false⟩ _).mono ?_; rintro e w10 ⟨rfl, b10⟩
  have O10 := Lib.hid (O9.out.below b10)
  have A10 := A9'.out.below b10 (by simp; omega)
  have B10 := B9'.out.below b10 (by simp; omega)
  have C10 := C9'.out.below b10 (by simp; omega)
  have D10 := D9.out.below b10 (by simp)
  have t1 : w10.cell? ⟨w3.heap.size, 4, none⟩ = some (.bool false) := A10.cell 4
  have t2 : w10.cell? ⟨w5.heap.size, 4, none⟩ = some (.bool true) := B10.cell 4
  have t3 : w10.cell? ⟨w7.heap.size, 4, none⟩ = some (.bool true) := C10.cell 4
  have t4 : w10.cell? ⟨w9.heap.size, 4, none⟩ = some (.bool false) := D10.cell 4
  clear b10 A9' B9' C9' D9 A10 B10 C10 D10 a0 a1 a2 a3 a4
  go_wp2_with fail
  refine (limit_nil 1 _).mono ?_; rintro e w' ⟨rfl, rfl⟩
  go_wp2_with fail
  refine (delivered_nil _).mono ?_; rintro e w' ⟨rfl, rfl⟩
  go_wp2_with fail
  refine (sent_nil 1 1 _).mono ?_; rintro e w11 ⟨rfl, b11⟩
  have O11 := Lib.hid (O10.out.below b11)
  clear b11
  unfold stv
  go_wp2_with fail
  refine (take_nil 1 1 1 _).mono ?_; rintro e w12 ⟨rfl, b12⟩
  have O12 := Lib.hid (O11.out.below b12)
  clear b12
  unfold smp
  go_wp2
  go_ret
  exact ⟨rfl, O12.out.2.1⟩
theorem limited_any (v : Nat) (w : World) :
    Calls Try.prog 6 #[.int .u64 v] w fun e w' => e = .returned (.bool true) ∧ Below w.heap.size w w' := limited_core v _ rfl w
end Go.Proofs.Ytojgpgjmcamfoaa
