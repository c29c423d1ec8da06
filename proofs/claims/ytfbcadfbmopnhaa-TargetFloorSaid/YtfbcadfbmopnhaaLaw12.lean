/- The walks of the statements over target (canterlaw12): each comes to true. -/
import Derived.Test.YtfbcadfbmopnhaaTarget
namespace Go.Proofs.Ytfbcadfbmopnhaa
open Go.RowKit Go.Lib
set_option linter.unusedVariables false

theorem bmore {a b c : World} (h : Below a.heap.size a b) (h2 : Below b.heap.size b c) : Below a.heap.size a c := h.trans (h2.mono h.size)

theorem awake12 (w : World) : Calls Try.prog 18 #[] w fun e w' => e = .returned (.bool true) ∧ Below w.heap.size w w' := by
  have c1 : ∀ w, Calls Try.prog 23 #[.int .u64 100, .int .u64 256] w fun e w' => e = .returned (.int .u64 100) ∧ Below w.heap.size w w' := fun w => by
    have h := rate_any 100 256 (by omega) (by omega) w
    rw [show trate 100 256 = 100 from by simp [trate, mulDiv, hi64]] at h
    exact h
  have c2 : ∀ w, Calls Try.prog 19 #[.int .u64 1000, .int .u64 1000000000, .int .u64 256] w fun e w' => e = .returned (.int .u64 1000) ∧ Below w.heap.size w w' := fun w => by
    have h := bdp_any 1000 1000000000 256 (by omega) (by omega) (by omega) w
    rw [show bdp 1000 1000000000 256 = 1000 from by simp [bdp, mulDiv, hi64]] at h
    exact h
  have c3 : ∀ w, Calls Try.prog 21 #[.int .u64 0, .int .u64 0, .int .u64 0, .int .u64 0, .int .u64 1000] w fun e w' => e = .returned (.int .u64 10000) ∧ Below w.heap.size w w' := fun w => by
    have h := window_any 0 0 0 0 1000 (by omega) (by omega) (by omega) (by omega) (by omega) w
    rw [show window 0 0 0 0 1000 = 10000 from by simp [window, satMul]] at h
    exact h
  have H1 := Lib.hid c1
  have H2 := Lib.hid c2
  have H3 := Lib.hid c3
  clear c1 c2 c3
  go_enter Try.func18, Try.ntmps18
  go_wp2_with fail
  refine (H1.out _).mono ?_; rintro e w1 ⟨rfl, b1⟩
  go_wp2_with fail
  refine (H2.out _).mono ?_; rintro e w2 ⟨rfl, b2⟩
  go_wp2_with fail
  refine (H3.out _).mono ?_; rintro e w3 ⟨rfl, b3⟩
  go_wp2
  go_ret
  exact ⟨rfl, bmore (bmore b1 b2) b3⟩

theorem targetTells_any (v x g t m : Nat) (hv : v < 18446744073709551616) (hx : x < 18446744073709551616) (hg : g < 18446744073709551616) (ht : t < 18446744073709551616) (hm : m < 18446744073709551616) (w : World) :
    Calls Try.prog 8 #[.int .u64 v, .int .u64 x, .int .u64 g, .int .u64 t, .int .u64 m] w fun e w' => e = .returned (.bool true) ∧ Below w.heap.size w w' := by
  go_enter Try.func8, Try.ntmps8
  go_wp2_with fail
  refine (awake12 _).mono ?_; rintro e w1 ⟨rfl, b1⟩
  go_wp2_with fail
  refine (bdp_any v x g hv hx hg _).mono ?_; rintro e w2 ⟨rfl, b2⟩
  go_wp2_with fail
  refine (rbdp_any v x g hv hx hg _).mono ?_; rintro e w' ⟨rfl, rfl⟩
  go_wp2_with fail
  refine (window_any v x g t m hv hx hg ht hm _).mono ?_; rintro e w3 ⟨rfl, b3⟩
  go_wp2_with fail
  refine (rwindow_any v x g t m hv hx hg ht hm _).mono ?_; rintro e w' ⟨rfl, rfl⟩
  go_wp2_with fail
  refine (rate_any v g hv hg _).mono ?_; rintro e w4 ⟨rfl, b4⟩
  go_wp2_with fail
  refine (rrate_any v g hv hg _).mono ?_; rintro e w' ⟨rfl, rfl⟩
  go_wp2
  go_ret
  exact ⟨rfl, bmore (bmore (bmore b1 b2) b3) b4⟩

/-! plain facts -/
theorem bdp_mono {a a' b b' c c' : Nat} (h1 : a ≤ a') (h2 : b ≤ b') (h3 : c ≤ c') : bdp a b c ≤ bdp a' b' c' := mulDiv_mono (mulDiv_mono h1 h2) h3
theorem trate_mono {a a' b : Nat} (h1 : a ≤ a') : trate a b ≤ trate a' b := mulDiv_mono h1 (Nat.le_refl _)
theorem satAdd_le_left (a b : Nat) (h : a < 18446744073709551616) : a ≤ satAdd a b := by rw [satAdd_eq]; omega
theorem satAdd_mono {a a' b b' : Nat} (h : a ≤ a') (h' : b ≤ b') : satAdd a b ≤ satAdd a' b' := by rw [satAdd_eq, satAdd_eq]; omega
theorem satMul_mono {a a' b b' : Nat} (h : a ≤ a') (h' : b ≤ b') : satMul a b ≤ satMul a' b' := by
  have := Nat.mul_le_mul h h'
  rw [satMul_eq, satMul_eq]; omega
theorem window_mono {a a' x g t m : Nat} (h : a ≤ a') : window a x g t m ≤ window a' x g t m := by
  unfold window
  split
  · omega
  · have h1 := bdp_mono h (Nat.le_refl x) (Nat.le_refl g)
    have := satAdd_mono h1 (Nat.le_refl (satMul 3 t))
    omega
theorem window_floor (a x g t m : Nat) : satMul 4 m ≤ window a x g t m := by
  unfold window
  split
  · exact satMul_mono (by omega) (Nat.le_refl _)
  · omega

set_option maxHeartbeats 2000000 in
theorem targetMore_core (a b x more g t m lo hi F G W1 W2 B1 B2 B3 B4 R1 R2 M4 : Int) (hlo : a < b ∧ lo = a ∧ hi = b ∨ b < a ∧ lo = b ∧ hi = a ∨ a = b ∧ lo = b ∧ hi = b)
    (h12 : B1 ≤ B2) (h13 : B1 ≤ B3) (hr : R1 ≤ R2) (hw : M4 ≤ W1) (hw2 : x = 0 ∨ (x == 0) = false ∧ W1 ≤ W2) (h14 : B1 ≤ B4)
    (cF : ∀ w, Calls Try.prog 17 #[.int .u64 x, .int .u64 more] w fun e w' => e = .returned (.int .u64 F) ∧ w = w')
    (cW1 : ∀ w, Calls Try.prog 21 #[.int .u64 lo, .int .u64 x, .int .u64 g, .int .u64 t, .int .u64 m] w fun e w' => e = .returned (.int .u64 W1) ∧ Below w.heap.size w w')
    (cB1 : ∀ w, Calls Try.prog 19 #[.int .u64 lo, .int .u64 x, .int .u64 g] w fun e w' => e = .returned (.int .u64 B1) ∧ Below w.heap.size w w')
    (cB2 : ∀ w, Calls Try.prog 19 #[.int .u64 hi, .int .u64 x, .int .u64 g] w fun e w' => e = .returned (.int .u64 B2) ∧ Below w.heap.size w w')
    (cB3 : ∀ w, Calls Try.prog 19 #[.int .u64 lo, .int .u64 F, .int .u64 g] w fun e w' => e = .returned (.int .u64 B3) ∧ Below w.heap.size w w')
    (cR1 : ∀ w, Calls Try.prog 23 #[.int .u64 lo, .int .u64 g] w fun e w' => e = .returned (.int .u64 R1) ∧ Below w.heap.size w w')
    (cR2 : ∀ w, Calls Try.prog 23 #[.int .u64 hi, .int .u64 g] w fun e w' => e = .returned (.int .u64 R2) ∧ Below w.heap.size w w')
    (cM4 : ∀ w, Calls Try.prog 25 #[.int .u64 4, .int .u64 m] w fun e w' => e = .returned (.int .u64 M4) ∧ w = w')
    (cW2 : ∀ w, Calls Try.prog 21 #[.int .u64 hi, .int .u64 x, .int .u64 g, .int .u64 t, .int .u64 m] w fun e w' => e = .returned (.int .u64 W2) ∧ Below w.heap.size w w')
    (cG : ∀ w, Calls Try.prog 17 #[.int .u64 g, .int .u64 more] w fun e w' => e = .returned (.int .u64 G) ∧ w = w')
    (cB4 : ∀ w, Calls Try.prog 19 #[.int .u64 lo, .int .u64 x, .int .u64 G] w fun e w' => e = .returned (.int .u64 B4) ∧ Below w.heap.size w w') (w : World) :
    Calls Try.prog 9 #[.int .u64 a, .int .u64 b, .int .u64 x, .int .u64 more, .int .u64 g, .int .u64 t, .int .u64 m] w fun e w' => e = .returned (.bool true) ∧ Below w.heap.size w w' := by
  have CF := Lib.hid cF
  have CW1 := Lib.hid cW1
  have CB1 := Lib.hid cB1
  have CB2 := Lib.hid cB2
  have CB3 := Lib.hid cB3
  have CR1 := Lib.hid cR1
  have CR2 := Lib.hid cR2
  have CM4 := Lib.hid cM4
  have CW2 := Lib.hid cW2
  have CG := Lib.hid cG
  have CB4 := Lib.hid cB4
  clear cF cW1 cB1 cB2 cB3 cR1 cR2 cM4 cW2 cG cB4
  rcases hlo with ⟨hab, rfl, rfl⟩ | ⟨hab, rfl, rfl⟩ | ⟨rfl, rfl, rfl⟩ <;> rcases hw2 with rfl | ⟨hx, hw2⟩
  · go_enter Try.func9, Try.ntmps9
    go_wp2_with fail
    refine (CF.out _).mono ?_; rintro e w' ⟨rfl, rfl⟩
    go_wp2_with fail
    refine (CW1.out _).mono ?_; rintro e w1 ⟨rfl, b1⟩
    go_wp2_with fail
    refine (awake12 _).mono ?_; rintro e w2 ⟨rfl, b2⟩
    go_wp2_with fail
    refine (CB1.out _).mono ?_; rintro e w3 ⟨rfl, b3⟩
    go_wp2_with fail
    refine (CB2.out _).mono ?_; rintro e w4 ⟨rfl, b4⟩
    go_wp2_with fail
    refine (CB1.out _).mono ?_; rintro e w5 ⟨rfl, b5⟩
    go_wp2_with fail
    refine (CB3.out _).mono ?_; rintro e w6 ⟨rfl, b6⟩
    go_wp2_with fail
    refine (CR1.out _).mono ?_; rintro e w7 ⟨rfl, b7⟩
    go_wp2_with fail
    refine (CR2.out _).mono ?_; rintro e w8 ⟨rfl, b8⟩
    go_wp2_with fail
    refine (CM4.out _).mono ?_; rintro e w' ⟨rfl, rfl⟩
    go_wp2_with fail
    refine (CB1.out _).mono ?_; rintro e w9 ⟨rfl, b9⟩
    go_wp2_with fail
    refine (CG.out _).mono ?_; rintro e w' ⟨rfl, rfl⟩
    go_wp2_with fail
    refine (CB4.out _).mono ?_; rintro e w10 ⟨rfl, b10⟩
    go_wp2
    go_ret
    exact ⟨rfl, bmore (bmore (bmore (bmore (bmore (bmore (bmore (bmore (bmore b1 b2) b3) b4) b5) b6) b7) b8) b9) b10⟩
  · go_enter Try.func9, Try.ntmps9
    go_wp2_with fail
    refine (CF.out _).mono ?_; rintro e w' ⟨rfl, rfl⟩
    go_wp2_with fail
    refine (CW1.out _).mono ?_; rintro e w1 ⟨rfl, b1⟩
    go_wp2_with fail
    refine (awake12 _).mono ?_; rintro e w2 ⟨rfl, b2⟩
    go_wp2_with fail
    refine (CB1.out _).mono ?_; rintro e w3 ⟨rfl, b3⟩
    go_wp2_with fail
    refine (CB2.out _).mono ?_; rintro e w4 ⟨rfl, b4⟩
    go_wp2_with fail
    refine (CB1.out _).mono ?_; rintro e w5 ⟨rfl, b5⟩
    go_wp2_with fail
    refine (CB3.out _).mono ?_; rintro e w6 ⟨rfl, b6⟩
    go_wp2_with fail
    refine (CR1.out _).mono ?_; rintro e w7 ⟨rfl, b7⟩
    go_wp2_with fail
    refine (CR2.out _).mono ?_; rintro e w8 ⟨rfl, b8⟩
    go_wp2_with fail
    refine (CM4.out _).mono ?_; rintro e w' ⟨rfl, rfl⟩
    go_wp2_with fail
    refine (CW2.out _).mono ?_; rintro e w11 ⟨rfl, b11⟩
    go_wp2_with fail
    refine (CB1.out _).mono ?_; rintro e w9 ⟨rfl, b9⟩
    go_wp2_with fail
    refine (CG.out _).mono ?_; rintro e w' ⟨rfl, rfl⟩
    go_wp2_with fail
    refine (CB4.out _).mono ?_; rintro e w10 ⟨rfl, b10⟩
    go_wp2
    go_ret
    exact ⟨rfl, bmore (bmore (bmore (bmore (bmore (bmore (bmore (bmore (bmore (bmore b1 b2) b3) b4) b5) b6) b7) b8) b11) b9) b10⟩
  · go_enter Try.func9, Try.ntmps9
    go_wp2_with fail
    refine (CF.out _).mono ?_; rintro e w' ⟨rfl, rfl⟩
    go_wp2_with fail
    refine (CW1.out _).mono ?_; rintro e w1 ⟨rfl, b1⟩
    go_wp2_with fail
    refine (awake12 _).mono ?_; rintro e w2 ⟨rfl, b2⟩
    go_wp2_with fail
    refine (CB1.out _).mono ?_; rintro e w3 ⟨rfl, b3⟩
    go_wp2_with fail
    refine (CB2.out _).mono ?_; rintro e w4 ⟨rfl, b4⟩
    go_wp2_with fail
    refine (CB1.out _).mono ?_; rintro e w5 ⟨rfl, b5⟩
    go_wp2_with fail
    refine (CB3.out _).mono ?_; rintro e w6 ⟨rfl, b6⟩
    go_wp2_with fail
    refine (CR1.out _).mono ?_; rintro e w7 ⟨rfl, b7⟩
    go_wp2_with fail
    refine (CR2.out _).mono ?_; rintro e w8 ⟨rfl, b8⟩
    go_wp2_with fail
    refine (CM4.out _).mono ?_; rintro e w' ⟨rfl, rfl⟩
    go_wp2_with fail
    refine (CB1.out _).mono ?_; rintro e w9 ⟨rfl, b9⟩
    go_wp2_with fail
    refine (CG.out _).mono ?_; rintro e w' ⟨rfl, rfl⟩
    go_wp2_with fail
    refine (CB4.out _).mono ?_; rintro e w10 ⟨rfl, b10⟩
    go_wp2
    go_ret
    exact ⟨rfl, bmore (bmore (bmore (bmore (bmore (bmore (bmore (bmore (bmore b1 b2) b3) b4) b5) b6) b7) b8) b9) b10⟩
  · go_enter Try.func9, Try.ntmps9
    go_wp2_with fail
    refine (CF.out _).mono ?_; rintro e w' ⟨rfl, rfl⟩
    go_wp2_with fail
    refine (CW1.out _).mono ?_; rintro e w1 ⟨rfl, b1⟩
    go_wp2_with fail
    refine (awake12 _).mono ?_; rintro e w2 ⟨rfl, b2⟩
    go_wp2_with fail
    refine (CB1.out _).mono ?_; rintro e w3 ⟨rfl, b3⟩
    go_wp2_with fail
    refine (CB2.out _).mono ?_; rintro e w4 ⟨rfl, b4⟩
    go_wp2_with fail
    refine (CB1.out _).mono ?_; rintro e w5 ⟨rfl, b5⟩
    go_wp2_with fail
    refine (CB3.out _).mono ?_; rintro e w6 ⟨rfl, b6⟩
    go_wp2_with fail
    refine (CR1.out _).mono ?_; rintro e w7 ⟨rfl, b7⟩
    go_wp2_with fail
    refine (CR2.out _).mono ?_; rintro e w8 ⟨rfl, b8⟩
    go_wp2_with fail
    refine (CM4.out _).mono ?_; rintro e w' ⟨rfl, rfl⟩
    go_wp2_with fail
    refine (CW2.out _).mono ?_; rintro e w11 ⟨rfl, b11⟩
    go_wp2_with fail
    refine (CB1.out _).mono ?_; rintro e w9 ⟨rfl, b9⟩
    go_wp2_with fail
    refine (CG.out _).mono ?_; rintro e w' ⟨rfl, rfl⟩
    go_wp2_with fail
    refine (CB4.out _).mono ?_; rintro e w10 ⟨rfl, b10⟩
    go_wp2
    go_ret
    exact ⟨rfl, bmore (bmore (bmore (bmore (bmore (bmore (bmore (bmore (bmore (bmore b1 b2) b3) b4) b5) b6) b7) b8) b11) b9) b10⟩
  · go_enter Try.func9, Try.ntmps9
    go_wp2_with fail
    refine (CF.out _).mono ?_; rintro e w' ⟨rfl, rfl⟩
    go_wp2_with fail
    refine (CW1.out _).mono ?_; rintro e w1 ⟨rfl, b1⟩
    go_wp2_with fail
    refine (awake12 _).mono ?_; rintro e w2 ⟨rfl, b2⟩
    go_wp2_with fail
    refine (CB1.out _).mono ?_; rintro e w3 ⟨rfl, b3⟩
    go_wp2_with fail
    refine (CB2.out _).mono ?_; rintro e w4 ⟨rfl, b4⟩
    go_wp2_with fail
    refine (CB1.out _).mono ?_; rintro e w5 ⟨rfl, b5⟩
    go_wp2_with fail
    refine (CB3.out _).mono ?_; rintro e w6 ⟨rfl, b6⟩
    go_wp2_with fail
    refine (CR1.out _).mono ?_; rintro e w7 ⟨rfl, b7⟩
    go_wp2_with fail
    refine (CR2.out _).mono ?_; rintro e w8 ⟨rfl, b8⟩
    go_wp2_with fail
    refine (CM4.out _).mono ?_; rintro e w' ⟨rfl, rfl⟩
    go_wp2_with fail
    refine (CB1.out _).mono ?_; rintro e w9 ⟨rfl, b9⟩
    go_wp2_with fail
    refine (CG.out _).mono ?_; rintro e w' ⟨rfl, rfl⟩
    go_wp2_with fail
    refine (CB4.out _).mono ?_; rintro e w10 ⟨rfl, b10⟩
    go_wp2
    go_ret
    exact ⟨rfl, bmore (bmore (bmore (bmore (bmore (bmore (bmore (bmore (bmore b1 b2) b3) b4) b5) b6) b7) b8) b9) b10⟩
  · go_enter Try.func9, Try.ntmps9
    go_wp2_with fail
    refine (CF.out _).mono ?_; rintro e w' ⟨rfl, rfl⟩
    go_wp2_with fail
    refine (CW1.out _).mono ?_; rintro e w1 ⟨rfl, b1⟩
    go_wp2_with fail
    refine (awake12 _).mono ?_; rintro e w2 ⟨rfl, b2⟩
    go_wp2_with fail
    refine (CB1.out _).mono ?_; rintro e w3 ⟨rfl, b3⟩
    go_wp2_with fail
    refine (CB2.out _).mono ?_; rintro e w4 ⟨rfl, b4⟩
    go_wp2_with fail
    refine (CB1.out _).mono ?_; rintro e w5 ⟨rfl, b5⟩
    go_wp2_with fail
    refine (CB3.out _).mono ?_; rintro e w6 ⟨rfl, b6⟩
    go_wp2_with fail
    refine (CR1.out _).mono ?_; rintro e w7 ⟨rfl, b7⟩
    go_wp2_with fail
    refine (CR2.out _).mono ?_; rintro e w8 ⟨rfl, b8⟩
    go_wp2_with fail
    refine (CM4.out _).mono ?_; rintro e w' ⟨rfl, rfl⟩
    go_wp2_with fail
    refine (CW2.out _).mono ?_; rintro e w11 ⟨rfl, b11⟩
    go_wp2_with fail
    refine (CB1.out _).mono ?_; rintro e w9 ⟨rfl, b9⟩
    go_wp2_with fail
    refine (CG.out _).mono ?_; rintro e w' ⟨rfl, rfl⟩
    go_wp2_with fail
    refine (CB4.out _).mono ?_; rintro e w10 ⟨rfl, b10⟩
    go_wp2
    go_ret
    exact ⟨rfl, bmore (bmore (bmore (bmore (bmore (bmore (bmore (bmore (bmore (bmore b1 b2) b3) b4) b5) b6) b7) b8) b11) b9) b10⟩

theorem targetMore_any (a b x more g t m : Nat) (ha : a < 18446744073709551616) (hb : b < 18446744073709551616) (hx : x < 18446744073709551616) (hmo : more < 18446744073709551616) (hg : g < 18446744073709551616) (ht : t < 18446744073709551616) (hm : m < 18446744073709551616) (w : World) :
    Calls Try.prog 9 #[.int .u64 a, .int .u64 b, .int .u64 x, .int .u64 more, .int .u64 g, .int .u64 t, .int .u64 m] w fun e w' => e = .returned (.bool true) ∧ Below w.heap.size w w' := by
  obtain ⟨lo, hi, hlo, llo, lhi, hle⟩ : ∃ lo hi : Nat, ((a : Int) < b ∧ (lo : Int) = a ∧ (hi : Int) = b ∨ (b : Int) < a ∧ (lo : Int) = b ∧ (hi : Int) = a ∨ (a : Int) = b ∧ (lo : Int) = b ∧ (hi : Int) = b) ∧ lo < 18446744073709551616 ∧ hi < 18446744073709551616 ∧ lo ≤ hi := by
    rcases Nat.lt_trichotomy a b with h | h | h
    · exact ⟨a, b, .inl ⟨by omega, rfl, rfl⟩, ha, hb, by omega⟩
    · exact ⟨b, b, .inr (.inr ⟨by omega, rfl, rfl⟩), hb, hb, by omega⟩
    · exact ⟨b, a, .inr (.inl ⟨by omega, rfl, rfl⟩), hb, ha, by omega⟩
  have lF : satAdd x more < 18446744073709551616 := satAdd_lt
  have lG : satAdd g more < 18446744073709551616 := satAdd_lt
  exact targetMore_core a b x more g t m lo hi (satAdd x more : Nat) (satAdd g more : Nat) (window lo x g t m : Nat) (window hi x g t m : Nat) (bdp lo x g : Nat) (bdp hi x g : Nat) (bdp lo (satAdd x more) g : Nat) (bdp lo x (satAdd g more) : Nat) (trate lo g : Nat) (trate hi g : Nat) (satMul 4 m : Nat) hlo
    (Int.ofNat_le.2 (bdp_mono hle (Nat.le_refl _) (Nat.le_refl _))) (Int.ofNat_le.2 (bdp_mono (Nat.le_refl _) (satAdd_le_left _ _ hx) (Nat.le_refl _))) (Int.ofNat_le.2 (trate_mono hle)) (Int.ofNat_le.2 (window_floor _ _ _ _ _))
    (by rcases zero_or x with h | h
        · exact .inl (by omega)
        · exact .inr ⟨h, Int.ofNat_le.2 (window_mono hle)⟩)
    (Int.ofNat_le.2 (bdp_mono (Nat.le_refl _) (Nat.le_refl _) (satAdd_le_left _ _ hg)))
    (radd_any x more hx hmo) (window_any lo x g t m llo hx hg ht hm) (bdp_any lo x g llo hx hg) (bdp_any hi x g lhi hx hg) (bdp_any lo _ g llo lF hg) (rate_any lo g llo hg) (rate_any hi g lhi hg) (rmul_any 4 m (by omega) hm) (window_any hi x g t m lhi hx hg ht hm) (radd_any g more hg hmo) (bdp_any lo x _ llo hx lG) w
end Go.Proofs.Ytfbcadfbmopnhaa
