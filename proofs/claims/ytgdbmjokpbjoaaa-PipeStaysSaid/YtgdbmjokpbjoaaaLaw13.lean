/- The walk of PipeCounts, and the awake of the statements on pipe. -/
import Derived.Test.YtgdbmjokpbjoaaaPipe
import Derived.Test.YtgdbmjokpbjoaaaSat
namespace Go.Proofs.Ytgdbmjokpbjoaaa
open Go.RowKit Go.Lib
set_option linter.unusedVariables false

theorem grow_eq {b : Nat} (h : b < 13000000000000000000) : grow b = b * 320 / 256 := by
  unfold grow
  rw [mulDiv_min (by omega)]
  omega

theorem pup_res (b : Nat) (s : QS) (start limited : Bool) (bw : Nat) {s' : QS} {BW : Int} (hu : pupF s start limited bw = s') (hB : BW = bw) (hs : s.ok) (w : World) (h : At w b 72 (ppp s)) :
    Calls Try.prog 35 #[.pointer (some ⟨b, 0, none⟩), .bool start, .bool limited, .int .u64 BW] w
      fun e w' => e = .returned (.bool s'.full) ∧ Put w w' b 72 (ppp s') := by
  subst hu hB
  exact pup_any b s start limited bw hs w h
theorem full3 (b B n : Nat) (f : Bool) (w : World) (h : At w b 72 (ppp ⟨B, n, f⟩)) :
    Calls Try.prog 37 #[.pointer (some ⟨b, 0, none⟩)] w fun e w' => e = .returned (.bool f) ∧ w = w' := full_any b ⟨B, n, f⟩ w h

theorem awake13 (w : World) : Calls Try.prog 34 #[] w fun e w' => e = .returned (.bool true) ∧ Below w.heap.size w w' := by
  have g0 : grow 0 = 0 := grow_eq (by omega)
  have g1 : grow 100 = 125 := grow_eq (by omega)
  have u0 : pupF ⟨0, 0, false⟩ true false 100 = ⟨100, 0, false⟩ := by simp [pupF, g0]
  have u1 : pupF ⟨100, 0, false⟩ true false 100 = ⟨100, 1, false⟩ := by simp [pupF, g1]
  have u2 : pupF ⟨100, 1, false⟩ true false 100 = ⟨100, 2, false⟩ := by simp [pupF, g1]
  have u3 : pupF ⟨100, 2, false⟩ true false 100 = ⟨100, 3, true⟩ := by simp [pupF, g1]
  have U0 := Lib.hid u0
  have U1 := Lib.hid u1
  have U2 := Lib.hid u2
  have U3 := Lib.hid u3
  clear g0 g1 u0 u1 u2 u3
  go_enter Try.func34, Try.ntmps34
  go_wp2_with fail
  refine (ppnew_any _).mono ?_; rintro e w1 ⟨rfl, hw1⟩
  have O1 : Hid (Own w w1 w.heap.size 72 (ppp ⟨0, 0, false⟩)) := by rw [hw1]; exact Lib.hid (Own.made (Below.refl _ _) _ _)
  clear hw1
  go_wp2_with fail
  refine (full3 w.heap.size _ _ _ _ O1.out.1).mono ?_; rintro e w' ⟨rfl, rfl⟩
  go_wp2_with fail
  refine wp_loop_rounds 5 ?_
  rw [rounds_succ]
  go_wp2_with fail
  refine (pup_res w.heap.size _ _ _ 100 U0.out rfl (by simp [QS.ok]) _ O1.out.1).mono ?_; rintro e w2 ⟨rfl, p2⟩
  have O2 := Lib.hid (O1.out.put p2)
  clear p2
  go_wp2_with fail
  rw [rounds_succ]
  go_wp2_with fail
  refine (pup_res w.heap.size _ _ _ 100 U1.out rfl (by simp [QS.ok]) _ O2.out.1).mono ?_; rintro e w3 ⟨rfl, p3⟩
  have O3 := Lib.hid (O2.out.put p3)
  clear p3
  go_wp2_with fail
  rw [rounds_succ]
  go_wp2_with fail
  refine (pup_res w.heap.size _ _ _ 100 U2.out rfl (by simp [QS.ok]) _ O3.out.1).mono ?_; rintro e w4 ⟨rfl, p4⟩
  have O4 := Lib.hid (O3.out.put p4)
  clear p4
  go_wp2_with fail
  rw [rounds_succ]
  go_wp2_with fail
  refine (pup_res w.heap.size _ _ _ 100 U3.out rfl (by simp [QS.ok]) _ O4.out.1).mono ?_; rintro e w5 ⟨rfl, p5⟩
  have O5 := Lib.hid (O4.out.put p5)
  clear p5
  go_wp2_with fail
  rw [rounds_succ]
  go_wp2_with fail
  refine (full3 w.heap.size _ _ _ _ O5.out.1).mono ?_; rintro e w' ⟨rfl, rfl⟩
  go_wp2
  go_ret
  exact ⟨rfl, O5.out.2.1⟩

/-- a slice of booleans that came in -/
def BoolRow (w : World) (a : Option Addr) (len : Nat) (f : Nat → Bool) : Prop :=
  len ≤ 9223372036854775807 ∧ (0 < len → ∃ b off, a = some ⟨b, off, none⟩ ∧ b < w.heap.size ∧ ∀ k, k < len → w.cell? ⟨b, off + k, none⟩ = some (.bool (f k)))
theorem boolRow_of {w : World} {a : Option Addr} {len : Nat} (hl : len ≤ 9223372036854775807)
    (h : 0 < len → ∃ b off, a = some ⟨b, off, none⟩ ∧ b < w.heap.size ∧ ∀ k, k < len → ∃ x : Bool, w.cell? ⟨b, off + k, none⟩ = some (.bool x)) : ∃ f, BoolRow w a len f := by
  rcases Nat.eq_zero_or_pos len with rfl | hp
  · exact ⟨fun _ => false, by omega, fun h => by omega⟩
  · obtain ⟨b, off, ha, hb, hc⟩ := h hp
    have hc' : ∀ k, ∃ x : Bool, k < len → w.cell? ⟨b, off + k, none⟩ = some (.bool x) := by
      intro k
      by_cases hk : k < len
      · obtain ⟨x, hx⟩ := hc k hk
        exact ⟨x, fun _ => hx⟩
      · exact ⟨false, fun h => absurd h hk⟩
    obtain ⟨f, hf⟩ := Classical.axiomOfChoice hc'
    exact ⟨f, hl, fun _ => ⟨b, off, ha, hb, hf⟩⟩

def CountRel (w0 : World) (b len : Nat) (v6 v7 v8 v9 : Value) (wr : World) : Prop :=
  ∃ (k V n : Nat) (full : Bool) (s : QS), k ≤ len ∧ k ≤ 40 ∧ 100 ≤ V ∧ V ≤ 1099 * 2 ^ k ∧ n ≤ k ∧ s.ok ∧ s.full = full ∧ (full = false → s = ⟨V, n, false⟩ ∧ n ≤ 2) ∧
    v6 = .int .u64 V ∧ v7 = .int .i64 n ∧ v8 = .bool full ∧ v9 = .int .i64 k ∧ Own w0 wr b 72 (ppp s)

theorem count_up {V n : Nat} (h1 : 100 ≤ V) (h2 : V < 5000000000000000) : pupF ⟨V, n, false⟩ true false (V + V / 2) = ⟨V + V / 2, 0, false⟩ := by
  have g : grow V ≤ V + V / 2 := by rw [grow_eq (by omega)]; omega
  unfold pupF
  rw [if_neg (by simp), if_pos g]
theorem count_stay {V n : Nat} (h1 : 100 ≤ V) (h2 : V < 5000000000000000) : pupF ⟨V, n, false⟩ true false V = ⟨V, n + 1, decide (n = 2)⟩ := by
  have g : ¬ grow V ≤ V := by rw [grow_eq (by omega)]; omega
  unfold pupF
  rw [if_neg (by simp), if_neg g]
theorem count_full {s : QS} (h : s.full = true) (x y : Bool) (v : Nat) : pupF s x y v = s := by
  unfold pupF
  rw [if_pos (by simp [h])]
theorem pow_small {k V : Nat} (hk : k ≤ 40) (h : V ≤ 1099 * 2 ^ k) : V < 2000000000000000 := by
  have : 2 ^ k ≤ 2 ^ 40 := Nat.pow_le_pow_right (by omega) hk
  have : (2 : Nat) ^ 40 = 1099511627776 := by decide
  omega

set_option maxRecDepth 8000 in
set_option maxHeartbeats 4000000 in
theorem counts_core (v0 v1 : Nat) (a : Option Addr) (len cap : Nat) (g : Nat → Bool) (hv : 100 + (v0 : Int) % 1000 = v1) (lv : 100 ≤ v1) (lv' : v1 ≤ 1099) (w : World) (hrow : BoolRow w a len g) :
    Calls Try.prog 13 #[.int .u64 v0, .slice a len cap] w fun e w' => e = .returned (.bool true) ∧ Below w.heap.size w w' := by
  obtain ⟨hlen, hrow⟩ := hrow
  have HR := Lib.hid hrow
  clear hrow
  have u0 : pupF ⟨0, 0, false⟩ true false v1 = ⟨v1, 0, false⟩ := by
    have g0 : grow 0 = 0 := grow_eq (by omega)
    simp [pupF, g0]
  have U0 := Lib.hid u0
  clear u0
  have wv : IntKind.u64.wrap (v1 : Int) = v1 := by rw [IntKind.wrap_u64]; omega
  go_enter Try.func13, Try.ntmps13
  go_wp2_with fail
  refine (ppnew_any _).mono ?_; rintro e w1 ⟨rfl, hw1⟩
  have O1 : Hid (Own w w1 w.heap.size 72 (ppp ⟨0, 0, false⟩)) := by rw [hw1]; exact Lib.hid (Own.made (Below.refl _ _) _ _)
  clear hw1
  go_wp2_with fail
  refine (awake13 _).mono ?_; rintro e w2 ⟨rfl, b2⟩
  have O2 := Lib.hid (O1.out.below b2)
  clear b2
  go_wp2_with fail
  try rw [hv]
  try rw [wv]
  refine (pup_res w.heap.size _ _ _ v1 U0.out (by omega) (by simp [QS.ok]) _ O2.out.1).mono ?_; rintro e w3 ⟨rfl, p3⟩
  have O3 := Lib.hid (O2.out.put p3)
  clear p3 hv wv
  go_wp2_with fail
  go_loopw [6, 7, 8, 9] (fun v6 v7 v8 v9 wr => CountRel w w.heap.size len v6 v7 v8 v9 wr) (fun _ _ _ v9 _ => 40 - (intOf v9).toNat)
  case atStart => exact ⟨0, v1, 0, false, ⟨v1, 0, false⟩, by omega, by omega, lv, by omega, by omega, ⟨by dsimp only; omega, by simp, by simp⟩, rfl, fun _ => ⟨rfl, by omega⟩, rfl, rfl, rfl, rfl, O3.out⟩
  case round =>
    obtain ⟨k, V, n, full, s, hk1, hk2, hV, hV2, hn, hok, hf, hs, rfl, rfl, rfl, rfl, hO⟩ := hrel
    have HO := Lib.hid hO
    clear hO
    by_cases hlt : k < len ∧ k < 40
    · obtain ⟨lt1, lt2⟩ := hlt
      obtain ⟨b, off, rfl, hb, hc⟩ := HR.out (by omega)
      have d0 := (HO.out.2.1.cell (p := ⟨b, off + k, none⟩) hb).trans (hc k lt1)
      have hV4 := pow_small hk2 hV2
      have hV3 : V + V / 2 ≤ 1099 * 2 ^ (k + 1) := by rw [Nat.pow_succ]; omega
      have hV5 : V ≤ 1099 * 2 ^ (k + 1) := by rw [Nat.pow_succ]; omega
      obtain ⟨D, hD⟩ : ∃ D, V / 2 = D := ⟨_, rfl⟩
      have hd : (V : Int) / 2 = D := by omega
      have hd2 : (V : Int).tdiv 2 = D := by rw [Int.tdiv_eq_ediv_of_nonneg (by omega)]; omega
      have wD : IntKind.u64.wrap (D : Int) = D := by rw [IntKind.wrap_u64]; omega
      have wd : IntKind.u64.wrap ((V : Int) + D) = (V : Int) + D := by rw [IntKind.wrap_u64]; omega
      generalize g k = gk at *
      have HV3 := Lib.hid hV3
      have HD : Hid (D ≤ V) := Lib.hid (by omega)
      have HV5 := Lib.hid hV5
      have HOK := Lib.hid hok
      have HV := Lib.hid hV
      have HV4 := Lib.hid hV4
      clear hc hV3 hV5 hok hV hV2 hV4
      cases full
      · obtain ⟨rfl, hn2⟩ := hs rfl
        clear hf hs
        cases gk
        · have y : n = 0 ∨ n = 1 ∨ n = 2 := by omega
          rcases y with rfl | rfl | rfl
          · have HU := Lib.hid (count_stay (n := 0) HV.out (by have := HV4.out; omega))
            go_wp2_with fail
            refine (pup_res w.heap.size _ _ _ V HU.out (by omega) HOK.out _ HO.out.1).mono ?_; rintro e w4 ⟨rfl, p4⟩
            have O4 := Lib.hid (HO.out.put p4)
            clear p4
            go_wp2
            go_roundw
            case rel => exact ⟨k + 1, V, 1, false, ⟨V, 1, false⟩, by omega, by omega, HV.out, HV5.out, by omega, ⟨HOK.out.1, by simp, by simp⟩, rfl, fun _ => ⟨rfl, by omega⟩, rfl, by simp, by simp, by simp, by simpa using O4.out⟩
            case measure => simp [intOf]; omega
          · have HU := Lib.hid (count_stay (n := 1) HV.out (by have := HV4.out; omega))
            go_wp2_with fail
            refine (pup_res w.heap.size _ _ _ V HU.out (by omega) HOK.out _ HO.out.1).mono ?_; rintro e w4 ⟨rfl, p4⟩
            have O4 := Lib.hid (HO.out.put p4)
            clear p4
            go_wp2
            go_roundw
            case rel => exact ⟨k + 1, V, 2, false, ⟨V, 2, false⟩, by omega, by omega, HV.out, HV5.out, by omega, ⟨HOK.out.1, by simp, by simp⟩, rfl, fun _ => ⟨rfl, by omega⟩, rfl, by simp, by simp, by simp, by simpa using O4.out⟩
            case measure => simp [intOf]; omega
          · have HU := Lib.hid (count_stay (n := 2) HV.out (by have := HV4.out; omega))
            go_wp2_with fail
            refine (pup_res w.heap.size _ _ _ V HU.out (by omega) HOK.out _ HO.out.1).mono ?_; rintro e w4 ⟨rfl, p4⟩
            have O4 := Lib.hid (HO.out.put p4)
            clear p4
            go_wp2
            go_roundw
            case rel => exact ⟨k + 1, V, 3, true, ⟨V, 3, true⟩, by omega, by omega, HV.out, HV5.out, by omega, ⟨HOK.out.1, by simp, by simp⟩, rfl, fun h => (by cases h), rfl, by simp, by simp, by simp, by simpa using O4.out⟩
            case measure => simp [intOf]; omega
        · have hu := count_up (n := n) HV.out (by have := HV4.out; omega)
          rw [hD] at hu
          have HU := Lib.hid hu
          rw [hD] at HV3
          clear hu
          go_wp2_with fail
          refine (pup_res w.heap.size _ _ _ (V + D) HU.out (by first | rfl | simp) HOK.out _ HO.out.1).mono ?_; rintro e w4 ⟨rfl, p4⟩
          have O4 := Lib.hid (HO.out.put p4)
          clear p4 hd hd2 wd wD hD
          go_wp2
          go_roundw
          case rel => exact ⟨k + 1, V + D, 0, false, ⟨V + D, 0, false⟩, by omega, by omega, by have := HV.out; omega, HV3.out, by omega, ⟨by have := HV4.out; have := HD.out; dsimp only; omega, by simp, by simp⟩, rfl, fun _ => ⟨rfl, by omega⟩, by simp, by simp, by simp, by simp, O4.out⟩
          case measure => simp [intOf]; omega
      · have HU := Lib.hid (fun v => count_full hf true false v)
        have HF := Lib.hid hf
        clear hf hs
        cases gk
        · go_wp2_with fail
          refine (pup_res w.heap.size _ _ _ V (HU.out _) (by omega) HOK.out _ HO.out.1).mono ?_; rintro e w4 ⟨rfl, p4⟩
          have O4 := Lib.hid (HO.out.put p4)
          clear p4
          rw [HF.out]
          go_wp2
          go_roundw
          case rel => exact ⟨k + 1, V, n + 1, true, s, by omega, by omega, HV.out, HV5.out, by omega, HOK.out, HF.out, fun h => (by cases h), by simp, by simp, by simp, by simp, O4.out⟩
          case measure => simp [intOf]; omega
        · rw [hD] at HV3
          go_wp2_with fail
          refine (pup_res w.heap.size _ _ _ (V + D) (HU.out _) (by first | rfl | simp) HOK.out _ HO.out.1).mono ?_; rintro e w4 ⟨rfl, p4⟩
          have O4 := Lib.hid (HO.out.put p4)
          clear p4 hd hd2 wd wD hD
          rw [HF.out]
          go_wp2
          go_roundw
          case rel => exact ⟨k + 1, V + D, n, true, s, by omega, by omega, by have := HV.out; omega, HV3.out, by omega, HOK.out, HF.out, fun h => (by cases h), by simp, by simp, by simp, by simp, O4.out⟩
          case measure => simp [intOf]; omega
    · have hx : decide (k < len) = false ∨ k < len ∧ 40 ≤ k := by simp; omega
      clear hlt hV hV2 hs hok
      rcases hx with hx | ⟨hx1, hx⟩
      all_goals
        go_wp2_with fail
        refine (full_any w.heap.size s _ HO.out.1).mono ?_; rintro e w' ⟨rfl, rfl⟩
        rw [hf]
        go_wp2
        go_ret
        exact ⟨rfl, HO.out.2.1⟩

theorem counts_any (v0 : Nat) (a : Option Addr) (len cap : Nat) (g : Nat → Bool) (w : World) (hrow : BoolRow w a len g) :
    Calls Try.prog 13 #[.int .u64 v0, .slice a len cap] w fun e w' => e = .returned (.bool true) ∧ Below w.heap.size w w' :=
  counts_core v0 (100 + v0 % 1000) a len cap g (by simp) (by omega) (by omega) w hrow
end Go.Proofs.Ytgdbmjokpbjoaaa
