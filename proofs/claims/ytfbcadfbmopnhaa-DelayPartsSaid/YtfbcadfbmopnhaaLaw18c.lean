/- The walks of DelayExact and DelayParts. -/
import Derived.Test.YtfbcadfbmopnhaaLaw18b
namespace Go.Proofs.Ytfbcadfbmopnhaa
open Go.RowKit Go.Lib
set_option linter.unusedVariables false

theorem exact_facts (n r : Nat) (h0 : 0 < n) (hn : n ≤ 100000) (hr : r < 1000000000) :
    delayOf n (n + r) = n * 1000000000 / (n + r) ∧ delayOf n n = 1000000000 ∧ delayOf n 1 = 1000000000 := by
  have e : n * 1000000000 / (n + r) ≤ 1000000000 := by
    rw [← Nat.lt_succ_iff, Nat.div_lt_iff_lt_mul (by omega)]
    have : 1000000000 * n ≤ 1000000000 * (n + r) := Nat.mul_le_mul_left _ (by omega)
    omega
  have e2 : n * 1000000000 / n = 1000000000 := Nat.mul_div_cancel_left _ h0
  refine ⟨?_, ?_, ?_⟩
  · rw [delayOf_nat, if_neg (by omega), if_neg (by omega), mulDiv_min (by omega)]; omega
  · rw [delayOf_nat, if_neg (by omega), if_neg (by omega), mulDiv_min h0, e2]; omega
  · rw [delayOf_nat, if_neg (by omega), if_neg (by omega), mulDiv_min (by omega), Nat.div_one]; omega

theorem delayExact_any (n0 : Int) (r0 : Nat) (w : World) :
    Calls Try.prog 6 #[.int .i64 n0, .int .u64 r0] w fun e w' => e = .returned (.bool true) ∧ Grown w w' := by
  obtain ⟨m, k, e1, e2, e3⟩ := u64_conv n0 100000 (by omega)
  have lr : r0 % 1000000000 < 1000000000 := by omega
  obtain ⟨f1, f2, f3⟩ := exact_facts (1 + k) (r0 % 1000000000) (by omega) (by omega) lr
  refine delayExact_core n0 m (1 + k) r0 (r0 % 1000000000) k (((1 + k) * 1000000000 : Nat) : Int) e1 e2 (by simp) (by simp) (by omega) (by omega) lr (by simp) (by rw [IntKind.wrap_u64]; omega)
    ((delayOf (1 + k : Nat) (1 + k + r0 % 1000000000) : Nat) : Int) ?_ ?_ (fun w => ?_) (fun w => ?_) (fun w => ?_) w
  · rw [f1, show (((1 + k : Nat) : Int) + ((r0 % 1000000000 : Nat) : Int)) = ((1 + k + r0 % 1000000000 : Nat) : Int) from by simp, ← Int.ofNat_tdiv]
  · have := delayOf_le (1 + k : Nat) (1 + k + r0 % 1000000000)
    rw [IntKind.wrap_u64]; omega
  · have h := of_any (1 + k : Nat) (1 + k + r0 % 1000000000) (by omega) (by omega) (by omega) w
    rw [show ((1 + k + r0 % 1000000000 : Nat) : Int) = (((1 + k : Nat) : Int) + ((r0 % 1000000000 : Nat) : Int)) from by simp] at h
    exact h
  · have h := of_any (1 + k : Nat) (1 + k) (by omega) (by omega) (by omega) w
    rw [f2] at h
    exact h
  · have h := of_any (1 + k : Nat) 1 (by omega) (by omega) (by omega) w
    rw [f3] at h
    exact h

/-- after k parts -/
def PartsInv (rate k : Nat) (sum whole n i : Value) : Prop := ∃ S W : Nat, W ≤ 30000 * k ∧ S ≤ delayOf W rate ∧ delayOf W rate ≤ S + k ∧ sum = .int .u64 S ∧ whole = .int .i64 W ∧ n = .int .u64 k ∧ i = .int .i64 k

def PartsRel (rate len : Nat) (sum whole n i : Value) : Prop := ∃ k, k ≤ len ∧ k ≤ 20 ∧ PartsInv rate k sum whole n i

theorem parts_step {rate k S W p : Nat} (hk : k < 20) (hr : 1000000 ≤ rate) (hr' : rate < 1001000000) (hp : p < 30000) (hW : W ≤ 30000 * k) (h1 : S ≤ delayOf W rate) (h2 : delayOf W rate ≤ S + k) :
    W + p ≤ 30000 * (k + 1) ∧ S + delayOf p rate ≤ delayOf (W + p : Nat) rate ∧ delayOf (W + p : Nat) rate ≤ S + delayOf p rate + (k + 1) := by
  have hne : delayOf (W + p : Nat) rate ≠ 1000000000 := by
    rw [delayOf_nat]
    have h3 : (W + p) * 1000000000 / rate < 1000000000 := by
      rw [Nat.div_lt_iff_lt_mul (by omega)]
      omega
    split
    · omega
    · rw [if_neg (by omega), mulDiv_min (by omega)]; omega
  have h4 := delayOf_add hne
  omega

set_option maxHeartbeats 1000000 in
theorem delayParts_core (a0 : Option Addr) (len cap : Nat) (zs : List Int) (r0 r rate : Nat) (w : World) (hrow : IntRow .i64 w a0 len zs) (er : (r0 : Int) % 1000000000 = r) (err : 1000000 + (r : Int) = rate) (lr : 1000000 ≤ rate) (lr' : rate < 1001000000) :
    Calls Try.prog 7 #[.slice a0 len cap, .int .u64 r0] w fun e w' => e = .returned (.bool true) ∧ w = w' := by
  obtain ⟨hlen, hzl, hwf, hcell⟩ := hrow
  have CO : ∀ p : Nat, p < 1000000 → ∀ w, Calls Try.prog 13 #[.int .i64 p, .int .u64 rate] w fun e w' => e = .returned (.int .u64 (delayOf p rate : Nat)) ∧ w = w' :=
    fun p hp => of_any p rate (by omega) (by omega) (by omega)
  have HO := Lib.hid CO
  have HC := Lib.hid hcell
  clear CO hcell hwf
  go_enter Try.func7, Try.ntmps7
  go_wp2
  try rw [er]
  clear er err
  go_loop [5, 6, 7, 8] (fun s v n i => PartsRel rate len s v n i) (fun _ _ _ i => (20 - intOf i).toNat)
  case atStart => exact ⟨0, by omega, by omega, 0, 0, by omega, by omega, by simp [delayOf], rfl, rfl, rfl, rfl⟩
  case round =>
    obtain ⟨k, hk1, hk2, S, W, hW, hS1, hS2, rfl, rfl, rfl, rfl⟩ := hrel
    by_cases hlt : k < len ∧ k < 20
    · obtain ⟨hlt, hlt2⟩ := hlt
      obtain ⟨b, off, rfl, _, hc⟩ := HC.out (by omega)
      have hck := hc k hlt
      obtain ⟨m, p, e1, e2, e3⟩ := u64_conv (zs.getD k 0) 30000 (by omega)
      have HS := Lib.hid (parts_step hlt2 lr lr' e3 hW hS1 hS2)
      have b1 := delayOf_le p rate
      have b2 := delayOf_le W rate
      generalize hz : zs.getD k 0 = z at *
      clear hc hz
      have e2' : (m : Int) % 30000 = p := e2
      clear e2
      go_wp2_with fail
      refine (HO.out p (by omega) _).mono ?_; rintro e w' ⟨rfl, rfl⟩
      go_wp2
      go_round
      case rel => exact ⟨k + 1, by omega, by omega, S + delayOf p rate, W + p, HS.out.1, HS.out.2.1, HS.out.2.2, by go_num, by go_num, by go_num, by go_num⟩
      case measure => simp [intOf]; omega
    · have t : decide (k < len) = false ∨ k < len ∧ 20 ≤ k := by simp; omega
      have t2 : decide ((delayOf W rate : Int) ≤ S + k) = true := by simp; omega
      have b1 := delayOf_le W rate
      have hex := HO.out W (by omega)
      have HX := Lib.hid hex
      generalize delayOf W rate = D at *
      clear hex hlt
      rcases t with t | ⟨t', t⟩
      all_goals
        go_wp2_with fail
        refine (HX.out _).mono ?_; rintro e w' ⟨rfl, rfl⟩
        go_wp2_with fail
        refine (awake18 _).mono ?_; rintro e w' ⟨rfl, rfl⟩
        go_wp2
        go_ret
        exact ⟨rfl, rfl⟩

theorem delayParts_any (a0 : Option Addr) (len cap : Nat) (zs : List Int) (r0 : Nat) (w : World) (hrow : IntRow .i64 w a0 len zs) :
    Calls Try.prog 7 #[.slice a0 len cap, .int .u64 r0] w fun e w' => e = .returned (.bool true) ∧ w = w' :=
  delayParts_core a0 len cap zs r0 (r0 % 1000000000) (1000000 + r0 % 1000000000) w hrow (by simp) (by simp) (by omega) (by omega)
end Go.Proofs.Ytfbcadfbmopnhaa
