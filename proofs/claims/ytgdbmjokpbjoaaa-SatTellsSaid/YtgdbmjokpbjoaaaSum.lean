/- The contracts of sat.Sum and of its reference: a sum that fits is told, one that does not is refused. -/
import Derived.Test.YtgdbmjokpbjoaaaSat
import Derived.Deep.LoopGhost
namespace Go.Proofs.Ytgdbmjokpbjoaaa
open Go.RowKit Go.Lib
set_option linter.unusedVariables false

def pre (xs : List Nat) (k : Nat) : Nat := (xs.take k).sum
theorem pre_zero (xs : List Nat) : pre xs 0 = 0 := by simp [pre]
theorem pre_succ {xs : List Nat} {k n : Nat} (h : xs[k]? = some n) : pre xs (k + 1) = pre xs k + n := by
  unfold pre
  rw [List.take_add_one, h]
  simp
theorem pre_all (xs : List Nat) {k : Nat} (h : xs.length ≤ k) : pre xs k = xs.sum := by unfold pre; rw [List.take_of_length_le h]
theorem pre_le (xs : List Nat) (k : Nat) : pre xs k ≤ xs.sum := by
  unfold pre
  have h := List.sum_append (l₁ := xs.take k) (l₂ := xs.drop k)
  rw [List.take_append_drop] at h
  omega
def sumV (xs : List Nat) : Nat := if xs.sum < 18446744073709551616 then xs.sum else 0
def sumE (xs : List Nat) : Nat := if xs.sum < 18446744073709551616 then 0 else 3

def SumRel (xs : List Nat) (v4 v5 v10 : Value) : Prop := ∃ k P : Nat, k ≤ xs.length ∧ pre xs k = P ∧ P < 18446744073709551616 ∧ v4 = .int .u64 P ∧ v5 = .int .u64 0 ∧ v10 = .int .i64 k
set_option maxHeartbeats 1000000 in
theorem sum_any (a : Option Addr) (xs : List Nat) (cap : Nat) (w : World) (h : NatRow w a xs) :
    Calls Try.prog 16 #[.slice a xs.length cap] w fun e w' => e = .returned (.tuple #[.int .u64 (sumV xs : Nat), .int .i64 (sumE xs : Nat)]) ∧ w = w' := by
  have hlen := h.1
  have H := Lib.hid h
  clear h
  generalize hL : xs.length = L at *
  go_enter Try.func16, Try.ntmps16
  go_wp2
  go_step3
  go_wp2
  go_step3
  go_wp2
  go_loop [4, 5, 10] (fun v4 v5 v10 => SumRel xs v4 v5 v10) (fun _ _ v10 => L - (intOf v10).toNat)
  case atStart => exact ⟨0, 0, by omega, pre_zero xs, by omega, rfl, rfl, rfl⟩
  case round =>
    obtain ⟨k, P, hk, hP, lP, rfl, rfl, rfl⟩ := hrel
    have HP := Lib.hid hP
    clear hP
    by_cases hlt : k < L
    · obtain ⟨b, off, n, rfl, hb, ln, _, hn, hc⟩ := H.out.at_ (k := k) (by omega)
      have HN := Lib.hid hn
      clear hn
      by_cases hs : P + n < 18446744073709551616
      · have hr := add64_low P n hs
        have hpn : pre xs (k + 1) = P + n := by rw [pre_succ HN.out, HP.out]
        generalize P + n = S at *
        have HS := Lib.hid hpn
        clear hpn
        go_wp2
        go_round
        case rel => exact ⟨k + 1, S, by omega, HS.out, hs, rfl, rfl, by go_num⟩
        case measure => simp [intOf]; omega
      · have hr := add64_high P n lP ln hs
        have hv : sumV xs = 0 ∧ sumE xs = 3 := by
          have h1 := pre_le xs (k + 1)
          rw [pre_succ HN.out, HP.out] at h1
          unfold sumV sumE
          rw [if_neg (by omega), if_neg (by omega)]
          exact ⟨rfl, rfl⟩
        have HV := Lib.hid hv
        generalize P + n - 18446744073709551616 = S at *
        clear hs hv
        go_wp2
        (try rw [Exit.noGoto_ret])
        go_ret2
        rw [HV.out.1, HV.out.2]
        exact ⟨rfl, rfl⟩
    · have hv : sumV xs = P ∧ sumE xs = 0 := by
        have h1 := pre_all xs (k := k) (by omega)
        rw [HP.out] at h1
        unfold sumV sumE
        rw [if_pos (by omega), if_pos (by omega)]
        exact ⟨h1.symm, rfl⟩
      have HV := Lib.hid hv
      clear hv
      go_wp2
      go_ret2
      rw [HV.out.1, HV.out.2]
      exact ⟨rfl, rfl⟩

def RSumRel (xs : List Nat) (v4 v5 : Value) : Prop := ∃ k P : Nat, k ≤ xs.length ∧ pre xs k = P ∧ P < 18446744073709551616 ∧ v4 = .int .u64 P ∧ v5 = .int .i64 k
set_option maxHeartbeats 1000000 in
theorem rsum_any (a : Option Addr) (xs : List Nat) (cap : Nat) (w : World) (h : NatRow w a xs) :
    Calls Try.prog 17 #[.slice a xs.length cap] w fun e w' => e = .returned (.tuple #[.int .u64 (sumV xs : Nat), .int .i64 (sumE xs : Nat)]) ∧ w = w' := by
  have hlen := h.1
  have H := Lib.hid h
  clear h
  generalize hL : xs.length = L at *
  go_enter Try.func17, Try.ntmps17
  go_wp2
  go_loop [4, 5] (fun v4 v5 => RSumRel xs v4 v5) (fun _ v5 => L - (intOf v5).toNat)
  case atStart => exact ⟨0, 0, by omega, pre_zero xs, by omega, rfl, rfl⟩
  case round =>
    obtain ⟨k, P, hk, hP, lP, rfl, rfl⟩ := hrel
    have HP := Lib.hid hP
    clear hP
    by_cases hlt : k < L
    · obtain ⟨b, off, n, rfl, hb, ln, _, hn, hc⟩ := H.out.at_ (k := k) (by omega)
      have HN := Lib.hid hn
      clear hn
      by_cases hs : P + n < 18446744073709551616
      · have hpn : pre xs (k + 1) = P + n := by rw [pre_succ HN.out, HP.out]
        have HS := Lib.hid hpn
        clear hpn
        go_wp2
        go_round
        case rel => exact ⟨k + 1, P + n, by omega, HS.out, hs, by go_num, by go_num⟩
        case measure => simp [intOf]; omega
      · have hv : sumV xs = 0 ∧ sumE xs = 3 := by
          have h1 := pre_le xs (k + 1)
          rw [pre_succ HN.out, HP.out] at h1
          unfold sumV sumE
          rw [if_neg (by omega), if_neg (by omega)]
          exact ⟨rfl, rfl⟩
        have HV := Lib.hid hv
        clear hv
        go_wp2
        go_ret2
        rw [HV.out.1, HV.out.2]
        exact ⟨rfl, rfl⟩
    · have hv : sumV xs = P ∧ sumE xs = 0 := by
        have h1 := pre_all xs (k := k) (by omega)
        rw [HP.out] at h1
        unfold sumV sumE
        rw [if_pos (by omega), if_pos (by omega)]
        exact ⟨h1.symm, rfl⟩
      have HV := Lib.hid hv
      clear hv
      go_wp2
      go_ret2
      rw [HV.out.1, HV.out.2]
      exact ⟨rfl, rfl⟩
end Go.Proofs.Ytgdbmjokpbjoaaa
