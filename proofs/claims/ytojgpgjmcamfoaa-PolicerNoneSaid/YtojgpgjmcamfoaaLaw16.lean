/- The walk of PolicerSteady, and the awake of the statements on policer. -/
import Derived.Test.YtojgpgjmcamfoaaLaw16p
namespace Go.Proofs.Ytojgpgjmcamfoaa
open Go.RowKit Go.Lib
set_option linter.unusedVariables false

def StRel (w0 : World) (b n bw lost : Nat) (v8 : Value) (wr : World) : Prop :=
  ∃ k : Nat, k ≤ n ∧ v8 = .int .i64 k ∧ Own w0 wr b 92 (pol (stF bw lost k))

set_option maxRecDepth 8000 in
theorem steady_any (n bw lost : Nat) (hn : n ≤ 60) (hb : bw ≤ 1001000) (hl : lost ≤ bw) (w : World) :
    Calls Try.prog 40 #[.int .i64 n, .int .u64 bw, .int .u64 lost] w fun e w' => e = .returned (.pointer (some ⟨w.heap.size, 0, none⟩)) ∧ Own w w' w.heap.size 92 (pol (stF bw lost n)) := by
  have HN := Lib.hid hn
  have HB := Lib.hid hb
  have HL := Lib.hid hl
  clear hb hl
  go_enter Try.func40, Try.ntmps40
  go_wp2_with fail
  refine (polnew_any _).mono ?_; rintro e w1 ⟨rfl, hw1⟩
  have O1 : Hid (Own w w1 w.heap.size 92 (pol pol0)) := by rw [hw1]; exact Lib.hid (Own.made (Below.refl _ _) _ _)
  clear hw1
  go_wp2_with fail
  go_loopw [8] (fun v8 wr => StRel w w.heap.size n bw lost v8 wr) (fun v8 _ => n - (intOf v8).toNat)
  case atStart => exact ⟨0, by omega, rfl, O1.out⟩
  case round =>
    obtain ⟨k, hk1, rfl, hO⟩ := hrel
    have HO := Lib.hid hO
    clear hO
    by_cases hlt : k < n
    · have hk2 := hlt
      obtain ⟨T, hT⟩ : ∃ T, k * 1000000000 = T := ⟨_, rfl⟩
      obtain ⟨V, hV⟩ : ∃ V, k * bw = V := ⟨_, rfl⟩
      have hV2 : V ≤ 60 * 1001000 := by rw [← hV]; exact Nat.mul_le_mul (by omega) HB.out
      have hS : smK bw lost k = ⟨T, V, 0, 0, 0, bw, lost, 0, false⟩ := by unfold smK; rw [hT, hV]
      have CU : Hid (∀ wq, At wq w.heap.size 92 (pol (stF bw lost k)) → Calls Try.prog 37 #[.pointer (some ⟨w.heap.size, 0, none⟩), .bool true, .agg #[.int .u64 T, .int .u64 V, .int .u64 0, .int .u64 0, .int .u64 0, .int .u64 bw, .int .u64 lost, .int .u64 0, .bool false]] wq
          fun e w' => e = .returned (.tuple #[]) ∧ Put wq w' w.heap.size 92 (pol (stF bw lost (k + 1)))) := Lib.hid (fun wq h => by
        have := pupd_any w.heap.size (stF bw lost k) true (smK bw lost k) wq h (stF_inv HB.out HL.out k (by have := HN.out; omega)) (smK_ok HB.out HL.out (by have := HN.out; omega))
        rw [hS] at this
        show Calls _ _ _ _ (fun e w' => e = _ ∧ Put wq w' _ _ (pol (polF (stF bw lost k) true (smK bw lost k))))
        rw [hS]
        exact this)
      have q1 : (k : Int) * 1000000000 = T := by omega
      have q2 : (k : Int) * bw = V := by rw [← hV]; simp
      have q3 : IntKind.u64.wrap (T : Int) = T := by rw [IntKind.wrap_u64]; omega
      have q4 : IntKind.u64.wrap (V : Int) = V := by rw [IntKind.wrap_u64]; omega
      have q5 : IntKind.u64.wrap (k : Int) = k := by rw [IntKind.wrap_u64]; omega
      clear hT hV hV2 hS
      go_wp2_with fail
      refine (CU.out _ HO.out.1).mono ?_; rintro e w2 ⟨rfl, p2⟩
      have O2 := Lib.hid (HO.out.put p2)
      clear p2 q1 q2 q3 q4 q5
      go_wp2
      go_roundw
      case rel => exact ⟨k + 1, by omega, by simp, O2.out⟩
      case measure => simp [intOf]; omega
    · have hx : decide (k < n) = false := by simp; omega
      have e : k = n := by omega
      clear hlt
      subst e
      go_wp2
      go_ret
      exact ⟨rfl, HO.out⟩
end Go.Proofs.Ytojgpgjmcamfoaa
