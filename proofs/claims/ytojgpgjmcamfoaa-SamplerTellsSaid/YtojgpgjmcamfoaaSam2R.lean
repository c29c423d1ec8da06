/- The contract of the reference sampler's Acked. -/
import Derived.Test.YtojgpgjmcamfoaaSam2Ra
import Derived.Test.YtojgpgjmcamfoaaSam2Rb
import Derived.Test.YtojgpgjmcamfoaaSam2
namespace Go.Proofs.Ytojgpgjmcamfoaa
open Go.RowKit Go.Lib
set_option linter.unusedVariables false
set_option maxRecDepth 8000 in
set_option maxHeartbeats 2000000 in
theorem racked_core (b : Nat) (s : SA) (now size : Nat) (x : ST) (V A S R : Nat) (hV : satAdd s.d size = V) (hA : satAdd s.acks size = A) (hS : satSub x.at_ x.fa = S) (hR : satSub now x.at_ = R)
    (hs : s.ok) (hn : now < 18446744073709551616) (hz : size < 18446744073709551616) (hx : x.ok) (w : World) (h : At w b 42 (rsam s))  :
    Calls Try.prog 21 #[.pointer (some ⟨b, 0, none⟩), .int .u64 now, .int .u64 size, stv x] w fun e w' => e = .returned (.tuple #[]) ∧ Put w w' b 42 (rsam (if (!s.is || decide (s.prior ≤ x.d)) = true then { s with d := V, da := now, mark := if s.mark < V then 0 else s.mark, acks := A, is := true, prior := x.d, priorAt := x.da, lim := x.lim, sending := S, rtt := R, fa := x.at_ } else { s with d := V, da := now, mark := if s.mark < V then 0 else s.mark, acks := A, is := true })) := by
  by_cases c1 : s.mark < V
  · rw [if_pos c1]
    cases hi : s.is
    · rw [if_pos (by simp)]
      exact racked_mf b s now size x V A S R hV hA hS hR hs hn hz hx w h c1 hi
    · by_cases c2 : s.prior ≤ x.d
      · rw [if_pos (by simp [c2])]
        exact racked_mt b s now size x V A S R hV hA hS hR hs hn hz hx w h c1 hi c2
      · rw [if_neg (by simp [c2])]
        exact racked_mn b s now size x V A S R hV hA hS hR hs hn hz hx w h c1 hi c2
  · rw [if_neg c1]
    cases hi : s.is
    · rw [if_pos (by simp)]
      exact racked_kf b s now size x V A S R hV hA hS hR hs hn hz hx w h c1 hi
    · by_cases c2 : s.prior ≤ x.d
      · rw [if_pos (by simp [c2])]
        exact racked_kt b s now size x V A S R hV hA hS hR hs hn hz hx w h c1 hi c2
      · rw [if_neg (by simp [c2])]
        exact racked_kn b s now size x V A S R hV hA hS hR hs hn hz hx w h c1 hi c2
theorem racked_any (b : Nat) (s : SA) (now size : Nat) (x : ST) (hs : s.ok) (hn : now < 18446744073709551616) (hz : size < 18446744073709551616) (hx : x.ok) (w : World) (h : At w b 42 (rsam s)) :
    Calls Try.prog 21 #[.pointer (some ⟨b, 0, none⟩), .int .u64 now, .int .u64 size, stv x] w fun e w' => e = .returned (.tuple #[]) ∧ Put w w' b 42 (rsam (ackF s now size x)) :=
  racked_core b s now size x _ _ _ _ rfl rfl rfl rfl hs hn hz hx w h
end Go.Proofs.Ytojgpgjmcamfoaa
