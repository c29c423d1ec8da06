/- The contract of sampler's Acked. -/
import Derived.Test.YtojgpgjmcamfoaaSam2a
import Derived.Test.YtojgpgjmcamfoaaSam2b
namespace Go.Proofs.Ytojgpgjmcamfoaa
open Go.RowKit Go.Lib
set_option linter.unusedVariables false

def ackF (s : SA) (now size : Nat) (x : ST) : SA :=
  let s1 : SA := { s with d := satAdd s.d size, da := now, mark := if s.mark < satAdd s.d size then 0 else s.mark, acks := satAdd s.acks size, is := true }
  if (!s.is || decide (s.prior ≤ x.d)) = true then { s1 with prior := x.d, priorAt := x.da, lim := x.lim, sending := satSub x.at_ x.fa, rtt := satSub now x.at_, fa := x.at_ } else s1
theorem ackF_ok {s : SA} {now size : Nat} {x : ST} (h : s.ok) (hn : now < 18446744073709551616) (hx : x.ok) : (ackF s now size x).ok := by
  unfold ackF
  dsimp only
  split
  · exact ⟨satAdd_lt, hn, hx.1, satAdd_lt, hx.2.1⟩
  · exact ⟨satAdd_lt, hn, h.2.2.1, satAdd_lt, h.2.2.2.2⟩
theorem At.made' {W : World} {n : Nat} (t : TypeId) (cs : Array Value) (hs : W.heap.size = n) : At (W.alloc (.cells cs t)) n t cs := by subst hs; exact At.made _ _ _
set_option maxRecDepth 8000 in
set_option maxHeartbeats 2000000 in
theorem acked_core (b : Nat) (s : SA) (now size : Nat) (x : ST) (V A S R : Nat) (hV : satAdd s.d size = V) (hA : satAdd s.acks size = A) (hS : satSub x.at_ x.fa = S) (hR : satSub now x.at_ = R)
    (hs : s.ok) (hn : now < 18446744073709551616) (hz : size < 18446744073709551616) (hx : x.ok) (w : World) (h : At w b 78 (sam s))  :
    Calls Try.prog 17 #[.pointer (some ⟨b, 0, none⟩), .int .u64 now, .int .u64 size, stv x] w fun e w' => e = .returned (.tuple #[]) ∧ Put w w' b 78 (sam (if (!s.is || decide (s.prior ≤ x.d)) = true then { s with d := V, da := now, mark := if s.mark < V then 0 else s.mark, acks := A, is := true, prior := x.d, priorAt := x.da, lim := x.lim, sending := S, rtt := R, fa := x.at_ } else { s with d := V, da := now, mark := if s.mark < V then 0 else s.mark, acks := A, is := true })) := by
  by_cases c1 : s.mark < V
  · rw [if_pos c1]
    cases hi : s.is
    · rw [if_pos (by simp)]
      exact acked_mf b s now size x V A S R hV hA hS hR hs hn hz hx w h c1 hi
    · by_cases c2 : s.prior ≤ x.d
      · rw [if_pos (by simp [c2])]
        exact acked_mt b s now size x V A S R hV hA hS hR hs hn hz hx w h c1 hi c2
      · rw [if_neg (by simp [c2])]
        exact acked_mn b s now size x V A S R hV hA hS hR hs hn hz hx w h c1 hi c2
  · rw [if_neg c1]
    cases hi : s.is
    · rw [if_pos (by simp)]
      exact acked_kf b s now size x V A S R hV hA hS hR hs hn hz hx w h c1 hi
    · by_cases c2 : s.prior ≤ x.d
      · rw [if_pos (by simp [c2])]
        exact acked_kt b s now size x V A S R hV hA hS hR hs hn hz hx w h c1 hi c2
      · rw [if_neg (by simp [c2])]
        exact acked_kn b s now size x V A S R hV hA hS hR hs hn hz hx w h c1 hi c2
theorem acked_any (b : Nat) (s : SA) (now size : Nat) (x : ST) (hs : s.ok) (hn : now < 18446744073709551616) (hz : size < 18446744073709551616) (hx : x.ok) (w : World) (h : At w b 78 (sam s)) :
    Calls Try.prog 17 #[.pointer (some ⟨b, 0, none⟩), .int .u64 now, .int .u64 size, stv x] w fun e w' => e = .returned (.tuple #[]) ∧ Put w w' b 78 (sam (ackF s now size x)) :=
  acked_core b s now size x _ _ _ _ rfl rfl rfl rfl hs hn hz hx w h
end Go.Proofs.Ytojgpgjmcamfoaa
