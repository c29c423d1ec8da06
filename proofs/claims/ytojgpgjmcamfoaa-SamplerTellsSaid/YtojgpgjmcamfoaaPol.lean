/- The contracts of policer's inner functions. -/
import Derived.Test.YtojgpgjmcamfoaaObj
import Derived.Test.YtojgpgjmcamfoaaSat
import Derived.StillTailTactics
import Derived.BigRegion
import Derived.RegionTactic
import Derived.ChangeAlike
namespace Go.Proofs.Ytojgpgjmcamfoaa
open Go.RowKit Go.Lib
set_option linter.unusedVariables false

structure PL where
  use : Bool
  samples : Bool
  bw : Nat
  n : Nat
  lost : Nat
  t0 : Nat
  d0 : Nat
  l0 : Nat
structure SM where
  now : Nat
  delivered : Nat
  prior : Nat
  interval : Nat
  rtt : Nat
  acked : Nat
  lost : Nat
  flight : Nat
  limited : Bool
def pol (s : PL) : Array Value := #[.bool s.use, .bool s.samples, .int .u64 s.bw, .int .i64 s.n, .int .u64 s.lost, .int .u64 s.t0, .int .u64 s.d0, .int .u64 s.l0]
def smp (x : SM) : Value := .agg #[.int .u64 x.now, .int .u64 x.delivered, .int .u64 x.prior, .int .u64 x.interval, .int .u64 x.rtt, .int .u64 x.acked, .int .u64 x.lost, .int .u64 x.flight, .bool x.limited]

section
variable {w w' : World} {b : Nat} {t : TypeId} {cs : Array Value}
theorem Put.s (h : Put w w' b t cs) (i : Nat) (u : Value) : Put w (w'.setCell ⟨b, i, none⟩ u) b t (cs.setIfInBounds i u) := h.then_ (Put.set h.1 i)
theorem Put.a (h : Put w w' b t cs) (o : Obj) : Put w (w'.alloc o) b t cs := ⟨h.1.kept (World.grownBy_alloc w' o none) (by simp), h.2.trans (World.grownBy_alloc w' o (some b))⟩
theorem Put.dn (h : Put w w' b t cs) (n : Nat) : Put w (w'.drewN n) b t cs := ⟨h.1, h.2.trans (by_drewN w' n _)⟩
theorem Put.d (h : Put w w' b t cs) : Put w w'.drew b t cs := ⟨h.1, h.2.trans (by_drew w' _)⟩
end
theorem apart_any (a b : Nat) (ha : a < 18446744073709551616) (hb : b < 18446744073709551616) (w : World) :
    Calls Try.prog 61 #[.int .u64 a, .int .u64 b] w fun e w' => e = .returned (.int .u64 ((max a b - min a b : Nat) : Int)) ∧ w = w' := by
  rcases Nat.le_total a b with h | h
  · rw [Nat.max_eq_right h, Nat.min_eq_left h, show ((b - a : Nat) : Int) = (b : Int) - a from by omega]
    go_enter Try.func61, Try.ntmps61
    go_wp2
    all_goals go_ret
    all_goals exact ⟨ret64 (by omega), rfl⟩
  · rw [Nat.max_eq_left h, Nat.min_eq_right h, show ((a - b : Nat) : Int) = (a : Int) - b from by omega]
    go_enter Try.func61, Try.ntmps61
    go_wp2
    all_goals go_ret
    all_goals exact ⟨ret64 (by omega), rfl⟩

def leaveF (s : PL) : PL := { s with use := false, samples := false, bw := 0 }
theorem leave_any (b : Nat) (s : PL) (w : World) (h : At w b 92 (pol s)) :
    Calls Try.prog 52 #[.pointer (some ⟨b, 0, none⟩)] w fun e w' => e = .returned (.tuple #[]) ∧ Put w w' b 92 (pol (leaveF s)) := by
  have h0 : w.cell? ⟨b, 0, none⟩ = some (.bool s.use) := h.cell 0
  have h1 : w.cell? ⟨b, 1, none⟩ = some (.bool s.samples) := h.cell 1
  have h2 : w.cell? ⟨b, 2, none⟩ = some (.int .u64 s.bw) := h.cell 2
  have f0 := h.free 0
  have f1 := h.free 1
  have f2 := h.free 2
  have H := Lib.hid h
  clear h
  go_enter Try.func52, Try.ntmps52
  go_wp2
  go_end0
  exact ⟨rfl, ((Put.set H.out 0).then_ (Put.set (H.out.set 0) 1)).then_ (Put.set ((H.out.set 0).set 1) 2)⟩

def beginF (s : PL) (x : SM) : PL := { s with samples := true, n := 0, t0 := x.now, d0 := x.delivered, l0 := s.lost }
theorem begin_any (b : Nat) (s : PL) (x : SM) (w : World) (h : At w b 92 (pol s)) :
    Calls Try.prog 51 #[.pointer (some ⟨b, 0, none⟩), smp x] w fun e w' => e = .returned (.tuple #[]) ∧ Put w w' b 92 (pol (beginF s x)) := by
  have h1 : w.cell? ⟨b, 1, none⟩ = some (.bool s.samples) := h.cell 1
  have h3 : w.cell? ⟨b, 3, none⟩ = some (.int .i64 s.n) := h.cell 3
  have h4 : w.cell? ⟨b, 4, none⟩ = some (.int .u64 s.lost) := h.cell 4
  have h5 : w.cell? ⟨b, 5, none⟩ = some (.int .u64 s.t0) := h.cell 5
  have h6 : w.cell? ⟨b, 6, none⟩ = some (.int .u64 s.d0) := h.cell 6
  have h7 : w.cell? ⟨b, 7, none⟩ = some (.int .u64 s.l0) := h.cell 7
  have f1 := h.free 1
  have f3 := h.free 3
  have f5 := h.free 5
  have f6 := h.free 6
  have f7 := h.free 7
  have hlt := h.lt
  have H := Lib.hid h
  clear h
  unfold smp
  go_enter Try.func51, Try.ntmps51
  go_wp2_with fail
  go_region
  all_goals go_wp2
  go_end0
  exact ⟨rfl, ((((((Put.same H.out).s 1 _).s 3 _).s 5 _).s 6 _).s 7 _).a _ |>.d⟩

def dF (s : PL) (x : SM) : Nat := satSub x.delivered s.d0
def tF (s : PL) (x : SM) : Nat := satSub x.now s.t0
def lF (s : PL) : Nat := satSub s.lost s.l0
/-- enough was lost, and something delivered, in some time -/
def isF (s : PL) (x : SM) : Bool := decide (dF s x ≠ 0) && decide (tF s x ≠ 0) && decide (mulDiv (dF s x) 50 256 ≤ lF s)
def bwF (s : PL) (x : SM) : Nat := mulDiv (dF s x) 1000000000 (tF s x)
def PL.ok (s : PL) : Prop := s.bw < 18446744073709551616 ∧ s.lost < 18446744073709551616 ∧ s.t0 < 18446744073709551616 ∧ s.d0 < 18446744073709551616 ∧ s.l0 < 18446744073709551616
def SM.ok (x : SM) : Prop := x.now < 18446744073709551616 ∧ x.delivered < 18446744073709551616 ∧ x.lost < 18446744073709551616

end Go.Proofs.Ytojgpgjmcamfoaa
