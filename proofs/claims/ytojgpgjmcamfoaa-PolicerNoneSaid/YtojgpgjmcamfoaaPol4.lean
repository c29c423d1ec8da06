/- The contract of policer's Update. -/
import Derived.Test.YtojgpgjmcamfoaaPol3
import Derived.Deep.RegionWith
namespace Go.Proofs.Ytojgpgjmcamfoaa
open Go.RowKit Go.Lib
set_option linter.unusedVariables false

def addL (s : PL) (x : SM) : PL := { s with lost := satAdd s.lost x.lost }
def incF (s : PL) (start : Bool) : PL := if start then { s with n := s.n + 1 } else s
def polF (s : PL) (start : Bool) (x : SM) : PL :=
  if s.use then
    (if start then (if s.n = 47 then { leaveF (addL s x) with n := 0 } else { addL s x with n := s.n + 1 }) else addL s x)
  else if s.samples then
    (if x.limited then leaveF (addL s x)
     else if 16 < (incF s start).n then leaveF (incF (addL s x) start)
     else if 4 ≤ (incF s start).n ∧ 0 < x.lost then endF (incF (addL s x) start) x
     else incF (addL s x) start)
  else (if 0 < x.lost then beginF (addL s x) x else addL s x)

def cellsS (x : SM) : Array Value := #[.int .u64 x.now, .int .u64 x.delivered, .int .u64 x.prior, .int .u64 x.interval, .int .u64 x.rtt, .int .u64 x.acked, .int .u64 x.lost, .int .u64 x.flight, .bool x.limited]

theorem pupd_nil (start : Bool) (x : SM) (w : World) :
    Calls Try.prog 37 #[.pointer none, .bool start, smp x] w fun e w' => e = .returned (.tuple #[]) ∧ Below w.heap.size w w' := by
  unfold smp
  go_enter Try.func37, Try.ntmps37
  go_wp2
  go_step3
  go_wp2
  go_step3
  go_wp2
  refine wp_loop_rounds 1 ?_
  rw [rounds_succ]
  go_wp2
  rw [Exit.noGoto_normal]
  go_end0
  exact ⟨rfl, (Below.refl _ _).alloc (Nat.le_refl _) _⟩

set_option maxRecDepth 8000 in
set_option maxHeartbeats 1000000 in
theorem pupd_fresh (b : Nat) (s : PL) (start : Bool) (x : SM) (w : World) (h : At w b 92 (pol s)) (hs : s.ok) (hx : x.ok) (hu : s.use = false) (hm : s.samples = false) :
    Calls Try.prog 37 #[.pointer (some ⟨b, 0, none⟩), .bool start, smp x] w fun e w' => e = .returned (.tuple #[]) ∧ Put w w' b 92 (pol (polF s start x)) := by
  have P0 := Lib.hid ((((Put.same h).s 4 (.int .u64 ((satAdd s.lost x.lost : Nat) : Int))).a (.cells (cellsS x) 32)).d)
  have hlt := h.lt
  have h0 : w.cell? ⟨b, 0, none⟩ = some (.bool false) := by rw [← hu]; exact h.cell 0
  have h1 : w.cell? ⟨b, 1, none⟩ = some (.bool false) := by rw [← hm]; exact h.cell 1
  have h4 : w.cell? ⟨b, 4, none⟩ = some (.int .u64 s.lost) := h.cell 4
  have f4 := h.free 4
  have CA := Lib.hid (add_any s.lost x.lost hs.2.1 hx.2.2)
  clear h hs hx
  unfold polF
  rw [if_neg (by simp [hu]), if_neg (by simp [hm])]
  clear hu hm
  by_cases hl : 0 < x.lost
  · rw [if_pos hl]
    have y1 : decide (0 < x.lost) = true := by simpa using hl
    clear hl
    unfold smp
    go_enter Try.func37, Try.ntmps37
    go_wp2
    go_step3
    go_wp2
    go_step3
    go_wp2
    refine wp_loop_rounds 1 ?_
    rw [rounds_succ]
    go_wp2_with fail
    go_region_with (go_at_call 41; (refine (CA.out _).mono ?_; rintro e w' ⟨rfl, rfl⟩))
    all_goals
      go_wp2_with fail
      refine (begin_any b (addL s x) x _ P0.out.1).mono ?_; rintro e w2 ⟨rfl, p2⟩
      have P2 := Lib.hid (P0.out.then_ p2)
      clear p2
      go_wp2
      first | rw [Exit.noGoto_normal] | rw [Exit.noGoto_exit] | skip
      go_end0
      exact ⟨rfl, P2.out⟩
  · rw [if_neg hl]
    have y1 : decide (0 < x.lost) = false := by simpa using hl
    clear hl
    unfold smp
    go_enter Try.func37, Try.ntmps37
    go_wp2
    go_step3
    go_wp2
    go_step3
    go_wp2
    refine wp_loop_rounds 1 ?_
    rw [rounds_succ]
    go_wp2_with fail
    go_region_with (go_at_call 41; (refine (CA.out _).mono ?_; rintro e w' ⟨rfl, rfl⟩))
    all_goals
      go_wp2
      first | rw [Exit.noGoto_normal] | rw [Exit.noGoto_exit] | skip
      go_end0
      exact ⟨rfl, P0.out⟩
end Go.Proofs.Ytojgpgjmcamfoaa
