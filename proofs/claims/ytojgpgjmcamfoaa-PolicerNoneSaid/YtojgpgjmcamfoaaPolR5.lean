/- The contract of policer's Update: in use, and while it samples. -/
import Derived.Test.YtojgpgjmcamfoaaPol4
import Derived.Test.YtojgpgjmcamfoaaPolR
import Derived.IntWalk
namespace Go.Proofs.Ytojgpgjmcamfoaa
open Go.RowKit Go.Lib
set_option linter.unusedVariables false
set_option maxRecDepth 8000 in
set_option maxHeartbeats 1000000 in
theorem rpupd_use0 (b : Nat) (s : PL) (x : SM) (w : World) (h : At w b 66 (pol s)) (hs : s.ok) (hx : x.ok) (hu : s.use = true) (hn : s.n ≤ 47) :
    Calls Try.prog 38 #[.pointer (some ⟨b, 0, none⟩), .bool false, smp x] w fun e w' => e = .returned (.tuple #[]) ∧ Put w w' b 66 (pol (addL s x)) := by
  have P0 : Hid (Put w (((w.setCell ⟨b, 4, none⟩ (.int .u64 ((satAdd s.lost x.lost : Nat) : Int))).alloc (.cells #[.int .u64 x.now, .int .u64 x.delivered, .int .u64 x.prior, .int .u64 x.interval, .int .u64 x.rtt, .int .u64 x.acked, .int .u64 x.lost, .int .u64 x.flight, .bool x.limited] 32)).drew) b 66 (pol (addL s x))) := Lib.hid ((((Put.same h).s 4 (.int .u64 ((satAdd s.lost x.lost : Nat) : Int))).a _).d)
  have A0 : Hid (At (((w.setCell ⟨b, 4, none⟩ (.int .u64 ((satAdd s.lost x.lost : Nat) : Int))).alloc (.cells #[.int .u64 x.now, .int .u64 x.delivered, .int .u64 x.prior, .int .u64 x.interval, .int .u64 x.rtt, .int .u64 x.acked, .int .u64 x.lost, .int .u64 x.flight, .bool x.limited] 32)).drew) w.heap.size 32 (cellsS x)) := Lib.hid (by
    have hh := At.made (w.setCell ⟨b, 4, none⟩ (.int .u64 ((satAdd s.lost x.lost : Nat) : Int))) 32 (cellsS x)
    have e : (w.setCell ⟨b, 4, none⟩ (.int .u64 ((satAdd s.lost x.lost : Nat) : Int))).heap.size = w.heap.size := by simp
    rw [e] at hh
    exact hh)
  have hlt := h.lt
  have h4 : w.cell? ⟨b, 4, none⟩ = some (.int .u64 s.lost) := h.cell 4
  have f4 := h.free 4
  have CA := Lib.hid (radd_any s.lost x.lost hs.2.1 hx.2.2)
  have HS := Lib.hid hs
  have HX := Lib.hid hx
  clear h hs hx
  have HU := Lib.hid hu
  clear hu
  have y0 : decide (48 ≤ (s.n : Int)) = false := by simp; omega
  have y1 : decide (48 ≤ s.n) = false := by simp; omega
  clear hn
  unfold smp
  go_enter Try.func38, Try.ntmps38
  go_wp2_with fail
  go_region_with (go_at_call 44; (refine (CA.out _).mono ?_; rintro e w' ⟨rfl, rfl⟩))
  all_goals
    generalize (((w.setCell ⟨b, 4, none⟩ (.int .u64 ((satAdd s.lost x.lost : Nat) : Int))).alloc (.cells #[.int .u64 x.now, .int .u64 x.delivered, .int .u64 x.prior, .int .u64 x.interval, .int .u64 x.rtt, .int .u64 x.acked, .int .u64 x.lost, .int .u64 x.flight, .bool x.limited] 32)).drew) = w1 at *
    have h0 : w1.cell? ⟨b, 0, none⟩ = some (.bool true) := by rw [← HU.out]; exact P0.out.1.cell 0
    have h3 : w1.cell? ⟨b, 3, none⟩ = some (.int .i64 s.n) := P0.out.1.cell 3
    have f3 := P0.out.1.free 3
    have hb1 := P0.out.1.lt
    have e6 : w1.cell? ⟨w.heap.size, 6, none⟩ = some (.int .u64 x.lost) := A0.out.cell 6
    go_wp2
    (first | go_end0 | refine bodyPost_ret (results_none rfl _ _ _) rfl ?_)
    exact ⟨rfl, P0.out⟩
set_option maxRecDepth 8000 in
set_option maxHeartbeats 1000000 in
theorem rpupd_use1 (b : Nat) (s : PL) (x : SM) (w : World) (h : At w b 66 (pol s)) (hs : s.ok) (hx : x.ok) (hu : s.use = true) (hn : s.n < 47) :
    Calls Try.prog 38 #[.pointer (some ⟨b, 0, none⟩), .bool true, smp x] w fun e w' => e = .returned (.tuple #[]) ∧ Put w w' b 66 (pol ({ addL s x with n := s.n + 1 })) := by
  have P0 : Hid (Put w (((w.setCell ⟨b, 4, none⟩ (.int .u64 ((satAdd s.lost x.lost : Nat) : Int))).alloc (.cells #[.int .u64 x.now, .int .u64 x.delivered, .int .u64 x.prior, .int .u64 x.interval, .int .u64 x.rtt, .int .u64 x.acked, .int .u64 x.lost, .int .u64 x.flight, .bool x.limited] 32)).drew) b 66 (pol (addL s x))) := Lib.hid ((((Put.same h).s 4 (.int .u64 ((satAdd s.lost x.lost : Nat) : Int))).a _).d)
  have A0 : Hid (At (((w.setCell ⟨b, 4, none⟩ (.int .u64 ((satAdd s.lost x.lost : Nat) : Int))).alloc (.cells #[.int .u64 x.now, .int .u64 x.delivered, .int .u64 x.prior, .int .u64 x.interval, .int .u64 x.rtt, .int .u64 x.acked, .int .u64 x.lost, .int .u64 x.flight, .bool x.limited] 32)).drew) w.heap.size 32 (cellsS x)) := Lib.hid (by
    have hh := At.made (w.setCell ⟨b, 4, none⟩ (.int .u64 ((satAdd s.lost x.lost : Nat) : Int))) 32 (cellsS x)
    have e : (w.setCell ⟨b, 4, none⟩ (.int .u64 ((satAdd s.lost x.lost : Nat) : Int))).heap.size = w.heap.size := by simp
    rw [e] at hh
    exact hh)
  have hlt := h.lt
  have h4 : w.cell? ⟨b, 4, none⟩ = some (.int .u64 s.lost) := h.cell 4
  have f4 := h.free 4
  have CA := Lib.hid (radd_any s.lost x.lost hs.2.1 hx.2.2)
  have HS := Lib.hid hs
  have HX := Lib.hid hx
  clear h hs hx
  have HU := Lib.hid hu
  clear hu
  have y1 : IntKind.i64.wrap ((s.n : Int) + 1) = (s.n : Int) + 1 := IntWalk.i64_in _ (by omega)
  have y2 : decide (48 ≤ (s.n : Int) + 1) = false := by simp; omega
  clear hn
  unfold smp
  go_enter Try.func38, Try.ntmps38
  go_wp2_with fail
  go_region_with (go_at_call 44; (refine (CA.out _).mono ?_; rintro e w' ⟨rfl, rfl⟩))
  all_goals
    generalize (((w.setCell ⟨b, 4, none⟩ (.int .u64 ((satAdd s.lost x.lost : Nat) : Int))).alloc (.cells #[.int .u64 x.now, .int .u64 x.delivered, .int .u64 x.prior, .int .u64 x.interval, .int .u64 x.rtt, .int .u64 x.acked, .int .u64 x.lost, .int .u64 x.flight, .bool x.limited] 32)).drew) = w1 at *
    have h0 : w1.cell? ⟨b, 0, none⟩ = some (.bool true) := by rw [← HU.out]; exact P0.out.1.cell 0
    have h3 : w1.cell? ⟨b, 3, none⟩ = some (.int .i64 s.n) := P0.out.1.cell 3
    have f3 := P0.out.1.free 3
    have hb1 := P0.out.1.lt
    have e6 : w1.cell? ⟨w.heap.size, 6, none⟩ = some (.int .u64 x.lost) := A0.out.cell 6
    go_wp2
    (first | go_end0 | refine bodyPost_ret (results_none rfl _ _ _) rfl ?_)
    exact ⟨rfl, P0.out.s 3 (.int .i64 ((s.n + 1 : Nat) : Int))⟩
set_option maxRecDepth 8000 in
set_option maxHeartbeats 1000000 in
theorem rpupd_use2 (b : Nat) (s : PL) (x : SM) (w : World) (h : At w b 66 (pol s)) (hs : s.ok) (hx : x.ok) (hu : s.use = true) (hn : s.n = 47) :
    Calls Try.prog 38 #[.pointer (some ⟨b, 0, none⟩), .bool true, smp x] w fun e w' => e = .returned (.tuple #[]) ∧ Put w w' b 66 (pol ({ leaveF (addL s x) with n := 0 })) := by
  have P0 : Hid (Put w (((w.setCell ⟨b, 4, none⟩ (.int .u64 ((satAdd s.lost x.lost : Nat) : Int))).alloc (.cells #[.int .u64 x.now, .int .u64 x.delivered, .int .u64 x.prior, .int .u64 x.interval, .int .u64 x.rtt, .int .u64 x.acked, .int .u64 x.lost, .int .u64 x.flight, .bool x.limited] 32)).drew) b 66 (pol (addL s x))) := Lib.hid ((((Put.same h).s 4 (.int .u64 ((satAdd s.lost x.lost : Nat) : Int))).a _).d)
  have A0 : Hid (At (((w.setCell ⟨b, 4, none⟩ (.int .u64 ((satAdd s.lost x.lost : Nat) : Int))).alloc (.cells #[.int .u64 x.now, .int .u64 x.delivered, .int .u64 x.prior, .int .u64 x.interval, .int .u64 x.rtt, .int .u64 x.acked, .int .u64 x.lost, .int .u64 x.flight, .bool x.limited] 32)).drew) w.heap.size 32 (cellsS x)) := Lib.hid (by
    have hh := At.made (w.setCell ⟨b, 4, none⟩ (.int .u64 ((satAdd s.lost x.lost : Nat) : Int))) 32 (cellsS x)
    have e : (w.setCell ⟨b, 4, none⟩ (.int .u64 ((satAdd s.lost x.lost : Nat) : Int))).heap.size = w.heap.size := by simp
    rw [e] at hh
    exact hh)
  have hlt := h.lt
  have h4 : w.cell? ⟨b, 4, none⟩ = some (.int .u64 s.lost) := h.cell 4
  have f4 := h.free 4
  have CA := Lib.hid (radd_any s.lost x.lost hs.2.1 hx.2.2)
  have HS := Lib.hid hs
  have HX := Lib.hid hx
  clear h hs hx
  have HU := Lib.hid hu
  clear hu
  have HN := Lib.hid hn
  clear hn
  unfold smp
  go_enter Try.func38, Try.ntmps38
  go_wp2_with fail
  go_region_with (go_at_call 44; (refine (CA.out _).mono ?_; rintro e w' ⟨rfl, rfl⟩))
  all_goals
    generalize (((w.setCell ⟨b, 4, none⟩ (.int .u64 ((satAdd s.lost x.lost : Nat) : Int))).alloc (.cells #[.int .u64 x.now, .int .u64 x.delivered, .int .u64 x.prior, .int .u64 x.interval, .int .u64 x.rtt, .int .u64 x.acked, .int .u64 x.lost, .int .u64 x.flight, .bool x.limited] 32)).drew) = w1 at *
    have h0 : w1.cell? ⟨b, 0, none⟩ = some (.bool true) := by rw [← HU.out]; exact P0.out.1.cell 0
    have h3 : w1.cell? ⟨b, 3, none⟩ = some (.int .i64 47) := by have := P0.out.1.cell 3; rw [show (47 : Int) = (s.n : Int) from by rw [HN.out]; rfl]; exact this
    have f3 := P0.out.1.free 3
    have hb1 := P0.out.1.lt
    have e6 : w1.cell? ⟨w.heap.size, 6, none⟩ = some (.int .u64 x.lost) := A0.out.cell 6
    have f0 := P0.out.1.free 0
    go_wp2_with fail
    refine (rstop_any b ({ addL s x with n := 0, use := false }) _ (((P0.out.s 3 (.int .i64 48)).s 0 (.bool false)).s 3 (.int .i64 0)).1 (by first | rfl | exact HU.out)).mono ?_; rintro e w2 ⟨rfl, p2⟩
    have P2 := Lib.hid ((((P0.out.s 3 (.int .i64 48)).s 0 (.bool false)).s 3 (.int .i64 0)).then_ p2)
    clear p2
    go_wp2
    (first | go_end0 | refine bodyPost_ret (results_none rfl _ _ _) rfl ?_)
    exact ⟨rfl, P2.out⟩
set_option maxRecDepth 8000 in
set_option maxHeartbeats 1000000 in
theorem rpupd_begin (b : Nat) (s : PL) (x : SM) (w : World) (h : At w b 66 (pol s)) (hs : s.ok) (hx : x.ok) (hu : s.use = false) (hm : s.samples = false) (hl : 0 < x.lost) (start : Bool) :
    Calls Try.prog 38 #[.pointer (some ⟨b, 0, none⟩), .bool start, smp x] w fun e w' => e = .returned (.tuple #[]) ∧ Put w w' b 66 (pol (beginF (addL s x) x)) := by
  have P0 : Hid (Put w (((w.setCell ⟨b, 4, none⟩ (.int .u64 ((satAdd s.lost x.lost : Nat) : Int))).alloc (.cells #[.int .u64 x.now, .int .u64 x.delivered, .int .u64 x.prior, .int .u64 x.interval, .int .u64 x.rtt, .int .u64 x.acked, .int .u64 x.lost, .int .u64 x.flight, .bool x.limited] 32)).drew) b 66 (pol (addL s x))) := Lib.hid ((((Put.same h).s 4 (.int .u64 ((satAdd s.lost x.lost : Nat) : Int))).a _).d)
  have A0 : Hid (At (((w.setCell ⟨b, 4, none⟩ (.int .u64 ((satAdd s.lost x.lost : Nat) : Int))).alloc (.cells #[.int .u64 x.now, .int .u64 x.delivered, .int .u64 x.prior, .int .u64 x.interval, .int .u64 x.rtt, .int .u64 x.acked, .int .u64 x.lost, .int .u64 x.flight, .bool x.limited] 32)).drew) w.heap.size 32 (cellsS x)) := Lib.hid (by
    have hh := At.made (w.setCell ⟨b, 4, none⟩ (.int .u64 ((satAdd s.lost x.lost : Nat) : Int))) 32 (cellsS x)
    have e : (w.setCell ⟨b, 4, none⟩ (.int .u64 ((satAdd s.lost x.lost : Nat) : Int))).heap.size = w.heap.size := by simp
    rw [e] at hh
    exact hh)
  have hlt := h.lt
  have h4 : w.cell? ⟨b, 4, none⟩ = some (.int .u64 s.lost) := h.cell 4
  have f4 := h.free 4
  have CA := Lib.hid (radd_any s.lost x.lost hs.2.1 hx.2.2)
  have HS := Lib.hid hs
  have HX := Lib.hid hx
  clear h hs hx
  have HU := Lib.hid hu
  clear hu
  have HM := Lib.hid hm
  clear hm
  have y1 : decide (0 < x.lost) = true := by simpa using hl
  clear hl
  unfold smp
  go_enter Try.func38, Try.ntmps38
  go_wp2_with fail
  go_region_with (go_at_call 44; (refine (CA.out _).mono ?_; rintro e w' ⟨rfl, rfl⟩))
  all_goals
    generalize (((w.setCell ⟨b, 4, none⟩ (.int .u64 ((satAdd s.lost x.lost : Nat) : Int))).alloc (.cells #[.int .u64 x.now, .int .u64 x.delivered, .int .u64 x.prior, .int .u64 x.interval, .int .u64 x.rtt, .int .u64 x.acked, .int .u64 x.lost, .int .u64 x.flight, .bool x.limited] 32)).drew) = w1 at *
    have h0 : w1.cell? ⟨b, 0, none⟩ = some (.bool false) := by rw [← HU.out]; exact P0.out.1.cell 0
    have h1 : w1.cell? ⟨b, 1, none⟩ = some (.bool false) := by rw [← HM.out]; exact P0.out.1.cell 1
    have h3 : w1.cell? ⟨b, 3, none⟩ = some (.int .i64 s.n) := P0.out.1.cell 3
    have f3 := P0.out.1.free 3
    have hb1 := P0.out.1.lt
    have e6 : w1.cell? ⟨w.heap.size, 6, none⟩ = some (.int .u64 x.lost) := A0.out.cell 6
    have e0 : w1.cell? ⟨w.heap.size, 0, none⟩ = some (.int .u64 x.now) := A0.out.cell 0
    have e1 : w1.cell? ⟨w.heap.size, 1, none⟩ = some (.int .u64 x.delivered) := A0.out.cell 1
    have e2 : w1.cell? ⟨w.heap.size, 2, none⟩ = some (.int .u64 x.prior) := A0.out.cell 2
    have e3 : w1.cell? ⟨w.heap.size, 3, none⟩ = some (.int .u64 x.interval) := A0.out.cell 3
    have e4 : w1.cell? ⟨w.heap.size, 4, none⟩ = some (.int .u64 x.rtt) := A0.out.cell 4
    have e5 : w1.cell? ⟨w.heap.size, 5, none⟩ = some (.int .u64 x.acked) := A0.out.cell 5
    have e7 : w1.cell? ⟨w.heap.size, 7, none⟩ = some (.int .u64 x.flight) := A0.out.cell 7
    have e8 : w1.cell? ⟨w.heap.size, 8, none⟩ = some (.bool x.limited) := A0.out.cell 8
    go_wp2_with fail
    refine (rbegin_any b (addL s x) x _ P0.out.1).mono ?_; rintro e w2 ⟨rfl, p2⟩
    have P2 := Lib.hid (P0.out.then_ p2)
    clear p2
    go_wp2
    (first | go_end0 | refine bodyPost_ret (results_none rfl _ _ _) rfl ?_)
    exact ⟨rfl, P2.out⟩
set_option maxRecDepth 8000 in
set_option maxHeartbeats 1000000 in
theorem rpupd_rest (b : Nat) (s : PL) (x : SM) (w : World) (h : At w b 66 (pol s)) (hs : s.ok) (hx : x.ok) (hu : s.use = false) (hm : s.samples = false) (hl : x.lost = 0) (start : Bool) :
    Calls Try.prog 38 #[.pointer (some ⟨b, 0, none⟩), .bool start, smp x] w fun e w' => e = .returned (.tuple #[]) ∧ Put w w' b 66 (pol (addL s x)) := by
  have P0 : Hid (Put w (((w.setCell ⟨b, 4, none⟩ (.int .u64 ((satAdd s.lost x.lost : Nat) : Int))).alloc (.cells #[.int .u64 x.now, .int .u64 x.delivered, .int .u64 x.prior, .int .u64 x.interval, .int .u64 x.rtt, .int .u64 x.acked, .int .u64 x.lost, .int .u64 x.flight, .bool x.limited] 32)).drew) b 66 (pol (addL s x))) := Lib.hid ((((Put.same h).s 4 (.int .u64 ((satAdd s.lost x.lost : Nat) : Int))).a _).d)
  have A0 : Hid (At (((w.setCell ⟨b, 4, none⟩ (.int .u64 ((satAdd s.lost x.lost : Nat) : Int))).alloc (.cells #[.int .u64 x.now, .int .u64 x.delivered, .int .u64 x.prior, .int .u64 x.interval, .int .u64 x.rtt, .int .u64 x.acked, .int .u64 x.lost, .int .u64 x.flight, .bool x.limited] 32)).drew) w.heap.size 32 (cellsS x)) := Lib.hid (by
    have hh := At.made (w.setCell ⟨b, 4, none⟩ (.int .u64 ((satAdd s.lost x.lost : Nat) : Int))) 32 (cellsS x)
    have e : (w.setCell ⟨b, 4, none⟩ (.int .u64 ((satAdd s.lost x.lost : Nat) : Int))).heap.size = w.heap.size := by simp
    rw [e] at hh
    exact hh)
  have hlt := h.lt
  have h4 : w.cell? ⟨b, 4, none⟩ = some (.int .u64 s.lost) := h.cell 4
  have f4 := h.free 4
  have CA := Lib.hid (radd_any s.lost x.lost hs.2.1 hx.2.2)
  have HS := Lib.hid hs
  have HX := Lib.hid hx
  clear h hs hx
  have HU := Lib.hid hu
  clear hu
  have HM := Lib.hid hm
  clear hm
  have y1 : decide (0 < x.lost) = false := by simp; omega
  clear hl
  unfold smp
  go_enter Try.func38, Try.ntmps38
  go_wp2_with fail
  go_region_with (go_at_call 44; (refine (CA.out _).mono ?_; rintro e w' ⟨rfl, rfl⟩))
  all_goals
    generalize (((w.setCell ⟨b, 4, none⟩ (.int .u64 ((satAdd s.lost x.lost : Nat) : Int))).alloc (.cells #[.int .u64 x.now, .int .u64 x.delivered, .int .u64 x.prior, .int .u64 x.interval, .int .u64 x.rtt, .int .u64 x.acked, .int .u64 x.lost, .int .u64 x.flight, .bool x.limited] 32)).drew) = w1 at *
    have h0 : w1.cell? ⟨b, 0, none⟩ = some (.bool false) := by rw [← HU.out]; exact P0.out.1.cell 0
    have h1 : w1.cell? ⟨b, 1, none⟩ = some (.bool false) := by rw [← HM.out]; exact P0.out.1.cell 1
    have h3 : w1.cell? ⟨b, 3, none⟩ = some (.int .i64 s.n) := P0.out.1.cell 3
    have f3 := P0.out.1.free 3
    have hb1 := P0.out.1.lt
    have e6 : w1.cell? ⟨w.heap.size, 6, none⟩ = some (.int .u64 x.lost) := A0.out.cell 6
    have e0 : w1.cell? ⟨w.heap.size, 0, none⟩ = some (.int .u64 x.now) := A0.out.cell 0
    have e1 : w1.cell? ⟨w.heap.size, 1, none⟩ = some (.int .u64 x.delivered) := A0.out.cell 1
    have e2 : w1.cell? ⟨w.heap.size, 2, none⟩ = some (.int .u64 x.prior) := A0.out.cell 2
    have e3 : w1.cell? ⟨w.heap.size, 3, none⟩ = some (.int .u64 x.interval) := A0.out.cell 3
    have e4 : w1.cell? ⟨w.heap.size, 4, none⟩ = some (.int .u64 x.rtt) := A0.out.cell 4
    have e5 : w1.cell? ⟨w.heap.size, 5, none⟩ = some (.int .u64 x.acked) := A0.out.cell 5
    have e7 : w1.cell? ⟨w.heap.size, 7, none⟩ = some (.int .u64 x.flight) := A0.out.cell 7
    have e8 : w1.cell? ⟨w.heap.size, 8, none⟩ = some (.bool x.limited) := A0.out.cell 8
    go_wp2
    (first | go_end0 | refine bodyPost_ret (results_none rfl _ _ _) rfl ?_)
    exact ⟨rfl, P0.out⟩
set_option maxRecDepth 8000 in
set_option maxHeartbeats 1000000 in
theorem rpupd_lim (b : Nat) (s : PL) (x : SM) (w : World) (h : At w b 66 (pol s)) (hs : s.ok) (hx : x.ok) (hu : s.use = false) (hm : s.samples = true) (hl : x.limited = true) (start : Bool) :
    Calls Try.prog 38 #[.pointer (some ⟨b, 0, none⟩), .bool start, smp x] w fun e w' => e = .returned (.tuple #[]) ∧ Put w w' b 66 (pol (leaveF (addL s x))) := by
  have P0 : Hid (Put w (((w.setCell ⟨b, 4, none⟩ (.int .u64 ((satAdd s.lost x.lost : Nat) : Int))).alloc (.cells #[.int .u64 x.now, .int .u64 x.delivered, .int .u64 x.prior, .int .u64 x.interval, .int .u64 x.rtt, .int .u64 x.acked, .int .u64 x.lost, .int .u64 x.flight, .bool x.limited] 32)).drew) b 66 (pol (addL s x))) := Lib.hid ((((Put.same h).s 4 (.int .u64 ((satAdd s.lost x.lost : Nat) : Int))).a _).d)
  have A0 : Hid (At (((w.setCell ⟨b, 4, none⟩ (.int .u64 ((satAdd s.lost x.lost : Nat) : Int))).alloc (.cells #[.int .u64 x.now, .int .u64 x.delivered, .int .u64 x.prior, .int .u64 x.interval, .int .u64 x.rtt, .int .u64 x.acked, .int .u64 x.lost, .int .u64 x.flight, .bool x.limited] 32)).drew) w.heap.size 32 (cellsS x)) := Lib.hid (by
    have hh := At.made (w.setCell ⟨b, 4, none⟩ (.int .u64 ((satAdd s.lost x.lost : Nat) : Int))) 32 (cellsS x)
    have e : (w.setCell ⟨b, 4, none⟩ (.int .u64 ((satAdd s.lost x.lost : Nat) : Int))).heap.size = w.heap.size := by simp
    rw [e] at hh
    exact hh)
  have hlt := h.lt
  have h4 : w.cell? ⟨b, 4, none⟩ = some (.int .u64 s.lost) := h.cell 4
  have f4 := h.free 4
  have CA := Lib.hid (radd_any s.lost x.lost hs.2.1 hx.2.2)
  have HS := Lib.hid hs
  have HX := Lib.hid hx
  clear h hs hx
  have HU := Lib.hid hu
  clear hu
  have HM := Lib.hid hm
  clear hm
  have HL := Lib.hid hl
  clear hl
  unfold smp
  go_enter Try.func38, Try.ntmps38
  go_wp2_with fail
  go_region_with (go_at_call 44; (refine (CA.out _).mono ?_; rintro e w' ⟨rfl, rfl⟩))
  all_goals
    generalize (((w.setCell ⟨b, 4, none⟩ (.int .u64 ((satAdd s.lost x.lost : Nat) : Int))).alloc (.cells #[.int .u64 x.now, .int .u64 x.delivered, .int .u64 x.prior, .int .u64 x.interval, .int .u64 x.rtt, .int .u64 x.acked, .int .u64 x.lost, .int .u64 x.flight, .bool x.limited] 32)).drew) = w1 at *
    have h0 : w1.cell? ⟨b, 0, none⟩ = some (.bool false) := by rw [← HU.out]; exact P0.out.1.cell 0
    have h1 : w1.cell? ⟨b, 1, none⟩ = some (.bool true) := by rw [← HM.out]; exact P0.out.1.cell 1
    have h3 : w1.cell? ⟨b, 3, none⟩ = some (.int .i64 s.n) := P0.out.1.cell 3
    have f3 := P0.out.1.free 3
    have hb1 := P0.out.1.lt
    have e6 : w1.cell? ⟨w.heap.size, 6, none⟩ = some (.int .u64 x.lost) := A0.out.cell 6
    have e8 : w1.cell? ⟨w.heap.size, 8, none⟩ = some (.bool true) := by rw [← HL.out]; exact A0.out.cell 8
    go_wp2_with fail
    refine (rstop_any b (addL s x) _ P0.out.1 (by first | rfl | exact HU.out)).mono ?_; rintro e w2 ⟨rfl, p2⟩
    have P2 := Lib.hid (P0.out.then_ p2)
    clear p2
    go_wp2
    (first | go_end0 | refine bodyPost_ret (results_none rfl _ _ _) rfl ?_)
    exact ⟨rfl, P2.out⟩
end Go.Proofs.Ytojgpgjmcamfoaa
