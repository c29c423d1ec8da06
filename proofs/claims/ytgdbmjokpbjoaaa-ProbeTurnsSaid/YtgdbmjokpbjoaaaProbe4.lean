/- The walk of the reference's Update, one theorem a case. -/
import Derived.Test.YtgdbmjokpbjoaaaProbe2
namespace Go.Proofs.Ytgdbmjokpbjoaaa
open Go.RowKit Go.Lib
set_option linter.unusedVariables false

structure RS where
  best : Nat
  stamp : Nat
  inn : Bool
  waits : Bool
  round : Bool
  done : Nat
def rprb (s : RS) : Array Value := #[.int .u64 s.best, .int .u64 s.stamp, .bool s.inn, .bool s.waits, .bool s.round, .int .u64 s.done]
def rexpF (s : RS) (now : Nat) : Bool := decide (0 < s.best) && decide (satAdd s.stamp 10000000000 < now)
def rsetF (s : RS) (now rtt : Nat) : Bool := decide (0 < rtt) && (decide (s.best = 0) || decide (rtt ≤ s.best) || rexpF s now)
def rs1F (s : RS) (now rtt : Nat) : RS := if rsetF s now rtt = true then ⟨rtt, now, s.inn, s.waits, s.round, s.done⟩ else s
def rupF (s : RS) (now rtt : Nat) (start : Bool) (flight floor : Nat) : Bool × Bool × RS :=
  if (rexpF s now && !s.inn) = true then (true, false, ⟨(rs1F s now rtt).best, (rs1F s now rtt).stamp, true, false, false, s.done⟩)
  else if s.inn = false then (false, false, rs1F s now rtt)
  else if s.waits = false then (if flight ≤ floor then (false, false, ⟨(rs1F s now rtt).best, (rs1F s now rtt).stamp, true, true, false, satAdd now 200000000⟩) else (false, false, rs1F s now rtt))
  else if (decide (s.done < now) && (s.round || start)) = true then (false, true, ⟨(rs1F s now rtt).best, now, false, false, true, s.done⟩)
  else (false, false, ⟨(rs1F s now rtt).best, (rs1F s now rtt).stamp, true, true, s.round || start, s.done⟩)

set_option maxHeartbeats 400000 in
theorem rup_b0_r0_false (b best stamp done now rtt : Nat) (waits round start : Bool) (flight floor : Nat) (hst : stamp < 18446744073709551616) (hn : now < 18446744073709551616) (hb : best = 0) (hr : rtt = 0)  (w : World) (h : At w b 44 (rprb ⟨best, stamp, false, waits, round, done⟩)) :
    Calls Try.prog 30 #[.pointer (some ⟨b, 0, none⟩), .int .u64 now, .int .u64 rtt, .bool start, .int .u64 flight, .int .u64 floor] w
      fun e w' => e = .returned (.tuple #[.bool (rupF ⟨best, stamp, false, waits, round, done⟩ now rtt start flight floor).1, .bool (rupF ⟨best, stamp, false, waits, round, done⟩ now rtt start flight floor).2.1]) ∧ Put w w' b 44 (rprb (rupF ⟨best, stamp, false, waits, round, done⟩ now rtt start flight floor).2.2) := by
  have h0 : w.cell? ⟨b, 0, none⟩ = some (.int .u64 best) := h.cell 0
  have h1 : w.cell? ⟨b, 1, none⟩ = some (.int .u64 stamp) := h.cell 1
  have h2 : w.cell? ⟨b, 2, none⟩ = some (.bool false) := h.cell 2
  have h3 : w.cell? ⟨b, 3, none⟩ = some (.bool waits) := h.cell 3
  have h4 : w.cell? ⟨b, 4, none⟩ = some (.bool round) := h.cell 4
  have h5 : w.cell? ⟨b, 5, none⟩ = some (.int .u64 done) := h.cell 5
  have f0 := h.free 0
  have f1 := h.free 1
  have f2 := h.free 2
  have f3 := h.free 3
  have f4 := h.free 4
  have f5 := h.free 5
  have H := Lib.hid h
  clear h
  subst hb
  subst hr
  have hE : rexpF ⟨0, stamp, false, waits, round, done⟩ now = false := by simp [rexpF]
  have hS : rsetF ⟨0, stamp, false, waits, round, done⟩ now 0 = false := by unfold rsetF; rw [hE]; simp
  have hu : rupF ⟨0, stamp, false, waits, round, done⟩ now 0 start flight floor = (false, false, ⟨0, stamp, false, waits, round, done⟩) := by simp [rupF, rs1F, hE, hS]
  rw [hu]
  clear hE hS hu
  go_enter Try.func30, Try.ntmps30
  go_wp2
  go_ret2
  exact ⟨rfl, (Put.same H.out)⟩

set_option maxHeartbeats 400000 in
theorem rup_b0_r0_wle (b best stamp done now rtt : Nat) (waits round start : Bool) (flight floor : Nat) (hst : stamp < 18446744073709551616) (hn : now < 18446744073709551616) (hb : best = 0) (hr : rtt = 0) (hf : flight ≤ floor) (w : World) (h : At w b 44 (rprb ⟨best, stamp, true, false, round, done⟩)) :
    Calls Try.prog 30 #[.pointer (some ⟨b, 0, none⟩), .int .u64 now, .int .u64 rtt, .bool start, .int .u64 flight, .int .u64 floor] w
      fun e w' => e = .returned (.tuple #[.bool (rupF ⟨best, stamp, true, false, round, done⟩ now rtt start flight floor).1, .bool (rupF ⟨best, stamp, true, false, round, done⟩ now rtt start flight floor).2.1]) ∧ Put w w' b 44 (rprb (rupF ⟨best, stamp, true, false, round, done⟩ now rtt start flight floor).2.2) := by
  have h0 : w.cell? ⟨b, 0, none⟩ = some (.int .u64 best) := h.cell 0
  have h1 : w.cell? ⟨b, 1, none⟩ = some (.int .u64 stamp) := h.cell 1
  have h2 : w.cell? ⟨b, 2, none⟩ = some (.bool true) := h.cell 2
  have h3 : w.cell? ⟨b, 3, none⟩ = some (.bool false) := h.cell 3
  have h4 : w.cell? ⟨b, 4, none⟩ = some (.bool round) := h.cell 4
  have h5 : w.cell? ⟨b, 5, none⟩ = some (.int .u64 done) := h.cell 5
  have f0 := h.free 0
  have f1 := h.free 1
  have f2 := h.free 2
  have f3 := h.free 3
  have f4 := h.free 4
  have f5 := h.free 5
  have H := Lib.hid h
  clear h
  subst hb
  subst hr
  have hE : rexpF ⟨0, stamp, true, false, round, done⟩ now = false := by simp [rexpF]
  have hS : rsetF ⟨0, stamp, true, false, round, done⟩ now 0 = false := by unfold rsetF; rw [hE]; simp
  have hu : rupF ⟨0, stamp, true, false, round, done⟩ now 0 start flight floor = (false, false, ⟨0, stamp, true, true, false, satAdd now 200000000⟩) := by simp [rupF, rs1F, hE, hS, hf]
  rw [hu]
  clear hE hS hu
  have CB := Lib.hid (radd_any now 200000000 hn (by omega))
  generalize satAdd now 200000000 = Y at *
  go_enter Try.func30, Try.ntmps30
  go_wp2_with fail
  refine (CB.out _).mono ?_; rintro e w' ⟨rfl, rfl⟩
  go_wp2
  go_ret2
  exact ⟨rfl, ((((Put.same H.out).then_ (Put.set H.out 3)).then_ (Put.set (H.out.set 3) 4)).then_ (Put.set ((H.out.set 3).set 4) 5))⟩

set_option maxHeartbeats 400000 in
theorem rup_b0_r0_wgt (b best stamp done now rtt : Nat) (waits round start : Bool) (flight floor : Nat) (hst : stamp < 18446744073709551616) (hn : now < 18446744073709551616) (hb : best = 0) (hr : rtt = 0) (hf : ¬ flight ≤ floor) (w : World) (h : At w b 44 (rprb ⟨best, stamp, true, false, round, done⟩)) :
    Calls Try.prog 30 #[.pointer (some ⟨b, 0, none⟩), .int .u64 now, .int .u64 rtt, .bool start, .int .u64 flight, .int .u64 floor] w
      fun e w' => e = .returned (.tuple #[.bool (rupF ⟨best, stamp, true, false, round, done⟩ now rtt start flight floor).1, .bool (rupF ⟨best, stamp, true, false, round, done⟩ now rtt start flight floor).2.1]) ∧ Put w w' b 44 (rprb (rupF ⟨best, stamp, true, false, round, done⟩ now rtt start flight floor).2.2) := by
  have h0 : w.cell? ⟨b, 0, none⟩ = some (.int .u64 best) := h.cell 0
  have h1 : w.cell? ⟨b, 1, none⟩ = some (.int .u64 stamp) := h.cell 1
  have h2 : w.cell? ⟨b, 2, none⟩ = some (.bool true) := h.cell 2
  have h3 : w.cell? ⟨b, 3, none⟩ = some (.bool false) := h.cell 3
  have h4 : w.cell? ⟨b, 4, none⟩ = some (.bool round) := h.cell 4
  have h5 : w.cell? ⟨b, 5, none⟩ = some (.int .u64 done) := h.cell 5
  have f0 := h.free 0
  have f1 := h.free 1
  have f2 := h.free 2
  have f3 := h.free 3
  have f4 := h.free 4
  have f5 := h.free 5
  have H := Lib.hid h
  clear h
  subst hb
  subst hr
  have hE : rexpF ⟨0, stamp, true, false, round, done⟩ now = false := by simp [rexpF]
  have hS : rsetF ⟨0, stamp, true, false, round, done⟩ now 0 = false := by unfold rsetF; rw [hE]; simp
  have hu : rupF ⟨0, stamp, true, false, round, done⟩ now 0 start flight floor = (false, false, ⟨0, stamp, true, false, round, done⟩) := by simp [rupF, rs1F, hE, hS, hf]
  rw [hu]
  clear hE hS hu
  go_enter Try.func30, Try.ntmps30
  go_wp2
  go_ret2
  exact ⟨rfl, (Put.same H.out)⟩

set_option maxHeartbeats 400000 in
theorem rup_b0_r0_late (b best stamp done now rtt : Nat) (waits round start : Bool) (flight floor : Nat) (hst : stamp < 18446744073709551616) (hn : now < 18446744073709551616) (hb : best = 0) (hr : rtt = 0) (hd : done < now) (hrs : (round || start) = true) (w : World) (h : At w b 44 (rprb ⟨best, stamp, true, true, round, done⟩)) :
    Calls Try.prog 30 #[.pointer (some ⟨b, 0, none⟩), .int .u64 now, .int .u64 rtt, .bool start, .int .u64 flight, .int .u64 floor] w
      fun e w' => e = .returned (.tuple #[.bool (rupF ⟨best, stamp, true, true, round, done⟩ now rtt start flight floor).1, .bool (rupF ⟨best, stamp, true, true, round, done⟩ now rtt start flight floor).2.1]) ∧ Put w w' b 44 (rprb (rupF ⟨best, stamp, true, true, round, done⟩ now rtt start flight floor).2.2) := by
  have h0 : w.cell? ⟨b, 0, none⟩ = some (.int .u64 best) := h.cell 0
  have h1 : w.cell? ⟨b, 1, none⟩ = some (.int .u64 stamp) := h.cell 1
  have h2 : w.cell? ⟨b, 2, none⟩ = some (.bool true) := h.cell 2
  have h3 : w.cell? ⟨b, 3, none⟩ = some (.bool true) := h.cell 3
  have h4 : w.cell? ⟨b, 4, none⟩ = some (.bool round) := h.cell 4
  have h5 : w.cell? ⟨b, 5, none⟩ = some (.int .u64 done) := h.cell 5
  have f0 := h.free 0
  have f1 := h.free 1
  have f2 := h.free 2
  have f3 := h.free 3
  have f4 := h.free 4
  have f5 := h.free 5
  have H := Lib.hid h
  clear h
  subst hb
  subst hr
  have hE : rexpF ⟨0, stamp, true, true, round, done⟩ now = false := by simp [rexpF]
  have hS : rsetF ⟨0, stamp, true, true, round, done⟩ now 0 = false := by unfold rsetF; rw [hE]; simp
  have hu : rupF ⟨0, stamp, true, true, round, done⟩ now 0 start flight floor = (false, true, ⟨0, now, false, false, true, done⟩) := by simp only [rupF, rs1F, hE, hS, hrs, decide_eq_true hd]; simp
  rw [hu]
  clear hE hS hu
  have hc : round = true ∨ round = false ∧ start = true := by cases round <;> simp_all
  clear hrs
  rcases hc with rfl | ⟨rfl, rfl⟩
  all_goals
    go_enter Try.func30, Try.ntmps30
    go_wp2
    go_ret2
    exact ⟨rfl, (((((Put.same H.out).then_ (Put.set H.out 4)).then_ (Put.set (H.out.set 4) 1)).then_ (Put.set ((H.out.set 4).set 1) 2)).then_ (Put.set (((H.out.set 4).set 1).set 2) 3))⟩

set_option maxHeartbeats 400000 in
theorem rup_b0_r0_stay (b best stamp done now rtt : Nat) (waits round start : Bool) (flight floor : Nat) (hst : stamp < 18446744073709551616) (hn : now < 18446744073709551616) (hb : best = 0) (hr : rtt = 0) (hd : ¬ (done < now ∧ (round || start) = true)) (w : World) (h : At w b 44 (rprb ⟨best, stamp, true, true, round, done⟩)) :
    Calls Try.prog 30 #[.pointer (some ⟨b, 0, none⟩), .int .u64 now, .int .u64 rtt, .bool start, .int .u64 flight, .int .u64 floor] w
      fun e w' => e = .returned (.tuple #[.bool (rupF ⟨best, stamp, true, true, round, done⟩ now rtt start flight floor).1, .bool (rupF ⟨best, stamp, true, true, round, done⟩ now rtt start flight floor).2.1]) ∧ Put w w' b 44 (rprb (rupF ⟨best, stamp, true, true, round, done⟩ now rtt start flight floor).2.2) := by
  have h0 : w.cell? ⟨b, 0, none⟩ = some (.int .u64 best) := h.cell 0
  have h1 : w.cell? ⟨b, 1, none⟩ = some (.int .u64 stamp) := h.cell 1
  have h2 : w.cell? ⟨b, 2, none⟩ = some (.bool true) := h.cell 2
  have h3 : w.cell? ⟨b, 3, none⟩ = some (.bool true) := h.cell 3
  have h4 : w.cell? ⟨b, 4, none⟩ = some (.bool round) := h.cell 4
  have h5 : w.cell? ⟨b, 5, none⟩ = some (.int .u64 done) := h.cell 5
  have f0 := h.free 0
  have f1 := h.free 1
  have f2 := h.free 2
  have f3 := h.free 3
  have f4 := h.free 4
  have f5 := h.free 5
  have H := Lib.hid h
  clear h
  subst hb
  subst hr
  have hE : rexpF ⟨0, stamp, true, true, round, done⟩ now = false := by simp [rexpF]
  have hS : rsetF ⟨0, stamp, true, true, round, done⟩ now 0 = false := by unfold rsetF; rw [hE]; simp
  have hd' : (decide (done < now) && (round || start)) = false := by rw [← Bool.not_eq_true]; simpa using hd
  have hu : rupF ⟨0, stamp, true, true, round, done⟩ now 0 start flight floor = (false, false, ⟨0, stamp, true, true, round || start, done⟩) := by simp only [rupF, rs1F, hE, hS, hd']; simp
  rw [hu]
  clear hE hS hu
  clear hd'
  have hc : (round || start) = false ∨ (round || start) = true ∧ now ≤ done := by cases hq : (round || start) <;> simp_all
  clear hd
  have hc2 : (round = false ∧ start = false) ∨ (round = true ∧ now ≤ done) ∨ (round = false ∧ start = true ∧ now ≤ done) := by cases round <;> cases start <;> simp_all
  clear hc
  rcases hc2 with ⟨rfl, rfl⟩ | ⟨rfl, hd⟩ | ⟨rfl, rfl, hd⟩
  all_goals
    go_enter Try.func30, Try.ntmps30
    go_wp2
    go_ret2
    exact ⟨rfl, ((Put.same H.out).then_ (Put.set H.out 4))⟩

set_option maxHeartbeats 400000 in
theorem rup_b0_r1_false (b best stamp done now rtt : Nat) (waits round start : Bool) (flight floor : Nat) (hst : stamp < 18446744073709551616) (hn : now < 18446744073709551616) (hb : best = 0) (hr : 0 < rtt)  (w : World) (h : At w b 44 (rprb ⟨best, stamp, false, waits, round, done⟩)) :
    Calls Try.prog 30 #[.pointer (some ⟨b, 0, none⟩), .int .u64 now, .int .u64 rtt, .bool start, .int .u64 flight, .int .u64 floor] w
      fun e w' => e = .returned (.tuple #[.bool (rupF ⟨best, stamp, false, waits, round, done⟩ now rtt start flight floor).1, .bool (rupF ⟨best, stamp, false, waits, round, done⟩ now rtt start flight floor).2.1]) ∧ Put w w' b 44 (rprb (rupF ⟨best, stamp, false, waits, round, done⟩ now rtt start flight floor).2.2) := by
  have h0 : w.cell? ⟨b, 0, none⟩ = some (.int .u64 best) := h.cell 0
  have h1 : w.cell? ⟨b, 1, none⟩ = some (.int .u64 stamp) := h.cell 1
  have h2 : w.cell? ⟨b, 2, none⟩ = some (.bool false) := h.cell 2
  have h3 : w.cell? ⟨b, 3, none⟩ = some (.bool waits) := h.cell 3
  have h4 : w.cell? ⟨b, 4, none⟩ = some (.bool round) := h.cell 4
  have h5 : w.cell? ⟨b, 5, none⟩ = some (.int .u64 done) := h.cell 5
  have f0 := h.free 0
  have f1 := h.free 1
  have f2 := h.free 2
  have f3 := h.free 3
  have f4 := h.free 4
  have f5 := h.free 5
  have H := Lib.hid h
  clear h
  subst hb
  have hE : rexpF ⟨0, stamp, false, waits, round, done⟩ now = false := by simp [rexpF]
  have hS : rsetF ⟨0, stamp, false, waits, round, done⟩ now rtt = true := by unfold rsetF; rw [hE]; simp; omega
  have hu : rupF ⟨0, stamp, false, waits, round, done⟩ now rtt start flight floor = (false, false, ⟨rtt, now, false, waits, round, done⟩) := by simp [rupF, rs1F, hE, hS]
  rw [hu]
  clear hE hS hu
  go_enter Try.func30, Try.ntmps30
  go_wp2
  go_ret2
  exact ⟨rfl, ((Put.set H.out 0).then_ (Put.set (H.out.set 0) 1))⟩

set_option maxHeartbeats 400000 in
theorem rup_b0_r1_wle (b best stamp done now rtt : Nat) (waits round start : Bool) (flight floor : Nat) (hst : stamp < 18446744073709551616) (hn : now < 18446744073709551616) (hb : best = 0) (hr : 0 < rtt) (hf : flight ≤ floor) (w : World) (h : At w b 44 (rprb ⟨best, stamp, true, false, round, done⟩)) :
    Calls Try.prog 30 #[.pointer (some ⟨b, 0, none⟩), .int .u64 now, .int .u64 rtt, .bool start, .int .u64 flight, .int .u64 floor] w
      fun e w' => e = .returned (.tuple #[.bool (rupF ⟨best, stamp, true, false, round, done⟩ now rtt start flight floor).1, .bool (rupF ⟨best, stamp, true, false, round, done⟩ now rtt start flight floor).2.1]) ∧ Put w w' b 44 (rprb (rupF ⟨best, stamp, true, false, round, done⟩ now rtt start flight floor).2.2) := by
  have h0 : w.cell? ⟨b, 0, none⟩ = some (.int .u64 best) := h.cell 0
  have h1 : w.cell? ⟨b, 1, none⟩ = some (.int .u64 stamp) := h.cell 1
  have h2 : w.cell? ⟨b, 2, none⟩ = some (.bool true) := h.cell 2
  have h3 : w.cell? ⟨b, 3, none⟩ = some (.bool false) := h.cell 3
  have h4 : w.cell? ⟨b, 4, none⟩ = some (.bool round) := h.cell 4
  have h5 : w.cell? ⟨b, 5, none⟩ = some (.int .u64 done) := h.cell 5
  have f0 := h.free 0
  have f1 := h.free 1
  have f2 := h.free 2
  have f3 := h.free 3
  have f4 := h.free 4
  have f5 := h.free 5
  have H := Lib.hid h
  clear h
  subst hb
  have hE : rexpF ⟨0, stamp, true, false, round, done⟩ now = false := by simp [rexpF]
  have hS : rsetF ⟨0, stamp, true, false, round, done⟩ now rtt = true := by unfold rsetF; rw [hE]; simp; omega
  have hu : rupF ⟨0, stamp, true, false, round, done⟩ now rtt start flight floor = (false, false, ⟨rtt, now, true, true, false, satAdd now 200000000⟩) := by simp [rupF, rs1F, hE, hS, hf]
  rw [hu]
  clear hE hS hu
  have CB := Lib.hid (radd_any now 200000000 hn (by omega))
  generalize satAdd now 200000000 = Y at *
  go_enter Try.func30, Try.ntmps30
  go_wp2_with fail
  refine (CB.out _).mono ?_; rintro e w' ⟨rfl, rfl⟩
  go_wp2
  go_ret2
  exact ⟨rfl, (((((Put.set H.out 0).then_ (Put.set (H.out.set 0) 1)).then_ (Put.set ((H.out.set 0).set 1) 3)).then_ (Put.set (((H.out.set 0).set 1).set 3) 4)).then_ (Put.set ((((H.out.set 0).set 1).set 3).set 4) 5))⟩

set_option maxHeartbeats 400000 in
theorem rup_b0_r1_wgt (b best stamp done now rtt : Nat) (waits round start : Bool) (flight floor : Nat) (hst : stamp < 18446744073709551616) (hn : now < 18446744073709551616) (hb : best = 0) (hr : 0 < rtt) (hf : ¬ flight ≤ floor) (w : World) (h : At w b 44 (rprb ⟨best, stamp, true, false, round, done⟩)) :
    Calls Try.prog 30 #[.pointer (some ⟨b, 0, none⟩), .int .u64 now, .int .u64 rtt, .bool start, .int .u64 flight, .int .u64 floor] w
      fun e w' => e = .returned (.tuple #[.bool (rupF ⟨best, stamp, true, false, round, done⟩ now rtt start flight floor).1, .bool (rupF ⟨best, stamp, true, false, round, done⟩ now rtt start flight floor).2.1]) ∧ Put w w' b 44 (rprb (rupF ⟨best, stamp, true, false, round, done⟩ now rtt start flight floor).2.2) := by
  have h0 : w.cell? ⟨b, 0, none⟩ = some (.int .u64 best) := h.cell 0
  have h1 : w.cell? ⟨b, 1, none⟩ = some (.int .u64 stamp) := h.cell 1
  have h2 : w.cell? ⟨b, 2, none⟩ = some (.bool true) := h.cell 2
  have h3 : w.cell? ⟨b, 3, none⟩ = some (.bool false) := h.cell 3
  have h4 : w.cell? ⟨b, 4, none⟩ = some (.bool round) := h.cell 4
  have h5 : w.cell? ⟨b, 5, none⟩ = some (.int .u64 done) := h.cell 5
  have f0 := h.free 0
  have f1 := h.free 1
  have f2 := h.free 2
  have f3 := h.free 3
  have f4 := h.free 4
  have f5 := h.free 5
  have H := Lib.hid h
  clear h
  subst hb
  have hE : rexpF ⟨0, stamp, true, false, round, done⟩ now = false := by simp [rexpF]
  have hS : rsetF ⟨0, stamp, true, false, round, done⟩ now rtt = true := by unfold rsetF; rw [hE]; simp; omega
  have hu : rupF ⟨0, stamp, true, false, round, done⟩ now rtt start flight floor = (false, false, ⟨rtt, now, true, false, round, done⟩) := by simp [rupF, rs1F, hE, hS, hf]
  rw [hu]
  clear hE hS hu
  go_enter Try.func30, Try.ntmps30
  go_wp2
  go_ret2
  exact ⟨rfl, ((Put.set H.out 0).then_ (Put.set (H.out.set 0) 1))⟩

set_option maxHeartbeats 400000 in
theorem rup_b0_r1_late (b best stamp done now rtt : Nat) (waits round start : Bool) (flight floor : Nat) (hst : stamp < 18446744073709551616) (hn : now < 18446744073709551616) (hb : best = 0) (hr : 0 < rtt) (hd : done < now) (hrs : (round || start) = true) (w : World) (h : At w b 44 (rprb ⟨best, stamp, true, true, round, done⟩)) :
    Calls Try.prog 30 #[.pointer (some ⟨b, 0, none⟩), .int .u64 now, .int .u64 rtt, .bool start, .int .u64 flight, .int .u64 floor] w
      fun e w' => e = .returned (.tuple #[.bool (rupF ⟨best, stamp, true, true, round, done⟩ now rtt start flight floor).1, .bool (rupF ⟨best, stamp, true, true, round, done⟩ now rtt start flight floor).2.1]) ∧ Put w w' b 44 (rprb (rupF ⟨best, stamp, true, true, round, done⟩ now rtt start flight floor).2.2) := by
  have h0 : w.cell? ⟨b, 0, none⟩ = some (.int .u64 best) := h.cell 0
  have h1 : w.cell? ⟨b, 1, none⟩ = some (.int .u64 stamp) := h.cell 1
  have h2 : w.cell? ⟨b, 2, none⟩ = some (.bool true) := h.cell 2
  have h3 : w.cell? ⟨b, 3, none⟩ = some (.bool true) := h.cell 3
  have h4 : w.cell? ⟨b, 4, none⟩ = some (.bool round) := h.cell 4
  have h5 : w.cell? ⟨b, 5, none⟩ = some (.int .u64 done) := h.cell 5
  have f0 := h.free 0
  have f1 := h.free 1
  have f2 := h.free 2
  have f3 := h.free 3
  have f4 := h.free 4
  have f5 := h.free 5
  have H := Lib.hid h
  clear h
  subst hb
  have hE : rexpF ⟨0, stamp, true, true, round, done⟩ now = false := by simp [rexpF]
  have hS : rsetF ⟨0, stamp, true, true, round, done⟩ now rtt = true := by unfold rsetF; rw [hE]; simp; omega
  have hu : rupF ⟨0, stamp, true, true, round, done⟩ now rtt start flight floor = (false, true, ⟨rtt, now, false, false, true, done⟩) := by simp only [rupF, rs1F, hE, hS, hrs, decide_eq_true hd]; simp
  rw [hu]
  clear hE hS hu
  have hc : round = true ∨ round = false ∧ start = true := by cases round <;> simp_all
  clear hrs
  rcases hc with rfl | ⟨rfl, rfl⟩
  all_goals
    go_enter Try.func30, Try.ntmps30
    go_wp2
    go_ret2
    exact ⟨rfl, ((((((Put.set H.out 0).then_ (Put.set (H.out.set 0) 1)).then_ (Put.set ((H.out.set 0).set 1) 4)).then_ (Put.set (((H.out.set 0).set 1).set 4) 1)).then_ (Put.set ((((H.out.set 0).set 1).set 4).set 1) 2)).then_ (Put.set (((((H.out.set 0).set 1).set 4).set 1).set 2) 3))⟩

set_option maxHeartbeats 400000 in
theorem rup_b0_r1_stay (b best stamp done now rtt : Nat) (waits round start : Bool) (flight floor : Nat) (hst : stamp < 18446744073709551616) (hn : now < 18446744073709551616) (hb : best = 0) (hr : 0 < rtt) (hd : ¬ (done < now ∧ (round || start) = true)) (w : World) (h : At w b 44 (rprb ⟨best, stamp, true, true, round, done⟩)) :
    Calls Try.prog 30 #[.pointer (some ⟨b, 0, none⟩), .int .u64 now, .int .u64 rtt, .bool start, .int .u64 flight, .int .u64 floor] w
      fun e w' => e = .returned (.tuple #[.bool (rupF ⟨best, stamp, true, true, round, done⟩ now rtt start flight floor).1, .bool (rupF ⟨best, stamp, true, true, round, done⟩ now rtt start flight floor).2.1]) ∧ Put w w' b 44 (rprb (rupF ⟨best, stamp, true, true, round, done⟩ now rtt start flight floor).2.2) := by
  have h0 : w.cell? ⟨b, 0, none⟩ = some (.int .u64 best) := h.cell 0
  have h1 : w.cell? ⟨b, 1, none⟩ = some (.int .u64 stamp) := h.cell 1
  have h2 : w.cell? ⟨b, 2, none⟩ = some (.bool true) := h.cell 2
  have h3 : w.cell? ⟨b, 3, none⟩ = some (.bool true) := h.cell 3
  have h4 : w.cell? ⟨b, 4, none⟩ = some (.bool round) := h.cell 4
  have h5 : w.cell? ⟨b, 5, none⟩ = some (.int .u64 done) := h.cell 5
  have f0 := h.free 0
  have f1 := h.free 1
  have f2 := h.free 2
  have f3 := h.free 3
  have f4 := h.free 4
  have f5 := h.free 5
  have H := Lib.hid h
  clear h
  subst hb
  have hE : rexpF ⟨0, stamp, true, true, round, done⟩ now = false := by simp [rexpF]
  have hS : rsetF ⟨0, stamp, true, true, round, done⟩ now rtt = true := by unfold rsetF; rw [hE]; simp; omega
  have hd' : (decide (done < now) && (round || start)) = false := by rw [← Bool.not_eq_true]; simpa using hd
  have hu : rupF ⟨0, stamp, true, true, round, done⟩ now rtt start flight floor = (false, false, ⟨rtt, now, true, true, round || start, done⟩) := by simp only [rupF, rs1F, hE, hS, hd']; simp
  rw [hu]
  clear hE hS hu
  clear hd'
  have hc : (round || start) = false ∨ (round || start) = true ∧ now ≤ done := by cases hq : (round || start) <;> simp_all
  clear hd
  have hc2 : (round = false ∧ start = false) ∨ (round = true ∧ now ≤ done) ∨ (round = false ∧ start = true ∧ now ≤ done) := by cases round <;> cases start <;> simp_all
  clear hc
  rcases hc2 with ⟨rfl, rfl⟩ | ⟨rfl, hd⟩ | ⟨rfl, rfl, hd⟩
  all_goals
    go_enter Try.func30, Try.ntmps30
    go_wp2
    go_ret2
    exact ⟨rfl, (((Put.set H.out 0).then_ (Put.set (H.out.set 0) 1)).then_ (Put.set ((H.out.set 0).set 1) 4))⟩

set_option maxHeartbeats 400000 in
theorem rup_n_r0_false (b best stamp done now rtt : Nat) (waits round start : Bool) (flight floor : Nat) (hst : stamp < 18446744073709551616) (hn : now < 18446744073709551616) (hb : 0 < best) (hx : ¬ satAdd stamp 10000000000 < now) (hr : rtt = 0)  (w : World) (h : At w b 44 (rprb ⟨best, stamp, false, waits, round, done⟩)) :
    Calls Try.prog 30 #[.pointer (some ⟨b, 0, none⟩), .int .u64 now, .int .u64 rtt, .bool start, .int .u64 flight, .int .u64 floor] w
      fun e w' => e = .returned (.tuple #[.bool (rupF ⟨best, stamp, false, waits, round, done⟩ now rtt start flight floor).1, .bool (rupF ⟨best, stamp, false, waits, round, done⟩ now rtt start flight floor).2.1]) ∧ Put w w' b 44 (rprb (rupF ⟨best, stamp, false, waits, round, done⟩ now rtt start flight floor).2.2) := by
  have h0 : w.cell? ⟨b, 0, none⟩ = some (.int .u64 best) := h.cell 0
  have h1 : w.cell? ⟨b, 1, none⟩ = some (.int .u64 stamp) := h.cell 1
  have h2 : w.cell? ⟨b, 2, none⟩ = some (.bool false) := h.cell 2
  have h3 : w.cell? ⟨b, 3, none⟩ = some (.bool waits) := h.cell 3
  have h4 : w.cell? ⟨b, 4, none⟩ = some (.bool round) := h.cell 4
  have h5 : w.cell? ⟨b, 5, none⟩ = some (.int .u64 done) := h.cell 5
  have f0 := h.free 0
  have f1 := h.free 1
  have f2 := h.free 2
  have f3 := h.free 3
  have f4 := h.free 4
  have f5 := h.free 5
  have H := Lib.hid h
  clear h
  have CA := Lib.hid (radd_any stamp 10000000000 hst (by omega))
  have y0 : ((best : Int) == 0) = false := by rw [beq_eq_false_iff_ne]; omega
  subst hr
  have yx : decide (satAdd stamp 10000000000 < now) = false := by simpa using hx
  have hE : rexpF ⟨best, stamp, false, waits, round, done⟩ now = false := by simp [rexpF]; omega
  have hS : rsetF ⟨best, stamp, false, waits, round, done⟩ now 0 = false := by unfold rsetF; rw [hE]; simp
  have hu : rupF ⟨best, stamp, false, waits, round, done⟩ now 0 start flight floor = (false, false, ⟨best, stamp, false, waits, round, done⟩) := by simp [rupF, rs1F, hE, hS]
  rw [hu]
  clear hE hS hu
  generalize satAdd stamp 10000000000 = X at *
  clear hx
  go_enter Try.func30, Try.ntmps30
  go_wp2_with fail
  refine (CA.out _).mono ?_; rintro e w' ⟨rfl, rfl⟩
  go_wp2
  go_ret2
  exact ⟨rfl, (Put.same H.out)⟩

set_option maxHeartbeats 400000 in
theorem rup_n_r0_wle (b best stamp done now rtt : Nat) (waits round start : Bool) (flight floor : Nat) (hst : stamp < 18446744073709551616) (hn : now < 18446744073709551616) (hb : 0 < best) (hx : ¬ satAdd stamp 10000000000 < now) (hr : rtt = 0) (hf : flight ≤ floor) (w : World) (h : At w b 44 (rprb ⟨best, stamp, true, false, round, done⟩)) :
    Calls Try.prog 30 #[.pointer (some ⟨b, 0, none⟩), .int .u64 now, .int .u64 rtt, .bool start, .int .u64 flight, .int .u64 floor] w
      fun e w' => e = .returned (.tuple #[.bool (rupF ⟨best, stamp, true, false, round, done⟩ now rtt start flight floor).1, .bool (rupF ⟨best, stamp, true, false, round, done⟩ now rtt start flight floor).2.1]) ∧ Put w w' b 44 (rprb (rupF ⟨best, stamp, true, false, round, done⟩ now rtt start flight floor).2.2) := by
  have h0 : w.cell? ⟨b, 0, none⟩ = some (.int .u64 best) := h.cell 0
  have h1 : w.cell? ⟨b, 1, none⟩ = some (.int .u64 stamp) := h.cell 1
  have h2 : w.cell? ⟨b, 2, none⟩ = some (.bool true) := h.cell 2
  have h3 : w.cell? ⟨b, 3, none⟩ = some (.bool false) := h.cell 3
  have h4 : w.cell? ⟨b, 4, none⟩ = some (.bool round) := h.cell 4
  have h5 : w.cell? ⟨b, 5, none⟩ = some (.int .u64 done) := h.cell 5
  have f0 := h.free 0
  have f1 := h.free 1
  have f2 := h.free 2
  have f3 := h.free 3
  have f4 := h.free 4
  have f5 := h.free 5
  have H := Lib.hid h
  clear h
  have CA := Lib.hid (radd_any stamp 10000000000 hst (by omega))
  have y0 : ((best : Int) == 0) = false := by rw [beq_eq_false_iff_ne]; omega
  subst hr
  have yx : decide (satAdd stamp 10000000000 < now) = false := by simpa using hx
  have hE : rexpF ⟨best, stamp, true, false, round, done⟩ now = false := by simp [rexpF]; omega
  have hS : rsetF ⟨best, stamp, true, false, round, done⟩ now 0 = false := by unfold rsetF; rw [hE]; simp
  have hu : rupF ⟨best, stamp, true, false, round, done⟩ now 0 start flight floor = (false, false, ⟨best, stamp, true, true, false, satAdd now 200000000⟩) := by simp [rupF, rs1F, hE, hS, hf]
  rw [hu]
  clear hE hS hu
  generalize satAdd stamp 10000000000 = X at *
  clear hx
  have CB := Lib.hid (radd_any now 200000000 hn (by omega))
  generalize satAdd now 200000000 = Y at *
  go_enter Try.func30, Try.ntmps30
  go_wp2_with fail
  refine (CA.out _).mono ?_; rintro e w' ⟨rfl, rfl⟩
  go_wp2_with fail
  refine (CB.out _).mono ?_; rintro e w' ⟨rfl, rfl⟩
  go_wp2
  go_ret2
  exact ⟨rfl, ((((Put.same H.out).then_ (Put.set H.out 3)).then_ (Put.set (H.out.set 3) 4)).then_ (Put.set ((H.out.set 3).set 4) 5))⟩

set_option maxHeartbeats 400000 in
theorem rup_n_r0_wgt (b best stamp done now rtt : Nat) (waits round start : Bool) (flight floor : Nat) (hst : stamp < 18446744073709551616) (hn : now < 18446744073709551616) (hb : 0 < best) (hx : ¬ satAdd stamp 10000000000 < now) (hr : rtt = 0) (hf : ¬ flight ≤ floor) (w : World) (h : At w b 44 (rprb ⟨best, stamp, true, false, round, done⟩)) :
    Calls Try.prog 30 #[.pointer (some ⟨b, 0, none⟩), .int .u64 now, .int .u64 rtt, .bool start, .int .u64 flight, .int .u64 floor] w
      fun e w' => e = .returned (.tuple #[.bool (rupF ⟨best, stamp, true, false, round, done⟩ now rtt start flight floor).1, .bool (rupF ⟨best, stamp, true, false, round, done⟩ now rtt start flight floor).2.1]) ∧ Put w w' b 44 (rprb (rupF ⟨best, stamp, true, false, round, done⟩ now rtt start flight floor).2.2) := by
  have h0 : w.cell? ⟨b, 0, none⟩ = some (.int .u64 best) := h.cell 0
  have h1 : w.cell? ⟨b, 1, none⟩ = some (.int .u64 stamp) := h.cell 1
  have h2 : w.cell? ⟨b, 2, none⟩ = some (.bool true) := h.cell 2
  have h3 : w.cell? ⟨b, 3, none⟩ = some (.bool false) := h.cell 3
  have h4 : w.cell? ⟨b, 4, none⟩ = some (.bool round) := h.cell 4
  have h5 : w.cell? ⟨b, 5, none⟩ = some (.int .u64 done) := h.cell 5
  have f0 := h.free 0
  have f1 := h.free 1
  have f2 := h.free 2
  have f3 := h.free 3
  have f4 := h.free 4
  have f5 := h.free 5
  have H := Lib.hid h
  clear h
  have CA := Lib.hid (radd_any stamp 10000000000 hst (by omega))
  have y0 : ((best : Int) == 0) = false := by rw [beq_eq_false_iff_ne]; omega
  subst hr
  have yx : decide (satAdd stamp 10000000000 < now) = false := by simpa using hx
  have hE : rexpF ⟨best, stamp, true, false, round, done⟩ now = false := by simp [rexpF]; omega
  have hS : rsetF ⟨best, stamp, true, false, round, done⟩ now 0 = false := by unfold rsetF; rw [hE]; simp
  have hu : rupF ⟨best, stamp, true, false, round, done⟩ now 0 start flight floor = (false, false, ⟨best, stamp, true, false, round, done⟩) := by simp [rupF, rs1F, hE, hS, hf]
  rw [hu]
  clear hE hS hu
  generalize satAdd stamp 10000000000 = X at *
  clear hx
  go_enter Try.func30, Try.ntmps30
  go_wp2_with fail
  refine (CA.out _).mono ?_; rintro e w' ⟨rfl, rfl⟩
  go_wp2
  go_ret2
  exact ⟨rfl, (Put.same H.out)⟩

set_option maxHeartbeats 400000 in
theorem rup_n_r0_late (b best stamp done now rtt : Nat) (waits round start : Bool) (flight floor : Nat) (hst : stamp < 18446744073709551616) (hn : now < 18446744073709551616) (hb : 0 < best) (hx : ¬ satAdd stamp 10000000000 < now) (hr : rtt = 0) (hd : done < now) (hrs : (round || start) = true) (w : World) (h : At w b 44 (rprb ⟨best, stamp, true, true, round, done⟩)) :
    Calls Try.prog 30 #[.pointer (some ⟨b, 0, none⟩), .int .u64 now, .int .u64 rtt, .bool start, .int .u64 flight, .int .u64 floor] w
      fun e w' => e = .returned (.tuple #[.bool (rupF ⟨best, stamp, true, true, round, done⟩ now rtt start flight floor).1, .bool (rupF ⟨best, stamp, true, true, round, done⟩ now rtt start flight floor).2.1]) ∧ Put w w' b 44 (rprb (rupF ⟨best, stamp, true, true, round, done⟩ now rtt start flight floor).2.2) := by
  have h0 : w.cell? ⟨b, 0, none⟩ = some (.int .u64 best) := h.cell 0
  have h1 : w.cell? ⟨b, 1, none⟩ = some (.int .u64 stamp) := h.cell 1
  have h2 : w.cell? ⟨b, 2, none⟩ = some (.bool true) := h.cell 2
  have h3 : w.cell? ⟨b, 3, none⟩ = some (.bool true) := h.cell 3
  have h4 : w.cell? ⟨b, 4, none⟩ = some (.bool round) := h.cell 4
  have h5 : w.cell? ⟨b, 5, none⟩ = some (.int .u64 done) := h.cell 5
  have f0 := h.free 0
  have f1 := h.free 1
  have f2 := h.free 2
  have f3 := h.free 3
  have f4 := h.free 4
  have f5 := h.free 5
  have H := Lib.hid h
  clear h
  have CA := Lib.hid (radd_any stamp 10000000000 hst (by omega))
  have y0 : ((best : Int) == 0) = false := by rw [beq_eq_false_iff_ne]; omega
  subst hr
  have yx : decide (satAdd stamp 10000000000 < now) = false := by simpa using hx
  have hE : rexpF ⟨best, stamp, true, true, round, done⟩ now = false := by simp [rexpF]; omega
  have hS : rsetF ⟨best, stamp, true, true, round, done⟩ now 0 = false := by unfold rsetF; rw [hE]; simp
  have hu : rupF ⟨best, stamp, true, true, round, done⟩ now 0 start flight floor = (false, true, ⟨best, now, false, false, true, done⟩) := by simp only [rupF, rs1F, hE, hS, hrs, decide_eq_true hd]; simp
  rw [hu]
  clear hE hS hu
  generalize satAdd stamp 10000000000 = X at *
  clear hx
  have hc : round = true ∨ round = false ∧ start = true := by cases round <;> simp_all
  clear hrs
  rcases hc with rfl | ⟨rfl, rfl⟩
  all_goals
    go_enter Try.func30, Try.ntmps30
    go_wp2_with fail
    refine (CA.out _).mono ?_; rintro e w' ⟨rfl, rfl⟩
    go_wp2
    go_ret2
    exact ⟨rfl, (((((Put.same H.out).then_ (Put.set H.out 4)).then_ (Put.set (H.out.set 4) 1)).then_ (Put.set ((H.out.set 4).set 1) 2)).then_ (Put.set (((H.out.set 4).set 1).set 2) 3))⟩

set_option maxHeartbeats 400000 in
theorem rup_n_r0_stay (b best stamp done now rtt : Nat) (waits round start : Bool) (flight floor : Nat) (hst : stamp < 18446744073709551616) (hn : now < 18446744073709551616) (hb : 0 < best) (hx : ¬ satAdd stamp 10000000000 < now) (hr : rtt = 0) (hd : ¬ (done < now ∧ (round || start) = true)) (w : World) (h : At w b 44 (rprb ⟨best, stamp, true, true, round, done⟩)) :
    Calls Try.prog 30 #[.pointer (some ⟨b, 0, none⟩), .int .u64 now, .int .u64 rtt, .bool start, .int .u64 flight, .int .u64 floor] w
      fun e w' => e = .returned (.tuple #[.bool (rupF ⟨best, stamp, true, true, round, done⟩ now rtt start flight floor).1, .bool (rupF ⟨best, stamp, true, true, round, done⟩ now rtt start flight floor).2.1]) ∧ Put w w' b 44 (rprb (rupF ⟨best, stamp, true, true, round, done⟩ now rtt start flight floor).2.2) := by
  have h0 : w.cell? ⟨b, 0, none⟩ = some (.int .u64 best) := h.cell 0
  have h1 : w.cell? ⟨b, 1, none⟩ = some (.int .u64 stamp) := h.cell 1
  have h2 : w.cell? ⟨b, 2, none⟩ = some (.bool true) := h.cell 2
  have h3 : w.cell? ⟨b, 3, none⟩ = some (.bool true) := h.cell 3
  have h4 : w.cell? ⟨b, 4, none⟩ = some (.bool round) := h.cell 4
  have h5 : w.cell? ⟨b, 5, none⟩ = some (.int .u64 done) := h.cell 5
  have f0 := h.free 0
  have f1 := h.free 1
  have f2 := h.free 2
  have f3 := h.free 3
  have f4 := h.free 4
  have f5 := h.free 5
  have H := Lib.hid h
  clear h
  have CA := Lib.hid (radd_any stamp 10000000000 hst (by omega))
  have y0 : ((best : Int) == 0) = false := by rw [beq_eq_false_iff_ne]; omega
  subst hr
  have yx : decide (satAdd stamp 10000000000 < now) = false := by simpa using hx
  have hE : rexpF ⟨best, stamp, true, true, round, done⟩ now = false := by simp [rexpF]; omega
  have hS : rsetF ⟨best, stamp, true, true, round, done⟩ now 0 = false := by unfold rsetF; rw [hE]; simp
  have hd' : (decide (done < now) && (round || start)) = false := by rw [← Bool.not_eq_true]; simpa using hd
  have hu : rupF ⟨best, stamp, true, true, round, done⟩ now 0 start flight floor = (false, false, ⟨best, stamp, true, true, round || start, done⟩) := by simp only [rupF, rs1F, hE, hS, hd']; simp
  rw [hu]
  clear hE hS hu
  generalize satAdd stamp 10000000000 = X at *
  clear hx
  clear hd'
  have hc : (round || start) = false ∨ (round || start) = true ∧ now ≤ done := by cases hq : (round || start) <;> simp_all
  clear hd
  have hc2 : (round = false ∧ start = false) ∨ (round = true ∧ now ≤ done) ∨ (round = false ∧ start = true ∧ now ≤ done) := by cases round <;> cases start <;> simp_all
  clear hc
  rcases hc2 with ⟨rfl, rfl⟩ | ⟨rfl, hd⟩ | ⟨rfl, rfl, hd⟩
  all_goals
    go_enter Try.func30, Try.ntmps30
    go_wp2_with fail
    refine (CA.out _).mono ?_; rintro e w' ⟨rfl, rfl⟩
    go_wp2
    go_ret2
    exact ⟨rfl, ((Put.same H.out).then_ (Put.set H.out 4))⟩

set_option maxHeartbeats 400000 in
theorem rup_n_rle_false (b best stamp done now rtt : Nat) (waits round start : Bool) (flight floor : Nat) (hst : stamp < 18446744073709551616) (hn : now < 18446744073709551616) (hb : 0 < best) (hx : ¬ satAdd stamp 10000000000 < now) (hr : 0 < rtt) (hl : rtt ≤ best)  (w : World) (h : At w b 44 (rprb ⟨best, stamp, false, waits, round, done⟩)) :
    Calls Try.prog 30 #[.pointer (some ⟨b, 0, none⟩), .int .u64 now, .int .u64 rtt, .bool start, .int .u64 flight, .int .u64 floor] w
      fun e w' => e = .returned (.tuple #[.bool (rupF ⟨best, stamp, false, waits, round, done⟩ now rtt start flight floor).1, .bool (rupF ⟨best, stamp, false, waits, round, done⟩ now rtt start flight floor).2.1]) ∧ Put w w' b 44 (rprb (rupF ⟨best, stamp, false, waits, round, done⟩ now rtt start flight floor).2.2) := by
  have h0 : w.cell? ⟨b, 0, none⟩ = some (.int .u64 best) := h.cell 0
  have h1 : w.cell? ⟨b, 1, none⟩ = some (.int .u64 stamp) := h.cell 1
  have h2 : w.cell? ⟨b, 2, none⟩ = some (.bool false) := h.cell 2
  have h3 : w.cell? ⟨b, 3, none⟩ = some (.bool waits) := h.cell 3
  have h4 : w.cell? ⟨b, 4, none⟩ = some (.bool round) := h.cell 4
  have h5 : w.cell? ⟨b, 5, none⟩ = some (.int .u64 done) := h.cell 5
  have f0 := h.free 0
  have f1 := h.free 1
  have f2 := h.free 2
  have f3 := h.free 3
  have f4 := h.free 4
  have f5 := h.free 5
  have H := Lib.hid h
  clear h
  have CA := Lib.hid (radd_any stamp 10000000000 hst (by omega))
  have y0 : ((best : Int) == 0) = false := by rw [beq_eq_false_iff_ne]; omega
  have yl : decide (rtt ≤ best) = true := by simpa using hl
  have yx : decide (satAdd stamp 10000000000 < now) = false := by simpa using hx
  have hE : rexpF ⟨best, stamp, false, waits, round, done⟩ now = false := by simp [rexpF]; omega
  have hS : rsetF ⟨best, stamp, false, waits, round, done⟩ now rtt = true := by unfold rsetF; rw [hE]; simp; omega
  have hu : rupF ⟨best, stamp, false, waits, round, done⟩ now rtt start flight floor = (false, false, ⟨rtt, now, false, waits, round, done⟩) := by simp [rupF, rs1F, hE, hS]
  rw [hu]
  clear hE hS hu
  clear hl
  generalize satAdd stamp 10000000000 = X at *
  clear hx
  go_enter Try.func30, Try.ntmps30
  go_wp2_with fail
  refine (CA.out _).mono ?_; rintro e w' ⟨rfl, rfl⟩
  go_wp2
  go_ret2
  exact ⟨rfl, ((Put.set H.out 0).then_ (Put.set (H.out.set 0) 1))⟩

set_option maxHeartbeats 400000 in
theorem rup_n_rle_wle (b best stamp done now rtt : Nat) (waits round start : Bool) (flight floor : Nat) (hst : stamp < 18446744073709551616) (hn : now < 18446744073709551616) (hb : 0 < best) (hx : ¬ satAdd stamp 10000000000 < now) (hr : 0 < rtt) (hl : rtt ≤ best) (hf : flight ≤ floor) (w : World) (h : At w b 44 (rprb ⟨best, stamp, true, false, round, done⟩)) :
    Calls Try.prog 30 #[.pointer (some ⟨b, 0, none⟩), .int .u64 now, .int .u64 rtt, .bool start, .int .u64 flight, .int .u64 floor] w
      fun e w' => e = .returned (.tuple #[.bool (rupF ⟨best, stamp, true, false, round, done⟩ now rtt start flight floor).1, .bool (rupF ⟨best, stamp, true, false, round, done⟩ now rtt start flight floor).2.1]) ∧ Put w w' b 44 (rprb (rupF ⟨best, stamp, true, false, round, done⟩ now rtt start flight floor).2.2) := by
  have h0 : w.cell? ⟨b, 0, none⟩ = some (.int .u64 best) := h.cell 0
  have h1 : w.cell? ⟨b, 1, none⟩ = some (.int .u64 stamp) := h.cell 1
  have h2 : w.cell? ⟨b, 2, none⟩ = some (.bool true) := h.cell 2
  have h3 : w.cell? ⟨b, 3, none⟩ = some (.bool false) := h.cell 3
  have h4 : w.cell? ⟨b, 4, none⟩ = some (.bool round) := h.cell 4
  have h5 : w.cell? ⟨b, 5, none⟩ = some (.int .u64 done) := h.cell 5
  have f0 := h.free 0
  have f1 := h.free 1
  have f2 := h.free 2
  have f3 := h.free 3
  have f4 := h.free 4
  have f5 := h.free 5
  have H := Lib.hid h
  clear h
  have CA := Lib.hid (radd_any stamp 10000000000 hst (by omega))
  have y0 : ((best : Int) == 0) = false := by rw [beq_eq_false_iff_ne]; omega
  have yl : decide (rtt ≤ best) = true := by simpa using hl
  have yx : decide (satAdd stamp 10000000000 < now) = false := by simpa using hx
  have hE : rexpF ⟨best, stamp, true, false, round, done⟩ now = false := by simp [rexpF]; omega
  have hS : rsetF ⟨best, stamp, true, false, round, done⟩ now rtt = true := by unfold rsetF; rw [hE]; simp; omega
  have hu : rupF ⟨best, stamp, true, false, round, done⟩ now rtt start flight floor = (false, false, ⟨rtt, now, true, true, false, satAdd now 200000000⟩) := by simp [rupF, rs1F, hE, hS, hf]
  rw [hu]
  clear hE hS hu
  clear hl
  generalize satAdd stamp 10000000000 = X at *
  clear hx
  have CB := Lib.hid (radd_any now 200000000 hn (by omega))
  generalize satAdd now 200000000 = Y at *
  go_enter Try.func30, Try.ntmps30
  go_wp2_with fail
  refine (CA.out _).mono ?_; rintro e w' ⟨rfl, rfl⟩
  go_wp2_with fail
  refine (CB.out _).mono ?_; rintro e w' ⟨rfl, rfl⟩
  go_wp2
  go_ret2
  exact ⟨rfl, (((((Put.set H.out 0).then_ (Put.set (H.out.set 0) 1)).then_ (Put.set ((H.out.set 0).set 1) 3)).then_ (Put.set (((H.out.set 0).set 1).set 3) 4)).then_ (Put.set ((((H.out.set 0).set 1).set 3).set 4) 5))⟩

set_option maxHeartbeats 400000 in
theorem rup_n_rle_wgt (b best stamp done now rtt : Nat) (waits round start : Bool) (flight floor : Nat) (hst : stamp < 18446744073709551616) (hn : now < 18446744073709551616) (hb : 0 < best) (hx : ¬ satAdd stamp 10000000000 < now) (hr : 0 < rtt) (hl : rtt ≤ best) (hf : ¬ flight ≤ floor) (w : World) (h : At w b 44 (rprb ⟨best, stamp, true, false, round, done⟩)) :
    Calls Try.prog 30 #[.pointer (some ⟨b, 0, none⟩), .int .u64 now, .int .u64 rtt, .bool start, .int .u64 flight, .int .u64 floor] w
      fun e w' => e = .returned (.tuple #[.bool (rupF ⟨best, stamp, true, false, round, done⟩ now rtt start flight floor).1, .bool (rupF ⟨best, stamp, true, false, round, done⟩ now rtt start flight floor).2.1]) ∧ Put w w' b 44 (rprb (rupF ⟨best, stamp, true, false, round, done⟩ now rtt start flight floor).2.2) := by
  have h0 : w.cell? ⟨b, 0, none⟩ = some (.int .u64 best) := h.cell 0
  have h1 : w.cell? ⟨b, 1, none⟩ = some (.int .u64 stamp) := h.cell 1
  have h2 : w.cell? ⟨b, 2, none⟩ = some (.bool true) := h.cell 2
  have h3 : w.cell? ⟨b, 3, none⟩ = some (.bool false) := h.cell 3
  have h4 : w.cell? ⟨b, 4, none⟩ = some (.bool round) := h.cell 4
  have h5 : w.cell? ⟨b, 5, none⟩ = some (.int .u64 done) := h.cell 5
  have f0 := h.free 0
  have f1 := h.free 1
  have f2 := h.free 2
  have f3 := h.free 3
  have f4 := h.free 4
  have f5 := h.free 5
  have H := Lib.hid h
  clear h
  have CA := Lib.hid (radd_any stamp 10000000000 hst (by omega))
  have y0 : ((best : Int) == 0) = false := by rw [beq_eq_false_iff_ne]; omega
  have yl : decide (rtt ≤ best) = true := by simpa using hl
  have yx : decide (satAdd stamp 10000000000 < now) = false := by simpa using hx
  have hE : rexpF ⟨best, stamp, true, false, round, done⟩ now = false := by simp [rexpF]; omega
  have hS : rsetF ⟨best, stamp, true, false, round, done⟩ now rtt = true := by unfold rsetF; rw [hE]; simp; omega
  have hu : rupF ⟨best, stamp, true, false, round, done⟩ now rtt start flight floor = (false, false, ⟨rtt, now, true, false, round, done⟩) := by simp [rupF, rs1F, hE, hS, hf]
  rw [hu]
  clear hE hS hu
  clear hl
  generalize satAdd stamp 10000000000 = X at *
  clear hx
  go_enter Try.func30, Try.ntmps30
  go_wp2_with fail
  refine (CA.out _).mono ?_; rintro e w' ⟨rfl, rfl⟩
  go_wp2
  go_ret2
  exact ⟨rfl, ((Put.set H.out 0).then_ (Put.set (H.out.set 0) 1))⟩

set_option maxHeartbeats 400000 in
theorem rup_n_rle_late (b best stamp done now rtt : Nat) (waits round start : Bool) (flight floor : Nat) (hst : stamp < 18446744073709551616) (hn : now < 18446744073709551616) (hb : 0 < best) (hx : ¬ satAdd stamp 10000000000 < now) (hr : 0 < rtt) (hl : rtt ≤ best) (hd : done < now) (hrs : (round || start) = true) (w : World) (h : At w b 44 (rprb ⟨best, stamp, true, true, round, done⟩)) :
    Calls Try.prog 30 #[.pointer (some ⟨b, 0, none⟩), .int .u64 now, .int .u64 rtt, .bool start, .int .u64 flight, .int .u64 floor] w
      fun e w' => e = .returned (.tuple #[.bool (rupF ⟨best, stamp, true, true, round, done⟩ now rtt start flight floor).1, .bool (rupF ⟨best, stamp, true, true, round, done⟩ now rtt start flight floor).2.1]) ∧ Put w w' b 44 (rprb (rupF ⟨best, stamp, true, true, round, done⟩ now rtt start flight floor).2.2) := by
  have h0 : w.cell? ⟨b, 0, none⟩ = some (.int .u64 best) := h.cell 0
  have h1 : w.cell? ⟨b, 1, none⟩ = some (.int .u64 stamp) := h.cell 1
  have h2 : w.cell? ⟨b, 2, none⟩ = some (.bool true) := h.cell 2
  have h3 : w.cell? ⟨b, 3, none⟩ = some (.bool true) := h.cell 3
  have h4 : w.cell? ⟨b, 4, none⟩ = some (.bool round) := h.cell 4
  have h5 : w.cell? ⟨b, 5, none⟩ = some (.int .u64 done) := h.cell 5
  have f0 := h.free 0
  have f1 := h.free 1
  have f2 := h.free 2
  have f3 := h.free 3
  have f4 := h.free 4
  have f5 := h.free 5
  have H := Lib.hid h
  clear h
  have CA := Lib.hid (radd_any stamp 10000000000 hst (by omega))
  have y0 : ((best : Int) == 0) = false := by rw [beq_eq_false_iff_ne]; omega
  have yl : decide (rtt ≤ best) = true := by simpa using hl
  have yx : decide (satAdd stamp 10000000000 < now) = false := by simpa using hx
  have hE : rexpF ⟨best, stamp, true, true, round, done⟩ now = false := by simp [rexpF]; omega
  have hS : rsetF ⟨best, stamp, true, true, round, done⟩ now rtt = true := by unfold rsetF; rw [hE]; simp; omega
  have hu : rupF ⟨best, stamp, true, true, round, done⟩ now rtt start flight floor = (false, true, ⟨rtt, now, false, false, true, done⟩) := by simp only [rupF, rs1F, hE, hS, hrs, decide_eq_true hd]; simp
  rw [hu]
  clear hE hS hu
  clear hl
  generalize satAdd stamp 10000000000 = X at *
  clear hx
  have hc : round = true ∨ round = false ∧ start = true := by cases round <;> simp_all
  clear hrs
  rcases hc with rfl | ⟨rfl, rfl⟩
  all_goals
    go_enter Try.func30, Try.ntmps30
    go_wp2_with fail
    refine (CA.out _).mono ?_; rintro e w' ⟨rfl, rfl⟩
    go_wp2
    go_ret2
    exact ⟨rfl, ((((((Put.set H.out 0).then_ (Put.set (H.out.set 0) 1)).then_ (Put.set ((H.out.set 0).set 1) 4)).then_ (Put.set (((H.out.set 0).set 1).set 4) 1)).then_ (Put.set ((((H.out.set 0).set 1).set 4).set 1) 2)).then_ (Put.set (((((H.out.set 0).set 1).set 4).set 1).set 2) 3))⟩

set_option maxHeartbeats 400000 in
theorem rup_n_rle_stay (b best stamp done now rtt : Nat) (waits round start : Bool) (flight floor : Nat) (hst : stamp < 18446744073709551616) (hn : now < 18446744073709551616) (hb : 0 < best) (hx : ¬ satAdd stamp 10000000000 < now) (hr : 0 < rtt) (hl : rtt ≤ best) (hd : ¬ (done < now ∧ (round || start) = true)) (w : World) (h : At w b 44 (rprb ⟨best, stamp, true, true, round, done⟩)) :
    Calls Try.prog 30 #[.pointer (some ⟨b, 0, none⟩), .int .u64 now, .int .u64 rtt, .bool start, .int .u64 flight, .int .u64 floor] w
      fun e w' => e = .returned (.tuple #[.bool (rupF ⟨best, stamp, true, true, round, done⟩ now rtt start flight floor).1, .bool (rupF ⟨best, stamp, true, true, round, done⟩ now rtt start flight floor).2.1]) ∧ Put w w' b 44 (rprb (rupF ⟨best, stamp, true, true, round, done⟩ now rtt start flight floor).2.2) := by
  have h0 : w.cell? ⟨b, 0, none⟩ = some (.int .u64 best) := h.cell 0
  have h1 : w.cell? ⟨b, 1, none⟩ = some (.int .u64 stamp) := h.cell 1
  have h2 : w.cell? ⟨b, 2, none⟩ = some (.bool true) := h.cell 2
  have h3 : w.cell? ⟨b, 3, none⟩ = some (.bool true) := h.cell 3
  have h4 : w.cell? ⟨b, 4, none⟩ = some (.bool round) := h.cell 4
  have h5 : w.cell? ⟨b, 5, none⟩ = some (.int .u64 done) := h.cell 5
  have f0 := h.free 0
  have f1 := h.free 1
  have f2 := h.free 2
  have f3 := h.free 3
  have f4 := h.free 4
  have f5 := h.free 5
  have H := Lib.hid h
  clear h
  have CA := Lib.hid (radd_any stamp 10000000000 hst (by omega))
  have y0 : ((best : Int) == 0) = false := by rw [beq_eq_false_iff_ne]; omega
  have yl : decide (rtt ≤ best) = true := by simpa using hl
  have yx : decide (satAdd stamp 10000000000 < now) = false := by simpa using hx
  have hE : rexpF ⟨best, stamp, true, true, round, done⟩ now = false := by simp [rexpF]; omega
  have hS : rsetF ⟨best, stamp, true, true, round, done⟩ now rtt = true := by unfold rsetF; rw [hE]; simp; omega
  have hd' : (decide (done < now) && (round || start)) = false := by rw [← Bool.not_eq_true]; simpa using hd
  have hu : rupF ⟨best, stamp, true, true, round, done⟩ now rtt start flight floor = (false, false, ⟨rtt, now, true, true, round || start, done⟩) := by simp only [rupF, rs1F, hE, hS, hd']; simp
  rw [hu]
  clear hE hS hu
  clear hl
  generalize satAdd stamp 10000000000 = X at *
  clear hx
  clear hd'
  have hc : (round || start) = false ∨ (round || start) = true ∧ now ≤ done := by cases hq : (round || start) <;> simp_all
  clear hd
  have hc2 : (round = false ∧ start = false) ∨ (round = true ∧ now ≤ done) ∨ (round = false ∧ start = true ∧ now ≤ done) := by cases round <;> cases start <;> simp_all
  clear hc
  rcases hc2 with ⟨rfl, rfl⟩ | ⟨rfl, hd⟩ | ⟨rfl, rfl, hd⟩
  all_goals
    go_enter Try.func30, Try.ntmps30
    go_wp2_with fail
    refine (CA.out _).mono ?_; rintro e w' ⟨rfl, rfl⟩
    go_wp2
    go_ret2
    exact ⟨rfl, (((Put.set H.out 0).then_ (Put.set (H.out.set 0) 1)).then_ (Put.set ((H.out.set 0).set 1) 4))⟩

set_option maxHeartbeats 400000 in
theorem rup_n_rgt_false (b best stamp done now rtt : Nat) (waits round start : Bool) (flight floor : Nat) (hst : stamp < 18446744073709551616) (hn : now < 18446744073709551616) (hb : 0 < best) (hx : ¬ satAdd stamp 10000000000 < now) (hr : 0 < rtt) (hl : ¬ rtt ≤ best)  (w : World) (h : At w b 44 (rprb ⟨best, stamp, false, waits, round, done⟩)) :
    Calls Try.prog 30 #[.pointer (some ⟨b, 0, none⟩), .int .u64 now, .int .u64 rtt, .bool start, .int .u64 flight, .int .u64 floor] w
      fun e w' => e = .returned (.tuple #[.bool (rupF ⟨best, stamp, false, waits, round, done⟩ now rtt start flight floor).1, .bool (rupF ⟨best, stamp, false, waits, round, done⟩ now rtt start flight floor).2.1]) ∧ Put w w' b 44 (rprb (rupF ⟨best, stamp, false, waits, round, done⟩ now rtt start flight floor).2.2) := by
  have h0 : w.cell? ⟨b, 0, none⟩ = some (.int .u64 best) := h.cell 0
  have h1 : w.cell? ⟨b, 1, none⟩ = some (.int .u64 stamp) := h.cell 1
  have h2 : w.cell? ⟨b, 2, none⟩ = some (.bool false) := h.cell 2
  have h3 : w.cell? ⟨b, 3, none⟩ = some (.bool waits) := h.cell 3
  have h4 : w.cell? ⟨b, 4, none⟩ = some (.bool round) := h.cell 4
  have h5 : w.cell? ⟨b, 5, none⟩ = some (.int .u64 done) := h.cell 5
  have f0 := h.free 0
  have f1 := h.free 1
  have f2 := h.free 2
  have f3 := h.free 3
  have f4 := h.free 4
  have f5 := h.free 5
  have H := Lib.hid h
  clear h
  have CA := Lib.hid (radd_any stamp 10000000000 hst (by omega))
  have y0 : ((best : Int) == 0) = false := by rw [beq_eq_false_iff_ne]; omega
  have yl : decide (rtt ≤ best) = false := by simpa using hl
  have yx : decide (satAdd stamp 10000000000 < now) = false := by simpa using hx
  have hE : rexpF ⟨best, stamp, false, waits, round, done⟩ now = false := by simp [rexpF]; omega
  have hS : rsetF ⟨best, stamp, false, waits, round, done⟩ now rtt = false := by unfold rsetF; rw [hE]; simp; omega
  have hu : rupF ⟨best, stamp, false, waits, round, done⟩ now rtt start flight floor = (false, false, ⟨best, stamp, false, waits, round, done⟩) := by simp [rupF, rs1F, hE, hS]
  rw [hu]
  clear hE hS hu
  clear hl
  generalize satAdd stamp 10000000000 = X at *
  clear hx
  go_enter Try.func30, Try.ntmps30
  go_wp2_with fail
  refine (CA.out _).mono ?_; rintro e w' ⟨rfl, rfl⟩
  go_wp2
  go_ret2
  exact ⟨rfl, (Put.same H.out)⟩

set_option maxHeartbeats 400000 in
theorem rup_n_rgt_wle (b best stamp done now rtt : Nat) (waits round start : Bool) (flight floor : Nat) (hst : stamp < 18446744073709551616) (hn : now < 18446744073709551616) (hb : 0 < best) (hx : ¬ satAdd stamp 10000000000 < now) (hr : 0 < rtt) (hl : ¬ rtt ≤ best) (hf : flight ≤ floor) (w : World) (h : At w b 44 (rprb ⟨best, stamp, true, false, round, done⟩)) :
    Calls Try.prog 30 #[.pointer (some ⟨b, 0, none⟩), .int .u64 now, .int .u64 rtt, .bool start, .int .u64 flight, .int .u64 floor] w
      fun e w' => e = .returned (.tuple #[.bool (rupF ⟨best, stamp, true, false, round, done⟩ now rtt start flight floor).1, .bool (rupF ⟨best, stamp, true, false, round, done⟩ now rtt start flight floor).2.1]) ∧ Put w w' b 44 (rprb (rupF ⟨best, stamp, true, false, round, done⟩ now rtt start flight floor).2.2) := by
  have h0 : w.cell? ⟨b, 0, none⟩ = some (.int .u64 best) := h.cell 0
  have h1 : w.cell? ⟨b, 1, none⟩ = some (.int .u64 stamp) := h.cell 1
  have h2 : w.cell? ⟨b, 2, none⟩ = some (.bool true) := h.cell 2
  have h3 : w.cell? ⟨b, 3, none⟩ = some (.bool false) := h.cell 3
  have h4 : w.cell? ⟨b, 4, none⟩ = some (.bool round) := h.cell 4
  have h5 : w.cell? ⟨b, 5, none⟩ = some (.int .u64 done) := h.cell 5
  have f0 := h.free 0
  have f1 := h.free 1
  have f2 := h.free 2
  have f3 := h.free 3
  have f4 := h.free 4
  have f5 := h.free 5
  have H := Lib.hid h
  clear h
  have CA := Lib.hid (radd_any stamp 10000000000 hst (by omega))
  have y0 : ((best : Int) == 0) = false := by rw [beq_eq_false_iff_ne]; omega
  have yl : decide (rtt ≤ best) = false := by simpa using hl
  have yx : decide (satAdd stamp 10000000000 < now) = false := by simpa using hx
  have hE : rexpF ⟨best, stamp, true, false, round, done⟩ now = false := by simp [rexpF]; omega
  have hS : rsetF ⟨best, stamp, true, false, round, done⟩ now rtt = false := by unfold rsetF; rw [hE]; simp; omega
  have hu : rupF ⟨best, stamp, true, false, round, done⟩ now rtt start flight floor = (false, false, ⟨best, stamp, true, true, false, satAdd now 200000000⟩) := by simp [rupF, rs1F, hE, hS, hf]
  rw [hu]
  clear hE hS hu
  clear hl
  generalize satAdd stamp 10000000000 = X at *
  clear hx
  have CB := Lib.hid (radd_any now 200000000 hn (by omega))
  generalize satAdd now 200000000 = Y at *
  go_enter Try.func30, Try.ntmps30
  go_wp2_with fail
  refine (CA.out _).mono ?_; rintro e w' ⟨rfl, rfl⟩
  go_wp2_with fail
  refine (CB.out _).mono ?_; rintro e w' ⟨rfl, rfl⟩
  go_wp2
  go_ret2
  exact ⟨rfl, ((((Put.same H.out).then_ (Put.set H.out 3)).then_ (Put.set (H.out.set 3) 4)).then_ (Put.set ((H.out.set 3).set 4) 5))⟩

set_option maxHeartbeats 400000 in
theorem rup_n_rgt_wgt (b best stamp done now rtt : Nat) (waits round start : Bool) (flight floor : Nat) (hst : stamp < 18446744073709551616) (hn : now < 18446744073709551616) (hb : 0 < best) (hx : ¬ satAdd stamp 10000000000 < now) (hr : 0 < rtt) (hl : ¬ rtt ≤ best) (hf : ¬ flight ≤ floor) (w : World) (h : At w b 44 (rprb ⟨best, stamp, true, false, round, done⟩)) :
    Calls Try.prog 30 #[.pointer (some ⟨b, 0, none⟩), .int .u64 now, .int .u64 rtt, .bool start, .int .u64 flight, .int .u64 floor] w
      fun e w' => e = .returned (.tuple #[.bool (rupF ⟨best, stamp, true, false, round, done⟩ now rtt start flight floor).1, .bool (rupF ⟨best, stamp, true, false, round, done⟩ now rtt start flight floor).2.1]) ∧ Put w w' b 44 (rprb (rupF ⟨best, stamp, true, false, round, done⟩ now rtt start flight floor).2.2) := by
  have h0 : w.cell? ⟨b, 0, none⟩ = some (.int .u64 best) := h.cell 0
  have h1 : w.cell? ⟨b, 1, none⟩ = some (.int .u64 stamp) := h.cell 1
  have h2 : w.cell? ⟨b, 2, none⟩ = some (.bool true) := h.cell 2
  have h3 : w.cell? ⟨b, 3, none⟩ = some (.bool false) := h.cell 3
  have h4 : w.cell? ⟨b, 4, none⟩ = some (.bool round) := h.cell 4
  have h5 : w.cell? ⟨b, 5, none⟩ = some (.int .u64 done) := h.cell 5
  have f0 := h.free 0
  have f1 := h.free 1
  have f2 := h.free 2
  have f3 := h.free 3
  have f4 := h.free 4
  have f5 := h.free 5
  have H := Lib.hid h
  clear h
  have CA := Lib.hid (radd_any stamp 10000000000 hst (by omega))
  have y0 : ((best : Int) == 0) = false := by rw [beq_eq_false_iff_ne]; omega
  have yl : decide (rtt ≤ best) = false := by simpa using hl
  have yx : decide (satAdd stamp 10000000000 < now) = false := by simpa using hx
  have hE : rexpF ⟨best, stamp, true, false, round, done⟩ now = false := by simp [rexpF]; omega
  have hS : rsetF ⟨best, stamp, true, false, round, done⟩ now rtt = false := by unfold rsetF; rw [hE]; simp; omega
  have hu : rupF ⟨best, stamp, true, false, round, done⟩ now rtt start flight floor = (false, false, ⟨best, stamp, true, false, round, done⟩) := by simp [rupF, rs1F, hE, hS, hf]
  rw [hu]
  clear hE hS hu
  clear hl
  generalize satAdd stamp 10000000000 = X at *
  clear hx
  go_enter Try.func30, Try.ntmps30
  go_wp2_with fail
  refine (CA.out _).mono ?_; rintro e w' ⟨rfl, rfl⟩
  go_wp2
  go_ret2
  exact ⟨rfl, (Put.same H.out)⟩

set_option maxHeartbeats 400000 in
theorem rup_n_rgt_late (b best stamp done now rtt : Nat) (waits round start : Bool) (flight floor : Nat) (hst : stamp < 18446744073709551616) (hn : now < 18446744073709551616) (hb : 0 < best) (hx : ¬ satAdd stamp 10000000000 < now) (hr : 0 < rtt) (hl : ¬ rtt ≤ best) (hd : done < now) (hrs : (round || start) = true) (w : World) (h : At w b 44 (rprb ⟨best, stamp, true, true, round, done⟩)) :
    Calls Try.prog 30 #[.pointer (some ⟨b, 0, none⟩), .int .u64 now, .int .u64 rtt, .bool start, .int .u64 flight, .int .u64 floor] w
      fun e w' => e = .returned (.tuple #[.bool (rupF ⟨best, stamp, true, true, round, done⟩ now rtt start flight floor).1, .bool (rupF ⟨best, stamp, true, true, round, done⟩ now rtt start flight floor).2.1]) ∧ Put w w' b 44 (rprb (rupF ⟨best, stamp, true, true, round, done⟩ now rtt start flight floor).2.2) := by
  have h0 : w.cell? ⟨b, 0, none⟩ = some (.int .u64 best) := h.cell 0
  have h1 : w.cell? ⟨b, 1, none⟩ = some (.int .u64 stamp) := h.cell 1
  have h2 : w.cell? ⟨b, 2, none⟩ = some (.bool true) := h.cell 2
  have h3 : w.cell? ⟨b, 3, none⟩ = some (.bool true) := h.cell 3
  have h4 : w.cell? ⟨b, 4, none⟩ = some (.bool round) := h.cell 4
  have h5 : w.cell? ⟨b, 5, none⟩ = some (.int .u64 done) := h.cell 5
  have f0 := h.free 0
  have f1 := h.free 1
  have f2 := h.free 2
  have f3 := h.free 3
  have f4 := h.free 4
  have f5 := h.free 5
  have H := Lib.hid h
  clear h
  have CA := Lib.hid (radd_any stamp 10000000000 hst (by omega))
  have y0 : ((best : Int) == 0) = false := by rw [beq_eq_false_iff_ne]; omega
  have yl : decide (rtt ≤ best) = false := by simpa using hl
  have yx : decide (satAdd stamp 10000000000 < now) = false := by simpa using hx
  have hE : rexpF ⟨best, stamp, true, true, round, done⟩ now = false := by simp [rexpF]; omega
  have hS : rsetF ⟨best, stamp, true, true, round, done⟩ now rtt = false := by unfold rsetF; rw [hE]; simp; omega
  have hu : rupF ⟨best, stamp, true, true, round, done⟩ now rtt start flight floor = (false, true, ⟨best, now, false, false, true, done⟩) := by simp only [rupF, rs1F, hE, hS, hrs, decide_eq_true hd]; simp
  rw [hu]
  clear hE hS hu
  clear hl
  generalize satAdd stamp 10000000000 = X at *
  clear hx
  have hc : round = true ∨ round = false ∧ start = true := by cases round <;> simp_all
  clear hrs
  rcases hc with rfl | ⟨rfl, rfl⟩
  all_goals
    go_enter Try.func30, Try.ntmps30
    go_wp2_with fail
    refine (CA.out _).mono ?_; rintro e w' ⟨rfl, rfl⟩
    go_wp2
    go_ret2
    exact ⟨rfl, (((((Put.same H.out).then_ (Put.set H.out 4)).then_ (Put.set (H.out.set 4) 1)).then_ (Put.set ((H.out.set 4).set 1) 2)).then_ (Put.set (((H.out.set 4).set 1).set 2) 3))⟩

set_option maxHeartbeats 400000 in
theorem rup_n_rgt_stay (b best stamp done now rtt : Nat) (waits round start : Bool) (flight floor : Nat) (hst : stamp < 18446744073709551616) (hn : now < 18446744073709551616) (hb : 0 < best) (hx : ¬ satAdd stamp 10000000000 < now) (hr : 0 < rtt) (hl : ¬ rtt ≤ best) (hd : ¬ (done < now ∧ (round || start) = true)) (w : World) (h : At w b 44 (rprb ⟨best, stamp, true, true, round, done⟩)) :
    Calls Try.prog 30 #[.pointer (some ⟨b, 0, none⟩), .int .u64 now, .int .u64 rtt, .bool start, .int .u64 flight, .int .u64 floor] w
      fun e w' => e = .returned (.tuple #[.bool (rupF ⟨best, stamp, true, true, round, done⟩ now rtt start flight floor).1, .bool (rupF ⟨best, stamp, true, true, round, done⟩ now rtt start flight floor).2.1]) ∧ Put w w' b 44 (rprb (rupF ⟨best, stamp, true, true, round, done⟩ now rtt start flight floor).2.2) := by
  have h0 : w.cell? ⟨b, 0, none⟩ = some (.int .u64 best) := h.cell 0
  have h1 : w.cell? ⟨b, 1, none⟩ = some (.int .u64 stamp) := h.cell 1
  have h2 : w.cell? ⟨b, 2, none⟩ = some (.bool true) := h.cell 2
  have h3 : w.cell? ⟨b, 3, none⟩ = some (.bool true) := h.cell 3
  have h4 : w.cell? ⟨b, 4, none⟩ = some (.bool round) := h.cell 4
  have h5 : w.cell? ⟨b, 5, none⟩ = some (.int .u64 done) := h.cell 5
  have f0 := h.free 0
  have f1 := h.free 1
  have f2 := h.free 2
  have f3 := h.free 3
  have f4 := h.free 4
  have f5 := h.free 5
  have H := Lib.hid h
  clear h
  have CA := Lib.hid (radd_any stamp 10000000000 hst (by omega))
  have y0 : ((best : Int) == 0) = false := by rw [beq_eq_false_iff_ne]; omega
  have yl : decide (rtt ≤ best) = false := by simpa using hl
  have yx : decide (satAdd stamp 10000000000 < now) = false := by simpa using hx
  have hE : rexpF ⟨best, stamp, true, true, round, done⟩ now = false := by simp [rexpF]; omega
  have hS : rsetF ⟨best, stamp, true, true, round, done⟩ now rtt = false := by unfold rsetF; rw [hE]; simp; omega
  have hd' : (decide (done < now) && (round || start)) = false := by rw [← Bool.not_eq_true]; simpa using hd
  have hu : rupF ⟨best, stamp, true, true, round, done⟩ now rtt start flight floor = (false, false, ⟨best, stamp, true, true, round || start, done⟩) := by simp only [rupF, rs1F, hE, hS, hd']; simp
  rw [hu]
  clear hE hS hu
  clear hl
  generalize satAdd stamp 10000000000 = X at *
  clear hx
  clear hd'
  have hc : (round || start) = false ∨ (round || start) = true ∧ now ≤ done := by cases hq : (round || start) <;> simp_all
  clear hd
  have hc2 : (round = false ∧ start = false) ∨ (round = true ∧ now ≤ done) ∨ (round = false ∧ start = true ∧ now ≤ done) := by cases round <;> cases start <;> simp_all
  clear hc
  rcases hc2 with ⟨rfl, rfl⟩ | ⟨rfl, hd⟩ | ⟨rfl, rfl, hd⟩
  all_goals
    go_enter Try.func30, Try.ntmps30
    go_wp2_with fail
    refine (CA.out _).mono ?_; rintro e w' ⟨rfl, rfl⟩
    go_wp2
    go_ret2
    exact ⟨rfl, ((Put.same H.out).then_ (Put.set H.out 4))⟩

set_option maxHeartbeats 400000 in
theorem rup_x_r0_false (b best stamp done now rtt : Nat) (waits round start : Bool) (flight floor : Nat) (hst : stamp < 18446744073709551616) (hn : now < 18446744073709551616) (hb : 0 < best) (hx : satAdd stamp 10000000000 < now) (hr : rtt = 0)  (w : World) (h : At w b 44 (rprb ⟨best, stamp, false, waits, round, done⟩)) :
    Calls Try.prog 30 #[.pointer (some ⟨b, 0, none⟩), .int .u64 now, .int .u64 rtt, .bool start, .int .u64 flight, .int .u64 floor] w
      fun e w' => e = .returned (.tuple #[.bool (rupF ⟨best, stamp, false, waits, round, done⟩ now rtt start flight floor).1, .bool (rupF ⟨best, stamp, false, waits, round, done⟩ now rtt start flight floor).2.1]) ∧ Put w w' b 44 (rprb (rupF ⟨best, stamp, false, waits, round, done⟩ now rtt start flight floor).2.2) := by
  have h0 : w.cell? ⟨b, 0, none⟩ = some (.int .u64 best) := h.cell 0
  have h1 : w.cell? ⟨b, 1, none⟩ = some (.int .u64 stamp) := h.cell 1
  have h2 : w.cell? ⟨b, 2, none⟩ = some (.bool false) := h.cell 2
  have h3 : w.cell? ⟨b, 3, none⟩ = some (.bool waits) := h.cell 3
  have h4 : w.cell? ⟨b, 4, none⟩ = some (.bool round) := h.cell 4
  have h5 : w.cell? ⟨b, 5, none⟩ = some (.int .u64 done) := h.cell 5
  have f0 := h.free 0
  have f1 := h.free 1
  have f2 := h.free 2
  have f3 := h.free 3
  have f4 := h.free 4
  have f5 := h.free 5
  have H := Lib.hid h
  clear h
  have CA := Lib.hid (radd_any stamp 10000000000 hst (by omega))
  have y0 : ((best : Int) == 0) = false := by rw [beq_eq_false_iff_ne]; omega
  subst hr
  have yx : decide (satAdd stamp 10000000000 < now) = true := by simpa using hx
  have hE : rexpF ⟨best, stamp, false, waits, round, done⟩ now = true := by simp [rexpF]; omega
  have hS : rsetF ⟨best, stamp, false, waits, round, done⟩ now 0 = false := by unfold rsetF; rw [hE]; simp
  have hu : rupF ⟨best, stamp, false, waits, round, done⟩ now 0 start flight floor = (true, false, ⟨best, stamp, true, false, false, done⟩) := by simp [rupF, rs1F, hE, hS]
  rw [hu]
  clear hE hS hu
  generalize satAdd stamp 10000000000 = X at *
  clear hx
  go_enter Try.func30, Try.ntmps30
  go_wp2_with fail
  refine (CA.out _).mono ?_; rintro e w' ⟨rfl, rfl⟩
  go_wp2
  go_ret2
  exact ⟨rfl, ((((Put.same H.out).then_ (Put.set H.out 2)).then_ (Put.set (H.out.set 2) 3)).then_ (Put.set ((H.out.set 2).set 3) 4))⟩

set_option maxHeartbeats 400000 in
theorem rup_x_r0_wle (b best stamp done now rtt : Nat) (waits round start : Bool) (flight floor : Nat) (hst : stamp < 18446744073709551616) (hn : now < 18446744073709551616) (hb : 0 < best) (hx : satAdd stamp 10000000000 < now) (hr : rtt = 0) (hf : flight ≤ floor) (w : World) (h : At w b 44 (rprb ⟨best, stamp, true, false, round, done⟩)) :
    Calls Try.prog 30 #[.pointer (some ⟨b, 0, none⟩), .int .u64 now, .int .u64 rtt, .bool start, .int .u64 flight, .int .u64 floor] w
      fun e w' => e = .returned (.tuple #[.bool (rupF ⟨best, stamp, true, false, round, done⟩ now rtt start flight floor).1, .bool (rupF ⟨best, stamp, true, false, round, done⟩ now rtt start flight floor).2.1]) ∧ Put w w' b 44 (rprb (rupF ⟨best, stamp, true, false, round, done⟩ now rtt start flight floor).2.2) := by
  have h0 : w.cell? ⟨b, 0, none⟩ = some (.int .u64 best) := h.cell 0
  have h1 : w.cell? ⟨b, 1, none⟩ = some (.int .u64 stamp) := h.cell 1
  have h2 : w.cell? ⟨b, 2, none⟩ = some (.bool true) := h.cell 2
  have h3 : w.cell? ⟨b, 3, none⟩ = some (.bool false) := h.cell 3
  have h4 : w.cell? ⟨b, 4, none⟩ = some (.bool round) := h.cell 4
  have h5 : w.cell? ⟨b, 5, none⟩ = some (.int .u64 done) := h.cell 5
  have f0 := h.free 0
  have f1 := h.free 1
  have f2 := h.free 2
  have f3 := h.free 3
  have f4 := h.free 4
  have f5 := h.free 5
  have H := Lib.hid h
  clear h
  have CA := Lib.hid (radd_any stamp 10000000000 hst (by omega))
  have y0 : ((best : Int) == 0) = false := by rw [beq_eq_false_iff_ne]; omega
  subst hr
  have yx : decide (satAdd stamp 10000000000 < now) = true := by simpa using hx
  have hE : rexpF ⟨best, stamp, true, false, round, done⟩ now = true := by simp [rexpF]; omega
  have hS : rsetF ⟨best, stamp, true, false, round, done⟩ now 0 = false := by unfold rsetF; rw [hE]; simp
  have hu : rupF ⟨best, stamp, true, false, round, done⟩ now 0 start flight floor = (false, false, ⟨best, stamp, true, true, false, satAdd now 200000000⟩) := by simp [rupF, rs1F, hE, hS, hf]
  rw [hu]
  clear hE hS hu
  generalize satAdd stamp 10000000000 = X at *
  clear hx
  have CB := Lib.hid (radd_any now 200000000 hn (by omega))
  generalize satAdd now 200000000 = Y at *
  go_enter Try.func30, Try.ntmps30
  go_wp2_with fail
  refine (CA.out _).mono ?_; rintro e w' ⟨rfl, rfl⟩
  go_wp2_with fail
  refine (CB.out _).mono ?_; rintro e w' ⟨rfl, rfl⟩
  go_wp2
  go_ret2
  exact ⟨rfl, ((((Put.same H.out).then_ (Put.set H.out 3)).then_ (Put.set (H.out.set 3) 4)).then_ (Put.set ((H.out.set 3).set 4) 5))⟩

set_option maxHeartbeats 400000 in
theorem rup_x_r0_wgt (b best stamp done now rtt : Nat) (waits round start : Bool) (flight floor : Nat) (hst : stamp < 18446744073709551616) (hn : now < 18446744073709551616) (hb : 0 < best) (hx : satAdd stamp 10000000000 < now) (hr : rtt = 0) (hf : ¬ flight ≤ floor) (w : World) (h : At w b 44 (rprb ⟨best, stamp, true, false, round, done⟩)) :
    Calls Try.prog 30 #[.pointer (some ⟨b, 0, none⟩), .int .u64 now, .int .u64 rtt, .bool start, .int .u64 flight, .int .u64 floor] w
      fun e w' => e = .returned (.tuple #[.bool (rupF ⟨best, stamp, true, false, round, done⟩ now rtt start flight floor).1, .bool (rupF ⟨best, stamp, true, false, round, done⟩ now rtt start flight floor).2.1]) ∧ Put w w' b 44 (rprb (rupF ⟨best, stamp, true, false, round, done⟩ now rtt start flight floor).2.2) := by
  have h0 : w.cell? ⟨b, 0, none⟩ = some (.int .u64 best) := h.cell 0
  have h1 : w.cell? ⟨b, 1, none⟩ = some (.int .u64 stamp) := h.cell 1
  have h2 : w.cell? ⟨b, 2, none⟩ = some (.bool true) := h.cell 2
  have h3 : w.cell? ⟨b, 3, none⟩ = some (.bool false) := h.cell 3
  have h4 : w.cell? ⟨b, 4, none⟩ = some (.bool round) := h.cell 4
  have h5 : w.cell? ⟨b, 5, none⟩ = some (.int .u64 done) := h.cell 5
  have f0 := h.free 0
  have f1 := h.free 1
  have f2 := h.free 2
  have f3 := h.free 3
  have f4 := h.free 4
  have f5 := h.free 5
  have H := Lib.hid h
  clear h
  have CA := Lib.hid (radd_any stamp 10000000000 hst (by omega))
  have y0 : ((best : Int) == 0) = false := by rw [beq_eq_false_iff_ne]; omega
  subst hr
  have yx : decide (satAdd stamp 10000000000 < now) = true := by simpa using hx
  have hE : rexpF ⟨best, stamp, true, false, round, done⟩ now = true := by simp [rexpF]; omega
  have hS : rsetF ⟨best, stamp, true, false, round, done⟩ now 0 = false := by unfold rsetF; rw [hE]; simp
  have hu : rupF ⟨best, stamp, true, false, round, done⟩ now 0 start flight floor = (false, false, ⟨best, stamp, true, false, round, done⟩) := by simp [rupF, rs1F, hE, hS, hf]
  rw [hu]
  clear hE hS hu
  generalize satAdd stamp 10000000000 = X at *
  clear hx
  go_enter Try.func30, Try.ntmps30
  go_wp2_with fail
  refine (CA.out _).mono ?_; rintro e w' ⟨rfl, rfl⟩
  go_wp2
  go_ret2
  exact ⟨rfl, (Put.same H.out)⟩

set_option maxHeartbeats 400000 in
theorem rup_x_r0_late (b best stamp done now rtt : Nat) (waits round start : Bool) (flight floor : Nat) (hst : stamp < 18446744073709551616) (hn : now < 18446744073709551616) (hb : 0 < best) (hx : satAdd stamp 10000000000 < now) (hr : rtt = 0) (hd : done < now) (hrs : (round || start) = true) (w : World) (h : At w b 44 (rprb ⟨best, stamp, true, true, round, done⟩)) :
    Calls Try.prog 30 #[.pointer (some ⟨b, 0, none⟩), .int .u64 now, .int .u64 rtt, .bool start, .int .u64 flight, .int .u64 floor] w
      fun e w' => e = .returned (.tuple #[.bool (rupF ⟨best, stamp, true, true, round, done⟩ now rtt start flight floor).1, .bool (rupF ⟨best, stamp, true, true, round, done⟩ now rtt start flight floor).2.1]) ∧ Put w w' b 44 (rprb (rupF ⟨best, stamp, true, true, round, done⟩ now rtt start flight floor).2.2) := by
  have h0 : w.cell? ⟨b, 0, none⟩ = some (.int .u64 best) := h.cell 0
  have h1 : w.cell? ⟨b, 1, none⟩ = some (.int .u64 stamp) := h.cell 1
  have h2 : w.cell? ⟨b, 2, none⟩ = some (.bool true) := h.cell 2
  have h3 : w.cell? ⟨b, 3, none⟩ = some (.bool true) := h.cell 3
  have h4 : w.cell? ⟨b, 4, none⟩ = some (.bool round) := h.cell 4
  have h5 : w.cell? ⟨b, 5, none⟩ = some (.int .u64 done) := h.cell 5
  have f0 := h.free 0
  have f1 := h.free 1
  have f2 := h.free 2
  have f3 := h.free 3
  have f4 := h.free 4
  have f5 := h.free 5
  have H := Lib.hid h
  clear h
  have CA := Lib.hid (radd_any stamp 10000000000 hst (by omega))
  have y0 : ((best : Int) == 0) = false := by rw [beq_eq_false_iff_ne]; omega
  subst hr
  have yx : decide (satAdd stamp 10000000000 < now) = true := by simpa using hx
  have hE : rexpF ⟨best, stamp, true, true, round, done⟩ now = true := by simp [rexpF]; omega
  have hS : rsetF ⟨best, stamp, true, true, round, done⟩ now 0 = false := by unfold rsetF; rw [hE]; simp
  have hu : rupF ⟨best, stamp, true, true, round, done⟩ now 0 start flight floor = (false, true, ⟨best, now, false, false, true, done⟩) := by simp only [rupF, rs1F, hE, hS, hrs, decide_eq_true hd]; simp
  rw [hu]
  clear hE hS hu
  generalize satAdd stamp 10000000000 = X at *
  clear hx
  have hc : round = true ∨ round = false ∧ start = true := by cases round <;> simp_all
  clear hrs
  rcases hc with rfl | ⟨rfl, rfl⟩
  all_goals
    go_enter Try.func30, Try.ntmps30
    go_wp2_with fail
    refine (CA.out _).mono ?_; rintro e w' ⟨rfl, rfl⟩
    go_wp2
    go_ret2
    exact ⟨rfl, (((((Put.same H.out).then_ (Put.set H.out 4)).then_ (Put.set (H.out.set 4) 1)).then_ (Put.set ((H.out.set 4).set 1) 2)).then_ (Put.set (((H.out.set 4).set 1).set 2) 3))⟩

set_option maxHeartbeats 400000 in
theorem rup_x_r0_stay (b best stamp done now rtt : Nat) (waits round start : Bool) (flight floor : Nat) (hst : stamp < 18446744073709551616) (hn : now < 18446744073709551616) (hb : 0 < best) (hx : satAdd stamp 10000000000 < now) (hr : rtt = 0) (hd : ¬ (done < now ∧ (round || start) = true)) (w : World) (h : At w b 44 (rprb ⟨best, stamp, true, true, round, done⟩)) :
    Calls Try.prog 30 #[.pointer (some ⟨b, 0, none⟩), .int .u64 now, .int .u64 rtt, .bool start, .int .u64 flight, .int .u64 floor] w
      fun e w' => e = .returned (.tuple #[.bool (rupF ⟨best, stamp, true, true, round, done⟩ now rtt start flight floor).1, .bool (rupF ⟨best, stamp, true, true, round, done⟩ now rtt start flight floor).2.1]) ∧ Put w w' b 44 (rprb (rupF ⟨best, stamp, true, true, round, done⟩ now rtt start flight floor).2.2) := by
  have h0 : w.cell? ⟨b, 0, none⟩ = some (.int .u64 best) := h.cell 0
  have h1 : w.cell? ⟨b, 1, none⟩ = some (.int .u64 stamp) := h.cell 1
  have h2 : w.cell? ⟨b, 2, none⟩ = some (.bool true) := h.cell 2
  have h3 : w.cell? ⟨b, 3, none⟩ = some (.bool true) := h.cell 3
  have h4 : w.cell? ⟨b, 4, none⟩ = some (.bool round) := h.cell 4
  have h5 : w.cell? ⟨b, 5, none⟩ = some (.int .u64 done) := h.cell 5
  have f0 := h.free 0
  have f1 := h.free 1
  have f2 := h.free 2
  have f3 := h.free 3
  have f4 := h.free 4
  have f5 := h.free 5
  have H := Lib.hid h
  clear h
  have CA := Lib.hid (radd_any stamp 10000000000 hst (by omega))
  have y0 : ((best : Int) == 0) = false := by rw [beq_eq_false_iff_ne]; omega
  subst hr
  have yx : decide (satAdd stamp 10000000000 < now) = true := by simpa using hx
  have hE : rexpF ⟨best, stamp, true, true, round, done⟩ now = true := by simp [rexpF]; omega
  have hS : rsetF ⟨best, stamp, true, true, round, done⟩ now 0 = false := by unfold rsetF; rw [hE]; simp
  have hd' : (decide (done < now) && (round || start)) = false := by rw [← Bool.not_eq_true]; simpa using hd
  have hu : rupF ⟨best, stamp, true, true, round, done⟩ now 0 start flight floor = (false, false, ⟨best, stamp, true, true, round || start, done⟩) := by simp only [rupF, rs1F, hE, hS, hd']; simp
  rw [hu]
  clear hE hS hu
  generalize satAdd stamp 10000000000 = X at *
  clear hx
  clear hd'
  have hc : (round || start) = false ∨ (round || start) = true ∧ now ≤ done := by cases hq : (round || start) <;> simp_all
  clear hd
  have hc2 : (round = false ∧ start = false) ∨ (round = true ∧ now ≤ done) ∨ (round = false ∧ start = true ∧ now ≤ done) := by cases round <;> cases start <;> simp_all
  clear hc
  rcases hc2 with ⟨rfl, rfl⟩ | ⟨rfl, hd⟩ | ⟨rfl, rfl, hd⟩
  all_goals
    go_enter Try.func30, Try.ntmps30
    go_wp2_with fail
    refine (CA.out _).mono ?_; rintro e w' ⟨rfl, rfl⟩
    go_wp2
    go_ret2
    exact ⟨rfl, ((Put.same H.out).then_ (Put.set H.out 4))⟩

set_option maxHeartbeats 400000 in
theorem rup_x_rle_false (b best stamp done now rtt : Nat) (waits round start : Bool) (flight floor : Nat) (hst : stamp < 18446744073709551616) (hn : now < 18446744073709551616) (hb : 0 < best) (hx : satAdd stamp 10000000000 < now) (hr : 0 < rtt) (hl : rtt ≤ best)  (w : World) (h : At w b 44 (rprb ⟨best, stamp, false, waits, round, done⟩)) :
    Calls Try.prog 30 #[.pointer (some ⟨b, 0, none⟩), .int .u64 now, .int .u64 rtt, .bool start, .int .u64 flight, .int .u64 floor] w
      fun e w' => e = .returned (.tuple #[.bool (rupF ⟨best, stamp, false, waits, round, done⟩ now rtt start flight floor).1, .bool (rupF ⟨best, stamp, false, waits, round, done⟩ now rtt start flight floor).2.1]) ∧ Put w w' b 44 (rprb (rupF ⟨best, stamp, false, waits, round, done⟩ now rtt start flight floor).2.2) := by
  have h0 : w.cell? ⟨b, 0, none⟩ = some (.int .u64 best) := h.cell 0
  have h1 : w.cell? ⟨b, 1, none⟩ = some (.int .u64 stamp) := h.cell 1
  have h2 : w.cell? ⟨b, 2, none⟩ = some (.bool false) := h.cell 2
  have h3 : w.cell? ⟨b, 3, none⟩ = some (.bool waits) := h.cell 3
  have h4 : w.cell? ⟨b, 4, none⟩ = some (.bool round) := h.cell 4
  have h5 : w.cell? ⟨b, 5, none⟩ = some (.int .u64 done) := h.cell 5
  have f0 := h.free 0
  have f1 := h.free 1
  have f2 := h.free 2
  have f3 := h.free 3
  have f4 := h.free 4
  have f5 := h.free 5
  have H := Lib.hid h
  clear h
  have CA := Lib.hid (radd_any stamp 10000000000 hst (by omega))
  have y0 : ((best : Int) == 0) = false := by rw [beq_eq_false_iff_ne]; omega
  have yl : decide (rtt ≤ best) = true := by simpa using hl
  have yx : decide (satAdd stamp 10000000000 < now) = true := by simpa using hx
  have hE : rexpF ⟨best, stamp, false, waits, round, done⟩ now = true := by simp [rexpF]; omega
  have hS : rsetF ⟨best, stamp, false, waits, round, done⟩ now rtt = true := by unfold rsetF; rw [hE]; simp; omega
  have hu : rupF ⟨best, stamp, false, waits, round, done⟩ now rtt start flight floor = (true, false, ⟨rtt, now, true, false, false, done⟩) := by simp [rupF, rs1F, hE, hS]
  rw [hu]
  clear hE hS hu
  clear hl
  generalize satAdd stamp 10000000000 = X at *
  clear hx
  go_enter Try.func30, Try.ntmps30
  go_wp2_with fail
  refine (CA.out _).mono ?_; rintro e w' ⟨rfl, rfl⟩
  go_wp2
  go_ret2
  exact ⟨rfl, (((((Put.set H.out 0).then_ (Put.set (H.out.set 0) 1)).then_ (Put.set ((H.out.set 0).set 1) 2)).then_ (Put.set (((H.out.set 0).set 1).set 2) 3)).then_ (Put.set ((((H.out.set 0).set 1).set 2).set 3) 4))⟩

set_option maxHeartbeats 400000 in
theorem rup_x_rle_wle (b best stamp done now rtt : Nat) (waits round start : Bool) (flight floor : Nat) (hst : stamp < 18446744073709551616) (hn : now < 18446744073709551616) (hb : 0 < best) (hx : satAdd stamp 10000000000 < now) (hr : 0 < rtt) (hl : rtt ≤ best) (hf : flight ≤ floor) (w : World) (h : At w b 44 (rprb ⟨best, stamp, true, false, round, done⟩)) :
    Calls Try.prog 30 #[.pointer (some ⟨b, 0, none⟩), .int .u64 now, .int .u64 rtt, .bool start, .int .u64 flight, .int .u64 floor] w
      fun e w' => e = .returned (.tuple #[.bool (rupF ⟨best, stamp, true, false, round, done⟩ now rtt start flight floor).1, .bool (rupF ⟨best, stamp, true, false, round, done⟩ now rtt start flight floor).2.1]) ∧ Put w w' b 44 (rprb (rupF ⟨best, stamp, true, false, round, done⟩ now rtt start flight floor).2.2) := by
  have h0 : w.cell? ⟨b, 0, none⟩ = some (.int .u64 best) := h.cell 0
  have h1 : w.cell? ⟨b, 1, none⟩ = some (.int .u64 stamp) := h.cell 1
  have h2 : w.cell? ⟨b, 2, none⟩ = some (.bool true) := h.cell 2
  have h3 : w.cell? ⟨b, 3, none⟩ = some (.bool false) := h.cell 3
  have h4 : w.cell? ⟨b, 4, none⟩ = some (.bool round) := h.cell 4
  have h5 : w.cell? ⟨b, 5, none⟩ = some (.int .u64 done) := h.cell 5
  have f0 := h.free 0
  have f1 := h.free 1
  have f2 := h.free 2
  have f3 := h.free 3
  have f4 := h.free 4
  have f5 := h.free 5
  have H := Lib.hid h
  clear h
  have CA := Lib.hid (radd_any stamp 10000000000 hst (by omega))
  have y0 : ((best : Int) == 0) = false := by rw [beq_eq_false_iff_ne]; omega
  have yl : decide (rtt ≤ best) = true := by simpa using hl
  have yx : decide (satAdd stamp 10000000000 < now) = true := by simpa using hx
  have hE : rexpF ⟨best, stamp, true, false, round, done⟩ now = true := by simp [rexpF]; omega
  have hS : rsetF ⟨best, stamp, true, false, round, done⟩ now rtt = true := by unfold rsetF; rw [hE]; simp; omega
  have hu : rupF ⟨best, stamp, true, false, round, done⟩ now rtt start flight floor = (false, false, ⟨rtt, now, true, true, false, satAdd now 200000000⟩) := by simp [rupF, rs1F, hE, hS, hf]
  rw [hu]
  clear hE hS hu
  clear hl
  generalize satAdd stamp 10000000000 = X at *
  clear hx
  have CB := Lib.hid (radd_any now 200000000 hn (by omega))
  generalize satAdd now 200000000 = Y at *
  go_enter Try.func30, Try.ntmps30
  go_wp2_with fail
  refine (CA.out _).mono ?_; rintro e w' ⟨rfl, rfl⟩
  go_wp2_with fail
  refine (CB.out _).mono ?_; rintro e w' ⟨rfl, rfl⟩
  go_wp2
  go_ret2
  exact ⟨rfl, (((((Put.set H.out 0).then_ (Put.set (H.out.set 0) 1)).then_ (Put.set ((H.out.set 0).set 1) 3)).then_ (Put.set (((H.out.set 0).set 1).set 3) 4)).then_ (Put.set ((((H.out.set 0).set 1).set 3).set 4) 5))⟩

set_option maxHeartbeats 400000 in
theorem rup_x_rle_wgt (b best stamp done now rtt : Nat) (waits round start : Bool) (flight floor : Nat) (hst : stamp < 18446744073709551616) (hn : now < 18446744073709551616) (hb : 0 < best) (hx : satAdd stamp 10000000000 < now) (hr : 0 < rtt) (hl : rtt ≤ best) (hf : ¬ flight ≤ floor) (w : World) (h : At w b 44 (rprb ⟨best, stamp, true, false, round, done⟩)) :
    Calls Try.prog 30 #[.pointer (some ⟨b, 0, none⟩), .int .u64 now, .int .u64 rtt, .bool start, .int .u64 flight, .int .u64 floor] w
      fun e w' => e = .returned (.tuple #[.bool (rupF ⟨best, stamp, true, false, round, done⟩ now rtt start flight floor).1, .bool (rupF ⟨best, stamp, true, false, round, done⟩ now rtt start flight floor).2.1]) ∧ Put w w' b 44 (rprb (rupF ⟨best, stamp, true, false, round, done⟩ now rtt start flight floor).2.2) := by
  have h0 : w.cell? ⟨b, 0, none⟩ = some (.int .u64 best) := h.cell 0
  have h1 : w.cell? ⟨b, 1, none⟩ = some (.int .u64 stamp) := h.cell 1
  have h2 : w.cell? ⟨b, 2, none⟩ = some (.bool true) := h.cell 2
  have h3 : w.cell? ⟨b, 3, none⟩ = some (.bool false) := h.cell 3
  have h4 : w.cell? ⟨b, 4, none⟩ = some (.bool round) := h.cell 4
  have h5 : w.cell? ⟨b, 5, none⟩ = some (.int .u64 done) := h.cell 5
  have f0 := h.free 0
  have f1 := h.free 1
  have f2 := h.free 2
  have f3 := h.free 3
  have f4 := h.free 4
  have f5 := h.free 5
  have H := Lib.hid h
  clear h
  have CA := Lib.hid (radd_any stamp 10000000000 hst (by omega))
  have y0 : ((best : Int) == 0) = false := by rw [beq_eq_false_iff_ne]; omega
  have yl : decide (rtt ≤ best) = true := by simpa using hl
  have yx : decide (satAdd stamp 10000000000 < now) = true := by simpa using hx
  have hE : rexpF ⟨best, stamp, true, false, round, done⟩ now = true := by simp [rexpF]; omega
  have hS : rsetF ⟨best, stamp, true, false, round, done⟩ now rtt = true := by unfold rsetF; rw [hE]; simp; omega
  have hu : rupF ⟨best, stamp, true, false, round, done⟩ now rtt start flight floor = (false, false, ⟨rtt, now, true, false, round, done⟩) := by simp [rupF, rs1F, hE, hS, hf]
  rw [hu]
  clear hE hS hu
  clear hl
  generalize satAdd stamp 10000000000 = X at *
  clear hx
  go_enter Try.func30, Try.ntmps30
  go_wp2_with fail
  refine (CA.out _).mono ?_; rintro e w' ⟨rfl, rfl⟩
  go_wp2
  go_ret2
  exact ⟨rfl, ((Put.set H.out 0).then_ (Put.set (H.out.set 0) 1))⟩

set_option maxHeartbeats 400000 in
theorem rup_x_rle_late (b best stamp done now rtt : Nat) (waits round start : Bool) (flight floor : Nat) (hst : stamp < 18446744073709551616) (hn : now < 18446744073709551616) (hb : 0 < best) (hx : satAdd stamp 10000000000 < now) (hr : 0 < rtt) (hl : rtt ≤ best) (hd : done < now) (hrs : (round || start) = true) (w : World) (h : At w b 44 (rprb ⟨best, stamp, true, true, round, done⟩)) :
    Calls Try.prog 30 #[.pointer (some ⟨b, 0, none⟩), .int .u64 now, .int .u64 rtt, .bool start, .int .u64 flight, .int .u64 floor] w
      fun e w' => e = .returned (.tuple #[.bool (rupF ⟨best, stamp, true, true, round, done⟩ now rtt start flight floor).1, .bool (rupF ⟨best, stamp, true, true, round, done⟩ now rtt start flight floor).2.1]) ∧ Put w w' b 44 (rprb (rupF ⟨best, stamp, true, true, round, done⟩ now rtt start flight floor).2.2) := by
  have h0 : w.cell? ⟨b, 0, none⟩ = some (.int .u64 best) := h.cell 0
  have h1 : w.cell? ⟨b, 1, none⟩ = some (.int .u64 stamp) := h.cell 1
  have h2 : w.cell? ⟨b, 2, none⟩ = some (.bool true) := h.cell 2
  have h3 : w.cell? ⟨b, 3, none⟩ = some (.bool true) := h.cell 3
  have h4 : w.cell? ⟨b, 4, none⟩ = some (.bool round) := h.cell 4
  have h5 : w.cell? ⟨b, 5, none⟩ = some (.int .u64 done) := h.cell 5
  have f0 := h.free 0
  have f1 := h.free 1
  have f2 := h.free 2
  have f3 := h.free 3
  have f4 := h.free 4
  have f5 := h.free 5
  have H := Lib.hid h
  clear h
  have CA := Lib.hid (radd_any stamp 10000000000 hst (by omega))
  have y0 : ((best : Int) == 0) = false := by rw [beq_eq_false_iff_ne]; omega
  have yl : decide (rtt ≤ best) = true := by simpa using hl
  have yx : decide (satAdd stamp 10000000000 < now) = true := by simpa using hx
  have hE : rexpF ⟨best, stamp, true, true, round, done⟩ now = true := by simp [rexpF]; omega
  have hS : rsetF ⟨best, stamp, true, true, round, done⟩ now rtt = true := by unfold rsetF; rw [hE]; simp; omega
  have hu : rupF ⟨best, stamp, true, true, round, done⟩ now rtt start flight floor = (false, true, ⟨rtt, now, false, false, true, done⟩) := by simp only [rupF, rs1F, hE, hS, hrs, decide_eq_true hd]; simp
  rw [hu]
  clear hE hS hu
  clear hl
  generalize satAdd stamp 10000000000 = X at *
  clear hx
  have hc : round = true ∨ round = false ∧ start = true := by cases round <;> simp_all
  clear hrs
  rcases hc with rfl | ⟨rfl, rfl⟩
  all_goals
    go_enter Try.func30, Try.ntmps30
    go_wp2_with fail
    refine (CA.out _).mono ?_; rintro e w' ⟨rfl, rfl⟩
    go_wp2
    go_ret2
    exact ⟨rfl, ((((((Put.set H.out 0).then_ (Put.set (H.out.set 0) 1)).then_ (Put.set ((H.out.set 0).set 1) 4)).then_ (Put.set (((H.out.set 0).set 1).set 4) 1)).then_ (Put.set ((((H.out.set 0).set 1).set 4).set 1) 2)).then_ (Put.set (((((H.out.set 0).set 1).set 4).set 1).set 2) 3))⟩

set_option maxHeartbeats 400000 in
theorem rup_x_rle_stay (b best stamp done now rtt : Nat) (waits round start : Bool) (flight floor : Nat) (hst : stamp < 18446744073709551616) (hn : now < 18446744073709551616) (hb : 0 < best) (hx : satAdd stamp 10000000000 < now) (hr : 0 < rtt) (hl : rtt ≤ best) (hd : ¬ (done < now ∧ (round || start) = true)) (w : World) (h : At w b 44 (rprb ⟨best, stamp, true, true, round, done⟩)) :
    Calls Try.prog 30 #[.pointer (some ⟨b, 0, none⟩), .int .u64 now, .int .u64 rtt, .bool start, .int .u64 flight, .int .u64 floor] w
      fun e w' => e = .returned (.tuple #[.bool (rupF ⟨best, stamp, true, true, round, done⟩ now rtt start flight floor).1, .bool (rupF ⟨best, stamp, true, true, round, done⟩ now rtt start flight floor).2.1]) ∧ Put w w' b 44 (rprb (rupF ⟨best, stamp, true, true, round, done⟩ now rtt start flight floor).2.2) := by
  have h0 : w.cell? ⟨b, 0, none⟩ = some (.int .u64 best) := h.cell 0
  have h1 : w.cell? ⟨b, 1, none⟩ = some (.int .u64 stamp) := h.cell 1
  have h2 : w.cell? ⟨b, 2, none⟩ = some (.bool true) := h.cell 2
  have h3 : w.cell? ⟨b, 3, none⟩ = some (.bool true) := h.cell 3
  have h4 : w.cell? ⟨b, 4, none⟩ = some (.bool round) := h.cell 4
  have h5 : w.cell? ⟨b, 5, none⟩ = some (.int .u64 done) := h.cell 5
  have f0 := h.free 0
  have f1 := h.free 1
  have f2 := h.free 2
  have f3 := h.free 3
  have f4 := h.free 4
  have f5 := h.free 5
  have H := Lib.hid h
  clear h
  have CA := Lib.hid (radd_any stamp 10000000000 hst (by omega))
  have y0 : ((best : Int) == 0) = false := by rw [beq_eq_false_iff_ne]; omega
  have yl : decide (rtt ≤ best) = true := by simpa using hl
  have yx : decide (satAdd stamp 10000000000 < now) = true := by simpa using hx
  have hE : rexpF ⟨best, stamp, true, true, round, done⟩ now = true := by simp [rexpF]; omega
  have hS : rsetF ⟨best, stamp, true, true, round, done⟩ now rtt = true := by unfold rsetF; rw [hE]; simp; omega
  have hd' : (decide (done < now) && (round || start)) = false := by rw [← Bool.not_eq_true]; simpa using hd
  have hu : rupF ⟨best, stamp, true, true, round, done⟩ now rtt start flight floor = (false, false, ⟨rtt, now, true, true, round || start, done⟩) := by simp only [rupF, rs1F, hE, hS, hd']; simp
  rw [hu]
  clear hE hS hu
  clear hl
  generalize satAdd stamp 10000000000 = X at *
  clear hx
  clear hd'
  have hc : (round || start) = false ∨ (round || start) = true ∧ now ≤ done := by cases hq : (round || start) <;> simp_all
  clear hd
  have hc2 : (round = false ∧ start = false) ∨ (round = true ∧ now ≤ done) ∨ (round = false ∧ start = true ∧ now ≤ done) := by cases round <;> cases start <;> simp_all
  clear hc
  rcases hc2 with ⟨rfl, rfl⟩ | ⟨rfl, hd⟩ | ⟨rfl, rfl, hd⟩
  all_goals
    go_enter Try.func30, Try.ntmps30
    go_wp2_with fail
    refine (CA.out _).mono ?_; rintro e w' ⟨rfl, rfl⟩
    go_wp2
    go_ret2
    exact ⟨rfl, (((Put.set H.out 0).then_ (Put.set (H.out.set 0) 1)).then_ (Put.set ((H.out.set 0).set 1) 4))⟩

set_option maxHeartbeats 400000 in
theorem rup_x_rgt_false (b best stamp done now rtt : Nat) (waits round start : Bool) (flight floor : Nat) (hst : stamp < 18446744073709551616) (hn : now < 18446744073709551616) (hb : 0 < best) (hx : satAdd stamp 10000000000 < now) (hr : 0 < rtt) (hl : ¬ rtt ≤ best)  (w : World) (h : At w b 44 (rprb ⟨best, stamp, false, waits, round, done⟩)) :
    Calls Try.prog 30 #[.pointer (some ⟨b, 0, none⟩), .int .u64 now, .int .u64 rtt, .bool start, .int .u64 flight, .int .u64 floor] w
      fun e w' => e = .returned (.tuple #[.bool (rupF ⟨best, stamp, false, waits, round, done⟩ now rtt start flight floor).1, .bool (rupF ⟨best, stamp, false, waits, round, done⟩ now rtt start flight floor).2.1]) ∧ Put w w' b 44 (rprb (rupF ⟨best, stamp, false, waits, round, done⟩ now rtt start flight floor).2.2) := by
  have h0 : w.cell? ⟨b, 0, none⟩ = some (.int .u64 best) := h.cell 0
  have h1 : w.cell? ⟨b, 1, none⟩ = some (.int .u64 stamp) := h.cell 1
  have h2 : w.cell? ⟨b, 2, none⟩ = some (.bool false) := h.cell 2
  have h3 : w.cell? ⟨b, 3, none⟩ = some (.bool waits) := h.cell 3
  have h4 : w.cell? ⟨b, 4, none⟩ = some (.bool round) := h.cell 4
  have h5 : w.cell? ⟨b, 5, none⟩ = some (.int .u64 done) := h.cell 5
  have f0 := h.free 0
  have f1 := h.free 1
  have f2 := h.free 2
  have f3 := h.free 3
  have f4 := h.free 4
  have f5 := h.free 5
  have H := Lib.hid h
  clear h
  have CA := Lib.hid (radd_any stamp 10000000000 hst (by omega))
  have y0 : ((best : Int) == 0) = false := by rw [beq_eq_false_iff_ne]; omega
  have yl : decide (rtt ≤ best) = false := by simpa using hl
  have yx : decide (satAdd stamp 10000000000 < now) = true := by simpa using hx
  have hE : rexpF ⟨best, stamp, false, waits, round, done⟩ now = true := by simp [rexpF]; omega
  have hS : rsetF ⟨best, stamp, false, waits, round, done⟩ now rtt = true := by unfold rsetF; rw [hE]; simp; omega
  have hu : rupF ⟨best, stamp, false, waits, round, done⟩ now rtt start flight floor = (true, false, ⟨rtt, now, true, false, false, done⟩) := by simp [rupF, rs1F, hE, hS]
  rw [hu]
  clear hE hS hu
  clear hl
  generalize satAdd stamp 10000000000 = X at *
  clear hx
  go_enter Try.func30, Try.ntmps30
  go_wp2_with fail
  refine (CA.out _).mono ?_; rintro e w' ⟨rfl, rfl⟩
  go_wp2
  go_ret2
  exact ⟨rfl, (((((Put.set H.out 0).then_ (Put.set (H.out.set 0) 1)).then_ (Put.set ((H.out.set 0).set 1) 2)).then_ (Put.set (((H.out.set 0).set 1).set 2) 3)).then_ (Put.set ((((H.out.set 0).set 1).set 2).set 3) 4))⟩

set_option maxHeartbeats 400000 in
theorem rup_x_rgt_wle (b best stamp done now rtt : Nat) (waits round start : Bool) (flight floor : Nat) (hst : stamp < 18446744073709551616) (hn : now < 18446744073709551616) (hb : 0 < best) (hx : satAdd stamp 10000000000 < now) (hr : 0 < rtt) (hl : ¬ rtt ≤ best) (hf : flight ≤ floor) (w : World) (h : At w b 44 (rprb ⟨best, stamp, true, false, round, done⟩)) :
    Calls Try.prog 30 #[.pointer (some ⟨b, 0, none⟩), .int .u64 now, .int .u64 rtt, .bool start, .int .u64 flight, .int .u64 floor] w
      fun e w' => e = .returned (.tuple #[.bool (rupF ⟨best, stamp, true, false, round, done⟩ now rtt start flight floor).1, .bool (rupF ⟨best, stamp, true, false, round, done⟩ now rtt start flight floor).2.1]) ∧ Put w w' b 44 (rprb (rupF ⟨best, stamp, true, false, round, done⟩ now rtt start flight floor).2.2) := by
  have h0 : w.cell? ⟨b, 0, none⟩ = some (.int .u64 best) := h.cell 0
  have h1 : w.cell? ⟨b, 1, none⟩ = some (.int .u64 stamp) := h.cell 1
  have h2 : w.cell? ⟨b, 2, none⟩ = some (.bool true) := h.cell 2
  have h3 : w.cell? ⟨b, 3, none⟩ = some (.bool false) := h.cell 3
  have h4 : w.cell? ⟨b, 4, none⟩ = some (.bool round) := h.cell 4
  have h5 : w.cell? ⟨b, 5, none⟩ = some (.int .u64 done) := h.cell 5
  have f0 := h.free 0
  have f1 := h.free 1
  have f2 := h.free 2
  have f3 := h.free 3
  have f4 := h.free 4
  have f5 := h.free 5
  have H := Lib.hid h
  clear h
  have CA := Lib.hid (radd_any stamp 10000000000 hst (by omega))
  have y0 : ((best : Int) == 0) = false := by rw [beq_eq_false_iff_ne]; omega
  have yl : decide (rtt ≤ best) = false := by simpa using hl
  have yx : decide (satAdd stamp 10000000000 < now) = true := by simpa using hx
  have hE : rexpF ⟨best, stamp, true, false, round, done⟩ now = true := by simp [rexpF]; omega
  have hS : rsetF ⟨best, stamp, true, false, round, done⟩ now rtt = true := by unfold rsetF; rw [hE]; simp; omega
  have hu : rupF ⟨best, stamp, true, false, round, done⟩ now rtt start flight floor = (false, false, ⟨rtt, now, true, true, false, satAdd now 200000000⟩) := by simp [rupF, rs1F, hE, hS, hf]
  rw [hu]
  clear hE hS hu
  clear hl
  generalize satAdd stamp 10000000000 = X at *
  clear hx
  have CB := Lib.hid (radd_any now 200000000 hn (by omega))
  generalize satAdd now 200000000 = Y at *
  go_enter Try.func30, Try.ntmps30
  go_wp2_with fail
  refine (CA.out _).mono ?_; rintro e w' ⟨rfl, rfl⟩
  go_wp2_with fail
  refine (CB.out _).mono ?_; rintro e w' ⟨rfl, rfl⟩
  go_wp2
  go_ret2
  exact ⟨rfl, (((((Put.set H.out 0).then_ (Put.set (H.out.set 0) 1)).then_ (Put.set ((H.out.set 0).set 1) 3)).then_ (Put.set (((H.out.set 0).set 1).set 3) 4)).then_ (Put.set ((((H.out.set 0).set 1).set 3).set 4) 5))⟩

set_option maxHeartbeats 400000 in
theorem rup_x_rgt_wgt (b best stamp done now rtt : Nat) (waits round start : Bool) (flight floor : Nat) (hst : stamp < 18446744073709551616) (hn : now < 18446744073709551616) (hb : 0 < best) (hx : satAdd stamp 10000000000 < now) (hr : 0 < rtt) (hl : ¬ rtt ≤ best) (hf : ¬ flight ≤ floor) (w : World) (h : At w b 44 (rprb ⟨best, stamp, true, false, round, done⟩)) :
    Calls Try.prog 30 #[.pointer (some ⟨b, 0, none⟩), .int .u64 now, .int .u64 rtt, .bool start, .int .u64 flight, .int .u64 floor] w
      fun e w' => e = .returned (.tuple #[.bool (rupF ⟨best, stamp, true, false, round, done⟩ now rtt start flight floor).1, .bool (rupF ⟨best, stamp, true, false, round, done⟩ now rtt start flight floor).2.1]) ∧ Put w w' b 44 (rprb (rupF ⟨best, stamp, true, false, round, done⟩ now rtt start flight floor).2.2) := by
  have h0 : w.cell? ⟨b, 0, none⟩ = some (.int .u64 best) := h.cell 0
  have h1 : w.cell? ⟨b, 1, none⟩ = some (.int .u64 stamp) := h.cell 1
  have h2 : w.cell? ⟨b, 2, none⟩ = some (.bool true) := h.cell 2
  have h3 : w.cell? ⟨b, 3, none⟩ = some (.bool false) := h.cell 3
  have h4 : w.cell? ⟨b, 4, none⟩ = some (.bool round) := h.cell 4
  have h5 : w.cell? ⟨b, 5, none⟩ = some (.int .u64 done) := h.cell 5
  have f0 := h.free 0
  have f1 := h.free 1
  have f2 := h.free 2
  have f3 := h.free 3
  have f4 := h.free 4
  have f5 := h.free 5
  have H := Lib.hid h
  clear h
  have CA := Lib.hid (radd_any stamp 10000000000 hst (by omega))
  have y0 : ((best : Int) == 0) = false := by rw [beq_eq_false_iff_ne]; omega
  have yl : decide (rtt ≤ best) = false := by simpa using hl
  have yx : decide (satAdd stamp 10000000000 < now) = true := by simpa using hx
  have hE : rexpF ⟨best, stamp, true, false, round, done⟩ now = true := by simp [rexpF]; omega
  have hS : rsetF ⟨best, stamp, true, false, round, done⟩ now rtt = true := by unfold rsetF; rw [hE]; simp; omega
  have hu : rupF ⟨best, stamp, true, false, round, done⟩ now rtt start flight floor = (false, false, ⟨rtt, now, true, false, round, done⟩) := by simp [rupF, rs1F, hE, hS, hf]
  rw [hu]
  clear hE hS hu
  clear hl
  generalize satAdd stamp 10000000000 = X at *
  clear hx
  go_enter Try.func30, Try.ntmps30
  go_wp2_with fail
  refine (CA.out _).mono ?_; rintro e w' ⟨rfl, rfl⟩
  go_wp2
  go_ret2
  exact ⟨rfl, ((Put.set H.out 0).then_ (Put.set (H.out.set 0) 1))⟩

set_option maxHeartbeats 400000 in
theorem rup_x_rgt_late (b best stamp done now rtt : Nat) (waits round start : Bool) (flight floor : Nat) (hst : stamp < 18446744073709551616) (hn : now < 18446744073709551616) (hb : 0 < best) (hx : satAdd stamp 10000000000 < now) (hr : 0 < rtt) (hl : ¬ rtt ≤ best) (hd : done < now) (hrs : (round || start) = true) (w : World) (h : At w b 44 (rprb ⟨best, stamp, true, true, round, done⟩)) :
    Calls Try.prog 30 #[.pointer (some ⟨b, 0, none⟩), .int .u64 now, .int .u64 rtt, .bool start, .int .u64 flight, .int .u64 floor] w
      fun e w' => e = .returned (.tuple #[.bool (rupF ⟨best, stamp, true, true, round, done⟩ now rtt start flight floor).1, .bool (rupF ⟨best, stamp, true, true, round, done⟩ now rtt start flight floor).2.1]) ∧ Put w w' b 44 (rprb (rupF ⟨best, stamp, true, true, round, done⟩ now rtt start flight floor).2.2) := by
  have h0 : w.cell? ⟨b, 0, none⟩ = some (.int .u64 best) := h.cell 0
  have h1 : w.cell? ⟨b, 1, none⟩ = some (.int .u64 stamp) := h.cell 1
  have h2 : w.cell? ⟨b, 2, none⟩ = some (.bool true) := h.cell 2
  have h3 : w.cell? ⟨b, 3, none⟩ = some (.bool true) := h.cell 3
  have h4 : w.cell? ⟨b, 4, none⟩ = some (.bool round) := h.cell 4
  have h5 : w.cell? ⟨b, 5, none⟩ = some (.int .u64 done) := h.cell 5
  have f0 := h.free 0
  have f1 := h.free 1
  have f2 := h.free 2
  have f3 := h.free 3
  have f4 := h.free 4
  have f5 := h.free 5
  have H := Lib.hid h
  clear h
  have CA := Lib.hid (radd_any stamp 10000000000 hst (by omega))
  have y0 : ((best : Int) == 0) = false := by rw [beq_eq_false_iff_ne]; omega
  have yl : decide (rtt ≤ best) = false := by simpa using hl
  have yx : decide (satAdd stamp 10000000000 < now) = true := by simpa using hx
  have hE : rexpF ⟨best, stamp, true, true, round, done⟩ now = true := by simp [rexpF]; omega
  have hS : rsetF ⟨best, stamp, true, true, round, done⟩ now rtt = true := by unfold rsetF; rw [hE]; simp; omega
  have hu : rupF ⟨best, stamp, true, true, round, done⟩ now rtt start flight floor = (false, true, ⟨rtt, now, false, false, true, done⟩) := by simp only [rupF, rs1F, hE, hS, hrs, decide_eq_true hd]; simp
  rw [hu]
  clear hE hS hu
  clear hl
  generalize satAdd stamp 10000000000 = X at *
  clear hx
  have hc : round = true ∨ round = false ∧ start = true := by cases round <;> simp_all
  clear hrs
  rcases hc with rfl | ⟨rfl, rfl⟩
  all_goals
    go_enter Try.func30, Try.ntmps30
    go_wp2_with fail
    refine (CA.out _).mono ?_; rintro e w' ⟨rfl, rfl⟩
    go_wp2
    go_ret2
    exact ⟨rfl, ((((((Put.set H.out 0).then_ (Put.set (H.out.set 0) 1)).then_ (Put.set ((H.out.set 0).set 1) 4)).then_ (Put.set (((H.out.set 0).set 1).set 4) 1)).then_ (Put.set ((((H.out.set 0).set 1).set 4).set 1) 2)).then_ (Put.set (((((H.out.set 0).set 1).set 4).set 1).set 2) 3))⟩

set_option maxHeartbeats 400000 in
theorem rup_x_rgt_stay (b best stamp done now rtt : Nat) (waits round start : Bool) (flight floor : Nat) (hst : stamp < 18446744073709551616) (hn : now < 18446744073709551616) (hb : 0 < best) (hx : satAdd stamp 10000000000 < now) (hr : 0 < rtt) (hl : ¬ rtt ≤ best) (hd : ¬ (done < now ∧ (round || start) = true)) (w : World) (h : At w b 44 (rprb ⟨best, stamp, true, true, round, done⟩)) :
    Calls Try.prog 30 #[.pointer (some ⟨b, 0, none⟩), .int .u64 now, .int .u64 rtt, .bool start, .int .u64 flight, .int .u64 floor] w
      fun e w' => e = .returned (.tuple #[.bool (rupF ⟨best, stamp, true, true, round, done⟩ now rtt start flight floor).1, .bool (rupF ⟨best, stamp, true, true, round, done⟩ now rtt start flight floor).2.1]) ∧ Put w w' b 44 (rprb (rupF ⟨best, stamp, true, true, round, done⟩ now rtt start flight floor).2.2) := by
  have h0 : w.cell? ⟨b, 0, none⟩ = some (.int .u64 best) := h.cell 0
  have h1 : w.cell? ⟨b, 1, none⟩ = some (.int .u64 stamp) := h.cell 1
  have h2 : w.cell? ⟨b, 2, none⟩ = some (.bool true) := h.cell 2
  have h3 : w.cell? ⟨b, 3, none⟩ = some (.bool true) := h.cell 3
  have h4 : w.cell? ⟨b, 4, none⟩ = some (.bool round) := h.cell 4
  have h5 : w.cell? ⟨b, 5, none⟩ = some (.int .u64 done) := h.cell 5
  have f0 := h.free 0
  have f1 := h.free 1
  have f2 := h.free 2
  have f3 := h.free 3
  have f4 := h.free 4
  have f5 := h.free 5
  have H := Lib.hid h
  clear h
  have CA := Lib.hid (radd_any stamp 10000000000 hst (by omega))
  have y0 : ((best : Int) == 0) = false := by rw [beq_eq_false_iff_ne]; omega
  have yl : decide (rtt ≤ best) = false := by simpa using hl
  have yx : decide (satAdd stamp 10000000000 < now) = true := by simpa using hx
  have hE : rexpF ⟨best, stamp, true, true, round, done⟩ now = true := by simp [rexpF]; omega
  have hS : rsetF ⟨best, stamp, true, true, round, done⟩ now rtt = true := by unfold rsetF; rw [hE]; simp; omega
  have hd' : (decide (done < now) && (round || start)) = false := by rw [← Bool.not_eq_true]; simpa using hd
  have hu : rupF ⟨best, stamp, true, true, round, done⟩ now rtt start flight floor = (false, false, ⟨rtt, now, true, true, round || start, done⟩) := by simp only [rupF, rs1F, hE, hS, hd']; simp
  rw [hu]
  clear hE hS hu
  clear hl
  generalize satAdd stamp 10000000000 = X at *
  clear hx
  clear hd'
  have hc : (round || start) = false ∨ (round || start) = true ∧ now ≤ done := by cases hq : (round || start) <;> simp_all
  clear hd
  have hc2 : (round = false ∧ start = false) ∨ (round = true ∧ now ≤ done) ∨ (round = false ∧ start = true ∧ now ≤ done) := by cases round <;> cases start <;> simp_all
  clear hc
  rcases hc2 with ⟨rfl, rfl⟩ | ⟨rfl, hd⟩ | ⟨rfl, rfl, hd⟩
  all_goals
    go_enter Try.func30, Try.ntmps30
    go_wp2_with fail
    refine (CA.out _).mono ?_; rintro e w' ⟨rfl, rfl⟩
    go_wp2
    go_ret2
    exact ⟨rfl, (((Put.set H.out 0).then_ (Put.set (H.out.set 0) 1)).then_ (Put.set ((H.out.set 0).set 1) 4))⟩

end Go.Proofs.Ytgdbmjokpbjoaaa
