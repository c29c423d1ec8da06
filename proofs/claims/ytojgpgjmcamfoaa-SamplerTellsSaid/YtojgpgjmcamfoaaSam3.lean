/- The contract of sampler's longest, and of Take. -/
import Derived.Test.YtojgpgjmcamfoaaSam
namespace Go.Proofs.Ytojgpgjmcamfoaa
open Go.RowKit Go.Lib
set_option linter.unusedVariables false

theorem longest_any (z x y : Nat) (w : World) (hx : w.cell? ⟨z, 0, none⟩ = some (.int .u64 x)) (hy : w.cell? ⟨z, 1, none⟩ = some (.int .u64 y)) :
    Calls Try.prog 43 #[.slice (some ⟨z, 0, none⟩) 2 2] w fun e w' => e = .returned (.int .u64 (max x y : Nat)) ∧ w = w' := by
  have hc : (x = 0 ∧ y = 0) ∨ (x = 0 ∧ 0 < y) ∨ (0 < x ∧ y ≤ x) ∨ (0 < x ∧ x < y) := by omega
  rcases hc with ⟨rfl, rfl⟩ | ⟨rfl, h2⟩ | ⟨h1, h2⟩ | ⟨h1, h2⟩
  · rw [Nat.max_self]
    go_enter Try.func43, Try.ntmps43
    go_wp2
    go_step3
    go_wp2
    go_step3
    go_wp2
    refine wp_loop_rounds 3 ?_
    rw [rounds_succ]
    go_wp2
    rw [rounds_succ]
    go_wp2
    rw [rounds_succ]
    go_wp2
    (try rw [Exit.noGoto_ret])
    go_ret
    exact ⟨rfl, rfl⟩
  · rw [Nat.max_eq_right (by omega)]
    have q1 : decide ((y : Int) ≤ 0) = false := by simp; omega
    have q2 : decide (y = 0) = false := by simp; omega
    go_enter Try.func43, Try.ntmps43
    go_wp2
    go_step3
    go_wp2
    go_step3
    go_wp2
    refine wp_loop_rounds 3 ?_
    rw [rounds_succ]
    go_wp2
    rw [rounds_succ]
    go_wp2
    rw [rounds_succ]
    go_wp2
    (try rw [Exit.noGoto_ret])
    go_ret
    exact ⟨rfl, rfl⟩
  · rw [Nat.max_eq_left h2]
    have q1 : decide ((x : Int) ≤ 0) = false := by simp; omega
    have q2 : decide (x = 0) = false := by simp; omega
    have q3 : decide (y ≤ x) = true := by simp; omega
    clear h2
    go_enter Try.func43, Try.ntmps43
    go_wp2
    go_step3
    go_wp2
    go_step3
    go_wp2
    refine wp_loop_rounds 3 ?_
    rw [rounds_succ]
    go_wp2
    rw [rounds_succ]
    go_wp2
    rw [rounds_succ]
    go_wp2
    (try rw [Exit.noGoto_ret])
    go_ret
    exact ⟨rfl, rfl⟩
  · rw [Nat.max_eq_right (by omega)]
    have q1 : decide ((x : Int) ≤ 0) = false := by simp; omega
    have q2 : decide (x = 0) = false := by simp; omega
    have q3 : decide (y ≤ x) = false := by simp; omega
    clear h2
    go_enter Try.func43, Try.ntmps43
    go_wp2
    go_step3
    go_wp2
    go_step3
    go_wp2
    refine wp_loop_rounds 3 ?_
    rw [rounds_succ]
    go_wp2
    rw [rounds_succ]
    go_wp2
    rw [rounds_succ]
    go_wp2
    (try rw [Exit.noGoto_ret])
    go_ret
    exact ⟨rfl, rfl⟩

def takeV (s : SA) (now lost flight : Nat) : SM :=
  if s.is then ⟨now, s.d, s.prior, max s.sending (satSub now s.priorAt), s.rtt, s.acks, lost, flight, s.lim⟩ else ⟨now, s.d, 0, 0, 0, 0, lost, flight, false⟩
def takeF (s : SA) : SA := { s with is := false, acks := 0, prior := 0, priorAt := 0, lim := false, sending := 0, rtt := 0 }
def cellsM (x : SM) : Array Value := #[.int .u64 x.now, .int .u64 x.delivered, .int .u64 x.prior, .int .u64 x.interval, .int .u64 x.rtt, .int .u64 x.acked, .int .u64 x.lost, .int .u64 x.flight, .bool x.limited]
theorem Put.new {w w1 w2 : World} {b c : Nat} {t t' : TypeId} {cs cs' : Array Value} (h : Put w w1 b t cs) (p : Put w1 w2 c t' cs') (hc : w.heap.size ≤ c) (hne : b ≠ c) : Put w w2 b t cs := by
  obtain ⟨h1, h2⟩ := h
  exact ⟨p.other h1 hne, p.2.os.trans h2.os, p.2.tape.trans h2.tape, p.2.output.trans h2.output, Nat.le_trans h2.size p.2.size, fun k hk hk2 => (p.2.block k (Nat.lt_of_lt_of_le hk h2.size) (by intro e; simp at e; omega)).trans (h2.block k hk hk2)⟩

theorem take_nil (a l f : Nat) (w : World) :
    Calls Try.prog 18 #[.pointer none, .int .u64 a, .int .u64 l, .int .u64 f] w fun e w' => e = .returned (smp ⟨0, 0, 0, 0, 0, 0, 0, 0, false⟩) ∧ Below w.heap.size w w' := by
  go_enter Try.func18, Try.ntmps18
  go_wp2
  refine bodyPost_ret (v := smp ⟨0, 0, 0, 0, 0, 0, 0, 0, false⟩) (by simp [results, Try.results18, go_sem, smp]) rfl ⟨rfl, ?_⟩
  exact (Below.refl _ _).alloc (Nat.le_refl _) _

set_option maxRecDepth 8000 in
set_option maxHeartbeats 2000000 in
theorem take_no (b : Nat) (s : SA) (now l f : Nat) (w : World) (h : At w b 78 (sam s)) (hi : s.is = false) :
    Calls Try.prog 18 #[.pointer (some ⟨b, 0, none⟩), .int .u64 now, .int .u64 l, .int .u64 f] w fun e w' => e = .returned (smp ⟨now, s.d, 0, 0, 0, 0, l, f, false⟩) ∧ Put w w' b 78 (sam (takeF s)) := by
  have h0 : w.cell? ⟨b, 0, none⟩ = some (.int .u64 s.d) := h.cell 0
  have h4 : w.cell? ⟨b, 4, none⟩ = some (.bool false) := by rw [← hi]; exact h.cell 4
  have h5 : w.cell? ⟨b, 5, none⟩ = some (.int .u64 s.acks) := h.cell 5
  have h6 : w.cell? ⟨b, 6, none⟩ = some (.int .u64 s.prior) := h.cell 6
  have h7 : w.cell? ⟨b, 7, none⟩ = some (.int .u64 s.priorAt) := h.cell 7
  have h8 : w.cell? ⟨b, 8, none⟩ = some (.bool s.lim) := h.cell 8
  have h9 : w.cell? ⟨b, 9, none⟩ = some (.int .u64 s.sending) := h.cell 9
  have h10 : w.cell? ⟨b, 10, none⟩ = some (.int .u64 s.rtt) := h.cell 10
  have f4 := h.free 4
  have f5 := h.free 5
  have f6 := h.free 6
  have f7 := h.free 7
  have f8 := h.free 8
  have f9 := h.free 9
  have f10 := h.free 10
  have hlt := h.lt
  have hlt1 : b < w.heap.size + 1 := by omega
  have hlt2 : b < w.heap.size + 1 + 1 := by omega
  have hlt3 : b < w.heap.size + 2 := by omega
  have H := Lib.hid h
  clear h hi
  unfold takeF
  go_enter Try.func18, Try.ntmps18
  go_wp2
  refine bodyPost_ret (v := smp ⟨now, s.d, 0, 0, 0, 0, l, f, false⟩) (by simp [results, Try.results18, go_sem, smp]) rfl ⟨rfl, ?_⟩
  exact ((((((((((Put.same H.out).s 4 _).s 5 _).s 6 _).s 7 _).s 8 _).s 9 _).s 10 _).a _).a _).a _

end Go.Proofs.Ytojgpgjmcamfoaa
