/- The contract of the reference sampler's Take. -/
import Derived.Test.YtojgpgjmcamfoaaSam4
namespace Go.Proofs.Ytojgpgjmcamfoaa
open Go.RowKit Go.Lib
set_option linter.unusedVariables false
theorem rtake_clear {T : TypeId} {w w3 : World} {b : Nat} {s : SA} (P : Put w w3 b T (rsam s)) : Put w (World.setCell (World.setCell (World.setCell (World.setCell (World.setCell (World.setCell (World.setCell w3 ⟨b, 4, none⟩ (.bool false)) ⟨b, 5, none⟩ (.int .u64 0)) ⟨b, 6, none⟩ (.int .u64 0)) ⟨b, 7, none⟩ (.int .u64 0)) ⟨b, 8, none⟩ (.int .u64 0)) ⟨b, 9, none⟩ (.int .u64 0)) ⟨b, 10, none⟩ (.bool false)) b T (rsam (takeF s)) := by
  have h := (((((((P.s 4 (.bool false)).s 5 (.int .u64 0)).s 6 (.int .u64 0)).s 7 (.int .u64 0)).s 8 (.int .u64 0)).s 9 (.int .u64 0)).s 10 (.bool false))
  simp only [rsam, takeF, List.setIfInBounds_toArray, List.set_cons_zero, List.set_cons_succ] at h ⊢
  exact h

set_option maxRecDepth 8000 in
set_option maxHeartbeats 4000000 in
theorem rtake_no (b : Nat) (s : SA) (now l f : Nat) (w : World) (h : At w b 42 (rsam s)) (hi : s.is = false) :
    Calls Try.prog 22 #[.pointer (some ⟨b, 0, none⟩), .int .u64 now, .int .u64 l, .int .u64 f] w fun e w' => e = .returned (smp ⟨now, s.d, 0, 0, 0, 0, l, f, false⟩) ∧ Put w w' b 42 (rsam (takeF s)) := by
  have h0 : w.cell? ⟨b, 0, none⟩ = some (.int .u64 s.d) := h.cell 0
  have h4 : w.cell? ⟨b, 4, none⟩ = some (.bool false) := by rw [← hi]; exact h.cell 4
  have h5 : w.cell? ⟨b, 5, none⟩ = some (.int .u64 s.acks) := h.cell 5
  have h6 : w.cell? ⟨b, 6, none⟩ = some (.int .u64 s.prior) := h.cell 6
  have h7 : w.cell? ⟨b, 7, none⟩ = some (.int .u64 s.priorAt) := h.cell 7
  have h8 : w.cell? ⟨b, 8, none⟩ = some (.int .u64 s.sending) := h.cell 8
  have h9 : w.cell? ⟨b, 9, none⟩ = some (.int .u64 s.rtt) := h.cell 9
  have h10 : w.cell? ⟨b, 10, none⟩ = some (.bool s.lim) := h.cell 10
  have f4 := h.free 4
  have f5 := h.free 5
  have f6 := h.free 6
  have f7 := h.free 7
  have f8 := h.free 8
  have f9 := h.free 9
  have f10 := h.free 10
  have hlt := h.lt
  have hlt1 : b < w.heap.size + 1 := by omega
  have hlt2 : b < w.heap.size + 1 + 1 := by omega
  have hlt3 : b < w.heap.size + 2 := by omega
  have H := Lib.hid h
  clear h hi
  go_enter Try.func22, Try.ntmps22
  go_wp2
  refine bodyPost_ret (v := smp ⟨now, s.d, 0, 0, 0, 0, l, f, false⟩) (by simp [results, Try.results22, go_sem, smp]) rfl ⟨rfl, ?_⟩
  exact ((rtake_clear (Put.same H.out)).a _).a _

set_option maxRecDepth 8000 in
set_option maxHeartbeats 4000000 in
theorem rtake_yes (b : Nat) (s : SA) (now l f : Nat) (hs : s.ok) (hn : now < 18446744073709551616) (w : World) (h : At w b 42 (rsam s)) (hi : s.is = true) :
    Calls Try.prog 22 #[.pointer (some ⟨b, 0, none⟩), .int .u64 now, .int .u64 l, .int .u64 f] w fun e w' => e = .returned (smp ⟨now, s.d, s.prior, max s.sending (satSub now s.priorAt), s.rtt, s.acks, l, f, s.lim⟩) ∧ Put w w' b 42 (rsam (takeF s)) := by
  have h0 : w.cell? ⟨b, 0, none⟩ = some (.int .u64 s.d) := h.cell 0
  have h4 : w.cell? ⟨b, 4, none⟩ = some (.bool true) := by rw [← hi]; exact h.cell 4
  have h5 : w.cell? ⟨b, 5, none⟩ = some (.int .u64 s.acks) := h.cell 5
  have h6 : w.cell? ⟨b, 6, none⟩ = some (.int .u64 s.prior) := h.cell 6
  have h7 : w.cell? ⟨b, 7, none⟩ = some (.int .u64 s.priorAt) := h.cell 7
  have h8 : w.cell? ⟨b, 8, none⟩ = some (.int .u64 s.sending) := h.cell 8
  have h9 : w.cell? ⟨b, 9, none⟩ = some (.int .u64 s.rtt) := h.cell 9
  have h10 : w.cell? ⟨b, 10, none⟩ = some (.bool s.lim) := h.cell 10
  have f4 := h.free 4
  have f5 := h.free 5
  have f6 := h.free 6
  have f7 := h.free 7
  have f8 := h.free 8
  have f9 := h.free 9
  have f10 := h.free 10
  have hlt := h.lt
  have hlt1 : b < w.heap.size + 1 := by omega
  have hlt2 : b < w.heap.size + 1 + 1 := by omega
  have hlt3 : b < w.heap.size + 2 := by omega
  have H := Lib.hid h
  have CS := Lib.hid (rsub_any now s.priorAt hn hs.2.2.2.2)
  generalize satSub now s.priorAt = U at *
  clear h hi hs hn
  have HM : Hid (∀ M, max s.sending U = M → M = max s.sending U) := Lib.hid (fun _ h => h.symm)
  have key : ∀ M, max s.sending U = M → (U ≤ s.sending ∧ M = s.sending ∨ s.sending < U ∧ M = U) := by omega
  obtain ⟨M, hM⟩ : ∃ M, max s.sending U = M := ⟨_, rfl⟩
  rw [hM]
  have hc := key M hM
  clear key hM HM
  rcases hc with ⟨hc, rfl⟩ | ⟨hc, rfl⟩
  · have m1 : max s.sending U = s.sending := by omega
    go_enter Try.func22, Try.ntmps22
    go_wp2_with fail
    refine wp_named (fun w1 => Put w w1 b 42 (rsam s) ∧ At w1 w.heap.size 32 (cellsM ⟨0, 0, 0, 0, 0, 0, 0, 0, false⟩) ∧ At w1 (w.heap.size + 1) 32 (cellsM ⟨now, s.d, 0, 0, 0, 0, l, f, false⟩))
      ⟨((Put.same H.out).a _).a _, (At.made _ _ _).al _, At.mk1 _ _ (by simp)⟩ (fun w1 hw1 => ?_)
    obtain ⟨p1, z1, y1⟩ := hw1
    clear h0 h4 h5 h6 h7 h8 h9 h10 f4 f5 f6 f7 f8 f9 f10
    have a5 : w1.cell? ⟨b, 5, none⟩ = some (.int .u64 s.acks) := p1.1.cell 5
    have a6 : w1.cell? ⟨b, 6, none⟩ = some (.int .u64 s.prior) := p1.1.cell 6
    have a10 : w1.cell? ⟨b, 10, none⟩ = some (.bool s.lim) := p1.1.cell 10
    have a9 : w1.cell? ⟨b, 9, none⟩ = some (.int .u64 s.rtt) := p1.1.cell 9
    have y5 : w1.cell? ⟨w.heap.size + 1, 5, none⟩ = some (.int .u64 0) := y1.cell 5
    have y2 : w1.cell? ⟨w.heap.size + 1, 2, none⟩ = some (.int .u64 0) := y1.cell 2
    have y8 : w1.cell? ⟨w.heap.size + 1, 8, none⟩ = some (.bool false) := y1.cell 8
    have y4 : w1.cell? ⟨w.heap.size + 1, 4, none⟩ = some (.int .u64 0) := y1.cell 4
    have g5 := y1.free 5
    have g2 := y1.free 2
    have g8 := y1.free 8
    have g4 := y1.free 4
    have P1 := Lib.hid p1
    have Z1 := Lib.hid z1
    have Y1 := Lib.hid y1
    have hz1 := y1.lt
    clear p1 z1 y1
    go_region
    go_wp2_with fail
    refine wp_named (fun w2 => Put w1 w2 (w.heap.size + 1) 32 (cellsM ⟨now, s.d, s.prior, 0, s.rtt, s.acks, l, f, s.lim⟩)) (((((Put.same Y1.out).s 5 _).s 2 _).s 8 _).s 4 _).d (fun w2 p2 => ?_)
    have P2 := Lib.hid (P1.out.new p2 (by omega) (by omega))
    have Z2 := Lib.hid (p2.other Z1.out (by omega))
    have Y2 := Lib.hid p2.1
    have b8 : w2.cell? ⟨b, 8, none⟩ = some (.int .u64 s.sending) := P2.out.1.cell 8
    have b7 : w2.cell? ⟨b, 7, none⟩ = some (.int .u64 s.priorAt) := P2.out.1.cell 7
    have c3 : w2.cell? ⟨w.heap.size + 1, 3, none⟩ = some (.int .u64 0) := p2.1.cell 3
    have d3 := p2.1.free 3
    have hz2 := p2.1.lt
    clear p2 a5 a6 a10 a9 y5 y2 y8 y4 g5 g2 g8 g4
    go_region_with (go_at_call 45; (refine (CS.out _).mono ?_; rintro e w' ⟨rfl, rfl⟩))
    all_goals
      rw [show (if s.sending < U then (U : Int) else (s.sending : Int)) = (s.sending : Int) from by split <;> omega]
      refine q_named (fun w3 => Put w2 w3 (w.heap.size + 1) 32 (cellsM ⟨now, s.d, s.prior, s.sending, s.rtt, s.acks, l, f, s.lim⟩)) (((Put.same Y2.out).s 3 _).d) (fun w3 p3 => ?_)
      have P3 := Lib.hid (P2.out.new p3 (by omega) (by omega))
      have Z3 := Lib.hid (p3.other Z2.out (by omega))
      have Y3 := Lib.hid p3.1
      have hz3 := P3.out.1.lt
      have hz4 := p3.1.lt
      clear p3 b8 b7 c3 d3
      have h5 : w3.cell? ⟨b, 5, none⟩ = some (.int .u64 s.acks) := P3.out.1.cell 5
      have h6 : w3.cell? ⟨b, 6, none⟩ = some (.int .u64 s.prior) := P3.out.1.cell 6
      have h7 : w3.cell? ⟨b, 7, none⟩ = some (.int .u64 s.priorAt) := P3.out.1.cell 7
      have h8 : w3.cell? ⟨b, 8, none⟩ = some (.int .u64 s.sending) := P3.out.1.cell 8
      have h9 : w3.cell? ⟨b, 9, none⟩ = some (.int .u64 s.rtt) := P3.out.1.cell 9
      have h4 : w3.cell? ⟨b, 4, none⟩ = some (.bool s.is) := P3.out.1.cell 4
      have h10 : w3.cell? ⟨b, 10, none⟩ = some (.bool s.lim) := P3.out.1.cell 10
      have f4 := P3.out.1.free 4
      have f5 := P3.out.1.free 5
      have f6 := P3.out.1.free 6
      have f7 := P3.out.1.free 7
      have f8 := P3.out.1.free 8
      have f9 := P3.out.1.free 9
      have f10 := P3.out.1.free 10
      have y0 : w3.cell? ⟨w.heap.size + 1, 0, none⟩ = some (.int .u64 now) := Y3.out.cell 0
      have y1 : w3.cell? ⟨w.heap.size + 1, 1, none⟩ = some (.int .u64 s.d) := Y3.out.cell 1
      have y2 : w3.cell? ⟨w.heap.size + 1, 2, none⟩ = some (.int .u64 s.prior) := Y3.out.cell 2
      have y3 : w3.cell? ⟨w.heap.size + 1, 3, none⟩ = some (.int .u64 s.sending) := Y3.out.cell 3
      have y4 : w3.cell? ⟨w.heap.size + 1, 4, none⟩ = some (.int .u64 s.rtt) := Y3.out.cell 4
      have y5 : w3.cell? ⟨w.heap.size + 1, 5, none⟩ = some (.int .u64 s.acks) := Y3.out.cell 5
      have y6 : w3.cell? ⟨w.heap.size + 1, 6, none⟩ = some (.int .u64 l) := Y3.out.cell 6
      have y7 : w3.cell? ⟨w.heap.size + 1, 7, none⟩ = some (.int .u64 f) := Y3.out.cell 7
      have y8 : w3.cell? ⟨w.heap.size + 1, 8, none⟩ = some (.bool s.lim) := Y3.out.cell 8
      have z0 : w3.cell? ⟨w.heap.size, 0, none⟩ = some (.int .u64 0) := Z3.out.cell 0
      have z1 : w3.cell? ⟨w.heap.size, 1, none⟩ = some (.int .u64 0) := Z3.out.cell 1
      have z2 : w3.cell? ⟨w.heap.size, 2, none⟩ = some (.int .u64 0) := Z3.out.cell 2
      have z3 : w3.cell? ⟨w.heap.size, 3, none⟩ = some (.int .u64 0) := Z3.out.cell 3
      have z4 : w3.cell? ⟨w.heap.size, 4, none⟩ = some (.int .u64 0) := Z3.out.cell 4
      have z5 : w3.cell? ⟨w.heap.size, 5, none⟩ = some (.int .u64 0) := Z3.out.cell 5
      have z6 : w3.cell? ⟨w.heap.size, 6, none⟩ = some (.int .u64 0) := Z3.out.cell 6
      have z7 : w3.cell? ⟨w.heap.size, 7, none⟩ = some (.int .u64 0) := Z3.out.cell 7
      have z8 : w3.cell? ⟨w.heap.size, 8, none⟩ = some (.bool false) := Z3.out.cell 8
      have e0 := Z3.out.free 0
      have e1 := Z3.out.free 1
      have e2 := Z3.out.free 2
      have e3 := Z3.out.free 3
      have e4 := Z3.out.free 4
      have e5 := Z3.out.free 5
      have e6 := Z3.out.free 6
      have e7 := Z3.out.free 7
      have e8 := Z3.out.free 8
      go_wp2
      have pb := rtake_clear P3.out
      have pz := take_fill (x := ⟨now, s.d, s.prior, s.sending, s.rtt, s.acks, l, f, s.lim⟩) ((rtake_clear (Put.same P3.out.1)).other Z3.out (by omega))
      dsimp only at pz
      refine q_named (fun w4 => Put w w4 b 42 (rsam (takeF s)) ∧ At w4 w.heap.size 32 (cellsM ⟨now, s.d, s.prior, s.sending, s.rtt, s.acks, l, f, s.lim⟩)) ⟨pb.new pz (Nat.le_refl _) (by omega), pz.1⟩ (fun w4 hw4 => ?_)
      obtain ⟨P4, Z4⟩ := hw4
      have q0 : w4.cell? ⟨w.heap.size, 0, none⟩ = some (.int .u64 now) := Z4.cell 0
      have q1 : w4.cell? ⟨w.heap.size, 1, none⟩ = some (.int .u64 s.d) := Z4.cell 1
      have q2 : w4.cell? ⟨w.heap.size, 2, none⟩ = some (.int .u64 s.prior) := Z4.cell 2
      have q3 : w4.cell? ⟨w.heap.size, 3, none⟩ = some (.int .u64 s.sending) := Z4.cell 3
      have q4 : w4.cell? ⟨w.heap.size, 4, none⟩ = some (.int .u64 s.rtt) := Z4.cell 4
      have q5 : w4.cell? ⟨w.heap.size, 5, none⟩ = some (.int .u64 s.acks) := Z4.cell 5
      have q6 : w4.cell? ⟨w.heap.size, 6, none⟩ = some (.int .u64 l) := Z4.cell 6
      have q7 : w4.cell? ⟨w.heap.size, 7, none⟩ = some (.int .u64 f) := Z4.cell 7
      have q8 : w4.cell? ⟨w.heap.size, 8, none⟩ = some (.bool s.lim) := Z4.cell 8
      exact bodyPost_ret (v := smp ⟨now, s.d, s.prior, s.sending, s.rtt, s.acks, l, f, s.lim⟩) (by simp [results, Try.results22, go_sem, smp, q0, q1, q2, q3, q4, q5, q6, q7, q8]) rfl ⟨rfl, P4⟩
  · have m1 : max s.sending M = M := by omega
    go_enter Try.func22, Try.ntmps22
    go_wp2_with fail
    refine wp_named (fun w1 => Put w w1 b 42 (rsam s) ∧ At w1 w.heap.size 32 (cellsM ⟨0, 0, 0, 0, 0, 0, 0, 0, false⟩) ∧ At w1 (w.heap.size + 1) 32 (cellsM ⟨now, s.d, 0, 0, 0, 0, l, f, false⟩))
      ⟨((Put.same H.out).a _).a _, (At.made _ _ _).al _, At.mk1 _ _ (by simp)⟩ (fun w1 hw1 => ?_)
    obtain ⟨p1, z1, y1⟩ := hw1
    clear h0 h4 h5 h6 h7 h8 h9 h10 f4 f5 f6 f7 f8 f9 f10
    have a5 : w1.cell? ⟨b, 5, none⟩ = some (.int .u64 s.acks) := p1.1.cell 5
    have a6 : w1.cell? ⟨b, 6, none⟩ = some (.int .u64 s.prior) := p1.1.cell 6
    have a10 : w1.cell? ⟨b, 10, none⟩ = some (.bool s.lim) := p1.1.cell 10
    have a9 : w1.cell? ⟨b, 9, none⟩ = some (.int .u64 s.rtt) := p1.1.cell 9
    have y5 : w1.cell? ⟨w.heap.size + 1, 5, none⟩ = some (.int .u64 0) := y1.cell 5
    have y2 : w1.cell? ⟨w.heap.size + 1, 2, none⟩ = some (.int .u64 0) := y1.cell 2
    have y8 : w1.cell? ⟨w.heap.size + 1, 8, none⟩ = some (.bool false) := y1.cell 8
    have y4 : w1.cell? ⟨w.heap.size + 1, 4, none⟩ = some (.int .u64 0) := y1.cell 4
    have g5 := y1.free 5
    have g2 := y1.free 2
    have g8 := y1.free 8
    have g4 := y1.free 4
    have P1 := Lib.hid p1
    have Z1 := Lib.hid z1
    have Y1 := Lib.hid y1
    have hz1 := y1.lt
    clear p1 z1 y1
    go_region
    go_wp2_with fail
    refine wp_named (fun w2 => Put w1 w2 (w.heap.size + 1) 32 (cellsM ⟨now, s.d, s.prior, 0, s.rtt, s.acks, l, f, s.lim⟩)) (((((Put.same Y1.out).s 5 _).s 2 _).s 8 _).s 4 _).d (fun w2 p2 => ?_)
    have P2 := Lib.hid (P1.out.new p2 (by omega) (by omega))
    have Z2 := Lib.hid (p2.other Z1.out (by omega))
    have Y2 := Lib.hid p2.1
    have b8 : w2.cell? ⟨b, 8, none⟩ = some (.int .u64 s.sending) := P2.out.1.cell 8
    have b7 : w2.cell? ⟨b, 7, none⟩ = some (.int .u64 s.priorAt) := P2.out.1.cell 7
    have c3 : w2.cell? ⟨w.heap.size + 1, 3, none⟩ = some (.int .u64 0) := p2.1.cell 3
    have d3 := p2.1.free 3
    have hz2 := p2.1.lt
    clear p2 a5 a6 a10 a9 y5 y2 y8 y4 g5 g2 g8 g4
    go_region_with (go_at_call 45; (refine (CS.out _).mono ?_; rintro e w' ⟨rfl, rfl⟩))
    all_goals
      try rw [show (if s.sending < M then (M : Int) else (s.sending : Int)) = (M : Int) from by split <;> omega]
      refine q_named (fun w3 => Put w2 w3 (w.heap.size + 1) 32 (cellsM ⟨now, s.d, s.prior, M, s.rtt, s.acks, l, f, s.lim⟩)) (((Put.same Y2.out).s 3 _).d) (fun w3 p3 => ?_)
      have P3 := Lib.hid (P2.out.new p3 (by omega) (by omega))
      have Z3 := Lib.hid (p3.other Z2.out (by omega))
      have Y3 := Lib.hid p3.1
      have hz3 := P3.out.1.lt
      have hz4 := p3.1.lt
      clear p3 b8 b7 c3 d3
      have h5 : w3.cell? ⟨b, 5, none⟩ = some (.int .u64 s.acks) := P3.out.1.cell 5
      have h6 : w3.cell? ⟨b, 6, none⟩ = some (.int .u64 s.prior) := P3.out.1.cell 6
      have h7 : w3.cell? ⟨b, 7, none⟩ = some (.int .u64 s.priorAt) := P3.out.1.cell 7
      have h8 : w3.cell? ⟨b, 8, none⟩ = some (.int .u64 s.sending) := P3.out.1.cell 8
      have h9 : w3.cell? ⟨b, 9, none⟩ = some (.int .u64 s.rtt) := P3.out.1.cell 9
      have h4 : w3.cell? ⟨b, 4, none⟩ = some (.bool s.is) := P3.out.1.cell 4
      have h10 : w3.cell? ⟨b, 10, none⟩ = some (.bool s.lim) := P3.out.1.cell 10
      have f4 := P3.out.1.free 4
      have f5 := P3.out.1.free 5
      have f6 := P3.out.1.free 6
      have f7 := P3.out.1.free 7
      have f8 := P3.out.1.free 8
      have f9 := P3.out.1.free 9
      have f10 := P3.out.1.free 10
      have y0 : w3.cell? ⟨w.heap.size + 1, 0, none⟩ = some (.int .u64 now) := Y3.out.cell 0
      have y1 : w3.cell? ⟨w.heap.size + 1, 1, none⟩ = some (.int .u64 s.d) := Y3.out.cell 1
      have y2 : w3.cell? ⟨w.heap.size + 1, 2, none⟩ = some (.int .u64 s.prior) := Y3.out.cell 2
      have y3 : w3.cell? ⟨w.heap.size + 1, 3, none⟩ = some (.int .u64 M) := Y3.out.cell 3
      have y4 : w3.cell? ⟨w.heap.size + 1, 4, none⟩ = some (.int .u64 s.rtt) := Y3.out.cell 4
      have y5 : w3.cell? ⟨w.heap.size + 1, 5, none⟩ = some (.int .u64 s.acks) := Y3.out.cell 5
      have y6 : w3.cell? ⟨w.heap.size + 1, 6, none⟩ = some (.int .u64 l) := Y3.out.cell 6
      have y7 : w3.cell? ⟨w.heap.size + 1, 7, none⟩ = some (.int .u64 f) := Y3.out.cell 7
      have y8 : w3.cell? ⟨w.heap.size + 1, 8, none⟩ = some (.bool s.lim) := Y3.out.cell 8
      have z0 : w3.cell? ⟨w.heap.size, 0, none⟩ = some (.int .u64 0) := Z3.out.cell 0
      have z1 : w3.cell? ⟨w.heap.size, 1, none⟩ = some (.int .u64 0) := Z3.out.cell 1
      have z2 : w3.cell? ⟨w.heap.size, 2, none⟩ = some (.int .u64 0) := Z3.out.cell 2
      have z3 : w3.cell? ⟨w.heap.size, 3, none⟩ = some (.int .u64 0) := Z3.out.cell 3
      have z4 : w3.cell? ⟨w.heap.size, 4, none⟩ = some (.int .u64 0) := Z3.out.cell 4
      have z5 : w3.cell? ⟨w.heap.size, 5, none⟩ = some (.int .u64 0) := Z3.out.cell 5
      have z6 : w3.cell? ⟨w.heap.size, 6, none⟩ = some (.int .u64 0) := Z3.out.cell 6
      have z7 : w3.cell? ⟨w.heap.size, 7, none⟩ = some (.int .u64 0) := Z3.out.cell 7
      have z8 : w3.cell? ⟨w.heap.size, 8, none⟩ = some (.bool false) := Z3.out.cell 8
      have e0 := Z3.out.free 0
      have e1 := Z3.out.free 1
      have e2 := Z3.out.free 2
      have e3 := Z3.out.free 3
      have e4 := Z3.out.free 4
      have e5 := Z3.out.free 5
      have e6 := Z3.out.free 6
      have e7 := Z3.out.free 7
      have e8 := Z3.out.free 8
      go_wp2
      have pb := rtake_clear P3.out
      have pz := take_fill (x := ⟨now, s.d, s.prior, M, s.rtt, s.acks, l, f, s.lim⟩) ((rtake_clear (Put.same P3.out.1)).other Z3.out (by omega))
      dsimp only at pz
      refine q_named (fun w4 => Put w w4 b 42 (rsam (takeF s)) ∧ At w4 w.heap.size 32 (cellsM ⟨now, s.d, s.prior, M, s.rtt, s.acks, l, f, s.lim⟩)) ⟨pb.new pz (Nat.le_refl _) (by omega), pz.1⟩ (fun w4 hw4 => ?_)
      obtain ⟨P4, Z4⟩ := hw4
      have q0 : w4.cell? ⟨w.heap.size, 0, none⟩ = some (.int .u64 now) := Z4.cell 0
      have q1 : w4.cell? ⟨w.heap.size, 1, none⟩ = some (.int .u64 s.d) := Z4.cell 1
      have q2 : w4.cell? ⟨w.heap.size, 2, none⟩ = some (.int .u64 s.prior) := Z4.cell 2
      have q3 : w4.cell? ⟨w.heap.size, 3, none⟩ = some (.int .u64 M) := Z4.cell 3
      have q4 : w4.cell? ⟨w.heap.size, 4, none⟩ = some (.int .u64 s.rtt) := Z4.cell 4
      have q5 : w4.cell? ⟨w.heap.size, 5, none⟩ = some (.int .u64 s.acks) := Z4.cell 5
      have q6 : w4.cell? ⟨w.heap.size, 6, none⟩ = some (.int .u64 l) := Z4.cell 6
      have q7 : w4.cell? ⟨w.heap.size, 7, none⟩ = some (.int .u64 f) := Z4.cell 7
      have q8 : w4.cell? ⟨w.heap.size, 8, none⟩ = some (.bool s.lim) := Z4.cell 8
      exact bodyPost_ret (v := smp ⟨now, s.d, s.prior, M, s.rtt, s.acks, l, f, s.lim⟩) (by simp [results, Try.results22, go_sem, smp, q0, q1, q2, q3, q4, q5, q6, q7, q8]) rfl ⟨rfl, P4⟩
end Go.Proofs.Ytojgpgjmcamfoaa
