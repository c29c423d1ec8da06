/- The contracts of the reference's policer: begin, stop, near, look. -/
import Derived.Test.YtojgpgjmcamfoaaPol3
import Derived.Deep.RegionWith
namespace Go.Proofs.Ytojgpgjmcamfoaa
open Go.RowKit Go.Lib
set_option linter.unusedVariables false

theorem rstop_any (b : Nat) (s : PL) (w : World) (h : At w b 66 (pol s)) (hu : s.use = false) :
    Calls Try.prog 54 #[.pointer (some ⟨b, 0, none⟩)] w fun e w' => e = .returned (.tuple #[]) ∧ Put w w' b 66 (pol (leaveF s)) := by
  have h1 : w.cell? ⟨b, 1, none⟩ = some (.bool s.samples) := h.cell 1
  have h2 : w.cell? ⟨b, 2, none⟩ = some (.int .u64 s.bw) := h.cell 2
  have f1 := h.free 1
  have f2 := h.free 2
  have H := Lib.hid h
  have e : leaveF s = { s with samples := false, bw := 0 } := by unfold leaveF; rw [hu]
  rw [e]
  clear h hu e
  go_enter Try.func54, Try.ntmps54
  go_wp2
  go_end0
  exact ⟨rfl, ((Put.same H.out).s 1 _).s 2 _⟩

theorem rbegin_any (b : Nat) (s : PL) (x : SM) (w : World) (h : At w b 66 (pol s)) :
    Calls Try.prog 55 #[.pointer (some ⟨b, 0, none⟩), smp x] w fun e w' => e = .returned (.tuple #[]) ∧ Put w w' b 66 (pol (beginF s x)) := by
  have h1 : w.cell? ⟨b, 1, none⟩ = some (.bool s.samples) := h.cell 1
  have h3 : w.cell? ⟨b, 3, none⟩ = some (.int .i64 s.n) := h.cell 3
  have h4 : w.cell? ⟨b, 4, none⟩ = some (.int .u64 s.lost) := h.cell 4
  have h5 : w.cell? ⟨b, 5, none⟩ = some (.int .u64 s.t0) := h.cell 5
  have h6 : w.cell? ⟨b, 6, none⟩ = some (.int .u64 s.d0) := h.cell 6
  have h7 : w.cell? ⟨b, 7, none⟩ = some (.int .u64 s.l0) := h.cell 7
  have f1 := h.free 1
  have f3 := h.free 3
  have f5 := h.free 5
  have f6 := h.free 6
  have f7 := h.free 7
  have hlt := h.lt
  have H := Lib.hid h
  clear h
  unfold smp
  go_enter Try.func55, Try.ntmps55
  go_wp2_with fail
  go_region
  go_wp2
  go_end0
  exact ⟨rfl, ((((((Put.same H.out).s 1 _).s 3 _).s 5 _).s 6 _).s 7 _).a _ |>.d⟩

theorem rnear_any (a b : Nat) (ha : a < 18446744073709551616) (hb : b < 18446744073709551616) (w : World) :
    Calls Try.prog 62 #[.int .u64 a, .int .u64 b] w fun e w' => e = .returned (.bool (nearF a b)) ∧ w = w' := by
  unfold nearF
  obtain ⟨E, hE⟩ : ∃ E, a / 8 = E := ⟨_, rfl⟩
  have q1 : (a : Int) / 8 = E := by omega
  have q2 : (a : Int).tdiv 8 = E := by rw [Int.tdiv_eq_ediv_of_nonneg (by omega)]; omega
  have q3 : IntKind.u64.wrap (E : Int) = E := by rw [IntKind.wrap_u64]; omega
  rw [hE]
  clear hE
  rcases Nat.le_total a b with h | h
  · rw [Nat.max_eq_right h, Nat.min_eq_left h]
    have y : decide ((b : Int) - a ≤ E) = decide (b - a ≤ E) := by rw [decide_eq_decide]; omega
    generalize decide (b - a ≤ E) = r at *
    go_enter Try.func62, Try.ntmps62
    go_wp2
    all_goals go_ret
    all_goals (refine ⟨?_, rfl⟩; rw [← y]; first | rfl | (show Ending.returned (Value.bool true) = _; congr 2; symm; rw [decide_eq_true_eq]; omega))
  · rw [Nat.max_eq_left h, Nat.min_eq_right h]
    have y : decide ((a : Int) - b ≤ E) = decide (a - b ≤ E) := by rw [decide_eq_decide]; omega
    generalize decide (a - b ≤ E) = r at *
    go_enter Try.func62, Try.ntmps62
    go_wp2
    all_goals go_ret
    all_goals (refine ⟨?_, rfl⟩; rw [← y]; first | rfl | (show Ending.returned (Value.bool true) = _; congr 2; symm; rw [decide_eq_true_eq]; omega))

set_option maxRecDepth 8000 in
set_option maxHeartbeats 1000000 in
theorem rlook_any (b : Nat) (s : PL) (x : SM) (w : World) (h : At w b 66 (pol s)) (hs : s.ok) (hx : x.ok) :
    Calls Try.prog 56 #[.pointer (some ⟨b, 0, none⟩), smp x] w fun e w' => e = .returned (.tuple #[]) ∧ Put w w' b 66 (pol (endF s x)) := by
  have h0 : w.cell? ⟨b, 0, none⟩ = some (.bool s.use) := h.cell 0
  have h2 : w.cell? ⟨b, 2, none⟩ = some (.int .u64 s.bw) := h.cell 2
  have h3 : w.cell? ⟨b, 3, none⟩ = some (.int .i64 s.n) := h.cell 3
  have h4 : w.cell? ⟨b, 4, none⟩ = some (.int .u64 s.lost) := h.cell 4
  have h5 : w.cell? ⟨b, 5, none⟩ = some (.int .u64 s.t0) := h.cell 5
  have h6 : w.cell? ⟨b, 6, none⟩ = some (.int .u64 s.d0) := h.cell 6
  have h7 : w.cell? ⟨b, 7, none⟩ = some (.int .u64 s.l0) := h.cell 7
  have f0 := h.free 0
  have f2 := h.free 2
  have f3 := h.free 3
  have hlt := h.lt
  have P0 := Lib.hid ((Put.same h).a (.cells #[.int .u64 x.now, .int .u64 x.delivered, .int .u64 x.prior, .int .u64 x.interval, .int .u64 x.rtt, .int .u64 x.acked, .int .u64 x.lost, .int .u64 x.flight, .bool x.limited] 32))
  clear h
  obtain ⟨k1, k2, k3, k4, k5⟩ := hs
  obtain ⟨k6, k7, k8⟩ := hx
  have C1 := Lib.hid (rsub_any x.delivered s.d0 k7 k4)
  have C2 := Lib.hid (rsub_any s.lost s.l0 k2 k5)
  have C3 := Lib.hid (rsub_any x.now s.t0 k6 k3)
  have md : dF s x < 18446744073709551616 := satSub_lt k7
  have mt : tF s x < 18446744073709551616 := satSub_lt k6
  have hB : mulDiv (dF s x) 1000000000 (tF s x) < 18446744073709551616 := mulDiv_lt _ _ _
  have C4 : Hid (∀ w : World, Calls Try.prog 59 #[.int .u64 (dF s x : Nat), .int .u64 50, .int .u64 256] w fun e w' => e = .returned (.int .u64 (mulDiv (dF s x) 50 256 : Nat)) ∧ w = w') := Lib.hid (rmuldiv_any (dF s x) 50 256 md (by omega) (by omega))
  have C5 : Hid (∀ w : World, Calls Try.prog 59 #[.int .u64 (dF s x : Nat), .int .u64 1000000000, .int .u64 (tF s x : Nat)] w fun e w' => e = .returned (.int .u64 (mulDiv (dF s x) 1000000000 (tF s x) : Nat)) ∧ w = w') := Lib.hid (rmuldiv_any (dF s x) 1000000000 (tF s x) md (by omega) mt)
  unfold endF isF bwF
  change Hid (∀ w, Calls Try.prog _ _ w fun e w' => e = .returned (.int .u64 (dF s x : Nat)) ∧ _) at C1
  change Hid (∀ w, Calls Try.prog _ _ w fun e w' => e = .returned (.int .u64 (lF s : Nat)) ∧ _) at C2
  change Hid (∀ w, Calls Try.prog _ _ w fun e w' => e = .returned (.int .u64 (tF s x : Nat)) ∧ _) at C3
  clear md mt
  generalize dF s x = D at *
  generalize tF s x = T at *
  generalize lF s = L at *
  generalize mulDiv D 50 256 = Q at *
  generalize mulDiv D 1000000000 T = B at *
  unfold smp
  by_cases hD : D = 0
  · have y1 : ((D : Int) == 0) = true := by rw [beq_iff_eq]; omega
    rw [if_neg (by simp [hD])]
    clear hD hB
    go_enter Try.func56, Try.ntmps56
    go_wp2_with fail
    go_quiet ((go_at_call 45; first | with_reducible exact still (C1.out _) | with_reducible exact still (C2.out _) | with_reducible exact still (C3.out _)))
    go_wp2
    all_goals (first | go_end0 | refine bodyPost_ret (results_none rfl _ _ _) rfl ?_)
    all_goals exact ⟨rfl, P0.out.dn _⟩
  have y1 : ((D : Int) == 0) = false := by rw [beq_eq_false_iff_ne]; omega
  by_cases hT : T = 0
  · have y2 : ((T : Int) == 0) = true := by rw [beq_iff_eq]; omega
    rw [if_neg (by simp [hT])]
    clear hT hD hB
    go_enter Try.func56, Try.ntmps56
    go_wp2_with fail
    go_quiet ((go_at_call 45; first | with_reducible exact still (C1.out _) | with_reducible exact still (C2.out _) | with_reducible exact still (C3.out _)))
    go_wp2
    all_goals (first | go_end0 | refine bodyPost_ret (results_none rfl _ _ _) rfl ?_)
    all_goals exact ⟨rfl, P0.out.dn _⟩
  have y2 : ((T : Int) == 0) = false := by rw [beq_eq_false_iff_ne]; omega
  by_cases hL : L < Q
  · have y5 : decide (L < Q) = true := by simpa using hL
    rw [if_neg (by simp; omega)]
    clear hL hD hT hB
    go_enter Try.func56, Try.ntmps56
    go_wp2_with fail
    go_quiet ((go_at_call 45; first | with_reducible exact still (C1.out _) | with_reducible exact still (C2.out _) | with_reducible exact still (C3.out _)))
    go_wp2_with fail
    refine (C4.out _).mono ?_; rintro e w' ⟨rfl, rfl⟩
    go_wp2
    all_goals (first | go_end0 | refine bodyPost_ret (results_none rfl _ _ _) rfl ?_)
    all_goals exact ⟨rfl, P0.out.dn _⟩
  have y5 : decide (L < Q) = false := by simpa using hL
  rw [if_pos (by simp; omega)]
  clear hL hD hT
  have CN := Lib.hid (rnear_any s.bw B k1 hB)
  have HB := Lib.hid hB
  have HS1 := Lib.hid k1
  clear hB k1 k2 k3 k4 k5 k6 k7 k8
  by_cases hn : 0 < s.bw
  · have y6 : decide (0 < s.bw) = true := by simpa using hn
    rw [y6, Bool.true_and]
    cases hm : nearF s.bw B
    · rw [if_neg (by simp)]
      rw [hm] at CN
      clear hn hm
      go_enter Try.func56, Try.ntmps56
      go_wp2_with fail
      go_quiet ((go_at_call 45; first | with_reducible exact still (C1.out _) | with_reducible exact still (C2.out _) | with_reducible exact still (C3.out _)))
      go_wp2_with fail
      refine (C4.out _).mono ?_; rintro e w' ⟨rfl, rfl⟩
      go_wp2_with fail
      refine (C5.out _).mono ?_; rintro e w' ⟨rfl, rfl⟩
      go_wp2_with fail
      refine (CN.out _).mono ?_; rintro e w' ⟨rfl, rfl⟩
      go_wp2_with fail
      refine (rbegin_any b { s with bw := B } x _ ((P0.out.dn _).s 2 _).1).mono ?_; rintro e w2 ⟨rfl, p2⟩
      have P2 := Lib.hid (((P0.out.dn _).s 2 _).then_ p2)
      clear p2
      go_wp2
      (first | go_end0 | refine bodyPost_ret (results_none rfl _ _ _) rfl ?_)
      exact ⟨rfl, P2.out⟩
    · rw [if_pos rfl]
      rw [hm] at CN
      obtain ⟨D1, i1⟩ : ∃ D, s.bw / 2 = D := ⟨_, rfl⟩
      obtain ⟨D2, i2⟩ : ∃ D, B / 2 = D := ⟨_, rfl⟩
      obtain ⟨R1, i3⟩ : ∃ D, s.bw % 2 = D := ⟨_, rfl⟩
      obtain ⟨R2, i4⟩ : ∃ D, B % 2 = D := ⟨_, rfl⟩
      obtain ⟨G, i5⟩ : ∃ G, (R1 + R2) / 2 = G := ⟨_, rfl⟩
      obtain ⟨M, i6⟩ : ∃ M, (s.bw + B) / 2 = M := ⟨_, rfl⟩
      rw [i6]
      have hb1 := HS1.out
      have hb2 := HB.out
      have j1 : (s.bw : Int) / 2 = D1 := by omega
      have j2 : (B : Int) / 2 = D2 := by omega
      have j3 : (s.bw : Int) % 2 = R1 := by omega
      have j4 : (B : Int) % 2 = R2 := by omega
      have j5 : ((R1 : Int) + R2) / 2 = G := by omega
      have k1 : (s.bw : Int).tdiv 2 = D1 := by rw [Int.tdiv_eq_ediv_of_nonneg (by omega)]; omega
      have k2 : (B : Int).tdiv 2 = D2 := by rw [Int.tdiv_eq_ediv_of_nonneg (by omega)]; omega
      have k3 : (s.bw : Int).tmod 2 = R1 := by rw [Int.tmod_eq_emod_of_nonneg (by omega)]; omega
      have k4 : (B : Int).tmod 2 = R2 := by rw [Int.tmod_eq_emod_of_nonneg (by omega)]; omega
      have k5 : ((R1 : Int) + R2).tdiv 2 = G := by rw [Int.tdiv_eq_ediv_of_nonneg (by omega)]; omega
      have r1 : IntKind.u64.wrap (D1 : Int) = D1 := by rw [IntKind.wrap_u64]; omega
      have r2 : IntKind.u64.wrap (D2 : Int) = D2 := by rw [IntKind.wrap_u64]; omega
      have r3 : IntKind.u64.wrap ((D1 : Int) + D2) = (D1 : Int) + D2 := by rw [IntKind.wrap_u64]; omega
      have r4 : IntKind.u64.wrap ((D1 : Int) + D2 + G) = M := by rw [IntKind.wrap_u64]; omega
      have r5 : IntKind.u64.wrap (R1 : Int) = R1 := by rw [IntKind.wrap_u64]; omega
      have r6 : IntKind.u64.wrap (R2 : Int) = R2 := by rw [IntKind.wrap_u64]; omega
      have r7 : IntKind.u64.wrap ((R1 : Int) + R2) = (R1 : Int) + R2 := by rw [IntKind.wrap_u64]; omega
      have r8 : IntKind.u64.wrap (G : Int) = G := by rw [IntKind.wrap_u64]; omega
      have HF := Lib.hid (And.intro j1 (And.intro j2 (And.intro j3 (And.intro j4 (And.intro j5 (And.intro k1 (And.intro k2 (And.intro k3 (And.intro k4 (And.intro k5 (And.intro r1 (And.intro r2 (And.intro r3 (And.intro r4 (And.intro r5 (And.intro r6 (And.intro r7 r8)))))))))))))))))
      clear j1 j2 j3 j4 j5 k1 k2 k3 k4 k5 r1 r2 r3 r4 r5 r6 r7 r8 i1 i2 i3 i4 i5 i6 hb1 hb2 hn hm
      go_enter Try.func56, Try.ntmps56
      go_wp2_with fail
      go_quiet ((go_at_call 45; first | with_reducible exact still (C1.out _) | with_reducible exact still (C2.out _) | with_reducible exact still (C3.out _)))
      go_wp2_with fail
      refine (C4.out _).mono ?_; rintro e w' ⟨rfl, rfl⟩
      go_wp2_with fail
      refine (C5.out _).mono ?_; rintro e w' ⟨rfl, rfl⟩
      go_wp2_with fail
      refine (CN.out _).mono ?_; rintro e w' ⟨rfl, rfl⟩
      go_wp2
      obtain ⟨j1, j2, j3, j4, j5, k1, k2, k3, k4, k5, r1, r2, r3, r4, r5, r6, r7, r8⟩ := HF.out
      go_region
      go_wp2
      (first | go_end0 | refine bodyPost_ret (results_none rfl _ _ _) rfl ?_)
      exact ⟨rfl, (((P0.out.dn _).s 2 _).s 0 _).s 3 _⟩
  · have y6 : decide (0 < s.bw) = false := by simpa using hn
    rw [if_neg (by simp [y6])]
    clear hn
    go_enter Try.func56, Try.ntmps56
    go_wp2_with fail
    go_quiet ((go_at_call 45; first | with_reducible exact still (C1.out _) | with_reducible exact still (C2.out _) | with_reducible exact still (C3.out _)))
    go_wp2_with fail
    refine (C4.out _).mono ?_; rintro e w' ⟨rfl, rfl⟩
    go_wp2_with fail
    refine (C5.out _).mono ?_; rintro e w' ⟨rfl, rfl⟩
    go_wp2_with fail
    refine (rbegin_any b { s with bw := B } x _ ((P0.out.dn _).s 2 _).1).mono ?_; rintro e w2 ⟨rfl, p2⟩
    have P2 := Lib.hid (((P0.out.dn _).s 2 _).then_ p2)
    clear p2
    go_wp2
    (first | go_end0 | refine bodyPost_ret (results_none rfl _ _ _) rfl ?_)
    exact ⟨rfl, P2.out⟩
end Go.Proofs.Ytojgpgjmcamfoaa
