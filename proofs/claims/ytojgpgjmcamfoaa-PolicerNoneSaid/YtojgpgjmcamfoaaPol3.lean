/- The contract of policer's end. -/
import Derived.Test.YtojgpgjmcamfoaaPol2
import Derived.Laws.Bits64b
namespace Go.Proofs.Ytojgpgjmcamfoaa
open Go.RowKit Go.Lib
set_option linter.unusedVariables false

def nearF (a b : Nat) : Bool := decide (max a b - min a b ≤ a / 8)
def endF (s : PL) (x : SM) : PL :=
  if isF s x then (if decide (0 < s.bw) && nearF s.bw (bwF s x) then { s with bw := (s.bw + bwF s x) / 2, use := true, n := 0 } else beginF { s with bw := bwF s x } x) else s

theorem and_one (a b : Nat) (ha : a < 18446744073709551616) (hb : b < 18446744073709551616) : bits .and .u64 (bits .and .u64 (a : Int) (b : Int)) 1 = (((a % 2 + b % 2) / 2 : Nat) : Int) := by
  rw [bits_and_u64_nat _ _ ha hb]
  have h1 : a &&& b ≤ a := Nat.and_le_left
  have := bits_and_u64_nat (a &&& b) 1 (by omega) (by omega)
  simp only [Int.natCast_one] at this
  rw [this, Nat.and_one_is_mod, Nat.and_mod_two_pow (n := 1)]
  have h3 : a % 2 = 0 ∨ a % 2 = 1 := by omega
  have h4 : b % 2 = 0 ∨ b % 2 = 1 := by omega
  simp only [Nat.pow_one]
  rcases h3 with h3 | h3 <;> rcases h4 with h4 | h4 <;> rw [h3, h4] <;> rfl
theorem bwF_lt (s : PL) (x : SM) : bwF s x < 18446744073709551616 := mulDiv_lt _ _ _

set_option maxRecDepth 8000 in
theorem end_any (b : Nat) (s : PL) (x : SM) (w : World) (h : At w b 92 (pol s)) (hs : s.ok) (hx : x.ok) :
    Calls Try.prog 53 #[.pointer (some ⟨b, 0, none⟩), smp x] w fun e w' => e = .returned (.tuple #[]) ∧ Put w w' b 92 (pol (endF s x)) := by
  have HS := Lib.hid hs
  have HX := Lib.hid hx
  have H : Hid (At (w.alloc (.cells #[.int .u64 x.now, .int .u64 x.delivered, .int .u64 x.prior, .int .u64 x.interval, .int .u64 x.rtt, .int .u64 x.acked, .int .u64 x.lost, .int .u64 x.flight, .bool x.limited] 32)) b 92 (pol s)) := Lib.hid (h.kept (World.grownBy_alloc _ _ none) (by simp))
  have hlt := h.lt
  have HG := Lib.hid (((Put.same h).a (.cells #[.int .u64 x.now, .int .u64 x.delivered, .int .u64 x.prior, .int .u64 x.interval, .int .u64 x.rtt, .int .u64 x.acked, .int .u64 x.lost, .int .u64 x.flight, .bool x.limited] 32)))
  clear h hs hx
  unfold endF
  rcases Bool.eq_false_or_eq_true (isF s x) with hi | hi
  · rw [if_pos hi]
    have CM := Lib.hid (fun w h => measured_yes b s x w h HS.out HX.out hi)
    have hB := bwF_lt s x
    generalize bwF s x = B at *
    clear hi
    obtain ⟨P, hP⟩ : ∃ P, max s.bw B - min s.bw B = P := ⟨_, rfl⟩
    obtain ⟨E, hE⟩ : ∃ E, s.bw / 8 = E := ⟨_, rfl⟩
    have CA := apart_any s.bw B HS.out.1 hB
    rw [hP] at CA
    have CA := Lib.hid CA
    have q1 : (s.bw : Int) / 8 = E := by omega
    have q2 : (s.bw : Int).tdiv 8 = E := by rw [Int.tdiv_eq_ediv_of_nonneg (by omega)]; omega
    have q3 : IntKind.u64.wrap (E : Int) = E := by rw [IntKind.wrap_u64]; have := HS.out.1; omega
    have hN : nearF s.bw B = decide (P ≤ E) := by unfold nearF; rw [hP, hE]
    rw [hN]
    have HB := Lib.hid hB
    clear hN hP hE hB
    change Hid (∀ (w : World) (h : At w b 92 (pol s)), Calls Try.prog 60 #[.pointer (some ⟨b, 0, none⟩), .agg #[.int .u64 x.now, .int .u64 x.delivered, .int .u64 x.prior, .int .u64 x.interval, .int .u64 x.rtt, .int .u64 x.acked, .int .u64 x.lost, .int .u64 x.flight, .bool x.limited]] w _) at CM
    by_cases hn : 0 < s.bw
    · have y1 : decide (0 < s.bw) = true := by simpa using hn
      by_cases hm : P ≤ E
      · have y2 : decide (P ≤ E) = true := by simpa using hm
        rw [y1, y2, if_pos (by rfl)]
        clear hn hm
        obtain ⟨D1, i1⟩ : ∃ D, s.bw / 2 = D := ⟨_, rfl⟩
        obtain ⟨D2, i2⟩ : ∃ D, B / 2 = D := ⟨_, rfl⟩
        obtain ⟨G, i3⟩ : ∃ G, (s.bw % 2 + B % 2) / 2 = G := ⟨_, rfl⟩
        obtain ⟨M, i4⟩ : ∃ M, (s.bw + B) / 2 = M := ⟨_, rfl⟩
        have hb1 := HS.out.1
        have hb2 := HB.out
        have g3 := and_one s.bw B hb1 hb2
        rw [i3] at g3
        rw [i4]
        have j1 : (s.bw : Int) / 2 = D1 := by omega
        have j2 : (B : Int) / 2 = D2 := by omega
        have k1 : (s.bw : Int).tdiv 2 = D1 := by rw [Int.tdiv_eq_ediv_of_nonneg (by omega)]; omega
        have k2 : (B : Int).tdiv 2 = D2 := by rw [Int.tdiv_eq_ediv_of_nonneg (by omega)]; omega
        have r1 : IntKind.u64.wrap (D1 : Int) = D1 := by rw [IntKind.wrap_u64]; omega
        have r2 : IntKind.u64.wrap (D2 : Int) = D2 := by rw [IntKind.wrap_u64]; omega
        have r3 : IntKind.u64.wrap ((D1 : Int) + D2) = (D1 : Int) + D2 := by rw [IntKind.wrap_u64]; omega
        have r4 : IntKind.u64.wrap ((D1 : Int) + D2 + G) = M := by rw [IntKind.wrap_u64]; omega
        have HF := Lib.hid (And.intro g3 (And.intro j1 (And.intro j2 (And.intro k1 (And.intro k2 (And.intro r1 (And.intro r2 (And.intro r3 r4))))))))
        clear g3 j1 j2 k1 k2 r1 r2 r3 r4 i1 i2 i3 i4 hb1 hb2
        unfold smp
        go_enter Try.func53, Try.ntmps53
        go_wp2_with fail
        refine (CM.out _ H.out).mono ?_; rintro e w1 ⟨rfl, p1⟩
        have c0 : w1.cell? ⟨b, 0, none⟩ = some (.bool s.use) := p1.1.cell 0
        have c2 : w1.cell? ⟨b, 2, none⟩ = some (.int .u64 s.bw) := p1.1.cell 2
        have c3 : w1.cell? ⟨b, 3, none⟩ = some (.int .i64 s.n) := p1.1.cell 3
        have f0 := p1.1.free 0
        have f2 := p1.1.free 2
        have f3 := p1.1.free 3
        have P1 := Lib.hid (HG.out.then_ p1)
        clear p1
        go_wp2
        go_quiet ((go_at_call 61; exact still (CA.out _)))
        go_wp2
        obtain ⟨g3, j1, j2, k1, k2, r1, r2, r3, r4⟩ := HF.out
        clear q1 q2 q3
        go_region
        go_wp2
        go_end0
        exact ⟨rfl, (((P1.out.dn _).s 2 _).s 0 _).s 3 _⟩
      · have y2 : decide (P ≤ E) = false := by simpa using hm
        rw [y1, y2, if_neg (by simp)]
        clear hn hm
        unfold smp
        go_enter Try.func53, Try.ntmps53
        go_wp2_with fail
        refine (CM.out _ H.out).mono ?_; rintro e w1 ⟨rfl, p1⟩
        have c2 : w1.cell? ⟨b, 2, none⟩ = some (.int .u64 s.bw) := p1.1.cell 2
        have f2 := p1.1.free 2
        have A1 : At w1 w.heap.size 32 #[.int .u64 x.now, .int .u64 x.delivered, .int .u64 x.prior, .int .u64 x.interval, .int .u64 x.rtt, .int .u64 x.acked, .int .u64 x.lost, .int .u64 x.flight, .bool x.limited] := p1.other (At.made w _ _) (by omega)
        have e0 : w1.cell? ⟨w.heap.size, 0, none⟩ = some (.int .u64 x.now) := A1.cell 0
        have e1 : w1.cell? ⟨w.heap.size, 1, none⟩ = some (.int .u64 x.delivered) := A1.cell 1
        have e2 : w1.cell? ⟨w.heap.size, 2, none⟩ = some (.int .u64 x.prior) := A1.cell 2
        have e3 : w1.cell? ⟨w.heap.size, 3, none⟩ = some (.int .u64 x.interval) := A1.cell 3
        have e4 : w1.cell? ⟨w.heap.size, 4, none⟩ = some (.int .u64 x.rtt) := A1.cell 4
        have e5 : w1.cell? ⟨w.heap.size, 5, none⟩ = some (.int .u64 x.acked) := A1.cell 5
        have e6 : w1.cell? ⟨w.heap.size, 6, none⟩ = some (.int .u64 x.lost) := A1.cell 6
        have e7 : w1.cell? ⟨w.heap.size, 7, none⟩ = some (.int .u64 x.flight) := A1.cell 7
        have e8 : w1.cell? ⟨w.heap.size, 8, none⟩ = some (.bool x.limited) := A1.cell 8
        have hne := hlt
        clear A1
        have P1 := Lib.hid (HG.out.then_ p1)
        clear p1
        go_wp2
        go_quiet ((go_at_call 61; exact still (CA.out _)))
        go_wp2_with fail
        refine (begin_any b { s with bw := B } x _ ((P1.out.dn _).s 2 _).1).mono ?_; rintro e w2 ⟨rfl, p2⟩
        have P2 := Lib.hid (((P1.out.dn _).s 2 _).then_ p2)
        clear p2
        go_wp2
        go_end0
        exact ⟨rfl, P2.out⟩
    · have y1 : decide (0 < s.bw) = false := by simpa using hn
      rw [y1, if_neg (by simp)]
      clear hn
      unfold smp
      go_enter Try.func53, Try.ntmps53
      go_wp2_with fail
      refine (CM.out _ H.out).mono ?_; rintro e w1 ⟨rfl, p1⟩
      have c2 : w1.cell? ⟨b, 2, none⟩ = some (.int .u64 s.bw) := p1.1.cell 2
      have f2 := p1.1.free 2
      have A1 : At w1 w.heap.size 32 #[.int .u64 x.now, .int .u64 x.delivered, .int .u64 x.prior, .int .u64 x.interval, .int .u64 x.rtt, .int .u64 x.acked, .int .u64 x.lost, .int .u64 x.flight, .bool x.limited] := p1.other (At.made w _ _) (by omega)
      have e0 : w1.cell? ⟨w.heap.size, 0, none⟩ = some (.int .u64 x.now) := A1.cell 0
      have e1 : w1.cell? ⟨w.heap.size, 1, none⟩ = some (.int .u64 x.delivered) := A1.cell 1
      have e2 : w1.cell? ⟨w.heap.size, 2, none⟩ = some (.int .u64 x.prior) := A1.cell 2
      have e3 : w1.cell? ⟨w.heap.size, 3, none⟩ = some (.int .u64 x.interval) := A1.cell 3
      have e4 : w1.cell? ⟨w.heap.size, 4, none⟩ = some (.int .u64 x.rtt) := A1.cell 4
      have e5 : w1.cell? ⟨w.heap.size, 5, none⟩ = some (.int .u64 x.acked) := A1.cell 5
      have e6 : w1.cell? ⟨w.heap.size, 6, none⟩ = some (.int .u64 x.lost) := A1.cell 6
      have e7 : w1.cell? ⟨w.heap.size, 7, none⟩ = some (.int .u64 x.flight) := A1.cell 7
      have e8 : w1.cell? ⟨w.heap.size, 8, none⟩ = some (.bool x.limited) := A1.cell 8
      have hne := hlt
      clear A1
      have P1 := Lib.hid (HG.out.then_ p1)
      clear p1
      go_wp2
      go_quiet (fail)
      go_wp2_with fail
      refine (begin_any b { s with bw := B } x _ ((P1.out.dn _).s 2 _).1).mono ?_; rintro e w2 ⟨rfl, p2⟩
      have P2 := Lib.hid (((P1.out.dn _).s 2 _).then_ p2)
      clear p2
      go_wp2
      go_end0
      exact ⟨rfl, P2.out⟩
  · rw [if_neg (by simp [hi])]
    have CM := Lib.hid (fun w h => measured_no b s x w h HS.out HX.out hi)
    clear hi
    change Hid (∀ (w : World) (h : At w b 92 (pol s)), Calls Try.prog 60 #[.pointer (some ⟨b, 0, none⟩), .agg #[.int .u64 x.now, .int .u64 x.delivered, .int .u64 x.prior, .int .u64 x.interval, .int .u64 x.rtt, .int .u64 x.acked, .int .u64 x.lost, .int .u64 x.flight, .bool x.limited]] w _) at CM
    unfold smp
    go_enter Try.func53, Try.ntmps53
    go_wp2_with fail
    refine (CM.out _ H.out).mono ?_; rintro e w1 ⟨rfl, p1⟩
    have P1 := Lib.hid (HG.out.then_ p1)
    clear p1
    go_wp2
    go_end0
    exact ⟨rfl, P1.out⟩
end Go.Proofs.Ytojgpgjmcamfoaa
