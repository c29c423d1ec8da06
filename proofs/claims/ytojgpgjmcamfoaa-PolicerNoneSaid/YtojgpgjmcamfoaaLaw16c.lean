/- The rows of updates, and the walk of PolicerTells. -/
import Derived.Test.YtojgpgjmcamfoaaLaw16b
import Derived.Test.YtojgpgjmcamfoaaStructs
import Derived.StillTailTactics
namespace Go.Proofs.Ytojgpgjmcamfoaa
open Go.RowKit Go.Lib
set_option linter.unusedVariables false

/-- a slice of updates that came in -/
def PolRow (w : World) (a : Option Addr) (len : Nat) (f : Nat → Bool × SM) : Prop :=
  len ≤ 9223372036854775807 ∧ (∀ k, k < len → (f k).2.ok) ∧ (0 < len → ∃ b off, a = some ⟨b, off, none⟩ ∧ b < w.heap.size ∧ ∀ k, k < len →
    w.cell? ⟨b, off + k * 10, none⟩ = some (.bool (f k).1) ∧ w.cell? ⟨b, off + k * 10 + 1, none⟩ = some (.int .u64 (f k).2.now) ∧ w.cell? ⟨b, off + k * 10 + 2, none⟩ = some (.int .u64 (f k).2.delivered) ∧
    w.cell? ⟨b, off + k * 10 + 3, none⟩ = some (.int .u64 (f k).2.prior) ∧ w.cell? ⟨b, off + k * 10 + 4, none⟩ = some (.int .u64 (f k).2.interval) ∧ w.cell? ⟨b, off + k * 10 + 5, none⟩ = some (.int .u64 (f k).2.rtt) ∧
    w.cell? ⟨b, off + k * 10 + 6, none⟩ = some (.int .u64 (f k).2.acked) ∧ w.cell? ⟨b, off + k * 10 + 7, none⟩ = some (.int .u64 (f k).2.lost) ∧ w.cell? ⟨b, off + k * 10 + 8, none⟩ = some (.int .u64 (f k).2.flight) ∧
    w.cell? ⟨b, off + k * 10 + 9, none⟩ = some (.bool (f k).2.limited))
theorem polRow_of {w : World} {a : Option Addr} {len : Nat} (hl : len ≤ 9223372036854775807)
    (h : 0 < len → ∃ b off, a = some ⟨b, off, none⟩ ∧ b < w.heap.size ∧ ∀ k, k < len → ∃ (x0 : Bool) (x1 x2 x3 x4 x5 x6 x7 x8 : Int) (x9 : Bool),
      ((Lit.int .u64 x1).wf = true ∧ (Lit.int .u64 x2).wf = true ∧ (Lit.int .u64 x3).wf = true ∧ (Lit.int .u64 x4).wf = true ∧ (Lit.int .u64 x5).wf = true ∧ (Lit.int .u64 x6).wf = true ∧ (Lit.int .u64 x7).wf = true ∧ (Lit.int .u64 x8).wf = true) ∧
      w.cell? ⟨b, off + k * 10, none⟩ = some (.bool x0) ∧ w.cell? ⟨b, off + k * 10 + 1, none⟩ = some (.int .u64 x1) ∧ w.cell? ⟨b, off + k * 10 + 2, none⟩ = some (.int .u64 x2) ∧
      w.cell? ⟨b, off + k * 10 + 3, none⟩ = some (.int .u64 x3) ∧ w.cell? ⟨b, off + k * 10 + 4, none⟩ = some (.int .u64 x4) ∧ w.cell? ⟨b, off + k * 10 + 5, none⟩ = some (.int .u64 x5) ∧
      w.cell? ⟨b, off + k * 10 + 6, none⟩ = some (.int .u64 x6) ∧ w.cell? ⟨b, off + k * 10 + 7, none⟩ = some (.int .u64 x7) ∧ w.cell? ⟨b, off + k * 10 + 8, none⟩ = some (.int .u64 x8) ∧ w.cell? ⟨b, off + k * 10 + 9, none⟩ = some (.bool x9)) :
    ∃ f, PolRow w a len f := by
  rcases Nat.eq_zero_or_pos len with rfl | hp
  · exact ⟨fun _ => ⟨false, 0, 0, 0, 0, 0, 0, 0, 0, false⟩, by omega, fun k hk => by omega, fun h => by omega⟩
  · obtain ⟨b, off, ha, hb, hc⟩ := h hp
    have hc' : ∀ k, ∃ o : Bool × SM, k < len → o.2.ok ∧ (w.cell? ⟨b, off + k * 10, none⟩ = some (.bool o.1) ∧ w.cell? ⟨b, off + k * 10 + 1, none⟩ = some (.int .u64 o.2.now) ∧ w.cell? ⟨b, off + k * 10 + 2, none⟩ = some (.int .u64 o.2.delivered) ∧
      w.cell? ⟨b, off + k * 10 + 3, none⟩ = some (.int .u64 o.2.prior) ∧ w.cell? ⟨b, off + k * 10 + 4, none⟩ = some (.int .u64 o.2.interval) ∧ w.cell? ⟨b, off + k * 10 + 5, none⟩ = some (.int .u64 o.2.rtt) ∧
      w.cell? ⟨b, off + k * 10 + 6, none⟩ = some (.int .u64 o.2.acked) ∧ w.cell? ⟨b, off + k * 10 + 7, none⟩ = some (.int .u64 o.2.lost) ∧ w.cell? ⟨b, off + k * 10 + 8, none⟩ = some (.int .u64 o.2.flight) ∧
      w.cell? ⟨b, off + k * 10 + 9, none⟩ = some (.bool o.2.limited)) := by
      intro k
      by_cases hk : k < len
      · obtain ⟨x0, x1, x2, x3, x4, x5, x6, x7, x8, x9, ⟨g1, g2, g3, g4, g5, g6, g7, g8⟩, c0, c1, c2, c3, c4, c5, c6, c7, c8, c9⟩ := hc k hk
        obtain ⟨n1, rfl, h1⟩ := u64_of g1
        obtain ⟨n2, rfl, h2⟩ := u64_of g2
        obtain ⟨n3, rfl, h3⟩ := u64_of g3
        obtain ⟨n4, rfl, h4⟩ := u64_of g4
        obtain ⟨n5, rfl, h5⟩ := u64_of g5
        obtain ⟨n6, rfl, h6⟩ := u64_of g6
        obtain ⟨n7, rfl, h7⟩ := u64_of g7
        obtain ⟨n8, rfl, h8⟩ := u64_of g8
        exact ⟨⟨x0, n1, n2, n3, n4, n5, n6, n7, n8, x9⟩, fun _ => ⟨⟨h1, h2, h7⟩, c0, c1, c2, c3, c4, c5, c6, c7, c8, c9⟩⟩
      · exact ⟨⟨false, 0, 0, 0, 0, 0, 0, 0, 0, false⟩, fun h => absurd h hk⟩
    obtain ⟨f, hf⟩ := Classical.axiomOfChoice hc'
    exact ⟨f, hl, fun k hk => (hf k hk).1, fun _ => ⟨b, off, ha, hb, fun k hk => (hf k hk).2⟩⟩

def PolTellRel (w0 : World) (b len : Nat) (v5 : Value) (wr : World) : Prop :=
  ∃ (k : Nat) (s : PL), k ≤ len ∧ k ≤ 120 ∧ s.inv ∧ v5 = .int .i64 k ∧ Own w0 wr b 92 (pol s) ∧ Own w0 wr (b + 1) 66 (pol s)

set_option maxRecDepth 8000 in
set_option maxHeartbeats 4000000 in
theorem polTells_any (a : Option Addr) (len cap : Nat) (f : Nat → Bool × SM) (w : World) (hrow : PolRow w a len f) :
    Calls Try.prog 12 #[.slice a len cap] w fun e w' => e = .returned (.bool true) ∧ Below w.heap.size w w' := by
  obtain ⟨hlen, hwf, hrow⟩ := hrow
  have HW := Lib.hid hwf
  have HR := Lib.hid hrow
  clear hwf hrow
  go_enter Try.func12, Try.ntmps12
  go_wp2_with fail
  refine (polnew_any _).mono ?_; rintro e w1 ⟨rfl, hw1⟩
  have O1 : Hid (Own w (w1.alloc (.cells (pol pol0) 66)) w.heap.size 92 (pol pol0)) := by rw [hw1]; exact Lib.hid ((Own.made (Below.refl _ _) _ _).alloc _)
  have O2 : Hid (Own w (w1.alloc (.cells (pol pol0) 66)) (w.heap.size + 1) 66 (pol pol0)) := by
    have := Own.made (w0 := w) ((Below.refl w.heap.size w).alloc (Nat.le_refl _) (.cells (pol pol0) 92)) 66 (pol pol0)
    rw [hw1]
    exact Lib.hid (by simpa using this)
  have e1 : w1.heap.size = w.heap.size + 1 := by rw [hw1]; simp
  clear hw1
  go_wp2_with fail
  refine (awake16 _).mono ?_; rintro e w2 ⟨rfl, b2⟩
  have P1 := Lib.hid (O1.out.below b2)
  have P2 := Lib.hid (O2.out.below b2)
  clear b2
  go_wp2_with fail
  go_loopw [5] (fun v5 wr => PolTellRel w w.heap.size len v5 wr) (fun v5 _ => 120 - (intOf v5).toNat)
  case atStart => exact ⟨0, _, by omega, by omega, pol0_inv, rfl, P1.out, P2.out⟩
  case round =>
    obtain ⟨k, s, hk1, hk2, hok, rfl, hO, hP⟩ := hrel
    have HO := Lib.hid hO
    have HP := Lib.hid hP
    have HK := Lib.hid hok
    clear hO hP hok
    by_cases hlt : k < len ∧ k < 120
    · obtain ⟨lt1, lt2⟩ := hlt
      obtain ⟨b, off, rfl, hb, hc⟩ := HR.out (by omega)
      have hw := HW.out k lt1
      obtain ⟨c0, c1, c2, c3, c4, c5, c6, c7, c8, c9⟩ := hc k lt1
      have d0 := (HO.out.2.1.cell (p := ⟨b, off + k * 10, none⟩) hb).trans c0
      have d1 := (HO.out.2.1.cell (p := ⟨b, off + k * 10 + 1, none⟩) hb).trans c1
      have d2 := (HO.out.2.1.cell (p := ⟨b, off + k * 10 + 2, none⟩) hb).trans c2
      have d3 := (HO.out.2.1.cell (p := ⟨b, off + k * 10 + 3, none⟩) hb).trans c3
      have d4 := (HO.out.2.1.cell (p := ⟨b, off + k * 10 + 4, none⟩) hb).trans c4
      have d5 := (HO.out.2.1.cell (p := ⟨b, off + k * 10 + 5, none⟩) hb).trans c5
      have d6 := (HO.out.2.1.cell (p := ⟨b, off + k * 10 + 6, none⟩) hb).trans c6
      have d7 := (HO.out.2.1.cell (p := ⟨b, off + k * 10 + 7, none⟩) hb).trans c7
      have d8 := (HO.out.2.1.cell (p := ⟨b, off + k * 10 + 8, none⟩) hb).trans c8
      have d9 := (HO.out.2.1.cell (p := ⟨b, off + k * 10 + 9, none⟩) hb).trans c9
      generalize f k = o at *
      obtain ⟨start, x⟩ := o
      simp only at d0 d1 d2 d3 d4 d5 d6 d7 d8 d9 hw c0 c1 c2 c3 c4 c5 c6 c7 c8 c9
      have HC := Lib.hid (And.intro c0 (And.intro c1 (And.intro c2 (And.intro c3 (And.intro c4 (And.intro c5 (And.intro c6 (And.intro c7 (And.intro c8 c9)))))))))
      clear hc c0 c1 c2 c3 c4 c5 c6 c7 c8 c9
      have HX := Lib.hid hw
      clear hw
      have CU : Hid (∀ wq, At wq w.heap.size 92 (pol s) → Calls Try.prog 37 #[.pointer (some ⟨w.heap.size, 0, none⟩), .bool start, .agg #[.int .u64 x.now, .int .u64 x.delivered, .int .u64 x.prior, .int .u64 x.interval, .int .u64 x.rtt, .int .u64 x.acked, .int .u64 x.lost, .int .u64 x.flight, .bool x.limited]] wq
          fun e w' => e = .returned (.tuple #[]) ∧ Put wq w' w.heap.size 92 (pol (polF s start x))) := Lib.hid (fun wq h => pupd_any w.heap.size s start x wq h HK.out HX.out)
      have CR : Hid (∀ wq, At wq (w.heap.size + 1) 66 (pol s) → Calls Try.prog 38 #[.pointer (some ⟨w.heap.size + 1, 0, none⟩), .bool start, .agg #[.int .u64 x.now, .int .u64 x.delivered, .int .u64 x.prior, .int .u64 x.interval, .int .u64 x.rtt, .int .u64 x.acked, .int .u64 x.lost, .int .u64 x.flight, .bool x.limited]] wq
          fun e w' => e = .returned (.tuple #[]) ∧ Put wq w' (w.heap.size + 1) 66 (pol (polF s start x))) := Lib.hid (fun wq h => rpupd_any (w.heap.size + 1) s start x wq h HK.out HX.out)
      have HI := Lib.hid (polF_inv HK.out HX.out (start := start))
      go_wp2_with fail
      go_still_tail 11, (by kernel_rfl)
      go_wp2_with fail
      refine (CU.out _ HO.out.drew.1).mono ?_; rintro e w3 ⟨rfl, p3⟩
      have O3 := Lib.hid (HO.out.drew.put p3)
      have Q3 := Lib.hid (HP.out.drew.other p3 (by omega) (by omega))
      have g0 := p3.cell d0 (Nat.ne_of_lt hb)
      have g1 := p3.cell d1 (Nat.ne_of_lt hb)
      have g2 := p3.cell d2 (Nat.ne_of_lt hb)
      have g3 := p3.cell d3 (Nat.ne_of_lt hb)
      have g4 := p3.cell d4 (Nat.ne_of_lt hb)
      have g5 := p3.cell d5 (Nat.ne_of_lt hb)
      have g6 := p3.cell d6 (Nat.ne_of_lt hb)
      have g7 := p3.cell d7 (Nat.ne_of_lt hb)
      have g8 := p3.cell d8 (Nat.ne_of_lt hb)
      have g9 := p3.cell d9 (Nat.ne_of_lt hb)
      clear p3
      go_wp2_with fail
      go_still_tail 11, (by kernel_rfl)
      go_wp2_with fail
      refine (CR.out _ Q3.out.drew.1).mono ?_; rintro e w4 ⟨rfl, p4⟩
      have Q4 := Lib.hid (Q3.out.drew.put p4)
      have O4 := Lib.hid (O3.out.drew.other p4 (by omega) (by omega))
      clear p4 CU CR d0 d1 d2 d3 d4 d5 d6 d7 d8 d9 g0 g1 g2 g3 g4 g5 g6 g7 g8 g9
      generalize polF s start x = s2 at *
      have r2 : w4.cell? ⟨w.heap.size + 1, 2, none⟩ = some (.int .u64 s2.bw) := Q4.out.1.cell 2
      cases hu : s2.use
      · have r0 : w4.cell? ⟨w.heap.size + 1, 0, none⟩ = some (.bool false) := by rw [← hu]; exact Q4.out.1.cell 0
        have CE := Lib.hid (use_no w.heap.size s2 w4 O4.out.1 hu)
        clear hu
        go_wp2_with fail
        refine CE.out.mono ?_; rintro e w' ⟨rfl, rfl⟩
        go_wp2
        go_roundw
        case rel => exact ⟨k + 1, s2, by omega, by omega, HI.out, by simp, O4.out, Q4.out⟩
        case measure => simp [intOf]; omega
      · have r0 : w4.cell? ⟨w.heap.size + 1, 0, none⟩ = some (.bool true) := by rw [← hu]; exact Q4.out.1.cell 0
        have CE := Lib.hid (use_yes w.heap.size s2 w4 O4.out.1 hu)
        clear hu
        go_wp2_with fail
        refine CE.out.mono ?_; rintro e w' ⟨rfl, rfl⟩
        go_wp2
        go_roundw
        case rel => exact ⟨k + 1, s2, by omega, by omega, HI.out, by simp, O4.out, Q4.out⟩
        case measure => simp [intOf]; omega
    · have hx : decide (k < len) = false ∨ k < len ∧ 120 ≤ k := by simp; omega
      clear hlt
      rcases hx with hx | ⟨hx1, hx⟩
      all_goals
        go_wp2
        go_ret
        exact ⟨rfl, HO.out.2.1⟩
end Go.Proofs.Ytojgpgjmcamfoaa
