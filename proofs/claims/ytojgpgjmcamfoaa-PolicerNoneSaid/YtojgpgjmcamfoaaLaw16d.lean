/- The walk of PolicerNone. -/
import Derived.Test.YtojgpgjmcamfoaaLaw16c
namespace Go.Proofs.Ytojgpgjmcamfoaa
open Go.RowKit Go.Lib
set_option linter.unusedVariables false

def setL (x : SM) : SM := { x with lost := 0 }
def setM (x : SM) : SM := { x with limited := true }
theorem none_lost {s : PL} (st : Bool) (x : SM) (h : s.use = false ∧ s.samples = false) : (polF s st (setL x)).use = false ∧ (polF s st (setL x)).samples = false := by
  rw [polF_rest h.1 h.2 rfl]
  exact h
theorem none_lim {s : PL} (st : Bool) (x : SM) (h : s.use = false) : (polF s st (setM x)).use = false := by
  unfold polF
  rw [if_neg (by simp [h])]
  split
  · rw [if_pos (by rfl)]; rfl
  · split
    · exact h
    · exact h
theorem ok_lost {x : SM} (h : x.ok) : (setL x).ok := ⟨h.1, h.2.1, by simp [setL]⟩
theorem ok_lim {x : SM} (h : x.ok) : (setM x).ok := h

def PolNoneRel (w0 : World) (b len : Nat) (v5 : Value) (wr : World) : Prop :=
  ∃ (k : Nat) (s s' : PL), k ≤ len ∧ k ≤ 100 ∧ s.inv ∧ s'.inv ∧ (s.use = false ∧ s.samples = false) ∧ s'.use = false ∧ v5 = .int .i64 k ∧ Own w0 wr b 92 (pol s) ∧ Own w0 wr (b + 1) 92 (pol s')

set_option maxRecDepth 8000 in
set_option maxHeartbeats 4000000 in
theorem polNone_any (a : Option Addr) (len cap : Nat) (f : Nat → Bool × SM) (w : World) (hrow : PolRow w a len f) :
    Calls Try.prog 14 #[.slice a len cap] w fun e w' => e = .returned (.bool true) ∧ Below w.heap.size w w' := by
  obtain ⟨hlen, hwf, hrow⟩ := hrow
  have HW := Lib.hid hwf
  have HR := Lib.hid hrow
  clear hwf hrow
  go_enter Try.func14, Try.ntmps14
  go_wp2_with fail
  refine (polnew_any _).mono ?_; rintro e w1 ⟨rfl, hw1⟩
  have O0 : Hid (Own w w1 w.heap.size 92 (pol pol0)) := by rw [hw1]; exact Lib.hid (Own.made (Below.refl _ _) _ _)
  have e1 : w1.heap.size = w.heap.size + 1 := by rw [hw1]; simp
  clear hw1
  go_wp2_with fail
  refine (polnew_any _).mono ?_; rintro e w2 ⟨rfl, hw2⟩
  have P1 : Hid (Own w w2 w.heap.size 92 (pol pol0)) := by rw [hw2]; exact Lib.hid (O0.out.alloc _)
  have P2 : Hid (Own w w2 (w.heap.size + 1) 92 (pol pol0)) := by
    have := Own.made O0.out.2.1 92 (pol pol0)
    rw [e1] at this
    rw [hw2]
    exact Lib.hid this
  clear hw2
  go_wp2_with fail
  refine (awake16 _).mono ?_; rintro e w3 ⟨rfl, b2⟩
  have R1 := Lib.hid (P1.out.below b2)
  have R2 := Lib.hid (P2.out.below b2)
  clear b2
  go_wp2_with fail
  go_loopw [5] (fun v5 wr => PolNoneRel w w.heap.size len v5 wr) (fun v5 _ => 100 - (intOf v5).toNat)
  case atStart => exact ⟨0, _, _, by omega, by omega, pol0_inv, pol0_inv, ⟨rfl, rfl⟩, rfl, rfl, R1.out, R2.out⟩
  case round =>
    obtain ⟨k, s, s', hk1, hk2, hok, hok', hu, hu', rfl, hO, hP⟩ := hrel
    have HO := Lib.hid hO
    have HP := Lib.hid hP
    have HK := Lib.hid hok
    have HK' := Lib.hid hok'
    have HU := Lib.hid hu
    have HU' := Lib.hid hu'
    clear hO hP hok hok' hu hu'
    by_cases hlt : k < len ∧ k < 100
    · obtain ⟨lt1, lt2⟩ := hlt
      obtain ⟨b, off, rfl, hb, hc⟩ := HR.out (by omega)
      have hw := HW.out k lt1
      obtain ⟨c0, c1, c2, c3, c4, c5, c6, c7, c8, c9⟩ := hc k lt1
      have d0 := (HO.out.2.1.cell (p := ⟨b, off + k * 10, none⟩) hb).trans c0
      have d1 := (HO.out.2.1.cell (p := ⟨b, off + k * 10 + 1, none⟩) hb).trans c1
      have d2 := (HO.out.2.1.cell (p := ⟨b, off + k * 10 + 2, none⟩) hb).trans c2
      have d3 := (HO.out.2.1.cell (p := ⟨b, off + k * 10 + 3, none⟩) hb).trans c3
      have d4 := (HO.out.2.1.cell (p := ⟨b, off + k * 10 + 4, none⟩) hb).trans c4
      have d5 := (HO.out.2.1.cell (p := ⟨b, off + k * 10 + 5, none⟩) hb).trans c5
      have d6 := (HO.out.2.1.cell (p := ⟨b, off + k * 10 + 6, none⟩) hb).trans c6
      have d7 := (HO.out.2.1.cell (p := ⟨b, off + k * 10 + 7, none⟩) hb).trans c7
      have d8 := (HO.out.2.1.cell (p := ⟨b, off + k * 10 + 8, none⟩) hb).trans c8
      have d9 := (HO.out.2.1.cell (p := ⟨b, off + k * 10 + 9, none⟩) hb).trans c9
      generalize f k = o at *
      obtain ⟨start, x⟩ := o
      simp only at d0 d1 d2 d3 d4 d5 d6 d7 d8 d9 hw c0 c1 c2 c3 c4 c5 c6 c7 c8 c9
      have HC := Lib.hid (And.intro c0 (And.intro c1 (And.intro c2 (And.intro c3 (And.intro c4 (And.intro c5 (And.intro c6 (And.intro c7 (And.intro c8 c9)))))))))
      clear hc c0 c1 c2 c3 c4 c5 c6 c7 c8 c9
      have HX := Lib.hid hw
      clear hw
      have hsz : w.heap.size < wr.heap.size := HO.out.1.lt
      have hb1 : b < wr.heap.size := Nat.lt_trans hb hsz
      have CU : Hid (∀ wq, At wq w.heap.size 92 (pol s) → Calls Try.prog 37 #[.pointer (some ⟨w.heap.size, 0, none⟩), .bool start, .agg #[.int .u64 x.now, .int .u64 x.delivered, .int .u64 x.prior, .int .u64 x.interval, .int .u64 x.rtt, .int .u64 x.acked, .int .u64 0, .int .u64 x.flight, .bool x.limited]] wq fun e w' => e = .returned (.tuple #[]) ∧ Put wq w' (w.heap.size) 92 (pol (polF s start (setL x)))) := Lib.hid (fun wq h => pupd_any w.heap.size s start (setL x) wq h HK.out (ok_lost HX.out))
      have CV : Hid (∀ wq, At wq (w.heap.size + 1) 92 (pol s') → Calls Try.prog 37 #[.pointer (some ⟨w.heap.size + 1, 0, none⟩), .bool start, .agg #[.int .u64 x.now, .int .u64 x.delivered, .int .u64 x.prior, .int .u64 x.interval, .int .u64 x.rtt, .int .u64 x.acked, .int .u64 x.lost, .int .u64 x.flight, .bool true]] wq fun e w' => e = .returned (.tuple #[]) ∧ Put wq w' (w.heap.size + 1) 92 (pol (polF s' start (setM x)))) := Lib.hid (fun wq h => pupd_any (w.heap.size + 1) s' start (setM x) wq h HK'.out (ok_lim HX.out))
      have I1 := Lib.hid (polF_inv HK.out (ok_lost HX.out) (start := start))
      have I2 := Lib.hid (polF_inv HK'.out (ok_lim HX.out) (start := start))
      have N1 := Lib.hid (none_lost start x HU.out)
      have N2 := Lib.hid (none_lim start x HU'.out)
      generalize polF s start (setL x) = s2 at *
      generalize polF s' start (setM x) = s3 at *
      have hsz2 : w.heap.size + 1 < wr.heap.size := HP.out.1.lt
      have HO4 : Hid (Own w (((wr.alloc (.cells #[.int .u64 x.now, .int .u64 x.delivered, .int .u64 x.prior, .int .u64 x.interval, .int .u64 x.rtt, .int .u64 x.acked, .int .u64 x.lost, .int .u64 x.flight, .bool x.limited] 32)).alloc (.cells #[.int .u64 x.now, .int .u64 x.delivered, .int .u64 x.prior, .int .u64 x.interval, .int .u64 x.rtt, .int .u64 x.acked, .int .u64 x.lost, .int .u64 x.flight, .bool x.limited] 32)).drew) w.heap.size 92 (pol s)) := Lib.hid (((HO.out.alloc _).alloc _).drew)
      have HP4 : Hid (Own w (((wr.alloc (.cells #[.int .u64 x.now, .int .u64 x.delivered, .int .u64 x.prior, .int .u64 x.interval, .int .u64 x.rtt, .int .u64 x.acked, .int .u64 x.lost, .int .u64 x.flight, .bool x.limited] 32)).alloc (.cells #[.int .u64 x.now, .int .u64 x.delivered, .int .u64 x.prior, .int .u64 x.interval, .int .u64 x.rtt, .int .u64 x.acked, .int .u64 x.lost, .int .u64 x.flight, .bool x.limited] 32)).drew) (w.heap.size + 1) 92 (pol s')) := Lib.hid (((HP.out.alloc _).alloc _).drew)
      have A6 : Hid (At (((wr.alloc (.cells #[.int .u64 x.now, .int .u64 x.delivered, .int .u64 x.prior, .int .u64 x.interval, .int .u64 x.rtt, .int .u64 x.acked, .int .u64 x.lost, .int .u64 x.flight, .bool x.limited] 32)).alloc (.cells #[.int .u64 x.now, .int .u64 x.delivered, .int .u64 x.prior, .int .u64 x.interval, .int .u64 x.rtt, .int .u64 x.acked, .int .u64 x.lost, .int .u64 x.flight, .bool x.limited] 32)).drew) wr.heap.size 32 (cellsS x)) := Lib.hid (by
        have := (At.made wr 32 #[.int .u64 x.now, .int .u64 x.delivered, .int .u64 x.prior, .int .u64 x.interval, .int .u64 x.rtt, .int .u64 x.acked, .int .u64 x.lost, .int .u64 x.flight, .bool x.limited]).kept (World.grownBy_alloc (wr.alloc (.cells #[.int .u64 x.now, .int .u64 x.delivered, .int .u64 x.prior, .int .u64 x.interval, .int .u64 x.rtt, .int .u64 x.acked, .int .u64 x.lost, .int .u64 x.flight, .bool x.limited] 32)) (.cells #[.int .u64 x.now, .int .u64 x.delivered, .int .u64 x.prior, .int .u64 x.interval, .int .u64 x.rtt, .int .u64 x.acked, .int .u64 x.lost, .int .u64 x.flight, .bool x.limited] 32) none) (by simp)
        exact this)
      have A7 : Hid (At (((wr.alloc (.cells #[.int .u64 x.now, .int .u64 x.delivered, .int .u64 x.prior, .int .u64 x.interval, .int .u64 x.rtt, .int .u64 x.acked, .int .u64 x.lost, .int .u64 x.flight, .bool x.limited] 32)).alloc (.cells #[.int .u64 x.now, .int .u64 x.delivered, .int .u64 x.prior, .int .u64 x.interval, .int .u64 x.rtt, .int .u64 x.acked, .int .u64 x.lost, .int .u64 x.flight, .bool x.limited] 32)).drew) (wr.heap.size + 1) 32 (cellsS x)) := Lib.hid (by
        have := At.made (wr.alloc (.cells #[.int .u64 x.now, .int .u64 x.delivered, .int .u64 x.prior, .int .u64 x.interval, .int .u64 x.rtt, .int .u64 x.acked, .int .u64 x.lost, .int .u64 x.flight, .bool x.limited] 32)) 32 #[.int .u64 x.now, .int .u64 x.delivered, .int .u64 x.prior, .int .u64 x.interval, .int .u64 x.rtt, .int .u64 x.acked, .int .u64 x.lost, .int .u64 x.flight, .bool x.limited]
        rw [show (wr.alloc (.cells #[.int .u64 x.now, .int .u64 x.delivered, .int .u64 x.prior, .int .u64 x.interval, .int .u64 x.rtt, .int .u64 x.acked, .int .u64 x.lost, .int .u64 x.flight, .bool x.limited] 32)).heap.size = wr.heap.size + 1 from by simp] at this
        exact this)
      have D0 : Hid ((((wr.alloc (.cells #[.int .u64 x.now, .int .u64 x.delivered, .int .u64 x.prior, .int .u64 x.interval, .int .u64 x.rtt, .int .u64 x.acked, .int .u64 x.lost, .int .u64 x.flight, .bool x.limited] 32)).alloc (.cells #[.int .u64 x.now, .int .u64 x.delivered, .int .u64 x.prior, .int .u64 x.interval, .int .u64 x.rtt, .int .u64 x.acked, .int .u64 x.lost, .int .u64 x.flight, .bool x.limited] 32)).drew).cell? ⟨b, off + k * 10, none⟩ = some (.bool start)) := Lib.hid (by
        have := ((Below.refl wr.heap.size wr).alloc (Nat.le_refl _) (.cells #[.int .u64 x.now, .int .u64 x.delivered, .int .u64 x.prior, .int .u64 x.interval, .int .u64 x.rtt, .int .u64 x.acked, .int .u64 x.lost, .int .u64 x.flight, .bool x.limited] 32)).alloc (by simp) (.cells #[.int .u64 x.now, .int .u64 x.delivered, .int .u64 x.prior, .int .u64 x.interval, .int .u64 x.rtt, .int .u64 x.acked, .int .u64 x.lost, .int .u64 x.flight, .bool x.limited] 32)
        exact (this.cell (p := ⟨b, off + k * 10, none⟩) hb1).trans d0)
      go_wp2_with fail
      go_region
      · clear d0 d1 d2 d3 d4 d5 d6 d7 d8 d9
        generalize (((wr.alloc (.cells #[.int .u64 x.now, .int .u64 x.delivered, .int .u64 x.prior, .int .u64 x.interval, .int .u64 x.rtt, .int .u64 x.acked, .int .u64 x.lost, .int .u64 x.flight, .bool x.limited] 32)).alloc (.cells #[.int .u64 x.now, .int .u64 x.delivered, .int .u64 x.prior, .int .u64 x.interval, .int .u64 x.rtt, .int .u64 x.acked, .int .u64 x.lost, .int .u64 x.flight, .bool x.limited] 32)).drew) = w4 at *
        have AP := A6
        have AQ := A7
        generalize wr.heap.size = z at *
        have a0 : w4.cell? ⟨z, 0, none⟩ = some (.int .u64 x.now) := AP.out.cell 0
        have a1 : w4.cell? ⟨z, 1, none⟩ = some (.int .u64 x.delivered) := AP.out.cell 1
        have a2 : w4.cell? ⟨z, 2, none⟩ = some (.int .u64 x.prior) := AP.out.cell 2
        have a3 : w4.cell? ⟨z, 3, none⟩ = some (.int .u64 x.interval) := AP.out.cell 3
        have a4 : w4.cell? ⟨z, 4, none⟩ = some (.int .u64 x.rtt) := AP.out.cell 4
        have a5 : w4.cell? ⟨z, 5, none⟩ = some (.int .u64 x.acked) := AP.out.cell 5
        have a6 : w4.cell? ⟨z, 6, none⟩ = some (.int .u64 x.lost) := AP.out.cell 6
        have a7 : w4.cell? ⟨z, 7, none⟩ = some (.int .u64 x.flight) := AP.out.cell 7
        have a8 : w4.cell? ⟨z, 8, none⟩ = some (.bool x.limited) := AP.out.cell 8
        have q0 : w4.cell? ⟨z + 1, 0, none⟩ = some (.int .u64 x.now) := AQ.out.cell 0
        have q1 : w4.cell? ⟨z + 1, 1, none⟩ = some (.int .u64 x.delivered) := AQ.out.cell 1
        have q2 : w4.cell? ⟨z + 1, 2, none⟩ = some (.int .u64 x.prior) := AQ.out.cell 2
        have q3 : w4.cell? ⟨z + 1, 3, none⟩ = some (.int .u64 x.interval) := AQ.out.cell 3
        have q4 : w4.cell? ⟨z + 1, 4, none⟩ = some (.int .u64 x.rtt) := AQ.out.cell 4
        have q5 : w4.cell? ⟨z + 1, 5, none⟩ = some (.int .u64 x.acked) := AQ.out.cell 5
        have q6 : w4.cell? ⟨z + 1, 6, none⟩ = some (.int .u64 x.lost) := AQ.out.cell 6
        have q7 : w4.cell? ⟨z + 1, 7, none⟩ = some (.int .u64 x.flight) := AQ.out.cell 7
        have q8 : w4.cell? ⟨z + 1, 8, none⟩ = some (.bool x.limited) := AQ.out.cell 8
        have fa := AP.out.free 6
        have fq := AQ.out.free 8
        have p1 : Put w4 (w4.setCell ⟨z, 6, none⟩ (.int .u64 0)) (z) 32 _ := Put.set AP.out 6
        have p2 : Put (w4.setCell ⟨z, 6, none⟩ (.int .u64 0)) ((w4.setCell ⟨z, 6, none⟩ (.int .u64 0)).setCell ⟨z + 1, 8, none⟩ (.bool true)) (z + 1) 32 _ := Put.set (p1.other AQ.out (by omega)) 8
        have HO5 := Lib.hid ((HO4.out.other p1 (by omega) (by omega)).other p2 (by omega) (by omega))
        have HP5 := Lib.hid ((HP4.out.other p1 (by omega) (by omega)).other p2 (by omega) (by omega))
        have AP5 := Lib.hid (p2.other p1.1 (by omega))
        have AQ5 := Lib.hid p2.1
        have D5 := Lib.hid (p2.cell (p1.cell D0.out (by show b ≠ _; omega)) (by show b ≠ _; omega))
        clear p1 p2
        go_wp2_with fail
        generalize ((w4.setCell ⟨z, 6, none⟩ (.int .u64 0)).setCell ⟨z + 1, 8, none⟩ (.bool true)) = w5 at *
        clear fa fq a0 q0 a1 q1 a2 q2 a3 q3 a4 q4 a5 q5 a6 q6 a7 q7 a8 q8
        have g := D5.out
        have a0 : w5.cell? ⟨z, 0, none⟩ = some (.int .u64 x.now) := AP5.out.cell 0
        have a1 : w5.cell? ⟨z, 1, none⟩ = some (.int .u64 x.delivered) := AP5.out.cell 1
        have a2 : w5.cell? ⟨z, 2, none⟩ = some (.int .u64 x.prior) := AP5.out.cell 2
        have a3 : w5.cell? ⟨z, 3, none⟩ = some (.int .u64 x.interval) := AP5.out.cell 3
        have a4 : w5.cell? ⟨z, 4, none⟩ = some (.int .u64 x.rtt) := AP5.out.cell 4
        have a5 : w5.cell? ⟨z, 5, none⟩ = some (.int .u64 x.acked) := AP5.out.cell 5
        have a6 : w5.cell? ⟨z, 6, none⟩ = some (.int .u64 0) := AP5.out.cell 6
        have a7 : w5.cell? ⟨z, 7, none⟩ = some (.int .u64 x.flight) := AP5.out.cell 7
        have a8 : w5.cell? ⟨z, 8, none⟩ = some (.bool x.limited) := AP5.out.cell 8
        have q0 : w5.cell? ⟨z + 1, 0, none⟩ = some (.int .u64 x.now) := AQ5.out.cell 0
        have q1 : w5.cell? ⟨z + 1, 1, none⟩ = some (.int .u64 x.delivered) := AQ5.out.cell 1
        have q2 : w5.cell? ⟨z + 1, 2, none⟩ = some (.int .u64 x.prior) := AQ5.out.cell 2
        have q3 : w5.cell? ⟨z + 1, 3, none⟩ = some (.int .u64 x.interval) := AQ5.out.cell 3
        have q4 : w5.cell? ⟨z + 1, 4, none⟩ = some (.int .u64 x.rtt) := AQ5.out.cell 4
        have q5 : w5.cell? ⟨z + 1, 5, none⟩ = some (.int .u64 x.acked) := AQ5.out.cell 5
        have q6 : w5.cell? ⟨z + 1, 6, none⟩ = some (.int .u64 x.lost) := AQ5.out.cell 6
        have q7 : w5.cell? ⟨z + 1, 7, none⟩ = some (.int .u64 x.flight) := AQ5.out.cell 7
        have q8 : w5.cell? ⟨z + 1, 8, none⟩ = some (.bool true) := AQ5.out.cell 8
        go_still_tail 7, (by kernel_rfl)
        go_wp2_with fail
        refine (CU.out _ HO5.out.drew.1).mono ?_; rintro e w6 ⟨rfl, p6⟩
        have HO6 := Lib.hid (HO5.out.drew.put p6)
        have HP6 := Lib.hid (HP5.out.drew.other p6 (by omega) (by omega))
        have g6 := p6.cell g (by show b ≠ _; omega)
        have r0 := p6.cell q0 (by show z + 1 ≠ _; omega)
        have r1 := p6.cell q1 (by show z + 1 ≠ _; omega)
        have r2 := p6.cell q2 (by show z + 1 ≠ _; omega)
        have r3 := p6.cell q3 (by show z + 1 ≠ _; omega)
        have r4 := p6.cell q4 (by show z + 1 ≠ _; omega)
        have r5 := p6.cell q5 (by show z + 1 ≠ _; omega)
        have r6 := p6.cell q6 (by show z + 1 ≠ _; omega)
        have r7 := p6.cell q7 (by show z + 1 ≠ _; omega)
        have r8 := p6.cell q8 (by show z + 1 ≠ _; omega)
        clear p6 g a0 q0 a1 q1 a2 q2 a3 q3 a4 q4 a5 q5 a6 q6 a7 q7 a8 q8
        go_wp2_with fail
        go_still_tail 7, (by kernel_rfl)
        go_wp2_with fail
        refine (CV.out _ HP6.out.drew.1).mono ?_; rintro e w7 ⟨rfl, p7⟩
        have HP7 := Lib.hid (HP6.out.drew.put p7)
        have HO7 := Lib.hid (HO6.out.drew.other p7 (by omega) (by omega))
        clear p7 g6 r0 r1 r2 r3 r4 r5 r6 r7 r8
        go_wp2_with fail
        refine (use_no _ _ _ HO7.out.1 N1.out.1).mono ?_; rintro e w' ⟨rfl, rfl⟩
        go_wp2_with fail
        refine (use_no _ _ _ HP7.out.1 N2.out).mono ?_; rintro e w' ⟨rfl, rfl⟩
        go_wp2
        go_roundw
        case rel => exact ⟨k + 1, s2, s3, by omega, by omega, I1.out, I2.out, N1.out, N2.out, by simp, HO7.out, HP7.out⟩
        case measure => simp [intOf]; omega
      · clear d0 d1 d2 d3 d4 d5 d6 d7 d8 d9
        generalize (((wr.alloc (.cells #[.int .u64 x.now, .int .u64 x.delivered, .int .u64 x.prior, .int .u64 x.interval, .int .u64 x.rtt, .int .u64 x.acked, .int .u64 x.lost, .int .u64 x.flight, .bool x.limited] 32)).alloc (.cells #[.int .u64 x.now, .int .u64 x.delivered, .int .u64 x.prior, .int .u64 x.interval, .int .u64 x.rtt, .int .u64 x.acked, .int .u64 x.lost, .int .u64 x.flight, .bool x.limited] 32)).drew) = w4 at *
        have AP := A7
        have AQ := A6
        generalize wr.heap.size = z at *
        have a0 : w4.cell? ⟨z + 1, 0, none⟩ = some (.int .u64 x.now) := AP.out.cell 0
        have a1 : w4.cell? ⟨z + 1, 1, none⟩ = some (.int .u64 x.delivered) := AP.out.cell 1
        have a2 : w4.cell? ⟨z + 1, 2, none⟩ = some (.int .u64 x.prior) := AP.out.cell 2
        have a3 : w4.cell? ⟨z + 1, 3, none⟩ = some (.int .u64 x.interval) := AP.out.cell 3
        have a4 : w4.cell? ⟨z + 1, 4, none⟩ = some (.int .u64 x.rtt) := AP.out.cell 4
        have a5 : w4.cell? ⟨z + 1, 5, none⟩ = some (.int .u64 x.acked) := AP.out.cell 5
        have a6 : w4.cell? ⟨z + 1, 6, none⟩ = some (.int .u64 x.lost) := AP.out.cell 6
        have a7 : w4.cell? ⟨z + 1, 7, none⟩ = some (.int .u64 x.flight) := AP.out.cell 7
        have a8 : w4.cell? ⟨z + 1, 8, none⟩ = some (.bool x.limited) := AP.out.cell 8
        have q0 : w4.cell? ⟨z, 0, none⟩ = some (.int .u64 x.now) := AQ.out.cell 0
        have q1 : w4.cell? ⟨z, 1, none⟩ = some (.int .u64 x.delivered) := AQ.out.cell 1
        have q2 : w4.cell? ⟨z, 2, none⟩ = some (.int .u64 x.prior) := AQ.out.cell 2
        have q3 : w4.cell? ⟨z, 3, none⟩ = some (.int .u64 x.interval) := AQ.out.cell 3
        have q4 : w4.cell? ⟨z, 4, none⟩ = some (.int .u64 x.rtt) := AQ.out.cell 4
        have q5 : w4.cell? ⟨z, 5, none⟩ = some (.int .u64 x.acked) := AQ.out.cell 5
        have q6 : w4.cell? ⟨z, 6, none⟩ = some (.int .u64 x.lost) := AQ.out.cell 6
        have q7 : w4.cell? ⟨z, 7, none⟩ = some (.int .u64 x.flight) := AQ.out.cell 7
        have q8 : w4.cell? ⟨z, 8, none⟩ = some (.bool x.limited) := AQ.out.cell 8
        have fa := AP.out.free 6
        have fq := AQ.out.free 8
        have p1 : Put w4 (w4.setCell ⟨z + 1, 6, none⟩ (.int .u64 0)) (z + 1) 32 _ := Put.set AP.out 6
        have p2 : Put (w4.setCell ⟨z + 1, 6, none⟩ (.int .u64 0)) ((w4.setCell ⟨z + 1, 6, none⟩ (.int .u64 0)).setCell ⟨z, 8, none⟩ (.bool true)) (z) 32 _ := Put.set (p1.other AQ.out (by omega)) 8
        have HO5 := Lib.hid ((HO4.out.other p1 (by omega) (by omega)).other p2 (by omega) (by omega))
        have HP5 := Lib.hid ((HP4.out.other p1 (by omega) (by omega)).other p2 (by omega) (by omega))
        have AP5 := Lib.hid (p2.other p1.1 (by omega))
        have AQ5 := Lib.hid p2.1
        have D5 := Lib.hid (p2.cell (p1.cell D0.out (by show b ≠ _; omega)) (by show b ≠ _; omega))
        clear p1 p2
        go_wp2_with fail
        generalize ((w4.setCell ⟨z + 1, 6, none⟩ (.int .u64 0)).setCell ⟨z, 8, none⟩ (.bool true)) = w5 at *
        clear fa fq a0 q0 a1 q1 a2 q2 a3 q3 a4 q4 a5 q5 a6 q6 a7 q7 a8 q8
        have g := D5.out
        have a0 : w5.cell? ⟨z + 1, 0, none⟩ = some (.int .u64 x.now) := AP5.out.cell 0
        have a1 : w5.cell? ⟨z + 1, 1, none⟩ = some (.int .u64 x.delivered) := AP5.out.cell 1
        have a2 : w5.cell? ⟨z + 1, 2, none⟩ = some (.int .u64 x.prior) := AP5.out.cell 2
        have a3 : w5.cell? ⟨z + 1, 3, none⟩ = some (.int .u64 x.interval) := AP5.out.cell 3
        have a4 : w5.cell? ⟨z + 1, 4, none⟩ = some (.int .u64 x.rtt) := AP5.out.cell 4
        have a5 : w5.cell? ⟨z + 1, 5, none⟩ = some (.int .u64 x.acked) := AP5.out.cell 5
        have a6 : w5.cell? ⟨z + 1, 6, none⟩ = some (.int .u64 0) := AP5.out.cell 6
        have a7 : w5.cell? ⟨z + 1, 7, none⟩ = some (.int .u64 x.flight) := AP5.out.cell 7
        have a8 : w5.cell? ⟨z + 1, 8, none⟩ = some (.bool x.limited) := AP5.out.cell 8
        have q0 : w5.cell? ⟨z, 0, none⟩ = some (.int .u64 x.now) := AQ5.out.cell 0
        have q1 : w5.cell? ⟨z, 1, none⟩ = some (.int .u64 x.delivered) := AQ5.out.cell 1
        have q2 : w5.cell? ⟨z, 2, none⟩ = some (.int .u64 x.prior) := AQ5.out.cell 2
        have q3 : w5.cell? ⟨z, 3, none⟩ = some (.int .u64 x.interval) := AQ5.out.cell 3
        have q4 : w5.cell? ⟨z, 4, none⟩ = some (.int .u64 x.rtt) := AQ5.out.cell 4
        have q5 : w5.cell? ⟨z, 5, none⟩ = some (.int .u64 x.acked) := AQ5.out.cell 5
        have q6 : w5.cell? ⟨z, 6, none⟩ = some (.int .u64 x.lost) := AQ5.out.cell 6
        have q7 : w5.cell? ⟨z, 7, none⟩ = some (.int .u64 x.flight) := AQ5.out.cell 7
        have q8 : w5.cell? ⟨z, 8, none⟩ = some (.bool true) := AQ5.out.cell 8
        go_still_tail 7, (by kernel_rfl)
        go_wp2_with fail
        refine (CU.out _ HO5.out.drew.1).mono ?_; rintro e w6 ⟨rfl, p6⟩
        have HO6 := Lib.hid (HO5.out.drew.put p6)
        have HP6 := Lib.hid (HP5.out.drew.other p6 (by omega) (by omega))
        have g6 := p6.cell g (by show b ≠ _; omega)
        have r0 := p6.cell q0 (by show z ≠ _; omega)
        have r1 := p6.cell q1 (by show z ≠ _; omega)
        have r2 := p6.cell q2 (by show z ≠ _; omega)
        have r3 := p6.cell q3 (by show z ≠ _; omega)
        have r4 := p6.cell q4 (by show z ≠ _; omega)
        have r5 := p6.cell q5 (by show z ≠ _; omega)
        have r6 := p6.cell q6 (by show z ≠ _; omega)
        have r7 := p6.cell q7 (by show z ≠ _; omega)
        have r8 := p6.cell q8 (by show z ≠ _; omega)
        clear p6 g a0 q0 a1 q1 a2 q2 a3 q3 a4 q4 a5 q5 a6 q6 a7 q7 a8 q8
        go_wp2_with fail
        go_still_tail 7, (by kernel_rfl)
        go_wp2_with fail
        refine (CV.out _ HP6.out.drew.1).mono ?_; rintro e w7 ⟨rfl, p7⟩
        have HP7 := Lib.hid (HP6.out.drew.put p7)
        have HO7 := Lib.hid (HO6.out.drew.other p7 (by omega) (by omega))
        clear p7 g6 r0 r1 r2 r3 r4 r5 r6 r7 r8
        go_wp2_with fail
        refine (use_no _ _ _ HO7.out.1 N1.out.1).mono ?_; rintro e w' ⟨rfl, rfl⟩
        go_wp2_with fail
        refine (use_no _ _ _ HP7.out.1 N2.out).mono ?_; rintro e w' ⟨rfl, rfl⟩
        go_wp2
        go_roundw
        case rel => exact ⟨k + 1, s2, s3, by omega, by omega, I1.out, I2.out, N1.out, N2.out, by simp, HO7.out, HP7.out⟩
        case measure => simp [intOf]; omega
    · have hx : decide (k < len) = false ∨ k < len ∧ 100 ≤ k := by simp; omega
      clear hlt
      rcases hx with hx | ⟨hx1, hx⟩
      all_goals
        go_wp2
        go_ret
        exact ⟨rfl, HO.out.2.1⟩
end Go.Proofs.Ytojgpgjmcamfoaa
