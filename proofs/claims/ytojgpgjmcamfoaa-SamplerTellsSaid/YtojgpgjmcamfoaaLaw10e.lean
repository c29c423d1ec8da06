/- The walk of SamplerTells. -/
import Derived.Test.YtojgpgjmcamfoaaLaw10d
import Derived.StillTactics
import Derived.Deep.RegionHeld3
namespace Go.Proofs.Ytojgpgjmcamfoaa
open Go.RowKit Go.Lib
set_option linter.unusedVariables false

set_option maxRecDepth 8000 in
set_option maxHeartbeats 8000000 in
theorem tells10_any (a : Option Addr) (len cap : Nat) (f : Nat → SOp) (w : World) (hrow : SOpRow w a len f) :
    Calls Try.prog 5 #[.slice a len cap] w fun e w' => e = .returned (.bool true) ∧ Below w.heap.size w w' := by
  obtain ⟨hlen, hwf, hrow⟩ := hrow
  have HW := Lib.hid hwf
  have HR := Lib.hid hrow
  clear hwf hrow
  obtain ⟨i0, hi, hz0, hz1, hz2⟩ : ∃ i : TypeInfo, Try.prog.info? 30 = some i ∧ i.zero = some (.agg #[.int .u64 0, .int .u64 0, .int .u64 0, .int .u64 0, .bool false]) ∧ i.size = 5 ∧ i.bytes = 40 := ⟨_, rfl, rfl, rfl, rfl⟩
  have HI := Lib.hid (And.intro hi (And.intro hz0 (And.intro hz1 hz2)))
  clear hi hz0 hz1 hz2
  go_enter Try.func5, Try.ntmps5
  go_wp2_with fail
  refine (samnew_any _).mono ?_; rintro e w1 ⟨rfl, hw1⟩
  have O1 : Hid (Own w (w1.alloc (.cells (rsam sam0) 42)) w.heap.size 78 (sam sam0)) := by rw [hw1]; exact Lib.hid ((Own.made (Below.refl _ _) _ _).alloc _)
  have O2 : Hid (Own w (w1.alloc (.cells (rsam sam0) 42)) (w.heap.size + 1) 42 (rsam sam0)) := by
    have := Own.made (w0 := w) ((Below.refl w.heap.size w).alloc (Nat.le_refl _) (.cells (sam sam0) 78)) 42 (rsam sam0)
    rw [hw1]
    exact Lib.hid (by simpa using this)
  have e1 : w1.heap.size = w.heap.size + 1 := by rw [hw1]; simp
  clear hw1
  go_wp2_with fail
  refine (awake10 _).mono ?_; rintro e w2 ⟨rfl, b2⟩
  have P1 := Lib.hid (O1.out.below b2)
  have P2 := Lib.hid (O2.out.below b2)
  clear b2
  go_wp2_with fail
  go_loopw [5, 6] (fun v5 v6 wr => TellRel w w.heap.size len v5 v6 wr) (fun _ v6 _ => 80 - (intOf v6).toNat)
  case atStart => exact ⟨0, _, [], _, rfl, by omega, by omega, by simp, sam0_ok, by simp, rfl, P1.out, P2.out, World.ownsRow_nil _ _ _ _⟩
  case round =>
    obtain ⟨k, s, xs, v5, rfl, hk1, hk2, hk3, hok, hxs, rfl, hO, hP, hown⟩ := hrel
    have HO := Lib.hid hO
    have HP := Lib.hid hP
    have HX := Lib.hid hown
    have HK := Lib.hid hok
    have HXS := Lib.hid hxs
    have HL := Lib.hid hk3
    have hsz := hO.1.lt
    have hsz2 := hP.1.lt
    clear hO hP hown hok hxs hk3
    by_cases hlt : k < len ∧ k < 80
    · obtain ⟨lt1, lt2⟩ := hlt
      obtain ⟨b, off, rfl, hb, hc⟩ := HR.out (by omega)
      have hw := HW.out k lt1
      have hcc := hc k lt1
      generalize f k = o at *
      obtain ⟨kind, oat, now, size, flight, ⟨xa, xd, xda, xfa, xl⟩, raw⟩ := o
      obtain ⟨c0, c1, c2, c3, c4, c5, c6, c7, c8, c9, c10⟩ := hcc
      simp only at c0 c1 c2 c3 c4 c5 c6 c7 c8 c9 c10 hw
      have d0 := (HO.out.2.1.cell (p := ⟨b, off + k * 11, none⟩) hb).trans c0
      have d1 := (HO.out.2.1.cell (p := ⟨b, off + k * 11 + 1, none⟩) hb).trans c1
      have d2 := (HO.out.2.1.cell (p := ⟨b, off + k * 11 + 2, none⟩) hb).trans c2
      have d3 := (HO.out.2.1.cell (p := ⟨b, off + k * 11 + 3, none⟩) hb).trans c3
      have d4 := (HO.out.2.1.cell (p := ⟨b, off + k * 11 + 4, none⟩) hb).trans c4
      have d5 := (HO.out.2.1.cell (p := ⟨b, off + k * 11 + 5, none⟩) hb).trans c5
      have d6 := (HO.out.2.1.cell (p := ⟨b, off + k * 11 + 6, none⟩) hb).trans c6
      have d7 := (HO.out.2.1.cell (p := ⟨b, off + k * 11 + 7, none⟩) hb).trans c7
      have d8 := (HO.out.2.1.cell (p := ⟨b, off + k * 11 + 8, none⟩) hb).trans c8
      have d9 := (HO.out.2.1.cell (p := ⟨b, off + k * 11 + 9, none⟩) hb).trans c9
      have d10 := (HO.out.2.1.cell (p := ⟨b, off + k * 11 + 10, none⟩) hb).trans c10
      clear hc c0 c1 c2 c3 c4 c5 c6 c7 c8 c9 c10
      obtain ⟨hw1, hw2, hw3, hw4⟩ := hw
      simp only at hw1 hw2 hw3
      have HW1 := Lib.hid hw1
      have HW2 := Lib.hid hw2
      have HW3 := Lib.hid hw3
      have HW4 := Lib.hid hw4
      have hb1 : b < wr.heap.size := by omega
      have HT : Hid (TB w (wr.alloc (.cells #[.int .i64 kind, .int .i64 oat, .int .u64 now, .int .u64 size, .int .u64 flight, .int .u64 xa, .int .u64 xd, .int .u64 xda, .int .u64 xfa, .bool xl, .bool raw] 44)) w.heap.size s s v5 xs wr.heap.size #[.int .i64 kind, .int .i64 oat, .int .u64 now, .int .u64 size, .int .u64 flight, .int .u64 xa, .int .u64 xd, .int .u64 xda, .int .u64 xfa, .bool xl, .bool raw]) := Lib.hid ⟨HO.out.alloc _, HP.out.alloc _, HX.out.alloc _, At.made _ _ _, hsz2⟩
      clear hw1 hw2 hw3 hw4
      by_cases hk1 : kind = 1
      · subst hk1
        cases raw
        · by_cases hx0 : xs.length = 0
          · obtain ⟨a5, c5, rfl⟩ : ∃ a c, v5 = Value.slice a 0 c := by
              rcases HX.out.2 with ⟨h, _⟩ | ⟨g, cp, cur, h, _⟩
              · exact ⟨_, _, h⟩
              · exact ⟨_, _, by rw [h, hx0]⟩
            clear hx0
            have YOK := HW4
            have HT2 := Lib.hid (HT.out.alloc (.cells #[.int .u64 xa, .int .u64 xd, .int .u64 xda, .int .u64 xfa, .bool xl] 30))
            have HY2 := Lib.hid (At.mk1 (W := wr.alloc (.cells #[.int .i64 1, .int .i64 oat, .int .u64 now, .int .u64 size, .int .u64 flight, .int .u64 xa, .int .u64 xd, .int .u64 xda, .int .u64 xfa, .bool xl, .bool false] 44)) (n := wr.heap.size + 1) 30 #[.int .u64 xa, .int .u64 xd, .int .u64 xda, .int .u64 xfa, .bool xl] (by simp))
            go_wp2_with fail
            refine (acked_any w.heap.size s now size ⟨xa, xd, xda, xfa, xl⟩ HK.out HW1.out HW2.out YOK.out _ HT2.out.1.1).mono ?_; rintro e w3 ⟨rfl, p3⟩
            have T3 := Lib.hid (HT2.out.putS p3)
            have Y3 := p3.other HY2.out (by omega)
            have q2 : w3.cell? ⟨wr.heap.size, 2, none⟩ = some (.int .u64 now) := T3.out.cell 2
            have q3 : w3.cell? ⟨wr.heap.size, 3, none⟩ = some (.int .u64 size) := T3.out.cell 3
            have z0 : w3.cell? ⟨wr.heap.size + 1, 0, none⟩ = some (.int .u64 xa) := Y3.cell 0
            have z1 : w3.cell? ⟨wr.heap.size + 1, 1, none⟩ = some (.int .u64 xd) := Y3.cell 1
            have z2 : w3.cell? ⟨wr.heap.size + 1, 2, none⟩ = some (.int .u64 xda) := Y3.cell 2
            have z3 : w3.cell? ⟨wr.heap.size + 1, 3, none⟩ = some (.int .u64 xfa) := Y3.cell 3
            have z4 : w3.cell? ⟨wr.heap.size + 1, 4, none⟩ = some (.bool xl) := Y3.cell 4
            clear p3 Y3 d0 d1 d2 d3 d4 d5 d6 d7 d8 d9 d10
            go_wp2_with fail
            refine (T3.out.racked now size ⟨xa, xd, xda, xfa, xl⟩ HK.out HW1.out HW2.out YOK.out).mono ?_; rintro e w4 ⟨rfl, hT4⟩
            have OK2 : Hid ((ackF s now size ⟨xa, xd, xda, xfa, xl⟩).ok) := Lib.hid (ackF_ok HK.out HW1.out YOK.out)
            generalize ackF s now size ⟨xa, xd, xda, xfa, xl⟩ = s2 at *
            have T4 := Lib.hid hT4
            clear hT4 q2 q3 z0 z1 z2 z3 z4 T3
            have r0 : w4.cell? ⟨w.heap.size + 1, 0, none⟩ = some (.int .u64 s2.d) := T4.out.2.1.1.cell 0
            have hbW : w.heap.size + 1 < w4.heap.size := T4.out.2.1.1.lt
            have CD : Hid (∀ n, Calls Try.prog 20 #[.pointer (some ⟨w.heap.size, 0, none⟩)] (w4.drewN n) fun e w' => e = .returned (.int .u64 s2.d) ∧ w4.drewN n = w') := Lib.hid (fun n => delivered_any _ s2 _ (T4.out.drewN n).1.1)
            go_wp2_with fail
            go_quiet ((go_at_call 20; exact still (CD.out _)))
            go_wp2
            go_roundw
            case rel => exact ⟨k + 1, s2, xs, _, rfl, by omega, by omega, by have := HL.out; omega, OK2.out, HXS.out, by simp, (T4.out.drewN _).1, (T4.out.drewN _).2.1, (T4.out.drewN _).2.2.1⟩
            case measure => simp [intOf]; omega
          · have hxl : 0 < xs.length := by omega
            obtain ⟨gb, cp, rfl⟩ := row_some HX.out hxl
            obtain ⟨m, em⟩ : ∃ m : Nat, IntKind.u64.wrap oat = m := ⟨(IntKind.u64.wrap oat).toNat, by rw [IntKind.wrap_u64]; omega⟩
            obtain ⟨j, hj⟩ : ∃ j, m % xs.length = j := ⟨_, rfl⟩
            have hjl : j < xs.length := by rw [← hj]; exact Nat.mod_lt _ (by omega)
            have hL2 : xs.length ≤ 80 := by have := HL.out; omega
            obtain ⟨⟨ya, yd, yda, yfa, yl⟩, hy⟩ : ∃ y, xs[j]? = some y := ⟨_, List.getElem?_eq_getElem (by omega)⟩
            have hyok := HXS.out _ (List.mem_of_getElem? hy)
            have hrowc : ∀ q, q < 5 → wr.cell? ⟨gb, j * 5 + q, none⟩ = [Value.int .u64 ya, .int .u64 yd, .int .u64 yda, .int .u64 yfa, .bool yl][q]? := by
              intro q hq
              rw [HX.out.cellAt (j * 5 + q) (by omega), rowsT_at hy q hq]
            have t0 : wr.cell? ⟨gb, j * 5, none⟩ = some (.int .u64 ya) := hrowc 0 (by omega)
            have t1 : wr.cell? ⟨gb, j * 5 + 1, none⟩ = some (.int .u64 yd) := hrowc 1 (by omega)
            have t2 : wr.cell? ⟨gb, j * 5 + 2, none⟩ = some (.int .u64 yda) := hrowc 2 (by omega)
            have t3 : wr.cell? ⟨gb, j * 5 + 3, none⟩ = some (.int .u64 yfa) := hrowc 3 (by omega)
            have t4 : wr.cell? ⟨gb, j * 5 + 4, none⟩ = some (.bool yl) := hrowc 4 (by omega)
            have hgb := (HX.out.lt gb rfl).2
            have hgb1 : gb < wr.heap.size + 1 := by omega
            have hb2 : b < wr.heap.size + 1 := by omega
            have YOK := Lib.hid hyok
            have n1 : IntKind.u64.wrap ((xs.length : Nat) : Int) = xs.length := by rw [IntKind.wrap_u64]; omega
            have n2 : (m : Int) % (xs.length : Nat) = j := by rw [← hj]; simp
            have n3 : (((xs.length : Nat) : Int) == 0) = false := by rw [beq_eq_false_iff_ne]; omega
            have n4 : IntKind.i64.wrap (j : Int) = j := by rw [IntKind.wrap_i64]; omega
            have n5 : IntKind.u64.wrap (j : Int) = j := by rw [IntKind.wrap_u64]; omega
            have n6 : (0 : Int) < xs.length := by omega
            have n7 : decide (0 < xs.length) = true := by simp; omega
            have n8 : (m : Int).tmod (xs.length : Nat) = j := by rw [Int.tmod_eq_emod_of_nonneg (by omega)]; exact n2
            clear hj hy hyok hrowc hxl
            have HT2 := Lib.hid (HT.out.alloc (.cells #[.int .u64 ya, .int .u64 yd, .int .u64 yda, .int .u64 yfa, .bool yl] 30))
            have HY2 := Lib.hid (At.mk1 (W := wr.alloc (.cells #[.int .i64 1, .int .i64 oat, .int .u64 now, .int .u64 size, .int .u64 flight, .int .u64 xa, .int .u64 xd, .int .u64 xda, .int .u64 xfa, .bool xl, .bool false] 44)) (n := wr.heap.size + 1) 30 #[.int .u64 ya, .int .u64 yd, .int .u64 yda, .int .u64 yfa, .bool yl] (by simp))
            go_wp2_with fail
            refine (acked_any w.heap.size s now size ⟨ya, yd, yda, yfa, yl⟩ HK.out HW1.out HW2.out YOK.out _ HT2.out.1.1).mono ?_; rintro e w3 ⟨rfl, p3⟩
            have T3 := Lib.hid (HT2.out.putS p3)
            have Y3 := p3.other HY2.out (by omega)
            have q2 : w3.cell? ⟨wr.heap.size, 2, none⟩ = some (.int .u64 now) := T3.out.cell 2
            have q3 : w3.cell? ⟨wr.heap.size, 3, none⟩ = some (.int .u64 size) := T3.out.cell 3
            have z0 : w3.cell? ⟨wr.heap.size + 1, 0, none⟩ = some (.int .u64 ya) := Y3.cell 0
            have z1 : w3.cell? ⟨wr.heap.size + 1, 1, none⟩ = some (.int .u64 yd) := Y3.cell 1
            have z2 : w3.cell? ⟨wr.heap.size + 1, 2, none⟩ = some (.int .u64 yda) := Y3.cell 2
            have z3 : w3.cell? ⟨wr.heap.size + 1, 3, none⟩ = some (.int .u64 yfa) := Y3.cell 3
            have z4 : w3.cell? ⟨wr.heap.size + 1, 4, none⟩ = some (.bool yl) := Y3.cell 4
            clear p3 Y3 d0 d1 d2 d3 d4 d5 d6 d7 d8 d9 d10
            go_wp2_with fail
            refine (T3.out.racked now size ⟨ya, yd, yda, yfa, yl⟩ HK.out HW1.out HW2.out YOK.out).mono ?_; rintro e w4 ⟨rfl, hT4⟩
            have OK2 : Hid ((ackF s now size ⟨ya, yd, yda, yfa, yl⟩).ok) := Lib.hid (ackF_ok HK.out HW1.out YOK.out)
            generalize ackF s now size ⟨ya, yd, yda, yfa, yl⟩ = s2 at *
            have T4 := Lib.hid hT4
            clear hT4 q2 q3 z0 z1 z2 z3 z4 T3
            have r0 : w4.cell? ⟨w.heap.size + 1, 0, none⟩ = some (.int .u64 s2.d) := T4.out.2.1.1.cell 0
            have hbW : w.heap.size + 1 < w4.heap.size := T4.out.2.1.1.lt
            have CD : Hid (∀ n, Calls Try.prog 20 #[.pointer (some ⟨w.heap.size, 0, none⟩)] (w4.drewN n) fun e w' => e = .returned (.int .u64 s2.d) ∧ w4.drewN n = w') := Lib.hid (fun n => delivered_any _ s2 _ (T4.out.drewN n).1.1)
            go_wp2_with fail
            go_quiet ((go_at_call 20; exact still (CD.out _)))
            go_wp2
            go_roundw
            case rel => exact ⟨k + 1, s2, xs, _, rfl, by omega, by omega, by have := HL.out; omega, OK2.out, HXS.out, by simp, (T4.out.drewN _).1, (T4.out.drewN _).2.1, (T4.out.drewN _).2.2.1⟩
            case measure => simp [intOf]; omega
        · have YOK := HW4
          have HT2 := Lib.hid (HT.out.alloc (.cells #[.int .u64 xa, .int .u64 xd, .int .u64 xda, .int .u64 xfa, .bool xl] 30))
          have HY2 := Lib.hid (At.mk1 (W := wr.alloc (.cells #[.int .i64 1, .int .i64 oat, .int .u64 now, .int .u64 size, .int .u64 flight, .int .u64 xa, .int .u64 xd, .int .u64 xda, .int .u64 xfa, .bool xl, .bool true] 44)) (n := wr.heap.size + 1) 30 #[.int .u64 xa, .int .u64 xd, .int .u64 xda, .int .u64 xfa, .bool xl] (by simp))
          go_wp2_with fail
          refine (acked_any w.heap.size s now size ⟨xa, xd, xda, xfa, xl⟩ HK.out HW1.out HW2.out YOK.out _ HT2.out.1.1).mono ?_; rintro e w3 ⟨rfl, p3⟩
          have T3 := Lib.hid (HT2.out.putS p3)
          have Y3 := p3.other HY2.out (by omega)
          have q2 : w3.cell? ⟨wr.heap.size, 2, none⟩ = some (.int .u64 now) := T3.out.cell 2
          have q3 : w3.cell? ⟨wr.heap.size, 3, none⟩ = some (.int .u64 size) := T3.out.cell 3
          have z0 : w3.cell? ⟨wr.heap.size + 1, 0, none⟩ = some (.int .u64 xa) := Y3.cell 0
          have z1 : w3.cell? ⟨wr.heap.size + 1, 1, none⟩ = some (.int .u64 xd) := Y3.cell 1
          have z2 : w3.cell? ⟨wr.heap.size + 1, 2, none⟩ = some (.int .u64 xda) := Y3.cell 2
          have z3 : w3.cell? ⟨wr.heap.size + 1, 3, none⟩ = some (.int .u64 xfa) := Y3.cell 3
          have z4 : w3.cell? ⟨wr.heap.size + 1, 4, none⟩ = some (.bool xl) := Y3.cell 4
          clear p3 Y3 d0 d1 d2 d3 d4 d5 d6 d7 d8 d9 d10
          go_wp2_with fail
          refine (T3.out.racked now size ⟨xa, xd, xda, xfa, xl⟩ HK.out HW1.out HW2.out YOK.out).mono ?_; rintro e w4 ⟨rfl, hT4⟩
          have OK2 : Hid ((ackF s now size ⟨xa, xd, xda, xfa, xl⟩).ok) := Lib.hid (ackF_ok HK.out HW1.out YOK.out)
          generalize ackF s now size ⟨xa, xd, xda, xfa, xl⟩ = s2 at *
          have T4 := Lib.hid hT4
          clear hT4 q2 q3 z0 z1 z2 z3 z4 T3
          have r0 : w4.cell? ⟨w.heap.size + 1, 0, none⟩ = some (.int .u64 s2.d) := T4.out.2.1.1.cell 0
          have hbW : w.heap.size + 1 < w4.heap.size := T4.out.2.1.1.lt
          have CD : Hid (∀ n, Calls Try.prog 20 #[.pointer (some ⟨w.heap.size, 0, none⟩)] (w4.drewN n) fun e w' => e = .returned (.int .u64 s2.d) ∧ w4.drewN n = w') := Lib.hid (fun n => delivered_any _ s2 _ (T4.out.drewN n).1.1)
          go_wp2_with fail
          go_quiet ((go_at_call 20; exact still (CD.out _)))
          go_wp2
          go_roundw
          case rel => exact ⟨k + 1, s2, xs, _, rfl, by omega, by omega, by have := HL.out; omega, OK2.out, HXS.out, by simp, (T4.out.drewN _).1, (T4.out.drewN _).2.1, (T4.out.drewN _).2.2.1⟩
          case measure => simp [intOf]; omega
      have y1 : (kind == 1) = false := by rw [beq_eq_false_iff_ne]; exact hk1
      by_cases hk2 : kind = 2
      · subst hk2
        obtain ⟨⟨yn, yd, yp, yi, yr, ya, yl, yf, ym⟩, hY⟩ : ∃ Y, takeV s now size flight = Y := ⟨_, rfl⟩
        have CT : Hid (∀ wq, TB w wq w.heap.size s s v5 xs wr.heap.size #[.int .i64 2, .int .i64 oat, .int .u64 now, .int .u64 size, .int .u64 flight, .int .u64 xa, .int .u64 xd, .int .u64 xda, .int .u64 xfa, .bool xl, .bool raw] → Calls Try.prog 18 #[.pointer (some ⟨w.heap.size, 0, none⟩), .int .u64 now, .int .u64 size, .int .u64 flight] wq fun e w' => e = .returned (.agg #[.int .u64 yn, .int .u64 yd, .int .u64 yp, .int .u64 yi, .int .u64 yr, .int .u64 ya, .int .u64 yl, .int .u64 yf, .bool ym]) ∧ TB w w' w.heap.size (takeF s) s v5 xs wr.heap.size #[.int .i64 2, .int .i64 oat, .int .u64 now, .int .u64 size, .int .u64 flight, .int .u64 xa, .int .u64 xd, .int .u64 xda, .int .u64 xfa, .bool xl, .bool raw]) := Lib.hid (fun wq h => by
          have := h.take now size flight HK.out HW1.out
          rw [hY] at this
          exact this)
        have CR : Hid (∀ wq, TB w wq w.heap.size (takeF s) s v5 xs wr.heap.size #[.int .i64 2, .int .i64 oat, .int .u64 now, .int .u64 size, .int .u64 flight, .int .u64 xa, .int .u64 xd, .int .u64 xda, .int .u64 xfa, .bool xl, .bool raw] → Calls Try.prog 22 #[.pointer (some ⟨w.heap.size + 1, 0, none⟩), .int .u64 now, .int .u64 size, .int .u64 flight] wq fun e w' => e = .returned (.agg #[.int .u64 yn, .int .u64 yd, .int .u64 yp, .int .u64 yi, .int .u64 yr, .int .u64 ya, .int .u64 yl, .int .u64 yf, .bool ym]) ∧ TB w w' w.heap.size (takeF s) (takeF s) v5 xs wr.heap.size #[.int .i64 2, .int .i64 oat, .int .u64 now, .int .u64 size, .int .u64 flight, .int .u64 xa, .int .u64 xd, .int .u64 xda, .int .u64 xfa, .bool xl, .bool raw]) := Lib.hid (fun wq h => by
          have := h.rtake now size flight HK.out HW1.out
          rw [hY] at this
          exact this)
        have OK2 : Hid ((takeF s).ok) := Lib.hid (takeF_ok HK.out)
        clear hY
        generalize takeF s = s2 at *
        go_wp2_with fail
        refine wp_named (fun w1 => TB w w1 w.heap.size s s v5 xs wr.heap.size #[.int .i64 2, .int .i64 oat, .int .u64 now, .int .u64 size, .int .u64 flight, .int .u64 xa, .int .u64 xd, .int .u64 xda, .int .u64 xfa, .bool xl, .bool raw]) HT.out (fun w1 hT1 => ?_)
        clear d0 d1 d2 d3 d4 d5 d6 d7 d8 d9 d10
        refine wp_region_held_drew (S := fun wq => wq.cell? ⟨wr.heap.size, 2, none⟩ = some (.int .u64 now) ∧ wq.cell? ⟨wr.heap.size, 3, none⟩ = some (.int .u64 size) ∧ wq.cell? ⟨wr.heap.size, 4, none⟩ = some (.int .u64 flight)) (by kernel_rfl) ⟨hT1.cell 2, hT1.cell 3, hT1.cell 4⟩ (fun hHeld => ?_)
        refine wpAnyH_take (i := 0) (oi := { dst := some 93, op := Go.Op.move (Go.Operand.tmp 3), type := 24, pos := "law.go:49", after := #[], guard := none }) (v := ?_) rfl (by kernel_rfl) (by kernel_rfl) (by kernel_rfl) (fun _ _ _ h => h) (Or.inl ⟨by rfl, ?_⟩) (by assumption) ?_
        (rotate_left; focus (intro wx hSw; (try dsimp only at hSw); go_simp; try with_reducible rfl))
        (try simp only [Act.put, List.setIfInBounds_toArray, List.set_cons_zero, List.set_cons_succ])  -- 0 move none
        refine wpAnyH_take (i := 1) (oi := { dst := some 94, op := Go.Op.fieldAddr 44 (Go.Operand.tmp 7) 2, type := 0, pos := "law.go:49", after := #[], guard := none }) (v := ?_) rfl (by kernel_rfl) (by kernel_rfl) (by kernel_rfl) (fun _ _ _ h => h) (Or.inl ⟨by rfl, ?_⟩) (by assumption) ?_
        (rotate_left; focus (intro wx hSw; (try dsimp only at hSw); go_simp; try with_reducible rfl))
        (try simp only [Act.put, List.setIfInBounds_toArray, List.set_cons_zero, List.set_cons_succ])  -- 1 fieldAddr none
        refine wpAnyH_take (i := 2) (oi := { dst := some 95, op := Go.Op.load 22 (Go.Operand.tmp 94), type := 22, pos := "law.go:49", after := #[{ on := 1, ground := Go.Ground.data }], guard := none }) (v := ?_) rfl (by kernel_rfl) (by kernel_rfl) (by kernel_rfl) (fun _ _ _ h => h) (Or.inl ⟨by rfl, ?_⟩) (by assumption) ?_
        (rotate_left; focus (intro wx hSw; (try dsimp only at hSw); go_simp; try with_reducible rfl))
        (try simp only [Act.put, List.setIfInBounds_toArray, List.set_cons_zero, List.set_cons_succ])  -- 2 load none
        refine wpAnyH_take (i := 3) (oi := { dst := some 96, op := Go.Op.fieldAddr 44 (Go.Operand.tmp 7) 3, type := 0, pos := "law.go:49", after := #[], guard := none }) (v := ?_) rfl (by kernel_rfl) (by kernel_rfl) (by kernel_rfl) (fun _ _ _ h => h) (Or.inl ⟨by rfl, ?_⟩) (by assumption) ?_
        (rotate_left; focus (intro wx hSw; (try dsimp only at hSw); go_simp; try with_reducible rfl))
        (try simp only [Act.put, List.setIfInBounds_toArray, List.set_cons_zero, List.set_cons_succ])  -- 3 fieldAddr none
        refine wpAnyH_take (i := 4) (oi := { dst := some 97, op := Go.Op.load 22 (Go.Operand.tmp 96), type := 22, pos := "law.go:49", after := #[{ on := 3, ground := Go.Ground.data }], guard := none }) (v := ?_) rfl (by kernel_rfl) (by kernel_rfl) (by kernel_rfl) (fun _ _ _ h => h) (Or.inl ⟨by rfl, ?_⟩) (by assumption) ?_
        (rotate_left; focus (intro wx hSw; (try dsimp only at hSw); go_simp; try with_reducible rfl))
        (try simp only [Act.put, List.setIfInBounds_toArray, List.set_cons_zero, List.set_cons_succ])  -- 4 load none
        refine wpAnyH_take (i := 5) (oi := { dst := some 98, op := Go.Op.fieldAddr 44 (Go.Operand.tmp 7) 4, type := 0, pos := "law.go:49", after := #[], guard := none }) (v := ?_) rfl (by kernel_rfl) (by kernel_rfl) (by kernel_rfl) (fun _ _ _ h => h) (Or.inl ⟨by rfl, ?_⟩) (by assumption) ?_
        (rotate_left; focus (intro wx hSw; (try dsimp only at hSw); go_simp; try with_reducible rfl))
        (try simp only [Act.put, List.setIfInBounds_toArray, List.set_cons_zero, List.set_cons_succ])  -- 5 fieldAddr none
        refine wpAnyH_take (i := 6) (oi := { dst := some 99, op := Go.Op.load 22 (Go.Operand.tmp 98), type := 22, pos := "law.go:49", after := #[{ on := 5, ground := Go.Ground.data }], guard := none }) (v := ?_) rfl (by kernel_rfl) (by kernel_rfl) (by kernel_rfl) (fun _ _ _ h => h) (Or.inl ⟨by rfl, ?_⟩) (by assumption) ?_
        (rotate_left; focus (intro wx hSw; (try dsimp only at hSw); go_simp; try with_reducible rfl))
        (try simp only [Act.put, List.setIfInBounds_toArray, List.set_cons_zero, List.set_cons_succ])  -- 6 load none
        refine wpAnyH_take (i := 8) (oi := { dst := some 101, op := Go.Op.move (Go.Operand.tmp 4), type := 40, pos := "law.go:49", after := #[], guard := none }) (v := ?_) rfl (by kernel_rfl) (by kernel_rfl) (by kernel_rfl) (fun _ _ _ h => h) (Or.inl ⟨by rfl, ?_⟩) (by assumption) ?_
        (rotate_left; focus (intro wx hSw; (try dsimp only at hSw); go_simp; try with_reducible rfl))
        (try simp only [Act.put, List.setIfInBounds_toArray, List.set_cons_zero, List.set_cons_succ])  -- 8 move none
        refine wpAnyH_take (i := 9) (oi := { dst := some 102, op := Go.Op.fieldAddr 44 (Go.Operand.tmp 7) 2, type := 0, pos := "law.go:49", after := #[], guard := none }) (v := ?_) rfl (by kernel_rfl) (by kernel_rfl) (by kernel_rfl) (fun _ _ _ h => h) (Or.inl ⟨by rfl, ?_⟩) (by assumption) ?_
        (rotate_left; focus (intro wx hSw; (try dsimp only at hSw); go_simp; try with_reducible rfl))
        (try simp only [Act.put, List.setIfInBounds_toArray, List.set_cons_zero, List.set_cons_succ])  -- 9 fieldAddr none
        refine wpAnyH_take (i := 10) (oi := { dst := some 103, op := Go.Op.load 22 (Go.Operand.tmp 102), type := 22, pos := "law.go:49", after := #[{ on := 9, ground := Go.Ground.data }], guard := none }) (v := ?_) rfl (by kernel_rfl) (by kernel_rfl) (by kernel_rfl) (fun _ _ _ h => h) (Or.inl ⟨by rfl, ?_⟩) (by assumption) ?_
        (rotate_left; focus (intro wx hSw; (try dsimp only at hSw); go_simp; try with_reducible rfl))
        (try simp only [Act.put, List.setIfInBounds_toArray, List.set_cons_zero, List.set_cons_succ])  -- 10 load none
        refine wpAnyH_take (i := 11) (oi := { dst := some 104, op := Go.Op.fieldAddr 44 (Go.Operand.tmp 7) 3, type := 0, pos := "law.go:49", after := #[], guard := none }) (v := ?_) rfl (by kernel_rfl) (by kernel_rfl) (by kernel_rfl) (fun _ _ _ h => h) (Or.inl ⟨by rfl, ?_⟩) (by assumption) ?_
        (rotate_left; focus (intro wx hSw; (try dsimp only at hSw); go_simp; try with_reducible rfl))
        (try simp only [Act.put, List.setIfInBounds_toArray, List.set_cons_zero, List.set_cons_succ])  -- 11 fieldAddr none
        refine wpAnyH_take (i := 12) (oi := { dst := some 105, op := Go.Op.load 22 (Go.Operand.tmp 104), type := 22, pos := "law.go:49", after := #[{ on := 11, ground := Go.Ground.data }], guard := none }) (v := ?_) rfl (by kernel_rfl) (by kernel_rfl) (by kernel_rfl) (fun _ _ _ h => h) (Or.inl ⟨by rfl, ?_⟩) (by assumption) ?_
        (rotate_left; focus (intro wx hSw; (try dsimp only at hSw); go_simp; try with_reducible rfl))
        (try simp only [Act.put, List.setIfInBounds_toArray, List.set_cons_zero, List.set_cons_succ])  -- 12 load none
        refine wpAnyH_take (i := 13) (oi := { dst := some 106, op := Go.Op.fieldAddr 44 (Go.Operand.tmp 7) 4, type := 0, pos := "law.go:49", after := #[], guard := none }) (v := ?_) rfl (by kernel_rfl) (by kernel_rfl) (by kernel_rfl) (fun _ _ _ h => h) (Or.inl ⟨by rfl, ?_⟩) (by assumption) ?_
        (rotate_left; focus (intro wx hSw; (try dsimp only at hSw); go_simp; try with_reducible rfl))
        (try simp only [Act.put, List.setIfInBounds_toArray, List.set_cons_zero, List.set_cons_succ])  -- 13 fieldAddr none
        refine wpAnyH_take (i := 14) (oi := { dst := some 107, op := Go.Op.load 22 (Go.Operand.tmp 106), type := 22, pos := "law.go:49", after := #[{ on := 13, ground := Go.Ground.data }], guard := none }) (v := ?_) rfl (by kernel_rfl) (by kernel_rfl) (by kernel_rfl) (fun _ _ _ h => h) (Or.inl ⟨by rfl, ?_⟩) (by assumption) ?_
        (rotate_left; focus (intro wx hSw; (try dsimp only at hSw); go_simp; try with_reducible rfl))
        (try simp only [Act.put, List.setIfInBounds_toArray, List.set_cons_zero, List.set_cons_succ])  -- 14 load none
        refine wpAnyH_ready (rs := [7]) (by kernel_rfl) (by simp) ?_
        refine AllReadyH.cons (o := { dst := some 100, op := Go.Op.call { callee := Go.Callee.value (Go.Operand.func 18), args := #[Go.Operand.tmp 93, Go.Operand.tmp 95, Go.Operand.tmp 97, Go.Operand.tmp 99], argTypes := #[24, 22, 22, 22] }, type := 32, pos := "law.go:49", after := #[{ on := 0, ground := Go.Ground.data }, { on := 2, ground := Go.Ground.data }, { on := 4, ground := Go.Ground.data }, { on := 6, ground := Go.Ground.data }], guard := none }) rfl (fun K hK => ?_) AllReadyH.nil
        go_simp
        refine (CT.out _ hT1.drew).mono ?_; rintro e w3 ⟨rfl, hT3⟩
        refine hK.out _ _ ?_ (fun hHeld => ?_)
        focus exact ⟨hT3.cell 2, hT3.cell 3, hT3.cell 4⟩
        clear hK K
        (try simp only [Act.put, List.setIfInBounds_toArray, List.set_cons_zero, List.set_cons_succ])  -- 7 call none
        refine wpAnyH_ready (rs := [15]) (by kernel_rfl) (by simp) ?_
        refine AllReadyH.cons (o := { dst := some 108, op := Go.Op.call { callee := Go.Callee.value (Go.Operand.func 22), args := #[Go.Operand.tmp 101, Go.Operand.tmp 103, Go.Operand.tmp 105, Go.Operand.tmp 107], argTypes := #[40, 22, 22, 22] }, type := 32, pos := "law.go:49", after := #[{ on := 8, ground := Go.Ground.data }, { on := 10, ground := Go.Ground.data }, { on := 12, ground := Go.Ground.data }, { on := 14, ground := Go.Ground.data }, { on := 7, ground := Go.Ground.chain }], guard := none }) rfl (fun K hK => ?_) AllReadyH.nil
        go_simp
        refine (CR.out _ hT3).mono ?_; rintro e w4 ⟨rfl, hT4⟩
        refine hK.out _ _ ?_ (fun hHeld => ?_)
        focus exact ⟨hT4.cell 2, hT4.cell 3, hT4.cell 4⟩
        clear hK K
        (try simp only [Act.put, List.setIfInBounds_toArray, List.set_cons_zero, List.set_cons_succ])  -- 15 call none
        refine wpAnyH_take (i := 16) (oi := { dst := some 109, op := Go.Op.binOp Go.BinOp.eql 32 (Go.Operand.tmp 100) (Go.Operand.tmp 108) 32, type := 4, pos := "law.go:49", after := #[{ on := 7, ground := Go.Ground.data }, { on := 15, ground := Go.Ground.data }], guard := none }) (v := ?_) rfl (by kernel_rfl) (by kernel_rfl) (by kernel_rfl) (fun _ _ _ h => h) (Or.inl ⟨by rfl, ?_⟩) (by assumption) ?_
        (rotate_left; focus (intro wx hSw; (try dsimp only at hSw); go_simp; try with_reducible rfl))
        (try simp only [Act.put, List.setIfInBounds_toArray, List.set_cons_zero, List.set_cons_succ])  -- 16 binOp none
        refine wpAnyH_take (i := 17) (oi := { dst := some 8, op := Go.Op.assign (Go.Operand.tmp 109), type := 4, pos := "law.go:49", after := #[{ on := 16, ground := Go.Ground.data }, { on := 15, ground := Go.Ground.chain }, { on := 0, ground := Go.Ground.phase }, { on := 1, ground := Go.Ground.phase }, { on := 2, ground := Go.Ground.phase }, { on := 3, ground := Go.Ground.phase }, { on := 4, ground := Go.Ground.phase }, { on := 5, ground := Go.Ground.phase }, { on := 6, ground := Go.Ground.phase }, { on := 7, ground := Go.Ground.phase }, { on := 8, ground := Go.Ground.phase }, { on := 9, ground := Go.Ground.phase }, { on := 10, ground := Go.Ground.phase }, { on := 11, ground := Go.Ground.phase }, { on := 12, ground := Go.Ground.phase }, { on := 13, ground := Go.Ground.phase }, { on := 14, ground := Go.Ground.phase }, { on := 15, ground := Go.Ground.phase }, { on := 16, ground := Go.Ground.phase }], guard := none }) (v := ?_) rfl (by kernel_rfl) (by kernel_rfl) (by kernel_rfl) (fun _ _ _ h => h) (Or.inl ⟨by rfl, ?_⟩) (by assumption) ?_
        (rotate_left; focus (intro wx hSw; (try dsimp only at hSw); go_simp; try with_reducible rfl))
        (try simp only [Act.put, List.setIfInBounds_toArray, List.set_cons_zero, List.set_cons_succ])  -- 17 assign none
        refine wpAnyH_done (by kernel_rfl) ?_ _
        have T4 := Lib.hid hT4
        clear hT4 hT3 hT1 hHeld CT CR
        have r0 : w4.cell? ⟨w.heap.size + 1, 0, none⟩ = some (.int .u64 s2.d) := T4.out.2.1.1.cell 0
        have hbW : w.heap.size + 1 < w4.heap.size := T4.out.2.1.1.lt
        have CD : Hid (∀ n, Calls Try.prog 20 #[.pointer (some ⟨w.heap.size, 0, none⟩)] (w4.drewN n) fun e w' => e = .returned (.int .u64 s2.d) ∧ w4.drewN n = w') := Lib.hid (fun n => delivered_any _ s2 _ (T4.out.drewN n).1.1)
        go_wp2_with fail
        go_quiet ((go_at_call 20; exact still (CD.out _)))
        go_wp2
        go_roundw
        case rel => exact ⟨k + 1, s2, xs, _, rfl, by omega, by omega, by have := HL.out; omega, OK2.out, HXS.out, by simp, (T4.out.drewN _).1, (T4.out.drewN _).2.1, (T4.out.drewN _).2.2.1⟩
        case measure => simp [intOf]; omega
      have y2 : (kind == 2) = false := by rw [beq_eq_false_iff_ne]; exact hk2
      by_cases hk3 : kind = 3
      · subst hk3
        go_wp2_with fail
        refine (HT.out.limit flight HK.out HW3.out).mono ?_; rintro e w3 ⟨rfl, hT3⟩
        have T3 := Lib.hid hT3
        have q4 : w3.cell? ⟨wr.heap.size, 4, none⟩ = some (.int .u64 flight) := hT3.cell 4
        clear hT3 d0 d1 d2 d3 d4 d5 d6 d7 d8 d9 d10
        go_wp2_with fail
        refine (T3.out.rlimit flight HK.out HW3.out).mono ?_; rintro e w4 ⟨rfl, hT4⟩
        have OK2 : Hid ((limF s flight).ok) := Lib.hid (limF_ok HK.out)
        generalize limF s flight = s2 at *
        have T4 := Lib.hid hT4
        clear hT4 q4 T3
        have r0 : w4.cell? ⟨w.heap.size + 1, 0, none⟩ = some (.int .u64 s2.d) := T4.out.2.1.1.cell 0
        have hbW : w.heap.size + 1 < w4.heap.size := T4.out.2.1.1.lt
        have CD : Hid (∀ n, Calls Try.prog 20 #[.pointer (some ⟨w.heap.size, 0, none⟩)] (w4.drewN n) fun e w' => e = .returned (.int .u64 s2.d) ∧ w4.drewN n = w') := Lib.hid (fun n => delivered_any _ s2 _ (T4.out.drewN n).1.1)
        go_wp2_with fail
        go_quiet ((go_at_call 20; exact still (CD.out _)))
        go_wp2
        go_roundw
        case rel => exact ⟨k + 1, s2, xs, _, rfl, by omega, by omega, by have := HL.out; omega, OK2.out, HXS.out, by simp, (T4.out.drewN _).1, (T4.out.drewN _).2.1, (T4.out.drewN _).2.2.1⟩
        case measure => simp [intOf]; omega
      have y3 : (kind == 3) = false := by rw [beq_eq_false_iff_ne]; exact hk3
      obtain ⟨⟨ya, yd, yda, yfa, yl⟩, hY⟩ : ∃ Y, sentV (sentF s now flight) now = Y := ⟨_, rfl⟩
      have hyok : ST.ok ⟨ya, yd, yda, yfa, yl⟩ := by rw [← hY]; exact sentV_ok (sentF_ok HK.out HW1.out) HW1.out
      have CS : Hid (∀ wq, TB w wq w.heap.size s s v5 xs wr.heap.size #[.int .i64 kind, .int .i64 oat, .int .u64 now, .int .u64 size, .int .u64 flight, .int .u64 xa, .int .u64 xd, .int .u64 xda, .int .u64 xfa, .bool xl, .bool raw] → Calls Try.prog 19 #[.pointer (some ⟨w.heap.size, 0, none⟩), .int .u64 now, .int .u64 flight] wq fun e w' => e = .returned (.agg #[.int .u64 ya, .int .u64 yd, .int .u64 yda, .int .u64 yfa, .bool yl]) ∧ TB w w' w.heap.size (sentF s now flight) s v5 xs wr.heap.size #[.int .i64 kind, .int .i64 oat, .int .u64 now, .int .u64 size, .int .u64 flight, .int .u64 xa, .int .u64 xd, .int .u64 xda, .int .u64 xfa, .bool xl, .bool raw]) := Lib.hid (fun wq h => by
        have := h.sent now flight
        rw [hY] at this
        exact this)
      have CR : Hid (∀ wq, TB w wq w.heap.size (sentF s now flight) s v5 xs wr.heap.size #[.int .i64 kind, .int .i64 oat, .int .u64 now, .int .u64 size, .int .u64 flight, .int .u64 xa, .int .u64 xd, .int .u64 xda, .int .u64 xfa, .bool xl, .bool raw] → Calls Try.prog 25 #[.pointer (some ⟨w.heap.size + 1, 0, none⟩), .int .u64 now, .int .u64 flight] wq fun e w' => e = .returned (.agg #[.int .u64 ya, .int .u64 yd, .int .u64 yda, .int .u64 yfa, .bool yl]) ∧ Put wq w' (w.heap.size + 1) 42 (rsam (sentF s now flight))) := Lib.hid (fun wq h => by
        have := rsent_any (w.heap.size + 1) s now flight wq h.2.1.1
        rw [hY] at this
        exact this)
      have OK2 : Hid ((sentF s now flight).ok) := Lib.hid (sentF_ok HK.out HW1.out)
      have HYK := Lib.hid hyok
      clear hY hyok
      generalize sentF s now flight = s2 at *
      go_wp2_with fail
      refine (CS.out _ HT.out).mono ?_; rintro e w3 ⟨rfl, hT3⟩
      have T3 := Lib.hid hT3
      have hsz3 := hT3.2.1.1.lt
      have hsz4 := hT3.2.2.2.1.lt
      clear hT3 d0 d1 d2 d3 d4 d5 d6 d7 d8 d9 d10
      go_wp2_with fail
      obtain ⟨yb, hyb⟩ : ∃ yb, yb = w3.heap.size := ⟨_, rfl⟩
      refine wp_named (fun w1 => TB w w1 w.heap.size s2 s v5 xs wr.heap.size #[.int .i64 kind, .int .i64 oat, .int .u64 now, .int .u64 size, .int .u64 flight, .int .u64 xa, .int .u64 xd, .int .u64 xda, .int .u64 xfa, .bool xl, .bool raw] ∧ At w1 w3.heap.size 30 #[.int .u64 ya, .int .u64 yd, .int .u64 yda, .int .u64 yfa, .bool yl]) ⟨T3.out.alloc _, At.made _ _ _⟩ (fun w4 hw4 => ?_)
      obtain ⟨hT1, hY1⟩ := hw4
      refine wp_region_held_drew (S := fun wq => wq.cell? ⟨wr.heap.size, 2, none⟩ = some (.int .u64 now) ∧ wq.cell? ⟨wr.heap.size, 4, none⟩ = some (.int .u64 flight) ∧ wq.cell? ⟨w3.heap.size, 0, none⟩ = some (.int .u64 ya) ∧ wq.cell? ⟨w3.heap.size, 1, none⟩ = some (.int .u64 yd) ∧ wq.cell? ⟨w3.heap.size, 2, none⟩ = some (.int .u64 yda) ∧ wq.cell? ⟨w3.heap.size, 3, none⟩ = some (.int .u64 yfa) ∧ wq.cell? ⟨w3.heap.size, 4, none⟩ = some (.bool yl)) (by kernel_rfl) ⟨hT1.cell 2, hT1.cell 4, hY1.cell 0, hY1.cell 1, hY1.cell 2, hY1.cell 3, hY1.cell 4⟩ (fun hHeld => ?_)
      refine wpAnyH_take (i := 0) (oi := { dst := some 42, op := Go.Op.load 30 (Go.Operand.tmp 10), type := 30, pos := "law.go:55", after := #[], guard := none }) (v := ?_) rfl (by kernel_rfl) (by kernel_rfl) (by kernel_rfl) (fun _ _ _ h => h) (Or.inl ⟨by rfl, ?_⟩) (by assumption) ?_
      (rotate_left; focus (intro wx hSw; (try dsimp only at hSw); go_simp; try with_reducible rfl))
      (try simp only [Act.put, List.setIfInBounds_toArray, List.set_cons_zero, List.set_cons_succ])  -- 0 load none
      refine wpAnyH_take (i := 1) (oi := { dst := some 43, op := Go.Op.move (Go.Operand.tmp 4), type := 40, pos := "law.go:55", after := #[], guard := none }) (v := ?_) rfl (by kernel_rfl) (by kernel_rfl) (by kernel_rfl) (fun _ _ _ h => h) (Or.inl ⟨by rfl, ?_⟩) (by assumption) ?_
      (rotate_left; focus (intro wx hSw; (try dsimp only at hSw); go_simp; try with_reducible rfl))
      (try simp only [Act.put, List.setIfInBounds_toArray, List.set_cons_zero, List.set_cons_succ])  -- 1 move none
      refine wpAnyH_take (i := 2) (oi := { dst := some 44, op := Go.Op.fieldAddr 44 (Go.Operand.tmp 7) 2, type := 0, pos := "law.go:55", after := #[], guard := none }) (v := ?_) rfl (by kernel_rfl) (by kernel_rfl) (by kernel_rfl) (fun _ _ _ h => h) (Or.inl ⟨by rfl, ?_⟩) (by assumption) ?_
      (rotate_left; focus (intro wx hSw; (try dsimp only at hSw); go_simp; try with_reducible rfl))
      (try simp only [Act.put, List.setIfInBounds_toArray, List.set_cons_zero, List.set_cons_succ])  -- 2 fieldAddr none
      refine wpAnyH_take (i := 3) (oi := { dst := some 45, op := Go.Op.load 22 (Go.Operand.tmp 44), type := 22, pos := "law.go:55", after := #[{ on := 2, ground := Go.Ground.data }], guard := none }) (v := ?_) rfl (by kernel_rfl) (by kernel_rfl) (by kernel_rfl) (fun _ _ _ h => h) (Or.inl ⟨by rfl, ?_⟩) (by assumption) ?_
      (rotate_left; focus (intro wx hSw; (try dsimp only at hSw); go_simp; try with_reducible rfl))
      (try simp only [Act.put, List.setIfInBounds_toArray, List.set_cons_zero, List.set_cons_succ])  -- 3 load none
      refine wpAnyH_take (i := 4) (oi := { dst := some 46, op := Go.Op.fieldAddr 44 (Go.Operand.tmp 7) 4, type := 0, pos := "law.go:55", after := #[], guard := none }) (v := ?_) rfl (by kernel_rfl) (by kernel_rfl) (by kernel_rfl) (fun _ _ _ h => h) (Or.inl ⟨by rfl, ?_⟩) (by assumption) ?_
      (rotate_left; focus (intro wx hSw; (try dsimp only at hSw); go_simp; try with_reducible rfl))
      (try simp only [Act.put, List.setIfInBounds_toArray, List.set_cons_zero, List.set_cons_succ])  -- 4 fieldAddr none
      refine wpAnyH_take (i := 5) (oi := { dst := some 47, op := Go.Op.load 22 (Go.Operand.tmp 46), type := 22, pos := "law.go:55", after := #[{ on := 4, ground := Go.Ground.data }], guard := none }) (v := ?_) rfl (by kernel_rfl) (by kernel_rfl) (by kernel_rfl) (fun _ _ _ h => h) (Or.inl ⟨by rfl, ?_⟩) (by assumption) ?_
      (rotate_left; focus (intro wx hSw; (try dsimp only at hSw); go_simp; try with_reducible rfl))
      (try simp only [Act.put, List.setIfInBounds_toArray, List.set_cons_zero, List.set_cons_succ])  -- 5 load none
      refine wpAnyH_ready (rs := [6]) (by kernel_rfl) (by simp) ?_
      refine AllReadyH.cons (o := { dst := some 48, op := Go.Op.call { callee := Go.Callee.value (Go.Operand.func 25), args := #[Go.Operand.tmp 43, Go.Operand.tmp 45, Go.Operand.tmp 47], argTypes := #[40, 22, 22] }, type := 30, pos := "law.go:55", after := #[{ on := 1, ground := Go.Ground.data }, { on := 3, ground := Go.Ground.data }, { on := 5, ground := Go.Ground.data }], guard := none }) rfl (fun K hK => ?_) AllReadyH.nil
      go_simp
      refine (CR.out _ hT1.drew).mono ?_; rintro e w5 ⟨rfl, hp5⟩
      have hT5 := hT1.drew.putR hp5
      have hY5 := hp5.other hY1 (by omega)
      refine hK.out _ _ ?_ (fun hHeld => ?_)
      focus exact ⟨hT5.cell 2, hT5.cell 4, hY5.cell 0, hY5.cell 1, hY5.cell 2, hY5.cell 3, hY5.cell 4⟩
      clear hK K
      (try simp only [Act.put, List.setIfInBounds_toArray, List.set_cons_zero, List.set_cons_succ])  -- 6 call none
      refine wpAnyH_take (i := 7) (oi := { dst := some 49, op := Go.Op.binOp Go.BinOp.eql 30 (Go.Operand.tmp 42) (Go.Operand.tmp 48) 30, type := 4, pos := "law.go:55", after := #[{ on := 0, ground := Go.Ground.data }, { on := 6, ground := Go.Ground.data }], guard := none }) (v := ?_) rfl (by kernel_rfl) (by kernel_rfl) (by kernel_rfl) (fun _ _ _ h => h) (Or.inl ⟨by rfl, ?_⟩) (by assumption) ?_
      (rotate_left; focus (intro wx hSw; (try dsimp only at hSw); go_simp; try with_reducible rfl))
      (try simp only [Act.put, List.setIfInBounds_toArray, List.set_cons_zero, List.set_cons_succ])  -- 7 binOp none
      refine wpAnyH_take (i := 8) (oi := { dst := some 8, op := Go.Op.assign (Go.Operand.tmp 49), type := 4, pos := "law.go:55", after := #[{ on := 7, ground := Go.Ground.data }, { on := 6, ground := Go.Ground.chain }, { on := 0, ground := Go.Ground.phase }, { on := 1, ground := Go.Ground.phase }, { on := 2, ground := Go.Ground.phase }, { on := 3, ground := Go.Ground.phase }, { on := 4, ground := Go.Ground.phase }, { on := 5, ground := Go.Ground.phase }, { on := 6, ground := Go.Ground.phase }, { on := 7, ground := Go.Ground.phase }], guard := none }) (v := ?_) rfl (by kernel_rfl) (by kernel_rfl) (by kernel_rfl) (fun _ _ _ h => h) (Or.inl ⟨by rfl, ?_⟩) (by assumption) ?_
      (rotate_left; focus (intro wx hSw; (try dsimp only at hSw); go_simp; try with_reducible rfl))
      (try simp only [Act.put, List.setIfInBounds_toArray, List.set_cons_zero, List.set_cons_succ])  -- 8 assign none
      refine wpAnyH_done (by kernel_rfl) ?_ _
      have T5 := Lib.hid hT5
      have z0 : w5.cell? ⟨w3.heap.size, 0, none⟩ = some (.int .u64 ya) := hY5.cell 0
      have z1 : w5.cell? ⟨w3.heap.size, 1, none⟩ = some (.int .u64 yd) := hY5.cell 1
      have z2 : w5.cell? ⟨w3.heap.size, 2, none⟩ = some (.int .u64 yda) := hY5.cell 2
      have z3 : w5.cell? ⟨w3.heap.size, 3, none⟩ = some (.int .u64 yfa) := hY5.cell 3
      have z4 : w5.cell? ⟨w3.heap.size, 4, none⟩ = some (.bool yl) := hY5.cell 4
      have hsz5 := hY5.lt
      clear hT5 hY5 hT1 hY1 hHeld CS CR hp5 hyb yb
      go_wp2_with (at_builtin; refine wpList_append_lies _ rfl _ _ 27 rfl (w.heap.size + 2) 30 i0 (.agg #[.int .u64 0, .int .u64 0, .int .u64 0, .int .u64 0, .bool false]) 5 40 Try.underlying27 HI.out.1 HI.out.2.1 HI.out.2.2.1 HI.out.2.2.2 rfl (by decide) _ xs.length (rowsT xs) rfl (T5.out.2.2.1.alloc _) ⟨w5.heap.size, 0, none⟩ 1 1 [.int .u64 ya, .int .u64 yd, .int .u64 yda, .int .u64 yfa, .bool yl] rfl rfl ?c1 ?c2 (by decide) ?c3 ?c4 ?c5 _ rfl ?_)
      case c1 =>
        intro j u hj
        match j, hj with
        | 0, hj => simp at hj; subst hj; simp [Addr.add]
        | 1, hj => simp at hj; subst hj; simp [Addr.add]
        | 2, hj => simp at hj; subst hj; simp [Addr.add]
        | 3, hj => simp at hj; subst hj; simp [Addr.add]
        | 4, hj => simp at hj; subst hj; simp [Addr.add]
      case c2 =>
        intro u hu
        simp only [List.mem_cons, List.not_mem_nil, or_false] at hu
        rcases hu with rfl | rfl | rfl | rfl | rfl <;> rfl
      case c3 => unfold maxLen; have := HL.out; omega
      case c4 => have := HL.out; omega
      case c5 => simp; omega
      intro gb cp w7 hown7 hgrow7 hat7 hlt7
      have O7 := Lib.hid (own_grow (T5.out.1.alloc _) (T5.out.2.2.1.alloc _) (by omega) hgrow7)
      have P7 := Lib.hid (own_grow (T5.out.2.1.alloc _) (T5.out.2.2.1.alloc _) (by omega) hgrow7)
      have X7 : Hid (w7.ownsRow (w.heap.size + 2) 30 5 (.slice (some ⟨gb, 0, none⟩) (xs.length + 1) cp) (xs ++ [(⟨ya, yd, yda, yfa, yl⟩ : ST)]).length (rowsT (xs ++ [(⟨ya, yd, yda, yfa, yl⟩ : ST)]))) := by
        rw [rowsT_snoc, List.length_append]
        exact Lib.hid hown7
      clear hown7 hgrow7 hat7 hlt7 z0 z1 z2 z3 z4
      have r0 : w7.cell? ⟨w.heap.size + 1, 0, none⟩ = some (.int .u64 s2.d) := P7.out.1.cell 0
      have CD : Hid (∀ n, Calls Try.prog 20 #[.pointer (some ⟨w.heap.size, 0, none⟩)] (w7.drewN n) fun e w' => e = .returned (.int .u64 s2.d) ∧ w7.drewN n = w') := Lib.hid (fun n => delivered_any _ s2 _ (O7.out.drewN n).1)
      go_wp2_with fail
      go_quiet ((go_at_call 20; exact still (CD.out _)))
      go_wp2
      go_roundw
      case rel => exact ⟨k + 1, s2, xs ++ [(⟨ya, yd, yda, yfa, yl⟩ : ST)], _, rfl, by omega, by omega, by simp; have := HL.out; omega, OK2.out, by
        intro y hy
        rcases List.mem_append.1 hy with h | h
        · exact HXS.out y h
        · simp at h; subst h; exact HYK.out, by simp, O7.out.drewN _, P7.out.drewN _, by
        have := X7.out
        simp only [List.length_append, List.length_cons, List.length_nil] at this ⊢
        exact this⟩
      case measure => simp [intOf]; omega
    · have hx : decide (k < len) = false ∨ k < len ∧ 80 ≤ k := by simp; omega
      clear hlt
      rcases hx with hx | ⟨hx1, hx⟩
      all_goals
        go_wp2
        go_ret
        exact ⟨rfl, HO.out.2.1⟩
end Go.Proofs.Ytojgpgjmcamfoaa
