/- The walk of ProbeTells. -/
import Derived.Test.YtgdbmjokpbjoaaaProbe3
import Derived.Test.YtgdbmjokpbjoaaaProbe4
namespace Go.Proofs.Ytgdbmjokpbjoaaa
open Go.RowKit Go.Lib
set_option linter.unusedVariables false

structure POp where
  now : Nat
  rtt : Nat
  flight : Nat
  floor : Nat
  start : Bool
/-- a slice of updates that came in -/
def OpRow (w : World) (a : Option Addr) (len : Nat) (f : Nat → POp) : Prop :=
  len ≤ 9223372036854775807 ∧ (∀ k, k < len → (f k).now < 18446744073709551616 ∧ (f k).rtt < 18446744073709551616) ∧ (0 < len → ∃ b off, a = some ⟨b, off, none⟩ ∧ b < w.heap.size ∧ ∀ k, k < len →
    w.cell? ⟨b, off + k * 5, none⟩ = some (.int .u64 (f k).now) ∧ w.cell? ⟨b, off + k * 5 + 1, none⟩ = some (.int .u64 (f k).rtt) ∧ w.cell? ⟨b, off + k * 5 + 2, none⟩ = some (.int .u64 (f k).flight) ∧ w.cell? ⟨b, off + k * 5 + 3, none⟩ = some (.int .u64 (f k).floor) ∧ w.cell? ⟨b, off + k * 5 + 4, none⟩ = some (.bool (f k).start))

theorem rupd_any (b : Nat) (s : RS) (now rtt : Nat) (start : Bool) (flight floor : Nat) (hst : s.stamp < 18446744073709551616) (hn : now < 18446744073709551616) (w : World) (h : At w b 44 (rprb s)) :
    Calls Try.prog 30 #[.pointer (some ⟨b, 0, none⟩), .int .u64 now, .int .u64 rtt, .bool start, .int .u64 flight, .int .u64 floor] w
      fun e w' => e = .returned (.tuple #[.bool (rupF s now rtt start flight floor).1, .bool (rupF s now rtt start flight floor).2.1]) ∧ Put w w' b 44 (rprb (rupF s now rtt start flight floor).2.2) := by
  obtain ⟨best, stamp, inn, waits, round, done⟩ := s
  have hst' : stamp < 18446744073709551616 := hst
  rcases Nat.eq_zero_or_pos best with hb | hb
  · rcases Nat.eq_zero_or_pos rtt with hr | hr
    · cases inn
      · exact rup_b0_r0_false b best stamp done now rtt waits round start flight floor hst' hn hb hr w h
      · cases waits
        · by_cases hf : flight ≤ floor
          · exact rup_b0_r0_wle b best stamp done now rtt false round start flight floor hst' hn hb hr hf w h
          · exact rup_b0_r0_wgt b best stamp done now rtt false round start flight floor hst' hn hb hr hf w h
        · by_cases hd : done < now ∧ (round || start) = true
          · exact rup_b0_r0_late b best stamp done now rtt true round start flight floor hst' hn hb hr hd.1 hd.2 w h
          · exact rup_b0_r0_stay b best stamp done now rtt true round start flight floor hst' hn hb hr hd w h
    · cases inn
      · exact rup_b0_r1_false b best stamp done now rtt waits round start flight floor hst' hn hb hr w h
      · cases waits
        · by_cases hf : flight ≤ floor
          · exact rup_b0_r1_wle b best stamp done now rtt false round start flight floor hst' hn hb hr hf w h
          · exact rup_b0_r1_wgt b best stamp done now rtt false round start flight floor hst' hn hb hr hf w h
        · by_cases hd : done < now ∧ (round || start) = true
          · exact rup_b0_r1_late b best stamp done now rtt true round start flight floor hst' hn hb hr hd.1 hd.2 w h
          · exact rup_b0_r1_stay b best stamp done now rtt true round start flight floor hst' hn hb hr hd w h
  · by_cases hx : satAdd stamp 10000000000 < now
    · rcases Nat.eq_zero_or_pos rtt with hr | hr
      · cases inn
        · exact rup_x_r0_false b best stamp done now rtt waits round start flight floor hst' hn hb hx hr w h
        · cases waits
          · by_cases hf : flight ≤ floor
            · exact rup_x_r0_wle b best stamp done now rtt false round start flight floor hst' hn hb hx hr hf w h
            · exact rup_x_r0_wgt b best stamp done now rtt false round start flight floor hst' hn hb hx hr hf w h
          · by_cases hd : done < now ∧ (round || start) = true
            · exact rup_x_r0_late b best stamp done now rtt true round start flight floor hst' hn hb hx hr hd.1 hd.2 w h
            · exact rup_x_r0_stay b best stamp done now rtt true round start flight floor hst' hn hb hx hr hd w h
      · by_cases hl : rtt ≤ best
        · cases inn
          · exact rup_x_rle_false b best stamp done now rtt waits round start flight floor hst' hn hb hx hr hl w h
          · cases waits
            · by_cases hf : flight ≤ floor
              · exact rup_x_rle_wle b best stamp done now rtt false round start flight floor hst' hn hb hx hr hl hf w h
              · exact rup_x_rle_wgt b best stamp done now rtt false round start flight floor hst' hn hb hx hr hl hf w h
            · by_cases hd : done < now ∧ (round || start) = true
              · exact rup_x_rle_late b best stamp done now rtt true round start flight floor hst' hn hb hx hr hl hd.1 hd.2 w h
              · exact rup_x_rle_stay b best stamp done now rtt true round start flight floor hst' hn hb hx hr hl hd w h
        · cases inn
          · exact rup_x_rgt_false b best stamp done now rtt waits round start flight floor hst' hn hb hx hr hl w h
          · cases waits
            · by_cases hf : flight ≤ floor
              · exact rup_x_rgt_wle b best stamp done now rtt false round start flight floor hst' hn hb hx hr hl hf w h
              · exact rup_x_rgt_wgt b best stamp done now rtt false round start flight floor hst' hn hb hx hr hl hf w h
            · by_cases hd : done < now ∧ (round || start) = true
              · exact rup_x_rgt_late b best stamp done now rtt true round start flight floor hst' hn hb hx hr hl hd.1 hd.2 w h
              · exact rup_x_rgt_stay b best stamp done now rtt true round start flight floor hst' hn hb hx hr hl hd w h
    · rcases Nat.eq_zero_or_pos rtt with hr | hr
      · cases inn
        · exact rup_n_r0_false b best stamp done now rtt waits round start flight floor hst' hn hb hx hr w h
        · cases waits
          · by_cases hf : flight ≤ floor
            · exact rup_n_r0_wle b best stamp done now rtt false round start flight floor hst' hn hb hx hr hf w h
            · exact rup_n_r0_wgt b best stamp done now rtt false round start flight floor hst' hn hb hx hr hf w h
          · by_cases hd : done < now ∧ (round || start) = true
            · exact rup_n_r0_late b best stamp done now rtt true round start flight floor hst' hn hb hx hr hd.1 hd.2 w h
            · exact rup_n_r0_stay b best stamp done now rtt true round start flight floor hst' hn hb hx hr hd w h
      · by_cases hl : rtt ≤ best
        · cases inn
          · exact rup_n_rle_false b best stamp done now rtt waits round start flight floor hst' hn hb hx hr hl w h
          · cases waits
            · by_cases hf : flight ≤ floor
              · exact rup_n_rle_wle b best stamp done now rtt false round start flight floor hst' hn hb hx hr hl hf w h
              · exact rup_n_rle_wgt b best stamp done now rtt false round start flight floor hst' hn hb hx hr hl hf w h
            · by_cases hd : done < now ∧ (round || start) = true
              · exact rup_n_rle_late b best stamp done now rtt true round start flight floor hst' hn hb hx hr hl hd.1 hd.2 w h
              · exact rup_n_rle_stay b best stamp done now rtt true round start flight floor hst' hn hb hx hr hl hd w h
        · cases inn
          · exact rup_n_rgt_false b best stamp done now rtt waits round start flight floor hst' hn hb hx hr hl w h
          · cases waits
            · by_cases hf : flight ≤ floor
              · exact rup_n_rgt_wle b best stamp done now rtt false round start flight floor hst' hn hb hx hr hl hf w h
              · exact rup_n_rgt_wgt b best stamp done now rtt false round start flight floor hst' hn hb hx hr hl hf w h
            · by_cases hd : done < now ∧ (round || start) = true
              · exact rup_n_rgt_late b best stamp done now rtt true round start flight floor hst' hn hb hx hr hl hd.1 hd.2 w h
              · exact rup_n_rgt_stay b best stamp done now rtt true round start flight floor hst' hn hb hx hr hl hd w h

/-- the program's state and the reference's -/
def Rel (s : PS) (t : RS) : Prop := s.best = t.best ∧ s.stamp = t.stamp ∧ s.inn = t.inn ∧ s.round = t.round ∧ s.stamp < 18446744073709551616 ∧ (s.inn = true → (s.till = 0 ∧ t.waits = false) ∨ (s.till ≠ 0 ∧ t.waits = true ∧ t.done = s.till))

theorem rel_step (s : PS) (t : RS) (now rtt : Nat) (start : Bool) (flight floor : Nat) (hn : now < 18446744073709551616) (h : Rel s t) :
    (updF s now rtt start flight floor).1 = (rupF t now rtt start flight floor).1 ∧ (updF s now rtt start flight floor).2.1 = (rupF t now rtt start flight floor).2.1 ∧ Rel (updF s now rtt start flight floor).2.2 (rupF t now rtt start flight floor).2.2 := by
  obtain ⟨best, stamp, inn, till, round⟩ := s
  obtain ⟨best', stamp', inn', waits, round', done⟩ := t
  obtain ⟨h1, h2, h3, h4, h5, h6⟩ := h
  simp only at h1 h2 h3 h4 h5 h6
  subst h1 h2 h3 h4
  have eE : rexpF ⟨best, stamp, inn, waits, round, done⟩ now = expF ⟨best, stamp, inn, till, round⟩ now := rfl
  have eS : rsetF ⟨best, stamp, inn, waits, round, done⟩ now rtt = setF ⟨best, stamp, inn, till, round⟩ now rtt := rfl
  unfold updF rupF rs1F s1F
  rw [eE, eS]
  generalize expF ⟨best, stamp, inn, till, round⟩ now = E
  generalize setF ⟨best, stamp, inn, till, round⟩ now rtt = S
  have hs : satAdd now 200000000 ≠ 0 := by unfold satAdd; split <;> omega
  cases inn
  · cases E <;> cases S <;> simp [Rel, h5, hn]
  · rcases h6 rfl with ⟨rfl, rfl⟩ | ⟨t0, rfl, rfl⟩
    · by_cases hf : flight ≤ floor <;> cases S <;> cases E <;> simp [Rel, leavesF, hf, h5, hn, hs]
    · by_cases hd : done < now
      · have hd' : ¬ now ≤ done := by omega
        cases round <;> cases start <;> cases S <;> cases E <;> simp [Rel, leavesF, hd, hd', h5, hn, t0]
      · have hd' : now ≤ done := by omega
        cases round <;> cases start <;> cases S <;> cases E <;> simp [Rel, leavesF, hd, hd', h5, hn, t0]

def TellRel (w0 : World) (b len : Nat) (v5 : Value) (wr : World) : Prop :=
  ∃ (k : Nat) (s : PS) (t : RS), k ≤ len ∧ k ≤ 100 ∧ Rel s t ∧ v5 = .int .i64 k ∧ Own w0 wr b 69 (prb s) ∧ Own w0 wr (b + 1) 44 (rprb t)

set_option maxRecDepth 8000 in
set_option maxHeartbeats 4000000 in
theorem probeTells_any (a : Option Addr) (len cap : Nat) (f : Nat → POp) (w : World) (hrow : OpRow w a len f) :
    Calls Try.prog 7 #[.slice a len cap] w fun e w' => e = .returned (.bool true) ∧ Below w.heap.size w w' := by
  obtain ⟨hlen, hwf, hrow⟩ := hrow
  have HW := Lib.hid hwf
  have HR := Lib.hid hrow
  clear hwf hrow
  go_enter Try.func7, Try.ntmps7
  go_wp2_with fail
  refine (pnew_any _).mono ?_; rintro e w1 ⟨rfl, hw1⟩
  have O1 : Hid (Own w (w1.alloc (.cells (rprb ⟨0, 0, false, false, false, 0⟩) 44)) w.heap.size 69 (prb ⟨0, 0, false, 0, false⟩)) := by rw [hw1]; exact (Own.made (Below.refl _ _) _ _).alloc _
  have O2 : Hid (Own w (w1.alloc (.cells (rprb ⟨0, 0, false, false, false, 0⟩) 44)) (w.heap.size + 1) 44 (rprb ⟨0, 0, false, false, false, 0⟩)) := by
    have := Own.made (w0 := w) ((Below.refl w.heap.size w).alloc (Nat.le_refl _) (.cells (prb ⟨0, 0, false, 0, false⟩) 69)) 44 (rprb ⟨0, 0, false, false, false, 0⟩)
    rw [hw1]
    exact Lib.hid (by simpa using this)
  have e1 : w1.heap.size = w.heap.size + 1 := by rw [hw1]; simp
  clear hw1
  go_wp2_with fail
  refine (awake15 _).mono ?_; rintro e w2 ⟨rfl, b2⟩
  have P1 := Lib.hid (O1.out.below b2)
  have P2 := Lib.hid (O2.out.below b2)
  clear b2
  go_wp2_with fail
  go_loopw [5] (fun v5 wr => TellRel w w.heap.size len v5 wr) (fun v5 _ => 100 - (intOf v5).toNat)
  case atStart => exact ⟨0, _, _, by omega, by omega, ⟨rfl, rfl, rfl, rfl, by decide, fun h => by cases h⟩, rfl, P1.out, P2.out⟩
  case round =>
    obtain ⟨k, s, t, hk1, hk2, hrel, rfl, hO, hP⟩ := hrel
    have HO := Lib.hid hO
    have HP := Lib.hid hP
    have HREL := Lib.hid hrel
    clear hO hP hrel
    by_cases hlt : k < len ∧ k < 100
    · obtain ⟨lt1, lt2⟩ := hlt
      obtain ⟨b, off, rfl, hb, hc⟩ := HR.out (by omega)
      obtain ⟨c0, c1, c2, c3, c4⟩ := hc k lt1
      have d0 := (HO.out.2.1.cell (p := ⟨b, off + k * 5, none⟩) hb).trans c0
      have d1 := (HO.out.2.1.cell (p := ⟨b, off + k * 5 + 1, none⟩) hb).trans c1
      have d2 := (HO.out.2.1.cell (p := ⟨b, off + k * 5 + 2, none⟩) hb).trans c2
      have d3 := (HO.out.2.1.cell (p := ⟨b, off + k * 5 + 3, none⟩) hb).trans c3
      have d4 := (HO.out.2.1.cell (p := ⟨b, off + k * 5 + 4, none⟩) hb).trans c4
      have hw := HW.out k lt1
      generalize f k = o at *
      obtain ⟨now, rtt, flight, floor, start⟩ := o
      simp only at d0 d1 d2 d3 d4 hw
      clear hc c0 c1 c2 c3 c4
      obtain ⟨r1, r2, r3⟩ := rel_step s t now rtt start flight floor hw.1 HREL.out
      have hs1 := HREL.out.2.2.2.2.1
      have hs2 : t.stamp < 18446744073709551616 := HREL.out.2.1 ▸ hs1
      have cu : ∀ wq, At wq w.heap.size 69 (prb s) → Calls Try.prog 29 #[.pointer (some ⟨w.heap.size, 0, none⟩), .int .u64 now, .int .u64 rtt, .bool start, .int .u64 flight, .int .u64 floor] wq
          fun e w' => e = .returned (.tuple #[.bool (updF s now rtt start flight floor).1, .bool (updF s now rtt start flight floor).2.1]) ∧ Put wq w' w.heap.size 69 (prb (updF s now rtt start flight floor).2.2) :=
        fun wq h => upd_any w.heap.size s now rtt start flight floor hs1 hw.1 wq h
      have cr : ∀ wq, At wq (w.heap.size + 1) 44 (rprb t) → Calls Try.prog 30 #[.pointer (some ⟨w.heap.size + 1, 0, none⟩), .int .u64 now, .int .u64 rtt, .bool start, .int .u64 flight, .int .u64 floor] wq
          fun e w' => e = .returned (.tuple #[.bool (rupF t now rtt start flight floor).1, .bool (rupF t now rtt start flight floor).2.1]) ∧ Put wq w' (w.heap.size + 1) 44 (rprb (rupF t now rtt start flight floor).2.2) :=
        fun wq h => rupd_any (w.heap.size + 1) t now rtt start flight floor hs2 hw.1 wq h
      rw [r1, r2] at cu
      generalize (updF s now rtt start flight floor).2.2 = s2 at *
      generalize (rupF t now rtt start flight floor).2.2 = t2 at *
      generalize (rupF t now rtt start flight floor).1 = x at *
      generalize (rupF t now rtt start flight floor).2.1 = y at *
      obtain ⟨B, S, I, tl, R⟩ := s2
      obtain ⟨B', S', I', wt, R', dn⟩ := t2
      obtain ⟨q1, q2, q3, q4, q5, q6⟩ := r3
      simp only at q1 q2 q3 q4 q5 q6
      subst q1 q2 q3 q4
      have HS : Hid (Rel ⟨B, S, I, tl, R⟩ ⟨B, S, I, wt, R, dn⟩) := Lib.hid ⟨rfl, rfl, rfl, rfl, q5, q6⟩
      have CU := Lib.hid cu
      have CR := Lib.hid cr
      clear hw cu cr r1 r2 hs1 hs2 q5 q6
      have hsz := HP.out.1.lt
      go_wp2_with fail
      refine (CU.out _ (HO.out.alloc _).1).mono ?_; rintro e w3 ⟨rfl, p3⟩
      have A3 := Lib.hid (p3.other (At.made wr 46 _) (by omega))
      have O3 := Lib.hid ((HO.out.alloc _).put p3)
      have P3 := Lib.hid ((HP.out.alloc _).other p3 (by omega) (Nat.le_refl _))
      have e0 := A3.out.cell 0
      have e1 := A3.out.cell 1
      have e2 := A3.out.cell 2
      have e3 := A3.out.cell 3
      have e4 := A3.out.cell 4
      simp at e0 e1 e2 e3 e4
      clear p3 d0 d1 d2 d3 d4
      go_wp2_with fail
      refine (CR.out _ P3.out.1).mono ?_; rintro e w4 ⟨rfl, p4⟩
      have O4 := Lib.hid (O3.out.other p4 (by omega) (by omega))
      have P4 := Lib.hid (P3.out.put p4)
      clear p4 e0 e1 e2 e3 e4
      have n0 : w4.cell? ⟨w.heap.size + 1, 0, none⟩ = some (.int .u64 B) := P4.out.1.cell 0
      have n2 : w4.cell? ⟨w.heap.size + 1, 2, none⟩ = some (.bool I) := P4.out.1.cell 2
      have CB := Lib.hid (fun n => best_any w.heap.size ⟨B, S, I, tl, R⟩ (w4.drewN n) (O4.out.drewN n).1)
      have CI := Lib.hid (fun n => in_any w.heap.size ⟨B, S, I, tl, R⟩ (w4.drewN n) (O4.out.drewN n).1)
      go_wp2_with fail
      go_quiet (first | (go_at_call 31; exact still (CB.out _)) | (go_at_call 32; exact still (CI.out _)))
      go_wp2
      go_roundw
      case rel => exact ⟨k + 1, ⟨B, S, I, tl, R⟩, ⟨B, S, I, wt, R, dn⟩, by omega, by omega, HS.out, by simp, O4.out.drewN _, P4.out.drewN _⟩
      case measure => simp [intOf]; omega
    · have hx : decide (k < len) = false ∨ k < len ∧ 100 ≤ k := by simp; omega
      clear hlt
      rcases hx with hx | ⟨hx1, hx⟩
      all_goals
        go_wp2
        go_ret
        exact ⟨rfl, HO.out.2.1⟩
theorem opRow_of {w : World} {a : Option Addr} {len : Nat} (hl : len ≤ 9223372036854775807)
    (h : 0 < len → ∃ b off, a = some ⟨b, off, none⟩ ∧ b < w.heap.size ∧ ∀ k, k < len → ∃ (x0 x1 x2 x3 : Int) (x4 : Bool), ((Lit.int .u64 x0).wf = true ∧ (Lit.int .u64 x1).wf = true ∧ (Lit.int .u64 x2).wf = true ∧ (Lit.int .u64 x3).wf = true) ∧
      w.cell? ⟨b, off + k * 5, none⟩ = some (.int .u64 x0) ∧ w.cell? ⟨b, off + k * 5 + 1, none⟩ = some (.int .u64 x1) ∧ w.cell? ⟨b, off + k * 5 + 2, none⟩ = some (.int .u64 x2) ∧ w.cell? ⟨b, off + k * 5 + 3, none⟩ = some (.int .u64 x3) ∧ w.cell? ⟨b, off + k * 5 + 4, none⟩ = some (.bool x4)) :
    ∃ f, OpRow w a len f := by
  rcases Nat.eq_zero_or_pos len with rfl | hp
  · exact ⟨fun _ => ⟨0, 0, 0, 0, false⟩, by omega, fun k hk => by omega, fun h => by omega⟩
  · obtain ⟨b, off, ha, hb, hc⟩ := h hp
    have hc' : ∀ k, ∃ o : POp, k < len → (o.now < 18446744073709551616 ∧ o.rtt < 18446744073709551616) ∧ w.cell? ⟨b, off + k * 5, none⟩ = some (.int .u64 o.now) ∧ w.cell? ⟨b, off + k * 5 + 1, none⟩ = some (.int .u64 o.rtt) ∧ w.cell? ⟨b, off + k * 5 + 2, none⟩ = some (.int .u64 o.flight) ∧ w.cell? ⟨b, off + k * 5 + 3, none⟩ = some (.int .u64 o.floor) ∧ w.cell? ⟨b, off + k * 5 + 4, none⟩ = some (.bool o.start) := by
      intro k
      by_cases hk : k < len
      · obtain ⟨x0, x1, x2, x3, x4, ⟨w0, w1, w2, w3⟩, c0, c1, c2, c3, c4⟩ := hc k hk
        obtain ⟨n0, rfl, h0⟩ := u64_of w0
        obtain ⟨n1, rfl, h1⟩ := u64_of w1
        obtain ⟨n2, rfl, h2⟩ := u64_of w2
        obtain ⟨n3, rfl, h3⟩ := u64_of w3
        exact ⟨⟨n0, n1, n2, n3, x4⟩, fun _ => ⟨⟨h0, h1⟩, c0, c1, c2, c3, c4⟩⟩
      · exact ⟨⟨0, 0, 0, 0, false⟩, fun h => absurd h hk⟩
    obtain ⟨f, hf⟩ := Classical.axiomOfChoice hc'
    exact ⟨f, hl, fun k hk => (hf k hk).1, fun _ => ⟨b, off, ha, hb, fun k hk => (hf k hk).2⟩⟩
end Go.Proofs.Ytgdbmjokpbjoaaa
