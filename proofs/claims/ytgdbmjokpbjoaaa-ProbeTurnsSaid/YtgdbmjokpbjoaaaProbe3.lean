/- probe.Update joined, New, Best, In, and the awake of the statements. -/
import Derived.Test.YtgdbmjokpbjoaaaProbe2
namespace Go.Proofs.Ytgdbmjokpbjoaaa
open Go.RowKit Go.Lib
set_option linter.unusedVariables false

theorem upd_any (b : Nat) (s : PS) (now rtt : Nat) (start : Bool) (flight floor : Nat) (hst : s.stamp < 18446744073709551616) (hn : now < 18446744073709551616) (w : World) (h : At w b 69 (prb s)) :
    Calls Try.prog 29 #[.pointer (some ⟨b, 0, none⟩), .int .u64 now, .int .u64 rtt, .bool start, .int .u64 flight, .int .u64 floor] w
      fun e w' => e = .returned (.tuple #[.bool (updF s now rtt start flight floor).1, .bool (updF s now rtt start flight floor).2.1]) ∧ Put w w' b 69 (prb (updF s now rtt start flight floor).2.2) := by
  obtain ⟨best, stamp, inn, till, round⟩ := s
  have hst' : stamp < 18446744073709551616 := hst
  rcases Nat.eq_zero_or_pos best with hb | hb
  · rcases Nat.eq_zero_or_pos rtt with hr | hr
    · cases inn
      · exact upd_b0_r0_false b best stamp till now rtt round start flight floor hst' hn hb hr w h
      · exact upd_b0_r0_true b best stamp till now rtt round start flight floor hst' hn hb hr w h
    · cases inn
      · exact upd_b0_r1_false b best stamp till now rtt round start flight floor hst' hn hb hr w h
      · exact upd_b0_r1_true b best stamp till now rtt round start flight floor hst' hn hb hr w h
  · by_cases hx : satAdd stamp 10000000000 < now
    · rcases Nat.eq_zero_or_pos rtt with hr | hr
      · cases inn
        · exact upd_x_r0_false b best stamp till now rtt round start flight floor hst' hn hb hx hr w h
        · exact upd_x_r0_true b best stamp till now rtt round start flight floor hst' hn hb hx hr w h
      · by_cases hl : rtt ≤ best
        · cases inn
          · exact upd_x_rle_false b best stamp till now rtt round start flight floor hst' hn hb hx hr hl w h
          · exact upd_x_rle_true b best stamp till now rtt round start flight floor hst' hn hb hx hr hl w h
        · cases inn
          · exact upd_x_rgt_false b best stamp till now rtt round start flight floor hst' hn hb hx hr hl w h
          · exact upd_x_rgt_true b best stamp till now rtt round start flight floor hst' hn hb hx hr hl w h
    · rcases Nat.eq_zero_or_pos rtt with hr | hr
      · cases inn
        · exact upd_n_r0_false b best stamp till now rtt round start flight floor hst' hn hb hx hr w h
        · exact upd_n_r0_true b best stamp till now rtt round start flight floor hst' hn hb hx hr w h
      · by_cases hl : rtt ≤ best
        · cases inn
          · exact upd_n_rle_false b best stamp till now rtt round start flight floor hst' hn hb hx hr hl w h
          · exact upd_n_rle_true b best stamp till now rtt round start flight floor hst' hn hb hx hr hl w h
        · cases inn
          · exact upd_n_rgt_false b best stamp till now rtt round start flight floor hst' hn hb hx hr hl w h
          · exact upd_n_rgt_true b best stamp till now rtt round start flight floor hst' hn hb hx hr hl w h

theorem upd_nil (now rtt : Nat) (start : Bool) (flight floor : Nat) (w : World) :
    Calls Try.prog 29 #[.pointer none, .int .u64 now, .int .u64 rtt, .bool start, .int .u64 flight, .int .u64 floor] w
      fun e w' => e = .returned (.tuple #[.bool false, .bool false]) ∧ w = w' := by
  go_enter Try.func29, Try.ntmps29
  go_wp2
  go_step3
  go_wp2
  go_step3
  go_wp2
  refine wp_loop_rounds 1 ?_
  rw [rounds_succ]
  go_wp2
  (try rw [Exit.noGoto_ret])
  go_ret2
  exact ⟨rfl, rfl⟩

theorem pnew_any (w : World) :
    Calls Try.prog 27 #[] w fun e w' => e = .returned (.pointer (some ⟨w.heap.size, 0, none⟩)) ∧ w' = w.alloc (.cells (prb ⟨0, 0, false, 0, false⟩) 69) := by
  go_enter Try.func27, Try.ntmps27
  go_wp2
  go_ret
  exact ⟨rfl, rfl⟩
theorem best_any (b : Nat) (s : PS) (w : World) (h : At w b 69 (prb s)) :
    Calls Try.prog 31 #[.pointer (some ⟨b, 0, none⟩)] w fun e w' => e = .returned (.int .u64 s.best) ∧ w = w' := by
  have h0 : w.cell? ⟨b, 0, none⟩ = some (.int .u64 s.best) := h.cell 0
  clear h
  go_enter Try.func31, Try.ntmps31
  go_wp2
  go_ret
  exact ⟨rfl, rfl⟩
theorem best_nil (w : World) :
    Calls Try.prog 31 #[.pointer none] w fun e w' => e = .returned (.int .u64 0) ∧ w = w' := by
  go_enter Try.func31, Try.ntmps31
  go_wp2
  go_ret
  exact ⟨rfl, rfl⟩
theorem in_any (b : Nat) (s : PS) (w : World) (h : At w b 69 (prb s)) :
    Calls Try.prog 32 #[.pointer (some ⟨b, 0, none⟩)] w fun e w' => e = .returned (.bool s.inn) ∧ w = w' := by
  have h0 : w.cell? ⟨b, 2, none⟩ = some (.bool s.inn) := h.cell 2
  clear h
  go_enter Try.func32, Try.ntmps32
  go_wp2
  go_ret
  exact ⟨rfl, rfl⟩
theorem in_nil (w : World) :
    Calls Try.prog 32 #[.pointer none] w fun e w' => e = .returned (.bool false) ∧ w = w' := by
  go_enter Try.func32, Try.ntmps32
  go_wp2
  go_ret
  exact ⟨rfl, rfl⟩

theorem awake15 (w : World) : Calls Try.prog 28 #[] w fun e w' => e = .returned (.bool true) ∧ Below w.heap.size w w' := by
  go_enter Try.func28, Try.ntmps28
  go_wp2_with fail
  refine (pnew_any _).mono ?_; rintro e w1 ⟨rfl, hw1⟩
  have O1 : Hid (Own w w1 w.heap.size 69 (prb ⟨0, 0, false, 0, false⟩)) := by rw [hw1]; exact Own.made (Below.refl _ _) _ _
  clear hw1
  go_wp2_with fail
  refine (upd_any w.heap.size ⟨0, 0, false, 0, false⟩ 1 5 false 0 0 (by simp) (by simp) _ O1.out.1).mono ?_; rintro e w2 ⟨rfl, p2⟩
  have e2 : updF ⟨0, 0, false, 0, false⟩ 1 5 false 0 0 = (false, false, ⟨5, 1, false, 0, false⟩) := by simp [updF, s1F, setF, expF]
  rw [e2] at p2
  have O2 := Lib.hid (O1.out.put p2)
  clear p2
  go_wp2_with fail
  refine (upd_any w.heap.size ⟨5, 1, false, 0, false⟩ 11000000001 7 false 9 0 (by simp) (by simp) _ O2.out.1).mono ?_; rintro e w3 ⟨rfl, p3⟩
  have e3 : updF ⟨5, 1, false, 0, false⟩ 11000000001 7 false 9 0 = (true, false, ⟨7, 11000000001, true, 0, false⟩) := by
    have : satAdd 1 10000000000 = 10000000001 := by simp [satAdd]
    simp [updF, s1F, setF, expF, this]
  rw [e3] at p3 ⊢
  have O3 := Lib.hid (O2.out.put p3)
  clear p3 e2 e3
  go_wp2_with fail
  refine (best_any w.heap.size ⟨7, 11000000001, true, 0, false⟩ _ O3.out.1).mono ?_; rintro e w' ⟨rfl, rfl⟩
  go_wp2_with fail
  refine (in_any w.heap.size ⟨7, 11000000001, true, 0, false⟩ _ O3.out.1).mono ?_; rintro e w' ⟨rfl, rfl⟩
  go_wp2
  go_ret
  exact ⟨rfl, O3.out.2.1⟩
end Go.Proofs.Ytgdbmjokpbjoaaa
