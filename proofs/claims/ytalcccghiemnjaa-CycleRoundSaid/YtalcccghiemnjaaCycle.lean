/- The contracts of cycle: what each method answers, and what it leaves of its object. -/
import Derived.Test.YtalcccghiemnjaaObj
import Derived.Test.YtalcccghiemnjaaSat
namespace Go.Proofs.Ytalcccghiemnjaa
open Go.RowKit Go.Lib
set_option linter.unusedVariables false

/-- a cycle's cells -/
def cyc (phase since : Nat) : Array Value := #[.int .i64 phase, .int .u64 since]

theorem phase_eq (k : Int) : (wrap64 (k.tmod 8 + 8)).tmod 8 = ((k % 8).toNat : Int) := by
  have e : -8 < k.tmod 8 ∧ k.tmod 8 < 8 ∧ (k.tmod 8 + 8) % 8 = k % 8 := by
    rcases Int.lt_or_le k 0 with h | h
    · obtain ⟨m, rfl⟩ : ∃ m : Nat, k = -(m : Int) := ⟨k.natAbs, by omega⟩
      rw [Int.neg_tmod, Int.tmod_eq_emod_of_nonneg (by omega)]
      omega
    · rw [Int.tmod_eq_emod_of_nonneg h]
      omega
  have w : wrap64 (k.tmod 8 + 8) = k.tmod 8 + 8 := by unfold wrap64; omega
  rw [w, Int.tmod_eq_emod_of_nonneg (by omega)]
  omega

theorem start_any (b p s n : Nat) (k : Int) (w : World) (h : At w b 52 (cyc p s)) :
    Calls Try.prog 16 #[.pointer (some ⟨b, 0, none⟩), .int .u64 n, .int .i64 k] w fun e w' => e = .returned (.tuple #[]) ∧ Put w w' b 52 (cyc (k % 8).toNat n) := by
  have h0 : w.cell? ⟨b, 0, none⟩ = some (.int .i64 p) := h.cell 0
  have h1 : w.cell? ⟨b, 1, none⟩ = some (.int .u64 s) := h.cell 1
  have f0 := h.free 0
  have f1 := h.free 1
  have E := Lib.hid (phase_eq k)
  have H := Lib.hid h
  clear h
  go_enter Try.func16, Try.ntmps16
  go_wp2
  rw [E.out]
  go_end0
  exact ⟨rfl, (Put.set H.out 0).then_ (Put.set (H.out.set 0) 1)⟩
/-- a phase from 0 on: no wrap is in sight -/
theorem start_nat (b p s n k : Nat) (hk : k < 8) (w : World) (h : At w b 52 (cyc p s)) :
    Calls Try.prog 16 #[.pointer (some ⟨b, 0, none⟩), .int .u64 n, .int .i64 k] w fun e w' => e = .returned (.tuple #[]) ∧ Put w w' b 52 (cyc k n) := by
  have c := start_any b p s n k w h
  rw [show ((k : Int) % 8).toNat = k from by omega] at c
  exact c
theorem start_nil (n : Int) (k : Int) (w : World) :
    Calls Try.prog 16 #[.pointer none, .int .u64 n, .int .i64 k] w fun e w' => e = .returned (.tuple #[]) ∧ w = w' := by
  go_enter Try.func16, Try.ntmps16
  go_wp2
  go_end0
  exact ⟨rfl, rfl⟩
theorem new_any (w : World) :
    Calls Try.prog 14 #[] w fun e w' => e = .returned (.pointer (some ⟨w.heap.size, 0, none⟩)) ∧ w' = w.alloc (.cells (cyc 0 0) 52) := by
  go_enter Try.func14, Try.ntmps14
  go_wp2
  go_ret
  exact ⟨rfl, rfl⟩
theorem phase_any (b p s : Nat) (w : World) (h : At w b 52 (cyc p s)) :
    Calls Try.prog 17 #[.pointer (some ⟨b, 0, none⟩)] w fun e w' => e = .returned (.int .i64 p) ∧ w = w' := by
  have h0 : w.cell? ⟨b, 0, none⟩ = some (.int .i64 p) := h.cell 0
  clear h
  go_enter Try.func17, Try.ntmps17
  go_wp2
  go_ret
  exact ⟨rfl, rfl⟩
theorem phase_nil (w : World) :
    Calls Try.prog 17 #[.pointer none] w fun e w' => e = .returned (.int .i64 0) ∧ w = w' := by
  go_enter Try.func17, Try.ntmps17
  go_wp2
  go_ret
  exact ⟨rfl, rfl⟩
def gainOf (p : Nat) : Nat := if p = 0 then 320 else if p = 1 then 192 else 256
theorem gain_any (b p s : Nat) (w : World) (h : At w b 52 (cyc p s)) :
    Calls Try.prog 19 #[.pointer (some ⟨b, 0, none⟩)] w fun e w' => e = .returned (.int .u64 (gainOf p : Nat)) ∧ w = w' := by
  have h0 : w.cell? ⟨b, 0, none⟩ = some (.int .i64 p) := h.cell 0
  clear h
  unfold gainOf
  by_cases p0 : p = 0
  · subst p0
    go_enter Try.func19, Try.ntmps19
    go_wp2
    go_ret
    exact ⟨rfl, rfl⟩
  · by_cases p1 : p = 1
    · subst p1
      go_enter Try.func19, Try.ntmps19
      go_wp2
      go_ret
      exact ⟨rfl, rfl⟩
    · rw [if_neg p0, if_neg p1]
      have t0 : ((p : Int) == 0) = false := by rw [beq_eq_false_iff_ne]; omega
      have t1 : ((p : Int) == 1) = false := by rw [beq_eq_false_iff_ne]; omega
      clear p0 p1
      go_enter Try.func19, Try.ntmps19
      go_wp2
      go_ret
      exact ⟨rfl, rfl⟩
theorem gain_nil (w : World) :
    Calls Try.prog 19 #[.pointer none] w fun e w' => e = .returned (.int .u64 256) ∧ w = w' := by
  go_enter Try.func19, Try.ntmps19
  go_wp2
  go_ret
  exact ⟨rfl, rfl⟩

def endsB (p : Nat) (over : Bool) (lost flight up one : Nat) : Bool :=
  if p = 0 then over && (decide (0 < lost) || decide (up ≤ flight)) else if p = 1 then over || decide (flight ≤ one) else over
theorem ends_any (b p s : Nat) (over : Bool) (lost flight up one : Nat) (w : World) (h : At w b 52 (cyc p s)) :
    Calls Try.prog 33 #[.pointer (some ⟨b, 0, none⟩), .bool over, .int .u64 lost, .int .u64 flight, .int .u64 up, .int .u64 one] w fun e w' => e = .returned (.bool (endsB p over lost flight up one)) ∧ w = w' := by
  have h0 : w.cell? ⟨b, 0, none⟩ = some (.int .i64 p) := h.cell 0
  clear h
  unfold endsB
  by_cases p0 : p = 0
  · subst p0
    rw [if_pos rfl]
    cases over
    · go_enter Try.func33, Try.ntmps33
      go_wp2
      go_ret
      exact ⟨rfl, rfl⟩
    · rcases Nat.eq_zero_or_pos lost with rfl | hl
      · go_enter Try.func33, Try.ntmps33
        go_wp2
        go_ret
        exact ⟨by simp, rfl⟩
      · go_enter Try.func33, Try.ntmps33
        go_wp2
        go_ret
        exact ⟨by simp [hl], rfl⟩
  · rw [if_neg p0]
    by_cases p1 : p = 1
    · subst p1
      rw [if_pos rfl]
      cases over
      · go_enter Try.func33, Try.ntmps33
        go_wp2
        go_ret
        exact ⟨by simp, rfl⟩
      · go_enter Try.func33, Try.ntmps33
        go_wp2
        go_ret
        exact ⟨rfl, rfl⟩
    · rw [if_neg p1]
      have t0 : ((p : Int) == 0) = false := by rw [beq_eq_false_iff_ne]; omega
      have t1 : ((p : Int) == 1) = false := by rw [beq_eq_false_iff_ne]; omega
      clear p0 p1
      go_enter Try.func33, Try.ntmps33
      go_wp2
      go_ret
      exact ⟨rfl, rfl⟩

def nextB (p s now rtt lost flight up one : Nat) : Bool := endsB p (decide (rtt < now - s)) lost flight up one
theorem update_yes (b p s now rtt lost flight up one : Nat) (hp : p < 8) (hs : s < 18446744073709551616) (hn : now < 18446744073709551616) (w : World) (h : At w b 52 (cyc p s)) (hy : nextB p s now rtt lost flight up one = true) :
    Calls Try.prog 18 #[.pointer (some ⟨b, 0, none⟩), .int .u64 now, .int .u64 rtt, .int .u64 lost, .int .u64 flight, .int .u64 up, .int .u64 one] w
      fun e w' => e = .returned (.bool true) ∧ Put w w' b 52 (cyc ((p + 1) % 8) now) := by
  have h0 : w.cell? ⟨b, 0, none⟩ = some (.int .i64 p) := h.cell 0
  have h1 : w.cell? ⟨b, 1, none⟩ = some (.int .u64 s) := h.cell 1
  have CS := Lib.hid (sub_any now s hn hs)
  have ce := ends_any b p s (decide (rtt < satSub now s)) lost flight up one w h
  rw [show endsB p (decide (rtt < satSub now s)) lost flight up one = true from hy] at ce
  have CE := Lib.hid ce
  have c := start_any b p s now ((p : Int) + 1) w h
  rw [show (((p : Int) + 1) % 8).toNat = (p + 1) % 8 from by omega] at c
  have C := Lib.hid c
  clear h ce c hy
  go_enter Try.func18, Try.ntmps18
  go_wp2
  go_step3
  go_wp2
  go_step3
  go_wp2
  refine wp_loop_rounds 1 ?_
  rw [rounds_succ]
  go_wp2_with fail
  refine (CS.out _).mono ?_; rintro e w1 ⟨rfl, rfl⟩
  go_wp2_with fail
  refine CE.out.mono ?_; rintro e w1 ⟨rfl, rfl⟩
  go_wp2_with fail
  refine C.out.mono ?_; rintro e w1 ⟨rfl, hput⟩
  go_wp2
  (try rw [Exit.noGoto_ret])
  go_ret
  exact ⟨rfl, hput⟩
theorem update_no (b p s now rtt lost flight up one : Nat) (hs : s < 18446744073709551616) (hn : now < 18446744073709551616) (w : World) (h : At w b 52 (cyc p s)) (hy : nextB p s now rtt lost flight up one = false) :
    Calls Try.prog 18 #[.pointer (some ⟨b, 0, none⟩), .int .u64 now, .int .u64 rtt, .int .u64 lost, .int .u64 flight, .int .u64 up, .int .u64 one] w
      fun e w' => e = .returned (.bool false) ∧ w = w' := by
  have h0 : w.cell? ⟨b, 0, none⟩ = some (.int .i64 p) := h.cell 0
  have h1 : w.cell? ⟨b, 1, none⟩ = some (.int .u64 s) := h.cell 1
  have CS := Lib.hid (sub_any now s hn hs)
  have ce := ends_any b p s (decide (rtt < satSub now s)) lost flight up one w h
  rw [show endsB p (decide (rtt < satSub now s)) lost flight up one = false from hy] at ce
  have CE := Lib.hid ce
  clear h ce hy
  go_enter Try.func18, Try.ntmps18
  go_wp2
  go_step3
  go_wp2
  go_step3
  go_wp2
  refine wp_loop_rounds 1 ?_
  rw [rounds_succ]
  go_wp2_with fail
  refine (CS.out _).mono ?_; rintro e w1 ⟨rfl, rfl⟩
  go_wp2_with fail
  refine CE.out.mono ?_; rintro e w1 ⟨rfl, rfl⟩
  go_wp2
  (try rw [Exit.noGoto_ret])
  go_ret
  exact ⟨rfl, rfl⟩
theorem update_nil (now rtt lost flight up one : Int) (w : World) :
    Calls Try.prog 18 #[.pointer none, .int .u64 now, .int .u64 rtt, .int .u64 lost, .int .u64 flight, .int .u64 up, .int .u64 one] w
      fun e w' => e = .returned (.bool false) ∧ w = w' := by
  go_enter Try.func18, Try.ntmps18
  go_wp2
  go_step3
  go_wp2
  go_step3
  go_wp2
  refine wp_loop_rounds 1 ?_
  rw [rounds_succ]
  go_wp2
  (try rw [Exit.noGoto_ret])
  go_ret
  exact ⟨rfl, rfl⟩

theorem awake14 (w : World) : Calls Try.prog 15 #[] w fun e w' => e = .returned (.bool true) ∧ Below w.heap.size w w' := by
  have HN := Lib.hid new_any
  go_enter Try.func15, Try.ntmps15
  go_wp2_with fail
  refine (HN.out _).mono ?_; rintro e w1 ⟨rfl, hw1⟩
  have a1 : At w1 w.heap.size 52 (cyc 0 0) := by rw [hw1]; exact At.made _ _ _
  have l1 : Below w.heap.size w w1 := by rw [hw1]; exact (Below.refl _ _).alloc (Nat.le_refl _) _
  have A1 := Lib.hid a1
  have L1 := Lib.hid l1
  clear hw1 a1 l1
  go_wp2_with fail
  refine (start_nat w.heap.size 0 0 0 2 (by omega) _ A1.out).mono ?_; rintro e w2 ⟨rfl, p2⟩
  have P2 := Lib.hid p2
  clear p2
  go_wp2_with fail
  refine (phase_any w.heap.size 2 0 _ P2.out.1).mono ?_; rintro e w' ⟨rfl, rfl⟩
  go_wp2_with fail
  refine (update_yes w.heap.size 2 0 10 5 0 0 0 0 (by omega) (by omega) (by omega) _ P2.out.1 (by decide)).mono ?_; rintro e w3 ⟨rfl, p3⟩
  have P3 := Lib.hid p3
  clear p3
  go_wp2_with fail
  refine (phase_any w.heap.size 3 10 _ P3.out.1).mono ?_; rintro e w' ⟨rfl, rfl⟩
  go_wp2_with fail
  refine (gain_any w.heap.size 3 10 _ P3.out.1).mono ?_; rintro e w' ⟨rfl, rfl⟩
  go_wp2
  go_ret
  exact ⟨rfl, P3.out.below (P2.out.below L1.out L1.out.size (Nat.le_refl _)) (Nat.le_trans L1.out.size P2.out.size) (Nat.le_refl _)⟩
end Go.Proofs.Ytalcccghiemnjaa
