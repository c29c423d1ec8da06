/- The contracts of pipe and of its reference. -/
import Derived.Test.YtgdbmjokpbjoaaaObj
import Derived.Test.YtgdbmjokpbjoaaaMulDiv
namespace Go.Proofs.Ytgdbmjokpbjoaaa
open Go.RowKit Go.Lib
set_option linter.unusedVariables false

def grow (b : Nat) : Nat := mulDiv b 320 256
theorem grow_any (b : Nat) (hb : b < 18446744073709551616) (w : World) :
    Calls Try.prog 42 #[.int .u64 b, .int .u64 320, .int .u64 256] w fun e w' => e = .returned (.int .u64 (grow b : Nat)) ∧ w = w' :=
  muldiv_any b 320 256 hb (by omega) (by omega) w
theorem rgrow_any (b : Nat) (hb : b < 18446744073709551616) (w : World) :
    Calls Try.prog 43 #[.int .u64 b, .int .u64 320, .int .u64 256] w fun e w' => e = .returned (.int .u64 (grow b : Nat)) ∧ w = w' :=
  rmuldiv_any b 320 256 hb (by omega) (by omega) w
structure QS where
  best : Nat
  n : Nat
  full : Bool
def ppp (s : QS) : Array Value := #[.int .u64 s.best, .int .i64 s.n, .bool s.full]
def QS.ok (s : QS) : Prop := s.best < 18446744073709551616 ∧ s.n ≤ 3 ∧ (s.full = false → s.n ≤ 2)
def pupF (s : QS) (start limited : Bool) (bw : Nat) : QS :=
  if (s.full || !start || limited) = true then s else if grow s.best ≤ bw then ⟨bw, 0, false⟩ else ⟨s.best, s.n + 1, decide (s.n = 2)⟩
theorem pupF_ok {s : QS} (h : s.ok) {start limited : Bool} {bw : Nat} (hb : bw < 18446744073709551616) : (pupF s start limited bw).ok := by
  obtain ⟨b, n, f⟩ := s
  obtain ⟨h1, h2, h3⟩ := h
  simp only at h1 h2 h3
  unfold pupF
  cases f
  · have := h3 rfl
    split
    · exact ⟨h1, h2, h3⟩
    · split
      · exact ⟨hb, by simp, by simp⟩
      · exact ⟨h1, by simp; omega, by simp; omega⟩
  · exact ⟨h1, h2, h3⟩

theorem full_any (b : Nat) (s : QS) (w : World) (h : At w b 72 (ppp s)) :
    Calls Try.prog 37 #[.pointer (some ⟨b, 0, none⟩)] w fun e w' => e = .returned (.bool s.full) ∧ w = w' := by
  have h0 : w.cell? ⟨b, 2, none⟩ = some (.bool s.full) := h.cell 2
  clear h
  go_enter Try.func37, Try.ntmps37
  go_wp2
  go_ret
  exact ⟨rfl, rfl⟩
theorem full_nil (w : World) :
    Calls Try.prog 37 #[.pointer none] w fun e w' => e = .returned (.bool false) ∧ w = w' := by
  go_enter Try.func37, Try.ntmps37
  go_wp2
  go_ret
  exact ⟨rfl, rfl⟩
theorem ppnew_any (w : World) :
    Calls Try.prog 33 #[] w fun e w' => e = .returned (.pointer (some ⟨w.heap.size, 0, none⟩)) ∧ w' = w.alloc (.cells (ppp ⟨0, 0, false⟩) 72) := by
  go_enter Try.func33, Try.ntmps33
  go_wp2
  go_ret
  exact ⟨rfl, rfl⟩
theorem pup_nil (start limited : Bool) (bw : Nat) (w : World) :
    Calls Try.prog 35 #[.pointer none, .bool start, .bool limited, .int .u64 bw] w fun e w' => e = .returned (.bool false) ∧ w = w' := by
  go_enter Try.func35, Try.ntmps35
  go_wp2
  go_step3
  go_wp2
  go_step3
  go_wp2
  refine wp_loop_rounds 1 ?_
  rw [rounds_succ]
  go_wp2_with fail
  refine (full_nil _).mono ?_; rintro e w' ⟨rfl, rfl⟩
  go_wp2
  (try rw [Exit.noGoto_ret])
  go_ret
  exact ⟨rfl, rfl⟩

theorem pup_any (b : Nat) (s : QS) (start limited : Bool) (bw : Nat) (hs : s.ok) (w : World) (h : At w b 72 (ppp s)) :
    Calls Try.prog 35 #[.pointer (some ⟨b, 0, none⟩), .bool start, .bool limited, .int .u64 bw] w
      fun e w' => e = .returned (.bool (pupF s start limited bw).full) ∧ Put w w' b 72 (ppp (pupF s start limited bw)) := by
  obtain ⟨best, n, full⟩ := s
  obtain ⟨k1, k2, k3⟩ := hs
  simp only at k1 k2 k3
  have h0 : w.cell? ⟨b, 0, none⟩ = some (.int .u64 best) := h.cell 0
  have h1 : w.cell? ⟨b, 1, none⟩ = some (.int .i64 n) := h.cell 1
  have h2 : w.cell? ⟨b, 2, none⟩ = some (.bool full) := h.cell 2
  have f0 := h.free 0
  have f1 := h.free 1
  have f2 := h.free 2
  have H := Lib.hid h
  have CG := Lib.hid (grow_any best k1)
  have CF := Lib.hid full_any
  clear h k1
  unfold pupF
  have hc : full = true ∨ full = false ∧ start = false ∨ full = false ∧ start = true ∧ limited = true ∨ full = false ∧ start = true ∧ limited = false := by
    cases full <;> cases start <;> cases limited <;> simp
  generalize grow best = G at *
  rcases hc with rfl | ⟨rfl, rfl⟩ | ⟨rfl, rfl, rfl⟩ | ⟨rfl, rfl, rfl⟩
  · rw [if_pos (by simp)]
    go_enter Try.func35, Try.ntmps35
    go_wp2
    go_step3
    go_wp2
    go_step3
    go_wp2
    refine wp_loop_rounds 1 ?_
    rw [rounds_succ]
    go_wp2_with fail
    refine (CF.out b _ _ H.out).mono ?_; rintro e w' ⟨rfl, rfl⟩
    go_wp2
    (try rw [Exit.noGoto_ret])
    go_ret
    exact ⟨rfl, Put.same H.out⟩
  · rw [if_pos (by simp)]
    go_enter Try.func35, Try.ntmps35
    go_wp2
    go_step3
    go_wp2
    go_step3
    go_wp2
    refine wp_loop_rounds 1 ?_
    rw [rounds_succ]
    go_wp2_with fail
    refine (CF.out b _ _ H.out).mono ?_; rintro e w' ⟨rfl, rfl⟩
    go_wp2
    (try rw [Exit.noGoto_ret])
    go_ret
    exact ⟨rfl, Put.same H.out⟩
  · rw [if_pos (by simp)]
    go_enter Try.func35, Try.ntmps35
    go_wp2
    go_step3
    go_wp2
    go_step3
    go_wp2
    refine wp_loop_rounds 1 ?_
    rw [rounds_succ]
    go_wp2_with fail
    refine (CF.out b _ _ H.out).mono ?_; rintro e w' ⟨rfl, rfl⟩
    go_wp2
    (try rw [Exit.noGoto_ret])
    go_ret
    exact ⟨rfl, Put.same H.out⟩
  · rw [if_neg (by simp)]
    have k3' := k3 rfl
    clear k3
    by_cases hg : G ≤ bw
    · rw [if_pos hg]
      go_enter Try.func35, Try.ntmps35
      go_wp2
      go_step3
      go_wp2
      go_step3
      go_wp2
      refine wp_loop_rounds 1 ?_
      rw [rounds_succ]
      go_wp2_with fail
      refine (CG.out _).mono ?_; rintro e w' ⟨rfl, rfl⟩
      go_wp2_with fail
      refine (CF.out b ⟨bw, 0, false⟩ _ ((H.out.set 0).set 1)).mono ?_; rintro e w' ⟨rfl, rfl⟩
      go_wp2
      (try rw [Exit.noGoto_ret])
      go_ret
      exact ⟨rfl, (Put.set H.out 0).then_ (Put.set (H.out.set 0) 1)⟩
    · rw [if_neg hg]
      have y : n = 0 ∨ n = 1 ∨ n = 2 := by omega
      rcases y with rfl | rfl | rfl
      all_goals
        go_enter Try.func35, Try.ntmps35
        go_wp2
        go_step3
        go_wp2
        go_step3
        go_wp2
        refine wp_loop_rounds 1 ?_
        rw [rounds_succ]
        go_wp2_with fail
        refine (CG.out _).mono ?_; rintro e w' ⟨rfl, rfl⟩
        go_wp2_with fail
      · refine (CF.out b ⟨best, 1, false⟩ _ ((H.out.set 1).set 2)).mono ?_; rintro e w' ⟨rfl, rfl⟩
        go_wp2
        (try rw [Exit.noGoto_ret])
        go_ret
        exact ⟨rfl, (Put.set H.out 1).then_ (Put.set (H.out.set 1) 2)⟩
      · refine (CF.out b ⟨best, 2, false⟩ _ ((H.out.set 1).set 2)).mono ?_; rintro e w' ⟨rfl, rfl⟩
        go_wp2
        (try rw [Exit.noGoto_ret])
        go_ret
        exact ⟨rfl, (Put.set H.out 1).then_ (Put.set (H.out.set 1) 2)⟩
      · refine (CF.out b ⟨best, 3, true⟩ _ ((H.out.set 1).set 2)).mono ?_; rintro e w' ⟨rfl, rfl⟩
        go_wp2
        (try rw [Exit.noGoto_ret])
        go_ret
        exact ⟨rfl, (Put.set H.out 1).then_ (Put.set (H.out.set 1) 2)⟩

theorem rpup_any (b : Nat) (s : QS) (start limited : Bool) (bw : Nat) (hs : s.ok) (w : World) (h : At w b 57 (ppp s)) :
    Calls Try.prog 36 #[.pointer (some ⟨b, 0, none⟩), .bool start, .bool limited, .int .u64 bw] w
      fun e w' => e = .returned (.bool (pupF s start limited bw).full) ∧ Put w w' b 57 (ppp (pupF s start limited bw)) := by
  obtain ⟨best, n, full⟩ := s
  obtain ⟨k1, k2, k3⟩ := hs
  simp only at k1 k2 k3
  have h0 : w.cell? ⟨b, 0, none⟩ = some (.int .u64 best) := h.cell 0
  have h1 : w.cell? ⟨b, 1, none⟩ = some (.int .i64 n) := h.cell 1
  have h2 : w.cell? ⟨b, 2, none⟩ = some (.bool full) := h.cell 2
  have f0 := h.free 0
  have f1 := h.free 1
  have f2 := h.free 2
  have H := Lib.hid h
  have CG := Lib.hid (rgrow_any best k1)
  clear h k1
  unfold pupF
  have hc : full = true ∨ full = false ∧ start = false ∨ full = false ∧ start = true ∧ limited = true ∨ full = false ∧ start = true ∧ limited = false := by
    cases full <;> cases start <;> cases limited <;> simp
  generalize grow best = G at *
  rcases hc with rfl | ⟨rfl, rfl⟩ | ⟨rfl, rfl, rfl⟩ | ⟨rfl, rfl, rfl⟩
  · rw [if_pos (by simp)]
    go_enter Try.func36, Try.ntmps36
    go_wp2
    go_ret
    exact ⟨rfl, Put.same H.out⟩
  · rw [if_pos (by simp)]
    go_enter Try.func36, Try.ntmps36
    go_wp2
    go_ret
    exact ⟨rfl, Put.same H.out⟩
  · rw [if_pos (by simp)]
    go_enter Try.func36, Try.ntmps36
    go_wp2
    go_ret
    exact ⟨rfl, Put.same H.out⟩
  · rw [if_neg (by simp)]
    have k3' := k3 rfl
    clear k3
    by_cases hg : G ≤ bw
    · rw [if_pos hg]
      go_enter Try.func36, Try.ntmps36
      go_wp2_with fail
      refine (CG.out _).mono ?_; rintro e w' ⟨rfl, rfl⟩
      go_wp2
      go_ret
      exact ⟨rfl, (Put.set H.out 0).then_ (Put.set (H.out.set 0) 1)⟩
    · rw [if_neg hg]
      have y : n = 0 ∨ n = 1 ∨ n = 2 := by omega
      rcases y with rfl | rfl | rfl
      all_goals
        go_enter Try.func36, Try.ntmps36
        go_wp2_with fail
        refine (CG.out _).mono ?_; rintro e w' ⟨rfl, rfl⟩
        go_wp2
        go_ret
        exact ⟨rfl, (Put.set H.out 1).then_ (Put.set (H.out.set 1) 2)⟩
end Go.Proofs.Ytgdbmjokpbjoaaa
