/- The contracts of clock: what each method answers, and what it leaves of its object. -/
import Derived.Test.YtalcccghiemnjaaObj
import Derived.Test.YtalcccghiemnjaaSat
namespace Go.Proofs.Ytalcccghiemnjaa
open Go.RowKit Go.Lib
set_option linter.unusedVariables false

def clk (now : Nat) : Array Value := #[.int .u64 now]
def tmin (a : Nat) : Nat := if a < 4611686018427387904 then a else 4611686018427387904
theorem tmin_eq (a : Nat) : tmin a = min a 4611686018427387904 := by unfold tmin; split <;> omega
theorem tmin_le (a : Nat) : tmin a ≤ 4611686018427387904 := by rw [tmin_eq]; omega

theorem first_core (a m : Nat) (hm : a < 4611686018427387904 ∧ m = a ∨ 4611686018427387904 ≤ a ∧ m = 4611686018427387904) (b : Nat) (w : World) (h : w.cell? ⟨b, 0, none⟩ = some (.int .u64 a)) :
    Calls Try.prog 35 #[.slice (some ⟨b, 0, none⟩) 1 1] w fun e w' => e = .returned (.int .u64 m) ∧ w = w' := by
  rcases hm with ⟨h1, rfl⟩ | ⟨h1, rfl⟩
  · have h2 : decide ((4611686018427387904 : Int) ≤ m) = false := by rw [decide_eq_false_iff_not]; omega
    clear h1
    go_enter Try.func35, Try.ntmps35
    go_wp2
    go_step3
    go_wp2
    go_step3
    go_wp2
    refine wp_loop_rounds 2 ?_
    rw [rounds_succ]
    go_wp2
    rw [rounds_succ]
    go_wp2
    (try rw [Exit.noGoto_ret])
    go_ret
    exact ⟨rfl, rfl⟩
  · have h2 : (4611686018427387904 : Int) ≤ a := by omega
    clear h1
    go_enter Try.func35, Try.ntmps35
    go_wp2
    go_step3
    go_wp2
    go_step3
    go_wp2
    refine wp_loop_rounds 2 ?_
    rw [rounds_succ]
    go_wp2
    rw [rounds_succ]
    go_wp2
    (try rw [Exit.noGoto_ret])
    go_ret
    exact ⟨rfl, rfl⟩
theorem first_any (a b : Nat) (w : World) (h : w.cell? ⟨b, 0, none⟩ = some (.int .u64 a)) :
    Calls Try.prog 35 #[.slice (some ⟨b, 0, none⟩) 1 1] w fun e w' => e = .returned (.int .u64 (tmin a : Nat)) ∧ w = w' :=
  first_core a _ (by unfold tmin; split <;> omega) b w h

theorem cnew_any (a : Nat) (w : World) :
    Calls Try.prog 20 #[.int .u64 a] w fun e w' => e = .returned (.pointer (some ⟨w.heap.size + 1, 0, none⟩)) ∧ w' = (w.alloc (.cells #[.int .u64 a] 22)).alloc (.cells (clk (tmin a)) 56) := by
  have CF := fun b w h => first_any a b w h
  have HF := Lib.hid CF
  clear CF
  go_enter Try.func20, Try.ntmps20
  go_wp2_with fail
  refine (HF.out _ _ (by simp [go_sem])).mono ?_; rintro e w' ⟨rfl, rfl⟩
  go_wp2
  go_ret
  exact ⟨rfl, rfl⟩
theorem now_any (b n : Nat) (w : World) (h : At w b 56 (clk n)) :
    Calls Try.prog 23 #[.pointer (some ⟨b, 0, none⟩)] w fun e w' => e = .returned (.int .u64 n) ∧ w = w' := by
  have h0 : w.cell? ⟨b, 0, none⟩ = some (.int .u64 n) := h.cell 0
  clear h
  go_enter Try.func23, Try.ntmps23
  go_wp2
  go_ret
  exact ⟨rfl, rfl⟩
theorem now_nil (w : World) :
    Calls Try.prog 23 #[.pointer none] w fun e w' => e = .returned (.int .u64 0) ∧ w = w' := by
  go_enter Try.func23, Try.ntmps23
  go_wp2
  go_ret
  exact ⟨rfl, rfl⟩
theorem move_nil (t : Int) (w : World) :
    Calls Try.prog 22 #[.pointer none, .int .u64 t] w fun e w' => e = .returned (.int .i64 2) ∧ w = w' := by
  go_enter Try.func22, Try.ntmps22
  go_wp2
  go_ret
  exact ⟨rfl, rfl⟩
theorem after_nil (t : Int) (w : World) :
    Calls Try.prog 24 #[.pointer none, .int .u64 t] w fun e w' => e = .returned (.int .u64 0) ∧ w = w' := by
  go_enter Try.func24, Try.ntmps24
  go_wp2
  go_ret
  exact ⟨rfl, rfl⟩
/-- what Move answers, and where it is then -/
def mvE (n t : Nat) : Nat := if 4611686018427387904 < t then 3 else if t < n then 4 else 0
def mvN (n t : Nat) : Nat := if 4611686018427387904 < t then n else if t < n then n else t
theorem move_any (b n t : Nat) (w : World) (h : At w b 56 (clk n)) :
    Calls Try.prog 22 #[.pointer (some ⟨b, 0, none⟩), .int .u64 t] w fun e w' => e = .returned (.int .i64 (mvE n t : Nat)) ∧ Put w w' b 56 (clk (mvN n t)) := by
  have h0 : w.cell? ⟨b, 0, none⟩ = some (.int .u64 n) := h.cell 0
  have f0 := h.free 0
  have H := Lib.hid h
  clear h
  unfold mvE mvN
  by_cases h1 : 4611686018427387904 < t
  · rw [if_pos h1, if_pos h1]
    have h1' : (4611686018427387904 : Int) < t := by omega
    clear h1
    go_enter Try.func22, Try.ntmps22
    go_wp2
    go_ret
    exact ⟨rfl, Put.same H.out⟩
  · rw [if_neg h1, if_neg h1]
    have h1' : (t : Int) ≤ 4611686018427387904 := by omega
    clear h1
    by_cases h2 : t < n
    · rw [if_pos h2, if_pos h2]
      go_enter Try.func22, Try.ntmps22
      go_wp2
      go_ret
      exact ⟨rfl, Put.same H.out⟩
    · rw [if_neg h2, if_neg h2]
      go_enter Try.func22, Try.ntmps22
      go_wp2
      go_ret
      exact ⟨rfl, Put.set H.out 0⟩
theorem after_any (b n d : Nat) (hn : n < 18446744073709551616) (hd : d < 18446744073709551616) (w : World) (h : At w b 56 (clk n)) :
    Calls Try.prog 24 #[.pointer (some ⟨b, 0, none⟩), .int .u64 d] w fun e w' => e = .returned (.int .u64 (tmin (satAdd n d) : Nat)) ∧ w' = w.alloc (.cells #[.int .u64 (satAdd n d : Nat)] 22) := by
  have h0 : w.cell? ⟨b, 0, none⟩ = some (.int .u64 n) := h.cell 0
  have HF := Lib.hid (fun b w h => first_any (satAdd n d) b w h)
  have HA := Lib.hid (add_any n d hn hd)
  clear h
  generalize satAdd n d = s at *
  go_enter Try.func24, Try.ntmps24
  go_wp2_with fail
  refine (HA.out _).mono ?_; rintro e w' ⟨rfl, rfl⟩
  go_wp2_with fail
  refine (HF.out _ _ (by simp [go_sem])).mono ?_; rintro e w' ⟨rfl, rfl⟩
  go_wp2
  go_ret
  exact ⟨rfl, rfl⟩
/-- After, by what stands -/
theorem after_own (b n d : Nat) (hn : n < 18446744073709551616) (hd : d < 18446744073709551616) (w0 w : World) (h : Own w0 w b 56 (clk n)) :
    Calls Try.prog 24 #[.pointer (some ⟨b, 0, none⟩), .int .u64 d] w fun e w' => e = .returned (.int .u64 (tmin (satAdd n d) : Nat)) ∧ Own w0 w' b 56 (clk n) :=
  (after_any b n d hn hd w h.1).mono fun e w' ⟨he, hw⟩ => ⟨he, by rw [hw]; exact h.alloc _⟩

theorem awake03 (w : World) : Calls Try.prog 21 #[] w fun e w' => e = .returned (.bool true) ∧ Below w.heap.size w w' := by
  have HN := Lib.hid cnew_any
  go_enter Try.func21, Try.ntmps21
  go_wp2_with fail
  refine (HN.out 5 _).mono ?_; rintro e w1 ⟨rfl, hw1⟩
  have O1 : Hid (Own w w1 (w.heap.size + 1) 56 (clk 5)) := by
    have := Own.made (w0 := w) ((Below.refl w.heap.size w).alloc (Nat.le_refl _) (.cells #[.int .u64 5] 22)) 56 (clk (tmin 5))
    rw [hw1]; exact Lib.hid (by simpa [tmin] using this)
  clear hw1
  go_wp2_with fail
  refine (now_any (w.heap.size + 1) 5 _ O1.out.1).mono ?_; rintro e w' ⟨rfl, rfl⟩
  go_wp2_with fail
  refine (move_any (w.heap.size + 1) 5 7 _ O1.out.1).mono ?_; rintro e w2 ⟨rfl, p2⟩
  have O2 : Hid (Own w w2 (w.heap.size + 1) 56 (clk 7)) := O1.out.put p2
  clear p2
  rw [show ((mvE 5 7 : Nat) : Int) = 0 from by decide]
  go_wp2_with fail
  refine (now_any (w.heap.size + 1) 7 _ O2.out.1).mono ?_; rintro e w' ⟨rfl, rfl⟩
  go_wp2_with fail
  refine (move_any (w.heap.size + 1) 7 6 _ O2.out.1).mono ?_; rintro e w3 ⟨rfl, p3⟩
  have O3 : Hid (Own w w3 (w.heap.size + 1) 56 (clk 7)) := O2.out.put p3
  clear p3
  rw [show ((mvE 7 6 : Nat) : Int) = 4 from by decide]
  go_wp2
  go_ret
  exact ⟨rfl, O3.out.2.1⟩
end Go.Proofs.Ytalcccghiemnjaa
