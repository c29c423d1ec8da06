/- The contracts of policer: measured, end. -/
import Derived.Test.YtojgpgjmcamfoaaPol
namespace Go.Proofs.Ytojgpgjmcamfoaa
open Go.RowKit Go.Lib
set_option linter.unusedVariables false

def MeasPost (b : Nat) (s : PL) (x : SM) (w : World) (e : Ending) (w' : World) : Prop :=
  e = .returned (.tuple #[.int .u64 ((if isF s x then bwF s x else 0 : Nat) : Int), .bool (isF s x)]) ∧ Put w w' b 92 (pol s)
set_option maxRecDepth 8000 in
theorem measured_any (b : Nat) (s : PL) (x : SM) (w : World) (h : At w b 92 (pol s)) (hs : s.ok) (hx : x.ok) :
    Calls Try.prog 60 #[.pointer (some ⟨b, 0, none⟩), smp x] w (MeasPost b s x w) := by
  have h4 : w.cell? ⟨b, 4, none⟩ = some (.int .u64 s.lost) := h.cell 4
  have h5 : w.cell? ⟨b, 5, none⟩ = some (.int .u64 s.t0) := h.cell 5
  have h6 : w.cell? ⟨b, 6, none⟩ = some (.int .u64 s.d0) := h.cell 6
  have h7 : w.cell? ⟨b, 7, none⟩ = some (.int .u64 s.l0) := h.cell 7
  have hlt := h.lt
  have H := Lib.hid h
  clear h
  obtain ⟨k1, k2, k3, k4, k5⟩ := hs
  obtain ⟨k6, k7, k8⟩ := hx
  have C1 := Lib.hid (sub_any x.delivered s.d0 k7 k4)
  have C2 := Lib.hid (sub_any s.lost s.l0 k2 k5)
  have C3 := Lib.hid (sub_any x.now s.t0 k6 k3)
  have md : dF s x < 18446744073709551616 := satSub_lt k7
  have mt : tF s x < 18446744073709551616 := satSub_lt k6
  have C4 : Hid (∀ w : World, Calls Try.prog 58 #[.int .u64 (dF s x : Nat), .int .u64 50, .int .u64 256] w fun e w' => e = .returned (.int .u64 (mulDiv (dF s x) 50 256 : Nat)) ∧ w = w') := Lib.hid (muldiv_any (dF s x) 50 256 md (by omega) (by omega))
  have C5 : Hid (∀ w : World, Calls Try.prog 58 #[.int .u64 (dF s x : Nat), .int .u64 1000000000, .int .u64 (tF s x : Nat)] w fun e w' => e = .returned (.int .u64 (mulDiv (dF s x) 1000000000 (tF s x) : Nat)) ∧ w = w') := Lib.hid (muldiv_any (dF s x) 1000000000 (tF s x) md (by omega) mt)
  have M : Hid (mulDiv (dF s x) 50 256 = mulDiv (dF s x) 50 256) := Lib.hid rfl
  have hp : MeasPost b s x w = fun e w' => MeasPost b s x w e w' := rfl
  unfold MeasPost isF bwF
  change Hid (∀ w, Calls Try.prog _ _ w fun e w' => e = .returned (.int .u64 (dF s x : Nat)) ∧ _) at C1
  change Hid (∀ w, Calls Try.prog _ _ w fun e w' => e = .returned (.int .u64 (lF s : Nat)) ∧ _) at C2
  change Hid (∀ w, Calls Try.prog _ _ w fun e w' => e = .returned (.int .u64 (tF s x : Nat)) ∧ _) at C3
  clear hp md mt M
  generalize dF s x = D at *
  generalize tF s x = T at *
  generalize lF s = L at *
  generalize mulDiv D 50 256 = Q at *
  generalize mulDiv D 1000000000 T = R at *
  unfold smp
  by_cases hD : D = 0
  · have y1 : ((D : Int) == 0) = true := by rw [beq_iff_eq]; omega
    have y3 : decide (D ≠ 0) = false := by simpa using hD
    rw [y3]
    clear y3 hD
    go_enter Try.func60, Try.ntmps60
    go_wp2_with fail
    go_quiet ((go_at_call 42; first | with_reducible exact still (C1.out _) | with_reducible exact still (C2.out _) | with_reducible exact still (C3.out _)))
    go_wp2
    all_goals go_ret2
    all_goals exact ⟨by simp, ((Put.same H.out).a _).dn _⟩
  have y1 : ((D : Int) == 0) = false := by rw [beq_eq_false_iff_ne]; omega
  by_cases hT : T = 0
  · have y2 : ((T : Int) == 0) = true := by rw [beq_iff_eq]; omega
    have y3 : decide (T ≠ 0) = false := by simpa using hT
    rw [y3]
    clear y3 hT
    go_enter Try.func60, Try.ntmps60
    go_wp2_with fail
    go_quiet ((go_at_call 42; first | with_reducible exact still (C1.out _) | with_reducible exact still (C2.out _) | with_reducible exact still (C3.out _)))
    go_wp2
    all_goals go_ret2
    all_goals exact ⟨by simp, ((Put.same H.out).a _).dn _⟩
  have y2 : ((T : Int) == 0) = false := by rw [beq_eq_false_iff_ne]; omega
  have y3 : decide (D ≠ 0) = true := by simpa using hD
  have y4 : decide (T ≠ 0) = true := by simpa using hT
  rw [y3, y4]
  clear y3 y4 hD hT
  by_cases hL : L < Q
  · have y5 : decide (L < Q) = true := by simpa using hL
    have y6 : decide (Q ≤ L) = false := by simp; omega
    rw [y6]
    clear y6 hL
    go_enter Try.func60, Try.ntmps60
    go_wp2_with fail
    go_quiet ((go_at_call 42; first | with_reducible exact still (C1.out _) | with_reducible exact still (C2.out _) | with_reducible exact still (C3.out _)))
    go_wp2_with fail
    refine (C4.out _).mono ?_; rintro e w' ⟨rfl, rfl⟩
    go_wp2
    all_goals go_ret2
    all_goals exact ⟨by simp, ((Put.same H.out).a _).dn _⟩
  · have y5 : decide (L < Q) = false := by simpa using hL
    have y6 : decide (Q ≤ L) = true := by simp; omega
    rw [y6]
    clear y6 hL
    go_enter Try.func60, Try.ntmps60
    go_wp2_with fail
    go_quiet ((go_at_call 42; first | with_reducible exact still (C1.out _) | with_reducible exact still (C2.out _) | with_reducible exact still (C3.out _)))
    go_wp2_with fail
    refine (C4.out _).mono ?_; rintro e w' ⟨rfl, rfl⟩
    go_wp2_with fail
    refine (C5.out _).mono ?_; rintro e w' ⟨rfl, rfl⟩
    go_wp2
    all_goals go_ret2
    all_goals exact ⟨by simp, ((Put.same H.out).a _).dn _⟩
theorem measured_yes (b : Nat) (s : PL) (x : SM) (w : World) (h : At w b 92 (pol s)) (hs : s.ok) (hx : x.ok) (hi : isF s x = true) :
    Calls Try.prog 60 #[.pointer (some ⟨b, 0, none⟩), smp x] w fun e w' => e = .returned (.tuple #[.int .u64 (bwF s x : Nat), .bool true]) ∧ Put w w' b 92 (pol s) :=
  (measured_any b s x w h hs hx).mono fun e w' ⟨h1, h2⟩ => ⟨by rw [h1, hi, if_pos rfl], h2⟩
theorem measured_no (b : Nat) (s : PL) (x : SM) (w : World) (h : At w b 92 (pol s)) (hs : s.ok) (hx : x.ok) (hi : isF s x = false) :
    Calls Try.prog 60 #[.pointer (some ⟨b, 0, none⟩), smp x] w fun e w' => e = .returned (.tuple #[.int .u64 0, .bool false]) ∧ Put w w' b 92 (pol s) :=
  (measured_any b s x w h hs hx).mono fun e w' ⟨h1, h2⟩ => ⟨by rw [h1, hi, if_neg (by simp)]; rfl, h2⟩
end Go.Proofs.Ytojgpgjmcamfoaa
