/- The contracts of probe and of its reference: what each method answers, and what it leaves of its object. -/
import Derived.Test.YtgdbmjokpbjoaaaObj
import Derived.Test.YtgdbmjokpbjoaaaSat
namespace Go.Proofs.Ytgdbmjokpbjoaaa
open Go.RowKit Go.Lib
set_option linter.unusedVariables false

/-- a probe's state -/
structure PS where
  best : Nat
  stamp : Nat
  inn : Bool
  till : Nat
  round : Bool
def prb (s : PS) : Array Value := #[.int .u64 s.best, .int .u64 s.stamp, .bool s.inn, .int .u64 s.till, .bool s.round]
def leavesF (s : PS) (now : Nat) (start : Bool) (flight floor : Nat) : Bool × PS :=
  if s.till = 0 then (false, if flight ≤ floor then ⟨s.best, s.stamp, s.inn, satAdd now 200000000, false⟩ else s)
  else if (!(s.round || start) || decide (now ≤ s.till)) = true then (false, ⟨s.best, s.stamp, s.inn, s.till, s.round || start⟩)
  else (true, ⟨s.best, now, false, s.till, s.round || start⟩)

theorem leaves_any (b : Nat) (s : PS) (now : Nat) (start : Bool) (flight floor : Nat) (hn : now < 18446744073709551616) (w : World) (h : At w b 69 (prb s)) :
    Calls Try.prog 41 #[.pointer (some ⟨b, 0, none⟩), .int .u64 now, .bool start, .int .u64 flight, .int .u64 floor] w
      fun e w' => e = .returned (.bool (leavesF s now start flight floor).1) ∧ Put w w' b 69 (prb (leavesF s now start flight floor).2) := by
  obtain ⟨best, stamp, inn, till, round⟩ := s
  have h0 : w.cell? ⟨b, 0, none⟩ = some (.int .u64 best) := h.cell 0
  have h1 : w.cell? ⟨b, 1, none⟩ = some (.int .u64 stamp) := h.cell 1
  have h2 : w.cell? ⟨b, 2, none⟩ = some (.bool inn) := h.cell 2
  have h3 : w.cell? ⟨b, 3, none⟩ = some (.int .u64 till) := h.cell 3
  have h4 : w.cell? ⟨b, 4, none⟩ = some (.bool round) := h.cell 4
  have f0 := h.free 0
  have f1 := h.free 1
  have f2 := h.free 2
  have f3 := h.free 3
  have f4 := h.free 4
  have H := Lib.hid h
  have CA := Lib.hid (add_any now 200000000 hn (by omega))
  clear h
  unfold leavesF
  generalize satAdd now 200000000 = X at *
  rcases Nat.eq_zero_or_pos till with rfl | ht
  · rw [if_pos rfl]
    by_cases hf : flight ≤ floor
    · rw [if_pos hf]
      go_enter Try.func41, Try.ntmps41
      go_wp2_with fail
      refine (CA.out _).mono ?_; rintro e w' ⟨rfl, rfl⟩
      go_wp2
      go_ret
      exact ⟨rfl, (Put.set H.out 3).then_ (Put.set (H.out.set 3) 4)⟩
    · rw [if_neg hf]
      go_enter Try.func41, Try.ntmps41
      go_wp2
      go_ret
      exact ⟨rfl, Put.same H.out⟩
  · rw [if_neg (show ¬ till = 0 from by omega)]
    have y : ((till : Int) == 0) = false := by rw [beq_eq_false_iff_ne]; omega
    by_cases hl : now ≤ till
    · have e : ∀ x : Bool, (!x || decide (now ≤ till)) = true := fun x => by simp [hl]
      rw [if_pos (e _)]
      clear e
      cases round <;> cases start
      all_goals
        go_enter Try.func41, Try.ntmps41
        go_wp2
        go_ret
        exact ⟨rfl, Put.set H.out 4⟩
    · cases hrs : (round || start) with
      | false =>
        obtain ⟨rfl, rfl⟩ : round = false ∧ start = false := by simpa using hrs
        rw [if_pos (by simp)]
        clear hrs
        all_goals
          go_enter Try.func41, Try.ntmps41
          go_wp2
          go_ret
          exact ⟨rfl, Put.set H.out 4⟩
      | true =>
        rw [if_neg (by simp [hl])]
        have hc : round = true ∨ round = false ∧ start = true := by cases round <;> simp_all
        clear hrs
        rcases hc with rfl | ⟨rfl, rfl⟩
        all_goals
          go_enter Try.func41, Try.ntmps41
          go_wp2
          go_ret
          exact ⟨rfl, ((Put.set H.out 4).then_ (Put.set (H.out.set 4) 1)).then_ (Put.set ((H.out.set 4).set 1) 2)⟩
end Go.Proofs.Ytgdbmjokpbjoaaa
