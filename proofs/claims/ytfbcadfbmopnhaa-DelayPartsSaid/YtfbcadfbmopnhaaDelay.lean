/- The contracts of delay.Of, delay.Lesser and of their references. -/
import Derived.Test.YtfbcadfbmopnhaaSat
import Derived.WalkSpells
namespace Go.Proofs.Ytfbcadfbmopnhaa
open Go.RowKit Go.Lib

def delayOf (s : Int) (r : Nat) : Nat := if s < 1 then 0 else if r = 18446744073709551615 then 0 else min (mulDiv s.toNat 1000000000 r) 1000000000
theorem delayOf_le (s : Int) (r : Nat) : delayOf s r ≤ 1000000000 := by unfold delayOf; split <;> (try split) <;> omega

theorem of_any (s : Int) (r : Nat) (hs : s ≤ 9223372036854775807) (hs' : -9223372036854775808 ≤ s) (hr : r < 18446744073709551616) (w : World) :
    Calls Try.prog 13 #[.int .i64 s, .int .u64 r] w fun e w' => e = .returned (.int .u64 (delayOf s r : Nat)) ∧ w = w' := by
  unfold delayOf
  by_cases h1 : s < 1
  · rw [if_pos h1]
    go_enter Try.func13, Try.ntmps13
    go_wp2
    go_ret
    exact ⟨rfl, rfl⟩
  · rw [if_neg h1]
    obtain ⟨n, rfl⟩ := Int.eq_ofNat_of_zero_le (show 0 ≤ s from by omega)
    by_cases h2 : r = 18446744073709551615
    · rw [if_pos h2]
      subst h2
      go_enter Try.func13, Try.ntmps13
      go_wp2
      go_ret
      exact ⟨rfl, rfl⟩
    · rw [if_neg h2]
      have y : ((r : Int) == 18446744073709551615) = false := by rw [beq_eq_false_iff_ne]; omega
      clear h2
      have C : ∀ w, Calls Try.prog 26 #[.int .u64 n, .int .u64 1000000000, .int .u64 r] w fun e w' => e = .returned (.int .u64 (mulDiv n 1000000000 r : Nat)) ∧ w = w' :=
        fun w => muldiv_any n 1000000000 r (by omega) (by omega) hr w
      have HC := Lib.hid C
      clear C
      rw [Int.toNat_natCast]
      generalize mulDiv n 1000000000 r = m at *
      go_enter Try.func13, Try.ntmps13
      go_wp2_with (go_at_call 26; refine (HC.out _).mono ?_; rintro e w' ⟨rfl, rfl⟩)
      all_goals go_ret
      all_goals exact ⟨ret64 (by omega), rfl⟩
theorem rof_any (s : Int) (r : Nat) (hs : s ≤ 9223372036854775807) (hs' : -9223372036854775808 ≤ s) (hr : r < 18446744073709551616) (w : World) :
    Calls Try.prog 14 #[.int .i64 s, .int .u64 r] w fun e w' => e = .returned (.int .u64 (delayOf s r : Nat)) ∧ w = w' := by
  unfold delayOf
  by_cases h1 : s < 1
  · rw [if_pos h1]
    go_enter Try.func14, Try.ntmps14
    go_wp2
    go_ret
    exact ⟨rfl, rfl⟩
  · rw [if_neg h1]
    obtain ⟨n, rfl⟩ := Int.eq_ofNat_of_zero_le (show 0 ≤ s from by omega)
    by_cases h2 : r = 18446744073709551615
    · rw [if_pos h2]
      subst h2
      go_enter Try.func14, Try.ntmps14
      go_wp2
      go_ret
      exact ⟨rfl, rfl⟩
    · rw [if_neg h2]
      have y : ((r : Int) == 18446744073709551615) = false := by rw [beq_eq_false_iff_ne]; omega
      clear h2
      have C : ∀ w, Calls Try.prog 27 #[.int .u64 n, .int .u64 1000000000, .int .u64 r] w fun e w' => e = .returned (.int .u64 (mulDiv n 1000000000 r : Nat)) ∧ w = w' :=
        fun w => rmuldiv_any n 1000000000 r (by omega) (by omega) hr w
      have HC := Lib.hid C
      clear C
      rw [Int.toNat_natCast]
      generalize mulDiv n 1000000000 r = m at *
      go_enter Try.func14, Try.ntmps14
      go_wp2_with (go_at_call 27; refine (HC.out _).mono ?_; rintro e w' ⟨rfl, rfl⟩)
      all_goals go_ret
      all_goals exact ⟨ret64 (by omega), rfl⟩

theorem eq0 {a : Nat} (h : ((a : Int) == 0) = true) : a = 0 := by simpa using h
theorem ne0 {a : Nat} (h : ((a : Int) == 0) = false) : ¬ a = 0 := by simpa using h
theorem val64 {k : IntKind} {a b : Int} (h : a = b) : Value.int k a = .int k b := by rw [h]
def nz (a : Nat) : Nat := if a = 0 then 18446744073709551615 else a
def les (a b : Nat) : Nat := min (nz a) (nz b)
def LesRel (a b : Nat) (r i : Value) : Prop := (r = .int .u64 18446744073709551615 ∧ i = .int .i64 0) ∨ (r = .int .u64 (nz a : Nat) ∧ i = .int .i64 1) ∨ (r = .int .u64 (les a b : Nat) ∧ i = .int .i64 2)
theorem lesser_any (a b : Nat) (ha : a < 18446744073709551616) (_ : b < 18446744073709551616) (w : World) :
    Calls Try.prog 15 #[.int .u64 a, .int .u64 b] w fun e w' => e = .returned (.int .u64 (les a b : Nat)) ∧ w = w' := by
  have i0 : ∀ w, (Instr.index 38 (.agg #[.int .u64 a, .int .u64 b]) (.int .i64 0)).run Try.prog w = .ok (.int .u64 a) w := fun _ => by kernel_rfl
  have i1 : ∀ w, (Instr.index 38 (.agg #[.int .u64 a, .int .u64 b]) (.int .i64 1)).run Try.prog w = .ok (.int .u64 b) w := fun _ => by kernel_rfl
  go_enter Try.func15, Try.ntmps15
  go_wp2
  go_step3
  go_wp2
  go_step3
  go_wp2
  go_loop [5, 11] (fun r i => LesRel a b r i) (fun _ i => (2 - intOf i).toNat)
  case atStart => exact .inl ⟨rfl, rfl⟩
  case round =>
    rcases hrel with ⟨rfl, rfl⟩ | ⟨rfl, rfl⟩ | ⟨rfl, rfl⟩
    · go_wp2
      · have h : a = 0 := by first | assumption | exact eq0 (by assumption)
        refine ⟨.inr (.inl ⟨val64 ?_, rfl⟩), by simp [intOf]⟩
        rw [nz, if_pos h]; rfl
      · have h : ¬ a = 0 := by first | assumption | exact ne0 (by assumption)
        refine ⟨.inr (.inl ⟨val64 ?_, rfl⟩), by simp [intOf]⟩
        rw [nz, if_neg h]
        split <;> omega
    · have hn : nz a < 18446744073709551616 := by unfold nz; split <;> omega
      go_wp2
      · have h : b = 0 := by first | assumption | exact eq0 (by assumption)
        refine ⟨.inr (.inr ⟨val64 ?_, rfl⟩), by simp [intOf]⟩
        rw [les, nz.eq_def b, if_pos h, Nat.min_eq_left (by omega)]
      · have h : ¬ b = 0 := by first | assumption | exact ne0 (by assumption)
        refine ⟨.inr (.inr ⟨val64 ?_, rfl⟩), by simp [intOf]⟩
        rw [les, nz.eq_def b, if_neg h]
        split <;> omega
    · go_wp2
      go_ret
      exact ⟨rfl, rfl⟩
theorem rlesser_any (a b : Nat) (ha : a < 18446744073709551616) (hb : b < 18446744073709551616) (w : World) :
    Calls Try.prog 16 #[.int .u64 a, .int .u64 b] w fun e w' => e = .returned (.int .u64 (les a b : Nat)) ∧ w = w' := by
  have e : nz a = (if a = 0 then 18446744073709551615 else a) ∧ nz b = (if b = 0 then 18446744073709551615 else b) ∧ les a b = min (nz a) (nz b) := ⟨rfl, rfl, rfl⟩
  generalize les a b = r at *
  have E := Lib.hid e
  clear e
  rcases Nat.eq_zero_or_pos a with h | h <;> rcases Nat.eq_zero_or_pos b with h' | h'
  · subst h; subst h'
    go_enter Try.func16, Try.ntmps16
    go_wp2
    go_ret
    obtain ⟨e1, e2, e3⟩ := E.out
    rw [if_pos trivial] at e1
    exact ⟨ret64 (by omega), rfl⟩
  · subst h
    have HB := Lib.hid hb
    by_cases hb1 : b = 18446744073709551615
    · subst hb1
      clear ha hb h'
      go_enter Try.func16, Try.ntmps16
      go_wp2
      go_ret
      obtain ⟨e1, e2, e3⟩ := E.out
      rw [if_pos trivial] at e1
      rw [if_neg (by omega)] at e2
      exact ⟨ret64 (by omega), rfl⟩
    · have hb2 : (b : Int) < 18446744073709551615 := by omega
      have HB1 := Lib.hid hb1
      have y : ((b : Int) == 0) = false := by rw [beq_eq_false_iff_ne]; omega
      clear ha hb h' hb1
      go_enter Try.func16, Try.ntmps16
      go_wp2
      all_goals go_ret
      all_goals obtain ⟨e1, e2, e3⟩ := E.out
      all_goals rw [if_pos trivial] at e1
      all_goals rw [if_neg (ne0 y)] at e2
      all_goals exact ⟨ret64 (by omega), rfl⟩
  · subst h'
    have y : ((a : Int) == 0) = false := by rw [beq_eq_false_iff_ne]; omega
    go_enter Try.func16, Try.ntmps16
    go_wp2
    all_goals go_ret
    all_goals obtain ⟨e1, e2, e3⟩ := E.out
    all_goals rw [if_pos trivial] at e2
    all_goals rw [if_neg (by omega)] at e1
    all_goals exact ⟨ret64 (by omega), rfl⟩
  · have y : ((a : Int) == 0) = false := by rw [beq_eq_false_iff_ne]; omega
    have y' : ((b : Int) == 0) = false := by rw [beq_eq_false_iff_ne]; omega
    go_enter Try.func16, Try.ntmps16
    go_wp2
    all_goals go_ret
    all_goals obtain ⟨e1, e2, e3⟩ := E.out
    all_goals rw [if_neg (by omega)] at e1 e2
    all_goals exact ⟨ret64 (by omega), rfl⟩
end Go.Proofs.Ytfbcadfbmopnhaa
