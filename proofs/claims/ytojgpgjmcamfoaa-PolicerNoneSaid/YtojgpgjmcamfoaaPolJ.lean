/- policer's Update and its reference, joined; Use, New; what keeps holding. -/
import Derived.Test.YtojgpgjmcamfoaaPol5
import Derived.Test.YtojgpgjmcamfoaaPol6
import Derived.Test.YtojgpgjmcamfoaaPol7
import Derived.Test.YtojgpgjmcamfoaaPol8
import Derived.Test.YtojgpgjmcamfoaaPolR5
import Derived.Test.YtojgpgjmcamfoaaPolR6
import Derived.Test.YtojgpgjmcamfoaaPolR7
import Derived.Test.YtojgpgjmcamfoaaPolR8
namespace Go.Proofs.Ytojgpgjmcamfoaa
open Go.RowKit Go.Lib
set_option linter.unusedVariables false

def PL.inv (s : PL) : Prop := s.ok ∧ (s.use = true → s.n ≤ 47) ∧ (s.use = false → s.samples = true → s.n ≤ 16)
def pol0 : PL := ⟨false, false, 0, 0, 0, 0, 0, 0⟩
theorem pol0_inv : pol0.inv := ⟨⟨by decide, by decide, by decide, by decide, by decide⟩, by simp [pol0], by simp [pol0]⟩

theorem endF_inv {s : PL} {x : SM} (h : s.ok) (hx : x.ok) (hu : s.use = false) (hn : s.n ≤ 16) : (endF s x).inv := by
  have hB := bwF_lt s x
  unfold endF
  split
  · split
    · refine ⟨⟨?_, h.2.1, h.2.2.1, h.2.2.2.1, h.2.2.2.2⟩, fun _ => by simp, fun h => by simp at h⟩
      have := h.1
      simp only
      omega
    · exact ⟨⟨hB, h.2.1, hx.1, hx.2.1, h.2.1⟩, fun h' => by simp [beginF, hu] at h', fun _ _ => by simp [beginF]⟩
  · exact ⟨h, fun h' => by simp [hu] at h', fun _ _ => hn⟩

theorem polF_inv {s : PL} {start : Bool} {x : SM} (h : s.inv) (hx : x.ok) : (polF s start x).inv := by
  obtain ⟨h1, h2, h3⟩ := h
  have ha : (addL s x).ok := ⟨h1.1, satAdd_lt, h1.2.2⟩
  have hl : (leaveF (addL s x)).ok := ⟨by simp [leaveF], ha.2⟩
  unfold polF
  cases hu : s.use
  · cases hm : s.samples
    · simp only [if_neg, Bool.false_eq_true, not_false_eq_true]
      split
      · exact ⟨⟨h1.1, ha.2.1, hx.1, hx.2.1, ha.2.1⟩, fun h => by simp [beginF, addL, hu] at h, fun _ _ => by simp [beginF]⟩
      · exact ⟨ha, fun h => by simp [addL, hu] at h, fun _ h => by simp [addL, hm] at h⟩
    · have h3' := h3 hu hm
      simp only [if_neg, if_pos, Bool.false_eq_true, not_false_eq_true]
      split
      · exact ⟨hl, fun h => by simp [leaveF] at h, fun _ h => by simp [leaveF] at h⟩
      · have hi : (incF (addL s x) start).ok := by unfold incF; split <;> exact ha
        have hi2 : (incF (addL s x) start).use = false := by unfold incF; split <;> exact hu
        have hi3 : (incF (addL s x) start).n = (incF s start).n := by unfold incF; split <;> rfl
        split
        · exact ⟨⟨by simp [leaveF], hi.2⟩, fun h => by simp [leaveF] at h, fun _ h => by simp [leaveF] at h⟩
        · rename_i hn
          split
          · exact endF_inv hi hx hi2 (by omega)
          · exact ⟨hi, fun h => by simp [hi2] at h, fun _ _ => by omega⟩
  · have h2' := h2 hu
    simp only [if_pos]
    split
    · split
      · exact ⟨hl, fun _ => by simp, fun _ _ => by simp⟩
      · exact ⟨ha, fun _ => by simp; omega, fun h => by simp [addL, hu] at h⟩
    · exact ⟨ha, fun _ => h2', fun h => by simp [addL, hu] at h⟩

theorem pupd_any (b : Nat) (s : PL) (start : Bool) (x : SM) (w : World) (h : At w b 92 (pol s)) (hi : s.inv) (hx : x.ok) :
    Calls Try.prog 37 #[.pointer (some ⟨b, 0, none⟩), .bool start, smp x] w fun e w' => e = .returned (.tuple #[]) ∧ Put w w' b 92 (pol (polF s start x)) := by
  obtain ⟨hs, h2, h3⟩ := hi
  cases hu : s.use
  · cases hm : s.samples
    · exact pupd_fresh b s start x w h hs hx hu hm
    · have h3' := h3 hu hm
      have e0 : polF s start x = (if x.limited then leaveF (addL s x) else if 16 < (incF s start).n then leaveF (incF (addL s x) start) else if 4 ≤ (incF s start).n ∧ 0 < x.lost then endF (incF (addL s x) start) x else incF (addL s x) start) := by
        unfold polF; rw [if_neg (by simp [hu]), if_pos hm]
      rw [e0]
      cases hl : x.limited
      · rw [if_neg (by simp)]
        cases start
        · have e1 : (incF s false).n = s.n := rfl
          have e2 : incF (addL s x) false = addL s x := rfl
          rw [e1, e2]
          by_cases c1 : 16 < s.n
          · omega
          · rw [if_neg c1]
            by_cases c2 : 4 ≤ s.n ∧ 0 < x.lost
            · rw [if_pos c2]; exact pupd_end_f b s x w h hs hx hu hm hl ⟨c2.1, by omega⟩ c2.2
            · rw [if_neg c2]
              by_cases c3 : s.n < 4
              · exact pupd_low_f b s x w h hs hx hu hm hl c3
              · exact pupd_few_f b s x w h hs hx hu hm hl ⟨by omega, by omega⟩ (by omega)
        · have e1 : (incF s true).n = s.n + 1 := rfl
          have e2 : incF (addL s x) true = { addL s x with n := s.n + 1 } := rfl
          rw [e1, e2]
          by_cases c1 : 16 < s.n + 1
          · rw [if_pos c1]; exact pupd_out_t b s x w h hs hx hu hm hl ⟨c1, by omega⟩
          · rw [if_neg c1]
            by_cases c2 : 4 ≤ s.n + 1 ∧ 0 < x.lost
            · rw [if_pos c2]; exact pupd_end_t b s x w h hs hx hu hm hl ⟨c2.1, by omega⟩ c2.2
            · rw [if_neg c2]
              by_cases c3 : s.n + 1 < 4
              · exact pupd_low_t b s x w h hs hx hu hm hl c3
              · exact pupd_few_t b s x w h hs hx hu hm hl ⟨by omega, by omega⟩ (by omega)
      · rw [if_pos rfl]
        exact pupd_lim b s x w h hs hx hu hm hl start
  · have h2' := h2 hu
    have e0 : polF s start x = (if start then (if s.n = 47 then { leaveF (addL s x) with n := 0 } else { addL s x with n := s.n + 1 }) else addL s x) := by
      unfold polF; rw [if_pos hu]
    rw [e0]
    cases start
    · exact pupd_use0 b s x w h hs hx hu
    · rw [if_pos rfl]
      by_cases c : s.n = 47
      · rw [if_pos c]; exact pupd_use2 b s x w h hs hx hu c
      · rw [if_neg c]; exact pupd_use1 b s x w h hs hx hu (by omega)

theorem rpupd_any (b : Nat) (s : PL) (start : Bool) (x : SM) (w : World) (h : At w b 66 (pol s)) (hi : s.inv) (hx : x.ok) :
    Calls Try.prog 38 #[.pointer (some ⟨b, 0, none⟩), .bool start, smp x] w fun e w' => e = .returned (.tuple #[]) ∧ Put w w' b 66 (pol (polF s start x)) := by
  obtain ⟨hs, h2, h3⟩ := hi
  cases hu : s.use
  · cases hm : s.samples
    · have e0 : polF s start x = (if 0 < x.lost then beginF (addL s x) x else addL s x) := by
        unfold polF; rw [if_neg (by simp [hu]), if_neg (by simp [hm])]
      rw [e0]
      by_cases c : 0 < x.lost
      · rw [if_pos c]; exact rpupd_begin b s x w h hs hx hu hm c start
      · rw [if_neg c]; exact rpupd_rest b s x w h hs hx hu hm (by omega) start
    · have h3' := h3 hu hm
      have e0 : polF s start x = (if x.limited then leaveF (addL s x) else if 16 < (incF s start).n then leaveF (incF (addL s x) start) else if 4 ≤ (incF s start).n ∧ 0 < x.lost then endF (incF (addL s x) start) x else incF (addL s x) start) := by
        unfold polF; rw [if_neg (by simp [hu]), if_pos hm]
      rw [e0]
      cases hl : x.limited
      · rw [if_neg (by simp)]
        cases start
        · have e1 : (incF s false).n = s.n := rfl
          have e2 : incF (addL s x) false = addL s x := rfl
          rw [e1, e2]
          by_cases c1 : 16 < s.n
          · omega
          · rw [if_neg c1]
            by_cases c2 : 4 ≤ s.n ∧ 0 < x.lost
            · rw [if_pos c2]; exact rpupd_end_f b s x w h hs hx hu hm hl ⟨c2.1, by omega⟩ c2.2
            · rw [if_neg c2]
              by_cases c3 : s.n < 4
              · exact rpupd_low_f b s x w h hs hx hu hm hl c3
              · exact rpupd_few_f b s x w h hs hx hu hm hl ⟨by omega, by omega⟩ (by omega)
        · have e1 : (incF s true).n = s.n + 1 := rfl
          have e2 : incF (addL s x) true = { addL s x with n := s.n + 1 } := rfl
          rw [e1, e2]
          by_cases c1 : 16 < s.n + 1
          · rw [if_pos c1]; exact rpupd_out_t b s x w h hs hx hu hm hl ⟨c1, by omega⟩
          · rw [if_neg c1]
            by_cases c2 : 4 ≤ s.n + 1 ∧ 0 < x.lost
            · rw [if_pos c2]; exact rpupd_end_t b s x w h hs hx hu hm hl ⟨c2.1, by omega⟩ c2.2
            · rw [if_neg c2]
              by_cases c3 : s.n + 1 < 4
              · exact rpupd_low_t b s x w h hs hx hu hm hl c3
              · exact rpupd_few_t b s x w h hs hx hu hm hl ⟨by omega, by omega⟩ (by omega)
      · rw [if_pos rfl]
        exact rpupd_lim b s x w h hs hx hu hm hl start
  · have h2' := h2 hu
    have e0 : polF s start x = (if start then (if s.n = 47 then { leaveF (addL s x) with n := 0 } else { addL s x with n := s.n + 1 }) else addL s x) := by
      unfold polF; rw [if_pos hu]
    rw [e0]
    cases start
    · exact rpupd_use0 b s x w h hs hx hu h2'
    · rw [if_pos rfl]
      by_cases c : s.n = 47
      · rw [if_pos c]; exact rpupd_use2 b s x w h hs hx hu c
      · rw [if_neg c]; exact rpupd_use1 b s x w h hs hx hu (by omega)

theorem use_yes (b : Nat) (s : PL) (w : World) (h : At w b 92 (pol s)) (hu : s.use = true) :
    Calls Try.prog 39 #[.pointer (some ⟨b, 0, none⟩)] w fun e w' => e = .returned (.tuple #[.int .u64 s.bw, .bool true]) ∧ w = w' := by
  have h0 : w.cell? ⟨b, 0, none⟩ = some (.bool true) := by rw [← hu]; exact h.cell 0
  have h2 : w.cell? ⟨b, 2, none⟩ = some (.int .u64 s.bw) := h.cell 2
  clear h hu
  go_enter Try.func39, Try.ntmps39
  go_wp2
  go_ret2
  exact ⟨rfl, rfl⟩
theorem use_no (b : Nat) (s : PL) (w : World) (h : At w b 92 (pol s)) (hu : s.use = false) :
    Calls Try.prog 39 #[.pointer (some ⟨b, 0, none⟩)] w fun e w' => e = .returned (.tuple #[.int .u64 0, .bool false]) ∧ w = w' := by
  have h0 : w.cell? ⟨b, 0, none⟩ = some (.bool false) := by rw [← hu]; exact h.cell 0
  clear h hu
  go_enter Try.func39, Try.ntmps39
  go_wp2
  go_ret2
  exact ⟨rfl, rfl⟩
theorem use_nil (w : World) :
    Calls Try.prog 39 #[.pointer none] w fun e w' => e = .returned (.tuple #[.int .u64 0, .bool false]) ∧ w = w' := by
  go_enter Try.func39, Try.ntmps39
  go_wp2
  go_ret2
  exact ⟨rfl, rfl⟩
theorem polnew_any (w : World) :
    Calls Try.prog 35 #[] w fun e w' => e = .returned (.pointer (some ⟨w.heap.size, 0, none⟩)) ∧ w' = w.alloc (.cells (pol pol0) 92) := by
  go_enter Try.func35, Try.ntmps35
  go_wp2
  go_ret
  exact ⟨rfl, rfl⟩
end Go.Proofs.Ytojgpgjmcamfoaa
