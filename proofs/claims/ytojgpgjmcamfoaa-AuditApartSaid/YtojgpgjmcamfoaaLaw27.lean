/- The awake of the statements on audit, and the walk of AuditTells. -/
import Derived.Test.YtojgpgjmcamfoaaAud2
import Derived.Test.YtojgpgjmcamfoaaAud3
import Derived.Test.YtojgpgjmcamfoaaAud4
import Derived.Test.YtojgpgjmcamfoaaAud5
namespace Go.Proofs.Ytojgpgjmcamfoaa
open Go.RowKit Go.Lib
set_option linter.unusedVariables false

theorem natRow27_of {w : World} {a : Option Addr} {len : Nat} (hl : len ≤ 9223372036854775807)
    (h : 0 < len → ∃ b off, a = some ⟨b, off, none⟩ ∧ b < w.heap.size ∧ ∀ k, k < len → ∃ x : Int, (Lit.int .u64 x).wf = true ∧ w.cell? ⟨b, off + k, none⟩ = some (.int .u64 x)) : ∃ xs : List Nat, NatRow w a xs ∧ xs.length = len := by
  rcases Nat.eq_zero_or_pos len with rfl | hp
  · exact ⟨[], ⟨by simp, by simp, fun h => by simp at h⟩, rfl⟩
  · obtain ⟨b, off, ha, hb, hc⟩ := h hp
    have hc' : ∀ k, ∃ n : Nat, k < len → n < 18446744073709551616 ∧ w.cell? ⟨b, off + k, none⟩ = some (.int .u64 (n : Nat)) := by
      intro k
      by_cases hk : k < len
      · obtain ⟨x, g, c⟩ := hc k hk
        obtain ⟨n, rfl, hn⟩ := u64_of g
        exact ⟨n, fun _ => ⟨hn, c⟩⟩
      · exact ⟨0, fun h => absurd h hk⟩
    obtain ⟨f, hf⟩ := Classical.axiomOfChoice hc'
    refine ⟨(List.range len).map f, ⟨by simp; omega, fun x hx => ?_, fun _ => ⟨b, off, ha, hb, fun j hj => ?_⟩⟩, by simp⟩
    · obtain ⟨i, hi, rfl⟩ := List.mem_map.1 hx
      exact (hf i (List.mem_range.1 hi)).1
    · have hj' : j < len := by simpa using hj
      rw [(hf j hj').2]
      simp [List.getD_eq_getElem?_getD, hj']

theorem seg_none (w : World) (a : Option Addr) : SegRow w a [] := ⟨by simp, by simp, fun h => by simp at h⟩
theorem seg_one {w : World} {B : Nat} {s : Sg} (hs : s.ok) (h : At w B 55 (segC s)) : SegRow w (some ⟨B, 0, none⟩) [s] := by
  refine ⟨by simp, by simpa using hs, fun _ => ⟨B, 0, rfl, h.lt, fun j x hx => ?_⟩⟩
  cases j with
  | zero =>
    simp at hx
    subst hx
    exact ⟨h.cell 0, h.cell 1, h.cell 2, h.cell 3, h.cell 4⟩
  | succ j => simp at hx
theorem nat_one {w : World} {B n : Nat} (hn : n < 18446744073709551616) (h : At w B 22 #[.int .u64 n]) : NatRow w (some ⟨B, 0, none⟩) [n] := by
  refine ⟨by simp, by simpa using hn, fun _ => ⟨B, 0, rfl, h.lt, fun j hj => ?_⟩⟩
  have : j = 0 := by simp at hj; omega
  subst this
  exact h.cell 0

theorem aw_apart (x : Sg) : apartF [0] [x] [1] = true := by simp [apartF, nSt, nStep]
theorem awake27 (w : World) : Calls Try.prog 26 #[] w fun e w' => e = .returned (.bool true) ∧ Below w.heap.size w w' := by
  obtain ⟨s1, hs1⟩ : ∃ s : Sg, s = ⟨1, 0, 5, 0, false⟩ := ⟨_, rfl⟩
  have ok1 : s1.ok := by subst hs1; exact ⟨⟨by decide, by decide⟩, by decide, ⟨by decide, by decide⟩, by decide⟩
  have v1 : partF [s1] [s1] = true := by subst hs1; decide
  have v2 : onceF [s1] = true := by subst hs1; decide
  have v3 : sortedF [s1] = true := by subst hs1; decide
  have v4 := aw_apart s1
  have v5 : partF [s1] [] = false := by subst hs1; decide
  have C1 : Hid (∀ w B, SegRow w (some ⟨B, 0, none⟩) [s1] → Calls Try.prog 27 #[.slice (some ⟨B, 0, none⟩) 1 1, .slice (some ⟨B, 0, none⟩) 1 1] w fun e w' => e = .returned (.bool true) ∧ Below w.heap.size w w') :=
    Lib.hid (fun w B h => by have := part_any (some ⟨B, 0, none⟩) (some ⟨B, 0, none⟩) 1 1 [s1] [s1] w h h (by simp); rw [v1] at this; exact this)
  have C2 : Hid (∀ w B, SegRow w (some ⟨B, 0, none⟩) [s1] → Calls Try.prog 29 #[.slice (some ⟨B, 0, none⟩) 1 1] w fun e w' => e = .returned (.bool true) ∧ Below w.heap.size w w') :=
    Lib.hid (fun w B h => by have := once_any (some ⟨B, 0, none⟩) 1 [s1] w h (by simp); rw [v2] at this; exact this)
  have C3 : Hid (∀ w B, SegRow w (some ⟨B, 0, none⟩) [s1] → Calls Try.prog 31 #[.slice (some ⟨B, 0, none⟩) 1 1] w fun e w' => e = .returned (.bool true) ∧ Below w.heap.size w w') :=
    Lib.hid (fun w B h => by have := sorted_any (some ⟨B, 0, none⟩) 1 [s1] w h; rw [v3] at this; exact this)
  have C4 : Hid (∀ w B B1 B2, SegRow w (some ⟨B, 0, none⟩) [s1] → NatRow w (some ⟨B1, 0, none⟩) [0] → NatRow w (some ⟨B2, 0, none⟩) [1] → Calls Try.prog 33 #[.slice (some ⟨B1, 0, none⟩) 1 1, .slice (some ⟨B, 0, none⟩) 1 1, .slice (some ⟨B2, 0, none⟩) 1 1] w fun e w' => e = .returned (.bool true) ∧ Below w.heap.size w w') :=
    Lib.hid (fun w B B1 B2 h h1 h2 => by have := apart_any (some ⟨B1, 0, none⟩) (some ⟨B, 0, none⟩) (some ⟨B2, 0, none⟩) 1 1 1 [0] [1] [s1] w h1 h h2; rw [v4] at this; exact this)
  have C5 : Hid (∀ w B, SegRow w (some ⟨B, 0, none⟩) [s1] → Calls Try.prog 27 #[.slice (some ⟨B, 0, none⟩) 1 1, .slice none 0 0] w fun e w' => e = .returned (.bool false) ∧ Below w.heap.size w w') :=
    Lib.hid (fun w B h => by have := part_any (some ⟨B, 0, none⟩) none 1 0 [s1] [] w h (seg_none _ _) (by simp); rw [v5] at this; exact this)
  have HS := Lib.hid (And.intro hs1 ok1)
  clear v1 v2 v3 v4 v5 hs1 ok1
  go_enter Try.func26, Try.ntmps26
  go_wp2_with fail
  have R1 : Hid (SegRow (w.alloc (.cells #[.int .i64 1, .int .u64 0, .int .i64 5, .int .u64 0, .bool false] 55)) (some ⟨w.heap.size, 0, none⟩) [s1]) := Lib.hid (by obtain ⟨e, h⟩ := HS.out; subst e; exact seg_one h (At.made w _ _))
  have B1 := Lib.hid ((Below.refl w.heap.size w).alloc (Nat.le_refl _) (.cells #[.int .i64 1, .int .u64 0, .int .i64 5, .int .u64 0, .bool false] 55))
  refine (C1.out _ _ R1.out).mono ?_; rintro e w2 ⟨rfl, b2⟩
  have R2 := Lib.hid (R1.out.below b2)
  have B2 := Lib.hid (B1.out.trans (b2.mono B1.out.size))
  clear b2
  go_wp2_with fail
  refine (C2.out _ _ R2.out).mono ?_; rintro e w3 ⟨rfl, b3⟩
  have R3 := Lib.hid (R2.out.below b3)
  have B3 := Lib.hid (B2.out.trans (b3.mono B2.out.size))
  clear b3
  go_wp2_with fail
  refine (C3.out _ _ R3.out).mono ?_; rintro e w4 ⟨rfl, b4⟩
  have R4 := Lib.hid (R3.out.below b4)
  have B4 := Lib.hid (B3.out.trans (b4.mono B3.out.size))
  clear b4
  have B5 := Lib.hid ((B4.out.alloc B4.out.size (.cells #[.int .u64 0] 22)).alloc (by have := B4.out.size; simp; omega) (.cells #[.int .u64 1] 22))
  have R5 : Hid (SegRow ((w4.alloc (.cells #[.int .u64 0] 22)).alloc (.cells #[.int .u64 1] 22)) (some ⟨w.heap.size, 0, none⟩) [s1]) :=
    Lib.hid (R4.out.below (((Below.refl _ w4).alloc (Nat.le_refl _) _).alloc (by simp) _))
  have N0 : Hid (NatRow ((w4.alloc (.cells #[.int .u64 0] 22)).alloc (.cells #[.int .u64 1] 22)) (some ⟨w4.heap.size, 0, none⟩) [0]) :=
    Lib.hid (nat_one (by omega) ((At.made w4 22 #[.int .u64 0]).kept (World.grownBy_alloc _ _ none) (by simp)))
  have N1 : Hid (NatRow ((w4.alloc (.cells #[.int .u64 0] 22)).alloc (.cells #[.int .u64 1] 22)) (some ⟨w4.heap.size + 1, 0, none⟩) [1]) := by
    have := At.made (w4.alloc (.cells #[.int .u64 0] 22)) 22 #[.int .u64 1]
    rw [show (w4.alloc (.cells #[.int .u64 0] 22)).heap.size = w4.heap.size + 1 from by simp] at this
    exact Lib.hid (nat_one (by omega) this)
  go_wp2_with fail
  refine (C4.out _ _ _ _ R5.out N0.out N1.out).mono ?_; rintro e w6 ⟨rfl, b6⟩
  have R6 := Lib.hid (R5.out.below b6)
  have B6 := Lib.hid (B5.out.trans (b6.mono B5.out.size))
  clear b6
  go_wp2_with fail
  refine (C5.out _ _ R6.out).mono ?_; rintro e w7 ⟨rfl, b7⟩
  have B7 := Lib.hid (B6.out.trans (b7.mono B6.out.size))
  clear b7
  go_wp2
  go_ret
  exact ⟨rfl, B7.out⟩

set_option maxHeartbeats 4000000 in
theorem tells27_any (a a2 a3 a4 : Option Addr) (c1 c2 c3 c4 : Nat) (l of : List Sg) (at_ rates : List Nat) (w : World) (hl : SegRow w a l) (ho : SegRow w a2 of) (ha : NatRow w a3 at_) (hr : NatRow w a4 rates) (hc : l.length ≤ c1) :
    Calls Try.prog 7 #[.slice a l.length c1, .slice a2 of.length c2, .slice a3 at_.length c3, .slice a4 rates.length c4] w fun e w' => e = .returned (.bool true) ∧ Below w.heap.size w w' := by
  have HL := Lib.hid hl
  have HO := Lib.hid ho
  have HA := Lib.hid ha
  have HR := Lib.hid hr
  have HC := Lib.hid hc
  have hx : decide ((40 : Int) < l.length) = true ∨ decide ((40 : Int) < l.length) = false ∧ (decide ((60 : Int) < of.length) = true ∨ decide ((60 : Int) < of.length) = false ∧ (decide ((60 : Int) < at_.length) = true ∨ decide ((60 : Int) < at_.length) = false ∧ (decide ((60 : Int) < rates.length) = true ∨ decide ((60 : Int) < rates.length) = false))) := by
    simp only [decide_eq_true_eq, decide_eq_false_iff_not]; omega
  clear hl ho ha hr hc
  rcases hx with hx | ⟨hx, hx2 | ⟨hx2, hx3 | ⟨hx3, hx4 | hx4⟩⟩⟩
  iterate 4
    · go_enter Try.func7, Try.ntmps7
      go_wp2_with fail
      refine (awake27 _).mono ?_; rintro e w1 ⟨rfl, b1⟩
      go_wp2
      go_ret
      exact ⟨rfl, b1⟩
  go_enter Try.func7, Try.ntmps7
  go_wp2_with fail
  refine (awake27 _).mono ?_; rintro e w1 ⟨rfl, b1⟩
  have B1 := Lib.hid b1
  clear b1
  go_wp2_with fail
  refine (part_any _ _ _ _ l of _ (HL.out.below B1.out) (HO.out.below B1.out) HC.out).mono ?_; rintro e w2 ⟨rfl, b2⟩
  have B2 := Lib.hid (B1.out.trans (b2.mono B1.out.size))
  clear b2
  go_wp2_with fail
  refine (rpart_any _ _ _ _ l of _ (HL.out.below B2.out) (HO.out.below B2.out)).mono ?_; rintro e w3 ⟨rfl, b3⟩
  have B3 := Lib.hid (B2.out.trans (b3.mono B2.out.size))
  clear b3
  generalize partF l of = P1
  go_wp2_with fail
  refine (once_any _ _ l _ (HL.out.below B3.out) HC.out).mono ?_; rintro e w4 ⟨rfl, b4⟩
  have B4 := Lib.hid (B3.out.trans (b4.mono B3.out.size))
  clear b4
  go_wp2_with fail
  refine (ronce_any _ _ l _ (HL.out.below B4.out)).mono ?_; rintro e w5 ⟨rfl, b5⟩
  have B5 := Lib.hid (B4.out.trans (b5.mono B4.out.size))
  clear b5
  generalize onceF l = P2
  go_wp2_with fail
  refine (sorted_any _ _ l _ (HL.out.below B5.out)).mono ?_; rintro e w6 ⟨rfl, b6⟩
  have B6 := Lib.hid (B5.out.trans (b6.mono B5.out.size))
  clear b6
  go_wp2_with fail
  refine (rsorted_any _ _ l _ (HL.out.below B6.out)).mono ?_; rintro e w7 ⟨rfl, b7⟩
  have B7 := Lib.hid (B6.out.trans (b7.mono B6.out.size))
  clear b7
  generalize sortedF l = P3
  go_wp2_with fail
  refine (apart_any _ _ _ _ _ _ at_ rates l _ (HA.out.below' B7.out) (HL.out.below B7.out) (HR.out.below' B7.out)).mono ?_; rintro e w8 ⟨rfl, b8⟩
  have B8 := Lib.hid (B7.out.trans (b8.mono B7.out.size))
  clear b8
  go_wp2_with fail
  refine (rapart_any _ _ _ _ _ _ at_ rates l _ (HA.out.below' B8.out) (HL.out.below B8.out) (HR.out.below' B8.out)).mono ?_; rintro e w9 ⟨rfl, b9⟩
  have B9 := Lib.hid (B8.out.trans (b9.mono B8.out.size))
  clear b9
  generalize apartF at_ l rates = P4
  go_wp2
  go_ret
  exact ⟨rfl, B9.out⟩
end Go.Proofs.Ytojgpgjmcamfoaa
