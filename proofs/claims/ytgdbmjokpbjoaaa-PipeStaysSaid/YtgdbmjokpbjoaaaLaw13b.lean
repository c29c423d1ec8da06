/- The walk of PipeTells. -/
import Derived.Test.YtgdbmjokpbjoaaaLaw13
import Derived.Deep.RegionHeld3
import Derived.StillTactics
namespace Go.Proofs.Ytgdbmjokpbjoaaa
open Go.RowKit Go.Lib
set_option linter.unusedVariables false

structure PipeOp where
  start : Bool
  limited : Bool
  bw : Nat
/-- a slice of updates that came in -/
def PipeRow (w : World) (a : Option Addr) (len : Nat) (f : Nat → PipeOp) : Prop :=
  len ≤ 9223372036854775807 ∧ (∀ k, k < len → (f k).bw < 18446744073709551616) ∧ (0 < len → ∃ b off, a = some ⟨b, off, none⟩ ∧ b < w.heap.size ∧ ∀ k, k < len →
    w.cell? ⟨b, off + k * 3, none⟩ = some (.bool (f k).start) ∧ w.cell? ⟨b, off + k * 3 + 1, none⟩ = some (.bool (f k).limited) ∧ w.cell? ⟨b, off + k * 3 + 2, none⟩ = some (.int .u64 (f k).bw))
theorem pipeRow_of {w : World} {a : Option Addr} {len : Nat} (hl : len ≤ 9223372036854775807)
    (h : 0 < len → ∃ b off, a = some ⟨b, off, none⟩ ∧ b < w.heap.size ∧ ∀ k, k < len → ∃ (x0 x1 : Bool) (x2 : Int), (Lit.int .u64 x2).wf = true ∧
      w.cell? ⟨b, off + k * 3, none⟩ = some (.bool x0) ∧ w.cell? ⟨b, off + k * 3 + 1, none⟩ = some (.bool x1) ∧ w.cell? ⟨b, off + k * 3 + 2, none⟩ = some (.int .u64 x2)) :
    ∃ f, PipeRow w a len f := by
  rcases Nat.eq_zero_or_pos len with rfl | hp
  · exact ⟨fun _ => ⟨false, false, 0⟩, by omega, fun k hk => by omega, fun h => by omega⟩
  · obtain ⟨b, off, ha, hb, hc⟩ := h hp
    have hc' : ∀ k, ∃ o : PipeOp, k < len → o.bw < 18446744073709551616 ∧ w.cell? ⟨b, off + k * 3, none⟩ = some (.bool o.start) ∧ w.cell? ⟨b, off + k * 3 + 1, none⟩ = some (.bool o.limited) ∧ w.cell? ⟨b, off + k * 3 + 2, none⟩ = some (.int .u64 o.bw) := by
      intro k
      by_cases hk : k < len
      · obtain ⟨x0, x1, x2, w2, c0, c1, c2⟩ := hc k hk
        obtain ⟨n2, rfl, h2⟩ := u64_of w2
        exact ⟨⟨x0, x1, n2⟩, fun _ => ⟨h2, c0, c1, c2⟩⟩
      · exact ⟨⟨false, false, 0⟩, fun h => absurd h hk⟩
    obtain ⟨f, hf⟩ := Classical.axiomOfChoice hc'
    exact ⟨f, hl, fun k hk => (hf k hk).1, fun _ => ⟨b, off, ha, hb, fun k hk => (hf k hk).2⟩⟩

theorem wpAnyH_weaken {P : Program} {md : Region.Mode} {ops : Array Oper} {Q : Exit → Act → World → Prop} {S1 S2 : World → Prop} (hS : ∀ w, S2 w → S1 w) :
    ∀ (fuel : Nat) (listed : Array Bool) (a : Act) (w : World), wpAnyH P md ops Q S2 fuel listed a w → wpAnyH P md ops Q S1 fuel listed a w
  | 0, _, _, _, h => h
  | fuel + 1, listed, a, w, h => ⟨h.1, fun i hi => wpOp_mono (fun a' w' h' => ⟨hS _ h'.1, wpAnyH_weaken hS fuel _ a' w' h'.2⟩) (h.2 i hi)⟩

def PTellRel (w0 : World) (b len : Nat) (v5 : Value) (wr : World) : Prop :=
  ∃ (k : Nat) (s : QS), k ≤ len ∧ k ≤ 100 ∧ s.ok ∧ v5 = .int .i64 k ∧ Own w0 wr b 72 (ppp s) ∧ Own w0 wr (b + 1) 57 (ppp s)

set_option maxRecDepth 8000 in
set_option maxHeartbeats 4000000 in
theorem pipeTells_any (a : Option Addr) (len cap : Nat) (f : Nat → PipeOp) (w : World) (hrow : PipeRow w a len f) :
    Calls Try.prog 11 #[.slice a len cap] w fun e w' => e = .returned (.bool true) ∧ Below w.heap.size w w' := by
  obtain ⟨hlen, hwf, hrow⟩ := hrow
  have HW := Lib.hid hwf
  have HR := Lib.hid hrow
  clear hwf hrow
  go_enter Try.func11, Try.ntmps11
  go_wp2_with fail
  refine (ppnew_any _).mono ?_; rintro e w1 ⟨rfl, hw1⟩
  have O1 : Hid (Own w (w1.alloc (.cells (ppp ⟨0, 0, false⟩) 57)) w.heap.size 72 (ppp ⟨0, 0, false⟩)) := by rw [hw1]; exact Lib.hid ((Own.made (Below.refl _ _) _ _).alloc _)
  have O2 : Hid (Own w (w1.alloc (.cells (ppp ⟨0, 0, false⟩) 57)) (w.heap.size + 1) 57 (ppp ⟨0, 0, false⟩)) := by
    have := Own.made (w0 := w) ((Below.refl w.heap.size w).alloc (Nat.le_refl _) (.cells (ppp ⟨0, 0, false⟩) 72)) 57 (ppp ⟨0, 0, false⟩)
    rw [hw1]
    exact Lib.hid (by simpa using this)
  have e1 : w1.heap.size = w.heap.size + 1 := by rw [hw1]; simp
  clear hw1
  go_wp2_with fail
  refine (awake13 _).mono ?_; rintro e w2 ⟨rfl, b2⟩
  have P1 := Lib.hid (O1.out.below b2)
  have P2 := Lib.hid (O2.out.below b2)
  clear b2
  go_wp2_with fail
  go_loopw [5] (fun v5 wr => PTellRel w w.heap.size len v5 wr) (fun v5 _ => 100 - (intOf v5).toNat)
  case atStart => exact ⟨0, _, by omega, by omega, by simp [QS.ok], rfl, P1.out, P2.out⟩
  case round =>
    obtain ⟨k, s, hk1, hk2, hok, rfl, hO, hP⟩ := hrel
    have HO := Lib.hid hO
    have HP := Lib.hid hP
    have HK := Lib.hid hok
    clear hO hP hok
    by_cases hlt : k < len ∧ k < 100
    · obtain ⟨lt1, lt2⟩ := hlt
      obtain ⟨b, off, rfl, hb, hc⟩ := HR.out (by omega)
      obtain ⟨c0, c1, c2⟩ := hc k lt1
      have d0 := (HO.out.2.1.cell (p := ⟨b, off + k * 3, none⟩) hb).trans c0
      have d1 := (HO.out.2.1.cell (p := ⟨b, off + k * 3 + 1, none⟩) hb).trans c1
      have d2 := (HO.out.2.1.cell (p := ⟨b, off + k * 3 + 2, none⟩) hb).trans c2
      have hw := HW.out k lt1
      generalize f k = o at *
      obtain ⟨start, limited, bw⟩ := o
      simp only at d0 d1 d2 hw c0 c1 c2
      have CC := Lib.hid (And.intro c0 (And.intro c1 c2))
      clear hc c0 c1 c2
      have HU := Lib.hid (pupF_ok HK.out (start := start) (limited := limited) hw)
      have cu : ∀ wq, Own w wq w.heap.size 72 (ppp s) → Own w wq (w.heap.size + 1) 57 (ppp s) → Calls Try.prog 35 #[.pointer (some ⟨w.heap.size, 0, none⟩), .bool start, .bool limited, .int .u64 bw] wq
          fun e w' => e = .returned (.bool (pupF s start limited bw).full) ∧ Own w w' w.heap.size 72 (ppp (pupF s start limited bw)) ∧ Own w w' (w.heap.size + 1) 57 (ppp s) :=
        fun wq h h2 => (pup_any w.heap.size s start limited bw HK.out wq h.1).mono fun e w' ⟨q1, q2⟩ => ⟨q1, h.put q2, h2.other q2 (by omega) (by omega)⟩
      have cr : ∀ wq, Own w wq w.heap.size 72 (ppp (pupF s start limited bw)) → Own w wq (w.heap.size + 1) 57 (ppp s) → Calls Try.prog 36 #[.pointer (some ⟨w.heap.size + 1, 0, none⟩), .bool start, .bool limited, .int .u64 bw] wq
          fun e w' => e = .returned (.bool (pupF s start limited bw).full) ∧ Own w w' w.heap.size 72 (ppp (pupF s start limited bw)) ∧ Own w w' (w.heap.size + 1) 57 (ppp (pupF s start limited bw)) :=
        fun wq h h2 => (rpup_any (w.heap.size + 1) s start limited bw HK.out wq h2.1).mono fun e w' ⟨q1, q2⟩ => ⟨q1, h.other q2 (by omega) (by omega), h2.put q2⟩
      generalize pupF s start limited bw = s2 at *
      obtain ⟨B, n, F⟩ := s2
      have CU := Lib.hid cu
      have CR := Lib.hid cr
      clear hw cu cr
      go_wp2_with fail
      refine wp_region_held_drew (S := fun wq => wq.cell? ⟨b, off + k * 3, none⟩ = some (.bool start) ∧ wq.cell? ⟨b, off + k * 3 + 1, none⟩ = some (.bool limited) ∧ wq.cell? ⟨b, off + k * 3 + 2, none⟩ = some (.int .u64 bw)) (by kernel_rfl) ⟨d0, d1, d2⟩ (fun hHeld => ?_)
      refine wpAnyH_take (i := 0) (oi := { dst := some 25, op := Go.Op.move (Go.Operand.tmp 3), type := 53, pos := "law.go:34", after := #[], guard := none }) (v := ?_) rfl (by kernel_rfl) (by kernel_rfl) (by kernel_rfl) (fun _ _ _ h => h) (Or.inl ⟨by rfl, ?_⟩) (by assumption) ?_
      (rotate_left; focus (intro wx hSw; (try dsimp only at hSw); go_simp; try with_reducible rfl))
      (try simp only [Act.put, List.setIfInBounds_toArray, List.set_cons_zero, List.set_cons_succ])  -- 0 move none
      refine wpAnyH_take (i := 1) (oi := { dst := some 26, op := Go.Op.move (Go.Operand.tmp 0), type := 52, pos := "law.go:34", after := #[], guard := none }) (v := ?_) rfl (by kernel_rfl) (by kernel_rfl) (by kernel_rfl) (fun _ _ _ h => h) (Or.inl ⟨by rfl, ?_⟩) (by assumption) ?_
      (rotate_left; focus (intro wx hSw; (try dsimp only at hSw); go_simp; try with_reducible rfl))
      (try simp only [Act.put, List.setIfInBounds_toArray, List.set_cons_zero, List.set_cons_succ])  -- 1 move none
      refine wpAnyH_take (i := 2) (oi := { dst := some 27, op := Go.Op.move (Go.Operand.tmp 5), type := 3, pos := "law.go:34", after := #[], guard := none }) (v := ?_) rfl (by kernel_rfl) (by kernel_rfl) (by kernel_rfl) (fun _ _ _ h => h) (Or.inl ⟨by rfl, ?_⟩) (by assumption) ?_
      (rotate_left; focus (intro wx hSw; (try dsimp only at hSw); go_simp; try with_reducible rfl))
      (try simp only [Act.put, List.setIfInBounds_toArray, List.set_cons_zero, List.set_cons_succ])  -- 2 move none
      refine wpAnyH_take (i := 3) (oi := { dst := some 28, op := Go.Op.indexAddr 52 (Go.Operand.tmp 26) (Go.Operand.tmp 27), type := 0, pos := "law.go:34", after := #[{ on := 1, ground := Go.Ground.data }, { on := 2, ground := Go.Ground.data }], guard := none }) (v := ?_) rfl (by kernel_rfl) (by kernel_rfl) (by kernel_rfl) (fun _ _ _ h => h) (Or.inl ⟨by rfl, ?_⟩) (by assumption) ?_
      (rotate_left; focus (intro wx hSw; (try dsimp only at hSw); go_simp; try with_reducible rfl))
      (try simp only [Act.put, List.setIfInBounds_toArray, List.set_cons_zero, List.set_cons_succ])  -- 3 indexAddr none
      refine wpAnyH_take (i := 4) (oi := { dst := some 29, op := Go.Op.fieldAddr 60 (Go.Operand.tmp 28) 0, type := 0, pos := "law.go:34", after := #[{ on := 3, ground := Go.Ground.data }], guard := none }) (v := ?_) rfl (by kernel_rfl) (by kernel_rfl) (by kernel_rfl) (fun _ _ _ h => h) (Or.inl ⟨by rfl, ?_⟩) (by assumption) ?_
      (rotate_left; focus (intro wx hSw; (try dsimp only at hSw); go_simp; try with_reducible rfl))
      (try simp only [Act.put, List.setIfInBounds_toArray, List.set_cons_zero, List.set_cons_succ])  -- 4 fieldAddr none
      refine wpAnyH_take (i := 5) (oi := { dst := some 30, op := Go.Op.load 4 (Go.Operand.tmp 29), type := 4, pos := "law.go:34", after := #[{ on := 4, ground := Go.Ground.data }], guard := none }) (v := ?_) rfl (by kernel_rfl) (by kernel_rfl) (by kernel_rfl) (fun _ _ _ h => h) (Or.inl ⟨by rfl, ?_⟩) (by assumption) ?_
      (rotate_left; focus (intro wx hSw; (try dsimp only at hSw); go_simp; try with_reducible rfl))
      (try simp only [Act.put, List.setIfInBounds_toArray, List.set_cons_zero, List.set_cons_succ])  -- 5 load none
      refine wpAnyH_take (i := 6) (oi := { dst := some 31, op := Go.Op.move (Go.Operand.tmp 0), type := 52, pos := "law.go:34", after := #[], guard := none }) (v := ?_) rfl (by kernel_rfl) (by kernel_rfl) (by kernel_rfl) (fun _ _ _ h => h) (Or.inl ⟨by rfl, ?_⟩) (by assumption) ?_
      (rotate_left; focus (intro wx hSw; (try dsimp only at hSw); go_simp; try with_reducible rfl))
      (try simp only [Act.put, List.setIfInBounds_toArray, List.set_cons_zero, List.set_cons_succ])  -- 6 move none
      refine wpAnyH_take (i := 7) (oi := { dst := some 32, op := Go.Op.move (Go.Operand.tmp 5), type := 3, pos := "law.go:34", after := #[], guard := none }) (v := ?_) rfl (by kernel_rfl) (by kernel_rfl) (by kernel_rfl) (fun _ _ _ h => h) (Or.inl ⟨by rfl, ?_⟩) (by assumption) ?_
      (rotate_left; focus (intro wx hSw; (try dsimp only at hSw); go_simp; try with_reducible rfl))
      (try simp only [Act.put, List.setIfInBounds_toArray, List.set_cons_zero, List.set_cons_succ])  -- 7 move none
      refine wpAnyH_take (i := 8) (oi := { dst := some 33, op := Go.Op.indexAddr 52 (Go.Operand.tmp 31) (Go.Operand.tmp 32), type := 0, pos := "law.go:34", after := #[{ on := 6, ground := Go.Ground.data }, { on := 7, ground := Go.Ground.data }], guard := none }) (v := ?_) rfl (by kernel_rfl) (by kernel_rfl) (by kernel_rfl) (fun _ _ _ h => h) (Or.inl ⟨by rfl, ?_⟩) (by assumption) ?_
      (rotate_left; focus (intro wx hSw; (try dsimp only at hSw); go_simp; try with_reducible rfl))
      (try simp only [Act.put, List.setIfInBounds_toArray, List.set_cons_zero, List.set_cons_succ])  -- 8 indexAddr none
      refine wpAnyH_take (i := 9) (oi := { dst := some 34, op := Go.Op.fieldAddr 60 (Go.Operand.tmp 33) 1, type := 0, pos := "law.go:34", after := #[{ on := 8, ground := Go.Ground.data }], guard := none }) (v := ?_) rfl (by kernel_rfl) (by kernel_rfl) (by kernel_rfl) (fun _ _ _ h => h) (Or.inl ⟨by rfl, ?_⟩) (by assumption) ?_
      (rotate_left; focus (intro wx hSw; (try dsimp only at hSw); go_simp; try with_reducible rfl))
      (try simp only [Act.put, List.setIfInBounds_toArray, List.set_cons_zero, List.set_cons_succ])  -- 9 fieldAddr none
      refine wpAnyH_take (i := 10) (oi := { dst := some 35, op := Go.Op.load 4 (Go.Operand.tmp 34), type := 4, pos := "law.go:34", after := #[{ on := 9, ground := Go.Ground.data }], guard := none }) (v := ?_) rfl (by kernel_rfl) (by kernel_rfl) (by kernel_rfl) (fun _ _ _ h => h) (Or.inl ⟨by rfl, ?_⟩) (by assumption) ?_
      (rotate_left; focus (intro wx hSw; (try dsimp only at hSw); go_simp; try with_reducible rfl))
      (try simp only [Act.put, List.setIfInBounds_toArray, List.set_cons_zero, List.set_cons_succ])  -- 10 load none
      refine wpAnyH_take (i := 11) (oi := { dst := some 36, op := Go.Op.move (Go.Operand.tmp 0), type := 52, pos := "law.go:34", after := #[], guard := none }) (v := ?_) rfl (by kernel_rfl) (by kernel_rfl) (by kernel_rfl) (fun _ _ _ h => h) (Or.inl ⟨by rfl, ?_⟩) (by assumption) ?_
      (rotate_left; focus (intro wx hSw; (try dsimp only at hSw); go_simp; try with_reducible rfl))
      (try simp only [Act.put, List.setIfInBounds_toArray, List.set_cons_zero, List.set_cons_succ])  -- 11 move none
      refine wpAnyH_take (i := 12) (oi := { dst := some 37, op := Go.Op.move (Go.Operand.tmp 5), type := 3, pos := "law.go:34", after := #[], guard := none }) (v := ?_) rfl (by kernel_rfl) (by kernel_rfl) (by kernel_rfl) (fun _ _ _ h => h) (Or.inl ⟨by rfl, ?_⟩) (by assumption) ?_
      (rotate_left; focus (intro wx hSw; (try dsimp only at hSw); go_simp; try with_reducible rfl))
      (try simp only [Act.put, List.setIfInBounds_toArray, List.set_cons_zero, List.set_cons_succ])  -- 12 move none
      refine wpAnyH_take (i := 13) (oi := { dst := some 38, op := Go.Op.indexAddr 52 (Go.Operand.tmp 36) (Go.Operand.tmp 37), type := 0, pos := "law.go:34", after := #[{ on := 11, ground := Go.Ground.data }, { on := 12, ground := Go.Ground.data }], guard := none }) (v := ?_) rfl (by kernel_rfl) (by kernel_rfl) (by kernel_rfl) (fun _ _ _ h => h) (Or.inl ⟨by rfl, ?_⟩) (by assumption) ?_
      (rotate_left; focus (intro wx hSw; (try dsimp only at hSw); go_simp; try with_reducible rfl))
      (try simp only [Act.put, List.setIfInBounds_toArray, List.set_cons_zero, List.set_cons_succ])  -- 13 indexAddr none
      refine wpAnyH_take (i := 14) (oi := { dst := some 39, op := Go.Op.fieldAddr 60 (Go.Operand.tmp 38) 2, type := 0, pos := "law.go:34", after := #[{ on := 13, ground := Go.Ground.data }], guard := none }) (v := ?_) rfl (by kernel_rfl) (by kernel_rfl) (by kernel_rfl) (fun _ _ _ h => h) (Or.inl ⟨by rfl, ?_⟩) (by assumption) ?_
      (rotate_left; focus (intro wx hSw; (try dsimp only at hSw); go_simp; try with_reducible rfl))
      (try simp only [Act.put, List.setIfInBounds_toArray, List.set_cons_zero, List.set_cons_succ])  -- 14 fieldAddr none
      refine wpAnyH_take (i := 15) (oi := { dst := some 40, op := Go.Op.load 22 (Go.Operand.tmp 39), type := 22, pos := "law.go:34", after := #[{ on := 14, ground := Go.Ground.data }], guard := none }) (v := ?_) rfl (by kernel_rfl) (by kernel_rfl) (by kernel_rfl) (fun _ _ _ h => h) (Or.inl ⟨by rfl, ?_⟩) (by assumption) ?_
      (rotate_left; focus (intro wx hSw; (try dsimp only at hSw); go_simp; try with_reducible rfl))
      (try simp only [Act.put, List.setIfInBounds_toArray, List.set_cons_zero, List.set_cons_succ])  -- 15 load none
      refine wpAnyH_take (i := 17) (oi := { dst := some 42, op := Go.Op.move (Go.Operand.tmp 4), type := 55, pos := "law.go:34", after := #[], guard := none }) (v := ?_) rfl (by kernel_rfl) (by kernel_rfl) (by kernel_rfl) (fun _ _ _ h => h) (Or.inl ⟨by rfl, ?_⟩) (by assumption) ?_
      (rotate_left; focus (intro wx hSw; (try dsimp only at hSw); go_simp; try with_reducible rfl))
      (try simp only [Act.put, List.setIfInBounds_toArray, List.set_cons_zero, List.set_cons_succ])  -- 17 move none
      refine wpAnyH_take (i := 18) (oi := { dst := some 43, op := Go.Op.move (Go.Operand.tmp 0), type := 52, pos := "law.go:34", after := #[], guard := none }) (v := ?_) rfl (by kernel_rfl) (by kernel_rfl) (by kernel_rfl) (fun _ _ _ h => h) (Or.inl ⟨by rfl, ?_⟩) (by assumption) ?_
      (rotate_left; focus (intro wx hSw; (try dsimp only at hSw); go_simp; try with_reducible rfl))
      (try simp only [Act.put, List.setIfInBounds_toArray, List.set_cons_zero, List.set_cons_succ])  -- 18 move none
      refine wpAnyH_take (i := 19) (oi := { dst := some 44, op := Go.Op.move (Go.Operand.tmp 5), type := 3, pos := "law.go:34", after := #[], guard := none }) (v := ?_) rfl (by kernel_rfl) (by kernel_rfl) (by kernel_rfl) (fun _ _ _ h => h) (Or.inl ⟨by rfl, ?_⟩) (by assumption) ?_
      (rotate_left; focus (intro wx hSw; (try dsimp only at hSw); go_simp; try with_reducible rfl))
      (try simp only [Act.put, List.setIfInBounds_toArray, List.set_cons_zero, List.set_cons_succ])  -- 19 move none
      refine wpAnyH_take (i := 20) (oi := { dst := some 45, op := Go.Op.indexAddr 52 (Go.Operand.tmp 43) (Go.Operand.tmp 44), type := 0, pos := "law.go:34", after := #[{ on := 18, ground := Go.Ground.data }, { on := 19, ground := Go.Ground.data }], guard := none }) (v := ?_) rfl (by kernel_rfl) (by kernel_rfl) (by kernel_rfl) (fun _ _ _ h => h) (Or.inl ⟨by rfl, ?_⟩) (by assumption) ?_
      (rotate_left; focus (intro wx hSw; (try dsimp only at hSw); go_simp; try with_reducible rfl))
      (try simp only [Act.put, List.setIfInBounds_toArray, List.set_cons_zero, List.set_cons_succ])  -- 20 indexAddr none
      refine wpAnyH_take (i := 21) (oi := { dst := some 46, op := Go.Op.fieldAddr 60 (Go.Operand.tmp 45) 0, type := 0, pos := "law.go:34", after := #[{ on := 20, ground := Go.Ground.data }], guard := none }) (v := ?_) rfl (by kernel_rfl) (by kernel_rfl) (by kernel_rfl) (fun _ _ _ h => h) (Or.inl ⟨by rfl, ?_⟩) (by assumption) ?_
      (rotate_left; focus (intro wx hSw; (try dsimp only at hSw); go_simp; try with_reducible rfl))
      (try simp only [Act.put, List.setIfInBounds_toArray, List.set_cons_zero, List.set_cons_succ])  -- 21 fieldAddr none
      refine wpAnyH_take (i := 22) (oi := { dst := some 47, op := Go.Op.load 4 (Go.Operand.tmp 46), type := 4, pos := "law.go:34", after := #[{ on := 21, ground := Go.Ground.data }], guard := none }) (v := ?_) rfl (by kernel_rfl) (by kernel_rfl) (by kernel_rfl) (fun _ _ _ h => h) (Or.inl ⟨by rfl, ?_⟩) (by assumption) ?_
      (rotate_left; focus (intro wx hSw; (try dsimp only at hSw); go_simp; try with_reducible rfl))
      (try simp only [Act.put, List.setIfInBounds_toArray, List.set_cons_zero, List.set_cons_succ])  -- 22 load none
      refine wpAnyH_take (i := 23) (oi := { dst := some 48, op := Go.Op.move (Go.Operand.tmp 0), type := 52, pos := "law.go:34", after := #[], guard := none }) (v := ?_) rfl (by kernel_rfl) (by kernel_rfl) (by kernel_rfl) (fun _ _ _ h => h) (Or.inl ⟨by rfl, ?_⟩) (by assumption) ?_
      (rotate_left; focus (intro wx hSw; (try dsimp only at hSw); go_simp; try with_reducible rfl))
      (try simp only [Act.put, List.setIfInBounds_toArray, List.set_cons_zero, List.set_cons_succ])  -- 23 move none
      refine wpAnyH_take (i := 24) (oi := { dst := some 49, op := Go.Op.move (Go.Operand.tmp 5), type := 3, pos := "law.go:34", after := #[], guard := none }) (v := ?_) rfl (by kernel_rfl) (by kernel_rfl) (by kernel_rfl) (fun _ _ _ h => h) (Or.inl ⟨by rfl, ?_⟩) (by assumption) ?_
      (rotate_left; focus (intro wx hSw; (try dsimp only at hSw); go_simp; try with_reducible rfl))
      (try simp only [Act.put, List.setIfInBounds_toArray, List.set_cons_zero, List.set_cons_succ])  -- 24 move none
      refine wpAnyH_take (i := 25) (oi := { dst := some 50, op := Go.Op.indexAddr 52 (Go.Operand.tmp 48) (Go.Operand.tmp 49), type := 0, pos := "law.go:34", after := #[{ on := 23, ground := Go.Ground.data }, { on := 24, ground := Go.Ground.data }], guard := none }) (v := ?_) rfl (by kernel_rfl) (by kernel_rfl) (by kernel_rfl) (fun _ _ _ h => h) (Or.inl ⟨by rfl, ?_⟩) (by assumption) ?_
      (rotate_left; focus (intro wx hSw; (try dsimp only at hSw); go_simp; try with_reducible rfl))
      (try simp only [Act.put, List.setIfInBounds_toArray, List.set_cons_zero, List.set_cons_succ])  -- 25 indexAddr none
      refine wpAnyH_take (i := 26) (oi := { dst := some 51, op := Go.Op.fieldAddr 60 (Go.Operand.tmp 50) 1, type := 0, pos := "law.go:34", after := #[{ on := 25, ground := Go.Ground.data }], guard := none }) (v := ?_) rfl (by kernel_rfl) (by kernel_rfl) (by kernel_rfl) (fun _ _ _ h => h) (Or.inl ⟨by rfl, ?_⟩) (by assumption) ?_
      (rotate_left; focus (intro wx hSw; (try dsimp only at hSw); go_simp; try with_reducible rfl))
      (try simp only [Act.put, List.setIfInBounds_toArray, List.set_cons_zero, List.set_cons_succ])  -- 26 fieldAddr none
      refine wpAnyH_take (i := 27) (oi := { dst := some 52, op := Go.Op.load 4 (Go.Operand.tmp 51), type := 4, pos := "law.go:34", after := #[{ on := 26, ground := Go.Ground.data }], guard := none }) (v := ?_) rfl (by kernel_rfl) (by kernel_rfl) (by kernel_rfl) (fun _ _ _ h => h) (Or.inl ⟨by rfl, ?_⟩) (by assumption) ?_
      (rotate_left; focus (intro wx hSw; (try dsimp only at hSw); go_simp; try with_reducible rfl))
      (try simp only [Act.put, List.setIfInBounds_toArray, List.set_cons_zero, List.set_cons_succ])  -- 27 load none
      refine wpAnyH_take (i := 28) (oi := { dst := some 53, op := Go.Op.move (Go.Operand.tmp 0), type := 52, pos := "law.go:34", after := #[], guard := none }) (v := ?_) rfl (by kernel_rfl) (by kernel_rfl) (by kernel_rfl) (fun _ _ _ h => h) (Or.inl ⟨by rfl, ?_⟩) (by assumption) ?_
      (rotate_left; focus (intro wx hSw; (try dsimp only at hSw); go_simp; try with_reducible rfl))
      (try simp only [Act.put, List.setIfInBounds_toArray, List.set_cons_zero, List.set_cons_succ])  -- 28 move none
      refine wpAnyH_take (i := 29) (oi := { dst := some 54, op := Go.Op.move (Go.Operand.tmp 5), type := 3, pos := "law.go:34", after := #[], guard := none }) (v := ?_) rfl (by kernel_rfl) (by kernel_rfl) (by kernel_rfl) (fun _ _ _ h => h) (Or.inl ⟨by rfl, ?_⟩) (by assumption) ?_
      (rotate_left; focus (intro wx hSw; (try dsimp only at hSw); go_simp; try with_reducible rfl))
      (try simp only [Act.put, List.setIfInBounds_toArray, List.set_cons_zero, List.set_cons_succ])  -- 29 move none
      refine wpAnyH_take (i := 30) (oi := { dst := some 55, op := Go.Op.indexAddr 52 (Go.Operand.tmp 53) (Go.Operand.tmp 54), type := 0, pos := "law.go:34", after := #[{ on := 28, ground := Go.Ground.data }, { on := 29, ground := Go.Ground.data }], guard := none }) (v := ?_) rfl (by kernel_rfl) (by kernel_rfl) (by kernel_rfl) (fun _ _ _ h => h) (Or.inl ⟨by rfl, ?_⟩) (by assumption) ?_
      (rotate_left; focus (intro wx hSw; (try dsimp only at hSw); go_simp; try with_reducible rfl))
      (try simp only [Act.put, List.setIfInBounds_toArray, List.set_cons_zero, List.set_cons_succ])  -- 30 indexAddr none
      refine wpAnyH_take (i := 31) (oi := { dst := some 56, op := Go.Op.fieldAddr 60 (Go.Operand.tmp 55) 2, type := 0, pos := "law.go:34", after := #[{ on := 30, ground := Go.Ground.data }], guard := none }) (v := ?_) rfl (by kernel_rfl) (by kernel_rfl) (by kernel_rfl) (fun _ _ _ h => h) (Or.inl ⟨by rfl, ?_⟩) (by assumption) ?_
      (rotate_left; focus (intro wx hSw; (try dsimp only at hSw); go_simp; try with_reducible rfl))
      (try simp only [Act.put, List.setIfInBounds_toArray, List.set_cons_zero, List.set_cons_succ])  -- 31 fieldAddr none
      refine wpAnyH_take (i := 32) (oi := { dst := some 57, op := Go.Op.load 22 (Go.Operand.tmp 56), type := 22, pos := "law.go:34", after := #[{ on := 31, ground := Go.Ground.data }], guard := none }) (v := ?_) rfl (by kernel_rfl) (by kernel_rfl) (by kernel_rfl) (fun _ _ _ h => h) (Or.inl ⟨by rfl, ?_⟩) (by assumption) ?_
      (rotate_left; focus (intro wx hSw; (try dsimp only at hSw); go_simp; try with_reducible rfl))
      (try simp only [Act.put, List.setIfInBounds_toArray, List.set_cons_zero, List.set_cons_succ])  -- 32 load none
      refine wpAnyH_ready (rs := [16]) (by kernel_rfl) (by simp) ?_
      refine AllReadyH.cons (o := { dst := some 41, op := Go.Op.call { callee := Go.Callee.value (Go.Operand.func 35), args := #[Go.Operand.tmp 25, Go.Operand.tmp 30, Go.Operand.tmp 35, Go.Operand.tmp 40], argTypes := #[53, 4, 4, 22] }, type := 4, pos := "law.go:34", after := #[{ on := 0, ground := Go.Ground.data }, { on := 5, ground := Go.Ground.data }, { on := 10, ground := Go.Ground.data }, { on := 15, ground := Go.Ground.data }], guard := none }) rfl (fun K hK => ?_) AllReadyH.nil
      go_simp
      refine (CU.out _ HO.out.drew HP.out.drew).mono ?_; rintro e w5 ⟨rfl, o5, p5⟩
      refine hK.out _ _ ?_ (fun hHeld => ?_)
      focus exact ⟨(o5.2.1.cell (p := ⟨b, off + k * 3, none⟩) hb).trans CC.out.1, (o5.2.1.cell (p := ⟨b, off + k * 3 + 1, none⟩) hb).trans CC.out.2.1, (o5.2.1.cell (p := ⟨b, off + k * 3 + 2, none⟩) hb).trans CC.out.2.2⟩
      clear hK K
      (try simp only [Act.put, List.setIfInBounds_toArray, List.set_cons_zero, List.set_cons_succ])  -- 16 call none
      refine wpAnyH_ready (rs := [33]) (by kernel_rfl) (by simp) ?_
      refine AllReadyH.cons (o := { dst := some 58, op := Go.Op.call { callee := Go.Callee.value (Go.Operand.func 36), args := #[Go.Operand.tmp 42, Go.Operand.tmp 47, Go.Operand.tmp 52, Go.Operand.tmp 57], argTypes := #[55, 4, 4, 22] }, type := 4, pos := "law.go:34", after := #[{ on := 17, ground := Go.Ground.data }, { on := 22, ground := Go.Ground.data }, { on := 27, ground := Go.Ground.data }, { on := 32, ground := Go.Ground.data }, { on := 16, ground := Go.Ground.chain }], guard := none }) rfl (fun K hK => ?_) AllReadyH.nil
      go_simp
      refine (CR.out _ o5 p5).mono ?_; rintro e w6 ⟨rfl, o6, p6⟩
      refine hK.out _ _ ?_ (fun hHeld => ?_)
      focus exact ⟨(o6.2.1.cell (p := ⟨b, off + k * 3, none⟩) hb).trans CC.out.1, (o6.2.1.cell (p := ⟨b, off + k * 3 + 1, none⟩) hb).trans CC.out.2.1, (o6.2.1.cell (p := ⟨b, off + k * 3 + 2, none⟩) hb).trans CC.out.2.2⟩
      clear hK K
      (try simp only [Act.put, List.setIfInBounds_toArray, List.set_cons_zero, List.set_cons_succ])  -- 33 call none
      refine wpAnyH_weaken (S2 := fun wq => wq.cell? ⟨w.heap.size + 1, 2, none⟩ = some (.bool F) ∧ wq = w6) (fun wq h => by rw [h.2]; exact hHeld) _ _ _ _ ?_
      have hHeld2 : (fun wq : World => wq.cell? ⟨w.heap.size + 1, 2, none⟩ = some (.bool F) ∧ wq = w6) w6 := ⟨p6.1.cell 2, rfl⟩
      refine wpAnyH_take (i := 34) (oi := { dst := some 59, op := Go.Op.binOp Go.BinOp.neq 4 (Go.Operand.tmp 41) (Go.Operand.tmp 58) 4, type := 4, pos := "law.go:34", after := #[{ on := 16, ground := Go.Ground.data }, { on := 33, ground := Go.Ground.data }], guard := none }) (v := ?_) rfl (by kernel_rfl) (by kernel_rfl) (by kernel_rfl) (fun _ _ _ h => h) (Or.inl ⟨by rfl, ?_⟩) (by assumption) ?_
      (rotate_left; focus (intro wx hSw; (try dsimp only at hSw); go_simp; try with_reducible rfl))
      (try simp only [Act.put, List.setIfInBounds_toArray, List.set_cons_zero, List.set_cons_succ])  -- 34 binOp none
      refine wpAnyH_take (i := 35) (oi := { dst := some 60, op := Go.Op.move (Go.Operand.tmp 59), type := 4, pos := "law.go:34", after := #[{ on := 34, ground := Go.Ground.data }, { on := 33, ground := Go.Ground.chain }], guard := none }) (v := ?_) rfl (by kernel_rfl) (by kernel_rfl) (by kernel_rfl) (fun _ _ _ h => h) (Or.inl ⟨by rfl, ?_⟩) (by assumption) ?_
      (rotate_left; focus (intro wx hSw; (try dsimp only at hSw); go_simp; try with_reducible rfl))
      (try simp only [Act.put, List.setIfInBounds_toArray, List.set_cons_zero, List.set_cons_succ])  -- 35 move none
      refine wpAnyH_take (i := 36) (oi := { dst := some 61, op := Go.Op.move (Go.Operand.tmp 3), type := 53, pos := "law.go:34", after := #[{ on := 35, ground := Go.Ground.guard }], guard := some (35, false) }) (v := ?_) rfl (by kernel_rfl) (by kernel_rfl) (by kernel_rfl) (fun _ _ _ h => h) (Or.inl ⟨by rfl, ?_⟩) (by assumption) ?_
      (rotate_left; focus (intro wx hSw; (try dsimp only at hSw); go_simp; try with_reducible rfl))
      (try simp only [Act.put, List.setIfInBounds_toArray, List.set_cons_zero, List.set_cons_succ])  -- 36 move some (35, false)
      refine wpAnyH_take (i := 38) (oi := { dst := some 63, op := Go.Op.move (Go.Operand.tmp 4), type := 55, pos := "law.go:34", after := #[{ on := 35, ground := Go.Ground.guard }], guard := some (35, false) }) (v := ?_) rfl (by kernel_rfl) (by kernel_rfl) (by kernel_rfl) (fun _ _ _ h => h) (Or.inl ⟨by rfl, ?_⟩) (by assumption) ?_
      (rotate_left; focus (intro wx hSw; (try dsimp only at hSw); go_simp; try with_reducible rfl))
      (try simp only [Act.put, List.setIfInBounds_toArray, List.set_cons_zero, List.set_cons_succ])  -- 38 move some (35, false)
      refine wpAnyH_take (i := 39) (oi := { dst := some 64, op := Go.Op.nilCheck (Go.Operand.tmp 63), type := 0, pos := "law.go:34", after := #[{ on := 38, ground := Go.Ground.data }, { on := 35, ground := Go.Ground.guard }], guard := some (35, false) }) (v := ?_) rfl (by kernel_rfl) (by kernel_rfl) (by kernel_rfl) (fun _ _ _ h => h) (Or.inl ⟨by rfl, ?_⟩) (by assumption) ?_
      (rotate_left; focus (intro wx hSw; (try dsimp only at hSw); go_simp; try with_reducible rfl))
      (try simp only [Act.put, List.setIfInBounds_toArray, List.set_cons_zero, List.set_cons_succ])  -- 39 nilCheck some (35, false)
      refine wpAnyH_take (i := 40) (oi := { dst := some 65, op := Go.Op.fieldAddr 57 (Go.Operand.tmp 64) 2, type := 0, pos := "law.go:34", after := #[{ on := 39, ground := Go.Ground.data }, { on := 35, ground := Go.Ground.guard }], guard := some (35, false) }) (v := ?_) rfl (by kernel_rfl) (by kernel_rfl) (by kernel_rfl) (fun _ _ _ h => h) (Or.inl ⟨by rfl, ?_⟩) (by assumption) ?_
      (rotate_left; focus (intro wx hSw; (try dsimp only at hSw); go_simp; try with_reducible rfl))
      (try simp only [Act.put, List.setIfInBounds_toArray, List.set_cons_zero, List.set_cons_succ])  -- 40 fieldAddr some (35, false)
      refine wpAnyH_take (i := 41) (oi := { dst := some 66, op := Go.Op.load 4 (Go.Operand.tmp 65), type := 4, pos := "law.go:34", after := #[{ on := 40, ground := Go.Ground.data }, { on := 35, ground := Go.Ground.guard }], guard := some (35, false) }) (v := ?_) rfl (by kernel_rfl) (by kernel_rfl) (by kernel_rfl) (fun _ _ _ h => h) (Or.inl ⟨by rfl, ?_⟩) (by assumption) ?_
      (rotate_left; focus (intro wx hSw; (try dsimp only at hSw); go_simp; try with_reducible rfl))
      (try simp only [Act.put, List.setIfInBounds_toArray, List.set_cons_zero, List.set_cons_succ])  -- 41 load some (35, false)
      refine wpAnyH_ready (rs := [37]) (by kernel_rfl) (by simp) ?_
      refine AllReadyH.cons (o := { dst := some 62, op := Go.Op.call { callee := Go.Callee.value (Go.Operand.func 37), args := #[Go.Operand.tmp 61], argTypes := #[53] }, type := 4, pos := "law.go:34", after := #[{ on := 36, ground := Go.Ground.data }, { on := 35, ground := Go.Ground.chain }, { on := 35, ground := Go.Ground.guard }], guard := some (35, false) }) rfl (fun K hK => ?_) AllReadyH.nil
      go_simp
      refine (full3 _ B n F _ o6.1).mono ?_; rintro e w7 ⟨rfl, rfl⟩
      refine hK.out _ _ ?_ (fun hHeld => ?_)
      focus assumption
      clear hK K
      (try simp only [Act.put, List.setIfInBounds_toArray, List.set_cons_zero, List.set_cons_succ])  -- 37 call some (35, false)
      refine wpAnyH_take (i := 42) (oi := { dst := some 67, op := Go.Op.binOp Go.BinOp.neq 4 (Go.Operand.tmp 62) (Go.Operand.tmp 66) 4, type := 4, pos := "law.go:34", after := #[{ on := 37, ground := Go.Ground.data }, { on := 41, ground := Go.Ground.data }, { on := 35, ground := Go.Ground.guard }], guard := some (35, false) }) (v := ?_) rfl (by kernel_rfl) (by kernel_rfl) (by kernel_rfl) (fun _ _ _ h => h) (Or.inl ⟨by rfl, ?_⟩) (by assumption) ?_
      (rotate_left; focus (intro wx hSw; (try dsimp only at hSw); go_simp; try with_reducible rfl))
      (try simp only [Act.put, List.setIfInBounds_toArray, List.set_cons_zero, List.set_cons_succ])  -- 42 binOp some (35, false)
      refine wpAnyH_take (i := 43) (oi := { dst := some 68, op := Go.Op.pick (Go.Operand.tmp 60) (Go.Operand.const (Go.Value.bool true)) (Go.Operand.tmp 67), type := 4, pos := "law.go:34", after := #[{ on := 35, ground := Go.Ground.data }, { on := 42, ground := Go.Ground.data }], guard := none }) (v := ?_) rfl (by kernel_rfl) (by kernel_rfl) (by kernel_rfl) (fun _ _ _ h => h) (Or.inl ⟨by rfl, ?_⟩) (by assumption) ?_
      (rotate_left; focus (intro wx hSw; (try dsimp only at hSw); go_simp; try with_reducible rfl))
      (try simp only [Act.put, List.setIfInBounds_toArray, List.set_cons_zero, List.set_cons_succ])  -- 43 pick none
      refine wpAnyH_done (by kernel_rfl) ?_ _
      go_wp2
      go_roundw
      case rel => exact ⟨k + 1, ⟨B, n, F⟩, by omega, by omega, HU.out, by simp, o6, p6⟩
      case measure => simp [intOf]; omega
    · have hx : decide (k < len) = false ∨ k < len ∧ 100 ≤ k := by simp; omega
      clear hlt
      rcases hx with hx | ⟨hx1, hx⟩
      all_goals
        go_wp2
        go_ret
        exact ⟨rfl, HO.out.2.1⟩
end Go.Proofs.Ytgdbmjokpbjoaaa
