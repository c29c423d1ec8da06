/- The walk of PipeStays. -/
import Derived.Test.YtgdbmjokpbjoaaaLaw13b
namespace Go.Proofs.Ytgdbmjokpbjoaaa
open Go.RowKit Go.Lib
set_option linter.unusedVariables false

def StayRel (w0 : World) (b len : Nat) (v9 v10 : Value) (wr : World) : Prop :=
  ∃ (k : Nat) (s : QS), k ≤ len ∧ k ≤ 60 ∧ s.ok ∧ v9 = .bool s.full ∧ v10 = .int .i64 k ∧ Own w0 wr b 72 (ppp s) ∧ Own w0 wr (b + 1) 72 (ppp s)
def GrowRel (w0 : World) (b n : Nat) (v13 v14 : Value) (wr : World) : Prop :=
  ∃ (j V B : Nat), j ≤ n ∧ 4 ≤ V ∧ V ≤ 1004 * 2 ^ j ∧ B ≤ V ∧ grow B ≤ V ∧ v13 = .int .u64 V ∧ v14 = .int .i64 j ∧ Own w0 wr b 72 (ppp ⟨B, 0, false⟩)
theorem pow_small2 {k V : Nat} (hk : k ≤ 40) (h : V ≤ 1004 * 2 ^ k) : V < 2000000000000000 := by
  have : 2 ^ k ≤ 2 ^ 40 := Nat.pow_le_pow_right (by omega) hk
  have : (2 : Nat) ^ 40 = 1099511627776 := by decide
  omega
theorem grow_up {B V : Nat} (h : grow B ≤ V) (x : Bool) : pupF ⟨B, 0, false⟩ true false V = ⟨V, 0, false⟩ := by
  unfold pupF
  rw [if_neg (by simp), if_pos h]
theorem pup_skip {s : QS} {a b : Bool} (h : a = false ∨ b = true) (v : Nat) : pupF s a b v = s := by
  unfold pupF
  rw [if_pos (by rcases h with rfl | rfl <;> simp)]

set_option maxRecDepth 8000 in
set_option maxHeartbeats 8000000 in
theorem stays_core (a : Option Addr) (len cap : Nat) (f : Nat → PipeOp) (v0 v1 m nn : Nat) (n0 : Int) (hv : 4 + (v0 : Int) % 1000 = v1) (lv : 4 ≤ v1) (lv' : v1 ≤ 1003) (em : IntKind.u64.wrap n0 = m) (en : (m : Int) % 40 = nn) (ln : nn < 40) (w : World) (hrow : PipeRow w a len f) :
    Calls Try.prog 12 #[.slice a len cap, .int .u64 v0, .int .i64 n0] w fun e w' => e = .returned (.bool true) ∧ Below w.heap.size w w' := by
  obtain ⟨hlen, hwf, hrow⟩ := hrow
  have HW := Lib.hid hwf
  have HR := Lib.hid hrow
  have HV := Lib.hid hv
  have EM := Lib.hid em
  have EN := Lib.hid en
  clear hwf hrow hv em en
  go_enter Try.func12, Try.ntmps12
  go_wp2_with fail
  refine (ppnew_any _).mono ?_; rintro e w1 ⟨rfl, hw1⟩
  go_wp2_with fail
  refine (ppnew_any _).mono ?_; rintro e w1' ⟨rfl, hw1'⟩
  have e1 : w1.heap.size = w.heap.size + 1 := by rw [hw1]; simp
  have O1 : Hid (Own w w1' w.heap.size 72 (ppp ⟨0, 0, false⟩)) := by (first | rw [hw1', hw1] | rw [hw1']); exact Lib.hid ((Own.made (Below.refl _ _) _ _).alloc _)
  have O2 : Hid (Own w w1' (w.heap.size + 1) 72 (ppp ⟨0, 0, false⟩)) := by
    have := Own.made (w0 := w) ((Below.refl w.heap.size w).alloc (Nat.le_refl _) (.cells (ppp ⟨0, 0, false⟩) 72)) 72 (ppp ⟨0, 0, false⟩)
    (first | rw [hw1', hw1] | rw [hw1'])
    exact Lib.hid (by simpa using this)
  clear hw1 hw1'
  go_wp2_with fail
  refine (awake13 _).mono ?_; rintro e w2 ⟨rfl, b2⟩
  have P1 := Lib.hid (O1.out.below b2)
  have P2 := Lib.hid (O2.out.below b2)
  clear b2
  go_wp2_with fail
  go_loopw [9, 10] (fun v9 v10 wr => StayRel w w.heap.size len v9 v10 wr) (fun _ v10 _ => 60 - (intOf v10).toNat)
  case atStart => exact ⟨0, ⟨0, 0, false⟩, by omega, by omega, by simp [QS.ok], rfl, rfl, P1.out, P2.out⟩
  case round =>
    obtain ⟨k, s, hk1, hk2, hok, rfl, rfl, hO, hP⟩ := hrel
    have HO := Lib.hid hO
    have HP := Lib.hid hP
    have HK := Lib.hid hok
    clear hO hP hok
    by_cases hlt : k < len ∧ k < 60
    · obtain ⟨lt1, lt2⟩ := hlt
      obtain ⟨b, off, rfl, hb, hc⟩ := HR.out (by omega)
      obtain ⟨c0, c1, c2⟩ := hc k lt1
      have d0 := (HO.out.2.1.cell (p := ⟨b, off + k * 3, none⟩) hb).trans c0
      have d1 := (HO.out.2.1.cell (p := ⟨b, off + k * 3 + 1, none⟩) hb).trans c1
      have d2 := (HO.out.2.1.cell (p := ⟨b, off + k * 3 + 2, none⟩) hb).trans c2
      have hw := HW.out k lt1
      generalize f k = o at *
      obtain ⟨start, limited, bw⟩ := o
      simp only at d0 d1 d2 hw c0 c1 c2
      have CC := Lib.hid (And.intro c0 (And.intro c1 c2))
      clear hc c0 c1 c2
      have hst : (start = true ∧ limited = false) ∨ (start = false ∨ start = true ∧ limited = true) := by cases start <;> cases limited <;> simp
      have HU := Lib.hid (pupF_ok HK.out (start := start) (limited := limited) hw)
      have hF : s.full = true → (pupF s start limited bw).full = true := fun h => by rw [count_full h]; exact h
      have cu : ∀ wq, Own w wq w.heap.size 72 (ppp s) → Own w wq (w.heap.size + 1) 72 (ppp s) → Calls Try.prog 35 #[.pointer (some ⟨w.heap.size, 0, none⟩), .bool start, .bool limited, .int .u64 bw] wq
          fun e w' => e = .returned (.bool (pupF s start limited bw).full) ∧ Own w w' w.heap.size 72 (ppp (pupF s start limited bw)) ∧ Own w w' (w.heap.size + 1) 72 (ppp s) :=
        fun wq h h2 => (pup_any w.heap.size s start limited bw HK.out wq h.1).mono fun e w' ⟨q1, q2⟩ => ⟨q1, h.put q2, h2.other q2 (by omega) (by omega)⟩
      have cr : ∀ wq, Own w wq w.heap.size 72 (ppp (pupF s start limited bw)) → Own w wq (w.heap.size + 1) 72 (ppp s) → Calls Try.prog 35 #[.pointer (some ⟨w.heap.size + 1, 0, none⟩), .bool start, .bool limited, .int .u64 bw] wq
          fun e w' => e = .returned (.bool (pupF s start limited bw).full) ∧ Own w w' w.heap.size 72 (ppp (pupF s start limited bw)) ∧ Own w w' (w.heap.size + 1) 72 (ppp (pupF s start limited bw)) :=
        fun wq h h2 => (pup_any (w.heap.size + 1) s start limited bw HK.out wq h2.1).mono fun e w' ⟨q1, q2⟩ => ⟨q1, h.other q2 (by omega) (by omega), h2.put q2⟩
      rcases hst with ⟨rfl, rfl⟩ | hst
      · generalize pupF s true false bw = s2 at *
        obtain ⟨B, n, F⟩ := s2
        obtain ⟨B0, n0', F0⟩ := s
        simp only at hF
        have CU := Lib.hid cu
        have CR := Lib.hid cr
        clear hw cu cr
        have hFF : (F0 = false ∧ F = false) ∨ (F0 = false ∧ F = true) ∨ (F0 = true ∧ F = true) := by cases F0 <;> cases F <;> simp_all
        clear hF
        rcases hFF with ⟨rfl, rfl⟩ | ⟨rfl, rfl⟩ | ⟨rfl, rfl⟩
        all_goals
          go_wp2_with fail
          refine wp_region_held_drew (S := fun wq => wq.cell? ⟨b, off + k * 3, none⟩ = some (.bool true) ∧ wq.cell? ⟨b, off + k * 3 + 1, none⟩ = some (.bool false) ∧ wq.cell? ⟨b, off + k * 3 + 2, none⟩ = some (.int .u64 bw)) (by kernel_rfl) ⟨d0, d1, d2⟩ (fun hHeld => ?_)
          refine wpAnyH_take (i := 0) (oi := { dst := some 38, op := Go.Op.move (Go.Operand.tmp 7), type := 53, pos := "law.go:49", after := #[], guard := none }) (v := ?_) rfl (by kernel_rfl) (by kernel_rfl) (by kernel_rfl) (fun _ _ _ h => h) (Or.inl ⟨by rfl, ?_⟩) (by assumption) ?_
          (rotate_left; focus (intro wx hSw; (try dsimp only at hSw); go_simp; try with_reducible rfl))
          (try simp only [Act.put, List.setIfInBounds_toArray, List.set_cons_zero, List.set_cons_succ])  -- 0 move none
          refine wpAnyH_take (i := 1) (oi := { dst := some 39, op := Go.Op.move (Go.Operand.tmp 0), type := 52, pos := "law.go:49", after := #[], guard := none }) (v := ?_) rfl (by kernel_rfl) (by kernel_rfl) (by kernel_rfl) (fun _ _ _ h => h) (Or.inl ⟨by rfl, ?_⟩) (by assumption) ?_
          (rotate_left; focus (intro wx hSw; (try dsimp only at hSw); go_simp; try with_reducible rfl))
          (try simp only [Act.put, List.setIfInBounds_toArray, List.set_cons_zero, List.set_cons_succ])  -- 1 move none
          refine wpAnyH_take (i := 2) (oi := { dst := some 40, op := Go.Op.move (Go.Operand.tmp 10), type := 3, pos := "law.go:49", after := #[], guard := none }) (v := ?_) rfl (by kernel_rfl) (by kernel_rfl) (by kernel_rfl) (fun _ _ _ h => h) (Or.inl ⟨by rfl, ?_⟩) (by assumption) ?_
          (rotate_left; focus (intro wx hSw; (try dsimp only at hSw); go_simp; try with_reducible rfl))
          (try simp only [Act.put, List.setIfInBounds_toArray, List.set_cons_zero, List.set_cons_succ])  -- 2 move none
          refine wpAnyH_take (i := 3) (oi := { dst := some 41, op := Go.Op.indexAddr 52 (Go.Operand.tmp 39) (Go.Operand.tmp 40), type := 0, pos := "law.go:49", after := #[{ on := 1, ground := Go.Ground.data }, { on := 2, ground := Go.Ground.data }], guard := none }) (v := ?_) rfl (by kernel_rfl) (by kernel_rfl) (by kernel_rfl) (fun _ _ _ h => h) (Or.inl ⟨by rfl, ?_⟩) (by assumption) ?_
          (rotate_left; focus (intro wx hSw; (try dsimp only at hSw); go_simp; try with_reducible rfl))
          (try simp only [Act.put, List.setIfInBounds_toArray, List.set_cons_zero, List.set_cons_succ])  -- 3 indexAddr none
          refine wpAnyH_take (i := 4) (oi := { dst := some 42, op := Go.Op.fieldAddr 60 (Go.Operand.tmp 41) 0, type := 0, pos := "law.go:49", after := #[{ on := 3, ground := Go.Ground.data }], guard := none }) (v := ?_) rfl (by kernel_rfl) (by kernel_rfl) (by kernel_rfl) (fun _ _ _ h => h) (Or.inl ⟨by rfl, ?_⟩) (by assumption) ?_
          (rotate_left; focus (intro wx hSw; (try dsimp only at hSw); go_simp; try with_reducible rfl))
          (try simp only [Act.put, List.setIfInBounds_toArray, List.set_cons_zero, List.set_cons_succ])  -- 4 fieldAddr none
          refine wpAnyH_take (i := 5) (oi := { dst := some 43, op := Go.Op.load 4 (Go.Operand.tmp 42), type := 4, pos := "law.go:49", after := #[{ on := 4, ground := Go.Ground.data }], guard := none }) (v := ?_) rfl (by kernel_rfl) (by kernel_rfl) (by kernel_rfl) (fun _ _ _ h => h) (Or.inl ⟨by rfl, ?_⟩) (by assumption) ?_
          (rotate_left; focus (intro wx hSw; (try dsimp only at hSw); go_simp; try with_reducible rfl))
          (try simp only [Act.put, List.setIfInBounds_toArray, List.set_cons_zero, List.set_cons_succ])  -- 5 load none
          refine wpAnyH_take (i := 6) (oi := { dst := some 44, op := Go.Op.move (Go.Operand.tmp 0), type := 52, pos := "law.go:49", after := #[], guard := none }) (v := ?_) rfl (by kernel_rfl) (by kernel_rfl) (by kernel_rfl) (fun _ _ _ h => h) (Or.inl ⟨by rfl, ?_⟩) (by assumption) ?_
          (rotate_left; focus (intro wx hSw; (try dsimp only at hSw); go_simp; try with_reducible rfl))
          (try simp only [Act.put, List.setIfInBounds_toArray, List.set_cons_zero, List.set_cons_succ])  -- 6 move none
          refine wpAnyH_take (i := 7) (oi := { dst := some 45, op := Go.Op.move (Go.Operand.tmp 10), type := 3, pos := "law.go:49", after := #[], guard := none }) (v := ?_) rfl (by kernel_rfl) (by kernel_rfl) (by kernel_rfl) (fun _ _ _ h => h) (Or.inl ⟨by rfl, ?_⟩) (by assumption) ?_
          (rotate_left; focus (intro wx hSw; (try dsimp only at hSw); go_simp; try with_reducible rfl))
          (try simp only [Act.put, List.setIfInBounds_toArray, List.set_cons_zero, List.set_cons_succ])  -- 7 move none
          refine wpAnyH_take (i := 8) (oi := { dst := some 46, op := Go.Op.indexAddr 52 (Go.Operand.tmp 44) (Go.Operand.tmp 45), type := 0, pos := "law.go:49", after := #[{ on := 6, ground := Go.Ground.data }, { on := 7, ground := Go.Ground.data }], guard := none }) (v := ?_) rfl (by kernel_rfl) (by kernel_rfl) (by kernel_rfl) (fun _ _ _ h => h) (Or.inl ⟨by rfl, ?_⟩) (by assumption) ?_
          (rotate_left; focus (intro wx hSw; (try dsimp only at hSw); go_simp; try with_reducible rfl))
          (try simp only [Act.put, List.setIfInBounds_toArray, List.set_cons_zero, List.set_cons_succ])  -- 8 indexAddr none
          refine wpAnyH_take (i := 9) (oi := { dst := some 47, op := Go.Op.fieldAddr 60 (Go.Operand.tmp 46) 1, type := 0, pos := "law.go:49", after := #[{ on := 8, ground := Go.Ground.data }], guard := none }) (v := ?_) rfl (by kernel_rfl) (by kernel_rfl) (by kernel_rfl) (fun _ _ _ h => h) (Or.inl ⟨by rfl, ?_⟩) (by assumption) ?_
          (rotate_left; focus (intro wx hSw; (try dsimp only at hSw); go_simp; try with_reducible rfl))
          (try simp only [Act.put, List.setIfInBounds_toArray, List.set_cons_zero, List.set_cons_succ])  -- 9 fieldAddr none
          refine wpAnyH_take (i := 10) (oi := { dst := some 48, op := Go.Op.load 4 (Go.Operand.tmp 47), type := 4, pos := "law.go:49", after := #[{ on := 9, ground := Go.Ground.data }], guard := none }) (v := ?_) rfl (by kernel_rfl) (by kernel_rfl) (by kernel_rfl) (fun _ _ _ h => h) (Or.inl ⟨by rfl, ?_⟩) (by assumption) ?_
          (rotate_left; focus (intro wx hSw; (try dsimp only at hSw); go_simp; try with_reducible rfl))
          (try simp only [Act.put, List.setIfInBounds_toArray, List.set_cons_zero, List.set_cons_succ])  -- 10 load none
          refine wpAnyH_take (i := 11) (oi := { dst := some 49, op := Go.Op.move (Go.Operand.tmp 0), type := 52, pos := "law.go:49", after := #[], guard := none }) (v := ?_) rfl (by kernel_rfl) (by kernel_rfl) (by kernel_rfl) (fun _ _ _ h => h) (Or.inl ⟨by rfl, ?_⟩) (by assumption) ?_
          (rotate_left; focus (intro wx hSw; (try dsimp only at hSw); go_simp; try with_reducible rfl))
          (try simp only [Act.put, List.setIfInBounds_toArray, List.set_cons_zero, List.set_cons_succ])  -- 11 move none
          refine wpAnyH_take (i := 12) (oi := { dst := some 50, op := Go.Op.move (Go.Operand.tmp 10), type := 3, pos := "law.go:49", after := #[], guard := none }) (v := ?_) rfl (by kernel_rfl) (by kernel_rfl) (by kernel_rfl) (fun _ _ _ h => h) (Or.inl ⟨by rfl, ?_⟩) (by assumption) ?_
          (rotate_left; focus (intro wx hSw; (try dsimp only at hSw); go_simp; try with_reducible rfl))
          (try simp only [Act.put, List.setIfInBounds_toArray, List.set_cons_zero, List.set_cons_succ])  -- 12 move none
          refine wpAnyH_take (i := 13) (oi := { dst := some 51, op := Go.Op.indexAddr 52 (Go.Operand.tmp 49) (Go.Operand.tmp 50), type := 0, pos := "law.go:49", after := #[{ on := 11, ground := Go.Ground.data }, { on := 12, ground := Go.Ground.data }], guard := none }) (v := ?_) rfl (by kernel_rfl) (by kernel_rfl) (by kernel_rfl) (fun _ _ _ h => h) (Or.inl ⟨by rfl, ?_⟩) (by assumption) ?_
          (rotate_left; focus (intro wx hSw; (try dsimp only at hSw); go_simp; try with_reducible rfl))
          (try simp only [Act.put, List.setIfInBounds_toArray, List.set_cons_zero, List.set_cons_succ])  -- 13 indexAddr none
          refine wpAnyH_take (i := 14) (oi := { dst := some 52, op := Go.Op.fieldAddr 60 (Go.Operand.tmp 51) 2, type := 0, pos := "law.go:49", after := #[{ on := 13, ground := Go.Ground.data }], guard := none }) (v := ?_) rfl (by kernel_rfl) (by kernel_rfl) (by kernel_rfl) (fun _ _ _ h => h) (Or.inl ⟨by rfl, ?_⟩) (by assumption) ?_
          (rotate_left; focus (intro wx hSw; (try dsimp only at hSw); go_simp; try with_reducible rfl))
          (try simp only [Act.put, List.setIfInBounds_toArray, List.set_cons_zero, List.set_cons_succ])  -- 14 fieldAddr none
          refine wpAnyH_take (i := 15) (oi := { dst := some 53, op := Go.Op.load 22 (Go.Operand.tmp 52), type := 22, pos := "law.go:49", after := #[{ on := 14, ground := Go.Ground.data }], guard := none }) (v := ?_) rfl (by kernel_rfl) (by kernel_rfl) (by kernel_rfl) (fun _ _ _ h => h) (Or.inl ⟨by rfl, ?_⟩) (by assumption) ?_
          (rotate_left; focus (intro wx hSw; (try dsimp only at hSw); go_simp; try with_reducible rfl))
          (try simp only [Act.put, List.setIfInBounds_toArray, List.set_cons_zero, List.set_cons_succ])  -- 15 load none
          refine wpAnyH_ready (rs := [16]) (by kernel_rfl) (by simp) ?_
          refine AllReadyH.cons (o := { dst := some 54, op := Go.Op.call { callee := Go.Callee.value (Go.Operand.func 35), args := #[Go.Operand.tmp 38, Go.Operand.tmp 43, Go.Operand.tmp 48, Go.Operand.tmp 53], argTypes := #[53, 4, 4, 22] }, type := 4, pos := "law.go:49", after := #[{ on := 0, ground := Go.Ground.data }, { on := 5, ground := Go.Ground.data }, { on := 10, ground := Go.Ground.data }, { on := 15, ground := Go.Ground.data }], guard := none }) rfl (fun K hK => ?_) AllReadyH.nil
          go_simp
          refine (CU.out _ HO.out.drew HP.out.drew).mono ?_; rintro e w5 ⟨rfl, o5, p5⟩
          refine hK.out _ _ ?_ (fun hHeld => ?_)
          focus exact ⟨(o5.2.1.cell (p := ⟨b, off + k * 3, none⟩) hb).trans CC.out.1, (o5.2.1.cell (p := ⟨b, off + k * 3 + 1, none⟩) hb).trans CC.out.2.1, (o5.2.1.cell (p := ⟨b, off + k * 3 + 2, none⟩) hb).trans CC.out.2.2⟩
          clear hK K
          (try simp only [Act.put, List.setIfInBounds_toArray, List.set_cons_zero, List.set_cons_succ])  -- 16 call none
          refine wpAnyH_take (i := 17) (oi := { dst := some 11, op := Go.Op.assign (Go.Operand.tmp 54), type := 4, pos := "law.go:49", after := #[{ on := 16, ground := Go.Ground.data }, { on := 16, ground := Go.Ground.chain }, { on := 0, ground := Go.Ground.phase }, { on := 1, ground := Go.Ground.phase }, { on := 2, ground := Go.Ground.phase }, { on := 3, ground := Go.Ground.phase }, { on := 4, ground := Go.Ground.phase }, { on := 5, ground := Go.Ground.phase }, { on := 6, ground := Go.Ground.phase }, { on := 7, ground := Go.Ground.phase }, { on := 8, ground := Go.Ground.phase }, { on := 9, ground := Go.Ground.phase }, { on := 10, ground := Go.Ground.phase }, { on := 11, ground := Go.Ground.phase }, { on := 12, ground := Go.Ground.phase }, { on := 13, ground := Go.Ground.phase }, { on := 14, ground := Go.Ground.phase }, { on := 15, ground := Go.Ground.phase }, { on := 16, ground := Go.Ground.phase }], guard := none }) (v := ?_) rfl (by kernel_rfl) (by kernel_rfl) (by kernel_rfl) (fun _ _ _ h => h) (Or.inl ⟨by rfl, ?_⟩) (by assumption) ?_
          (rotate_left; focus (intro wx hSw; (try dsimp only at hSw); go_simp; try with_reducible rfl))
          (try simp only [Act.put, List.setIfInBounds_toArray, List.set_cons_zero, List.set_cons_succ])  -- 17 assign none
          refine wpAnyH_done (by kernel_rfl) ?_ _
          clear d0 d1 d2
          have d0 := hHeld.1
          have d1 := hHeld.2.1
          have d2 := hHeld.2.2
          clear hHeld
          go_wp2_with fail
          refine (CR.out _ o5 p5).mono ?_; rintro e w6 ⟨rfl, o6, p6⟩
          go_wp2
          go_roundw
          case rel => exact ⟨k + 1, ⟨B, n, _⟩, by omega, by omega, HU.out, rfl, by simp, o6, p6⟩
          case measure => simp [intOf]; omega
      · have he : pupF s start limited bw = s := pup_skip (by rcases hst with h | h; exact .inl h; exact .inr h.2) bw
        rw [he] at cu
        obtain ⟨B0, n0', F0⟩ := s
        have CU := Lib.hid cu
        clear hw cu cr hF HU he
        rcases hst with rfl | ⟨rfl, rfl⟩
        · cases F0
          all_goals
            go_wp2_with fail
            refine wp_region_held_drew (S := fun wq => wq.cell? ⟨b, off + k * 3, none⟩ = some (.bool false) ∧ wq.cell? ⟨b, off + k * 3 + 1, none⟩ = some (.bool limited) ∧ wq.cell? ⟨b, off + k * 3 + 2, none⟩ = some (.int .u64 bw)) (by kernel_rfl) ⟨d0, d1, d2⟩ (fun hHeld => ?_)
            refine wpAnyH_take (i := 0) (oi := { dst := some 38, op := Go.Op.move (Go.Operand.tmp 7), type := 53, pos := "law.go:49", after := #[], guard := none }) (v := ?_) rfl (by kernel_rfl) (by kernel_rfl) (by kernel_rfl) (fun _ _ _ h => h) (Or.inl ⟨by rfl, ?_⟩) (by assumption) ?_
            (rotate_left; focus (intro wx hSw; (try dsimp only at hSw); go_simp; try with_reducible rfl))
            (try simp only [Act.put, List.setIfInBounds_toArray, List.set_cons_zero, List.set_cons_succ])  -- 0 move none
            refine wpAnyH_take (i := 1) (oi := { dst := some 39, op := Go.Op.move (Go.Operand.tmp 0), type := 52, pos := "law.go:49", after := #[], guard := none }) (v := ?_) rfl (by kernel_rfl) (by kernel_rfl) (by kernel_rfl) (fun _ _ _ h => h) (Or.inl ⟨by rfl, ?_⟩) (by assumption) ?_
            (rotate_left; focus (intro wx hSw; (try dsimp only at hSw); go_simp; try with_reducible rfl))
            (try simp only [Act.put, List.setIfInBounds_toArray, List.set_cons_zero, List.set_cons_succ])  -- 1 move none
            refine wpAnyH_take (i := 2) (oi := { dst := some 40, op := Go.Op.move (Go.Operand.tmp 10), type := 3, pos := "law.go:49", after := #[], guard := none }) (v := ?_) rfl (by kernel_rfl) (by kernel_rfl) (by kernel_rfl) (fun _ _ _ h => h) (Or.inl ⟨by rfl, ?_⟩) (by assumption) ?_
            (rotate_left; focus (intro wx hSw; (try dsimp only at hSw); go_simp; try with_reducible rfl))
            (try simp only [Act.put, List.setIfInBounds_toArray, List.set_cons_zero, List.set_cons_succ])  -- 2 move none
            refine wpAnyH_take (i := 3) (oi := { dst := some 41, op := Go.Op.indexAddr 52 (Go.Operand.tmp 39) (Go.Operand.tmp 40), type := 0, pos := "law.go:49", after := #[{ on := 1, ground := Go.Ground.data }, { on := 2, ground := Go.Ground.data }], guard := none }) (v := ?_) rfl (by kernel_rfl) (by kernel_rfl) (by kernel_rfl) (fun _ _ _ h => h) (Or.inl ⟨by rfl, ?_⟩) (by assumption) ?_
            (rotate_left; focus (intro wx hSw; (try dsimp only at hSw); go_simp; try with_reducible rfl))
            (try simp only [Act.put, List.setIfInBounds_toArray, List.set_cons_zero, List.set_cons_succ])  -- 3 indexAddr none
            refine wpAnyH_take (i := 4) (oi := { dst := some 42, op := Go.Op.fieldAddr 60 (Go.Operand.tmp 41) 0, type := 0, pos := "law.go:49", after := #[{ on := 3, ground := Go.Ground.data }], guard := none }) (v := ?_) rfl (by kernel_rfl) (by kernel_rfl) (by kernel_rfl) (fun _ _ _ h => h) (Or.inl ⟨by rfl, ?_⟩) (by assumption) ?_
            (rotate_left; focus (intro wx hSw; (try dsimp only at hSw); go_simp; try with_reducible rfl))
            (try simp only [Act.put, List.setIfInBounds_toArray, List.set_cons_zero, List.set_cons_succ])  -- 4 fieldAddr none
            refine wpAnyH_take (i := 5) (oi := { dst := some 43, op := Go.Op.load 4 (Go.Operand.tmp 42), type := 4, pos := "law.go:49", after := #[{ on := 4, ground := Go.Ground.data }], guard := none }) (v := ?_) rfl (by kernel_rfl) (by kernel_rfl) (by kernel_rfl) (fun _ _ _ h => h) (Or.inl ⟨by rfl, ?_⟩) (by assumption) ?_
            (rotate_left; focus (intro wx hSw; (try dsimp only at hSw); go_simp; try with_reducible rfl))
            (try simp only [Act.put, List.setIfInBounds_toArray, List.set_cons_zero, List.set_cons_succ])  -- 5 load none
            refine wpAnyH_take (i := 6) (oi := { dst := some 44, op := Go.Op.move (Go.Operand.tmp 0), type := 52, pos := "law.go:49", after := #[], guard := none }) (v := ?_) rfl (by kernel_rfl) (by kernel_rfl) (by kernel_rfl) (fun _ _ _ h => h) (Or.inl ⟨by rfl, ?_⟩) (by assumption) ?_
            (rotate_left; focus (intro wx hSw; (try dsimp only at hSw); go_simp; try with_reducible rfl))
            (try simp only [Act.put, List.setIfInBounds_toArray, List.set_cons_zero, List.set_cons_succ])  -- 6 move none
            refine wpAnyH_take (i := 7) (oi := { dst := some 45, op := Go.Op.move (Go.Operand.tmp 10), type := 3, pos := "law.go:49", after := #[], guard := none }) (v := ?_) rfl (by kernel_rfl) (by kernel_rfl) (by kernel_rfl) (fun _ _ _ h => h) (Or.inl ⟨by rfl, ?_⟩) (by assumption) ?_
            (rotate_left; focus (intro wx hSw; (try dsimp only at hSw); go_simp; try with_reducible rfl))
            (try simp only [Act.put, List.setIfInBounds_toArray, List.set_cons_zero, List.set_cons_succ])  -- 7 move none
            refine wpAnyH_take (i := 8) (oi := { dst := some 46, op := Go.Op.indexAddr 52 (Go.Operand.tmp 44) (Go.Operand.tmp 45), type := 0, pos := "law.go:49", after := #[{ on := 6, ground := Go.Ground.data }, { on := 7, ground := Go.Ground.data }], guard := none }) (v := ?_) rfl (by kernel_rfl) (by kernel_rfl) (by kernel_rfl) (fun _ _ _ h => h) (Or.inl ⟨by rfl, ?_⟩) (by assumption) ?_
            (rotate_left; focus (intro wx hSw; (try dsimp only at hSw); go_simp; try with_reducible rfl))
            (try simp only [Act.put, List.setIfInBounds_toArray, List.set_cons_zero, List.set_cons_succ])  -- 8 indexAddr none
            refine wpAnyH_take (i := 9) (oi := { dst := some 47, op := Go.Op.fieldAddr 60 (Go.Operand.tmp 46) 1, type := 0, pos := "law.go:49", after := #[{ on := 8, ground := Go.Ground.data }], guard := none }) (v := ?_) rfl (by kernel_rfl) (by kernel_rfl) (by kernel_rfl) (fun _ _ _ h => h) (Or.inl ⟨by rfl, ?_⟩) (by assumption) ?_
            (rotate_left; focus (intro wx hSw; (try dsimp only at hSw); go_simp; try with_reducible rfl))
            (try simp only [Act.put, List.setIfInBounds_toArray, List.set_cons_zero, List.set_cons_succ])  -- 9 fieldAddr none
            refine wpAnyH_take (i := 10) (oi := { dst := some 48, op := Go.Op.load 4 (Go.Operand.tmp 47), type := 4, pos := "law.go:49", after := #[{ on := 9, ground := Go.Ground.data }], guard := none }) (v := ?_) rfl (by kernel_rfl) (by kernel_rfl) (by kernel_rfl) (fun _ _ _ h => h) (Or.inl ⟨by rfl, ?_⟩) (by assumption) ?_
            (rotate_left; focus (intro wx hSw; (try dsimp only at hSw); go_simp; try with_reducible rfl))
            (try simp only [Act.put, List.setIfInBounds_toArray, List.set_cons_zero, List.set_cons_succ])  -- 10 load none
            refine wpAnyH_take (i := 11) (oi := { dst := some 49, op := Go.Op.move (Go.Operand.tmp 0), type := 52, pos := "law.go:49", after := #[], guard := none }) (v := ?_) rfl (by kernel_rfl) (by kernel_rfl) (by kernel_rfl) (fun _ _ _ h => h) (Or.inl ⟨by rfl, ?_⟩) (by assumption) ?_
            (rotate_left; focus (intro wx hSw; (try dsimp only at hSw); go_simp; try with_reducible rfl))
            (try simp only [Act.put, List.setIfInBounds_toArray, List.set_cons_zero, List.set_cons_succ])  -- 11 move none
            refine wpAnyH_take (i := 12) (oi := { dst := some 50, op := Go.Op.move (Go.Operand.tmp 10), type := 3, pos := "law.go:49", after := #[], guard := none }) (v := ?_) rfl (by kernel_rfl) (by kernel_rfl) (by kernel_rfl) (fun _ _ _ h => h) (Or.inl ⟨by rfl, ?_⟩) (by assumption) ?_
            (rotate_left; focus (intro wx hSw; (try dsimp only at hSw); go_simp; try with_reducible rfl))
            (try simp only [Act.put, List.setIfInBounds_toArray, List.set_cons_zero, List.set_cons_succ])  -- 12 move none
            refine wpAnyH_take (i := 13) (oi := { dst := some 51, op := Go.Op.indexAddr 52 (Go.Operand.tmp 49) (Go.Operand.tmp 50), type := 0, pos := "law.go:49", after := #[{ on := 11, ground := Go.Ground.data }, { on := 12, ground := Go.Ground.data }], guard := none }) (v := ?_) rfl (by kernel_rfl) (by kernel_rfl) (by kernel_rfl) (fun _ _ _ h => h) (Or.inl ⟨by rfl, ?_⟩) (by assumption) ?_
            (rotate_left; focus (intro wx hSw; (try dsimp only at hSw); go_simp; try with_reducible rfl))
            (try simp only [Act.put, List.setIfInBounds_toArray, List.set_cons_zero, List.set_cons_succ])  -- 13 indexAddr none
            refine wpAnyH_take (i := 14) (oi := { dst := some 52, op := Go.Op.fieldAddr 60 (Go.Operand.tmp 51) 2, type := 0, pos := "law.go:49", after := #[{ on := 13, ground := Go.Ground.data }], guard := none }) (v := ?_) rfl (by kernel_rfl) (by kernel_rfl) (by kernel_rfl) (fun _ _ _ h => h) (Or.inl ⟨by rfl, ?_⟩) (by assumption) ?_
            (rotate_left; focus (intro wx hSw; (try dsimp only at hSw); go_simp; try with_reducible rfl))
            (try simp only [Act.put, List.setIfInBounds_toArray, List.set_cons_zero, List.set_cons_succ])  -- 14 fieldAddr none
            refine wpAnyH_take (i := 15) (oi := { dst := some 53, op := Go.Op.load 22 (Go.Operand.tmp 52), type := 22, pos := "law.go:49", after := #[{ on := 14, ground := Go.Ground.data }], guard := none }) (v := ?_) rfl (by kernel_rfl) (by kernel_rfl) (by kernel_rfl) (fun _ _ _ h => h) (Or.inl ⟨by rfl, ?_⟩) (by assumption) ?_
            (rotate_left; focus (intro wx hSw; (try dsimp only at hSw); go_simp; try with_reducible rfl))
            (try simp only [Act.put, List.setIfInBounds_toArray, List.set_cons_zero, List.set_cons_succ])  -- 15 load none
            refine wpAnyH_ready (rs := [16]) (by kernel_rfl) (by simp) ?_
            refine AllReadyH.cons (o := { dst := some 54, op := Go.Op.call { callee := Go.Callee.value (Go.Operand.func 35), args := #[Go.Operand.tmp 38, Go.Operand.tmp 43, Go.Operand.tmp 48, Go.Operand.tmp 53], argTypes := #[53, 4, 4, 22] }, type := 4, pos := "law.go:49", after := #[{ on := 0, ground := Go.Ground.data }, { on := 5, ground := Go.Ground.data }, { on := 10, ground := Go.Ground.data }, { on := 15, ground := Go.Ground.data }], guard := none }) rfl (fun K hK => ?_) AllReadyH.nil
            go_simp
            refine (CU.out _ HO.out.drew HP.out.drew).mono ?_; rintro e w5 ⟨rfl, o5, p5⟩
            refine hK.out _ _ ?_ (fun hHeld => ?_)
            focus exact ⟨(o5.2.1.cell (p := ⟨b, off + k * 3, none⟩) hb).trans CC.out.1, (o5.2.1.cell (p := ⟨b, off + k * 3 + 1, none⟩) hb).trans CC.out.2.1, (o5.2.1.cell (p := ⟨b, off + k * 3 + 2, none⟩) hb).trans CC.out.2.2⟩
            clear hK K
            (try simp only [Act.put, List.setIfInBounds_toArray, List.set_cons_zero, List.set_cons_succ])  -- 16 call none
            refine wpAnyH_take (i := 17) (oi := { dst := some 11, op := Go.Op.assign (Go.Operand.tmp 54), type := 4, pos := "law.go:49", after := #[{ on := 16, ground := Go.Ground.data }, { on := 16, ground := Go.Ground.chain }, { on := 0, ground := Go.Ground.phase }, { on := 1, ground := Go.Ground.phase }, { on := 2, ground := Go.Ground.phase }, { on := 3, ground := Go.Ground.phase }, { on := 4, ground := Go.Ground.phase }, { on := 5, ground := Go.Ground.phase }, { on := 6, ground := Go.Ground.phase }, { on := 7, ground := Go.Ground.phase }, { on := 8, ground := Go.Ground.phase }, { on := 9, ground := Go.Ground.phase }, { on := 10, ground := Go.Ground.phase }, { on := 11, ground := Go.Ground.phase }, { on := 12, ground := Go.Ground.phase }, { on := 13, ground := Go.Ground.phase }, { on := 14, ground := Go.Ground.phase }, { on := 15, ground := Go.Ground.phase }, { on := 16, ground := Go.Ground.phase }], guard := none }) (v := ?_) rfl (by kernel_rfl) (by kernel_rfl) (by kernel_rfl) (fun _ _ _ h => h) (Or.inl ⟨by rfl, ?_⟩) (by assumption) ?_
            (rotate_left; focus (intro wx hSw; (try dsimp only at hSw); go_simp; try with_reducible rfl))
            (try simp only [Act.put, List.setIfInBounds_toArray, List.set_cons_zero, List.set_cons_succ])  -- 17 assign none
            refine wpAnyH_done (by kernel_rfl) ?_ _
            clear d0 d1 d2
            have d0 := hHeld.1
            have d1 := hHeld.2.1
            have d2 := hHeld.2.2
            clear hHeld
            go_wp2
            go_roundw
            case rel => exact ⟨k + 1, ⟨B0, n0', _⟩, by omega, by omega, HK.out, rfl, by simp, o5, p5⟩
            case measure => simp [intOf]; omega
        · cases F0
          all_goals
            go_wp2_with fail
            refine wp_region_held_drew (S := fun wq => wq.cell? ⟨b, off + k * 3, none⟩ = some (.bool true) ∧ wq.cell? ⟨b, off + k * 3 + 1, none⟩ = some (.bool true) ∧ wq.cell? ⟨b, off + k * 3 + 2, none⟩ = some (.int .u64 bw)) (by kernel_rfl) ⟨d0, d1, d2⟩ (fun hHeld => ?_)
            refine wpAnyH_take (i := 0) (oi := { dst := some 38, op := Go.Op.move (Go.Operand.tmp 7), type := 53, pos := "law.go:49", after := #[], guard := none }) (v := ?_) rfl (by kernel_rfl) (by kernel_rfl) (by kernel_rfl) (fun _ _ _ h => h) (Or.inl ⟨by rfl, ?_⟩) (by assumption) ?_
            (rotate_left; focus (intro wx hSw; (try dsimp only at hSw); go_simp; try with_reducible rfl))
            (try simp only [Act.put, List.setIfInBounds_toArray, List.set_cons_zero, List.set_cons_succ])  -- 0 move none
            refine wpAnyH_take (i := 1) (oi := { dst := some 39, op := Go.Op.move (Go.Operand.tmp 0), type := 52, pos := "law.go:49", after := #[], guard := none }) (v := ?_) rfl (by kernel_rfl) (by kernel_rfl) (by kernel_rfl) (fun _ _ _ h => h) (Or.inl ⟨by rfl, ?_⟩) (by assumption) ?_
            (rotate_left; focus (intro wx hSw; (try dsimp only at hSw); go_simp; try with_reducible rfl))
            (try simp only [Act.put, List.setIfInBounds_toArray, List.set_cons_zero, List.set_cons_succ])  -- 1 move none
            refine wpAnyH_take (i := 2) (oi := { dst := some 40, op := Go.Op.move (Go.Operand.tmp 10), type := 3, pos := "law.go:49", after := #[], guard := none }) (v := ?_) rfl (by kernel_rfl) (by kernel_rfl) (by kernel_rfl) (fun _ _ _ h => h) (Or.inl ⟨by rfl, ?_⟩) (by assumption) ?_
            (rotate_left; focus (intro wx hSw; (try dsimp only at hSw); go_simp; try with_reducible rfl))
            (try simp only [Act.put, List.setIfInBounds_toArray, List.set_cons_zero, List.set_cons_succ])  -- 2 move none
            refine wpAnyH_take (i := 3) (oi := { dst := some 41, op := Go.Op.indexAddr 52 (Go.Operand.tmp 39) (Go.Operand.tmp 40), type := 0, pos := "law.go:49", after := #[{ on := 1, ground := Go.Ground.data }, { on := 2, ground := Go.Ground.data }], guard := none }) (v := ?_) rfl (by kernel_rfl) (by kernel_rfl) (by kernel_rfl) (fun _ _ _ h => h) (Or.inl ⟨by rfl, ?_⟩) (by assumption) ?_
            (rotate_left; focus (intro wx hSw; (try dsimp only at hSw); go_simp; try with_reducible rfl))
            (try simp only [Act.put, List.setIfInBounds_toArray, List.set_cons_zero, List.set_cons_succ])  -- 3 indexAddr none
            refine wpAnyH_take (i := 4) (oi := { dst := some 42, op := Go.Op.fieldAddr 60 (Go.Operand.tmp 41) 0, type := 0, pos := "law.go:49", after := #[{ on := 3, ground := Go.Ground.data }], guard := none }) (v := ?_) rfl (by kernel_rfl) (by kernel_rfl) (by kernel_rfl) (fun _ _ _ h => h) (Or.inl ⟨by rfl, ?_⟩) (by assumption) ?_
            (rotate_left; focus (intro wx hSw; (try dsimp only at hSw); go_simp; try with_reducible rfl))
            (try simp only [Act.put, List.setIfInBounds_toArray, List.set_cons_zero, List.set_cons_succ])  -- 4 fieldAddr none
            refine wpAnyH_take (i := 5) (oi := { dst := some 43, op := Go.Op.load 4 (Go.Operand.tmp 42), type := 4, pos := "law.go:49", after := #[{ on := 4, ground := Go.Ground.data }], guard := none }) (v := ?_) rfl (by kernel_rfl) (by kernel_rfl) (by kernel_rfl) (fun _ _ _ h => h) (Or.inl ⟨by rfl, ?_⟩) (by assumption) ?_
            (rotate_left; focus (intro wx hSw; (try dsimp only at hSw); go_simp; try with_reducible rfl))
            (try simp only [Act.put, List.setIfInBounds_toArray, List.set_cons_zero, List.set_cons_succ])  -- 5 load none
            refine wpAnyH_take (i := 6) (oi := { dst := some 44, op := Go.Op.move (Go.Operand.tmp 0), type := 52, pos := "law.go:49", after := #[], guard := none }) (v := ?_) rfl (by kernel_rfl) (by kernel_rfl) (by kernel_rfl) (fun _ _ _ h => h) (Or.inl ⟨by rfl, ?_⟩) (by assumption) ?_
            (rotate_left; focus (intro wx hSw; (try dsimp only at hSw); go_simp; try with_reducible rfl))
            (try simp only [Act.put, List.setIfInBounds_toArray, List.set_cons_zero, List.set_cons_succ])  -- 6 move none
            refine wpAnyH_take (i := 7) (oi := { dst := some 45, op := Go.Op.move (Go.Operand.tmp 10), type := 3, pos := "law.go:49", after := #[], guard := none }) (v := ?_) rfl (by kernel_rfl) (by kernel_rfl) (by kernel_rfl) (fun _ _ _ h => h) (Or.inl ⟨by rfl, ?_⟩) (by assumption) ?_
            (rotate_left; focus (intro wx hSw; (try dsimp only at hSw); go_simp; try with_reducible rfl))
            (try simp only [Act.put, List.setIfInBounds_toArray, List.set_cons_zero, List.set_cons_succ])  -- 7 move none
            refine wpAnyH_take (i := 8) (oi := { dst := some 46, op := Go.Op.indexAddr 52 (Go.Operand.tmp 44) (Go.Operand.tmp 45), type := 0, pos := "law.go:49", after := #[{ on := 6, ground := Go.Ground.data }, { on := 7, ground := Go.Ground.data }], guard := none }) (v := ?_) rfl (by kernel_rfl) (by kernel_rfl) (by kernel_rfl) (fun _ _ _ h => h) (Or.inl ⟨by rfl, ?_⟩) (by assumption) ?_
            (rotate_left; focus (intro wx hSw; (try dsimp only at hSw); go_simp; try with_reducible rfl))
            (try simp only [Act.put, List.setIfInBounds_toArray, List.set_cons_zero, List.set_cons_succ])  -- 8 indexAddr none
            refine wpAnyH_take (i := 9) (oi := { dst := some 47, op := Go.Op.fieldAddr 60 (Go.Operand.tmp 46) 1, type := 0, pos := "law.go:49", after := #[{ on := 8, ground := Go.Ground.data }], guard := none }) (v := ?_) rfl (by kernel_rfl) (by kernel_rfl) (by kernel_rfl) (fun _ _ _ h => h) (Or.inl ⟨by rfl, ?_⟩) (by assumption) ?_
            (rotate_left; focus (intro wx hSw; (try dsimp only at hSw); go_simp; try with_reducible rfl))
            (try simp only [Act.put, List.setIfInBounds_toArray, List.set_cons_zero, List.set_cons_succ])  -- 9 fieldAddr none
            refine wpAnyH_take (i := 10) (oi := { dst := some 48, op := Go.Op.load 4 (Go.Operand.tmp 47), type := 4, pos := "law.go:49", after := #[{ on := 9, ground := Go.Ground.data }], guard := none }) (v := ?_) rfl (by kernel_rfl) (by kernel_rfl) (by kernel_rfl) (fun _ _ _ h => h) (Or.inl ⟨by rfl, ?_⟩) (by assumption) ?_
            (rotate_left; focus (intro wx hSw; (try dsimp only at hSw); go_simp; try with_reducible rfl))
            (try simp only [Act.put, List.setIfInBounds_toArray, List.set_cons_zero, List.set_cons_succ])  -- 10 load none
            refine wpAnyH_take (i := 11) (oi := { dst := some 49, op := Go.Op.move (Go.Operand.tmp 0), type := 52, pos := "law.go:49", after := #[], guard := none }) (v := ?_) rfl (by kernel_rfl) (by kernel_rfl) (by kernel_rfl) (fun _ _ _ h => h) (Or.inl ⟨by rfl, ?_⟩) (by assumption) ?_
            (rotate_left; focus (intro wx hSw; (try dsimp only at hSw); go_simp; try with_reducible rfl))
            (try simp only [Act.put, List.setIfInBounds_toArray, List.set_cons_zero, List.set_cons_succ])  -- 11 move none
            refine wpAnyH_take (i := 12) (oi := { dst := some 50, op := Go.Op.move (Go.Operand.tmp 10), type := 3, pos := "law.go:49", after := #[], guard := none }) (v := ?_) rfl (by kernel_rfl) (by kernel_rfl) (by kernel_rfl) (fun _ _ _ h => h) (Or.inl ⟨by rfl, ?_⟩) (by assumption) ?_
            (rotate_left; focus (intro wx hSw; (try dsimp only at hSw); go_simp; try with_reducible rfl))
            (try simp only [Act.put, List.setIfInBounds_toArray, List.set_cons_zero, List.set_cons_succ])  -- 12 move none
            refine wpAnyH_take (i := 13) (oi := { dst := some 51, op := Go.Op.indexAddr 52 (Go.Operand.tmp 49) (Go.Operand.tmp 50), type := 0, pos := "law.go:49", after := #[{ on := 11, ground := Go.Ground.data }, { on := 12, ground := Go.Ground.data }], guard := none }) (v := ?_) rfl (by kernel_rfl) (by kernel_rfl) (by kernel_rfl) (fun _ _ _ h => h) (Or.inl ⟨by rfl, ?_⟩) (by assumption) ?_
            (rotate_left; focus (intro wx hSw; (try dsimp only at hSw); go_simp; try with_reducible rfl))
            (try simp only [Act.put, List.setIfInBounds_toArray, List.set_cons_zero, List.set_cons_succ])  -- 13 indexAddr none
            refine wpAnyH_take (i := 14) (oi := { dst := some 52, op := Go.Op.fieldAddr 60 (Go.Operand.tmp 51) 2, type := 0, pos := "law.go:49", after := #[{ on := 13, ground := Go.Ground.data }], guard := none }) (v := ?_) rfl (by kernel_rfl) (by kernel_rfl) (by kernel_rfl) (fun _ _ _ h => h) (Or.inl ⟨by rfl, ?_⟩) (by assumption) ?_
            (rotate_left; focus (intro wx hSw; (try dsimp only at hSw); go_simp; try with_reducible rfl))
            (try simp only [Act.put, List.setIfInBounds_toArray, List.set_cons_zero, List.set_cons_succ])  -- 14 fieldAddr none
            refine wpAnyH_take (i := 15) (oi := { dst := some 53, op := Go.Op.load 22 (Go.Operand.tmp 52), type := 22, pos := "law.go:49", after := #[{ on := 14, ground := Go.Ground.data }], guard := none }) (v := ?_) rfl (by kernel_rfl) (by kernel_rfl) (by kernel_rfl) (fun _ _ _ h => h) (Or.inl ⟨by rfl, ?_⟩) (by assumption) ?_
            (rotate_left; focus (intro wx hSw; (try dsimp only at hSw); go_simp; try with_reducible rfl))
            (try simp only [Act.put, List.setIfInBounds_toArray, List.set_cons_zero, List.set_cons_succ])  -- 15 load none
            refine wpAnyH_ready (rs := [16]) (by kernel_rfl) (by simp) ?_
            refine AllReadyH.cons (o := { dst := some 54, op := Go.Op.call { callee := Go.Callee.value (Go.Operand.func 35), args := #[Go.Operand.tmp 38, Go.Operand.tmp 43, Go.Operand.tmp 48, Go.Operand.tmp 53], argTypes := #[53, 4, 4, 22] }, type := 4, pos := "law.go:49", after := #[{ on := 0, ground := Go.Ground.data }, { on := 5, ground := Go.Ground.data }, { on := 10, ground := Go.Ground.data }, { on := 15, ground := Go.Ground.data }], guard := none }) rfl (fun K hK => ?_) AllReadyH.nil
            go_simp
            refine (CU.out _ HO.out.drew HP.out.drew).mono ?_; rintro e w5 ⟨rfl, o5, p5⟩
            refine hK.out _ _ ?_ (fun hHeld => ?_)
            focus exact ⟨(o5.2.1.cell (p := ⟨b, off + k * 3, none⟩) hb).trans CC.out.1, (o5.2.1.cell (p := ⟨b, off + k * 3 + 1, none⟩) hb).trans CC.out.2.1, (o5.2.1.cell (p := ⟨b, off + k * 3 + 2, none⟩) hb).trans CC.out.2.2⟩
            clear hK K
            (try simp only [Act.put, List.setIfInBounds_toArray, List.set_cons_zero, List.set_cons_succ])  -- 16 call none
            refine wpAnyH_take (i := 17) (oi := { dst := some 11, op := Go.Op.assign (Go.Operand.tmp 54), type := 4, pos := "law.go:49", after := #[{ on := 16, ground := Go.Ground.data }, { on := 16, ground := Go.Ground.chain }, { on := 0, ground := Go.Ground.phase }, { on := 1, ground := Go.Ground.phase }, { on := 2, ground := Go.Ground.phase }, { on := 3, ground := Go.Ground.phase }, { on := 4, ground := Go.Ground.phase }, { on := 5, ground := Go.Ground.phase }, { on := 6, ground := Go.Ground.phase }, { on := 7, ground := Go.Ground.phase }, { on := 8, ground := Go.Ground.phase }, { on := 9, ground := Go.Ground.phase }, { on := 10, ground := Go.Ground.phase }, { on := 11, ground := Go.Ground.phase }, { on := 12, ground := Go.Ground.phase }, { on := 13, ground := Go.Ground.phase }, { on := 14, ground := Go.Ground.phase }, { on := 15, ground := Go.Ground.phase }, { on := 16, ground := Go.Ground.phase }], guard := none }) (v := ?_) rfl (by kernel_rfl) (by kernel_rfl) (by kernel_rfl) (fun _ _ _ h => h) (Or.inl ⟨by rfl, ?_⟩) (by assumption) ?_
            (rotate_left; focus (intro wx hSw; (try dsimp only at hSw); go_simp; try with_reducible rfl))
            (try simp only [Act.put, List.setIfInBounds_toArray, List.set_cons_zero, List.set_cons_succ])  -- 17 assign none
            refine wpAnyH_done (by kernel_rfl) ?_ _
            clear d0 d1 d2
            have d0 := hHeld.1
            have d1 := hHeld.2.1
            have d2 := hHeld.2.2
            clear hHeld
            go_wp2
            go_roundw
            case rel => exact ⟨k + 1, ⟨B0, n0', _⟩, by omega, by omega, HK.out, rfl, by simp, o5, p5⟩
            case measure => simp [intOf]; omega
    · have hx : decide (k < len) = false ∨ k < len ∧ 60 ≤ k := by simp; omega
      clear hlt
      have hv := HV.out
      rcases hx with hx | ⟨hx1, hx⟩
      all_goals
        go_wp2_with fail
        refine (ppnew_any _).mono ?_; rintro e w3 ⟨rfl, hw3⟩
        have O3 : Hid (Own w w3 wr.heap.size 72 (ppp ⟨0, 0, false⟩)) := by
          rw [hw3]
          exact Lib.hid (Own.made HO.out.2.1 _ _)
        clear hw3
        go_wp2_with fail
        try rw [hv]
        clear hv
        have em := EM.out
        have en := EN.out
        go_loopw [13, 14] (fun v13 v14 wr' => GrowRel w wr.heap.size nn v13 v14 wr') (fun _ v14 _ => nn - (intOf v14).toNat)
        case atStart => exact ⟨0, v1, 0, by omega, lv, by simp; omega, by omega, by rw [grow_eq (by omega)]; omega, by simp; try rw [IntKind.wrap_u64]; omega, rfl, O3.out⟩
        case round =>
          obtain ⟨j, V, B, hj, hV, hV2, hB, hg, rfl, rfl, hO⟩ := hrel
          have HG := Lib.hid hO
          clear hO
          have HK2 := Lib.hid (And.intro hV (And.intro hV2 (And.intro hB hg)))
          have hVs : V < 2000000000000000 := pow_small2 (by omega) hV2
          by_cases hj2 : j < nn
          · obtain ⟨D, hD⟩ : ∃ D, V / 4 = D := ⟨_, rfl⟩
            have hd : (V : Int) / 4 = D := by omega
            have hd2 : (V : Int).tdiv 4 = D := by rw [Int.tdiv_eq_ediv_of_nonneg (by omega)]; omega
            have wD : IntKind.u64.wrap (D : Int) = D := by rw [IntKind.wrap_u64]; omega
            have wd : IntKind.u64.wrap ((V : Int) + D) = (V : Int) + D := by rw [IntKind.wrap_u64]; omega
            have wd1 : IntKind.u64.wrap ((V : Int) + D + 1) = (V : Int) + D + 1 := by rw [IntKind.wrap_u64]; omega
            have HU := Lib.hid (grow_up hg true)
            have n1 : V + D + 1 ≤ 1004 * 2 ^ (j + 1) := by rw [Nat.pow_succ]; omega
            have n2 : grow V ≤ V + D + 1 := by rw [grow_eq (by omega)]; omega
            have HN := Lib.hid (And.intro n1 n2)
            have ok : QS.ok ⟨B, 0, false⟩ := ⟨by dsimp only; omega, by simp, by simp⟩
            have OK := Lib.hid ok
            have HDD := Lib.hid (And.intro hd (And.intro hd2 (And.intro wD (And.intro wd wd1))))
            clear n1 n2 ok hV hV2 hB hg hVs hD hd hd2 wD wd wd1
            go_wp2_with fail
            refine (pup_res _ _ _ _ V HU.out (by omega) OK.out _ HG.out.1).mono ?_; rintro e w4 ⟨rfl, p4⟩
            have O4 := Lib.hid (HG.out.put p4)
            obtain ⟨hd, hd2, wD, wd, wd1⟩ := HDD.out
            clear p4 em en
            go_wp2
            go_roundw
            case rel => exact ⟨j + 1, V + D + 1, V, by omega, by have := HK2.out.1; omega, HN.out.1, by omega, HN.out.2, by simp, by simp, O4.out⟩
            case measure => simp [intOf]; omega
          · have hj3 : decide (j < nn) = false := by simpa using hj2
            clear hV hV2 hB hg hVs hj2
            go_wp2_with fail
            refine (full_nil _).mono ?_; rintro e w' ⟨rfl, rfl⟩
            go_wp2_with fail
            refine (pup_nil true false 1 _).mono ?_; rintro e w' ⟨rfl, rfl⟩
            go_wp2
            go_ret
            exact ⟨rfl, HG.out.2.1⟩

theorem stays_any (a : Option Addr) (len cap : Nat) (f : Nat → PipeOp) (v0 : Nat) (n0 : Int) (w : World) (hrow : PipeRow w a len f) :
    Calls Try.prog 12 #[.slice a len cap, .int .u64 v0, .int .i64 n0] w fun e w' => e = .returned (.bool true) ∧ Below w.heap.size w w' := by
  have em : IntKind.u64.wrap n0 = ((IntKind.u64.wrap n0).toNat : Nat) := by rw [IntKind.wrap_u64]; omega
  exact stays_core a len cap f v0 (4 + v0 % 1000) _ ((IntKind.u64.wrap n0).toNat % 40) n0 (by simp) (by omega) (by omega) em (by simp) (Nat.mod_lt _ (by omega)) w hrow
end Go.Proofs.Ytgdbmjokpbjoaaa
