/- The walk of ClockMoves. -/
import Derived.Test.YtalcccghiemnjaaLaw03
import Derived.Deep.RegionHeld3
import Derived.StillTactics
import Derived.Deep.RegionWith
namespace Go.Proofs.Ytalcccghiemnjaa
open Go.RowKit Go.Lib
set_option linter.unusedVariables false

/-- after k moves -/
def MoveRel (w0 : World) (b len : Nat) (v8 v9 : Value) (wr : World) : Prop :=
  ∃ k N : Nat, k ≤ len ∧ k ≤ 60 ∧ N ≤ 4611686018427387904 ∧ v8 = .int .u64 N ∧ v9 = .int .i64 k ∧ Own w0 wr b 56 (clk N)

theorem new_own (a T : Nat) (hT : tmin a = T) (w : World) :
    Calls Try.prog 20 #[.int .u64 a] w fun e w' => e = .returned (.pointer (some ⟨w.heap.size + 1, 0, none⟩)) ∧ Own w w' (w.heap.size + 1) 56 (clk T) := by
  refine (cnew_any a w).mono fun e w' ⟨h1, h2⟩ => ⟨h1, ?_⟩
  have := Own.made (w0 := w) ((Below.refl w.heap.size w).alloc (Nat.le_refl _) (.cells #[.int .u64 a] 22)) 56 (clk (tmin a))
  rw [hT] at this h2
  rw [h2]
  simpa using this

theorem tmin_if (a : Nat) : (if (4611686018427387904 : Int) < a then 4611686018427387904 else (a : Int)) = ((tmin a : Nat) : Int) := by
  rw [tmin_eq]; split <;> omega

set_option maxRecDepth 8000 in
set_option maxHeartbeats 4000000 in
theorem moves_core (a T : Nat) (sp dp : Option Addr) (len cap dlen dcap : Nat) (zs ds : List Int) (hmin : (if (4611686018427387904 : Int) < a then 4611686018427387904 else (a : Int)) = T) (hT : tmin a = T) (hT2 : T ≤ 4611686018427387904) (w : World) (hrow : IntRow .u64 w sp len zs) (hdrow : IntRow .u64 w dp dlen ds) :
    Calls Try.prog 5 #[.int .u64 a, .slice sp len cap, .slice dp dlen dcap] w fun e w' => e = .returned (.bool true) ∧ Below w.heap.size w w' := by
  have hlen := hrow.1
  have hdlen := hdrow.1
  have HR := Lib.hid hrow
  have HD := Lib.hid hdrow
  have HT2 := Lib.hid hT2
  have HN := Lib.hid (fun w => new_own a T hT w)
  clear hrow hdrow hT hT2
  go_enter Try.func5, Try.ntmps5
  go_wp2_with fail
  refine (HN.out _).mono ?_; rintro e w1 ⟨rfl, o1⟩
  have O1 := Lib.hid o1
  clear o1
  go_wp2_with fail
  refine (awake03 _).mono ?_; rintro e w2 ⟨rfl, b2⟩
  have O2 := Lib.hid (O1.out.below b2)
  clear b2
  go_wp2_with fail
  clear hmin
  go_loopw [8, 9] (fun v8 v9 wr => MoveRel w (w.heap.size + 1) len v8 v9 wr) (fun _ v9 _ => 60 - (intOf v9).toNat)
  case atStart => exact ⟨0, T, by omega, by omega, HT2.out, rfl, rfl, O2.out⟩
  case round =>
    obtain ⟨k, N, hk1, hk2, hN, rfl, rfl, hO⟩ := hrel
    have HO := Lib.hid hO
    clear hO
    by_cases hlt : k < len ∧ k < 60
    · obtain ⟨hlt, hlt2⟩ := hlt
      obtain ⟨b, off, n, rfl, hb, ln, _, hc⟩ := HR.out.nat_at hlt
      have hck := (HO.out.2.1.cell (p := ⟨b, off + k, none⟩) hb).trans hc
      have sw : (4611686018427387904 < (n : Int) ∧ mvE N n = 3 ∧ mvN N n = N) ∨ ((n : Int) ≤ 4611686018427387904 ∧ n < N ∧ mvE N n = 4 ∧ mvN N n = N) ∨ ((n : Int) ≤ 4611686018427387904 ∧ N ≤ n ∧ mvE N n = 0 ∧ mvN N n = n) := by
        unfold mvE mvN
        rcases Nat.lt_or_ge 4611686018427387904 n with h | h
        · exact .inl ⟨by omega, by rw [if_pos h], by rw [if_pos h]⟩
        · rcases Nat.lt_or_ge n N with h' | h'
          · exact .inr (.inl ⟨by omega, h', by rw [if_neg (by omega), if_pos h'], by rw [if_neg (by omega), if_pos h']⟩)
          · exact .inr (.inr ⟨by omega, h', by rw [if_neg (by omega), if_neg (by omega)], by rw [if_neg (by omega), if_neg (by omega)]⟩)
      have cm : ∀ wq, Own w wq (w.heap.size + 1) 56 (clk N) → Calls Try.prog 22 #[.pointer (some ⟨w.heap.size + 1, 0, none⟩), .int .u64 n] wq fun e w' => e = .returned (.int .i64 (mvE N n : Nat)) ∧ Own w w' (w.heap.size + 1) 56 (clk (mvN N n)) := fun wq ho =>
        (move_any (w.heap.size + 1) N n wq ho.1).mono fun e w' ⟨h1, h2⟩ => ⟨h1, ho.put h2⟩
      have HC := Lib.hid hc
      have LN := Lib.hid ln
      have LNN := Lib.hid hN
      clear hc ln hN
      by_cases hd : k < dlen
      · obtain ⟨b', off', m, rfl, hb', lm, _, hc'⟩ := HD.out.nat_at hd
        have hck2 := (HO.out.2.1.cell (p := ⟨b', off' + k, none⟩) hb').trans hc'
        have HC2 := Lib.hid hc'
        have LM := Lib.hid lm
        clear hc' lm
        rcases sw with ⟨s1, s2, s3⟩ | ⟨s1, s1', s2, s3⟩ | ⟨s1, s1', s2, s3⟩
        · rw [s2, s3] at cm
          have CM := Lib.hid cm
          have lb : N < 18446744073709551616 := by have := LNN.out; omega
          have ca : ∀ wq, Own w wq (w.heap.size + 1) 56 (clk N) → Calls Try.prog 24 #[.pointer (some ⟨w.heap.size + 1, 0, none⟩), .int .u64 m] wq fun e w' => e = .returned (.int .u64 (tmin (satAdd N m) : Nat)) ∧ Own w w' (w.heap.size + 1) 56 (clk N) := fun wq ho => after_own (w.heap.size + 1) N m lb LM.out w wq ho
          have cr := radd_any N m lb LM.out
          generalize satAdd N m = s at ca cr
          have ss : (s < 4611686018427387904 ∧ tmin s = s) ∨ (4611686018427387904 < s ∧ tmin s = 4611686018427387904) ∨ s = 4611686018427387904 ∧ tmin s = 4611686018427387904 := by rw [tmin_eq]; omega
          have HB := Lib.hid (show N ≤ 4611686018427387904 by first | exact LNN.out | omega)
          clear cm s2 s3 lb
          rcases ss with ⟨t1, t2⟩ | ⟨t1, t2⟩ | ⟨t1, t2⟩
          all_goals
            rw [t2] at ca
            try subst t1
            have CA := Lib.hid ca
            have CR := Lib.hid cr
            clear ca cr t2
            go_wp2_with fail
            refine wp_region_held_drew (S := fun wq => wq.cell? ⟨b, off + k, none⟩ = some (.int .u64 n) ∧ wq.cell? ⟨b', off' + k, none⟩ = some (.int .u64 m)) (by kernel_rfl) ⟨hck, hck2⟩ (fun hHeld => ?_)
            refine wpAnyH_take (i := 0) (oi := { dst := some 48, op := Go.Op.move (Go.Operand.tmp 7), type := 34, pos := "law.go:33", after := #[], guard := none }) (v := ?_) rfl (by kernel_rfl) (by kernel_rfl) (by kernel_rfl) (fun _ _ _ h => h) (Or.inl ⟨by rfl, ?_⟩) (by assumption) ?_
            (rotate_left; focus (intro wx hSw; (try dsimp only at hSw); go_simp; try with_reducible rfl))
            (try simp only [Act.put, List.setIfInBounds_toArray, List.set_cons_zero, List.set_cons_succ])  -- 0 move none
            refine wpAnyH_take (i := 1) (oi := { dst := some 49, op := Go.Op.move (Go.Operand.tmp 1), type := 33, pos := "law.go:33", after := #[], guard := none }) (v := ?_) rfl (by kernel_rfl) (by kernel_rfl) (by kernel_rfl) (fun _ _ _ h => h) (Or.inl ⟨by rfl, ?_⟩) (by assumption) ?_
            (rotate_left; focus (intro wx hSw; (try dsimp only at hSw); go_simp; try with_reducible rfl))
            (try simp only [Act.put, List.setIfInBounds_toArray, List.set_cons_zero, List.set_cons_succ])  -- 1 move none
            refine wpAnyH_take (i := 2) (oi := { dst := some 50, op := Go.Op.move (Go.Operand.tmp 9), type := 3, pos := "law.go:33", after := #[], guard := none }) (v := ?_) rfl (by kernel_rfl) (by kernel_rfl) (by kernel_rfl) (fun _ _ _ h => h) (Or.inl ⟨by rfl, ?_⟩) (by assumption) ?_
            (rotate_left; focus (intro wx hSw; (try dsimp only at hSw); go_simp; try with_reducible rfl))
            (try simp only [Act.put, List.setIfInBounds_toArray, List.set_cons_zero, List.set_cons_succ])  -- 2 move none
            refine wpAnyH_take (i := 3) (oi := { dst := some 51, op := Go.Op.indexAddr 33 (Go.Operand.tmp 49) (Go.Operand.tmp 50), type := 0, pos := "law.go:33", after := #[{ on := 1, ground := Go.Ground.data }, { on := 2, ground := Go.Ground.data }], guard := none }) (v := ?_) rfl (by kernel_rfl) (by kernel_rfl) (by kernel_rfl) (fun _ _ _ h => h) (Or.inl ⟨by rfl, ?_⟩) (by assumption) ?_
            (rotate_left; focus (intro wx hSw; (try dsimp only at hSw); go_simp; try with_reducible rfl))
            (try simp only [Act.put, List.setIfInBounds_toArray, List.set_cons_zero, List.set_cons_succ])  -- 3 indexAddr none
            refine wpAnyH_take (i := 4) (oi := { dst := some 52, op := Go.Op.load 22 (Go.Operand.tmp 51), type := 22, pos := "law.go:33", after := #[{ on := 3, ground := Go.Ground.data }], guard := none }) (v := ?_) rfl (by kernel_rfl) (by kernel_rfl) (by kernel_rfl) (fun _ _ _ h => h) (Or.inl ⟨by rfl, ?_⟩) (by assumption) ?_
            (rotate_left; focus (intro wx hSw; (try dsimp only at hSw); go_simp; try with_reducible rfl))
            (try simp only [Act.put, List.setIfInBounds_toArray, List.set_cons_zero, List.set_cons_succ])  -- 4 load none
            refine wpAnyH_take (i := 6) (oi := { dst := some 54, op := Go.Op.move (Go.Operand.tmp 10), type := 36, pos := "law.go:33", after := #[], guard := none }) (v := ?_) rfl (by kernel_rfl) (by kernel_rfl) (by kernel_rfl) (fun _ _ _ h => h) (Or.inl ⟨by rfl, ?_⟩) (by assumption) ?_
            (rotate_left; focus (intro wx hSw; (try dsimp only at hSw); go_simp; try with_reducible rfl))
            (try simp only [Act.put, List.setIfInBounds_toArray, List.set_cons_zero, List.set_cons_succ])  -- 6 move none
            refine wpAnyH_ready (rs := [5]) (by kernel_rfl) (by simp) ?_
            refine AllReadyH.cons (o := { dst := some 53, op := Go.Op.call { callee := Go.Callee.value (Go.Operand.func 22), args := #[Go.Operand.tmp 48, Go.Operand.tmp 52], argTypes := #[34, 22] }, type := 36, pos := "law.go:33", after := #[{ on := 0, ground := Go.Ground.data }, { on := 4, ground := Go.Ground.data }], guard := none }) rfl (fun K hK => ?_) AllReadyH.nil
            go_simp
            refine (CM.out _ HO.out.drew).mono ?_; rintro e w5 ⟨rfl, o5⟩
            refine hK.out _ _ ?_ (fun hHeld => ?_)
            focus exact ⟨(o5.2.1.cell (p := ⟨b, off + k, none⟩) hb).trans HC.out, (o5.2.1.cell (p := ⟨b', off' + k, none⟩) hb').trans HC2.out⟩
            clear hK K
            (try simp only [Act.put, List.setIfInBounds_toArray, List.set_cons_zero, List.set_cons_succ])  -- 5 call none
            refine wpAnyH_take (i := 7) (oi := { dst := some 55, op := Go.Op.binOp Go.BinOp.neq 36 (Go.Operand.tmp 53) (Go.Operand.tmp 54) 36, type := 4, pos := "law.go:33", after := #[{ on := 5, ground := Go.Ground.data }, { on := 6, ground := Go.Ground.data }], guard := none }) (v := ?_) rfl (by kernel_rfl) (by kernel_rfl) (by kernel_rfl) (fun _ _ _ h => h) (Or.inl ⟨by rfl, ?_⟩) (by assumption) ?_
            (rotate_left; focus (intro wx hSw; (try dsimp only at hSw); go_simp; try with_reducible rfl))
            (try simp only [Act.put, List.setIfInBounds_toArray, List.set_cons_zero, List.set_cons_succ])  -- 7 binOp none
            refine wpAnyH_take (i := 8) (oi := { dst := some 56, op := Go.Op.move (Go.Operand.tmp 55), type := 4, pos := "law.go:33", after := #[{ on := 7, ground := Go.Ground.data }, { on := 5, ground := Go.Ground.chain }], guard := none }) (v := ?_) rfl (by kernel_rfl) (by kernel_rfl) (by kernel_rfl) (fun _ _ _ h => h) (Or.inl ⟨by rfl, ?_⟩) (by assumption) ?_
            (rotate_left; focus (intro wx hSw; (try dsimp only at hSw); go_simp; try with_reducible rfl))
            (try simp only [Act.put, List.setIfInBounds_toArray, List.set_cons_zero, List.set_cons_succ])  -- 8 move none
            refine wpAnyH_take (i := 9) (oi := { dst := some 57, op := Go.Op.move (Go.Operand.tmp 7), type := 34, pos := "law.go:33", after := #[{ on := 8, ground := Go.Ground.guard }], guard := some (8, false) }) (v := ?_) rfl (by kernel_rfl) (by kernel_rfl) (by kernel_rfl) (fun _ _ _ h => h) (Or.inl ⟨by rfl, ?_⟩) (by assumption) ?_
            (rotate_left; focus (intro wx hSw; (try dsimp only at hSw); go_simp; try with_reducible rfl))
            (try simp only [Act.put, List.setIfInBounds_toArray, List.set_cons_zero, List.set_cons_succ])  -- 9 move some (8, false)
            refine wpAnyH_take (i := 11) (oi := { dst := some 59, op := Go.Op.move (Go.Operand.tmp 8), type := 22, pos := "law.go:33", after := #[{ on := 8, ground := Go.Ground.guard }], guard := some (8, false) }) (v := ?_) rfl (by kernel_rfl) (by kernel_rfl) (by kernel_rfl) (fun _ _ _ h => h) (Or.inl ⟨by rfl, ?_⟩) (by assumption) ?_
            (rotate_left; focus (intro wx hSw; (try dsimp only at hSw); go_simp; try with_reducible rfl))
            (try simp only [Act.put, List.setIfInBounds_toArray, List.set_cons_zero, List.set_cons_succ])  -- 11 move some (8, false)
            refine wpAnyH_ready (rs := [10]) (by kernel_rfl) (by simp) ?_
            refine AllReadyH.cons (o := { dst := some 58, op := Go.Op.call { callee := Go.Callee.value (Go.Operand.func 23), args := #[Go.Operand.tmp 57], argTypes := #[34] }, type := 22, pos := "law.go:33", after := #[{ on := 9, ground := Go.Ground.data }, { on := 8, ground := Go.Ground.chain }, { on := 8, ground := Go.Ground.guard }], guard := some (8, false) }) rfl (fun K hK => ?_) AllReadyH.nil
            go_simp
            refine (now_any _ _ _ o5.1).mono ?_; rintro e w6 ⟨rfl, rfl⟩
            refine hK.out _ _ ?_ (fun hHeld => ?_)
            focus assumption
            clear hK K
            (try simp only [Act.put, List.setIfInBounds_toArray, List.set_cons_zero, List.set_cons_succ])  -- 10 call some (8, false)
            refine wpAnyH_take (i := 12) (oi := { dst := some 60, op := Go.Op.binOp Go.BinOp.neq 22 (Go.Operand.tmp 58) (Go.Operand.tmp 59) 22, type := 4, pos := "law.go:33", after := #[{ on := 10, ground := Go.Ground.data }, { on := 11, ground := Go.Ground.data }, { on := 8, ground := Go.Ground.guard }], guard := some (8, false) }) (v := ?_) rfl (by kernel_rfl) (by kernel_rfl) (by kernel_rfl) (fun _ _ _ h => h) (Or.inl ⟨by rfl, ?_⟩) (by assumption) ?_
            (rotate_left; focus (intro wx hSw; (try dsimp only at hSw); go_simp; try with_reducible rfl))
            (try simp only [Act.put, List.setIfInBounds_toArray, List.set_cons_zero, List.set_cons_succ])  -- 12 binOp some (8, false)
            refine wpAnyH_take (i := 13) (oi := { dst := some 61, op := Go.Op.pick (Go.Operand.tmp 56) (Go.Operand.const (Go.Value.bool true)) (Go.Operand.tmp 60), type := 4, pos := "law.go:33", after := #[{ on := 8, ground := Go.Ground.data }, { on := 12, ground := Go.Ground.data }], guard := none }) (v := ?_) rfl (by kernel_rfl) (by kernel_rfl) (by kernel_rfl) (fun _ _ _ h => h) (Or.inl ⟨by rfl, ?_⟩) (by assumption) ?_
            (rotate_left; focus (intro wx hSw; (try dsimp only at hSw); go_simp; try with_reducible rfl))
            (try simp only [Act.put, List.setIfInBounds_toArray, List.set_cons_zero, List.set_cons_succ])  -- 13 pick none
            refine wpAnyH_take (i := 14) (oi := { dst := some 62, op := Go.Op.move (Go.Operand.tmp 61), type := 4, pos := "law.go:33", after := #[{ on := 13, ground := Go.Ground.data }, { on := 10, ground := Go.Ground.chain }], guard := none }) (v := ?_) rfl (by kernel_rfl) (by kernel_rfl) (by kernel_rfl) (fun _ _ _ h => h) (Or.inl ⟨by rfl, ?_⟩) (by assumption) ?_
            (rotate_left; focus (intro wx hSw; (try dsimp only at hSw); go_simp; try with_reducible rfl))
            (try simp only [Act.put, List.setIfInBounds_toArray, List.set_cons_zero, List.set_cons_succ])  -- 14 move none
            refine wpAnyH_take (i := 15) (oi := { dst := some 63, op := Go.Op.move (Go.Operand.tmp 9), type := 3, pos := "law.go:33", after := #[{ on := 14, ground := Go.Ground.guard }], guard := some (14, false) }) (v := ?_) rfl (by kernel_rfl) (by kernel_rfl) (by kernel_rfl) (fun _ _ _ h => h) (Or.inl ⟨by rfl, ?_⟩) (by assumption) ?_
            (rotate_left; focus (intro wx hSw; (try dsimp only at hSw); go_simp; try with_reducible rfl))
            (try simp only [Act.put, List.setIfInBounds_toArray, List.set_cons_zero, List.set_cons_succ])  -- 15 move some (14, false)
            refine wpAnyH_take (i := 16) (oi := { dst := some 64, op := Go.Op.move (Go.Operand.tmp 2), type := 33, pos := "law.go:33", after := #[{ on := 14, ground := Go.Ground.guard }], guard := some (14, false) }) (v := ?_) rfl (by kernel_rfl) (by kernel_rfl) (by kernel_rfl) (fun _ _ _ h => h) (Or.inl ⟨by rfl, ?_⟩) (by assumption) ?_
            (rotate_left; focus (intro wx hSw; (try dsimp only at hSw); go_simp; try with_reducible rfl))
            (try simp only [Act.put, List.setIfInBounds_toArray, List.set_cons_zero, List.set_cons_succ])  -- 16 move some (14, false)
            refine wpAnyH_take (i := 17) (oi := { dst := some 65, op := Go.Op.call { callee := Go.Callee.builtin Go.Builtin.len, args := #[Go.Operand.tmp 64], argTypes := #[33] }, type := 3, pos := "law.go:33", after := #[{ on := 16, ground := Go.Ground.data }, { on := 14, ground := Go.Ground.guard }], guard := some (14, false) }) (v := ?_) rfl (by kernel_rfl) (by kernel_rfl) (by kernel_rfl) (fun _ _ _ h => h) (Or.inl ⟨by rfl, ?_⟩) (by assumption) ?_
            (rotate_left; focus (intro wx hSw; (try dsimp only at hSw); go_simp; try with_reducible rfl))
            (try simp only [Act.put, List.setIfInBounds_toArray, List.set_cons_zero, List.set_cons_succ])  -- 17 call some (14, false)
            refine wpAnyH_take (i := 18) (oi := { dst := some 66, op := Go.Op.binOp Go.BinOp.lss 3 (Go.Operand.tmp 63) (Go.Operand.tmp 65) 3, type := 4, pos := "law.go:33", after := #[{ on := 15, ground := Go.Ground.data }, { on := 17, ground := Go.Ground.data }, { on := 14, ground := Go.Ground.guard }], guard := some (14, false) }) (v := ?_) rfl (by kernel_rfl) (by kernel_rfl) (by kernel_rfl) (fun _ _ _ h => h) (Or.inl ⟨by rfl, ?_⟩) (by assumption) ?_
            (rotate_left; focus (intro wx hSw; (try dsimp only at hSw); go_simp; try with_reducible rfl))
            (try simp only [Act.put, List.setIfInBounds_toArray, List.set_cons_zero, List.set_cons_succ])  -- 18 binOp some (14, false)
            refine wpAnyH_take (i := 19) (oi := { dst := some 67, op := Go.Op.move (Go.Operand.tmp 66), type := 4, pos := "law.go:33", after := #[{ on := 18, ground := Go.Ground.data }, { on := 14, ground := Go.Ground.chain }, { on := 14, ground := Go.Ground.guard }], guard := some (14, false) }) (v := ?_) rfl (by kernel_rfl) (by kernel_rfl) (by kernel_rfl) (fun _ _ _ h => h) (Or.inl ⟨by rfl, ?_⟩) (by assumption) ?_
            (rotate_left; focus (intro wx hSw; (try dsimp only at hSw); go_simp; try with_reducible rfl))
            (try simp only [Act.put, List.setIfInBounds_toArray, List.set_cons_zero, List.set_cons_succ])  -- 19 move some (14, false)
            refine wpAnyH_take (i := 20) (oi := { dst := some 68, op := Go.Op.move (Go.Operand.tmp 7), type := 34, pos := "law.go:33", after := #[{ on := 19, ground := Go.Ground.guard }], guard := some (19, true) }) (v := ?_) rfl (by kernel_rfl) (by kernel_rfl) (by kernel_rfl) (fun _ _ _ h => h) (Or.inl ⟨by rfl, ?_⟩) (by assumption) ?_
            (rotate_left; focus (intro wx hSw; (try dsimp only at hSw); go_simp; try with_reducible rfl))
            (try simp only [Act.put, List.setIfInBounds_toArray, List.set_cons_zero, List.set_cons_succ])  -- 20 move some (19, true)
            refine wpAnyH_take (i := 21) (oi := { dst := some 69, op := Go.Op.move (Go.Operand.tmp 2), type := 33, pos := "law.go:33", after := #[{ on := 19, ground := Go.Ground.guard }], guard := some (19, true) }) (v := ?_) rfl (by kernel_rfl) (by kernel_rfl) (by kernel_rfl) (fun _ _ _ h => h) (Or.inl ⟨by rfl, ?_⟩) (by assumption) ?_
            (rotate_left; focus (intro wx hSw; (try dsimp only at hSw); go_simp; try with_reducible rfl))
            (try simp only [Act.put, List.setIfInBounds_toArray, List.set_cons_zero, List.set_cons_succ])  -- 21 move some (19, true)
            refine wpAnyH_take (i := 22) (oi := { dst := some 70, op := Go.Op.move (Go.Operand.tmp 9), type := 3, pos := "law.go:33", after := #[{ on := 19, ground := Go.Ground.guard }], guard := some (19, true) }) (v := ?_) rfl (by kernel_rfl) (by kernel_rfl) (by kernel_rfl) (fun _ _ _ h => h) (Or.inl ⟨by rfl, ?_⟩) (by assumption) ?_
            (rotate_left; focus (intro wx hSw; (try dsimp only at hSw); go_simp; try with_reducible rfl))
            (try simp only [Act.put, List.setIfInBounds_toArray, List.set_cons_zero, List.set_cons_succ])  -- 22 move some (19, true)
            refine wpAnyH_take (i := 23) (oi := { dst := some 71, op := Go.Op.indexAddr 33 (Go.Operand.tmp 69) (Go.Operand.tmp 70), type := 0, pos := "law.go:33", after := #[{ on := 21, ground := Go.Ground.data }, { on := 22, ground := Go.Ground.data }, { on := 19, ground := Go.Ground.guard }], guard := some (19, true) }) (v := ?_) rfl (by kernel_rfl) (by kernel_rfl) (by kernel_rfl) (fun _ _ _ h => h) (Or.inl ⟨by rfl, ?_⟩) (by assumption) ?_
            (rotate_left; focus (intro wx hSw; (try dsimp only at hSw); go_simp; try with_reducible rfl))
            (try simp only [Act.put, List.setIfInBounds_toArray, List.set_cons_zero, List.set_cons_succ])  -- 23 indexAddr some (19, true)
            refine wpAnyH_take (i := 24) (oi := { dst := some 72, op := Go.Op.load 22 (Go.Operand.tmp 71), type := 22, pos := "law.go:33", after := #[{ on := 23, ground := Go.Ground.data }, { on := 19, ground := Go.Ground.guard }], guard := some (19, true) }) (v := ?_) rfl (by kernel_rfl) (by kernel_rfl) (by kernel_rfl) (fun _ _ _ h => h) (Or.inl ⟨by rfl, ?_⟩) (by assumption) ?_
            (rotate_left; focus (intro wx hSw; (try dsimp only at hSw); go_simp; try with_reducible rfl))
            (try simp only [Act.put, List.setIfInBounds_toArray, List.set_cons_zero, List.set_cons_succ])  -- 24 load some (19, true)
            refine wpAnyH_take (i := 26) (oi := { dst := some 74, op := Go.Op.move (Go.Operand.tmp 8), type := 22, pos := "law.go:33", after := #[{ on := 19, ground := Go.Ground.guard }], guard := some (19, true) }) (v := ?_) rfl (by kernel_rfl) (by kernel_rfl) (by kernel_rfl) (fun _ _ _ h => h) (Or.inl ⟨by rfl, ?_⟩) (by assumption) ?_
            (rotate_left; focus (intro wx hSw; (try dsimp only at hSw); go_simp; try with_reducible rfl))
            (try simp only [Act.put, List.setIfInBounds_toArray, List.set_cons_zero, List.set_cons_succ])  -- 26 move some (19, true)
            refine wpAnyH_take (i := 27) (oi := { dst := some 75, op := Go.Op.move (Go.Operand.tmp 2), type := 33, pos := "law.go:33", after := #[{ on := 19, ground := Go.Ground.guard }], guard := some (19, true) }) (v := ?_) rfl (by kernel_rfl) (by kernel_rfl) (by kernel_rfl) (fun _ _ _ h => h) (Or.inl ⟨by rfl, ?_⟩) (by assumption) ?_
            (rotate_left; focus (intro wx hSw; (try dsimp only at hSw); go_simp; try with_reducible rfl))
            (try simp only [Act.put, List.setIfInBounds_toArray, List.set_cons_zero, List.set_cons_succ])  -- 27 move some (19, true)
            refine wpAnyH_take (i := 28) (oi := { dst := some 76, op := Go.Op.move (Go.Operand.tmp 9), type := 3, pos := "law.go:33", after := #[{ on := 19, ground := Go.Ground.guard }], guard := some (19, true) }) (v := ?_) rfl (by kernel_rfl) (by kernel_rfl) (by kernel_rfl) (fun _ _ _ h => h) (Or.inl ⟨by rfl, ?_⟩) (by assumption) ?_
            (rotate_left; focus (intro wx hSw; (try dsimp only at hSw); go_simp; try with_reducible rfl))
            (try simp only [Act.put, List.setIfInBounds_toArray, List.set_cons_zero, List.set_cons_succ])  -- 28 move some (19, true)
            refine wpAnyH_take (i := 29) (oi := { dst := some 77, op := Go.Op.indexAddr 33 (Go.Operand.tmp 75) (Go.Operand.tmp 76), type := 0, pos := "law.go:33", after := #[{ on := 27, ground := Go.Ground.data }, { on := 28, ground := Go.Ground.data }, { on := 19, ground := Go.Ground.guard }], guard := some (19, true) }) (v := ?_) rfl (by kernel_rfl) (by kernel_rfl) (by kernel_rfl) (fun _ _ _ h => h) (Or.inl ⟨by rfl, ?_⟩) (by assumption) ?_
            (rotate_left; focus (intro wx hSw; (try dsimp only at hSw); go_simp; try with_reducible rfl))
            (try simp only [Act.put, List.setIfInBounds_toArray, List.set_cons_zero, List.set_cons_succ])  -- 29 indexAddr some (19, true)
            refine wpAnyH_take (i := 30) (oi := { dst := some 78, op := Go.Op.load 22 (Go.Operand.tmp 77), type := 22, pos := "law.go:33", after := #[{ on := 29, ground := Go.Ground.data }, { on := 19, ground := Go.Ground.guard }], guard := some (19, true) }) (v := ?_) rfl (by kernel_rfl) (by kernel_rfl) (by kernel_rfl) (fun _ _ _ h => h) (Or.inl ⟨by rfl, ?_⟩) (by assumption) ?_
            (rotate_left; focus (intro wx hSw; (try dsimp only at hSw); go_simp; try with_reducible rfl))
            (try simp only [Act.put, List.setIfInBounds_toArray, List.set_cons_zero, List.set_cons_succ])  -- 30 load some (19, true)
            refine wpAnyH_ready (rs := [25]) (by kernel_rfl) (by simp) ?_
            refine AllReadyH.cons (o := { dst := some 73, op := Go.Op.call { callee := Go.Callee.value (Go.Operand.func 24), args := #[Go.Operand.tmp 68, Go.Operand.tmp 72], argTypes := #[34, 22] }, type := 22, pos := "law.go:33", after := #[{ on := 20, ground := Go.Ground.data }, { on := 24, ground := Go.Ground.data }, { on := 19, ground := Go.Ground.chain }, { on := 19, ground := Go.Ground.guard }], guard := some (19, true) }) rfl (fun K hK => ?_) AllReadyH.nil
            go_simp
            refine (CA.out _ o5).mono ?_; rintro e w7 ⟨rfl, o7⟩
            refine hK.out _ _ ?_ (fun hHeld => ?_)
            focus exact ⟨(o7.2.1.cell (p := ⟨b, off + k, none⟩) hb).trans HC.out, (o7.2.1.cell (p := ⟨b', off' + k, none⟩) hb').trans HC2.out⟩
            clear hK K
            (try simp only [Act.put, List.setIfInBounds_toArray, List.set_cons_zero, List.set_cons_succ])  -- 25 call some (19, true)
            refine wpAnyH_ready (rs := [31]) (by kernel_rfl) (by simp) ?_
            refine AllReadyH.cons (o := { dst := some 79, op := Go.Op.call { callee := Go.Callee.value (Go.Operand.func 25), args := #[Go.Operand.tmp 74, Go.Operand.tmp 78], argTypes := #[22, 22] }, type := 22, pos := "law.go:33", after := #[{ on := 26, ground := Go.Ground.data }, { on := 30, ground := Go.Ground.data }, { on := 25, ground := Go.Ground.chain }, { on := 19, ground := Go.Ground.guard }], guard := some (19, true) }) rfl (fun K hK => ?_) AllReadyH.nil
            go_simp
            refine (CR.out _).mono ?_; rintro e w8 ⟨rfl, rfl⟩
            refine hK.out _ _ ?_ (fun hHeld => ?_)
            focus assumption
            clear hK K
            (try simp only [Act.put, List.setIfInBounds_toArray, List.set_cons_zero, List.set_cons_succ])  -- 31 call some (19, true)
            refine wpAnyH_take (i := 32) (oi := { dst := some 80, op := Go.Op.call { callee := Go.Callee.builtin Go.Builtin.min, args := #[Go.Operand.tmp 79, Go.Operand.const (Go.Value.int Go.IntKind.u64 4611686018427387904)], argTypes := #[22, 22] }, type := 22, pos := "law.go:33", after := #[{ on := 31, ground := Go.Ground.data }, { on := 19, ground := Go.Ground.guard }], guard := some (19, true) }) (v := ?_) rfl (by kernel_rfl) (by kernel_rfl) (by kernel_rfl) (fun _ _ _ h => h) (Or.inl ⟨by rfl, ?_⟩) (by assumption) ?_
            (rotate_left; focus (intro wx hSw; (try dsimp only at hSw); go_simp; try with_reducible rfl))
            (try simp only [Act.put, List.setIfInBounds_toArray, List.set_cons_zero, List.set_cons_succ])  -- 32 call some (19, true)
            refine wpAnyH_take (i := 33) (oi := { dst := some 81, op := Go.Op.binOp Go.BinOp.neq 22 (Go.Operand.tmp 73) (Go.Operand.tmp 80) 22, type := 4, pos := "law.go:33", after := #[{ on := 25, ground := Go.Ground.data }, { on := 32, ground := Go.Ground.data }, { on := 19, ground := Go.Ground.guard }], guard := some (19, true) }) (v := ?_) rfl (by kernel_rfl) (by kernel_rfl) (by kernel_rfl) (fun _ _ _ h => h) (Or.inl ⟨by rfl, ?_⟩) (by assumption) ?_
            (rotate_left; focus (intro wx hSw; (try dsimp only at hSw); go_simp; try with_reducible rfl))
            (try simp only [Act.put, List.setIfInBounds_toArray, List.set_cons_zero, List.set_cons_succ])  -- 33 binOp some (19, true)
            refine wpAnyH_take (i := 34) (oi := { dst := some 82, op := Go.Op.pick (Go.Operand.tmp 67) (Go.Operand.tmp 81) (Go.Operand.const (Go.Value.bool false)), type := 4, pos := "law.go:33", after := #[{ on := 19, ground := Go.Ground.data }, { on := 33, ground := Go.Ground.data }, { on := 14, ground := Go.Ground.guard }], guard := some (14, false) }) (v := ?_) rfl (by kernel_rfl) (by kernel_rfl) (by kernel_rfl) (fun _ _ _ h => h) (Or.inl ⟨by rfl, ?_⟩) (by assumption) ?_
            (rotate_left; focus (intro wx hSw; (try dsimp only at hSw); go_simp; try with_reducible rfl))
            (try simp only [Act.put, List.setIfInBounds_toArray, List.set_cons_zero, List.set_cons_succ])  -- 34 pick some (14, false)
            refine wpAnyH_take (i := 35) (oi := { dst := some 83, op := Go.Op.pick (Go.Operand.tmp 62) (Go.Operand.const (Go.Value.bool true)) (Go.Operand.tmp 82), type := 4, pos := "law.go:33", after := #[{ on := 14, ground := Go.Ground.data }, { on := 34, ground := Go.Ground.data }], guard := none }) (v := ?_) rfl (by kernel_rfl) (by kernel_rfl) (by kernel_rfl) (fun _ _ _ h => h) (Or.inl ⟨by rfl, ?_⟩) (by assumption) ?_
            (rotate_left; focus (intro wx hSw; (try dsimp only at hSw); go_simp; try with_reducible rfl))
            (try simp only [Act.put, List.setIfInBounds_toArray, List.set_cons_zero, List.set_cons_succ])  -- 35 pick none
            refine wpAnyH_done (by kernel_rfl) ?_ _
            go_wp2
            go_roundw
            case rel => exact ⟨k + 1, N, by omega, by omega, HB.out, by simp, by simp, o7⟩
            case measure => simp [intOf]; omega
        · rw [s2, s3] at cm
          have CM := Lib.hid cm
          have lb : N < 18446744073709551616 := by have := LNN.out; omega
          have ca : ∀ wq, Own w wq (w.heap.size + 1) 56 (clk N) → Calls Try.prog 24 #[.pointer (some ⟨w.heap.size + 1, 0, none⟩), .int .u64 m] wq fun e w' => e = .returned (.int .u64 (tmin (satAdd N m) : Nat)) ∧ Own w w' (w.heap.size + 1) 56 (clk N) := fun wq ho => after_own (w.heap.size + 1) N m lb LM.out w wq ho
          have cr := radd_any N m lb LM.out
          generalize satAdd N m = s at ca cr
          have ss : (s < 4611686018427387904 ∧ tmin s = s) ∨ (4611686018427387904 < s ∧ tmin s = 4611686018427387904) ∨ s = 4611686018427387904 ∧ tmin s = 4611686018427387904 := by rw [tmin_eq]; omega
          have HB := Lib.hid (show N ≤ 4611686018427387904 by first | exact LNN.out | omega)
          clear cm s2 s3 lb
          rcases ss with ⟨t1, t2⟩ | ⟨t1, t2⟩ | ⟨t1, t2⟩
          all_goals
            rw [t2] at ca
            try subst t1
            have CA := Lib.hid ca
            have CR := Lib.hid cr
            clear ca cr t2
            go_wp2_with fail
            refine wp_region_held_drew (S := fun wq => wq.cell? ⟨b, off + k, none⟩ = some (.int .u64 n) ∧ wq.cell? ⟨b', off' + k, none⟩ = some (.int .u64 m)) (by kernel_rfl) ⟨hck, hck2⟩ (fun hHeld => ?_)
            refine wpAnyH_take (i := 0) (oi := { dst := some 48, op := Go.Op.move (Go.Operand.tmp 7), type := 34, pos := "law.go:33", after := #[], guard := none }) (v := ?_) rfl (by kernel_rfl) (by kernel_rfl) (by kernel_rfl) (fun _ _ _ h => h) (Or.inl ⟨by rfl, ?_⟩) (by assumption) ?_
            (rotate_left; focus (intro wx hSw; (try dsimp only at hSw); go_simp; try with_reducible rfl))
            (try simp only [Act.put, List.setIfInBounds_toArray, List.set_cons_zero, List.set_cons_succ])  -- 0 move none
            refine wpAnyH_take (i := 1) (oi := { dst := some 49, op := Go.Op.move (Go.Operand.tmp 1), type := 33, pos := "law.go:33", after := #[], guard := none }) (v := ?_) rfl (by kernel_rfl) (by kernel_rfl) (by kernel_rfl) (fun _ _ _ h => h) (Or.inl ⟨by rfl, ?_⟩) (by assumption) ?_
            (rotate_left; focus (intro wx hSw; (try dsimp only at hSw); go_simp; try with_reducible rfl))
            (try simp only [Act.put, List.setIfInBounds_toArray, List.set_cons_zero, List.set_cons_succ])  -- 1 move none
            refine wpAnyH_take (i := 2) (oi := { dst := some 50, op := Go.Op.move (Go.Operand.tmp 9), type := 3, pos := "law.go:33", after := #[], guard := none }) (v := ?_) rfl (by kernel_rfl) (by kernel_rfl) (by kernel_rfl) (fun _ _ _ h => h) (Or.inl ⟨by rfl, ?_⟩) (by assumption) ?_
            (rotate_left; focus (intro wx hSw; (try dsimp only at hSw); go_simp; try with_reducible rfl))
            (try simp only [Act.put, List.setIfInBounds_toArray, List.set_cons_zero, List.set_cons_succ])  -- 2 move none
            refine wpAnyH_take (i := 3) (oi := { dst := some 51, op := Go.Op.indexAddr 33 (Go.Operand.tmp 49) (Go.Operand.tmp 50), type := 0, pos := "law.go:33", after := #[{ on := 1, ground := Go.Ground.data }, { on := 2, ground := Go.Ground.data }], guard := none }) (v := ?_) rfl (by kernel_rfl) (by kernel_rfl) (by kernel_rfl) (fun _ _ _ h => h) (Or.inl ⟨by rfl, ?_⟩) (by assumption) ?_
            (rotate_left; focus (intro wx hSw; (try dsimp only at hSw); go_simp; try with_reducible rfl))
            (try simp only [Act.put, List.setIfInBounds_toArray, List.set_cons_zero, List.set_cons_succ])  -- 3 indexAddr none
            refine wpAnyH_take (i := 4) (oi := { dst := some 52, op := Go.Op.load 22 (Go.Operand.tmp 51), type := 22, pos := "law.go:33", after := #[{ on := 3, ground := Go.Ground.data }], guard := none }) (v := ?_) rfl (by kernel_rfl) (by kernel_rfl) (by kernel_rfl) (fun _ _ _ h => h) (Or.inl ⟨by rfl, ?_⟩) (by assumption) ?_
            (rotate_left; focus (intro wx hSw; (try dsimp only at hSw); go_simp; try with_reducible rfl))
            (try simp only [Act.put, List.setIfInBounds_toArray, List.set_cons_zero, List.set_cons_succ])  -- 4 load none
            refine wpAnyH_take (i := 6) (oi := { dst := some 54, op := Go.Op.move (Go.Operand.tmp 10), type := 36, pos := "law.go:33", after := #[], guard := none }) (v := ?_) rfl (by kernel_rfl) (by kernel_rfl) (by kernel_rfl) (fun _ _ _ h => h) (Or.inl ⟨by rfl, ?_⟩) (by assumption) ?_
            (rotate_left; focus (intro wx hSw; (try dsimp only at hSw); go_simp; try with_reducible rfl))
            (try simp only [Act.put, List.setIfInBounds_toArray, List.set_cons_zero, List.set_cons_succ])  -- 6 move none
            refine wpAnyH_ready (rs := [5]) (by kernel_rfl) (by simp) ?_
            refine AllReadyH.cons (o := { dst := some 53, op := Go.Op.call { callee := Go.Callee.value (Go.Operand.func 22), args := #[Go.Operand.tmp 48, Go.Operand.tmp 52], argTypes := #[34, 22] }, type := 36, pos := "law.go:33", after := #[{ on := 0, ground := Go.Ground.data }, { on := 4, ground := Go.Ground.data }], guard := none }) rfl (fun K hK => ?_) AllReadyH.nil
            go_simp
            refine (CM.out _ HO.out.drew).mono ?_; rintro e w5 ⟨rfl, o5⟩
            refine hK.out _ _ ?_ (fun hHeld => ?_)
            focus exact ⟨(o5.2.1.cell (p := ⟨b, off + k, none⟩) hb).trans HC.out, (o5.2.1.cell (p := ⟨b', off' + k, none⟩) hb').trans HC2.out⟩
            clear hK K
            (try simp only [Act.put, List.setIfInBounds_toArray, List.set_cons_zero, List.set_cons_succ])  -- 5 call none
            refine wpAnyH_take (i := 7) (oi := { dst := some 55, op := Go.Op.binOp Go.BinOp.neq 36 (Go.Operand.tmp 53) (Go.Operand.tmp 54) 36, type := 4, pos := "law.go:33", after := #[{ on := 5, ground := Go.Ground.data }, { on := 6, ground := Go.Ground.data }], guard := none }) (v := ?_) rfl (by kernel_rfl) (by kernel_rfl) (by kernel_rfl) (fun _ _ _ h => h) (Or.inl ⟨by rfl, ?_⟩) (by assumption) ?_
            (rotate_left; focus (intro wx hSw; (try dsimp only at hSw); go_simp; try with_reducible rfl))
            (try simp only [Act.put, List.setIfInBounds_toArray, List.set_cons_zero, List.set_cons_succ])  -- 7 binOp none
            refine wpAnyH_take (i := 8) (oi := { dst := some 56, op := Go.Op.move (Go.Operand.tmp 55), type := 4, pos := "law.go:33", after := #[{ on := 7, ground := Go.Ground.data }, { on := 5, ground := Go.Ground.chain }], guard := none }) (v := ?_) rfl (by kernel_rfl) (by kernel_rfl) (by kernel_rfl) (fun _ _ _ h => h) (Or.inl ⟨by rfl, ?_⟩) (by assumption) ?_
            (rotate_left; focus (intro wx hSw; (try dsimp only at hSw); go_simp; try with_reducible rfl))
            (try simp only [Act.put, List.setIfInBounds_toArray, List.set_cons_zero, List.set_cons_succ])  -- 8 move none
            refine wpAnyH_take (i := 9) (oi := { dst := some 57, op := Go.Op.move (Go.Operand.tmp 7), type := 34, pos := "law.go:33", after := #[{ on := 8, ground := Go.Ground.guard }], guard := some (8, false) }) (v := ?_) rfl (by kernel_rfl) (by kernel_rfl) (by kernel_rfl) (fun _ _ _ h => h) (Or.inl ⟨by rfl, ?_⟩) (by assumption) ?_
            (rotate_left; focus (intro wx hSw; (try dsimp only at hSw); go_simp; try with_reducible rfl))
            (try simp only [Act.put, List.setIfInBounds_toArray, List.set_cons_zero, List.set_cons_succ])  -- 9 move some (8, false)
            refine wpAnyH_take (i := 11) (oi := { dst := some 59, op := Go.Op.move (Go.Operand.tmp 8), type := 22, pos := "law.go:33", after := #[{ on := 8, ground := Go.Ground.guard }], guard := some (8, false) }) (v := ?_) rfl (by kernel_rfl) (by kernel_rfl) (by kernel_rfl) (fun _ _ _ h => h) (Or.inl ⟨by rfl, ?_⟩) (by assumption) ?_
            (rotate_left; focus (intro wx hSw; (try dsimp only at hSw); go_simp; try with_reducible rfl))
            (try simp only [Act.put, List.setIfInBounds_toArray, List.set_cons_zero, List.set_cons_succ])  -- 11 move some (8, false)
            refine wpAnyH_ready (rs := [10]) (by kernel_rfl) (by simp) ?_
            refine AllReadyH.cons (o := { dst := some 58, op := Go.Op.call { callee := Go.Callee.value (Go.Operand.func 23), args := #[Go.Operand.tmp 57], argTypes := #[34] }, type := 22, pos := "law.go:33", after := #[{ on := 9, ground := Go.Ground.data }, { on := 8, ground := Go.Ground.chain }, { on := 8, ground := Go.Ground.guard }], guard := some (8, false) }) rfl (fun K hK => ?_) AllReadyH.nil
            go_simp
            refine (now_any _ _ _ o5.1).mono ?_; rintro e w6 ⟨rfl, rfl⟩
            refine hK.out _ _ ?_ (fun hHeld => ?_)
            focus assumption
            clear hK K
            (try simp only [Act.put, List.setIfInBounds_toArray, List.set_cons_zero, List.set_cons_succ])  -- 10 call some (8, false)
            refine wpAnyH_take (i := 12) (oi := { dst := some 60, op := Go.Op.binOp Go.BinOp.neq 22 (Go.Operand.tmp 58) (Go.Operand.tmp 59) 22, type := 4, pos := "law.go:33", after := #[{ on := 10, ground := Go.Ground.data }, { on := 11, ground := Go.Ground.data }, { on := 8, ground := Go.Ground.guard }], guard := some (8, false) }) (v := ?_) rfl (by kernel_rfl) (by kernel_rfl) (by kernel_rfl) (fun _ _ _ h => h) (Or.inl ⟨by rfl, ?_⟩) (by assumption) ?_
            (rotate_left; focus (intro wx hSw; (try dsimp only at hSw); go_simp; try with_reducible rfl))
            (try simp only [Act.put, List.setIfInBounds_toArray, List.set_cons_zero, List.set_cons_succ])  -- 12 binOp some (8, false)
            refine wpAnyH_take (i := 13) (oi := { dst := some 61, op := Go.Op.pick (Go.Operand.tmp 56) (Go.Operand.const (Go.Value.bool true)) (Go.Operand.tmp 60), type := 4, pos := "law.go:33", after := #[{ on := 8, ground := Go.Ground.data }, { on := 12, ground := Go.Ground.data }], guard := none }) (v := ?_) rfl (by kernel_rfl) (by kernel_rfl) (by kernel_rfl) (fun _ _ _ h => h) (Or.inl ⟨by rfl, ?_⟩) (by assumption) ?_
            (rotate_left; focus (intro wx hSw; (try dsimp only at hSw); go_simp; try with_reducible rfl))
            (try simp only [Act.put, List.setIfInBounds_toArray, List.set_cons_zero, List.set_cons_succ])  -- 13 pick none
            refine wpAnyH_take (i := 14) (oi := { dst := some 62, op := Go.Op.move (Go.Operand.tmp 61), type := 4, pos := "law.go:33", after := #[{ on := 13, ground := Go.Ground.data }, { on := 10, ground := Go.Ground.chain }], guard := none }) (v := ?_) rfl (by kernel_rfl) (by kernel_rfl) (by kernel_rfl) (fun _ _ _ h => h) (Or.inl ⟨by rfl, ?_⟩) (by assumption) ?_
            (rotate_left; focus (intro wx hSw; (try dsimp only at hSw); go_simp; try with_reducible rfl))
            (try simp only [Act.put, List.setIfInBounds_toArray, List.set_cons_zero, List.set_cons_succ])  -- 14 move none
            refine wpAnyH_take (i := 15) (oi := { dst := some 63, op := Go.Op.move (Go.Operand.tmp 9), type := 3, pos := "law.go:33", after := #[{ on := 14, ground := Go.Ground.guard }], guard := some (14, false) }) (v := ?_) rfl (by kernel_rfl) (by kernel_rfl) (by kernel_rfl) (fun _ _ _ h => h) (Or.inl ⟨by rfl, ?_⟩) (by assumption) ?_
            (rotate_left; focus (intro wx hSw; (try dsimp only at hSw); go_simp; try with_reducible rfl))
            (try simp only [Act.put, List.setIfInBounds_toArray, List.set_cons_zero, List.set_cons_succ])  -- 15 move some (14, false)
            refine wpAnyH_take (i := 16) (oi := { dst := some 64, op := Go.Op.move (Go.Operand.tmp 2), type := 33, pos := "law.go:33", after := #[{ on := 14, ground := Go.Ground.guard }], guard := some (14, false) }) (v := ?_) rfl (by kernel_rfl) (by kernel_rfl) (by kernel_rfl) (fun _ _ _ h => h) (Or.inl ⟨by rfl, ?_⟩) (by assumption) ?_
            (rotate_left; focus (intro wx hSw; (try dsimp only at hSw); go_simp; try with_reducible rfl))
            (try simp only [Act.put, List.setIfInBounds_toArray, List.set_cons_zero, List.set_cons_succ])  -- 16 move some (14, false)
            refine wpAnyH_take (i := 17) (oi := { dst := some 65, op := Go.Op.call { callee := Go.Callee.builtin Go.Builtin.len, args := #[Go.Operand.tmp 64], argTypes := #[33] }, type := 3, pos := "law.go:33", after := #[{ on := 16, ground := Go.Ground.data }, { on := 14, ground := Go.Ground.guard }], guard := some (14, false) }) (v := ?_) rfl (by kernel_rfl) (by kernel_rfl) (by kernel_rfl) (fun _ _ _ h => h) (Or.inl ⟨by rfl, ?_⟩) (by assumption) ?_
            (rotate_left; focus (intro wx hSw; (try dsimp only at hSw); go_simp; try with_reducible rfl))
            (try simp only [Act.put, List.setIfInBounds_toArray, List.set_cons_zero, List.set_cons_succ])  -- 17 call some (14, false)
            refine wpAnyH_take (i := 18) (oi := { dst := some 66, op := Go.Op.binOp Go.BinOp.lss 3 (Go.Operand.tmp 63) (Go.Operand.tmp 65) 3, type := 4, pos := "law.go:33", after := #[{ on := 15, ground := Go.Ground.data }, { on := 17, ground := Go.Ground.data }, { on := 14, ground := Go.Ground.guard }], guard := some (14, false) }) (v := ?_) rfl (by kernel_rfl) (by kernel_rfl) (by kernel_rfl) (fun _ _ _ h => h) (Or.inl ⟨by rfl, ?_⟩) (by assumption) ?_
            (rotate_left; focus (intro wx hSw; (try dsimp only at hSw); go_simp; try with_reducible rfl))
            (try simp only [Act.put, List.setIfInBounds_toArray, List.set_cons_zero, List.set_cons_succ])  -- 18 binOp some (14, false)
            refine wpAnyH_take (i := 19) (oi := { dst := some 67, op := Go.Op.move (Go.Operand.tmp 66), type := 4, pos := "law.go:33", after := #[{ on := 18, ground := Go.Ground.data }, { on := 14, ground := Go.Ground.chain }, { on := 14, ground := Go.Ground.guard }], guard := some (14, false) }) (v := ?_) rfl (by kernel_rfl) (by kernel_rfl) (by kernel_rfl) (fun _ _ _ h => h) (Or.inl ⟨by rfl, ?_⟩) (by assumption) ?_
            (rotate_left; focus (intro wx hSw; (try dsimp only at hSw); go_simp; try with_reducible rfl))
            (try simp only [Act.put, List.setIfInBounds_toArray, List.set_cons_zero, List.set_cons_succ])  -- 19 move some (14, false)
            refine wpAnyH_take (i := 20) (oi := { dst := some 68, op := Go.Op.move (Go.Operand.tmp 7), type := 34, pos := "law.go:33", after := #[{ on := 19, ground := Go.Ground.guard }], guard := some (19, true) }) (v := ?_) rfl (by kernel_rfl) (by kernel_rfl) (by kernel_rfl) (fun _ _ _ h => h) (Or.inl ⟨by rfl, ?_⟩) (by assumption) ?_
            (rotate_left; focus (intro wx hSw; (try dsimp only at hSw); go_simp; try with_reducible rfl))
            (try simp only [Act.put, List.setIfInBounds_toArray, List.set_cons_zero, List.set_cons_succ])  -- 20 move some (19, true)
            refine wpAnyH_take (i := 21) (oi := { dst := some 69, op := Go.Op.move (Go.Operand.tmp 2), type := 33, pos := "law.go:33", after := #[{ on := 19, ground := Go.Ground.guard }], guard := some (19, true) }) (v := ?_) rfl (by kernel_rfl) (by kernel_rfl) (by kernel_rfl) (fun _ _ _ h => h) (Or.inl ⟨by rfl, ?_⟩) (by assumption) ?_
            (rotate_left; focus (intro wx hSw; (try dsimp only at hSw); go_simp; try with_reducible rfl))
            (try simp only [Act.put, List.setIfInBounds_toArray, List.set_cons_zero, List.set_cons_succ])  -- 21 move some (19, true)
            refine wpAnyH_take (i := 22) (oi := { dst := some 70, op := Go.Op.move (Go.Operand.tmp 9), type := 3, pos := "law.go:33", after := #[{ on := 19, ground := Go.Ground.guard }], guard := some (19, true) }) (v := ?_) rfl (by kernel_rfl) (by kernel_rfl) (by kernel_rfl) (fun _ _ _ h => h) (Or.inl ⟨by rfl, ?_⟩) (by assumption) ?_
            (rotate_left; focus (intro wx hSw; (try dsimp only at hSw); go_simp; try with_reducible rfl))
            (try simp only [Act.put, List.setIfInBounds_toArray, List.set_cons_zero, List.set_cons_succ])  -- 22 move some (19, true)
            refine wpAnyH_take (i := 23) (oi := { dst := some 71, op := Go.Op.indexAddr 33 (Go.Operand.tmp 69) (Go.Operand.tmp 70), type := 0, pos := "law.go:33", after := #[{ on := 21, ground := Go.Ground.data }, { on := 22, ground := Go.Ground.data }, { on := 19, ground := Go.Ground.guard }], guard := some (19, true) }) (v := ?_) rfl (by kernel_rfl) (by kernel_rfl) (by kernel_rfl) (fun _ _ _ h => h) (Or.inl ⟨by rfl, ?_⟩) (by assumption) ?_
            (rotate_left; focus (intro wx hSw; (try dsimp only at hSw); go_simp; try with_reducible rfl))
            (try simp only [Act.put, List.setIfInBounds_toArray, List.set_cons_zero, List.set_cons_succ])  -- 23 indexAddr some (19, true)
            refine wpAnyH_take (i := 24) (oi := { dst := some 72, op := Go.Op.load 22 (Go.Operand.tmp 71), type := 22, pos := "law.go:33", after := #[{ on := 23, ground := Go.Ground.data }, { on := 19, ground := Go.Ground.guard }], guard := some (19, true) }) (v := ?_) rfl (by kernel_rfl) (by kernel_rfl) (by kernel_rfl) (fun _ _ _ h => h) (Or.inl ⟨by rfl, ?_⟩) (by assumption) ?_
            (rotate_left; focus (intro wx hSw; (try dsimp only at hSw); go_simp; try with_reducible rfl))
            (try simp only [Act.put, List.setIfInBounds_toArray, List.set_cons_zero, List.set_cons_succ])  -- 24 load some (19, true)
            refine wpAnyH_take (i := 26) (oi := { dst := some 74, op := Go.Op.move (Go.Operand.tmp 8), type := 22, pos := "law.go:33", after := #[{ on := 19, ground := Go.Ground.guard }], guard := some (19, true) }) (v := ?_) rfl (by kernel_rfl) (by kernel_rfl) (by kernel_rfl) (fun _ _ _ h => h) (Or.inl ⟨by rfl, ?_⟩) (by assumption) ?_
            (rotate_left; focus (intro wx hSw; (try dsimp only at hSw); go_simp; try with_reducible rfl))
            (try simp only [Act.put, List.setIfInBounds_toArray, List.set_cons_zero, List.set_cons_succ])  -- 26 move some (19, true)
            refine wpAnyH_take (i := 27) (oi := { dst := some 75, op := Go.Op.move (Go.Operand.tmp 2), type := 33, pos := "law.go:33", after := #[{ on := 19, ground := Go.Ground.guard }], guard := some (19, true) }) (v := ?_) rfl (by kernel_rfl) (by kernel_rfl) (by kernel_rfl) (fun _ _ _ h => h) (Or.inl ⟨by rfl, ?_⟩) (by assumption) ?_
            (rotate_left; focus (intro wx hSw; (try dsimp only at hSw); go_simp; try with_reducible rfl))
            (try simp only [Act.put, List.setIfInBounds_toArray, List.set_cons_zero, List.set_cons_succ])  -- 27 move some (19, true)
            refine wpAnyH_take (i := 28) (oi := { dst := some 76, op := Go.Op.move (Go.Operand.tmp 9), type := 3, pos := "law.go:33", after := #[{ on := 19, ground := Go.Ground.guard }], guard := some (19, true) }) (v := ?_) rfl (by kernel_rfl) (by kernel_rfl) (by kernel_rfl) (fun _ _ _ h => h) (Or.inl ⟨by rfl, ?_⟩) (by assumption) ?_
            (rotate_left; focus (intro wx hSw; (try dsimp only at hSw); go_simp; try with_reducible rfl))
            (try simp only [Act.put, List.setIfInBounds_toArray, List.set_cons_zero, List.set_cons_succ])  -- 28 move some (19, true)
            refine wpAnyH_take (i := 29) (oi := { dst := some 77, op := Go.Op.indexAddr 33 (Go.Operand.tmp 75) (Go.Operand.tmp 76), type := 0, pos := "law.go:33", after := #[{ on := 27, ground := Go.Ground.data }, { on := 28, ground := Go.Ground.data }, { on := 19, ground := Go.Ground.guard }], guard := some (19, true) }) (v := ?_) rfl (by kernel_rfl) (by kernel_rfl) (by kernel_rfl) (fun _ _ _ h => h) (Or.inl ⟨by rfl, ?_⟩) (by assumption) ?_
            (rotate_left; focus (intro wx hSw; (try dsimp only at hSw); go_simp; try with_reducible rfl))
            (try simp only [Act.put, List.setIfInBounds_toArray, List.set_cons_zero, List.set_cons_succ])  -- 29 indexAddr some (19, true)
            refine wpAnyH_take (i := 30) (oi := { dst := some 78, op := Go.Op.load 22 (Go.Operand.tmp 77), type := 22, pos := "law.go:33", after := #[{ on := 29, ground := Go.Ground.data }, { on := 19, ground := Go.Ground.guard }], guard := some (19, true) }) (v := ?_) rfl (by kernel_rfl) (by kernel_rfl) (by kernel_rfl) (fun _ _ _ h => h) (Or.inl ⟨by rfl, ?_⟩) (by assumption) ?_
            (rotate_left; focus (intro wx hSw; (try dsimp only at hSw); go_simp; try with_reducible rfl))
            (try simp only [Act.put, List.setIfInBounds_toArray, List.set_cons_zero, List.set_cons_succ])  -- 30 load some (19, true)
            refine wpAnyH_ready (rs := [25]) (by kernel_rfl) (by simp) ?_
            refine AllReadyH.cons (o := { dst := some 73, op := Go.Op.call { callee := Go.Callee.value (Go.Operand.func 24), args := #[Go.Operand.tmp 68, Go.Operand.tmp 72], argTypes := #[34, 22] }, type := 22, pos := "law.go:33", after := #[{ on := 20, ground := Go.Ground.data }, { on := 24, ground := Go.Ground.data }, { on := 19, ground := Go.Ground.chain }, { on := 19, ground := Go.Ground.guard }], guard := some (19, true) }) rfl (fun K hK => ?_) AllReadyH.nil
            go_simp
            refine (CA.out _ o5).mono ?_; rintro e w7 ⟨rfl, o7⟩
            refine hK.out _ _ ?_ (fun hHeld => ?_)
            focus exact ⟨(o7.2.1.cell (p := ⟨b, off + k, none⟩) hb).trans HC.out, (o7.2.1.cell (p := ⟨b', off' + k, none⟩) hb').trans HC2.out⟩
            clear hK K
            (try simp only [Act.put, List.setIfInBounds_toArray, List.set_cons_zero, List.set_cons_succ])  -- 25 call some (19, true)
            refine wpAnyH_ready (rs := [31]) (by kernel_rfl) (by simp) ?_
            refine AllReadyH.cons (o := { dst := some 79, op := Go.Op.call { callee := Go.Callee.value (Go.Operand.func 25), args := #[Go.Operand.tmp 74, Go.Operand.tmp 78], argTypes := #[22, 22] }, type := 22, pos := "law.go:33", after := #[{ on := 26, ground := Go.Ground.data }, { on := 30, ground := Go.Ground.data }, { on := 25, ground := Go.Ground.chain }, { on := 19, ground := Go.Ground.guard }], guard := some (19, true) }) rfl (fun K hK => ?_) AllReadyH.nil
            go_simp
            refine (CR.out _).mono ?_; rintro e w8 ⟨rfl, rfl⟩
            refine hK.out _ _ ?_ (fun hHeld => ?_)
            focus assumption
            clear hK K
            (try simp only [Act.put, List.setIfInBounds_toArray, List.set_cons_zero, List.set_cons_succ])  -- 31 call some (19, true)
            refine wpAnyH_take (i := 32) (oi := { dst := some 80, op := Go.Op.call { callee := Go.Callee.builtin Go.Builtin.min, args := #[Go.Operand.tmp 79, Go.Operand.const (Go.Value.int Go.IntKind.u64 4611686018427387904)], argTypes := #[22, 22] }, type := 22, pos := "law.go:33", after := #[{ on := 31, ground := Go.Ground.data }, { on := 19, ground := Go.Ground.guard }], guard := some (19, true) }) (v := ?_) rfl (by kernel_rfl) (by kernel_rfl) (by kernel_rfl) (fun _ _ _ h => h) (Or.inl ⟨by rfl, ?_⟩) (by assumption) ?_
            (rotate_left; focus (intro wx hSw; (try dsimp only at hSw); go_simp; try with_reducible rfl))
            (try simp only [Act.put, List.setIfInBounds_toArray, List.set_cons_zero, List.set_cons_succ])  -- 32 call some (19, true)
            refine wpAnyH_take (i := 33) (oi := { dst := some 81, op := Go.Op.binOp Go.BinOp.neq 22 (Go.Operand.tmp 73) (Go.Operand.tmp 80) 22, type := 4, pos := "law.go:33", after := #[{ on := 25, ground := Go.Ground.data }, { on := 32, ground := Go.Ground.data }, { on := 19, ground := Go.Ground.guard }], guard := some (19, true) }) (v := ?_) rfl (by kernel_rfl) (by kernel_rfl) (by kernel_rfl) (fun _ _ _ h => h) (Or.inl ⟨by rfl, ?_⟩) (by assumption) ?_
            (rotate_left; focus (intro wx hSw; (try dsimp only at hSw); go_simp; try with_reducible rfl))
            (try simp only [Act.put, List.setIfInBounds_toArray, List.set_cons_zero, List.set_cons_succ])  -- 33 binOp some (19, true)
            refine wpAnyH_take (i := 34) (oi := { dst := some 82, op := Go.Op.pick (Go.Operand.tmp 67) (Go.Operand.tmp 81) (Go.Operand.const (Go.Value.bool false)), type := 4, pos := "law.go:33", after := #[{ on := 19, ground := Go.Ground.data }, { on := 33, ground := Go.Ground.data }, { on := 14, ground := Go.Ground.guard }], guard := some (14, false) }) (v := ?_) rfl (by kernel_rfl) (by kernel_rfl) (by kernel_rfl) (fun _ _ _ h => h) (Or.inl ⟨by rfl, ?_⟩) (by assumption) ?_
            (rotate_left; focus (intro wx hSw; (try dsimp only at hSw); go_simp; try with_reducible rfl))
            (try simp only [Act.put, List.setIfInBounds_toArray, List.set_cons_zero, List.set_cons_succ])  -- 34 pick some (14, false)
            refine wpAnyH_take (i := 35) (oi := { dst := some 83, op := Go.Op.pick (Go.Operand.tmp 62) (Go.Operand.const (Go.Value.bool true)) (Go.Operand.tmp 82), type := 4, pos := "law.go:33", after := #[{ on := 14, ground := Go.Ground.data }, { on := 34, ground := Go.Ground.data }], guard := none }) (v := ?_) rfl (by kernel_rfl) (by kernel_rfl) (by kernel_rfl) (fun _ _ _ h => h) (Or.inl ⟨by rfl, ?_⟩) (by assumption) ?_
            (rotate_left; focus (intro wx hSw; (try dsimp only at hSw); go_simp; try with_reducible rfl))
            (try simp only [Act.put, List.setIfInBounds_toArray, List.set_cons_zero, List.set_cons_succ])  -- 35 pick none
            refine wpAnyH_done (by kernel_rfl) ?_ _
            go_wp2
            go_roundw
            case rel => exact ⟨k + 1, N, by omega, by omega, HB.out, by simp, by simp, o7⟩
            case measure => simp [intOf]; omega
        · rw [s2, s3] at cm
          have CM := Lib.hid cm
          have lb : n < 18446744073709551616 := by have := LN.out; omega
          have ca : ∀ wq, Own w wq (w.heap.size + 1) 56 (clk n) → Calls Try.prog 24 #[.pointer (some ⟨w.heap.size + 1, 0, none⟩), .int .u64 m] wq fun e w' => e = .returned (.int .u64 (tmin (satAdd n m) : Nat)) ∧ Own w w' (w.heap.size + 1) 56 (clk n) := fun wq ho => after_own (w.heap.size + 1) n m lb LM.out w wq ho
          have cr := radd_any n m lb LM.out
          generalize satAdd n m = s at ca cr
          have ss : (s < 4611686018427387904 ∧ tmin s = s) ∨ (4611686018427387904 < s ∧ tmin s = 4611686018427387904) ∨ s = 4611686018427387904 ∧ tmin s = 4611686018427387904 := by rw [tmin_eq]; omega
          have HB := Lib.hid (show n ≤ 4611686018427387904 by first | exact LNN.out | omega)
          clear cm s2 s3 lb
          rcases ss with ⟨t1, t2⟩ | ⟨t1, t2⟩ | ⟨t1, t2⟩
          all_goals
            rw [t2] at ca
            try subst t1
            have CA := Lib.hid ca
            have CR := Lib.hid cr
            clear ca cr t2
            go_wp2_with fail
            refine wp_region_held_drew (S := fun wq => wq.cell? ⟨b, off + k, none⟩ = some (.int .u64 n) ∧ wq.cell? ⟨b', off' + k, none⟩ = some (.int .u64 m)) (by kernel_rfl) ⟨hck, hck2⟩ (fun hHeld => ?_)
            refine wpAnyH_take (i := 0) (oi := { dst := some 48, op := Go.Op.move (Go.Operand.tmp 7), type := 34, pos := "law.go:33", after := #[], guard := none }) (v := ?_) rfl (by kernel_rfl) (by kernel_rfl) (by kernel_rfl) (fun _ _ _ h => h) (Or.inl ⟨by rfl, ?_⟩) (by assumption) ?_
            (rotate_left; focus (intro wx hSw; (try dsimp only at hSw); go_simp; try with_reducible rfl))
            (try simp only [Act.put, List.setIfInBounds_toArray, List.set_cons_zero, List.set_cons_succ])  -- 0 move none
            refine wpAnyH_take (i := 1) (oi := { dst := some 49, op := Go.Op.move (Go.Operand.tmp 1), type := 33, pos := "law.go:33", after := #[], guard := none }) (v := ?_) rfl (by kernel_rfl) (by kernel_rfl) (by kernel_rfl) (fun _ _ _ h => h) (Or.inl ⟨by rfl, ?_⟩) (by assumption) ?_
            (rotate_left; focus (intro wx hSw; (try dsimp only at hSw); go_simp; try with_reducible rfl))
            (try simp only [Act.put, List.setIfInBounds_toArray, List.set_cons_zero, List.set_cons_succ])  -- 1 move none
            refine wpAnyH_take (i := 2) (oi := { dst := some 50, op := Go.Op.move (Go.Operand.tmp 9), type := 3, pos := "law.go:33", after := #[], guard := none }) (v := ?_) rfl (by kernel_rfl) (by kernel_rfl) (by kernel_rfl) (fun _ _ _ h => h) (Or.inl ⟨by rfl, ?_⟩) (by assumption) ?_
            (rotate_left; focus (intro wx hSw; (try dsimp only at hSw); go_simp; try with_reducible rfl))
            (try simp only [Act.put, List.setIfInBounds_toArray, List.set_cons_zero, List.set_cons_succ])  -- 2 move none
            refine wpAnyH_take (i := 3) (oi := { dst := some 51, op := Go.Op.indexAddr 33 (Go.Operand.tmp 49) (Go.Operand.tmp 50), type := 0, pos := "law.go:33", after := #[{ on := 1, ground := Go.Ground.data }, { on := 2, ground := Go.Ground.data }], guard := none }) (v := ?_) rfl (by kernel_rfl) (by kernel_rfl) (by kernel_rfl) (fun _ _ _ h => h) (Or.inl ⟨by rfl, ?_⟩) (by assumption) ?_
            (rotate_left; focus (intro wx hSw; (try dsimp only at hSw); go_simp; try with_reducible rfl))
            (try simp only [Act.put, List.setIfInBounds_toArray, List.set_cons_zero, List.set_cons_succ])  -- 3 indexAddr none
            refine wpAnyH_take (i := 4) (oi := { dst := some 52, op := Go.Op.load 22 (Go.Operand.tmp 51), type := 22, pos := "law.go:33", after := #[{ on := 3, ground := Go.Ground.data }], guard := none }) (v := ?_) rfl (by kernel_rfl) (by kernel_rfl) (by kernel_rfl) (fun _ _ _ h => h) (Or.inl ⟨by rfl, ?_⟩) (by assumption) ?_
            (rotate_left; focus (intro wx hSw; (try dsimp only at hSw); go_simp; try with_reducible rfl))
            (try simp only [Act.put, List.setIfInBounds_toArray, List.set_cons_zero, List.set_cons_succ])  -- 4 load none
            refine wpAnyH_take (i := 6) (oi := { dst := some 54, op := Go.Op.move (Go.Operand.tmp 10), type := 36, pos := "law.go:33", after := #[], guard := none }) (v := ?_) rfl (by kernel_rfl) (by kernel_rfl) (by kernel_rfl) (fun _ _ _ h => h) (Or.inl ⟨by rfl, ?_⟩) (by assumption) ?_
            (rotate_left; focus (intro wx hSw; (try dsimp only at hSw); go_simp; try with_reducible rfl))
            (try simp only [Act.put, List.setIfInBounds_toArray, List.set_cons_zero, List.set_cons_succ])  -- 6 move none
            refine wpAnyH_ready (rs := [5]) (by kernel_rfl) (by simp) ?_
            refine AllReadyH.cons (o := { dst := some 53, op := Go.Op.call { callee := Go.Callee.value (Go.Operand.func 22), args := #[Go.Operand.tmp 48, Go.Operand.tmp 52], argTypes := #[34, 22] }, type := 36, pos := "law.go:33", after := #[{ on := 0, ground := Go.Ground.data }, { on := 4, ground := Go.Ground.data }], guard := none }) rfl (fun K hK => ?_) AllReadyH.nil
            go_simp
            refine (CM.out _ HO.out.drew).mono ?_; rintro e w5 ⟨rfl, o5⟩
            refine hK.out _ _ ?_ (fun hHeld => ?_)
            focus exact ⟨(o5.2.1.cell (p := ⟨b, off + k, none⟩) hb).trans HC.out, (o5.2.1.cell (p := ⟨b', off' + k, none⟩) hb').trans HC2.out⟩
            clear hK K
            (try simp only [Act.put, List.setIfInBounds_toArray, List.set_cons_zero, List.set_cons_succ])  -- 5 call none
            refine wpAnyH_take (i := 7) (oi := { dst := some 55, op := Go.Op.binOp Go.BinOp.neq 36 (Go.Operand.tmp 53) (Go.Operand.tmp 54) 36, type := 4, pos := "law.go:33", after := #[{ on := 5, ground := Go.Ground.data }, { on := 6, ground := Go.Ground.data }], guard := none }) (v := ?_) rfl (by kernel_rfl) (by kernel_rfl) (by kernel_rfl) (fun _ _ _ h => h) (Or.inl ⟨by rfl, ?_⟩) (by assumption) ?_
            (rotate_left; focus (intro wx hSw; (try dsimp only at hSw); go_simp; try with_reducible rfl))
            (try simp only [Act.put, List.setIfInBounds_toArray, List.set_cons_zero, List.set_cons_succ])  -- 7 binOp none
            refine wpAnyH_take (i := 8) (oi := { dst := some 56, op := Go.Op.move (Go.Operand.tmp 55), type := 4, pos := "law.go:33", after := #[{ on := 7, ground := Go.Ground.data }, { on := 5, ground := Go.Ground.chain }], guard := none }) (v := ?_) rfl (by kernel_rfl) (by kernel_rfl) (by kernel_rfl) (fun _ _ _ h => h) (Or.inl ⟨by rfl, ?_⟩) (by assumption) ?_
            (rotate_left; focus (intro wx hSw; (try dsimp only at hSw); go_simp; try with_reducible rfl))
            (try simp only [Act.put, List.setIfInBounds_toArray, List.set_cons_zero, List.set_cons_succ])  -- 8 move none
            refine wpAnyH_take (i := 9) (oi := { dst := some 57, op := Go.Op.move (Go.Operand.tmp 7), type := 34, pos := "law.go:33", after := #[{ on := 8, ground := Go.Ground.guard }], guard := some (8, false) }) (v := ?_) rfl (by kernel_rfl) (by kernel_rfl) (by kernel_rfl) (fun _ _ _ h => h) (Or.inl ⟨by rfl, ?_⟩) (by assumption) ?_
            (rotate_left; focus (intro wx hSw; (try dsimp only at hSw); go_simp; try with_reducible rfl))
            (try simp only [Act.put, List.setIfInBounds_toArray, List.set_cons_zero, List.set_cons_succ])  -- 9 move some (8, false)
            refine wpAnyH_take (i := 11) (oi := { dst := some 59, op := Go.Op.move (Go.Operand.tmp 8), type := 22, pos := "law.go:33", after := #[{ on := 8, ground := Go.Ground.guard }], guard := some (8, false) }) (v := ?_) rfl (by kernel_rfl) (by kernel_rfl) (by kernel_rfl) (fun _ _ _ h => h) (Or.inl ⟨by rfl, ?_⟩) (by assumption) ?_
            (rotate_left; focus (intro wx hSw; (try dsimp only at hSw); go_simp; try with_reducible rfl))
            (try simp only [Act.put, List.setIfInBounds_toArray, List.set_cons_zero, List.set_cons_succ])  -- 11 move some (8, false)
            refine wpAnyH_ready (rs := [10]) (by kernel_rfl) (by simp) ?_
            refine AllReadyH.cons (o := { dst := some 58, op := Go.Op.call { callee := Go.Callee.value (Go.Operand.func 23), args := #[Go.Operand.tmp 57], argTypes := #[34] }, type := 22, pos := "law.go:33", after := #[{ on := 9, ground := Go.Ground.data }, { on := 8, ground := Go.Ground.chain }, { on := 8, ground := Go.Ground.guard }], guard := some (8, false) }) rfl (fun K hK => ?_) AllReadyH.nil
            go_simp
            refine (now_any _ _ _ o5.1).mono ?_; rintro e w6 ⟨rfl, rfl⟩
            refine hK.out _ _ ?_ (fun hHeld => ?_)
            focus assumption
            clear hK K
            (try simp only [Act.put, List.setIfInBounds_toArray, List.set_cons_zero, List.set_cons_succ])  -- 10 call some (8, false)
            refine wpAnyH_take (i := 12) (oi := { dst := some 60, op := Go.Op.binOp Go.BinOp.neq 22 (Go.Operand.tmp 58) (Go.Operand.tmp 59) 22, type := 4, pos := "law.go:33", after := #[{ on := 10, ground := Go.Ground.data }, { on := 11, ground := Go.Ground.data }, { on := 8, ground := Go.Ground.guard }], guard := some (8, false) }) (v := ?_) rfl (by kernel_rfl) (by kernel_rfl) (by kernel_rfl) (fun _ _ _ h => h) (Or.inl ⟨by rfl, ?_⟩) (by assumption) ?_
            (rotate_left; focus (intro wx hSw; (try dsimp only at hSw); go_simp; try with_reducible rfl))
            (try simp only [Act.put, List.setIfInBounds_toArray, List.set_cons_zero, List.set_cons_succ])  -- 12 binOp some (8, false)
            refine wpAnyH_take (i := 13) (oi := { dst := some 61, op := Go.Op.pick (Go.Operand.tmp 56) (Go.Operand.const (Go.Value.bool true)) (Go.Operand.tmp 60), type := 4, pos := "law.go:33", after := #[{ on := 8, ground := Go.Ground.data }, { on := 12, ground := Go.Ground.data }], guard := none }) (v := ?_) rfl (by kernel_rfl) (by kernel_rfl) (by kernel_rfl) (fun _ _ _ h => h) (Or.inl ⟨by rfl, ?_⟩) (by assumption) ?_
            (rotate_left; focus (intro wx hSw; (try dsimp only at hSw); go_simp; try with_reducible rfl))
            (try simp only [Act.put, List.setIfInBounds_toArray, List.set_cons_zero, List.set_cons_succ])  -- 13 pick none
            refine wpAnyH_take (i := 14) (oi := { dst := some 62, op := Go.Op.move (Go.Operand.tmp 61), type := 4, pos := "law.go:33", after := #[{ on := 13, ground := Go.Ground.data }, { on := 10, ground := Go.Ground.chain }], guard := none }) (v := ?_) rfl (by kernel_rfl) (by kernel_rfl) (by kernel_rfl) (fun _ _ _ h => h) (Or.inl ⟨by rfl, ?_⟩) (by assumption) ?_
            (rotate_left; focus (intro wx hSw; (try dsimp only at hSw); go_simp; try with_reducible rfl))
            (try simp only [Act.put, List.setIfInBounds_toArray, List.set_cons_zero, List.set_cons_succ])  -- 14 move none
            refine wpAnyH_take (i := 15) (oi := { dst := some 63, op := Go.Op.move (Go.Operand.tmp 9), type := 3, pos := "law.go:33", after := #[{ on := 14, ground := Go.Ground.guard }], guard := some (14, false) }) (v := ?_) rfl (by kernel_rfl) (by kernel_rfl) (by kernel_rfl) (fun _ _ _ h => h) (Or.inl ⟨by rfl, ?_⟩) (by assumption) ?_
            (rotate_left; focus (intro wx hSw; (try dsimp only at hSw); go_simp; try with_reducible rfl))
            (try simp only [Act.put, List.setIfInBounds_toArray, List.set_cons_zero, List.set_cons_succ])  -- 15 move some (14, false)
            refine wpAnyH_take (i := 16) (oi := { dst := some 64, op := Go.Op.move (Go.Operand.tmp 2), type := 33, pos := "law.go:33", after := #[{ on := 14, ground := Go.Ground.guard }], guard := some (14, false) }) (v := ?_) rfl (by kernel_rfl) (by kernel_rfl) (by kernel_rfl) (fun _ _ _ h => h) (Or.inl ⟨by rfl, ?_⟩) (by assumption) ?_
            (rotate_left; focus (intro wx hSw; (try dsimp only at hSw); go_simp; try with_reducible rfl))
            (try simp only [Act.put, List.setIfInBounds_toArray, List.set_cons_zero, List.set_cons_succ])  -- 16 move some (14, false)
            refine wpAnyH_take (i := 17) (oi := { dst := some 65, op := Go.Op.call { callee := Go.Callee.builtin Go.Builtin.len, args := #[Go.Operand.tmp 64], argTypes := #[33] }, type := 3, pos := "law.go:33", after := #[{ on := 16, ground := Go.Ground.data }, { on := 14, ground := Go.Ground.guard }], guard := some (14, false) }) (v := ?_) rfl (by kernel_rfl) (by kernel_rfl) (by kernel_rfl) (fun _ _ _ h => h) (Or.inl ⟨by rfl, ?_⟩) (by assumption) ?_
            (rotate_left; focus (intro wx hSw; (try dsimp only at hSw); go_simp; try with_reducible rfl))
            (try simp only [Act.put, List.setIfInBounds_toArray, List.set_cons_zero, List.set_cons_succ])  -- 17 call some (14, false)
            refine wpAnyH_take (i := 18) (oi := { dst := some 66, op := Go.Op.binOp Go.BinOp.lss 3 (Go.Operand.tmp 63) (Go.Operand.tmp 65) 3, type := 4, pos := "law.go:33", after := #[{ on := 15, ground := Go.Ground.data }, { on := 17, ground := Go.Ground.data }, { on := 14, ground := Go.Ground.guard }], guard := some (14, false) }) (v := ?_) rfl (by kernel_rfl) (by kernel_rfl) (by kernel_rfl) (fun _ _ _ h => h) (Or.inl ⟨by rfl, ?_⟩) (by assumption) ?_
            (rotate_left; focus (intro wx hSw; (try dsimp only at hSw); go_simp; try with_reducible rfl))
            (try simp only [Act.put, List.setIfInBounds_toArray, List.set_cons_zero, List.set_cons_succ])  -- 18 binOp some (14, false)
            refine wpAnyH_take (i := 19) (oi := { dst := some 67, op := Go.Op.move (Go.Operand.tmp 66), type := 4, pos := "law.go:33", after := #[{ on := 18, ground := Go.Ground.data }, { on := 14, ground := Go.Ground.chain }, { on := 14, ground := Go.Ground.guard }], guard := some (14, false) }) (v := ?_) rfl (by kernel_rfl) (by kernel_rfl) (by kernel_rfl) (fun _ _ _ h => h) (Or.inl ⟨by rfl, ?_⟩) (by assumption) ?_
            (rotate_left; focus (intro wx hSw; (try dsimp only at hSw); go_simp; try with_reducible rfl))
            (try simp only [Act.put, List.setIfInBounds_toArray, List.set_cons_zero, List.set_cons_succ])  -- 19 move some (14, false)
            refine wpAnyH_take (i := 20) (oi := { dst := some 68, op := Go.Op.move (Go.Operand.tmp 7), type := 34, pos := "law.go:33", after := #[{ on := 19, ground := Go.Ground.guard }], guard := some (19, true) }) (v := ?_) rfl (by kernel_rfl) (by kernel_rfl) (by kernel_rfl) (fun _ _ _ h => h) (Or.inl ⟨by rfl, ?_⟩) (by assumption) ?_
            (rotate_left; focus (intro wx hSw; (try dsimp only at hSw); go_simp; try with_reducible rfl))
            (try simp only [Act.put, List.setIfInBounds_toArray, List.set_cons_zero, List.set_cons_succ])  -- 20 move some (19, true)
            refine wpAnyH_take (i := 21) (oi := { dst := some 69, op := Go.Op.move (Go.Operand.tmp 2), type := 33, pos := "law.go:33", after := #[{ on := 19, ground := Go.Ground.guard }], guard := some (19, true) }) (v := ?_) rfl (by kernel_rfl) (by kernel_rfl) (by kernel_rfl) (fun _ _ _ h => h) (Or.inl ⟨by rfl, ?_⟩) (by assumption) ?_
            (rotate_left; focus (intro wx hSw; (try dsimp only at hSw); go_simp; try with_reducible rfl))
            (try simp only [Act.put, List.setIfInBounds_toArray, List.set_cons_zero, List.set_cons_succ])  -- 21 move some (19, true)
            refine wpAnyH_take (i := 22) (oi := { dst := some 70, op := Go.Op.move (Go.Operand.tmp 9), type := 3, pos := "law.go:33", after := #[{ on := 19, ground := Go.Ground.guard }], guard := some (19, true) }) (v := ?_) rfl (by kernel_rfl) (by kernel_rfl) (by kernel_rfl) (fun _ _ _ h => h) (Or.inl ⟨by rfl, ?_⟩) (by assumption) ?_
            (rotate_left; focus (intro wx hSw; (try dsimp only at hSw); go_simp; try with_reducible rfl))
            (try simp only [Act.put, List.setIfInBounds_toArray, List.set_cons_zero, List.set_cons_succ])  -- 22 move some (19, true)
            refine wpAnyH_take (i := 23) (oi := { dst := some 71, op := Go.Op.indexAddr 33 (Go.Operand.tmp 69) (Go.Operand.tmp 70), type := 0, pos := "law.go:33", after := #[{ on := 21, ground := Go.Ground.data }, { on := 22, ground := Go.Ground.data }, { on := 19, ground := Go.Ground.guard }], guard := some (19, true) }) (v := ?_) rfl (by kernel_rfl) (by kernel_rfl) (by kernel_rfl) (fun _ _ _ h => h) (Or.inl ⟨by rfl, ?_⟩) (by assumption) ?_
            (rotate_left; focus (intro wx hSw; (try dsimp only at hSw); go_simp; try with_reducible rfl))
            (try simp only [Act.put, List.setIfInBounds_toArray, List.set_cons_zero, List.set_cons_succ])  -- 23 indexAddr some (19, true)
            refine wpAnyH_take (i := 24) (oi := { dst := some 72, op := Go.Op.load 22 (Go.Operand.tmp 71), type := 22, pos := "law.go:33", after := #[{ on := 23, ground := Go.Ground.data }, { on := 19, ground := Go.Ground.guard }], guard := some (19, true) }) (v := ?_) rfl (by kernel_rfl) (by kernel_rfl) (by kernel_rfl) (fun _ _ _ h => h) (Or.inl ⟨by rfl, ?_⟩) (by assumption) ?_
            (rotate_left; focus (intro wx hSw; (try dsimp only at hSw); go_simp; try with_reducible rfl))
            (try simp only [Act.put, List.setIfInBounds_toArray, List.set_cons_zero, List.set_cons_succ])  -- 24 load some (19, true)
            refine wpAnyH_take (i := 26) (oi := { dst := some 74, op := Go.Op.move (Go.Operand.tmp 8), type := 22, pos := "law.go:33", after := #[{ on := 19, ground := Go.Ground.guard }], guard := some (19, true) }) (v := ?_) rfl (by kernel_rfl) (by kernel_rfl) (by kernel_rfl) (fun _ _ _ h => h) (Or.inl ⟨by rfl, ?_⟩) (by assumption) ?_
            (rotate_left; focus (intro wx hSw; (try dsimp only at hSw); go_simp; try with_reducible rfl))
            (try simp only [Act.put, List.setIfInBounds_toArray, List.set_cons_zero, List.set_cons_succ])  -- 26 move some (19, true)
            refine wpAnyH_take (i := 27) (oi := { dst := some 75, op := Go.Op.move (Go.Operand.tmp 2), type := 33, pos := "law.go:33", after := #[{ on := 19, ground := Go.Ground.guard }], guard := some (19, true) }) (v := ?_) rfl (by kernel_rfl) (by kernel_rfl) (by kernel_rfl) (fun _ _ _ h => h) (Or.inl ⟨by rfl, ?_⟩) (by assumption) ?_
            (rotate_left; focus (intro wx hSw; (try dsimp only at hSw); go_simp; try with_reducible rfl))
            (try simp only [Act.put, List.setIfInBounds_toArray, List.set_cons_zero, List.set_cons_succ])  -- 27 move some (19, true)
            refine wpAnyH_take (i := 28) (oi := { dst := some 76, op := Go.Op.move (Go.Operand.tmp 9), type := 3, pos := "law.go:33", after := #[{ on := 19, ground := Go.Ground.guard }], guard := some (19, true) }) (v := ?_) rfl (by kernel_rfl) (by kernel_rfl) (by kernel_rfl) (fun _ _ _ h => h) (Or.inl ⟨by rfl, ?_⟩) (by assumption) ?_
            (rotate_left; focus (intro wx hSw; (try dsimp only at hSw); go_simp; try with_reducible rfl))
            (try simp only [Act.put, List.setIfInBounds_toArray, List.set_cons_zero, List.set_cons_succ])  -- 28 move some (19, true)
            refine wpAnyH_take (i := 29) (oi := { dst := some 77, op := Go.Op.indexAddr 33 (Go.Operand.tmp 75) (Go.Operand.tmp 76), type := 0, pos := "law.go:33", after := #[{ on := 27, ground := Go.Ground.data }, { on := 28, ground := Go.Ground.data }, { on := 19, ground := Go.Ground.guard }], guard := some (19, true) }) (v := ?_) rfl (by kernel_rfl) (by kernel_rfl) (by kernel_rfl) (fun _ _ _ h => h) (Or.inl ⟨by rfl, ?_⟩) (by assumption) ?_
            (rotate_left; focus (intro wx hSw; (try dsimp only at hSw); go_simp; try with_reducible rfl))
            (try simp only [Act.put, List.setIfInBounds_toArray, List.set_cons_zero, List.set_cons_succ])  -- 29 indexAddr some (19, true)
            refine wpAnyH_take (i := 30) (oi := { dst := some 78, op := Go.Op.load 22 (Go.Operand.tmp 77), type := 22, pos := "law.go:33", after := #[{ on := 29, ground := Go.Ground.data }, { on := 19, ground := Go.Ground.guard }], guard := some (19, true) }) (v := ?_) rfl (by kernel_rfl) (by kernel_rfl) (by kernel_rfl) (fun _ _ _ h => h) (Or.inl ⟨by rfl, ?_⟩) (by assumption) ?_
            (rotate_left; focus (intro wx hSw; (try dsimp only at hSw); go_simp; try with_reducible rfl))
            (try simp only [Act.put, List.setIfInBounds_toArray, List.set_cons_zero, List.set_cons_succ])  -- 30 load some (19, true)
            refine wpAnyH_ready (rs := [25]) (by kernel_rfl) (by simp) ?_
            refine AllReadyH.cons (o := { dst := some 73, op := Go.Op.call { callee := Go.Callee.value (Go.Operand.func 24), args := #[Go.Operand.tmp 68, Go.Operand.tmp 72], argTypes := #[34, 22] }, type := 22, pos := "law.go:33", after := #[{ on := 20, ground := Go.Ground.data }, { on := 24, ground := Go.Ground.data }, { on := 19, ground := Go.Ground.chain }, { on := 19, ground := Go.Ground.guard }], guard := some (19, true) }) rfl (fun K hK => ?_) AllReadyH.nil
            go_simp
            refine (CA.out _ o5).mono ?_; rintro e w7 ⟨rfl, o7⟩
            refine hK.out _ _ ?_ (fun hHeld => ?_)
            focus exact ⟨(o7.2.1.cell (p := ⟨b, off + k, none⟩) hb).trans HC.out, (o7.2.1.cell (p := ⟨b', off' + k, none⟩) hb').trans HC2.out⟩
            clear hK K
            (try simp only [Act.put, List.setIfInBounds_toArray, List.set_cons_zero, List.set_cons_succ])  -- 25 call some (19, true)
            refine wpAnyH_ready (rs := [31]) (by kernel_rfl) (by simp) ?_
            refine AllReadyH.cons (o := { dst := some 79, op := Go.Op.call { callee := Go.Callee.value (Go.Operand.func 25), args := #[Go.Operand.tmp 74, Go.Operand.tmp 78], argTypes := #[22, 22] }, type := 22, pos := "law.go:33", after := #[{ on := 26, ground := Go.Ground.data }, { on := 30, ground := Go.Ground.data }, { on := 25, ground := Go.Ground.chain }, { on := 19, ground := Go.Ground.guard }], guard := some (19, true) }) rfl (fun K hK => ?_) AllReadyH.nil
            go_simp
            refine (CR.out _).mono ?_; rintro e w8 ⟨rfl, rfl⟩
            refine hK.out _ _ ?_ (fun hHeld => ?_)
            focus assumption
            clear hK K
            (try simp only [Act.put, List.setIfInBounds_toArray, List.set_cons_zero, List.set_cons_succ])  -- 31 call some (19, true)
            refine wpAnyH_take (i := 32) (oi := { dst := some 80, op := Go.Op.call { callee := Go.Callee.builtin Go.Builtin.min, args := #[Go.Operand.tmp 79, Go.Operand.const (Go.Value.int Go.IntKind.u64 4611686018427387904)], argTypes := #[22, 22] }, type := 22, pos := "law.go:33", after := #[{ on := 31, ground := Go.Ground.data }, { on := 19, ground := Go.Ground.guard }], guard := some (19, true) }) (v := ?_) rfl (by kernel_rfl) (by kernel_rfl) (by kernel_rfl) (fun _ _ _ h => h) (Or.inl ⟨by rfl, ?_⟩) (by assumption) ?_
            (rotate_left; focus (intro wx hSw; (try dsimp only at hSw); go_simp; try with_reducible rfl))
            (try simp only [Act.put, List.setIfInBounds_toArray, List.set_cons_zero, List.set_cons_succ])  -- 32 call some (19, true)
            refine wpAnyH_take (i := 33) (oi := { dst := some 81, op := Go.Op.binOp Go.BinOp.neq 22 (Go.Operand.tmp 73) (Go.Operand.tmp 80) 22, type := 4, pos := "law.go:33", after := #[{ on := 25, ground := Go.Ground.data }, { on := 32, ground := Go.Ground.data }, { on := 19, ground := Go.Ground.guard }], guard := some (19, true) }) (v := ?_) rfl (by kernel_rfl) (by kernel_rfl) (by kernel_rfl) (fun _ _ _ h => h) (Or.inl ⟨by rfl, ?_⟩) (by assumption) ?_
            (rotate_left; focus (intro wx hSw; (try dsimp only at hSw); go_simp; try with_reducible rfl))
            (try simp only [Act.put, List.setIfInBounds_toArray, List.set_cons_zero, List.set_cons_succ])  -- 33 binOp some (19, true)
            refine wpAnyH_take (i := 34) (oi := { dst := some 82, op := Go.Op.pick (Go.Operand.tmp 67) (Go.Operand.tmp 81) (Go.Operand.const (Go.Value.bool false)), type := 4, pos := "law.go:33", after := #[{ on := 19, ground := Go.Ground.data }, { on := 33, ground := Go.Ground.data }, { on := 14, ground := Go.Ground.guard }], guard := some (14, false) }) (v := ?_) rfl (by kernel_rfl) (by kernel_rfl) (by kernel_rfl) (fun _ _ _ h => h) (Or.inl ⟨by rfl, ?_⟩) (by assumption) ?_
            (rotate_left; focus (intro wx hSw; (try dsimp only at hSw); go_simp; try with_reducible rfl))
            (try simp only [Act.put, List.setIfInBounds_toArray, List.set_cons_zero, List.set_cons_succ])  -- 34 pick some (14, false)
            refine wpAnyH_take (i := 35) (oi := { dst := some 83, op := Go.Op.pick (Go.Operand.tmp 62) (Go.Operand.const (Go.Value.bool true)) (Go.Operand.tmp 82), type := 4, pos := "law.go:33", after := #[{ on := 14, ground := Go.Ground.data }, { on := 34, ground := Go.Ground.data }], guard := none }) (v := ?_) rfl (by kernel_rfl) (by kernel_rfl) (by kernel_rfl) (fun _ _ _ h => h) (Or.inl ⟨by rfl, ?_⟩) (by assumption) ?_
            (rotate_left; focus (intro wx hSw; (try dsimp only at hSw); go_simp; try with_reducible rfl))
            (try simp only [Act.put, List.setIfInBounds_toArray, List.set_cons_zero, List.set_cons_succ])  -- 35 pick none
            refine wpAnyH_done (by kernel_rfl) ?_ _
            go_wp2
            go_roundw
            case rel => exact ⟨k + 1, n, by omega, by omega, HB.out, by simp, by simp, o7⟩
            case measure => simp [intOf]; omega
      · have t : decide (k < dlen) = false := by simpa using hd
        rcases sw with ⟨s1, s2, s3⟩ | ⟨s1, s1', s2, s3⟩ | ⟨s1, s1', s2, s3⟩
        · rw [s2, s3] at cm
          have CM := Lib.hid cm
          have HB := Lib.hid (show N ≤ 4611686018427387904 by first | exact LNN.out | omega)
          clear cm s2 s3
          go_wp2_with fail
          refine wp_region_held_drew (S := fun wq => wq.cell? ⟨b, off + k, none⟩ = some (.int .u64 n)) (by kernel_rfl) hck (fun hHeld => ?_)
          refine wpAnyH_take (i := 0) (oi := { dst := some 48, op := Go.Op.move (Go.Operand.tmp 7), type := 34, pos := "law.go:33", after := #[], guard := none }) (v := ?_) rfl (by kernel_rfl) (by kernel_rfl) (by kernel_rfl) (fun _ _ _ h => h) (Or.inl ⟨by rfl, ?_⟩) (by assumption) ?_
          (rotate_left; focus (intro wx hSw; (try dsimp only at hSw); go_simp; try with_reducible rfl))
          (try simp only [Act.put, List.setIfInBounds_toArray, List.set_cons_zero, List.set_cons_succ])  -- 0 move none
          refine wpAnyH_take (i := 1) (oi := { dst := some 49, op := Go.Op.move (Go.Operand.tmp 1), type := 33, pos := "law.go:33", after := #[], guard := none }) (v := ?_) rfl (by kernel_rfl) (by kernel_rfl) (by kernel_rfl) (fun _ _ _ h => h) (Or.inl ⟨by rfl, ?_⟩) (by assumption) ?_
          (rotate_left; focus (intro wx hSw; (try dsimp only at hSw); go_simp; try with_reducible rfl))
          (try simp only [Act.put, List.setIfInBounds_toArray, List.set_cons_zero, List.set_cons_succ])  -- 1 move none
          refine wpAnyH_take (i := 2) (oi := { dst := some 50, op := Go.Op.move (Go.Operand.tmp 9), type := 3, pos := "law.go:33", after := #[], guard := none }) (v := ?_) rfl (by kernel_rfl) (by kernel_rfl) (by kernel_rfl) (fun _ _ _ h => h) (Or.inl ⟨by rfl, ?_⟩) (by assumption) ?_
          (rotate_left; focus (intro wx hSw; (try dsimp only at hSw); go_simp; try with_reducible rfl))
          (try simp only [Act.put, List.setIfInBounds_toArray, List.set_cons_zero, List.set_cons_succ])  -- 2 move none
          refine wpAnyH_take (i := 3) (oi := { dst := some 51, op := Go.Op.indexAddr 33 (Go.Operand.tmp 49) (Go.Operand.tmp 50), type := 0, pos := "law.go:33", after := #[{ on := 1, ground := Go.Ground.data }, { on := 2, ground := Go.Ground.data }], guard := none }) (v := ?_) rfl (by kernel_rfl) (by kernel_rfl) (by kernel_rfl) (fun _ _ _ h => h) (Or.inl ⟨by rfl, ?_⟩) (by assumption) ?_
          (rotate_left; focus (intro wx hSw; (try dsimp only at hSw); go_simp; try with_reducible rfl))
          (try simp only [Act.put, List.setIfInBounds_toArray, List.set_cons_zero, List.set_cons_succ])  -- 3 indexAddr none
          refine wpAnyH_take (i := 4) (oi := { dst := some 52, op := Go.Op.load 22 (Go.Operand.tmp 51), type := 22, pos := "law.go:33", after := #[{ on := 3, ground := Go.Ground.data }], guard := none }) (v := ?_) rfl (by kernel_rfl) (by kernel_rfl) (by kernel_rfl) (fun _ _ _ h => h) (Or.inl ⟨by rfl, ?_⟩) (by assumption) ?_
          (rotate_left; focus (intro wx hSw; (try dsimp only at hSw); go_simp; try with_reducible rfl))
          (try simp only [Act.put, List.setIfInBounds_toArray, List.set_cons_zero, List.set_cons_succ])  -- 4 load none
          refine wpAnyH_take (i := 6) (oi := { dst := some 54, op := Go.Op.move (Go.Operand.tmp 10), type := 36, pos := "law.go:33", after := #[], guard := none }) (v := ?_) rfl (by kernel_rfl) (by kernel_rfl) (by kernel_rfl) (fun _ _ _ h => h) (Or.inl ⟨by rfl, ?_⟩) (by assumption) ?_
          (rotate_left; focus (intro wx hSw; (try dsimp only at hSw); go_simp; try with_reducible rfl))
          (try simp only [Act.put, List.setIfInBounds_toArray, List.set_cons_zero, List.set_cons_succ])  -- 6 move none
          refine wpAnyH_ready (rs := [5]) (by kernel_rfl) (by simp) ?_
          refine AllReadyH.cons (o := { dst := some 53, op := Go.Op.call { callee := Go.Callee.value (Go.Operand.func 22), args := #[Go.Operand.tmp 48, Go.Operand.tmp 52], argTypes := #[34, 22] }, type := 36, pos := "law.go:33", after := #[{ on := 0, ground := Go.Ground.data }, { on := 4, ground := Go.Ground.data }], guard := none }) rfl (fun K hK => ?_) AllReadyH.nil
          go_simp
          refine (CM.out _ HO.out.drew).mono ?_; rintro e w5 ⟨rfl, o5⟩
          refine hK.out _ _ ?_ (fun hHeld => ?_)
          focus exact (o5.2.1.cell (p := ⟨b, off + k, none⟩) hb).trans HC.out
          clear hK K
          (try simp only [Act.put, List.setIfInBounds_toArray, List.set_cons_zero, List.set_cons_succ])  -- 5 call none
          refine wpAnyH_take (i := 7) (oi := { dst := some 55, op := Go.Op.binOp Go.BinOp.neq 36 (Go.Operand.tmp 53) (Go.Operand.tmp 54) 36, type := 4, pos := "law.go:33", after := #[{ on := 5, ground := Go.Ground.data }, { on := 6, ground := Go.Ground.data }], guard := none }) (v := ?_) rfl (by kernel_rfl) (by kernel_rfl) (by kernel_rfl) (fun _ _ _ h => h) (Or.inl ⟨by rfl, ?_⟩) (by assumption) ?_
          (rotate_left; focus (intro wx hSw; (try dsimp only at hSw); go_simp; try with_reducible rfl))
          (try simp only [Act.put, List.setIfInBounds_toArray, List.set_cons_zero, List.set_cons_succ])  -- 7 binOp none
          refine wpAnyH_take (i := 8) (oi := { dst := some 56, op := Go.Op.move (Go.Operand.tmp 55), type := 4, pos := "law.go:33", after := #[{ on := 7, ground := Go.Ground.data }, { on := 5, ground := Go.Ground.chain }], guard := none }) (v := ?_) rfl (by kernel_rfl) (by kernel_rfl) (by kernel_rfl) (fun _ _ _ h => h) (Or.inl ⟨by rfl, ?_⟩) (by assumption) ?_
          (rotate_left; focus (intro wx hSw; (try dsimp only at hSw); go_simp; try with_reducible rfl))
          (try simp only [Act.put, List.setIfInBounds_toArray, List.set_cons_zero, List.set_cons_succ])  -- 8 move none
          refine wpAnyH_take (i := 9) (oi := { dst := some 57, op := Go.Op.move (Go.Operand.tmp 7), type := 34, pos := "law.go:33", after := #[{ on := 8, ground := Go.Ground.guard }], guard := some (8, false) }) (v := ?_) rfl (by kernel_rfl) (by kernel_rfl) (by kernel_rfl) (fun _ _ _ h => h) (Or.inl ⟨by rfl, ?_⟩) (by assumption) ?_
          (rotate_left; focus (intro wx hSw; (try dsimp only at hSw); go_simp; try with_reducible rfl))
          (try simp only [Act.put, List.setIfInBounds_toArray, List.set_cons_zero, List.set_cons_succ])  -- 9 move some (8, false)
          refine wpAnyH_take (i := 11) (oi := { dst := some 59, op := Go.Op.move (Go.Operand.tmp 8), type := 22, pos := "law.go:33", after := #[{ on := 8, ground := Go.Ground.guard }], guard := some (8, false) }) (v := ?_) rfl (by kernel_rfl) (by kernel_rfl) (by kernel_rfl) (fun _ _ _ h => h) (Or.inl ⟨by rfl, ?_⟩) (by assumption) ?_
          (rotate_left; focus (intro wx hSw; (try dsimp only at hSw); go_simp; try with_reducible rfl))
          (try simp only [Act.put, List.setIfInBounds_toArray, List.set_cons_zero, List.set_cons_succ])  -- 11 move some (8, false)
          refine wpAnyH_ready (rs := [10]) (by kernel_rfl) (by simp) ?_
          refine AllReadyH.cons (o := { dst := some 58, op := Go.Op.call { callee := Go.Callee.value (Go.Operand.func 23), args := #[Go.Operand.tmp 57], argTypes := #[34] }, type := 22, pos := "law.go:33", after := #[{ on := 9, ground := Go.Ground.data }, { on := 8, ground := Go.Ground.chain }, { on := 8, ground := Go.Ground.guard }], guard := some (8, false) }) rfl (fun K hK => ?_) AllReadyH.nil
          go_simp
          refine (now_any _ _ _ o5.1).mono ?_; rintro e w6 ⟨rfl, rfl⟩
          refine hK.out _ _ ?_ (fun hHeld => ?_)
          focus assumption
          clear hK K
          (try simp only [Act.put, List.setIfInBounds_toArray, List.set_cons_zero, List.set_cons_succ])  -- 10 call some (8, false)
          refine wpAnyH_take (i := 12) (oi := { dst := some 60, op := Go.Op.binOp Go.BinOp.neq 22 (Go.Operand.tmp 58) (Go.Operand.tmp 59) 22, type := 4, pos := "law.go:33", after := #[{ on := 10, ground := Go.Ground.data }, { on := 11, ground := Go.Ground.data }, { on := 8, ground := Go.Ground.guard }], guard := some (8, false) }) (v := ?_) rfl (by kernel_rfl) (by kernel_rfl) (by kernel_rfl) (fun _ _ _ h => h) (Or.inl ⟨by rfl, ?_⟩) (by assumption) ?_
          (rotate_left; focus (intro wx hSw; (try dsimp only at hSw); go_simp; try with_reducible rfl))
          (try simp only [Act.put, List.setIfInBounds_toArray, List.set_cons_zero, List.set_cons_succ])  -- 12 binOp some (8, false)
          refine wpAnyH_take (i := 13) (oi := { dst := some 61, op := Go.Op.pick (Go.Operand.tmp 56) (Go.Operand.const (Go.Value.bool true)) (Go.Operand.tmp 60), type := 4, pos := "law.go:33", after := #[{ on := 8, ground := Go.Ground.data }, { on := 12, ground := Go.Ground.data }], guard := none }) (v := ?_) rfl (by kernel_rfl) (by kernel_rfl) (by kernel_rfl) (fun _ _ _ h => h) (Or.inl ⟨by rfl, ?_⟩) (by assumption) ?_
          (rotate_left; focus (intro wx hSw; (try dsimp only at hSw); go_simp; try with_reducible rfl))
          (try simp only [Act.put, List.setIfInBounds_toArray, List.set_cons_zero, List.set_cons_succ])  -- 13 pick none
          refine wpAnyH_take (i := 14) (oi := { dst := some 62, op := Go.Op.move (Go.Operand.tmp 61), type := 4, pos := "law.go:33", after := #[{ on := 13, ground := Go.Ground.data }, { on := 10, ground := Go.Ground.chain }], guard := none }) (v := ?_) rfl (by kernel_rfl) (by kernel_rfl) (by kernel_rfl) (fun _ _ _ h => h) (Or.inl ⟨by rfl, ?_⟩) (by assumption) ?_
          (rotate_left; focus (intro wx hSw; (try dsimp only at hSw); go_simp; try with_reducible rfl))
          (try simp only [Act.put, List.setIfInBounds_toArray, List.set_cons_zero, List.set_cons_succ])  -- 14 move none
          refine wpAnyH_take (i := 15) (oi := { dst := some 63, op := Go.Op.move (Go.Operand.tmp 9), type := 3, pos := "law.go:33", after := #[{ on := 14, ground := Go.Ground.guard }], guard := some (14, false) }) (v := ?_) rfl (by kernel_rfl) (by kernel_rfl) (by kernel_rfl) (fun _ _ _ h => h) (Or.inl ⟨by rfl, ?_⟩) (by assumption) ?_
          (rotate_left; focus (intro wx hSw; (try dsimp only at hSw); go_simp; try with_reducible rfl))
          (try simp only [Act.put, List.setIfInBounds_toArray, List.set_cons_zero, List.set_cons_succ])  -- 15 move some (14, false)
          refine wpAnyH_take (i := 16) (oi := { dst := some 64, op := Go.Op.move (Go.Operand.tmp 2), type := 33, pos := "law.go:33", after := #[{ on := 14, ground := Go.Ground.guard }], guard := some (14, false) }) (v := ?_) rfl (by kernel_rfl) (by kernel_rfl) (by kernel_rfl) (fun _ _ _ h => h) (Or.inl ⟨by rfl, ?_⟩) (by assumption) ?_
          (rotate_left; focus (intro wx hSw; (try dsimp only at hSw); go_simp; try with_reducible rfl))
          (try simp only [Act.put, List.setIfInBounds_toArray, List.set_cons_zero, List.set_cons_succ])  -- 16 move some (14, false)
          refine wpAnyH_take (i := 17) (oi := { dst := some 65, op := Go.Op.call { callee := Go.Callee.builtin Go.Builtin.len, args := #[Go.Operand.tmp 64], argTypes := #[33] }, type := 3, pos := "law.go:33", after := #[{ on := 16, ground := Go.Ground.data }, { on := 14, ground := Go.Ground.guard }], guard := some (14, false) }) (v := ?_) rfl (by kernel_rfl) (by kernel_rfl) (by kernel_rfl) (fun _ _ _ h => h) (Or.inl ⟨by rfl, ?_⟩) (by assumption) ?_
          (rotate_left; focus (intro wx hSw; (try dsimp only at hSw); go_simp; try with_reducible rfl))
          (try simp only [Act.put, List.setIfInBounds_toArray, List.set_cons_zero, List.set_cons_succ])  -- 17 call some (14, false)
          refine wpAnyH_take (i := 18) (oi := { dst := some 66, op := Go.Op.binOp Go.BinOp.lss 3 (Go.Operand.tmp 63) (Go.Operand.tmp 65) 3, type := 4, pos := "law.go:33", after := #[{ on := 15, ground := Go.Ground.data }, { on := 17, ground := Go.Ground.data }, { on := 14, ground := Go.Ground.guard }], guard := some (14, false) }) (v := ?_) rfl (by kernel_rfl) (by kernel_rfl) (by kernel_rfl) (fun _ _ _ h => h) (Or.inl ⟨by rfl, ?_⟩) (by assumption) ?_
          (rotate_left; focus (intro wx hSw; (try dsimp only at hSw); go_simp; try with_reducible rfl))
          (try simp only [Act.put, List.setIfInBounds_toArray, List.set_cons_zero, List.set_cons_succ])  -- 18 binOp some (14, false)
          refine wpAnyH_take (i := 19) (oi := { dst := some 67, op := Go.Op.move (Go.Operand.tmp 66), type := 4, pos := "law.go:33", after := #[{ on := 18, ground := Go.Ground.data }, { on := 14, ground := Go.Ground.chain }, { on := 14, ground := Go.Ground.guard }], guard := some (14, false) }) (v := ?_) rfl (by kernel_rfl) (by kernel_rfl) (by kernel_rfl) (fun _ _ _ h => h) (Or.inl ⟨by rfl, ?_⟩) (by assumption) ?_
          (rotate_left; focus (intro wx hSw; (try dsimp only at hSw); go_simp; try with_reducible rfl))
          (try simp only [Act.put, List.setIfInBounds_toArray, List.set_cons_zero, List.set_cons_succ])  -- 19 move some (14, false)
          refine wpAnyH_take (i := 20) (oi := { dst := some 68, op := Go.Op.move (Go.Operand.tmp 7), type := 34, pos := "law.go:33", after := #[{ on := 19, ground := Go.Ground.guard }], guard := some (19, true) }) rfl (by kernel_rfl) (by kernel_rfl) (by kernel_rfl) (fun _ _ _ h => h) (Or.inr ⟨by rfl, rfl⟩) (by assumption) ?_
          (try simp only [Act.put, List.setIfInBounds_toArray, List.set_cons_zero, List.set_cons_succ])  -- 20 move some (19, true)
          refine wpAnyH_take (i := 21) (oi := { dst := some 69, op := Go.Op.move (Go.Operand.tmp 2), type := 33, pos := "law.go:33", after := #[{ on := 19, ground := Go.Ground.guard }], guard := some (19, true) }) rfl (by kernel_rfl) (by kernel_rfl) (by kernel_rfl) (fun _ _ _ h => h) (Or.inr ⟨by rfl, rfl⟩) (by assumption) ?_
          (try simp only [Act.put, List.setIfInBounds_toArray, List.set_cons_zero, List.set_cons_succ])  -- 21 move some (19, true)
          refine wpAnyH_take (i := 22) (oi := { dst := some 70, op := Go.Op.move (Go.Operand.tmp 9), type := 3, pos := "law.go:33", after := #[{ on := 19, ground := Go.Ground.guard }], guard := some (19, true) }) rfl (by kernel_rfl) (by kernel_rfl) (by kernel_rfl) (fun _ _ _ h => h) (Or.inr ⟨by rfl, rfl⟩) (by assumption) ?_
          (try simp only [Act.put, List.setIfInBounds_toArray, List.set_cons_zero, List.set_cons_succ])  -- 22 move some (19, true)
          refine wpAnyH_take (i := 23) (oi := { dst := some 71, op := Go.Op.indexAddr 33 (Go.Operand.tmp 69) (Go.Operand.tmp 70), type := 0, pos := "law.go:33", after := #[{ on := 21, ground := Go.Ground.data }, { on := 22, ground := Go.Ground.data }, { on := 19, ground := Go.Ground.guard }], guard := some (19, true) }) rfl (by kernel_rfl) (by kernel_rfl) (by kernel_rfl) (fun _ _ _ h => h) (Or.inr ⟨by rfl, rfl⟩) (by assumption) ?_
          (try simp only [Act.put, List.setIfInBounds_toArray, List.set_cons_zero, List.set_cons_succ])  -- 23 indexAddr some (19, true)
          refine wpAnyH_take (i := 24) (oi := { dst := some 72, op := Go.Op.load 22 (Go.Operand.tmp 71), type := 22, pos := "law.go:33", after := #[{ on := 23, ground := Go.Ground.data }, { on := 19, ground := Go.Ground.guard }], guard := some (19, true) }) rfl (by kernel_rfl) (by kernel_rfl) (by kernel_rfl) (fun _ _ _ h => h) (Or.inr ⟨by rfl, rfl⟩) (by assumption) ?_
          (try simp only [Act.put, List.setIfInBounds_toArray, List.set_cons_zero, List.set_cons_succ])  -- 24 load some (19, true)
          refine wpAnyH_take (i := 25) (oi := { dst := some 73, op := Go.Op.call { callee := Go.Callee.value (Go.Operand.func 24), args := #[Go.Operand.tmp 68, Go.Operand.tmp 72], argTypes := #[34, 22] }, type := 22, pos := "law.go:33", after := #[{ on := 20, ground := Go.Ground.data }, { on := 24, ground := Go.Ground.data }, { on := 19, ground := Go.Ground.chain }, { on := 19, ground := Go.Ground.guard }], guard := some (19, true) }) rfl (by kernel_rfl) (by kernel_rfl) (by kernel_rfl) (fun _ _ _ h => h) (Or.inr ⟨by rfl, rfl⟩) (by assumption) ?_
          (try simp only [Act.put, List.setIfInBounds_toArray, List.set_cons_zero, List.set_cons_succ])  -- 25 call some (19, true)
          refine wpAnyH_take (i := 26) (oi := { dst := some 74, op := Go.Op.move (Go.Operand.tmp 8), type := 22, pos := "law.go:33", after := #[{ on := 19, ground := Go.Ground.guard }], guard := some (19, true) }) rfl (by kernel_rfl) (by kernel_rfl) (by kernel_rfl) (fun _ _ _ h => h) (Or.inr ⟨by rfl, rfl⟩) (by assumption) ?_
          (try simp only [Act.put, List.setIfInBounds_toArray, List.set_cons_zero, List.set_cons_succ])  -- 26 move some (19, true)
          refine wpAnyH_take (i := 27) (oi := { dst := some 75, op := Go.Op.move (Go.Operand.tmp 2), type := 33, pos := "law.go:33", after := #[{ on := 19, ground := Go.Ground.guard }], guard := some (19, true) }) rfl (by kernel_rfl) (by kernel_rfl) (by kernel_rfl) (fun _ _ _ h => h) (Or.inr ⟨by rfl, rfl⟩) (by assumption) ?_
          (try simp only [Act.put, List.setIfInBounds_toArray, List.set_cons_zero, List.set_cons_succ])  -- 27 move some (19, true)
          refine wpAnyH_take (i := 28) (oi := { dst := some 76, op := Go.Op.move (Go.Operand.tmp 9), type := 3, pos := "law.go:33", after := #[{ on := 19, ground := Go.Ground.guard }], guard := some (19, true) }) rfl (by kernel_rfl) (by kernel_rfl) (by kernel_rfl) (fun _ _ _ h => h) (Or.inr ⟨by rfl, rfl⟩) (by assumption) ?_
          (try simp only [Act.put, List.setIfInBounds_toArray, List.set_cons_zero, List.set_cons_succ])  -- 28 move some (19, true)
          refine wpAnyH_take (i := 29) (oi := { dst := some 77, op := Go.Op.indexAddr 33 (Go.Operand.tmp 75) (Go.Operand.tmp 76), type := 0, pos := "law.go:33", after := #[{ on := 27, ground := Go.Ground.data }, { on := 28, ground := Go.Ground.data }, { on := 19, ground := Go.Ground.guard }], guard := some (19, true) }) rfl (by kernel_rfl) (by kernel_rfl) (by kernel_rfl) (fun _ _ _ h => h) (Or.inr ⟨by rfl, rfl⟩) (by assumption) ?_
          (try simp only [Act.put, List.setIfInBounds_toArray, List.set_cons_zero, List.set_cons_succ])  -- 29 indexAddr some (19, true)
          refine wpAnyH_take (i := 30) (oi := { dst := some 78, op := Go.Op.load 22 (Go.Operand.tmp 77), type := 22, pos := "law.go:33", after := #[{ on := 29, ground := Go.Ground.data }, { on := 19, ground := Go.Ground.guard }], guard := some (19, true) }) rfl (by kernel_rfl) (by kernel_rfl) (by kernel_rfl) (fun _ _ _ h => h) (Or.inr ⟨by rfl, rfl⟩) (by assumption) ?_
          (try simp only [Act.put, List.setIfInBounds_toArray, List.set_cons_zero, List.set_cons_succ])  -- 30 load some (19, true)
          refine wpAnyH_take (i := 31) (oi := { dst := some 79, op := Go.Op.call { callee := Go.Callee.value (Go.Operand.func 25), args := #[Go.Operand.tmp 74, Go.Operand.tmp 78], argTypes := #[22, 22] }, type := 22, pos := "law.go:33", after := #[{ on := 26, ground := Go.Ground.data }, { on := 30, ground := Go.Ground.data }, { on := 25, ground := Go.Ground.chain }, { on := 19, ground := Go.Ground.guard }], guard := some (19, true) }) rfl (by kernel_rfl) (by kernel_rfl) (by kernel_rfl) (fun _ _ _ h => h) (Or.inr ⟨by rfl, rfl⟩) (by assumption) ?_
          (try simp only [Act.put, List.setIfInBounds_toArray, List.set_cons_zero, List.set_cons_succ])  -- 31 call some (19, true)
          refine wpAnyH_take (i := 32) (oi := { dst := some 80, op := Go.Op.call { callee := Go.Callee.builtin Go.Builtin.min, args := #[Go.Operand.tmp 79, Go.Operand.const (Go.Value.int Go.IntKind.u64 4611686018427387904)], argTypes := #[22, 22] }, type := 22, pos := "law.go:33", after := #[{ on := 31, ground := Go.Ground.data }, { on := 19, ground := Go.Ground.guard }], guard := some (19, true) }) rfl (by kernel_rfl) (by kernel_rfl) (by kernel_rfl) (fun _ _ _ h => h) (Or.inr ⟨by rfl, rfl⟩) (by assumption) ?_
          (try simp only [Act.put, List.setIfInBounds_toArray, List.set_cons_zero, List.set_cons_succ])  -- 32 call some (19, true)
          refine wpAnyH_take (i := 33) (oi := { dst := some 81, op := Go.Op.binOp Go.BinOp.neq 22 (Go.Operand.tmp 73) (Go.Operand.tmp 80) 22, type := 4, pos := "law.go:33", after := #[{ on := 25, ground := Go.Ground.data }, { on := 32, ground := Go.Ground.data }, { on := 19, ground := Go.Ground.guard }], guard := some (19, true) }) rfl (by kernel_rfl) (by kernel_rfl) (by kernel_rfl) (fun _ _ _ h => h) (Or.inr ⟨by rfl, rfl⟩) (by assumption) ?_
          (try simp only [Act.put, List.setIfInBounds_toArray, List.set_cons_zero, List.set_cons_succ])  -- 33 binOp some (19, true)
          refine wpAnyH_take (i := 34) (oi := { dst := some 82, op := Go.Op.pick (Go.Operand.tmp 67) (Go.Operand.tmp 81) (Go.Operand.const (Go.Value.bool false)), type := 4, pos := "law.go:33", after := #[{ on := 19, ground := Go.Ground.data }, { on := 33, ground := Go.Ground.data }, { on := 14, ground := Go.Ground.guard }], guard := some (14, false) }) (v := ?_) rfl (by kernel_rfl) (by kernel_rfl) (by kernel_rfl) (fun _ _ _ h => h) (Or.inl ⟨by rfl, ?_⟩) (by assumption) ?_
          (rotate_left; focus (intro wx hSw; (try dsimp only at hSw); go_simp; try with_reducible rfl))
          (try simp only [Act.put, List.setIfInBounds_toArray, List.set_cons_zero, List.set_cons_succ])  -- 34 pick some (14, false)
          refine wpAnyH_take (i := 35) (oi := { dst := some 83, op := Go.Op.pick (Go.Operand.tmp 62) (Go.Operand.const (Go.Value.bool true)) (Go.Operand.tmp 82), type := 4, pos := "law.go:33", after := #[{ on := 14, ground := Go.Ground.data }, { on := 34, ground := Go.Ground.data }], guard := none }) (v := ?_) rfl (by kernel_rfl) (by kernel_rfl) (by kernel_rfl) (fun _ _ _ h => h) (Or.inl ⟨by rfl, ?_⟩) (by assumption) ?_
          (rotate_left; focus (intro wx hSw; (try dsimp only at hSw); go_simp; try with_reducible rfl))
          (try simp only [Act.put, List.setIfInBounds_toArray, List.set_cons_zero, List.set_cons_succ])  -- 35 pick none
          refine wpAnyH_done (by kernel_rfl) ?_ _
          go_wp2
          go_roundw
          case rel => exact ⟨k + 1, N, by omega, by omega, HB.out, by simp, by simp, o5⟩
          case measure => simp [intOf]; omega
        · rw [s2, s3] at cm
          have CM := Lib.hid cm
          have HB := Lib.hid (show N ≤ 4611686018427387904 by first | exact LNN.out | omega)
          clear cm s2 s3
          go_wp2_with fail
          refine wp_region_held_drew (S := fun wq => wq.cell? ⟨b, off + k, none⟩ = some (.int .u64 n)) (by kernel_rfl) hck (fun hHeld => ?_)
          refine wpAnyH_take (i := 0) (oi := { dst := some 48, op := Go.Op.move (Go.Operand.tmp 7), type := 34, pos := "law.go:33", after := #[], guard := none }) (v := ?_) rfl (by kernel_rfl) (by kernel_rfl) (by kernel_rfl) (fun _ _ _ h => h) (Or.inl ⟨by rfl, ?_⟩) (by assumption) ?_
          (rotate_left; focus (intro wx hSw; (try dsimp only at hSw); go_simp; try with_reducible rfl))
          (try simp only [Act.put, List.setIfInBounds_toArray, List.set_cons_zero, List.set_cons_succ])  -- 0 move none
          refine wpAnyH_take (i := 1) (oi := { dst := some 49, op := Go.Op.move (Go.Operand.tmp 1), type := 33, pos := "law.go:33", after := #[], guard := none }) (v := ?_) rfl (by kernel_rfl) (by kernel_rfl) (by kernel_rfl) (fun _ _ _ h => h) (Or.inl ⟨by rfl, ?_⟩) (by assumption) ?_
          (rotate_left; focus (intro wx hSw; (try dsimp only at hSw); go_simp; try with_reducible rfl))
          (try simp only [Act.put, List.setIfInBounds_toArray, List.set_cons_zero, List.set_cons_succ])  -- 1 move none
          refine wpAnyH_take (i := 2) (oi := { dst := some 50, op := Go.Op.move (Go.Operand.tmp 9), type := 3, pos := "law.go:33", after := #[], guard := none }) (v := ?_) rfl (by kernel_rfl) (by kernel_rfl) (by kernel_rfl) (fun _ _ _ h => h) (Or.inl ⟨by rfl, ?_⟩) (by assumption) ?_
          (rotate_left; focus (intro wx hSw; (try dsimp only at hSw); go_simp; try with_reducible rfl))
          (try simp only [Act.put, List.setIfInBounds_toArray, List.set_cons_zero, List.set_cons_succ])  -- 2 move none
          refine wpAnyH_take (i := 3) (oi := { dst := some 51, op := Go.Op.indexAddr 33 (Go.Operand.tmp 49) (Go.Operand.tmp 50), type := 0, pos := "law.go:33", after := #[{ on := 1, ground := Go.Ground.data }, { on := 2, ground := Go.Ground.data }], guard := none }) (v := ?_) rfl (by kernel_rfl) (by kernel_rfl) (by kernel_rfl) (fun _ _ _ h => h) (Or.inl ⟨by rfl, ?_⟩) (by assumption) ?_
          (rotate_left; focus (intro wx hSw; (try dsimp only at hSw); go_simp; try with_reducible rfl))
          (try simp only [Act.put, List.setIfInBounds_toArray, List.set_cons_zero, List.set_cons_succ])  -- 3 indexAddr none
          refine wpAnyH_take (i := 4) (oi := { dst := some 52, op := Go.Op.load 22 (Go.Operand.tmp 51), type := 22, pos := "law.go:33", after := #[{ on := 3, ground := Go.Ground.data }], guard := none }) (v := ?_) rfl (by kernel_rfl) (by kernel_rfl) (by kernel_rfl) (fun _ _ _ h => h) (Or.inl ⟨by rfl, ?_⟩) (by assumption) ?_
          (rotate_left; focus (intro wx hSw; (try dsimp only at hSw); go_simp; try with_reducible rfl))
          (try simp only [Act.put, List.setIfInBounds_toArray, List.set_cons_zero, List.set_cons_succ])  -- 4 load none
          refine wpAnyH_take (i := 6) (oi := { dst := some 54, op := Go.Op.move (Go.Operand.tmp 10), type := 36, pos := "law.go:33", after := #[], guard := none }) (v := ?_) rfl (by kernel_rfl) (by kernel_rfl) (by kernel_rfl) (fun _ _ _ h => h) (Or.inl ⟨by rfl, ?_⟩) (by assumption) ?_
          (rotate_left; focus (intro wx hSw; (try dsimp only at hSw); go_simp; try with_reducible rfl))
          (try simp only [Act.put, List.setIfInBounds_toArray, List.set_cons_zero, List.set_cons_succ])  -- 6 move none
          refine wpAnyH_ready (rs := [5]) (by kernel_rfl) (by simp) ?_
          refine AllReadyH.cons (o := { dst := some 53, op := Go.Op.call { callee := Go.Callee.value (Go.Operand.func 22), args := #[Go.Operand.tmp 48, Go.Operand.tmp 52], argTypes := #[34, 22] }, type := 36, pos := "law.go:33", after := #[{ on := 0, ground := Go.Ground.data }, { on := 4, ground := Go.Ground.data }], guard := none }) rfl (fun K hK => ?_) AllReadyH.nil
          go_simp
          refine (CM.out _ HO.out.drew).mono ?_; rintro e w5 ⟨rfl, o5⟩
          refine hK.out _ _ ?_ (fun hHeld => ?_)
          focus exact (o5.2.1.cell (p := ⟨b, off + k, none⟩) hb).trans HC.out
          clear hK K
          (try simp only [Act.put, List.setIfInBounds_toArray, List.set_cons_zero, List.set_cons_succ])  -- 5 call none
          refine wpAnyH_take (i := 7) (oi := { dst := some 55, op := Go.Op.binOp Go.BinOp.neq 36 (Go.Operand.tmp 53) (Go.Operand.tmp 54) 36, type := 4, pos := "law.go:33", after := #[{ on := 5, ground := Go.Ground.data }, { on := 6, ground := Go.Ground.data }], guard := none }) (v := ?_) rfl (by kernel_rfl) (by kernel_rfl) (by kernel_rfl) (fun _ _ _ h => h) (Or.inl ⟨by rfl, ?_⟩) (by assumption) ?_
          (rotate_left; focus (intro wx hSw; (try dsimp only at hSw); go_simp; try with_reducible rfl))
          (try simp only [Act.put, List.setIfInBounds_toArray, List.set_cons_zero, List.set_cons_succ])  -- 7 binOp none
          refine wpAnyH_take (i := 8) (oi := { dst := some 56, op := Go.Op.move (Go.Operand.tmp 55), type := 4, pos := "law.go:33", after := #[{ on := 7, ground := Go.Ground.data }, { on := 5, ground := Go.Ground.chain }], guard := none }) (v := ?_) rfl (by kernel_rfl) (by kernel_rfl) (by kernel_rfl) (fun _ _ _ h => h) (Or.inl ⟨by rfl, ?_⟩) (by assumption) ?_
          (rotate_left; focus (intro wx hSw; (try dsimp only at hSw); go_simp; try with_reducible rfl))
          (try simp only [Act.put, List.setIfInBounds_toArray, List.set_cons_zero, List.set_cons_succ])  -- 8 move none
          refine wpAnyH_take (i := 9) (oi := { dst := some 57, op := Go.Op.move (Go.Operand.tmp 7), type := 34, pos := "law.go:33", after := #[{ on := 8, ground := Go.Ground.guard }], guard := some (8, false) }) (v := ?_) rfl (by kernel_rfl) (by kernel_rfl) (by kernel_rfl) (fun _ _ _ h => h) (Or.inl ⟨by rfl, ?_⟩) (by assumption) ?_
          (rotate_left; focus (intro wx hSw; (try dsimp only at hSw); go_simp; try with_reducible rfl))
          (try simp only [Act.put, List.setIfInBounds_toArray, List.set_cons_zero, List.set_cons_succ])  -- 9 move some (8, false)
          refine wpAnyH_take (i := 11) (oi := { dst := some 59, op := Go.Op.move (Go.Operand.tmp 8), type := 22, pos := "law.go:33", after := #[{ on := 8, ground := Go.Ground.guard }], guard := some (8, false) }) (v := ?_) rfl (by kernel_rfl) (by kernel_rfl) (by kernel_rfl) (fun _ _ _ h => h) (Or.inl ⟨by rfl, ?_⟩) (by assumption) ?_
          (rotate_left; focus (intro wx hSw; (try dsimp only at hSw); go_simp; try with_reducible rfl))
          (try simp only [Act.put, List.setIfInBounds_toArray, List.set_cons_zero, List.set_cons_succ])  -- 11 move some (8, false)
          refine wpAnyH_ready (rs := [10]) (by kernel_rfl) (by simp) ?_
          refine AllReadyH.cons (o := { dst := some 58, op := Go.Op.call { callee := Go.Callee.value (Go.Operand.func 23), args := #[Go.Operand.tmp 57], argTypes := #[34] }, type := 22, pos := "law.go:33", after := #[{ on := 9, ground := Go.Ground.data }, { on := 8, ground := Go.Ground.chain }, { on := 8, ground := Go.Ground.guard }], guard := some (8, false) }) rfl (fun K hK => ?_) AllReadyH.nil
          go_simp
          refine (now_any _ _ _ o5.1).mono ?_; rintro e w6 ⟨rfl, rfl⟩
          refine hK.out _ _ ?_ (fun hHeld => ?_)
          focus assumption
          clear hK K
          (try simp only [Act.put, List.setIfInBounds_toArray, List.set_cons_zero, List.set_cons_succ])  -- 10 call some (8, false)
          refine wpAnyH_take (i := 12) (oi := { dst := some 60, op := Go.Op.binOp Go.BinOp.neq 22 (Go.Operand.tmp 58) (Go.Operand.tmp 59) 22, type := 4, pos := "law.go:33", after := #[{ on := 10, ground := Go.Ground.data }, { on := 11, ground := Go.Ground.data }, { on := 8, ground := Go.Ground.guard }], guard := some (8, false) }) (v := ?_) rfl (by kernel_rfl) (by kernel_rfl) (by kernel_rfl) (fun _ _ _ h => h) (Or.inl ⟨by rfl, ?_⟩) (by assumption) ?_
          (rotate_left; focus (intro wx hSw; (try dsimp only at hSw); go_simp; try with_reducible rfl))
          (try simp only [Act.put, List.setIfInBounds_toArray, List.set_cons_zero, List.set_cons_succ])  -- 12 binOp some (8, false)
          refine wpAnyH_take (i := 13) (oi := { dst := some 61, op := Go.Op.pick (Go.Operand.tmp 56) (Go.Operand.const (Go.Value.bool true)) (Go.Operand.tmp 60), type := 4, pos := "law.go:33", after := #[{ on := 8, ground := Go.Ground.data }, { on := 12, ground := Go.Ground.data }], guard := none }) (v := ?_) rfl (by kernel_rfl) (by kernel_rfl) (by kernel_rfl) (fun _ _ _ h => h) (Or.inl ⟨by rfl, ?_⟩) (by assumption) ?_
          (rotate_left; focus (intro wx hSw; (try dsimp only at hSw); go_simp; try with_reducible rfl))
          (try simp only [Act.put, List.setIfInBounds_toArray, List.set_cons_zero, List.set_cons_succ])  -- 13 pick none
          refine wpAnyH_take (i := 14) (oi := { dst := some 62, op := Go.Op.move (Go.Operand.tmp 61), type := 4, pos := "law.go:33", after := #[{ on := 13, ground := Go.Ground.data }, { on := 10, ground := Go.Ground.chain }], guard := none }) (v := ?_) rfl (by kernel_rfl) (by kernel_rfl) (by kernel_rfl) (fun _ _ _ h => h) (Or.inl ⟨by rfl, ?_⟩) (by assumption) ?_
          (rotate_left; focus (intro wx hSw; (try dsimp only at hSw); go_simp; try with_reducible rfl))
          (try simp only [Act.put, List.setIfInBounds_toArray, List.set_cons_zero, List.set_cons_succ])  -- 14 move none
          refine wpAnyH_take (i := 15) (oi := { dst := some 63, op := Go.Op.move (Go.Operand.tmp 9), type := 3, pos := "law.go:33", after := #[{ on := 14, ground := Go.Ground.guard }], guard := some (14, false) }) (v := ?_) rfl (by kernel_rfl) (by kernel_rfl) (by kernel_rfl) (fun _ _ _ h => h) (Or.inl ⟨by rfl, ?_⟩) (by assumption) ?_
          (rotate_left; focus (intro wx hSw; (try dsimp only at hSw); go_simp; try with_reducible rfl))
          (try simp only [Act.put, List.setIfInBounds_toArray, List.set_cons_zero, List.set_cons_succ])  -- 15 move some (14, false)
          refine wpAnyH_take (i := 16) (oi := { dst := some 64, op := Go.Op.move (Go.Operand.tmp 2), type := 33, pos := "law.go:33", after := #[{ on := 14, ground := Go.Ground.guard }], guard := some (14, false) }) (v := ?_) rfl (by kernel_rfl) (by kernel_rfl) (by kernel_rfl) (fun _ _ _ h => h) (Or.inl ⟨by rfl, ?_⟩) (by assumption) ?_
          (rotate_left; focus (intro wx hSw; (try dsimp only at hSw); go_simp; try with_reducible rfl))
          (try simp only [Act.put, List.setIfInBounds_toArray, List.set_cons_zero, List.set_cons_succ])  -- 16 move some (14, false)
          refine wpAnyH_take (i := 17) (oi := { dst := some 65, op := Go.Op.call { callee := Go.Callee.builtin Go.Builtin.len, args := #[Go.Operand.tmp 64], argTypes := #[33] }, type := 3, pos := "law.go:33", after := #[{ on := 16, ground := Go.Ground.data }, { on := 14, ground := Go.Ground.guard }], guard := some (14, false) }) (v := ?_) rfl (by kernel_rfl) (by kernel_rfl) (by kernel_rfl) (fun _ _ _ h => h) (Or.inl ⟨by rfl, ?_⟩) (by assumption) ?_
          (rotate_left; focus (intro wx hSw; (try dsimp only at hSw); go_simp; try with_reducible rfl))
          (try simp only [Act.put, List.setIfInBounds_toArray, List.set_cons_zero, List.set_cons_succ])  -- 17 call some (14, false)
          refine wpAnyH_take (i := 18) (oi := { dst := some 66, op := Go.Op.binOp Go.BinOp.lss 3 (Go.Operand.tmp 63) (Go.Operand.tmp 65) 3, type := 4, pos := "law.go:33", after := #[{ on := 15, ground := Go.Ground.data }, { on := 17, ground := Go.Ground.data }, { on := 14, ground := Go.Ground.guard }], guard := some (14, false) }) (v := ?_) rfl (by kernel_rfl) (by kernel_rfl) (by kernel_rfl) (fun _ _ _ h => h) (Or.inl ⟨by rfl, ?_⟩) (by assumption) ?_
          (rotate_left; focus (intro wx hSw; (try dsimp only at hSw); go_simp; try with_reducible rfl))
          (try simp only [Act.put, List.setIfInBounds_toArray, List.set_cons_zero, List.set_cons_succ])  -- 18 binOp some (14, false)
          refine wpAnyH_take (i := 19) (oi := { dst := some 67, op := Go.Op.move (Go.Operand.tmp 66), type := 4, pos := "law.go:33", after := #[{ on := 18, ground := Go.Ground.data }, { on := 14, ground := Go.Ground.chain }, { on := 14, ground := Go.Ground.guard }], guard := some (14, false) }) (v := ?_) rfl (by kernel_rfl) (by kernel_rfl) (by kernel_rfl) (fun _ _ _ h => h) (Or.inl ⟨by rfl, ?_⟩) (by assumption) ?_
          (rotate_left; focus (intro wx hSw; (try dsimp only at hSw); go_simp; try with_reducible rfl))
          (try simp only [Act.put, List.setIfInBounds_toArray, List.set_cons_zero, List.set_cons_succ])  -- 19 move some (14, false)
          refine wpAnyH_take (i := 20) (oi := { dst := some 68, op := Go.Op.move (Go.Operand.tmp 7), type := 34, pos := "law.go:33", after := #[{ on := 19, ground := Go.Ground.guard }], guard := some (19, true) }) rfl (by kernel_rfl) (by kernel_rfl) (by kernel_rfl) (fun _ _ _ h => h) (Or.inr ⟨by rfl, rfl⟩) (by assumption) ?_
          (try simp only [Act.put, List.setIfInBounds_toArray, List.set_cons_zero, List.set_cons_succ])  -- 20 move some (19, true)
          refine wpAnyH_take (i := 21) (oi := { dst := some 69, op := Go.Op.move (Go.Operand.tmp 2), type := 33, pos := "law.go:33", after := #[{ on := 19, ground := Go.Ground.guard }], guard := some (19, true) }) rfl (by kernel_rfl) (by kernel_rfl) (by kernel_rfl) (fun _ _ _ h => h) (Or.inr ⟨by rfl, rfl⟩) (by assumption) ?_
          (try simp only [Act.put, List.setIfInBounds_toArray, List.set_cons_zero, List.set_cons_succ])  -- 21 move some (19, true)
          refine wpAnyH_take (i := 22) (oi := { dst := some 70, op := Go.Op.move (Go.Operand.tmp 9), type := 3, pos := "law.go:33", after := #[{ on := 19, ground := Go.Ground.guard }], guard := some (19, true) }) rfl (by kernel_rfl) (by kernel_rfl) (by kernel_rfl) (fun _ _ _ h => h) (Or.inr ⟨by rfl, rfl⟩) (by assumption) ?_
          (try simp only [Act.put, List.setIfInBounds_toArray, List.set_cons_zero, List.set_cons_succ])  -- 22 move some (19, true)
          refine wpAnyH_take (i := 23) (oi := { dst := some 71, op := Go.Op.indexAddr 33 (Go.Operand.tmp 69) (Go.Operand.tmp 70), type := 0, pos := "law.go:33", after := #[{ on := 21, ground := Go.Ground.data }, { on := 22, ground := Go.Ground.data }, { on := 19, ground := Go.Ground.guard }], guard := some (19, true) }) rfl (by kernel_rfl) (by kernel_rfl) (by kernel_rfl) (fun _ _ _ h => h) (Or.inr ⟨by rfl, rfl⟩) (by assumption) ?_
          (try simp only [Act.put, List.setIfInBounds_toArray, List.set_cons_zero, List.set_cons_succ])  -- 23 indexAddr some (19, true)
          refine wpAnyH_take (i := 24) (oi := { dst := some 72, op := Go.Op.load 22 (Go.Operand.tmp 71), type := 22, pos := "law.go:33", after := #[{ on := 23, ground := Go.Ground.data }, { on := 19, ground := Go.Ground.guard }], guard := some (19, true) }) rfl (by kernel_rfl) (by kernel_rfl) (by kernel_rfl) (fun _ _ _ h => h) (Or.inr ⟨by rfl, rfl⟩) (by assumption) ?_
          (try simp only [Act.put, List.setIfInBounds_toArray, List.set_cons_zero, List.set_cons_succ])  -- 24 load some (19, true)
          refine wpAnyH_take (i := 25) (oi := { dst := some 73, op := Go.Op.call { callee := Go.Callee.value (Go.Operand.func 24), args := #[Go.Operand.tmp 68, Go.Operand.tmp 72], argTypes := #[34, 22] }, type := 22, pos := "law.go:33", after := #[{ on := 20, ground := Go.Ground.data }, { on := 24, ground := Go.Ground.data }, { on := 19, ground := Go.Ground.chain }, { on := 19, ground := Go.Ground.guard }], guard := some (19, true) }) rfl (by kernel_rfl) (by kernel_rfl) (by kernel_rfl) (fun _ _ _ h => h) (Or.inr ⟨by rfl, rfl⟩) (by assumption) ?_
          (try simp only [Act.put, List.setIfInBounds_toArray, List.set_cons_zero, List.set_cons_succ])  -- 25 call some (19, true)
          refine wpAnyH_take (i := 26) (oi := { dst := some 74, op := Go.Op.move (Go.Operand.tmp 8), type := 22, pos := "law.go:33", after := #[{ on := 19, ground := Go.Ground.guard }], guard := some (19, true) }) rfl (by kernel_rfl) (by kernel_rfl) (by kernel_rfl) (fun _ _ _ h => h) (Or.inr ⟨by rfl, rfl⟩) (by assumption) ?_
          (try simp only [Act.put, List.setIfInBounds_toArray, List.set_cons_zero, List.set_cons_succ])  -- 26 move some (19, true)
          refine wpAnyH_take (i := 27) (oi := { dst := some 75, op := Go.Op.move (Go.Operand.tmp 2), type := 33, pos := "law.go:33", after := #[{ on := 19, ground := Go.Ground.guard }], guard := some (19, true) }) rfl (by kernel_rfl) (by kernel_rfl) (by kernel_rfl) (fun _ _ _ h => h) (Or.inr ⟨by rfl, rfl⟩) (by assumption) ?_
          (try simp only [Act.put, List.setIfInBounds_toArray, List.set_cons_zero, List.set_cons_succ])  -- 27 move some (19, true)
          refine wpAnyH_take (i := 28) (oi := { dst := some 76, op := Go.Op.move (Go.Operand.tmp 9), type := 3, pos := "law.go:33", after := #[{ on := 19, ground := Go.Ground.guard }], guard := some (19, true) }) rfl (by kernel_rfl) (by kernel_rfl) (by kernel_rfl) (fun _ _ _ h => h) (Or.inr ⟨by rfl, rfl⟩) (by assumption) ?_
          (try simp only [Act.put, List.setIfInBounds_toArray, List.set_cons_zero, List.set_cons_succ])  -- 28 move some (19, true)
          refine wpAnyH_take (i := 29) (oi := { dst := some 77, op := Go.Op.indexAddr 33 (Go.Operand.tmp 75) (Go.Operand.tmp 76), type := 0, pos := "law.go:33", after := #[{ on := 27, ground := Go.Ground.data }, { on := 28, ground := Go.Ground.data }, { on := 19, ground := Go.Ground.guard }], guard := some (19, true) }) rfl (by kernel_rfl) (by kernel_rfl) (by kernel_rfl) (fun _ _ _ h => h) (Or.inr ⟨by rfl, rfl⟩) (by assumption) ?_
          (try simp only [Act.put, List.setIfInBounds_toArray, List.set_cons_zero, List.set_cons_succ])  -- 29 indexAddr some (19, true)
          refine wpAnyH_take (i := 30) (oi := { dst := some 78, op := Go.Op.load 22 (Go.Operand.tmp 77), type := 22, pos := "law.go:33", after := #[{ on := 29, ground := Go.Ground.data }, { on := 19, ground := Go.Ground.guard }], guard := some (19, true) }) rfl (by kernel_rfl) (by kernel_rfl) (by kernel_rfl) (fun _ _ _ h => h) (Or.inr ⟨by rfl, rfl⟩) (by assumption) ?_
          (try simp only [Act.put, List.setIfInBounds_toArray, List.set_cons_zero, List.set_cons_succ])  -- 30 load some (19, true)
          refine wpAnyH_take (i := 31) (oi := { dst := some 79, op := Go.Op.call { callee := Go.Callee.value (Go.Operand.func 25), args := #[Go.Operand.tmp 74, Go.Operand.tmp 78], argTypes := #[22, 22] }, type := 22, pos := "law.go:33", after := #[{ on := 26, ground := Go.Ground.data }, { on := 30, ground := Go.Ground.data }, { on := 25, ground := Go.Ground.chain }, { on := 19, ground := Go.Ground.guard }], guard := some (19, true) }) rfl (by kernel_rfl) (by kernel_rfl) (by kernel_rfl) (fun _ _ _ h => h) (Or.inr ⟨by rfl, rfl⟩) (by assumption) ?_
          (try simp only [Act.put, List.setIfInBounds_toArray, List.set_cons_zero, List.set_cons_succ])  -- 31 call some (19, true)
          refine wpAnyH_take (i := 32) (oi := { dst := some 80, op := Go.Op.call { callee := Go.Callee.builtin Go.Builtin.min, args := #[Go.Operand.tmp 79, Go.Operand.const (Go.Value.int Go.IntKind.u64 4611686018427387904)], argTypes := #[22, 22] }, type := 22, pos := "law.go:33", after := #[{ on := 31, ground := Go.Ground.data }, { on := 19, ground := Go.Ground.guard }], guard := some (19, true) }) rfl (by kernel_rfl) (by kernel_rfl) (by kernel_rfl) (fun _ _ _ h => h) (Or.inr ⟨by rfl, rfl⟩) (by assumption) ?_
          (try simp only [Act.put, List.setIfInBounds_toArray, List.set_cons_zero, List.set_cons_succ])  -- 32 call some (19, true)
          refine wpAnyH_take (i := 33) (oi := { dst := some 81, op := Go.Op.binOp Go.BinOp.neq 22 (Go.Operand.tmp 73) (Go.Operand.tmp 80) 22, type := 4, pos := "law.go:33", after := #[{ on := 25, ground := Go.Ground.data }, { on := 32, ground := Go.Ground.data }, { on := 19, ground := Go.Ground.guard }], guard := some (19, true) }) rfl (by kernel_rfl) (by kernel_rfl) (by kernel_rfl) (fun _ _ _ h => h) (Or.inr ⟨by rfl, rfl⟩) (by assumption) ?_
          (try simp only [Act.put, List.setIfInBounds_toArray, List.set_cons_zero, List.set_cons_succ])  -- 33 binOp some (19, true)
          refine wpAnyH_take (i := 34) (oi := { dst := some 82, op := Go.Op.pick (Go.Operand.tmp 67) (Go.Operand.tmp 81) (Go.Operand.const (Go.Value.bool false)), type := 4, pos := "law.go:33", after := #[{ on := 19, ground := Go.Ground.data }, { on := 33, ground := Go.Ground.data }, { on := 14, ground := Go.Ground.guard }], guard := some (14, false) }) (v := ?_) rfl (by kernel_rfl) (by kernel_rfl) (by kernel_rfl) (fun _ _ _ h => h) (Or.inl ⟨by rfl, ?_⟩) (by assumption) ?_
          (rotate_left; focus (intro wx hSw; (try dsimp only at hSw); go_simp; try with_reducible rfl))
          (try simp only [Act.put, List.setIfInBounds_toArray, List.set_cons_zero, List.set_cons_succ])  -- 34 pick some (14, false)
          refine wpAnyH_take (i := 35) (oi := { dst := some 83, op := Go.Op.pick (Go.Operand.tmp 62) (Go.Operand.const (Go.Value.bool true)) (Go.Operand.tmp 82), type := 4, pos := "law.go:33", after := #[{ on := 14, ground := Go.Ground.data }, { on := 34, ground := Go.Ground.data }], guard := none }) (v := ?_) rfl (by kernel_rfl) (by kernel_rfl) (by kernel_rfl) (fun _ _ _ h => h) (Or.inl ⟨by rfl, ?_⟩) (by assumption) ?_
          (rotate_left; focus (intro wx hSw; (try dsimp only at hSw); go_simp; try with_reducible rfl))
          (try simp only [Act.put, List.setIfInBounds_toArray, List.set_cons_zero, List.set_cons_succ])  -- 35 pick none
          refine wpAnyH_done (by kernel_rfl) ?_ _
          go_wp2
          go_roundw
          case rel => exact ⟨k + 1, N, by omega, by omega, HB.out, by simp, by simp, o5⟩
          case measure => simp [intOf]; omega
        · rw [s2, s3] at cm
          have CM := Lib.hid cm
          have HB := Lib.hid (show n ≤ 4611686018427387904 by first | exact LNN.out | omega)
          clear cm s2 s3
          go_wp2_with fail
          refine wp_region_held_drew (S := fun wq => wq.cell? ⟨b, off + k, none⟩ = some (.int .u64 n)) (by kernel_rfl) hck (fun hHeld => ?_)
          refine wpAnyH_take (i := 0) (oi := { dst := some 48, op := Go.Op.move (Go.Operand.tmp 7), type := 34, pos := "law.go:33", after := #[], guard := none }) (v := ?_) rfl (by kernel_rfl) (by kernel_rfl) (by kernel_rfl) (fun _ _ _ h => h) (Or.inl ⟨by rfl, ?_⟩) (by assumption) ?_
          (rotate_left; focus (intro wx hSw; (try dsimp only at hSw); go_simp; try with_reducible rfl))
          (try simp only [Act.put, List.setIfInBounds_toArray, List.set_cons_zero, List.set_cons_succ])  -- 0 move none
          refine wpAnyH_take (i := 1) (oi := { dst := some 49, op := Go.Op.move (Go.Operand.tmp 1), type := 33, pos := "law.go:33", after := #[], guard := none }) (v := ?_) rfl (by kernel_rfl) (by kernel_rfl) (by kernel_rfl) (fun _ _ _ h => h) (Or.inl ⟨by rfl, ?_⟩) (by assumption) ?_
          (rotate_left; focus (intro wx hSw; (try dsimp only at hSw); go_simp; try with_reducible rfl))
          (try simp only [Act.put, List.setIfInBounds_toArray, List.set_cons_zero, List.set_cons_succ])  -- 1 move none
          refine wpAnyH_take (i := 2) (oi := { dst := some 50, op := Go.Op.move (Go.Operand.tmp 9), type := 3, pos := "law.go:33", after := #[], guard := none }) (v := ?_) rfl (by kernel_rfl) (by kernel_rfl) (by kernel_rfl) (fun _ _ _ h => h) (Or.inl ⟨by rfl, ?_⟩) (by assumption) ?_
          (rotate_left; focus (intro wx hSw; (try dsimp only at hSw); go_simp; try with_reducible rfl))
          (try simp only [Act.put, List.setIfInBounds_toArray, List.set_cons_zero, List.set_cons_succ])  -- 2 move none
          refine wpAnyH_take (i := 3) (oi := { dst := some 51, op := Go.Op.indexAddr 33 (Go.Operand.tmp 49) (Go.Operand.tmp 50), type := 0, pos := "law.go:33", after := #[{ on := 1, ground := Go.Ground.data }, { on := 2, ground := Go.Ground.data }], guard := none }) (v := ?_) rfl (by kernel_rfl) (by kernel_rfl) (by kernel_rfl) (fun _ _ _ h => h) (Or.inl ⟨by rfl, ?_⟩) (by assumption) ?_
          (rotate_left; focus (intro wx hSw; (try dsimp only at hSw); go_simp; try with_reducible rfl))
          (try simp only [Act.put, List.setIfInBounds_toArray, List.set_cons_zero, List.set_cons_succ])  -- 3 indexAddr none
          refine wpAnyH_take (i := 4) (oi := { dst := some 52, op := Go.Op.load 22 (Go.Operand.tmp 51), type := 22, pos := "law.go:33", after := #[{ on := 3, ground := Go.Ground.data }], guard := none }) (v := ?_) rfl (by kernel_rfl) (by kernel_rfl) (by kernel_rfl) (fun _ _ _ h => h) (Or.inl ⟨by rfl, ?_⟩) (by assumption) ?_
          (rotate_left; focus (intro wx hSw; (try dsimp only at hSw); go_simp; try with_reducible rfl))
          (try simp only [Act.put, List.setIfInBounds_toArray, List.set_cons_zero, List.set_cons_succ])  -- 4 load none
          refine wpAnyH_take (i := 6) (oi := { dst := some 54, op := Go.Op.move (Go.Operand.tmp 10), type := 36, pos := "law.go:33", after := #[], guard := none }) (v := ?_) rfl (by kernel_rfl) (by kernel_rfl) (by kernel_rfl) (fun _ _ _ h => h) (Or.inl ⟨by rfl, ?_⟩) (by assumption) ?_
          (rotate_left; focus (intro wx hSw; (try dsimp only at hSw); go_simp; try with_reducible rfl))
          (try simp only [Act.put, List.setIfInBounds_toArray, List.set_cons_zero, List.set_cons_succ])  -- 6 move none
          refine wpAnyH_ready (rs := [5]) (by kernel_rfl) (by simp) ?_
          refine AllReadyH.cons (o := { dst := some 53, op := Go.Op.call { callee := Go.Callee.value (Go.Operand.func 22), args := #[Go.Operand.tmp 48, Go.Operand.tmp 52], argTypes := #[34, 22] }, type := 36, pos := "law.go:33", after := #[{ on := 0, ground := Go.Ground.data }, { on := 4, ground := Go.Ground.data }], guard := none }) rfl (fun K hK => ?_) AllReadyH.nil
          go_simp
          refine (CM.out _ HO.out.drew).mono ?_; rintro e w5 ⟨rfl, o5⟩
          refine hK.out _ _ ?_ (fun hHeld => ?_)
          focus exact (o5.2.1.cell (p := ⟨b, off + k, none⟩) hb).trans HC.out
          clear hK K
          (try simp only [Act.put, List.setIfInBounds_toArray, List.set_cons_zero, List.set_cons_succ])  -- 5 call none
          refine wpAnyH_take (i := 7) (oi := { dst := some 55, op := Go.Op.binOp Go.BinOp.neq 36 (Go.Operand.tmp 53) (Go.Operand.tmp 54) 36, type := 4, pos := "law.go:33", after := #[{ on := 5, ground := Go.Ground.data }, { on := 6, ground := Go.Ground.data }], guard := none }) (v := ?_) rfl (by kernel_rfl) (by kernel_rfl) (by kernel_rfl) (fun _ _ _ h => h) (Or.inl ⟨by rfl, ?_⟩) (by assumption) ?_
          (rotate_left; focus (intro wx hSw; (try dsimp only at hSw); go_simp; try with_reducible rfl))
          (try simp only [Act.put, List.setIfInBounds_toArray, List.set_cons_zero, List.set_cons_succ])  -- 7 binOp none
          refine wpAnyH_take (i := 8) (oi := { dst := some 56, op := Go.Op.move (Go.Operand.tmp 55), type := 4, pos := "law.go:33", after := #[{ on := 7, ground := Go.Ground.data }, { on := 5, ground := Go.Ground.chain }], guard := none }) (v := ?_) rfl (by kernel_rfl) (by kernel_rfl) (by kernel_rfl) (fun _ _ _ h => h) (Or.inl ⟨by rfl, ?_⟩) (by assumption) ?_
          (rotate_left; focus (intro wx hSw; (try dsimp only at hSw); go_simp; try with_reducible rfl))
          (try simp only [Act.put, List.setIfInBounds_toArray, List.set_cons_zero, List.set_cons_succ])  -- 8 move none
          refine wpAnyH_take (i := 9) (oi := { dst := some 57, op := Go.Op.move (Go.Operand.tmp 7), type := 34, pos := "law.go:33", after := #[{ on := 8, ground := Go.Ground.guard }], guard := some (8, false) }) (v := ?_) rfl (by kernel_rfl) (by kernel_rfl) (by kernel_rfl) (fun _ _ _ h => h) (Or.inl ⟨by rfl, ?_⟩) (by assumption) ?_
          (rotate_left; focus (intro wx hSw; (try dsimp only at hSw); go_simp; try with_reducible rfl))
          (try simp only [Act.put, List.setIfInBounds_toArray, List.set_cons_zero, List.set_cons_succ])  -- 9 move some (8, false)
          refine wpAnyH_take (i := 11) (oi := { dst := some 59, op := Go.Op.move (Go.Operand.tmp 8), type := 22, pos := "law.go:33", after := #[{ on := 8, ground := Go.Ground.guard }], guard := some (8, false) }) (v := ?_) rfl (by kernel_rfl) (by kernel_rfl) (by kernel_rfl) (fun _ _ _ h => h) (Or.inl ⟨by rfl, ?_⟩) (by assumption) ?_
          (rotate_left; focus (intro wx hSw; (try dsimp only at hSw); go_simp; try with_reducible rfl))
          (try simp only [Act.put, List.setIfInBounds_toArray, List.set_cons_zero, List.set_cons_succ])  -- 11 move some (8, false)
          refine wpAnyH_ready (rs := [10]) (by kernel_rfl) (by simp) ?_
          refine AllReadyH.cons (o := { dst := some 58, op := Go.Op.call { callee := Go.Callee.value (Go.Operand.func 23), args := #[Go.Operand.tmp 57], argTypes := #[34] }, type := 22, pos := "law.go:33", after := #[{ on := 9, ground := Go.Ground.data }, { on := 8, ground := Go.Ground.chain }, { on := 8, ground := Go.Ground.guard }], guard := some (8, false) }) rfl (fun K hK => ?_) AllReadyH.nil
          go_simp
          refine (now_any _ _ _ o5.1).mono ?_; rintro e w6 ⟨rfl, rfl⟩
          refine hK.out _ _ ?_ (fun hHeld => ?_)
          focus assumption
          clear hK K
          (try simp only [Act.put, List.setIfInBounds_toArray, List.set_cons_zero, List.set_cons_succ])  -- 10 call some (8, false)
          refine wpAnyH_take (i := 12) (oi := { dst := some 60, op := Go.Op.binOp Go.BinOp.neq 22 (Go.Operand.tmp 58) (Go.Operand.tmp 59) 22, type := 4, pos := "law.go:33", after := #[{ on := 10, ground := Go.Ground.data }, { on := 11, ground := Go.Ground.data }, { on := 8, ground := Go.Ground.guard }], guard := some (8, false) }) (v := ?_) rfl (by kernel_rfl) (by kernel_rfl) (by kernel_rfl) (fun _ _ _ h => h) (Or.inl ⟨by rfl, ?_⟩) (by assumption) ?_
          (rotate_left; focus (intro wx hSw; (try dsimp only at hSw); go_simp; try with_reducible rfl))
          (try simp only [Act.put, List.setIfInBounds_toArray, List.set_cons_zero, List.set_cons_succ])  -- 12 binOp some (8, false)
          refine wpAnyH_take (i := 13) (oi := { dst := some 61, op := Go.Op.pick (Go.Operand.tmp 56) (Go.Operand.const (Go.Value.bool true)) (Go.Operand.tmp 60), type := 4, pos := "law.go:33", after := #[{ on := 8, ground := Go.Ground.data }, { on := 12, ground := Go.Ground.data }], guard := none }) (v := ?_) rfl (by kernel_rfl) (by kernel_rfl) (by kernel_rfl) (fun _ _ _ h => h) (Or.inl ⟨by rfl, ?_⟩) (by assumption) ?_
          (rotate_left; focus (intro wx hSw; (try dsimp only at hSw); go_simp; try with_reducible rfl))
          (try simp only [Act.put, List.setIfInBounds_toArray, List.set_cons_zero, List.set_cons_succ])  -- 13 pick none
          refine wpAnyH_take (i := 14) (oi := { dst := some 62, op := Go.Op.move (Go.Operand.tmp 61), type := 4, pos := "law.go:33", after := #[{ on := 13, ground := Go.Ground.data }, { on := 10, ground := Go.Ground.chain }], guard := none }) (v := ?_) rfl (by kernel_rfl) (by kernel_rfl) (by kernel_rfl) (fun _ _ _ h => h) (Or.inl ⟨by rfl, ?_⟩) (by assumption) ?_
          (rotate_left; focus (intro wx hSw; (try dsimp only at hSw); go_simp; try with_reducible rfl))
          (try simp only [Act.put, List.setIfInBounds_toArray, List.set_cons_zero, List.set_cons_succ])  -- 14 move none
          refine wpAnyH_take (i := 15) (oi := { dst := some 63, op := Go.Op.move (Go.Operand.tmp 9), type := 3, pos := "law.go:33", after := #[{ on := 14, ground := Go.Ground.guard }], guard := some (14, false) }) (v := ?_) rfl (by kernel_rfl) (by kernel_rfl) (by kernel_rfl) (fun _ _ _ h => h) (Or.inl ⟨by rfl, ?_⟩) (by assumption) ?_
          (rotate_left; focus (intro wx hSw; (try dsimp only at hSw); go_simp; try with_reducible rfl))
          (try simp only [Act.put, List.setIfInBounds_toArray, List.set_cons_zero, List.set_cons_succ])  -- 15 move some (14, false)
          refine wpAnyH_take (i := 16) (oi := { dst := some 64, op := Go.Op.move (Go.Operand.tmp 2), type := 33, pos := "law.go:33", after := #[{ on := 14, ground := Go.Ground.guard }], guard := some (14, false) }) (v := ?_) rfl (by kernel_rfl) (by kernel_rfl) (by kernel_rfl) (fun _ _ _ h => h) (Or.inl ⟨by rfl, ?_⟩) (by assumption) ?_
          (rotate_left; focus (intro wx hSw; (try dsimp only at hSw); go_simp; try with_reducible rfl))
          (try simp only [Act.put, List.setIfInBounds_toArray, List.set_cons_zero, List.set_cons_succ])  -- 16 move some (14, false)
          refine wpAnyH_take (i := 17) (oi := { dst := some 65, op := Go.Op.call { callee := Go.Callee.builtin Go.Builtin.len, args := #[Go.Operand.tmp 64], argTypes := #[33] }, type := 3, pos := "law.go:33", after := #[{ on := 16, ground := Go.Ground.data }, { on := 14, ground := Go.Ground.guard }], guard := some (14, false) }) (v := ?_) rfl (by kernel_rfl) (by kernel_rfl) (by kernel_rfl) (fun _ _ _ h => h) (Or.inl ⟨by rfl, ?_⟩) (by assumption) ?_
          (rotate_left; focus (intro wx hSw; (try dsimp only at hSw); go_simp; try with_reducible rfl))
          (try simp only [Act.put, List.setIfInBounds_toArray, List.set_cons_zero, List.set_cons_succ])  -- 17 call some (14, false)
          refine wpAnyH_take (i := 18) (oi := { dst := some 66, op := Go.Op.binOp Go.BinOp.lss 3 (Go.Operand.tmp 63) (Go.Operand.tmp 65) 3, type := 4, pos := "law.go:33", after := #[{ on := 15, ground := Go.Ground.data }, { on := 17, ground := Go.Ground.data }, { on := 14, ground := Go.Ground.guard }], guard := some (14, false) }) (v := ?_) rfl (by kernel_rfl) (by kernel_rfl) (by kernel_rfl) (fun _ _ _ h => h) (Or.inl ⟨by rfl, ?_⟩) (by assumption) ?_
          (rotate_left; focus (intro wx hSw; (try dsimp only at hSw); go_simp; try with_reducible rfl))
          (try simp only [Act.put, List.setIfInBounds_toArray, List.set_cons_zero, List.set_cons_succ])  -- 18 binOp some (14, false)
          refine wpAnyH_take (i := 19) (oi := { dst := some 67, op := Go.Op.move (Go.Operand.tmp 66), type := 4, pos := "law.go:33", after := #[{ on := 18, ground := Go.Ground.data }, { on := 14, ground := Go.Ground.chain }, { on := 14, ground := Go.Ground.guard }], guard := some (14, false) }) (v := ?_) rfl (by kernel_rfl) (by kernel_rfl) (by kernel_rfl) (fun _ _ _ h => h) (Or.inl ⟨by rfl, ?_⟩) (by assumption) ?_
          (rotate_left; focus (intro wx hSw; (try dsimp only at hSw); go_simp; try with_reducible rfl))
          (try simp only [Act.put, List.setIfInBounds_toArray, List.set_cons_zero, List.set_cons_succ])  -- 19 move some (14, false)
          refine wpAnyH_take (i := 20) (oi := { dst := some 68, op := Go.Op.move (Go.Operand.tmp 7), type := 34, pos := "law.go:33", after := #[{ on := 19, ground := Go.Ground.guard }], guard := some (19, true) }) rfl (by kernel_rfl) (by kernel_rfl) (by kernel_rfl) (fun _ _ _ h => h) (Or.inr ⟨by rfl, rfl⟩) (by assumption) ?_
          (try simp only [Act.put, List.setIfInBounds_toArray, List.set_cons_zero, List.set_cons_succ])  -- 20 move some (19, true)
          refine wpAnyH_take (i := 21) (oi := { dst := some 69, op := Go.Op.move (Go.Operand.tmp 2), type := 33, pos := "law.go:33", after := #[{ on := 19, ground := Go.Ground.guard }], guard := some (19, true) }) rfl (by kernel_rfl) (by kernel_rfl) (by kernel_rfl) (fun _ _ _ h => h) (Or.inr ⟨by rfl, rfl⟩) (by assumption) ?_
          (try simp only [Act.put, List.setIfInBounds_toArray, List.set_cons_zero, List.set_cons_succ])  -- 21 move some (19, true)
          refine wpAnyH_take (i := 22) (oi := { dst := some 70, op := Go.Op.move (Go.Operand.tmp 9), type := 3, pos := "law.go:33", after := #[{ on := 19, ground := Go.Ground.guard }], guard := some (19, true) }) rfl (by kernel_rfl) (by kernel_rfl) (by kernel_rfl) (fun _ _ _ h => h) (Or.inr ⟨by rfl, rfl⟩) (by assumption) ?_
          (try simp only [Act.put, List.setIfInBounds_toArray, List.set_cons_zero, List.set_cons_succ])  -- 22 move some (19, true)
          refine wpAnyH_take (i := 23) (oi := { dst := some 71, op := Go.Op.indexAddr 33 (Go.Operand.tmp 69) (Go.Operand.tmp 70), type := 0, pos := "law.go:33", after := #[{ on := 21, ground := Go.Ground.data }, { on := 22, ground := Go.Ground.data }, { on := 19, ground := Go.Ground.guard }], guard := some (19, true) }) rfl (by kernel_rfl) (by kernel_rfl) (by kernel_rfl) (fun _ _ _ h => h) (Or.inr ⟨by rfl, rfl⟩) (by assumption) ?_
          (try simp only [Act.put, List.setIfInBounds_toArray, List.set_cons_zero, List.set_cons_succ])  -- 23 indexAddr some (19, true)
          refine wpAnyH_take (i := 24) (oi := { dst := some 72, op := Go.Op.load 22 (Go.Operand.tmp 71), type := 22, pos := "law.go:33", after := #[{ on := 23, ground := Go.Ground.data }, { on := 19, ground := Go.Ground.guard }], guard := some (19, true) }) rfl (by kernel_rfl) (by kernel_rfl) (by kernel_rfl) (fun _ _ _ h => h) (Or.inr ⟨by rfl, rfl⟩) (by assumption) ?_
          (try simp only [Act.put, List.setIfInBounds_toArray, List.set_cons_zero, List.set_cons_succ])  -- 24 load some (19, true)
          refine wpAnyH_take (i := 25) (oi := { dst := some 73, op := Go.Op.call { callee := Go.Callee.value (Go.Operand.func 24), args := #[Go.Operand.tmp 68, Go.Operand.tmp 72], argTypes := #[34, 22] }, type := 22, pos := "law.go:33", after := #[{ on := 20, ground := Go.Ground.data }, { on := 24, ground := Go.Ground.data }, { on := 19, ground := Go.Ground.chain }, { on := 19, ground := Go.Ground.guard }], guard := some (19, true) }) rfl (by kernel_rfl) (by kernel_rfl) (by kernel_rfl) (fun _ _ _ h => h) (Or.inr ⟨by rfl, rfl⟩) (by assumption) ?_
          (try simp only [Act.put, List.setIfInBounds_toArray, List.set_cons_zero, List.set_cons_succ])  -- 25 call some (19, true)
          refine wpAnyH_take (i := 26) (oi := { dst := some 74, op := Go.Op.move (Go.Operand.tmp 8), type := 22, pos := "law.go:33", after := #[{ on := 19, ground := Go.Ground.guard }], guard := some (19, true) }) rfl (by kernel_rfl) (by kernel_rfl) (by kernel_rfl) (fun _ _ _ h => h) (Or.inr ⟨by rfl, rfl⟩) (by assumption) ?_
          (try simp only [Act.put, List.setIfInBounds_toArray, List.set_cons_zero, List.set_cons_succ])  -- 26 move some (19, true)
          refine wpAnyH_take (i := 27) (oi := { dst := some 75, op := Go.Op.move (Go.Operand.tmp 2), type := 33, pos := "law.go:33", after := #[{ on := 19, ground := Go.Ground.guard }], guard := some (19, true) }) rfl (by kernel_rfl) (by kernel_rfl) (by kernel_rfl) (fun _ _ _ h => h) (Or.inr ⟨by rfl, rfl⟩) (by assumption) ?_
          (try simp only [Act.put, List.setIfInBounds_toArray, List.set_cons_zero, List.set_cons_succ])  -- 27 move some (19, true)
          refine wpAnyH_take (i := 28) (oi := { dst := some 76, op := Go.Op.move (Go.Operand.tmp 9), type := 3, pos := "law.go:33", after := #[{ on := 19, ground := Go.Ground.guard }], guard := some (19, true) }) rfl (by kernel_rfl) (by kernel_rfl) (by kernel_rfl) (fun _ _ _ h => h) (Or.inr ⟨by rfl, rfl⟩) (by assumption) ?_
          (try simp only [Act.put, List.setIfInBounds_toArray, List.set_cons_zero, List.set_cons_succ])  -- 28 move some (19, true)
          refine wpAnyH_take (i := 29) (oi := { dst := some 77, op := Go.Op.indexAddr 33 (Go.Operand.tmp 75) (Go.Operand.tmp 76), type := 0, pos := "law.go:33", after := #[{ on := 27, ground := Go.Ground.data }, { on := 28, ground := Go.Ground.data }, { on := 19, ground := Go.Ground.guard }], guard := some (19, true) }) rfl (by kernel_rfl) (by kernel_rfl) (by kernel_rfl) (fun _ _ _ h => h) (Or.inr ⟨by rfl, rfl⟩) (by assumption) ?_
          (try simp only [Act.put, List.setIfInBounds_toArray, List.set_cons_zero, List.set_cons_succ])  -- 29 indexAddr some (19, true)
          refine wpAnyH_take (i := 30) (oi := { dst := some 78, op := Go.Op.load 22 (Go.Operand.tmp 77), type := 22, pos := "law.go:33", after := #[{ on := 29, ground := Go.Ground.data }, { on := 19, ground := Go.Ground.guard }], guard := some (19, true) }) rfl (by kernel_rfl) (by kernel_rfl) (by kernel_rfl) (fun _ _ _ h => h) (Or.inr ⟨by rfl, rfl⟩) (by assumption) ?_
          (try simp only [Act.put, List.setIfInBounds_toArray, List.set_cons_zero, List.set_cons_succ])  -- 30 load some (19, true)
          refine wpAnyH_take (i := 31) (oi := { dst := some 79, op := Go.Op.call { callee := Go.Callee.value (Go.Operand.func 25), args := #[Go.Operand.tmp 74, Go.Operand.tmp 78], argTypes := #[22, 22] }, type := 22, pos := "law.go:33", after := #[{ on := 26, ground := Go.Ground.data }, { on := 30, ground := Go.Ground.data }, { on := 25, ground := Go.Ground.chain }, { on := 19, ground := Go.Ground.guard }], guard := some (19, true) }) rfl (by kernel_rfl) (by kernel_rfl) (by kernel_rfl) (fun _ _ _ h => h) (Or.inr ⟨by rfl, rfl⟩) (by assumption) ?_
          (try simp only [Act.put, List.setIfInBounds_toArray, List.set_cons_zero, List.set_cons_succ])  -- 31 call some (19, true)
          refine wpAnyH_take (i := 32) (oi := { dst := some 80, op := Go.Op.call { callee := Go.Callee.builtin Go.Builtin.min, args := #[Go.Operand.tmp 79, Go.Operand.const (Go.Value.int Go.IntKind.u64 4611686018427387904)], argTypes := #[22, 22] }, type := 22, pos := "law.go:33", after := #[{ on := 31, ground := Go.Ground.data }, { on := 19, ground := Go.Ground.guard }], guard := some (19, true) }) rfl (by kernel_rfl) (by kernel_rfl) (by kernel_rfl) (fun _ _ _ h => h) (Or.inr ⟨by rfl, rfl⟩) (by assumption) ?_
          (try simp only [Act.put, List.setIfInBounds_toArray, List.set_cons_zero, List.set_cons_succ])  -- 32 call some (19, true)
          refine wpAnyH_take (i := 33) (oi := { dst := some 81, op := Go.Op.binOp Go.BinOp.neq 22 (Go.Operand.tmp 73) (Go.Operand.tmp 80) 22, type := 4, pos := "law.go:33", after := #[{ on := 25, ground := Go.Ground.data }, { on := 32, ground := Go.Ground.data }, { on := 19, ground := Go.Ground.guard }], guard := some (19, true) }) rfl (by kernel_rfl) (by kernel_rfl) (by kernel_rfl) (fun _ _ _ h => h) (Or.inr ⟨by rfl, rfl⟩) (by assumption) ?_
          (try simp only [Act.put, List.setIfInBounds_toArray, List.set_cons_zero, List.set_cons_succ])  -- 33 binOp some (19, true)
          refine wpAnyH_take (i := 34) (oi := { dst := some 82, op := Go.Op.pick (Go.Operand.tmp 67) (Go.Operand.tmp 81) (Go.Operand.const (Go.Value.bool false)), type := 4, pos := "law.go:33", after := #[{ on := 19, ground := Go.Ground.data }, { on := 33, ground := Go.Ground.data }, { on := 14, ground := Go.Ground.guard }], guard := some (14, false) }) (v := ?_) rfl (by kernel_rfl) (by kernel_rfl) (by kernel_rfl) (fun _ _ _ h => h) (Or.inl ⟨by rfl, ?_⟩) (by assumption) ?_
          (rotate_left; focus (intro wx hSw; (try dsimp only at hSw); go_simp; try with_reducible rfl))
          (try simp only [Act.put, List.setIfInBounds_toArray, List.set_cons_zero, List.set_cons_succ])  -- 34 pick some (14, false)
          refine wpAnyH_take (i := 35) (oi := { dst := some 83, op := Go.Op.pick (Go.Operand.tmp 62) (Go.Operand.const (Go.Value.bool true)) (Go.Operand.tmp 82), type := 4, pos := "law.go:33", after := #[{ on := 14, ground := Go.Ground.data }, { on := 34, ground := Go.Ground.data }], guard := none }) (v := ?_) rfl (by kernel_rfl) (by kernel_rfl) (by kernel_rfl) (fun _ _ _ h => h) (Or.inl ⟨by rfl, ?_⟩) (by assumption) ?_
          (rotate_left; focus (intro wx hSw; (try dsimp only at hSw); go_simp; try with_reducible rfl))
          (try simp only [Act.put, List.setIfInBounds_toArray, List.set_cons_zero, List.set_cons_succ])  -- 35 pick none
          refine wpAnyH_done (by kernel_rfl) ?_ _
          go_wp2
          go_roundw
          case rel => exact ⟨k + 1, n, by omega, by omega, HB.out, by simp, by simp, o5⟩
          case measure => simp [intOf]; omega
    · have hx : decide (k < len) = false ∨ k < len ∧ 60 ≤ k := by simp; omega
      clear hlt hN
      rcases hx with hx | ⟨hx1, hx⟩
      all_goals
        go_wp2_with fail
        refine (now_any _ N _ HO.out.1).mono ?_; rintro e w' ⟨rfl, rfl⟩
        go_wp2
        go_ret
        exact ⟨rfl, HO.out.2.1⟩

theorem moves_any (a : Nat) (sp dp : Option Addr) (len cap dlen dcap : Nat) (zs ds : List Int) (w : World) (hrow : IntRow .u64 w sp len zs) (hdrow : IntRow .u64 w dp dlen ds) :
    Calls Try.prog 5 #[.int .u64 a, .slice sp len cap, .slice dp dlen dcap] w fun e w' => e = .returned (.bool true) ∧ Below w.heap.size w w' :=
  moves_core a (tmin a) sp dp len cap dlen dcap zs ds (tmin_if a) rfl (tmin_le a) w hrow hdrow
end Go.Proofs.Ytalcccghiemnjaa
