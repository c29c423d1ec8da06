/- The contracts of audit.Sorted and of its reference. -/
import Derived.Test.YtojgpgjmcamfoaaAud1
import Derived.Test.YtojgpgjmcamfoaaAudM
namespace Go.Proofs.Ytojgpgjmcamfoaa
open Go.RowKit Go.Lib
set_option linter.unusedVariables false

def segElem (v : Value) : Option (DataW Unit × List MemPlace) :=
  match v with
  | .agg cs => match cs.toList with
    | [.int .i64 a, .int .u64 b, .int .i64 c, .int .u64 d, .bool e] => some (.agg [.lit (.int .i64 a), .lit (.int .u64 b), .lit (.int .i64 c), .lit (.int .u64 d), .lit (.bool e)], [])
    | _ => none
  | _ => none
def segD (s : Sg) : DataW Unit := .agg [.lit (.int .i64 s.sock), .lit (.int .u64 s.fr), .lit (.int .i64 s.len), .lit (.int .u64 s.stamp), .lit (.bool s.again)]
theorem segElem_mk (s : Sg) : segElem (segV s) = some (segD s, []) := rfl
theorem segElem_inv {v : Value} {s : Sg} {ps : List MemPlace} (h : segElem v = some (segD s, ps)) : v = segV s := by
  unfold segElem at h
  split at h
  · rename_i cs
    split at h
    · rename_i hc
      simp only [segD, Option.some.injEq, Prod.mk.injEq, DataW.agg.injEq, List.cons.injEq, DataW.lit.injEq, Lit.int.injEq, Lit.bool.injEq, true_and, and_true] at h
      obtain ⟨⟨h1, h2, h3, h4, h5⟩, _⟩ := h
      subst h1 h2 h3 h4 h5
      rw [show cs = cs.toList.toArray from by simp, hc]
    · cases h
  · cases h

theorem zeroSeg (w : World) : (zeroValue 55).run Try.prog w = .ok (segV sg0) w := by kernel_rfl
abbrev SegMap (w : World) (b n : Nat) (f : Int → Option Sg) : Prop := MapIs Try.prog 3 segElem segD (segD sg0) w b n f
theorem SegMap.none {w : World} {b n : Nat} {f : Int → Option Sg} (h : SegMap w b n f) {s : Int} (hs : (Lit.int .i64 s).wf = true) (hf : f s = none) :
    (Instr.lookup 84 (.map (some b)) (.int .i64 s) true).run Try.prog w = .ok (.tuple #[segV sg0, .bool false]) w := by
  obtain ⟨v, ps, hr, h⟩ := h.look Try.underlying3 Try.underlying84 (zeroSeg w) (segElem_mk sg0) hs
  rcases h with ⟨h1, h2⟩ | ⟨x, h1, h2⟩
  · rw [h1, segElem_inv h2] at hr
    exact hr
  · rw [h1] at hf; cases hf
theorem SegMap.some {w : World} {b n : Nat} {f : Int → Option Sg} (h : SegMap w b n f) {s : Int} (hs : (Lit.int .i64 s).wf = true) {x : Sg} (hf : f s = some x) :
    (Instr.lookup 84 (.map (some b)) (.int .i64 s) true).run Try.prog w = .ok (.tuple #[segV x, .bool true]) w := by
  obtain ⟨v, ps, hr, h⟩ := h.look Try.underlying3 Try.underlying84 (zeroSeg w) (segElem_mk sg0) hs
  rcases h with ⟨h1, h2⟩ | ⟨y, h1, h2⟩
  · rw [h1] at hf; cases hf
  · rw [h1] at hf
    cases hf
    rw [h1, segElem_inv h2] at hr
    exact hr

def SortRel (l : List Sg) (w0 : World) (v11 : Value) (wr : World) : Prop :=
  ∃ i n : Nat, i ≤ l.length ∧ n ≤ i ∧ (sSt (l.take i)).2 = true ∧ v11 = .int .i64 i ∧ SegMap wr w0.heap.size n (sSt (l.take i)).1 ∧ Below w0.heap.size w0 wr

set_option maxRecDepth 8000 in
set_option maxHeartbeats 4000000 in
theorem sorted_any (a : Option Addr) (cap : Nat) (l : List Sg) (w : World) (hl : SegRow w a l) :
    Calls Try.prog 31 #[.slice a l.length cap] w fun e w' => e = .returned (.bool (sortedF l)) ∧ Below w.heap.size w w' := by
  have b1 := hl.1
  have HL := Lib.hid hl
  clear hl
  obtain ⟨R, hR⟩ : ∃ R, sortedF l = R := ⟨_, rfl⟩
  have HF := Lib.hid hR
  rw [hR]
  clear hR
  have hmm := @run_makeMap Try.prog
  go_enter Try.func31, Try.ntmps31
  go_wp2
  go_step3
  go_wp2
  go_step3
  go_wp2
  clear hmm
  go_loopw [11] (fun v11 wr => SortRel l w v11 wr) (fun v11 _ => l.length - (intOf v11).toNat)
  case atStart => exact ⟨0, 0, by omega, by omega, rfl, rfl, MapIs.made w, (Below.refl _ _).alloc (Nat.le_refl _) _⟩
  case round =>
    obtain ⟨i, n, hi1, hn1, hok, rfl, hM, hB⟩ := hrel
    have HB := Lib.hid hB
    have HM := Lib.hid hM
    have HT := Lib.hid hok
    clear hok hM
    by_cases hlt : i < l.length
    · obtain ⟨b, off, x, rfl, hb, hx, hok, c0, c1, c2, c3, c4⟩ := (HL.out.below hB).at_ hlt
      have HX := Lib.hid hx
      have HOK := Lib.hid hok
      have HST := Lib.hid (sSt_take hx)
      clear hx hok hB
      cases hag : x.again
      · have e := HST.out
        rw [sStep, if_neg (by simp [hag])] at e
        have HE := Lib.hid e
        have HXO := Lib.hid (fun y h => HL.out.2.1 y (List.mem_of_mem_take (sSt_last_ok (l := l.take i) (fun y hy => HL.out.2.1 y (List.mem_of_mem_take hy)) (s := x.sock) (a := y) h)))
        rw [hag] at c4
        have hs : (Lit.int .i64 x.sock).wf = true := WalkArith.wf_i64 HOK.out.1
        have HEQ := Lib.hid (show segV x = .agg #[.int .i64 x.sock, .int .u64 x.fr, .int .i64 x.len, .int .u64 x.stamp, .bool false] by rw [segV, hag])
        clear e hag
        obtain ⟨B, hBB⟩ : ∃ B, w.heap.size = B := ⟨_, rfl⟩
        have HBB := Lib.hid hBB
        have M1 := Lib.hid (HM.out.alloc (.cells #[.int .i64 x.sock, .int .u64 x.fr, .int .i64 x.len, .int .u64 x.stamp, .bool false] 55))
        rw [hBB] at M1 ⊢
        have hB1 : B < wr.heap.size := by rw [← hBB]; exact HM.out.lt
        clear hBB
        cases hf : (sSt (l.take i)).1 x.sock
        · have hrun := SegMap.none M1.out hs hf
          have HE3 : Hid ((sSt (l.take (i + 1))).2 = true) := Lib.hid (by rw [HE.out, hf, HT.out]; rfl)
          clear hf
          go_wp2_with fail
          go_quiet (fail)
          clear hrun
          go_wp2_with (at_mapUpdate; refine wpList_put_is _ rfl _ _ _ 84 rfl 55 Try.underlying3 Try.underlying84 rfl ((M1.out.alloc _).drewN _) ?c1 x.sock hs _ rfl rfl x [] ?c2 ?_)
          case c1 => unfold maxLen; omega
          case c2 => rw [← HEQ.out]; exact segElem_mk x
          intro w5 hM5 hg5
          have M5 : Hid (SegMap w5 w.heap.size (n + 1) (sSt (l.take (i + 1))).1) := by
            rw [HE.out, HBB.out]
            exact Lib.hid hM5
          have B5 := Lib.hid ((below_drewN ((HB.out.alloc HB.out.size (.cells #[.int .i64 x.sock, .int .u64 x.fr, .int .i64 x.len, .int .u64 x.stamp, .bool false] 55)).alloc (by have := HB.out.size; simp; omega) (.cells #[.int .i64 0, .int .u64 0, .int .i64 0, .int .u64 0, .bool false] 55)) nq).grown hg5 (by have := HB.out.size; simp; omega) (fun k hk => by cases hk; rw [HBB.out]; exact Nat.le_refl _))
          clear hM5 hg5 c0 c1 c2 c3 c4
          go_wp2
          go_roundw
          case rel => exact ⟨i + 1, n + 1, by omega, by omega, HE3.out, by simp, M5.out, B5.out⟩
          case measure => simp [intOf]; omega
        · rename_i y
          have hrun := SegMap.some M1.out hs hf
          have hy := HXO.out y hf
          have HE3 : Hid ((sSt (l.take (i + 1))).2 = decide (endF y ≤ x.fr)) := Lib.hid (by rw [HE.out, hf, HT.out]; rfl)
          have M2 := Lib.hid (M1.out.alloc (.cells #[.int .i64 y.sock, .int .u64 y.fr, .int .i64 y.len, .int .u64 y.stamp, .bool y.again] 55))
          have hBs : B ≤ wr.heap.size := by rw [← HBB.out]; exact HB.out.size
          have C1 : Hid (∀ wq A, (fun wq => wq.cell? ⟨A, 1, none⟩ = some (.int .u64 x.fr) ∧ wq.cell? ⟨A + 1, 0, none⟩ = some (.int .i64 y.sock) ∧ wq.cell? ⟨A + 1, 1, none⟩ = some (.int .u64 y.fr) ∧ wq.cell? ⟨A + 1, 2, none⟩ = some (.int .i64 y.len) ∧ wq.cell? ⟨A + 1, 3, none⟩ = some (.int .u64 y.stamp) ∧ wq.cell? ⟨A + 1, 4, none⟩ = some (.bool y.again) ∧ Hid (At wq A 55 #[.int .i64 x.sock, .int .u64 x.fr, .int .i64 x.len, .int .u64 x.stamp, .bool false] ∧ At wq (A + 1) 55 (segC y) ∧ SegMap wq B n (sSt (l.take i)).1 ∧ Below w.heap.size w wq)) wq → Calls Try.prog 48 #[.agg #[.int .i64 y.sock, .int .u64 y.fr, .int .i64 y.len, .int .u64 y.stamp, .bool y.again]] wq fun e w' => e = .returned (.int .u64 (endF y : Nat)) ∧ (fun wq => wq.cell? ⟨A, 1, none⟩ = some (.int .u64 x.fr) ∧ wq.cell? ⟨A + 1, 0, none⟩ = some (.int .i64 y.sock) ∧ wq.cell? ⟨A + 1, 1, none⟩ = some (.int .u64 y.fr) ∧ wq.cell? ⟨A + 1, 2, none⟩ = some (.int .i64 y.len) ∧ wq.cell? ⟨A + 1, 3, none⟩ = some (.int .u64 y.stamp) ∧ wq.cell? ⟨A + 1, 4, none⟩ = some (.bool y.again) ∧ Hid (At wq A 55 #[.int .i64 x.sock, .int .u64 x.fr, .int .i64 x.len, .int .u64 x.stamp, .bool false] ∧ At wq (A + 1) 55 (segC y) ∧ SegMap wq B n (sSt (l.take i)).1 ∧ Below w.heap.size w wq)) w') :=
            Lib.hid (fun wq A h => (end_any y hy wq).mono fun e w' ⟨h1, h2⟩ => by
              obtain ⟨k1, k2, k3, k4⟩ := h.2.2.2.2.2.2.out
              have g1 := k1.kept (World.grownBy_alloc wq (.cells (segC y) 55) none) (by simp)
              have g2 := k2.kept (World.grownBy_alloc wq (.cells (segC y) 55) none) (by simp)
              subst h2
              exact ⟨h1, g1.cell 1, g2.cell 0, g2.cell 1, g2.cell 2, g2.cell 3, g2.cell 4, Lib.hid ⟨g1, g2, k3.alloc _, k4.alloc k4.size _⟩⟩)
          clear hf hy
          obtain ⟨A, hA⟩ : ∃ A, wr.heap.size = A := ⟨_, rfl⟩
          have AX : Hid (At ((wr.alloc (.cells #[.int .i64 x.sock, .int .u64 x.fr, .int .i64 x.len, .int .u64 x.stamp, .bool false] 55)).alloc (.cells #[.int .i64 y.sock, .int .u64 y.fr, .int .i64 y.len, .int .u64 y.stamp, .bool y.again] 55)) A 55 #[.int .i64 x.sock, .int .u64 x.fr, .int .i64 x.len, .int .u64 x.stamp, .bool false]) := by
            rw [← hA]
            exact Lib.hid ((At.made wr _ _).kept (World.grownBy_alloc _ _ none) (by simp))
          have AY : Hid (At ((wr.alloc (.cells #[.int .i64 x.sock, .int .u64 x.fr, .int .i64 x.len, .int .u64 x.stamp, .bool false] 55)).alloc (.cells #[.int .i64 y.sock, .int .u64 y.fr, .int .i64 y.len, .int .u64 y.stamp, .bool y.again] 55)) (A + 1) 55 (segC y)) := by
            have := At.made (wr.alloc (.cells #[.int .i64 x.sock, .int .u64 x.fr, .int .i64 x.len, .int .u64 x.stamp, .bool false] 55)) 55 (segC y)
            rw [show (wr.alloc (.cells #[.int .i64 x.sock, .int .u64 x.fr, .int .i64 x.len, .int .u64 x.stamp, .bool false] 55)).heap.size = A + 1 from by simp [hA]] at this
            exact Lib.hid this
          have B2 := Lib.hid ((HB.out.alloc HB.out.size (.cells #[.int .i64 x.sock, .int .u64 x.fr, .int .i64 x.len, .int .u64 x.stamp, .bool false] 55)).alloc (by have := HB.out.size; simp; omega) (.cells #[.int .i64 y.sock, .int .u64 y.fr, .int .i64 y.len, .int .u64 y.stamp, .bool y.again] 55))
          have HA := Lib.hid hA
          clear hA
          go_wp2_with fail
          try rw [HA.out]
          generalize ((wr.alloc (.cells #[.int .i64 x.sock, .int .u64 x.fr, .int .i64 x.len, .int .u64 x.stamp, .bool false] 55)).alloc (.cells #[.int .i64 y.sock, .int .u64 y.fr, .int .i64 y.len, .int .u64 y.stamp, .bool y.again] 55)) = w4 at *
          clear hrun c0 c1 c2 c3 c4
          refine wp_region_held_drew (S := fun wq => wq.cell? ⟨A, 1, none⟩ = some (.int .u64 x.fr) ∧ wq.cell? ⟨A + 1, 0, none⟩ = some (.int .i64 y.sock) ∧ wq.cell? ⟨A + 1, 1, none⟩ = some (.int .u64 y.fr) ∧ wq.cell? ⟨A + 1, 2, none⟩ = some (.int .i64 y.len) ∧ wq.cell? ⟨A + 1, 3, none⟩ = some (.int .u64 y.stamp) ∧ wq.cell? ⟨A + 1, 4, none⟩ = some (.bool y.again) ∧ Hid (At wq A 55 #[.int .i64 x.sock, .int .u64 x.fr, .int .i64 x.len, .int .u64 x.stamp, .bool false] ∧ At wq (A + 1) 55 (segC y) ∧ SegMap wq B n (sSt (l.take i)).1 ∧ Below w.heap.size w wq)) (by kernel_rfl) ⟨AX.out.drew.cell 1, AY.out.drew.cell 0, AY.out.drew.cell 1, AY.out.drew.cell 2, AY.out.drew.cell 3, AY.out.drew.cell 4, Lib.hid ⟨AX.out.drew, AY.out.drew, M2.out.drew, B2.out.drew⟩⟩ (fun hHeld => ?_)
          clear AX AY M2 B2
          refine wpAnyH_take (i := 0) (oi := { dst := some 24, op := Go.Op.move (Go.Operand.tmp 7), type := 4, pos := "audit.go:50", after := #[], guard := none }) (v := ?_) rfl (by kernel_rfl) (by kernel_rfl) (by kernel_rfl) (fun _ _ _ h => h) (Or.inl ⟨by rfl, ?_⟩) (by assumption) ?_
          (rotate_left; focus (intro wx hSw; (try dsimp only at hSw); go_simp; try with_reducible rfl))
          (try simp only [Act.put, List.setIfInBounds_toArray, List.set_cons_zero, List.set_cons_succ])  -- 0 move none
          refine wpAnyH_take (i := 1) (oi := { dst := some 25, op := Go.Op.move (Go.Operand.tmp 24), type := 4, pos := "audit.go:50", after := #[{ on := 0, ground := Go.Ground.data }], guard := none }) (v := ?_) rfl (by kernel_rfl) (by kernel_rfl) (by kernel_rfl) (fun _ _ _ h => h) (Or.inl ⟨by rfl, ?_⟩) (by assumption) ?_
          (rotate_left; focus (intro wx hSw; (try dsimp only at hSw); go_simp; try with_reducible rfl))
          (try simp only [Act.put, List.setIfInBounds_toArray, List.set_cons_zero, List.set_cons_succ])  -- 1 move none
          refine wpAnyH_take (i := 2) (oi := { dst := some 26, op := Go.Op.fieldAddr 55 (Go.Operand.tmp 5) 1, type := 0, pos := "audit.go:50", after := #[{ on := 1, ground := Go.Ground.guard }], guard := some (1, true) }) (v := ?_) rfl (by kernel_rfl) (by kernel_rfl) (by kernel_rfl) (fun _ _ _ h => h) (Or.inl ⟨by rfl, ?_⟩) (by assumption) ?_
          (rotate_left; focus (intro wx hSw; (try dsimp only at hSw); go_simp; try with_reducible rfl))
          (try simp only [Act.put, List.setIfInBounds_toArray, List.set_cons_zero, List.set_cons_succ])  -- 2 fieldAddr some (1, true)
          refine wpAnyH_take (i := 3) (oi := { dst := some 27, op := Go.Op.load 22 (Go.Operand.tmp 26), type := 22, pos := "audit.go:50", after := #[{ on := 2, ground := Go.Ground.data }, { on := 1, ground := Go.Ground.guard }], guard := some (1, true) }) (v := ?_) rfl (by kernel_rfl) (by kernel_rfl) (by kernel_rfl) (fun _ _ _ h => h) (Or.inl ⟨by rfl, ?_⟩) (by assumption) ?_
          (rotate_left; focus (intro wx hSw; (try dsimp only at hSw); go_simp; try with_reducible rfl))
          (try simp only [Act.put, List.setIfInBounds_toArray, List.set_cons_zero, List.set_cons_succ])  -- 3 load some (1, true)
          refine wpAnyH_take (i := 4) (oi := { dst := some 28, op := Go.Op.load 55 (Go.Operand.tmp 6), type := 55, pos := "audit.go:50", after := #[{ on := 1, ground := Go.Ground.guard }], guard := some (1, true) }) (v := ?_) rfl (by kernel_rfl) (by kernel_rfl) (by kernel_rfl) (fun _ _ _ h => h) (Or.inl ⟨by rfl, ?_⟩) (by assumption) ?_
          (rotate_left; focus (intro wx hSw; (try dsimp only at hSw); go_simp; try with_reducible rfl))
          (try simp only [Act.put, List.setIfInBounds_toArray, List.set_cons_zero, List.set_cons_succ])  -- 4 load some (1, true)
          refine wpAnyH_ready (rs := [5]) (by kernel_rfl) (by simp) ?_
          refine AllReadyH.cons (o := { dst := some 29, op := Go.Op.call { callee := Go.Callee.value (Go.Operand.func 48), args := #[Go.Operand.tmp 28], argTypes := #[55] }, type := 22, pos := "audit.go:50", after := #[{ on := 4, ground := Go.Ground.data }, { on := 1, ground := Go.Ground.chain }, { on := 1, ground := Go.Ground.guard }], guard := some (1, true) }) rfl (fun K hK => ?_) AllReadyH.nil
          go_simp
          refine (C1.out _ A hHeld).mono ?_; rintro e w5 ⟨rfl, t5⟩
          refine hK.out _ _ ?_ (fun hHeld => ?_)
          focus exact t5
          clear hK K
          (try simp only [Act.put, List.setIfInBounds_toArray, List.set_cons_zero, List.set_cons_succ])  -- 5 call some (1, true)
          refine wpAnyH_take (i := 6) (oi := { dst := some 30, op := Go.Op.binOp Go.BinOp.lss 22 (Go.Operand.tmp 27) (Go.Operand.tmp 29) 22, type := 4, pos := "audit.go:50", after := #[{ on := 3, ground := Go.Ground.data }, { on := 5, ground := Go.Ground.data }, { on := 1, ground := Go.Ground.guard }], guard := some (1, true) }) (v := ?_) rfl (by kernel_rfl) (by kernel_rfl) (by kernel_rfl) (fun _ _ _ h => h) (Or.inl ⟨by rfl, ?_⟩) (by assumption) ?_
          (rotate_left; focus (intro wx hSw; (try dsimp only at hSw); go_simp; try with_reducible rfl))
          (try simp only [Act.put, List.setIfInBounds_toArray, List.set_cons_zero, List.set_cons_succ])  -- 6 binOp some (1, true)
          refine wpAnyH_take (i := 7) (oi := { dst := some 31, op := Go.Op.pick (Go.Operand.tmp 25) (Go.Operand.tmp 30) (Go.Operand.const (Go.Value.bool false)), type := 4, pos := "audit.go:50", after := #[{ on := 1, ground := Go.Ground.data }, { on := 6, ground := Go.Ground.data }], guard := none }) (v := ?_) rfl (by kernel_rfl) (by kernel_rfl) (by kernel_rfl) (fun _ _ _ h => h) (Or.inl ⟨by rfl, ?_⟩) (by assumption) ?_
          (rotate_left; focus (intro wx hSw; (try dsimp only at hSw); go_simp; try with_reducible rfl))
          (try simp only [Act.put, List.setIfInBounds_toArray, List.set_cons_zero, List.set_cons_succ])  -- 7 pick none
          refine wpAnyH_done (by kernel_rfl) ?_ _
          obtain ⟨AX, AY, M5, B5⟩ := hHeld.2.2.2.2.2.2.out
          have d0 := AX.cell 0
          have d1 := AX.cell 1
          have d2 := AX.cell 2
          have d3 := AX.cell 3
          have d4 := AX.cell 4
          simp only [List.getElem?_toArray, List.getElem?_cons_zero, List.getElem?_cons_succ] at d0 d1 d2 d3 d4
          have hAs := AX.lt
          have HM5 := Lib.hid M5
          have HB5 := Lib.hid B5
          clear AX AY M5 B5 hHeld t5 C1
          by_cases hlt2 : x.fr < endF y
          · have e := HE3.out
            rw [decide_eq_false (by omega)] at e
            have hF := HF.out
            rw [sortedF_false e] at hF
            subst hF
            clear e
            go_wp2
            (try rw [Exit.noGoto_ret])
            go_ret
            exact ⟨rfl, HB5.out⟩
          · have e := HE3.out
            rw [decide_eq_true (by omega)] at e
            have HE4 := Lib.hid e
            have hge2 : endF y ≤ x.fr := by omega
            clear e hlt2
            go_wp2_with (at_mapUpdate; refine wpList_put_is _ rfl _ _ _ 84 rfl 55 Try.underlying3 Try.underlying84 rfl HM5.out ?d1 x.sock hs _ rfl rfl x [] ?d2 ?_)
            case d1 => unfold maxLen; omega
            case d2 => rw [← HEQ.out]; exact segElem_mk x
            intro w6 hM6 hg6
            have M6 : Hid (SegMap w6 w.heap.size (n + 1) (sSt (l.take (i + 1))).1) := by
              rw [HE.out, HBB.out]
              exact Lib.hid hM6
            have B6 := Lib.hid (HB5.out.grown hg6 (by have := HB5.out.size; omega) (fun k hk => by cases hk; rw [HBB.out]; exact Nat.le_refl _))
            clear hM6 hg6 d0 d1 d2 d3 d4
            go_wp2
            go_roundw
            case rel => exact ⟨i + 1, n + 1, by omega, by omega, HE4.out, by simp, M6.out, B6.out⟩
            case measure => simp [intOf]; omega
      · have e := HST.out
        rw [sStep, if_pos hag] at e
        have HE := Lib.hid e
        rw [hag] at c4
        clear e hag
        go_wp2
        go_roundw
        case rel => exact ⟨i + 1, n, by omega, by omega, by rw [HE.out]; exact HT.out, by simp, by rw [HE.out]; exact HM.out.alloc _, HB.out.alloc HB.out.size _⟩
        case measure => simp [intOf]; omega
    · have hF := HF.out
      have hT := HT.out
      rw [List.take_of_length_le (by omega)] at hT
      rw [sortedF, hT] at hF
      subst hF
      clear hB hT
      go_wp2
      (try rw [Exit.noGoto_ret])
      go_ret
      exact ⟨rfl, HB.out⟩

def RSortRel (l : List Sg) (w0 : World) (v3 : Value) (wr : World) : Prop :=
  ∃ i : Nat, i ≤ l.length ∧ (sSt (l.take i)).2 = true ∧ v3 = .int .i64 i ∧ Below w0.heap.size w0 wr
def RSortIn (l : List Sg) (s : Int) (i : Nat) (w0 : World) (v4 : Value) (wr : World) : Prop :=
  ∃ k : Nat, k ≤ i ∧ (sSt (l.take i)).1 s = (sSt (l.take k)).1 s ∧ v4 = .int .i64 ((k : Int) - 1) ∧ Below w0.heap.size w0 wr

set_option maxRecDepth 8000 in
set_option maxHeartbeats 4000000 in
theorem rsorted_any (a : Option Addr) (cap : Nat) (l : List Sg) (w : World) (hl : SegRow w a l) :
    Calls Try.prog 32 #[.slice a l.length cap] w fun e w' => e = .returned (.bool (sortedF l)) ∧ Below w.heap.size w w' := by
  have b1 := hl.1
  have HL := Lib.hid hl
  clear hl
  obtain ⟨R, hR⟩ : ∃ R, sortedF l = R := ⟨_, rfl⟩
  have HF := Lib.hid hR
  rw [hR]
  clear hR
  go_enter Try.func32, Try.ntmps32
  go_wp2
  go_loopw [3] (fun v3 wr => RSortRel l w v3 wr) (fun v3 _ => l.length - (intOf v3).toNat)
  case atStart => exact ⟨0, by omega, rfl, rfl, Below.refl _ _⟩
  case round =>
    obtain ⟨i, hi1, hok, rfl, hB⟩ := hrel
    have HB := Lib.hid hB
    have HT := Lib.hid hok
    clear hok
    by_cases hlt : i < l.length
    · obtain ⟨b, off, x, rfl, hb, hx, hok, c0, c1, c2, c3, c4⟩ := (HL.out.below hB).at_ hlt
      have HX := Lib.hid hx
      have HOK := Lib.hid hok
      have HST := Lib.hid (sSt_take hx)
      clear hx hok hB c0 c1 c2 c3 c4
      go_wp2_with fail
      obtain ⟨wo, hwo⟩ : ∃ wo : World, wo = wr := ⟨_, rfl⟩
      subst hwo
      go_loopw [4] (fun v4 wq => RSortIn l x.sock i w v4 wq) (fun v4 _ => (intOf v4 + 1).toNat)
      case atStart => exact ⟨i, by omega, rfl, rfl, HB.out⟩
      case round =>
        obtain ⟨k, hk, hat, rfl, hB3⟩ := hrel
        have HB3 := Lib.hid hB3
        have HT3 := Lib.hid hat
        clear hat
        obtain ⟨b', off', x', e, hb', hx', _, c0, c1, c2, c3, c4⟩ := (HL.out.below hB3).at_ (k := i) hlt
        cases e
        obtain rfl : x = x' := Option.some.inj (HX.out.symm.trans hx')
        clear hx'
        cases hag : x.again
        · have e := HST.out
          rw [sStep, if_neg (by simp [hag]), HT.out, HT3.out] at e
          have HE := Lib.hid e
          rw [hag] at c4
          clear e
          rcases Nat.eq_zero_or_pos k with hk0 | hk0
          · subst hk0
            have HE3 : Hid ((sSt (l.take (i + 1))).2 = true) := Lib.hid (by rw [HE.out]; rfl)
            clear hB3
            go_wp2
            go_roundw
            case rel => exact ⟨i + 1, by omega, HE3.out, by simp, HB3.out⟩
            case measure => simp [intOf]; omega
          · obtain ⟨q, rfl⟩ : ∃ q, k = q + 1 := ⟨k - 1, by omega⟩
            obtain ⟨b', off', y, e, hb', hy, hok', d0, d1, d2, d3, d4⟩ := (HL.out.below hB3).at_ (k := q) (by omega)
            cases e
            have hbk := sSt_back hy x.sock
            have q1 : ((q + 1 : Nat) : Int) - 1 = q := by omega
            rw [q1]
            have HOKY := Lib.hid hok'
            have HQ : (-1 : Int) < q := by omega
            clear hB3 q1 hy hok'
            cases hag' : y.again
            · rw [hag'] at d4
              by_cases hs : y.sock = x.sock
              · have HE3 : Hid ((sSt (l.take (i + 1))).2 = decide (endF y ≤ x.fr)) := Lib.hid (by rw [HE.out, hbk, if_pos ⟨hag', hs⟩]; rfl)
                have y0 : (y.sock == x.sock) = true := by simpa using hs
                have y1 : (y.sock != x.sock) = false := by simpa using hs
                have C0 := span_any y HOKY.out
                simp only [segV, hag'] at C0
                have C1 := Lib.hid C0
                clear C0
                clear hbk hag' hs
                go_wp2_with fail
                go_quiet (fail)
                go_wp2_with fail
                refine (C1.out _).mono ?_; rintro e w5 ⟨rfl, b5⟩
                have B4 := Lib.hid (below_drewN HB3.out nq)
                have e1 := (b5.cell (p := ⟨b, off + i * 5 + 1, none⟩) (by exact hb')).trans c1
                have B5 := Lib.hid (B4.out.trans (b5.mono B4.out.size))
                clear b5 c0 c1 c2 c3 c4 d0 d1 d2 d3 d4
                by_cases hlt2 : x.fr < endF y
                · have e := HE3.out
                  rw [decide_eq_false (by omega)] at e
                  have hF := HF.out
                  rw [sortedF_false e] at hF
                  subst hF
                  clear e
                  go_wp2
                  go_ret
                  exact ⟨rfl, B5.out⟩
                · have e := HE3.out
                  rw [decide_eq_true (by omega)] at e
                  have HE4 := Lib.hid e
                  have hge2 : endF y ≤ x.fr := by omega
                  clear e hlt2
                  go_wp2
                  go_roundw
                  case rel => exact ⟨i + 1, by omega, HE4.out, by simp, B5.out⟩
                  case measure => simp [intOf]; omega
              · have y0 : (y.sock == x.sock) = false := by simpa using hs
                have y1 : (y.sock != x.sock) = true := by simpa using hs
                rw [if_neg (fun h => hs h.2)] at hbk
                have HK := Lib.hid hbk
                clear hbk hag' hs
                go_wp2_with fail
                go_quiet (fail)
                go_wp2
                go_roundw
                case rel => exact ⟨q, by omega, HT3.out.trans HK.out, rfl, below_drewN HB3.out _⟩
                case measure => simp [intOf]; try omega
            · rw [hag'] at d4
              rw [if_neg (fun h => by rw [hag'] at h; cases h.1)] at hbk
              have HK := Lib.hid hbk
              clear hbk hag'
              go_wp2_with fail
              go_quiet (fail)
              go_wp2
              go_roundw
              case rel => exact ⟨q, by omega, HT3.out.trans HK.out, rfl, below_drewN HB3.out _⟩
              case measure => simp [intOf]; try omega
        · have e := HST.out
          rw [sStep, if_pos hag] at e
          have HE := Lib.hid e
          rw [hag] at c4
          clear e hag hB3
          rcases Nat.eq_zero_or_pos k with hk0 | hk0
          · subst hk0
            go_wp2
            go_roundw
            case rel => exact ⟨i + 1, by omega, by rw [HE.out]; exact HT.out, by simp, HB3.out⟩
            case measure => simp [intOf]; omega
          · have y : (-1 : Int) < (k : Int) - 1 := by omega
            go_wp2
            go_roundw
            case rel => exact ⟨i + 1, by omega, by rw [HE.out]; exact HT.out, by simp, HB3.out⟩
            case measure => simp [intOf]; omega
    · have hF := HF.out
      have hT := HT.out
      rw [List.take_of_length_le (by omega)] at hT
      rw [sortedF, hT] at hF
      subst hF
      clear hB hT
      go_wp2
      go_ret
      exact ⟨rfl, HB.out⟩
end Go.Proofs.Ytojgpgjmcamfoaa
