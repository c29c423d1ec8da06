/- The walk of ProbeTurns. -/
import Derived.Test.YtgdbmjokpbjoaaaLaw15
import Derived.Test.YtgdbmjokpbjoaaaLaw15c
namespace Go.Proofs.Ytgdbmjokpbjoaaa
open Go.RowKit Go.Lib
set_option linter.unusedVariables false

def u64v (n : Nat) : Value := .int .u64 n
/-- what holds of a probe's state and of what came -/
def TurnOk (s : PS) (xs : List Nat) : Prop := s.stamp < 18446744073709551616 ∧ (s.best = 0 ∨ s.best ∈ xs)
def TurnRel (w0 : World) (b len : Nat) (v4 v5 v6 : Value) (wr : World) : Prop :=
  ∃ (k : Nat) (s : PS) (xs : List Nat), k ≤ len ∧ k ≤ 100 ∧ xs.length = k ∧ TurnOk s xs ∧ v4 = .bool s.inn ∧ v6 = .int .i64 k ∧ Own w0 wr b 69 (prb s) ∧ wr.ownsRow (b + 1) 22 1 v5 k (xs.map u64v)

theorem own_append {w0 W w3 : World} {b n : Nat} {t e : TypeId} {cs : Array Value} {v : Value} {xs : List Value} (hO : Own w0 W b t cs) (hx : W.ownsRow (b + 1) e 1 v n xs) (hg : W.grownBy w3 v.ownBlock) : Own w0 w3 b t cs := by
  refine ⟨hO.1.kept hg fun h => ?_, hO.2.1.grown hg hO.2.1.size fun k hk => ?_, hO.2.2⟩
  · have := (hx.lt b h.symm).1
    omega
  · have := (hx.lt k hk).1
    have := hO.2.2
    omega
theorem at_append {W w3 : World} {b c n : Nat} {t e : TypeId} {cs : Array Value} {v : Value} {xs : List Value} (h : At W c t cs) (wr : World) (hx : wr.ownsRow b e 1 v n xs) (hc : wr.heap.size ≤ c) (hg : W.grownBy w3 v.ownBlock) : At w3 c t cs :=
  h.kept hg fun h => by have := (hx.lt c h.symm).2; omega
theorem leaves_inn (s : PS) (now : Nat) (start : Bool) (flight floor : Nat) (h : s.inn = true) (hn : now < 18446744073709551616) (hs : s.stamp < 18446744073709551616) :
    (leavesF s now start flight floor).2.inn = !(leavesF s now start flight floor).1 ∧ (leavesF s now start flight floor).2.best = s.best ∧ (leavesF s now start flight floor).2.stamp < 18446744073709551616 := by
  unfold leavesF
  generalize satAdd now 200000000 = X
  obtain ⟨best, stamp, inn, till, round⟩ := s
  simp only at h hs
  subst h
  by_cases h0 : till = 0
  · rw [if_pos h0]
    by_cases h1 : flight ≤ floor
    · rw [if_pos h1]; exact ⟨rfl, rfl, hs⟩
    · rw [if_neg h1]; exact ⟨rfl, rfl, hs⟩
  · rw [if_neg h0]
    by_cases h2 : (!(round || start) || decide (now ≤ till)) = true
    · rw [if_pos h2]; exact ⟨rfl, rfl, hs⟩
    · rw [if_neg h2]; exact ⟨rfl, rfl, hn⟩
theorem s1_facts (s : PS) (now rtt : Nat) (hn : now < 18446744073709551616) (hs : s.stamp < 18446744073709551616) : (s1F s now rtt).inn = s.inn ∧ ((s1F s now rtt).best = s.best ∨ (s1F s now rtt).best = rtt) ∧ (s1F s now rtt).stamp < 18446744073709551616 := by
  unfold s1F
  split
  · exact ⟨rfl, .inr rfl, hn⟩
  · exact ⟨rfl, .inl rfl, hs⟩
theorem turn_step (s : PS) (xs : List Nat) (now rtt : Nat) (start : Bool) (flight floor : Nat) (hn : now < 18446744073709551616) (h : TurnOk s xs) :
    TurnOk (updF s now rtt start flight floor).2.2 (xs ++ [rtt]) ∧
      ((s.inn = false ∧ (updF s now rtt start flight floor).1 = true ∧ (updF s now rtt start flight floor).2.1 = false ∧ (updF s now rtt start flight floor).2.2.inn = true) ∨
       (s.inn = false ∧ (updF s now rtt start flight floor).1 = false ∧ (updF s now rtt start flight floor).2.1 = false ∧ (updF s now rtt start flight floor).2.2.inn = false) ∨
       (s.inn = true ∧ (updF s now rtt start flight floor).1 = false ∧ (updF s now rtt start flight floor).2.1 = true ∧ (updF s now rtt start flight floor).2.2.inn = false) ∨
       (s.inn = true ∧ (updF s now rtt start flight floor).1 = false ∧ (updF s now rtt start flight floor).2.1 = false ∧ (updF s now rtt start flight floor).2.2.inn = true)) := by
  obtain ⟨h1, h2, h3⟩ := s1_facts s now rtt hn h.1
  have hb : (s1F s now rtt).best = 0 ∨ (s1F s now rtt).best ∈ xs ++ [rtt] := by
    rcases h2 with e | e
    · rw [e]
      rcases h.2 with h | h
      · exact .inl h
      · exact .inr (List.mem_append_left _ h)
    · rw [e]; exact .inr (by simp)
  unfold updF
  cases hi : s.inn
  · rw [hi] at h1
    by_cases he : expF s now = true
    · rw [if_pos (by simp [he])]
      exact ⟨⟨h3, hb⟩, .inl ⟨rfl, rfl, rfl, rfl⟩⟩
    · rw [if_neg (by simp [he]), if_neg (by simp)]
      exact ⟨⟨h3, hb⟩, .inr (.inl ⟨rfl, rfl, rfl, h1⟩)⟩
  · rw [hi] at h1
    rw [if_neg (by simp), if_pos rfl]
    obtain ⟨k1, k2, k3⟩ := leaves_inn (s1F s now rtt) now start flight floor h1 hn h3
    refine ⟨⟨k3, by rw [k2]; exact hb⟩, .inr (.inr ?_)⟩
    cases hl : (leavesF (s1F s now rtt) now start flight floor).1
    · exact .inr ⟨rfl, rfl, rfl, by rw [k1, hl]; rfl⟩
    · exact .inl ⟨rfl, rfl, rfl, by rw [k1, hl]; rfl⟩

def FoundRel (w0 : World) (b : Nat) (s : PS) (xs : List Nat) (v : Value) (v10 v11 : Value) (wr : World) : Prop :=
  ∃ (j : Nat) (fd : Bool), j ≤ xs.length ∧ v10 = .bool fd ∧ v11 = .int .i64 j ∧ (fd = true ∨ s.best ≠ 0 ∧ ∀ i, i < j → xs.getD i 0 ≠ s.best) ∧ Own w0 wr b 69 (prb s) ∧ wr.ownsRow (b + 1) 22 1 v xs.length (xs.map u64v)

set_option maxRecDepth 8000 in
set_option maxHeartbeats 4000000 in
theorem turns_any (a : Option Addr) (len cap : Nat) (f : Nat → POp) (w : World) (hrow : OpRow w a len f) :
    Calls Try.prog 8 #[.slice a len cap] w fun e w' => e = .returned (.bool true) ∧ Below w.heap.size w w' := by
  obtain ⟨hlen, hwf, hrow⟩ := hrow
  have HW := Lib.hid hwf
  have HR := Lib.hid hrow
  clear hwf hrow
  obtain ⟨i0, hi, hz0, hz1, hz2⟩ : ∃ i : TypeInfo, Try.prog.info? 22 = some i ∧ i.zero = some (.int .u64 0) ∧ i.size = 1 ∧ i.bytes = 8 := ⟨_, rfl, rfl, rfl, rfl⟩
  have HI := Lib.hid (And.intro hi (And.intro hz0 (And.intro hz1 hz2)))
  clear hi hz0 hz1 hz2
  go_enter Try.func8, Try.ntmps8
  go_wp2_with fail
  refine (pnew_any _).mono ?_; rintro e w1 ⟨rfl, hw1⟩
  have O1 : Hid (Own w w1 w.heap.size 69 (prb ⟨0, 0, false, 0, false⟩)) := by rw [hw1]; exact Lib.hid (Own.made (Below.refl _ _) _ _)
  clear hw1
  go_wp2_with fail
  refine (awake15 _).mono ?_; rintro e w2 ⟨rfl, b2⟩
  have P1 := Lib.hid (O1.out.below b2)
  clear b2
  go_wp2_with fail
  go_loopw [4, 5, 6] (fun v4 v5 v6 wr => TurnRel w w.heap.size len v4 v5 v6 wr) (fun _ _ v6 _ => 100 - (intOf v6).toNat)
  case atStart => exact ⟨0, ⟨0, 0, false, 0, false⟩, [], by omega, by omega, rfl, ⟨by decide, .inl rfl⟩, rfl, rfl, P1.out, World.ownsRow_nil _ _ _ _⟩
  case round =>
    obtain ⟨k, s, xs, hk1, hk2, hxs, hok, rfl, rfl, hO, hown⟩ := hrel
    have HO := Lib.hid hO
    have HX := Lib.hid hown
    have HL := Lib.hid hxs
    have HOK := Lib.hid hok
    clear hO hown hxs hok
    by_cases hlt : k < len ∧ k < 100
    · obtain ⟨lt1, lt2⟩ := hlt
      obtain ⟨b, off, rfl, hb, hc⟩ := HR.out (by omega)
      obtain ⟨c0, c1, c2, c3, c4⟩ := hc k lt1
      have d0 := (HO.out.2.1.cell (p := ⟨b, off + k * 5, none⟩) hb).trans c0
      have d1 := (HO.out.2.1.cell (p := ⟨b, off + k * 5 + 1, none⟩) hb).trans c1
      have d2 := (HO.out.2.1.cell (p := ⟨b, off + k * 5 + 2, none⟩) hb).trans c2
      have d3 := (HO.out.2.1.cell (p := ⟨b, off + k * 5 + 3, none⟩) hb).trans c3
      have d4 := (HO.out.2.1.cell (p := ⟨b, off + k * 5 + 4, none⟩) hb).trans c4
      have hw := HW.out k lt1
      generalize f k = o at *
      obtain ⟨now, rtt, flight, floor, start⟩ := o
      simp only at d0 d1 d2 d3 d4 hw
      clear hc c0 c1 c2 c3 c4
      have Hn := Lib.hid hw.1
      have hsz := HO.out.1.lt
      clear hw
      go_wp2_with (at_builtin; refine wpList_append_lies _ rfl _ _ 23 rfl (w.heap.size + 1) 22 i0 (.int .u64 0) 1 8 Try.underlying23 HI.out.1 HI.out.2.1 HI.out.2.2.1 HI.out.2.2.2 rfl (by decide) _ k (xs.map u64v) rfl ((HX.out.alloc _).alloc _) ⟨wr.heap.size + 1, 0, none⟩ 1 1 [u64v rtt] rfl rfl ?c1 ?c2 (by decide) ?c3 ?c4 ?c5 _ rfl ?_)
      case c1 =>
        intro j u hj
        match j, hj with
        | 0, hj => simp at hj; subst hj; simp [Addr.add, u64v]
      case c2 => intro u hu; simp at hu; subst hu; rfl
      case c3 => unfold maxLen; omega
      case c4 => omega
      case c5 => simp; omega
      intro g cp w3 hown3 hgrow3 hat3 hlt3
      have O3 := Lib.hid (own_append ((HO.out.alloc _).alloc _) ((HX.out.alloc _).alloc _) hgrow3)
      have A3 := Lib.hid (at_append ((At.made wr 46 _).kept (World.grownBy_alloc _ _ none) (by simp)) wr HX.out (Nat.le_refl _) hgrow3)
      have X3 := Lib.hid hown3
      have hg1 := (hown3.lt g rfl).1
      have e0 := A3.out.cell 0
      have e1 := A3.out.cell 1
      have e2 := A3.out.cell 2
      have e3 := A3.out.cell 3
      have e4 := A3.out.cell 4
      simp at e0 e1 e2 e3 e4
      clear hown3 hgrow3 hat3 hlt3 d0 d1 d2 d3 d4
      obtain ⟨ok2, tn⟩ := turn_step s xs now rtt start flight floor Hn.out HOK.out
      have cu : ∀ wq, At wq w.heap.size 69 (prb s) → Calls Try.prog 29 #[.pointer (some ⟨w.heap.size, 0, none⟩), .int .u64 now, .int .u64 rtt, .bool start, .int .u64 flight, .int .u64 floor] wq
          fun e w' => e = .returned (.tuple #[.bool (updF s now rtt start flight floor).1, .bool (updF s now rtt start flight floor).2.1]) ∧ Put wq w' w.heap.size 69 (prb (updF s now rtt start flight floor).2.2) :=
        fun wq h => upd_any w.heap.size s now rtt start flight floor HOK.out.1 Hn.out wq h
      generalize (updF s now rtt start flight floor).2.2 = s2 at *
      generalize (updF s now rtt start flight floor).1 = x at *
      generalize (updF s now rtt start flight floor).2.1 = y at *
      obtain ⟨B0, S0, I0, t0, R0⟩ := s
      obtain ⟨B2, S2, I2, t2, R2⟩ := s2
      simp only at tn
      have CU := Lib.hid cu
      have OK2 := Lib.hid ok2
      clear cu ok2
      have X3' : Hid (w3.ownsRow (w.heap.size + 1) 22 1 (.slice (some ⟨g, 0, none⟩) (k + 1) cp) (xs ++ [rtt]).length ((xs ++ [rtt]).map u64v)) := by
        have := X3.out
        rw [show (xs ++ [rtt]).length = k + 1 from by simp [HL.out], List.map_append]
        exact Lib.hid this
      have hlx : (xs ++ [rtt]).length = k + 1 := by simp [HL.out]
      generalize xs ++ [rtt] = ys at *
      have HLY := Lib.hid hlx
      clear X3 hlx
      have yB : B2 = 0 ∨ 0 < B2 ∧ ((B2 : Int) == 0) = false := by
        rcases Nat.eq_zero_or_pos B2 with h | h
        · exact .inl h
        · exact .inr ⟨h, by rw [beq_eq_false_iff_ne]; omega⟩
      rcases tn with ⟨rfl, rfl, rfl, hI⟩ | ⟨rfl, rfl, rfl, hI⟩ | ⟨rfl, rfl, rfl, hI⟩ | ⟨rfl, rfl, rfl, hI⟩
      all_goals
        go_wp2_with fail
        refine (CU.out _ O3.out.1).mono ?_; rintro e w4 ⟨rfl, p4⟩
        have O4 := Lib.hid (O3.out.put p4)
        have X4 := Lib.hid (X3'.out.kept p4.2 (.inr (by simp [Value.ownBlock]; omega)))
        clear p4 e0 e1 e2 e3 e4
        go_wp2_with fail
        refine (best_any _ _ _ O4.out.1).mono ?_; rintro e w' ⟨rfl, rfl⟩
        rcases yB with yB | ⟨yB, yB'⟩
        · subst yB
          go_wp2_with fail
          go_loopw [10, 11] (fun v10 v11 wr => FoundRel w w.heap.size ⟨0, S2, I2, t2, R2⟩ ys (.slice (some ⟨g, 0, none⟩) (k + 1) cp) v10 v11 wr) (fun _ v11 _ => ys.length - (intOf v11).toNat)
          case atStart => exact ⟨0, true, by omega, by rfl, rfl, .inl rfl, O4.out, X4.out⟩
          case round =>
            obtain ⟨j, fd, hj, rfl, rfl, hfd, hO', hX'⟩ := hrel
            have HO' := Lib.hid hO'
            have HX' := Lib.hid hX'
            have HFD := Lib.hid hfd
            have CB := Lib.hid (fun wq n (h : At wq w.heap.size 69 (prb ⟨0, S2, I2, t2, R2⟩)) => best5 w.heap.size 0 S2 t2 I2 R2 (wq.drewN n) h)
            clear hO' hX' hfd
            have hly := HLY.out
            by_cases hjl : j < k + 1
            · cases fd
              · obtain ⟨z, hz⟩ : ∃ z, ys.getD j 0 = z := ⟨_, rfl⟩
                have hzc := HX'.out.cells (g := g) rfl j (u64v z) (by rw [List.getElem?_map, List.getElem?_eq_getElem (by omega)]; rw [List.getD_eq_getElem?_getD, List.getElem?_eq_getElem (by omega)] at hz; simp at hz; simp [hz])
                rw [show ((⟨g, 0, none⟩ : Addr).add j) = ⟨g, j, none⟩ from by unfold Addr.add; split <;> simp_all] at hzc
                have hzc2 : _ = some (Value.int .u64 (z : Nat)) := hzc
                have HZ := Lib.hid hz
                clear hzc hz
                by_cases hzB : z = 0
                · subst hzB
                  go_wp2_with fail
                  go_quiet (first | (go_at_call 31; exact still (CB.out _ _ HO'.out.1)))
                  go_wp2
                  go_roundw
                  case rel => exact ⟨j + 1, true, by omega, by simp, by simp, .inl rfl, HO'.out.drewN _, HX'.out.kept (by_drewN _ _ none) (.inr (by simp [Value.ownBlock]))⟩
                  case measure => simp [intOf]; omega
                · have y : ((z : Int) == 0) = false := by rw [beq_eq_false_iff_ne]; omega
                  go_wp2_with fail
                  go_quiet (first | (go_at_call 31; exact still (CB.out _ _ HO'.out.1)))
                  go_wp2
                  go_roundw
                  case rel =>
                    refine ⟨j + 1, false, by omega, by simp, by simp, .inr ?_, HO'.out.drewN _, HX'.out.kept (by_drewN _ _ none) (.inr (by simp [Value.ownBlock]))⟩
                    rcases HFD.out with h | ⟨h1, h2⟩
                    · cases h
                    · refine ⟨h1, fun i hi => ?_⟩
                      rcases Nat.lt_or_ge i j with h | h
                      · exact h2 i h
                      · have hij : i = j := by omega
                        subst hij
                        have := HZ.out
                        intro hq
                        exact hzB (this.symm.trans hq)
                  case measure => simp [intOf]; omega
              · go_wp2_with fail
                go_quiet (first | (go_at_call 31; exact still (CB.out _ _ HO'.out.1)))
                go_wp2
                go_roundw
                case rel => exact ⟨j + 1, true, by omega, by simp, by simp, .inl rfl, HO'.out.drewN _, HX'.out.kept (by_drewN _ _ none) (.inr (by simp [Value.ownBlock]))⟩
                case measure => simp [intOf]; omega
            · have hjd : decide (j < k + 1) = false := by simpa using hjl
              have hft : fd = true := by
                rcases HFD.out with h | ⟨h1, h2⟩
                · exact h
                · rcases OK2.out.2 with h | h
                  · exact absurd h h1
                  · obtain ⟨i, hi, e⟩ := List.getElem_of_mem h
                    exact absurd (by rw [List.getD_eq_getElem?_getD, List.getElem?_eq_getElem hi]; exact e) (h2 i (by omega))
              subst hft
              subst hI
              go_wp2_with fail
              refine (in_any _ _ _ HO'.out.1).mono ?_; rintro e w' ⟨rfl, rfl⟩
              go_wp2
              go_roundw
              case rel => exact ⟨k + 1, ⟨0, S2, _, t2, R2⟩, ys, by omega, by omega, HLY.out, OK2.out, rfl, by simp, HO'.out, by have h := HX'.out; rw [HLY.out] at h; exact h⟩
              case measure => simp [intOf]; omega
        · go_wp2_with fail
          go_loopw [10, 11] (fun v10 v11 wr => FoundRel w w.heap.size ⟨B2, S2, I2, t2, R2⟩ ys (.slice (some ⟨g, 0, none⟩) (k + 1) cp) v10 v11 wr) (fun _ v11 _ => ys.length - (intOf v11).toNat)
          case atStart => exact ⟨0, false, by omega, by rfl, rfl, .inr ⟨by dsimp only; omega, fun i hi => by omega⟩, O4.out, X4.out⟩
          case round =>
            obtain ⟨j, fd, hj, rfl, rfl, hfd, hO', hX'⟩ := hrel
            have HO' := Lib.hid hO'
            have HX' := Lib.hid hX'
            have HFD := Lib.hid hfd
            have CB := Lib.hid (fun wq n (h : At wq w.heap.size 69 (prb ⟨B2, S2, I2, t2, R2⟩)) => best5 w.heap.size B2 S2 t2 I2 R2 (wq.drewN n) h)
            clear hO' hX' hfd
            have hly := HLY.out
            by_cases hjl : j < k + 1
            · cases fd
              · obtain ⟨z, hz⟩ : ∃ z, ys.getD j 0 = z := ⟨_, rfl⟩
                have hzc := HX'.out.cells (g := g) rfl j (u64v z) (by rw [List.getElem?_map, List.getElem?_eq_getElem (by omega)]; rw [List.getD_eq_getElem?_getD, List.getElem?_eq_getElem (by omega)] at hz; simp at hz; simp [hz])
                rw [show ((⟨g, 0, none⟩ : Addr).add j) = ⟨g, j, none⟩ from by unfold Addr.add; split <;> simp_all] at hzc
                have hzc2 : _ = some (Value.int .u64 (z : Nat)) := hzc
                have HZ := Lib.hid hz
                clear hzc hz
                by_cases hzB : z = B2
                · subst hzB
                  go_wp2_with fail
                  go_quiet (first | (go_at_call 31; exact still (CB.out _ _ HO'.out.1)))
                  go_wp2
                  go_roundw
                  case rel => exact ⟨j + 1, true, by omega, by simp, by simp, .inl rfl, HO'.out.drewN _, HX'.out.kept (by_drewN _ _ none) (.inr (by simp [Value.ownBlock]))⟩
                  case measure => simp [intOf]; omega
                · have y : ((z : Int) == ((B2 : Nat) : Int)) = false := by rw [beq_eq_false_iff_ne]; omega
                  go_wp2_with fail
                  go_quiet (first | (go_at_call 31; exact still (CB.out _ _ HO'.out.1)))
                  go_wp2
                  go_roundw
                  case rel =>
                    refine ⟨j + 1, false, by omega, by simp, by simp, .inr ?_, HO'.out.drewN _, HX'.out.kept (by_drewN _ _ none) (.inr (by simp [Value.ownBlock]))⟩
                    rcases HFD.out with h | ⟨h1, h2⟩
                    · cases h
                    · refine ⟨h1, fun i hi => ?_⟩
                      rcases Nat.lt_or_ge i j with h | h
                      · exact h2 i h
                      · have hij : i = j := by omega
                        subst hij
                        have := HZ.out
                        intro hq
                        exact hzB (this.symm.trans hq)
                  case measure => simp [intOf]; omega
              · go_wp2_with fail
                go_quiet (first | (go_at_call 31; exact still (CB.out _ _ HO'.out.1)))
                go_wp2
                go_roundw
                case rel => exact ⟨j + 1, true, by omega, by simp, by simp, .inl rfl, HO'.out.drewN _, HX'.out.kept (by_drewN _ _ none) (.inr (by simp [Value.ownBlock]))⟩
                case measure => simp [intOf]; omega
            · have hjd : decide (j < k + 1) = false := by simpa using hjl
              have hft : fd = true := by
                rcases HFD.out with h | ⟨h1, h2⟩
                · exact h
                · rcases OK2.out.2 with h | h
                  · exact absurd h h1
                  · obtain ⟨i, hi, e⟩ := List.getElem_of_mem h
                    exact absurd (by rw [List.getD_eq_getElem?_getD, List.getElem?_eq_getElem hi]; exact e) (h2 i (by omega))
              subst hft
              subst hI
              go_wp2_with fail
              refine (in_any _ _ _ HO'.out.1).mono ?_; rintro e w' ⟨rfl, rfl⟩
              go_wp2
              go_roundw
              case rel => exact ⟨k + 1, ⟨B2, S2, _, t2, R2⟩, ys, by omega, by omega, HLY.out, OK2.out, rfl, by simp, HO'.out, by have h := HX'.out; rw [HLY.out] at h; exact h⟩
              case measure => simp [intOf]; omega
    · have hx : decide (k < len) = false ∨ k < len ∧ 100 ≤ k := by simp; omega
      clear hlt
      rcases hx with hx | ⟨hx1, hx⟩
      all_goals
        go_wp2
        go_ret
        exact ⟨rfl, HO.out.2.1⟩
end Go.Proofs.Ytgdbmjokpbjoaaa
