/- The contracts of audit.Once and of its reference. -/
import Derived.Test.YtojgpgjmcamfoaaAud1
namespace Go.Proofs.Ytojgpgjmcamfoaa
open Go.RowKit Go.Lib
set_option linter.unusedVariables false

def OnceTo (l : List Sg) (i : Nat) : Prop := ∀ p q a b, q < p → p < i → l[p]? = some a → l[q]? = some b → okP a b = true
def OnceAt (l : List Sg) (x : Sg) (j : Nat) : Prop := ∀ q b, q < j → l[q]? = some b → okP x b = true
theorem OnceTo.succ {l : List Sg} {i : Nat} {x : Sg} (h : OnceTo l i) (hx : l[i]? = some x) (h2 : OnceAt l x i) : OnceTo l (i + 1) := by
  intro p q a b hq hp ha hb
  rcases Nat.lt_or_ge p i with h1 | h1
  · exact h p q a b hq h1 ha hb
  · obtain rfl : p = i := by omega
    rw [hx] at ha
    cases ha
    exact h2 q b hq hb
theorem OnceTo.skip {l : List Sg} {i : Nat} {x : Sg} (h : OnceTo l i) (hx : l[i]? = some x) (ha : x.again = true) : OnceTo l (i + 1) := h.succ hx fun q b _ _ => by simp [okP, ha]
theorem OnceTo.all {l : List Sg} {i : Nat} (h : OnceTo l i) (hi : l.length ≤ i) : onceF l = true := by
  rw [onceF_iff]
  intro p q a b hq ha hb
  exact h p q a b hq (by have := (List.getElem?_eq_some_iff.1 ha).1; omega) ha hb
theorem OnceAt.succ {l : List Sg} {x y : Sg} {j : Nat} (h : OnceAt l x j) (hy : l[j]? = some y) (h2 : okP x y = true) : OnceAt l x (j + 1) := by
  intro q b hq hb
  rcases Nat.lt_or_ge q j with h1 | h1
  · exact h q b h1 hb
  · obtain rfl : q = j := by omega
    rw [hy] at hb
    cases hb
    exact h2
def OnceRel (l : List Sg) (w0 : World) (v9 : Value) (wr : World) : Prop :=
  ∃ i : Nat, i ≤ l.length ∧ OnceTo l i ∧ v9 = .int .i64 i ∧ Below w0.heap.size w0 wr
def OnceIn (l : List Sg) (x : Sg) (i B : Nat) (w0 : World) (v20 : Value) (wr : World) : Prop :=
  ∃ j : Nat, j ≤ i ∧ OnceAt l x j ∧ v20 = .int .i64 j ∧ At wr B 55 (segC x) ∧ Below w0.heap.size w0 wr

set_option maxHeartbeats 4000000 in
theorem once_any (a : Option Addr) (cap : Nat) (l : List Sg) (w : World) (hl : SegRow w a l) (hcap : l.length ≤ cap) :
    Calls Try.prog 29 #[.slice a l.length cap] w fun e w' => e = .returned (.bool (onceF l)) ∧ Below w.heap.size w w' := by
  have b1 := hl.1
  have HL := Lib.hid hl
  clear hl
  obtain ⟨R, hR⟩ : ∃ R, onceF l = R := ⟨_, rfl⟩
  have HF := Lib.hid hR
  rw [hR]
  clear hR
  go_enter Try.func29, Try.ntmps29
  go_wp2
  go_step3
  go_wp2
  go_step3
  go_wp2
  go_loopw [9] (fun v9 wr => OnceRel l w v9 wr) (fun v9 _ => l.length - (intOf v9).toNat)
  case atStart => exact ⟨0, by omega, fun _ _ _ _ _ h => by omega, rfl, Below.refl _ _⟩
  case round =>
    obtain ⟨i, hi1, hto, rfl, hB⟩ := hrel
    have HB := Lib.hid hB
    have HT := Lib.hid hto
    clear hto
    by_cases hlt : i < l.length
    · obtain ⟨b, off, x, rfl, hb, hx, hok, c0, c1, c2, c3, c4⟩ := (HL.out.below hB).at_ hlt
      have HX := Lib.hid hx
      have HOK := Lib.hid hok
      clear hx hok hB
      obtain ⟨sock, fr, len, stamp, again⟩ := x
      simp only at c0 c1 c2 c3 c4
      cases again
      · go_wp2_with fail
        obtain ⟨wo, hwo⟩ : ∃ wo : World, wo = wr := ⟨_, rfl⟩
        subst hwo
        obtain ⟨B, hBB⟩ : ∃ B, wo.heap.size = B := ⟨_, rfl⟩
        have AT := At.made wo 55 (segC ⟨sock, fr, len, stamp, false⟩)
        rw [hBB] at AT ⊢
        have hBw : w.heap.size ≤ B := hBB ▸ HB.out.size
        have HAT := Lib.hid AT
        have HB2 := Lib.hid (HB.out.alloc HB.out.size (.cells (segC ⟨sock, fr, len, stamp, false⟩) 55))
        clear AT hBB c0 c1 c2 c3 c4
        go_loopw [20] (fun v20 wq => OnceIn l ⟨sock, fr, len, stamp, false⟩ i B w v20 wq) (fun v20 _ => i - (intOf v20).toNat)
        case atStart => exact ⟨0, by omega, fun _ _ h => by omega, rfl, HAT.out, HB2.out⟩
        case round =>
          obtain ⟨j, hj, hat, rfl, hA, hB3⟩ := hrel
          have HA := Lib.hid hA
          have HB3 := Lib.hid hB3
          have HT3 := Lib.hid hat
          clear hat hA
          by_cases hjl : j < i
          · obtain ⟨b', off', y, e, hb', hy, hok', d0, d1, d2, d3, d4⟩ := (HL.out.below hB3).at_ (k := j) (by omega)
            cases e
            have HY := Lib.hid hy
            have hAlt := HA.out.lt
            clear hy hB3
            have c0 := HA.out.cell 0
            have c1 := HA.out.cell 1
            have c2 := HA.out.cell 2
            have c3 := HA.out.cell 3
            have c4 := HA.out.cell 4
            simp only [List.getElem?_toArray, List.getElem?_cons_zero, List.getElem?_cons_succ] at c0 c1 c2 c3 c4
            obtain ⟨sock', fr', len', stamp', again'⟩ := y
            simp only at d0 d1 d2 d3 d4
            cases again'
            · have CM := Lib.hid (meet_any ⟨sock, fr, len, stamp, false⟩ ⟨sock', fr', len', stamp', false⟩ HOK.out hok')
              cases hm : meetF ⟨sock, fr, len, stamp, false⟩ ⟨sock', fr', len', stamp', false⟩
              · rw [hm] at CM
                have HM := Lib.hid hm
                clear hm
                go_wp2_with fail
                refine (CM.out _).mono ?_; rintro e w5 ⟨rfl, b5⟩
                have B5 := Lib.hid b5
                clear b5 c0 c1 c2 c3 c4 d0 d1 d2 d3 d4
                go_wp2
                go_roundw
                case rel => exact ⟨j + 1, by omega, HT3.out.succ HY.out (by simp [okP, HM.out]), by simp, (HA.out.kept (World.grownBy_alloc _ _ none) (by simp)).below B5.out (by simp; omega), (HB3.out.alloc HB3.out.size _).trans (B5.out.mono (by have := HB3.out.size; simp; omega))⟩
                case measure => simp [intOf]; omega
              · rw [hm] at CM
                have hF := HF.out
                rw [onceF_false hjl HX.out HY.out (by simp [okP, hm])] at hF
                subst hF
                clear hm
                go_wp2_with fail
                refine (CM.out _).mono ?_; rintro e w5 ⟨rfl, b5⟩
                have B5 := Lib.hid b5
                clear b5 c0 c1 c2 c3 c4 d0 d1 d2 d3 d4
                go_wp2
                (try rw [Exit.noGoto_ret])
                go_ret
                exact ⟨rfl, (HB3.out.alloc HB3.out.size _).trans (B5.out.mono (by have := HB3.out.size; simp; omega))⟩
            · go_wp2
              go_roundw
              case rel => exact ⟨j + 1, by omega, HT3.out.succ HY.out (by simp [okP]), by simp, HA.out.kept (World.grownBy_alloc _ _ none) (by simp), HB3.out.alloc HB3.out.size _⟩
              case measure => simp [intOf]; omega
          · obtain rfl : j = i := by omega
            clear hB3
            go_wp2
            go_roundw
            case rel => exact ⟨j + 1, by omega, HT.out.succ HX.out HT3.out, by simp, HB3.out⟩
            case measure => simp [intOf]; omega
      · have HT2 := Lib.hid (HT.out.skip HX.out rfl)
        go_wp2
        go_roundw
        case rel => exact ⟨i + 1, by omega, HT2.out, by simp, HB.out.alloc HB.out.size _⟩
        case measure => simp [intOf]; omega
    · have hF := HF.out
      rw [HT.out.all (by omega)] at hF
      subst hF
      clear hB
      go_wp2
      (try rw [Exit.noGoto_ret])
      go_ret
      exact ⟨rfl, HB.out⟩

def ROnceIn (l : List Sg) (x : Sg) (i : Nat) (w0 : World) (v4 : Value) (wr : World) : Prop :=
  ∃ j : Nat, j ≤ i ∧ OnceAt l x j ∧ v4 = .int .i64 j ∧ Below w0.heap.size w0 wr
theorem okP_of (x y : Sg) (E1 E2 : Nat) (h1 : endF x = E1) (h2 : endF y = E2) :
    (((x.sock == y.sock) = false ∨ (x.sock == y.sock) = true ∧ x.again = true ∨ (x.sock == y.sock) = true ∧ x.again = false ∧ y.again = true ∨ (x.sock == y.sock) = true ∧ x.again = false ∧ y.again = false ∧ decide (x.fr < E2) = false ∨
      (x.sock == y.sock) = true ∧ x.again = false ∧ y.again = false ∧ decide (x.fr < E2) = true ∧ decide (y.fr < E1) = false ∨ (x.sock == y.sock) = true ∧ x.again = false ∧ y.again = false ∧ decide (x.fr < E2) = true ∧ decide (y.fr < E1) = true ∧ decide (x.fr < E1) = false ∨
      (x.sock == y.sock) = true ∧ x.again = false ∧ y.again = false ∧ decide (x.fr < E2) = true ∧ decide (y.fr < E1) = true ∧ decide (x.fr < E1) = true ∧ decide (y.fr < E2) = false) ∧ okP x y = true) ∨
    ((x.sock == y.sock) = true ∧ x.again = false ∧ y.again = false ∧ decide (x.fr < E2) = true ∧ decide (y.fr < E1) = true ∧ decide (x.fr < E1) = true ∧ decide (y.fr < E2) = true ∧ okP x y = false) := by
  unfold okP meetF
  rw [h1, h2]
  have hs : (x.sock == y.sock) = decide (x.sock = y.sock) := by rw [Bool.eq_iff_iff]; simp
  rw [hs]
  obtain ⟨sock, fr, len, stamp, again⟩ := x
  obtain ⟨sock', fr', len', stamp', again'⟩ := y
  simp only
  cases again
  · cases again'
    · cases decide (sock = sock')
      · simp
      · simp only [Bool.false_or, Bool.true_and, decide_eq_false_iff_not, decide_eq_true_eq, Bool.not_eq_true', Bool.not_eq_false', reduceCtorEq, false_or, true_and]
        omega
    · cases decide (sock = sock') <;> simp
  · cases decide (sock = sock') <;> simp

set_option maxRecDepth 8000 in
set_option maxHeartbeats 4000000 in
theorem ronce_any (a : Option Addr) (cap : Nat) (l : List Sg) (w : World) (hl : SegRow w a l) :
    Calls Try.prog 30 #[.slice a l.length cap] w fun e w' => e = .returned (.bool (onceF l)) ∧ Below w.heap.size w w' := by
  have b1 := hl.1
  have HL := Lib.hid hl
  clear hl
  obtain ⟨R, hR⟩ : ∃ R, onceF l = R := ⟨_, rfl⟩
  have HF := Lib.hid hR
  rw [hR]
  clear hR
  go_enter Try.func30, Try.ntmps30
  go_wp2
  go_loopw [3] (fun v3 wr => OnceRel l w v3 wr) (fun v3 _ => l.length - (intOf v3).toNat)
  case atStart => exact ⟨0, by omega, fun _ _ _ _ _ h => by omega, rfl, Below.refl _ _⟩
  case round =>
    obtain ⟨i, hi1, hto, rfl, hB⟩ := hrel
    have HB := Lib.hid hB
    have HT := Lib.hid hto
    clear hto
    by_cases hlt : i < l.length
    · obtain ⟨b, off, x, rfl, hb, hx, hok, c0, c1, c2, c3, c4⟩ := (HL.out.below hB).at_ hlt
      have HX := Lib.hid hx
      have HOK := Lib.hid hok
      clear hx hok hB c0 c1 c2 c3 c4
      go_wp2_with fail
      obtain ⟨wo, hwo⟩ : ∃ wo : World, wo = wr := ⟨_, rfl⟩
      subst hwo
      go_loopw [4] (fun v4 wq => ROnceIn l x i w v4 wq) (fun v4 _ => i - (intOf v4).toNat)
      case atStart => exact ⟨0, by omega, fun _ _ h => by omega, rfl, HB.out⟩
      case round =>
        obtain ⟨j, hj, hat, rfl, hB3⟩ := hrel
        have HB3 := Lib.hid hB3
        have HT3 := Lib.hid hat
        clear hat
        by_cases hjl : j < i
        · obtain ⟨b', off', y, e, hb', hy, hok', d0, d1, d2, d3, d4⟩ := (HL.out.below hB3).at_ (k := j) (by omega)
          cases e
          obtain ⟨b', off', x', e, hb', hx', _, c0, c1, c2, c3, c4⟩ := (HL.out.below hB3).at_ (k := i) hlt
          cases e
          obtain rfl : x = x' := Option.some.inj (HX.out.symm.trans hx')
          have HY := Lib.hid hy
          have CX := Lib.hid (span_any x HOK.out)
          have CY := Lib.hid (span_any y hok')
          obtain ⟨E1, hE1⟩ : ∃ E1, endF x = E1 := ⟨_, rfl⟩
          obtain ⟨E2, hE2⟩ : ∃ E2, endF y = E2 := ⟨_, rfl⟩
          have hO := Lib.hid (okP_of x y E1 E2 hE1 hE2)
          rw [hE1] at CX
          rw [hE2] at CY
          have HF2 := Lib.hid (fun h => onceF_false hjl HX.out HY.out h)
          have CC := Lib.hid (And.intro c0 (And.intro c1 (And.intro c2 (And.intro c3 c4))))
          have DD := Lib.hid (And.intro d0 (And.intro d1 (And.intro d2 (And.intro d3 d4))))
          clear hy hB3 hx' hE1 hE2 hok'
          obtain ⟨sock, fr, len, stamp, again⟩ := x
          obtain ⟨sock', fr', len', stamp', again'⟩ := y
          simp only at c0 c1 c2 c3 c4 d0 d1 d2 d3 d4
          go_wp2_with fail
          refine (CX.out _).mono ?_; rintro e w5 ⟨rfl, b5⟩
          have B5 := Lib.hid (HB3.out.trans (b5.mono HB3.out.size))
          have B5' := Lib.hid b5
          clear b5 c0 c1 c2 c3 c4 d0 d1 d2 d3 d4
          have d0 := (B5'.out.cell (p := ⟨_, _, none⟩) hb').trans DD.out.1
          have d1 := (B5'.out.cell (p := ⟨_, _, none⟩) hb').trans DD.out.2.1
          have d2 := (B5'.out.cell (p := ⟨_, _, none⟩) hb').trans DD.out.2.2.1
          have d3 := (B5'.out.cell (p := ⟨_, _, none⟩) hb').trans DD.out.2.2.2.1
          have d4 := (B5'.out.cell (p := ⟨_, _, none⟩) hb').trans DD.out.2.2.2.2
          try simp only at d0 d1 d2 d3 d4
          go_wp2_with fail
          refine (CY.out _).mono ?_; rintro e w6 ⟨rfl, b6⟩
          have hb5 := Nat.lt_of_lt_of_le hb' B5'.out.size
          have B6 := Lib.hid (B5.out.trans (b6.mono B5.out.size))
          have B6' := Lib.hid b6
          clear b6
          have e0 := (B6'.out.cell (p := ⟨_, _, none⟩) hb5).trans d0
          have e4 := (B6'.out.cell (p := ⟨_, _, none⟩) hb5).trans d4
          clear d0 d1 d2 d3 d4
          have c0 := (B6'.out.cell (p := ⟨_, _, none⟩) hb5).trans ((B5'.out.cell (p := ⟨_, _, none⟩) hb').trans CC.out.1)
          have c4 := (B6'.out.cell (p := ⟨_, _, none⟩) hb5).trans ((B5'.out.cell (p := ⟨_, _, none⟩) hb').trans CC.out.2.2.2.2)
          try simp only at c0 c4 e0 e4
          rcases hO.out with ⟨hx, hK⟩ | ⟨y0, rfl, rfl, y3, y4, y5, y6, hK⟩
          · have HK := Lib.hid hK
            clear hK
            try simp only at hx
            rcases hx with y0 | ⟨y0, rfl⟩ | ⟨y0, rfl, rfl⟩ | ⟨y0, rfl, rfl, y3⟩ | ⟨y0, rfl, rfl, y3, y4⟩ | ⟨y0, rfl, rfl, y3, y4, y5⟩ | ⟨y0, rfl, rfl, y3, y4, y5, y6⟩
            all_goals
              go_wp2_with fail
              go_quiet (fail)
              go_wp2
              go_roundw
              case rel => exact ⟨j + 1, by omega, HT3.out.succ HY.out HK.out, by simp, below_drewN B6.out _⟩
              case measure => simp [intOf]; omega
          · have hF := HF.out
            rw [HF2.out hK] at hF
            subst hF
            clear hK
            try simp only at y0 y3 y4 y5 y6
            go_wp2_with fail
            go_quiet (fail)
            go_wp2
            go_ret
            exact ⟨rfl, below_drewN B6.out _⟩
        · obtain rfl : j = i := by omega
          have hlt' := hlt
          clear hB3 hjl hj hi1 hb hlt
          have y : decide (j < j) = false := by simp
          go_wp2
          go_roundw
          case rel => exact ⟨j + 1, by omega, HT.out.succ HX.out HT3.out, by simp, HB3.out⟩
          case measure => simp [intOf]; omega
    · have hF := HF.out
      rw [HT.out.all (by omega)] at hF
      subst hF
      clear hB
      go_wp2
      go_ret
      exact ⟨rfl, HB.out⟩
end Go.Proofs.Ytojgpgjmcamfoaa
