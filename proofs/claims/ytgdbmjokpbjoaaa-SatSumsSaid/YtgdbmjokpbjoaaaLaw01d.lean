/- The walk of SatSums. -/
import Derived.Test.YtgdbmjokpbjoaaaLaw01c
import Derived.Test.YtgdbmjokpbjoaaaLaw01a
import Derived.Test.YtgdbmjokpbjoaaaObj
import Derived.BigRegion
import Derived.RegionTactic
import Derived.ChangeAlike
namespace Go.Proofs.Ytgdbmjokpbjoaaa
open Go.RowKit Go.Lib
set_option linter.unusedVariables false

def natv (n : Nat) : Value := .int .u64 n
def SwapRel (w0 : World) (xs : List Nat) (v5 : Value) (tlen : Nat) (v6 : Value) (wr : World) : Prop :=
  ∃ (k : Nat) (ys : List Nat), k ≤ tlen ∧ k ≤ 40 ∧ ys.length = xs.length ∧ ys.sum = xs.sum ∧ (∀ y ∈ ys, y < 18446744073709551616) ∧ v6 = .int .i64 k ∧ wr.ownsRow w0.heap.size 22 1 v5 xs.length (ys.map natv) ∧ Below w0.heap.size w0 wr

theorem own_set {w : World} {base n g cp j : Nat} {e : TypeId} {ys : List Value} (h : w.ownsRow base e 1 (.slice (some ⟨g, 0, none⟩) n cp) n ys) (u : Value) : (w.setCell ⟨g, j, none⟩ u).ownsRow base e 1 (.slice (some ⟨g, 0, none⟩) n cp) n (ys.set j u) := by
  refine ⟨by simpa using h.1, .inr ?_⟩
  rcases h.2 with ⟨h0, _⟩ | ⟨g', cap, cur, hv, hb, hg, h1, h2, h3, h4⟩
  · cases h0
  · cases hv
    refine ⟨g, cp, cur.setIfInBounds j u, rfl, hb, ?_, h1, h2, by simpa using h3, ?_⟩
    · exact At.set (show At w g e cur from hg) j
    · rw [← h4, Array.toList_setIfInBounds, List.take_set]
theorem own_free {w : World} {base n g cp j : Nat} {e : TypeId} {ys : List Value} (h : w.ownsRow base e 1 (.slice (some ⟨g, 0, none⟩) n cp) n ys) : w.frozen? ⟨g, j, none⟩ = false := by
  rcases h.2 with ⟨h0, _⟩ | ⟨g', cap, cur, hv, hb, hg, _⟩
  · cases h0
  · cases hv
    exact At.free (show At w g e cur from hg) j

theorem NatRow.below {w w' : World} {a : Option Addr} {xs : List Nat} (h : NatRow w a xs) (hb : Below w.heap.size w w') : NatRow w' a xs := by
  refine ⟨h.1, h.2.1, fun h0 => ?_⟩
  obtain ⟨b, off, ha, hl, hc⟩ := h.2.2 h0
  exact ⟨b, off, ha, Nat.lt_of_lt_of_le hl hb.size, fun j hj => (hb.cell (p := ⟨b, off + j, none⟩) hl).trans (hc j hj)⟩
theorem own_nat {w : World} {B n g cp : Nat} {ys : List Nat} (h : w.ownsRow B 22 1 (.slice (some ⟨g, 0, none⟩) n cp) n (ys.map natv)) (hl : n ≤ 9223372036854775807) (hb : ∀ y ∈ ys, y < 18446744073709551616) : NatRow w (some ⟨g, 0, none⟩) ys := by
  have hy : ys.length = n := by have := h.1; simpa using this
  refine ⟨by omega, hb, fun _ => ⟨g, 0, rfl, (h.lt g rfl).2, fun j hj => ?_⟩⟩
  have hc := h.cellAt j (by omega)
  rw [Nat.zero_add, hc, List.getElem?_map, List.getElem?_eq_getElem hj, List.getD_eq_getElem?_getD, List.getElem?_eq_getElem hj]
  rfl
theorem sum_minV (xs : List Nat) : (sumE xs = 0 ∧ min xs.sum 18446744073709551615 = sumV xs) ∨ (sumE xs = 3 ∧ sumV xs = 0 ∧ min xs.sum 18446744073709551615 = 18446744073709551615) := by
  unfold sumV sumE
  by_cases h : xs.sum < 18446744073709551616
  · left; rw [if_pos h, if_pos h]; exact ⟨rfl, by omega⟩
  · right; rw [if_neg h, if_neg h]; exact ⟨rfl, rfl, by omega⟩
theorem sumV_of {xs ys : List Nat} (h : ys.sum = xs.sum) : sumV ys = sumV xs ∧ sumE ys = sumE xs := by unfold sumV sumE; rw [h]; exact ⟨rfl, rfl⟩
theorem sum_m {w : World} {B n g cp : Nat} {xs ys : List Nat} (h : w.ownsRow B 22 1 (.slice (some ⟨g, 0, none⟩) n cp) n (ys.map natv)) (hl : n ≤ 9223372036854775807) (hy : ys.length = n) (hs : ys.sum = xs.sum) (hb : ∀ y ∈ ys, y < 18446744073709551616) :
    Calls Try.prog 16 #[.slice (some ⟨g, 0, none⟩) n cp] w fun e w' => e = .returned (.tuple #[.int .u64 (sumV xs : Nat), .int .i64 (sumE xs : Nat)]) ∧ w = w' := by
  have := sum_any (some ⟨g, 0, none⟩) ys cp w (own_nat h hl hb)
  rw [(sumV_of hs).1, (sumV_of hs).2, hy] at this
  exact this
theorem sum_none (xs : List Nat) (hx : xs.length = 0) (w : World) :
    Calls Try.prog 16 #[.slice none 0 0] w fun e w' => e = .returned (.tuple #[.int .u64 (sumV xs : Nat), .int .i64 (sumE xs : Nat)]) ∧ w = w' := by
  have h := sum_any none xs 0 w ⟨by omega, by intro x hx'; rw [List.length_eq_zero_iff.1 hx] at hx'; simp at hx', fun h => by omega⟩
  rw [hx] at h
  exact h
def NilRel (w3 : World) (v6 : Value) (wr : World) : Prop := v6 = .int .i64 0 ∧ wr = w3
def AllRel (xs : List Nat) (v12 v13 : Value) : Prop := ∃ i : Nat, i ≤ xs.length ∧ v12 = .int .u64 (min (pre xs i) 18446744073709551615 : Nat) ∧ v13 = .int .i64 i
set_option maxRecDepth 8000 in
set_option maxHeartbeats 4000000 in
theorem sums_core (a : Option Addr) (xs : List Nat) (cap : Nat) (c : Option Addr) (tlen tcap : Nat) (ts : List Int) (w : World) (ha : (a = none ∧ cap = 0 ∧ xs = []) ∨ ∃ ad, a = some ad) (hrow : NatRow w a xs) (trow : IntRow .i64 w c tlen ts) :
    Calls Try.prog 5 #[.slice a xs.length cap, .slice c tlen tcap] w fun e w' => e = .returned (.bool true) ∧ Below w.heap.size w w' := by
  have hlen := hrow.1
  have htl := trow.1
  have HR := Lib.hid hrow
  have HT := Lib.hid trow
  clear hrow trow
  obtain ⟨i0, hi, hz0, hz1, hz2⟩ : ∃ i : TypeInfo, Try.prog.info? 22 = some i ∧ i.zero = some (.int .u64 0) ∧ i.size = 1 ∧ i.bytes = 8 := ⟨_, rfl, rfl, rfl, rfl⟩
  have HI := Lib.hid (And.intro hi (And.intro hz0 (And.intro hz1 hz2)))
  clear hi hz0 hz1 hz2
  by_cases hl : 60 < xs.length
  · have hl2 : decide ((60 : Int) < xs.length) = true := by simp; omega
    have hl3 : decide (60 < xs.length) = true := by simp; omega
    go_enter Try.func5, Try.ntmps5
    go_wp2_with fail
    refine (awake01 _).mono ?_; rintro e w5 ⟨rfl, b5⟩
    go_wp2
    go_ret
    exact ⟨rfl, b5⟩
  · have hl2 : decide ((60 : Int) < xs.length) = false := by simp; omega
    rcases ha with ⟨rfl, rfl, rfl⟩ | ⟨ad, rfl⟩
    · go_enter Try.func5, Try.ntmps5
      go_wp2_with fail
      have CN : Hid (∀ W : World, Calls Try.prog 16 #[.slice none 0 0] W fun e w' => e = .returned (.tuple #[.int .u64 0, .int .i64 0]) ∧ W = w') := Lib.hid (fun W => sum_none [] rfl W)
      have ht0 : decide (0 < tlen) = false ∨ decide (0 < tlen) = true := by cases decide (0 < tlen) <;> simp
      rcases ht0 with ht0 | ht0
      all_goals
        refine wp_loop_rounds 1 ?_
        rw [rounds_succ]
        go_wp2_with fail
        refine (CN.out _).mono ?_; rintro e w' ⟨rfl, rfl⟩
        go_wp2_with fail
        refine (CN.out _).mono ?_; rintro e w' ⟨rfl, rfl⟩
        go_wp2_with fail
        refine wp_loop_rounds 1 ?_
        rw [rounds_succ]
        go_wp2_with fail
        refine (awake01 _).mono ?_; rintro e w5 ⟨rfl, b5⟩
        have B5 := Lib.hid b5
        clear b5
        go_wp2
        go_ret
        exact ⟨rfl, B5.out⟩
    · go_enter Try.func5, Try.ntmps5
      go_wp2_with (at_builtin; refine wpList_append_own_at _ rfl _ _ 23 rfl w.heap.size 22 i0 (.int .u64 0) 1 8 Try.underlying23 HI.out.1 HI.out.2.1 HI.out.2.2.1 HI.out.2.2.2 rfl (by decide) _ 0 [] rfl (World.ownsRow_nil _ _ _ _) ad xs.length cap (xs.map natv) rfl (by simp) ?c1 ?c2 ?c3 ?c4 (Nat.le_refl _) ?_)
      case c1 =>
        intro j u hu
        have hj : j < xs.length := by
          rcases Nat.lt_or_ge j xs.length with h | h
          · exact h
          · rw [List.getElem?_eq_none (by simpa using h)] at hu; cases hu
        obtain ⟨b, off, n, hab, _, _, _, hn, hc⟩ := HR.out.at_ (k := j) hj
        cases hab
        rw [List.getElem?_map, hn] at hu
        simp at hu
        rw [Go.WideShapes.add_plain, hc, ← hu]
        rfl
      case c2 => intro u hu; obtain ⟨n, _, rfl⟩ := List.mem_map.1 hu; rfl
      case c3 => unfold maxLen; omega
      case c4 => omega
      intro v' w3 hown hgrow h5 h6
      clear h5 h6
      have hbel : Below w.heap.size w w3 := (Below.refl _ _).grown hgrow (Nat.le_refl _) (fun k hk => by simp [Value.ownBlock] at hk)
      have HX := Lib.hid hown
      have HB := Lib.hid hbel
      have hform : (v' = .slice none 0 0 ∧ xs.length = 0) ∨ ∃ g cp, v' = .slice (some ⟨g, 0, none⟩) xs.length cp := by
        rcases hown.2 with h | ⟨g, cp, cur, h, _⟩
        · exact .inl h
        · exact .inr ⟨g, cp, h⟩
      clear hown hgrow hbel
      rcases hform with ⟨rfl, h0⟩ | ⟨g, cp, rfl⟩
      · have H0 := Lib.hid h0
        have ROW : Hid (NatRow w3 (some ad) xs) := Lib.hid (HR.out.below HB.out)
        have CM := Lib.hid (sum_none xs h0)
        clear h0 HX
        go_wp2_with fail
        go_loopw [6] (fun v6 wr => NilRel w3 v6 wr) (fun _ _ => 0)
        case atStart => exact ⟨rfl, rfl⟩
        case round =>
          obtain ⟨rfl, rfl⟩ := hrel
          have ht0 : decide (0 < tlen) = false ∨ decide (0 < tlen) = true := by cases decide (0 < tlen) <;> simp
          rcases ht0 with ht0 | ht0
          all_goals cases c
          all_goals
            go_wp2_with fail
            refine (sum_any (some ad) xs cap _ ROW.out).mono ?_; rintro e w' ⟨rfl, rfl⟩
            go_wp2_with fail
            refine (CM.out _).mono ?_; rintro e w' ⟨rfl, rfl⟩
            go_wp2_with fail
            go_loop [12, 13] (fun v12 v13 => AllRel xs v12 v13) (fun _ v13 => xs.length - (intOf v13).toNat)
            case atStart => exact ⟨0, by omega, by simp [pre_zero], rfl⟩
            case round =>
              obtain ⟨i, hi1, rfl, rfl⟩ := hrel
              by_cases hlt2 : i < xs.length
              · obtain ⟨b1, off1, n, hab, hb1, ln, _, hn, hc1⟩ := ROW.out.at_ (k := i) hlt2
                cases hab
                have hadd : satAdd (min (pre xs i) 18446744073709551615) n = min (pre xs (i + 1)) 18446744073709551615 := by
                  rw [pre_succ hn, satAdd_eq]; omega
                have CA := Lib.hid (add_any (min (pre xs i) 18446744073709551615) n (by omega) ln)
                rw [hadd] at CA
                have HL2 := Lib.hid hlt2
                clear hn hadd
                generalize min (pre xs i) 18446744073709551615 = Pi at *
                go_wp2_with fail
                refine (CA.out _).mono ?_; rintro e w' ⟨rfl, rfl⟩
                go_wp2
                go_round
                case rel => exact ⟨i + 1, by have := HL2.out; omega, rfl, by simp⟩
                case measure => have := HL2.out; simp [intOf]; omega
              · have hall := pre_all xs (k := i) (by omega)
                rw [hall]
                have y9 : decide (i < xs.length) = false := by simpa using hlt2
                clear hall hlt2
                have SM := Lib.hid (sum_minV xs)
                generalize sumV xs = sv at *
                generalize sumE xs = se at *
                generalize min xs.sum 18446744073709551615 = al at *
                rcases SM.out with ⟨r1, r2⟩ | ⟨r1, r2, r3⟩
                · subst r1 r2
                  clear SM
                  go_wp2_with fail
                  refine (awake01 _).mono ?_; rintro e w5 ⟨rfl, b5⟩
                  have B5 := Lib.hid b5
                  clear b5
                  go_wp2
                  go_ret
                  exact ⟨rfl, HB.out.trans (B5.out.mono HB.out.size)⟩
                · subst r1 r2 r3
                  clear SM
                  go_wp2_with fail
                  refine (awake01 _).mono ?_; rintro e w5 ⟨rfl, b5⟩
                  have B5 := Lib.hid b5
                  clear b5
                  go_wp2
                  go_ret
                  exact ⟨rfl, HB.out.trans (B5.out.mono HB.out.size)⟩
      · go_wp2_with fail
        go_loopw [6] (fun v6 wr => SwapRel w xs (.slice (some ⟨g, 0, none⟩) xs.length cp) tlen v6 wr) (fun v6 _ => 40 - (intOf v6).toNat)
        case atStart => exact ⟨0, xs, by omega, by omega, rfl, rfl, HR.out.2.1, rfl, HX.out, HB.out⟩
        case round =>
          obtain ⟨k, ys, hk1, hk2, hyl, hys, hyb, rfl, hown, hbel⟩ := hrel
          have HO := Lib.hid hown
          have HBR := Lib.hid hbel
          have HY := Lib.hid (And.intro hyl (And.intro hys hyb))
          clear hown hbel hyl hys hyb
          by_cases hlt : k < tlen ∧ k < 40 ∧ 0 < xs.length
          · obtain ⟨lt1, lt2, lt3⟩ := hlt
            obtain ⟨tl, twf, tz, tc⟩ := HT.out
            obtain ⟨b, off, rfl, hb, hcc⟩ := tc (by omega)
            have hck := (HBR.out.cell (p := ⟨b, off + k, none⟩) hb).trans (hcc k lt1)
            generalize ts.getD k 0 = tk at *
            obtain ⟨m, hm⟩ : ∃ m : Nat, IntKind.u64.wrap tk = m := ⟨(IntKind.u64.wrap tk).toNat, by rw [IntKind.wrap_u64]; omega⟩
            obtain ⟨kk, hkk⟩ : ∃ kk : Nat, m % xs.length = kk := ⟨_, rfl⟩
            obtain ⟨pp, hpp⟩ : ∃ pp : Nat, k % xs.length = pp := ⟨_, rfl⟩
            have lkk : kk < xs.length := hkk ▸ Nat.mod_lt _ lt3
            have lpp : pp < xs.length := hpp ▸ Nat.mod_lt _ lt3
            have hmm : (m : Int) % (xs.length : Int) = kk := by rw [← hkk]; simp
            have hmk : wrap64 (kk : Int) = kk := by unfold wrap64; omega
            have hpk : (k : Int) % (xs.length : Int) = pp := by rw [← hpp]; simp
            have hpt : (k : Int).tmod (xs.length : Int) = pp := by rw [Int.tmod_eq_emod_of_nonneg (by omega)]; exact hpk
            have hy := HY.out.1
            have cellat : ∀ j, j < xs.length → wr.cell? ⟨g, j, none⟩ = some (.int .u64 (ys.getD j 0 : Nat)) := fun j hj => by
              have h := HO.out.cells (g := g) rfl j (natv (ys.getD j 0)) (by rw [List.getElem?_map, List.getElem?_eq_getElem (by omega), List.getD_eq_getElem?_getD, List.getElem?_eq_getElem (by omega)]; rfl)
              rw [show ((⟨g, 0, none⟩ : Addr).add j) = ⟨g, j, none⟩ from by unfold Addr.add; split <;> simp_all] at h
              exact h
            have ck := cellat kk lkk
            have fk := own_free (j := kk) HO.out
            have fp := own_free (j := pp) HO.out
            have cp' := cellat pp lpp
            obtain ⟨yk, hyk⟩ : ∃ yk, ys.getD kk 0 = yk := ⟨_, rfl⟩
            obtain ⟨yp, hyp⟩ : ∃ yp, ys.getD pp 0 = yp := ⟨_, rfl⟩
            rw [hyk] at ck
            rw [hyp] at cp'
            have hgb := (HO.out.lt g rfl).1
            have O2 : Hid (((wr.setCell ⟨g, pp, none⟩ (.int .u64 (yk : Nat))).setCell ⟨g, kk, none⟩ (.int .u64 (yp : Nat))).ownsRow w.heap.size 22 1 (.slice (some ⟨g, 0, none⟩) xs.length cp) xs.length ((swap ys pp kk).map natv)) := by
              have h := own_set (j := kk) (own_set (j := pp) HO.out (natv yk)) (natv yp)
              unfold swap
              rw [hyk, hyp, List.map_set, List.map_set]
              exact Lib.hid h
            have B2 : Hid (Below w.heap.size w ((wr.setCell ⟨g, pp, none⟩ (.int .u64 (yk : Nat))).setCell ⟨g, kk, none⟩ (.int .u64 (yp : Nat)))) := Lib.hid ((HBR.out.setCell (p := ⟨g, pp, none⟩) hgb _).setCell (p := ⟨g, kk, none⟩) hgb _)
            have py : pp < ys.length := hy ▸ lpp
            have ky : kk < ys.length := hy ▸ lkk
            have SW := Lib.hid (And.intro ((swap_len ys pp kk).trans hy) (And.intro ((swap_sum ys pp kk py ky).trans HY.out.2.1) (swap_mem ys pp kk _ py ky HY.out.2.2)))
            clear py ky
            have HE : Hid (pp = kk → yk = yp) := Lib.hid (fun e => by rw [← hyk, ← hyp, e])
            clear hyk hyp hgb
            have F3 := Lib.hid (And.intro lt1 (And.intro lt2 lt3))
            have F4 := Lib.hid (And.intro ck (And.intro cp' (And.intro fk fp)))
            clear tc hcc twf tz tl cellat hkk hpp hy ck cp' fk fp
            have ck1 : ∃ q, (wr.setCell ⟨g, pp, none⟩ (.int .u64 (yk : Nat))).cell? ⟨g, kk, none⟩ = some q := by
              have h := own_set (j := pp) HO.out (natv yk)
              have h2 := h.cellAt kk (by rw [Nat.mul_one]; exact lkk)
              rw [List.getElem?_eq_getElem (by have := h.1; rw [Nat.mul_one] at this; rw [this]; exact lkk)] at h2
              exact ⟨_, h2⟩
            have fk1 := own_free (j := kk) (own_set (j := pp) HO.out (natv yk))
            have F5 := Lib.hid (And.intro ck1 fk1)
            clear ck1 fk1 HE
            generalize hX : xs.length = X at *
            have HXX := Lib.hid hX
            clear hX
            go_wp2_with fail
            clear hck hm hmm hmk hb htl hlen hl hl2 lt1 lt2 lt3
            obtain ⟨ck, cp', fk, fp⟩ := F4.out
            obtain ⟨⟨q, ck1⟩, fk1⟩ := F5.out
            go_region
            clear hpk hpt lkk lpp
            go_wp2
            go_roundw
            case rel =>
              have l1 := F3.out.1
              have l2 := F3.out.2.1
              have e := HXX.out
              subst e
              exact ⟨k + 1, swap ys pp kk, by omega, by omega, SW.out.1, SW.out.2.1, SW.out.2.2, by simp, O2.out, B2.out.drew⟩
            case measure => have l2 := F3.out.2.1; simp [intOf]; omega
          · have ROW : Hid (NatRow wr (some ad) xs) := Lib.hid (HR.out.below HBR.out)
            have CM := Lib.hid (sum_m (xs := xs) HO.out hlen HY.out.1 HY.out.2.1 HY.out.2.2)
            have hx2 : decide (k < tlen) = false ∨ (decide (k < tlen) = true ∧ decide ((k : Int) < 40) = false) ∨ (decide (k < tlen) = true ∧ decide ((k : Int) < 40) = true ∧ decide (0 < xs.length) = false) := by
              by_cases a1 : k < tlen
              · by_cases a2 : k < 40
                · exact .inr (.inr ⟨decide_eq_true a1, decide_eq_true (by omega), decide_eq_false fun h => hlt ⟨a1, a2, h⟩⟩)
                · exact .inr (.inl ⟨decide_eq_true a1, decide_eq_false (by omega)⟩)
              · exact .inl (decide_eq_false a1)
            clear hlt
            rcases hx2 with hx | ⟨hx, hx'⟩ | ⟨hx, hx', hx''⟩
            all_goals
              go_wp2_with fail
              refine (sum_any (some ad) xs cap _ ROW.out).mono ?_; rintro e w' ⟨rfl, rfl⟩
              go_wp2_with fail
              refine (CM.out).mono ?_; rintro e w' ⟨rfl, rfl⟩
              go_wp2_with fail
              go_loop [12, 13] (fun v12 v13 => AllRel xs v12 v13) (fun _ v13 => xs.length - (intOf v13).toNat)
              case atStart => exact ⟨0, by omega, by simp [pre_zero], rfl⟩
              case round =>
                obtain ⟨i, hi1, rfl, rfl⟩ := hrel
                by_cases hlt2 : i < xs.length
                · obtain ⟨b1, off1, n, hab, hb1, ln, _, hn, hc1⟩ := ROW.out.at_ (k := i) hlt2
                  cases hab
                  have hadd : satAdd (min (pre xs i) 18446744073709551615) n = min (pre xs (i + 1)) 18446744073709551615 := by
                    rw [pre_succ hn, satAdd_eq]; omega
                  have CA := Lib.hid (add_any (min (pre xs i) 18446744073709551615) n (by omega) ln)
                  rw [hadd] at CA
                  have HL2 := Lib.hid hlt2
                  clear hn hadd
                  generalize min (pre xs i) 18446744073709551615 = Pi at *
                  go_wp2_with fail
                  refine (CA.out _).mono ?_; rintro e w' ⟨rfl, rfl⟩
                  go_wp2
                  go_round
                  case rel => exact ⟨i + 1, by have := HL2.out; omega, rfl, by simp⟩
                  case measure => have := HL2.out; simp [intOf]; omega
                · have hall := pre_all xs (k := i) (by omega)
                  rw [hall]
                  have y9 : decide (i < xs.length) = false := by simpa using hlt2
                  clear hall hlt2
                  have SM := Lib.hid (sum_minV xs)
                  generalize sumV xs = sv at *
                  generalize sumE xs = se at *
                  generalize min xs.sum 18446744073709551615 = al at *
                  rcases SM.out with ⟨r1, r2⟩ | ⟨r1, r2, r3⟩
                  · subst r1 r2
                    clear SM
                    go_wp2_with fail
                    refine (awake01 _).mono ?_; rintro e w5 ⟨rfl, b5⟩
                    have B5 := Lib.hid b5
                    clear b5
                    go_wp2
                    go_ret
                    exact ⟨rfl, HBR.out.trans (B5.out.mono HBR.out.size)⟩
                  · subst r1 r2 r3
                    clear SM
                    go_wp2_with fail
                    refine (awake01 _).mono ?_; rintro e w5 ⟨rfl, b5⟩
                    have B5 := Lib.hid b5
                    clear b5
                    go_wp2
                    go_ret
                    exact ⟨rfl, HBR.out.trans (B5.out.mono HBR.out.size)⟩
end Go.Proofs.Ytgdbmjokpbjoaaa
