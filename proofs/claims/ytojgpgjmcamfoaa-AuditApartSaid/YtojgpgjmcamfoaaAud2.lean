/- The contracts of audit.Part and of its reference. -/
import Derived.Test.YtojgpgjmcamfoaaAud1
namespace Go.Proofs.Ytojgpgjmcamfoaa
open Go.RowKit Go.Lib
set_option linter.unusedVariables false

def PartRel (l of : List Sg) (b off cap : Nat) (w0 : World) (v0 v9 : Value) (wr : World) : Prop :=
  ∃ (i : Nat) (q : Option Addr), i ≤ of.length ∧ v9 = .int .i64 i ∧ v0 = .slice q (l.length - partK l 0 (of.take i)) (cap - partK l 0 (of.take i)) ∧ (partK l 0 (of.take i) < l.length → q = some ⟨b, off + partK l 0 (of.take i) * 5, none⟩) ∧ Below w0.heap.size w0 wr

theorem part_rel {l of : List Sg} {b off cap i K m n : Nat} {q : Option Addr} {w0 wr : World} (hi : i + 1 ≤ of.length) (e : partK l 0 (of.take (i + 1)) = K) (hm : l.length - K = m) (hn : cap - K = n)
    (hq : K < l.length → q = some ⟨b, off + K * 5, none⟩) (hB : Below w0.heap.size w0 wr) : PartRel l of b off cap w0 (.slice q m n) (.int .i64 ((i : Int) + 1)) wr := by
  subst e hm hn
  exact ⟨i + 1, q, hi, by simp, rfl, hq, hB⟩

set_option maxHeartbeats 4000000 in
theorem part_any (a a' : Option Addr) (cap cap' : Nat) (l of : List Sg) (w : World) (hl : SegRow w a l) (hof : SegRow w a' of) (hcap : l.length ≤ cap) :
    Calls Try.prog 27 #[.slice a l.length cap, .slice a' of.length cap'] w fun e w' => e = .returned (.bool (partF l of)) ∧ Below w.heap.size w w' := by
  have HF := Lib.hid (show partF l of = decide (partK l 0 of = l.length) from rfl)
  have b1 := hl.1
  have b2 := hof.1
  have HL := Lib.hid hl
  have HO := Lib.hid hof
  obtain ⟨b, off, hq⟩ : ∃ b off, 0 < l.length → a = some ⟨b, off, none⟩ := by
    rcases Nat.eq_zero_or_pos l.length with h | h
    · exact ⟨0, 0, fun h' => by omega⟩
    · obtain ⟨b, off, ha, _⟩ := hl.2.2 h
      exact ⟨b, off, fun _ => ha⟩
  have HQ := Lib.hid hq
  clear hl hof hq
  generalize partF l of = R at *
  go_enter Try.func27, Try.ntmps27
  go_wp2
  go_loopw [0, 9] (fun v0 v9 wr => PartRel l of b off cap w v0 v9 wr) (fun _ v9 _ => of.length - (intOf v9).toNat)
  case atStart => exact ⟨0, a, by omega, rfl, rfl, fun h => HQ.out h, Below.refl _ _⟩
  case round =>
    obtain ⟨i, q, hi1, rfl, rfl, hq, hB⟩ := hrel
    have HB := Lib.hid hB
    have hk := partK_le l (of.take i) 0 (by omega)
    by_cases hlt : i < of.length
    · obtain ⟨b2, off2, s, rfl, hb2, hs, _, c0, c1, c2, c3, c4⟩ := (HO.out.below hB).at_ hlt
      have hst := partK_take (l := l) hs
      obtain ⟨K, hK⟩ : ∃ K, partK l 0 (of.take i) = K := ⟨_, rfl⟩
      rw [hK] at hst hq hk ⊢
      have HS := Lib.hid hs
      have HST := Lib.hid hst
      have hlt' := hlt
      clear hs hst hK hB
      have LR := Lib.hid (HL.out.below HB.out)
      obtain ⟨m, hm⟩ : ∃ m, l.length - K = m := ⟨_, rfl⟩
      obtain ⟨n, hn⟩ : ∃ n, cap - K = n := ⟨_, rfl⟩
      rw [hm, hn]
      by_cases hkl : K < l.length
      · obtain rfl := hq hkl
        obtain ⟨b', off', x, ha, hb, hx, _, d0, d1, d2, d3, d4⟩ := LR.out.at_ hkl
        have e := (HQ.out (by omega)).symm.trans ha
        cases e
        have heq := seg_eql x s
        have m0 : (0 : Int) < m := by omega
        have m0' : 0 < m := by omega
        have m1 : 1 ≤ m := by omega
        have mn : m ≤ n := by omega
        have HM := Lib.hid (And.intro hm (And.intro hn (And.intro hk hkl)))
        have HX := Lib.hid hx
        clear hm hn hk hkl hq hx
        by_cases hxs : x = s
        · rw [decide_eq_true hxs] at heq
          have HXS := Lib.hid hxs
          clear hxs
          rcases Nat.lt_or_ge 1 n with h1n | h1n
          all_goals
            go_wp2_with fail
            go_quiet (fail)
            go_wp2
            go_roundw
            case rel =>
              have e := HST.out
              rw [HX.out, HXS.out, if_pos rfl] at e
              obtain ⟨hm, hn, hk, hkl⟩ := HM.out
              exact part_rel (by omega) e (by omega) (by omega) (fun h => by first | rfl | (congr 2; omega) | omega) (below_drewN (HB.out.alloc HB.out.size _) _)
            case measure => simp [intOf]; omega
        · rw [decide_eq_false hxs] at heq
          have HXS := Lib.hid hxs
          clear hxs
          go_wp2_with fail
          go_quiet (fail)
          go_wp2
          go_roundw
          case rel =>
            have e := HST.out
            rw [HX.out, if_neg (by simpa using HXS.out)] at e
            obtain ⟨hm, hn, hk, hkl⟩ := HM.out
            exact part_rel (by omega) e (by omega) (by omega) (fun h => rfl) (below_drewN (HB.out.alloc HB.out.size _) _)
          case measure => simp [intOf]; omega
      · have m0 : m = 0 := by omega
        have HM := Lib.hid (And.intro hm (And.intro hn (And.intro hk hkl)))
        subst m0
        clear hm hn hk hkl hq
        go_wp2_with fail
        go_quiet (fail)
        go_wp2
        go_roundw
        case rel =>
          have e := HST.out
          obtain ⟨hm, hn, hk, hkl⟩ := HM.out
          rw [List.getElem?_eq_none (by omega), if_neg (by simp)] at e
          exact part_rel (by omega) e (by omega) (by omega) (fun h => by omega) (below_drewN (HB.out.alloc HB.out.size _) _)
        case measure => simp [intOf]; omega
    · have hi : i = of.length := by omega
      subst hi
      rw [List.take_length] at hk ⊢
      have hF := HF.out
      clear hq hB hlt
      by_cases hkl : l.length - partK l 0 of = 0
      · rw [hkl]
        rw [decide_eq_true (by omega)] at hF
        subst hF
        clear hk hkl
        go_wp2
        go_ret
        exact ⟨rfl, HB.out⟩
      · obtain ⟨m, hm⟩ : ∃ m, l.length - partK l 0 of = m := ⟨_, rfl⟩
        rw [hm] at hkl ⊢
        rw [decide_eq_false (by omega)] at hF
        subst hF
        have y : ((m : Int) == 0) = false := by rw [beq_eq_false_iff_ne]; omega
        clear hk hkl hm
        go_wp2
        go_ret
        exact ⟨rfl, HB.out⟩

def RPartRel (l of : List Sg) (w0 : World) (v5 v6 : Value) (wr : World) : Prop :=
  ∃ i K : Nat, i ≤ of.length ∧ partK l 0 (of.take i) = K ∧ K ≤ l.length ∧ v6 = .int .i64 i ∧ v5 = .int .i64 K ∧ Below w0.heap.size w0 wr

set_option maxHeartbeats 4000000 in
theorem rpart_any (a a' : Option Addr) (cap cap' : Nat) (l of : List Sg) (w : World) (hl : SegRow w a l) (hof : SegRow w a' of) :
    Calls Try.prog 28 #[.slice a l.length cap, .slice a' of.length cap'] w fun e w' => e = .returned (.bool (partF l of)) ∧ Below w.heap.size w w' := by
  have HF := Lib.hid (show partF l of = decide (partK l 0 of = l.length) from rfl)
  have b1 := hl.1
  have b2 := hof.1
  have HL := Lib.hid hl
  have HO := Lib.hid hof
  clear hl hof
  generalize partF l of = R at *
  go_enter Try.func28, Try.ntmps28
  go_wp2
  go_loopw [5, 6] (fun v5 v6 wr => RPartRel l of w v5 v6 wr) (fun _ v6 _ => of.length - (intOf v6).toNat)
  case atStart => exact ⟨0, 0, by omega, rfl, by omega, rfl, rfl, Below.refl _ _⟩
  case round =>
    obtain ⟨i, K, hi1, hK, hk, rfl, rfl, hB⟩ := hrel
    have HB := Lib.hid hB
    by_cases hlt : i < of.length ∧ K < l.length
    · obtain ⟨lt1, lt2⟩ := hlt
      obtain ⟨b, off, s, rfl, hb2, hs, _, c0, c1, c2, c3, c4⟩ := (HO.out.below hB).at_ lt1
      obtain ⟨b', off', x, rfl, hb', hx, _, d0, d1, d2, d3, d4⟩ := (HL.out.below hB).at_ lt2
      have HST := Lib.hid (partK_take (l := l) hs)
      have HK := Lib.hid hK
      have HX := Lib.hid hx
      have heq := seg_eql s x
      clear hs hK hx hB
      by_cases hxs : s = x
      · rw [decide_eq_true hxs] at heq
        have HXS := Lib.hid hxs
        clear hxs
        go_wp2_with fail
        go_quiet (fail)
        go_wp2
        go_roundw
        case rel =>
          have e := HST.out
          rw [HK.out, HX.out, HXS.out, if_pos rfl] at e
          exact ⟨i + 1, K + 1, by omega, e, by omega, by simp, by simp, below_drewN HB.out _⟩
        case measure => simp [intOf]; omega
      · rw [decide_eq_false hxs] at heq
        have HXS := Lib.hid hxs
        clear hxs
        go_wp2_with fail
        go_quiet (fail)
        go_wp2
        go_roundw
        case rel =>
          have e := HST.out
          rw [HK.out, HX.out, if_neg (by simpa using fun h => HXS.out h.symm)] at e
          exact ⟨i + 1, K, by omega, e, by omega, by simp, by simp, below_drewN HB.out _⟩
        case measure => simp [intOf]; omega
    · have hx : i = of.length ∧ decide ((i : Int) < of.length) = false ∨ i < of.length ∧ K = l.length ∧ decide ((K : Int) < l.length) = false := by simp; omega
      have hF := HF.out
      have HK := Lib.hid hK
      clear hB hlt hK
      rcases hx with ⟨rfl, hx⟩ | ⟨lt1, rfl, hx⟩
      · have h2 := HK.out
        rw [List.take_length] at h2
        rw [h2] at hF
        have y : ((K : Int) == l.length) = R := by rw [hF, Bool.eq_iff_iff]; simp; omega
        clear hF h2 hk
        go_wp2
        go_ret
        exact ⟨rfl, HB.out⟩
      · have h2 := partK_full l (of.take i) (of.drop i) HK.out
        rw [List.take_append_drop] at h2
        rw [h2, decide_eq_true rfl] at hF
        subst hF
        clear h2 hk
        go_wp2
        go_ret
        exact ⟨rfl, HB.out⟩
end Go.Proofs.Ytojgpgjmcamfoaa
