/- The walk of AuditApart. -/
import Derived.Test.YtojgpgjmcamfoaaLaw27
import Derived.Test.YtojgpgjmcamfoaaTri
import Derived.Test.YtojgpgjmcamfoaaLineP
namespace Go.Proofs.Ytojgpgjmcamfoaa
open Go.RowKit Go.Lib
set_option linter.unusedVariables false

def nx (st : (Int → Option Nat) × Bool) (s : Int) : Nat := (st.1 s).getD 0
def AllIn (ts : List Nat) : Prop := ∀ t ∈ ts, t < 18446744073709551616
def ApRel2 (w0 : World) (r len1 len2 : Nat) (v7 v8 v9 v11 v12 v13 : Value) (wr : World) : Prop :=
  ∃ (i now a0 a1 a2 a3 : Nat) (ls : List Sg) (ts rs : List Nat) (st : (Int → Option Nat) × Bool), i ≤ len1 ∧ i ≤ len2 ∧ i ≤ 40 ∧ now ≤ 2000000 * i ∧ ls.length = i ∧ ts.length = i ∧ rs.length = i ∧ ApLine ls ∧ AllIn ts ∧ AllIn rs ∧
    nSt ts ls rs i = st ∧ (nx st 0 = a0 ∧ nx st 1 = a1 ∧ nx st 2 = a2 ∧ nx st 3 = a3) ∧ v11 = .bool st.2 ∧ v12 = .int .u64 now ∧ v13 = .int .i64 i ∧
    Tri w0 (w0.heap.size + 1) wr v7 v8 v9 ls ts rs ∧ At wr w0.heap.size 59 #[.int .u64 a0, .int .u64 a1, .int .u64 a2, .int .u64 a3]
theorem allIn_snoc {ts : List Nat} {t : Nat} (h : AllIn ts) (ht : t < 18446744073709551616) : AllIn (ts ++ [t]) := by
  intro x hx
  simp only [List.mem_append, List.mem_singleton] at hx
  rcases hx with hx | rfl
  · exact h x hx
  · exact ht
theorem gap_letter (z : Int) (h : (Lit.int .u64 z).wf = true) : ∃ g q : Nat, z = g ∧ g < 18446744073709551616 ∧ q < 2000000 ∧ Hid ((g : Int) % 2000000 = q) := by
  obtain ⟨g, hg, hg2⟩ := u64_of h
  exact ⟨g, g % 2000000, hg, hg2, by omega, Lib.hid (by omega)⟩
theorem sock_letter (z : Int) : ∃ m k : Nat, k < 4 ∧ Hid (IntKind.u64.wrap z = m ∧ (m : Int) % 4 = k) := by
  have hm : IntKind.u64.wrap z = ((IntKind.u64.wrap z).toNat : Nat) := by rw [IntKind.wrap_u64]; omega
  exact ⟨(IntKind.u64.wrap z).toNat, (IntKind.u64.wrap z).toNat % 4, by omega, Lib.hid ⟨hm, by omega⟩⟩
theorem ten_letter (r : Nat) (h1 : 1000 ≤ r) (h2 : r < 1001000) : ∃ D : Nat, D ≤ 10000000 ∧ delayOf 10 r = D ∧ Hid ((10000000000 : Int) / (r : Int) = D ∧ (10000000000 : Int).tdiv (r : Int) = D) := by
  have hD : 10000000000 / r ≤ 10000000 := by
    have : 10000000000 / r ≤ 10000000000 / 1000 := Nat.div_le_div_left h1 (by omega)
    omega
  refine ⟨10000000000 / r, hD, ?_, Lib.hid ⟨by simp, by rw [Int.tdiv_eq_ediv_of_nonneg (by decide)]; simp⟩⟩
  unfold delayOf
  rw [if_neg (by omega), if_neg (by omega), mulDiv_min (by omega)]
  rw [show (10 : Int).toNat * 1000000000 = 10000000000 from by decide]
  generalize 10000000000 / r = D at *
  omega
theorem nx_step {st : (Int → Option Nat) × Bool} {k i t r D : Nat} (hd : delayOf 10 r = D) (ht : t + D < 18446744073709551616) (s : Int) :
    nx (nStep st ⟨k, 10 * i, 10, 0, false⟩ t r) s = if (k : Int) = s then t + D else nx st s := by
  unfold nx nStep
  simp only [hd]
  by_cases h : (k : Int) = s
  · rw [if_pos h, if_pos h]; simp only [Option.getD_some]; unfold satAdd; rw [if_pos ht]
  · rw [if_neg h, if_neg h]
theorem want_step {st : (Int → Option Nat) × Bool} {k i t r : Nat} : (nStep st ⟨k, 10 * i, 10, 0, false⟩ t r).2 = (st.2 && decide (nx st k ≤ t)) := by
  unfold nx nStep
  simp only
  cases st.1 k <;> simp

theorem sorted_n' {l : List Sg} {n : Nat} (hn : l.length = n) (a : Option Addr) (cap : Nat) (w : World) (hl : SegRow w a l) :
    Calls Try.prog 31 #[.slice a n cap] w fun e w' => e = .returned (.bool (sortedF l)) ∧ Below w.heap.size w w' := by subst hn; exact sorted_any a cap l w hl
theorem once_n' {l : List Sg} {n : Nat} (hn : l.length = n) (a : Option Addr) (cap : Nat) (w : World) (hl : SegRow w a l) (hc : n ≤ cap) :
    Calls Try.prog 29 #[.slice a n cap] w fun e w' => e = .returned (.bool (onceF l)) ∧ Below w.heap.size w w' := by subst hn; exact once_any a cap l w hl hc
theorem apart_n' {l : List Sg} {ts rs : List Nat} {n : Nat} (h1 : ts.length = n) (h2 : l.length = n) (h3 : rs.length = n) (a a2 a3 : Option Addr) (c1 c2 c3 : Nat) (w : World) (ha : NatRow w a ts) (hl : SegRow w a2 l) (hr : NatRow w a3 rs) :
    Calls Try.prog 33 #[.slice a n c1, .slice a2 n c2, .slice a3 n c3] w fun e w' => e = .returned (.bool (apartF ts l rs)) ∧ Below w.heap.size w w' := by
  have h := apart_any a a2 a3 c1 c2 c3 ts rs l w ha hl hr
  rw [h1, h2, h3] at h
  exact h
theorem ap_next {w0 wr : World} {r len1 len2 i now' I k D a0 a1 a2 a3 : Nat} {ls : List Sg} {ts rs : List Nat} {st : (Int → Option Nat) × Bool} {v7 v8 v9 v11 v13 : Value}
    (hi1 : i + 1 ≤ len1) (hi2 : i + 1 ≤ len2) (hi3 : i + 1 ≤ 40) (hn2 : now' ≤ 2000000 * (i + 1)) (HL : ls.length = i ∧ ts.length = i ∧ rs.length = i) (HP : ApLine ls ∧ AllIn ts ∧ AllIn rs) (HST : nSt ts ls rs i = st)
    (HAX : nx st 0 = a0 ∧ nx st 1 = a1 ∧ nx st 2 = a2 ∧ nx st 3 = a3) (lk : k < 4) (hI : 10 * i = I) (hr : r < 1001000) (hD : D ≤ 10000000) (hd : delayOf 10 r = D)
    (h11 : v11 = .bool (st.2 && decide (nx st k ≤ now'))) (h13 : v13 = .int .i64 ((i : Int) + 1))
    (hT : Tri w0 (w0.heap.size + 1) wr v7 v8 v9 (ls ++ [⟨k, I, 10, 0, false⟩]) (ts ++ [now']) (rs ++ [r]))
    (hA : At wr w0.heap.size 59 (#[.int .u64 a0, .int .u64 a1, .int .u64 a2, .int .u64 a3].setIfInBounds k (.int .u64 ((now' : Int) + D)))) :
    ApRel2 w0 r len1 len2 v7 v8 v9 v11 (.int .u64 now') v13 wr := by
  obtain ⟨l1, l2, l3⟩ := HL
  subst hI
  have hs := nx_step (st := st) (k := k) (i := i) (t := now') hd (by omega)
  refine ⟨i + 1, now', _, _, _, _, _, _, _, nStep st ⟨k, 10 * i, 10, 0, false⟩ now' r, hi1, hi2, hi3, hn2, by simp [l1], by simp [l2], by simp [l3], HP.1.snoc l1 lk, allIn_snoc HP.2.1 (by omega), allIn_snoc HP.2.2 (by omega), by rw [nSt_snoc l2 l1 l3, HST], ⟨hs 0, hs 1, hs 2, hs 3⟩, by rw [want_step]; exact h11, rfl, by rw [h13]; simp, hT, ?_⟩
  obtain ⟨x0, x1, x2, x3⟩ := HAX
  rw [x0, x1, x2, x3]
  rcases (show k = 0 ∨ k = 1 ∨ k = 2 ∨ k = 3 by omega) with rfl | rfl | rfl | rfl
  all_goals
    refine Eq.trans hA ?_
    simp

set_option maxRecDepth 8000 in
set_option maxHeartbeats 4000000 in
theorem apart27_core (a a2 : Option Addr) (len1 c1 len2 c2 : Nat) (f1 f2 : Nat → Int) (rt r : Nat) (hr : 1000 + rt % 1000000 = r) (w : World) (h1 : FunRow w a len1 .u64 f1) (hw1 : ∀ j, (Lit.int .u64 (f1 j)).wf = true) (h2 : FunRow w a2 len2 .i64 f2) :
    Calls Try.prog 10 #[.slice a len1 c1, .slice a2 len2 c2, .int .u64 rt] w fun e w' => e = .returned (.bool true) ∧ Below w.heap.size w w' := by
  have hlen1 := h1.1
  have hlen2 := h2.1
  have HF1 := Lib.hid h1
  have HF2 := Lib.hid h2
  have HW1 := Lib.hid hw1
  have r1 : 1000 ≤ r := by omega
  have r2 : r < 1001000 := by omega
  obtain ⟨D, hD1, hD2, HD⟩ := ten_letter r r1 r2
  have HD2 := Lib.hid hD2
  have R1 : (1000 : Int) + (rt : Int) % 1000000 = r := by omega
  clear h1 h2 hw1 hr hD2
  go_enter Try.func10, Try.ntmps10
  go_wp2_with fail
  clear R1
  go_loopw [7, 8, 9, 11, 12, 13] (fun v7 v8 v9 v11 v12 v13 wr => ApRel2 w r len1 len2 v7 v8 v9 v11 v12 v13 wr) (fun _ _ _ _ _ v13 _ => 40 - (intOf v13).toNat)
  case atStart => exact ⟨0, 0, 0, 0, 0, 0, [], [], [], (fun _ => none, true), by omega, by omega, by omega, by omega, rfl, rfl, rfl, fun j x h => by simp at h, fun t h => by simp at h, fun t h => by simp at h, rfl, ⟨rfl, rfl, rfl, rfl⟩, rfl, rfl, rfl, Tri.nil ((Below.refl _ _).alloc (Nat.le_refl _) _) (by omega) (by simp), At.made w _ _⟩
  case round =>
    obtain ⟨i, now, a0, a1, a2', a3, ls, ts, rs, st, hi1, hi2, hi3, hnow, hl1, hl2, hl3, hap, ht1, ht2, hst, hax, rfl, rfl, rfl, hT, hA⟩ := hrel
    have HT := Lib.hid hT
    have HA := Lib.hid hA
    have HL := Lib.hid (And.intro hl1 (And.intro hl2 hl3))
    have HP := Lib.hid (And.intro hap (And.intro ht1 ht2))
    have HST := Lib.hid hst
    have HAX := Lib.hid hax
    clear hT hA hl1 hl2 hl3 hap ht1 ht2 hst hax
    by_cases hlt : i < len1 ∧ i < len2 ∧ i < 40
    · obtain ⟨lt1, lt2, lt3⟩ := hlt
      obtain ⟨b, off, rfl, hb, g0⟩ := HF1.out.at_ HT.out.2.2.2.2.2.2.1 lt1
      obtain ⟨b', off', rfl, hb', g1⟩ := HF2.out.at_ HT.out.2.2.2.2.2.2.1 lt2
      obtain ⟨g, q, hg, hg2, lq, HQ⟩ := gap_letter (f1 i) (HW1.out i)
      rw [hg] at g0
      obtain ⟨m, k, lk, HM⟩ := sock_letter (f2 i)
      generalize f2 i = z at *
      obtain ⟨now', hn'⟩ : ∃ n', now + q = n' := ⟨_, rfl⟩
      have en : (now : Int) + q = now' := by omega
      have hn2 : now' ≤ 2000000 * (i + 1) := by omega
      obtain ⟨I, hI⟩ : ∃ I, 10 * i = I := ⟨_, rfl⟩
      have eI : (i : Int) * 10 = I := by omega
      have hI2 : I ≤ 400 := by omega
      have HI := Lib.hid hI
      have AT := Lib.hid (At.made wr 55 (segC ⟨k, I, 10, 0, false⟩))
      have e3 := HQ.out
      obtain ⟨e1, e2⟩ := HM.out
      clear hg hn' hI hnow hg2
      go_wp2_with (at_builtin; refine wpList_tri7 _ rfl _ _ w (w.heap.size + 1) _ _ _ ls ts rs rfl rfl (HT.out.alloc _) _ rfl ⟨k, I, 10, 0, false⟩ AT.out ?c1 ?_)
      case c1 => have := HL.out.1; omega
      intro g1' cp1 w3 hT3 hfar
      have T3 := Lib.hid hT3
      have A3 := Lib.hid (hfar _ _ _ (Nat.lt_succ_self _) (HA.out.kept (World.grownBy_alloc _ _ none) (by simp)))
      have AT2 := Lib.hid (At.made w3 22 #[.int .u64 now'])
      clear hT3 hfar g0 g1 e1 e2 e3 en eI
      go_wp2_with (at_builtin; refine wpList_tri8 _ rfl _ _ w (w.heap.size + 1) _ _ _ _ ts rs rfl rfl (T3.out.alloc _) _ rfl now' AT2.out ?d1 ?_)
      case d1 => have := HL.out.2.1; omega
      intro g2 cp2 w4 hT4 hfar
      have T4 := Lib.hid hT4
      have A4 := Lib.hid (hfar _ _ _ (Nat.lt_succ_self _) (A3.out.kept (World.grownBy_alloc _ _ none) (by simp)))
      have AT3 := Lib.hid (At.made w4 22 #[.int .u64 r])
      clear hT4 hfar
      go_wp2_with (at_builtin; refine wpList_tri9 _ rfl _ _ w (w.heap.size + 1) _ _ _ _ _ rs rfl rfl (T4.out.alloc _) _ rfl r AT3.out ?e1 ?_)
      case e1 => have := HL.out.2.2; omega
      intro g3 cp3 w5 hT5 hfar
      have T5 := Lib.hid hT5
      have A5 := Lib.hid (hfar _ _ _ (Nat.lt_succ_self _) (A4.out.kept (World.grownBy_alloc _ _ none) (by simp)))
      clear hT5 hfar
      obtain ⟨q1, q2⟩ := HD.out
      have k0 : w5.cell? ⟨w.heap.size, 0, none⟩ = some (.int .u64 a0) := A5.out.cell 0
      have k1 : w5.cell? ⟨w.heap.size, 1, none⟩ = some (.int .u64 a1) := A5.out.cell 1
      have k2 : w5.cell? ⟨w.heap.size, 2, none⟩ = some (.int .u64 a2') := A5.out.cell 2
      have k3 : w5.cell? ⟨w.heap.size, 3, none⟩ = some (.int .u64 a3) := A5.out.cell 3
      have hfr : ∀ j, w5.frozen? ⟨w.heap.size, j, none⟩ = false := fun j => A5.out.free j
      have hb0 := A5.out.lt
      have P5 : Hid (∀ (k : Nat) v, Put w5 (w5.setCell ⟨w.heap.size, k, none⟩ v) w.heap.size 59 (#[.int .u64 a0, .int .u64 a1, .int .u64 a2', .int .u64 a3].setIfInBounds k v)) := Lib.hid (fun k v => Put.set A5.out k)
      have FIN : Hid (∀ wq v11 v13 v7 v8 v9, v11 = .bool (st.2 && decide (nx st k ≤ now')) → v13 = .int .i64 ((i : Int) + 1) → Tri w (w.heap.size + 1) wq v7 v8 v9 (ls ++ [⟨k, I, 10, 0, false⟩]) (ts ++ [now']) (rs ++ [r]) →
          At wq w.heap.size 59 (#[.int .u64 a0, .int .u64 a1, .int .u64 a2', .int .u64 a3].setIfInBounds k (.int .u64 ((now' : Int) + D))) → ApRel2 w r len1 len2 v7 v8 v9 v11 (.int .u64 now') v13 wq) :=
        Lib.hid (fun wq v11 v13 v7 v8 v9 x1 x2 x3 x4 => ap_next (by omega) (by omega) (by omega) hn2 HL.out HP.out HST.out HAX.out lk HI.out r2 hD1 HD2.out x1 x2 x3 x4)
      obtain ⟨x0, x1, x2, x3⟩ := HAX.out
      obtain ⟨sf, sw⟩ := st
      have hnx : nx (sf, sw) k = (if k = 0 then a0 else if k = 1 then a1 else if k = 2 then a2' else a3) := by
        rcases (show k = 0 ∨ k = 1 ∨ k = 2 ∨ k = 3 by omega) with rfl | rfl | rfl | rfl
        · rw [if_pos rfl]; exact x0
        · rw [if_neg (by omega), if_pos rfl]; exact x1
        · rw [if_neg (by omega), if_neg (by omega), if_pos rfl]; exact x2
        · rw [if_neg (by omega), if_neg (by omega), if_neg (by omega)]; exact x3
      have HNX := Lib.hid hnx
      clear hnx x0 x1 x2 x3 HAX HST AT AT2 AT3 T3 T4 A3 A4
      cases sw
      · rcases (show k = 0 ∨ k = 1 ∨ k = 2 ∨ k = 3 by omega) with rfl | rfl | rfl | rfl
        all_goals
          go_wp2
          go_roundw
          case rel => exact FIN.out _ _ _ _ _ _ (by simp) rfl (T5.out.under (Nat.lt_succ_self _) (Nat.le_refl _) (P5.out _ _)) (P5.out _ _).1
          case measure => simp [intOf]; omega
      · rcases (show k = 0 ∨ k = 1 ∨ k = 2 ∨ k = 3 by omega) with rfl | rfl | rfl | rfl
        all_goals
          go_wp2
          go_roundw
          case rel => exact FIN.out _ _ _ _ _ _ (by rw [HNX.out]; simp) rfl (T5.out.under (Nat.lt_succ_self _) (Nat.le_refl _) (P5.out _ _)) (P5.out _ _).1
          case measure => simp [intOf]; omega
    · obtain ⟨T1, T2, T3, _, _, _, TB, _, _⟩ := HT.out
      obtain ⟨L7, L8, L9⟩ := HL.out
      obtain ⟨P1, P2, P3⟩ := HP.out
      obtain ⟨q7, p7, rfl, c7, R7⟩ := T1.row (by omega) (P1.ok (by omega))
      obtain ⟨q8, p8, rfl, c8, R8⟩ := T2.row (by omega) P2
      obtain ⟨q9, p9, rfl, c9, R9⟩ := T3.row (by omega) P3
      have S1 := Lib.hid (P1.sorted (by omega))
      have S2 := Lib.hid (P1.once (by omega))
      have S3 : Hid (apartF ts ls rs = st.2) := Lib.hid (by unfold apartF; rw [L7, L8, L9, HST.out]; simp)
      have HR7 := Lib.hid R7
      have HR8 := Lib.hid R8
      have HR9 := Lib.hid R9
      have HB := Lib.hid TB
      have HLL := Lib.hid (And.intro L7 (And.intro L8 L9))
      rw [L7] at c7
      have C7 := Lib.hid c7
      rw [L7, L8, L9]
      clear T1 T2 T3 TB L7 L8 L9 R7 R8 R9 HT c7 c8 c9 P1 P2 P3 HL HP hnow
      obtain ⟨sf, sw⟩ := st
      have hx : decide (i < len1) = false ∨ decide (i < len1) = true ∧ decide (i < len2) = false ∨ decide (i < len1) = true ∧ decide (i < len2) = true ∧ decide ((i : Int) < 40) = false := by simp; omega
      clear hlt hi1 hi2 hi3
      rcases hx with hx | ⟨hx, hx2⟩ | ⟨hx, hx2, hx3⟩
      all_goals
        go_wp2_with fail
        refine (awake27 _).mono ?_; rintro e w1 ⟨rfl, b1⟩
        have B1 := Lib.hid (HB.out.trans (b1.mono HB.out.size))
        have G1 := Lib.hid b1
        clear b1
        go_wp2_with fail
        refine (apart_n' HLL.out.2.1 HLL.out.1 HLL.out.2.2 _ _ _ _ _ _ _ (HR8.out.below' G1.out) (HR7.out.below G1.out) (HR9.out.below' G1.out)).mono ?_; rintro e w4 ⟨rfl, b4⟩
        have B4 := Lib.hid (B1.out.trans (b4.mono B1.out.size))
        have G4 := Lib.hid (G1.out.trans (b4.mono G1.out.size))
        clear b4
        rw [S3.out]
        go_wp2_with fail
        refine (sorted_n' HLL.out.1 _ _ _ (HR7.out.below G4.out)).mono ?_; rintro e w2 ⟨rfl, b2⟩
        have B2 := Lib.hid (B4.out.trans (b2.mono B4.out.size))
        have G2 := Lib.hid (G4.out.trans (b2.mono G4.out.size))
        clear b2
        rw [S1.out]
        go_wp2_with fail
        refine (once_n' HLL.out.1 _ _ _ (HR7.out.below G2.out) C7.out).mono ?_; rintro e w3 ⟨rfl, b3⟩
        have B3 := Lib.hid (B2.out.trans (b3.mono B2.out.size))
        clear b3
        rw [S2.out]
        go_wp2
        go_ret
        exact ⟨rfl, B3.out⟩
end Go.Proofs.Ytojgpgjmcamfoaa
