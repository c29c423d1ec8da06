/- The walk of AuditLine. -/
import Derived.Test.YtojgpgjmcamfoaaLaw27
import Derived.Test.YtojgpgjmcamfoaaTri
import Derived.Test.YtojgpgjmcamfoaaLineP
namespace Go.Proofs.Ytojgpgjmcamfoaa
open Go.RowKit Go.Lib
set_option linter.unusedVariables false

def sizF (f : Nat → Int) (j : Nat) : Nat := 1 + (IntKind.u64.wrap (f j)).toNat % 5000
theorem sizF_ok (f : Nat → Int) : NB (sizF f) := fun j => by unfold sizF; omega
def LnRel (w0 : World) (n : Nat → Nat) (r len : Nat) (v7 v8 v9 v10 v11 v12 : Value) (wr : World) : Prop :=
  ∃ i : Nat, i ≤ len ∧ i ≤ 30 ∧ v12 = .int .i64 i ∧ v10 = .int .u64 (frL n i : Nat) ∧ v11 = .int .u64 (tmL n r i : Nat) ∧ Tri w0 w0.heap.size wr v7 v8 v9 (lineL n i) (timeL n r i) (rateL r i)
theorem siz_letter (f : Nat → Int) (i : Nat) : ∃ m r5 : Nat, r5 < 5000 ∧ sizF f i = 1 + r5 ∧ Hid (IntKind.u64.wrap (f i) = m ∧ (m : Int) % 5000 = r5) := by
  have hm : IntKind.u64.wrap (f i) = ((IntKind.u64.wrap (f i)).toNat : Nat) := by rw [IntKind.wrap_u64]; omega
  exact ⟨(IntKind.u64.wrap (f i)).toNat, (IntKind.u64.wrap (f i)).toNat % 5000, by omega, rfl, Lib.hid ⟨hm, by omega⟩⟩
theorem wrap64_low (p : Nat) (h : p ≤ 5000) : wrap64 (p : Int) = p := by unfold wrap64; omega
theorem wrapu_low (p : Nat) (h : p ≤ 5000) : IntKind.u64.wrap (p : Int) = p := by rw [IntKind.wrap_u64]; omega
theorem quo_letter (m r : Nat) : ∃ q : Nat, m / r = q ∧ Hid ((m : Int) / (r : Int) = q ∧ (m : Int).tdiv (r : Int) = q) :=
  ⟨m / r, rfl, Lib.hid ⟨by simp, by rw [Int.tdiv_eq_ediv_of_nonneg (Int.natCast_nonneg _)]; simp⟩⟩

theorem sorted_n {l : List Sg} {n : Nat} (hn : l.length = n) (a : Option Addr) (cap : Nat) (w : World) (hl : SegRow w a l) :
    Calls Try.prog 31 #[.slice a n cap] w fun e w' => e = .returned (.bool (sortedF l)) ∧ Below w.heap.size w w' := by subst hn; exact sorted_any a cap l w hl
theorem once_n {l : List Sg} {n : Nat} (hn : l.length = n) (a : Option Addr) (cap : Nat) (w : World) (hl : SegRow w a l) (hc : n ≤ cap) :
    Calls Try.prog 29 #[.slice a n cap] w fun e w' => e = .returned (.bool (onceF l)) ∧ Below w.heap.size w w' := by subst hn; exact once_any a cap l w hl hc
theorem apart_n {l : List Sg} {ts rs : List Nat} {n : Nat} (h1 : ts.length = n) (h2 : l.length = n) (h3 : rs.length = n) (a a2 a3 : Option Addr) (c1 c2 c3 : Nat) (w : World) (ha : NatRow w a ts) (hl : SegRow w a2 l) (hr : NatRow w a3 rs) :
    Calls Try.prog 33 #[.slice a n c1, .slice a2 n c2, .slice a3 n c3] w fun e w' => e = .returned (.bool (apartF ts l rs)) ∧ Below w.heap.size w w' := by
  have h := apart_any a a2 a3 c1 c2 c3 ts rs l w ha hl hr
  rw [h1, h2, h3] at h
  exact h
theorem apart_short (n1 n2 n3 c1 c2 c3 : Nat) (a a2 a3 : Option Addr) (hn : n1 ≠ n2) (w : World) :
    Calls Try.prog 33 #[.slice a n1 c1, .slice a2 n2 c2, .slice a3 n3 c3] w fun e w' => e = .returned (.bool false) ∧ w = w' := by
  have hx : ((n1 : Int) != n2) = true := by simp; omega
  clear hn
  go_enter Try.func33, Try.ntmps33
  go_wp2
  go_ret
  exact ⟨rfl, rfl⟩

set_option maxRecDepth 8000 in
set_option maxHeartbeats 4000000 in
theorem line27_core (a : Option Addr) (len c : Nat) (f : Nat → Int) (k0 : Int) (rt r : Nat) (hr : 1000000 + rt % 1000000 = r) (w : World) (hf : FunRow w a len .i64 f) :
    Calls Try.prog 9 #[.slice a len c, .int .i64 k0, .int .u64 rt] w fun e w' => e = .returned (.bool true) ∧ Below w.heap.size w w' := by
  have hlen := hf.1
  have HFR := Lib.hid hf
  have HN := Lib.hid (sizF_ok f)
  have hRB : RB r := by unfold RB; omega
  have HRB := Lib.hid hRB
  have a1 : (1000000 : Int) + (rt : Int) % 1000000 = r := by omega
  have r1 : 1000000 ≤ r := by omega
  have r2 : r < 2000000 := by omega
  clear hf hr hRB
  go_enter Try.func9, Try.ntmps9
  go_wp2_with fail
  clear a1
  go_loopw [7, 8, 9, 10, 11, 12] (fun v7 v8 v9 v10 v11 v12 wr => LnRel w (sizF f) r len v7 v8 v9 v10 v11 v12 wr) (fun _ _ _ _ _ v12 _ => 30 - (intOf v12).toNat)
  case atStart => exact ⟨0, by omega, by omega, rfl, rfl, rfl, Tri.nil (Below.refl _ _) (Nat.le_refl _) (Nat.le_refl _)⟩
  case round =>
    obtain ⟨i, hi1, hi2, rfl, rfl, rfl, hT⟩ := hrel
    have HT := Lib.hid hT
    clear hT
    by_cases hlt : i < len ∧ i < 30
    · obtain ⟨lt1, lt2⟩ := hlt
      obtain ⟨b, off, rfl, hb, c0⟩ := HFR.out.at_ HT.out.2.2.2.2.2.2.1 lt1
      obtain ⟨m, r5, lr5, hn, HM⟩ := siz_letter f i
      have HL : Hid (lineL (sizF f) (i + 1) = lineL (sizF f) i ++ [⟨2, frL (sizF f) i, (1 + r5 : Nat), 0, false⟩]) := Lib.hid (by rw [lineL, segL, hn])
      have HTL : Hid (timeL (sizF f) r (i + 1) = timeL (sizF f) r i ++ [tmL (sizF f) r i]) := Lib.hid rfl
      have HRL : Hid (rateL r (i + 1) = rateL r i ++ [r]) := Lib.hid rfl
      have hF := frL_le HN.out i
      have hTm := (tmL_bound HN.out r HRB.out i).2
      have hD := (trip_bound HN.out r HRB.out i).2
      rw [hn] at hD
      obtain ⟨D, hD1, HD⟩ := quo_letter ((1 + r5) * 1000000000) r
      rw [hD1] at hD
      have HF2 : Hid (frL (sizF f) (i + 1) = frL (sizF f) i + (1 + r5)) := Lib.hid (by rw [frL, hn])
      have HT2 : Hid (tmL (sizF f) r (i + 1) = tmL (sizF f) r i + D) := Lib.hid (by rw [tmL, hn, hD1])
      have LL := Lib.hid (lineL_len (sizF f) i)
      have LT := Lib.hid (timeL_len (sizF f) r i)
      have LR := Lib.hid (rateL_len r i)
      generalize frL (sizF f) i = F at *
      generalize tmL (sizF f) r i = T at *
      generalize lineL (sizF f) i = ls at *
      generalize timeL (sizF f) r i = ts at *
      generalize rateL r i = rs at *
      obtain ⟨n, hn1⟩ : ∃ n, 1 + r5 = n := ⟨_, rfl⟩
      rw [hn1] at HL HD HF2
      generalize f i = z at *
      have n1 : n ≤ 5000 := by omega
      have n2 : 1 ≤ n := by omega
      have p2 : (1 : Int) + r5 = n := by omega
      have P3 := Lib.hid (wrapu_low n (Nat.le_trans n1 (by decide)))
      have p4 : (n : Int) * 1000000000 = ((n * 1000000000 : Nat) : Int) := by simp
      obtain ⟨M, hM⟩ : ∃ M, n * 1000000000 = M := ⟨_, rfl⟩
      rw [hM] at p4 HD
      have P4 := Lib.hid p4
      clear p4
      have AT := Lib.hid (At.made wr 55 (segC ⟨2, F, n, 0, false⟩))
      clear hn hD1 hn1 hM
      obtain ⟨hm, hr5⟩ := HM.out
      go_wp2_with (at_builtin; refine wpList_tri7 _ rfl _ _ w w.heap.size _ _ _ ls ts rs rfl rfl (HT.out.alloc _) _ rfl ⟨2, F, n, 0, false⟩ AT.out ?c1 ?_)
      case c1 => have := LL.out; omega
      intro g1 cp1 w3 hT3 hfar
      clear hfar
      have T3 := Lib.hid hT3
      clear hT3 hm hr5 c0 p2
      have AT2 := Lib.hid (At.made w3 22 #[.int .u64 T])
      go_wp2_with (at_builtin; refine wpList_tri8 _ rfl _ _ w w.heap.size _ _ _ _ ts rs rfl rfl (T3.out.alloc _) _ rfl T AT2.out ?d1 ?_)
      case d1 => have := LT.out; omega
      intro g2 cp2 w4 hT4 hfar
      clear hfar
      have T4 := Lib.hid hT4
      have AT3 := Lib.hid (At.made w4 22 #[.int .u64 r])
      clear hT4
      go_wp2_with (at_builtin; refine wpList_tri9 _ rfl _ _ w w.heap.size _ _ _ _ _ rs rfl rfl (T4.out.alloc _) _ rfl r AT3.out ?e1 ?_)
      case e1 => have := LR.out; omega
      intro g3 cp3 w5 hT5 hfar
      clear hfar
      have T5 := Lib.hid hT5
      clear hT5
      have p3 := P3.out
      have p4 := P4.out
      obtain ⟨q1, q2⟩ := HD.out
      go_wp2
      go_roundw
      case rel => exact ⟨i + 1, by omega, by omega, by simp, by rw [HF2.out]; first | rfl | simp, by rw [HT2.out]; first | rfl | simp, by rw [HL.out, HTL.out, HRL.out]; exact T5.out⟩
      case measure => simp [intOf]; omega
    · have hN := HN.out
      have hRB := HRB.out
      have hT := HT.out
      obtain ⟨T1, T2, T3, _, _, _, TB, _, _⟩ := hT
      have L7 := lineL_len (sizF f) i
      have L8 := timeL_len (sizF f) r i
      have L9 := rateL_len r i
      obtain ⟨q7, p7, rfl, c7, R7⟩ := T1.row (by omega) (lineL_ok hN i hi2)
      obtain ⟨q8, p8, rfl, c8, R8⟩ := T2.row (by omega) (fun x hx => by
        obtain ⟨j, hj⟩ := List.mem_iff_getElem?.1 hx
        have hl : j < i := by have := (List.getElem?_eq_some_iff.1 hj).1; rwa [L8] at this
        rw [timeL_at _ r i j hl] at hj
        cases hj
        have := (tmL_bound hN r hRB j).2
        omega)
      obtain ⟨q9, p9, rfl, c9, R9⟩ := T3.row (by omega) (fun x hx => by rw [rateL_mem r i x hx]; omega)
      have s1 := (line_sorted hN i hi2).1
      have s2 := line_once hN i hi2
      have s3 := line_apartF hN r hRB i hi2
      have E1 : Hid (∀ k, 1 ≤ k → k < i → (lineL (sizF f) i)[k]? = some (segL (sizF f) k) ∧ (timeL (sizF f) r i)[k]? = some (tmL (sizF f) r k) ∧ 1 ≤ frL (sizF f) k ∧ frL (sizF f) k ≤ 150000 ∧ 1 ≤ tmL (sizF f) r k ∧ tmL (sizF f) r k ≤ 150000000 ∧
        sortedF ((lineL (sizF f) i).set k (early (segL (sizF f) k))) = false ∧ onceF ((lineL (sizF f) i).set k (early (segL (sizF f) k))) = false ∧ apartF ((timeL (sizF f) r i).set k (tmL (sizF f) r k - 1)) (lineL (sizF f) i) (rateL r i) = false ∧ (early (segL (sizF f) k)).ok) :=
        Lib.hid (fun k k1 k2 => by
          have g1 := frL_ge hN k
          have g2 := frL_le hN k
          have g3 := tmL_bound hN r hRB k
          have g4 := segL_ok hN k (by omega)
          refine ⟨lineL_at _ i k k2, timeL_at _ r i k k2, by omega, by omega, by omega, by omega, early_sorted hN i k hi2 k1 k2, early_once hN i k hi2 k1 k2, soon_apart hN r hRB i k hi2 k1 k2, ⟨g4.1, ?_, g4.2.2.1, g4.2.2.2⟩⟩
          have := g4.2.1
          simp only [early]; omega)
      have OK7 := Lib.hid (lineL_ok hN i hi2)
      have OK8 := Lib.hid R8.2.1
      rw [L7] at c7
      have S1 := Lib.hid s1
      have S2 := Lib.hid s2
      have S3 := Lib.hid s3
      have HR7 := Lib.hid R7
      have HR8 := Lib.hid R8
      have HR9 := Lib.hid R9
      have HB := Lib.hid TB
      have HLL := Lib.hid (And.intro L7 (And.intro L8 L9))
      have HSD : Hid ((sSt (lineL (sizF f) i)).2 = sortedF (lineL (sizF f) i)) := Lib.hid rfl
      have C7 := Lib.hid c7
      rw [L8] at c8
      have C8 := Lib.hid c8
      rw [L7, L8, L9]
      clear s1 s2 s3 T1 T2 T3 TB L7 L8 L9 R7 R8 R9 hN hRB HT c7 c8 c9
      generalize frL (sizF f) i = F at *
      generalize tmL (sizF f) r i = T at *
      have hx : decide (i < len) = false ∨ decide (i < len) = true ∧ decide ((i : Int) < 30) = false := by simp; omega
      clear hlt
      have HI := Lib.hid (And.intro hi1 hi2)
      clear hi1 hlen
      rcases hx with hx | ⟨hx, hx2⟩
      all_goals
        go_wp2_with fail
        refine (awake27 _).mono ?_; rintro e w1 ⟨rfl, b1⟩
        have B1 := Lib.hid (HB.out.trans (b1.mono HB.out.size))
        have G1 := Lib.hid b1
        clear b1
        go_wp2_with fail
        refine (sorted_n HLL.out.1 _ _ _ (HR7.out.below G1.out)).mono ?_; rintro e w2 ⟨rfl, b2⟩
        have B2 := Lib.hid (B1.out.trans (b2.mono B1.out.size))
        have G2 := Lib.hid (G1.out.trans (b2.mono G1.out.size))
        clear b2
        rw [← HSD.out, S1.out]
        go_wp2_with fail
        refine (once_n HLL.out.1 _ _ _ (HR7.out.below G2.out) C7.out).mono ?_; rintro e w3 ⟨rfl, b3⟩
        have B3 := Lib.hid (B2.out.trans (b3.mono B2.out.size))
        have G3 := Lib.hid (G2.out.trans (b3.mono G2.out.size))
        clear b3
        rw [S2.out]
        go_wp2_with fail
        refine (apart_n HLL.out.2.1 HLL.out.1 HLL.out.2.2 _ _ _ _ _ _ _ (HR8.out.below' G3.out) (HR7.out.below G3.out) (HR9.out.below' G3.out)).mono ?_; rintro e w4 ⟨rfl, b4⟩
        have B4 := Lib.hid (B3.out.trans (b4.mono B3.out.size))
        have G4 := Lib.hid (G3.out.trans (b4.mono G3.out.size))
        clear b4
        rw [S3.out]
        by_cases h2 : (i : Int) < 2
        · go_wp2
          go_ret
          exact ⟨rfl, B4.out⟩
        · obtain ⟨J, hJ⟩ : ∃ J, i = J + 1 := ⟨i - 1, by omega⟩
          have hJ1 : 1 ≤ J := by omega
          have hJ2 : J ≤ 5000 := by omega
          have eJ : (i : Int) - 1 = J := by omega
          obtain ⟨m, p, lp, HM⟩ := mod_letter' k0 J (by omega)
          obtain ⟨k, hk⟩ : ∃ k, 1 + p = k := ⟨_, rfl⟩
          have ek : (1 : Int) + p = k := by omega
          have k1 : 1 ≤ k := by omega
          have k2 : k < i := by omega
          have q0 := small_wrap64' p (by omega)
          have q1 := small_wrapu' J hJ2
          have q3 := small_wrap64' J hJ2
          have q4 := small_wrap64' k (by omega)
          have q2 := pos_ne0' J (by omega)
          obtain ⟨ex, et, f1, f2, t1, t2, z1, z2, z3, z4⟩ := E1.out k k1 k2
          have HE := Lib.hid (And.intro ex (And.intro et (And.intro z1 (And.intro z2 (And.intro z3 z4)))))
          have HFT := Lib.hid (And.intro f1 (And.intro f2 (And.intro t1 t2)))
          have HK := Lib.hid (And.intro k1 (And.intro k2 (And.intro hJ hJ1)))
          obtain ⟨b7, o7, rfl⟩ : ∃ b off, q7 = some ⟨b, off, none⟩ := by
            obtain ⟨b, off, ha, _⟩ := HR7.out.2.2 (by rw [HLL.out.1]; omega)
            exact ⟨b, off, ha⟩
          obtain ⟨b8, o8, rfl⟩ : ∃ b off, q8 = some ⟨b, off, none⟩ := by
            obtain ⟨b, off, ha, _⟩ := HR8.out.2.2 (by rw [HLL.out.2.1]; omega)
            exact ⟨b, off, ha⟩
          have hi0 := Lib.hid (show 0 < i by omega)
          have HI2 := Lib.hid hi2
          have h2' : decide ((i : Int) < 2) = false := by simpa using h2
          have hJ0 : ¬ (J : Int) = 0 := by omega
          obtain ⟨hm1, hm2, hm3⟩ := HM.out
          clear ex et z1 z2 z3 z4 f1 f2 t1 t2 hk k1 k2 hJ hJ1 hJ2 lp h2 hi2 r1 r2 hx
          go_wp2_with (at_builtin; refine wpList_copy_segs _ rfl _ _ rfl w.heap.size rfl _ i HLL.out.1 ⟨b7, o7, none⟩ p7 rfl (HR7.out.below G4.out) hi0.out ?e1 B4.out.size ?_)
          case e1 => have := HI2.out; omega
          intro cp6 w6 hS6 hb6 hl6
          clear hm1 hm2 hm3 q0 q1 q2 q3 q4 eJ ek hJ0 h2'
          obtain ⟨g, hg⟩ : ∃ g, w4.heap.size = g := ⟨_, rfl⟩
          have hgw : w.heap.size ≤ g := by rw [← hg]; exact B4.out.size
          have hgr : wr.heap.size ≤ g := by rw [← hg]; exact G4.out.size
          obtain ⟨q6, c6, e6, hc6, R6⟩ := hS6.row (by rw [HLL.out.1]; have := HI2.out; omega) OK7.out
          obtain ⟨_, _, eq6, _, hcc⟩ := R6.2.2 (by rw [HLL.out.1]; exact hi0.out)
          rw [HLL.out.1] at e6 hc6
          simp only [Value.slice.injEq, true_and] at e6
          obtain ⟨e6a, e6b⟩ := e6
          rw [← e6a] at eq6
          simp only [Option.some.injEq, Addr.mk.injEq, and_true] at eq6
          obtain ⟨eqb, eqo⟩ := eq6
          have hcell := (hcc k _ HE.out.1).2.1
          rw [← eqb, ← eqo, Nat.zero_add, hg] at hcell
          obtain ⟨F1, hF1⟩ : ∃ F1, frL (sizF f) k = F1 + 1 := ⟨frL (sizF f) k - 1, by have := HFT.out.1; omega⟩
          have hF1b : F1 ≤ 150000 := by have := HFT.out.2.1; omega
          have hcell2 : w6.cell? ⟨g, k * 5 + 1, none⟩ = some (.int .u64 ((F1 : Int) + 1)) := by
            rw [hcell]; simp only [segL, hF1]; simp
          have hfr : w6.frozen? ⟨g, k * 5 + 1, none⟩ = false := by rw [← hg]; exact hS6.free HLL.out.1 _
          have HS7 : Hid (SlOwn (w6.setCell ⟨g, k * 5 + 1, none⟩ (.int .u64 F1)) w.heap.size (.slice (some ⟨g, 0, none⟩) i cp6) ((lineL (sizF f) i).set k (early (segL (sizF f) k)))) := by
            have h := hS6.setFr (y := F1) HLL.out.1 HE.out.1
            rw [hg] at h
            have e : early (segL (sizF f) k) = ⟨(segL (sizF f) k).sock, F1, (segL (sizF f) k).len, (segL (sizF f) k).stamp, (segL (sizF f) k).again⟩ := by
              simp only [early, segL, hF1, Nat.add_sub_cancel]
            rw [e]
            exact Lib.hid h
          have B7 := Lib.hid ((B4.out.trans (hb6.mono B4.out.size)).setCell (p := ⟨g, k * 5 + 1, none⟩) hgw (.int .u64 F1))
          have G7 := Lib.hid ((G4.out.trans (hb6.mono G4.out.size)).setCell (p := ⟨g, k * 5 + 1, none⟩) hgr (.int .u64 F1))
          have lk := HK.out.2.1
          have HG := Lib.hid (And.intro hgw hgr)
          have hc6' := Lib.hid (show i ≤ cp6 by rw [← e6b] at hc6; exact hc6)
          rw [hg]
          have hl6g : g < w6.heap.size := by rw [← hg]; exact hl6
          clear hS6 hb6 hl6 hg hgw hgr R6 hcc e6a e6b hc6 eqb eqo hcell hF1
          go_wp2_with (at_builtin; refine wpList_copy_nats _ rfl _ _ rfl w.heap.size rfl _ i HLL.out.2.1 ⟨b8, o8, none⟩ p8 rfl (HR8.out.below' G7.out) hi0.out ?f1 B7.out.size ?_)
          case f1 => have := HI2.out; omega
          intro cp8 w8 hS8 hb8 hl8
          obtain ⟨g8, hg8⟩ : ∃ g8, w6.heap.size = g8 := ⟨_, rfl⟩
          have hb8' : Below (w6.setCell ⟨g, k * 5 + 1, none⟩ (.int .u64 F1)).heap.size (w6.setCell ⟨g, k * 5 + 1, none⟩ (.int .u64 F1)) w8 := by simpa using hb8
          have HS8 := HS7.out.below hb8'
          have B8 := Lib.hid (B7.out.trans (hb8'.mono B7.out.size))
          have G8 := Lib.hid (G7.out.trans (hb8'.mono G7.out.size))
          rw [hg8] at hS8
          have hne : g ≠ g8 := by omega
          have hgw8 : w.heap.size ≤ g8 := by have := HG.out.1; omega
          have hgr8 : wr.heap.size ≤ g8 := by have := HG.out.2; omega
          obtain ⟨q8', c8', e8, hc8, R8⟩ := hS8.row (by rw [HLL.out.2.1]; have := HI2.out; omega) OK8.out
          obtain ⟨_, _, eq8, _, hcc⟩ := R8.2.2 (by rw [HLL.out.2.1]; exact hi0.out)
          rw [HLL.out.2.1] at e8 hc8
          simp only [Value.slice.injEq, true_and] at e8
          obtain ⟨e8a, e8b⟩ := e8
          rw [← e8a] at eq8
          simp only [Option.some.injEq, Addr.mk.injEq, and_true] at eq8
          obtain ⟨eqb, eqo⟩ := eq8
          have hcell := hcc k (by rw [HLL.out.2.1]; exact lk)
          rw [← eqb, ← eqo, Nat.zero_add, getD_of HE.out.2.1] at hcell
          obtain ⟨T1, hT1⟩ : ∃ T1, tmL (sizF f) r k = T1 + 1 := ⟨tmL (sizF f) r k - 1, by have := HFT.out.2.2.1; omega⟩
          have hT1b : T1 ≤ 150000000 := by have := HFT.out.2.2.2; omega
          have hcell3 : w8.cell? ⟨g8, k, none⟩ = some (.int .u64 ((T1 : Int) + 1)) := by
            rw [hcell, hT1]; simp
          have hfr8 : w8.frozen? ⟨g8, k, none⟩ = false := hS8.free HLL.out.2.1 _
          have HS9 : Hid (NlOwn (w8.setCell ⟨g8, k, none⟩ (.int .u64 T1)) w.heap.size (.slice (some ⟨g8, 0, none⟩) i cp8) ((timeL (sizF f) r i).set k (tmL (sizF f) r k - 1))) := by
            have h := hS8.setAt (j := k) (y := T1) HLL.out.2.1
            rw [hT1, Nat.add_sub_cancel]
            exact Lib.hid h
          have HX9 := Lib.hid (HS8.kept (grown_set w8 g8 k (.int .u64 T1)) (.inr (by simp [Value.ownBlock]; exact hne)))
          have B9 := Lib.hid (B8.out.setCell (p := ⟨g8, k, none⟩) hgw8 (.int .u64 T1))
          have G9 := Lib.hid (G8.out.setCell (p := ⟨g8, k, none⟩) hgr8 (.int .u64 T1))
          have hc8'' := Lib.hid (show i ≤ cp8 by rw [← e8b] at hc8; exact hc8)
          have lx : ((lineL (sizF f) i).set k (early (segL (sizF f) k))).length = i := by rw [List.length_set]; exact HLL.out.1
          have lt : ((timeL (sizF f) r i).set k (tmL (sizF f) r k - 1)).length = i := by rw [List.length_set]; exact HLL.out.2.1
          obtain ⟨qx, cx, ex, _, RX⟩ := HX9.out.row (by rw [lx]; have := HI2.out; omega) (fun z hz => by
            rcases List.mem_or_eq_of_mem_set hz with hz | rfl
            · exact OK7.out z hz
            · exact HE.out.2.2.2.2.2)
          obtain ⟨qt, ct, et, _, RT⟩ := HS9.out.row (by rw [lt]; have := HI2.out; omega) (fun z hz => by
            rcases List.mem_or_eq_of_mem_set hz with hz | rfl
            · exact OK8.out z hz
            · have := HFT.out.2.2.2; omega)
          rw [lx] at ex
          rw [lt] at et
          simp only [Value.slice.injEq, true_and] at ex et
          rw [← ex.1] at RX
          rw [← et.1] at RT
          have HRX := Lib.hid RX
          have HRT := Lib.hid RT
          have LX := Lib.hid lx
          have LT := Lib.hid lt
          rw [hg8]
          clear hb8 hb8' HS8 hS8 hl8 hg8 hne hgw8 hgr8 R8 hcc e8a e8b hc8 eqb eqo hcell hT1 lx lt ex et RX RT hcell2 hfr hF1b hl6g
          have z1 := HE.out.2.2.1
          have z2 := HE.out.2.2.2.1
          have z3 := HE.out.2.2.2.2.1
          have Z1 := Lib.hid z1
          have Z2 := Lib.hid z2
          have Z3 := Lib.hid z3
          clear z1 z2 z3
          go_wp2_with fail
          refine (sorted_n LX.out _ _ _ HRX.out).mono ?_; rintro e w10 ⟨rfl, b10⟩
          have B10 := Lib.hid (B9.out.trans (b10.mono B9.out.size))
          have G10 := Lib.hid (G9.out.trans (b10.mono G9.out.size))
          have X10 := Lib.hid (HRX.out.below b10)
          have T10 := Lib.hid (HRT.out.below' b10)
          clear b10 hcell3 hfr8 hT1b
          rw [Z1.out]
          go_wp2_with fail
          refine (once_n LX.out _ _ _ X10.out hc6'.out).mono ?_; rintro e w11 ⟨rfl, b11⟩
          have B11 := Lib.hid (B10.out.trans (b11.mono B10.out.size))
          have G11 := Lib.hid (G10.out.trans (b11.mono G10.out.size))
          have T11 := Lib.hid (T10.out.below' b11)
          clear b11
          rw [Z2.out]
          go_wp2_with fail
          refine (apart_n LT.out HLL.out.1 HLL.out.2.2 _ _ _ _ _ _ _ T11.out (HR7.out.below G11.out) (HR9.out.below' G11.out)).mono ?_; rintro e w12 ⟨rfl, b12⟩
          have B12 := Lib.hid (B11.out.trans (b12.mono B11.out.size))
          clear b12
          rw [Z3.out]
          have i1 : 1 ≤ i := by have := hi0.out; omega
          have c81 := C8.out
          have c82 : i ≤ p8 := C8.out
          go_wp2_with fail
          all_goals
            refine (apart_short _ _ _ _ _ _ _ _ _ (by omega) _).mono ?_; rintro e w' ⟨rfl, rfl⟩
            go_wp2
            go_ret
            exact ⟨rfl, B12.out⟩
end Go.Proofs.Ytojgpgjmcamfoaa
