/- The walk of AuditParts. -/
import Derived.Test.YtojgpgjmcamfoaaLaw27
import Derived.Test.YtojgpgjmcamfoaaSegR
import Derived.BigRegion
import Derived.RegionTactic
import Derived.ChangeAlike
namespace Go.Proofs.Ytojgpgjmcamfoaa
open Go.RowKit Go.Lib
set_option linter.unusedVariables false

def BoolRow27 (w : World) (a : Option Addr) (len : Nat) (f : Nat → Bool) : Prop :=
  len ≤ 9223372036854775807 ∧ (0 < len → ∃ b off, a = some ⟨b, off, none⟩ ∧ b < w.heap.size ∧ ∀ j, j < len → w.cell? ⟨b, off + j, none⟩ = some (.bool (f j)))
theorem boolRow27_of {w : World} {a : Option Addr} {len : Nat} (hl : len ≤ 9223372036854775807)
    (h : 0 < len → ∃ b off, a = some ⟨b, off, none⟩ ∧ b < w.heap.size ∧ ∀ k, k < len → ∃ x : Bool, w.cell? ⟨b, off + k, none⟩ = some (.bool x)) : ∃ f, BoolRow27 w a len f := by
  rcases Nat.eq_zero_or_pos len with rfl | hp
  · exact ⟨fun _ => false, by omega, fun h => by omega⟩
  · obtain ⟨b, off, ha, hb, hc⟩ := h hp
    have hc' : ∀ k, ∃ x : Bool, k < len → w.cell? ⟨b, off + k, none⟩ = some (.bool x) := by
      intro k
      by_cases hk : k < len
      · obtain ⟨x, hx⟩ := hc k hk
        exact ⟨x, fun _ => hx⟩
      · exact ⟨false, fun h => absurd h hk⟩
    obtain ⟨f, hf⟩ := Classical.axiomOfChoice hc'
    exact ⟨f, hl, fun _ => ⟨b, off, ha, hb, hf⟩⟩
theorem BoolRow27.below {w w' : World} {a : Option Addr} {len : Nat} {f : Nat → Bool} (h : BoolRow27 w a len f) (hb : Below w.heap.size w w') : BoolRow27 w' a len f := by
  refine ⟨h.1, fun h0 => ?_⟩
  obtain ⟨b, off, ha, hl, hc⟩ := h.2 h0
  exact ⟨b, off, ha, Nat.lt_of_lt_of_le hl hb.size, fun j hj => (hb.cell (p := ⟨b, off + j, none⟩) hl).trans (hc j hj)⟩

/-- two exchanged -/
def swapG (l : List Sg) (i k : Nat) (x y : Sg) : List Sg := (l.set i y).set k x
theorem swapG_part {l : List Sg} {i k : Nat} {x y : Sg} (hi : l[i]? = some x) (hk : l[k]? = some y) : partF (swapG l i k x y) l = decide (x = y) := by
  rw [partF_same (by simp [swapG]), decide_eq_decide]
  have li := (List.getElem?_eq_some_iff.1 hi).1
  have lk := (List.getElem?_eq_some_iff.1 hk).1
  constructor
  · intro h
    have h2 : (swapG l i k x y)[k]? = l[k]? := by rw [h]
    rw [hk, swapG, List.getElem?_set_self (by simpa using lk)] at h2
    exact Option.some.inj h2
  · rintro rfl
    apply List.ext_getElem?
    intro j
    unfold swapG
    rw [List.getElem?_set, List.getElem?_set]
    simp only [List.length_set]
    split
    · rename_i e; subst e; exact hk.symm
    · split
      · rename_i e; subst e; exact hi.symm
      · rfl
theorem swapG_mem {l : List Sg} {i k : Nat} {x y : Sg} (hx : x.ok) (hy : y.ok) (h : ∀ z ∈ l, z.ok) : ∀ z ∈ swapG l i k x y, z.ok := by
  intro z hz
  unfold swapG at hz
  rcases List.mem_or_eq_of_mem_set hz with hz | rfl
  · rcases List.mem_or_eq_of_mem_set hz with hz | rfl
    · exact h z hz
    · exact hy
  · exact hx

def PaRel (l : List Sg) (w0 : World) (v11 v12 v13 : Value) (wr : World) : Prop :=
  ∃ (i : Nat) (ls ms : List Sg), i ≤ l.length ∧ v13 = .int .i64 i ∧ SlOwn wr w0.heap.size v11 ls ∧ SlOwn wr w0.heap.size v12 ms ∧ Apt v11 v12 ∧ ls.Sublist (l.take i) ∧ ms.Sublist ls ∧ Below w0.heap.size w0 wr
theorem take_snoc2 {α : Type} {l : List α} {i : Nat} {x : α} (h : l[i]? = some x) : l.take (i + 1) = l.take i ++ [x] := by rw [List.take_add_one, h]; rfl

theorem list_form {l : List Sg} (h : 0 < l.length) {w : World} {a : Option Addr} (hr : SegRow w a l) : ∃ b off, a = some ⟨b, off, none⟩ := by
  obtain ⟨b, off, ha, _⟩ := hr.2.2 h
  exact ⟨b, off, ha⟩

theorem mod_letter (n : Int) (L : Nat) (hL : 0 < L) : ∃ m p : Nat, IntKind.u64.wrap n = m ∧ p < L ∧ Hid ((m : Int) % (L : Int) = p ∧ (m : Int).tmod (L : Int) = p) := by
  have hm : IntKind.u64.wrap n = ((IntKind.u64.wrap n).toNat : Nat) := by rw [IntKind.wrap_u64]; omega
  refine ⟨(IntKind.u64.wrap n).toNat, (IntKind.u64.wrap n).toNat % L, hm, Nat.mod_lt _ hL, Lib.hid ⟨?_, ?_⟩⟩
  · simp
  · rw [Int.tmod_eq_emod_of_nonneg (Int.natCast_nonneg _)]; simp

theorem small_wrap64 (p : Nat) (h : p ≤ 60) : wrap64 (p : Int) = p := by unfold wrap64; omega
theorem small_wrapu (p : Nat) (h : p ≤ 60) : IntKind.u64.wrap (p : Int) = p := by rw [IntKind.wrap_u64]; omega
theorem pos_ne0 (p : Nat) (h : 0 < p) : ((p : Int) == 0) = false := by rw [beq_eq_false_iff_ne]; omega
theorem seg_drew {w : World} {a : Option Addr} {l : List Sg} (h : SegRow w a l) : SegRow w.drew a l := h
theorem part_nil (q : Option Addr) (cp : Nat) (l : List Sg) (w : World) (hl : SegRow w q l) :
    Calls Try.prog 27 #[.slice none 0 0, .slice q l.length cp] w fun e w' => e = .returned (.bool true) ∧ Below w.heap.size w w' := by
  have h := part_any none q 0 cp [] l w (seg_none _ _) hl (by simp)
  rw [(partF_iff [] l).2 (List.nil_sublist _)] at h
  exact h

set_option maxRecDepth 8000 in
set_option maxHeartbeats 4000000 in
theorem parts27_core (a a1 a2 : Option Addr) (c k1 c1 k2 c2 : Nat) (l : List Sg) (f1 f2 : Nat → Bool) (n3 n4 : Int) (w : World) (hl : SegRow w a l) (hc : l.length ≤ c) (hk : BoolRow27 w a1 k1 f1) (hm : BoolRow27 w a2 k2 f2) :
    Calls Try.prog 8 #[.slice a l.length c, .slice a1 k1 c1, .slice a2 k2 c2, .int .i64 n3, .int .i64 n4] w fun e w' => e = .returned (.bool true) ∧ Below w.heap.size w w' := by
  have b1 := hl.1
  have b2 := hk.1
  have b3 := hm.1
  have HL := Lib.hid hl
  have HC := Lib.hid hc
  have HK := Lib.hid hk
  have HM := Lib.hid hm
  clear hl hc hk hm
  by_cases hx : (60 : Int) < l.length
  · go_enter Try.func8, Try.ntmps8
    go_wp2_with fail
    refine (awake27 _).mono ?_; rintro e w1 ⟨rfl, b1⟩
    go_wp2
    go_ret
    exact ⟨rfl, b1⟩
  · go_enter Try.func8, Try.ntmps8
    go_wp2_with fail
    go_loopw [11, 12, 13] (fun v11 v12 v13 wr => PaRel l w v11 v12 v13 wr) (fun _ _ v13 _ => l.length - (intOf v13).toNat)
    case atStart => exact ⟨0, [], [], by omega, rfl, SlOwn.nil _ _, SlOwn.nil _ _, .inl rfl, List.Sublist.refl _, List.Sublist.refl _, Below.refl _ _⟩
    case round =>
      obtain ⟨i, ls, ms, hi1, rfl, hS, hA, hap, hs1, hs2, hB⟩ := hrel
      have HB := Lib.hid hB
      have HS := Lib.hid hS
      have HA := Lib.hid hA
      have HAP := Lib.hid hap
      have H1 := Lib.hid hs1
      have H2 := Lib.hid hs2
      clear hS hA hap hs1 hs2
      by_cases hlt : i < l.length
      · obtain ⟨b, off, x, rfl, hb, hx, hok, d0, d1, d2, d3, d4⟩ := (HL.out.below hB).at_ hlt
        have HX := Lib.hid hx
        have HT := Lib.hid (take_snoc2 hx)
        have HSL : Hid (ls.length ≤ 60) := Lib.hid (by have := H1.out.length_le; rw [List.length_take] at this; omega)
        have HML : Hid (ms.length ≤ 60) := Lib.hid (by have := H2.out.length_le; have := HSL.out; omega)
        have hBs := hB.size
        have HS1 : Hid (ls.Sublist (l.take (i + 1))) := Lib.hid (by rw [HT.out]; exact List.sublist_append_of_sublist_left H1.out)
        have HS2 : Hid ((ls ++ [x]).Sublist (l.take (i + 1))) := Lib.hid (by rw [HT.out]; exact H1.out.append (List.Sublist.refl _))
        have HS3 : Hid (ms.Sublist (ls ++ [x])) := Lib.hid (List.sublist_append_of_sublist_left H2.out)
        have HS4 : Hid ((ms ++ [x]).Sublist (ls ++ [x])) := Lib.hid (H2.out.append (List.Sublist.refl _))
        have hkk : decide (i < k1) = false ∨ decide (i < k1) = true ∧ i < k1 := by simp; omega
        clear hx hok
        rcases hkk with hkk | ⟨hkk, hkk2⟩
        · clear hB
          go_wp2
          go_roundw
          case rel => exact ⟨i + 1, ls, ms, by omega, by simp, HS.out, HA.out, HAP.out, HS1.out, H2.out, HB.out⟩
          case measure => simp [intOf]; omega
        · obtain ⟨b', off', rfl, hb', hcc⟩ := (HK.out.below hB).2 (by omega)
          have e0 := hcc i hkk2
          clear hcc hB
          cases hf1 : f1 i
          · rw [hf1] at e0
            clear hf1
            go_wp2
            go_roundw
            case rel => exact ⟨i + 1, ls, ms, by omega, by simp, HS.out, HA.out, HAP.out, HS1.out, H2.out, HB.out⟩
            case measure => simp [intOf]; omega
          · rw [hf1] at e0
            clear hf1
            have AT := Lib.hid (At.made wr 55 (segC x))
            go_wp2_with (at_builtin; refine wpList_app_seg _ rfl _ _ rfl w.heap.size _ _ rfl (HS.out.alloc _) _ rfl x AT.out ?c1 ?c2 ?_)
            case c1 => have := HSL.out; omega
            case c2 => simp; omega
            intro g cp w3 hS3 hg3 hv3 hl3
            have SS := Lib.hid hS3
            have AA := Lib.hid ((HA.out.alloc (.cells (segC x) 55)).apt hg3 HAP.out.symm)
            have AP : Hid (Apt (.slice (some ⟨g, 0, none⟩) (ls.length + 1) cp) _) := Lib.hid (apt_new hv3 (HA.out.alloc (.cells (segC x) 55)) (by first | rfl | simp) HAP.out)
            have BB := Lib.hid ((HB.out.alloc hBs (.cells (segC x) 55)).grown hg3 (by simp; omega) (fun k hk => (HS.out.lt k hk).1))
            clear hS3 hg3 hv3 d0 d1 d2 d3 d4 e0
            have hmm : decide (i < k2) = false ∨ decide (i < k2) = true ∧ i < k2 := by simp; omega
            rcases hmm with hmm | ⟨hmm, hmm2⟩
            · go_wp2
              go_roundw
              case rel => exact ⟨i + 1, ls ++ [x], ms, by omega, by simp, SS.out, AA.out, AP.out, HS2.out, HS3.out, BB.out⟩
              case measure => simp [intOf]; omega
            · obtain ⟨b'', off'', rfl, hb'', hcc⟩ := (HM.out.below BB.out).2 (by omega)
              have e0 := hcc i hmm2
              clear hcc
              cases hf2 : f2 i
              · rw [hf2] at e0
                clear hf2
                go_wp2
                go_roundw
                case rel => exact ⟨i + 1, ls ++ [x], ms, by omega, by simp, SS.out, AA.out, AP.out, HS2.out, HS3.out, BB.out⟩
                case measure => simp [intOf]; omega
              · rw [hf2] at e0
                obtain ⟨_, _, x', e, hb3, hx', _, d0, d1, d2, d3, d4⟩ := (HL.out.below BB.out).at_ hlt
                cases e
                obtain rfl : x = x' := Option.some.inj (HX.out.symm.trans hx')
                have AT3 := Lib.hid (At.made w3 55 (segC x))
                clear hf2 hx'
                go_wp2_with (at_builtin; refine wpList_app_seg _ rfl _ _ rfl w.heap.size _ _ rfl (AA.out.alloc _) _ rfl x AT3.out ?d1 ?d2 ?_)
                case d1 => have := HML.out; omega
                case d2 => have := BB.out.size; simp; omega
                intro g2 cp2 w6 hS6 hg6 hv6 hl6
                have AA6 := Lib.hid hS6
                have SS6 := Lib.hid ((SS.out.alloc (.cells (segC x) 55)).apt hg6 AP.out)
                have AP6 : Hid (Apt (.slice (some ⟨g2, 0, none⟩) (ms.length + 1) cp2) _) := Lib.hid (apt_new hv6 (SS.out.alloc (.cells (segC x) 55)) (by first | rfl | simp) AP.out.symm)
                have BB6 := Lib.hid ((BB.out.alloc BB.out.size (.cells (segC x) 55)).grown hg6 (by have := BB.out.size; simp; omega) (fun k hk => (AA.out.lt k hk).1))
                clear hS6 hg6 hv6 d0 d1 d2 d3 d4 e0
                go_wp2
                go_roundw
                case rel => exact ⟨i + 1, ls ++ [x], ms ++ [x], by omega, by simp, SS6.out, AA6.out, AP6.out.symm, HS2.out, HS4.out, BB6.out⟩
                case measure => simp [intOf]; omega
      · have hi : i = l.length := by omega
        have hs1 := H1.out
        rw [hi, List.take_length] at hs1
        have hs2 := H2.out
        have p1 : partF ls l = true := (partF_iff _ _).2 hs1
        have p2 : partF ms ls = true := (partF_iff _ _).2 hs2
        have p3 : partF ms l = true := (partF_iff _ _).2 (hs2.trans hs1)
        have p5 : partF l l = true := (partF_iff _ _).2 (List.Sublist.refl _)
        have hl1 := hs1.length_le
        have hl2 := hs2.length_le
        obtain ⟨q3, cp3, rfl, hc3, R3⟩ := HS.out.row (by omega) (fun x hx => HL.out.2.1 x (hs1.subset hx))
        obtain ⟨q4, cp4, rfl, hc4, R4⟩ := HA.out.row (by omega) (fun x hx => HL.out.2.1 x (hs1.subset (hs2.subset hx)))
        have HR3 := Lib.hid R3
        have HR4 := Lib.hid R4
        have HC3 := Lib.hid hc3
        have HC4 := Lib.hid hc4
        have G1 := Lib.hid p1
        have G2 := Lib.hid p2
        have G3 := Lib.hid p3
        have G5 := Lib.hid p5
        clear R3 R4 hc3 hc4 hs1 hs2 p1 p2 p3 p5 hl1 hl2 hi hB HS HA HAP H1 H2
        go_wp2_with fail
        refine (part_any _ _ _ _ ls l _ HR3.out (HL.out.below HB.out) HC3.out).mono ?_; rintro e w1 ⟨rfl, b1'⟩
        have B1 := Lib.hid (HB.out.trans (b1'.mono HB.out.size))
        have D1 := Lib.hid b1'
        clear b1'
        rw [G1.out]
        go_wp2_with fail
        refine (part_any _ _ _ _ ms ls _ (HR4.out.below D1.out) (HR3.out.below D1.out) HC4.out).mono ?_; rintro e w2 ⟨rfl, b2'⟩
        have B2 := Lib.hid (B1.out.trans (b2'.mono B1.out.size))
        have D2 := Lib.hid (D1.out.trans (b2'.mono D1.out.size))
        clear b2'
        rw [G2.out]
        go_wp2_with fail
        refine (part_any _ _ _ _ ms l _ (HR4.out.below D2.out) (HL.out.below B2.out) HC4.out).mono ?_; rintro e w3 ⟨rfl, b3'⟩
        have B3 := Lib.hid (B2.out.trans (b3'.mono B2.out.size))
        clear b3'
        rw [G3.out]
        go_wp2_with fail
        refine (part_nil _ _ l _ (HL.out.below B3.out)).mono ?_; rintro e w4 ⟨rfl, b4'⟩
        have B4 := Lib.hid (B3.out.trans (b4'.mono B3.out.size))
        clear b4'
        go_wp2_with fail
        refine (part_any _ _ _ _ l l _ (HL.out.below B4.out) (HL.out.below B4.out) HC.out).mono ?_; rintro e w5 ⟨rfl, b5'⟩
        have B5 := Lib.hid (B4.out.trans (b5'.mono B4.out.size))
        clear b5'
        rw [G5.out]
        by_cases h2 : (l.length : Int) < 2
        · go_wp2_with fail
          refine (awake27 _).mono ?_; rintro e w6 ⟨rfl, b6'⟩
          have B6 := Lib.hid (B5.out.trans (b6'.mono B5.out.size))
          clear b6'
          go_wp2
          go_ret
          exact ⟨rfl, B6.out⟩
        · obtain ⟨L, hL⟩ : ∃ L, l.length = L := ⟨_, rfl⟩
          have HLL := Lib.hid hL
          have hL2 : 2 ≤ L := by omega
          have hL60 : L ≤ 60 := by omega
          obtain ⟨m3, p, hm3, lp, E3⟩ := mod_letter n3 L (by omega)
          obtain ⟨m4, q, hm4, lq, E4⟩ := mod_letter n4 L (by omega)
          have hp3 := small_wrap64 p (Nat.le_of_lt (Nat.lt_of_lt_of_le lp hL60))
          have hq3 := small_wrap64 q (Nat.le_of_lt (Nat.lt_of_lt_of_le lq hL60))
          have hLw := small_wrapu L hL60
          have y0 := pos_ne0 L (Nat.lt_of_lt_of_le (by decide) hL2)
          have hL0 : 0 < l.length := by rw [hL]; exact Nat.lt_of_lt_of_le (by decide) hL2
          obtain ⟨b, off, rfl⟩ := list_form hL0 HL.out
          clear hL0
          rw [hL] at h2 ⊢
          clear hL hx hlt hi1
          go_wp2_with fail
          obtain ⟨hp1, hp2⟩ := E3.out
          obtain ⟨hq1, hq2⟩ := E4.out
          have HLIN := Lib.hid (And.intro lp (And.intro lq (And.intro hL2 hL60)))
          clear lp lq hL2 hL60 h2 b1 b2 b3
          go_quiet (fail)
          try rw [hp3]
          try rw [hq3]
          clear hp1 hq1 hp2 hq2 hm3 hm4 hp3 hq3 hLw
          have B5' := Lib.hid (below_drewN B5.out nq)
          go_wp2_with (at_builtin; refine wpList_copy_segs _ rfl _ _ rfl w.heap.size rfl l L HLL.out ⟨b, off, none⟩ c rfl (HL.out.below B5'.out) ?e1 ?e2 ?e3 ?_)
          case e1 => have := HLIN.out.2.2.1; omega
          case e2 => have := HLIN.out.2.2.2; omega
          case e3 => exact B5'.out.size
          intro cp6 w6 hS6 hb6 hl6
          obtain ⟨g, hg⟩ : ∃ g, w5.heap.size = g := ⟨_, rfl⟩
          have hgw : w.heap.size ≤ g := by rw [← hg]; exact B5'.out.size
          rw [hg] at hS6 hl6 ⊢
          have hs6 := hS6
          have HS6 := Lib.hid hS6
          have B6 := Lib.hid (B5'.out.trans (hb6.mono B5'.out.size))
          obtain ⟨lp, lq, hL2, hL60⟩ := HLIN.out
          have hy1 := List.getElem?_eq_getElem (l := l) (i := p) (by rw [HLL.out]; exact lp)
          have hy2 := List.getElem?_eq_getElem (l := l) (i := q) (by rw [HLL.out]; exact lq)
          generalize l[p]'(by rw [HLL.out]; exact lp) = x1 at *
          generalize l[q]'(by rw [HLL.out]; exact lq) = x2 at *
          obtain ⟨q6, cp7, e6, _, R6⟩ := hS6.row (by rw [HLL.out]; omega) (fun z hz => HL.out.2.1 z hz)
          cases e6
          obtain ⟨_, _, e7, hgl, hcc⟩ := R6.2.2 (by rw [HLL.out]; omega)
          cases e7
          obtain ⟨c0, c1, c2, c3, c4⟩ := hcc p x1 hy1
          obtain ⟨d0, d1, d2, d3, d4⟩ := hcc q x2 hy2
          rw [Nat.zero_add] at c0 c1 c2 c3 c4 d0 d1 d2 d3 d4
          have fr : ∀ j, w6.frozen? ⟨g, j, none⟩ = false := fun j => own_free5 HS6.out
          have hS7 := HS6.out.put rfl lp x2
          have HS7 := Lib.hid hS7
          obtain ⟨q8, cp8, e8, _, R8⟩ := hS7.row (by rw [List.length_set]; omega) (fun z hz => by
            rcases List.mem_or_eq_of_mem_set hz with hz | rfl
            · exact HL.out.2.1 z hz
            · exact HL.out.2.1 _ (List.mem_of_getElem? hy2))
          have e8' := e8
          simp only [List.length_set, Value.slice.injEq, true_and] at e8'
          obtain ⟨rfl, rfl⟩ := e8'
          obtain ⟨_, _, e9, _, hcc⟩ := R8.2.2 (by rw [List.length_set]; omega)
          cases e9
          obtain ⟨x3, hx3⟩ : ∃ x3, (l.set p x2)[q]? = some x3 := ⟨_, List.getElem?_eq_getElem (by rw [List.length_set]; exact lq)⟩
          obtain ⟨f0, f1', f2', f3, f4⟩ := hcc q x3 hx3
          rw [Nat.zero_add] at f0 f1' f2' f3 f4
          simp only [put5] at f0 f1' f2' f3 f4
          have hS9 := HS7.out.put (by rw [List.length_set]) (j := q) (by rw [List.length_set]; exact lq) x1
          have HS9 := Lib.hid hS9
          have B9 := Lib.hid (below_put5 (j := q) (below_put5 (j := p) B6.out hgw x2) hgw x1)
          simp only [put5] at HS9 B9
          clear hS6 hb6 hs6 hg hcc R6 hS7 hS9 R8 e8 hx3
          go_wp2_with fail
          go_region
          clear c0 c1 c2 c3 c4 d0 d1 d2 d3 d4 f0 f1' f2' f3 f4 fr
          have hsw : (l.set p x2).set q x1 = swapG l p q x1 x2 := rfl
          have hpt : partF (swapG l p q x1 x2) l = decide (x1 = x2) := swapG_part hy1 hy2
          have hlen : (swapG l p q x1 x2).length = l.length := by simp [swapG]
          have hokk := swapG_mem (i := p) (k := q) (HL.out.2.1 _ (List.mem_of_getElem? hy1)) (HL.out.2.1 _ (List.mem_of_getElem? hy2)) HL.out.2.1
          obtain ⟨qq, cq, eq9, hcq, R9⟩ := HS9.out.row (by rw [hsw, hlen]; omega) (by rw [hsw]; exact hokk)
          have eq9' := eq9
          simp only [List.length_set, Value.slice.injEq, true_and] at eq9'
          obtain ⟨rfl, rfl⟩ := eq9'
          rw [hsw] at R9 hcq
          rw [hlen] at hcq
          have S0 : Hid (∀ wq, SegRow wq (some ⟨g, 0, none⟩) (swapG l p q x1 x2) → SegRow wq (some ⟨b, off, none⟩) l → Below w.heap.size w wq → (fun wq => wq.cell? ⟨b, off + p * 5, none⟩ = some (.int .i64 x1.sock) ∧ wq.cell? ⟨b, off + p * 5 + 1, none⟩ = some (.int .u64 x1.fr) ∧ wq.cell? ⟨b, off + p * 5 + 2, none⟩ = some (.int .i64 x1.len) ∧ wq.cell? ⟨b, off + p * 5 + 3, none⟩ = some (.int .u64 x1.stamp) ∧ wq.cell? ⟨b, off + p * 5 + 4, none⟩ = some (.bool x1.again) ∧ wq.cell? ⟨b, off + q * 5, none⟩ = some (.int .i64 x2.sock) ∧ wq.cell? ⟨b, off + q * 5 + 1, none⟩ = some (.int .u64 x2.fr) ∧ wq.cell? ⟨b, off + q * 5 + 2, none⟩ = some (.int .i64 x2.len) ∧ wq.cell? ⟨b, off + q * 5 + 3, none⟩ = some (.int .u64 x2.stamp) ∧ wq.cell? ⟨b, off + q * 5 + 4, none⟩ = some (.bool x2.again) ∧ Hid (SegRow wq (some ⟨g, 0, none⟩) (swapG l p q x1 x2) ∧ SegRow wq (some ⟨b, off, none⟩) l ∧ Below w.heap.size w wq)) wq) := Lib.hid (fun wq r1 r2 r3 => by
            obtain ⟨_, _, e, _, hcc⟩ := r2.2.2 (by omega)
            cases e
            obtain ⟨c0, c1, c2, c3, c4⟩ := hcc p x1 hy1
            obtain ⟨d0, d1, d2, d3, d4⟩ := hcc q x2 hy2
            exact ⟨c0, c1, c2, c3, c4, d0, d1, d2, d3, d4, Lib.hid ⟨r1, r2, r3⟩⟩)
          have CA : Hid (∀ wq, (fun wq => wq.cell? ⟨b, off + p * 5, none⟩ = some (.int .i64 x1.sock) ∧ wq.cell? ⟨b, off + p * 5 + 1, none⟩ = some (.int .u64 x1.fr) ∧ wq.cell? ⟨b, off + p * 5 + 2, none⟩ = some (.int .i64 x1.len) ∧ wq.cell? ⟨b, off + p * 5 + 3, none⟩ = some (.int .u64 x1.stamp) ∧ wq.cell? ⟨b, off + p * 5 + 4, none⟩ = some (.bool x1.again) ∧ wq.cell? ⟨b, off + q * 5, none⟩ = some (.int .i64 x2.sock) ∧ wq.cell? ⟨b, off + q * 5 + 1, none⟩ = some (.int .u64 x2.fr) ∧ wq.cell? ⟨b, off + q * 5 + 2, none⟩ = some (.int .i64 x2.len) ∧ wq.cell? ⟨b, off + q * 5 + 3, none⟩ = some (.int .u64 x2.stamp) ∧ wq.cell? ⟨b, off + q * 5 + 4, none⟩ = some (.bool x2.again) ∧ Hid (SegRow wq (some ⟨g, 0, none⟩) (swapG l p q x1 x2) ∧ SegRow wq (some ⟨b, off, none⟩) l ∧ Below w.heap.size w wq)) wq → Calls Try.prog 26 #[] wq fun e w' => e = .returned (.bool true) ∧ (fun wq => wq.cell? ⟨b, off + p * 5, none⟩ = some (.int .i64 x1.sock) ∧ wq.cell? ⟨b, off + p * 5 + 1, none⟩ = some (.int .u64 x1.fr) ∧ wq.cell? ⟨b, off + p * 5 + 2, none⟩ = some (.int .i64 x1.len) ∧ wq.cell? ⟨b, off + p * 5 + 3, none⟩ = some (.int .u64 x1.stamp) ∧ wq.cell? ⟨b, off + p * 5 + 4, none⟩ = some (.bool x1.again) ∧ wq.cell? ⟨b, off + q * 5, none⟩ = some (.int .i64 x2.sock) ∧ wq.cell? ⟨b, off + q * 5 + 1, none⟩ = some (.int .u64 x2.fr) ∧ wq.cell? ⟨b, off + q * 5 + 2, none⟩ = some (.int .i64 x2.len) ∧ wq.cell? ⟨b, off + q * 5 + 3, none⟩ = some (.int .u64 x2.stamp) ∧ wq.cell? ⟨b, off + q * 5 + 4, none⟩ = some (.bool x2.again) ∧ Hid (SegRow wq (some ⟨g, 0, none⟩) (swapG l p q x1 x2) ∧ SegRow wq (some ⟨b, off, none⟩) l ∧ Below w.heap.size w wq)) w') := Lib.hid (fun wq h => (awake27 wq).mono fun e w' ⟨h1, h2⟩ => by
            obtain ⟨r1, r2, r3⟩ := h.2.2.2.2.2.2.2.2.2.2.out
            exact ⟨h1, S0.out w' (r1.below h2) (r2.below h2) (r3.trans (h2.mono r3.size))⟩)
          have CP : Hid (∀ wq, (fun wq => wq.cell? ⟨b, off + p * 5, none⟩ = some (.int .i64 x1.sock) ∧ wq.cell? ⟨b, off + p * 5 + 1, none⟩ = some (.int .u64 x1.fr) ∧ wq.cell? ⟨b, off + p * 5 + 2, none⟩ = some (.int .i64 x1.len) ∧ wq.cell? ⟨b, off + p * 5 + 3, none⟩ = some (.int .u64 x1.stamp) ∧ wq.cell? ⟨b, off + p * 5 + 4, none⟩ = some (.bool x1.again) ∧ wq.cell? ⟨b, off + q * 5, none⟩ = some (.int .i64 x2.sock) ∧ wq.cell? ⟨b, off + q * 5 + 1, none⟩ = some (.int .u64 x2.fr) ∧ wq.cell? ⟨b, off + q * 5 + 2, none⟩ = some (.int .i64 x2.len) ∧ wq.cell? ⟨b, off + q * 5 + 3, none⟩ = some (.int .u64 x2.stamp) ∧ wq.cell? ⟨b, off + q * 5 + 4, none⟩ = some (.bool x2.again) ∧ Hid (SegRow wq (some ⟨g, 0, none⟩) (swapG l p q x1 x2) ∧ SegRow wq (some ⟨b, off, none⟩) l ∧ Below w.heap.size w wq)) wq → Calls Try.prog 27 #[.slice (some ⟨g, 0, none⟩) l.length cp6, .slice (some ⟨b, off, none⟩) l.length c] wq fun e w' => e = .returned (.bool (decide (x1 = x2))) ∧ (fun wq => wq.cell? ⟨b, off + p * 5, none⟩ = some (.int .i64 x1.sock) ∧ wq.cell? ⟨b, off + p * 5 + 1, none⟩ = some (.int .u64 x1.fr) ∧ wq.cell? ⟨b, off + p * 5 + 2, none⟩ = some (.int .i64 x1.len) ∧ wq.cell? ⟨b, off + p * 5 + 3, none⟩ = some (.int .u64 x1.stamp) ∧ wq.cell? ⟨b, off + p * 5 + 4, none⟩ = some (.bool x1.again) ∧ wq.cell? ⟨b, off + q * 5, none⟩ = some (.int .i64 x2.sock) ∧ wq.cell? ⟨b, off + q * 5 + 1, none⟩ = some (.int .u64 x2.fr) ∧ wq.cell? ⟨b, off + q * 5 + 2, none⟩ = some (.int .i64 x2.len) ∧ wq.cell? ⟨b, off + q * 5 + 3, none⟩ = some (.int .u64 x2.stamp) ∧ wq.cell? ⟨b, off + q * 5 + 4, none⟩ = some (.bool x2.again) ∧ Hid (SegRow wq (some ⟨g, 0, none⟩) (swapG l p q x1 x2) ∧ SegRow wq (some ⟨b, off, none⟩) l ∧ Below w.heap.size w wq)) w') := Lib.hid (fun wq h => by
            obtain ⟨r1, r2, r3⟩ := h.2.2.2.2.2.2.2.2.2.2.out
            have := part_any (some ⟨g, 0, none⟩) (some ⟨b, off, none⟩) cp6 c (swapG l p q x1 x2) l wq r1 r2 (by rw [hlen]; exact hcq)
            rw [hpt, hlen] at this
            exact this.mono fun e w' ⟨h1, h2⟩ => ⟨h1, S0.out w' (r1.below h2) (r2.below h2) (r3.trans (h2.mono r3.size))⟩)
          have H9 := Lib.hid (S0.out _ (seg_drew (seg_drew R9)) (seg_drew (seg_drew (HL.out.below B9.out))) B9.out.drew.drew)
          have heq := seg_eql x1 x2
          obtain ⟨P, hP⟩ : ∃ P, decide (x1 = x2) = P := ⟨_, rfl⟩
          rw [hP] at heq CP
          clear hsw hpt hlen hokk eq9 R9 hcq hP hy1 hy2
          clear S0
          go_wp2_with fail
          refine wp_region_held_drew (S := fun wq => wq.cell? ⟨b, off + p * 5, none⟩ = some (.int .i64 x1.sock) ∧ wq.cell? ⟨b, off + p * 5 + 1, none⟩ = some (.int .u64 x1.fr) ∧ wq.cell? ⟨b, off + p * 5 + 2, none⟩ = some (.int .i64 x1.len) ∧ wq.cell? ⟨b, off + p * 5 + 3, none⟩ = some (.int .u64 x1.stamp) ∧ wq.cell? ⟨b, off + p * 5 + 4, none⟩ = some (.bool x1.again) ∧ wq.cell? ⟨b, off + q * 5, none⟩ = some (.int .i64 x2.sock) ∧ wq.cell? ⟨b, off + q * 5 + 1, none⟩ = some (.int .u64 x2.fr) ∧ wq.cell? ⟨b, off + q * 5 + 2, none⟩ = some (.int .i64 x2.len) ∧ wq.cell? ⟨b, off + q * 5 + 3, none⟩ = some (.int .u64 x2.stamp) ∧ wq.cell? ⟨b, off + q * 5 + 4, none⟩ = some (.bool x2.again) ∧ Hid (SegRow wq (some ⟨g, 0, none⟩) (swapG l p q x1 x2) ∧ SegRow wq (some ⟨b, off, none⟩) l ∧ Below w.heap.size w wq)) (by kernel_rfl) H9.out (fun hHeld => ?_)
          refine wpAnyH_ready (rs := [0]) (by kernel_rfl) (by simp) ?_
          refine AllReadyH.cons (o := { dst := some 120, op := Go.Op.call { callee := Go.Callee.value (Go.Operand.func 26), args := #[], argTypes := #[] }, type := 4, pos := "law.go:47", after := #[], guard := none }) rfl (fun K hK => ?_) AllReadyH.nil
          go_simp
          refine (CA.out _ hHeld).mono ?_; rintro e w10 ⟨rfl, t10⟩
          refine hK.out _ _ ?_ (fun hHeld => ?_)
          focus exact t10
          clear hK K
          (try simp only [Act.put, List.setIfInBounds_toArray, List.set_cons_zero, List.set_cons_succ])  -- 0 call none
          refine wpAnyH_take (i := 1) (oi := { dst := some 121, op := Go.Op.move (Go.Operand.tmp 120), type := 4, pos := "law.go:47", after := #[{ on := 0, ground := Go.Ground.data }, { on := 0, ground := Go.Ground.chain }], guard := none }) (v := ?_) rfl (by kernel_rfl) (by kernel_rfl) (by kernel_rfl) (fun _ _ _ h => h) (Or.inl ⟨by rfl, ?_⟩) (by assumption) ?_
          (rotate_left; focus (intro wx hSw; (try dsimp only at hSw); go_simp; try with_reducible rfl))
          (try simp only [Act.put, List.setIfInBounds_toArray, List.set_cons_zero, List.set_cons_succ])  -- 1 move none
          refine wpAnyH_take (i := 2) (oi := { dst := some 122, op := Go.Op.move (Go.Operand.tmp 14), type := 48, pos := "law.go:47", after := #[{ on := 1, ground := Go.Ground.guard }], guard := some (1, true) }) (v := ?_) rfl (by kernel_rfl) (by kernel_rfl) (by kernel_rfl) (fun _ _ _ h => h) (Or.inl ⟨by rfl, ?_⟩) (by assumption) ?_
          (rotate_left; focus (intro wx hSw; (try dsimp only at hSw); go_simp; try with_reducible rfl))
          (try simp only [Act.put, List.setIfInBounds_toArray, List.set_cons_zero, List.set_cons_succ])  -- 2 move some (1, true)
          refine wpAnyH_take (i := 3) (oi := { dst := some 123, op := Go.Op.move (Go.Operand.tmp 0), type := 48, pos := "law.go:47", after := #[{ on := 1, ground := Go.Ground.guard }], guard := some (1, true) }) (v := ?_) rfl (by kernel_rfl) (by kernel_rfl) (by kernel_rfl) (fun _ _ _ h => h) (Or.inl ⟨by rfl, ?_⟩) (by assumption) ?_
          (rotate_left; focus (intro wx hSw; (try dsimp only at hSw); go_simp; try with_reducible rfl))
          (try simp only [Act.put, List.setIfInBounds_toArray, List.set_cons_zero, List.set_cons_succ])  -- 3 move some (1, true)
          refine wpAnyH_take (i := 5) (oi := { dst := some 125, op := Go.Op.move (Go.Operand.tmp 0), type := 48, pos := "law.go:47", after := #[{ on := 1, ground := Go.Ground.guard }], guard := some (1, true) }) (v := ?_) rfl (by kernel_rfl) (by kernel_rfl) (by kernel_rfl) (fun _ _ _ h => h) (Or.inl ⟨by rfl, ?_⟩) (by assumption) ?_
          (rotate_left; focus (intro wx hSw; (try dsimp only at hSw); go_simp; try with_reducible rfl))
          (try simp only [Act.put, List.setIfInBounds_toArray, List.set_cons_zero, List.set_cons_succ])  -- 5 move some (1, true)
          refine wpAnyH_take (i := 6) (oi := { dst := some 126, op := Go.Op.move (Go.Operand.tmp 3), type := 3, pos := "law.go:47", after := #[{ on := 1, ground := Go.Ground.guard }], guard := some (1, true) }) (v := ?_) rfl (by kernel_rfl) (by kernel_rfl) (by kernel_rfl) (fun _ _ _ h => h) (Or.inl ⟨by rfl, ?_⟩) (by assumption) ?_
          (rotate_left; focus (intro wx hSw; (try dsimp only at hSw); go_simp; try with_reducible rfl))
          (try simp only [Act.put, List.setIfInBounds_toArray, List.set_cons_zero, List.set_cons_succ])  -- 6 move some (1, true)
          refine wpAnyH_take (i := 7) (oi := { dst := some 127, op := Go.Op.indexAddr 48 (Go.Operand.tmp 125) (Go.Operand.tmp 126), type := 0, pos := "law.go:47", after := #[{ on := 5, ground := Go.Ground.data }, { on := 6, ground := Go.Ground.data }, { on := 1, ground := Go.Ground.guard }], guard := some (1, true) }) (v := ?_) rfl (by kernel_rfl) (by kernel_rfl) (by kernel_rfl) (fun _ _ _ h => h) (Or.inl ⟨by rfl, ?_⟩) (by assumption) ?_
          (rotate_left; focus (intro wx hSw; (try dsimp only at hSw); go_simp; try with_reducible rfl))
          (try simp only [Act.put, List.setIfInBounds_toArray, List.set_cons_zero, List.set_cons_succ])  -- 7 indexAddr some (1, true)
          refine wpAnyH_take (i := 8) (oi := { dst := some 128, op := Go.Op.load 55 (Go.Operand.tmp 127), type := 55, pos := "law.go:47", after := #[{ on := 7, ground := Go.Ground.data }, { on := 1, ground := Go.Ground.guard }], guard := some (1, true) }) (v := ?_) rfl (by kernel_rfl) (by kernel_rfl) (by kernel_rfl) (fun _ _ _ h => h) (Or.inl ⟨by rfl, ?_⟩) (by assumption) ?_
          (rotate_left; focus (intro wx hSw; (try dsimp only at hSw); go_simp; try with_reducible rfl))
          (try simp only [Act.put, List.setIfInBounds_toArray, List.set_cons_zero, List.set_cons_succ])  -- 8 load some (1, true)
          refine wpAnyH_take (i := 9) (oi := { dst := some 129, op := Go.Op.move (Go.Operand.tmp 0), type := 48, pos := "law.go:47", after := #[{ on := 1, ground := Go.Ground.guard }], guard := some (1, true) }) (v := ?_) rfl (by kernel_rfl) (by kernel_rfl) (by kernel_rfl) (fun _ _ _ h => h) (Or.inl ⟨by rfl, ?_⟩) (by assumption) ?_
          (rotate_left; focus (intro wx hSw; (try dsimp only at hSw); go_simp; try with_reducible rfl))
          (try simp only [Act.put, List.setIfInBounds_toArray, List.set_cons_zero, List.set_cons_succ])  -- 9 move some (1, true)
          refine wpAnyH_take (i := 10) (oi := { dst := some 130, op := Go.Op.move (Go.Operand.tmp 4), type := 3, pos := "law.go:47", after := #[{ on := 1, ground := Go.Ground.guard }], guard := some (1, true) }) (v := ?_) rfl (by kernel_rfl) (by kernel_rfl) (by kernel_rfl) (fun _ _ _ h => h) (Or.inl ⟨by rfl, ?_⟩) (by assumption) ?_
          (rotate_left; focus (intro wx hSw; (try dsimp only at hSw); go_simp; try with_reducible rfl))
          (try simp only [Act.put, List.setIfInBounds_toArray, List.set_cons_zero, List.set_cons_succ])  -- 10 move some (1, true)
          refine wpAnyH_take (i := 11) (oi := { dst := some 131, op := Go.Op.indexAddr 48 (Go.Operand.tmp 129) (Go.Operand.tmp 130), type := 0, pos := "law.go:47", after := #[{ on := 9, ground := Go.Ground.data }, { on := 10, ground := Go.Ground.data }, { on := 1, ground := Go.Ground.guard }], guard := some (1, true) }) (v := ?_) rfl (by kernel_rfl) (by kernel_rfl) (by kernel_rfl) (fun _ _ _ h => h) (Or.inl ⟨by rfl, ?_⟩) (by assumption) ?_
          (rotate_left; focus (intro wx hSw; (try dsimp only at hSw); go_simp; try with_reducible rfl))
          (try simp only [Act.put, List.setIfInBounds_toArray, List.set_cons_zero, List.set_cons_succ])  -- 11 indexAddr some (1, true)
          refine wpAnyH_take (i := 12) (oi := { dst := some 132, op := Go.Op.load 55 (Go.Operand.tmp 131), type := 55, pos := "law.go:47", after := #[{ on := 11, ground := Go.Ground.data }, { on := 1, ground := Go.Ground.guard }], guard := some (1, true) }) (v := ?_) rfl (by kernel_rfl) (by kernel_rfl) (by kernel_rfl) (fun _ _ _ h => h) (Or.inl ⟨by rfl, ?_⟩) (by assumption) ?_
          (rotate_left; focus (intro wx hSw; (try dsimp only at hSw); go_simp; try with_reducible rfl))
          (try simp only [Act.put, List.setIfInBounds_toArray, List.set_cons_zero, List.set_cons_succ])  -- 12 load some (1, true)
          refine wpAnyH_take (i := 13) (oi := { dst := some 133, op := Go.Op.binOp Go.BinOp.eql 55 (Go.Operand.tmp 128) (Go.Operand.tmp 132) 55, type := 4, pos := "law.go:47", after := #[{ on := 8, ground := Go.Ground.data }, { on := 12, ground := Go.Ground.data }, { on := 1, ground := Go.Ground.guard }], guard := some (1, true) }) (v := ?_) rfl (by kernel_rfl) (by kernel_rfl) (by kernel_rfl) (fun _ _ _ h => h) (Or.inl ⟨by rfl, ?_⟩) (by assumption) ?_
          (rotate_left; focus (intro wx hSw; (try dsimp only at hSw); go_simp; try with_reducible rfl))
          (try simp only [Act.put, List.setIfInBounds_toArray, List.set_cons_zero, List.set_cons_succ])  -- 13 binOp some (1, true)
          refine wpAnyH_ready (rs := [4]) (by kernel_rfl) (by simp) ?_
          refine AllReadyH.cons (o := { dst := some 124, op := Go.Op.call { callee := Go.Callee.value (Go.Operand.func 27), args := #[Go.Operand.tmp 122, Go.Operand.tmp 123], argTypes := #[48, 48] }, type := 4, pos := "law.go:47", after := #[{ on := 2, ground := Go.Ground.data }, { on := 3, ground := Go.Ground.data }, { on := 1, ground := Go.Ground.chain }, { on := 1, ground := Go.Ground.guard }], guard := some (1, true) }) rfl (fun K hK => ?_) AllReadyH.nil
          go_simp
          refine (CP.out _ hHeld).mono ?_; rintro e w11 ⟨rfl, t11⟩
          refine hK.out _ _ ?_ (fun hHeld => ?_)
          focus exact t11
          clear hK K
          (try simp only [Act.put, List.setIfInBounds_toArray, List.set_cons_zero, List.set_cons_succ])  -- 4 call some (1, true)
          refine wpAnyH_take (i := 14) (oi := { dst := some 134, op := Go.Op.binOp Go.BinOp.eql 4 (Go.Operand.tmp 124) (Go.Operand.tmp 133) 4, type := 4, pos := "law.go:47", after := #[{ on := 4, ground := Go.Ground.data }, { on := 13, ground := Go.Ground.data }, { on := 1, ground := Go.Ground.guard }], guard := some (1, true) }) (v := ?_) rfl (by kernel_rfl) (by kernel_rfl) (by kernel_rfl) (fun _ _ _ h => h) (Or.inl ⟨by rfl, ?_⟩) (by assumption) ?_
          (rotate_left; focus (intro wx hSw; (try dsimp only at hSw); go_simp; try with_reducible rfl))
          (try simp only [Act.put, List.setIfInBounds_toArray, List.set_cons_zero, List.set_cons_succ])  -- 14 binOp some (1, true)
          refine wpAnyH_take (i := 15) (oi := { dst := some 135, op := Go.Op.pick (Go.Operand.tmp 121) (Go.Operand.tmp 134) (Go.Operand.const (Go.Value.bool false)), type := 4, pos := "law.go:47", after := #[{ on := 1, ground := Go.Ground.data }, { on := 14, ground := Go.Ground.data }], guard := none }) (v := ?_) rfl (by kernel_rfl) (by kernel_rfl) (by kernel_rfl) (fun _ _ _ h => h) (Or.inl ⟨by rfl, ?_⟩) (by assumption) ?_
          (rotate_left; focus (intro wx hSw; (try dsimp only at hSw); go_simp; try with_reducible rfl))
          (try simp only [Act.put, List.setIfInBounds_toArray, List.set_cons_zero, List.set_cons_succ])  -- 15 pick none
          refine wpAnyH_take (i := 16) (oi := { dst := some 10, op := Go.Op.assign (Go.Operand.tmp 135), type := 4, pos := "law.go:47", after := #[{ on := 15, ground := Go.Ground.data }, { on := 4, ground := Go.Ground.chain }, { on := 0, ground := Go.Ground.phase }, { on := 1, ground := Go.Ground.phase }, { on := 2, ground := Go.Ground.phase }, { on := 3, ground := Go.Ground.phase }, { on := 4, ground := Go.Ground.phase }, { on := 5, ground := Go.Ground.phase }, { on := 6, ground := Go.Ground.phase }, { on := 7, ground := Go.Ground.phase }, { on := 8, ground := Go.Ground.phase }, { on := 9, ground := Go.Ground.phase }, { on := 10, ground := Go.Ground.phase }, { on := 11, ground := Go.Ground.phase }, { on := 12, ground := Go.Ground.phase }, { on := 13, ground := Go.Ground.phase }, { on := 14, ground := Go.Ground.phase }, { on := 15, ground := Go.Ground.phase }], guard := none }) (v := ?_) rfl (by kernel_rfl) (by kernel_rfl) (by kernel_rfl) (fun _ _ _ h => h) (Or.inl ⟨by rfl, ?_⟩) (by assumption) ?_
          (rotate_left; focus (intro wx hSw; (try dsimp only at hSw); go_simp; try with_reducible rfl))
          (try simp only [Act.put, List.setIfInBounds_toArray, List.set_cons_zero, List.set_cons_succ])  -- 16 assign none
          refine wpAnyH_done (by kernel_rfl) ?_ _
          have B11 := Lib.hid hHeld.2.2.2.2.2.2.2.2.2.2.out.2.2
          clear hHeld CA CP
          go_wp2
          go_ret
          exact ⟨rfl, B11.out⟩
end Go.Proofs.Ytojgpgjmcamfoaa
