/- The contracts of audit.Apart and of its reference. -/
import Derived.Test.YtojgpgjmcamfoaaAud1
import Derived.Test.YtojgpgjmcamfoaaAudM
namespace Go.Proofs.Ytojgpgjmcamfoaa
open Go.RowKit Go.Lib
set_option linter.unusedVariables false

theorem still0 {P : Program} {f : FuncId} {args : Array Value} {w : World} {v : Value} (h : Calls P f args w fun e w' => e = .returned v ∧ w = w') : Calls P f args w fun e w' => e = .returned v ∧ w' = w :=
  h.mono fun _ _ ⟨he, hm⟩ => ⟨he, hm.symm⟩
theorem NatRow.below' {w w' : World} {a : Option Addr} {xs : List Nat} (h : NatRow w a xs) (hb : Below w.heap.size w w') : NatRow w' a xs := by
  refine ⟨h.1, h.2.1, fun h0 => ?_⟩
  obtain ⟨b, off, ha, hl, hc⟩ := h.2.2 h0
  exact ⟨b, off, ha, Nat.lt_of_lt_of_le hl hb.size, fun j hj => (hb.cell (p := ⟨b, off + j, none⟩) hl).trans (hc j hj)⟩

def numD (n : Nat) : DataW Unit := .lit (.int .u64 n)
theorem zeroNum (w : World) : (zeroValue 22).run Try.prog w = .ok (.int .u64 0) w := by kernel_rfl
abbrev NumMap (w : World) (b n : Nat) (f : Int → Option Nat) : Prop := MapIs Try.prog 3 (plainElem Try.prog 22) numD (numD 0) w b n f
theorem num_mk (n : Nat) (h : n < 18446744073709551616) : plainElem (H := Unit) Try.prog 22 (.int .u64 n) = some (numD n, []) := plainElem_int Try.underlying22 (WalkArith.wf_u64 (by omega))
theorem num_inv {v : Value} {n : Nat} {ps : List MemPlace} (h : plainElem (H := Unit) Try.prog 22 v = some (numD n, ps)) : v = .int .u64 n := by
  obtain ⟨a, rfl, h2, _⟩ := plainElem_int_inv Try.underlying22 h
  simp only [numD, Prod.mk.injEq, DataW.lit.injEq, Lit.int.injEq, true_and] at h2
  rw [← h2.1]
theorem NumMap.none {w : World} {b n : Nat} {f : Int → Option Nat} (h : NumMap w b n f) {s : Int} (hs : (Lit.int .i64 s).wf = true) (hf : f s = none) :
    (Instr.lookup 87 (.map (some b)) (.int .i64 s) true).run Try.prog w = .ok (.tuple #[.int .u64 0, .bool false]) w := by
  obtain ⟨v, ps, hr, h⟩ := h.look Try.underlying3 Try.underlying87 (zeroNum w) (num_mk 0 (by omega)) hs
  rcases h with ⟨h1, h2⟩ | ⟨x, h1, h2⟩
  · rw [h1, num_inv h2] at hr
    exact hr
  · rw [h1] at hf; cases hf
theorem NumMap.some {w : World} {b n : Nat} {f : Int → Option Nat} (h : NumMap w b n f) {s : Int} (hs : (Lit.int .i64 s).wf = true) {x : Nat} (hf : f s = some x) :
    (Instr.lookup 87 (.map (some b)) (.int .i64 s) true).run Try.prog w = .ok (.tuple #[.int .u64 x, .bool true]) w := by
  obtain ⟨v, ps, hr, h⟩ := h.look Try.underlying3 Try.underlying87 (zeroNum w) (num_mk 0 (by omega)) hs
  rcases h with ⟨h1, h2⟩ | ⟨y, h1, h2⟩
  · rw [h1] at hf; cases hf
  · rw [h1] at hf
    cases hf
    rw [h1, num_inv h2] at hr
    exact hr

def ApRel (at_ rates : List Nat) (l : List Sg) (w0 : World) (v27 : Value) (wr : World) : Prop :=
  ∃ i n : Nat, i ≤ l.length ∧ n ≤ i ∧ (nSt at_ l rates i).2 = true ∧ v27 = .int .i64 i ∧ NumMap wr w0.heap.size n (nSt at_ l rates i).1 ∧ Below w0.heap.size w0 wr

theorem apart_no {at_ rates : List Nat} {l : List Sg} (h : ¬ (at_.length = l.length ∧ rates.length = l.length)) : apartF at_ l rates = false := by
  unfold apartF
  by_cases h1 : at_.length = l.length
  · have h2 : ¬ rates.length = l.length := fun h2 => h ⟨h1, h2⟩
    simp [h2]
  · simp [h1]

set_option maxRecDepth 8000 in
set_option maxHeartbeats 4000000 in
theorem apart_any (a a2 a3 : Option Addr) (c1 c2 c3 : Nat) (at_ rates : List Nat) (l : List Sg) (w : World) (ha : NatRow w a at_) (hl : SegRow w a2 l) (hr : NatRow w a3 rates) :
    Calls Try.prog 33 #[.slice a at_.length c1, .slice a2 l.length c2, .slice a3 rates.length c3] w fun e w' => e = .returned (.bool (apartF at_ l rates)) ∧ Below w.heap.size w w' := by
  have b1 := ha.1
  have b2 := hl.1
  have b3 := hr.1
  have HA := Lib.hid ha
  have HL := Lib.hid hl
  have HR := Lib.hid hr
  clear ha hl hr
  obtain ⟨R, hR⟩ : ∃ R, apartF at_ l rates = R := ⟨_, rfl⟩
  have HF := Lib.hid hR
  rw [hR]
  clear hR
  by_cases hlen : at_.length = l.length ∧ rates.length = l.length
  · obtain ⟨h1, h2⟩ := hlen
    have H1 := Lib.hid h1
    have H2 := Lib.hid h2
    rw [h1, h2]
    clear h1 h2 b1 b3
    have hmm := @run_makeMap Try.prog
    have hfn : apartF at_ l rates = (nSt at_ l rates l.length).2 := by simp [apartF, H1.out, H2.out]
    have HFN := Lib.hid hfn
    clear hfn
    go_enter Try.func33, Try.ntmps33
    go_wp2
    clear hmm
    go_loopw [27] (fun v27 wr => ApRel at_ rates l w v27 wr) (fun v27 _ => l.length - (intOf v27).toNat)
    case atStart => exact ⟨0, 0, by omega, by omega, rfl, rfl, MapIs.made w, (Below.refl _ _).alloc (Nat.le_refl _) _⟩
    case round =>
      obtain ⟨i, n, hi1, hn1, hok, rfl, hM, hB⟩ := hrel
      have HB := Lib.hid hB
      have HM := Lib.hid hM
      have HT := Lib.hid hok
      clear hok hM
      by_cases hlt : i < l.length
      · obtain ⟨b, off, x, rfl, hb, hx, hok, c0, c1, c2, c3, c4⟩ := (HL.out.below hB).at_ hlt
        obtain ⟨b', off', t, rfl, hb', ht, ht2, ht3, d0⟩ := (HA.out.below' hB).at_ (k := i) (by rw [H1.out]; exact hlt)
        obtain ⟨b'', off'', r, rfl, hb'', hr, hr2, hr3, e0⟩ := (HR.out.below' hB).at_ (k := i) (by rw [H2.out]; exact hlt)
        have HST : Hid (nSt at_ l rates (i + 1) = nStep (nSt at_ l rates i) x t r) := by
          rw [nSt, getD_of hx, ht2, hr2]
          exact Lib.hid rfl
        have HS : Hid (x.ok ∧ t < 18446744073709551616 ∧ r < 18446744073709551616) := Lib.hid ⟨hok, ht, hr⟩
        have CO := Lib.hid (of_any x.len r hok.2.2.1.2 hok.2.2.1.1 hr)
        have CA := Lib.hid (add_any t (delayOf x.len r) ht (by have := delayOf_le x.len r; omega))
        have hs : (Lit.int .i64 x.sock).wf = true := WalkArith.wf_i64 hok.1
        have HV : Hid (plainElem (H := Unit) Try.prog 22 (.int .u64 (satAdd t (delayOf x.len r) : Nat)) = some (numD (satAdd t (delayOf x.len r)), [])) := Lib.hid (num_mk _ satAdd_lt)
        obtain ⟨B, hBB⟩ : ∃ B, w.heap.size = B := ⟨_, rfl⟩
        have HBB := Lib.hid hBB
        have M1 := Lib.hid (HM.out.alloc (.cells #[.int .i64 x.sock, .int .u64 x.fr, .int .i64 x.len, .int .u64 x.stamp, .bool x.again] 55))
        have B1 := Lib.hid (HB.out.alloc HB.out.size (.cells #[.int .i64 x.sock, .int .u64 x.fr, .int .i64 x.len, .int .u64 x.stamp, .bool x.again] 55))
        have hE := HST.out
        rw [nStep] at hE
        rw [hBB] at M1 ⊢
        have hB1 : B < wr.heap.size := by rw [← hBB]; exact HM.out.lt
        have HE := Lib.hid hE
        clear hBB hE ht hr hok hx ht2 ht3 hr2 hr3 hB
        generalize hdd : delayOf x.len r = dl at *
        generalize haa : satAdd t dl = ad at *
        have AX : Hid (At (wr.alloc (.cells #[.int .i64 x.sock, .int .u64 x.fr, .int .i64 x.len, .int .u64 x.stamp, .bool x.again] 55)) wr.heap.size 55 #[.int .i64 x.sock, .int .u64 x.fr, .int .i64 x.len, .int .u64 x.stamp, .bool x.again]) := Lib.hid (At.made wr _ _)
        have D1 : Hid ((wr.alloc (.cells #[.int .i64 x.sock, .int .u64 x.fr, .int .i64 x.len, .int .u64 x.stamp, .bool x.again] 55)).cell? ⟨b', off' + i, none⟩ = some (.int .u64 t)) := Lib.hid ((((Below.refl wr.heap.size wr).alloc (Nat.le_refl _) _).cell (p := ⟨b', off' + i, none⟩) hb').trans d0)
        have E1 : Hid ((wr.alloc (.cells #[.int .i64 x.sock, .int .u64 x.fr, .int .i64 x.len, .int .u64 x.stamp, .bool x.again] 55)).cell? ⟨b'', off'' + i, none⟩ = some (.int .u64 r)) := Lib.hid ((((Below.refl wr.heap.size wr).alloc (Nat.le_refl _) _).cell (p := ⟨b'', off'' + i, none⟩) hb'').trans e0)
        cases hf : (nSt at_ l rates i).1 x.sock
        · have hrun := NumMap.none M1.out hs hf
          have HE3 : Hid ((nSt at_ l rates (i + 1)).2 = true) := Lib.hid (by rw [HE.out, hf, HT.out]; rfl)
          clear hf hdd haa
          go_wp2_with fail
          generalize (wr.alloc (.cells #[.int .i64 x.sock, .int .u64 x.fr, .int .i64 x.len, .int .u64 x.stamp, .bool x.again] 55)) = w4 at *
          clear hrun c0 c1 c2 c3 c4 d0 e0
          have g0 := AX.out.cell 0
          have g2 := AX.out.cell 2
          simp only [List.getElem?_toArray, List.getElem?_cons_zero, List.getElem?_cons_succ] at g0 g2
          have g3 := D1.out
          have g4 := E1.out
          refine wp_region_still_tail 15 (by kernel_rfl) (by kernel_rfl) ?_
          simp only [List.take_succ_cons, List.take_zero, List.drop_succ_cons, List.drop_zero]
          iterate 13 still_step
          still_call (still0 (CO.out _))
          still_call (still0 (CA.out _))
          try refine wpStill_nil ?_
          change wpList _ _ _ _ _ w4.drew
          go_wp2_with (at_mapUpdate; refine wpList_put_is _ rfl _ _ _ 87 rfl 22 Try.underlying3 Try.underlying87 rfl M1.out.drew ?c1 x.sock hs _ rfl rfl _ [] HV.out ?_)
          case c1 => unfold maxLen; omega
          intro w5 hM5 hg5
          have M5 : Hid (NumMap w5 w.heap.size (n + 1) (nSt at_ l rates (i + 1)).1) := by
            rw [HE.out, HBB.out]
            exact Lib.hid hM5
          have B5 := Lib.hid (B1.out.drew.grown hg5 (by have := B1.out.size; simpa using this) (fun k hk => by cases hk; rw [HBB.out]; exact Nat.le_refl _))
          clear hM5 hg5 g0 g2 g3 g4
          go_wp2
          go_roundw
          case rel => exact ⟨i + 1, n + 1, by omega, by omega, HE3.out, by simp, M5.out, B5.out⟩
          case measure => simp [intOf]; omega
        · rename_i u
          have hrun := NumMap.some M1.out hs hf
          have HE3' : Hid ((nSt at_ l rates (i + 1)).2 = decide (u ≤ t)) := Lib.hid (by rw [HE.out, hf, HT.out]; rfl)
          clear hf hdd haa
          by_cases htu : t < u
          · have e := HE3'.out
            rw [decide_eq_false (by omega)] at e
            have hF := HF.out
            rw [apartF_false e (by omega)] at hF
            subst hF
            clear e
            go_wp2
            go_ret
            exact ⟨rfl, B1.out⟩
          · have e := HE3'.out
            rw [decide_eq_true (by omega)] at e
            have HE3 := Lib.hid e
            have hge : u ≤ t := by omega
            clear e htu
            go_wp2_with fail
            generalize (wr.alloc (.cells #[.int .i64 x.sock, .int .u64 x.fr, .int .i64 x.len, .int .u64 x.stamp, .bool x.again] 55)) = w4 at *
            clear hrun c0 c1 c2 c3 c4 d0 e0
            have g0 := AX.out.cell 0
            have g2 := AX.out.cell 2
            simp only [List.getElem?_toArray, List.getElem?_cons_zero, List.getElem?_cons_succ] at g0 g2
            have g3 := D1.out
            have g4 := E1.out
            refine wp_region_still_tail 15 (by kernel_rfl) (by kernel_rfl) ?_
            simp only [List.take_succ_cons, List.take_zero, List.drop_succ_cons, List.drop_zero]
            iterate 13 still_step
            still_call (still0 (CO.out _))
            still_call (still0 (CA.out _))
            try refine wpStill_nil ?_
            change wpList _ _ _ _ _ w4.drew
            go_wp2_with (at_mapUpdate; refine wpList_put_is _ rfl _ _ _ 87 rfl 22 Try.underlying3 Try.underlying87 rfl M1.out.drew ?d1 x.sock hs _ rfl rfl _ [] HV.out ?_)
            case d1 => unfold maxLen; omega
            intro w5 hM5 hg5
            have M5 : Hid (NumMap w5 w.heap.size (n + 1) (nSt at_ l rates (i + 1)).1) := by
              rw [HE.out, HBB.out]
              exact Lib.hid hM5
            have B5 := Lib.hid (B1.out.drew.grown hg5 (by have := B1.out.size; simpa using this) (fun k hk => by cases hk; rw [HBB.out]; exact Nat.le_refl _))
            clear hM5 hg5 g0 g2 g3 g4
            go_wp2
            go_roundw
            case rel => exact ⟨i + 1, n + 1, by omega, by omega, HE3.out, by simp, M5.out, B5.out⟩
            case measure => simp [intOf]; omega
      · have hF := HF.out
        have hT := HT.out
        rw [show i = l.length by omega, ← HFN.out] at hT
        rw [hT] at hF
        subst hF
        clear hB hT
        go_wp2
        go_ret
        exact ⟨rfl, HB.out⟩
  · have hF := HF.out
    rw [apart_no hlen] at hF
    subst hF
    have hx : ((at_.length : Int) != l.length) = true ∨ ((at_.length : Int) != l.length) = false ∧ ((rates.length : Int) != l.length) = true := by simp; omega
    clear hlen
    rcases hx with hx | ⟨hx, hx2⟩
    all_goals
      go_enter Try.func33, Try.ntmps33
      go_wp2
      go_ret
      exact ⟨rfl, Below.refl _ _⟩

def RApRel (at_ rates : List Nat) (l : List Sg) (w0 : World) (v7 : Value) (wr : World) : Prop :=
  ∃ i : Nat, i ≤ l.length ∧ (nSt at_ l rates i).2 = true ∧ v7 = .int .i64 i ∧ Below w0.heap.size w0 wr
def RApIn (at_ rates : List Nat) (l : List Sg) (s : Int) (i : Nat) (w0 : World) (v8 : Value) (wr : World) : Prop :=
  ∃ k : Nat, k ≤ i ∧ (nSt at_ l rates i).1 s = (nSt at_ l rates k).1 s ∧ v8 = .int .i64 ((k : Int) - 1) ∧ Below w0.heap.size w0 wr

set_option maxRecDepth 8000 in
set_option maxHeartbeats 4000000 in
theorem rapart_any (a a2 a3 : Option Addr) (c1 c2 c3 : Nat) (at_ rates : List Nat) (l : List Sg) (w : World) (ha : NatRow w a at_) (hl : SegRow w a2 l) (hr : NatRow w a3 rates) :
    Calls Try.prog 34 #[.slice a at_.length c1, .slice a2 l.length c2, .slice a3 rates.length c3] w fun e w' => e = .returned (.bool (apartF at_ l rates)) ∧ Below w.heap.size w w' := by
  have b1 := ha.1
  have b2 := hl.1
  have b3 := hr.1
  have HA := Lib.hid ha
  have HL := Lib.hid hl
  have HR := Lib.hid hr
  clear ha hl hr
  obtain ⟨R, hR⟩ : ∃ R, apartF at_ l rates = R := ⟨_, rfl⟩
  have HF := Lib.hid hR
  rw [hR]
  clear hR
  by_cases hlen : at_.length = l.length ∧ rates.length = l.length
  · obtain ⟨h1, h2⟩ := hlen
    have H1 := Lib.hid h1
    have H2 := Lib.hid h2
    rw [h1, h2]
    clear h1 h2 b1 b3
    have hfn : apartF at_ l rates = (nSt at_ l rates l.length).2 := by simp [apartF, H1.out, H2.out]
    have HFN := Lib.hid hfn
    clear hfn
    go_enter Try.func34, Try.ntmps34
    go_wp2
    go_loopw [7] (fun v7 wr => RApRel at_ rates l w v7 wr) (fun v7 _ => l.length - (intOf v7).toNat)
    case atStart => exact ⟨0, by omega, rfl, rfl, Below.refl _ _⟩
    case round =>
      obtain ⟨i, hi1, hok, rfl, hB⟩ := hrel
      have HB := Lib.hid hB
      have HT := Lib.hid hok
      clear hok
      by_cases hlt : i < l.length
      · obtain ⟨b, off, x, rfl, hb, hx, hok, c0, _⟩ := (HL.out.below hB).at_ hlt
        obtain ⟨b', off', t, rfl, hb', ht, ht2, ht3, d0⟩ := (HA.out.below' hB).at_ (k := i) (by rw [H1.out]; exact hlt)
        obtain ⟨b'', off'', r, rfl, hb'', hr, hr2, hr3, e0⟩ := (HR.out.below' hB).at_ (k := i) (by rw [H2.out]; exact hlt)
        have HST : Hid (nSt at_ l rates (i + 1) = nStep (nSt at_ l rates i) x t r) := by
          rw [nSt, getD_of hx, ht2, hr2]
          exact Lib.hid rfl
        have HX := Lib.hid (And.intro hx ht3)
        clear hB hx hok ht ht2 ht3 hr hr2 hr3 c0 d0 e0
        go_wp2_with fail
        obtain ⟨wo, hwo⟩ : ∃ wo : World, wo = wr := ⟨_, rfl⟩
        subst hwo
        go_loopw [8] (fun v8 wq => RApIn at_ rates l x.sock i w v8 wq) (fun v8 _ => (intOf v8 + 1).toNat)
        case atStart => exact ⟨i, by omega, rfl, rfl, HB.out⟩
        case round =>
          obtain ⟨k, hk, hat, rfl, hB3⟩ := hrel
          have HB3 := Lib.hid hB3
          have HT3 := Lib.hid hat
          clear hat
          have e := HST.out
          rw [nStep, HT.out, HT3.out] at e
          have HE := Lib.hid e
          clear e
          rcases Nat.eq_zero_or_pos k with hk0 | hk0
          · subst hk0
            have HE3 : Hid ((nSt at_ l rates (i + 1)).2 = true) := Lib.hid (by rw [HE.out]; rfl)
            clear hB3
            go_wp2
            go_roundw
            case rel => exact ⟨i + 1, by omega, HE3.out, by simp, HB3.out⟩
            case measure => simp [intOf]; omega
          · obtain ⟨q, rfl⟩ : ∃ q, k = q + 1 := ⟨k - 1, by omega⟩
            obtain ⟨_, _, x', e, hl1, hx', _, c0, _⟩ := (HL.out.below hB3).at_ (k := i) hlt
            cases e
            obtain rfl : x = x' := Option.some.inj (HX.out.1.symm.trans hx')
            obtain ⟨_, _, t', e, hl2, _, _, ht', d0⟩ := (HA.out.below' hB3).at_ (k := i) (by rw [H1.out]; exact hlt)
            cases e
            obtain rfl : t = t' := Option.some.inj (HX.out.2.symm.trans ht')
            obtain ⟨_, _, y, e, _, hy, hok', f0, _, f2, _⟩ := (HL.out.below hB3).at_ (k := q) (by omega)
            cases e
            obtain ⟨_, _, u, e, _, hu, hu2, hu3, g0⟩ := (HA.out.below' hB3).at_ (k := q) (by rw [H1.out]; omega)
            cases e
            obtain ⟨_, _, v, e, _, hv, hv2, hv3, h0⟩ := (HR.out.below' hB3).at_ (k := q) (by rw [H2.out]; omega)
            cases e
            have hbk := nSt_back at_ l rates q x.sock
            rw [getD_of hy, hu2, hv2] at hbk
            have q1 : ((q + 1 : Nat) : Int) - 1 = q := by omega
            rw [q1]
            have HQ : (-1 : Int) < q := by omega
            have CO := Lib.hid (rof_any y.len v hok'.2.2.1.2 hok'.2.2.1.1 hv)
            have CA := Lib.hid (radd_any u (delayOf y.len v) hu (by have := delayOf_le y.len v; omega))
            clear hB3 q1 hx' ht' hy hok' hu hu2 hu3 hv hv2 hv3
            generalize delayOf y.len v = dl at *
            by_cases hs : y.sock = x.sock
            · rw [if_pos hs] at hbk
              have HE3 : Hid ((nSt at_ l rates (i + 1)).2 = decide (satAdd u dl ≤ t)) := Lib.hid (by rw [HE.out, hbk]; rfl)
              have y0 : (y.sock == x.sock) = true := by simpa using hs
              have y1 : (y.sock != x.sock) = false := by simpa using hs
              clear hbk hs
              generalize satAdd u dl = ad at *
              go_wp2_with fail
              go_quiet (fail)
              go_wp2_with fail
              go_quiet ((first | (go_at_call 50; exact still2 (CO.out _)) | (go_at_call 44; exact still2 (CA.out _))))
              by_cases hlt2 : t < ad
              · have e := HE3.out
                rw [decide_eq_false (by omega)] at e
                have hF := HF.out
                rw [apartF_false e (by omega)] at hF
                subst hF
                clear e
                go_wp2
                go_ret
                exact ⟨rfl, by first | exact below_drewN (below_drewN HB3.out _) _ | exact below_drewN HB3.out _⟩
              · have e := HE3.out
                rw [decide_eq_true (by omega)] at e
                have HE4 := Lib.hid e
                have hge2 : ad ≤ t := by omega
                clear e hlt2
                go_wp2
                go_roundw
                case rel => exact ⟨i + 1, by omega, HE4.out, by simp, by first | exact below_drewN (below_drewN HB3.out _) _ | exact below_drewN HB3.out _⟩
                case measure => simp [intOf]; omega
            · rw [if_neg hs] at hbk
              have y0 : (y.sock == x.sock) = false := by simpa using hs
              have y1 : (y.sock != x.sock) = true := by simpa using hs
              have HK := Lib.hid hbk
              clear hbk hs
              go_wp2_with fail
              go_quiet (fail)
              go_wp2
              go_roundw
              case rel => exact ⟨q, by omega, HT3.out.trans HK.out, rfl, below_drewN HB3.out _⟩
              case measure => simp [intOf]; try omega
      · have hF := HF.out
        have hT := HT.out
        rw [show i = l.length by omega, ← HFN.out] at hT
        rw [hT] at hF
        subst hF
        clear hB hT
        go_wp2
        go_ret
        exact ⟨rfl, HB.out⟩
  · have hF := HF.out
    rw [apart_no hlen] at hF
    subst hF
    have hx : ((at_.length : Int) != l.length) = true ∨ ((at_.length : Int) != l.length) = false ∧ ((rates.length : Int) != l.length) = true := by simp; omega
    clear hlen
    rcases hx with hx | ⟨hx, hx2⟩
    all_goals
      go_enter Try.func34, Try.ntmps34
      go_wp2
      go_ret
      exact ⟨rfl, Below.refl _ _⟩
end Go.Proofs.Ytojgpgjmcamfoaa
