/- The copies of the statements on sat, and the walk of SatTells. -/
import Derived.Test.YtgdbmjokpbjoaaaLaw01a
import Derived.Test.YtgdbmjokpbjoaaaObj
namespace Go.Proofs.Ytgdbmjokpbjoaaa
open Go.RowKit Go.Lib
set_option linter.unusedVariables false

def nv (n : Nat) : Value := .int .u64 n
/-- a copy with three more behind it -/
def Copy3 (w : World) (g : Nat) (xs : List Nat) (j : Nat) : Prop :=
  ∃ cur : Array Value, At w g 22 cur ∧ cur.size = xs.length + 3 ∧ (∀ i, i < xs.length → cur[i]? = some (.int .u64 (xs.getD i 0 : Nat))) ∧ ∀ i, xs.length ≤ i → i < j → cur[i]? = some (.int .u64 71)
theorem Copy3.cell {w : World} {g j : Nat} {xs : List Nat} (h : Copy3 w g xs j) {i : Nat} (hi : i < xs.length + 3) : ∃ v, w.cell? ⟨g, i, none⟩ = some v := by
  obtain ⟨cur, h1, h2, _⟩ := h
  rw [h1.cell i]
  exact ⟨_, Array.getElem?_eq_getElem (by omega)⟩
theorem Copy3.free {w : World} {g j : Nat} {xs : List Nat} (h : Copy3 w g xs j) (i : Nat) : w.frozen? ⟨g, i, none⟩ = false := by
  obtain ⟨cur, h1, _⟩ := h
  exact h1.free i
theorem Copy3.put {w : World} {g j : Nat} {xs : List Nat} (h : Copy3 w g xs j) (hj : j < xs.length + 3) (hl : xs.length ≤ j) : Copy3 (w.setCell ⟨g, j, none⟩ (.int .u64 71)) g xs (j + 1) := by
  obtain ⟨cur, h1, h2, h3, h4⟩ := h
  refine ⟨cur.setIfInBounds j (.int .u64 71), h1.set j, by simpa using h2, fun i hi => ?_, fun i hi hi2 => ?_⟩
  · rw [Array.getElem?_setIfInBounds_ne (by omega)]; exact h3 i hi
  · rcases Nat.lt_or_ge i j with h | h
    · rw [Array.getElem?_setIfInBounds_ne (by omega)]; exact h4 i hi h
    · obtain rfl : i = j := by omega
      rw [Array.getElem?_setIfInBounds_self_of_lt (by omega)]
theorem Copy3.below {w w' : World} {g j : Nat} {xs : List Nat} (h : Copy3 w g xs j) (hb : Below w.heap.size w w') : Copy3 w' g xs j := by
  obtain ⟨cur, h1, h2⟩ := h
  exact ⟨cur, h1.below hb h1.lt, h2⟩
theorem Copy3.row {w : World} {g j : Nat} {xs : List Nat} (h : Copy3 w g xs j) (hl : xs.length ≤ 9223372036854775807) (hb : ∀ x ∈ xs, x < 18446744073709551616) : NatRow w (some ⟨g, 0, none⟩) xs := by
  obtain ⟨cur, h1, h2, h3, _⟩ := h
  exact ⟨hl, hb, fun _ => ⟨g, 0, rfl, h1.lt, fun i hi => by rw [Nat.zero_add, h1.cell i]; exact h3 i hi⟩⟩
theorem Copy3.rest {w : World} {g : Nat} {xs : List Nat} (h : Copy3 w g xs (xs.length + 3)) {i : Nat} (h1 : xs.length ≤ i) (h2 : i < xs.length + 3) : w.cell? ⟨g, i, none⟩ = some (.int .u64 71) := by
  obtain ⟨cur, k1, _, _, k4⟩ := h
  rw [k1.cell i]
  exact k4 i h1 h2
theorem NatRow.below3 {w w' : World} {a : Option Addr} {xs : List Nat} (h : NatRow w a xs) (hb : Below w.heap.size w w') : NatRow w' a xs := by
  refine ⟨h.1, h.2.1, fun h0 => ?_⟩
  obtain ⟨b, off, ha, hl, hc⟩ := h.2.2 h0
  exact ⟨b, off, ha, Nat.lt_of_lt_of_le hl hb.size, fun j hj => (hb.cell (p := ⟨b, off + j, none⟩) hl).trans (hc j hj)⟩

theorem nat_nil {w : World} {a : Option Addr} {xs : List Nat} (hr : NatRow w a xs) (h : a = none) : xs.length = 0 := by
  rcases Nat.eq_zero_or_pos xs.length with h0 | h0
  · exact h0
  · obtain ⟨b, off, ha, _⟩ := hr.2.2 h0
    rw [h] at ha
    cases ha
theorem own_copy3 {w : World} {B g n cap : Nat} {xs : List Nat} (h : w.ownsRow B 22 1 (.slice (some ⟨g, 0, none⟩) n cap) n (xs.map nv)) (hn : xs.length = n) (hc : n + 3 = cap) : Copy3 w g xs xs.length := by
  rcases h.2 with ⟨h0, _⟩ | ⟨g', cap', cur, hv, hb, hg, h1, h2, h3, h4⟩
  · cases h0
  · cases hv
    refine ⟨cur, hg, by omega, fun i hi => ?_, fun i h1 h2 => by omega⟩
    have : (cur.toList.take (n * 1))[i]? = some (.int .u64 (xs.getD i 0 : Nat)) := by
      rw [h4, List.getElem?_map, List.getElem?_eq_getElem hi, List.getD_eq_getElem?_getD, List.getElem?_eq_getElem hi]
      rfl
    rw [← this, List.getElem?_take_of_lt (by omega)]
    simp
def OwnRel (xs : List Nat) (g : Nat) (w0 : World) (v7 : Value) (wr : World) : Prop :=
  ∃ j : Nat, xs.length ≤ j ∧ j ≤ xs.length + 3 ∧ v7 = .int .i64 j ∧ Copy3 wr g xs j ∧ Below w0.heap.size w0 wr

set_option maxRecDepth 8000 in
set_option maxHeartbeats 4000000 in
theorem own_any (a : Option Addr) (xs : List Nat) (cap : Nat) (w : World) (hl : xs.length ≤ 100) (hr : NatRow w a xs) (hn : a = none → cap = 0) :
    Calls Try.prog 15 #[.slice a xs.length cap, .int .u64 71] w fun e w' => e = .returned (.slice (some ⟨w.heap.size, 0, none⟩) xs.length (xs.length + 3)) ∧ Copy3 w' w.heap.size xs (xs.length + 3) ∧ Below w.heap.size w w' := by
  have HR := Lib.hid hr
  have HN : Hid (a = none → xs.length = 0 ∧ cap = 0) := Lib.hid (fun h => ⟨nat_nil hr h, hn h⟩)
  clear hr hn
  obtain ⟨i0, hi, hz0, hz1, hz2⟩ : ∃ i : TypeInfo, Try.prog.info? 22 = some i ∧ i.zero = some (.int .u64 0) ∧ i.size = 1 ∧ i.bytes = 8 := ⟨_, rfl, rfl, rfl, rfl⟩
  have HI := Lib.hid (And.intro hi (And.intro hz0 (And.intro hz1 hz2)))
  clear hi hz0 hz1 hz2
  obtain ⟨L, hL⟩ : ∃ L, xs.length = L := ⟨_, rfl⟩
  have HL := Lib.hid hL
  rw [hL] at hl ⊢
  clear hL
  obtain ⟨L3, hL3⟩ : ∃ L3, L + 3 = L3 := ⟨_, rfl⟩
  have eL : (L : Int) + 3 = L3 := by omega
  have HL3 := Lib.hid hL3
  rw [hL3]
  have l1 : L ≤ L3 := by omega
  have l2 : L3 ≤ 103 := by omega
  clear hL3
  go_enter Try.func15, Try.ntmps15
  go_wp2_with (at_make; refine wpList_make_own _ rfl _ _ 23 rfl w.heap.size 22 i0 (.int .u64 0) 1 Try.underlying23 HI.out.1 HI.out.2.1 HI.out.2.2.1 .i64 .i64 _ L3 rfl rfl ?c1 ?c2 ?c3 (Nat.le_refl _) ?_)
  case c1 => first | exact eL | omega
  case c2 => rw [HI.out.2.2.2]; omega
  case c3 => unfold maxLen; omega
  intro w1 hO1 hg1
  have O1 := Lib.hid hO1
  have B1 := Lib.hid ((Below.refl w.heap.size w).grown hg1 (Nat.le_refl _) (fun k hk => by cases hk))
  clear hO1 hg1
  go_wp2_with (at_builtin; refine wpList_append_fits_any _ rfl _ _ 23 rfl w.heap.size 22 i0 1 Try.underlying23 HI.out.1 HI.out.2.2.1 w.heap.size 0 L3 [] rfl O1.out a L cap (xs.map nv) rfl ?d1 ?d2 ?d3 ?d4 ?d5 ?_)
  case d1 => have := HL.out; simp; omega
  case d2 => intro h; have h2 := HN.out h; rw [HL.out] at h2; exact h2
  case d3 =>
    intro ad had j u hj
    have hjl : j < xs.length := by
      rcases Nat.lt_or_ge j xs.length with h | h
      · exact h
      · rw [List.getElem?_eq_none (by simpa using h)] at hj; cases hj
    obtain ⟨b, off, n, hab, _, _, _, hn, hc⟩ := (HR.out.below3 B1.out).at_ (k := j) hjl
    rw [had] at hab
    cases hab
    rw [List.getElem?_map, hn] at hj
    simp at hj
    rw [Go.WideShapes.add_plain, hc, ← hj]
    rfl
  case d4 => intro u hu; obtain ⟨n, _, rfl⟩ := List.mem_map.1 hu; rfl
  case d5 => omega
  intro w2 hO2 hg2
  have C2 : Hid (Copy3 w2 w.heap.size xs xs.length) := by
    try rw [Nat.zero_add, List.nil_append] at hO2
    exact Lib.hid (own_copy3 hO2 HL.out HL3.out)
  have B2 := Lib.hid (B1.out.grown hg2 B1.out.size (fun k hk => by cases hk; exact Nat.le_refl _))
  try rw [Nat.zero_add]
  clear hO2 hg2
  go_wp2_with fail
  obtain ⟨g, hg⟩ : ∃ g, w.heap.size = g := ⟨_, rfl⟩
  have HG := Lib.hid hg
  rw [hg] at C2 ⊢
  clear hg
  go_loopw [7] (fun v7 wr => OwnRel xs g w v7 wr) (fun v7 _ => L3 - (intOf v7).toNat)
  case atStart => exact ⟨L, by rw [HL.out]; exact Nat.le_refl _, by rw [HL.out]; omega, rfl, by have := C2.out; rw [HL.out] at this; exact this, B2.out⟩
  case round =>
    obtain ⟨j, hj1, hj2, rfl, hC, hB⟩ := hrel
    have hL := HL.out
    rw [hL] at hj1 hj2
    have HC := Lib.hid hC
    have HB := Lib.hid hB
    clear hC hB hL
    by_cases hlt : j < L3
    · obtain ⟨v, hv⟩ := HC.out.cell (i := j) (by rw [HL.out, HL3.out]; exact hlt)
      have hf := HC.out.free j
      have P := Lib.hid (HC.out.put (j := j) (by rw [HL.out, HL3.out]; exact hlt) (by rw [HL.out]; exact hj1))
      have B3 := Lib.hid (HB.out.setCell (p := ⟨g, j, none⟩) (by rw [HG.out]; exact Nat.le_refl _) (.int .u64 71))
      clear hj2
      go_wp2
      go_roundw
      case rel => exact ⟨j + 1, by rw [HL.out]; omega, by rw [HL.out, HL3.out]; omega, by simp, P.out, B3.out⟩
      case measure => simp [intOf]; omega
    · obtain rfl : j = L3 := by have := HL3.out; omega
      go_wp2
      go_ret
      exact ⟨by rw [HG.out]; rfl, by rw [HG.out]; exact HC.out, HB.out⟩

/-- two lists alike -/
def SameRel (a a2 : Option Addr) (xs : List Nat) (w0 : World) (v7 : Value) (wr : World) : Prop := ∃ j : Nat, j ≤ xs.length ∧ v7 = .int .i64 j ∧ NatRow wr a xs ∧ NatRow wr a2 xs ∧ Hid (∃ n, wr = w0.drewN n)
theorem plain1_any (x : Nat) (w : World) :
    Calls Try.prog 45 #[.int .u64 x, .int .u64 x] w fun e w' => e = .returned (.bool true) ∧ w = w' := by
  go_enter Try.func45, Try.ntmps45
  go_wp2
  go_ret
  exact ⟨rfl, rfl⟩
theorem row_drewN {w : World} {a : Option Addr} {xs : List Nat} (h : NatRow w a xs) (n : Nat) : NatRow (w.drewN n) a xs := h
set_option maxRecDepth 8000 in
set_option maxHeartbeats 4000000 in
theorem same_any (a a2 : Option Addr) (xs : List Nat) (c1 c2 : Nat) (w : World) (h1 : NatRow w a xs) (h2 : NatRow w a2 xs) :
    Calls Try.prog 44 #[.slice a xs.length c1, .slice a2 xs.length c2, .func (.func 45) #[] #[]] w fun e w' => e = .returned (.bool true) ∧ ∃ n, w' = w.drewN n := by
  have hl := h1.1
  have H1 := Lib.hid h1
  have H2 := Lib.hid h2
  clear h1 h2
  go_enter Try.func44, Try.ntmps44
  go_wp2
  go_loopw [7] (fun v7 wr => SameRel a a2 xs w v7 wr) (fun v7 _ => xs.length - (intOf v7).toNat)
  case atStart => exact ⟨0, by omega, rfl, H1.out, H2.out, Lib.hid ⟨0, rfl⟩⟩
  case round =>
    obtain ⟨j, hj, rfl, hr1, hr2, HN⟩ := hrel
    have R1 := Lib.hid hr1
    have R2 := Lib.hid hr2
    clear hr1 hr2
    by_cases hlt : j < xs.length
    · obtain ⟨b, off, x, rfl, hb, _, _, hx, c0⟩ := R1.out.at_ hlt
      obtain ⟨b', off', x', rfl, hb', _, _, hx', d0⟩ := R2.out.at_ hlt
      obtain rfl : x = x' := Option.some.inj (hx.symm.trans hx')
      have CP := Lib.hid (plain1_any x)
      clear hx hx'
      go_wp2_with fail
      go_quiet ((go_at_call 45; exact still (CP.out _)))
      go_wp2
      go_roundw
      case rel => exact ⟨j + 1, by omega, by simp, row_drewN R1.out _, row_drewN R2.out _, Lib.hid (by obtain ⟨m, hm⟩ := HN.out; exact ⟨m + nq, by rw [hm, World.drewN_drewN]⟩)⟩
      case measure => simp [intOf]; omega
    · go_wp2
      go_ret
      exact ⟨rfl, HN.out⟩
set_option maxHeartbeats 4000000 in
theorem plain_any (a a2 : Option Addr) (xs : List Nat) (c1 c2 : Nat) (w : World) (h1 : NatRow w a xs) (h2 : NatRow w a2 xs) :
    Calls Try.prog 40 #[.slice a xs.length c1, .slice a2 xs.length c2] w fun e w' => e = .returned (.bool true) ∧ ∃ n, w' = w.drewN n := by
  have CS := Lib.hid (same_any a a2 xs c1 c2 w h1 h2)
  clear h1 h2
  go_enter Try.func40, Try.ntmps40
  go_wp2_with fail
  refine CS.out.mono ?_; rintro e w' ⟨rfl, hn⟩
  have HN := Lib.hid hn
  clear hn
  go_wp2
  go_ret
  exact ⟨rfl, HN.out⟩

def KeptRel (xs : List Nat) (v8 : Value) : Prop := ∃ j : Nat, xs.length ≤ j ∧ j ≤ xs.length + 3 ∧ v8 = .int .i64 j
set_option maxRecDepth 8000 in
set_option maxHeartbeats 4000000 in
theorem kept_any (a : Option Addr) (g : Nat) (xs : List Nat) (c : Nat) (w : World) (hl : xs.length ≤ 100) (h1 : Copy3 w g xs (xs.length + 3)) (h2 : NatRow w a xs) :
    Calls Try.prog 26 #[.slice (some ⟨g, 0, none⟩) xs.length (xs.length + 3), .slice a xs.length c, .int .u64 71] w fun e w' => e = .returned (.bool true) ∧ ∃ n, w' = w.drewN n := by
  have CP := Lib.hid (plain_any (some ⟨g, 0, none⟩) a xs (xs.length + 3) c w (h1.row (by omega) h2.2.1) h2)
  have H1 := Lib.hid h1
  clear h1 h2
  obtain ⟨L, hL⟩ : ∃ L, xs.length = L := ⟨_, rfl⟩
  have HL := Lib.hid hL
  rw [hL] at hl CP ⊢
  clear hL
  obtain ⟨L3, hL3⟩ : ∃ L3, L + 3 = L3 := ⟨_, rfl⟩
  have eL : (L : Int) + 3 = L3 := by omega
  have HL3 := Lib.hid hL3
  rw [hL3] at CP ⊢
  have l1 : L ≤ L3 := by omega
  have l2 : L3 ≤ 103 := by omega
  clear hL3
  go_enter Try.func26, Try.ntmps26
  go_wp2_with fail
  refine CP.out.mono ?_; rintro e w2 ⟨rfl, hn⟩
  obtain ⟨m, rfl⟩ := hn
  obtain ⟨w2, hw2⟩ : ∃ w2, w.drewN m = w2 := ⟨_, rfl⟩
  have HW := Lib.hid hw2
  have H2 : Hid (Copy3 w2 g xs (xs.length + 3)) := by rw [← hw2]; exact H1
  rw [hw2]
  clear hw2
  go_wp2_with fail
  go_loop [8] (fun v8 => KeptRel xs v8) (fun v8 => L3 - (intOf v8).toNat)
  case atStart => exact ⟨L, by rw [HL.out]; exact Nat.le_refl _, by rw [HL.out]; omega, rfl⟩
  case round =>
    obtain ⟨j, hj1, hj2, rfl⟩ := hrel
    have hL := HL.out
    rw [hL] at hj1 hj2
    clear hL
    by_cases hlt : j < L3
    · have hc := H2.out.rest (i := j) (by rw [HL.out]; exact hj1) (by rw [HL.out, HL3.out]; exact hlt)
      clear hj2
      go_wp2
      go_round
      case rel => exact ⟨j + 1, by rw [HL.out]; omega, by rw [HL.out, HL3.out]; omega, by simp⟩
      case measure => simp [intOf]; omega
    · obtain rfl : j = L3 := by have := HL3.out; omega
      go_wp2
      go_ret
      exact ⟨rfl, m, HW.out.symm⟩

set_option maxRecDepth 8000 in
set_option maxHeartbeats 4000000 in
theorem tells01_any (a b : Nat) (ad : Option Addr) (xs : List Nat) (c : Nat) (w : World) (ha : a < 18446744073709551616) (hb : b < 18446744073709551616) (hr : NatRow w ad xs) (hn : ad = none → c = 0) :
    Calls Try.prog 3 #[.int .u64 a, .int .u64 b, .slice ad xs.length c] w fun e w' => e = .returned (.bool true) ∧ Below w.heap.size w w' := by
  have hlen := hr.1
  have HR := Lib.hid hr
  have HN := Lib.hid hn
  clear hr hn
  by_cases hx : (100 : Int) < xs.length
  · go_enter Try.func3, Try.ntmps3
    go_wp2_with fail
    refine (awake01 _).mono ?_; rintro e w1 ⟨rfl, b1⟩
    go_wp2
    go_ret
    exact ⟨rfl, b1⟩
  · have C1 := Lib.hid (add_any a b ha hb)
    have C2 := Lib.hid (radd_any a b ha hb)
    have C3 := Lib.hid (sub_any a b ha hb)
    have C4 := Lib.hid (rsub_any a b ha hb)
    have C5 := Lib.hid (smul_any a b ha hb)
    have C6 := Lib.hid (rmul_any a b ha hb)
    have C7 := Lib.hid (int_any a ha)
    have C8 := Lib.hid (rint_any a ha)
    generalize satAdd a b = x1 at *
    generalize satSub a b = x2 at *
    generalize satMul a b = x3 at *
    generalize satInt a = x4 at *
    have HO := Lib.hid (own_any ad xs c w (by omega) HR.out HN.out)
    have HL : Hid (xs.length ≤ 100) := Lib.hid (by omega)
    clear ha hb
    go_enter Try.func3, Try.ntmps3
    go_wp2_with fail
    refine HO.out.mono ?_; rintro e w1 ⟨rfl, k1, b1⟩
    have K1 := Lib.hid k1
    have B1 := Lib.hid b1
    clear k1 b1
    go_wp2_with fail
    refine (sum_any _ xs _ _ (K1.out.row hlen HR.out.2.1)).mono ?_; rintro e w' ⟨rfl, rfl⟩
    go_wp2_with fail
    refine (rsum_any _ xs _ _ (HR.out.below3 B1.out)).mono ?_; rintro e w' ⟨rfl, rfl⟩
    generalize sumV xs = sv at *
    generalize sumE xs = se at *
    go_wp2_with fail
    refine (awake01 _).mono ?_; rintro e w2 ⟨rfl, b2⟩
    have K2 := Lib.hid (K1.out.below b2)
    have B2 := Lib.hid (B1.out.trans (b2.mono B1.out.size))
    clear b2
    go_wp2_with fail
    refine (C1.out _).mono ?_; rintro e w' ⟨rfl, rfl⟩
    go_wp2_with fail
    refine (C2.out _).mono ?_; rintro e w' ⟨rfl, rfl⟩
    go_wp2_with fail
    refine (C3.out _).mono ?_; rintro e w' ⟨rfl, rfl⟩
    go_wp2_with fail
    refine (C4.out _).mono ?_; rintro e w' ⟨rfl, rfl⟩
    go_wp2_with fail
    refine (C5.out _).mono ?_; rintro e w' ⟨rfl, rfl⟩
    go_wp2_with fail
    refine (C6.out _).mono ?_; rintro e w' ⟨rfl, rfl⟩
    go_wp2_with fail
    refine (C7.out _).mono ?_; rintro e w' ⟨rfl, rfl⟩
    go_wp2_with fail
    refine (C8.out _).mono ?_; rintro e w' ⟨rfl, rfl⟩
    go_wp2_with fail
    refine (kept_any ad w.heap.size xs c _ HL.out K2.out (HR.out.below3 B2.out)).mono ?_; rintro e w' ⟨rfl, hn⟩
    have HW := Lib.hid hn
    clear hn
    go_wp2
    go_ret
    refine ⟨rfl, ?_⟩
    obtain ⟨n, hn⟩ := HW.out
    rw [hn]
    have hb := B2.out
    exact ⟨hb.os, hb.tape, hb.output, hb.size, hb.block⟩
end Go.Proofs.Ytgdbmjokpbjoaaa
