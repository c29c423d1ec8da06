/- AuditParts returns true at every list of segments, two lists of booleans and two ints. No conditions. -/
import Derived.Test.YtojgpgjmcamfoaaRows
import Derived.WalkKit
import Derived.ProofKit
import Derived.OpenShut
import Derived.Below
import Derived.Test.YtojgpgjmcamfoaaStructs
import Derived.Test.YtojgpgjmcamfoaaLaw27c
import Derived.ShutString
import Derived.ChangeOld
namespace Go.Proofs.Ytojgpgjmcamfoaa.auditParts
open Go.ChangeShapes Go.WideShapes Go.ChangeAt Go.RowKit
set_option linter.unusedVariables false

theorem own : ownKnob Try.prog.godebug = none := by kernel_rfl
theorem laidOut : laidOutB Try.prog = true := by kernel_rfl

set_option maxRecDepth 100000 in
theorem lifted (os : Os) (started : os.Started) (H : Type) (enc : TypeId × Value → H) :
    ReturnsInHanded {} Try.checked os 8 .any (Rows.auditPartsSpec.pre6 enc Try.prog Try.f8 Rows.auditPartsRow.domain false) (Rows.auditPartsSpec.post enc Try.prog Try.f8 false true false false) := by
  refine returnsInHanded_of_change (C := Try.checked) own started (by kernel_rfl) Try.func8
    (ChangeSpec.witness6 (enc := enc) (C := Try.checked) false ⟨#[], #[.slice none 0 0, .slice none 0 0, .slice none 0 0, .int .i64 0, .int .i64 0], []⟩ 8 (by kernel_rfl) (by kernel_rfl) (by kernel_rfl) (by kernel_rfl)) ?_
  intro W base args ds gs before hval0 hW hcnd _
  have hval : ∀ (j : Nat) t v, Try.f8.params[j]? = some t → args[j]? = some v → Value.okWide Try.prog W .any base t v := hval0
  have hW' := hW
  obtain ⟨p, q, hA0, hV, rfl, hfz, hnd⟩ := hW
  have hA : DataW.TrodAll enc Try.prog W 0 (fun _ => true) true Try.f8.params.toList args.toList ds p := hA0
  rw [Try.params8] at hA hval
  obtain ⟨v0, vs0, d0, ds0, p0, q0, hargs, rfl, rfl, h0, r0⟩ := trodAll_cons hA
  obtain ⟨v1, vs1, d1, ds1, p1, q1, rfl, rfl, rfl, h1, r1⟩ := trodAll_cons r0
  obtain ⟨v2, vs2, d2, ds2, p2, q2, rfl, rfl, rfl, h2, r2⟩ := trodAll_cons r1
  obtain ⟨v3, vs3, d3, ds3, p3, q3, rfl, rfl, rfl, h3, r3⟩ := trodAll_cons r2
  obtain ⟨v4, vs4, d4, ds4, p4, q4, rfl, rfl, rfl, h4, r4⟩ := trodAll_cons r3
  obtain ⟨rfl, rfl, rfl⟩ := trodAll_nil r4
  obtain rfl : args = #[v0, v1, v2, v3, v4] := by cases args; simp_all
  obtain ⟨rfl, rfl⟩ := trodVars_none hV
  obtain ⟨a0, len0, cap0, rfl⟩ := okWide_slice Try.underlying48 (hval 0 48 v0 rfl rfl)
  have k0 := h0
  have lt0 : ∀ x ∈ p0, x.block < W.heap.size := by obtain ⟨m, hm⟩ := k0; exact DataW.trod_lt m _ _ _ hm
  obtain ⟨fuel0, hf0⟩ := h0
  have cp0 := slice_cap Try.underlying48 hf0
  obtain ⟨hl0, hs0⟩ := slice_structs Try.underlying48 Try.underlying55 (by kernel_rfl) (by kernel_rfl) (by decide) hf0
  obtain ⟨x0, w0⟩ := segRow_of hl0 fun h0 => by
    obtain ⟨b, off, ha, hb, hc⟩ := hs0 h0
    refine ⟨b, off, ha, hb, fun k hk => ?_⟩
    obtain ⟨v0, n0, y0, c0, t0⟩ := hc k hk 0 _ rfl
    obtain ⟨x0, e0, _, g0⟩ := DataW.trod_int Try.underlying3 t0
    simp only [List.cons.injEq, and_true] at e0
    subst e0
    obtain ⟨v1, n1, y1, c1, t1⟩ := hc k hk 1 _ rfl
    obtain ⟨x1, e1, _, g1⟩ := DataW.trod_int Try.underlying22 t1
    simp only [List.cons.injEq, and_true] at e1
    subst e1
    obtain ⟨v2, n2, y2, c2, t2⟩ := hc k hk 2 _ rfl
    obtain ⟨x2, e2, _, g2⟩ := DataW.trod_int Try.underlying3 t2
    simp only [List.cons.injEq, and_true] at e2
    subst e2
    obtain ⟨v3, n3, y3, c3, t3⟩ := hc k hk 3 _ rfl
    obtain ⟨x3, e3, _, g3⟩ := DataW.trod_int Try.underlying22 t3
    simp only [List.cons.injEq, and_true] at e3
    subst e3
    obtain ⟨v4, n4, y4, c4, t4⟩ := hc k hk 4 _ rfl
    obtain ⟨x4, e4, _⟩ := DataW.trod_bool Try.underlying4 t4
    simp only [List.cons.injEq, and_true] at e4
    subst e4
    exact ⟨x0, x1, x2, x3, x4, ⟨g0, g1, g2, g3⟩, c0, c1, c2, c3, c4⟩
  obtain ⟨a1, len1, cap1, rfl⟩ := okWide_slice Try.underlying53 (hval 1 53 v1 rfl rfl)
  have k1 := h1
  have lt1 : ∀ x ∈ p1, x.block < W.heap.size := by obtain ⟨m, hm⟩ := k1; exact DataW.trod_lt m _ _ _ hm
  obtain ⟨fuel1, hf1⟩ := h1
  have cp1 := slice_cap Try.underlying53 hf1
  obtain ⟨hl1, hs1⟩ := slice_ones Try.underlying53 (by kernel_rfl) hf1
  obtain ⟨x1, w1⟩ := boolRow27_of hl1 fun h0 => by
    obtain ⟨b, off, ha, hb, hc⟩ := hs1 h0
    refine ⟨b, off, ha, hb, fun k hk => ?_⟩
    obtain ⟨v0, n0, y0, c0, t0⟩ := hc k hk
    obtain ⟨x0, e0, _⟩ := DataW.trod_bool Try.underlying4 t0
    simp only [List.cons.injEq, and_true] at e0
    subst e0
    exact ⟨x0, c0⟩
  obtain ⟨a2, len2, cap2, rfl⟩ := okWide_slice Try.underlying53 (hval 2 53 v2 rfl rfl)
  have k2 := h2
  have lt2 : ∀ x ∈ p2, x.block < W.heap.size := by obtain ⟨m, hm⟩ := k2; exact DataW.trod_lt m _ _ _ hm
  obtain ⟨fuel2, hf2⟩ := h2
  have cp2 := slice_cap Try.underlying53 hf2
  obtain ⟨hl2, hs2⟩ := slice_ones Try.underlying53 (by kernel_rfl) hf2
  obtain ⟨x2, w2⟩ := boolRow27_of hl2 fun h0 => by
    obtain ⟨b, off, ha, hb, hc⟩ := hs2 h0
    refine ⟨b, off, ha, hb, fun k hk => ?_⟩
    obtain ⟨v0, n0, y0, c0, t0⟩ := hc k hk
    obtain ⟨x0, e0, _⟩ := DataW.trod_bool Try.underlying4 t0
    simp only [List.cons.injEq, and_true] at e0
    subst e0
    exact ⟨x0, c0⟩
  obtain ⟨a3, rfl, rfl, rfl, w3⟩ := open_int Try.underlying3 (hval 3 3 v3 rfl rfl) h3
  obtain ⟨a4, rfl, rfl, rfl, w4⟩ := open_int Try.underlying3 (hval 4 3 v4 rfl rfl) h4
  clear hA0 hval0
  obtain ⟨s0, rfl⟩ := w0
  refine (parts27_core a0 a1 a2 cap0 len1 cap1 len2 cap2 x0 x1 x2 a3 a4 W s0 cp0 w1 w2).mono fun e W' ⟨he, bel⟩ => ?_
  subst he
  exact ⟨_, rfl, _, _, _, [], _, [], hW', trodAll_mk1 (shut_bool Try.underlying4 _), (trodAll_cons_mk (Below.trod laidOut (by kernel_rfl) (of_decide_eq_true (by kernel_rfl)) k0 bel lt0) (trodAll_cons_mk (Below.trod laidOut (by kernel_rfl) (of_decide_eq_true (by kernel_rfl)) k1 bel lt1) (trodAll_cons_mk (Below.trod laidOut (by kernel_rfl) (of_decide_eq_true (by kernel_rfl)) k2 bel lt2) (trodAll_cons_mk (shut_int Try.underlying3 w3) (trodAll_cons_mk (shut_int Try.underlying3 w4) trodAll_mk0))))), rfl, bel.frame _, fun h => by cases h⟩

theorem over : Rows.auditPartsRow.holds Try.pinned (OpenSpec.ofChange Rows.auditPartsSpec) :=
  OpenClaim.holds_of_wide 8 Try.f8 rfl rfl rfl rfl rfl rfl rfl ⟨rfl, rfl, rfl, rfl, rfl⟩ rfl rfl rfl rfl rfl (by kernel_rfl) Try.func8 (by kernel_rfl)
    (of_decide_eq_true (by kernel_rfl)) (by unfold Func.isWrapper; first | (rw [if_pos (by decide +kernel)]; kernel_rfl) | (rw [if_neg (by decide +kernel)]; exact ⟨rfl, rfl⟩))
    (fun os started H enc _ => lifted os started H enc)

theorem proved : Rows.AuditPartsSaid := over
#print axioms proved
end Go.Proofs.Ytojgpgjmcamfoaa.auditParts
