/- SamplerTells returns true at every list of deeds. No conditions. -/
import Derived.Test.YtojgpgjmcamfoaaRows
import Derived.WalkKit
import Derived.ProofKit
import Derived.OpenShut
import Derived.Below
import Derived.Test.YtojgpgjmcamfoaaStructs
import Derived.Test.YtojgpgjmcamfoaaLaw10e
import Derived.ShutString
import Derived.ChangeOld
namespace Go.Proofs.Ytojgpgjmcamfoaa.samplerTells
open Go.ChangeShapes Go.WideShapes Go.ChangeAt Go.RowKit
set_option linter.unusedVariables false

theorem own : ownKnob Try.prog.godebug = none := by kernel_rfl
theorem laidOut : laidOutB Try.prog = true := by kernel_rfl

set_option maxRecDepth 100000 in
theorem lifted (os : Os) (started : os.Started) (H : Type) (enc : TypeId × Value → H) :
    ReturnsInHanded {} Try.checked os 5 .any (Rows.samplerTellsSpec.pre6 enc Try.prog Try.f5 Rows.samplerTellsRow.domain false) (Rows.samplerTellsSpec.post enc Try.prog Try.f5 false true false false) := by
  refine returnsInHanded_of_change (C := Try.checked) own started (by kernel_rfl) Try.func5
    (ChangeSpec.witness6 (enc := enc) (C := Try.checked) false ⟨#[], #[.slice none 0 0], []⟩ 8 (by kernel_rfl) (by kernel_rfl) (by kernel_rfl) (by kernel_rfl)) ?_
  intro W base args ds gs before hval0 hW hcnd _
  have hval : ∀ (j : Nat) t v, Try.f5.params[j]? = some t → args[j]? = some v → Value.okWide Try.prog W .any base t v := hval0
  have hW' := hW
  obtain ⟨p, q, hA0, hV, rfl, hfz, hnd⟩ := hW
  have hA : DataW.TrodAll enc Try.prog W 0 (fun _ => true) true Try.f5.params.toList args.toList ds p := hA0
  rw [Try.params5] at hA hval
  obtain ⟨v0, vs0, d0, ds0, p0, q0, hargs, rfl, rfl, h0, r0⟩ := trodAll_cons hA
  obtain ⟨rfl, rfl, rfl⟩ := trodAll_nil r0
  obtain rfl : args = #[v0] := by cases args; simp_all
  obtain ⟨rfl, rfl⟩ := trodVars_none hV
  obtain ⟨a0, len0, cap0, rfl⟩ := okWide_slice Try.underlying39 (hval 0 39 v0 rfl rfl)
  have k0 := h0
  have lt0 : ∀ x ∈ p0, x.block < W.heap.size := by obtain ⟨m, hm⟩ := k0; exact DataW.trod_lt m _ _ _ hm
  obtain ⟨fuel0, hf0⟩ := h0
  obtain ⟨hl0, hs0⟩ := slice_elems 11 Try.underlying39 (by kernel_rfl) (by decide) (struct_len Try.underlying44 (by kernel_rfl)) hf0
  obtain ⟨x0, w0⟩ := sopRow_of hl0 fun h0 => by
    obtain ⟨b, off, ha, hb, hc⟩ := hs0 h0
    refine ⟨b, off, ha, hb, fun k hk => ?_⟩
    obtain ⟨cs, n, y, hln, hcl, ht⟩ := hc k hk
    obtain ⟨v0, n0, y0, c0, t0⟩ := one_of Try.underlying44 ht 0 _ rfl (by kernel_rfl) (by rw [hln]; decide)
    replace c0 := (hcl 0 (by decide)).trans c0
    obtain ⟨x0, e0, _, g0⟩ := DataW.trod_int Try.underlying3 t0
    simp only [List.cons.injEq, and_true] at e0
    subst e0
    obtain ⟨v1, n1, y1, c1, t1⟩ := one_of Try.underlying44 ht 1 _ rfl (by kernel_rfl) (by rw [hln]; decide)
    replace c1 := (hcl 1 (by decide)).trans c1
    obtain ⟨x1, e1, _, g1⟩ := DataW.trod_int Try.underlying3 t1
    simp only [List.cons.injEq, and_true] at e1
    subst e1
    obtain ⟨v2, n2, y2, c2, t2⟩ := one_of Try.underlying44 ht 2 _ rfl (by kernel_rfl) (by rw [hln]; decide)
    replace c2 := (hcl 2 (by decide)).trans c2
    obtain ⟨x2, e2, _, g2⟩ := DataW.trod_int Try.underlying22 t2
    simp only [List.cons.injEq, and_true] at e2
    subst e2
    obtain ⟨v3, n3, y3, c3, t3⟩ := one_of Try.underlying44 ht 3 _ rfl (by kernel_rfl) (by rw [hln]; decide)
    replace c3 := (hcl 3 (by decide)).trans c3
    obtain ⟨x3, e3, _, g3⟩ := DataW.trod_int Try.underlying22 t3
    simp only [List.cons.injEq, and_true] at e3
    subst e3
    obtain ⟨v4, n4, y4, c4, t4⟩ := one_of Try.underlying44 ht 4 _ rfl (by kernel_rfl) (by rw [hln]; decide)
    replace c4 := (hcl 4 (by decide)).trans c4
    obtain ⟨x4, e4, _, g4⟩ := DataW.trod_int Try.underlying22 t4
    simp only [List.cons.injEq, and_true] at e4
    subst e4
    obtain ⟨v5, n5, y5, c5, t5⟩ := sub_of Try.underlying44 ht 5 _ rfl rfl Try.underlying30 (by kernel_rfl) (by kernel_rfl) 0 _ rfl
    replace c5 := (hcl 5 (by decide)).trans c5
    obtain ⟨x5, e5, _, g5⟩ := DataW.trod_int Try.underlying22 t5
    simp only [List.cons.injEq, and_true] at e5
    subst e5
    obtain ⟨v6, n6, y6, c6, t6⟩ := sub_of Try.underlying44 ht 5 _ rfl rfl Try.underlying30 (by kernel_rfl) (by kernel_rfl) 1 _ rfl
    replace c6 := (hcl 6 (by decide)).trans c6
    obtain ⟨x6, e6, _, g6⟩ := DataW.trod_int Try.underlying22 t6
    simp only [List.cons.injEq, and_true] at e6
    subst e6
    obtain ⟨v7, n7, y7, c7, t7⟩ := sub_of Try.underlying44 ht 5 _ rfl rfl Try.underlying30 (by kernel_rfl) (by kernel_rfl) 2 _ rfl
    replace c7 := (hcl 7 (by decide)).trans c7
    obtain ⟨x7, e7, _, g7⟩ := DataW.trod_int Try.underlying22 t7
    simp only [List.cons.injEq, and_true] at e7
    subst e7
    obtain ⟨v8, n8, y8, c8, t8⟩ := sub_of Try.underlying44 ht 5 _ rfl rfl Try.underlying30 (by kernel_rfl) (by kernel_rfl) 3 _ rfl
    replace c8 := (hcl 8 (by decide)).trans c8
    obtain ⟨x8, e8, _, g8⟩ := DataW.trod_int Try.underlying22 t8
    simp only [List.cons.injEq, and_true] at e8
    subst e8
    obtain ⟨v9, n9, y9, c9, t9⟩ := sub_of Try.underlying44 ht 5 _ rfl rfl Try.underlying30 (by kernel_rfl) (by kernel_rfl) 4 _ rfl
    replace c9 := (hcl 9 (by decide)).trans c9
    obtain ⟨x9, e9, _⟩ := DataW.trod_bool Try.underlying4 t9
    simp only [List.cons.injEq, and_true] at e9
    subst e9
    obtain ⟨v10, n10, y10, c10, t10⟩ := one_of Try.underlying44 ht 6 _ rfl (by kernel_rfl) (by rw [hln]; decide)
    replace c10 := (hcl 10 (by decide)).trans c10
    obtain ⟨x10, e10, _⟩ := DataW.trod_bool Try.underlying4 t10
    simp only [List.cons.injEq, and_true] at e10
    subst e10
    exact ⟨x0, x1, x2, x3, x4, x5, x6, x7, x8, x9, x10, ⟨g0, g1, g2, g3, g4, g5, g6, g7, g8⟩, c0, c1, c2, c3, c4, c5, c6, c7, c8, c9, c10⟩
  clear hA0 hval0
  refine (tells10_any a0 len0 cap0 x0 W w0).mono fun e W' ⟨he, bel⟩ => ?_
  subst he
  exact ⟨_, rfl, _, _, _, [], _, [], hW', trodAll_mk1 (shut_bool Try.underlying4 _), (trodAll_cons_mk (Below.trod laidOut (by kernel_rfl) (of_decide_eq_true (by kernel_rfl)) k0 bel lt0) trodAll_mk0), rfl, bel.frame _, fun h => by cases h⟩

theorem over : Rows.samplerTellsRow.holds Try.pinned (OpenSpec.ofChange Rows.samplerTellsSpec) :=
  OpenClaim.holds_of_wide 5 Try.f5 rfl rfl rfl rfl rfl rfl rfl ⟨rfl, rfl, rfl, rfl, rfl⟩ rfl rfl rfl rfl rfl (by kernel_rfl) Try.func5 (by kernel_rfl)
    (of_decide_eq_true (by kernel_rfl)) (by unfold Func.isWrapper; first | (rw [if_pos (by decide +kernel)]; kernel_rfl) | (rw [if_neg (by decide +kernel)]; exact ⟨rfl, rfl⟩))
    (fun os started H enc _ => lifted os started H enc)

theorem proved : Rows.SamplerTellsSaid := over
#print axioms proved
end Go.Proofs.Ytojgpgjmcamfoaa.samplerTells
