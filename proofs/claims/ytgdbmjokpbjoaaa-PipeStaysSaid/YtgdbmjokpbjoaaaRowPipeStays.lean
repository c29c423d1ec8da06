/- PipeStays returns true at every list of updates, every number of uint64 and every int. No conditions. -/
import Derived.Test.YtgdbmjokpbjoaaaRows
import Derived.WalkKit
import Derived.ProofKit
import Derived.OpenShut
import Derived.Below
import Derived.Test.YtgdbmjokpbjoaaaStructs
import Derived.Test.YtgdbmjokpbjoaaaLaw13c
import Derived.ShutString
import Derived.ChangeOld
namespace Go.Proofs.Ytgdbmjokpbjoaaa.pipeStays
open Go.ChangeShapes Go.WideShapes Go.ChangeAt Go.RowKit
set_option linter.unusedVariables false

theorem own : ownKnob Try.prog.godebug = none := by kernel_rfl
theorem laidOut : laidOutB Try.prog = true := by kernel_rfl

set_option maxRecDepth 100000 in
theorem lifted (os : Os) (started : os.Started) (H : Type) (enc : TypeId × Value → H) :
    ReturnsInHanded {} Try.checked os 12 .any (Rows.pipeStaysSpec.pre6 enc Try.prog Try.f12 Rows.pipeStaysRow.domain false) (Rows.pipeStaysSpec.post enc Try.prog Try.f12 false true false false) := by
  refine returnsInHanded_of_change (C := Try.checked) own started (by kernel_rfl) Try.func12
    (ChangeSpec.witness6 (enc := enc) (C := Try.checked) false ⟨#[], #[.slice none 0 0, .int .u64 0, .int .i64 0], []⟩ 8 (by kernel_rfl) (by kernel_rfl) (by kernel_rfl) (by kernel_rfl)) ?_
  intro W base args ds gs before hval0 hW hcnd _
  have hval : ∀ (j : Nat) t v, Try.f12.params[j]? = some t → args[j]? = some v → Value.okWide Try.prog W .any base t v := hval0
  have hW' := hW
  obtain ⟨p, q, hA0, hV, rfl, hfz, hnd⟩ := hW
  have hA : DataW.TrodAll enc Try.prog W 0 (fun _ => true) true Try.f12.params.toList args.toList ds p := hA0
  rw [Try.params12] at hA hval
  obtain ⟨v0, vs0, d0, ds0, p0, q0, hargs, rfl, rfl, h0, r0⟩ := trodAll_cons hA
  obtain ⟨v1, vs1, d1, ds1, p1, q1, rfl, rfl, rfl, h1, r1⟩ := trodAll_cons r0
  obtain ⟨v2, vs2, d2, ds2, p2, q2, rfl, rfl, rfl, h2, r2⟩ := trodAll_cons r1
  obtain ⟨rfl, rfl, rfl⟩ := trodAll_nil r2
  obtain rfl : args = #[v0, v1, v2] := by cases args; simp_all
  obtain ⟨rfl, rfl⟩ := trodVars_none hV
  obtain ⟨a0, len0, cap0, rfl⟩ := okWide_slice Try.underlying52 (hval 0 52 v0 rfl rfl)
  have k0 := h0
  have lt0 : ∀ x ∈ p0, x.block < W.heap.size := by obtain ⟨m, hm⟩ := k0; exact DataW.trod_lt m _ _ _ hm
  obtain ⟨fuel0, hf0⟩ := h0
  obtain ⟨hl0, hs0⟩ := slice_structs Try.underlying52 Try.underlying60 (by kernel_rfl) (by kernel_rfl) (by decide) hf0
  obtain ⟨x0, w0⟩ := pipeRow_of hl0 fun h0 => by
    obtain ⟨b, off, ha, hb, hc⟩ := hs0 h0
    refine ⟨b, off, ha, hb, fun k hk => ?_⟩
    obtain ⟨v0, n0, y0, c0, t0⟩ := hc k hk 0 _ rfl
    obtain ⟨x0, e0, _⟩ := DataW.trod_bool Try.underlying4 t0
    simp only [List.cons.injEq, and_true] at e0
    subst e0
    obtain ⟨v1, n1, y1, c1, t1⟩ := hc k hk 1 _ rfl
    obtain ⟨x1, e1, _⟩ := DataW.trod_bool Try.underlying4 t1
    simp only [List.cons.injEq, and_true] at e1
    subst e1
    obtain ⟨v2, n2, y2, c2, t2⟩ := hc k hk 2 _ rfl
    obtain ⟨x2, e2, _, g2⟩ := DataW.trod_int Try.underlying22 t2
    simp only [List.cons.injEq, and_true] at e2
    subst e2
    exact ⟨x0, x1, x2, g2, c0, c1, c2⟩
  obtain ⟨a1, rfl, rfl, rfl, w1⟩ := open_int Try.underlying22 (hval 1 22 v1 rfl rfl) h1
  obtain ⟨a2, rfl, rfl, rfl, w2⟩ := open_int Try.underlying3 (hval 2 3 v2 rfl rfl) h2
  clear hA0 hval0
  obtain ⟨n, rfl, hn⟩ := u64_of w1
  refine (stays_any a0 len0 cap0 x0 n a2 W w0).mono fun e W' ⟨he, bel⟩ => ?_
  subst he
  exact ⟨_, rfl, _, _, _, [], _, [], hW', trodAll_mk1 (shut_bool Try.underlying4 _), (trodAll_cons_mk (Below.trod laidOut (by kernel_rfl) (of_decide_eq_true (by kernel_rfl)) k0 bel lt0) (trodAll_cons_mk (shut_int Try.underlying22 w1) (trodAll_cons_mk (shut_int Try.underlying3 w2) trodAll_mk0))), rfl, bel.frame _, fun h => by cases h⟩

theorem over : Rows.pipeStaysRow.holds Try.pinned (OpenSpec.ofChange Rows.pipeStaysSpec) :=
  OpenClaim.holds_of_wide 12 Try.f12 rfl rfl rfl rfl rfl rfl rfl ⟨rfl, rfl, rfl, rfl, rfl⟩ rfl rfl rfl rfl rfl (by kernel_rfl) Try.func12 (by kernel_rfl)
    (of_decide_eq_true (by kernel_rfl)) (by unfold Func.isWrapper; first | (rw [if_pos (by decide +kernel)]; kernel_rfl) | (rw [if_neg (by decide +kernel)]; exact ⟨rfl, rfl⟩))
    (fun os started H enc _ => lifted os started H enc)

theorem proved : Rows.PipeStaysSaid := over
#print axioms proved
end Go.Proofs.Ytgdbmjokpbjoaaa.pipeStays
