/- AuditApart returns true at every list of numbers of uint64, every list of ints and every number of uint64. No conditions. -/
import Derived.Test.YtojgpgjmcamfoaaRows
import Derived.WalkKit
import Derived.ProofKit
import Derived.OpenShut
import Derived.Below
import Derived.Test.YtojgpgjmcamfoaaStructs
import Derived.Test.YtojgpgjmcamfoaaLaw27e
import Derived.ShutString
import Derived.ChangeOld
namespace Go.Proofs.Ytojgpgjmcamfoaa.auditApart
open Go.ChangeShapes Go.WideShapes Go.ChangeAt Go.RowKit
set_option linter.unusedVariables false

theorem own : ownKnob Try.prog.godebug = none := by kernel_rfl
theorem laidOut : laidOutB Try.prog = true := by kernel_rfl

set_option maxRecDepth 100000 in
theorem lifted (os : Os) (started : os.Started) (H : Type) (enc : TypeId × Value → H) :
    ReturnsInHanded {} Try.checked os 10 .any (Rows.auditApartSpec.pre6 enc Try.prog Try.f10 Rows.auditApartRow.domain false) (Rows.auditApartSpec.post enc Try.prog Try.f10 false true false false) := by
  refine returnsInHanded_of_change (C := Try.checked) own started (by kernel_rfl) Try.func10
    (ChangeSpec.witness6 (enc := enc) (C := Try.checked) false ⟨#[], #[.slice none 0 0, .slice none 0 0, .int .u64 0], []⟩ 8 (by kernel_rfl) (by kernel_rfl) (by kernel_rfl) (by kernel_rfl)) ?_
  intro W base args ds gs before hval0 hW hcnd _
  have hval : ∀ (j : Nat) t v, Try.f10.params[j]? = some t → args[j]? = some v → Value.okWide Try.prog W .any base t v := hval0
  have hW' := hW
  obtain ⟨p, q, hA0, hV, rfl, hfz, hnd⟩ := hW
  have hA : DataW.TrodAll enc Try.prog W 0 (fun _ => true) true Try.f10.params.toList args.toList ds p := hA0
  rw [Try.params10] at hA hval
  obtain ⟨v0, vs0, d0, ds0, p0, q0, hargs, rfl, rfl, h0, r0⟩ := trodAll_cons hA
  obtain ⟨v1, vs1, d1, ds1, p1, q1, rfl, rfl, rfl, h1, r1⟩ := trodAll_cons r0
  obtain ⟨v2, vs2, d2, ds2, p2, q2, rfl, rfl, rfl, h2, r2⟩ := trodAll_cons r1
  obtain ⟨rfl, rfl, rfl⟩ := trodAll_nil r2
  obtain rfl : args = #[v0, v1, v2] := by cases args; simp_all
  obtain ⟨rfl, rfl⟩ := trodVars_none hV
  obtain ⟨a0, len0, cap0, rfl⟩ := okWide_slice Try.underlying36 (hval 0 36 v0 rfl rfl)
  have k0 := h0
  have lt0 : ∀ x ∈ p0, x.block < W.heap.size := by obtain ⟨m, hm⟩ := k0; exact DataW.trod_lt m _ _ _ hm
  obtain ⟨fuel0, hf0⟩ := h0
  have cp0 := slice_cap Try.underlying36 hf0
  obtain ⟨hl0, hs0⟩ := slice_ones Try.underlying36 (by kernel_rfl) hf0
  obtain ⟨x0, w0⟩ := funRow_of hl0 fun h0 => by
    obtain ⟨b, off, ha, hb, hc⟩ := hs0 h0
    refine ⟨b, off, ha, hb, fun k hk => ?_⟩
    obtain ⟨v0, n0, y0, c0, t0⟩ := hc k hk
    obtain ⟨x0, e0, _, g0⟩ := DataW.trod_int Try.underlying22 t0
    simp only [List.cons.injEq, and_true] at e0
    subst e0
    exact ⟨x0, g0, c0⟩
  obtain ⟨a1, len1, cap1, rfl⟩ := okWide_slice Try.underlying57 (hval 1 57 v1 rfl rfl)
  have k1 := h1
  have lt1 : ∀ x ∈ p1, x.block < W.heap.size := by obtain ⟨m, hm⟩ := k1; exact DataW.trod_lt m _ _ _ hm
  obtain ⟨fuel1, hf1⟩ := h1
  have cp1 := slice_cap Try.underlying57 hf1
  obtain ⟨hl1, hs1⟩ := slice_ones Try.underlying57 (by kernel_rfl) hf1
  obtain ⟨x1, w1⟩ := funRow_of hl1 fun h0 => by
    obtain ⟨b, off, ha, hb, hc⟩ := hs1 h0
    refine ⟨b, off, ha, hb, fun k hk => ?_⟩
    obtain ⟨v0, n0, y0, c0, t0⟩ := hc k hk
    obtain ⟨x0, e0, _, g0⟩ := DataW.trod_int Try.underlying3 t0
    simp only [List.cons.injEq, and_true] at e0
    subst e0
    exact ⟨x0, g0, c0⟩
  obtain ⟨a2, rfl, rfl, rfl, w2⟩ := open_int Try.underlying22 (hval 2 22 v2 rfl rfl) h2
  clear hA0 hval0
  obtain ⟨s0, s0'⟩ := w0
  obtain ⟨s1, _⟩ := w1
  obtain ⟨rt, rfl, hrt⟩ := u64_of w2
  refine (apart27_core a0 a1 len0 cap0 len1 cap1 x0 x1 rt _ rfl W s0 s0' s1).mono fun e W' ⟨he, bel⟩ => ?_
  subst he
  exact ⟨_, rfl, _, _, _, [], _, [], hW', trodAll_mk1 (shut_bool Try.underlying4 _), (trodAll_cons_mk (Below.trod laidOut (by kernel_rfl) (of_decide_eq_true (by kernel_rfl)) k0 bel lt0) (trodAll_cons_mk (Below.trod laidOut (by kernel_rfl) (of_decide_eq_true (by kernel_rfl)) k1 bel lt1) (trodAll_cons_mk (shut_int Try.underlying22 w2) trodAll_mk0))), rfl, bel.frame _, fun h => by cases h⟩

theorem over : Rows.auditApartRow.holds Try.pinned (OpenSpec.ofChange Rows.auditApartSpec) :=
  OpenClaim.holds_of_wide 10 Try.f10 rfl rfl rfl rfl rfl rfl rfl ⟨rfl, rfl, rfl, rfl, rfl⟩ rfl rfl rfl rfl rfl (by kernel_rfl) Try.func10 (by kernel_rfl)
    (of_decide_eq_true (by kernel_rfl)) (by unfold Func.isWrapper; first | (rw [if_pos (by decide +kernel)]; kernel_rfl) | (rw [if_neg (by decide +kernel)]; exact ⟨rfl, rfl⟩))
    (fun os started H enc _ => lifted os started H enc)

theorem proved : Rows.AuditApartSaid := over
#print axioms proved
end Go.Proofs.Ytojgpgjmcamfoaa.auditApart
