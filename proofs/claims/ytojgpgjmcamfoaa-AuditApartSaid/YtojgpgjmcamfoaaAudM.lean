/- Maps of the call's own from int to anything that is read as a datum, told by a function on keys. -/
import Derived.Test.YtojgpgjmcamfoaaObj
import Derived.Maps.OwnSet
namespace Go.Proofs.Ytojgpgjmcamfoaa
open Go.RowKit Go.Maps
set_option linter.unusedVariables false

def MapIs {α : Type} (P : Program) (k : TypeId) (R : Value → Option (DataW Unit × List MemPlace)) (enc : α → DataW Unit) (zd : DataW Unit) (w : World) (b n : Nat) (f : Int → Option α) : Prop :=
  ∃ D, w.ownsMap P k R b n D ∧ ∀ s, Maps.has D (.int .i64 s) = (f s).isSome ∧ ∀ x, f s = some x → D.atKey (.int .i64 s) zd = enc x

section
variable {P : Program} {α : Type} {k : TypeId} {R : Value → Option (DataW Unit × List MemPlace)} {enc : α → DataW Unit} {zd : DataW Unit} {w w' : World} {b n : Nat} {f : Int → Option α}
theorem MapIs.made (w : World) : MapIs (α := α) P k R enc zd (w.alloc (.map #[] 0)) w.heap.size 0 (fun _ => none) :=
  ⟨_, World.ownsMap_made w P k R, fun s => ⟨rfl, fun x h => by cases h⟩⟩
theorem MapIs.lt (h : MapIs P k R enc zd w b n f) : b < w.heap.size := let ⟨_, h, _⟩ := h; h.lt
theorem MapIs.kept {row : Option Nat} (h : MapIs P k R enc zd w b n f) (hg : w.grownBy w' row) (hne : some b ≠ row) : MapIs P k R enc zd w' b n f := let ⟨D, h, r⟩ := h; ⟨D, h.kept hg hne, r⟩
theorem MapIs.alloc (h : MapIs P k R enc zd w b n f) (o : Obj) : MapIs P k R enc zd (w.alloc o) b n f := h.kept (World.grownBy_alloc w o none) (by simp)
theorem MapIs.drew (h : MapIs P k R enc zd w b n f) : MapIs P k R enc zd w.drew b n f := h
theorem MapIs.drewN (h : MapIs P k R enc zd w b n f) (m : Nat) : MapIs P k R enc zd (w.drewN m) b n f := h.kept (by_drewN w m none) (by simp)
theorem MapIs.below (h : MapIs P k R enc zd w b n f) (hb : Below w.heap.size w w') : MapIs P k R enc zd w' b n f := by
  obtain ⟨D, ⟨es, clock, hx, r⟩, r2⟩ := h
  have hlt : b < w.heap.size := by
    rcases Nat.lt_or_ge b w.heap.size with h | h
    · exact h
    · rw [Array.getElem?_eq_none h] at hx; cases hx
  exact ⟨D, ⟨es, clock, (hb.block b hlt).trans hx, r⟩, r2⟩

variable {t e : TypeId} {z : Value} {zp : List MemPlace}
/-- 'v, ok := m[s]' -/
theorem MapIs.look (h : MapIs P k R enc zd w b n f) (hk : P.underlying k = some (.int .i64)) (ht : P.underlying t = some (.map k e)) (hz : (zeroValue e).run P w = .ok z w) (hzd : R z = some (zd, zp)) {s : Int} (hs : (Lit.int .i64 s).wf = true) :
    ∃ v ps, (Instr.lookup t (.map (some b)) (.int .i64 s) true).run P w = .ok (.tuple #[v, .bool (f s).isSome]) w ∧ ((f s = none ∧ R v = some (zd, ps)) ∨ ∃ x, f s = some x ∧ R v = some (enc x, ps)) := by
  obtain ⟨D, hD, hf⟩ := h
  obtain ⟨v, ps, hrun, hv⟩ := hD.look_ok (int_keyed hk) ht hz hzd (keyOf_int_mk hk hs)
  obtain ⟨h1, h2⟩ := hf s
  rw [h1] at hrun
  refine ⟨v, ps, hrun, ?_⟩
  cases hfs : f s with
  | none =>
    rw [hfs] at h1
    left
    rw [atKey_of_not_has (by simpa using h1)] at hv
    exact ⟨rfl, hv⟩
  | some x => right; exact ⟨x, rfl, by rw [hv, h2 x hfs]⟩
end

section
variable {P : Program} {α : Type} {k : TypeId} {R : Value → Option (DataW Unit × List MemPlace)} {enc : α → DataW Unit} {zd : DataW Unit} {b n : Nat} {f : Int → Option α}
/-- 'm[s] = x' at the operation -/
theorem wpList_put_is (w : World) {ops : Array Oper} {rest : List Oper} {o : Oper} {a : Act} {Q : Exit → Act → World → Prop}
    (hg : o.guard = none) (m x v : Operand) (t : TypeId) (hop : o.op = Op.mapUpdate t m x v) (e : TypeId) (hk : P.underlying k = some (.int .i64)) (ht : P.underlying t = some (.map k e))
    (hm : a.eval m = .map (some b)) (h : MapIs P k R enc zd w b n f) (hn : n < maxLen) (s : Int) (hs : (Lit.int .i64 s).wf = true) (val : Value) (hx : a.eval x = .int .i64 s) (hv : a.eval v = val) (y : α) (ps : List MemPlace) (hval : R val = some (enc y, ps))
    (hK : ∀ w', MapIs P k R enc zd w' b (n + 1) (fun q => if s = q then some y else f q) → w.grownBy w' (some b) → wpList P ops Q rest (a.put o.dst undef) w') :
    wpList P ops Q (o :: rest) a w := by
  obtain ⟨D, hD, hf⟩ := h
  refine wpList_mapUpdate_own w hg m x v t hop k e (int_keyed hk) ht R b n D hm hD hn _ val _ hx hv (keyOf_int_mk hk hs) (enc y) ps hval (fun w' h1 h2 => hK w' ⟨_, h1, fun q => ?_⟩ h2)
  have hm := hD.isMap
  have hkl : WideAt.IsKeyLit (.int .i64 s) := by simp [WideAt.IsKeyLit]
  by_cases hq : s = q
  · subst hq
    simp only [if_true]
    exact ⟨has_put_same hm hkl _, fun x hx => by cases hx; exact atKey_put_same hm hkl _ _⟩
  · simp only [if_neg hq]
    have hne : (Lit.int .i64 q) ≠ (Lit.int .i64 s) := fun h => hq (by cases h; rfl)
    exact ⟨(has_put_other hne _).trans (hf q).1, fun x hx => (atKey_put_other hne _ _).trans ((hf q).2 x hx)⟩
end
end Go.Proofs.Ytojgpgjmcamfoaa
