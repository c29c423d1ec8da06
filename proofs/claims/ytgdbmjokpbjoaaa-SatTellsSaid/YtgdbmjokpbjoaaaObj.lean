/- Words for objects behind pointers: a block known whole; a world in which one block has turned. -/
import Derived.Test.YtgdbmjokpbjoaaaBase
import Derived.WalkKit
import Derived.WalkMore
import Derived.WalkSpells
import Derived.Lib.Hide
import Derived.Outline
import Derived.Below
import Derived.Laws.OwnMore
import Derived.Laws.Rows
import Derived.Laws.Pointers
import Derived.Maps.AppendAt
import Derived.Maps.Range
import Derived.OwnWalk
import Derived.Deep.Draws
import Derived.Deep.LoopGhost
import Derived.Deep.AppendLies
namespace Go.Proofs.Ytgdbmjokpbjoaaa
open Go.RowKit

/-- block b holds just these cells, of that type -/
def At (w : World) (b : Nat) (t : TypeId) (cs : Array Value) : Prop := w.heap[b]? = some (.cells cs t (0, 0))
/-- w' is w with new blocks, and block b, which now holds cs -/
def Put (w w' : World) (b : Nat) (t : TypeId) (cs : Array Value) : Prop := At w' b t cs ∧ w.grownBy w' (some b)

section
variable {w w' w'' : World} {b b' : Nat} {t t' : TypeId} {cs cs' : Array Value}
theorem At.lt (h : At w b t cs) : b < w.heap.size := by
  rcases Nat.lt_or_ge b w.heap.size with hlt | hge
  · exact hlt
  · unfold At at h; rw [Array.getElem?_eq_none hge] at h; cases h
theorem At.cell (h : At w b t cs) (i : Nat) : w.cell? ⟨b, i, none⟩ = cs[i]? := cell_of_row w b i cs t (0, 0) h
theorem At.free (h : At w b t cs) (i : Nat) : w.frozen? ⟨b, i, none⟩ = false := by
  unfold At at h
  simp [World.frozen?, h]
theorem At.made (w : World) (t : TypeId) (cs : Array Value) : At (w.alloc (.cells cs t)) w.heap.size t cs := heap_alloc_new w _
theorem At.kept {row : Option Nat} (h : At w b t cs) (hg : w.grownBy w' row) (hne : some b ≠ row) : At w' b t cs := (hg.block b h.lt hne).trans h
theorem At.drew (h : At w b t cs) : At w.drew b t cs := h
theorem At.far {u : Value} {p : Addr} (h : At w b t cs) (hne : b ≠ p.block) : At (w.setCell p u) b t cs := (Below.heap_setCell w p u b hne).trans h
theorem At.below {B : Nat} (h : At w b t cs) (hb : Below B w w') (hg : b < B) : At w' b t cs := (hb.block b hg).trans h
theorem At.set {u : Value} (h : At w b t cs) (i : Nat) : At (w.setCell ⟨b, i, none⟩ u) b t (cs.setIfInBounds i u) := by
  unfold At at h ⊢
  simp [World.setCell, Array.getElem?_modify, h]
theorem grown_set (w : World) (b i : Nat) (u : Value) : w.grownBy (w.setCell ⟨b, i, none⟩ u) (some b) :=
  ⟨rfl, rfl, rfl, by simp [World.setCell], fun k _ hne => Below.heap_setCell w _ u k (fun e => hne (by rw [e]))⟩
theorem by_drewN (w : World) (n : Nat) (row : Option Nat) : w.grownBy (w.drewN n) row := ⟨rfl, rfl, rfl, Nat.le_refl _, fun _ _ _ => rfl⟩
theorem by_drew (w : World) (row : Option Nat) : w.grownBy w.drew row := ⟨rfl, rfl, rfl, Nat.le_refl _, fun _ _ _ => rfl⟩
theorem Put.same (h : At w b t cs) : Put w w b t cs := ⟨h, World.grownBy.refl w _⟩
theorem Put.set {u : Value} (h : At w b t cs) (i : Nat) : Put w (w.setCell ⟨b, i, none⟩ u) b t (cs.setIfInBounds i u) := ⟨h.set i, grown_set w b i u⟩
theorem Put.then_ (h : Put w w' b t cs) (h2 : Put w' w'' b t cs') : Put w w'' b t cs' := ⟨h2.1, h.2.trans h2.2⟩
theorem Put.other (h : Put w w' b t cs) (h2 : At w b' t' cs') (hne : b' ≠ b) : At w' b' t' cs' := h2.kept h.2 (by simpa using hne)
theorem Put.below {B : Nat} {v : World} (h : Put w w' b t cs) (hb : Below B v w) (hw : B ≤ w.heap.size) (hB : B ≤ b) : Below B v w' := hb.grown h.2 hw (fun k hk => by cases hk; exact hB)
theorem Put.size (h : Put w w' b t cs) : w.heap.size ≤ w'.heap.size := h.2.size
theorem Put.cell (h : Put w w' b t cs) {p : Addr} {v : Value} (hc : w.cell? p = some v) (hne : p.block ≠ b) : w'.cell? p = some v := h.2.cell hc (by simpa using hne)
end

/-- an object of the call's own: made behind w0; what w0 had stands -/
def Own (w0 w : World) (b : Nat) (t : TypeId) (cs : Array Value) : Prop := At w b t cs ∧ Below w0.heap.size w0 w ∧ w0.heap.size ≤ b
section
variable {w0 w w' : World} {b b' : Nat} {t t' : TypeId} {cs cs' cs'' : Array Value}
theorem Own.put (h : Own w0 w b t cs) (p : Put w w' b t cs') : Own w0 w' b t cs' := ⟨p.1, p.below h.2.1 h.2.1.size h.2.2, h.2.2⟩
theorem Own.below (h : Own w0 w b t cs) (hb : Below w.heap.size w w') : Own w0 w' b t cs := ⟨h.1.below hb h.1.lt, h.2.1.trans (hb.mono h.2.1.size), h.2.2⟩
theorem Own.other (h : Own w0 w b t cs) (p : Put w w' b' t' cs') (hne : b ≠ b') (hb : w0.heap.size ≤ b') : Own w0 w' b t cs := ⟨p.other h.1 hne, p.below h.2.1 h.2.1.size hb, h.2.2⟩
theorem Own.made (hb : Below w0.heap.size w0 w) (t : TypeId) (cs : Array Value) : Own w0 (w.alloc (.cells cs t)) w.heap.size t cs := ⟨At.made _ _ _, hb.alloc hb.size _, hb.size⟩
theorem Own.alloc (h : Own w0 w b t cs) (o : Obj) : Own w0 (w.alloc o) b t cs := ⟨h.1.kept (World.grownBy_alloc w o none) (by simp), h.2.1.alloc h.2.1.size _, h.2.2⟩
end

section
variable {w0 w w' : World} {b : Nat} {t : TypeId} {cs : Array Value}
theorem Own.drew (h : Own w0 w b t cs) : Own w0 w.drew b t cs := ⟨h.1, h.2.1.drew, h.2.2⟩
theorem Own.drewN (h : Own w0 w b t cs) (n : Nat) : Own w0 (w.drewN n) b t cs := ⟨h.1, ⟨h.2.1.os, h.2.1.tape, h.2.1.output, h.2.1.size, h.2.1.block⟩, h.2.2⟩
end
end Go.Proofs.Ytgdbmjokpbjoaaa
