/- Slices of structs and of booleans that came in: their cells. -/
import Derived.Test.YtojgpgjmcamfoaaBase
import Derived.Deep.Slices
import Derived.Deep.Fields
import Derived.ChangeSame
namespace Go.Proofs.Ytojgpgjmcamfoaa
open Go.RowKit Go.ChangeShapes Go.WideShapes Go.Deep
set_option linter.unusedVariables false

section
variable {H : Type} {enc : TypeId × Value → H} {P : Program} {w : World} {base : Nat} {spare : Nat → Bool} {held : Bool}
theorem fields_of {e : TypeId} {fs : Array Field} {n : Nat} {cs : List Value} {x : DataW H × List MemPlace} (he : P.underlying e = some (.struct fs)) (hone : oneCellFields P fs = true) (hC : P.cellsOf e = fs.size)
    (h : DataW.trod enc P w base spare held n e cs = some x) : ∀ (j : Nat) (f : Field), fs[j]? = some f → ∃ (v : Value) (m : Nat) (y : DataW H × List MemPlace), cs[j]? = some v ∧ DataW.trod enc P w base spare held m f.type [v] = some y := by
  intro j f hj
  obtain ⟨ys, m, _, _, hlen, hyl, hf⟩ := DataW.trod_struct he h
  obtain ⟨ho, hk⟩ := hone_of hone j f hj
  have hjl : j < fs.size := by
    rcases Nat.lt_or_ge j fs.size with h | h
    · exact h
    · rw [Array.getElem?_eq_none h] at hj; cases hj
  have hjc : j < cs.length := by omega
  have h1 := hf j f hj
  rw [ho, hk, List.drop_eq_getElem_cons hjc, List.take_succ_cons, List.take_zero] at h1
  refine ⟨cs[j], m, ys[j]'(by omega), List.getElem?_eq_getElem hjc, ?_⟩
  rw [h1]
  exact List.getElem?_eq_getElem (by omega)
theorem slice_structs {t e : TypeId} {fs : Array Field} {fuel : Nat} {a : Option Addr} {len cap : Nat} {x : DataW H × List MemPlace} (ht : P.underlying t = some (.slice e)) (he : P.underlying e = some (.struct fs))
    (hone : oneCellFields P fs = true) (hC : P.cellsOf e = fs.size) (hp : 0 < fs.size) (h : DataW.trod enc P w base spare held fuel t [.slice a len cap] = some x) :
    len ≤ 9223372036854775807 ∧ (0 < len → ∃ b off, a = some ⟨b, off, none⟩ ∧ b < w.heap.size ∧ ∀ k, k < len → ∀ (j : Nat) (f : Field), fs[j]? = some f →
      ∃ (v : Value) (m : Nat) (y : DataW H × List MemPlace), w.cell? ⟨b, off + k * fs.size + j, none⟩ = some v ∧ DataW.trod enc P w base spare held m f.type [v] = some y) := by
  rcases open_slice ht h with ⟨h0, _⟩ | ⟨q, l, c, m, n, D, Pl, hcs, hb, hl, hm, hmm, hx, hi⟩
  · simp at h0
    omega
  · simp at hcs
    obtain ⟨rfl, rfl, rfl⟩ := hcs
    have hlm : len ≤ m := by rw [hmm]; split <;> omega
    refine ⟨by unfold maxLen at hm; omega, fun h0 => ?_⟩
    have hat : ∀ k, k < len → ∀ (j : Nat) (f : Field), fs[j]? = some f → ∃ (v : Value) (m : Nat) (y : DataW H × List MemPlace), w.cell? ((q.add (k * fs.size)).add j) = some v ∧ DataW.trod enc P w base spare held m f.type [v] = some y := by
      intro k hk j f hj
      obtain ⟨cs, hc, ht'⟩ := hi k (by omega)
      rw [hC] at hc
      obtain ⟨_, hcl, hcell⟩ := World.cells?_some hc
      obtain ⟨v, m', y, hv, hy⟩ := fields_of he hone hC ht' j f hj
      have hjl : j < fs.size := by
        rcases Nat.lt_or_ge j fs.size with h | h
        · exact h
        · rw [Array.getElem?_eq_none h] at hj; cases hj
      exact ⟨v, m', y, (hcell j hjl).trans hv, hy⟩
    obtain ⟨b, off, spot⟩ := q
    have h00 : fs[0]? = some (fs[0]'hp) := Array.getElem?_eq_getElem hp
    obtain ⟨v, _, _, hv, _⟩ := hat 0 h0 0 _ h00
    have hspot : spot = none := by simpa [Addr.add] using World.cell?_spot hv
    subst hspot
    have hbl : b < w.heap.size := by simpa [Addr.add] using World.block_lt_of_cell? _ _ hv
    refine ⟨b, off, rfl, hbl, fun k hk j f hj => ?_⟩
    obtain ⟨v, m', y, hv, hy⟩ := hat k hk j f hj
    rw [Go.WideShapes.add_plain, Go.WideShapes.add_plain] at hv
    exact ⟨v, m', y, hv, hy⟩
theorem slice_ones {t e : TypeId} {fuel : Nat} {a : Option Addr} {len cap : Nat} {x : DataW H × List MemPlace} (ht : P.underlying t = some (.slice e)) (hC : P.cellsOf e = 1)
    (h : DataW.trod enc P w base spare held fuel t [.slice a len cap] = some x) :
    len ≤ 9223372036854775807 ∧ (0 < len → ∃ b off, a = some ⟨b, off, none⟩ ∧ b < w.heap.size ∧ ∀ k, k < len →
      ∃ (v : Value) (m : Nat) (y : DataW H × List MemPlace), w.cell? ⟨b, off + k, none⟩ = some v ∧ DataW.trod enc P w base spare held m e [v] = some y) := by
  rcases open_slice ht h with ⟨h0, _⟩ | ⟨q, l, c, m, n, D, Pl, hcs, hb, hl, hm, hmm, hx, hi⟩
  · simp at h0
    omega
  · simp at hcs
    obtain ⟨rfl, rfl, rfl⟩ := hcs
    have hlm : len ≤ m := by rw [hmm]; split <;> omega
    refine ⟨by unfold maxLen at hm; omega, fun h0 => ?_⟩
    have hat : ∀ k, k < len → ∃ (v : Value) (m : Nat) (y : DataW H × List MemPlace), w.cell? (q.add k) = some v ∧ DataW.trod enc P w base spare held m e [v] = some y := by
      intro k hk
      obtain ⟨cs, hc, ht'⟩ := hi k (by omega)
      rw [hC, Nat.mul_one] at hc
      obtain ⟨_, hcl, hcell⟩ := World.cells?_some hc
      match cs, hcl with
      | [v], _ => exact ⟨v, n, _, by simpa [Addr.add] using hcell 0 (by omega), ht'⟩
    obtain ⟨b, off, spot⟩ := q
    obtain ⟨v, _, _, hv, _⟩ := hat 0 h0
    have hspot : spot = none := by simpa [Addr.add] using World.cell?_spot hv
    subst hspot
    have hbl : b < w.heap.size := by simpa [Addr.add] using World.block_lt_of_cell? _ _ hv
    refine ⟨b, off, rfl, hbl, fun k hk => ?_⟩
    obtain ⟨v, m', y, hv, hy⟩ := hat k hk
    rw [Go.WideShapes.add_plain] at hv
    exact ⟨v, m', y, hv, hy⟩
theorem slice_cap {t e : TypeId} {fuel : Nat} {a : Option Addr} {len cap : Nat} {x : DataW H × List MemPlace} (ht : P.underlying t = some (.slice e)) (h : DataW.trod enc P w base spare held fuel t [.slice a len cap] = some x) : len ≤ cap := by
  rcases open_slice ht h with ⟨h0, _⟩ | ⟨q, l, c, m, n, D, Pl, hcs, hb, hl, hm, hmm, hx, hi⟩
  · simp at h0
    omega
  · simp at hcs
    obtain ⟨rfl, rfl, rfl⟩ := hcs
    exact hl
/-- the elements of a slice, whatever they are made of -/
theorem slice_elems {t e : TypeId} {fuel : Nat} {a : Option Addr} {len cap : Nat} {x : DataW H × List MemPlace} (size : Nat) (ht : P.underlying t = some (.slice e)) (hC : P.cellsOf e = size) (hp : 0 < size)
    (hne : ∀ n cs y, DataW.trod enc P w base spare held n e cs = some y → cs.length = size) (h : DataW.trod enc P w base spare held fuel t [.slice a len cap] = some x) :
    len ≤ 9223372036854775807 ∧ (0 < len → ∃ b off, a = some ⟨b, off, none⟩ ∧ b < w.heap.size ∧ ∀ k, k < len → ∃ (cs : List Value) (n : Nat) (y : DataW H × List MemPlace), cs.length = size ∧
      (∀ j, j < size → w.cell? ⟨b, off + k * size + j, none⟩ = cs[j]?) ∧ DataW.trod enc P w base spare held n e cs = some y) := by
  rcases open_slice ht h with ⟨h0, _⟩ | ⟨q, l, c, m, n, D, Pl, hcs, hb, hl, hm, hmm, hx, hi⟩
  · simp at h0
    omega
  · simp at hcs
    obtain ⟨rfl, rfl, rfl⟩ := hcs
    have hlm : len ≤ m := by rw [hmm]; split <;> omega
    refine ⟨by unfold maxLen at hm; omega, fun h0 => ?_⟩
    have hat : ∀ k, k < len → ∃ (cs : List Value) (n : Nat) (y : DataW H × List MemPlace), cs.length = size ∧ (∀ j, j < size → w.cell? ((q.add (k * size)).add j) = cs[j]?) ∧ DataW.trod enc P w base spare held n e cs = some y := by
      intro k hk
      obtain ⟨cs, hc, ht'⟩ := hi k (by omega)
      rw [hC] at hc
      obtain ⟨_, hcl, hcell⟩ := World.cells?_some hc
      exact ⟨cs, _, _, hcl, fun j hj => hcell j hj, ht'⟩
    obtain ⟨b, off, spot⟩ := q
    obtain ⟨cs, _, _, hl0, hc0, _⟩ := hat 0 h0
    have h00 := hc0 0 hp
    rw [List.getElem?_eq_getElem (by omega)] at h00
    have hspot : spot = none := by simpa [Addr.add] using World.cell?_spot h00
    subst hspot
    have hbl : b < w.heap.size := by simpa [Addr.add] using World.block_lt_of_cell? _ _ h00
    refine ⟨b, off, rfl, hbl, fun k hk => ?_⟩
    obtain ⟨cs, n, y, hl, hc, ht'⟩ := hat k hk
    refine ⟨cs, n, y, hl, fun j hj => ?_, ht'⟩
    have := hc j hj
    rw [Go.WideShapes.add_plain, Go.WideShapes.add_plain] at this
    exact this
theorem struct_len {e : TypeId} {fs : Array Field} {size : Nat} (he : P.underlying e = some (.struct fs)) (hC : P.cellsOf e = size) : ∀ n cs y, DataW.trod enc P w base spare held n e cs = some y → cs.length = size := by
  intro n cs y h
  obtain ⟨ys, m, _, _, hlen, _, _⟩ := DataW.trod_struct he h
  rw [hlen, hC]
/-- a field of one cell -/
theorem one_of {e : TypeId} {fs : Array Field} {n : Nat} {cs : List Value} {x : DataW H × List MemPlace} (he : P.underlying e = some (.struct fs)) (h : DataW.trod enc P w base spare held n e cs = some x)
    (i : Nat) (f : Field) (hf : fs[i]? = some f) (hk : P.cellsOf f.type = 1) (hlt : f.offset < cs.length) : ∃ (v : Value) (m : Nat) (y : DataW H × List MemPlace), cs[f.offset]? = some v ∧ DataW.trod enc P w base spare held m f.type [v] = some y := by
  obtain ⟨ys, m, _, _, hlen, hyl, hh⟩ := DataW.trod_struct he h
  have hil : i < fs.size := (Array.getElem?_eq_some_iff.1 hf).1
  have h1 := hh i f hf
  rw [hk, List.drop_eq_getElem_cons hlt, List.take_succ_cons, List.take_zero] at h1
  exact ⟨cs[f.offset], m, ys[i]'(by omega), List.getElem?_eq_getElem hlt, by rw [h1]; exact List.getElem?_eq_getElem (by omega)⟩
/-- a field of a field that is a struct of fields of one cell -/
theorem sub_of {e g : TypeId} {fs gs : Array Field} {n : Nat} {cs : List Value} {x : DataW H × List MemPlace} (he : P.underlying e = some (.struct fs)) (h : DataW.trod enc P w base spare held n e cs = some x)
    (i : Nat) (f : Field) (hf : fs[i]? = some f) (hg : f.type = g) (hu : P.underlying g = some (.struct gs)) (hone : oneCellFields P gs = true) (hC : P.cellsOf g = gs.size)
    (j : Nat) (f2 : Field) (hf2 : gs[j]? = some f2) : ∃ (v : Value) (m : Nat) (y : DataW H × List MemPlace), cs[f.offset + j]? = some v ∧ DataW.trod enc P w base spare held m f2.type [v] = some y := by
  obtain ⟨ys, m, _, _, hlen, hyl, hh⟩ := DataW.trod_struct he h
  have hil : i < fs.size := (Array.getElem?_eq_some_iff.1 hf).1
  have h1 := hh i f hf
  rw [hg, List.getElem?_eq_getElem (show i < ys.length by omega)] at h1
  obtain ⟨v, m', y, hv, hy⟩ := fields_of hu hone hC h1 j f2 hf2
  refine ⟨v, m', y, ?_, hy⟩
  have hjl : j < gs.size := (Array.getElem?_eq_some_iff.1 hf2).1
  rw [hC] at hv
  rw [List.getElem?_take_of_lt hjl, List.getElem?_drop] at hv
  exact hv
end
end Go.Proofs.Ytojgpgjmcamfoaa
