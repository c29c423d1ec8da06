/- Small words for the walks of this seat. -/
import Derived.Deep.QuietTactic
import Derived.BigQuiet
import Derived.OpenShut
import Derived.RowKit3
import Derived.Laws.World
namespace Go.Proofs.Ytgdbmjokpbjoaaa
open Go.RowKit

/-- a call that leaves the world alone, inside a region that draws -/
theorem still {P : Program} {f : FuncId} {args : Array Value} {w : World} {n : Nat} {v : Value}
    (h : Calls P f args (w.drewN n) fun e w' => e = .returned v ∧ w.drewN n = w') : Calls P f args (w.drewN n) fun e w'' => e = .returned v ∧ ∃ m, w'' = w.drewN m :=
  h.mono fun _ _ ⟨he, hm⟩ => ⟨he, n, hm.symm⟩
/-- likewise, behind an earlier region of that kind -/
theorem still2 {P : Program} {f : FuncId} {args : Array Value} {w : World} {a n : Nat} {v : Value}
    (h : Calls P f args (w.drewN (a + n)) fun e w' => e = .returned v ∧ w.drewN (a + n) = w') : Calls P f args (w.drewN (a + n)) fun e w'' => e = .returned v ∧ ∃ m, w'' = w.drewN (a + m) :=
  h.mono fun _ _ ⟨he, hm⟩ => ⟨he, n, hm.symm⟩

theorem grown_drewN (w : World) (n : Nat) : Grown w (w.drewN n) := by
  induction n generalizing w with
  | zero => exact Grown.refl _
  | succ n ih => exact (ih w).drew

/-- a slice of integers that came in: where there is an element, its address and each element's cell -/
def IntRow (k : IntKind) (w : World) (a : Option Addr) (len : Nat) (zs : List Int) : Prop :=
  len ≤ 9223372036854775807 ∧ zs.length = len ∧ (∀ n ∈ zs, (Lit.int k n).wf = true) ∧ (0 < len → ∃ b off, a = some ⟨b, off, none⟩ ∧ b < w.heap.size ∧ ∀ j, j < len → w.cell? ⟨b, off + j, none⟩ = some (.int k (zs.getD j 0)))

theorem intRow_of {k : IntKind} {w : World} {a : Option Addr} {len cap : Nat} {z : List Int}
    (h : (a = none ∧ len = 0 ∧ cap = 0 ∧ z = []) ∨ ∃ x, a = some x ∧ len ≤ cap ∧ cap ≤ maxLen ∧ z.length = cap ∧ (∀ i, i < z.length → w.cell? (x.add i) = some (.int k (z.getD i 0))) ∧ ∀ n ∈ z, (Lit.int k n).wf = true) :
    ∃ zs, IntRow k w a len zs := by
  rcases h with ⟨rfl, rfl, rfl, rfl⟩ | ⟨x, rfl, hl, hm, hz, hc, hwf⟩
  · exact ⟨[], by omega, rfl, by simp, fun h => absurd h (by omega)⟩
  · refine ⟨z.take len, by unfold maxLen at hm; omega, by simp; omega, fun n hn => hwf n (List.mem_of_mem_take hn), fun h => ?_⟩
    obtain ⟨b, off, rfl, hcc⟩ := ints_at hc (by omega)
    have h0 := World.block_lt_of_cell? _ _ (hcc 0 (by omega))
    refine ⟨b, off, rfl, h0, fun j hj => ?_⟩
    rw [hcc j (by omega)]
    simp [List.getD_eq_getElem?_getD, hj]

theorem IntRow.nat_at {w : World} {a : Option Addr} {len : Nat} {zs : List Int} (h : IntRow .u64 w a len zs) {k : Nat} (hk : k < len) :
    ∃ b off n, a = some ⟨b, off, none⟩ ∧ b < w.heap.size ∧ n < 18446744073709551616 ∧ zs.getD k 0 = ((n : Nat) : Int) ∧ w.cell? ⟨b, off + k, none⟩ = some (.int .u64 (n : Nat)) := by
  obtain ⟨_, hz, hwf, hc⟩ := h
  obtain ⟨b, off, rfl, hb, hcc⟩ := hc (by omega)
  have hm : zs.getD k 0 ∈ zs := by
    rw [List.getD_eq_getElem?_getD, List.getElem?_eq_getElem (by omega)]
    exact List.getElem_mem _
  have hb2 := bounds_u64 (hwf _ hm)
  refine ⟨b, off, (zs.getD k 0).toNat, rfl, hb, by omega, by omega, ?_⟩
  rw [hcc k hk, show (((zs.getD k 0).toNat : Nat) : Int) = zs.getD k 0 from by omega]

/-- a slice of numbers from 0 on, as a list: where there is an element, its address and each element's cell -/
def NatRow (w : World) (a : Option Addr) (xs : List Nat) : Prop :=
  xs.length ≤ 9223372036854775807 ∧ (∀ x ∈ xs, x < 18446744073709551616) ∧ (0 < xs.length → ∃ b off, a = some ⟨b, off, none⟩ ∧ b < w.heap.size ∧ ∀ j, j < xs.length → w.cell? ⟨b, off + j, none⟩ = some (.int .u64 (xs.getD j 0 : Nat)))
theorem IntRow.nats {w : World} {a : Option Addr} {len : Nat} {zs : List Int} (h : IntRow .u64 w a len zs) : ∃ xs : List Nat, NatRow w a xs ∧ xs.length = len := by
  obtain ⟨h1, h2, h3, h4⟩ := h
  have hb : ∀ n ∈ zs, 0 ≤ n ∧ n ≤ 18446744073709551615 := fun n hn => bounds_u64 (h3 n hn)
  refine ⟨zs.map Int.toNat, ⟨by simp; omega, fun x hx => ?_, fun h => ?_⟩, by simp; omega⟩
  · obtain ⟨n, hn, rfl⟩ := List.mem_map.1 hx
    have := hb n hn
    omega
  · obtain ⟨b, off, ha, hl, hc⟩ := h4 (by simp at h; omega)
    refine ⟨b, off, ha, hl, fun j hj => ?_⟩
    have hj' : j < zs.length := by simpa using hj
    rw [hc j (by omega)]
    have hm := hb _ (List.getElem_mem hj')
    have e : zs.getD j 0 = zs[j] := by rw [List.getD_eq_getElem?_getD, List.getElem?_eq_getElem hj']; rfl
    have e2 : (zs.map Int.toNat).getD j 0 = zs[j].toNat := by rw [List.getD_eq_getElem?_getD, List.getElem?_map, List.getElem?_eq_getElem hj']; rfl
    rw [e, e2, show ((zs[j].toNat : Nat) : Int) = zs[j] from by omega]
theorem NatRow.at_ {w : World} {a : Option Addr} {xs : List Nat} (h : NatRow w a xs) {k : Nat} (hk : k < xs.length) :
    ∃ b off n, a = some ⟨b, off, none⟩ ∧ b < w.heap.size ∧ n < 18446744073709551616 ∧ xs.getD k 0 = n ∧ xs[k]? = some n ∧ w.cell? ⟨b, off + k, none⟩ = some (.int .u64 (n : Nat)) := by
  obtain ⟨b, off, ha, hl, hc⟩ := h.2.2 (by omega)
  have e : xs.getD k 0 = xs[k] := by rw [List.getD_eq_getElem?_getD, List.getElem?_eq_getElem hk]; rfl
  refine ⟨b, off, xs[k], ha, hl, h.2.1 _ (List.getElem_mem hk), e, List.getElem?_eq_getElem hk, ?_⟩
  rw [hc k hk, e]
end Go.Proofs.Ytgdbmjokpbjoaaa
