/- Three slices of the call's own that grow side by side: segments, times, rates. -/
import Derived.Test.YtojgpgjmcamfoaaSegR
namespace Go.Proofs.Ytojgpgjmcamfoaa
open Go.RowKit Go.Lib
set_option linter.unusedVariables false

def Tri (w0 : World) (B : Nat) (w : World) (v7 v8 v9 : Value) (ls : List Sg) (ts rs : List Nat) : Prop :=
  SlOwn w B v7 ls ∧ NlOwn w B v8 ts ∧ NlOwn w B v9 rs ∧ Apt v7 v8 ∧ Apt v7 v9 ∧ Apt v8 v9 ∧ Below w0.heap.size w0 w ∧ w0.heap.size ≤ B ∧ B ≤ w.heap.size
section
variable {w0 w w' : World} {B : Nat} {v7 v8 v9 : Value} {ls : List Sg} {ts rs : List Nat}
theorem Tri.nil (hb : Below w0.heap.size w0 w) (h1 : w0.heap.size ≤ B) (h2 : B ≤ w.heap.size) : Tri w0 B w (.slice none 0 0) (.slice none 0 0) (.slice none 0 0) [] [] [] :=
  ⟨SlOwn.nil _ _, NlOwn.nil _ _, NlOwn.nil _ _, .inl rfl, .inl rfl, .inl rfl, hb, h1, h2⟩
theorem Tri.alloc (h : Tri w0 B w v7 v8 v9 ls ts rs) (o : Obj) : Tri w0 B (w.alloc o) v7 v8 v9 ls ts rs := by
  obtain ⟨h1, h2, h3, h4, h5, h6, h7, h8, h9⟩ := h
  exact ⟨h1.alloc o, h2.alloc o, h3.alloc o, h4, h5, h6, h7.alloc h7.size o, h8, by simp; omega⟩
theorem Tri.below (h : Tri w0 B w v7 v8 v9 ls ts rs) (hb : Below w.heap.size w w') : Tri w0 B w' v7 v8 v9 ls ts rs := by
  obtain ⟨h1, h2, h3, h4, h5, h6, h7, h8, h9⟩ := h
  exact ⟨h1.below hb, h2.below hb, h3.below hb, h4, h5, h6, h7.trans (hb.mono h7.size), h8, Nat.le_trans h9 hb.size⟩
theorem Tri.under (h : Tri w0 B w v7 v8 v9 ls ts rs) {b : Nat} {t : TypeId} {cs : Array Value} (hb : b < B) (hw : w0.heap.size ≤ b) (p : Put w w' b t cs) : Tri w0 B w' v7 v8 v9 ls ts rs := by
  obtain ⟨h1, h2, h3, h4, h5, h6, h7, h8, h9⟩ := h
  have ne : ∀ {e size n v xs}, w.ownsRow B e size v n xs → v.ownBlock = none ∨ v.ownBlock ≠ some b := fun {e size n v xs} h => by
    cases hv : v.ownBlock with
    | none => exact .inl rfl
    | some k => exact .inr (by have := (h.lt k hv).1; intro h; simp at h; omega)
  exact ⟨h1.kept p.2 (ne h1), h2.kept p.2 (ne h2), h3.kept p.2 (ne h3), h4, h5, h6, p.below h7 h7.size hw, h8, Nat.le_trans h9 p.size⟩

theorem far_kept {v : Value} {n size : Nat} {e : TypeId} {xs : List Value} (h : w.ownsRow B e size v n xs) (hg : w.grownBy w' v.ownBlock) : ∀ b t cs, b < B → At w b t cs → At w' b t cs :=
  fun b t cs hb ha => ha.kept hg fun h' => by have := (h.lt b h'.symm).1; omega
theorem grown_row {v : Value} {n size : Nat} {e : TypeId} {xs : List Value} (hb : Below w0.heap.size w0 w) (h0 : w0.heap.size ≤ B) (h : w.ownsRow B e size v n xs) (hg : w.grownBy w' v.ownBlock) : Below w0.heap.size w0 w' :=
  hb.grown hg hb.size fun k hk => Nat.le_trans h0 (h.lt k hk).1
end

section
variable (w : World) {ops : Array Oper} {rest : List Oper} {o : Oper} {a : Act} {Q : Exit → Act → World → Prop} (hgd : o.guard = none) (s x : Operand)
variable (w0 : World) (B : Nat) (v7 v8 v9 : Value) (ls : List Sg) (ts rs : List Nat)
include hgd
theorem wpList_tri7 (ho : o.op = .call { callee := .builtin .append, args := #[s, x], argTypes := #[48, 48] }) (hs : a.eval s = v7) (h : Tri w0 B w v7 v8 v9 ls ts rs)
    (b : Nat) (hx : a.eval x = .slice (some ⟨b, 0, none⟩) 1 1) (y : Sg) (hat : At w b 55 (segC y)) (hn : ls.length ≤ 1000)
    (hK : ∀ g cap w', Tri w0 B w' (.slice (some ⟨g, 0, none⟩) (ls.length + 1) cap) v8 v9 (ls ++ [y]) ts rs → (∀ b t cs, b < B → At w b t cs → At w' b t cs) → wpList Try.prog ops Q rest (a.put o.dst (.slice (some ⟨g, 0, none⟩) (ls.length + 1) cap)) w') :
    wpList Try.prog ops Q (o :: rest) a w := by
  obtain ⟨h1, h2, h3, h4, h5, h6, h7, h8, h9⟩ := h
  refine wpList_app_seg w hgd s x ho B v7 ls hs h1 b hx y hat (by omega) h9 fun g cap w' k1 k2 k3 k4 => hK g cap w' ⟨k1, h2.apt k2 h4.symm, h3.apt k2 h5.symm, apt_new k3 h2 rfl h4, apt_new k3 h3 rfl h5, h6, grown_row h7 h8 h1 k2, h8, Nat.le_trans h9 k2.size⟩ (far_kept h1 k2)
theorem wpList_tri8 (ho : o.op = .call { callee := .builtin .append, args := #[s, x], argTypes := #[36, 36] }) (hs : a.eval s = v8) (h : Tri w0 B w v7 v8 v9 ls ts rs)
    (b : Nat) (hx : a.eval x = .slice (some ⟨b, 0, none⟩) 1 1) (y : Nat) (hat : At w b 22 #[.int .u64 y]) (hn : ts.length ≤ 1000)
    (hK : ∀ g cap w', Tri w0 B w' v7 (.slice (some ⟨g, 0, none⟩) (ts.length + 1) cap) v9 ls (ts ++ [y]) rs → (∀ b t cs, b < B → At w b t cs → At w' b t cs) → wpList Try.prog ops Q rest (a.put o.dst (.slice (some ⟨g, 0, none⟩) (ts.length + 1) cap)) w') :
    wpList Try.prog ops Q (o :: rest) a w := by
  obtain ⟨h1, h2, h3, h4, h5, h6, h7, h8, h9⟩ := h
  refine wpList_app_nat w hgd s x ho B v8 ts hs h2 b hx y hat (by omega) h9 fun g cap w' k1 k2 k3 k4 => hK g cap w' ⟨h1.apt k2 h4, k1, h3.apt k2 h6.symm, (apt_new k3 h1 rfl h4.symm).symm, h5, apt_new k3 h3 rfl h6, grown_row h7 h8 h2 k2, h8, Nat.le_trans h9 k2.size⟩ (far_kept h2 k2)
theorem wpList_tri9 (ho : o.op = .call { callee := .builtin .append, args := #[s, x], argTypes := #[36, 36] }) (hs : a.eval s = v9) (h : Tri w0 B w v7 v8 v9 ls ts rs)
    (b : Nat) (hx : a.eval x = .slice (some ⟨b, 0, none⟩) 1 1) (y : Nat) (hat : At w b 22 #[.int .u64 y]) (hn : rs.length ≤ 1000)
    (hK : ∀ g cap w', Tri w0 B w' v7 v8 (.slice (some ⟨g, 0, none⟩) (rs.length + 1) cap) ls ts (rs ++ [y]) → (∀ b t cs, b < B → At w b t cs → At w' b t cs) → wpList Try.prog ops Q rest (a.put o.dst (.slice (some ⟨g, 0, none⟩) (rs.length + 1) cap)) w') :
    wpList Try.prog ops Q (o :: rest) a w := by
  obtain ⟨h1, h2, h3, h4, h5, h6, h7, h8, h9⟩ := h
  refine wpList_app_nat w hgd s x ho B v9 rs hs h3 b hx y hat (by omega) h9 fun g cap w' k1 k2 k3 k4 => hK g cap w' ⟨h1.apt k2 h5, h2.apt k2 h6, k1, h4, (apt_new k3 h1 rfl h5.symm).symm, (apt_new k3 h2 rfl h6.symm).symm, grown_row h7 h8 h3 k2, h8, Nat.le_trans h9 k2.size⟩ (far_kept h3 k2)
end

/-- a slice of ints that came in, by a function -/
def FunRow (w : World) (a : Option Addr) (len : Nat) (k : IntKind) (f : Nat → Int) : Prop :=
  len ≤ 9223372036854775807 ∧ (0 < len → ∃ b off, a = some ⟨b, off, none⟩ ∧ b < w.heap.size ∧ ∀ j, j < len → w.cell? ⟨b, off + j, none⟩ = some (.int k (f j)))
theorem funRow_of {w : World} {a : Option Addr} {len : Nat} {k : IntKind} (hl : len ≤ 9223372036854775807)
    (h : 0 < len → ∃ b off, a = some ⟨b, off, none⟩ ∧ b < w.heap.size ∧ ∀ j, j < len → ∃ x : Int, (Lit.int k x).wf = true ∧ w.cell? ⟨b, off + j, none⟩ = some (.int k x)) : ∃ f, FunRow w a len k f ∧ ∀ j, (Lit.int k (f j)).wf = true := by
  have hw0 : (Lit.int k 0).wf = true := by cases k <;> decide
  rcases Nat.eq_zero_or_pos len with rfl | hp
  · exact ⟨fun _ => 0, ⟨by omega, fun h => by omega⟩, fun _ => hw0⟩
  · obtain ⟨b, off, ha, hb, hc⟩ := h hp
    have hc' : ∀ j, ∃ x : Int, (Lit.int k x).wf = true ∧ (j < len → w.cell? ⟨b, off + j, none⟩ = some (.int k x)) := by
      intro j
      by_cases hj : j < len
      · obtain ⟨x, hx, hx2⟩ := hc j hj
        exact ⟨x, hx, fun _ => hx2⟩
      · exact ⟨0, hw0, fun h => absurd h hj⟩
    obtain ⟨f, hf⟩ := Classical.axiomOfChoice hc'
    exact ⟨f, ⟨hl, fun _ => ⟨b, off, ha, hb, fun j hj => (hf j).2 hj⟩⟩, fun j => (hf j).1⟩
theorem FunRow.at_ {w w' : World} {a : Option Addr} {len : Nat} {k : IntKind} {f : Nat → Int} (h : FunRow w a len k f) (hb : Below w.heap.size w w') {j : Nat} (hj : j < len) :
    ∃ b off, a = some ⟨b, off, none⟩ ∧ b < w'.heap.size ∧ w'.cell? ⟨b, off + j, none⟩ = some (.int k (f j)) := by
  obtain ⟨b, off, ha, hl, hc⟩ := h.2 (by omega)
  exact ⟨b, off, ha, Nat.lt_of_lt_of_le hl hb.size, (hb.cell (p := ⟨b, off + j, none⟩) hl).trans (hc j hj)⟩

theorem rowsG_set1 (y : Nat) (xs : List Sg) : ∀ (j : Nat) (x : Sg), xs[j]? = some x → rowsG (xs.set j ⟨x.sock, y, x.len, x.stamp, x.again⟩) = (rowsG xs).set (j * 5 + 1) (.int .u64 y) := by
  induction xs with
  | nil => intro j x h; simp at h
  | cons z xs ih =>
    intro j x h
    have e : ∀ z : Sg, ∀ zs, rowsG (z :: zs) = cellsG z ++ rowsG zs := fun z zs => by simp [rowsG]
    cases j with
    | zero =>
      simp at h
      subst h
      rw [List.set_cons_zero, e, e]
      rfl
    | succ j =>
      have hl : (cellsG z).length = 5 := rfl
      rw [List.set_cons_succ, e, e, ih j x (by simpa using h), List.set_append_right _ _ (by omega), hl, show (j + 1) * 5 + 1 - 5 = j * 5 + 1 from by omega]
theorem SlOwn.setFr {w : World} {B n g cp j y : Nat} {xs : List Sg} {x : Sg} (h : SlOwn w B (.slice (some ⟨g, 0, none⟩) n cp) xs) (hn : xs.length = n) (hx : xs[j]? = some x) :
    SlOwn (w.setCell ⟨g, j * 5 + 1, none⟩ (.int .u64 y)) B (.slice (some ⟨g, 0, none⟩) n cp) (xs.set j ⟨x.sock, y, x.len, x.stamp, x.again⟩) := by
  subst hn
  unfold SlOwn
  rw [rowsG_set1 y xs j x hx, List.length_set]
  exact own_set5 h _
theorem NlOwn.setAt {w : World} {B n g cp j y : Nat} {xs : List Nat} (h : NlOwn w B (.slice (some ⟨g, 0, none⟩) n cp) xs) (hn : xs.length = n) :
    NlOwn (w.setCell ⟨g, j, none⟩ (.int .u64 y)) B (.slice (some ⟨g, 0, none⟩) n cp) (xs.set j y) := by
  subst hn
  unfold NlOwn
  rw [List.map_set, List.length_set]
  exact own_set5 h _
theorem SlOwn.free {w : World} {B n g cp : Nat} {xs : List Sg} (h : SlOwn w B (.slice (some ⟨g, 0, none⟩) n cp) xs) (hn : xs.length = n) (j : Nat) : w.frozen? ⟨g, j, none⟩ = false := by
  subst hn; exact own_free5 h
theorem NlOwn.free {w : World} {B n g cp : Nat} {xs : List Nat} (h : NlOwn w B (.slice (some ⟨g, 0, none⟩) n cp) xs) (hn : xs.length = n) (j : Nat) : w.frozen? ⟨g, j, none⟩ = false := by
  subst hn; exact own_free5 h
theorem mod_letter' (n : Int) (L : Nat) (hL : 0 < L) : ∃ m p : Nat, p < L ∧ Hid (IntKind.u64.wrap n = m ∧ (m : Int) % (L : Int) = p ∧ (m : Int).tmod (L : Int) = p) := by
  have hm : IntKind.u64.wrap n = ((IntKind.u64.wrap n).toNat : Nat) := by rw [IntKind.wrap_u64]; omega
  refine ⟨(IntKind.u64.wrap n).toNat, (IntKind.u64.wrap n).toNat % L, Nat.mod_lt _ hL, Lib.hid ⟨hm, ?_, ?_⟩⟩
  · simp
  · rw [Int.tmod_eq_emod_of_nonneg (Int.natCast_nonneg _)]; simp
theorem small_wrap64' (p : Nat) (h : p ≤ 5000) : wrap64 (p : Int) = p := by unfold wrap64; omega
theorem small_wrapu' (p : Nat) (h : p ≤ 5000) : IntKind.u64.wrap (p : Int) = p := by rw [IntKind.wrap_u64]; omega
theorem pos_ne0' (p : Nat) (h : 0 < p) : ((p : Int) == 0) = false := by rw [beq_eq_false_iff_ne]; omega
end Go.Proofs.Ytojgpgjmcamfoaa
