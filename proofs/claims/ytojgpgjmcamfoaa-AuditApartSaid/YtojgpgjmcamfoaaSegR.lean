/- Slices of segments and of numbers that are the call's own. -/
import Derived.Test.YtojgpgjmcamfoaaAud1
import Derived.Deep.AppendLies
import Derived.OwnWalk
namespace Go.Proofs.Ytojgpgjmcamfoaa
open Go.RowKit Go.Lib
set_option linter.unusedVariables false

def cellsG (x : Sg) : List Value := [.int .i64 x.sock, .int .u64 x.fr, .int .i64 x.len, .int .u64 x.stamp, .bool x.again]
def rowsG (xs : List Sg) : List Value := xs.flatMap cellsG
theorem rowsG_len (xs : List Sg) : (rowsG xs).length = xs.length * 5 := by
  induction xs with
  | nil => rfl
  | cons x xs ih => simp only [rowsG, List.flatMap_cons, List.length_append, List.length_cons] at ih ⊢; simp only [cellsG, List.length_cons, List.length_nil]; omega
theorem rowsG_snoc (xs : List Sg) (x : Sg) : rowsG (xs ++ [x]) = rowsG xs ++ cellsG x := by simp [rowsG, List.flatMap_append]
theorem rowsG_at {xs : List Sg} {j : Nat} {x : Sg} (h : xs[j]? = some x) (q : Nat) (hq : q < 5) : (rowsG xs)[j * 5 + q]? = (cellsG x)[q]? := by
  induction xs generalizing j with
  | nil => simp at h
  | cons y ys ih =>
    have e : rowsG (y :: ys) = cellsG y ++ rowsG ys := by simp [rowsG]
    rw [e]
    have hl : (cellsG y).length = 5 := rfl
    cases j with
    | zero =>
      simp at h
      subst h
      rw [List.getElem?_append_left (by omega)]
      simp
    | succ j =>
      rw [List.getElem?_append_right (by omega), hl, show (j + 1) * 5 + q - 5 = j * 5 + q from by omega]
      exact ih (by simpa using h)
theorem cellsG_one (x : Sg) : ∀ u ∈ cellsG x, u.oneCell' = true := by
  intro u hu
  simp only [cellsG, List.mem_cons, List.not_mem_nil, or_false] at hu
  rcases hu with rfl | rfl | rfl | rfl | rfl <;> rfl
theorem rowsG_one (xs : List Sg) : ∀ u ∈ rowsG xs, u.oneCell' = true := by
  intro u hu
  obtain ⟨x, _, hx⟩ := List.mem_flatMap.1 hu
  exact cellsG_one x u hx

/-- v holds just these segments, in a row of the call's own -/
def SlOwn (w : World) (B : Nat) (v : Value) (xs : List Sg) : Prop := w.ownsRow B 55 5 v xs.length (rowsG xs)
/-- v holds just these numbers, in a row of the call's own -/
def NlOwn (w : World) (B : Nat) (v : Value) (xs : List Nat) : Prop := w.ownsRow B 22 1 v xs.length (xs.map fun n => .int .u64 (n : Nat))
/-- two values that lie in different blocks -/
def Apt (v v' : Value) : Prop := v.ownBlock = none ∨ v'.ownBlock = none ∨ v.ownBlock ≠ v'.ownBlock
theorem Apt.symm {v v' : Value} (h : Apt v v') : Apt v' v := by
  rcases h with h | h | h
  · exact .inr (.inl h)
  · exact .inl h
  · exact .inr (.inr (Ne.symm h))

section
variable {w w' : World} {B : Nat} {v v' : Value} {xs : List Sg}
theorem SlOwn.nil (w : World) (B : Nat) : SlOwn w B (.slice none 0 0) [] := World.ownsRow_nil _ _ _ _
theorem SlOwn.alloc (h : SlOwn w B v xs) (o : Obj) : SlOwn (w.alloc o) B v xs := World.ownsRow.alloc h o
theorem SlOwn.drew (h : SlOwn w B v xs) : SlOwn w.drew B v xs := h
theorem SlOwn.below (h : SlOwn w B v xs) (hb : Below w.heap.size w w') : SlOwn w' B v xs := by
  refine ⟨h.1, ?_⟩
  rcases h.2 with h2 | ⟨g, cap, cur, h2, h3, h4, h5⟩
  · exact .inl h2
  · have hlt : g < w.heap.size := by
      rcases Nat.lt_or_ge g w.heap.size with h | h
      · exact h
      · rw [Array.getElem?_eq_none h] at h4; cases h4
    exact .inr ⟨g, cap, cur, h2, h3, (hb.block g hlt).trans h4, h5⟩
theorem SlOwn.kept {row : Option Nat} (h : SlOwn w B v xs) (hg : w.grownBy w' row) (hne : v.ownBlock = none ∨ v.ownBlock ≠ row) : SlOwn w' B v xs := World.ownsRow.kept h hg hne
theorem SlOwn.apt (h : SlOwn w B v xs) (hg : w.grownBy w' v'.ownBlock) (ha : Apt v v') : SlOwn w' B v xs := by
  refine h.kept hg ?_
  rcases ha with h | h | h
  · exact .inl h
  · cases hv : v.ownBlock with
    | none => exact .inl rfl
    | some k => exact .inr (by rw [h]; simp)
  · exact .inr h
theorem SlOwn.form (h : SlOwn w B v xs) : ∃ q cap, v = .slice q xs.length cap ∧ xs.length ≤ cap := by
  rcases h.2 with ⟨h1, h2⟩ | ⟨g, cap, cur, h2, h3, h4, h5, _⟩
  · exact ⟨none, 0, by rw [h2]; exact h1, by omega⟩
  · exact ⟨_, cap, h2, h5⟩
theorem SlOwn.row (h : SlOwn w B v xs) (hl : xs.length ≤ 9223372036854775807) (hok : ∀ x ∈ xs, x.ok) : ∃ q cap, v = .slice q xs.length cap ∧ xs.length ≤ cap ∧ SegRow w q xs := by
  rcases h.2 with ⟨h1, h2⟩ | ⟨g, cap, cur, h2, h3, h4, h5, h6, h7, h8⟩
  · exact ⟨none, 0, by rw [h2]; exact h1, by omega, hl, hok, fun h => by omega⟩
  · have hlt : g < w.heap.size := by
      rcases Nat.lt_or_ge g w.heap.size with h | h
      · exact h
      · rw [Array.getElem?_eq_none h] at h4; cases h4
    refine ⟨_, cap, h2, h5, hl, hok, fun _ => ⟨g, 0, rfl, hlt, fun j x hx => ?_⟩⟩
    have hj : j < xs.length := (List.getElem?_eq_some_iff.1 hx).1
    have at_ : ∀ q, q < 5 → w.cell? ⟨g, 0 + j * 5 + q, none⟩ = (cellsG x)[q]? := by
      intro q hq
      rw [cell_of_row w g _ cur 55 (0, 0) h4, Nat.zero_add, ← rowsG_at hx q hq, ← h8, List.getElem?_take_of_lt (by omega)]
      simp
    exact ⟨at_ 0 (by omega), at_ 1 (by omega), at_ 2 (by omega), at_ 3 (by omega), at_ 4 (by omega)⟩
theorem apt_new {g n cap H : Nat} {xs' : List Value} {n' size : Nat} {e : TypeId} (hv : v.ownBlock = some g ∨ g = H) (h' : w.ownsRow B e size v' n' xs') (hH : w.heap.size = H) (ha : Apt v v') : Apt (.slice (some ⟨g, 0, none⟩) n cap) v' := by
  cases hb : v'.ownBlock with
  | none => exact .inr (.inl hb)
  | some k =>
    refine .inr (.inr ?_)
    rw [hb]
    intro h
    simp [Value.ownBlock] at h
    subst h
    rcases hv with h | h
    · rcases ha with h2 | h2 | h2
      · rw [h] at h2; cases h2
      · rw [hb] at h2; cases h2
      · rw [h, hb] at h2; exact h2 rfl
    · have := (h'.lt g hb).2
      omega
end

section
variable {w w' : World} {B : Nat} {v v' : Value} {xs : List Nat}
theorem NlOwn.nil (w : World) (B : Nat) : NlOwn w B (.slice none 0 0) [] := World.ownsRow_nil _ _ _ _
theorem NlOwn.alloc (h : NlOwn w B v xs) (o : Obj) : NlOwn (w.alloc o) B v xs := World.ownsRow.alloc h o
theorem NlOwn.drew (h : NlOwn w B v xs) : NlOwn w.drew B v xs := h
theorem NlOwn.below (h : NlOwn w B v xs) (hb : Below w.heap.size w w') : NlOwn w' B v xs := by
  refine ⟨h.1, ?_⟩
  rcases h.2 with h2 | ⟨g, cap, cur, h2, h3, h4, h5⟩
  · exact .inl h2
  · have hlt : g < w.heap.size := by
      rcases Nat.lt_or_ge g w.heap.size with h | h
      · exact h
      · rw [Array.getElem?_eq_none h] at h4; cases h4
    exact .inr ⟨g, cap, cur, h2, h3, (hb.block g hlt).trans h4, h5⟩
theorem NlOwn.kept {row : Option Nat} (h : NlOwn w B v xs) (hg : w.grownBy w' row) (hne : v.ownBlock = none ∨ v.ownBlock ≠ row) : NlOwn w' B v xs := World.ownsRow.kept h hg hne
theorem NlOwn.apt (h : NlOwn w B v xs) (hg : w.grownBy w' v'.ownBlock) (ha : Apt v v') : NlOwn w' B v xs := by
  refine h.kept hg ?_
  rcases ha with h | h | h
  · exact .inl h
  · cases hv : v.ownBlock with
    | none => exact .inl rfl
    | some k => exact .inr (by rw [h]; simp)
  · exact .inr h
theorem NlOwn.row (h : NlOwn w B v xs) (hl : xs.length ≤ 9223372036854775807) (hok : ∀ x ∈ xs, x < 18446744073709551616) : ∃ q cap, v = .slice q xs.length cap ∧ xs.length ≤ cap ∧ NatRow w q xs := by
  rcases h.2 with ⟨h1, h2⟩ | ⟨g, cap, cur, h2, h3, h4, h5, h6, h7, h8⟩
  · exact ⟨none, 0, by rw [h2]; exact h1, by omega, hl, hok, fun h => by omega⟩
  · have hlt : g < w.heap.size := by
      rcases Nat.lt_or_ge g w.heap.size with h | h
      · exact h
      · rw [Array.getElem?_eq_none h] at h4; cases h4
    refine ⟨_, cap, h2, h5, hl, hok, fun _ => ⟨g, 0, rfl, hlt, fun j hj => ?_⟩⟩
    have : (cur.toList.take (xs.length * 1))[j]? = some (Value.int .u64 (xs.getD j 0 : Nat)) := by
      rw [h8, List.getElem?_map, List.getElem?_eq_getElem hj]
      simp [List.getD_eq_getElem?_getD, hj]
    rw [cell_of_row w g _ cur 22 (0, 0) h4, Nat.zero_add, ← this, List.getElem?_take_of_lt (by omega)]
    simp
end

/-- an append of one segment -/
theorem wpList_app_seg (w : World) {ops : Array Oper} {rest : List Oper} {o : Oper} {a : Act} {Q : Exit → Act → World → Prop} (hgd : o.guard = none) (s x : Operand)
    (ho : o.op = .call { callee := .builtin .append, args := #[s, x], argTypes := #[48, 48] }) (B : Nat) (v : Value) (xs : List Sg) (hs : a.eval s = v) (hown : SlOwn w B v xs)
    (b : Nat) (hx : a.eval x = .slice (some ⟨b, 0, none⟩) 1 1) (y : Sg) (hat : At w b 55 (segC y)) (hn : xs.length + 1 ≤ 1000000000000) (hB : B ≤ w.heap.size)
    (h : ∀ g cap w', SlOwn w' B (.slice (some ⟨g, 0, none⟩) (xs.length + 1) cap) (xs ++ [y]) → w.grownBy w' v.ownBlock → (v.ownBlock = some g ∨ g = w.heap.size) → g < w'.heap.size → wpList Try.prog ops Q rest (a.put o.dst (.slice (some ⟨g, 0, none⟩) (xs.length + 1) cap)) w') :
    wpList Try.prog ops Q (o :: rest) a w := by
  obtain ⟨i0, hi, hz0, hz1, hz2⟩ : ∃ i : TypeInfo, Try.prog.info? 55 = some i ∧ i.zero = some (.agg #[.int .i64 0, .int .u64 0, .int .i64 0, .int .u64 0, .bool false]) ∧ i.size = 5 ∧ i.bytes = 40 := ⟨_, rfl, rfl, rfl, rfl⟩
  refine wpList_append_lies w hgd s x 48 ho B 55 i0 _ 5 40 Try.underlying48 hi hz0 hz1 hz2 rfl (by decide) v xs.length (rowsG xs) hs hown ⟨b, 0, none⟩ 1 1 (cellsG y) hx rfl ?_ (cellsG_one y) (by decide) (by unfold maxLen; omega) (by omega) hB _ rfl ?_
  · intro j u hj
    match j, hj with
    | 0, hj => rw [show (⟨b, 0, none⟩ : Addr).add 0 = ⟨b, 0, none⟩ from rfl, hat.cell 0]; exact hj
    | 1, hj => rw [show (⟨b, 0, none⟩ : Addr).add 1 = ⟨b, 1, none⟩ from rfl, hat.cell 1]; exact hj
    | 2, hj => rw [show (⟨b, 0, none⟩ : Addr).add 2 = ⟨b, 2, none⟩ from rfl, hat.cell 2]; exact hj
    | 3, hj => rw [show (⟨b, 0, none⟩ : Addr).add 3 = ⟨b, 3, none⟩ from rfl, hat.cell 3]; exact hj
    | 4, hj => rw [show (⟨b, 0, none⟩ : Addr).add 4 = ⟨b, 4, none⟩ from rfl, hat.cell 4]; exact hj
    | j + 5, hj => cases hj
  · intro g cap w1 h1 h2 h3 h4
    refine h g cap w1 ?_ h2 h3 h4
    unfold SlOwn
    rw [rowsG_snoc, List.length_append]
    exact h1
/-- an append of one number -/
theorem wpList_app_nat (w : World) {ops : Array Oper} {rest : List Oper} {o : Oper} {a : Act} {Q : Exit → Act → World → Prop} (hgd : o.guard = none) (s x : Operand)
    (ho : o.op = .call { callee := .builtin .append, args := #[s, x], argTypes := #[36, 36] }) (B : Nat) (v : Value) (xs : List Nat) (hs : a.eval s = v) (hown : NlOwn w B v xs)
    (b : Nat) (hx : a.eval x = .slice (some ⟨b, 0, none⟩) 1 1) (y : Nat) (hat : At w b 22 #[.int .u64 y]) (hn : xs.length + 1 ≤ 1000000000000) (hB : B ≤ w.heap.size)
    (h : ∀ g cap w', NlOwn w' B (.slice (some ⟨g, 0, none⟩) (xs.length + 1) cap) (xs ++ [y]) → w.grownBy w' v.ownBlock → (v.ownBlock = some g ∨ g = w.heap.size) → g < w'.heap.size → wpList Try.prog ops Q rest (a.put o.dst (.slice (some ⟨g, 0, none⟩) (xs.length + 1) cap)) w') :
    wpList Try.prog ops Q (o :: rest) a w := by
  obtain ⟨i0, hi, hz0, hz1, hz2⟩ : ∃ i : TypeInfo, Try.prog.info? 22 = some i ∧ i.zero = some (.int .u64 0) ∧ i.size = 1 ∧ i.bytes = 8 := ⟨_, rfl, rfl, rfl, rfl⟩
  refine wpList_append_lies w hgd s x 36 ho B 22 i0 _ 1 8 Try.underlying36 hi hz0 hz1 hz2 rfl (by decide) v xs.length (xs.map fun n => .int .u64 (n : Nat)) hs hown ⟨b, 0, none⟩ 1 1 [.int .u64 y] hx rfl ?_ ?_ (by decide) (by unfold maxLen; omega) (by omega) hB _ rfl ?_
  · intro j u hj
    match j, hj with
    | 0, hj => rw [show (⟨b, 0, none⟩ : Addr).add 0 = ⟨b, 0, none⟩ from rfl, hat.cell 0]; exact hj
    | j + 1, hj => cases hj
  · intro u hu; simp at hu; subst hu; rfl
  · intro g cap w1 h1 h2 h3 h4
    refine h g cap w1 ?_ h2 h3 h4
    unfold NlOwn
    rw [List.map_append, List.length_append]
    exact h1

theorem own_set5 {w : World} {base n g cp j size : Nat} {e : TypeId} {ys : List Value} (h : w.ownsRow base e size (.slice (some ⟨g, 0, none⟩) n cp) n ys) (u : Value) : (w.setCell ⟨g, j, none⟩ u).ownsRow base e size (.slice (some ⟨g, 0, none⟩) n cp) n (ys.set j u) := by
  refine ⟨by simpa using h.1, .inr ?_⟩
  rcases h.2 with ⟨h0, _⟩ | ⟨g', cap, cur, hv, hb, hg, h1, h2, h3, h4⟩
  · cases h0
  · cases hv
    refine ⟨g, cp, cur.setIfInBounds j u, rfl, hb, ?_, h1, h2, by simpa using h3, ?_⟩
    · exact At.set (show At w g e cur from hg) j
    · rw [← h4, Array.toList_setIfInBounds, List.take_set]
theorem own_free5 {w : World} {base n g cp j size : Nat} {e : TypeId} {ys : List Value} (h : w.ownsRow base e size (.slice (some ⟨g, 0, none⟩) n cp) n ys) : w.frozen? ⟨g, j, none⟩ = false := by
  rcases h.2 with ⟨h0, _⟩ | ⟨g', cap, cur, hv, hb, hg, _⟩
  · cases h0
  · cases hv
    exact At.free (show At w g e cur from hg) j
theorem rowsG_set (xs : List Sg) : ∀ (j : Nat) (y : Sg), j < xs.length → rowsG (xs.set j y) = (((((rowsG xs).set (j * 5) (.int .i64 y.sock)).set (j * 5 + 1) (.int .u64 y.fr)).set (j * 5 + 2) (.int .i64 y.len)).set (j * 5 + 3) (.int .u64 y.stamp)).set (j * 5 + 4) (.bool y.again) := by
  induction xs with
  | nil => intro j y h; simp at h
  | cons x xs ih =>
    intro j y h
    have e : ∀ z : Sg, ∀ zs, rowsG (z :: zs) = cellsG z ++ rowsG zs := fun z zs => by simp [rowsG]
    cases j with
    | zero => rw [List.set_cons_zero, e, e]; rfl
    | succ j =>
      have hs : ∀ (ys : List Value) q u, (cellsG x ++ ys).set ((j + 1) * 5 + q) u = cellsG x ++ ys.set (j * 5 + q) u := fun ys q u => by
        have hl : (cellsG x).length = 5 := rfl
        rw [List.set_append_right _ _ (by omega), hl, show (j + 1) * 5 + q - 5 = j * 5 + q from by omega]
      rw [List.set_cons_succ, e, e, ih j y (by simpa using h)]
      have h0 := fun ys u => hs ys 0 u
      simp only [Nat.add_zero] at h0
      rw [h0, hs, hs, hs, hs]
/-- a segment is stored over another -/
def put5 (w : World) (g j : Nat) (y : Sg) : World := ((((w.setCell ⟨g, j * 5, none⟩ (.int .i64 y.sock)).setCell ⟨g, j * 5 + 1, none⟩ (.int .u64 y.fr)).setCell ⟨g, j * 5 + 2, none⟩ (.int .i64 y.len)).setCell ⟨g, j * 5 + 3, none⟩ (.int .u64 y.stamp)).setCell ⟨g, j * 5 + 4, none⟩ (.bool y.again)
theorem SlOwn.put {w : World} {B n g cp j : Nat} {xs : List Sg} (h : SlOwn w B (.slice (some ⟨g, 0, none⟩) n cp) xs) (hn : n = xs.length) (hj : j < xs.length) (y : Sg) : SlOwn (put5 w g j y) B (.slice (some ⟨g, 0, none⟩) n cp) (xs.set j y) := by
  subst hn
  unfold SlOwn
  rw [rowsG_set xs j y hj, List.length_set]
  exact own_set5 (own_set5 (own_set5 (own_set5 (own_set5 h _) _) _) _) _
theorem below_put5 {w w' : World} {B g j : Nat} (h : Below B w w') (hg : B ≤ g) (y : Sg) : Below B w (put5 w' g j y) :=
  ((((h.setCell (p := ⟨g, _, none⟩) hg _).setCell (p := ⟨g, _, none⟩) hg _).setCell (p := ⟨g, _, none⟩) hg _).setCell (p := ⟨g, _, none⟩) hg _).setCell (p := ⟨g, _, none⟩) hg _
theorem grown_put5 (w : World) (g j : Nat) (y : Sg) : w.grownBy (put5 w g j y) (some g) :=
  ((((grown_set w g (j * 5) _).trans (grown_set _ g (j * 5 + 1) _)).trans (grown_set _ g (j * 5 + 2) _)).trans (grown_set _ g (j * 5 + 3) _)).trans (grown_set _ g (j * 5 + 4) _)

/-- an append of a whole slice of segments -/
theorem wpList_app_segs (w : World) {ops : Array Oper} {rest : List Oper} {o : Oper} {a : Act} {Q : Exit → Act → World → Prop} (hgd : o.guard = none) (s x : Operand)
    (ho : o.op = .call { callee := .builtin .append, args := #[s, x], argTypes := #[48, 48] }) (B : Nat) (v : Value) (xs : List Sg) (hs : a.eval s = v) (hown : SlOwn w B v xs)
    (ys : List Sg) (ad : Addr) (cp : Nat) (hx : a.eval x = .slice (some ad) ys.length cp) (hat : SegRow w (some ad) ys) (hp : 0 < ys.length) (hn : xs.length + ys.length ≤ 1000000000000) (hB : B ≤ w.heap.size)
    (h : ∀ g cap w', SlOwn w' B (.slice (some ⟨g, 0, none⟩) (xs.length + ys.length) cap) (xs ++ ys) → w.grownBy w' v.ownBlock → (v.ownBlock = some g ∨ g = w.heap.size) → g < w'.heap.size → wpList Try.prog ops Q rest (a.put o.dst (.slice (some ⟨g, 0, none⟩) (xs.length + ys.length) cap)) w') :
    wpList Try.prog ops Q (o :: rest) a w := by
  obtain ⟨i0, hi, hz0, hz1, hz2⟩ : ∃ i : TypeInfo, Try.prog.info? 55 = some i ∧ i.zero = some (.agg #[.int .i64 0, .int .u64 0, .int .i64 0, .int .u64 0, .bool false]) ∧ i.size = 5 ∧ i.bytes = 40 := ⟨_, rfl, rfl, rfl, rfl⟩
  obtain ⟨b, off, e, hb, hc⟩ := hat.2.2 hp
  cases e
  refine wpList_append_lies w hgd s x 48 ho B 55 i0 _ 5 40 Try.underlying48 hi hz0 hz1 hz2 rfl (by decide) v xs.length (rowsG xs) hs hown ⟨b, off, none⟩ ys.length cp (rowsG ys) hx (rowsG_len ys) ?_ (rowsG_one ys) hp (by unfold maxLen; omega) (by omega) hB _ rfl ?_
  · intro j u hj
    have hjl : j < ys.length * 5 := by
      have := (List.getElem?_eq_some_iff.1 hj).1
      rwa [rowsG_len] at this
    obtain ⟨m, q, hq, rfl⟩ : ∃ m q, q < 5 ∧ j = m * 5 + q := ⟨j / 5, j % 5, Nat.mod_lt _ (by omega), by omega⟩
    have hm : m < ys.length := by omega
    have hy := List.getElem?_eq_getElem hm
    rw [rowsG_at hy q hq] at hj
    obtain ⟨c0, c1, c2, c3, c4⟩ := hc m _ hy
    rw [Go.WideShapes.add_plain]
    match q, hq, hj with
    | 0, _, hj => exact c0.trans hj
    | 1, _, hj => exact (show w.cell? ⟨b, off + (m * 5 + 1), none⟩ = _ from c1).trans hj
    | 2, _, hj => exact (show w.cell? ⟨b, off + (m * 5 + 2), none⟩ = _ from c2).trans hj
    | 3, _, hj => exact (show w.cell? ⟨b, off + (m * 5 + 3), none⟩ = _ from c3).trans hj
    | 4, _, hj => exact (show w.cell? ⟨b, off + (m * 5 + 4), none⟩ = _ from c4).trans hj
  · intro g cap w1 h1 h2 h3 h4
    refine h g cap w1 ?_ h2 h3 h4
    unfold SlOwn
    rw [rowsG, List.flatMap_append, List.length_append]
    exact h1
/-- an append of a whole slice of numbers -/
theorem wpList_app_nats (w : World) {ops : Array Oper} {rest : List Oper} {o : Oper} {a : Act} {Q : Exit → Act → World → Prop} (hgd : o.guard = none) (s x : Operand)
    (ho : o.op = .call { callee := .builtin .append, args := #[s, x], argTypes := #[36, 36] }) (B : Nat) (v : Value) (xs : List Nat) (hs : a.eval s = v) (hown : NlOwn w B v xs)
    (ys : List Nat) (ad : Addr) (cp : Nat) (hx : a.eval x = .slice (some ad) ys.length cp) (hat : NatRow w (some ad) ys) (hp : 0 < ys.length) (hn : xs.length + ys.length ≤ 1000000000000) (hB : B ≤ w.heap.size)
    (h : ∀ g cap w', NlOwn w' B (.slice (some ⟨g, 0, none⟩) (xs.length + ys.length) cap) (xs ++ ys) → w.grownBy w' v.ownBlock → (v.ownBlock = some g ∨ g = w.heap.size) → g < w'.heap.size → wpList Try.prog ops Q rest (a.put o.dst (.slice (some ⟨g, 0, none⟩) (xs.length + ys.length) cap)) w') :
    wpList Try.prog ops Q (o :: rest) a w := by
  obtain ⟨i0, hi, hz0, hz1, hz2⟩ : ∃ i : TypeInfo, Try.prog.info? 22 = some i ∧ i.zero = some (.int .u64 0) ∧ i.size = 1 ∧ i.bytes = 8 := ⟨_, rfl, rfl, rfl, rfl⟩
  obtain ⟨b, off, e, hb, hc⟩ := hat.2.2 hp
  cases e
  refine wpList_append_lies w hgd s x 36 ho B 22 i0 _ 1 8 Try.underlying36 hi hz0 hz1 hz2 rfl (by decide) v xs.length (xs.map fun n => .int .u64 (n : Nat)) hs hown ⟨b, off, none⟩ ys.length cp (ys.map fun n => .int .u64 (n : Nat)) hx (by simp) ?_ ?_ hp (by unfold maxLen; omega) (by omega) hB _ rfl ?_
  · intro j u hj
    rw [List.getElem?_map] at hj
    have hjl : j < ys.length := by
      rcases Nat.lt_or_ge j ys.length with h | h
      · exact h
      · rw [List.getElem?_eq_none h] at hj; cases hj
    rw [Go.WideShapes.add_plain, hc j hjl, ← hj, List.getElem?_eq_getElem hjl, List.getD_eq_getElem?_getD, List.getElem?_eq_getElem hjl]
    rfl
  · intro u hu; obtain ⟨n, _, rfl⟩ := List.mem_map.1 hu; rfl
  · intro g cap w1 h1 h2 h3 h4
    refine h g cap w1 ?_ h2 h3 h4
    unfold NlOwn
    rw [List.map_append, List.length_append]
    exact h1

/-- a copy of a slice of segments -/
theorem wpList_copy_segs (w : World) {ops : Array Oper} {rest : List Oper} {o : Oper} {a : Act} {Q : Exit → Act → World → Prop} (hgd : o.guard = none) (s x : Operand)
    (ho : o.op = .call { callee := .builtin .append, args := #[s, x], argTypes := #[48, 48] }) (B : Nat) (hs : a.eval s = .slice none 0 0)
    (ys : List Sg) (L : Nat) (hL : ys.length = L) (ad : Addr) (cp : Nat) (hx : a.eval x = .slice (some ad) L cp) (hat : SegRow w (some ad) ys) (hp : 0 < L) (hn : L ≤ 1000000000000) (hB : B ≤ w.heap.size)
    (h : ∀ cap w', SlOwn w' B (.slice (some ⟨w.heap.size, 0, none⟩) L cap) ys → Below w.heap.size w w' → w.heap.size < w'.heap.size → wpList Try.prog ops Q rest (a.put o.dst (.slice (some ⟨w.heap.size, 0, none⟩) L cap)) w') :
    wpList Try.prog ops Q (o :: rest) a w := by
  subst hL
  refine wpList_app_segs w hgd s x ho B _ [] hs (SlOwn.nil _ _) ys ad cp hx hat hp (by simpa using hn) hB ?_
  intro g cap w1 h1 h2 h3 h4
  rcases h3 with h3 | h3
  · cases h3
  · subst h3
    simp only [List.length_nil, Nat.zero_add, List.nil_append] at h1 ⊢
    exact h cap w1 h1 ((Below.refl _ _).grown h2 (Nat.le_refl _) (fun k hk => by cases hk)) h4
/-- a copy of a slice of numbers -/
theorem wpList_copy_nats (w : World) {ops : Array Oper} {rest : List Oper} {o : Oper} {a : Act} {Q : Exit → Act → World → Prop} (hgd : o.guard = none) (s x : Operand)
    (ho : o.op = .call { callee := .builtin .append, args := #[s, x], argTypes := #[36, 36] }) (B : Nat) (hs : a.eval s = .slice none 0 0)
    (ys : List Nat) (L : Nat) (hL : ys.length = L) (ad : Addr) (cp : Nat) (hx : a.eval x = .slice (some ad) L cp) (hat : NatRow w (some ad) ys) (hp : 0 < L) (hn : L ≤ 1000000000000) (hB : B ≤ w.heap.size)
    (h : ∀ cap w', NlOwn w' B (.slice (some ⟨w.heap.size, 0, none⟩) L cap) ys → Below w.heap.size w w' → w.heap.size < w'.heap.size → wpList Try.prog ops Q rest (a.put o.dst (.slice (some ⟨w.heap.size, 0, none⟩) L cap)) w') :
    wpList Try.prog ops Q (o :: rest) a w := by
  subst hL
  refine wpList_app_nats w hgd s x ho B _ [] hs (NlOwn.nil _ _) ys ad cp hx hat hp (by simpa using hn) hB ?_
  intro g cap w1 h1 h2 h3 h4
  rcases h3 with h3 | h3
  · cases h3
  · subst h3
    simp only [List.length_nil, Nat.zero_add, List.nil_append] at h1 ⊢
    exact h cap w1 h1 ((Below.refl _ _).grown h2 (Nat.le_refl _) (fun k hk => by cases hk)) h4
end Go.Proofs.Ytojgpgjmcamfoaa
