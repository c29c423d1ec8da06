/- Plain facts on segments: whether they are a part, once, sorted, and apart. -/
import Derived.Test.YtojgpgjmcamfoaaDelay
namespace Go.Proofs.Ytojgpgjmcamfoaa
set_option linter.unusedVariables false

structure Sg where
  sock : Int
  fr : Nat
  len : Int
  stamp : Nat
  again : Bool
deriving DecidableEq
def Sg.ok (s : Sg) : Prop := (-9223372036854775808 ≤ s.sock ∧ s.sock ≤ 9223372036854775807) ∧ s.fr < 18446744073709551616 ∧ (-9223372036854775808 ≤ s.len ∧ s.len ≤ 9223372036854775807) ∧ s.stamp < 18446744073709551616
def sg0 : Sg := ⟨0, 0, 0, 0, false⟩
theorem sg0_ok : sg0.ok := ⟨⟨by decide, by decide⟩, by decide, ⟨by decide, by decide⟩, by decide⟩
def endF (s : Sg) : Nat := satAdd s.fr s.len.toNat
theorem endF_lt (s : Sg) : endF s < 18446744073709551616 := satAdd_lt
theorem endF_ge (s : Sg) (h : s.ok) : s.fr ≤ endF s := by
  have h2 := h.2.1
  unfold endF; rw [satAdd_eq]; omega

/-! a part -/
def partK (l : List Sg) (k : Nat) : List Sg → Nat
  | [] => k
  | s :: of => partK l (if l[k]? = some s then k + 1 else k) of
def partF (l of : List Sg) : Bool := decide (partK l 0 of = l.length)
theorem partK_snoc (l : List Sg) (s : Sg) : ∀ (xs : List Sg) (k : Nat), partK l k (xs ++ [s]) = if l[partK l k xs]? = some s then partK l k xs + 1 else partK l k xs
  | [], k => rfl
  | x :: xs, k => by simp only [List.cons_append, partK]; exact partK_snoc l s xs _
theorem partK_le (l : List Sg) : ∀ (xs : List Sg) (k : Nat), k ≤ l.length → partK l k xs ≤ l.length
  | [], k, h => h
  | x :: xs, k, h => by
    simp only [partK]
    refine partK_le l xs _ ?_
    split
    · rename_i h1
      have := (List.getElem?_eq_some_iff.1 h1).1
      omega
    · exact h
theorem partK_ge (l : List Sg) : ∀ (xs : List Sg) (k : Nat), k ≤ partK l k xs
  | [], k => Nat.le_refl _
  | x :: xs, k => by
    simp only [partK]
    refine Nat.le_trans ?_ (partK_ge l xs _)
    split <;> omega
theorem partK_iff (l : List Sg) : ∀ (xs : List Sg) (k : Nat), k ≤ l.length → (partK l k xs = l.length ↔ (l.drop k).Sublist xs)
  | [], k, h => by
    simp only [partK, List.sublist_nil, List.drop_eq_nil_iff]
    omega
  | x :: xs, k, h => by
    simp only [partK]
    by_cases hk : k < l.length
    · rw [List.drop_eq_getElem_cons hk]
      by_cases e : l[k]? = some x
      · rw [if_pos e, partK_iff l xs (k + 1) (by omega)]
        rw [List.getElem?_eq_getElem hk] at e
        simp only [Option.some.injEq] at e
        rw [e, List.cons_sublist_cons]
      · rw [if_neg e, partK_iff l xs k h, List.drop_eq_getElem_cons hk]
        rw [List.getElem?_eq_getElem hk] at e
        simp only [Option.some.injEq] at e
        rw [List.sublist_cons_iff]
        constructor
        · exact .inl
        · rintro (h | ⟨r, hr, _⟩)
          · exact h
          · exact absurd (List.cons.inj hr).1 e
    · have e : l[k]? = none := List.getElem?_eq_none (by omega)
      rw [e, if_neg (by simp), partK_iff l xs k h, List.drop_eq_nil_iff.2 (by omega)]
      simp
theorem partF_iff (l of : List Sg) : partF l of = true ↔ l.Sublist of := by
  unfold partF
  rw [decide_eq_true_iff, partK_iff l of 0 (by omega), List.drop_zero]
theorem partF_same {l of : List Sg} (h : l.length = of.length) : partF l of = decide (l = of) := by
  rw [Bool.eq_iff_iff, partF_iff, decide_eq_true_iff]
  constructor
  · exact fun hs => hs.eq_of_length h
  · rintro rfl; exact List.Sublist.refl _
theorem partK_take {l of : List Sg} {i : Nat} {s : Sg} (h : of[i]? = some s) : partK l 0 (of.take (i + 1)) = if l[partK l 0 (of.take i)]? = some s then partK l 0 (of.take i) + 1 else partK l 0 (of.take i) := by
  have hi := (List.getElem?_eq_some_iff.1 h).1
  rw [List.take_add_one, h]
  exact partK_snoc l s _ _
/-- all of it was found early -/
theorem partK_full (l : List Sg) (xs ys : List Sg) (h : partK l 0 xs = l.length) : partK l 0 (xs ++ ys) = l.length := by
  have h2 := partK_le l (xs ++ ys) 0 (by omega)
  have : ∀ (xs : List Sg) k, partK l k (xs ++ ys) = partK l (partK l k xs) ys := by
    intro xs
    induction xs with
    | nil => intro k; rfl
    | cons x xs ih => intro k; simp only [List.cons_append, partK]; exact ih _
  rw [this, h] at h2 ⊢
  have := partK_ge l ys l.length
  omega

/-! once -/
def meetF (a b : Sg) : Bool := decide (a.sock = b.sock) && decide (max a.fr b.fr < min (endF a) (endF b))
def okP (a b : Sg) : Bool := a.again || b.again || !meetF a b
def onceF : List Sg → Bool
  | [] => true
  | x :: l => l.all (fun y => okP y x) && onceF l
theorem onceF_iff : ∀ l : List Sg, onceF l = true ↔ ∀ (i k : Nat) (a b : Sg), k < i → l[i]? = some a → l[k]? = some b → okP a b = true
  | [] => by simp [onceF]
  | x :: l => by
    rw [onceF, Bool.and_eq_true, onceF_iff l, List.all_eq_true]
    constructor
    · rintro ⟨h1, h2⟩ i k a b hk ha hb
      obtain ⟨i, rfl⟩ : ∃ i', i = i' + 1 := ⟨i - 1, by omega⟩
      rw [List.getElem?_cons_succ] at ha
      cases k with
      | zero => simp at hb; subst hb; exact h1 a (List.mem_of_getElem? ha)
      | succ k => rw [List.getElem?_cons_succ] at hb; exact h2 i k a b (by omega) ha hb
    · intro h
      refine ⟨fun y hy => ?_, fun i k a b hk ha hb => h (i + 1) (k + 1) a b (by omega) (by simpa using ha) (by simpa using hb)⟩
      obtain ⟨i, hi⟩ := List.mem_iff_getElem?.1 hy
      exact h (i + 1) 0 y x (by omega) (by simpa using hi) (by simp)
theorem onceF_false {l : List Sg} {i k : Nat} {a b : Sg} (hk : k < i) (ha : l[i]? = some a) (hb : l[k]? = some b) (h : okP a b = false) : onceF l = false := by
  cases e : onceF l
  · rfl
  · have := (onceF_iff l).1 e i k a b hk ha hb
    rw [h] at this; cases this
theorem onceF_filter : ∀ l : List Sg, onceF (l.filter fun x => !x.again) = onceF l
  | [] => rfl
  | x :: l => by
    cases hx : x.again
    · rw [List.filter_cons_of_pos (by simp [hx]), onceF, onceF, onceF_filter l]
      congr 1
      rw [List.all_filter]
      congr 1
      funext y
      cases hy : y.again <;> simp [okP, hy]
    · rw [List.filter_cons_of_neg (by simp [hx]), onceF, onceF_filter l]
      have : (l.all fun y => okP y x) = true := by rw [List.all_eq_true]; intro y _; simp [okP, hx]
      rw [this, Bool.true_and]
theorem onceF_again (l : List Sg) (h : ∀ x ∈ l, x.again = true) : onceF l = true := by
  rw [onceF_iff]
  intro i k a b _ ha _
  simp [okP, h a (List.mem_of_getElem? ha)]

/-! sorted -/
def sStep (st : (Int → Option Sg) × Bool) (x : Sg) : (Int → Option Sg) × Bool :=
  if x.again then st else (fun s => if x.sock = s then some x else st.1 s, st.2 && match st.1 x.sock with | none => true | some a => decide (endF a ≤ x.fr))
def sSt (l : List Sg) : (Int → Option Sg) × Bool := l.foldl sStep (fun _ => none, true)
def sortedF (l : List Sg) : Bool := (sSt l).2
theorem sSt_snoc (l : List Sg) (x : Sg) : sSt (l ++ [x]) = sStep (sSt l) x := by simp [sSt, List.foldl_append]
theorem sSt_take {l : List Sg} {i : Nat} {x : Sg} (h : l[i]? = some x) : sSt (l.take (i + 1)) = sStep (sSt (l.take i)) x := by
  rw [List.take_add_one, h]; exact sSt_snoc _ _
theorem sStep_false {st : (Int → Option Sg) × Bool} (h : st.2 = false) (x : Sg) : (sStep st x).2 = false := by
  unfold sStep; split <;> simp [h]
theorem sfold_false : ∀ (l : List Sg) (st : (Int → Option Sg) × Bool), st.2 = false → (l.foldl sStep st).2 = false
  | [], st, h => h
  | x :: l, st, h => sfold_false l _ (sStep_false h x)
theorem sortedF_false {l : List Sg} {i : Nat} (h : (sSt (l.take i)).2 = false) : sortedF l = false := by
  unfold sortedF sSt
  rw [← List.take_append_drop i l, List.foldl_append]
  exact sfold_false _ _ h
theorem sfold_filter : ∀ (l : List Sg) (st : (Int → Option Sg) × Bool), (l.filter fun x => !x.again).foldl sStep st = l.foldl sStep st
  | [], st => rfl
  | x :: l, st => by
    cases hx : x.again
    · rw [List.filter_cons_of_pos (by simp [hx])]; exact sfold_filter l _
    · rw [List.filter_cons_of_neg (by simp [hx]), List.foldl_cons, sfold_filter l, sStep, if_pos hx]
theorem sortedF_filter (l : List Sg) : sortedF (l.filter fun x => !x.again) = sortedF l := by unfold sortedF sSt; rw [sfold_filter]
theorem sfold_again : ∀ (l : List Sg) (st : (Int → Option Sg) × Bool), (∀ x ∈ l, x.again = true) → l.foldl sStep st = st
  | [], st, _ => rfl
  | x :: l, st, h => by
    rw [List.foldl_cons, sStep, if_pos (h x (by simp))]
    exact sfold_again l st fun y hy => h y (by simp [hy])
theorem sortedF_again (l : List Sg) (h : ∀ x ∈ l, x.again = true) : sortedF l = true := by unfold sortedF sSt; rw [sfold_again l _ h]
/-- the last one of a socket, going back -/
theorem sSt_back {l : List Sg} {k : Nat} {x : Sg} (h : l[k]? = some x) (s : Int) : (sSt (l.take (k + 1))).1 s = if x.again = false ∧ x.sock = s then some x else (sSt (l.take k)).1 s := by
  rw [sSt_take h, sStep]
  cases hx : x.again
  · simp
  · simp
theorem sSt_last_ok {l : List Sg} (h : ∀ x ∈ l, x.ok) {s : Int} {a : Sg} (ha : (sSt l).1 s = some a) : a ∈ l := by
  have : ∀ i, i ≤ l.length → ∀ a, (sSt (l.take i)).1 s = some a → a ∈ l := by
    intro i
    induction i with
    | zero => intro _ a h; simp [sSt] at h
    | succ i ih =>
      intro hi a h
      have hx := List.getElem?_eq_getElem (show i < l.length by omega)
      rw [sSt_back hx] at h
      split at h
      · cases h; exact List.getElem_mem _
      · exact ih (by omega) a h
  exact this l.length (Nat.le_refl _) a (by rw [List.take_length]; exact ha)

/-! apart -/
def nStep (st : (Int → Option Nat) × Bool) (x : Sg) (t r : Nat) : (Int → Option Nat) × Bool :=
  (fun s => if x.sock = s then some (satAdd t (delayOf x.len r)) else st.1 s, st.2 && match st.1 x.sock with | none => true | some u => decide (u ≤ t))
def nSt (at_ : List Nat) (l : List Sg) (rates : List Nat) : Nat → (Int → Option Nat) × Bool
  | 0 => (fun _ => none, true)
  | i + 1 => nStep (nSt at_ l rates i) (l.getD i sg0) (at_.getD i 0) (rates.getD i 0)
def apartF (at_ : List Nat) (l : List Sg) (rates : List Nat) : Bool := decide (at_.length = l.length) && decide (rates.length = l.length) && (nSt at_ l rates l.length).2
theorem nSt_false {at_ : List Nat} {l : List Sg} {rates : List Nat} {i j : Nat} (h : (nSt at_ l rates i).2 = false) (hij : i ≤ j) : (nSt at_ l rates j).2 = false := by
  induction j with
  | zero => rw [show i = 0 from by omega] at h; exact h
  | succ j ih =>
    rcases Nat.lt_or_ge i (j + 1) with h1 | h1
    · simp only [nSt, nStep, ih (by omega), Bool.false_and]
    · rw [show i = j + 1 from by omega] at h; exact h
theorem apartF_false {at_ : List Nat} {l : List Sg} {rates : List Nat} {i : Nat} (h : (nSt at_ l rates i).2 = false) (hi : i ≤ l.length) : apartF at_ l rates = false := by
  unfold apartF; rw [nSt_false h hi, Bool.and_false]
theorem nSt_back (at_ : List Nat) (l : List Sg) (rates : List Nat) (k : Nat) (s : Int) : (nSt at_ l rates (k + 1)).1 s = if (l.getD k sg0).sock = s then some (satAdd (at_.getD k 0) (delayOf (l.getD k sg0).len (rates.getD k 0))) else (nSt at_ l rates k).1 s := rfl
theorem getD_of {α : Type} {l : List α} {i : Nat} {x d : α} (h : l[i]? = some x) : l.getD i d = x := by rw [List.getD_eq_getElem?_getD, h]; rfl
end Go.Proofs.Ytojgpgjmcamfoaa
