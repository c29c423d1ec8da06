/- Plain facts for SatSums: a swap turns no sum. -/
import Derived.Test.YtgdbmjokpbjoaaaSum
namespace Go.Proofs.Ytgdbmjokpbjoaaa
set_option linter.unusedVariables false

theorem sum_set (l : List Nat) (i v : Nat) (h : i < l.length) : (l.set i v).sum + l.getD i 0 = l.sum + v := by
  induction l generalizing i with
  | nil => simp at h
  | cons a l ih =>
    cases i with
    | zero => simp; omega
    | succ i =>
      have := ih i (by simpa using h)
      simp at this ⊢
      omega
def swap (l : List Nat) (p k : Nat) : List Nat := (l.set p (l.getD k 0)).set k (l.getD p 0)
theorem swap_len (l : List Nat) (p k : Nat) : (swap l p k).length = l.length := by simp [swap]
theorem swap_sum (l : List Nat) (p k : Nat) (hp : p < l.length) (hk : k < l.length) : (swap l p k).sum = l.sum := by
  have h1 := sum_set l p (l.getD k 0) hp
  have h2 := sum_set (l.set p (l.getD k 0)) k (l.getD p 0) (by simpa using hk)
  have h3 : (l.set p (l.getD k 0)).getD k 0 = l.getD k 0 := by
    rw [List.getD_eq_getElem?_getD, List.getElem?_set]
    by_cases e : p = k
    · subst e; simp [hp]
    · simp [e, List.getD_eq_getElem?_getD]
  rw [h3] at h2
  unfold swap
  omega
theorem swap_mem (l : List Nat) (p k B : Nat) (hp : p < l.length) (hk : k < l.length) (h : ∀ x ∈ l, x < B) : ∀ x ∈ swap l p k, x < B := by
  have g : ∀ i, i < l.length → l.getD i 0 < B := fun i hi => by
    rw [List.getD_eq_getElem?_getD, List.getElem?_eq_getElem hi]
    exact h _ (List.getElem_mem hi)
  intro x hx
  unfold swap at hx
  rcases List.mem_or_eq_of_mem_set hx with hx | rfl
  · rcases List.mem_or_eq_of_mem_set hx with hx | rfl
    · exact h x hx
    · exact g k hk
  · exact g p hp
end Go.Proofs.Ytgdbmjokpbjoaaa
