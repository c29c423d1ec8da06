/- Plain facts on segments one behind the other. -/
import Derived.Test.YtojgpgjmcamfoaaAudP
namespace Go.Proofs.Ytojgpgjmcamfoaa
set_option linter.unusedVariables false

theorem sStep_some {st : (Int → Option Sg) × Bool} {x a : Sg} (h : x.again = false) (h1 : st.1 x.sock = some a) : (sStep st x).2 = (st.2 && decide (endF a ≤ x.fr)) := by
  rw [sStep, if_neg (by simp [h])]; simp only [h1]
theorem sStep_none {st : (Int → Option Sg) × Bool} {x : Sg} (h : x.again = false) (h1 : st.1 x.sock = none) : (sStep st x).2 = st.2 := by
  rw [sStep, if_neg (by simp [h])]; simp only [h1, Bool.and_true]
theorem sStep_at {st : (Int → Option Sg) × Bool} {x : Sg} (h : x.again = false) {s : Int} (hs : x.sock = s) : (sStep st x).1 s = some x := by
  rw [sStep, if_neg (by simp [h])]; simp only [hs, if_true]
theorem nStep_some {st : (Int → Option Nat) × Bool} {x : Sg} {t r u : Nat} (h1 : st.1 x.sock = some u) : (nStep st x t r).2 = (st.2 && decide (u ≤ t)) := by
  rw [nStep]; simp only [h1]
theorem nStep_none {st : (Int → Option Nat) × Bool} {x : Sg} {t r : Nat} (h1 : st.1 x.sock = none) : (nStep st x t r).2 = st.2 := by
  rw [nStep]; simp only [h1, Bool.and_true]
theorem nStep_at {st : (Int → Option Nat) × Bool} {x : Sg} {t r : Nat} {s : Int} (hs : x.sock = s) : (nStep st x t r).1 s = some (satAdd t (delayOf x.len r)) := by
  rw [nStep]; simp only [hs, if_true]
theorem okP_meet {a b : Sg} {E1 E2 : Nat} (h1 : a.again = false) (h2 : b.again = false) (h3 : a.sock = b.sock) (e1 : endF a = E1) (e2 : endF b = E2) : okP a b = !decide (max a.fr b.fr < min E1 E2) := by
  unfold okP meetF
  rw [h1, h2, h3, e1, e2]; simp
theorem nSt_congr {at_ at' : List Nat} {l l' : List Sg} {rates rates' : List Nat} : ∀ (i : Nat), (∀ j, j < i → at_.getD j 0 = at'.getD j 0 ∧ l.getD j sg0 = l'.getD j sg0 ∧ rates.getD j 0 = rates'.getD j 0) → nSt at_ l rates i = nSt at' l' rates' i
  | 0, _ => rfl
  | i + 1, h => by
    obtain ⟨h1, h2, h3⟩ := h i (by omega)
    simp only [nSt, nSt_congr i (fun j hj => h j (by omega)), h1, h2, h3]
theorem getD_snoc_lt {α : Type} {l : List α} {x d : α} {j : Nat} (h : j < l.length) : (l ++ [x]).getD j d = l.getD j d := by
  rw [List.getD_eq_getElem?_getD, List.getD_eq_getElem?_getD, List.getElem?_append_left h]
theorem getD_snoc_eq {α : Type} {l : List α} {x d : α} {i : Nat} (h : l.length = i) : (l ++ [x]).getD i d = x := by
  rw [List.getD_eq_getElem?_getD, List.getElem?_append_right (by omega)]; simp [h]
theorem nSt_snoc {at_ rates : List Nat} {l : List Sg} {i t r : Nat} {x : Sg} (h1 : at_.length = i) (h2 : l.length = i) (h3 : rates.length = i) :
    nSt (at_ ++ [t]) (l ++ [x]) (rates ++ [r]) (i + 1) = nStep (nSt at_ l rates i) x t r := by
  have e : nSt (at_ ++ [t]) (l ++ [x]) (rates ++ [r]) i = nSt at_ l rates i := nSt_congr i fun j hj => ⟨getD_snoc_lt (by omega), getD_snoc_lt (by omega), getD_snoc_lt (by omega)⟩
  simp only [nSt, e, getD_snoc_eq h1, getD_snoc_eq h2, getD_snoc_eq h3]

/-! one behind the other -/
def frL (n : Nat → Nat) : Nat → Nat
  | 0 => 0
  | i + 1 => frL n i + n i
def tmL (n : Nat → Nat) (r : Nat) : Nat → Nat
  | 0 => 0
  | i + 1 => tmL n r i + n i * 1000000000 / r
def segL (n : Nat → Nat) (j : Nat) : Sg := ⟨2, frL n j, n j, 0, false⟩
def lineL (n : Nat → Nat) : Nat → List Sg
  | 0 => []
  | i + 1 => lineL n i ++ [segL n i]
def timeL (n : Nat → Nat) (r : Nat) : Nat → List Nat
  | 0 => []
  | i + 1 => timeL n r i ++ [tmL n r i]
def rateL (r : Nat) : Nat → List Nat
  | 0 => []
  | i + 1 => rateL r i ++ [r]
theorem lineL_len (n : Nat → Nat) : ∀ i, (lineL n i).length = i
  | 0 => rfl
  | i + 1 => by simp [lineL, lineL_len n i]
theorem timeL_len (n : Nat → Nat) (r : Nat) : ∀ i, (timeL n r i).length = i
  | 0 => rfl
  | i + 1 => by simp [timeL, timeL_len n r i]
theorem rateL_len (r : Nat) : ∀ i, (rateL r i).length = i
  | 0 => rfl
  | i + 1 => by simp [rateL, rateL_len r i]
theorem lineL_at (n : Nat → Nat) : ∀ i j, j < i → (lineL n i)[j]? = some (segL n j)
  | 0, _, h => by omega
  | i + 1, j, h => by
    rcases Nat.lt_or_ge j i with h1 | h1
    · rw [lineL, List.getElem?_append_left (by rw [lineL_len]; exact h1)]; exact lineL_at n i j h1
    · obtain rfl : j = i := by omega
      rw [lineL, List.getElem?_append_right (by rw [lineL_len]; omega), lineL_len]; simp
theorem timeL_at (n : Nat → Nat) (r : Nat) : ∀ i j, j < i → (timeL n r i)[j]? = some (tmL n r j)
  | 0, _, h => by omega
  | i + 1, j, h => by
    rcases Nat.lt_or_ge j i with h1 | h1
    · rw [timeL, List.getElem?_append_left (by rw [timeL_len]; exact h1)]; exact timeL_at n r i j h1
    · obtain rfl : j = i := by omega
      rw [timeL, List.getElem?_append_right (by rw [timeL_len]; omega), timeL_len]; simp
theorem rateL_mem (r : Nat) : ∀ i x, x ∈ rateL r i → x = r
  | 0, x, h => by simp [rateL] at h
  | i + 1, x, h => by
    simp only [rateL, List.mem_append, List.mem_singleton] at h
    rcases h with h | h
    · exact rateL_mem r i x h
    · exact h
theorem lineL_take (n : Nat → Nat) (N k : Nat) (h : k ≤ N) : (lineL n N).take k = lineL n k := by
  apply List.ext_getElem?
  intro j
  rcases Nat.lt_or_ge j k with h1 | h1
  · rw [List.getElem?_take_of_lt h1, lineL_at n N j (by omega), lineL_at n k j h1]
  · rw [List.getElem?_eq_none (by rw [List.length_take, lineL_len]; omega), List.getElem?_eq_none (by rw [lineL_len]; exact h1)]

def NB (n : Nat → Nat) : Prop := ∀ j, 1 ≤ n j ∧ n j ≤ 5000
def RB (r : Nat) : Prop := 1000000 ≤ r ∧ r < 2000000
theorem frL_mono {n : Nat → Nat} {i j : Nat} (h : i ≤ j) : frL n i ≤ frL n j := by
  induction j with
  | zero => rw [show i = 0 by omega]; exact Nat.le_refl _
  | succ j ih =>
    rcases Nat.lt_or_ge i (j + 1) with h1 | h1
    · have := ih (by omega); simp only [frL]; omega
    · rw [show i = j + 1 by omega]; exact Nat.le_refl _
section
variable {n : Nat → Nat} (hn : NB n)
include hn
theorem frL_le : ∀ i, frL n i ≤ 5000 * i
  | 0 => by simp [frL]
  | i + 1 => by have := frL_le i; have := hn i; simp only [frL]; omega
theorem frL_ge : ∀ i, i ≤ frL n i
  | 0 => by simp
  | i + 1 => by have := frL_ge i; have := hn i; simp only [frL]; omega
theorem endF_segL (i : Nat) (h : i ≤ 30) : endF (segL n i) = frL n (i + 1) := by
  have h1 := frL_le hn i
  have h2 := hn i
  unfold endF segL
  simp only [Int.toNat_natCast, frL]
  unfold satAdd
  rw [if_pos (by omega)]
theorem segL_ok (i : Nat) (h : i ≤ 30) : (segL n i).ok := by
  have h1 := frL_le hn i
  have h2 := hn i
  refine ⟨⟨by simp [segL], by simp [segL]⟩, by simp only [segL]; omega, ⟨by simp only [segL]; omega, by simp only [segL]; omega⟩, by simp [segL]⟩
theorem lineL_ok (N : Nat) (h : N ≤ 30) : ∀ x ∈ lineL n N, x.ok := by
  intro x hx
  obtain ⟨j, hj⟩ := List.mem_iff_getElem?.1 hx
  have hl : j < N := by have := (List.getElem?_eq_some_iff.1 hj).1; rwa [lineL_len] at this
  rw [lineL_at n N j hl] at hj
  cases hj
  exact segL_ok hn j (by omega)
theorem line_sorted : ∀ i, i ≤ 30 → (sSt (lineL n i)).2 = true ∧ ∀ j, i = j + 1 → (sSt (lineL n i)).1 2 = some (segL n j)
  | 0, _ => ⟨rfl, fun j h => by omega⟩
  | i + 1, h => by
    obtain ⟨h1, h2⟩ := line_sorted i (by omega)
    simp only [lineL, sSt_snoc]
    refine ⟨?_, fun j hj => ?_⟩
    · cases i with
      | zero => rw [sStep_none rfl rfl]; exact h1
      | succ i =>
        rw [sStep_some rfl (h2 i rfl), h1, endF_segL hn i (by omega), Bool.true_and, decide_eq_true_eq]
        exact Nat.le_refl _
    · rw [sStep_at (x := segL n i) rfl (s := 2) rfl, show i = j by omega]
theorem line_once (N : Nat) (h : N ≤ 30) : onceF (lineL n N) = true := by
  rw [onceF_iff]
  intro p q a b hq ha hb
  have hp : p < N := by have := (List.getElem?_eq_some_iff.1 ha).1; rwa [lineL_len] at this
  rw [lineL_at n N p hp] at ha
  rw [lineL_at n N q (by omega)] at hb
  cases ha; cases hb
  have hm := frL_mono (n := n) (show q + 1 ≤ p by omega)
  rw [okP_meet (a := segL n p) (b := segL n q) rfl rfl rfl (endF_segL hn p (by omega)) (endF_segL hn q (by omega)), Bool.not_eq_true', decide_eq_false_iff_not]
  simp only [segL]
  omega
/-- one that begins too early -/
def early (x : Sg) : Sg := ⟨x.sock, x.fr - 1, x.len, x.stamp, x.again⟩
theorem early_sorted (N k : Nat) (h : N ≤ 30) (k1 : 1 ≤ k) (k2 : k < N) : sortedF ((lineL n N).set k (early (segL n k))) = false := by
  refine sortedF_false (i := k + 1) ?_
  have hx : ((lineL n N).set k (early (segL n k)))[k]? = some (early (segL n k)) := by rw [List.getElem?_set_self (by rw [lineL_len]; exact k2)]
  rw [sSt_take hx, List.take_set_of_le (Nat.le_refl _), lineL_take n N k (by omega)]
  obtain ⟨q, rfl⟩ : ∃ q, k = q + 1 := ⟨k - 1, by omega⟩
  have h2 := (line_sorted hn (q + 1) (by omega)).2 q rfl
  have hg := frL_ge hn (q + 1)
  rw [sStep_some rfl h2, endF_segL hn q (by omega), Bool.and_eq_false_iff, decide_eq_false_iff_not]
  right
  simp only [early, segL]
  omega
theorem early_once (N k : Nat) (h : N ≤ 30) (k1 : 1 ≤ k) (k2 : k < N) : onceF ((lineL n N).set k (early (segL n k))) = false := by
  have hx : ((lineL n N).set k (early (segL n k)))[k]? = some (early (segL n k)) := by rw [List.getElem?_set_self (by rw [lineL_len]; exact k2)]
  obtain ⟨q, rfl⟩ : ∃ q, k = q + 1 := ⟨k - 1, by omega⟩
  have hy : ((lineL n N).set (q + 1) (early (segL n (q + 1))))[q]? = some (segL n q) := by rw [List.getElem?_set_ne (by omega)]; exact lineL_at n N q (by omega)
  refine onceF_false (i := q + 1) (k := q) (by omega) hx hy ?_
  have g1 := frL_ge hn (q + 1)
  have g2 := hn (q + 1)
  have g3 := hn q
  have g4 := frL_le hn (q + 1)
  have e1 : endF (early (segL n (q + 1))) = frL n (q + 1) - 1 + n (q + 1) := by
    unfold endF early segL
    simp only [Int.toNat_natCast]
    unfold satAdd
    rw [if_pos (by omega)]
  have e2 : frL n (q + 1) = frL n q + n q := rfl
  rw [okP_meet (a := early (segL n (q + 1))) (b := segL n q) rfl rfl rfl e1 (endF_segL hn q (by omega)), Bool.not_eq_false', decide_eq_true_eq]
  simp only [early, segL]
  omega
theorem trip_bound (r : Nat) (hr : RB r) (j : Nat) : 1 ≤ n j * 1000000000 / r ∧ n j * 1000000000 / r ≤ 5000000 := by
  obtain ⟨r1, r2⟩ := hr
  have h := hn j
  constructor
  · rw [Nat.le_div_iff_mul_le (by omega)]
    omega
  · have : n j * 1000000000 / r ≤ n j * 1000000000 / 1000000 := Nat.div_le_div_left r1 (by omega)
    omega
theorem delay_trip (r : Nat) (hr : RB r) (j : Nat) : delayOf (n j : Nat) r = n j * 1000000000 / r := by
  have h1 := hn j
  have h2 := trip_bound hn r hr j
  obtain ⟨r1, r2⟩ := hr
  unfold delayOf
  rw [if_neg (by omega), if_neg (by omega), Int.toNat_natCast, mulDiv_min (by omega)]
  generalize n j * 1000000000 / r = D at *
  omega
theorem tmL_bound (r : Nat) (hr : RB r) : ∀ i, i ≤ tmL n r i ∧ tmL n r i ≤ 5000000 * i
  | 0 => by simp [tmL]
  | i + 1 => by
    have h1 := tmL_bound r hr i
    have h2 := trip_bound hn r hr i
    simp only [tmL]
    generalize n i * 1000000000 / r = D at *
    omega
theorem line_apart (r : Nat) (hr : RB r) : ∀ i, i ≤ 30 → (nSt (timeL n r i) (lineL n i) (rateL r i) i).2 = true ∧ ∀ j, i = j + 1 → (nSt (timeL n r i) (lineL n i) (rateL r i) i).1 2 = some (tmL n r i)
  | 0, _ => ⟨rfl, fun j h => by omega⟩
  | i + 1, h => by
    obtain ⟨h1, h2⟩ := line_apart r hr i (by omega)
    have ht := (tmL_bound hn r hr i).2
    have hd := (trip_bound hn r hr i).2
    simp only [timeL, lineL, rateL]
    rw [nSt_snoc (timeL_len n r i) (lineL_len n i) (rateL_len r i)]
    refine ⟨?_, fun j hj => ?_⟩
    · cases i with
      | zero => rw [nStep_none rfl]; exact h1
      | succ i => rw [nStep_some (h2 i rfl), h1, Bool.true_and, decide_eq_true_eq]; exact Nat.le_refl _
    · rw [nStep_at (x := segL n i) (s := 2) rfl, show (segL n i).len = (n i : Nat) from rfl, delay_trip hn r hr i]
      simp only [Option.some.injEq, tmL]
      unfold satAdd
      generalize n i * 1000000000 / r = D at *
      rw [if_pos (by omega)]
theorem line_apartF (r : Nat) (hr : RB r) (N : Nat) (h : N ≤ 30) : apartF (timeL n r N) (lineL n N) (rateL r N) = true := by
  unfold apartF
  rw [lineL_len, timeL_len, rateL_len, (line_apart hn r hr N h).1]
  simp
theorem soon_apart (r : Nat) (hr : RB r) (N k : Nat) (h : N ≤ 30) (k1 : 1 ≤ k) (k2 : k < N) : apartF ((timeL n r N).set k (tmL n r k - 1)) (lineL n N) (rateL r N) = false := by
  refine apartF_false (i := k + 1) ?_ (by rw [lineL_len]; omega)
  have rate_at : ∀ N j, j < N → (rateL r N).getD j 0 = r := by
    intro N j hj
    have hl : j < (rateL r N).length := by rw [rateL_len]; exact hj
    rw [List.getD_eq_getElem?_getD, List.getElem?_eq_getElem hl]
    exact rateL_mem r N _ (List.getElem_mem hl)
  have e : nSt ((timeL n r N).set k (tmL n r k - 1)) (lineL n N) (rateL r N) k = nSt (timeL n r k) (lineL n k) (rateL r k) k := nSt_congr k fun j hj => ⟨by
      rw [List.getD_eq_getElem?_getD, List.getElem?_set_ne (by omega), timeL_at n r N j (by omega), List.getD_eq_getElem?_getD, timeL_at n r k j hj], by
      rw [List.getD_eq_getElem?_getD, lineL_at n N j (by omega), List.getD_eq_getElem?_getD, lineL_at n k j hj], by rw [rate_at N j (by omega), rate_at k j hj]⟩
  have ht : ((timeL n r N).set k (tmL n r k - 1)).getD k 0 = tmL n r k - 1 := by rw [List.getD_eq_getElem?_getD, List.getElem?_set_self (by rw [timeL_len]; exact k2)]; rfl
  have hl : (lineL n N).getD k sg0 = segL n k := getD_of (lineL_at n N k k2)
  simp only [nSt, e, ht, hl]
  obtain ⟨q, rfl⟩ : ∃ q, k = q + 1 := ⟨k - 1, by omega⟩
  have h2 := (line_apart hn r hr (q + 1) (by omega)).2 q rfl
  have hg := (tmL_bound hn r hr (q + 1)).1
  rw [nStep_some h2, Bool.and_eq_false_iff, decide_eq_false_iff_not]
  right; omega
end

/-! of several sockets -/
def ApLine (l : List Sg) : Prop := ∀ (j : Nat) (x : Sg), l[j]? = some x → x.fr = 10 * j ∧ x.len = 10 ∧ x.again = false ∧ x.stamp = 0 ∧ 0 ≤ x.sock ∧ x.sock < 4
theorem ApLine.snoc {l : List Sg} {i : Nat} (h : ApLine l) (hl : l.length = i) {k : Nat} (hk : k < 4) : ApLine (l ++ [⟨k, 10 * i, 10, 0, false⟩]) := by
  intro j x hx
  rcases Nat.lt_or_ge j i with h1 | h1
  · rw [List.getElem?_append_left (by omega)] at hx
    exact h j x hx
  · rw [List.getElem?_append_right (by omega)] at hx
    have : j = i := by
      have := (List.getElem?_eq_some_iff.1 hx).1
      simp at this; omega
    subst this
    simp [hl] at hx
    subst hx
    exact ⟨rfl, rfl, rfl, rfl, by simp, by simp; omega⟩
theorem ApLine.ok {l : List Sg} (h : ApLine l) (hl : l.length ≤ 40) : ∀ x ∈ l, x.ok := by
  intro x hx
  obtain ⟨j, hj⟩ := List.mem_iff_getElem?.1 hx
  have hjl := (List.getElem?_eq_some_iff.1 hj).1
  obtain ⟨h1, h2, h3, h4, h5, h6⟩ := h j x hj
  exact ⟨⟨by omega, by omega⟩, by omega, ⟨by omega, by omega⟩, by omega⟩
theorem ap_end {x : Sg} {j : Nat} (h : x.fr = 10 * j) (h2 : x.len = 10) (hj : j ≤ 40) : endF x = 10 * j + 10 := by
  unfold endF satAdd
  rw [h, h2, if_pos (by omega)]
  rfl
theorem ApLine.sorted {l : List Sg} (h : ApLine l) (hl : l.length ≤ 40) : sortedF l = true := by
  have : ∀ i, i ≤ l.length → (sSt (l.take i)).2 = true ∧ ∀ s y, (sSt (l.take i)).1 s = some y → endF y ≤ 10 * i := by
    intro i
    induction i with
    | zero => intro _; exact ⟨rfl, fun s y hy => by simp [sSt] at hy⟩
    | succ i ih =>
      intro hi
      obtain ⟨h1, h2⟩ := ih (by omega)
      have hx := List.getElem?_eq_getElem (show i < l.length by omega)
      obtain ⟨g1, g2, g3, _⟩ := h i _ hx
      have ge := ap_end g1 g2 (by omega)
      rw [sSt_take hx]
      refine ⟨?_, fun s y hy => ?_⟩
      · cases hf : (sSt (l.take i)).1 l[i].sock with
        | none => rw [sStep_none g3 hf]; exact h1
        | some y =>
          have := h2 _ y hf
          rw [sStep_some g3 hf, h1, Bool.true_and, decide_eq_true_eq]; omega
      · rw [sStep, if_neg (by simp [g3])] at hy
        simp only at hy
        split at hy
        · cases hy; omega
        · have := h2 s y hy; omega
  have := (this l.length (Nat.le_refl _)).1
  rwa [List.take_length] at this
theorem ApLine.once {l : List Sg} (h : ApLine l) (hl : l.length ≤ 40) : onceF l = true := by
  rw [onceF_iff]
  intro p q a b hq ha hb
  have hp := (List.getElem?_eq_some_iff.1 ha).1
  obtain ⟨h1, h2, h3, _⟩ := h p a ha
  obtain ⟨g1, g2, g3, _⟩ := h q b hb
  have e1 := ap_end h1 h2 (by omega)
  have e2 := ap_end g1 g2 (by omega)
  unfold okP meetF
  rw [h3, g3, e1, e2, h1, g1]
  cases decide (a.sock = b.sock)
  · rfl
  · simp only [Bool.true_and, Bool.false_or, Bool.not_eq_true', decide_eq_false_iff_not]; omega
end Go.Proofs.Ytojgpgjmcamfoaa
