/- Plain facts on a policer at a steady pace. -/
import Derived.Test.YtojgpgjmcamfoaaPolJ
namespace Go.Proofs.Ytojgpgjmcamfoaa
set_option linter.unusedVariables false

section
variable {s : PL} {x : SM}
theorem polF_begin (hu : s.use = false) (hm : s.samples = false) (hl : 0 < x.lost) : polF s true x = beginF (addL s x) x := by
  unfold polF; rw [if_neg (by simp [hu]), if_neg (by simp [hm]), if_pos hl]
theorem polF_rest {st : Bool} (hu : s.use = false) (hm : s.samples = false) (hl : x.lost = 0) : polF s st x = addL s x := by
  unfold polF; rw [if_neg (by simp [hu]), if_neg (by simp [hm]), if_neg (by omega)]
theorem polF_low (hu : s.use = false) (hm : s.samples = true) (hx : x.limited = false) (hn : s.n + 1 < 4) : polF s true x = { addL s x with n := s.n + 1 } := by
  have e1 : (incF s true).n = s.n + 1 := rfl
  unfold polF; rw [if_neg (by simp [hu]), if_pos hm, if_neg (by simp [hx]), if_neg (by rw [e1]; omega), if_neg (by rw [e1]; omega)]; rfl
theorem polF_end (hu : s.use = false) (hm : s.samples = true) (hx : x.limited = false) (hn : 4 ≤ s.n + 1 ∧ s.n + 1 ≤ 16) (hl : 0 < x.lost) : polF s true x = endF { addL s x with n := s.n + 1 } x := by
  have e1 : (incF s true).n = s.n + 1 := rfl
  unfold polF; rw [if_neg (by simp [hu]), if_pos hm, if_neg (by simp [hx]), if_neg (by rw [e1]; omega), if_pos (by rw [e1]; exact ⟨hn.1, hl⟩)]; rfl
theorem polF_out (hu : s.use = false) (hm : s.samples = true) (hx : x.limited = false) (hn : 16 < s.n + 1) : polF s true x = leaveF { addL s x with n := s.n + 1 } := by
  have e1 : (incF s true).n = s.n + 1 := rfl
  unfold polF; rw [if_neg (by simp [hu]), if_pos hm, if_neg (by simp [hx]), if_pos (by rw [e1]; omega)]; rfl
theorem polF_use (hu : s.use = true) (hn : s.n ≠ 47) : polF s true x = { addL s x with n := s.n + 1 } := by
  unfold polF; rw [if_pos hu, if_pos rfl, if_neg hn]
theorem polF_leave (hu : s.use = true) (hn : s.n = 47) : polF s true x = { leaveF (addL s x) with n := 0 } := by
  unfold polF; rw [if_pos hu, if_pos rfl, if_pos hn]
end

def smK (bw lost k : Nat) : SM := ⟨k * 1000000000, k * bw, 0, 0, 0, bw, lost, 0, false⟩
def stF (bw lost : Nat) : Nat → PL
  | 0 => pol0
  | k + 1 => polF (stF bw lost k) true (smK bw lost k)
theorem smK_ok {bw lost k : Nat} (hb : bw ≤ 1001000) (hl : lost ≤ bw) (hk : k ≤ 100) : (smK bw lost k).ok := by
  have : k * bw ≤ 100 * 1001000 := Nat.mul_le_mul hk hb
  refine ⟨?_, ?_, ?_⟩ <;> simp only [smK] <;> omega
theorem stF_inv {bw lost : Nat} (hb : bw ≤ 1001000) (hl : lost ≤ bw) : ∀ k, k ≤ 100 → (stF bw lost k).inv
  | 0, _ => pol0_inv
  | k + 1, h => polF_inv (stF_inv hb hl k (by omega)) (smK_ok hb hl (by omega))
/-- without a loss nothing begins -/
theorem stF_none (bw k : Nat) : (stF bw 0 k).use = false ∧ (stF bw 0 k).samples = false := by
  induction k with
  | zero => exact ⟨rfl, rfl⟩
  | succ k ih =>
    show (polF (stF bw 0 k) true (smK bw 0 k)).use = false ∧ (polF (stF bw 0 k) true (smK bw 0 k)).samples = false
    rw [polF_rest ih.1 ih.2 rfl]
    exact ih

theorem satAdd_small {a b : Nat} (h : a + b < 18446744073709551616) : satAdd a b = a + b := by unfold satAdd; rw [if_pos h]

/-- with few losses: it may sample, and is never in use -/
def FewOk (bw f k : Nat) (s : PL) : Prop := s.use = false ∧ s.lost = k * f ∧ (s.samples = true → s.n ≤ 16 ∧ ∃ j, j < k ∧ s.d0 = j * bw ∧ s.l0 = (j + 1) * f ∧ s.t0 = j * 1000000000)
theorem few_not {bw f k : Nat} (hb1 : 1000 ≤ bw) (hb : bw ≤ 1001000) (hf : f < bw / 10) (hk : k ≤ 60) {s : PL} {j : Nat} (hj : j < k) (h1 : s.d0 = j * bw) (h2 : s.l0 = (j + 1) * f) (h3 : s.lost = (k + 1) * f) : isF s (smK bw f k) = false := by
  have e1 : dF s (smK bw f k) = (k - j) * bw := by
    show satSub (k * bw) s.d0 = _
    rw [h1]; unfold satSub; rw [Nat.sub_mul]
  have e2 : lF s = (k - j) * f := by
    unfold lF; rw [h2, h3]; unfold satSub
    rw [← Nat.sub_mul]; congr 1; omega
  unfold isF
  rw [e1, e2]
  obtain ⟨m, hm⟩ : ∃ m, k - j = m := ⟨_, rfl⟩
  rw [hm]
  have hm1 : 1 ≤ m := by omega
  have hm2 : m ≤ 60 := by omega
  have hX : m * bw ≤ 60 * 1001000 := Nat.mul_le_mul hm2 hb
  have h10 : 10 * f + 10 ≤ bw := by omega
  have hY : m * (10 * f + 10) ≤ m * bw := Nat.mul_le_mul_left m h10
  have hY2 : m * (10 * f + 10) = 10 * (m * f) + 10 * m := by rw [Nat.mul_add, Nat.mul_left_comm]; omega
  rw [hY2] at hY
  rw [mulDiv_min (by omega)]
  generalize m * bw = X at *
  generalize m * f = Y at *
  have : ¬ (min 18446744073709551615 (X * 50 / 256) ≤ Y) := by omega
  simp [this]
theorem stF_few {bw f : Nat} (hb1 : 1000 ≤ bw) (hb : bw ≤ 1001000) (hf : f < bw / 10) : ∀ k, k ≤ 60 → FewOk bw f k (stF bw f k) := by
  intro k
  induction k with
  | zero => exact fun _ => ⟨rfl, by simp [stF, pol0], fun h => by simp [stF, pol0] at h⟩
  | succ k ih =>
    intro hk
    obtain ⟨i1, i2, i3⟩ := ih (by omega)
    show FewOk bw f (k + 1) (polF (stF bw f k) true (smK bw f k))
    generalize stF bw f k = s at *
    have hkf : (k + 1) * f ≤ 60 * 1001000 := Nat.mul_le_mul hk (by omega)
    have hkf2 : (k + 1) * f = k * f + f := Nat.succ_mul k f
    have hL : (addL s (smK bw f k)).lost = (k + 1) * f := by
      show satAdd s.lost f = _
      rw [i2, satAdd_small (by omega)]; omega
    cases hm : s.samples
    · rcases Nat.eq_zero_or_pos f with h0 | h0
      · rw [polF_rest i1 hm h0]
        exact ⟨i1, hL, fun h => by simp [addL, hm] at h⟩
      · rw [polF_begin i1 hm h0]
        exact ⟨i1, hL, fun _ => ⟨by simp [beginF], k, by omega, rfl, hL, rfl⟩⟩
    · obtain ⟨i4, j, j1, j2, j3, j4⟩ := i3 hm
      by_cases c1 : s.n + 1 < 4
      · rw [polF_low i1 hm rfl c1]
        exact ⟨i1, hL, fun _ => ⟨by simp; omega, j, by omega, j2, j3, j4⟩⟩
      · by_cases c2 : 16 < s.n + 1
        · rw [polF_out i1 hm rfl c2]
          exact ⟨rfl, hL, fun h => by simp [leaveF] at h⟩
        · rcases Nat.eq_zero_or_pos f with h0 | h0
          · have e1 : (incF s true).n = s.n + 1 := rfl
            have e : polF s true (smK bw f k) = { addL s (smK bw f k) with n := s.n + 1 } := by
              unfold polF; rw [if_neg (by simp [i1]), if_pos hm, if_neg (by simp [smK]), if_neg (by rw [e1]; omega), if_neg (by intro h; have := h.2; simp only [smK] at this; omega)]; rfl
            rw [e]
            exact ⟨i1, hL, fun _ => ⟨by simp; omega, j, by omega, j2, j3, j4⟩⟩
          · rw [polF_end i1 hm rfl ⟨by omega, by omega⟩ h0]
            have hn := few_not (s := { addL s (smK bw f k) with n := s.n + 1 }) hb1 hb hf (by omega) j1 j2 j3 hL
            unfold endF
            rw [hn, if_neg (by simp)]
            exact ⟨i1, hL, fun _ => ⟨by simp; omega, j, by omega, j2, j3, j4⟩⟩

theorem near_self (a : Nat) : nearF a a = true := by unfold nearF; rw [Nat.max_self, Nat.min_self]; simp
/-- with many losses: told out -/
def manyF (bw h k : Nat) : PL :=
  if k = 0 then pol0 else if k ≤ 4 then ⟨false, true, 0, k - 1, k * h, 0, 0, h⟩ else if k ≤ 8 then ⟨false, true, bw, k - 5, k * h, 4000000000, 4 * bw, 5 * h⟩
  else if k ≤ 56 then ⟨true, true, bw, k - 9, k * h, 4000000000, 4 * bw, 5 * h⟩ else if k = 57 then ⟨false, false, 0, 0, k * h, 4000000000, 4 * bw, 5 * h⟩
  else ⟨false, true, 0, k - 58, k * h, 57000000000, 57 * bw, 58 * h⟩
theorem stF_many {bw h : Nat} (hb1 : 1000 ≤ bw) (hb : bw ≤ 1001000) (hh : bw / 2 = h) : ∀ k, k ≤ 60 → stF bw h k = manyF bw h k := by
  intro k
  induction k with
  | zero => exact fun _ => rfl
  | succ k ih =>
    intro hk
    have hp : 0 < h := by omega
    have hkf : (k + 1) * h ≤ 60 * 1001000 := Nat.mul_le_mul hk (by omega)
    have hkf2 : (k + 1) * h = k * h + h := Nat.succ_mul k h
    have hA : satAdd (k * h) h = (k + 1) * h := by rw [satAdd_small (by omega)]; omega
    show polF (stF bw h k) true (smK bw h k) = _
    rw [ih (by omega)]
    have e1 : ∀ (s : PL), s.lost = k * h → (addL s (smK bw h k)).lost = (k + 1) * h := fun s hs => by
      show satAdd s.lost h = _
      rw [hs, hA]
    by_cases c0 : k = 0
    · subst c0
      unfold manyF
      rw [if_pos rfl, if_neg (by omega), if_pos (by omega), polF_begin rfl rfl hp]
      simp [beginF, addL, pol0, smK, satAdd_small (a := 0) (b := h) (by omega)]
    by_cases c1 : k < 4
    · unfold manyF
      rw [if_neg c0, if_pos (by omega), if_neg (by omega), if_pos (by omega), polF_low rfl rfl rfl (by simp; omega)]
      simp only [addL, smK, hA]
      congr 1; omega
    by_cases c2 : k = 4
    · subst c2
      unfold manyF
      rw [if_neg (by omega), if_pos (by omega), if_neg (by omega), if_neg (by omega), if_pos (by omega), polF_end rfl rfl rfl ⟨by simp, by simp⟩ hp]
      have hi : isF { addL ⟨false, true, 0, 4 - 1, 4 * h, 0, 0, h⟩ (smK bw h 4) with n := 4 - 1 + 1 } (smK bw h 4) = true := by
        simp only [isF, dF, tF, lF, addL, smK, satSub, hA, Bool.and_eq_true, decide_eq_true_eq]
        rw [mulDiv_min (by omega)]
        omega
      have hw : bwF { addL ⟨false, true, 0, 4 - 1, 4 * h, 0, 0, h⟩ (smK bw h 4) with n := 4 - 1 + 1 } (smK bw h 4) = bw := by
        simp only [bwF, dF, tF, addL, smK, satSub]
        rw [mulDiv_min (by omega)]
        omega
      unfold endF
      rw [hi, if_pos rfl, hw, if_neg (by simp [addL])]
      simp [beginF, addL, smK, hA]
    by_cases c3 : k < 8
    · unfold manyF
      rw [if_neg c0, if_neg (by omega), if_pos (by omega), if_neg (by omega), if_neg (by omega), if_pos (by omega), polF_low rfl rfl rfl (by simp; omega)]
      simp only [addL, smK, hA]
      congr 1; omega
    by_cases c4 : k = 8
    · subst c4
      unfold manyF
      rw [if_neg (by omega), if_neg (by omega), if_pos (by omega), if_neg (by omega), if_neg (by omega), if_neg (by omega), if_pos (by omega), polF_end rfl rfl rfl ⟨by simp, by simp⟩ hp]
      have hi : isF { addL ⟨false, true, bw, 8 - 5, 8 * h, 4000000000, 4 * bw, 5 * h⟩ (smK bw h 8) with n := 8 - 5 + 1 } (smK bw h 8) = true := by
        simp only [isF, dF, tF, lF, addL, smK, satSub, hA, Bool.and_eq_true, decide_eq_true_eq]
        rw [mulDiv_min (by omega)]
        omega
      have hw : bwF { addL ⟨false, true, bw, 8 - 5, 8 * h, 4000000000, 4 * bw, 5 * h⟩ (smK bw h 8) with n := 8 - 5 + 1 } (smK bw h 8) = bw := by
        simp only [bwF, dF, tF, addL, smK, satSub]
        rw [mulDiv_min (by omega)]
        omega
      unfold endF
      rw [hi, if_pos rfl, hw, if_pos (by show (decide (0 < bw) && nearF bw bw) = true; rw [near_self]; simp; omega)]
      simp only [addL, smK, hA]
      congr 1; omega
    by_cases c5 : k < 56
    · unfold manyF
      rw [if_neg c0, if_neg (by omega), if_neg (by omega), if_pos (by omega), if_neg (by omega), if_neg (by omega), if_neg (by omega), if_pos (by omega), polF_use rfl (by simp; omega)]
      simp only [addL, smK, hA]
      congr 1; omega
    by_cases c6 : k = 56
    · subst c6
      unfold manyF
      rw [if_neg (by omega), if_neg (by omega), if_neg (by omega), if_pos (by omega), if_neg (by omega), if_neg (by omega), if_neg (by omega), if_neg (by omega), if_pos (by omega), polF_leave rfl (by simp)]
      simp only [leaveF, addL, smK, hA]
    by_cases c7 : k = 57
    · subst c7
      unfold manyF
      rw [if_neg (by omega), if_neg (by omega), if_neg (by omega), if_neg (by omega), if_pos (by omega), if_neg (by omega), if_neg (by omega), if_neg (by omega), if_neg (by omega), if_neg (by omega), polF_begin rfl rfl hp]
      simp [beginF, addL, smK, hA]
    · unfold manyF
      rw [if_neg (by omega), if_neg (by omega), if_neg (by omega), if_neg (by omega), if_neg (by omega), if_neg (by omega), if_neg (by omega), if_neg (by omega), if_neg (by omega), if_neg (by omega), polF_low rfl rfl rfl (by simp; omega)]
      simp only [addL, smK, hA]
      congr 1; omega
theorem many_use {bw h n : Nat} (hn : n < 60) : (manyF bw h n).use = (decide (9 ≤ n) && decide (n < 57)) ∧ ((manyF bw h n).use = true → (manyF bw h n).bw = bw) := by
  unfold manyF
  by_cases c0 : n = 0
  · rw [if_pos c0]; subst c0; exact ⟨rfl, fun h => by simp [pol0] at h⟩
  by_cases c1 : n ≤ 4
  · rw [if_neg c0, if_pos c1]; exact ⟨by simp; omega, fun h => by simp at h⟩
  by_cases c2 : n ≤ 8
  · rw [if_neg c0, if_neg c1, if_pos c2]; exact ⟨by simp; omega, fun h => by simp at h⟩
  by_cases c3 : n ≤ 56
  · rw [if_neg c0, if_neg c1, if_neg c2, if_pos c3]; exact ⟨by simp; omega, fun h => rfl⟩
  by_cases c4 : n = 57
  · rw [if_neg c0, if_neg c1, if_neg c2, if_neg c3, if_pos c4]; exact ⟨by simp; omega, fun h => by simp at h⟩
  · rw [if_neg c0, if_neg c1, if_neg c2, if_neg c3, if_neg c4]; exact ⟨by simp; omega, fun h => by simp at h⟩
end Go.Proofs.Ytojgpgjmcamfoaa
