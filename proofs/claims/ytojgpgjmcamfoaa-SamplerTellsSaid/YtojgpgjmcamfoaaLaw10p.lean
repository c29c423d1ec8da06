/- Plain facts on a sampler at a steady pace; rows of what was sent. -/
import Derived.Test.YtojgpgjmcamfoaaSamJ
namespace Go.Proofs.Ytojgpgjmcamfoaa
open Go.RowKit Go.Lib
set_option linter.unusedVariables false

theorem satAdd_of {a b c : Nat} (h : a + b = c) (hc : c < 18446744073709551616) : satAdd a b = c := by unfold satAdd; rw [if_pos (by omega), h]

def snt (g z t i : Nat) : ST := if i < t then ⟨i * g, 0, 0, 0, false⟩ else ⟨i * g, (i - t + 1) * z, i * g, if t = 1 then i * g else (i - t) * g, false⟩
def StOk (g z t i : Nat) (s : SA) : Prop := s.ok ∧ s.d = (i - t) * z ∧ s.acks = 0 ∧ s.mark = 0 ∧ s.is = false ∧ (i ≤ t → s.da = 0 ∧ s.fa = 0)

theorem snt_lim (g z t i : Nat) : (snt g z t i).lim = false := by unfold snt; split <;> rfl
theorem snt_at (g z t i : Nat) : (snt g z t i).at_ = i * g := by unfold snt; split <;> rfl
theorem mul_le2 {a b A B : Nat} (h : a ≤ A) (h' : b ≤ B) : a * b ≤ A * B := Nat.mul_le_mul h h'

section
variable {g z t i : Nat} (g1 : 1 ≤ g) (g2 : g ≤ 1000000) (z1 : 1 ≤ z) (z2 : z ≤ 100000) (t1 : 1 ≤ t) (t2 : t ≤ 10) (i2 : i < 60)
include g2 i2
theorem snt_ok : (snt g z t i).ok := by
  have h1 : i * g ≤ 60 * 1000000 := mul_le2 (by omega) g2
  have h2 : (i - t) * g ≤ 60 * 1000000 := mul_le2 (by omega) g2
  unfold snt
  split
  · exact ⟨by simp only; omega, by simp, by simp⟩
  · refine ⟨by simp only; omega, by simp only; omega, ?_⟩
    simp only
    split <;> omega

end
section
variable {g z t i : Nat} (z1 : 1 ≤ z) (i2 : i < 60)
include z1 i2
/-- before the first comes back -/
theorem steadyA {s : SA} (h : StOk g z t i s) (hi : i < t) : sentF s (i * g) (i * z) = s ∧ sentV s (i * g) = snt g z t i ∧ StOk g z t (i + 1) s := by
  obtain ⟨h1, h2, h3, h4, h5, h6⟩ := h
  obtain ⟨h7, h8⟩ := h6 (by omega)
  have h2' : s.d = 0 := by rw [h2, show i - t = 0 from by omega, Nat.zero_mul]
  refine ⟨?_, ?_, h1, ?_, h3, h4, h5, fun _ => ⟨h7, h8⟩⟩
  · unfold sentF
    split
    · rename_i hz
      have : i = 0 ∨ z = 0 := Nat.mul_eq_zero.1 hz
      have hi0 : i = 0 := by omega
      subst hi0
      obtain ⟨d, da, fa, mark, is, acks, prior, priorAt, lim, sending, rtt⟩ := s
      simp only at h7 h8
      subst h7 h8
      simp
    · rfl
  · unfold sentV snt
    rw [if_pos hi, h2', h7, h8, h4]
    rfl
  · rw [h2', show i + 1 - t = 0 from by omega, Nat.zero_mul]
end
section
variable {g z t i : Nat} (g2 : g ≤ 1000000) (z1 : 1 ≤ z) (z2 : z ≤ 100000) (t1 : 1 ≤ t) (i2 : i < 60)
include g2 z2 t1 z1 i2
/-- one comes back: what is noted, what is told, and what is sent next -/
theorem steadyB {s : SA} (h : StOk g z t i s) (g1 : 1 ≤ g) (t2 : t ≤ 10) (hi : t ≤ i) : ∃ (s1 s3 : SA) (xd xda xfa I : Nat),
    snt g z t (i - t) = ⟨(i - t) * g, xd, xda, xfa, false⟩ ∧ ackF s (i * g) z (snt g z t (i - t)) = s1 ∧ s1.ok ∧ takeV s1 (i * g) 0 ((t - 1) * z) = ⟨i * g, (i - t + 1) * z, xd, I, t * g, z, 0, (t - 1) * z, false⟩ ∧
    1 ≤ I ∧ I ≤ 60000000 ∧ xd ≤ (i - t + 1) * z ∧ (2 * t ≤ i → ((i - t + 1) * z - xd) * g = z * I) ∧ (takeF s1).ok ∧
    sentF (takeF s1) (i * g) ((t - 1) * z) = s3 ∧ sentV s3 (i * g) = snt g z t i ∧ StOk g z t (i + 1) s3 := by
  obtain ⟨h1, h2, h3, h4, h5, h6⟩ := h
  obtain ⟨j, hj⟩ : ∃ j, i - t = j := ⟨_, rfl⟩
  have hij : i = j + t := by omega
  rw [hj]
  have b1 : i * g ≤ 60 * 1000000 := mul_le2 (by omega) g2
  have b2 : j * g ≤ 60 * 1000000 := mul_le2 (by omega) g2
  have b3 : (j + 1) * z ≤ 61 * 100000 := mul_le2 (by omega) z2
  have b4 : j * z + z = (j + 1) * z := by rw [Nat.succ_mul]
  have b5 : i * g = j * g + t * g := by rw [hij, Nat.add_mul]
  have b6 : 1 * 1 ≤ t * g := mul_le2 t1 g1
  have hx := snt_ok (t := t) (i := j) (z := z) g2 (by omega)
  have hxl := snt_lim g z t j
  have hxa := snt_at g z t j
  have hxc : (j < t ∧ (snt g z t j).d = 0 ∧ (snt g z t j).da = 0 ∧ (snt g z t j).fa = 0) ∨ (t ≤ j ∧ (snt g z t j).d = (j - t + 1) * z ∧ (snt g z t j).da = j * g ∧ ((snt g z t j).fa = j * g ∨ (snt g z t j).fa = (j - t) * g)) := by
    unfold snt
    by_cases c : j < t
    · left; rw [if_pos c]; exact ⟨c, rfl, rfl, rfl⟩
    · right
      rw [if_neg c]
      refine ⟨by omega, rfl, rfl, ?_⟩
      simp only
      split
      · left; rfl
      · right; rfl
  generalize snt g z t j = x at *
  obtain ⟨xa, xd, xda, xfa, xl⟩ := x
  simp only at hxl hxa hxc
  subst hxl hxa
  have hd : satAdd s.d z = (j + 1) * z := satAdd_of (by rw [h2, hj]; exact b4) (by omega)
  have hac : satAdd s.acks z = z := satAdd_of (by rw [h3]; omega) (by omega)
  have hs1 : ackF s (i * g) z ⟨j * g, xd, xda, xfa, false⟩ = ⟨(j + 1) * z, i * g, j * g, 0, true, z, xd, xda, false, satSub (j * g) xfa, t * g⟩ := by
    unfold ackF
    simp only [hd, hac, h5, h4]
    rw [if_pos (by simp)]
    have : satSub (i * g) (j * g) = t * g := by unfold satSub; omega
    simp only [this, ite_self]
  have hok : (⟨(j + 1) * z, i * g, j * g, 0, true, z, xd, xda, false, satSub (j * g) xfa, t * g⟩ : SA).ok := ⟨by simp only; omega, by simp only; omega, by simp only; omega, by simp only; omega, hx.2.1⟩
  refine ⟨_, _, xd, xda, xfa, max (satSub (j * g) xfa) (satSub (i * g) xda), rfl, hs1, hok, ?_, ?_, ?_, ?_, ?_, takeF_ok hok, rfl, ?_, ?_⟩
  · rfl
  · unfold satSub
    rcases hxc with ⟨c1, c2, c3, c4⟩ | ⟨c1, c2, c3, c4⟩
    · rw [c3]; omega
    · rw [c3]; omega
  · unfold satSub
    omega
  · rcases hxc with ⟨c1, c2, c3, c4⟩ | ⟨c1, c2, c3, c4⟩
    · rw [c2]; omega
    · rw [c2]; exact Nat.mul_le_mul_right z (by omega)
  · intro hi2
    rcases hxc with ⟨c1, c2, c3, c4⟩ | ⟨c1, c2, c3, c4⟩
    · omega
    · have e1 : (j + 1) * z - xd = t * z := by
        rw [c2, ← Nat.sub_mul]
        congr 1
        omega
      have e2 : max (satSub (j * g) xfa) (satSub (i * g) xda) = t * g := by
        unfold satSub
        have e3 : j * g = (j - t) * g + t * g := by rw [← Nat.add_mul]; congr 1; omega
        rw [c3]
        rcases c4 with c4 | c4
        · rw [c4]; omega
        · rw [c4]; omega
      rw [e1, e2]
      rw [Nat.mul_comm t z, Nat.mul_assoc]
  · unfold sentF takeF sentV snt
    rw [if_neg (show ¬ i < t by omega), hj]
    by_cases c : t = 1
    · rw [if_pos (by rw [c]; simp), if_pos c]
      rfl
    · rw [if_neg (by intro h; have : t - 1 = 0 ∨ z = 0 := Nat.mul_eq_zero.1 h
                     omega), if_neg c]
      rfl
  · refine ⟨sentF_ok (takeF_ok hok) (by omega), ?_, ?_, ?_, ?_, fun h => absurd h (by omega)⟩
    · unfold sentF takeF; split <;> (simp only; congr 1; omega)
    · unfold sentF takeF; split <;> rfl
    · unfold sentF takeF; split <;> rfl
    · unfold sentF takeF; split <;> rfl
end

/-- the cells of a row of what was sent -/
def rowsT (xs : List ST) : List Value := xs.flatMap fun x => [.int .u64 x.at_, .int .u64 x.d, .int .u64 x.da, .int .u64 x.fa, .bool x.lim]
theorem rowsT_len (xs : List ST) : (rowsT xs).length = xs.length * 5 := by
  induction xs with
  | nil => rfl
  | cons x xs ih => simp only [rowsT, List.flatMap_cons, List.length_append, List.length_cons, List.length_nil] at ih ⊢; omega
theorem rowsT_snoc (xs : List ST) (x : ST) : rowsT (xs ++ [x]) = rowsT xs ++ [.int .u64 x.at_, .int .u64 x.d, .int .u64 x.da, .int .u64 x.fa, .bool x.lim] := by
  simp [rowsT, List.flatMap_append]
theorem rowsT_at {xs : List ST} {j : Nat} {x : ST} (h : xs[j]? = some x) (q : Nat) (hq : q < 5) : (rowsT xs)[j * 5 + q]? = [Value.int .u64 x.at_, .int .u64 x.d, .int .u64 x.da, .int .u64 x.fa, .bool x.lim][q]? := by
  induction xs generalizing j with
  | nil => simp at h
  | cons y ys ih =>
    have e : rowsT (y :: ys) = [Value.int .u64 y.at_, .int .u64 y.d, .int .u64 y.da, .int .u64 y.fa, .bool y.lim] ++ rowsT ys := by simp [rowsT]
    rw [e]
    cases j with
    | zero =>
      simp at h
      subst h
      rw [List.getElem?_append_left (by simp; omega)]
      simp
    | succ j =>
      rw [List.getElem?_append_right (by simp; omega)]
      rw [show (j + 1) * 5 + q - [Value.int .u64 y.at_, .int .u64 y.d, .int .u64 y.da, .int .u64 y.fa, .bool y.lim].length = j * 5 + q from by simp; omega]
      exact ih (by simpa using h)
def sntL (g z t i : Nat) : List ST := (List.range i).map (snt g z t)
theorem sntL_len (g z t i : Nat) : (sntL g z t i).length = i := by simp [sntL]
theorem sntL_snoc (g z t i : Nat) : sntL g z t (i + 1) = sntL g z t i ++ [snt g z t i] := by simp [sntL, List.range_succ]
theorem sntL_at (g z t i j : Nat) (h : j < i) : (sntL g z t i)[j]? = some (snt g z t j) := by simp [sntL, h]

/-- an append to a row of the call's own turns no object of the call's own that lies ahead of it -/
theorem own_grow {w0 W w3 : World} {b B n size : Nat} {t e : TypeId} {cs : Array Value} {v : Value} {xs : List Value} (hO : Own w0 W b t cs) (hx : W.ownsRow B e size v n xs) (hb : b < B) (hg : W.grownBy w3 v.ownBlock) : Own w0 w3 b t cs := by
  refine ⟨hO.1.kept hg fun h => ?_, hO.2.1.grown hg hO.2.1.size fun k hk => ?_, hO.2.2⟩
  · have := (hx.lt b h.symm).1
    omega
  · have := (hx.lt k hk).1
    have := hO.2.2
    omega
end Go.Proofs.Ytojgpgjmcamfoaa
