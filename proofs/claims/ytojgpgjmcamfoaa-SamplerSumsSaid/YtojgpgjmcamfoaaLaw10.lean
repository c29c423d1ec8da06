/- The walk of SamplerSums. -/
import Derived.Test.YtojgpgjmcamfoaaSamJ
namespace Go.Proofs.Ytojgpgjmcamfoaa
open Go.RowKit Go.Lib
set_option linter.unusedVariables false

theorem natRow_of {w : World} {a : Option Addr} {len : Nat} (hl : len ≤ 9223372036854775807)
    (h : 0 < len → ∃ b off, a = some ⟨b, off, none⟩ ∧ b < w.heap.size ∧ ∀ k, k < len → ∃ x : Int, (Lit.int .u64 x).wf = true ∧ w.cell? ⟨b, off + k, none⟩ = some (.int .u64 x)) : ∃ xs : List Nat, NatRow w a xs ∧ xs.length = len := by
  rcases Nat.eq_zero_or_pos len with rfl | hp
  · exact ⟨[], ⟨by simp, by simp, fun h => by simp at h⟩, rfl⟩
  · obtain ⟨b, off, ha, hb, hc⟩ := h hp
    have hc' : ∀ k, ∃ n : Nat, k < len → n < 18446744073709551616 ∧ w.cell? ⟨b, off + k, none⟩ = some (.int .u64 (n : Nat)) := by
      intro k
      by_cases hk : k < len
      · obtain ⟨x, g, c⟩ := hc k hk
        obtain ⟨n, rfl, hn⟩ := u64_of g
        exact ⟨n, fun _ => ⟨hn, c⟩⟩
      · exact ⟨0, fun h => absurd h hk⟩
    obtain ⟨f, hf⟩ := Classical.axiomOfChoice hc'
    refine ⟨(List.range len).map f, ⟨by simp; omega, fun x hx => ?_, fun _ => ⟨b, off, ha, hb, fun j hj => ?_⟩⟩, by simp⟩
    · obtain ⟨i, hi, rfl⟩ := List.mem_map.1 hx
      exact (hf i (List.mem_range.1 hi)).1
    · have hj' : j < len := by simpa using hj
      rw [(hf j hj').2]
      simp [List.getD_eq_getElem?_getD, hj']

def st0 : ST := ⟨0, 0, 0, 0, false⟩
/-- what keeps holding: all, the part since the last take, and a state that knows both -/
def SumOk (sum part : Nat) (s : SA) : Prop := s.ok ∧ s.d = sum ∧ s.acks = part ∧ (s.is = false → part = 0)
theorem sum_ack {sum part k n : Nat} {s : SA} (h : SumOk sum part s) (hk : k ≤ 60) (h1 : sum + n < 18446744073709551616) (h2 : part + n < 18446744073709551616) : SumOk (sum + n) (part + n) (ackF s k n st0) := by
  obtain ⟨h3, h4, h5, h6⟩ := h
  refine ⟨ackF_ok h3 (by omega) ⟨by simp [st0], by simp [st0], by simp [st0]⟩, ?_, ?_, ?_⟩
  · unfold ackF
    dsimp only
    rw [h4]
    unfold satAdd
    rw [if_pos h1]
    split <;> rfl
  · unfold ackF
    dsimp only
    rw [h5]
    unfold satAdd
    rw [if_pos h2]
    split <;> rfl
  · intro h
    unfold ackF at h
    dsimp only at h
    split at h <;> simp at h
theorem sum_take {sum part : Nat} {s : SA} (h : SumOk sum part s) (k l f : Nat) : SumOk sum 0 (takeF s) ∧ ∃ xp xi xr xm, takeV s k l f = ⟨k, sum, xp, xi, xr, part, l, f, xm⟩ := by
  obtain ⟨h3, h4, h5, h6⟩ := h
  refine ⟨⟨takeF_ok h3, h4, rfl, fun _ => rfl⟩, ?_⟩
  unfold takeV
  rw [h4, h5]
  cases hi : s.is
  · rw [h6 hi]
    exact ⟨_, _, _, _, rfl⟩
  · exact ⟨_, _, _, _, rfl⟩
def SumsRel (w0 : World) (b xb len : Nat) (v7 v8 v9 : Value) (wr : World) : Prop :=
  ∃ (k sum part : Nat) (s : SA), k ≤ len ∧ k ≤ 60 ∧ sum ≤ k * 1099511627776 ∧ part ≤ sum ∧ SumOk sum part s ∧ v7 = .int .u64 sum ∧ v8 = .int .u64 part ∧ v9 = .int .i64 k ∧ Own w0 wr b 78 (sam s) ∧ Own w0 wr xb 30 (cellsT st0)

set_option maxRecDepth 8000 in
set_option maxHeartbeats 4000000 in
theorem sums_core (a : Option Addr) (len cap : Nat) (xs : List Nat) (hx : xs.length = len) (m c : Nat) (n0 : Int) (em : IntKind.u64.wrap n0 = m) (en : m % 60 = c) (w : World) (hrow : NatRow w a xs) :
    Calls Try.prog 4 #[.slice a len cap, .int .i64 n0] w fun e w' => e = .returned (.bool true) ∧ Below w.heap.size w w' := by
  have hc : c < 60 := by omega
  have hlen : len ≤ 9223372036854775807 := by have := hrow.1; omega
  have HR := Lib.hid hrow
  have HX := Lib.hid hx
  have en2 : (m : Int) % 60 = c := by omega
  clear hrow hx en
  go_enter Try.func4, Try.ntmps4
  go_wp2_with fail
  refine (samnew_any _).mono ?_; rintro e w1 ⟨rfl, hw1⟩
  have O1 : Hid (Own w w1 w.heap.size 78 (sam sam0)) := by rw [hw1]; exact Lib.hid (Own.made (Below.refl _ _) _ _)
  clear hw1
  go_wp2_with fail
  refine (awake10 _).mono ?_; rintro e w2 ⟨rfl, b2⟩
  have O2 := Lib.hid (O1.out.below b2)
  clear b2
  go_wp2_with fail
  refine (sent_res w.heap.size sam0 sam0 0 0 st0 (V := .agg #[.int .u64 0, .int .u64 0, .int .u64 0, .int .u64 0, .bool false]) rfl rfl rfl rfl rfl _ O2.out.1).mono ?_; rintro e w3 ⟨rfl, p3⟩
  have O3 := Lib.hid ((O2.out.put p3).alloc (.cells #[.int .u64 0, .int .u64 0, .int .u64 0, .int .u64 0, .bool false] 30))
  have X3 : Hid (Own w (w3.alloc (.cells #[.int .u64 0, .int .u64 0, .int .u64 0, .int .u64 0, .bool false] 30)) w3.heap.size 30 (cellsT st0)) := Lib.hid (Own.made (O2.out.put p3).2.1 _ _)
  have hx3 : w.heap.size < w3.heap.size := p3.1.lt
  clear p3
  go_wp2_with fail
  clear em en2
  go_loopw [7, 8, 9] (fun v7 v8 v9 wr => SumsRel w w.heap.size w3.heap.size len v7 v8 v9 wr) (fun _ _ v9 _ => 60 - (intOf v9).toNat)
  case atStart => exact ⟨0, 0, 0, sam0, by omega, by omega, by omega, by omega, ⟨sam0_ok, rfl, rfl, fun _ => rfl⟩, rfl, rfl, rfl, O3.out, X3.out⟩
  case round =>
    obtain ⟨k, sum, part, s, hk1, hk2, hs1, hs2, hok, rfl, rfl, rfl, hO, hX⟩ := hrel
    have HO := Lib.hid hO
    have HXo := Lib.hid hX
    have HK := Lib.hid hok
    clear hO hX hok
    by_cases hlt : k < len ∧ k < 60
    · obtain ⟨lt1, lt2⟩ := hlt
      obtain ⟨b0, off, v, rfl, hb, hv, _, _, hcell⟩ := HR.out.at_ (k := k) (by have := HX.out; omega)
      have d0 := (HO.out.2.1.cell (p := ⟨b0, off + k, none⟩) hb).trans hcell
      have x0 : wr.cell? ⟨w3.heap.size, 0, none⟩ = some (.int .u64 0) := HXo.out.1.cell 0
      have x1 : wr.cell? ⟨w3.heap.size, 1, none⟩ = some (.int .u64 0) := HXo.out.1.cell 1
      have x2 : wr.cell? ⟨w3.heap.size, 2, none⟩ = some (.int .u64 0) := HXo.out.1.cell 2
      have x3 : wr.cell? ⟨w3.heap.size, 3, none⟩ = some (.int .u64 0) := HXo.out.1.cell 3
      have x4 : wr.cell? ⟨w3.heap.size, 4, none⟩ = some (.bool false) := HXo.out.1.cell 4
      obtain ⟨n, hn⟩ : ∃ n, v % 1099511627776 = n := ⟨_, rfl⟩
      have q1 : (v : Int) % 1099511627776 = n := by omega
      have q2 : IntKind.u64.wrap (k : Int) = k := by rw [IntKind.wrap_u64]; omega
      have hn2 : n < 1099511627776 := by omega
      have hs3 : sum + n ≤ (k + 1) * 1099511627776 := by omega
      have hs4 : sum ≤ 70000000000000 := by omega
      have HS3 := Lib.hid hs3
      have HN := Lib.hid hn2
      have K2 := Lib.hid (sum_ack (n := n) HK.out hk2 (by omega) (by omega))
      have e1 : ((sum : Int) + n) = ((sum + n : Nat) : Int) := by simp
      have e2 : ((part : Int) + n) = ((part + n : Nat) : Int) := by simp
      have r1 : IntKind.u64.wrap ((sum : Int) + n) = ((sum + n : Nat) : Int) := by rw [IntKind.wrap_u64]; omega
      have r2 : IntKind.u64.wrap ((part : Int) + n) = ((part + n : Nat) : Int) := by rw [IntKind.wrap_u64]; omega
      have LS : sum + n < 18446744073709551616 := by omega
      have LP : part + n ≤ sum + n := by omega
      have HLP := Lib.hid LP
      clear hs1 hs2 hs3 hs4 hn hcell
      obtain ⟨S, hS⟩ : ∃ S, sum + n = S := ⟨_, rfl⟩
      obtain ⟨Q, hQ⟩ : ∃ Q, part + n = Q := ⟨_, rfl⟩
      rw [hS] at r1 e1 K2 LS HLP HS3
      rw [hQ] at r2 e2 K2 HLP
      clear hS hQ LP
      go_wp2_with fail
      refine (acked_res w.heap.size s (ackF s k n st0) k n st0 (V := .agg #[.int .u64 0, .int .u64 0, .int .u64 0, .int .u64 0, .bool false]) rfl (by rfl) (by rfl) rfl HK.out.1 (by omega) (by omega) ⟨by simp [st0], by simp [st0], by simp [st0]⟩ _ HO.out.1).mono ?_; rintro e w4 ⟨rfl, p4⟩
      have O4 := Lib.hid (HO.out.put p4)
      have X4 := Lib.hid (HXo.out.other p4 (by omega) (by omega))
      generalize ackF s k n st0 = s2 at *
      clear p4 d0 x0 x1 x2 x3 x4
      go_wp2_with fail
      refine (deliv_res w.heap.size s2 S (D := (S : Int)) K2.out.2.1 rfl _ O4.out.1).mono ?_; rintro e w' ⟨rfl, rfl⟩
      have LQ : Q < 18446744073709551616 := by have := HLP.out; omega
      have s1 : IntKind.u64.wrap (S : Int) = S := by rw [IntKind.wrap_u64]; omega
      have s2' : IntKind.u64.wrap (Q : Int) = Q := by rw [IntKind.wrap_u64]; omega
      clear q1 e1 e2 r1 r2
      by_cases hkc : k = c
      · have y1 : ((k : Int) == c) = true := by rw [beq_iff_eq]; omega
        clear hkc
        obtain ⟨K3, xp, xi, xr, xm, hT⟩ := sum_take K2.out k 1 2
        have HT := Lib.hid hT
        have HK3 := Lib.hid K3
        clear hT K3
        go_wp2_with fail
        refine (take_res w.heap.size s2 (takeF s2) k 1 2 ⟨k, S, xp, xi, xr, Q, 1, 2, xm⟩ (V := .agg #[.int .u64 k, .int .u64 S, .int .u64 xp, .int .u64 xi, .int .u64 xr, .int .u64 Q, .int .u64 1, .int .u64 2, .bool xm]) rfl HT.out (by rfl) rfl rfl rfl K2.out.1 (by omega) _ O4.out.1).mono ?_; rintro e w5 ⟨rfl, p5⟩
        have O5 := Lib.hid ((O4.out.put p5).alloc (.cells #[.int .u64 k, .int .u64 S, .int .u64 xp, .int .u64 xi, .int .u64 xr, .int .u64 Q, .int .u64 1, .int .u64 2, .bool xm] 32))
        have X5 := Lib.hid ((X4.out.other p5 (by omega) (by omega)).alloc (.cells #[.int .u64 k, .int .u64 S, .int .u64 xp, .int .u64 xi, .int .u64 xr, .int .u64 Q, .int .u64 1, .int .u64 2, .bool xm] 32))
        clear p5
        go_wp2
        go_roundw
        case rel => exact ⟨k + 1, S, 0, takeF s2, by omega, by omega, HS3.out, by omega, HK3.out, by simp, by simp, by simp, O5.out, X5.out⟩
        case measure => simp [intOf]; omega
      · have y1 : ((k : Int) == c) = false := by rw [beq_eq_false_iff_ne]; omega
        clear hkc
        go_wp2
        go_roundw
        case rel => exact ⟨k + 1, S, Q, s2, by omega, by omega, HS3.out, HLP.out, K2.out, by simp, by simp, by simp, O4.out, X4.out⟩
        case measure => simp [intOf]; omega
    · have hx : decide (k < len) = false ∨ k < len ∧ 60 ≤ k := by simp; omega
      obtain ⟨K3, xp, xi, xr, xm, hT⟩ := sum_take HK.out 99 0 0
      have hT2 : takeV (takeF s) 100 0 0 = ⟨100, sum, 0, 0, 0, 0, 0, 0, false⟩ := by
        unfold takeV
        rw [show (takeF s).is = false from rfl, if_neg (by simp), K3.2.1]
      have HT := Lib.hid hT
      have HT2 := Lib.hid hT2
      have HK3 := Lib.hid K3
      clear hT hT2 K3 hlt
      rcases hx with hx | ⟨hx1, hx⟩
      all_goals
        go_wp2_with fail
        refine (take_res w.heap.size s (takeF s) 99 0 0 ⟨99, sum, xp, xi, xr, part, 0, 0, xm⟩ (V := .agg #[.int .u64 99, .int .u64 sum, .int .u64 xp, .int .u64 xi, .int .u64 xr, .int .u64 part, .int .u64 0, .int .u64 0, .bool xm]) rfl HT.out rfl rfl rfl rfl HK.out.1 (by omega) _ HO.out.1).mono ?_; rintro e w5 ⟨rfl, p5⟩
        have O5 := Lib.hid ((HO.out.put p5).alloc (.cells #[.int .u64 99, .int .u64 sum, .int .u64 xp, .int .u64 xi, .int .u64 xr, .int .u64 part, .int .u64 0, .int .u64 0, .bool xm] 32))
        have A5 := Lib.hid (At.made w5 32 #[.int .u64 99, .int .u64 sum, .int .u64 xp, .int .u64 xi, .int .u64 xr, .int .u64 part, .int .u64 0, .int .u64 0, .bool xm])
        have z5 : w.heap.size < w5.heap.size := p5.1.lt
        clear p5
        go_wp2_with fail
        refine (take_res w.heap.size (takeF s) (takeF (takeF s)) 100 0 0 ⟨100, sum, 0, 0, 0, 0, 0, 0, false⟩ (V := .agg #[.int .u64 100, .int .u64 sum, .int .u64 0, .int .u64 0, .int .u64 0, .int .u64 0, .int .u64 0, .int .u64 0, .bool false]) rfl HT2.out rfl rfl rfl rfl HK3.out.1 (by omega) _ O5.out.1).mono ?_; rintro e w6 ⟨rfl, p6⟩
        have A6 := p6.other A5.out (by omega)
        have t5 : w6.cell? ⟨w5.heap.size, 5, none⟩ = some (.int .u64 part) := A6.cell 5
        have O6 := Lib.hid ((O5.out.put p6).alloc (.cells #[.int .u64 100, .int .u64 sum, .int .u64 0, .int .u64 0, .int .u64 0, .int .u64 0, .int .u64 0, .int .u64 0, .bool false] 32))
        have z6 : w5.heap.size < w6.heap.size := A6.lt
        clear p6 A6
        go_wp2
        go_ret
        exact ⟨rfl, O6.out.2.1⟩

theorem sums_any (a : Option Addr) (len cap : Nat) (xs : List Nat) (hx : xs.length = len) (n0 : Int) (w : World) (hrow : NatRow w a xs) :
    Calls Try.prog 4 #[.slice a len cap, .int .i64 n0] w fun e w' => e = .returned (.bool true) ∧ Below w.heap.size w w' := by
  have em : IntKind.u64.wrap n0 = ((IntKind.u64.wrap n0).toNat : Nat) := by rw [IntKind.wrap_u64]; omega
  exact sums_core a len cap xs hx _ _ n0 em rfl w hrow
end Go.Proofs.Ytojgpgjmcamfoaa
