/- The walk of SamplerSteady. -/
import Derived.Test.YtojgpgjmcamfoaaLaw10p
namespace Go.Proofs.Ytojgpgjmcamfoaa
open Go.RowKit Go.Lib
set_option linter.unusedVariables false

theorem row_put {W W' : World} {b B n size : Nat} {t e : TypeId} {cs : Array Value} {v : Value} {xs : List Value} (hx : W.ownsRow B e size v n xs) (p : Put W W' b t cs) (hb : b < B) : W'.ownsRow B e size v n xs :=
  hx.kept p.2 (by
    cases hv : v.ownBlock with
    | none => exact .inl rfl
    | some k => exact .inr (by have := (hx.lt k hv).1; intro h; simp at h; omega))
theorem row_some {W : World} {B n size : Nat} {e : TypeId} {v : Value} {xs : List Value} (hx : W.ownsRow B e size v n xs) (hn : 0 < n) : ∃ gb cap, v = .slice (some ⟨gb, 0, none⟩) n cap := by
  rcases hx.2 with ⟨_, h⟩ | ⟨g, cap, cur, rfl, _⟩
  · omega
  · exact ⟨g, cap, rfl⟩

def flF (z t i : Nat) : Nat := if i < t then i * z else t * z
def SteRel (w0 : World) (b g z t M : Nat) (v10 v11 v12 : Value) (wr : World) : Prop :=
  ∃ (i : Nat) (s : SA), i ≤ M ∧ StOk g z t i s ∧ v11 = .int .u64 (flF z t i : Nat) ∧ v12 = .int .i64 i ∧ Own w0 wr b 78 (sam s) ∧ wr.ownsRow (b + 1) 30 5 v10 i (rowsT (sntL g z t i))

set_option maxRecDepth 8000 in
set_option maxHeartbeats 4000000 in
theorem ste_core (v0 v1 g z t nn m2 m3 r2 r3 M : Nat) (n2 n3 : Int) (hg : 1 + v0 % 1000000 = g) (hz : 1 + v1 % 100000 = z) (em2 : IntKind.u64.wrap n2 = m2) (em3 : IntKind.u64.wrap n3 = m3)
    (er2 : m2 % 10 = r2) (er3 : m3 % 30 = r3) (ht : 1 + r2 = t) (hnn : 1 + r3 = nn) (hM : nn + t = M) (w : World) :
    Calls Try.prog 3 #[.int .u64 v0, .int .u64 v1, .int .i64 n2, .int .i64 n3] w fun e w' => e = .returned (.bool true) ∧ Below w.heap.size w w' := by
  have g1 : 1 ≤ g := by omega
  have g2 : g ≤ 1000000 := by omega
  have z1 : 1 ≤ z := by omega
  have z2 : z ≤ 100000 := by omega
  have t1 : 1 ≤ t := by omega
  have t2 : t ≤ 10 := by omega
  have M2 : M ≤ 40 := by omega
  have a1 : 1 + (v0 : Int) % 1000000 = g := by omega
  have a2 : 1 + (v1 : Int) % 100000 = z := by omega
  have a3 : (m2 : Int) % 10 = r2 := by omega
  have a4 : (m3 : Int) % 30 = r3 := by omega
  have a5 : 1 + (r2 : Int) = t := by omega
  have a6 : 1 + (r3 : Int) = nn := by omega
  have a7 : (nn : Int) + t = M := by omega
  have a8 : IntKind.u64.wrap (t : Int) = t := by rw [IntKind.wrap_u64]; omega
  have l1 : r2 < 10 := by omega
  have l2 : r3 < 30 := by omega
  have l3 : nn ≤ 30 := by omega
  obtain ⟨i0, hi, hz0, hz1, hz2⟩ : ∃ i : TypeInfo, Try.prog.info? 30 = some i ∧ i.zero = some (.agg #[.int .u64 0, .int .u64 0, .int .u64 0, .int .u64 0, .bool false]) ∧ i.size = 5 ∧ i.bytes = 40 := ⟨_, rfl, rfl, rfl, rfl⟩
  have HI := Lib.hid (And.intro hi (And.intro hz0 (And.intro hz1 hz2)))
  clear hi hz0 hz1 hz2 hg hz er2 er3 ht hnn hM
  go_enter Try.func3, Try.ntmps3
  go_wp2_with fail
  refine (samnew_any _).mono ?_; rintro e w1 ⟨rfl, hw1⟩
  have O1 : Hid (Own w w1 w.heap.size 78 (sam sam0)) := by rw [hw1]; exact Lib.hid (Own.made (Below.refl _ _) _ _)
  clear hw1
  go_wp2_with fail
  refine (awake10 _).mono ?_; rintro e w2 ⟨rfl, b2⟩
  have O2 := Lib.hid (O1.out.below b2)
  clear b2
  go_wp2_with fail
  clear a1 a2 a3 a4 a5 a6 em2 em3
  go_loopw [10, 11, 12] (fun v10 v11 v12 wr => SteRel w w.heap.size g z t M v10 v11 v12 wr) (fun _ _ v12 _ => M - (intOf v12).toNat)
  case atStart => exact ⟨0, sam0, by omega, ⟨sam0_ok, by simp [sam0], rfl, rfl, rfl, fun _ => ⟨rfl, rfl⟩⟩, by unfold flF; rw [if_pos (by omega), Nat.zero_mul]; rfl, rfl, O2.out, World.ownsRow_nil _ _ _ _⟩
  case round =>
    obtain ⟨i, s, hi1, hok, rfl, rfl, hO, hown⟩ := hrel
    have HO := Lib.hid hO
    have HX := Lib.hid hown
    have HK := Lib.hid hok
    have hsz := hO.1.lt
    clear hO hown hok
    by_cases hlt : i < M
    · have y0 : decide (i < M) = true := by simpa using hlt
      have q0 : IntKind.u64.wrap (i : Int) = i := by rw [IntKind.wrap_u64]; omega
      obtain ⟨NOW, hNOW⟩ : ∃ N, i * g = N := ⟨_, rfl⟩
      have hN2 : NOW ≤ 60 * 1000000 := by rw [← hNOW]; exact mul_le2 (by omega) g2
      have q1 : (i : Int) * g = NOW := by rw [← hNOW]; simp
      have q2 : IntKind.u64.wrap (NOW : Int) = NOW := by rw [IntKind.wrap_u64]; omega
      by_cases hit : i < t
      · have y1 : decide (t ≤ i) = false := by simp; omega
        obtain ⟨F, hF⟩ : ∃ F, i * z = F := ⟨_, rfl⟩
        have hF2 : F ≤ 60 * 100000 := by rw [← hF]; exact mul_le2 (by omega) z2
        have hfl : flF z t i = F := by unfold flF; rw [if_pos hit, hF]
        have hfl2 : flF z t (i + 1) = F + z := by
          unfold flF
          by_cases c : i + 1 < t
          · rw [if_pos c, Nat.succ_mul, hF]
          · rw [if_neg c, show t = i + 1 from by omega, Nat.succ_mul, hF]
        obtain ⟨s1, s2, s3⟩ := steadyA (g := g) z1 (by omega) HK.out hit
        have hsn : snt g z t i = ⟨NOW, 0, 0, 0, false⟩ := by unfold snt; rw [if_pos hit, hNOW]
        rw [hNOW, hF] at s1
        rw [hNOW, hsn] at s2
        have S1 := Lib.hid s1
        have S2 := Lib.hid s2
        have S3 := Lib.hid s3
        have HS := Lib.hid hsn
        have HFL := Lib.hid hfl2
        rw [hfl]
        have q3 : IntKind.u64.wrap ((F : Int) + z) = (F : Int) + z := by rw [IntKind.wrap_u64]; omega
        have hM3 := hlt
        clear s1 s2 s3 hsn hNOW hF hfl hfl2 hit hlt
        go_wp2_with fail
        refine (sent_res w.heap.size s s NOW F ⟨NOW, 0, 0, 0, false⟩ (V := .agg #[.int .u64 NOW, .int .u64 0, .int .u64 0, .int .u64 0, .bool false]) S1.out S2.out (by first | rfl | simp) (by first | rfl | simp) rfl _ HO.out.1).mono ?_; rintro e w4 ⟨rfl, p4⟩
        have O4 := Lib.hid (HO.out.put p4)
        have X4 := Lib.hid (row_put HX.out p4 (by omega))
        have hsz4 := p4.1.lt
        clear p4
        go_wp2_with (at_builtin; refine wpList_append_lies _ rfl _ _ 27 rfl (w.heap.size + 1) 30 i0 (.agg #[.int .u64 0, .int .u64 0, .int .u64 0, .int .u64 0, .bool false]) 5 40 Try.underlying27 HI.out.1 HI.out.2.1 HI.out.2.2.1 HI.out.2.2.2 rfl (by decide) _ i (rowsT (sntL g z t i)) rfl (X4.out.alloc _) ⟨w4.heap.size, 0, none⟩ 1 1 [.int .u64 NOW, .int .u64 0, .int .u64 0, .int .u64 0, .bool false] rfl rfl ?c1 ?c2 (by decide) ?c3 ?c4 ?c5 _ rfl ?_)
        case c1 =>
          intro j u hj
          match j, hj with
          | 0, hj => simp at hj; subst hj; simp [Addr.add]
          | 1, hj => simp at hj; subst hj; simp [Addr.add]
          | 2, hj => simp at hj; subst hj; simp [Addr.add]
          | 3, hj => simp at hj; subst hj; simp [Addr.add]
          | 4, hj => simp at hj; subst hj; simp [Addr.add]
        case c2 =>
          intro u hu
          simp only [List.mem_cons, List.not_mem_nil, or_false] at hu
          rcases hu with rfl | rfl | rfl | rfl | rfl <;> rfl
        case c3 => unfold maxLen; omega
        case c4 => omega
        case c5 => simp; omega
        intro gb cp w5 hown5 hgrow5 hat5 hlt5
        have O5 := Lib.hid (own_grow (O4.out.alloc _) (X4.out.alloc _) (by omega) hgrow5)
        have X5 : Hid (w5.ownsRow (w.heap.size + 1) 30 5 (.slice (some ⟨gb, 0, none⟩) (i + 1) cp) (i + 1) (rowsT (sntL g z t (i + 1)))) := by
          rw [sntL_snoc, rowsT_snoc, HS.out]
          exact Lib.hid hown5
        clear hown5 hgrow5 hat5 hlt5 q0 q1 q2
        go_wp2
        go_roundw
        case rel => exact ⟨i + 1, s, by omega, S3.out, by rw [HFL.out]; simp, by simp, O5.out, X5.out⟩
        case measure => simp [intOf]; omega
      · have y1 : decide (t ≤ i) = true := by simp; omega
        obtain ⟨J, hJ⟩ : ∃ J, i - t = J := ⟨_, rfl⟩
        obtain ⟨s1, s3, xd, xda, xfa, I, k1, k2, k3, k4, k5, k6, k7, k8, k9, k10, k11, k12⟩ := steadyB g2 z1 z2 t1 (by omega) HK.out g1 t2 (by omega)
        obtain ⟨AT, hAT⟩ : ∃ A, J * g = A := ⟨_, rfl⟩
        obtain ⟨D1, hD1⟩ : ∃ A, (J + 1) * z = A := ⟨_, rfl⟩
        obtain ⟨R, hR⟩ : ∃ A, t * g = A := ⟨_, rfl⟩
        obtain ⟨F', hF'⟩ : ∃ A, (t - 1) * z = A := ⟨_, rfl⟩
        obtain ⟨F, hF⟩ : ∃ A, t * z = A := ⟨_, rfl⟩
        obtain ⟨E, hE⟩ : ∃ A, D1 - xd = A := ⟨_, rfl⟩
        obtain ⟨P, hP⟩ : ∃ A, z * I = A := ⟨_, rfl⟩
        have hAT2 : AT ≤ 60 * 1000000 := by rw [← hAT]; exact mul_le2 (by omega) g2
        have hR2 : R ≤ 10 * 1000000 := by rw [← hR]; exact mul_le2 t2 g2
        have hD2 : D1 ≤ 61 * 100000 := by rw [← hD1]; exact mul_le2 (by omega) z2
        have hF2 : F ≤ 10 * 100000 := by rw [← hF]; exact mul_le2 t2 z2
        have hP2 : P ≤ 100000 * 60000000 := by rw [← hP]; exact mul_le2 z2 k6
        have hFF : F' + z = F := by rw [← hF', ← hF, ← Nat.succ_mul]; congr 1; omega
        rw [hJ, hAT] at k1
        rw [hJ, hNOW] at k2
        rw [hNOW, hJ, hD1, hR, hF'] at k4
        rw [hJ, hD1] at k7
        rw [hJ, hD1, hE, hP] at k8
        rw [hNOW, hF'] at k10
        rw [hNOW] at k11
        rw [k1] at k2
        obtain ⟨gb, cap, rfl⟩ := row_some HX.out (by omega)
        have hrow : ∀ q, q < 5 → wr.cell? ⟨gb, J * 5 + q, none⟩ = [Value.int .u64 AT, .int .u64 xd, .int .u64 xda, .int .u64 xfa, .bool false][q]? := by
          intro q hq
          rw [HX.out.cellAt (J * 5 + q) (by omega), rowsT_at (sntL_at g z t i J (by omega)) q hq, k1]
        have d0 : wr.cell? ⟨gb, J * 5, none⟩ = some (.int .u64 AT) := hrow 0 (by omega)
        have d1 : wr.cell? ⟨gb, J * 5 + 1, none⟩ = some (.int .u64 xd) := hrow 1 (by omega)
        have d2 : wr.cell? ⟨gb, J * 5 + 2, none⟩ = some (.int .u64 xda) := hrow 2 (by omega)
        have d3 : wr.cell? ⟨gb, J * 5 + 3, none⟩ = some (.int .u64 xfa) := hrow 3 (by omega)
        have d4 : wr.cell? ⟨gb, J * 5 + 4, none⟩ = some (.bool false) := hrow 4 (by omega)
        have hx0 := snt_ok (t := t) (i := J) (z := z) g2 (by omega)
        rw [k1] at hx0
        have hfl : flF z t i = F := by unfold flF; rw [if_neg hit, hF]
        have hfl2 : flF z t (i + 1) = F := by unfold flF; rw [if_neg (by omega), hF]
        have hsn : ∃ ya yb yc, snt g z t i = ⟨NOW, ya, yb, yc, false⟩ := by
          unfold snt; rw [if_neg hit, hNOW]; exact ⟨_, _, _, rfl⟩
        obtain ⟨ya, yb, yc, hsn⟩ := hsn
        rw [hsn] at k11
        have p1 : (i : Int) - t = J := by omega
        have p2 : IntKind.i64.wrap ((i : Int) - t) = J := by rw [IntKind.wrap_i64]; omega
        have p3 : (J : Int) < i := by omega
        have p4 : (F : Int) - z = F' := by omega
        have p5 : IntKind.u64.wrap ((F : Int) - z) = F' := by rw [IntKind.wrap_u64]; omega
        have p6 : (g : Int) * t = R := by rw [← hR, Nat.mul_comm]; simp
        have p7 : IntKind.u64.wrap (R : Int) = R := by rw [IntKind.wrap_u64]; omega
        have p8 : ((I : Int) == 0) = false := by rw [beq_eq_false_iff_ne]; omega
        have p9 : decide (D1 < xd) = false := by simp; omega
        have p10 : (D1 : Int) - xd = E := by omega
        have p11 : IntKind.u64.wrap (E : Int) = E := by rw [IntKind.wrap_u64]; omega
        have p12 : (z : Int) * I = P := by rw [← hP]; simp
        have p13 : IntKind.u64.wrap (P : Int) = P := by rw [IntKind.wrap_u64]; omega
        have p14 : IntKind.u64.wrap ((F' : Int) + z) = F := by rw [IntKind.wrap_u64]; omega
        have p15 : (F' : Int) + z = F := by omega
        have p16 : J < i := by omega
        have hxo := Lib.hid hx0
        have K2 := Lib.hid k2
        have K3 := Lib.hid k3
        have K4 := Lib.hid k4
        have K8 := Lib.hid k8
        have K9 := Lib.hid k9
        have K10 := Lib.hid k10
        have K11 := Lib.hid k11
        have K12 := Lib.hid k12
        have HS := Lib.hid hsn
        have HFL := Lib.hid hfl2
        have hz64 : z < 18446744073709551616 := by omega
        have hN64 : NOW < 18446744073709551616 := by omega
        rw [hfl]
        have hM3 := hlt
        clear hx0 k1 k2 k3 k4 k8 k9 k10 k11 k12 hsn hfl hfl2 hrow hJ hAT hD1 hR hF' hF hE hP hNOW hFF hit hlt
        have c2t : (2 * t ≤ i) ∨ i < 2 * t := by omega
        rcases c2t with c2t | c2t
        · obtain ⟨T2, hT2⟩ : ∃ T2, 2 * t = T2 := ⟨_, rfl⟩
          have m1 : (2 : Int) * t = (T2 : Int) := by omega
          have m4 : IntKind.i64.wrap (T2 : Int) = T2 := by rw [IntKind.wrap_i64]; omega
          have m2' : decide (T2 ≤ i) = true := by simp; omega
          have e1 := K8.out c2t
          have p17 : (E : Int) * g = P := by rw [← e1]; simp
          clear e1
          clear c2t hT2
          go_wp2_with fail
          refine (acked_res w.heap.size s s1 NOW z ⟨AT, xd, xda, xfa, false⟩ (V := .agg #[.int .u64 AT, .int .u64 xd, .int .u64 xda, .int .u64 xfa, .bool false]) K2.out (by first | rfl | simp) (by first | rfl | simp) rfl HK.out.1 hN64 hz64 hxo.out _ HO.out.1).mono ?_; rintro e w4 ⟨rfl, p4'⟩
          have O4 := Lib.hid (HO.out.put p4')
          have X4 := Lib.hid (row_put HX.out p4' (by omega))
          have hsz4 := p4'.1.lt
          clear p4' d0 d1 d2 d3 d4
          go_wp2_with fail
          refine (take_res w.heap.size s1 (takeF s1) NOW 0 F' ⟨NOW, D1, xd, I, R, z, 0, F', false⟩ (V := .agg #[.int .u64 NOW, .int .u64 D1, .int .u64 xd, .int .u64 I, .int .u64 R, .int .u64 z, .int .u64 0, .int .u64 F', .bool false]) rfl K4.out (by first | rfl | simp) (by first | rfl | simp) (by first | rfl | simp) rfl K3.out hN64 _ O4.out.1).mono ?_; rintro e w5 ⟨rfl, p5'⟩
          have O5 := Lib.hid ((O4.out.put p5').alloc (.cells #[.int .u64 NOW, .int .u64 D1, .int .u64 xd, .int .u64 I, .int .u64 R, .int .u64 z, .int .u64 0, .int .u64 F', .bool false] 32))
          have X5 := Lib.hid ((row_put X4.out p5' (by omega)).alloc (.cells #[.int .u64 NOW, .int .u64 D1, .int .u64 xd, .int .u64 I, .int .u64 R, .int .u64 z, .int .u64 0, .int .u64 F', .bool false] 32))
          have hsz5 := p5'.1.lt
          clear p5'
          go_wp2_with fail
          refine (sent_res w.heap.size (takeF s1) s3 NOW F' ⟨NOW, ya, yb, yc, false⟩ (V := .agg #[.int .u64 NOW, .int .u64 ya, .int .u64 yb, .int .u64 yc, .bool false]) K10.out K11.out (by first | rfl | simp) (by first | rfl | simp) rfl _ O5.out.1).mono ?_; rintro e w6 ⟨rfl, p6'⟩
          have O6 := Lib.hid (O5.out.put p6')
          have X6 := Lib.hid (row_put X5.out p6' (by omega))
          have hsz6 := p6'.1.lt
          clear p6'
          go_wp2_with (at_builtin; refine wpList_append_lies _ rfl _ _ 27 rfl (w.heap.size + 1) 30 i0 (.agg #[.int .u64 0, .int .u64 0, .int .u64 0, .int .u64 0, .bool false]) 5 40 Try.underlying27 HI.out.1 HI.out.2.1 HI.out.2.2.1 HI.out.2.2.2 rfl (by decide) _ i (rowsT (sntL g z t i)) rfl (X6.out.alloc _) ⟨w6.heap.size, 0, none⟩ 1 1 [.int .u64 NOW, .int .u64 ya, .int .u64 yb, .int .u64 yc, .bool false] rfl rfl ?d1 ?d2 (by decide) ?d3 ?d4 ?d5 _ rfl ?_)
          case d1 =>
            intro j u hj
            match j, hj with
            | 0, hj => simp at hj; subst hj; simp [Addr.add]
            | 1, hj => simp at hj; subst hj; simp [Addr.add]
            | 2, hj => simp at hj; subst hj; simp [Addr.add]
            | 3, hj => simp at hj; subst hj; simp [Addr.add]
            | 4, hj => simp at hj; subst hj; simp [Addr.add]
          case d2 =>
            intro u hu
            simp only [List.mem_cons, List.not_mem_nil, or_false] at hu
            rcases hu with rfl | rfl | rfl | rfl | rfl <;> rfl
          case d3 => unfold maxLen; omega
          case d4 => omega
          case d5 => simp; omega
          intro gb' cp w7 hown7 hgrow7 hat7 hlt7
          have O7 := Lib.hid (own_grow (O6.out.alloc _) (X6.out.alloc _) (by omega) hgrow7)
          have X7 : Hid (w7.ownsRow (w.heap.size + 1) 30 5 (.slice (some ⟨gb', 0, none⟩) (i + 1) cp) (i + 1) (rowsT (sntL g z t (i + 1)))) := by
            rw [sntL_snoc, rowsT_snoc, HS.out]
            exact Lib.hid hown7
          clear hown7 hgrow7 hat7 hlt7 q0 q1 q2
          go_wp2
          go_roundw
          case rel => exact ⟨i + 1, s3, by omega, K12.out, by rw [HFL.out], by simp, O7.out, X7.out⟩
          case measure => simp [intOf]; omega
        · obtain ⟨T2, hT2⟩ : ∃ T2, 2 * t = T2 := ⟨_, rfl⟩
          have m1 : (2 : Int) * t = (T2 : Int) := by omega
          have m4 : IntKind.i64.wrap (T2 : Int) = T2 := by rw [IntKind.wrap_i64]; omega
          have m2' : decide (T2 ≤ i) = false := by simp; omega

          clear c2t hT2
          go_wp2_with fail
          refine (acked_res w.heap.size s s1 NOW z ⟨AT, xd, xda, xfa, false⟩ (V := .agg #[.int .u64 AT, .int .u64 xd, .int .u64 xda, .int .u64 xfa, .bool false]) K2.out (by first | rfl | simp) (by first | rfl | simp) rfl HK.out.1 hN64 hz64 hxo.out _ HO.out.1).mono ?_; rintro e w4 ⟨rfl, p4'⟩
          have O4 := Lib.hid (HO.out.put p4')
          have X4 := Lib.hid (row_put HX.out p4' (by omega))
          have hsz4 := p4'.1.lt
          clear p4' d0 d1 d2 d3 d4
          go_wp2_with fail
          refine (take_res w.heap.size s1 (takeF s1) NOW 0 F' ⟨NOW, D1, xd, I, R, z, 0, F', false⟩ (V := .agg #[.int .u64 NOW, .int .u64 D1, .int .u64 xd, .int .u64 I, .int .u64 R, .int .u64 z, .int .u64 0, .int .u64 F', .bool false]) rfl K4.out (by first | rfl | simp) (by first | rfl | simp) (by first | rfl | simp) rfl K3.out hN64 _ O4.out.1).mono ?_; rintro e w5 ⟨rfl, p5'⟩
          have O5 := Lib.hid ((O4.out.put p5').alloc (.cells #[.int .u64 NOW, .int .u64 D1, .int .u64 xd, .int .u64 I, .int .u64 R, .int .u64 z, .int .u64 0, .int .u64 F', .bool false] 32))
          have X5 := Lib.hid ((row_put X4.out p5' (by omega)).alloc (.cells #[.int .u64 NOW, .int .u64 D1, .int .u64 xd, .int .u64 I, .int .u64 R, .int .u64 z, .int .u64 0, .int .u64 F', .bool false] 32))
          have hsz5 := p5'.1.lt
          clear p5'
          go_wp2_with fail
          refine (sent_res w.heap.size (takeF s1) s3 NOW F' ⟨NOW, ya, yb, yc, false⟩ (V := .agg #[.int .u64 NOW, .int .u64 ya, .int .u64 yb, .int .u64 yc, .bool false]) K10.out K11.out (by first | rfl | simp) (by first | rfl | simp) rfl _ O5.out.1).mono ?_; rintro e w6 ⟨rfl, p6'⟩
          have O6 := Lib.hid (O5.out.put p6')
          have X6 := Lib.hid (row_put X5.out p6' (by omega))
          have hsz6 := p6'.1.lt
          clear p6'
          go_wp2_with (at_builtin; refine wpList_append_lies _ rfl _ _ 27 rfl (w.heap.size + 1) 30 i0 (.agg #[.int .u64 0, .int .u64 0, .int .u64 0, .int .u64 0, .bool false]) 5 40 Try.underlying27 HI.out.1 HI.out.2.1 HI.out.2.2.1 HI.out.2.2.2 rfl (by decide) _ i (rowsT (sntL g z t i)) rfl (X6.out.alloc _) ⟨w6.heap.size, 0, none⟩ 1 1 [.int .u64 NOW, .int .u64 ya, .int .u64 yb, .int .u64 yc, .bool false] rfl rfl ?e1 ?e2 (by decide) ?e3 ?e4 ?e5 _ rfl ?_)
          case e1 =>
            intro j u hj
            match j, hj with
            | 0, hj => simp at hj; subst hj; simp [Addr.add]
            | 1, hj => simp at hj; subst hj; simp [Addr.add]
            | 2, hj => simp at hj; subst hj; simp [Addr.add]
            | 3, hj => simp at hj; subst hj; simp [Addr.add]
            | 4, hj => simp at hj; subst hj; simp [Addr.add]
          case e2 =>
            intro u hu
            simp only [List.mem_cons, List.not_mem_nil, or_false] at hu
            rcases hu with rfl | rfl | rfl | rfl | rfl <;> rfl
          case e3 => unfold maxLen; omega
          case e4 => omega
          case e5 => simp; omega
          intro gb' cp w7 hown7 hgrow7 hat7 hlt7
          have O7 := Lib.hid (own_grow (O6.out.alloc _) (X6.out.alloc _) (by omega) hgrow7)
          have X7 : Hid (w7.ownsRow (w.heap.size + 1) 30 5 (.slice (some ⟨gb', 0, none⟩) (i + 1) cp) (i + 1) (rowsT (sntL g z t (i + 1)))) := by
            rw [sntL_snoc, rowsT_snoc, HS.out]
            exact Lib.hid hown7
          clear hown7 hgrow7 hat7 hlt7 q0 q1 q2
          go_wp2
          go_roundw
          case rel => exact ⟨i + 1, s3, by omega, K12.out, by rw [HFL.out], by simp, O7.out, X7.out⟩
          case measure => simp [intOf]; omega
    · have y0 : decide (i < M) = false := by simpa using hlt
      clear hlt
      go_wp2
      go_ret
      exact ⟨rfl, HO.out.2.1⟩

theorem steady10_any (v0 v1 : Nat) (n2 n3 : Int) (w : World) :
    Calls Try.prog 3 #[.int .u64 v0, .int .u64 v1, .int .i64 n2, .int .i64 n3] w fun e w' => e = .returned (.bool true) ∧ Below w.heap.size w w' := by
  have em2 : IntKind.u64.wrap n2 = ((IntKind.u64.wrap n2).toNat : Nat) := by rw [IntKind.wrap_u64]; omega
  have em3 : IntKind.u64.wrap n3 = ((IntKind.u64.wrap n3).toNat : Nat) := by rw [IntKind.wrap_u64]; omega
  exact ste_core v0 v1 _ _ _ _ _ _ _ _ _ n2 n3 rfl rfl em2 em3 rfl rfl rfl rfl rfl w
end Go.Proofs.Ytojgpgjmcamfoaa
