/- The walk of ProbeLeast. -/
import Derived.Test.YtgdbmjokpbjoaaaLaw15b
namespace Go.Proofs.Ytgdbmjokpbjoaaa
open Go.RowKit Go.Lib
set_option linter.unusedVariables false

/-- what is known after k rounds: the least L, its stamp S, the time N -/
def LeastOk (k L S N : Nat) : Prop := N ≤ k * 1000000000 ∧ (L = 0 ∨ S ≤ N ∧ N ≤ S + (k % 5) * 1000000000)
def LeastRel (w0 : World) (b len len2 : Nat) (v6 v7 v8 : Value) (wr : World) : Prop :=
  ∃ k L S N : Nat, k ≤ len ∧ k ≤ len2 ∧ k ≤ 60 ∧ L < 18446744073709551616 ∧ S < 18446744073709551616 ∧ LeastOk k L S N ∧ v6 = .int .u64 N ∧ v7 = .int .u64 L ∧ v8 = .int .i64 k ∧ Own w0 wr b 69 (prb ⟨L, S, false, 0, false⟩)

theorem not_exp {k L S N g : Nat} (hk : k ≤ 60) (hS : S < 18446744073709551616) (hg : g < 1000000000) (h : LeastOk k L S N) : expF ⟨L, S, false, 0, false⟩ (N + g) = false := by
  rcases h with ⟨h0, rfl | ⟨h1, h2⟩⟩
  · simp [expF]
  · have : ¬ satAdd S 10000000000 < N + g := by rw [sat_small _ _ (by omega)]; omega
    simp [expF, this]
/-- told: nothing new -/
theorem least_stay {k L S N g R : Nat} (hk : k ≤ 60) (hS : S < 18446744073709551616) (hg : g < 1000000000) (h : LeastOk k L S N) (hR : R = 0 ∨ 0 < L ∧ L < R) (h5 : L = 0 ∨ k % 5 ≠ 4) :
    updF ⟨L, S, false, 0, false⟩ (N + g) R true 0 0 = (false, false, ⟨L, S, false, 0, false⟩) ∧ LeastOk (k + 1) L S (N + g) := by
  have e := not_exp hk hS hg h
  have s : setF ⟨L, S, false, 0, false⟩ (N + g) R = false := by
    unfold setF
    rw [e]
    rcases hR with rfl | ⟨h1, h2⟩
    · simp
    · simp; omega
  refine ⟨by simp [updF, s1F, e, s], by have := h.1; omega, ?_⟩
  obtain ⟨h0, h1⟩ := h
  rcases h5 with rfl | h5
  · exact .inl rfl
  · rcases h1 with h1 | ⟨h1, h2⟩
    · exact .inl h1
    · exact .inr ⟨by omega, by omega⟩
/-- told: it is set -/
theorem least_set {k L S N g R : Nat} (hk : k ≤ 60) (hS : S < 18446744073709551616) (hg : g < 1000000000) (h : LeastOk k L S N) (hR : 0 < R) (hR2 : L = 0 ∨ R ≤ L) :
    updF ⟨L, S, false, 0, false⟩ (N + g) R true 0 0 = (false, false, ⟨R, N + g, false, 0, false⟩) ∧ LeastOk (k + 1) R (N + g) (N + g) := by
  have e := not_exp hk hS hg h
  have s : setF ⟨L, S, false, 0, false⟩ (N + g) R = true := by
    unfold setF
    rw [e]
    rcases hR2 with rfl | h2
    · simp [hR]
    · simp [hR, h2]
  refine ⟨by simp [updF, s1F, e, s], by have := h.1; omega, .inr ⟨by omega, by omega⟩⟩

theorem best5 (b B S t : Nat) (i r : Bool) (w : World) (h : At w b 69 (prb ⟨B, S, i, t, r⟩)) :
    Calls Try.prog 31 #[.pointer (some ⟨b, 0, none⟩)] w fun e w' => e = .returned (.int .u64 B) ∧ w = w' := best_any b ⟨B, S, i, t, r⟩ w h
theorem in5 (b B S t : Nat) (i r : Bool) (w : World) (h : At w b 69 (prb ⟨B, S, i, t, r⟩)) :
    Calls Try.prog 32 #[.pointer (some ⟨b, 0, none⟩)] w fun e w' => e = .returned (.bool i) ∧ w = w' := in_any b ⟨B, S, i, t, r⟩ w h

set_option maxRecDepth 8000 in
set_option maxHeartbeats 4000000 in
theorem least_any (a c : Option Addr) (len cap len2 cap2 : Nat) (zs gs : List Int) (w : World) (hrow : IntRow .u64 w a len zs) (grow : IntRow .u64 w c len2 gs) :
    Calls Try.prog 10 #[.slice a len cap, .slice c len2 cap2] w fun e w' => e = .returned (.bool true) ∧ Below w.heap.size w w' := by
  have hlen := hrow.1
  have hlen2 := grow.1
  have HR := Lib.hid hrow
  have HG := Lib.hid grow
  clear hrow grow
  go_enter Try.func10, Try.ntmps10
  go_wp2_with fail
  refine (pnew_any _).mono ?_; rintro e w1 ⟨rfl, hw1⟩
  have O1 : Hid (Own w w1 w.heap.size 69 (prb ⟨0, 0, false, 0, false⟩)) := by rw [hw1]; exact Own.made (Below.refl _ _) _ _
  clear hw1
  go_wp2_with fail
  refine (awake15 _).mono ?_; rintro e w2 ⟨rfl, b2⟩
  have O2 := Lib.hid (O1.out.below b2)
  clear b2
  go_wp2_with fail
  go_loopw [6, 7, 8] (fun v6 v7 v8 wr => LeastRel w w.heap.size len len2 v6 v7 v8 wr) (fun _ _ v8 _ => 60 - (intOf v8).toNat)
  case atStart => exact ⟨0, 0, 0, 0, by omega, by omega, by omega, by omega, by omega, ⟨by omega, .inl rfl⟩, rfl, rfl, rfl, O2.out⟩
  case round =>
    obtain ⟨k, L, S, N, hk1, hk2, hk3, lL, lS, hok, rfl, rfl, rfl, hO⟩ := hrel
    have HO := Lib.hid hO
    have hN := hok.1
    have HK := Lib.hid hok
    clear hO hok
    by_cases hlt : k < len ∧ k < len2 ∧ k < 60
    · obtain ⟨lt1, lt2, lt3⟩ := hlt
      obtain ⟨b, off, r, rfl, hb, lr, hz1, hc⟩ := HR.out.nat_at lt1
      obtain ⟨b', off', g0, rfl, hb', lg, hz2, hc'⟩ := HG.out.nat_at lt2
      have hck := (HO.out.2.1.cell (p := ⟨b, off + k, none⟩) hb).trans hc
      have hck' := (HO.out.2.1.cell (p := ⟨b', off' + k, none⟩) hb').trans hc'
      obtain ⟨g, hg⟩ : ∃ g, g0 % 1000000000 = g := ⟨_, rfl⟩
      have hg' : (g0 : Int) % 1000000000 = g := by omega
      have lg' : g < 1000000000 := by omega
      have wN : IntKind.u64.wrap ((N : Int) + g) = (N : Int) + g := by rw [IntKind.wrap_u64]; omega
      clear hc hc' hg
      have LS := Lib.hid lS
      have LL := Lib.hid lL
      have LR := Lib.hid lr
      have LNN := Lib.hid hN
      have LG := Lib.hid lg'
      clear lS lL lr hN lg lg' hz1 hz2
      have y5 : (((k : Int) % 5 == 4) = true ∧ ((k : Int).tmod 5 == 4) = true ∧ k % 5 = 4) ∨ (((k : Int) % 5 == 4) = false ∧ ((k : Int).tmod 5 == 4) = false ∧ k % 5 ≠ 4) := by
        rw [Int.tmod_eq_emod_of_nonneg (by omega)]
        by_cases h : k % 5 = 4
        · exact .inl ⟨by rw [beq_iff_eq]; omega, by rw [beq_iff_eq]; omega, h⟩
        · exact .inr ⟨by rw [beq_eq_false_iff_ne]; omega, by rw [beq_eq_false_iff_ne]; omega, h⟩
      have yr : r = 0 ∨ 0 < r := by omega
      have yL : L = 0 ∨ 0 < L := by omega
      rcases yr with rfl | yr
      · rcases yL with rfl | yL
        · have HU := Lib.hid (least_stay (R := 0) hk3 LS.out LG.out HK.out (.inl rfl) (.inl rfl))
          rcases y5 with ⟨y5, y5', z5⟩ | ⟨y5, y5', z5⟩
          all_goals
            go_wp2_with fail
            refine (upd_res w.heap.size ⟨0, S, false, 0, false⟩ (N + g) (0) true 0 0 HU.out.1 LS.out (by have := LNN.out; have := LG.out; omega) (by simp) (by first | rfl | simp) (by first | rfl | simp) (by first | rfl | simp) _ HO.out.1).mono ?_; rintro e w3 ⟨rfl, p3⟩
            have O3 := Lib.hid (HO.out.put p3)
            clear p3 hg' wN hck hck' y5 y5'
            go_wp2_with fail
            refine (in5 w.heap.size _ _ _ _ _ _ O3.out.1).mono ?_; rintro e w' ⟨rfl, rfl⟩
            go_wp2_with fail
            refine (best5 w.heap.size _ _ _ _ _ _ O3.out.1).mono ?_; rintro e w' ⟨rfl, rfl⟩
            go_wp2
            go_roundw
            case rel => exact ⟨k + 1, 0, S, N + g, by omega, by omega, by omega, by first | exact LL.out | exact LR.out, by first | exact LS.out | (have := LNN.out; have := LG.out; omega), HU.out.2, by simp, by simp, by simp, O3.out⟩
            case measure => simp [intOf]; omega
        · have y0 : ((L : Int) == 0) = false := by rw [beq_eq_false_iff_ne]; omega
          rcases y5 with ⟨y5, y5', z5⟩ | ⟨y5, y5', z5⟩
          · have HU := Lib.hid (least_set (R := L) hk3 LS.out LG.out HK.out yL (.inr (Nat.le_refl _)))
            go_wp2_with fail
            refine (upd_res w.heap.size ⟨L, S, false, 0, false⟩ (N + g) (L) true 0 0 HU.out.1 LS.out (by have := LNN.out; have := LG.out; omega) (by simp) (by first | rfl | simp) (by first | rfl | simp) (by first | rfl | simp) _ HO.out.1).mono ?_; rintro e w3 ⟨rfl, p3⟩
            have O3 := Lib.hid (HO.out.put p3)
            clear p3 hg' wN hck hck' y5 y5'
            go_wp2_with fail
            refine (in5 w.heap.size _ _ _ _ _ _ O3.out.1).mono ?_; rintro e w' ⟨rfl, rfl⟩
            go_wp2_with fail
            refine (best5 w.heap.size _ _ _ _ _ _ O3.out.1).mono ?_; rintro e w' ⟨rfl, rfl⟩
            go_wp2
            go_roundw
            case rel => exact ⟨k + 1, L, N + g, N + g, by omega, by omega, by omega, by first | exact LL.out | exact LR.out, by first | exact LS.out | (have := LNN.out; have := LG.out; omega), HU.out.2, by simp, by simp, by simp, O3.out⟩
            case measure => simp [intOf]; omega
          · have HU := Lib.hid (least_stay (R := 0) hk3 LS.out LG.out HK.out (.inl rfl) (.inr z5))
            go_wp2_with fail
            refine (upd_res w.heap.size ⟨L, S, false, 0, false⟩ (N + g) (0) true 0 0 HU.out.1 LS.out (by have := LNN.out; have := LG.out; omega) (by simp) (by first | rfl | simp) (by first | rfl | simp) (by first | rfl | simp) _ HO.out.1).mono ?_; rintro e w3 ⟨rfl, p3⟩
            have O3 := Lib.hid (HO.out.put p3)
            clear p3 hg' wN hck hck' y5 y5'
            go_wp2_with fail
            refine (in5 w.heap.size _ _ _ _ _ _ O3.out.1).mono ?_; rintro e w' ⟨rfl, rfl⟩
            go_wp2_with fail
            refine (best5 w.heap.size _ _ _ _ _ _ O3.out.1).mono ?_; rintro e w' ⟨rfl, rfl⟩
            go_wp2
            go_roundw
            case rel => exact ⟨k + 1, L, S, N + g, by omega, by omega, by omega, by first | exact LL.out | exact LR.out, by first | exact LS.out | (have := LNN.out; have := LG.out; omega), HU.out.2, by simp, by simp, by simp, O3.out⟩
            case measure => simp [intOf]; omega
      · rcases yL with rfl | yL
        · have HU := Lib.hid (least_set (R := r) hk3 LS.out LG.out HK.out yr (.inl rfl))
          rcases y5 with ⟨y5, y5', z5⟩ | ⟨y5, y5', z5⟩
          all_goals
            go_wp2_with fail
            refine (upd_res w.heap.size ⟨0, S, false, 0, false⟩ (N + g) (r) true 0 0 HU.out.1 LS.out (by have := LNN.out; have := LG.out; omega) (by simp) (by first | rfl | simp) (by first | rfl | simp) (by first | rfl | simp) _ HO.out.1).mono ?_; rintro e w3 ⟨rfl, p3⟩
            have O3 := Lib.hid (HO.out.put p3)
            clear p3 hg' wN hck hck' y5 y5'
            go_wp2_with fail
            refine (in5 w.heap.size _ _ _ _ _ _ O3.out.1).mono ?_; rintro e w' ⟨rfl, rfl⟩
            go_wp2_with fail
            refine (best5 w.heap.size _ _ _ _ _ _ O3.out.1).mono ?_; rintro e w' ⟨rfl, rfl⟩
            go_wp2
            go_roundw
            case rel => exact ⟨k + 1, r, N + g, N + g, by omega, by omega, by omega, by first | exact LL.out | exact LR.out, by first | exact LS.out | (have := LNN.out; have := LG.out; omega), HU.out.2, by simp, by simp, by simp, O3.out⟩
            case measure => simp [intOf]; omega
        · have y0 : ((L : Int) == 0) = false := by rw [beq_eq_false_iff_ne]; omega
          by_cases hl : r < L
          · have HU := Lib.hid (least_set (R := r) hk3 LS.out LG.out HK.out yr (.inr (by omega)))
            rcases y5 with ⟨y5, y5', z5⟩ | ⟨y5, y5', z5⟩
            all_goals
              go_wp2_with fail
              refine (upd_res w.heap.size ⟨L, S, false, 0, false⟩ (N + g) (r) true 0 0 HU.out.1 LS.out (by have := LNN.out; have := LG.out; omega) (by simp) (by first | rfl | simp) (by first | rfl | simp) (by first | rfl | simp) _ HO.out.1).mono ?_; rintro e w3 ⟨rfl, p3⟩
              have O3 := Lib.hid (HO.out.put p3)
              clear p3 hg' wN hck hck' y5 y5'
              go_wp2_with fail
              refine (in5 w.heap.size _ _ _ _ _ _ O3.out.1).mono ?_; rintro e w' ⟨rfl, rfl⟩
              go_wp2_with fail
              refine (best5 w.heap.size _ _ _ _ _ _ O3.out.1).mono ?_; rintro e w' ⟨rfl, rfl⟩
              go_wp2
              go_roundw
              case rel => exact ⟨k + 1, r, N + g, N + g, by omega, by omega, by omega, by first | exact LL.out | exact LR.out, by first | exact LS.out | (have := LNN.out; have := LG.out; omega), HU.out.2, by simp, by simp, by simp, O3.out⟩
              case measure => simp [intOf]; omega
          · rcases y5 with ⟨y5, y5', z5⟩ | ⟨y5, y5', z5⟩
            · have HU := Lib.hid (least_set (R := L) hk3 LS.out LG.out HK.out yL (.inr (Nat.le_refl _)))
              go_wp2_with fail
              refine (upd_res w.heap.size ⟨L, S, false, 0, false⟩ (N + g) (L) true 0 0 HU.out.1 LS.out (by have := LNN.out; have := LG.out; omega) (by simp) (by first | rfl | simp) (by first | rfl | simp) (by first | rfl | simp) _ HO.out.1).mono ?_; rintro e w3 ⟨rfl, p3⟩
              have O3 := Lib.hid (HO.out.put p3)
              clear p3 hg' wN hck hck' y5 y5'
              go_wp2_with fail
              refine (in5 w.heap.size _ _ _ _ _ _ O3.out.1).mono ?_; rintro e w' ⟨rfl, rfl⟩
              go_wp2_with fail
              refine (best5 w.heap.size _ _ _ _ _ _ O3.out.1).mono ?_; rintro e w' ⟨rfl, rfl⟩
              go_wp2
              go_roundw
              case rel => exact ⟨k + 1, L, N + g, N + g, by omega, by omega, by omega, by first | exact LL.out | exact LR.out, by first | exact LS.out | (have := LNN.out; have := LG.out; omega), HU.out.2, by simp, by simp, by simp, O3.out⟩
              case measure => simp [intOf]; omega
            · by_cases he : r = L
              · have HU := Lib.hid (least_set (R := r) hk3 LS.out LG.out HK.out yr (.inr (by omega)))
                subst he
                go_wp2_with fail
                refine (upd_res w.heap.size ⟨r, S, false, 0, false⟩ (N + g) (r) true 0 0 HU.out.1 LS.out (by have := LNN.out; have := LG.out; omega) (by simp) (by first | rfl | simp) (by first | rfl | simp) (by first | rfl | simp) _ HO.out.1).mono ?_; rintro e w3 ⟨rfl, p3⟩
                have O3 := Lib.hid (HO.out.put p3)
                clear p3 hg' wN hck hck' y5 y5'
                go_wp2_with fail
                refine (in5 w.heap.size _ _ _ _ _ _ O3.out.1).mono ?_; rintro e w' ⟨rfl, rfl⟩
                go_wp2_with fail
                refine (best5 w.heap.size _ _ _ _ _ _ O3.out.1).mono ?_; rintro e w' ⟨rfl, rfl⟩
                go_wp2
                go_roundw
                case rel => exact ⟨k + 1, r, N + g, N + g, by omega, by omega, by omega, by first | exact LL.out | exact LR.out, by first | exact LS.out | (have := LNN.out; have := LG.out; omega), HU.out.2, by simp, by simp, by simp, O3.out⟩
                case measure => simp [intOf]; omega
              · have HU := Lib.hid (least_stay (R := r) hk3 LS.out LG.out HK.out (.inr ⟨yL, by omega⟩) (.inr z5))
                go_wp2_with fail
                refine (upd_res w.heap.size ⟨L, S, false, 0, false⟩ (N + g) (r) true 0 0 HU.out.1 LS.out (by have := LNN.out; have := LG.out; omega) (by simp) (by first | rfl | simp) (by first | rfl | simp) (by first | rfl | simp) _ HO.out.1).mono ?_; rintro e w3 ⟨rfl, p3⟩
                have O3 := Lib.hid (HO.out.put p3)
                clear p3 hg' wN hck hck' y5 y5'
                go_wp2_with fail
                refine (in5 w.heap.size _ _ _ _ _ _ O3.out.1).mono ?_; rintro e w' ⟨rfl, rfl⟩
                go_wp2_with fail
                refine (best5 w.heap.size _ _ _ _ _ _ O3.out.1).mono ?_; rintro e w' ⟨rfl, rfl⟩
                go_wp2
                go_roundw
                case rel => exact ⟨k + 1, L, S, N + g, by omega, by omega, by omega, by first | exact LL.out | exact LR.out, by first | exact LS.out | (have := LNN.out; have := LG.out; omega), HU.out.2, by simp, by simp, by simp, O3.out⟩
                case measure => simp [intOf]; omega
    · have hx : decide (k < len) = false ∨ k < len ∧ decide (k < len2) = false ∨ k < len ∧ k < len2 ∧ 60 ≤ k := by simp; omega
      clear hlt
      rcases hx with hx | ⟨hx1, hx⟩ | ⟨hx1, hx2, hx⟩
      all_goals
        go_wp2
        go_ret
        exact ⟨rfl, HO.out.2.1⟩
end Go.Proofs.Ytgdbmjokpbjoaaa
