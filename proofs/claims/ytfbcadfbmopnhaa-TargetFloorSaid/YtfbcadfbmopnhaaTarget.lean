/- The contracts of target.Bdp, target.Window, target.Rate and of their references. -/
import Derived.Test.YtfbcadfbmopnhaaSat
import Derived.Below
import Derived.Laws.OwnMore
import Derived.Laws.Rows
import Derived.Deep.LoopGhost
namespace Go.Proofs.Ytfbcadfbmopnhaa
open Go.RowKit Go.Lib
set_option linter.unusedVariables false

theorem scaled1_core (v x y r : Nat) (b : Nat) (w : World) (hbl : b < w.heap.size) (h0 : w.cell? ⟨b, 0, none⟩ = some (.int .u64 x)) (h1 : w.cell? ⟨b, 1, none⟩ = some (.int .u64 y))
    (hv : v = 0 ∧ r = 0 ∨ ((v : Int) == 0) = false)
    (c : ∀ w, Calls Try.prog 26 #[.int .u64 v, .int .u64 x, .int .u64 y] w fun e w' => e = .returned (.int .u64 r) ∧ w = w') :
    Calls Try.prog 28 #[.int .u64 v, .slice (some ⟨b, 0, none⟩) 1 1] w fun e w' => e = .returned (.int .u64 r) ∧ Below w.heap.size w w' := by
  have C := Lib.hid c
  clear c
  rcases hv with ⟨rfl, rfl⟩ | hv
  · go_enter Try.func28, Try.ntmps28
    go_wp2_with fail
    go_step3
    go_wp2
    go_step3
    go_wp2
    refine wp_loop_rounds 2 ?_
    rw [rounds_succ]
    go_wp2
    (try rw [Exit.noGoto_ret])
    go_ret
    exact ⟨rfl, (Below.refl _ _).alloc (Nat.le_refl _) _⟩
  · go_enter Try.func28, Try.ntmps28
    go_wp2_with fail
    go_step3
    go_wp2
    go_step3
    go_wp2
    refine wp_loop_rounds 2 ?_
    rw [rounds_succ]
    go_wp2_with fail
    refine (C.out _).mono ?_; rintro e w' ⟨rfl, rfl⟩
    go_wp2
    rw [rounds_succ]
    go_wp2
    (try rw [Exit.noGoto_ret])
    go_ret
    exact ⟨rfl, (Below.refl _ _).alloc (Nat.le_refl _) _⟩

theorem scaled2_core (v x y x2 y2 r r2 : Nat) (b : Nat) (w : World) (hbl : b < w.heap.size) (h0 : w.cell? ⟨b, 0, none⟩ = some (.int .u64 x)) (h1 : w.cell? ⟨b, 1, none⟩ = some (.int .u64 y))
    (h2 : w.cell? ⟨b, 2, none⟩ = some (.int .u64 x2)) (h3 : w.cell? ⟨b, 3, none⟩ = some (.int .u64 y2))
    (hv : v = 0 ∧ r2 = 0 ∨ ((v : Int) == 0) = false ∧ (r = 0 ∧ r2 = 0 ∨ ((r : Int) == 0) = false))
    (c : ∀ w, Calls Try.prog 26 #[.int .u64 v, .int .u64 x, .int .u64 y] w fun e w' => e = .returned (.int .u64 r) ∧ w = w')
    (c2 : ∀ w, Calls Try.prog 26 #[.int .u64 r, .int .u64 x2, .int .u64 y2] w fun e w' => e = .returned (.int .u64 r2) ∧ w = w') :
    Calls Try.prog 28 #[.int .u64 v, .slice (some ⟨b, 0, none⟩) 2 2] w fun e w' => e = .returned (.int .u64 r2) ∧ Below w.heap.size w w' := by
  have C := Lib.hid c
  have C2 := Lib.hid c2
  clear c c2
  rcases hv with ⟨rfl, rfl⟩ | ⟨hv, ⟨rfl, rfl⟩ | hr⟩
  · go_enter Try.func28, Try.ntmps28
    go_wp2_with fail
    go_step3
    go_wp2
    go_step3
    go_wp2
    refine wp_loop_rounds 3 ?_
    rw [rounds_succ]
    go_wp2
    (try rw [Exit.noGoto_ret])
    go_ret
    exact ⟨rfl, (Below.refl _ _).alloc (Nat.le_refl _) _⟩
  · go_enter Try.func28, Try.ntmps28
    go_wp2_with fail
    go_step3
    go_wp2
    go_step3
    go_wp2
    refine wp_loop_rounds 3 ?_
    rw [rounds_succ]
    go_wp2_with fail
    refine (C.out _).mono ?_; rintro e w' ⟨rfl, rfl⟩
    go_wp2
    rw [rounds_succ]
    go_wp2
    (try rw [Exit.noGoto_ret])
    go_ret
    exact ⟨rfl, ((Below.refl _ _).alloc (Nat.le_refl _) _).alloc (by simp) _⟩
  · go_enter Try.func28, Try.ntmps28
    go_wp2_with fail
    go_step3
    go_wp2
    go_step3
    go_wp2
    refine wp_loop_rounds 3 ?_
    rw [rounds_succ]
    go_wp2_with fail
    refine (C.out _).mono ?_; rintro e w' ⟨rfl, rfl⟩
    go_wp2
    rw [rounds_succ]
    go_wp2_with fail
    refine (C2.out _).mono ?_; rintro e w' ⟨rfl, rfl⟩
    go_wp2
    rw [rounds_succ]
    go_wp2
    (try rw [Exit.noGoto_ret])
    go_ret
    exact ⟨rfl, ((Below.refl _ _).alloc (Nat.le_refl _) _).alloc (by simp) _⟩

def bdp (bw rtt gain : Nat) : Nat := mulDiv (mulDiv bw rtt 1000000000) gain 256
def trate (bw gain : Nat) : Nat := mulDiv bw gain 256
def window (bw rtt gain tso mss : Nat) : Nat := if rtt = 0 then satMul 10 mss else max (satAdd (bdp bw rtt gain) (satMul 3 tso)) (satMul 4 mss)
theorem mulDiv_z (b c : Nat) : mulDiv 0 b c = 0 := by unfold mulDiv; simp
theorem zero_or (v : Nat) : v = 0 ∨ ((v : Int) == 0) = false := by
  rcases Nat.eq_zero_or_pos v with h | h
  · exact .inl h
  · exact .inr (by rw [beq_eq_false_iff_ne]; omega)

theorem rate_any (v x : Nat) (hv : v < 18446744073709551616) (hx : x < 18446744073709551616) (w : World) :
    Calls Try.prog 23 #[.int .u64 v, .int .u64 x] w fun e w' => e = .returned (.int .u64 (trate v x : Nat)) ∧ Below w.heap.size w w' := by
  have C : ∀ w, Calls Try.prog 26 #[.int .u64 v, .int .u64 x, .int .u64 256] w fun e w' => e = .returned (.int .u64 (trate v x : Nat)) ∧ w = w' :=
    fun w => muldiv_any v x 256 hv hx (by omega) w
  have hz : v = 0 ∧ trate v x = 0 ∨ ((v : Int) == 0) = false := by
    rcases zero_or v with h | h
    · exact .inl ⟨h, by rw [h]; exact mulDiv_z _ _⟩
    · exact .inr h
  generalize trate v x = r at *
  have HZ := Lib.hid hz
  have HC := Lib.hid C
  clear hz C
  go_enter Try.func23, Try.ntmps23
  go_wp2_with fail
  refine (scaled1_core v x 256 r _ _ (by simp) (by simp [go_sem]) (by simp [go_sem]) HZ.out HC.out).mono ?_; rintro e w' ⟨rfl, hb⟩
  go_wp2
  go_ret
  exact ⟨rfl, ((Below.refl _ _).alloc (Nat.le_refl _) _).trans (hb.mono (by simp))⟩

theorem bdp_any (v x g : Nat) (hv : v < 18446744073709551616) (hx : x < 18446744073709551616) (hg : g < 18446744073709551616) (w : World) :
    Calls Try.prog 19 #[.int .u64 v, .int .u64 x, .int .u64 g] w fun e w' => e = .returned (.int .u64 (bdp v x g : Nat)) ∧ Below w.heap.size w w' := by
  have C : ∀ w, Calls Try.prog 26 #[.int .u64 v, .int .u64 x, .int .u64 1000000000] w fun e w' => e = .returned (.int .u64 (mulDiv v x 1000000000 : Nat)) ∧ w = w' :=
    fun w => muldiv_any v x 1000000000 hv hx (by omega) w
  have C2 : ∀ w, Calls Try.prog 26 #[.int .u64 (mulDiv v x 1000000000 : Nat), .int .u64 g, .int .u64 256] w fun e w' => e = .returned (.int .u64 (bdp v x g : Nat)) ∧ w = w' :=
    fun w => muldiv_any _ g 256 (mulDiv_lt _ _ _) hg (by omega) w
  have hz : v = 0 ∧ bdp v x g = 0 ∨ ((v : Int) == 0) = false ∧ (mulDiv v x 1000000000 = 0 ∧ bdp v x g = 0 ∨ ((mulDiv v x 1000000000 : Int) == 0) = false) := by
    rcases zero_or v with h | h
    · exact .inl ⟨h, by rw [h]; unfold bdp; rw [mulDiv_z, mulDiv_z]⟩
    · refine .inr ⟨h, ?_⟩
      rcases zero_or (mulDiv v x 1000000000) with h | h
      · exact .inl ⟨h, by unfold bdp; rw [h, mulDiv_z]⟩
      · exact .inr h
  generalize bdp v x g = r2 at *
  generalize mulDiv v x 1000000000 = r at *
  have HZ := Lib.hid hz
  have HC := Lib.hid C
  have HC2 := Lib.hid C2
  clear hz C C2
  go_enter Try.func19, Try.ntmps19
  go_wp2_with fail
  refine (scaled2_core v x 1000000000 g 256 r r2 _ _ (by simp) (by simp [go_sem]) (by simp [go_sem]) (by simp [go_sem]) (by simp [go_sem]) HZ.out HC.out HC2.out).mono ?_; rintro e w' ⟨rfl, hb⟩
  go_wp2
  go_ret
  exact ⟨rfl, ((Below.refl _ _).alloc (Nat.le_refl _) _).trans (hb.mono (by simp))⟩

theorem rrate_any (v x : Nat) (hv : v < 18446744073709551616) (hx : x < 18446744073709551616) (w : World) :
    Calls Try.prog 24 #[.int .u64 v, .int .u64 x] w fun e w' => e = .returned (.int .u64 (trate v x : Nat)) ∧ w = w' := by
  have C : ∀ w, Calls Try.prog 27 #[.int .u64 v, .int .u64 x, .int .u64 256] w fun e w' => e = .returned (.int .u64 (trate v x : Nat)) ∧ w = w' :=
    fun w => rmuldiv_any v x 256 hv hx (by omega) w
  generalize trate v x = r at *
  have HC := Lib.hid C
  clear C
  go_enter Try.func24, Try.ntmps24
  go_wp2_with fail
  refine (HC.out _).mono ?_; rintro e w' ⟨rfl, rfl⟩
  go_wp2
  go_ret
  exact ⟨rfl, rfl⟩

theorem rbdp_any (v x g : Nat) (hv : v < 18446744073709551616) (hx : x < 18446744073709551616) (hg : g < 18446744073709551616) (w : World) :
    Calls Try.prog 20 #[.int .u64 v, .int .u64 x, .int .u64 g] w fun e w' => e = .returned (.int .u64 (bdp v x g : Nat)) ∧ w = w' := by
  have C : ∀ w, Calls Try.prog 27 #[.int .u64 v, .int .u64 x, .int .u64 1000000000] w fun e w' => e = .returned (.int .u64 (mulDiv v x 1000000000 : Nat)) ∧ w = w' :=
    fun w => rmuldiv_any v x 1000000000 hv hx (by omega) w
  have C2 : ∀ w, Calls Try.prog 27 #[.int .u64 (mulDiv v x 1000000000 : Nat), .int .u64 g, .int .u64 256] w fun e w' => e = .returned (.int .u64 (bdp v x g : Nat)) ∧ w = w' :=
    fun w => rmuldiv_any _ g 256 (mulDiv_lt _ _ _) hg (by omega) w
  generalize bdp v x g = r2 at *
  generalize mulDiv v x 1000000000 = r at *
  have HC := Lib.hid C
  have HC2 := Lib.hid C2
  clear C C2
  go_enter Try.func20, Try.ntmps20
  go_wp2_with fail
  refine (HC.out _).mono ?_; rintro e w' ⟨rfl, rfl⟩
  go_wp2_with fail
  refine (HC2.out _).mono ?_; rintro e w' ⟨rfl, rfl⟩
  go_wp2
  go_ret
  exact ⟨rfl, rfl⟩

theorem bdp_lt (v x g : Nat) : bdp v x g < 18446744073709551616 := mulDiv_lt _ _ _
theorem window_core (v x g t m B T S M F W : Nat) (hB : B < 18446744073709551616)
    (hx : x = 0 ∧ W = F ∨ ((x : Int) == 0) = false ∧ W = max S M)
    (cf : ∀ w, Calls Try.prog 29 #[.int .u64 10, .int .u64 m] w fun e w' => e = .returned (.int .u64 F) ∧ w = w')
    (cb : ∀ w, Calls Try.prog 19 #[.int .u64 v, .int .u64 x, .int .u64 g] w fun e w' => e = .returned (.int .u64 B) ∧ Below w.heap.size w w')
    (ct : ∀ w, Calls Try.prog 29 #[.int .u64 3, .int .u64 t] w fun e w' => e = .returned (.int .u64 T) ∧ w = w')
    (cs : ∀ w, Calls Try.prog 30 #[.int .u64 B, .int .u64 T] w fun e w' => e = .returned (.int .u64 S) ∧ w = w')
    (cm : ∀ w, Calls Try.prog 29 #[.int .u64 4, .int .u64 m] w fun e w' => e = .returned (.int .u64 M) ∧ w = w') (w : World) :
    Calls Try.prog 21 #[.int .u64 v, .int .u64 x, .int .u64 g, .int .u64 t, .int .u64 m] w fun e w' => e = .returned (.int .u64 W) ∧ Below w.heap.size w w' := by
  have CF := Lib.hid cf
  have CB := Lib.hid cb
  have CT := Lib.hid ct
  have CS := Lib.hid cs
  have CM := Lib.hid cm
  clear cf cb ct cs cm
  rcases hx with ⟨rfl, rfl⟩ | ⟨hx, rfl⟩
  · go_enter Try.func21, Try.ntmps21
    go_wp2_with fail
    refine (CF.out _).mono ?_; rintro e w' ⟨rfl, rfl⟩
    go_wp2
    go_ret
    exact ⟨rfl, Below.refl _ _⟩
  · go_enter Try.func21, Try.ntmps21
    go_wp2_with fail
    refine (CB.out _).mono ?_; rintro e w' ⟨rfl, hb⟩
    go_wp2_with fail
    refine (CT.out _).mono ?_; rintro e w' ⟨rfl, rfl⟩
    go_wp2_with fail
    refine (CS.out _).mono ?_; rintro e w' ⟨rfl, rfl⟩
    go_wp2_with fail
    refine (CM.out _).mono ?_; rintro e w' ⟨rfl, rfl⟩
    go_wp2
    all_goals go_ret
    all_goals exact ⟨ret64 (by omega), hb⟩
theorem rwindow_core (v x g t m B T S M F W : Nat) (hB : B < 18446744073709551616)
    (hx : x = 0 ∧ W = F ∨ ((x : Int) == 0) = false ∧ W = max S M)
    (cf : ∀ w, Calls Try.prog 25 #[.int .u64 10, .int .u64 m] w fun e w' => e = .returned (.int .u64 F) ∧ w = w')
    (cb : ∀ w, Calls Try.prog 20 #[.int .u64 v, .int .u64 x, .int .u64 g] w fun e w' => e = .returned (.int .u64 B) ∧ w = w')
    (ct : ∀ w, Calls Try.prog 25 #[.int .u64 3, .int .u64 t] w fun e w' => e = .returned (.int .u64 T) ∧ w = w')
    (cs : ∀ w, Calls Try.prog 17 #[.int .u64 B, .int .u64 T] w fun e w' => e = .returned (.int .u64 S) ∧ w = w')
    (cm : ∀ w, Calls Try.prog 25 #[.int .u64 4, .int .u64 m] w fun e w' => e = .returned (.int .u64 M) ∧ w = w') (w : World) :
    Calls Try.prog 22 #[.int .u64 v, .int .u64 x, .int .u64 g, .int .u64 t, .int .u64 m] w fun e w' => e = .returned (.int .u64 W) ∧ w = w' := by
  have CF := Lib.hid cf
  have CB := Lib.hid cb
  have CT := Lib.hid ct
  have CS := Lib.hid cs
  have CM := Lib.hid cm
  clear cf cb ct cs cm
  rcases hx with ⟨rfl, rfl⟩ | ⟨hx, rfl⟩
  · go_enter Try.func22, Try.ntmps22
    go_wp2_with fail
    refine (CF.out _).mono ?_; rintro e w' ⟨rfl, rfl⟩
    go_wp2
    go_ret
    exact ⟨rfl, rfl⟩
  · go_enter Try.func22, Try.ntmps22
    go_wp2_with fail
    refine (CB.out _).mono ?_; rintro e w' ⟨rfl, rfl⟩
    go_wp2_with fail
    refine (CT.out _).mono ?_; rintro e w' ⟨rfl, rfl⟩
    go_wp2_with fail
    refine (CS.out _).mono ?_; rintro e w' ⟨rfl, rfl⟩
    go_wp2_with fail
    refine (CM.out _).mono ?_; rintro e w' ⟨rfl, rfl⟩
    go_wp2
    all_goals go_ret
    all_goals exact ⟨ret64 (by omega), rfl⟩
theorem window_hx (v x g t m : Nat) : x = 0 ∧ window v x g t m = satMul 10 m ∨ ((x : Int) == 0) = false ∧ window v x g t m = max (satAdd (bdp v x g) (satMul 3 t)) (satMul 4 m) := by
  unfold window
  rcases Nat.eq_zero_or_pos x with h | h
  · exact .inl ⟨h, by rw [if_pos h]⟩
  · exact .inr ⟨by rw [beq_eq_false_iff_ne]; omega, by rw [if_neg (by omega)]⟩
theorem window_any (v x g t m : Nat) (hv : v < 18446744073709551616) (hx : x < 18446744073709551616) (hg : g < 18446744073709551616) (ht : t < 18446744073709551616) (hm : m < 18446744073709551616) (w : World) :
    Calls Try.prog 21 #[.int .u64 v, .int .u64 x, .int .u64 g, .int .u64 t, .int .u64 m] w fun e w' => e = .returned (.int .u64 (window v x g t m : Nat)) ∧ Below w.heap.size w w' :=
  window_core v x g t m (bdp v x g) (satMul 3 t) (satAdd (bdp v x g) (satMul 3 t)) (satMul 4 m) (satMul 10 m) _ (bdp_lt _ _ _) (window_hx v x g t m)
    (smul_any 10 m (by omega) hm) (bdp_any v x g hv hx hg) (smul_any 3 t (by omega) ht) (add_any _ _ (bdp_lt _ _ _) satMul_lt) (smul_any 4 m (by omega) hm) w
theorem rwindow_any (v x g t m : Nat) (hv : v < 18446744073709551616) (hx : x < 18446744073709551616) (hg : g < 18446744073709551616) (ht : t < 18446744073709551616) (hm : m < 18446744073709551616) (w : World) :
    Calls Try.prog 22 #[.int .u64 v, .int .u64 x, .int .u64 g, .int .u64 t, .int .u64 m] w fun e w' => e = .returned (.int .u64 (window v x g t m : Nat)) ∧ w = w' :=
  rwindow_core v x g t m (bdp v x g) (satMul 3 t) (satAdd (bdp v x g) (satMul 3 t)) (satMul 4 m) (satMul 10 m) _ (bdp_lt _ _ _) (window_hx v x g t m)
    (rmul_any 10 m (by omega) hm) (rbdp_any v x g hv hx hg) (rmul_any 3 t (by omega) ht) (radd_any _ _ (bdp_lt _ _ _) satMul_lt) (rmul_any 4 m (by omega) hm) w
end Go.Proofs.Ytfbcadfbmopnhaa
