/- sampler's states, and the contracts of its smaller functions. -/
import Derived.Test.YtojgpgjmcamfoaaObj
import Derived.Test.YtojgpgjmcamfoaaSat
import Derived.Test.YtojgpgjmcamfoaaPol
import Derived.StillTailTactics
import Derived.BigRegion
import Derived.RegionTactic
import Derived.ChangeAlike
import Derived.Deep.RegionWith
namespace Go.Proofs.Ytojgpgjmcamfoaa
open Go.RowKit Go.Lib
set_option linter.unusedVariables false

/-- the world at which a walk stands, under a new name, with what is known of it -/
theorem wp_named {P : Program} {c : Code} {Q : Exit → Act → World → Prop} {a : Act} {w : World} (Φ : World → Prop) (h0 : Φ w) (h : ∀ w', Φ w' → Code.wp P c Q a w') : Code.wp P c Q a w := h w h0
theorem calls_named {P : Program} {f : FuncId} {args : Array Value} {R : Ending → World → Prop} {w : World} (Φ : World → Prop) (h0 : Φ w) (h : ∀ w', Φ w' → Calls P f args w' R) : Calls P f args w R := h w h0

structure SA where
  d : Nat
  da : Nat
  fa : Nat
  mark : Nat
  is : Bool
  acks : Nat
  prior : Nat
  priorAt : Nat
  lim : Bool
  sending : Nat
  rtt : Nat
structure ST where
  at_ : Nat
  d : Nat
  da : Nat
  fa : Nat
  lim : Bool
def sam (s : SA) : Array Value := #[.int .u64 s.d, .int .u64 s.da, .int .u64 s.fa, .int .u64 s.mark, .bool s.is, .int .u64 s.acks, .int .u64 s.prior, .int .u64 s.priorAt, .bool s.lim, .int .u64 s.sending, .int .u64 s.rtt]
def rsam (s : SA) : Array Value := #[.int .u64 s.d, .int .u64 s.da, .int .u64 s.fa, .int .u64 s.mark, .bool s.is, .int .u64 s.acks, .int .u64 s.prior, .int .u64 s.priorAt, .int .u64 s.sending, .int .u64 s.rtt, .bool s.lim]
def cellsT (x : ST) : Array Value := #[.int .u64 x.at_, .int .u64 x.d, .int .u64 x.da, .int .u64 x.fa, .bool x.lim]
def stv (x : ST) : Value := .agg #[.int .u64 x.at_, .int .u64 x.d, .int .u64 x.da, .int .u64 x.fa, .bool x.lim]
def sam0 : SA := ⟨0, 0, 0, 0, false, 0, 0, 0, false, 0, 0⟩
def SA.ok (s : SA) : Prop := s.d < 18446744073709551616 ∧ s.da < 18446744073709551616 ∧ s.fa < 18446744073709551616 ∧ s.acks < 18446744073709551616 ∧ s.priorAt < 18446744073709551616
def ST.ok (x : ST) : Prop := x.at_ < 18446744073709551616 ∧ x.da < 18446744073709551616 ∧ x.fa < 18446744073709551616

theorem samnew_any (w : World) :
    Calls Try.prog 15 #[] w fun e w' => e = .returned (.pointer (some ⟨w.heap.size, 0, none⟩)) ∧ w' = w.alloc (.cells (sam sam0) 78) := by
  go_enter Try.func15, Try.ntmps15
  go_wp2
  go_ret
  exact ⟨rfl, rfl⟩

theorem delivered_any (b : Nat) (s : SA) (w : World) (h : At w b 78 (sam s)) :
    Calls Try.prog 20 #[.pointer (some ⟨b, 0, none⟩)] w fun e w' => e = .returned (.int .u64 s.d) ∧ w = w' := by
  have h0 : w.cell? ⟨b, 0, none⟩ = some (.int .u64 s.d) := h.cell 0
  clear h
  go_enter Try.func20, Try.ntmps20
  go_wp2
  go_ret
  exact ⟨rfl, rfl⟩
theorem delivered_nil (w : World) :
    Calls Try.prog 20 #[.pointer none] w fun e w' => e = .returned (.int .u64 0) ∧ w = w' := by
  go_enter Try.func20, Try.ntmps20
  go_wp2
  go_ret
  exact ⟨rfl, rfl⟩

def limF (s : SA) (flight : Nat) : SA := { s with mark := max 1 (satAdd s.d flight) }
theorem limit_nil (f : Nat) (w : World) :
    Calls Try.prog 23 #[.pointer none, .int .u64 f] w fun e w' => e = .returned (.tuple #[]) ∧ w = w' := by
  go_enter Try.func23, Try.ntmps23
  go_wp2
  go_end0
  exact ⟨rfl, rfl⟩
theorem limit_any (b : Nat) (s : SA) (f : Nat) (hs : s.ok) (hf : f < 18446744073709551616) (w : World) (h : At w b 78 (sam s)) :
    Calls Try.prog 23 #[.pointer (some ⟨b, 0, none⟩), .int .u64 f] w fun e w' => e = .returned (.tuple #[]) ∧ Put w w' b 78 (sam (limF s f)) := by
  have h0 : w.cell? ⟨b, 0, none⟩ = some (.int .u64 s.d) := h.cell 0
  have h3 : w.cell? ⟨b, 3, none⟩ = some (.int .u64 s.mark) := h.cell 3
  have f3 := h.free 3
  have H := Lib.hid h
  have CA := Lib.hid (add_any s.d f hs.1 hf)
  clear h hs hf
  unfold limF
  generalize satAdd s.d f = V at *
  rcases Nat.eq_zero_or_pos V with rfl | hp
  · rw [show max 1 0 = 1 from rfl]
    go_enter Try.func23, Try.ntmps23
    go_wp2_with fail
    refine (CA.out _).mono ?_; rintro e w' ⟨rfl, rfl⟩
    go_wp2
    go_end0
    exact ⟨rfl, (Put.same H.out).s 3 _⟩
  rcases Nat.eq_or_lt_of_le hp with rfl | hp
  · rw [show max 1 (Nat.succ 0) = 1 from rfl]
    go_enter Try.func23, Try.ntmps23
    go_wp2_with fail
    refine (CA.out _).mono ?_; rintro e w' ⟨rfl, rfl⟩
    go_wp2
    go_end0
    exact ⟨rfl, (Put.same H.out).s 3 _⟩
  · rw [Nat.max_eq_right (by omega)]
    go_enter Try.func23, Try.ntmps23
    go_wp2_with fail
    refine (CA.out _).mono ?_; rintro e w' ⟨rfl, rfl⟩
    go_wp2
    all_goals go_end0
    all_goals exact ⟨rfl, (Put.same H.out).s 3 _⟩
theorem rlimit_any (b : Nat) (s : SA) (f : Nat) (hs : s.ok) (hf : f < 18446744073709551616) (w : World) (h : At w b 42 (rsam s)) :
    Calls Try.prog 24 #[.pointer (some ⟨b, 0, none⟩), .int .u64 f] w fun e w' => e = .returned (.tuple #[]) ∧ Put w w' b 42 (rsam (limF s f)) := by
  have h0 : w.cell? ⟨b, 0, none⟩ = some (.int .u64 s.d) := h.cell 0
  have h3 : w.cell? ⟨b, 3, none⟩ = some (.int .u64 s.mark) := h.cell 3
  have f3 := h.free 3
  have H := Lib.hid h
  have CA := Lib.hid (radd_any s.d f hs.1 hf)
  clear h hs hf
  unfold limF
  generalize satAdd s.d f = V at *
  rcases Nat.eq_zero_or_pos V with rfl | hp
  · rw [show max 1 0 = 1 from rfl]
    go_enter Try.func24, Try.ntmps24
    go_wp2_with fail
    refine (CA.out _).mono ?_; rintro e w' ⟨rfl, rfl⟩
    go_wp2
    go_end0
    exact ⟨rfl, (Put.same H.out).s 3 _⟩
  rcases Nat.eq_or_lt_of_le hp with rfl | hp
  · rw [show max 1 (Nat.succ 0) = 1 from rfl]
    go_enter Try.func24, Try.ntmps24
    go_wp2_with fail
    refine (CA.out _).mono ?_; rintro e w' ⟨rfl, rfl⟩
    go_wp2
    go_end0
    exact ⟨rfl, (Put.same H.out).s 3 _⟩
  · rw [Nat.max_eq_right (by omega)]
    go_enter Try.func24, Try.ntmps24
    go_wp2_with fail
    refine (CA.out _).mono ?_; rintro e w' ⟨rfl, rfl⟩
    go_wp2
    all_goals go_end0
    all_goals exact ⟨rfl, (Put.same H.out).s 3 _⟩

/-- what is sent: the state, and what stands with it -/
def sentF (s : SA) (now flight : Nat) : SA := if flight = 0 then { s with fa := now, da := now } else s
def sentV (s : SA) (now : Nat) : ST := ⟨now, s.d, s.da, s.fa, decide (s.mark ≠ 0)⟩
theorem sent_nil (a f : Nat) (w : World) :
    Calls Try.prog 19 #[.pointer none, .int .u64 a, .int .u64 f] w fun e w' => e = .returned (stv ⟨0, 0, 0, 0, false⟩) ∧ Below w.heap.size w w' := by
  go_enter Try.func19, Try.ntmps19
  go_wp2
  refine bodyPost_ret (v := stv ⟨0, 0, 0, 0, false⟩) (by simp [results, Try.results19, go_sem, stv]) rfl ⟨rfl, ?_⟩
  exact (Below.refl _ _).alloc (Nat.le_refl _) _
theorem sent_any (b : Nat) (s : SA) (a f : Nat) (w : World) (h : At w b 78 (sam s)) :
    Calls Try.prog 19 #[.pointer (some ⟨b, 0, none⟩), .int .u64 a, .int .u64 f] w fun e w' => e = .returned (stv (sentV (sentF s a f) a)) ∧ Put w w' b 78 (sam (sentF s a f)) := by
  have h0 : w.cell? ⟨b, 0, none⟩ = some (.int .u64 s.d) := h.cell 0
  have h1 : w.cell? ⟨b, 1, none⟩ = some (.int .u64 s.da) := h.cell 1
  have h2 : w.cell? ⟨b, 2, none⟩ = some (.int .u64 s.fa) := h.cell 2
  have h3 : w.cell? ⟨b, 3, none⟩ = some (.int .u64 s.mark) := h.cell 3
  have f1 := h.free 1
  have f2 := h.free 2
  have hlt := h.lt
  have H := Lib.hid h
  clear h
  unfold sentF sentV
  by_cases hf : f = 0
  · rw [if_pos hf]
    have y : ((f : Int) == 0) = true := by rw [beq_iff_eq]; omega
    have ym : ((s.mark : Int) != 0) = decide (s.mark ≠ 0) := by
      rcases Nat.eq_zero_or_pos s.mark with h | h
      · simp [h]
      · have : s.mark ≠ 0 := by omega
        simp [this]
    simp only
    generalize decide (s.mark ≠ 0) = M at *
    clear hf
    go_enter Try.func19, Try.ntmps19
    go_wp2_with fail
    go_region
    go_wp2
    refine bodyPost_ret (v := stv ⟨a, s.d, a, a, M⟩) (by simp [results, Try.results19, go_sem, stv]) rfl ⟨rfl, ?_⟩
    exact ((((Put.same H.out).s 2 _).s 1 _).a _).d
  · rw [if_neg hf]
    have y : ((f : Int) == 0) = false := by rw [beq_eq_false_iff_ne]; omega
    have ym : ((s.mark : Int) != 0) = decide (s.mark ≠ 0) := by
      rcases Nat.eq_zero_or_pos s.mark with h | h
      · simp [h]
      · have : s.mark ≠ 0 := by omega
        simp [this]
    generalize decide (s.mark ≠ 0) = M at *
    clear hf
    go_enter Try.func19, Try.ntmps19
    go_wp2_with fail
    go_region
    go_wp2
    refine bodyPost_ret (v := stv ⟨a, s.d, s.da, s.fa, M⟩) (by simp [results, Try.results19, go_sem, stv]) rfl ⟨rfl, ?_⟩
    exact ((Put.same H.out).a _).d
theorem rsent_any (b : Nat) (s : SA) (a f : Nat) (w : World) (h : At w b 42 (rsam s)) :
    Calls Try.prog 25 #[.pointer (some ⟨b, 0, none⟩), .int .u64 a, .int .u64 f] w fun e w' => e = .returned (stv (sentV (sentF s a f) a)) ∧ Put w w' b 42 (rsam (sentF s a f)) := by
  have h0 : w.cell? ⟨b, 0, none⟩ = some (.int .u64 s.d) := h.cell 0
  have h1 : w.cell? ⟨b, 1, none⟩ = some (.int .u64 s.da) := h.cell 1
  have h2 : w.cell? ⟨b, 2, none⟩ = some (.int .u64 s.fa) := h.cell 2
  have h3 : w.cell? ⟨b, 3, none⟩ = some (.int .u64 s.mark) := h.cell 3
  have f1 := h.free 1
  have f2 := h.free 2
  have hlt := h.lt
  have H := Lib.hid h
  clear h
  unfold sentF sentV
  by_cases hf : f = 0
  · rw [if_pos hf]
    have y : ((f : Int) == 0) = true := by rw [beq_iff_eq]; omega
    have ym : ((s.mark : Int) != 0) = decide (s.mark ≠ 0) := by
      rcases Nat.eq_zero_or_pos s.mark with h | h
      · simp [h]
      · have : s.mark ≠ 0 := by omega
        simp [this]
    simp only
    generalize decide (s.mark ≠ 0) = M at *
    clear hf
    go_enter Try.func25, Try.ntmps25
    go_wp2_with fail
    go_region
    go_wp2
    refine bodyPost_ret (v := stv ⟨a, s.d, a, a, M⟩) (by simp [results, Try.results25, go_sem, stv]) rfl ⟨rfl, ?_⟩
    exact ((((Put.same H.out).s 2 _).s 1 _).a _).d
  · rw [if_neg hf]
    have y : ((f : Int) == 0) = false := by rw [beq_eq_false_iff_ne]; omega
    have ym : ((s.mark : Int) != 0) = decide (s.mark ≠ 0) := by
      rcases Nat.eq_zero_or_pos s.mark with h | h
      · simp [h]
      · have : s.mark ≠ 0 := by omega
        simp [this]
    generalize decide (s.mark ≠ 0) = M at *
    clear hf
    go_enter Try.func25, Try.ntmps25
    go_wp2_with fail
    go_region
    go_wp2
    refine bodyPost_ret (v := stv ⟨a, s.d, s.da, s.fa, M⟩) (by simp [results, Try.results25, go_sem, stv]) rfl ⟨rfl, ?_⟩
    exact ((Put.same H.out).a _).d
end Go.Proofs.Ytojgpgjmcamfoaa
