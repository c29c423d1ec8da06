/- sampler's contracts, joined, with what comes out named by equations. -/
import Derived.Test.YtojgpgjmcamfoaaSam2
import Derived.Test.YtojgpgjmcamfoaaSam2R
import Derived.Test.YtojgpgjmcamfoaaSam4
import Derived.Test.YtojgpgjmcamfoaaSam5
namespace Go.Proofs.Ytojgpgjmcamfoaa
open Go.RowKit Go.Lib
set_option linter.unusedVariables false

theorem acked_nil (now size : Nat) (x : ST) (w : World) :
    Calls Try.prog 17 #[.pointer none, .int .u64 now, .int .u64 size, stv x] w fun e w' => e = .returned (.tuple #[]) ∧ Below w.heap.size w w' := by
  unfold stv
  go_enter Try.func17, Try.ntmps17
  go_wp2
  (first | go_end0 | refine bodyPost_ret (results_none rfl _ _ _) rfl ?_)
  exact ⟨rfl, (Below.refl _ _).alloc (Nat.le_refl _) _⟩

theorem sam0_ok : sam0.ok := ⟨by decide, by decide, by decide, by decide, by decide⟩
theorem sentF_ok {s : SA} {now f : Nat} (h : s.ok) (hn : now < 18446744073709551616) : (sentF s now f).ok := by
  unfold sentF
  split
  · exact ⟨h.1, hn, hn, h.2.2.2⟩
  · exact h
theorem sentV_ok {s : SA} {now : Nat} (h : s.ok) (hn : now < 18446744073709551616) : (sentV s now).ok := ⟨hn, h.2.1, h.2.2.1⟩
theorem limF_ok {s : SA} {f : Nat} (h : s.ok) : (limF s f).ok := h
theorem takeF_ok {s : SA} (h : s.ok) : (takeF s).ok := ⟨h.1, h.2.1, h.2.2.1, by simp [takeF], by simp [takeF]⟩

section
variable {T : TypeId}
theorem take_any (b : Nat) (s : SA) (now l f : Nat) (hs : s.ok) (hn : now < 18446744073709551616) (w : World) (h : At w b 78 (sam s)) :
    Calls Try.prog 18 #[.pointer (some ⟨b, 0, none⟩), .int .u64 now, .int .u64 l, .int .u64 f] w fun e w' => e = .returned (smp (takeV s now l f)) ∧ Put w w' b 78 (sam (takeF s)) := by
  unfold takeV
  cases hi : s.is
  · exact take_no b s now l f w h hi
  · exact take_yes b s now l f hs hn w h hi
theorem rtake_any (b : Nat) (s : SA) (now l f : Nat) (hs : s.ok) (hn : now < 18446744073709551616) (w : World) (h : At w b 42 (rsam s)) :
    Calls Try.prog 22 #[.pointer (some ⟨b, 0, none⟩), .int .u64 now, .int .u64 l, .int .u64 f] w fun e w' => e = .returned (smp (takeV s now l f)) ∧ Put w w' b 42 (rsam (takeF s)) := by
  unfold takeV
  cases hi : s.is
  · exact rtake_no b s now l f w h hi
  · exact rtake_yes b s now l f hs hn w h hi

theorem sent_res (b : Nat) (s s' : SA) (now f : Nat) (x : ST) {N F : Int} {V : Value} (hu : sentF s now f = s') (hx : sentV s' now = x) (hN : N = now) (hF : F = f) (hV : stv x = V) (w : World) (h : At w b 78 (sam s)) :
    Calls Try.prog 19 #[.pointer (some ⟨b, 0, none⟩), .int .u64 N, .int .u64 F] w fun e w' => e = .returned V ∧ Put w w' b 78 (sam s') := by
  subst hu hx hN hF hV
  exact sent_any b s now f w h
theorem acked_res (b : Nat) (s s' : SA) (now size : Nat) (x : ST) {N Z : Int} {V : Value} (hu : ackF s now size x = s') (hN : N = now) (hZ : Z = size) (hV : V = stv x)
    (hs : s.ok) (hn : now < 18446744073709551616) (hz : size < 18446744073709551616) (hx : x.ok) (w : World) (h : At w b 78 (sam s)) :
    Calls Try.prog 17 #[.pointer (some ⟨b, 0, none⟩), .int .u64 N, .int .u64 Z, V] w fun e w' => e = .returned (.tuple #[]) ∧ Put w w' b 78 (sam s') := by
  subst hu hN hZ hV
  exact acked_any b s now size x hs hn hz hx w h
theorem take_res (b : Nat) (s s' : SA) (now l f : Nat) (x : SM) {N L F : Int} {V : Value} (hu : takeF s = s') (hx : takeV s now l f = x) (hN : N = now) (hL : L = l) (hF : F = f) (hV : smp x = V)
    (hs : s.ok) (hn : now < 18446744073709551616) (w : World) (h : At w b 78 (sam s)) :
    Calls Try.prog 18 #[.pointer (some ⟨b, 0, none⟩), .int .u64 N, .int .u64 L, .int .u64 F] w fun e w' => e = .returned V ∧ Put w w' b 78 (sam s') := by
  subst hu hx hN hL hF hV
  exact take_any b s now l f hs hn w h
theorem limit_res (b : Nat) (s s' : SA) (f : Nat) {F : Int} (hu : limF s f = s') (hF : F = f) (hs : s.ok) (hf : f < 18446744073709551616) (w : World) (h : At w b 78 (sam s)) :
    Calls Try.prog 23 #[.pointer (some ⟨b, 0, none⟩), .int .u64 F] w fun e w' => e = .returned (.tuple #[]) ∧ Put w w' b 78 (sam s') := by
  subst hu hF
  exact limit_any b s f hs hf w h
theorem deliv_res (b : Nat) (s : SA) (d : Nat) {D : Int} (hd : s.d = d) (hD : (d : Int) = D) (w : World) (h : At w b 78 (sam s)) :
    Calls Try.prog 20 #[.pointer (some ⟨b, 0, none⟩)] w fun e w' => e = .returned (.int .u64 D) ∧ w = w' := by
  subst hd hD
  exact delivered_any b s w h
end

theorem awake10 (w : World) : Calls Try.prog 16 #[] w fun e w' => e = .returned (.bool true) ∧ Below w.heap.size w w' := by
  have u1 : sentF sam0 0 0 = sam0 := rfl
  have u2 : ackF sam0 10 100 ⟨0, 0, 0, 0, false⟩ = ⟨100, 10, 0, 0, true, 100, 0, 0, false, 0, 10⟩ := rfl
  have u3 : takeV ⟨100, 10, 0, 0, true, 100, 0, 0, false, 0, 10⟩ 10 0 0 = ⟨10, 100, 0, 10, 10, 100, 0, 0, false⟩ := rfl
  have U1 := Lib.hid u1
  have U2 := Lib.hid u2
  have U3 := Lib.hid u3
  clear u1 u2 u3
  go_enter Try.func16, Try.ntmps16
  go_wp2_with fail
  refine (samnew_any _).mono ?_; rintro e w1 ⟨rfl, hw1⟩
  have O1 : Hid (Own w w1 w.heap.size 78 (sam sam0)) := by rw [hw1]; exact Lib.hid (Own.made (Below.refl _ _) _ _)
  clear hw1
  go_wp2_with fail
  refine (sent_res w.heap.size sam0 sam0 0 0 ⟨0, 0, 0, 0, false⟩ (V := .agg #[.int .u64 0, .int .u64 0, .int .u64 0, .int .u64 0, .bool false]) U1.out rfl rfl rfl rfl _ O1.out.1).mono ?_; rintro e w2 ⟨rfl, p2⟩
  have O2 := Lib.hid (O1.out.put p2)
  clear p2
  go_wp2_with fail
  refine (acked_res w.heap.size sam0 _ 10 100 ⟨0, 0, 0, 0, false⟩ U2.out rfl rfl rfl sam0_ok (by decide) (by decide) ⟨by decide, by decide, by decide⟩ _ (O2.out.alloc _).1).mono ?_; rintro e w3 ⟨rfl, p3⟩
  have O3 := Lib.hid ((O2.out.alloc _).put p3)
  clear p3
  go_wp2_with fail
  refine (take_res w.heap.size _ _ 10 0 0 ⟨10, 100, 0, 10, 10, 100, 0, 0, false⟩ (V := .agg #[.int .u64 10, .int .u64 100, .int .u64 0, .int .u64 10, .int .u64 10, .int .u64 100, .int .u64 0, .int .u64 0, .bool false]) rfl U3.out rfl rfl rfl rfl ⟨by decide, by decide, by decide, by decide, by decide⟩ (by decide) _ O3.out.1).mono ?_; rintro e w4 ⟨rfl, p4⟩
  have O4 := Lib.hid (O3.out.put p4)
  clear p4
  go_wp2_with fail
  refine (deliv_res w.heap.size _ 100 (D := 100) rfl rfl _ (O4.out.alloc _).1).mono ?_; rintro e w' ⟨rfl, rfl⟩
  go_wp2
  go_ret
  exact ⟨rfl, (O4.out.alloc _).2.1⟩
end Go.Proofs.Ytojgpgjmcamfoaa
