/- The rows of what is done with a sampler, and the contracts over all that the loop of SamplerTells keeps. -/
import Derived.Test.YtojgpgjmcamfoaaLaw10c
import Derived.Test.YtojgpgjmcamfoaaStructs
namespace Go.Proofs.Ytojgpgjmcamfoaa
open Go.RowKit Go.Lib
set_option linter.unusedVariables false

structure SOp where
  kind : Int
  at_ : Int
  now : Nat
  size : Nat
  flight : Nat
  x : ST
  raw : Bool
def SOp.ok (o : SOp) : Prop := o.now < 18446744073709551616 ∧ o.size < 18446744073709551616 ∧ o.flight < 18446744073709551616 ∧ o.x.ok
def cellsO (o : SOp) : Array Value := #[.int .i64 o.kind, .int .i64 o.at_, .int .u64 o.now, .int .u64 o.size, .int .u64 o.flight, .int .u64 o.x.at_, .int .u64 o.x.d, .int .u64 o.x.da, .int .u64 o.x.fa, .bool o.x.lim, .bool o.raw]
/-- a slice of deeds that came in -/
def SOpRow (w : World) (a : Option Addr) (len : Nat) (f : Nat → SOp) : Prop :=
  len ≤ 9223372036854775807 ∧ (∀ k, k < len → (f k).ok) ∧ (0 < len → ∃ b off, a = some ⟨b, off, none⟩ ∧ b < w.heap.size ∧ ∀ k, k < len → w.cell? ⟨b, off + k * 11, none⟩ = some (.int .i64 (f k).kind) ∧ w.cell? ⟨b, off + k * 11 + 1, none⟩ = some (.int .i64 (f k).at_) ∧ w.cell? ⟨b, off + k * 11 + 2, none⟩ = some (.int .u64 (f k).now) ∧ w.cell? ⟨b, off + k * 11 + 3, none⟩ = some (.int .u64 (f k).size) ∧ w.cell? ⟨b, off + k * 11 + 4, none⟩ = some (.int .u64 (f k).flight) ∧ w.cell? ⟨b, off + k * 11 + 5, none⟩ = some (.int .u64 (f k).x.at_) ∧ w.cell? ⟨b, off + k * 11 + 6, none⟩ = some (.int .u64 (f k).x.d) ∧ w.cell? ⟨b, off + k * 11 + 7, none⟩ = some (.int .u64 (f k).x.da) ∧ w.cell? ⟨b, off + k * 11 + 8, none⟩ = some (.int .u64 (f k).x.fa) ∧ w.cell? ⟨b, off + k * 11 + 9, none⟩ = some (.bool (f k).x.lim) ∧ w.cell? ⟨b, off + k * 11 + 10, none⟩ = some (.bool (f k).raw))
theorem sopRow_of {w : World} {a : Option Addr} {len : Nat} (hl : len ≤ 9223372036854775807)
    (h : 0 < len → ∃ b off, a = some ⟨b, off, none⟩ ∧ b < w.heap.size ∧ ∀ k, k < len → ∃ (x0 : Int) (x1 : Int) (x2 : Int) (x3 : Int) (x4 : Int) (x5 : Int) (x6 : Int) (x7 : Int) (x8 : Int) (x9 : Bool) (x10 : Bool), ((Lit.int .i64 x0).wf = true ∧ (Lit.int .i64 x1).wf = true ∧ (Lit.int .u64 x2).wf = true ∧ (Lit.int .u64 x3).wf = true ∧ (Lit.int .u64 x4).wf = true ∧ (Lit.int .u64 x5).wf = true ∧ (Lit.int .u64 x6).wf = true ∧ (Lit.int .u64 x7).wf = true ∧ (Lit.int .u64 x8).wf = true) ∧ w.cell? ⟨b, off + k * 11, none⟩ = some (.int .i64 x0) ∧ w.cell? ⟨b, off + k * 11 + 1, none⟩ = some (.int .i64 x1) ∧ w.cell? ⟨b, off + k * 11 + 2, none⟩ = some (.int .u64 x2) ∧ w.cell? ⟨b, off + k * 11 + 3, none⟩ = some (.int .u64 x3) ∧ w.cell? ⟨b, off + k * 11 + 4, none⟩ = some (.int .u64 x4) ∧ w.cell? ⟨b, off + k * 11 + 5, none⟩ = some (.int .u64 x5) ∧ w.cell? ⟨b, off + k * 11 + 6, none⟩ = some (.int .u64 x6) ∧ w.cell? ⟨b, off + k * 11 + 7, none⟩ = some (.int .u64 x7) ∧ w.cell? ⟨b, off + k * 11 + 8, none⟩ = some (.int .u64 x8) ∧ w.cell? ⟨b, off + k * 11 + 9, none⟩ = some (.bool x9) ∧ w.cell? ⟨b, off + k * 11 + 10, none⟩ = some (.bool x10)) : ∃ f, SOpRow w a len f := by
  rcases Nat.eq_zero_or_pos len with rfl | hp
  · exact ⟨fun _ => ⟨0, 0, 0, 0, 0, ⟨0, 0, 0, 0, false⟩, false⟩, by omega, fun k hk => by omega, fun h => by omega⟩
  · obtain ⟨b, off, ha, hb, hc⟩ := h hp
    have hc' : ∀ k, ∃ o : SOp, k < len → o.ok ∧ (w.cell? ⟨b, off + k * 11, none⟩ = some (.int .i64 (o).kind) ∧ w.cell? ⟨b, off + k * 11 + 1, none⟩ = some (.int .i64 (o).at_) ∧ w.cell? ⟨b, off + k * 11 + 2, none⟩ = some (.int .u64 (o).now) ∧ w.cell? ⟨b, off + k * 11 + 3, none⟩ = some (.int .u64 (o).size) ∧ w.cell? ⟨b, off + k * 11 + 4, none⟩ = some (.int .u64 (o).flight) ∧ w.cell? ⟨b, off + k * 11 + 5, none⟩ = some (.int .u64 (o).x.at_) ∧ w.cell? ⟨b, off + k * 11 + 6, none⟩ = some (.int .u64 (o).x.d) ∧ w.cell? ⟨b, off + k * 11 + 7, none⟩ = some (.int .u64 (o).x.da) ∧ w.cell? ⟨b, off + k * 11 + 8, none⟩ = some (.int .u64 (o).x.fa) ∧ w.cell? ⟨b, off + k * 11 + 9, none⟩ = some (.bool (o).x.lim) ∧ w.cell? ⟨b, off + k * 11 + 10, none⟩ = some (.bool (o).raw)) := by
      intro k
      by_cases hk : k < len
      · obtain ⟨x0, x1, x2, x3, x4, x5, x6, x7, x8, x9, x10, ⟨g0, g1, g2, g3, g4, g5, g6, g7, g8⟩, c0, c1, c2, c3, c4, c5, c6, c7, c8, c9, c10⟩ := hc k hk
        obtain ⟨n2, rfl, h2⟩ := u64_of g2
        obtain ⟨n3, rfl, h3⟩ := u64_of g3
        obtain ⟨n4, rfl, h4⟩ := u64_of g4
        obtain ⟨n5, rfl, h5⟩ := u64_of g5
        obtain ⟨n6, rfl, h6⟩ := u64_of g6
        obtain ⟨n7, rfl, h7⟩ := u64_of g7
        obtain ⟨n8, rfl, h8⟩ := u64_of g8
        exact ⟨⟨x0, x1, n2, n3, n4, ⟨n5, n6, n7, n8, x9⟩, x10⟩, fun _ => ⟨⟨h2, h3, h4, h5, h7, h8⟩, c0, c1, c2, c3, c4, c5, c6, c7, c8, c9, c10⟩⟩
      · exact ⟨⟨0, 0, 0, 0, 0, ⟨0, 0, 0, 0, false⟩, false⟩, fun h => absurd h hk⟩
    obtain ⟨f, hf⟩ := Classical.axiomOfChoice hc'
    exact ⟨f, hl, fun k hk => (hf k hk).1, fun _ => ⟨b, off, ha, hb, fun k hk => (hf k hk).2⟩⟩

/-- all that the loop keeps: both samplers, what was sent, and the deed at hand -/
def TB (w0 wq : World) (b : Nat) (s r : SA) (v : Value) (xs : List ST) (zb : Nat) (oc : Array Value) : Prop :=
  Own w0 wq b 78 (sam s) ∧ Own w0 wq (b + 1) 42 (rsam r) ∧ wq.ownsRow (b + 2) 30 5 v xs.length (rowsT xs) ∧ At wq zb 44 oc ∧ b + 1 < zb
section
variable {w0 wq w' : World} {b : Nat} {s s' r r' : SA} {v : Value} {xs : List ST} {zb : Nat} {oc : Array Value}
theorem TB.putS (h : TB w0 wq b s r v xs zb oc) (p : Put wq w' b 78 (sam s')) : TB w0 w' b s' r v xs zb oc :=
  ⟨h.1.put p, h.2.1.other p (by omega) h.1.2.2, row_put h.2.2.1 p (by omega), p.other h.2.2.2.1 (by have := h.2.2.2.2; omega), h.2.2.2.2⟩
theorem TB.putR (h : TB w0 wq b s r v xs zb oc) (p : Put wq w' (b + 1) 42 (rsam r')) : TB w0 w' b s r' v xs zb oc :=
  ⟨h.1.other p (by omega) h.2.1.2.2, h.2.1.put p, row_put h.2.2.1 p (by omega), p.other h.2.2.2.1 (by have := h.2.2.2.2; omega), h.2.2.2.2⟩
theorem TB.drew (h : TB w0 wq b s r v xs zb oc) : TB w0 wq.drew b s r v xs zb oc := ⟨h.1.drew, h.2.1.drew, h.2.2.1, h.2.2.2.1, h.2.2.2.2⟩
theorem TB.drewN (h : TB w0 wq b s r v xs zb oc) (n : Nat) : TB w0 (wq.drewN n) b s r v xs zb oc := ⟨h.1.drewN n, h.2.1.drewN n, h.2.2.1, h.2.2.2.1, h.2.2.2.2⟩
theorem TB.alloc (h : TB w0 wq b s r v xs zb oc) (o : Obj) : TB w0 (wq.alloc o) b s r v xs zb oc := ⟨h.1.alloc o, h.2.1.alloc o, h.2.2.1.alloc o, At.al h.2.2.2.1 o, h.2.2.2.2⟩
theorem TB.cell (h : TB w0 wq b s r v xs zb oc) (i : Nat) : wq.cell? ⟨zb, i, none⟩ = oc[i]? := h.2.2.2.1.cell i
variable (h : TB w0 wq b s r v xs zb oc)
include h
theorem TB.acked (now size : Nat) (x : ST) (hs : s.ok) (hn : now < 18446744073709551616) (hz : size < 18446744073709551616) (hx : x.ok) :
    Calls Try.prog 17 #[.pointer (some ⟨b, 0, none⟩), .int .u64 now, .int .u64 size, stv x] wq fun e w' => e = .returned (.tuple #[]) ∧ TB w0 w' b (ackF s now size x) r v xs zb oc :=
  (acked_any b s now size x hs hn hz hx wq h.1.1).mono fun e w' ⟨h1, h2⟩ => ⟨h1, h.putS h2⟩
theorem TB.racked (now size : Nat) (x : ST) (hs : r.ok) (hn : now < 18446744073709551616) (hz : size < 18446744073709551616) (hx : x.ok) :
    Calls Try.prog 21 #[.pointer (some ⟨b + 1, 0, none⟩), .int .u64 now, .int .u64 size, stv x] wq fun e w' => e = .returned (.tuple #[]) ∧ TB w0 w' b s (ackF r now size x) v xs zb oc :=
  (racked_any (b + 1) r now size x hs hn hz hx wq h.2.1.1).mono fun e w' ⟨h1, h2⟩ => ⟨h1, h.putR h2⟩
theorem TB.take (now l f : Nat) (hs : s.ok) (hn : now < 18446744073709551616) :
    Calls Try.prog 18 #[.pointer (some ⟨b, 0, none⟩), .int .u64 now, .int .u64 l, .int .u64 f] wq fun e w' => e = .returned (smp (takeV s now l f)) ∧ TB w0 w' b (takeF s) r v xs zb oc :=
  (take_any b s now l f hs hn wq h.1.1).mono fun e w' ⟨h1, h2⟩ => ⟨h1, h.putS h2⟩
theorem TB.rtake (now l f : Nat) (hs : r.ok) (hn : now < 18446744073709551616) :
    Calls Try.prog 22 #[.pointer (some ⟨b + 1, 0, none⟩), .int .u64 now, .int .u64 l, .int .u64 f] wq fun e w' => e = .returned (smp (takeV r now l f)) ∧ TB w0 w' b s (takeF r) v xs zb oc :=
  (rtake_any (b + 1) r now l f hs hn wq h.2.1.1).mono fun e w' ⟨h1, h2⟩ => ⟨h1, h.putR h2⟩
theorem TB.limit (f : Nat) (hs : s.ok) (hf : f < 18446744073709551616) :
    Calls Try.prog 23 #[.pointer (some ⟨b, 0, none⟩), .int .u64 f] wq fun e w' => e = .returned (.tuple #[]) ∧ TB w0 w' b (limF s f) r v xs zb oc :=
  (limit_any b s f hs hf wq h.1.1).mono fun e w' ⟨h1, h2⟩ => ⟨h1, h.putS h2⟩
theorem TB.rlimit (f : Nat) (hs : r.ok) (hf : f < 18446744073709551616) :
    Calls Try.prog 24 #[.pointer (some ⟨b + 1, 0, none⟩), .int .u64 f] wq fun e w' => e = .returned (.tuple #[]) ∧ TB w0 w' b s (limF r f) v xs zb oc :=
  (rlimit_any (b + 1) r f hs hf wq h.2.1.1).mono fun e w' ⟨h1, h2⟩ => ⟨h1, h.putR h2⟩
theorem TB.sent (a f : Nat) :
    Calls Try.prog 19 #[.pointer (some ⟨b, 0, none⟩), .int .u64 a, .int .u64 f] wq fun e w' => e = .returned (stv (sentV (sentF s a f) a)) ∧ TB w0 w' b (sentF s a f) r v xs zb oc :=
  (sent_any b s a f wq h.1.1).mono fun e w' ⟨h1, h2⟩ => ⟨h1, h.putS h2⟩
theorem TB.rsent (a f : Nat) :
    Calls Try.prog 25 #[.pointer (some ⟨b + 1, 0, none⟩), .int .u64 a, .int .u64 f] wq fun e w' => e = .returned (stv (sentV (sentF r a f) a)) ∧ TB w0 w' b s (sentF r a f) v xs zb oc :=
  (rsent_any (b + 1) r a f wq h.2.1.1).mono fun e w' ⟨h1, h2⟩ => ⟨h1, h.putR h2⟩
end

def TellRel (w0 : World) (b len : Nat) (v5 v6 : Value) (wr : World) : Prop :=
  ∃ (k : Nat) (s : SA) (xs : List ST) (V : Value), V = v5 ∧ k ≤ len ∧ k ≤ 80 ∧ xs.length ≤ k ∧ s.ok ∧ (∀ x ∈ xs, x.ok) ∧ v6 = .int .i64 k ∧ Own w0 wr b 78 (sam s) ∧ Own w0 wr (b + 1) 42 (rsam s) ∧ wr.ownsRow (b + 2) 30 5 V xs.length (rowsT xs)
end Go.Proofs.Ytojgpgjmcamfoaa
