/- Segments in memory; the contracts of audit.end, audit.meet, and of the reference's span. -/
import Derived.Test.YtojgpgjmcamfoaaAudP
import Derived.Test.YtojgpgjmcamfoaaObj
import Derived.Test.YtojgpgjmcamfoaaStructs
import Derived.Laws.StructEq
import Derived.Laws.Small
import Derived.StillTailTactics
import Derived.Deep.RegionHeld3
namespace Go.Proofs.Ytojgpgjmcamfoaa
open Go.RowKit Go.Lib
set_option linter.unusedVariables false

theorem retB {a b : Bool} (h : a = b) : Ending.returned (.bool a) = .returned (.bool b) := by rw [h]
abbrev segV (s : Sg) : Value := .agg #[.int .i64 s.sock, .int .u64 s.fr, .int .i64 s.len, .int .u64 s.stamp, .bool s.again]
abbrev segC (s : Sg) : Array Value := #[.int .i64 s.sock, .int .u64 s.fr, .int .i64 s.len, .int .u64 s.stamp, .bool s.again]
theorem seg_ext {a b : Sg} : a = b ↔ a.sock = b.sock ∧ (a.fr : Int) = b.fr ∧ a.len = b.len ∧ (a.stamp : Int) = b.stamp ∧ a.again = b.again := by
  obtain ⟨a1, a2, a3, a4, a5⟩ := a
  obtain ⟨b1, b2, b3, b4, b5⟩ := b
  simp only [Sg.mk.injEq, Int.ofNat_inj]
theorem seg_eql (a b : Sg) (w : World) : (binOp .eql 55 (segV a) (segV b)).run Try.prog w = .ok (.bool (decide (a = b))) w := by
  rw [run_eql_struct, run_equalIn_agg w 9999 _ _ _ (by kernel_rfl) (by kernel_rfl)]
  simp [go_sem]
  have e : decide (a = b) = decide (a.sock = b.sock ∧ (a.fr : Int) = b.fr ∧ a.len = b.len ∧ (a.stamp : Int) = b.stamp ∧ a.again = b.again) := by rw [decide_eq_decide]; exact seg_ext
  rw [e]
  repeat' split
  all_goals simp [*]

/-- a slice of segments that came in, or that is the call's own -/
def SegRow (w : World) (a : Option Addr) (l : List Sg) : Prop :=
  l.length ≤ 9223372036854775807 ∧ (∀ x ∈ l, x.ok) ∧ (0 < l.length → ∃ b off, a = some ⟨b, off, none⟩ ∧ b < w.heap.size ∧ ∀ j x, l[j]? = some x →
    w.cell? ⟨b, off + j * 5, none⟩ = some (.int .i64 x.sock) ∧ w.cell? ⟨b, off + j * 5 + 1, none⟩ = some (.int .u64 x.fr) ∧ w.cell? ⟨b, off + j * 5 + 2, none⟩ = some (.int .i64 x.len) ∧ w.cell? ⟨b, off + j * 5 + 3, none⟩ = some (.int .u64 x.stamp) ∧ w.cell? ⟨b, off + j * 5 + 4, none⟩ = some (.bool x.again))
theorem SegRow.below {w w' : World} {a : Option Addr} {l : List Sg} (h : SegRow w a l) (hb : Below w.heap.size w w') : SegRow w' a l := by
  refine ⟨h.1, h.2.1, fun h0 => ?_⟩
  obtain ⟨b, off, ha, hl, hc⟩ := h.2.2 h0
  refine ⟨b, off, ha, Nat.lt_of_lt_of_le hl hb.size, fun j x hx => ?_⟩
  obtain ⟨c0, c1, c2, c3, c4⟩ := hc j x hx
  exact ⟨(hb.cell (p := ⟨b, _, none⟩) hl).trans c0, (hb.cell (p := ⟨b, _, none⟩) hl).trans c1, (hb.cell (p := ⟨b, _, none⟩) hl).trans c2, (hb.cell (p := ⟨b, _, none⟩) hl).trans c3, (hb.cell (p := ⟨b, _, none⟩) hl).trans c4⟩
theorem SegRow.at_ {w : World} {a : Option Addr} {l : List Sg} (h : SegRow w a l) {k : Nat} (hk : k < l.length) : ∃ b off x, a = some ⟨b, off, none⟩ ∧ b < w.heap.size ∧ l[k]? = some x ∧ x.ok ∧
    w.cell? ⟨b, off + k * 5, none⟩ = some (.int .i64 x.sock) ∧ w.cell? ⟨b, off + k * 5 + 1, none⟩ = some (.int .u64 x.fr) ∧ w.cell? ⟨b, off + k * 5 + 2, none⟩ = some (.int .i64 x.len) ∧ w.cell? ⟨b, off + k * 5 + 3, none⟩ = some (.int .u64 x.stamp) ∧ w.cell? ⟨b, off + k * 5 + 4, none⟩ = some (.bool x.again) := by
  obtain ⟨b, off, ha, hl, hc⟩ := h.2.2 (by omega)
  have hx := List.getElem?_eq_getElem hk
  exact ⟨b, off, l[k], ha, hl, hx, h.2.1 _ (List.getElem_mem hk), hc k _ hx⟩

theorem end_any (s : Sg) (hs : s.ok) (w : World) :
    Calls Try.prog 48 #[segV s] w fun e w' => e = .returned (.int .u64 (endF s : Nat)) ∧ w' = w.alloc (.cells (segC s) 55) := by
  obtain ⟨sock, fr, len, stamp, again⟩ := s
  obtain ⟨_, h2, ⟨h3, h4⟩, _⟩ := hs
  simp only at h2 h3 h4
  unfold endF
  simp only
  rcases Int.lt_or_le len 0 with hl | hl
  · have CA := Lib.hid (add_any fr 0 h2 (by omega))
    rw [show len.toNat = 0 from by omega]
    go_enter Try.func48, Try.ntmps48
    go_wp2_with fail
    refine (CA.out _).mono ?_; rintro e w' ⟨rfl, rfl⟩
    go_wp2
    go_ret
    exact ⟨rfl, rfl⟩
  · obtain ⟨n, rfl⟩ := Int.eq_ofNat_of_zero_le hl
    have CA := Lib.hid (add_any fr n h2 (by omega))
    rw [Int.toNat_natCast]
    go_enter Try.func48, Try.ntmps48
    go_wp2_with fail
    refine (CA.out _).mono ?_; rintro e w' ⟨rfl, rfl⟩
    go_wp2
    go_ret
    exact ⟨rfl, rfl⟩

/-- the two copies of a call's own -/
def TwoAt (w0 w : World) (b : Nat) (x y : Sg) : Prop := At w b 55 (segC x) ∧ At w (b + 1) 55 (segC y) ∧ Below w0.heap.size w0 w
theorem TwoAt.more {w0 w : World} {b : Nat} {x y : Sg} (h : TwoAt w0 w b x y) (o : Obj) : TwoAt w0 (w.alloc o) b x y :=
  ⟨h.1.kept (World.grownBy_alloc w o none) (by simp), h.2.1.kept (World.grownBy_alloc w o none) (by simp), h.2.2.alloc h.2.2.size _⟩

theorem TwoAt.drew {w0 w : World} {b : Nat} {x y : Sg} (h : TwoAt w0 w b x y) : TwoAt w0 w.drew b x y := ⟨h.1, h.2.1, h.2.2.drew⟩
theorem below_drewN {B : Nat} {w w' : World} (h : Below B w w') (n : Nat) : Below B w (w'.drewN n) := ⟨h.os, h.tape, h.output, h.size, h.block⟩
theorem meet_no (x y : Sg) (h : x.sock ≠ y.sock) (w : World) :
    Calls Try.prog 46 #[segV x, segV y] w fun e w' => e = .returned (.bool false) ∧ Below w.heap.size w w' := by
  have y0 : (x.sock == y.sock) = false := by simpa using h
  clear h
  go_enter Try.func46, Try.ntmps46
  go_wp2_with fail
  go_quiet (fail)
  go_wp2
  go_ret
  exact ⟨rfl, below_drewN (((Below.refl _ _).alloc (Nat.le_refl _) _).alloc (by simp) _) _⟩
theorem meet_yes (x y : Sg) (h : x.sock = y.sock) (hx : x.ok) (hy : y.ok) (w : World) :
    Calls Try.prog 46 #[segV x, segV y] w fun e w' => e = .returned (.bool (decide (max x.fr y.fr < min (endF x) (endF y)))) ∧ Below w.heap.size w w' := by
  obtain ⟨sock, fr, len, stamp, again⟩ := x
  obtain ⟨sock', fr', len', stamp', again'⟩ := y
  simp only at h
  subst h
  have S0 : Hid (∀ wq, TwoAt w wq w.heap.size ⟨sock, fr, len, stamp, again⟩ ⟨sock, fr', len', stamp', again'⟩ → (fun wq => wq.cell? ⟨w.heap.size, 0, none⟩ = some (.int .i64 sock) ∧ wq.cell? ⟨w.heap.size, 1, none⟩ = some (.int .u64 fr) ∧ wq.cell? ⟨w.heap.size, 2, none⟩ = some (.int .i64 len) ∧ wq.cell? ⟨w.heap.size, 3, none⟩ = some (.int .u64 stamp) ∧ wq.cell? ⟨w.heap.size, 4, none⟩ = some (.bool again) ∧ wq.cell? ⟨w.heap.size + 1, 0, none⟩ = some (.int .i64 sock) ∧ wq.cell? ⟨w.heap.size + 1, 1, none⟩ = some (.int .u64 fr') ∧ wq.cell? ⟨w.heap.size + 1, 2, none⟩ = some (.int .i64 len') ∧ wq.cell? ⟨w.heap.size + 1, 3, none⟩ = some (.int .u64 stamp') ∧ wq.cell? ⟨w.heap.size + 1, 4, none⟩ = some (.bool again') ∧ Hid (TwoAt w wq w.heap.size ⟨sock, fr, len, stamp, again⟩ ⟨sock, fr', len', stamp', again'⟩)) wq) := Lib.hid (fun wq h => ⟨h.1.cell 0, h.1.cell 1, h.1.cell 2, h.1.cell 3, h.1.cell 4, h.2.1.cell 0, h.2.1.cell 1, h.2.1.cell 2, h.2.1.cell 3, h.2.1.cell 4, Lib.hid h⟩)
  have C1 : Hid (∀ wq, TwoAt w wq w.heap.size ⟨sock, fr, len, stamp, again⟩ ⟨sock, fr', len', stamp', again'⟩ → Calls Try.prog 48 #[segV ⟨sock, fr, len, stamp, again⟩] wq fun e w' => e = .returned (.int .u64 (endF ⟨sock, fr, len, stamp, again⟩ : Nat)) ∧ TwoAt w w' w.heap.size ⟨sock, fr, len, stamp, again⟩ ⟨sock, fr', len', stamp', again'⟩) :=
    Lib.hid (fun wq h => (end_any _ hx wq).mono fun e w' ⟨h1, h2⟩ => ⟨h1, h2 ▸ h.more _⟩)
  have C2 : Hid (∀ wq, TwoAt w wq w.heap.size ⟨sock, fr, len, stamp, again⟩ ⟨sock, fr', len', stamp', again'⟩ → Calls Try.prog 48 #[segV ⟨sock, fr', len', stamp', again'⟩] wq fun e w' => e = .returned (.int .u64 (endF ⟨sock, fr', len', stamp', again'⟩ : Nat)) ∧ TwoAt w w' w.heap.size ⟨sock, fr, len, stamp, again⟩ ⟨sock, fr', len', stamp', again'⟩) :=
    Lib.hid (fun wq h => (end_any _ hy wq).mono fun e w' ⟨h1, h2⟩ => ⟨h1, h2 ▸ h.more _⟩)
  have T0 : Hid (TwoAt w ((w.alloc (.cells (segC ⟨sock, fr, len, stamp, again⟩) 55)).alloc (.cells (segC ⟨sock, fr', len', stamp', again'⟩) 55)) w.heap.size ⟨sock, fr, len, stamp, again⟩ ⟨sock, fr', len', stamp', again'⟩) := by
    refine Lib.hid ⟨(At.made w _ _).kept (World.grownBy_alloc _ _ none) (by simp), ?_, ((Below.refl _ _).alloc (Nat.le_refl _) _).alloc (by simp) _⟩
    have := At.made (w.alloc (.cells (segC ⟨sock, fr, len, stamp, again⟩) 55)) 55 (segC ⟨sock, fr', len', stamp', again'⟩)
    rw [show (w.alloc (.cells (segC ⟨sock, fr, len, stamp, again⟩) 55)).heap.size = w.heap.size + 1 from by simp] at this
    exact this
  generalize endF ⟨sock, fr, len, stamp, again⟩ = E1 at *
  generalize endF ⟨sock, fr', len', stamp', again'⟩ = E2 at *
  go_enter Try.func46, Try.ntmps46
  go_wp2_with fail
  clear hx hy
  generalize ((w.alloc (.cells (segC ⟨sock, fr, len, stamp, again⟩) 55)).alloc (.cells (segC ⟨sock, fr', len', stamp', again'⟩) 55)) = w4 at *
  refine wp_region_held_drew (S := fun wq => wq.cell? ⟨w.heap.size, 0, none⟩ = some (.int .i64 sock) ∧ wq.cell? ⟨w.heap.size, 1, none⟩ = some (.int .u64 fr) ∧ wq.cell? ⟨w.heap.size, 2, none⟩ = some (.int .i64 len) ∧ wq.cell? ⟨w.heap.size, 3, none⟩ = some (.int .u64 stamp) ∧ wq.cell? ⟨w.heap.size, 4, none⟩ = some (.bool again) ∧ wq.cell? ⟨w.heap.size + 1, 0, none⟩ = some (.int .i64 sock) ∧ wq.cell? ⟨w.heap.size + 1, 1, none⟩ = some (.int .u64 fr') ∧ wq.cell? ⟨w.heap.size + 1, 2, none⟩ = some (.int .i64 len') ∧ wq.cell? ⟨w.heap.size + 1, 3, none⟩ = some (.int .u64 stamp') ∧ wq.cell? ⟨w.heap.size + 1, 4, none⟩ = some (.bool again') ∧ Hid (TwoAt w wq w.heap.size ⟨sock, fr, len, stamp, again⟩ ⟨sock, fr', len', stamp', again'⟩)) (by kernel_rfl) (S0.out _ T0.out.drew) (fun hHeld => ?_)
  clear T0
  refine wpAnyH_take (i := 0) (oi := { dst := some 5, op := Go.Op.fieldAddr 55 (Go.Operand.tmp 2) 0, type := 0, pos := "audit.go:24", after := #[], guard := none }) (v := ?_) rfl (by kernel_rfl) (by kernel_rfl) (by kernel_rfl) (fun _ _ _ h => h) (Or.inl ⟨by rfl, ?_⟩) (by assumption) ?_
  (rotate_left; focus (intro wx hSw; (try dsimp only at hSw); go_simp; try with_reducible rfl))
  (try simp only [Act.put, List.setIfInBounds_toArray, List.set_cons_zero, List.set_cons_succ])  -- 0 fieldAddr none
  refine wpAnyH_take (i := 1) (oi := { dst := some 6, op := Go.Op.load 3 (Go.Operand.tmp 5), type := 3, pos := "audit.go:24", after := #[{ on := 0, ground := Go.Ground.data }], guard := none }) (v := ?_) rfl (by kernel_rfl) (by kernel_rfl) (by kernel_rfl) (fun _ _ _ h => h) (Or.inl ⟨by rfl, ?_⟩) (by assumption) ?_
  (rotate_left; focus (intro wx hSw; (try dsimp only at hSw); go_simp; try with_reducible rfl))
  (try simp only [Act.put, List.setIfInBounds_toArray, List.set_cons_zero, List.set_cons_succ])  -- 1 load none
  refine wpAnyH_take (i := 2) (oi := { dst := some 7, op := Go.Op.fieldAddr 55 (Go.Operand.tmp 3) 0, type := 0, pos := "audit.go:24", after := #[], guard := none }) (v := ?_) rfl (by kernel_rfl) (by kernel_rfl) (by kernel_rfl) (fun _ _ _ h => h) (Or.inl ⟨by rfl, ?_⟩) (by assumption) ?_
  (rotate_left; focus (intro wx hSw; (try dsimp only at hSw); go_simp; try with_reducible rfl))
  (try simp only [Act.put, List.setIfInBounds_toArray, List.set_cons_zero, List.set_cons_succ])  -- 2 fieldAddr none
  refine wpAnyH_take (i := 3) (oi := { dst := some 8, op := Go.Op.load 3 (Go.Operand.tmp 7), type := 3, pos := "audit.go:24", after := #[{ on := 2, ground := Go.Ground.data }], guard := none }) (v := ?_) rfl (by kernel_rfl) (by kernel_rfl) (by kernel_rfl) (fun _ _ _ h => h) (Or.inl ⟨by rfl, ?_⟩) (by assumption) ?_
  (rotate_left; focus (intro wx hSw; (try dsimp only at hSw); go_simp; try with_reducible rfl))
  (try simp only [Act.put, List.setIfInBounds_toArray, List.set_cons_zero, List.set_cons_succ])  -- 3 load none
  refine wpAnyH_take (i := 4) (oi := { dst := some 9, op := Go.Op.binOp Go.BinOp.eql 3 (Go.Operand.tmp 6) (Go.Operand.tmp 8) 3, type := 4, pos := "audit.go:24", after := #[{ on := 1, ground := Go.Ground.data }, { on := 3, ground := Go.Ground.data }], guard := none }) (v := ?_) rfl (by kernel_rfl) (by kernel_rfl) (by kernel_rfl) (fun _ _ _ h => h) (Or.inl ⟨by rfl, ?_⟩) (by assumption) ?_
  (rotate_left; focus (intro wx hSw; (try dsimp only at hSw); go_simp; try with_reducible rfl))
  (try simp only [Act.put, List.setIfInBounds_toArray, List.set_cons_zero, List.set_cons_succ])  -- 4 binOp none
  refine wpAnyH_take (i := 5) (oi := { dst := some 10, op := Go.Op.move (Go.Operand.tmp 9), type := 4, pos := "audit.go:24", after := #[{ on := 4, ground := Go.Ground.data }], guard := none }) (v := ?_) rfl (by kernel_rfl) (by kernel_rfl) (by kernel_rfl) (fun _ _ _ h => h) (Or.inl ⟨by rfl, ?_⟩) (by assumption) ?_
  (rotate_left; focus (intro wx hSw; (try dsimp only at hSw); go_simp; try with_reducible rfl))
  (try simp only [Act.put, List.setIfInBounds_toArray, List.set_cons_zero, List.set_cons_succ])  -- 5 move none
  refine wpAnyH_take (i := 6) (oi := { dst := some 11, op := Go.Op.fieldAddr 55 (Go.Operand.tmp 2) 1, type := 0, pos := "audit.go:24", after := #[{ on := 5, ground := Go.Ground.guard }], guard := some (5, true) }) (v := ?_) rfl (by kernel_rfl) (by kernel_rfl) (by kernel_rfl) (fun _ _ _ h => h) (Or.inl ⟨by rfl, ?_⟩) (by assumption) ?_
  (rotate_left; focus (intro wx hSw; (try dsimp only at hSw); go_simp; try with_reducible rfl))
  (try simp only [Act.put, List.setIfInBounds_toArray, List.set_cons_zero, List.set_cons_succ])  -- 6 fieldAddr some (5, true)
  refine wpAnyH_take (i := 7) (oi := { dst := some 12, op := Go.Op.load 22 (Go.Operand.tmp 11), type := 22, pos := "audit.go:24", after := #[{ on := 6, ground := Go.Ground.data }, { on := 5, ground := Go.Ground.guard }], guard := some (5, true) }) (v := ?_) rfl (by kernel_rfl) (by kernel_rfl) (by kernel_rfl) (fun _ _ _ h => h) (Or.inl ⟨by rfl, ?_⟩) (by assumption) ?_
  (rotate_left; focus (intro wx hSw; (try dsimp only at hSw); go_simp; try with_reducible rfl))
  (try simp only [Act.put, List.setIfInBounds_toArray, List.set_cons_zero, List.set_cons_succ])  -- 7 load some (5, true)
  refine wpAnyH_take (i := 8) (oi := { dst := some 13, op := Go.Op.fieldAddr 55 (Go.Operand.tmp 3) 1, type := 0, pos := "audit.go:24", after := #[{ on := 5, ground := Go.Ground.guard }], guard := some (5, true) }) (v := ?_) rfl (by kernel_rfl) (by kernel_rfl) (by kernel_rfl) (fun _ _ _ h => h) (Or.inl ⟨by rfl, ?_⟩) (by assumption) ?_
  (rotate_left; focus (intro wx hSw; (try dsimp only at hSw); go_simp; try with_reducible rfl))
  (try simp only [Act.put, List.setIfInBounds_toArray, List.set_cons_zero, List.set_cons_succ])  -- 8 fieldAddr some (5, true)
  refine wpAnyH_take (i := 9) (oi := { dst := some 14, op := Go.Op.load 22 (Go.Operand.tmp 13), type := 22, pos := "audit.go:24", after := #[{ on := 8, ground := Go.Ground.data }, { on := 5, ground := Go.Ground.guard }], guard := some (5, true) }) (v := ?_) rfl (by kernel_rfl) (by kernel_rfl) (by kernel_rfl) (fun _ _ _ h => h) (Or.inl ⟨by rfl, ?_⟩) (by assumption) ?_
  (rotate_left; focus (intro wx hSw; (try dsimp only at hSw); go_simp; try with_reducible rfl))
  (try simp only [Act.put, List.setIfInBounds_toArray, List.set_cons_zero, List.set_cons_succ])  -- 9 load some (5, true)
  refine wpAnyH_take (i := 10) (oi := { dst := some 15, op := Go.Op.call { callee := Go.Callee.builtin Go.Builtin.max, args := #[Go.Operand.tmp 12, Go.Operand.tmp 14], argTypes := #[22, 22] }, type := 22, pos := "audit.go:24", after := #[{ on := 7, ground := Go.Ground.data }, { on := 9, ground := Go.Ground.data }, { on := 5, ground := Go.Ground.guard }], guard := some (5, true) }) (v := ?_) rfl (by kernel_rfl) (by kernel_rfl) (by kernel_rfl) (fun _ _ _ h => h) (Or.inl ⟨by rfl, ?_⟩) (by assumption) ?_
  (rotate_left; focus (intro wx hSw; (try dsimp only at hSw); go_simp; try with_reducible rfl))
  (try simp only [Act.put, List.setIfInBounds_toArray, List.set_cons_zero, List.set_cons_succ])  -- 10 call some (5, true)
  refine wpAnyH_take (i := 11) (oi := { dst := some 16, op := Go.Op.load 55 (Go.Operand.tmp 2), type := 55, pos := "audit.go:24", after := #[{ on := 5, ground := Go.Ground.guard }], guard := some (5, true) }) (v := ?_) rfl (by kernel_rfl) (by kernel_rfl) (by kernel_rfl) (fun _ _ _ h => h) (Or.inl ⟨by rfl, ?_⟩) (by assumption) ?_
  (rotate_left; focus (intro wx hSw; (try dsimp only at hSw); go_simp; try with_reducible rfl))
  (try simp only [Act.put, List.setIfInBounds_toArray, List.set_cons_zero, List.set_cons_succ])  -- 11 load some (5, true)
  refine wpAnyH_take (i := 13) (oi := { dst := some 18, op := Go.Op.load 55 (Go.Operand.tmp 3), type := 55, pos := "audit.go:24", after := #[{ on := 5, ground := Go.Ground.guard }], guard := some (5, true) }) (v := ?_) rfl (by kernel_rfl) (by kernel_rfl) (by kernel_rfl) (fun _ _ _ h => h) (Or.inl ⟨by rfl, ?_⟩) (by assumption) ?_
  (rotate_left; focus (intro wx hSw; (try dsimp only at hSw); go_simp; try with_reducible rfl))
  (try simp only [Act.put, List.setIfInBounds_toArray, List.set_cons_zero, List.set_cons_succ])  -- 13 load some (5, true)
  refine wpAnyH_ready (rs := [12]) (by kernel_rfl) (by simp) ?_
  refine AllReadyH.cons (o := { dst := some 17, op := Go.Op.call { callee := Go.Callee.value (Go.Operand.func 48), args := #[Go.Operand.tmp 16], argTypes := #[55] }, type := 22, pos := "audit.go:24", after := #[{ on := 11, ground := Go.Ground.data }, { on := 5, ground := Go.Ground.chain }, { on := 5, ground := Go.Ground.guard }], guard := some (5, true) }) rfl (fun K hK => ?_) AllReadyH.nil
  go_simp
  refine (C1.out _ hHeld.2.2.2.2.2.2.2.2.2.2.out).mono ?_; rintro e w5 ⟨rfl, t5⟩
  refine hK.out _ _ ?_ (fun hHeld => ?_)
  focus exact S0.out _ t5
  clear hK K
  (try simp only [Act.put, List.setIfInBounds_toArray, List.set_cons_zero, List.set_cons_succ])  -- 12 call some (5, true)
  refine wpAnyH_ready (rs := [14]) (by kernel_rfl) (by simp) ?_
  refine AllReadyH.cons (o := { dst := some 19, op := Go.Op.call { callee := Go.Callee.value (Go.Operand.func 48), args := #[Go.Operand.tmp 18], argTypes := #[55] }, type := 22, pos := "audit.go:24", after := #[{ on := 13, ground := Go.Ground.data }, { on := 12, ground := Go.Ground.chain }, { on := 5, ground := Go.Ground.guard }], guard := some (5, true) }) rfl (fun K hK => ?_) AllReadyH.nil
  go_simp
  refine (C2.out _ hHeld.2.2.2.2.2.2.2.2.2.2.out).mono ?_; rintro e w6 ⟨rfl, t6⟩
  refine hK.out _ _ ?_ (fun hHeld => ?_)
  focus exact S0.out _ t6
  clear hK K
  (try simp only [Act.put, List.setIfInBounds_toArray, List.set_cons_zero, List.set_cons_succ])  -- 14 call some (5, true)
  refine wpAnyH_take (i := 15) (oi := { dst := some 20, op := Go.Op.call { callee := Go.Callee.builtin Go.Builtin.min, args := #[Go.Operand.tmp 17, Go.Operand.tmp 19], argTypes := #[22, 22] }, type := 22, pos := "audit.go:24", after := #[{ on := 12, ground := Go.Ground.data }, { on := 14, ground := Go.Ground.data }, { on := 5, ground := Go.Ground.guard }], guard := some (5, true) }) (v := ?_) rfl (by kernel_rfl) (by kernel_rfl) (by kernel_rfl) (fun _ _ _ h => h) (Or.inl ⟨by rfl, ?_⟩) (by assumption) ?_
  (rotate_left; focus (intro wx hSw; (try dsimp only at hSw); go_simp; try with_reducible rfl))
  (try simp only [Act.put, List.setIfInBounds_toArray, List.set_cons_zero, List.set_cons_succ])  -- 15 call some (5, true)
  refine wpAnyH_take (i := 16) (oi := { dst := some 21, op := Go.Op.binOp Go.BinOp.lss 22 (Go.Operand.tmp 15) (Go.Operand.tmp 20) 22, type := 4, pos := "audit.go:24", after := #[{ on := 10, ground := Go.Ground.data }, { on := 15, ground := Go.Ground.data }, { on := 5, ground := Go.Ground.guard }], guard := some (5, true) }) (v := ?_) rfl (by kernel_rfl) (by kernel_rfl) (by kernel_rfl) (fun _ _ _ h => h) (Or.inl ⟨by rfl, ?_⟩) (by assumption) ?_
  (rotate_left; focus (intro wx hSw; (try dsimp only at hSw); go_simp; try with_reducible rfl))
  (try simp only [Act.put, List.setIfInBounds_toArray, List.set_cons_zero, List.set_cons_succ])  -- 16 binOp some (5, true)
  refine wpAnyH_take (i := 17) (oi := { dst := some 22, op := Go.Op.pick (Go.Operand.tmp 10) (Go.Operand.tmp 21) (Go.Operand.const (Go.Value.bool false)), type := 4, pos := "audit.go:24", after := #[{ on := 5, ground := Go.Ground.data }, { on := 16, ground := Go.Ground.data }], guard := none }) (v := ?_) rfl (by kernel_rfl) (by kernel_rfl) (by kernel_rfl) (fun _ _ _ h => h) (Or.inl ⟨by rfl, ?_⟩) (by assumption) ?_
  (rotate_left; focus (intro wx hSw; (try dsimp only at hSw); go_simp; try with_reducible rfl))
  (try simp only [Act.put, List.setIfInBounds_toArray, List.set_cons_zero, List.set_cons_succ])  -- 17 pick none
  refine wpAnyH_take (i := 18) (oi := { dst := some 4, op := Go.Op.assign (Go.Operand.tmp 22), type := 4, pos := "audit.go:24", after := #[{ on := 17, ground := Go.Ground.data }, { on := 14, ground := Go.Ground.chain }, { on := 0, ground := Go.Ground.phase }, { on := 1, ground := Go.Ground.phase }, { on := 2, ground := Go.Ground.phase }, { on := 3, ground := Go.Ground.phase }, { on := 4, ground := Go.Ground.phase }, { on := 5, ground := Go.Ground.phase }, { on := 6, ground := Go.Ground.phase }, { on := 7, ground := Go.Ground.phase }, { on := 8, ground := Go.Ground.phase }, { on := 9, ground := Go.Ground.phase }, { on := 10, ground := Go.Ground.phase }, { on := 11, ground := Go.Ground.phase }, { on := 12, ground := Go.Ground.phase }, { on := 13, ground := Go.Ground.phase }, { on := 14, ground := Go.Ground.phase }, { on := 15, ground := Go.Ground.phase }, { on := 16, ground := Go.Ground.phase }, { on := 17, ground := Go.Ground.phase }], guard := none }) (v := ?_) rfl (by kernel_rfl) (by kernel_rfl) (by kernel_rfl) (fun _ _ _ h => h) (Or.inl ⟨by rfl, ?_⟩) (by assumption) ?_
  (rotate_left; focus (intro wx hSw; (try dsimp only at hSw); go_simp; try with_reducible rfl))
  (try simp only [Act.put, List.setIfInBounds_toArray, List.set_cons_zero, List.set_cons_succ])  -- 18 assign none
  refine wpAnyH_done (by kernel_rfl) ?_ _
  have B6 := Lib.hid t6.2.2
  clear hHeld t5 t6 C1 C2 S0
  go_wp2
  all_goals go_ret
  all_goals exact ⟨retB (by rw [decide_eq_decide]; omega), B6.out⟩
theorem meet_any (x y : Sg) (hx : x.ok) (hy : y.ok) (w : World) :
    Calls Try.prog 46 #[segV x, segV y] w fun e w' => e = .returned (.bool (meetF x y)) ∧ Below w.heap.size w w' := by
  unfold meetF
  by_cases h : x.sock = y.sock
  · rw [decide_eq_true h, Bool.true_and]
    exact meet_yes x y h hx hy w
  · rw [decide_eq_false h, Bool.false_and]
    exact meet_no x y h w

theorem span_any (s : Sg) (hs : s.ok) (w : World) :
    Calls Try.prog 47 #[segV s] w fun e w' => e = .returned (.tuple #[.int .u64 s.fr, .int .u64 (endF s : Nat)]) ∧ Below w.heap.size w w' := by
  obtain ⟨sock, fr, len, stamp, again⟩ := s
  obtain ⟨_, h2, ⟨h3, h4⟩, _⟩ := hs
  simp only at h2 h3 h4
  unfold endF
  simp only
  rcases Int.lt_or_le len 1 with hl | hl
  · have CA := Lib.hid (radd_any fr 0 h2 (by omega))
    rw [show len.toNat = 0 from by omega]
    have hp : ¬ 0 < len := by omega
    go_enter Try.func47, Try.ntmps47
    go_wp2_with fail
    go_quiet ((go_at_call 44; exact still (CA.out _)))
    go_wp2
    go_ret2
    exact ⟨rfl, below_drewN ((Below.refl _ _).alloc (Nat.le_refl _) _) _⟩
  · obtain ⟨n, rfl⟩ := Int.eq_ofNat_of_zero_le (show 0 ≤ len by omega)
    have CA := Lib.hid (radd_any fr n h2 (by omega))
    rw [Int.toNat_natCast]
    have hp : 0 < (n : Int) := by omega
    have hw : IntKind.u64.wrap (n : Int) = n := by rw [IntKind.wrap_u64]; omega
    go_enter Try.func47, Try.ntmps47
    go_wp2_with fail
    go_quiet ((go_at_call 44; exact still (CA.out _)))
    go_wp2
    go_ret2
    exact ⟨rfl, below_drewN ((Below.refl _ _).alloc (Nat.le_refl _) _) _⟩

theorem segRow_of {w : World} {a : Option Addr} {len : Nat} (hl : len ≤ 9223372036854775807)
    (h : 0 < len → ∃ b off, a = some ⟨b, off, none⟩ ∧ b < w.heap.size ∧ ∀ k, k < len → ∃ (x0 x1 x2 x3 : Int) (x4 : Bool), ((Lit.int .i64 x0).wf = true ∧ (Lit.int .u64 x1).wf = true ∧ (Lit.int .i64 x2).wf = true ∧ (Lit.int .u64 x3).wf = true) ∧
      w.cell? ⟨b, off + k * 5, none⟩ = some (.int .i64 x0) ∧ w.cell? ⟨b, off + k * 5 + 1, none⟩ = some (.int .u64 x1) ∧ w.cell? ⟨b, off + k * 5 + 2, none⟩ = some (.int .i64 x2) ∧ w.cell? ⟨b, off + k * 5 + 3, none⟩ = some (.int .u64 x3) ∧ w.cell? ⟨b, off + k * 5 + 4, none⟩ = some (.bool x4)) :
    ∃ l, SegRow w a l ∧ l.length = len := by
  rcases Nat.eq_zero_or_pos len with rfl | hp
  · exact ⟨[], ⟨by simp, by simp, fun h => by simp at h⟩, rfl⟩
  · obtain ⟨b, off, ha, hb, hc⟩ := h hp
    have hc' : ∀ k, ∃ o : Sg, k < len → o.ok ∧ w.cell? ⟨b, off + k * 5, none⟩ = some (.int .i64 o.sock) ∧ w.cell? ⟨b, off + k * 5 + 1, none⟩ = some (.int .u64 o.fr) ∧ w.cell? ⟨b, off + k * 5 + 2, none⟩ = some (.int .i64 o.len) ∧ w.cell? ⟨b, off + k * 5 + 3, none⟩ = some (.int .u64 o.stamp) ∧ w.cell? ⟨b, off + k * 5 + 4, none⟩ = some (.bool o.again) := by
      intro k
      by_cases hk : k < len
      · obtain ⟨x0, x1, x2, x3, x4, ⟨w0, w1, w2, w3⟩, c0, c1, c2, c3, c4⟩ := hc k hk
        obtain ⟨n1, rfl, h1⟩ := u64_of w1
        obtain ⟨n3, rfl, h3⟩ := u64_of w3
        exact ⟨⟨x0, n1, x2, n3, x4⟩, fun _ => ⟨⟨bounds_i64 w0, h1, bounds_i64 w2, h3⟩, c0, c1, c2, c3, c4⟩⟩
      · exact ⟨sg0, fun h => absurd h hk⟩
    obtain ⟨f, hf⟩ := Classical.axiomOfChoice hc'
    refine ⟨(List.range len).map f, ⟨by simp; omega, fun x hx => ?_, fun _ => ⟨b, off, ha, hb, fun j x hx => ?_⟩⟩, by simp⟩
    · obtain ⟨i, hi, rfl⟩ := List.mem_map.1 hx
      exact (hf i (List.mem_range.1 hi)).1
    · rw [List.getElem?_map] at hx
      rcases Nat.lt_or_ge j len with hj | hj
      · rw [List.getElem?_range hj] at hx
        simp at hx
        subst hx
        exact (hf j hj).2
      · rw [List.getElem?_eq_none (by simpa using hj)] at hx
        cases hx
end Go.Proofs.Ytojgpgjmcamfoaa
