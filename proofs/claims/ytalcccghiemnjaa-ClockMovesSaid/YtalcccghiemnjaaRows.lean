/-
  No cell of these rows narrows 'for every input' (looked for: loops, veiled, ifaces, maps, wideKeys, modest, calm, conditions, laid).
  DERIVED. THE GIVEN ROWS OF THIS SEAT. 11 by the template 'for every input the law returns true; each argument reads behind the call as it read before'; 0 by the template 'total and deterministic' (their statements: YtalcccghiemnjaaTotals.lean).
  GIVEN WITH THE SEED: the statements are not yours to turn. If you find one false, say at which input.
  Laid BY PROGRAM, IN A SANDBOX (cutbox-rows.mjs): the forced cells as the released guide's own fill.sh prints them over the translation 7bc665dfdf16291e… (all of the seat's roots in one cut). By AI agents, Wed Nov 11 2026. No macro, syntax, notation, axiom, sorry.
-/
import Derived.Test.YtalcccghiemnjaaChecked
import GoSem.Claim
import GoSem.ClaimJoined
import GoSem.ClaimMapViews
import Derived.JoinedTies
import Derived.KernelRfl
namespace Go.Proofs.Ytalcccghiemnjaa
/- THE CELL 'sum', in the pinned program and in every row, IS THE sha256 OF THE DUMP (.gsa) THAT YtalcccghiemnjaaProg.lean LOADS. Nothing in Lean hashes anything: it is a label: what it is worth is what the hold of that sum in a sandbox is worth. -/
noncomputable def Try.pinned : Pinned := { name := "ytalcccghiemnjaa", sum := "7bc665dfdf16291e8860a30ebbd23fc6f7c5207bf12679358f5275fc146f7232", checked := Try.checked }
namespace Rows
def none {H : Type} : Left H := { results := [], args := [] }

/-- 'canterlaw14.CycleRound': WHATEVER THE INPUT: true; the input reads as it did. -/
def cycleRoundSpec : ChangeSpec := { name := "cycleRound", fn := fun _ => fun
  | [d1, d2, d3] => { results := [.lit (.bool true)], args := [d1, d2, d3] }
  | _ => none }
def cycleRoundRow : OpenClaim := { program := "ytalcccghiemnjaa", sum := "7bc665dfdf16291e8860a30ebbd23fc6f7c5207bf12679358f5275fc146f7232", func := "canter/canterlaw14.CycleRound", spec := "cycleRound", apart := false }
def CycleRoundSaid : Prop := cycleRoundRow.holds Try.pinned (OpenSpec.ofChange cycleRoundSpec)

/-- ITS FALSE NEIGHBOUR: 'it returns false'. Refute it at one input. -/
def cycleRoundWrong : ChangeSpec := { name := "cycleRound", fn := fun _ => fun
  | [d1, d2, d3] => { results := [.lit (.bool false)], args := [d1, d2, d3] }
  | _ => none }
def CycleRoundWrongFalsely : Prop := cycleRoundRow.holds Try.pinned (OpenSpec.ofChange cycleRoundWrong)

/-- 'canterlaw14.CycleHolds': WHATEVER THE INPUT: true; the input reads as it did. -/
def cycleHoldsSpec : ChangeSpec := { name := "cycleHolds", fn := fun _ => fun
  | [d1, d2, d3, d4] => { results := [.lit (.bool true)], args := [d1, d2, d3, d4] }
  | _ => none }
def cycleHoldsRow : OpenClaim := { program := "ytalcccghiemnjaa", sum := "7bc665dfdf16291e8860a30ebbd23fc6f7c5207bf12679358f5275fc146f7232", func := "canter/canterlaw14.CycleHolds", spec := "cycleHolds", apart := false }
def CycleHoldsSaid : Prop := cycleHoldsRow.holds Try.pinned (OpenSpec.ofChange cycleHoldsSpec)

/-- ITS FALSE NEIGHBOUR: 'it returns false'. Refute it at one input. -/
def cycleHoldsWrong : ChangeSpec := { name := "cycleHolds", fn := fun _ => fun
  | [d1, d2, d3, d4] => { results := [.lit (.bool false)], args := [d1, d2, d3, d4] }
  | _ => none }
def CycleHoldsWrongFalsely : Prop := cycleHoldsRow.holds Try.pinned (OpenSpec.ofChange cycleHoldsWrong)

/-- 'canterlaw03.ClockMoves': WHATEVER THE INPUT: true; the input reads as it did. -/
def clockMovesSpec : ChangeSpec := { name := "clockMoves", fn := fun _ => fun
  | [d1, d2, d3] => { results := [.lit (.bool true)], args := [d1, d2, d3] }
  | _ => none }
def clockMovesRow : OpenClaim := { program := "ytalcccghiemnjaa", sum := "7bc665dfdf16291e8860a30ebbd23fc6f7c5207bf12679358f5275fc146f7232", func := "canter/canterlaw03.ClockMoves", spec := "clockMoves", inPlace := ["math/bits.Add64"], apart := false }
def ClockMovesSaid : Prop := clockMovesRow.holds Try.pinned (OpenSpec.ofChange clockMovesSpec)

/-- ITS FALSE NEIGHBOUR: 'it returns false'. Refute it at one input. -/
def clockMovesWrong : ChangeSpec := { name := "clockMoves", fn := fun _ => fun
  | [d1, d2, d3] => { results := [.lit (.bool false)], args := [d1, d2, d3] }
  | _ => none }
def ClockMovesWrongFalsely : Prop := clockMovesRow.holds Try.pinned (OpenSpec.ofChange clockMovesWrong)

/-- 'canterlaw03.ClockNil': WHATEVER THE INPUT: true; the input reads as it did. -/
def clockNilSpec : ChangeSpec := { name := "clockNil", fn := fun _ => fun
  | [d] => { results := [.lit (.bool true)], args := [d] }
  | _ => none }
def clockNilRow : OpenClaim := { program := "ytalcccghiemnjaa", sum := "7bc665dfdf16291e8860a30ebbd23fc6f7c5207bf12679358f5275fc146f7232", func := "canter/canterlaw03.ClockNil", spec := "clockNil", inPlace := ["math/bits.Add64"], apart := false }
def ClockNilSaid : Prop := clockNilRow.holds Try.pinned (OpenSpec.ofChange clockNilSpec)

/-- ITS FALSE NEIGHBOUR: 'it returns false'. Refute it at one input. -/
def clockNilWrong : ChangeSpec := { name := "clockNil", fn := fun _ => fun
  | [d] => { results := [.lit (.bool false)], args := [d] }
  | _ => none }
def ClockNilWrongFalsely : Prop := clockNilRow.holds Try.pinned (OpenSpec.ofChange clockNilWrong)

/-- 'canterlaw03.ClockSteps': WHATEVER THE INPUT: true; the input reads as it did. -/
def clockStepsSpec : ChangeSpec := { name := "clockSteps", fn := fun _ => fun
  | [d1, d2] => { results := [.lit (.bool true)], args := [d1, d2] }
  | _ => none }
def clockStepsRow : OpenClaim := { program := "ytalcccghiemnjaa", sum := "7bc665dfdf16291e8860a30ebbd23fc6f7c5207bf12679358f5275fc146f7232", func := "canter/canterlaw03.ClockSteps", spec := "clockSteps", inPlace := ["math/bits.Add64"], apart := false }
def ClockStepsSaid : Prop := clockStepsRow.holds Try.pinned (OpenSpec.ofChange clockStepsSpec)

/-- ITS FALSE NEIGHBOUR: 'it returns false'. Refute it at one input. -/
def clockStepsWrong : ChangeSpec := { name := "clockSteps", fn := fun _ => fun
  | [d1, d2] => { results := [.lit (.bool false)], args := [d1, d2] }
  | _ => none }
def ClockStepsWrongFalsely : Prop := clockStepsRow.holds Try.pinned (OpenSpec.ofChange clockStepsWrong)

/-- 'canterlaw02.WideTells': WHATEVER THE INPUT: true; the input reads as it did. -/
def wideTellsSpec : ChangeSpec := { name := "wideTells", fn := fun _ => fun
  | [d1, d2, d3] => { results := [.lit (.bool true)], args := [d1, d2, d3] }
  | _ => none }
def wideTellsRow : OpenClaim := { program := "ytalcccghiemnjaa", sum := "7bc665dfdf16291e8860a30ebbd23fc6f7c5207bf12679358f5275fc146f7232", func := "canter/canterlaw02.WideTells", spec := "wideTells", apart := false }
def WideTellsSaid : Prop := wideTellsRow.holds Try.pinned (OpenSpec.ofChange wideTellsSpec)

/-- ITS FALSE NEIGHBOUR: 'it returns false'. Refute it at one input. -/
def wideTellsWrong : ChangeSpec := { name := "wideTells", fn := fun _ => fun
  | [d1, d2, d3] => { results := [.lit (.bool false)], args := [d1, d2, d3] }
  | _ => none }
def WideTellsWrongFalsely : Prop := wideTellsRow.holds Try.pinned (OpenSpec.ofChange wideTellsWrong)

/-- 'canterlaw02.WideBack': WHATEVER THE INPUT: true; the input reads as it did. -/
def wideBackSpec : ChangeSpec := { name := "wideBack", fn := fun _ => fun
  | [d1, d2, d3] => { results := [.lit (.bool true)], args := [d1, d2, d3] }
  | _ => none }
def wideBackRow : OpenClaim := { program := "ytalcccghiemnjaa", sum := "7bc665dfdf16291e8860a30ebbd23fc6f7c5207bf12679358f5275fc146f7232", func := "canter/canterlaw02.WideBack", spec := "wideBack", apart := false }
def WideBackSaid : Prop := wideBackRow.holds Try.pinned (OpenSpec.ofChange wideBackSpec)

/-- ITS FALSE NEIGHBOUR: 'it returns false'. Refute it at one input. -/
def wideBackWrong : ChangeSpec := { name := "wideBack", fn := fun _ => fun
  | [d1, d2, d3] => { results := [.lit (.bool false)], args := [d1, d2, d3] }
  | _ => none }
def WideBackWrongFalsely : Prop := wideBackRow.holds Try.pinned (OpenSpec.ofChange wideBackWrong)

/-- 'canterlaw02.WideOrders': WHATEVER THE INPUT: true; the input reads as it did. -/
def wideOrdersSpec : ChangeSpec := { name := "wideOrders", fn := fun _ => fun
  | [d1, d2, d3, d4] => { results := [.lit (.bool true)], args := [d1, d2, d3, d4] }
  | _ => none }
def wideOrdersRow : OpenClaim := { program := "ytalcccghiemnjaa", sum := "7bc665dfdf16291e8860a30ebbd23fc6f7c5207bf12679358f5275fc146f7232", func := "canter/canterlaw02.WideOrders", spec := "wideOrders", apart := false }
def WideOrdersSaid : Prop := wideOrdersRow.holds Try.pinned (OpenSpec.ofChange wideOrdersSpec)

/-- ITS FALSE NEIGHBOUR: 'it returns false'. Refute it at one input. -/
def wideOrdersWrong : ChangeSpec := { name := "wideOrders", fn := fun _ => fun
  | [d1, d2, d3, d4] => { results := [.lit (.bool false)], args := [d1, d2, d3, d4] }
  | _ => none }
def WideOrdersWrongFalsely : Prop := wideOrdersRow.holds Try.pinned (OpenSpec.ofChange wideOrdersWrong)

/-- 'canterlaw02.WideSmall': WHATEVER THE INPUT: true; the input reads as it did. -/
def wideSmallSpec : ChangeSpec := { name := "wideSmall", fn := fun _ => fun
  | [d1, d2, d3] => { results := [.lit (.bool true)], args := [d1, d2, d3] }
  | _ => none }
def wideSmallRow : OpenClaim := { program := "ytalcccghiemnjaa", sum := "7bc665dfdf16291e8860a30ebbd23fc6f7c5207bf12679358f5275fc146f7232", func := "canter/canterlaw02.WideSmall", spec := "wideSmall", apart := false }
def WideSmallSaid : Prop := wideSmallRow.holds Try.pinned (OpenSpec.ofChange wideSmallSpec)

/-- ITS FALSE NEIGHBOUR: 'it returns false'. Refute it at one input. -/
def wideSmallWrong : ChangeSpec := { name := "wideSmall", fn := fun _ => fun
  | [d1, d2, d3] => { results := [.lit (.bool false)], args := [d1, d2, d3] }
  | _ => none }
def WideSmallWrongFalsely : Prop := wideSmallRow.holds Try.pinned (OpenSpec.ofChange wideSmallWrong)

/-- 'canterlaw02.WideParts': WHATEVER THE INPUT: true; the input reads as it did. -/
def widePartsSpec : ChangeSpec := { name := "wideParts", fn := fun _ => fun
  | [d1, d2, d3] => { results := [.lit (.bool true)], args := [d1, d2, d3] }
  | _ => none }
def widePartsRow : OpenClaim := { program := "ytalcccghiemnjaa", sum := "7bc665dfdf16291e8860a30ebbd23fc6f7c5207bf12679358f5275fc146f7232", func := "canter/canterlaw02.WideParts", spec := "wideParts", apart := false }
def WidePartsSaid : Prop := widePartsRow.holds Try.pinned (OpenSpec.ofChange widePartsSpec)

/-- ITS FALSE NEIGHBOUR: 'it returns false'. Refute it at one input. -/
def widePartsWrong : ChangeSpec := { name := "wideParts", fn := fun _ => fun
  | [d1, d2, d3] => { results := [.lit (.bool false)], args := [d1, d2, d3] }
  | _ => none }
def WidePartsWrongFalsely : Prop := widePartsRow.holds Try.pinned (OpenSpec.ofChange widePartsWrong)

/-- 'canterlaw02.WideCuts': WHATEVER THE INPUT: true; the input reads as it did. -/
def wideCutsSpec : ChangeSpec := { name := "wideCuts", fn := fun _ => fun
  | [d1, d2, d3] => { results := [.lit (.bool true)], args := [d1, d2, d3] }
  | _ => none }
def wideCutsRow : OpenClaim := { program := "ytalcccghiemnjaa", sum := "7bc665dfdf16291e8860a30ebbd23fc6f7c5207bf12679358f5275fc146f7232", func := "canter/canterlaw02.WideCuts", spec := "wideCuts", apart := false }
def WideCutsSaid : Prop := wideCutsRow.holds Try.pinned (OpenSpec.ofChange wideCutsSpec)

/-- ITS FALSE NEIGHBOUR: 'it returns false'. Refute it at one input. -/
def wideCutsWrong : ChangeSpec := { name := "wideCuts", fn := fun _ => fun
  | [d1, d2, d3] => { results := [.lit (.bool false)], args := [d1, d2, d3] }
  | _ => none }
def WideCutsWrongFalsely : Prop := wideCutsRow.holds Try.pinned (OpenSpec.ofChange wideCutsWrong)

/- THE SECOND FORM. 'bulk': how many values and letters a reading holds, each counted each time it is reached (what is shared counts as often as it is met; a slice's spare places count too). A statement '..UptoSaid' is the law's where the arguments, and the package variables that the reading takes, are together of bulk at most 1048576: NARROWER than '..Said'. Prove '..Said' where nothing that the law and all that it calls make is longer than what came in: it says more and counts as full. Else prove '..UptoSaid'. A law counts once. -/
mutual
def uptoBulk {H : Type} : DataW H → Nat
  | .lit (.string bytes) => bytes.length + 1
  | .lit _ => 1
  | .nil => 1
  | .ptr d => uptoBulk d + 1
  | .slice elems spare => uptoBulkAll elems + uptoBulkAll spare + 1
  | .agg parts => uptoBulkAll parts + 1
  | .iface _ d => uptoBulk d + 1
  | .map entries => uptoBulkEntries entries + 1
  | .held _ => 1
def uptoBulkAll {H : Type} : List (DataW H) → Nat
  | [] => 0
  | d :: r => uptoBulk d + uptoBulkAll r
def uptoBulkEntries {H : Type} : List (Lit × DataW H) → Nat
  | [] => 0
  | x :: r => uptoBulkEntry x + uptoBulkEntries r
def uptoBulkEntry {H : Type} : Lit × DataW H → Nat
  | (.string bytes, d) => bytes.length + uptoBulk d + 1
  | (_, d) => uptoBulk d + 1
 end
def uptoSmall : (H : Type) → List (DataW H) → Bool := fun _ ds => decide (uptoBulkAll ds ≤ 1048576)
def OpenSpec.upto (s : _root_.Go.ChangeSpec) : _root_.Go.OpenSpec := { _root_.Go.OpenSpec.ofChange s with cond := some uptoSmall }

/-- 'canterlaw14.CycleRound', WHERE WHAT IT READS IS OF BULK AT MOST 1048576: true; the input reads as it did. -/
def cycleRoundUptoRow : OpenClaim := { program := "ytalcccghiemnjaa", sum := "7bc665dfdf16291e8860a30ebbd23fc6f7c5207bf12679358f5275fc146f7232", func := "canter/canterlaw14.CycleRound", spec := "cycleRound", apart := false, narrowed := true }
def CycleRoundUptoSaid : Prop := cycleRoundUptoRow.holds Try.pinned (OpenSpec.upto cycleRoundSpec)

/-- 'canterlaw14.CycleHolds', WHERE WHAT IT READS IS OF BULK AT MOST 1048576: true; the input reads as it did. -/
def cycleHoldsUptoRow : OpenClaim := { program := "ytalcccghiemnjaa", sum := "7bc665dfdf16291e8860a30ebbd23fc6f7c5207bf12679358f5275fc146f7232", func := "canter/canterlaw14.CycleHolds", spec := "cycleHolds", apart := false, narrowed := true }
def CycleHoldsUptoSaid : Prop := cycleHoldsUptoRow.holds Try.pinned (OpenSpec.upto cycleHoldsSpec)

/-- 'canterlaw03.ClockMoves', WHERE WHAT IT READS IS OF BULK AT MOST 1048576: true; the input reads as it did. -/
def clockMovesUptoRow : OpenClaim := { program := "ytalcccghiemnjaa", sum := "7bc665dfdf16291e8860a30ebbd23fc6f7c5207bf12679358f5275fc146f7232", func := "canter/canterlaw03.ClockMoves", spec := "clockMoves", inPlace := ["math/bits.Add64"], apart := false, narrowed := true }
def ClockMovesUptoSaid : Prop := clockMovesUptoRow.holds Try.pinned (OpenSpec.upto clockMovesSpec)

/-- 'canterlaw03.ClockNil', WHERE WHAT IT READS IS OF BULK AT MOST 1048576: true; the input reads as it did. -/
def clockNilUptoRow : OpenClaim := { program := "ytalcccghiemnjaa", sum := "7bc665dfdf16291e8860a30ebbd23fc6f7c5207bf12679358f5275fc146f7232", func := "canter/canterlaw03.ClockNil", spec := "clockNil", inPlace := ["math/bits.Add64"], apart := false, narrowed := true }
def ClockNilUptoSaid : Prop := clockNilUptoRow.holds Try.pinned (OpenSpec.upto clockNilSpec)

/-- 'canterlaw03.ClockSteps', WHERE WHAT IT READS IS OF BULK AT MOST 1048576: true; the input reads as it did. -/
def clockStepsUptoRow : OpenClaim := { program := "ytalcccghiemnjaa", sum := "7bc665dfdf16291e8860a30ebbd23fc6f7c5207bf12679358f5275fc146f7232", func := "canter/canterlaw03.ClockSteps", spec := "clockSteps", inPlace := ["math/bits.Add64"], apart := false, narrowed := true }
def ClockStepsUptoSaid : Prop := clockStepsUptoRow.holds Try.pinned (OpenSpec.upto clockStepsSpec)

/-- 'canterlaw02.WideTells', WHERE WHAT IT READS IS OF BULK AT MOST 1048576: true; the input reads as it did. -/
def wideTellsUptoRow : OpenClaim := { program := "ytalcccghiemnjaa", sum := "7bc665dfdf16291e8860a30ebbd23fc6f7c5207bf12679358f5275fc146f7232", func := "canter/canterlaw02.WideTells", spec := "wideTells", apart := false, narrowed := true }
def WideTellsUptoSaid : Prop := wideTellsUptoRow.holds Try.pinned (OpenSpec.upto wideTellsSpec)

/-- 'canterlaw02.WideBack', WHERE WHAT IT READS IS OF BULK AT MOST 1048576: true; the input reads as it did. -/
def wideBackUptoRow : OpenClaim := { program := "ytalcccghiemnjaa", sum := "7bc665dfdf16291e8860a30ebbd23fc6f7c5207bf12679358f5275fc146f7232", func := "canter/canterlaw02.WideBack", spec := "wideBack", apart := false, narrowed := true }
def WideBackUptoSaid : Prop := wideBackUptoRow.holds Try.pinned (OpenSpec.upto wideBackSpec)

/-- 'canterlaw02.WideOrders', WHERE WHAT IT READS IS OF BULK AT MOST 1048576: true; the input reads as it did. -/
def wideOrdersUptoRow : OpenClaim := { program := "ytalcccghiemnjaa", sum := "7bc665dfdf16291e8860a30ebbd23fc6f7c5207bf12679358f5275fc146f7232", func := "canter/canterlaw02.WideOrders", spec := "wideOrders", apart := false, narrowed := true }
def WideOrdersUptoSaid : Prop := wideOrdersUptoRow.holds Try.pinned (OpenSpec.upto wideOrdersSpec)

/-- 'canterlaw02.WideSmall', WHERE WHAT IT READS IS OF BULK AT MOST 1048576: true; the input reads as it did. -/
def wideSmallUptoRow : OpenClaim := { program := "ytalcccghiemnjaa", sum := "7bc665dfdf16291e8860a30ebbd23fc6f7c5207bf12679358f5275fc146f7232", func := "canter/canterlaw02.WideSmall", spec := "wideSmall", apart := false, narrowed := true }
def WideSmallUptoSaid : Prop := wideSmallUptoRow.holds Try.pinned (OpenSpec.upto wideSmallSpec)

/-- 'canterlaw02.WideParts', WHERE WHAT IT READS IS OF BULK AT MOST 1048576: true; the input reads as it did. -/
def widePartsUptoRow : OpenClaim := { program := "ytalcccghiemnjaa", sum := "7bc665dfdf16291e8860a30ebbd23fc6f7c5207bf12679358f5275fc146f7232", func := "canter/canterlaw02.WideParts", spec := "wideParts", apart := false, narrowed := true }
def WidePartsUptoSaid : Prop := widePartsUptoRow.holds Try.pinned (OpenSpec.upto widePartsSpec)

/-- 'canterlaw02.WideCuts', WHERE WHAT IT READS IS OF BULK AT MOST 1048576: true; the input reads as it did. -/
def wideCutsUptoRow : OpenClaim := { program := "ytalcccghiemnjaa", sum := "7bc665dfdf16291e8860a30ebbd23fc6f7c5207bf12679358f5275fc146f7232", func := "canter/canterlaw02.WideCuts", spec := "wideCuts", apart := false, narrowed := true }
def WideCutsUptoSaid : Prop := wideCutsUptoRow.holds Try.pinned (OpenSpec.upto wideCutsSpec)

end Rows
end Go.Proofs.Ytalcccghiemnjaa
