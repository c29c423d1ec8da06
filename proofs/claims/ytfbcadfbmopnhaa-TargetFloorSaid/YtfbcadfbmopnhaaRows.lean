/-
  No cell of these rows narrows 'for every input' (looked for: loops, veiled, ifaces, maps, wideKeys, modest, calm, conditions, laid).
  DERIVED. THE GIVEN ROWS OF THIS SEAT. 9 by the template 'for every input the law returns true; each argument reads behind the call as it read before'; 0 by the template 'total and deterministic' (their statements: YtfbcadfbmopnhaaTotals.lean).
  GIVEN WITH THE SEED: the statements are not yours to turn. If you find one false, say at which input.
  Laid BY PROGRAM, IN A SANDBOX (cutbox-rows.mjs): the forced cells as the released guide's own fill.sh prints them over the translation 6d6e8d99a15fa565… (all of the seat's roots in one cut). By AI agents, Wed Nov 11 2026. No macro, syntax, notation, axiom, sorry.
-/
import Derived.Test.YtfbcadfbmopnhaaChecked
import GoSem.Claim
import GoSem.ClaimJoined
import GoSem.ClaimMapViews
import Derived.JoinedTies
import Derived.KernelRfl
namespace Go.Proofs.Ytfbcadfbmopnhaa
/- THE CELL 'sum', in the pinned program and in every row, IS THE sha256 OF THE DUMP (.gsa) THAT YtfbcadfbmopnhaaProg.lean LOADS. Nothing in Lean hashes anything: it is a label: what it is worth is what the hold of that sum in a sandbox is worth. -/
noncomputable def Try.pinned : Pinned := { name := "ytfbcadfbmopnhaa", sum := "6d6e8d99a15fa5657746fd399ff804a4b12aac7efaf7d59beea55ff82f56d987", checked := Try.checked }
namespace Rows
def none {H : Type} : Left H := { results := [], args := [] }

/-- 'canterlaw18.DelayTells': WHATEVER THE INPUT: true; the input reads as it did. -/
def delayTellsSpec : ChangeSpec := { name := "delayTells", fn := fun _ => fun
  | [d1, d2, d3] => { results := [.lit (.bool true)], args := [d1, d2, d3] }
  | _ => none }
def delayTellsRow : OpenClaim := { program := "ytfbcadfbmopnhaa", sum := "6d6e8d99a15fa5657746fd399ff804a4b12aac7efaf7d59beea55ff82f56d987", func := "canter/canterlaw18.DelayTells", spec := "delayTells", apart := false }
def DelayTellsSaid : Prop := delayTellsRow.holds Try.pinned (OpenSpec.ofChange delayTellsSpec)

/-- ITS FALSE NEIGHBOUR: 'it returns false'. Refute it at one input. -/
def delayTellsWrong : ChangeSpec := { name := "delayTells", fn := fun _ => fun
  | [d1, d2, d3] => { results := [.lit (.bool false)], args := [d1, d2, d3] }
  | _ => none }
def DelayTellsWrongFalsely : Prop := delayTellsRow.holds Try.pinned (OpenSpec.ofChange delayTellsWrong)

/-- 'canterlaw18.DelayMore': WHATEVER THE INPUT: true; the input reads as it did. -/
def delayMoreSpec : ChangeSpec := { name := "delayMore", fn := fun _ => fun
  | [d1, d2, d3, d4] => { results := [.lit (.bool true)], args := [d1, d2, d3, d4] }
  | _ => none }
def delayMoreRow : OpenClaim := { program := "ytfbcadfbmopnhaa", sum := "6d6e8d99a15fa5657746fd399ff804a4b12aac7efaf7d59beea55ff82f56d987", func := "canter/canterlaw18.DelayMore", spec := "delayMore", apart := false }
def DelayMoreSaid : Prop := delayMoreRow.holds Try.pinned (OpenSpec.ofChange delayMoreSpec)

/-- ITS FALSE NEIGHBOUR: 'it returns false'. Refute it at one input. -/
def delayMoreWrong : ChangeSpec := { name := "delayMore", fn := fun _ => fun
  | [d1, d2, d3, d4] => { results := [.lit (.bool false)], args := [d1, d2, d3, d4] }
  | _ => none }
def DelayMoreWrongFalsely : Prop := delayMoreRow.holds Try.pinned (OpenSpec.ofChange delayMoreWrong)

/-- 'canterlaw18.DelayRates': WHATEVER THE INPUT: true; the input reads as it did. -/
def delayRatesSpec : ChangeSpec := { name := "delayRates", fn := fun _ => fun
  | [d1, d2, d3] => { results := [.lit (.bool true)], args := [d1, d2, d3] }
  | _ => none }
def delayRatesRow : OpenClaim := { program := "ytfbcadfbmopnhaa", sum := "6d6e8d99a15fa5657746fd399ff804a4b12aac7efaf7d59beea55ff82f56d987", func := "canter/canterlaw18.DelayRates", spec := "delayRates", apart := false }
def DelayRatesSaid : Prop := delayRatesRow.holds Try.pinned (OpenSpec.ofChange delayRatesSpec)

/-- ITS FALSE NEIGHBOUR: 'it returns false'. Refute it at one input. -/
def delayRatesWrong : ChangeSpec := { name := "delayRates", fn := fun _ => fun
  | [d1, d2, d3] => { results := [.lit (.bool false)], args := [d1, d2, d3] }
  | _ => none }
def DelayRatesWrongFalsely : Prop := delayRatesRow.holds Try.pinned (OpenSpec.ofChange delayRatesWrong)

/-- 'canterlaw18.DelayExact': WHATEVER THE INPUT: true; the input reads as it did. -/
def delayExactSpec : ChangeSpec := { name := "delayExact", fn := fun _ => fun
  | [d1, d2] => { results := [.lit (.bool true)], args := [d1, d2] }
  | _ => none }
def delayExactRow : OpenClaim := { program := "ytfbcadfbmopnhaa", sum := "6d6e8d99a15fa5657746fd399ff804a4b12aac7efaf7d59beea55ff82f56d987", func := "canter/canterlaw18.DelayExact", spec := "delayExact", apart := false }
def DelayExactSaid : Prop := delayExactRow.holds Try.pinned (OpenSpec.ofChange delayExactSpec)

/-- ITS FALSE NEIGHBOUR: 'it returns false'. Refute it at one input. -/
def delayExactWrong : ChangeSpec := { name := "delayExact", fn := fun _ => fun
  | [d1, d2] => { results := [.lit (.bool false)], args := [d1, d2] }
  | _ => none }
def DelayExactWrongFalsely : Prop := delayExactRow.holds Try.pinned (OpenSpec.ofChange delayExactWrong)

/-- 'canterlaw18.DelayParts': WHATEVER THE INPUT: true; the input reads as it did. -/
def delayPartsSpec : ChangeSpec := { name := "delayParts", fn := fun _ => fun
  | [d1, d2] => { results := [.lit (.bool true)], args := [d1, d2] }
  | _ => none }
def delayPartsRow : OpenClaim := { program := "ytfbcadfbmopnhaa", sum := "6d6e8d99a15fa5657746fd399ff804a4b12aac7efaf7d59beea55ff82f56d987", func := "canter/canterlaw18.DelayParts", spec := "delayParts", apart := false }
def DelayPartsSaid : Prop := delayPartsRow.holds Try.pinned (OpenSpec.ofChange delayPartsSpec)

/-- ITS FALSE NEIGHBOUR: 'it returns false'. Refute it at one input. -/
def delayPartsWrong : ChangeSpec := { name := "delayParts", fn := fun _ => fun
  | [d1, d2] => { results := [.lit (.bool false)], args := [d1, d2] }
  | _ => none }
def DelayPartsWrongFalsely : Prop := delayPartsRow.holds Try.pinned (OpenSpec.ofChange delayPartsWrong)

/-- 'canterlaw12.TargetTells': WHATEVER THE INPUT: true; the input reads as it did. -/
def targetTellsSpec : ChangeSpec := { name := "targetTells", fn := fun _ => fun
  | [d1, d2, d3, d4, d5] => { results := [.lit (.bool true)], args := [d1, d2, d3, d4, d5] }
  | _ => none }
def targetTellsRow : OpenClaim := { program := "ytfbcadfbmopnhaa", sum := "6d6e8d99a15fa5657746fd399ff804a4b12aac7efaf7d59beea55ff82f56d987", func := "canter/canterlaw12.TargetTells", spec := "targetTells", inPlace := ["math/bits.Add64"], apart := false }
def TargetTellsSaid : Prop := targetTellsRow.holds Try.pinned (OpenSpec.ofChange targetTellsSpec)

/-- ITS FALSE NEIGHBOUR: 'it returns false'. Refute it at one input. -/
def targetTellsWrong : ChangeSpec := { name := "targetTells", fn := fun _ => fun
  | [d1, d2, d3, d4, d5] => { results := [.lit (.bool false)], args := [d1, d2, d3, d4, d5] }
  | _ => none }
def TargetTellsWrongFalsely : Prop := targetTellsRow.holds Try.pinned (OpenSpec.ofChange targetTellsWrong)

/-- 'canterlaw12.TargetMore': WHATEVER THE INPUT: true; the input reads as it did. -/
def targetMoreSpec : ChangeSpec := { name := "targetMore", fn := fun _ => fun
  | [d1, d2, d3, d4, d5, d6, d7] => { results := [.lit (.bool true)], args := [d1, d2, d3, d4, d5, d6, d7] }
  | _ => none }
def targetMoreRow : OpenClaim := { program := "ytfbcadfbmopnhaa", sum := "6d6e8d99a15fa5657746fd399ff804a4b12aac7efaf7d59beea55ff82f56d987", func := "canter/canterlaw12.TargetMore", spec := "targetMore", inPlace := ["math/bits.Add64"], apart := false }
def TargetMoreSaid : Prop := targetMoreRow.holds Try.pinned (OpenSpec.ofChange targetMoreSpec)

/-- ITS FALSE NEIGHBOUR: 'it returns false'. Refute it at one input. -/
def targetMoreWrong : ChangeSpec := { name := "targetMore", fn := fun _ => fun
  | [d1, d2, d3, d4, d5, d6, d7] => { results := [.lit (.bool false)], args := [d1, d2, d3, d4, d5, d6, d7] }
  | _ => none }
def TargetMoreWrongFalsely : Prop := targetMoreRow.holds Try.pinned (OpenSpec.ofChange targetMoreWrong)

/-- 'canterlaw12.TargetExact': WHATEVER THE INPUT: true; the input reads as it did. -/
def targetExactSpec : ChangeSpec := { name := "targetExact", fn := fun _ => fun
  | [d1, d2, d3] => { results := [.lit (.bool true)], args := [d1, d2, d3] }
  | _ => none }
def targetExactRow : OpenClaim := { program := "ytfbcadfbmopnhaa", sum := "6d6e8d99a15fa5657746fd399ff804a4b12aac7efaf7d59beea55ff82f56d987", func := "canter/canterlaw12.TargetExact", spec := "targetExact", inPlace := ["math/bits.Add64"], apart := false }
def TargetExactSaid : Prop := targetExactRow.holds Try.pinned (OpenSpec.ofChange targetExactSpec)

/-- ITS FALSE NEIGHBOUR: 'it returns false'. Refute it at one input. -/
def targetExactWrong : ChangeSpec := { name := "targetExact", fn := fun _ => fun
  | [d1, d2, d3] => { results := [.lit (.bool false)], args := [d1, d2, d3] }
  | _ => none }
def TargetExactWrongFalsely : Prop := targetExactRow.holds Try.pinned (OpenSpec.ofChange targetExactWrong)

/-- 'canterlaw12.TargetFloor': WHATEVER THE INPUT: true; the input reads as it did. -/
def targetFloorSpec : ChangeSpec := { name := "targetFloor", fn := fun _ => fun
  | [d1, d2, d3, d4, d5] => { results := [.lit (.bool true)], args := [d1, d2, d3, d4, d5] }
  | _ => none }
def targetFloorRow : OpenClaim := { program := "ytfbcadfbmopnhaa", sum := "6d6e8d99a15fa5657746fd399ff804a4b12aac7efaf7d59beea55ff82f56d987", func := "canter/canterlaw12.TargetFloor", spec := "targetFloor", inPlace := ["math/bits.Add64"], apart := false }
def TargetFloorSaid : Prop := targetFloorRow.holds Try.pinned (OpenSpec.ofChange targetFloorSpec)

/-- ITS FALSE NEIGHBOUR: 'it returns false'. Refute it at one input. -/
def targetFloorWrong : ChangeSpec := { name := "targetFloor", fn := fun _ => fun
  | [d1, d2, d3, d4, d5] => { results := [.lit (.bool false)], args := [d1, d2, d3, d4, d5] }
  | _ => none }
def TargetFloorWrongFalsely : Prop := targetFloorRow.holds Try.pinned (OpenSpec.ofChange targetFloorWrong)

/- THE SECOND FORM. 'bulk': how many values and letters a reading holds, each counted each time it is reached (what is shared counts as often as it is met; a slice's spare places count too). A statement '..UptoSaid' is the law's where the arguments, and the package variables that the reading takes, are together of bulk at most 1048576: NARROWER than '..Said'. Prove '..Said' where nothing that the law and all that it calls make is longer than what came in: it says more and counts as full. Else prove '..UptoSaid'. A law counts once. -/
mutual
def uptoBulk {H : Type} : DataW H → Nat
  | .lit (.string bytes) => bytes.length + 1
  | .lit _ => 1
  | .nil => 1
  | .ptr d => uptoBulk d + 1
  | .slice elems spare => uptoBulkAll elems + uptoBulkAll spare + 1
  | .agg parts => uptoBulkAll parts + 1
  | .iface _ d => uptoBulk d + 1
  | .map entries => uptoBulkEntries entries + 1
  | .held _ => 1
def uptoBulkAll {H : Type} : List (DataW H) → Nat
  | [] => 0
  | d :: r => uptoBulk d + uptoBulkAll r
def uptoBulkEntries {H : Type} : List (Lit × DataW H) → Nat
  | [] => 0
  | x :: r => uptoBulkEntry x + uptoBulkEntries r
def uptoBulkEntry {H : Type} : Lit × DataW H → Nat
  | (.string bytes, d) => bytes.length + uptoBulk d + 1
  | (_, d) => uptoBulk d + 1
 end
def uptoSmall : (H : Type) → List (DataW H) → Bool := fun _ ds => decide (uptoBulkAll ds ≤ 1048576)
def OpenSpec.upto (s : _root_.Go.ChangeSpec) : _root_.Go.OpenSpec := { _root_.Go.OpenSpec.ofChange s with cond := some uptoSmall }

/-- 'canterlaw18.DelayTells', WHERE WHAT IT READS IS OF BULK AT MOST 1048576: true; the input reads as it did. -/
def delayTellsUptoRow : OpenClaim := { program := "ytfbcadfbmopnhaa", sum := "6d6e8d99a15fa5657746fd399ff804a4b12aac7efaf7d59beea55ff82f56d987", func := "canter/canterlaw18.DelayTells", spec := "delayTells", apart := false, narrowed := true }
def DelayTellsUptoSaid : Prop := delayTellsUptoRow.holds Try.pinned (OpenSpec.upto delayTellsSpec)

/-- 'canterlaw18.DelayMore', WHERE WHAT IT READS IS OF BULK AT MOST 1048576: true; the input reads as it did. -/
def delayMoreUptoRow : OpenClaim := { program := "ytfbcadfbmopnhaa", sum := "6d6e8d99a15fa5657746fd399ff804a4b12aac7efaf7d59beea55ff82f56d987", func := "canter/canterlaw18.DelayMore", spec := "delayMore", apart := false, narrowed := true }
def DelayMoreUptoSaid : Prop := delayMoreUptoRow.holds Try.pinned (OpenSpec.upto delayMoreSpec)

/-- 'canterlaw18.DelayRates', WHERE WHAT IT READS IS OF BULK AT MOST 1048576: true; the input reads as it did. -/
def delayRatesUptoRow : OpenClaim := { program := "ytfbcadfbmopnhaa", sum := "6d6e8d99a15fa5657746fd399ff804a4b12aac7efaf7d59beea55ff82f56d987", func := "canter/canterlaw18.DelayRates", spec := "delayRates", apart := false, narrowed := true }
def DelayRatesUptoSaid : Prop := delayRatesUptoRow.holds Try.pinned (OpenSpec.upto delayRatesSpec)

/-- 'canterlaw18.DelayExact', WHERE WHAT IT READS IS OF BULK AT MOST 1048576: true; the input reads as it did. -/
def delayExactUptoRow : OpenClaim := { program := "ytfbcadfbmopnhaa", sum := "6d6e8d99a15fa5657746fd399ff804a4b12aac7efaf7d59beea55ff82f56d987", func := "canter/canterlaw18.DelayExact", spec := "delayExact", apart := false, narrowed := true }
def DelayExactUptoSaid : Prop := delayExactUptoRow.holds Try.pinned (OpenSpec.upto delayExactSpec)

/-- 'canterlaw18.DelayParts', WHERE WHAT IT READS IS OF BULK AT MOST 1048576: true; the input reads as it did. -/
def delayPartsUptoRow : OpenClaim := { program := "ytfbcadfbmopnhaa", sum := "6d6e8d99a15fa5657746fd399ff804a4b12aac7efaf7d59beea55ff82f56d987", func := "canter/canterlaw18.DelayParts", spec := "delayParts", apart := false, narrowed := true }
def DelayPartsUptoSaid : Prop := delayPartsUptoRow.holds Try.pinned (OpenSpec.upto delayPartsSpec)

/-- 'canterlaw12.TargetTells', WHERE WHAT IT READS IS OF BULK AT MOST 1048576: true; the input reads as it did. -/
def targetTellsUptoRow : OpenClaim := { program := "ytfbcadfbmopnhaa", sum := "6d6e8d99a15fa5657746fd399ff804a4b12aac7efaf7d59beea55ff82f56d987", func := "canter/canterlaw12.TargetTells", spec := "targetTells", inPlace := ["math/bits.Add64"], apart := false, narrowed := true }
def TargetTellsUptoSaid : Prop := targetTellsUptoRow.holds Try.pinned (OpenSpec.upto targetTellsSpec)

/-- 'canterlaw12.TargetMore', WHERE WHAT IT READS IS OF BULK AT MOST 1048576: true; the input reads as it did. -/
def targetMoreUptoRow : OpenClaim := { program := "ytfbcadfbmopnhaa", sum := "6d6e8d99a15fa5657746fd399ff804a4b12aac7efaf7d59beea55ff82f56d987", func := "canter/canterlaw12.TargetMore", spec := "targetMore", inPlace := ["math/bits.Add64"], apart := false, narrowed := true }
def TargetMoreUptoSaid : Prop := targetMoreUptoRow.holds Try.pinned (OpenSpec.upto targetMoreSpec)

/-- 'canterlaw12.TargetExact', WHERE WHAT IT READS IS OF BULK AT MOST 1048576: true; the input reads as it did. -/
def targetExactUptoRow : OpenClaim := { program := "ytfbcadfbmopnhaa", sum := "6d6e8d99a15fa5657746fd399ff804a4b12aac7efaf7d59beea55ff82f56d987", func := "canter/canterlaw12.TargetExact", spec := "targetExact", inPlace := ["math/bits.Add64"], apart := false, narrowed := true }
def TargetExactUptoSaid : Prop := targetExactUptoRow.holds Try.pinned (OpenSpec.upto targetExactSpec)

/-- 'canterlaw12.TargetFloor', WHERE WHAT IT READS IS OF BULK AT MOST 1048576: true; the input reads as it did. -/
def targetFloorUptoRow : OpenClaim := { program := "ytfbcadfbmopnhaa", sum := "6d6e8d99a15fa5657746fd399ff804a4b12aac7efaf7d59beea55ff82f56d987", func := "canter/canterlaw12.TargetFloor", spec := "targetFloor", inPlace := ["math/bits.Add64"], apart := false, narrowed := true }
def TargetFloorUptoSaid : Prop := targetFloorUptoRow.holds Try.pinned (OpenSpec.upto targetFloorSpec)

end Rows
end Go.Proofs.Ytfbcadfbmopnhaa
