/-
  No cell of these rows narrows 'for every input' (looked for: loops, veiled, ifaces, maps, wideKeys, modest, calm, conditions, laid).
  DERIVED. THE GIVEN ROWS OF THIS SEAT. 5 by the template 'for every input the law returns true; each argument reads behind the call as it read before'; 0 by the template 'total and deterministic' (their statements: YtojgokiobdpclaaGreatTotals.lean).
  GIVEN WITH THE SEED: the statements are not yours to turn. If you find one false, say at which input.
  Laid BY PROGRAM, IN A SANDBOX (cutbox-rows.mjs): the forced cells as the released guide's own fill.sh prints them over the translation 644492222ff6e466… (all of the seat's roots in one cut). By AI agents, Wed Nov 11 2026. No macro, syntax, notation, axiom, sorry.
-/
import Derived.Test.YtojgokiobdpclaaGreatChecked
import GoSem.Claim
import GoSem.ClaimJoined
import GoSem.ClaimMapViews
import Derived.JoinedTies
import Derived.KernelRfl
namespace Go.Proofs.YtojgokiobdpclaaGreat
/- THE CELL 'sum', in the pinned program and in every row, IS THE sha256 OF THE DUMP (.gsa) THAT YtojgokiobdpclaaGreatProg.lean LOADS. Nothing in Lean hashes anything: it is a label: what it is worth is what the hold of that sum in a sandbox is worth. -/
noncomputable def Tryz.pinned : Pinned := { name := "ytojgokiobdpclaagreat", sum := "644492222ff6e466614258ef07d209459a7aa40978ccf988ae04e2e815f29904", checked := Tryz.checked }
namespace Rows
def none {H : Type} : Left H := { results := [], args := [] }

/-- 'cantertop.TopPaces': WHATEVER THE INPUT: true; the input reads as it did. -/
def topPacesSpec : ChangeSpec := { name := "topPaces", fn := fun _ => fun
  | [d1, d2] => { results := [.lit (.bool true)], args := [d1, d2] }
  | _ => none }
def topPacesRow : OpenClaim := { program := "ytojgokiobdpclaagreat", sum := "644492222ff6e466614258ef07d209459a7aa40978ccf988ae04e2e815f29904", func := "canter/cantertop.TopPaces", spec := "topPaces", inPlace := ["math/bits.Add64"], unfollowed := true, recurses := true, apart := false }
def TopPacesSaid : Prop := topPacesRow.holds Tryz.pinned (OpenSpec.ofChange topPacesSpec)

/-- ITS FALSE NEIGHBOUR: 'it returns false'. Refute it at one input. -/
def topPacesWrong : ChangeSpec := { name := "topPaces", fn := fun _ => fun
  | [d1, d2] => { results := [.lit (.bool false)], args := [d1, d2] }
  | _ => none }
def TopPacesWrongFalsely : Prop := topPacesRow.holds Tryz.pinned (OpenSpec.ofChange topPacesWrong)

/-- 'cantertop.TopSame': WHATEVER THE INPUT: true; the input reads as it did. -/
def topSameSpec : ChangeSpec := { name := "topSame", fn := fun _ => fun
  | [d1, d2, d3] => { results := [.lit (.bool true)], args := [d1, d2, d3] }
  | _ => none }
def topSameRow : OpenClaim := { program := "ytojgokiobdpclaagreat", sum := "644492222ff6e466614258ef07d209459a7aa40978ccf988ae04e2e815f29904", func := "canter/cantertop.TopSame", spec := "topSame", inPlace := ["math/bits.Add64"], unfollowed := true, recurses := true, apart := false }
def TopSameSaid : Prop := topSameRow.holds Tryz.pinned (OpenSpec.ofChange topSameSpec)

/-- ITS FALSE NEIGHBOUR: 'it returns false'. Refute it at one input. -/
def topSameWrong : ChangeSpec := { name := "topSame", fn := fun _ => fun
  | [d1, d2, d3] => { results := [.lit (.bool false)], args := [d1, d2, d3] }
  | _ => none }
def TopSameWrongFalsely : Prop := topSameRow.holds Tryz.pinned (OpenSpec.ofChange topSameWrong)

/-- 'cantertop.TopWorks': WHATEVER THE INPUT: true; the input reads as it did. -/
def topWorksSpec : ChangeSpec := { name := "topWorks", fn := fun _ => fun
  | [d1, d2] => { results := [.lit (.bool true)], args := [d1, d2] }
  | _ => none }
def topWorksRow : OpenClaim := { program := "ytojgokiobdpclaagreat", sum := "644492222ff6e466614258ef07d209459a7aa40978ccf988ae04e2e815f29904", func := "canter/cantertop.TopWorks", spec := "topWorks", inPlace := ["math/bits.Add64"], unfollowed := true, recurses := true, apart := false }
def TopWorksSaid : Prop := topWorksRow.holds Tryz.pinned (OpenSpec.ofChange topWorksSpec)

/-- ITS FALSE NEIGHBOUR: 'it returns false'. Refute it at one input. -/
def topWorksWrong : ChangeSpec := { name := "topWorks", fn := fun _ => fun
  | [d1, d2] => { results := [.lit (.bool false)], args := [d1, d2] }
  | _ => none }
def TopWorksWrongFalsely : Prop := topWorksRow.holds Tryz.pinned (OpenSpec.ofChange topWorksWrong)

/-- 'cantertop.TopLosses': WHATEVER THE INPUT: true; the input reads as it did. -/
def topLossesSpec : ChangeSpec := { name := "topLosses", fn := fun _ => fun
  | [d1, d2, d3] => { results := [.lit (.bool true)], args := [d1, d2, d3] }
  | _ => none }
def topLossesRow : OpenClaim := { program := "ytojgokiobdpclaagreat", sum := "644492222ff6e466614258ef07d209459a7aa40978ccf988ae04e2e815f29904", func := "canter/cantertop.TopLosses", spec := "topLosses", inPlace := ["math/bits.Add64"], unfollowed := true, recurses := true, apart := false }
def TopLossesSaid : Prop := topLossesRow.holds Tryz.pinned (OpenSpec.ofChange topLossesSpec)

/-- ITS FALSE NEIGHBOUR: 'it returns false'. Refute it at one input. -/
def topLossesWrong : ChangeSpec := { name := "topLosses", fn := fun _ => fun
  | [d1, d2, d3] => { results := [.lit (.bool false)], args := [d1, d2, d3] }
  | _ => none }
def TopLossesWrongFalsely : Prop := topLossesRow.holds Tryz.pinned (OpenSpec.ofChange topLossesWrong)

/-- 'cantertop.TopBounds': WHATEVER THE INPUT: true; the input reads as it did. -/
def topBoundsSpec : ChangeSpec := { name := "topBounds", fn := fun _ => fun
  | [d1, d2] => { results := [.lit (.bool true)], args := [d1, d2] }
  | _ => none }
def topBoundsRow : OpenClaim := { program := "ytojgokiobdpclaagreat", sum := "644492222ff6e466614258ef07d209459a7aa40978ccf988ae04e2e815f29904", func := "canter/cantertop.TopBounds", spec := "topBounds", inPlace := ["math/bits.Add64"], unfollowed := true, recurses := true, apart := false }
def TopBoundsSaid : Prop := topBoundsRow.holds Tryz.pinned (OpenSpec.ofChange topBoundsSpec)

/-- ITS FALSE NEIGHBOUR: 'it returns false'. Refute it at one input. -/
def topBoundsWrong : ChangeSpec := { name := "topBounds", fn := fun _ => fun
  | [d1, d2] => { results := [.lit (.bool false)], args := [d1, d2] }
  | _ => none }
def TopBoundsWrongFalsely : Prop := topBoundsRow.holds Tryz.pinned (OpenSpec.ofChange topBoundsWrong)

/- THE SECOND FORM. 'bulk': how many values and letters a reading holds, each counted each time it is reached (what is shared counts as often as it is met; a slice's spare places count too). A statement '..UptoSaid' is the law's where the arguments, and the package variables that the reading takes, are together of bulk at most 1048576: NARROWER than '..Said'. Prove '..Said' where nothing that the law and all that it calls make is longer than what came in: it says more and counts as full. Else prove '..UptoSaid'. A law counts once. -/
mutual
def uptoBulk {H : Type} : DataW H → Nat
  | .lit (.string bytes) => bytes.length + 1
  | .lit _ => 1
  | .nil => 1
  | .ptr d => uptoBulk d + 1
  | .slice elems spare => uptoBulkAll elems + uptoBulkAll spare + 1
  | .agg parts => uptoBulkAll parts + 1
  | .iface _ d => uptoBulk d + 1
  | .map entries => uptoBulkEntries entries + 1
  | .held _ => 1
def uptoBulkAll {H : Type} : List (DataW H) → Nat
  | [] => 0
  | d :: r => uptoBulk d + uptoBulkAll r
def uptoBulkEntries {H : Type} : List (Lit × DataW H) → Nat
  | [] => 0
  | x :: r => uptoBulkEntry x + uptoBulkEntries r
def uptoBulkEntry {H : Type} : Lit × DataW H → Nat
  | (.string bytes, d) => bytes.length + uptoBulk d + 1
  | (_, d) => uptoBulk d + 1
 end
def uptoSmall : (H : Type) → List (DataW H) → Bool := fun _ ds => decide (uptoBulkAll ds ≤ 1048576)
def OpenSpec.upto (s : _root_.Go.ChangeSpec) : _root_.Go.OpenSpec := { _root_.Go.OpenSpec.ofChange s with cond := some uptoSmall }

/-- 'cantertop.TopPaces', WHERE WHAT IT READS IS OF BULK AT MOST 1048576: true; the input reads as it did. -/
def topPacesUptoRow : OpenClaim := { program := "ytojgokiobdpclaagreat", sum := "644492222ff6e466614258ef07d209459a7aa40978ccf988ae04e2e815f29904", func := "canter/cantertop.TopPaces", spec := "topPaces", inPlace := ["math/bits.Add64"], unfollowed := true, recurses := true, apart := false, narrowed := true }
def TopPacesUptoSaid : Prop := topPacesUptoRow.holds Tryz.pinned (OpenSpec.upto topPacesSpec)

/-- 'cantertop.TopSame', WHERE WHAT IT READS IS OF BULK AT MOST 1048576: true; the input reads as it did. -/
def topSameUptoRow : OpenClaim := { program := "ytojgokiobdpclaagreat", sum := "644492222ff6e466614258ef07d209459a7aa40978ccf988ae04e2e815f29904", func := "canter/cantertop.TopSame", spec := "topSame", inPlace := ["math/bits.Add64"], unfollowed := true, recurses := true, apart := false, narrowed := true }
def TopSameUptoSaid : Prop := topSameUptoRow.holds Tryz.pinned (OpenSpec.upto topSameSpec)

/-- 'cantertop.TopWorks', WHERE WHAT IT READS IS OF BULK AT MOST 1048576: true; the input reads as it did. -/
def topWorksUptoRow : OpenClaim := { program := "ytojgokiobdpclaagreat", sum := "644492222ff6e466614258ef07d209459a7aa40978ccf988ae04e2e815f29904", func := "canter/cantertop.TopWorks", spec := "topWorks", inPlace := ["math/bits.Add64"], unfollowed := true, recurses := true, apart := false, narrowed := true }
def TopWorksUptoSaid : Prop := topWorksUptoRow.holds Tryz.pinned (OpenSpec.upto topWorksSpec)

/-- 'cantertop.TopLosses', WHERE WHAT IT READS IS OF BULK AT MOST 1048576: true; the input reads as it did. -/
def topLossesUptoRow : OpenClaim := { program := "ytojgokiobdpclaagreat", sum := "644492222ff6e466614258ef07d209459a7aa40978ccf988ae04e2e815f29904", func := "canter/cantertop.TopLosses", spec := "topLosses", inPlace := ["math/bits.Add64"], unfollowed := true, recurses := true, apart := false, narrowed := true }
def TopLossesUptoSaid : Prop := topLossesUptoRow.holds Tryz.pinned (OpenSpec.upto topLossesSpec)

/-- 'cantertop.TopBounds', WHERE WHAT IT READS IS OF BULK AT MOST 1048576: true; the input reads as it did. -/
def topBoundsUptoRow : OpenClaim := { program := "ytojgokiobdpclaagreat", sum := "644492222ff6e466614258ef07d209459a7aa40978ccf988ae04e2e815f29904", func := "canter/cantertop.TopBounds", spec := "topBounds", inPlace := ["math/bits.Add64"], unfollowed := true, recurses := true, apart := false, narrowed := true }
def TopBoundsUptoSaid : Prop := topBoundsUptoRow.holds Tryz.pinned (OpenSpec.upto topBoundsSpec)

end Rows
end Go.Proofs.YtojgokiobdpclaaGreat
