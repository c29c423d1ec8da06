/-
  No cell of these rows narrows 'for every input' (looked for: loops, veiled, ifaces, maps, wideKeys, modest, calm, conditions, laid).
  DERIVED. THE GIVEN ROWS OF THIS SEAT. 11 by the template 'for every input the law returns true; each argument reads behind the call as it read before'; 0 by the template 'total and deterministic' (their statements: YtgdbmjokpbjoaaaTotals.lean).
  GIVEN WITH THE SEED: the statements are not yours to turn. If you find one false, say at which input.
  Laid BY PROGRAM, IN A SANDBOX (cutbox-rows.mjs): the forced cells as the released guide's own fill.sh prints them over the translation 7f6c4fbd90d8be97… (all of the seat's roots in one cut). By AI agents, Wed Nov 11 2026. No macro, syntax, notation, axiom, sorry.
-/
import Derived.Test.YtgdbmjokpbjoaaaChecked
import GoSem.Claim
import GoSem.ClaimJoined
import GoSem.ClaimMapViews
import Derived.JoinedTies
import Derived.KernelRfl
namespace Go.Proofs.Ytgdbmjokpbjoaaa
/- THE CELL 'sum', in the pinned program and in every row, IS THE sha256 OF THE DUMP (.gsa) THAT YtgdbmjokpbjoaaaProg.lean LOADS. Nothing in Lean hashes anything: it is a label: what it is worth is what the hold of that sum in a sandbox is worth. -/
noncomputable def Try.pinned : Pinned := { name := "ytgdbmjokpbjoaaa", sum := "7f6c4fbd90d8be97357ef377ef773707c24c1b937e5c624af618dbd60749de3f", checked := Try.checked }
namespace Rows
def none {H : Type} : Left H := { results := [], args := [] }

/-- 'canterlaw01.SatTells': WHATEVER THE INPUT: true; the input reads as it did. -/
def satTellsSpec : ChangeSpec := { name := "satTells", fn := fun _ => fun
  | [d1, d2, d3] => { results := [.lit (.bool true)], args := [d1, d2, d3] }
  | _ => none }
def satTellsRow : OpenClaim := { program := "ytgdbmjokpbjoaaa", sum := "7f6c4fbd90d8be97357ef377ef773707c24c1b937e5c624af618dbd60749de3f", func := "canter/canterlaw01.SatTells", spec := "satTells", inPlace := ["math/bits.Add64"], unfollowed := true, recurses := true, apart := false }
def SatTellsSaid : Prop := satTellsRow.holds Try.pinned (OpenSpec.ofChange satTellsSpec)

/-- ITS FALSE NEIGHBOUR: 'it returns false'. Refute it at one input. -/
def satTellsWrong : ChangeSpec := { name := "satTells", fn := fun _ => fun
  | [d1, d2, d3] => { results := [.lit (.bool false)], args := [d1, d2, d3] }
  | _ => none }
def SatTellsWrongFalsely : Prop := satTellsRow.holds Try.pinned (OpenSpec.ofChange satTellsWrong)

/-- 'canterlaw01.SatMore': WHATEVER THE INPUT: true; the input reads as it did. -/
def satMoreSpec : ChangeSpec := { name := "satMore", fn := fun _ => fun
  | [d1, d2, d3] => { results := [.lit (.bool true)], args := [d1, d2, d3] }
  | _ => none }
def satMoreRow : OpenClaim := { program := "ytgdbmjokpbjoaaa", sum := "7f6c4fbd90d8be97357ef377ef773707c24c1b937e5c624af618dbd60749de3f", func := "canter/canterlaw01.SatMore", spec := "satMore", inPlace := ["math/bits.Add64"], apart := false }
def SatMoreSaid : Prop := satMoreRow.holds Try.pinned (OpenSpec.ofChange satMoreSpec)

/-- ITS FALSE NEIGHBOUR: 'it returns false'. Refute it at one input. -/
def satMoreWrong : ChangeSpec := { name := "satMore", fn := fun _ => fun
  | [d1, d2, d3] => { results := [.lit (.bool false)], args := [d1, d2, d3] }
  | _ => none }
def SatMoreWrongFalsely : Prop := satMoreRow.holds Try.pinned (OpenSpec.ofChange satMoreWrong)

/-- 'canterlaw01.SatSums': WHATEVER THE INPUT: true; the input reads as it did. -/
def satSumsSpec : ChangeSpec := { name := "satSums", fn := fun _ => fun
  | [d1, d2] => { results := [.lit (.bool true)], args := [d1, d2] }
  | _ => none }
def satSumsRow : OpenClaim := { program := "ytgdbmjokpbjoaaa", sum := "7f6c4fbd90d8be97357ef377ef773707c24c1b937e5c624af618dbd60749de3f", func := "canter/canterlaw01.SatSums", spec := "satSums", inPlace := ["math/bits.Add64"], apart := false }
def SatSumsSaid : Prop := satSumsRow.holds Try.pinned (OpenSpec.ofChange satSumsSpec)

/-- ITS FALSE NEIGHBOUR: 'it returns false'. Refute it at one input. -/
def satSumsWrong : ChangeSpec := { name := "satSums", fn := fun _ => fun
  | [d1, d2] => { results := [.lit (.bool false)], args := [d1, d2] }
  | _ => none }
def SatSumsWrongFalsely : Prop := satSumsRow.holds Try.pinned (OpenSpec.ofChange satSumsWrong)

/-- 'canterlaw01.SatEdges': WHATEVER THE INPUT: true; the input reads as it did. -/
def satEdgesSpec : ChangeSpec := { name := "satEdges", fn := fun _ => fun
  | [d1, d2] => { results := [.lit (.bool true)], args := [d1, d2] }
  | _ => none }
def satEdgesRow : OpenClaim := { program := "ytgdbmjokpbjoaaa", sum := "7f6c4fbd90d8be97357ef377ef773707c24c1b937e5c624af618dbd60749de3f", func := "canter/canterlaw01.SatEdges", spec := "satEdges", inPlace := ["math/bits.Add64"], apart := false }
def SatEdgesSaid : Prop := satEdgesRow.holds Try.pinned (OpenSpec.ofChange satEdgesSpec)

/-- ITS FALSE NEIGHBOUR: 'it returns false'. Refute it at one input. -/
def satEdgesWrong : ChangeSpec := { name := "satEdges", fn := fun _ => fun
  | [d1, d2] => { results := [.lit (.bool false)], args := [d1, d2] }
  | _ => none }
def SatEdgesWrongFalsely : Prop := satEdgesRow.holds Try.pinned (OpenSpec.ofChange satEdgesWrong)

/-- 'canterlaw15.ProbeTells': WHATEVER THE INPUT: true; the input reads as it did. -/
def probeTellsSpec : ChangeSpec := { name := "probeTells", fn := fun _ => fun
  | [d] => { results := [.lit (.bool true)], args := [d] }
  | _ => none }
def probeTellsRow : OpenClaim := { program := "ytgdbmjokpbjoaaa", sum := "7f6c4fbd90d8be97357ef377ef773707c24c1b937e5c624af618dbd60749de3f", func := "canter/canterlaw15.ProbeTells", spec := "probeTells", inPlace := ["math/bits.Add64"], apart := false }
def ProbeTellsSaid : Prop := probeTellsRow.holds Try.pinned (OpenSpec.ofChange probeTellsSpec)

/-- ITS FALSE NEIGHBOUR: 'it returns false'. Refute it at one input. -/
def probeTellsWrong : ChangeSpec := { name := "probeTells", fn := fun _ => fun
  | [d] => { results := [.lit (.bool false)], args := [d] }
  | _ => none }
def ProbeTellsWrongFalsely : Prop := probeTellsRow.holds Try.pinned (OpenSpec.ofChange probeTellsWrong)

/-- 'canterlaw15.ProbeTurns': WHATEVER THE INPUT: true; the input reads as it did. -/
def probeTurnsSpec : ChangeSpec := { name := "probeTurns", fn := fun _ => fun
  | [d] => { results := [.lit (.bool true)], args := [d] }
  | _ => none }
def probeTurnsRow : OpenClaim := { program := "ytgdbmjokpbjoaaa", sum := "7f6c4fbd90d8be97357ef377ef773707c24c1b937e5c624af618dbd60749de3f", func := "canter/canterlaw15.ProbeTurns", spec := "probeTurns", inPlace := ["math/bits.Add64"], apart := false }
def ProbeTurnsSaid : Prop := probeTurnsRow.holds Try.pinned (OpenSpec.ofChange probeTurnsSpec)

/-- ITS FALSE NEIGHBOUR: 'it returns false'. Refute it at one input. -/
def probeTurnsWrong : ChangeSpec := { name := "probeTurns", fn := fun _ => fun
  | [d] => { results := [.lit (.bool false)], args := [d] }
  | _ => none }
def ProbeTurnsWrongFalsely : Prop := probeTurnsRow.holds Try.pinned (OpenSpec.ofChange probeTurnsWrong)

/-- 'canterlaw15.ProbeWay': WHATEVER THE INPUT: true; the input reads as it did. -/
def probeWaySpec : ChangeSpec := { name := "probeWay", fn := fun _ => fun
  | [d1, d2, d3] => { results := [.lit (.bool true)], args := [d1, d2, d3] }
  | _ => none }
def probeWayRow : OpenClaim := { program := "ytgdbmjokpbjoaaa", sum := "7f6c4fbd90d8be97357ef377ef773707c24c1b937e5c624af618dbd60749de3f", func := "canter/canterlaw15.ProbeWay", spec := "probeWay", inPlace := ["math/bits.Add64"], apart := false }
def ProbeWaySaid : Prop := probeWayRow.holds Try.pinned (OpenSpec.ofChange probeWaySpec)

/-- ITS FALSE NEIGHBOUR: 'it returns false'. Refute it at one input. -/
def probeWayWrong : ChangeSpec := { name := "probeWay", fn := fun _ => fun
  | [d1, d2, d3] => { results := [.lit (.bool false)], args := [d1, d2, d3] }
  | _ => none }
def ProbeWayWrongFalsely : Prop := probeWayRow.holds Try.pinned (OpenSpec.ofChange probeWayWrong)

/-- 'canterlaw15.ProbeLeast': WHATEVER THE INPUT: true; the input reads as it did. -/
def probeLeastSpec : ChangeSpec := { name := "probeLeast", fn := fun _ => fun
  | [d1, d2] => { results := [.lit (.bool true)], args := [d1, d2] }
  | _ => none }
def probeLeastRow : OpenClaim := { program := "ytgdbmjokpbjoaaa", sum := "7f6c4fbd90d8be97357ef377ef773707c24c1b937e5c624af618dbd60749de3f", func := "canter/canterlaw15.ProbeLeast", spec := "probeLeast", inPlace := ["math/bits.Add64"], apart := false }
def ProbeLeastSaid : Prop := probeLeastRow.holds Try.pinned (OpenSpec.ofChange probeLeastSpec)

/-- ITS FALSE NEIGHBOUR: 'it returns false'. Refute it at one input. -/
def probeLeastWrong : ChangeSpec := { name := "probeLeast", fn := fun _ => fun
  | [d1, d2] => { results := [.lit (.bool false)], args := [d1, d2] }
  | _ => none }
def ProbeLeastWrongFalsely : Prop := probeLeastRow.holds Try.pinned (OpenSpec.ofChange probeLeastWrong)

/-- 'canterlaw13.PipeTells': WHATEVER THE INPUT: true; the input reads as it did. -/
def pipeTellsSpec : ChangeSpec := { name := "pipeTells", fn := fun _ => fun
  | [d] => { results := [.lit (.bool true)], args := [d] }
  | _ => none }
def pipeTellsRow : OpenClaim := { program := "ytgdbmjokpbjoaaa", sum := "7f6c4fbd90d8be97357ef377ef773707c24c1b937e5c624af618dbd60749de3f", func := "canter/canterlaw13.PipeTells", spec := "pipeTells", apart := false }
def PipeTellsSaid : Prop := pipeTellsRow.holds Try.pinned (OpenSpec.ofChange pipeTellsSpec)

/-- ITS FALSE NEIGHBOUR: 'it returns false'. Refute it at one input. -/
def pipeTellsWrong : ChangeSpec := { name := "pipeTells", fn := fun _ => fun
  | [d] => { results := [.lit (.bool false)], args := [d] }
  | _ => none }
def PipeTellsWrongFalsely : Prop := pipeTellsRow.holds Try.pinned (OpenSpec.ofChange pipeTellsWrong)

/-- 'canterlaw13.PipeStays': WHATEVER THE INPUT: true; the input reads as it did. -/
def pipeStaysSpec : ChangeSpec := { name := "pipeStays", fn := fun _ => fun
  | [d1, d2, d3] => { results := [.lit (.bool true)], args := [d1, d2, d3] }
  | _ => none }
def pipeStaysRow : OpenClaim := { program := "ytgdbmjokpbjoaaa", sum := "7f6c4fbd90d8be97357ef377ef773707c24c1b937e5c624af618dbd60749de3f", func := "canter/canterlaw13.PipeStays", spec := "pipeStays", apart := false }
def PipeStaysSaid : Prop := pipeStaysRow.holds Try.pinned (OpenSpec.ofChange pipeStaysSpec)

/-- ITS FALSE NEIGHBOUR: 'it returns false'. Refute it at one input. -/
def pipeStaysWrong : ChangeSpec := { name := "pipeStays", fn := fun _ => fun
  | [d1, d2, d3] => { results := [.lit (.bool false)], args := [d1, d2, d3] }
  | _ => none }
def PipeStaysWrongFalsely : Prop := pipeStaysRow.holds Try.pinned (OpenSpec.ofChange pipeStaysWrong)

/-- 'canterlaw13.PipeCounts': WHATEVER THE INPUT: true; the input reads as it did. -/
def pipeCountsSpec : ChangeSpec := { name := "pipeCounts", fn := fun _ => fun
  | [d1, d2] => { results := [.lit (.bool true)], args := [d1, d2] }
  | _ => none }
def pipeCountsRow : OpenClaim := { program := "ytgdbmjokpbjoaaa", sum := "7f6c4fbd90d8be97357ef377ef773707c24c1b937e5c624af618dbd60749de3f", func := "canter/canterlaw13.PipeCounts", spec := "pipeCounts", apart := false }
def PipeCountsSaid : Prop := pipeCountsRow.holds Try.pinned (OpenSpec.ofChange pipeCountsSpec)

/-- ITS FALSE NEIGHBOUR: 'it returns false'. Refute it at one input. -/
def pipeCountsWrong : ChangeSpec := { name := "pipeCounts", fn := fun _ => fun
  | [d1, d2] => { results := [.lit (.bool false)], args := [d1, d2] }
  | _ => none }
def PipeCountsWrongFalsely : Prop := pipeCountsRow.holds Try.pinned (OpenSpec.ofChange pipeCountsWrong)

/- THE SECOND FORM. 'bulk': how many values and letters a reading holds, each counted each time it is reached (what is shared counts as often as it is met; a slice's spare places count too). A statement '..UptoSaid' is the law's where the arguments, and the package variables that the reading takes, are together of bulk at most 1048576: NARROWER than '..Said'. Prove '..Said' where nothing that the law and all that it calls make is longer than what came in: it says more and counts as full. Else prove '..UptoSaid'. A law counts once. -/
mutual
def uptoBulk {H : Type} : DataW H → Nat
  | .lit (.string bytes) => bytes.length + 1
  | .lit _ => 1
  | .nil => 1
  | .ptr d => uptoBulk d + 1
  | .slice elems spare => uptoBulkAll elems + uptoBulkAll spare + 1
  | .agg parts => uptoBulkAll parts + 1
  | .iface _ d => uptoBulk d + 1
  | .map entries => uptoBulkEntries entries + 1
  | .held _ => 1
def uptoBulkAll {H : Type} : List (DataW H) → Nat
  | [] => 0
  | d :: r => uptoBulk d + uptoBulkAll r
def uptoBulkEntries {H : Type} : List (Lit × DataW H) → Nat
  | [] => 0
  | x :: r => uptoBulkEntry x + uptoBulkEntries r
def uptoBulkEntry {H : Type} : Lit × DataW H → Nat
  | (.string bytes, d) => bytes.length + uptoBulk d + 1
  | (_, d) => uptoBulk d + 1
 end
def uptoSmall : (H : Type) → List (DataW H) → Bool := fun _ ds => decide (uptoBulkAll ds ≤ 1048576)
def OpenSpec.upto (s : _root_.Go.ChangeSpec) : _root_.Go.OpenSpec := { _root_.Go.OpenSpec.ofChange s with cond := some uptoSmall }

/-- 'canterlaw01.SatTells', WHERE WHAT IT READS IS OF BULK AT MOST 1048576: true; the input reads as it did. -/
def satTellsUptoRow : OpenClaim := { program := "ytgdbmjokpbjoaaa", sum := "7f6c4fbd90d8be97357ef377ef773707c24c1b937e5c624af618dbd60749de3f", func := "canter/canterlaw01.SatTells", spec := "satTells", inPlace := ["math/bits.Add64"], unfollowed := true, recurses := true, apart := false, narrowed := true }
def SatTellsUptoSaid : Prop := satTellsUptoRow.holds Try.pinned (OpenSpec.upto satTellsSpec)

/-- 'canterlaw01.SatMore', WHERE WHAT IT READS IS OF BULK AT MOST 1048576: true; the input reads as it did. -/
def satMoreUptoRow : OpenClaim := { program := "ytgdbmjokpbjoaaa", sum := "7f6c4fbd90d8be97357ef377ef773707c24c1b937e5c624af618dbd60749de3f", func := "canter/canterlaw01.SatMore", spec := "satMore", inPlace := ["math/bits.Add64"], apart := false, narrowed := true }
def SatMoreUptoSaid : Prop := satMoreUptoRow.holds Try.pinned (OpenSpec.upto satMoreSpec)

/-- 'canterlaw01.SatSums', WHERE WHAT IT READS IS OF BULK AT MOST 1048576: true; the input reads as it did. -/
def satSumsUptoRow : OpenClaim := { program := "ytgdbmjokpbjoaaa", sum := "7f6c4fbd90d8be97357ef377ef773707c24c1b937e5c624af618dbd60749de3f", func := "canter/canterlaw01.SatSums", spec := "satSums", inPlace := ["math/bits.Add64"], apart := false, narrowed := true }
def SatSumsUptoSaid : Prop := satSumsUptoRow.holds Try.pinned (OpenSpec.upto satSumsSpec)

/-- 'canterlaw01.SatEdges', WHERE WHAT IT READS IS OF BULK AT MOST 1048576: true; the input reads as it did. -/
def satEdgesUptoRow : OpenClaim := { program := "ytgdbmjokpbjoaaa", sum := "7f6c4fbd90d8be97357ef377ef773707c24c1b937e5c624af618dbd60749de3f", func := "canter/canterlaw01.SatEdges", spec := "satEdges", inPlace := ["math/bits.Add64"], apart := false, narrowed := true }
def SatEdgesUptoSaid : Prop := satEdgesUptoRow.holds Try.pinned (OpenSpec.upto satEdgesSpec)

/-- 'canterlaw15.ProbeTells', WHERE WHAT IT READS IS OF BULK AT MOST 1048576: true; the input reads as it did. -/
def probeTellsUptoRow : OpenClaim := { program := "ytgdbmjokpbjoaaa", sum := "7f6c4fbd90d8be97357ef377ef773707c24c1b937e5c624af618dbd60749de3f", func := "canter/canterlaw15.ProbeTells", spec := "probeTells", inPlace := ["math/bits.Add64"], apart := false, narrowed := true }
def ProbeTellsUptoSaid : Prop := probeTellsUptoRow.holds Try.pinned (OpenSpec.upto probeTellsSpec)

/-- 'canterlaw15.ProbeTurns', WHERE WHAT IT READS IS OF BULK AT MOST 1048576: true; the input reads as it did. -/
def probeTurnsUptoRow : OpenClaim := { program := "ytgdbmjokpbjoaaa", sum := "7f6c4fbd90d8be97357ef377ef773707c24c1b937e5c624af618dbd60749de3f", func := "canter/canterlaw15.ProbeTurns", spec := "probeTurns", inPlace := ["math/bits.Add64"], apart := false, narrowed := true }
def ProbeTurnsUptoSaid : Prop := probeTurnsUptoRow.holds Try.pinned (OpenSpec.upto probeTurnsSpec)

/-- 'canterlaw15.ProbeWay', WHERE WHAT IT READS IS OF BULK AT MOST 1048576: true; the input reads as it did. -/
def probeWayUptoRow : OpenClaim := { program := "ytgdbmjokpbjoaaa", sum := "7f6c4fbd90d8be97357ef377ef773707c24c1b937e5c624af618dbd60749de3f", func := "canter/canterlaw15.ProbeWay", spec := "probeWay", inPlace := ["math/bits.Add64"], apart := false, narrowed := true }
def ProbeWayUptoSaid : Prop := probeWayUptoRow.holds Try.pinned (OpenSpec.upto probeWaySpec)

/-- 'canterlaw15.ProbeLeast', WHERE WHAT IT READS IS OF BULK AT MOST 1048576: true; the input reads as it did. -/
def probeLeastUptoRow : OpenClaim := { program := "ytgdbmjokpbjoaaa", sum := "7f6c4fbd90d8be97357ef377ef773707c24c1b937e5c624af618dbd60749de3f", func := "canter/canterlaw15.ProbeLeast", spec := "probeLeast", inPlace := ["math/bits.Add64"], apart := false, narrowed := true }
def ProbeLeastUptoSaid : Prop := probeLeastUptoRow.holds Try.pinned (OpenSpec.upto probeLeastSpec)

/-- 'canterlaw13.PipeTells', WHERE WHAT IT READS IS OF BULK AT MOST 1048576: true; the input reads as it did. -/
def pipeTellsUptoRow : OpenClaim := { program := "ytgdbmjokpbjoaaa", sum := "7f6c4fbd90d8be97357ef377ef773707c24c1b937e5c624af618dbd60749de3f", func := "canter/canterlaw13.PipeTells", spec := "pipeTells", apart := false, narrowed := true }
def PipeTellsUptoSaid : Prop := pipeTellsUptoRow.holds Try.pinned (OpenSpec.upto pipeTellsSpec)

/-- 'canterlaw13.PipeStays', WHERE WHAT IT READS IS OF BULK AT MOST 1048576: true; the input reads as it did. -/
def pipeStaysUptoRow : OpenClaim := { program := "ytgdbmjokpbjoaaa", sum := "7f6c4fbd90d8be97357ef377ef773707c24c1b937e5c624af618dbd60749de3f", func := "canter/canterlaw13.PipeStays", spec := "pipeStays", apart := false, narrowed := true }
def PipeStaysUptoSaid : Prop := pipeStaysUptoRow.holds Try.pinned (OpenSpec.upto pipeStaysSpec)

/-- 'canterlaw13.PipeCounts', WHERE WHAT IT READS IS OF BULK AT MOST 1048576: true; the input reads as it did. -/
def pipeCountsUptoRow : OpenClaim := { program := "ytgdbmjokpbjoaaa", sum := "7f6c4fbd90d8be97357ef377ef773707c24c1b937e5c624af618dbd60749de3f", func := "canter/canterlaw13.PipeCounts", spec := "pipeCounts", apart := false, narrowed := true }
def PipeCountsUptoSaid : Prop := pipeCountsUptoRow.holds Try.pinned (OpenSpec.upto pipeCountsSpec)

end Rows
end Go.Proofs.Ytgdbmjokpbjoaaa
