/-
  No cell of these rows narrows 'for every input' (looked for: loops, veiled, ifaces, maps, wideKeys, modest, calm, conditions, laid).
  DERIVED. THE GIVEN ROWS OF THIS SEAT. 12 by the template 'for every input the law returns true; each argument reads behind the call as it read before'; 0 by the template 'total and deterministic' (their statements: YtojgpgjmcamfoaaTotals.lean).
  GIVEN WITH THE SEED: the statements are not yours to turn. If you find one false, say at which input.
  Laid BY PROGRAM, IN A SANDBOX (cutbox-rows.mjs): the forced cells as the released guide's own fill.sh prints them over the translation 401a12fd05e4718e… (all of the seat's roots in one cut). By AI agents, Wed Nov 11 2026. No macro, syntax, notation, axiom, sorry.
-/
import Derived.Test.YtojgpgjmcamfoaaChecked
import GoSem.Claim
import GoSem.ClaimJoined
import GoSem.ClaimMapViews
import Derived.JoinedTies
import Derived.KernelRfl
namespace Go.Proofs.Ytojgpgjmcamfoaa
/- THE CELL 'sum', in the pinned program and in every row, IS THE sha256 OF THE DUMP (.gsa) THAT YtojgpgjmcamfoaaProg.lean LOADS. Nothing in Lean hashes anything: it is a label: what it is worth is what the hold of that sum in a sandbox is worth. -/
noncomputable def Try.pinned : Pinned := { name := "ytojgpgjmcamfoaa", sum := "401a12fd05e4718e25671e1f880eb419c047c305b1310aa46c1739e8e9239a1c", checked := Try.checked }
namespace Rows
def none {H : Type} : Left H := { results := [], args := [] }

/-- 'canterlaw10.SamplerSteady': WHATEVER THE INPUT: true; the input reads as it did. -/
def samplerSteadySpec : ChangeSpec := { name := "samplerSteady", fn := fun _ => fun
  | [d1, d2, d3, d4] => { results := [.lit (.bool true)], args := [d1, d2, d3, d4] }
  | _ => none }
def samplerSteadyRow : OpenClaim := { program := "ytojgpgjmcamfoaa", sum := "401a12fd05e4718e25671e1f880eb419c047c305b1310aa46c1739e8e9239a1c", func := "canter/canterlaw10.SamplerSteady", spec := "samplerSteady", inPlace := ["math/bits.Add64"], apart := false }
def SamplerSteadySaid : Prop := samplerSteadyRow.holds Try.pinned (OpenSpec.ofChange samplerSteadySpec)

/-- ITS FALSE NEIGHBOUR: 'it returns false'. Refute it at one input. -/
def samplerSteadyWrong : ChangeSpec := { name := "samplerSteady", fn := fun _ => fun
  | [d1, d2, d3, d4] => { results := [.lit (.bool false)], args := [d1, d2, d3, d4] }
  | _ => none }
def SamplerSteadyWrongFalsely : Prop := samplerSteadyRow.holds Try.pinned (OpenSpec.ofChange samplerSteadyWrong)

/-- 'canterlaw10.SamplerSums': WHATEVER THE INPUT: true; the input reads as it did. -/
def samplerSumsSpec : ChangeSpec := { name := "samplerSums", fn := fun _ => fun
  | [d1, d2] => { results := [.lit (.bool true)], args := [d1, d2] }
  | _ => none }
def samplerSumsRow : OpenClaim := { program := "ytojgpgjmcamfoaa", sum := "401a12fd05e4718e25671e1f880eb419c047c305b1310aa46c1739e8e9239a1c", func := "canter/canterlaw10.SamplerSums", spec := "samplerSums", inPlace := ["math/bits.Add64"], apart := false }
def SamplerSumsSaid : Prop := samplerSumsRow.holds Try.pinned (OpenSpec.ofChange samplerSumsSpec)

/-- ITS FALSE NEIGHBOUR: 'it returns false'. Refute it at one input. -/
def samplerSumsWrong : ChangeSpec := { name := "samplerSums", fn := fun _ => fun
  | [d1, d2] => { results := [.lit (.bool false)], args := [d1, d2] }
  | _ => none }
def SamplerSumsWrongFalsely : Prop := samplerSumsRow.holds Try.pinned (OpenSpec.ofChange samplerSumsWrong)

/-- 'canterlaw10.SamplerTells': WHATEVER THE INPUT: true; the input reads as it did. -/
def samplerTellsSpec : ChangeSpec := { name := "samplerTells", fn := fun _ => fun
  | [d] => { results := [.lit (.bool true)], args := [d] }
  | _ => none }
def samplerTellsRow : OpenClaim := { program := "ytojgpgjmcamfoaa", sum := "401a12fd05e4718e25671e1f880eb419c047c305b1310aa46c1739e8e9239a1c", func := "canter/canterlaw10.SamplerTells", spec := "samplerTells", inPlace := ["math/bits.Add64"], apart := false }
def SamplerTellsSaid : Prop := samplerTellsRow.holds Try.pinned (OpenSpec.ofChange samplerTellsSpec)

/-- ITS FALSE NEIGHBOUR: 'it returns false'. Refute it at one input. -/
def samplerTellsWrong : ChangeSpec := { name := "samplerTells", fn := fun _ => fun
  | [d] => { results := [.lit (.bool false)], args := [d] }
  | _ => none }
def SamplerTellsWrongFalsely : Prop := samplerTellsRow.holds Try.pinned (OpenSpec.ofChange samplerTellsWrong)

/-- 'canterlaw10.SamplerLimited': WHATEVER THE INPUT: true; the input reads as it did. -/
def samplerLimitedSpec : ChangeSpec := { name := "samplerLimited", fn := fun _ => fun
  | [d] => { results := [.lit (.bool true)], args := [d] }
  | _ => none }
def samplerLimitedRow : OpenClaim := { program := "ytojgpgjmcamfoaa", sum := "401a12fd05e4718e25671e1f880eb419c047c305b1310aa46c1739e8e9239a1c", func := "canter/canterlaw10.SamplerLimited", spec := "samplerLimited", inPlace := ["math/bits.Add64"], apart := false }
def SamplerLimitedSaid : Prop := samplerLimitedRow.holds Try.pinned (OpenSpec.ofChange samplerLimitedSpec)

/-- ITS FALSE NEIGHBOUR: 'it returns false'. Refute it at one input. -/
def samplerLimitedWrong : ChangeSpec := { name := "samplerLimited", fn := fun _ => fun
  | [d] => { results := [.lit (.bool false)], args := [d] }
  | _ => none }
def SamplerLimitedWrongFalsely : Prop := samplerLimitedRow.holds Try.pinned (OpenSpec.ofChange samplerLimitedWrong)

/-- 'canterlaw27.AuditTells': WHATEVER THE INPUT: true; the input reads as it did. -/
def auditTellsSpec : ChangeSpec := { name := "auditTells", fn := fun _ => fun
  | [d1, d2, d3, d4] => { results := [.lit (.bool true)], args := [d1, d2, d3, d4] }
  | _ => none }
def auditTellsRow : OpenClaim := { program := "ytojgpgjmcamfoaa", sum := "401a12fd05e4718e25671e1f880eb419c047c305b1310aa46c1739e8e9239a1c", func := "canter/canterlaw27.AuditTells", spec := "auditTells", inPlace := ["math/bits.Add64"], apart := false }
def AuditTellsSaid : Prop := auditTellsRow.holds Try.pinned (OpenSpec.ofChange auditTellsSpec)

/-- ITS FALSE NEIGHBOUR: 'it returns false'. Refute it at one input. -/
def auditTellsWrong : ChangeSpec := { name := "auditTells", fn := fun _ => fun
  | [d1, d2, d3, d4] => { results := [.lit (.bool false)], args := [d1, d2, d3, d4] }
  | _ => none }
def AuditTellsWrongFalsely : Prop := auditTellsRow.holds Try.pinned (OpenSpec.ofChange auditTellsWrong)

/-- 'canterlaw27.AuditParts': WHATEVER THE INPUT: true; the input reads as it did. -/
def auditPartsSpec : ChangeSpec := { name := "auditParts", fn := fun _ => fun
  | [d1, d2, d3, d4, d5] => { results := [.lit (.bool true)], args := [d1, d2, d3, d4, d5] }
  | _ => none }
def auditPartsRow : OpenClaim := { program := "ytojgpgjmcamfoaa", sum := "401a12fd05e4718e25671e1f880eb419c047c305b1310aa46c1739e8e9239a1c", func := "canter/canterlaw27.AuditParts", spec := "auditParts", inPlace := ["math/bits.Add64"], apart := false }
def AuditPartsSaid : Prop := auditPartsRow.holds Try.pinned (OpenSpec.ofChange auditPartsSpec)

/-- ITS FALSE NEIGHBOUR: 'it returns false'. Refute it at one input. -/
def auditPartsWrong : ChangeSpec := { name := "auditParts", fn := fun _ => fun
  | [d1, d2, d3, d4, d5] => { results := [.lit (.bool false)], args := [d1, d2, d3, d4, d5] }
  | _ => none }
def AuditPartsWrongFalsely : Prop := auditPartsRow.holds Try.pinned (OpenSpec.ofChange auditPartsWrong)

/-- 'canterlaw27.AuditLine': WHATEVER THE INPUT: true; the input reads as it did. -/
def auditLineSpec : ChangeSpec := { name := "auditLine", fn := fun _ => fun
  | [d1, d2, d3] => { results := [.lit (.bool true)], args := [d1, d2, d3] }
  | _ => none }
def auditLineRow : OpenClaim := { program := "ytojgpgjmcamfoaa", sum := "401a12fd05e4718e25671e1f880eb419c047c305b1310aa46c1739e8e9239a1c", func := "canter/canterlaw27.AuditLine", spec := "auditLine", inPlace := ["math/bits.Add64"], apart := false }
def AuditLineSaid : Prop := auditLineRow.holds Try.pinned (OpenSpec.ofChange auditLineSpec)

/-- ITS FALSE NEIGHBOUR: 'it returns false'. Refute it at one input. -/
def auditLineWrong : ChangeSpec := { name := "auditLine", fn := fun _ => fun
  | [d1, d2, d3] => { results := [.lit (.bool false)], args := [d1, d2, d3] }
  | _ => none }
def AuditLineWrongFalsely : Prop := auditLineRow.holds Try.pinned (OpenSpec.ofChange auditLineWrong)

/-- 'canterlaw27.AuditApart': WHATEVER THE INPUT: true; the input reads as it did. -/
def auditApartSpec : ChangeSpec := { name := "auditApart", fn := fun _ => fun
  | [d1, d2, d3] => { results := [.lit (.bool true)], args := [d1, d2, d3] }
  | _ => none }
def auditApartRow : OpenClaim := { program := "ytojgpgjmcamfoaa", sum := "401a12fd05e4718e25671e1f880eb419c047c305b1310aa46c1739e8e9239a1c", func := "canter/canterlaw27.AuditApart", spec := "auditApart", inPlace := ["math/bits.Add64"], apart := false }
def AuditApartSaid : Prop := auditApartRow.holds Try.pinned (OpenSpec.ofChange auditApartSpec)

/-- ITS FALSE NEIGHBOUR: 'it returns false'. Refute it at one input. -/
def auditApartWrong : ChangeSpec := { name := "auditApart", fn := fun _ => fun
  | [d1, d2, d3] => { results := [.lit (.bool false)], args := [d1, d2, d3] }
  | _ => none }
def AuditApartWrongFalsely : Prop := auditApartRow.holds Try.pinned (OpenSpec.ofChange auditApartWrong)

/-- 'canterlaw27.AuditAgain': WHATEVER THE INPUT: true; the input reads as it did. -/
def auditAgainSpec : ChangeSpec := { name := "auditAgain", fn := fun _ => fun
  | [d] => { results := [.lit (.bool true)], args := [d] }
  | _ => none }
def auditAgainRow : OpenClaim := { program := "ytojgpgjmcamfoaa", sum := "401a12fd05e4718e25671e1f880eb419c047c305b1310aa46c1739e8e9239a1c", func := "canter/canterlaw27.AuditAgain", spec := "auditAgain", inPlace := ["math/bits.Add64"], apart := false }
def AuditAgainSaid : Prop := auditAgainRow.holds Try.pinned (OpenSpec.ofChange auditAgainSpec)

/-- ITS FALSE NEIGHBOUR: 'it returns false'. Refute it at one input. -/
def auditAgainWrong : ChangeSpec := { name := "auditAgain", fn := fun _ => fun
  | [d] => { results := [.lit (.bool false)], args := [d] }
  | _ => none }
def AuditAgainWrongFalsely : Prop := auditAgainRow.holds Try.pinned (OpenSpec.ofChange auditAgainWrong)

/-- 'canterlaw16.PolicerTells': WHATEVER THE INPUT: true; the input reads as it did. -/
def policerTellsSpec : ChangeSpec := { name := "policerTells", fn := fun _ => fun
  | [d] => { results := [.lit (.bool true)], args := [d] }
  | _ => none }
def policerTellsRow : OpenClaim := { program := "ytojgpgjmcamfoaa", sum := "401a12fd05e4718e25671e1f880eb419c047c305b1310aa46c1739e8e9239a1c", func := "canter/canterlaw16.PolicerTells", spec := "policerTells", inPlace := ["math/bits.Add64"], apart := false }
def PolicerTellsSaid : Prop := policerTellsRow.holds Try.pinned (OpenSpec.ofChange policerTellsSpec)

/-- ITS FALSE NEIGHBOUR: 'it returns false'. Refute it at one input. -/
def policerTellsWrong : ChangeSpec := { name := "policerTells", fn := fun _ => fun
  | [d] => { results := [.lit (.bool false)], args := [d] }
  | _ => none }
def PolicerTellsWrongFalsely : Prop := policerTellsRow.holds Try.pinned (OpenSpec.ofChange policerTellsWrong)

/-- 'canterlaw16.PolicerSteady': WHATEVER THE INPUT: true; the input reads as it did. -/
def policerSteadySpec : ChangeSpec := { name := "policerSteady", fn := fun _ => fun
  | [d1, d2, d3] => { results := [.lit (.bool true)], args := [d1, d2, d3] }
  | _ => none }
def policerSteadyRow : OpenClaim := { program := "ytojgpgjmcamfoaa", sum := "401a12fd05e4718e25671e1f880eb419c047c305b1310aa46c1739e8e9239a1c", func := "canter/canterlaw16.PolicerSteady", spec := "policerSteady", inPlace := ["math/bits.Add64"], apart := false }
def PolicerSteadySaid : Prop := policerSteadyRow.holds Try.pinned (OpenSpec.ofChange policerSteadySpec)

/-- ITS FALSE NEIGHBOUR: 'it returns false'. Refute it at one input. -/
def policerSteadyWrong : ChangeSpec := { name := "policerSteady", fn := fun _ => fun
  | [d1, d2, d3] => { results := [.lit (.bool false)], args := [d1, d2, d3] }
  | _ => none }
def PolicerSteadyWrongFalsely : Prop := policerSteadyRow.holds Try.pinned (OpenSpec.ofChange policerSteadyWrong)

/-- 'canterlaw16.PolicerNone': WHATEVER THE INPUT: true; the input reads as it did. -/
def policerNoneSpec : ChangeSpec := { name := "policerNone", fn := fun _ => fun
  | [d] => { results := [.lit (.bool true)], args := [d] }
  | _ => none }
def policerNoneRow : OpenClaim := { program := "ytojgpgjmcamfoaa", sum := "401a12fd05e4718e25671e1f880eb419c047c305b1310aa46c1739e8e9239a1c", func := "canter/canterlaw16.PolicerNone", spec := "policerNone", inPlace := ["math/bits.Add64"], apart := false }
def PolicerNoneSaid : Prop := policerNoneRow.holds Try.pinned (OpenSpec.ofChange policerNoneSpec)

/-- ITS FALSE NEIGHBOUR: 'it returns false'. Refute it at one input. -/
def policerNoneWrong : ChangeSpec := { name := "policerNone", fn := fun _ => fun
  | [d] => { results := [.lit (.bool false)], args := [d] }
  | _ => none }
def PolicerNoneWrongFalsely : Prop := policerNoneRow.holds Try.pinned (OpenSpec.ofChange policerNoneWrong)

/- THE SECOND FORM. 'bulk': how many values and letters a reading holds, each counted each time it is reached (what is shared counts as often as it is met; a slice's spare places count too). A statement '..UptoSaid' is the law's where the arguments, and the package variables that the reading takes, are together of bulk at most 1048576: NARROWER than '..Said'. Prove '..Said' where nothing that the law and all that it calls make is longer than what came in: it says more and counts as full. Else prove '..UptoSaid'. A law counts once. -/
mutual
def uptoBulk {H : Type} : DataW H → Nat
  | .lit (.string bytes) => bytes.length + 1
  | .lit _ => 1
  | .nil => 1
  | .ptr d => uptoBulk d + 1
  | .slice elems spare => uptoBulkAll elems + uptoBulkAll spare + 1
  | .agg parts => uptoBulkAll parts + 1
  | .iface _ d => uptoBulk d + 1
  | .map entries => uptoBulkEntries entries + 1
  | .held _ => 1
def uptoBulkAll {H : Type} : List (DataW H) → Nat
  | [] => 0
  | d :: r => uptoBulk d + uptoBulkAll r
def uptoBulkEntries {H : Type} : List (Lit × DataW H) → Nat
  | [] => 0
  | x :: r => uptoBulkEntry x + uptoBulkEntries r
def uptoBulkEntry {H : Type} : Lit × DataW H → Nat
  | (.string bytes, d) => bytes.length + uptoBulk d + 1
  | (_, d) => uptoBulk d + 1
 end
def uptoSmall : (H : Type) → List (DataW H) → Bool := fun _ ds => decide (uptoBulkAll ds ≤ 1048576)
def OpenSpec.upto (s : _root_.Go.ChangeSpec) : _root_.Go.OpenSpec := { _root_.Go.OpenSpec.ofChange s with cond := some uptoSmall }

/-- 'canterlaw10.SamplerSteady', WHERE WHAT IT READS IS OF BULK AT MOST 1048576: true; the input reads as it did. -/
def samplerSteadyUptoRow : OpenClaim := { program := "ytojgpgjmcamfoaa", sum := "401a12fd05e4718e25671e1f880eb419c047c305b1310aa46c1739e8e9239a1c", func := "canter/canterlaw10.SamplerSteady", spec := "samplerSteady", inPlace := ["math/bits.Add64"], apart := false, narrowed := true }
def SamplerSteadyUptoSaid : Prop := samplerSteadyUptoRow.holds Try.pinned (OpenSpec.upto samplerSteadySpec)

/-- 'canterlaw10.SamplerSums', WHERE WHAT IT READS IS OF BULK AT MOST 1048576: true; the input reads as it did. -/
def samplerSumsUptoRow : OpenClaim := { program := "ytojgpgjmcamfoaa", sum := "401a12fd05e4718e25671e1f880eb419c047c305b1310aa46c1739e8e9239a1c", func := "canter/canterlaw10.SamplerSums", spec := "samplerSums", inPlace := ["math/bits.Add64"], apart := false, narrowed := true }
def SamplerSumsUptoSaid : Prop := samplerSumsUptoRow.holds Try.pinned (OpenSpec.upto samplerSumsSpec)

/-- 'canterlaw10.SamplerTells', WHERE WHAT IT READS IS OF BULK AT MOST 1048576: true; the input reads as it did. -/
def samplerTellsUptoRow : OpenClaim := { program := "ytojgpgjmcamfoaa", sum := "401a12fd05e4718e25671e1f880eb419c047c305b1310aa46c1739e8e9239a1c", func := "canter/canterlaw10.SamplerTells", spec := "samplerTells", inPlace := ["math/bits.Add64"], apart := false, narrowed := true }
def SamplerTellsUptoSaid : Prop := samplerTellsUptoRow.holds Try.pinned (OpenSpec.upto samplerTellsSpec)

/-- 'canterlaw10.SamplerLimited', WHERE WHAT IT READS IS OF BULK AT MOST 1048576: true; the input reads as it did. -/
def samplerLimitedUptoRow : OpenClaim := { program := "ytojgpgjmcamfoaa", sum := "401a12fd05e4718e25671e1f880eb419c047c305b1310aa46c1739e8e9239a1c", func := "canter/canterlaw10.SamplerLimited", spec := "samplerLimited", inPlace := ["math/bits.Add64"], apart := false, narrowed := true }
def SamplerLimitedUptoSaid : Prop := samplerLimitedUptoRow.holds Try.pinned (OpenSpec.upto samplerLimitedSpec)

/-- 'canterlaw27.AuditTells', WHERE WHAT IT READS IS OF BULK AT MOST 1048576: true; the input reads as it did. -/
def auditTellsUptoRow : OpenClaim := { program := "ytojgpgjmcamfoaa", sum := "401a12fd05e4718e25671e1f880eb419c047c305b1310aa46c1739e8e9239a1c", func := "canter/canterlaw27.AuditTells", spec := "auditTells", inPlace := ["math/bits.Add64"], apart := false, narrowed := true }
def AuditTellsUptoSaid : Prop := auditTellsUptoRow.holds Try.pinned (OpenSpec.upto auditTellsSpec)

/-- 'canterlaw27.AuditParts', WHERE WHAT IT READS IS OF BULK AT MOST 1048576: true; the input reads as it did. -/
def auditPartsUptoRow : OpenClaim := { program := "ytojgpgjmcamfoaa", sum := "401a12fd05e4718e25671e1f880eb419c047c305b1310aa46c1739e8e9239a1c", func := "canter/canterlaw27.AuditParts", spec := "auditParts", inPlace := ["math/bits.Add64"], apart := false, narrowed := true }
def AuditPartsUptoSaid : Prop := auditPartsUptoRow.holds Try.pinned (OpenSpec.upto auditPartsSpec)

/-- 'canterlaw27.AuditLine', WHERE WHAT IT READS IS OF BULK AT MOST 1048576: true; the input reads as it did. -/
def auditLineUptoRow : OpenClaim := { program := "ytojgpgjmcamfoaa", sum := "401a12fd05e4718e25671e1f880eb419c047c305b1310aa46c1739e8e9239a1c", func := "canter/canterlaw27.AuditLine", spec := "auditLine", inPlace := ["math/bits.Add64"], apart := false, narrowed := true }
def AuditLineUptoSaid : Prop := auditLineUptoRow.holds Try.pinned (OpenSpec.upto auditLineSpec)

/-- 'canterlaw27.AuditApart', WHERE WHAT IT READS IS OF BULK AT MOST 1048576: true; the input reads as it did. -/
def auditApartUptoRow : OpenClaim := { program := "ytojgpgjmcamfoaa", sum := "401a12fd05e4718e25671e1f880eb419c047c305b1310aa46c1739e8e9239a1c", func := "canter/canterlaw27.AuditApart", spec := "auditApart", inPlace := ["math/bits.Add64"], apart := false, narrowed := true }
def AuditApartUptoSaid : Prop := auditApartUptoRow.holds Try.pinned (OpenSpec.upto auditApartSpec)

/-- 'canterlaw27.AuditAgain', WHERE WHAT IT READS IS OF BULK AT MOST 1048576: true; the input reads as it did. -/
def auditAgainUptoRow : OpenClaim := { program := "ytojgpgjmcamfoaa", sum := "401a12fd05e4718e25671e1f880eb419c047c305b1310aa46c1739e8e9239a1c", func := "canter/canterlaw27.AuditAgain", spec := "auditAgain", inPlace := ["math/bits.Add64"], apart := false, narrowed := true }
def AuditAgainUptoSaid : Prop := auditAgainUptoRow.holds Try.pinned (OpenSpec.upto auditAgainSpec)

/-- 'canterlaw16.PolicerTells', WHERE WHAT IT READS IS OF BULK AT MOST 1048576: true; the input reads as it did. -/
def policerTellsUptoRow : OpenClaim := { program := "ytojgpgjmcamfoaa", sum := "401a12fd05e4718e25671e1f880eb419c047c305b1310aa46c1739e8e9239a1c", func := "canter/canterlaw16.PolicerTells", spec := "policerTells", inPlace := ["math/bits.Add64"], apart := false, narrowed := true }
def PolicerTellsUptoSaid : Prop := policerTellsUptoRow.holds Try.pinned (OpenSpec.upto policerTellsSpec)

/-- 'canterlaw16.PolicerSteady', WHERE WHAT IT READS IS OF BULK AT MOST 1048576: true; the input reads as it did. -/
def policerSteadyUptoRow : OpenClaim := { program := "ytojgpgjmcamfoaa", sum := "401a12fd05e4718e25671e1f880eb419c047c305b1310aa46c1739e8e9239a1c", func := "canter/canterlaw16.PolicerSteady", spec := "policerSteady", inPlace := ["math/bits.Add64"], apart := false, narrowed := true }
def PolicerSteadyUptoSaid : Prop := policerSteadyUptoRow.holds Try.pinned (OpenSpec.upto policerSteadySpec)

/-- 'canterlaw16.PolicerNone', WHERE WHAT IT READS IS OF BULK AT MOST 1048576: true; the input reads as it did. -/
def policerNoneUptoRow : OpenClaim := { program := "ytojgpgjmcamfoaa", sum := "401a12fd05e4718e25671e1f880eb419c047c305b1310aa46c1739e8e9239a1c", func := "canter/canterlaw16.PolicerNone", spec := "policerNone", inPlace := ["math/bits.Add64"], apart := false, narrowed := true }
def PolicerNoneUptoSaid : Prop := policerNoneUptoRow.holds Try.pinned (OpenSpec.upto policerNoneSpec)

end Rows
end Go.Proofs.Ytojgpgjmcamfoaa
