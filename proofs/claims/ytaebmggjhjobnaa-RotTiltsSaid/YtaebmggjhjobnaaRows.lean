/-
  No cell of these rows narrows 'for every input' (looked for: loops, veiled, ifaces, maps, wideKeys, modest, calm, conditions, laid).
  DERIVED. THE GIVEN ROWS OF THIS SEAT. 12 by the template 'for every input the law returns true; each argument reads behind the call as it read before'; 0 by the template 'total and deterministic' (their statements: YtaebmggjhjobnaaTotals.lean).
  GIVEN WITH THE SEED: the statements are not yours to turn. If you find one false, say at which input.
  Laid BY PROGRAM, IN A SANDBOX (cutbox-rows.mjs): the forced cells as the released guide's own fill.sh prints them over the translation 73ed629701d5d797… (all of the seat's roots in one cut). By AI agents, Wed Nov 11 2026. No macro, syntax, notation, axiom, sorry.
-/
import Derived.Test.YtaebmggjhjobnaaChecked
import GoSem.Claim
import GoSem.ClaimJoined
import GoSem.ClaimMapViews
import Derived.JoinedTies
import Derived.KernelRfl
namespace Go.Proofs.Ytaebmggjhjobnaa
/- THE CELL 'sum', in the pinned program and in every row, IS THE sha256 OF THE DUMP (.gsa) THAT YtaebmggjhjobnaaProg.lean LOADS. Nothing in Lean hashes anything: it is a label: what it is worth is what the hold of that sum in a sandbox is worth. -/
noncomputable def Try.pinned : Pinned := { name := "ytaebmggjhjobnaa", sum := "73ed629701d5d79705647755faf91a0d187b9147e2cc233594c71d384e921e04", checked := Try.checked }
namespace Rows
def none {H : Type} : Left H := { results := [], args := [] }

/-- 'astrolabelaw4.TrigRises': WHATEVER THE INPUT: true; the input reads as it did. -/
def trigRisesSpec : ChangeSpec := { name := "trigRises", fn := fun _ => fun
  | [d1, d2] => { results := [.lit (.bool true)], args := [d1, d2] }
  | _ => none }
def trigRisesRow : OpenClaim := { program := "ytaebmggjhjobnaa", sum := "73ed629701d5d79705647755faf91a0d187b9147e2cc233594c71d384e921e04", func := "astrolabe/astrolabelaw4.TrigRises", spec := "trigRises", inPlace := ["math/bits.Add64", "math/bits.Sub64"], named := ["math/bits.divideError", "math/bits.overflowError"], apart := false }
def TrigRisesSaid : Prop := trigRisesRow.holds Try.pinned (OpenSpec.ofChange trigRisesSpec)

/-- ITS FALSE NEIGHBOUR: 'it returns false'. Refute it at one input. -/
def trigRisesWrong : ChangeSpec := { name := "trigRises", fn := fun _ => fun
  | [d1, d2] => { results := [.lit (.bool false)], args := [d1, d2] }
  | _ => none }
def TrigRisesWrongFalsely : Prop := trigRisesRow.holds Try.pinned (OpenSpec.ofChange trigRisesWrong)

/-- 'astrolabelaw4.TrigArcs': WHATEVER THE INPUT: true; the input reads as it did. -/
def trigArcsSpec : ChangeSpec := { name := "trigArcs", fn := fun _ => fun
  | [d] => { results := [.lit (.bool true)], args := [d] }
  | _ => none }
def trigArcsRow : OpenClaim := { program := "ytaebmggjhjobnaa", sum := "73ed629701d5d79705647755faf91a0d187b9147e2cc233594c71d384e921e04", func := "astrolabe/astrolabelaw4.TrigArcs", spec := "trigArcs", inPlace := ["math/bits.Add64", "math/bits.Sub64"], named := ["math/bits.divideError", "math/bits.overflowError"], apart := false }
def TrigArcsSaid : Prop := trigArcsRow.holds Try.pinned (OpenSpec.ofChange trigArcsSpec)

/-- ITS FALSE NEIGHBOUR: 'it returns false'. Refute it at one input. -/
def trigArcsWrong : ChangeSpec := { name := "trigArcs", fn := fun _ => fun
  | [d] => { results := [.lit (.bool false)], args := [d] }
  | _ => none }
def TrigArcsWrongFalsely : Prop := trigArcsRow.holds Try.pinned (OpenSpec.ofChange trigArcsWrong)

/-- 'astrolabelaw4.TrigCircle': WHATEVER THE INPUT: true; the input reads as it did. -/
def trigCircleSpec : ChangeSpec := { name := "trigCircle", fn := fun _ => fun
  | [d] => { results := [.lit (.bool true)], args := [d] }
  | _ => none }
def trigCircleRow : OpenClaim := { program := "ytaebmggjhjobnaa", sum := "73ed629701d5d79705647755faf91a0d187b9147e2cc233594c71d384e921e04", func := "astrolabe/astrolabelaw4.TrigCircle", spec := "trigCircle", inPlace := ["math/bits.Add64", "math/bits.Sub64"], named := ["math/bits.divideError", "math/bits.overflowError"], apart := false }
def TrigCircleSaid : Prop := trigCircleRow.holds Try.pinned (OpenSpec.ofChange trigCircleSpec)

/-- ITS FALSE NEIGHBOUR: 'it returns false'. Refute it at one input. -/
def trigCircleWrong : ChangeSpec := { name := "trigCircle", fn := fun _ => fun
  | [d] => { results := [.lit (.bool false)], args := [d] }
  | _ => none }
def TrigCircleWrongFalsely : Prop := trigCircleRow.holds Try.pinned (OpenSpec.ofChange trigCircleWrong)

/-- 'astrolabelaw4.TrigSums': WHATEVER THE INPUT: true; the input reads as it did. -/
def trigSumsSpec : ChangeSpec := { name := "trigSums", fn := fun _ => fun
  | [d1, d2] => { results := [.lit (.bool true)], args := [d1, d2] }
  | _ => none }
def trigSumsRow : OpenClaim := { program := "ytaebmggjhjobnaa", sum := "73ed629701d5d79705647755faf91a0d187b9147e2cc233594c71d384e921e04", func := "astrolabe/astrolabelaw4.TrigSums", spec := "trigSums", inPlace := ["math/bits.Add64", "math/bits.Sub64"], named := ["math/bits.divideError", "math/bits.overflowError"], apart := false }
def TrigSumsSaid : Prop := trigSumsRow.holds Try.pinned (OpenSpec.ofChange trigSumsSpec)

/-- ITS FALSE NEIGHBOUR: 'it returns false'. Refute it at one input. -/
def trigSumsWrong : ChangeSpec := { name := "trigSums", fn := fun _ => fun
  | [d1, d2] => { results := [.lit (.bool false)], args := [d1, d2] }
  | _ => none }
def TrigSumsWrongFalsely : Prop := trigSumsRow.holds Try.pinned (OpenSpec.ofChange trigSumsWrong)

/-- 'astrolabelaw23.FlowRates': WHATEVER THE INPUT: true; the input reads as it did. -/
def flowRatesSpec : ChangeSpec := { name := "flowRates", fn := fun _ => fun
  | [d1, d2, d3, d4] => { results := [.lit (.bool true)], args := [d1, d2, d3, d4] }
  | _ => none }
def flowRatesRow : OpenClaim := { program := "ytaebmggjhjobnaa", sum := "73ed629701d5d79705647755faf91a0d187b9147e2cc233594c71d384e921e04", func := "astrolabe/astrolabelaw23.FlowRates", spec := "flowRates", inPlace := ["math/bits.Add64"], unfollowed := true, recurses := true, named := ["math/bits.divideError", "math/bits.overflowError"], apart := false }
def FlowRatesSaid : Prop := flowRatesRow.holds Try.pinned (OpenSpec.ofChange flowRatesSpec)

/-- ITS FALSE NEIGHBOUR: 'it returns false'. Refute it at one input. -/
def flowRatesWrong : ChangeSpec := { name := "flowRates", fn := fun _ => fun
  | [d1, d2, d3, d4] => { results := [.lit (.bool false)], args := [d1, d2, d3, d4] }
  | _ => none }
def FlowRatesWrongFalsely : Prop := flowRatesRow.holds Try.pinned (OpenSpec.ofChange flowRatesWrong)

/-- 'astrolabelaw7.RotYaws': WHATEVER THE INPUT: true; the input reads as it did. -/
def rotYawsSpec : ChangeSpec := { name := "rotYaws", fn := fun _ => fun
  | [d] => { results := [.lit (.bool true)], args := [d] }
  | _ => none }
def rotYawsRow : OpenClaim := { program := "ytaebmggjhjobnaa", sum := "73ed629701d5d79705647755faf91a0d187b9147e2cc233594c71d384e921e04", func := "astrolabe/astrolabelaw7.RotYaws", spec := "rotYaws", inPlace := ["math/bits.Add64", "math/bits.Sub64"], unfollowed := true, recurses := true, named := ["math/bits.divideError", "math/bits.overflowError"], apart := false }
def RotYawsSaid : Prop := rotYawsRow.holds Try.pinned (OpenSpec.ofChange rotYawsSpec)

/-- ITS FALSE NEIGHBOUR: 'it returns false'. Refute it at one input. -/
def rotYawsWrong : ChangeSpec := { name := "rotYaws", fn := fun _ => fun
  | [d] => { results := [.lit (.bool false)], args := [d] }
  | _ => none }
def RotYawsWrongFalsely : Prop := rotYawsRow.holds Try.pinned (OpenSpec.ofChange rotYawsWrong)

/-- 'astrolabelaw7.RotTilts': WHATEVER THE INPUT: true; the input reads as it did. -/
def rotTiltsSpec : ChangeSpec := { name := "rotTilts", fn := fun _ => fun
  | [d] => { results := [.lit (.bool true)], args := [d] }
  | _ => none }
def rotTiltsRow : OpenClaim := { program := "ytaebmggjhjobnaa", sum := "73ed629701d5d79705647755faf91a0d187b9147e2cc233594c71d384e921e04", func := "astrolabe/astrolabelaw7.RotTilts", spec := "rotTilts", inPlace := ["math/bits.Add64", "math/bits.Sub64"], unfollowed := true, recurses := true, named := ["math/bits.divideError", "math/bits.overflowError"], apart := false }
def RotTiltsSaid : Prop := rotTiltsRow.holds Try.pinned (OpenSpec.ofChange rotTiltsSpec)

/-- ITS FALSE NEIGHBOUR: 'it returns false'. Refute it at one input. -/
def rotTiltsWrong : ChangeSpec := { name := "rotTilts", fn := fun _ => fun
  | [d] => { results := [.lit (.bool false)], args := [d] }
  | _ => none }
def RotTiltsWrongFalsely : Prop := rotTiltsRow.holds Try.pinned (OpenSpec.ofChange rotTiltsWrong)

/-- 'astrolabelaw7.RotTwice': WHATEVER THE INPUT: true; the input reads as it did. -/
def rotTwiceSpec : ChangeSpec := { name := "rotTwice", fn := fun _ => fun
  | [d] => { results := [.lit (.bool true)], args := [d] }
  | _ => none }
def rotTwiceRow : OpenClaim := { program := "ytaebmggjhjobnaa", sum := "73ed629701d5d79705647755faf91a0d187b9147e2cc233594c71d384e921e04", func := "astrolabe/astrolabelaw7.RotTwice", spec := "rotTwice", inPlace := ["math/bits.Add64", "math/bits.Sub64"], unfollowed := true, recurses := true, named := ["math/bits.divideError", "math/bits.overflowError"], apart := false }
def RotTwiceSaid : Prop := rotTwiceRow.holds Try.pinned (OpenSpec.ofChange rotTwiceSpec)

/-- ITS FALSE NEIGHBOUR: 'it returns false'. Refute it at one input. -/
def rotTwiceWrong : ChangeSpec := { name := "rotTwice", fn := fun _ => fun
  | [d] => { results := [.lit (.bool false)], args := [d] }
  | _ => none }
def RotTwiceWrongFalsely : Prop := rotTwiceRow.holds Try.pinned (OpenSpec.ofChange rotTwiceWrong)

/-- 'astrolabelaw7.RotTurns': WHATEVER THE INPUT: true; the input reads as it did. -/
def rotTurnsSpec : ChangeSpec := { name := "rotTurns", fn := fun _ => fun
  | [d1, d2, d3] => { results := [.lit (.bool true)], args := [d1, d2, d3] }
  | _ => none }
def rotTurnsRow : OpenClaim := { program := "ytaebmggjhjobnaa", sum := "73ed629701d5d79705647755faf91a0d187b9147e2cc233594c71d384e921e04", func := "astrolabe/astrolabelaw7.RotTurns", spec := "rotTurns", inPlace := ["math/bits.Add64", "math/bits.Sub64"], unfollowed := true, recurses := true, named := ["math/bits.divideError", "math/bits.overflowError"], apart := false }
def RotTurnsSaid : Prop := rotTurnsRow.holds Try.pinned (OpenSpec.ofChange rotTurnsSpec)

/-- ITS FALSE NEIGHBOUR: 'it returns false'. Refute it at one input. -/
def rotTurnsWrong : ChangeSpec := { name := "rotTurns", fn := fun _ => fun
  | [d1, d2, d3] => { results := [.lit (.bool false)], args := [d1, d2, d3] }
  | _ => none }
def RotTurnsWrongFalsely : Prop := rotTurnsRow.holds Try.pinned (OpenSpec.ofChange rotTurnsWrong)

/-- 'astrolabelaw7.RotSmall': WHATEVER THE INPUT: true; the input reads as it did. -/
def rotSmallSpec : ChangeSpec := { name := "rotSmall", fn := fun _ => fun
  | [d1, d2] => { results := [.lit (.bool true)], args := [d1, d2] }
  | _ => none }
def rotSmallRow : OpenClaim := { program := "ytaebmggjhjobnaa", sum := "73ed629701d5d79705647755faf91a0d187b9147e2cc233594c71d384e921e04", func := "astrolabe/astrolabelaw7.RotSmall", spec := "rotSmall", inPlace := ["math/bits.Add64", "math/bits.Sub64"], unfollowed := true, recurses := true, named := ["math/bits.divideError", "math/bits.overflowError"], apart := false }
def RotSmallSaid : Prop := rotSmallRow.holds Try.pinned (OpenSpec.ofChange rotSmallSpec)

/-- ITS FALSE NEIGHBOUR: 'it returns false'. Refute it at one input. -/
def rotSmallWrong : ChangeSpec := { name := "rotSmall", fn := fun _ => fun
  | [d1, d2] => { results := [.lit (.bool false)], args := [d1, d2] }
  | _ => none }
def RotSmallWrongFalsely : Prop := rotSmallRow.holds Try.pinned (OpenSpec.ofChange rotSmallWrong)

/-- 'astrolabelaw2.FxFlags': WHATEVER THE INPUT: true; the input reads as it did. -/
def fxFlagsSpec : ChangeSpec := { name := "fxFlags", fn := fun _ => fun
  | [d1, d2, d3] => { results := [.lit (.bool true)], args := [d1, d2, d3] }
  | _ => none }
def fxFlagsRow : OpenClaim := { program := "ytaebmggjhjobnaa", sum := "73ed629701d5d79705647755faf91a0d187b9147e2cc233594c71d384e921e04", func := "astrolabe/astrolabelaw2.FxFlags", spec := "fxFlags", inPlace := ["math/bits.Add64"], named := ["math/bits.divideError", "math/bits.overflowError"], apart := false }
def FxFlagsSaid : Prop := fxFlagsRow.holds Try.pinned (OpenSpec.ofChange fxFlagsSpec)

/-- ITS FALSE NEIGHBOUR: 'it returns false'. Refute it at one input. -/
def fxFlagsWrong : ChangeSpec := { name := "fxFlags", fn := fun _ => fun
  | [d1, d2, d3] => { results := [.lit (.bool false)], args := [d1, d2, d3] }
  | _ => none }
def FxFlagsWrongFalsely : Prop := fxFlagsRow.holds Try.pinned (OpenSpec.ofChange fxFlagsWrong)

/-- 'astrolabelaw2.FxJoins': WHATEVER THE INPUT: true; the input reads as it did. -/
def fxJoinsSpec : ChangeSpec := { name := "fxJoins", fn := fun _ => fun
  | [d1, d2, d3, d4] => { results := [.lit (.bool true)], args := [d1, d2, d3, d4] }
  | _ => none }
def fxJoinsRow : OpenClaim := { program := "ytaebmggjhjobnaa", sum := "73ed629701d5d79705647755faf91a0d187b9147e2cc233594c71d384e921e04", func := "astrolabe/astrolabelaw2.FxJoins", spec := "fxJoins", inPlace := ["math/bits.Add64"], named := ["math/bits.divideError", "math/bits.overflowError"], apart := false }
def FxJoinsSaid : Prop := fxJoinsRow.holds Try.pinned (OpenSpec.ofChange fxJoinsSpec)

/-- ITS FALSE NEIGHBOUR: 'it returns false'. Refute it at one input. -/
def fxJoinsWrong : ChangeSpec := { name := "fxJoins", fn := fun _ => fun
  | [d1, d2, d3, d4] => { results := [.lit (.bool false)], args := [d1, d2, d3, d4] }
  | _ => none }
def FxJoinsWrongFalsely : Prop := fxJoinsRow.holds Try.pinned (OpenSpec.ofChange fxJoinsWrong)

/- THE SECOND FORM. 'bulk': how many values and letters a reading holds, each counted each time it is reached (what is shared counts as often as it is met; a slice's spare places count too). A statement '..UptoSaid' is the law's where the arguments, and the package variables that the reading takes, are together of bulk at most 1048576: NARROWER than '..Said'. Prove '..Said' where nothing that the law and all that it calls make is longer than what came in: it says more and counts as full. Else prove '..UptoSaid'. A law counts once. -/
mutual
def uptoBulk {H : Type} : DataW H → Nat
  | .lit (.string bytes) => bytes.length + 1
  | .lit _ => 1
  | .nil => 1
  | .ptr d => uptoBulk d + 1
  | .slice elems spare => uptoBulkAll elems + uptoBulkAll spare + 1
  | .agg parts => uptoBulkAll parts + 1
  | .iface _ d => uptoBulk d + 1
  | .map entries => uptoBulkEntries entries + 1
  | .held _ => 1
def uptoBulkAll {H : Type} : List (DataW H) → Nat
  | [] => 0
  | d :: r => uptoBulk d + uptoBulkAll r
def uptoBulkEntries {H : Type} : List (Lit × DataW H) → Nat
  | [] => 0
  | x :: r => uptoBulkEntry x + uptoBulkEntries r
def uptoBulkEntry {H : Type} : Lit × DataW H → Nat
  | (.string bytes, d) => bytes.length + uptoBulk d + 1
  | (_, d) => uptoBulk d + 1
 end
def uptoSmall : (H : Type) → List (DataW H) → Bool := fun _ ds => decide (uptoBulkAll ds ≤ 1048576)
def OpenSpec.upto (s : _root_.Go.ChangeSpec) : _root_.Go.OpenSpec := { _root_.Go.OpenSpec.ofChange s with cond := some uptoSmall }

/-- 'astrolabelaw4.TrigRises', WHERE WHAT IT READS IS OF BULK AT MOST 1048576: true; the input reads as it did. -/
def trigRisesUptoRow : OpenClaim := { program := "ytaebmggjhjobnaa", sum := "73ed629701d5d79705647755faf91a0d187b9147e2cc233594c71d384e921e04", func := "astrolabe/astrolabelaw4.TrigRises", spec := "trigRises", inPlace := ["math/bits.Add64", "math/bits.Sub64"], named := ["math/bits.divideError", "math/bits.overflowError"], apart := false, narrowed := true }
def TrigRisesUptoSaid : Prop := trigRisesUptoRow.holds Try.pinned (OpenSpec.upto trigRisesSpec)

/-- 'astrolabelaw4.TrigArcs', WHERE WHAT IT READS IS OF BULK AT MOST 1048576: true; the input reads as it did. -/
def trigArcsUptoRow : OpenClaim := { program := "ytaebmggjhjobnaa", sum := "73ed629701d5d79705647755faf91a0d187b9147e2cc233594c71d384e921e04", func := "astrolabe/astrolabelaw4.TrigArcs", spec := "trigArcs", inPlace := ["math/bits.Add64", "math/bits.Sub64"], named := ["math/bits.divideError", "math/bits.overflowError"], apart := false, narrowed := true }
def TrigArcsUptoSaid : Prop := trigArcsUptoRow.holds Try.pinned (OpenSpec.upto trigArcsSpec)

/-- 'astrolabelaw4.TrigCircle', WHERE WHAT IT READS IS OF BULK AT MOST 1048576: true; the input reads as it did. -/
def trigCircleUptoRow : OpenClaim := { program := "ytaebmggjhjobnaa", sum := "73ed629701d5d79705647755faf91a0d187b9147e2cc233594c71d384e921e04", func := "astrolabe/astrolabelaw4.TrigCircle", spec := "trigCircle", inPlace := ["math/bits.Add64", "math/bits.Sub64"], named := ["math/bits.divideError", "math/bits.overflowError"], apart := false, narrowed := true }
def TrigCircleUptoSaid : Prop := trigCircleUptoRow.holds Try.pinned (OpenSpec.upto trigCircleSpec)

/-- 'astrolabelaw4.TrigSums', WHERE WHAT IT READS IS OF BULK AT MOST 1048576: true; the input reads as it did. -/
def trigSumsUptoRow : OpenClaim := { program := "ytaebmggjhjobnaa", sum := "73ed629701d5d79705647755faf91a0d187b9147e2cc233594c71d384e921e04", func := "astrolabe/astrolabelaw4.TrigSums", spec := "trigSums", inPlace := ["math/bits.Add64", "math/bits.Sub64"], named := ["math/bits.divideError", "math/bits.overflowError"], apart := false, narrowed := true }
def TrigSumsUptoSaid : Prop := trigSumsUptoRow.holds Try.pinned (OpenSpec.upto trigSumsSpec)

/-- 'astrolabelaw23.FlowRates', WHERE WHAT IT READS IS OF BULK AT MOST 1048576: true; the input reads as it did. -/
def flowRatesUptoRow : OpenClaim := { program := "ytaebmggjhjobnaa", sum := "73ed629701d5d79705647755faf91a0d187b9147e2cc233594c71d384e921e04", func := "astrolabe/astrolabelaw23.FlowRates", spec := "flowRates", inPlace := ["math/bits.Add64"], unfollowed := true, recurses := true, named := ["math/bits.divideError", "math/bits.overflowError"], apart := false, narrowed := true }
def FlowRatesUptoSaid : Prop := flowRatesUptoRow.holds Try.pinned (OpenSpec.upto flowRatesSpec)

/-- 'astrolabelaw7.RotYaws', WHERE WHAT IT READS IS OF BULK AT MOST 1048576: true; the input reads as it did. -/
def rotYawsUptoRow : OpenClaim := { program := "ytaebmggjhjobnaa", sum := "73ed629701d5d79705647755faf91a0d187b9147e2cc233594c71d384e921e04", func := "astrolabe/astrolabelaw7.RotYaws", spec := "rotYaws", inPlace := ["math/bits.Add64", "math/bits.Sub64"], unfollowed := true, recurses := true, named := ["math/bits.divideError", "math/bits.overflowError"], apart := false, narrowed := true }
def RotYawsUptoSaid : Prop := rotYawsUptoRow.holds Try.pinned (OpenSpec.upto rotYawsSpec)

/-- 'astrolabelaw7.RotTilts', WHERE WHAT IT READS IS OF BULK AT MOST 1048576: true; the input reads as it did. -/
def rotTiltsUptoRow : OpenClaim := { program := "ytaebmggjhjobnaa", sum := "73ed629701d5d79705647755faf91a0d187b9147e2cc233594c71d384e921e04", func := "astrolabe/astrolabelaw7.RotTilts", spec := "rotTilts", inPlace := ["math/bits.Add64", "math/bits.Sub64"], unfollowed := true, recurses := true, named := ["math/bits.divideError", "math/bits.overflowError"], apart := false, narrowed := true }
def RotTiltsUptoSaid : Prop := rotTiltsUptoRow.holds Try.pinned (OpenSpec.upto rotTiltsSpec)

/-- 'astrolabelaw7.RotTwice', WHERE WHAT IT READS IS OF BULK AT MOST 1048576: true; the input reads as it did. -/
def rotTwiceUptoRow : OpenClaim := { program := "ytaebmggjhjobnaa", sum := "73ed629701d5d79705647755faf91a0d187b9147e2cc233594c71d384e921e04", func := "astrolabe/astrolabelaw7.RotTwice", spec := "rotTwice", inPlace := ["math/bits.Add64", "math/bits.Sub64"], unfollowed := true, recurses := true, named := ["math/bits.divideError", "math/bits.overflowError"], apart := false, narrowed := true }
def RotTwiceUptoSaid : Prop := rotTwiceUptoRow.holds Try.pinned (OpenSpec.upto rotTwiceSpec)

/-- 'astrolabelaw7.RotTurns', WHERE WHAT IT READS IS OF BULK AT MOST 1048576: true; the input reads as it did. -/
def rotTurnsUptoRow : OpenClaim := { program := "ytaebmggjhjobnaa", sum := "73ed629701d5d79705647755faf91a0d187b9147e2cc233594c71d384e921e04", func := "astrolabe/astrolabelaw7.RotTurns", spec := "rotTurns", inPlace := ["math/bits.Add64", "math/bits.Sub64"], unfollowed := true, recurses := true, named := ["math/bits.divideError", "math/bits.overflowError"], apart := false, narrowed := true }
def RotTurnsUptoSaid : Prop := rotTurnsUptoRow.holds Try.pinned (OpenSpec.upto rotTurnsSpec)

/-- 'astrolabelaw7.RotSmall', WHERE WHAT IT READS IS OF BULK AT MOST 1048576: true; the input reads as it did. -/
def rotSmallUptoRow : OpenClaim := { program := "ytaebmggjhjobnaa", sum := "73ed629701d5d79705647755faf91a0d187b9147e2cc233594c71d384e921e04", func := "astrolabe/astrolabelaw7.RotSmall", spec := "rotSmall", inPlace := ["math/bits.Add64", "math/bits.Sub64"], unfollowed := true, recurses := true, named := ["math/bits.divideError", "math/bits.overflowError"], apart := false, narrowed := true }
def RotSmallUptoSaid : Prop := rotSmallUptoRow.holds Try.pinned (OpenSpec.upto rotSmallSpec)

/-- 'astrolabelaw2.FxFlags', WHERE WHAT IT READS IS OF BULK AT MOST 1048576: true; the input reads as it did. -/
def fxFlagsUptoRow : OpenClaim := { program := "ytaebmggjhjobnaa", sum := "73ed629701d5d79705647755faf91a0d187b9147e2cc233594c71d384e921e04", func := "astrolabe/astrolabelaw2.FxFlags", spec := "fxFlags", inPlace := ["math/bits.Add64"], named := ["math/bits.divideError", "math/bits.overflowError"], apart := false, narrowed := true }
def FxFlagsUptoSaid : Prop := fxFlagsUptoRow.holds Try.pinned (OpenSpec.upto fxFlagsSpec)

/-- 'astrolabelaw2.FxJoins', WHERE WHAT IT READS IS OF BULK AT MOST 1048576: true; the input reads as it did. -/
def fxJoinsUptoRow : OpenClaim := { program := "ytaebmggjhjobnaa", sum := "73ed629701d5d79705647755faf91a0d187b9147e2cc233594c71d384e921e04", func := "astrolabe/astrolabelaw2.FxJoins", spec := "fxJoins", inPlace := ["math/bits.Add64"], named := ["math/bits.divideError", "math/bits.overflowError"], apart := false, narrowed := true }
def FxJoinsUptoSaid : Prop := fxJoinsUptoRow.holds Try.pinned (OpenSpec.upto fxJoinsSpec)

end Rows
end Go.Proofs.Ytaebmggjhjobnaa
