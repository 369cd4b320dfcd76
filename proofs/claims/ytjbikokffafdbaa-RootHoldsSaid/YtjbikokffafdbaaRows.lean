/-
  No cell of these rows narrows 'for every input' (looked for: loops, veiled, ifaces, maps, wideKeys, modest, calm, conditions, laid).
  DERIVED. THE GIVEN ROWS OF THIS SEAT. 12 by the template 'for every input the law returns true; each argument reads behind the call as it read before'; 0 by the template 'total and deterministic' (their statements: YtjbikokffafdbaaTotals.lean).
  GIVEN WITH THE SEED: the statements are not yours to turn. If you find one false, say at which input.
  Laid BY PROGRAM, IN A SANDBOX (cutbox-rows.mjs): the forced cells as the released guide's own fill.sh prints them over the translation 28af7c2384db4d0c… (all of the seat's roots in one cut). By AI agents, Wed Nov 11 2026. No macro, syntax, notation, axiom, sorry.
-/
import Derived.Test.YtjbikokffafdbaaChecked
import GoSem.Claim
import GoSem.ClaimJoined
import GoSem.ClaimMapViews
import Derived.JoinedTies
import Derived.KernelRfl
namespace Go.Proofs.Ytjbikokffafdbaa
/- THE CELL 'sum', in the pinned program and in every row, IS THE sha256 OF THE DUMP (.gsa) THAT YtjbikokffafdbaaProg.lean LOADS. Nothing in Lean hashes anything: it is a label: what it is worth is what the hold of that sum in a sandbox is worth. -/
noncomputable def Try.pinned : Pinned := { name := "ytjbikokffafdbaa", sum := "28af7c2384db4d0c87c66bcb0a4d381ca42acf9c974dba3f54cdbca93a2cda3e", checked := Try.checked }
namespace Rows
def none {H : Type} : Left H := { results := [], args := [] }

/-- 'astrolabelaw3.RootKnown': WHATEVER THE INPUT: true; the input reads as it did. -/
def rootKnownSpec : ChangeSpec := { name := "rootKnown", fn := fun _ => fun
  | [] => { results := [.lit (.bool true)], args := [] }
  | _ => none }
def rootKnownRow : OpenClaim := { program := "ytjbikokffafdbaa", sum := "28af7c2384db4d0c87c66bcb0a4d381ca42acf9c974dba3f54cdbca93a2cda3e", func := "astrolabe/astrolabelaw3.RootKnown", spec := "rootKnown", inPlace := ["math/bits.Add64", "math/bits.Sub64"], named := ["math/bits.divideError", "math/bits.overflowError"], apart := false }
def RootKnownSaid : Prop := rootKnownRow.holds Try.pinned (OpenSpec.ofChange rootKnownSpec)

/-- ITS FALSE NEIGHBOUR: 'it returns false'. Refute it at one input. -/
def rootKnownWrong : ChangeSpec := { name := "rootKnown", fn := fun _ => fun
  | [] => { results := [.lit (.bool false)], args := [] }
  | _ => none }
def RootKnownWrongFalsely : Prop := rootKnownRow.holds Try.pinned (OpenSpec.ofChange rootKnownWrong)

/-- 'astrolabelaw3.RootRises': WHATEVER THE INPUT: true; the input reads as it did. -/
def rootRisesSpec : ChangeSpec := { name := "rootRises", fn := fun _ => fun
  | [d1, d2] => { results := [.lit (.bool true)], args := [d1, d2] }
  | _ => none }
def rootRisesRow : OpenClaim := { program := "ytjbikokffafdbaa", sum := "28af7c2384db4d0c87c66bcb0a4d381ca42acf9c974dba3f54cdbca93a2cda3e", func := "astrolabe/astrolabelaw3.RootRises", spec := "rootRises", inPlace := ["math/bits.Add64", "math/bits.Sub64"], named := ["math/bits.divideError", "math/bits.overflowError"], apart := false }
def RootRisesSaid : Prop := rootRisesRow.holds Try.pinned (OpenSpec.ofChange rootRisesSpec)

/-- ITS FALSE NEIGHBOUR: 'it returns false'. Refute it at one input. -/
def rootRisesWrong : ChangeSpec := { name := "rootRises", fn := fun _ => fun
  | [d1, d2] => { results := [.lit (.bool false)], args := [d1, d2] }
  | _ => none }
def RootRisesWrongFalsely : Prop := rootRisesRow.holds Try.pinned (OpenSpec.ofChange rootRisesWrong)

/-- 'astrolabelaw3.RootMany': WHATEVER THE INPUT: true; the input reads as it did. -/
def rootManySpec : ChangeSpec := { name := "rootMany", fn := fun _ => fun
  | [d1, d2] => { results := [.lit (.bool true)], args := [d1, d2] }
  | _ => none }
def rootManyRow : OpenClaim := { program := "ytjbikokffafdbaa", sum := "28af7c2384db4d0c87c66bcb0a4d381ca42acf9c974dba3f54cdbca93a2cda3e", func := "astrolabe/astrolabelaw3.RootMany", spec := "rootMany", inPlace := ["math/bits.Add64", "math/bits.Sub64"], named := ["math/bits.divideError", "math/bits.overflowError"], apart := false }
def RootManySaid : Prop := rootManyRow.holds Try.pinned (OpenSpec.ofChange rootManySpec)

/-- ITS FALSE NEIGHBOUR: 'it returns false'. Refute it at one input. -/
def rootManyWrong : ChangeSpec := { name := "rootMany", fn := fun _ => fun
  | [d1, d2] => { results := [.lit (.bool false)], args := [d1, d2] }
  | _ => none }
def RootManyWrongFalsely : Prop := rootManyRow.holds Try.pinned (OpenSpec.ofChange rootManyWrong)

/-- 'astrolabelaw2.FxKnown': WHATEVER THE INPUT: true; the input reads as it did. -/
def fxKnownSpec : ChangeSpec := { name := "fxKnown", fn := fun _ => fun
  | [] => { results := [.lit (.bool true)], args := [] }
  | _ => none }
def fxKnownRow : OpenClaim := { program := "ytjbikokffafdbaa", sum := "28af7c2384db4d0c87c66bcb0a4d381ca42acf9c974dba3f54cdbca93a2cda3e", func := "astrolabe/astrolabelaw2.FxKnown", spec := "fxKnown", inPlace := ["math/bits.Add64"], named := ["math/bits.divideError", "math/bits.overflowError"], apart := false }
def FxKnownSaid : Prop := fxKnownRow.holds Try.pinned (OpenSpec.ofChange fxKnownSpec)

/-- ITS FALSE NEIGHBOUR: 'it returns false'. Refute it at one input. -/
def fxKnownWrong : ChangeSpec := { name := "fxKnown", fn := fun _ => fun
  | [] => { results := [.lit (.bool false)], args := [] }
  | _ => none }
def FxKnownWrongFalsely : Prop := fxKnownRow.holds Try.pinned (OpenSpec.ofChange fxKnownWrong)

/-- 'astrolabelaw2.FxOps': WHATEVER THE INPUT: true; the input reads as it did. -/
def fxOpsSpec : ChangeSpec := { name := "fxOps", fn := fun _ => fun
  | [d1, d2, d3, d4] => { results := [.lit (.bool true)], args := [d1, d2, d3, d4] }
  | _ => none }
def fxOpsRow : OpenClaim := { program := "ytjbikokffafdbaa", sum := "28af7c2384db4d0c87c66bcb0a4d381ca42acf9c974dba3f54cdbca93a2cda3e", func := "astrolabe/astrolabelaw2.FxOps", spec := "fxOps", inPlace := ["math/bits.Add64"], named := ["math/bits.divideError", "math/bits.overflowError"], apart := false }
def FxOpsSaid : Prop := fxOpsRow.holds Try.pinned (OpenSpec.ofChange fxOpsSpec)

/-- ITS FALSE NEIGHBOUR: 'it returns false'. Refute it at one input. -/
def fxOpsWrong : ChangeSpec := { name := "fxOps", fn := fun _ => fun
  | [d1, d2, d3, d4] => { results := [.lit (.bool false)], args := [d1, d2, d3, d4] }
  | _ => none }
def FxOpsWrongFalsely : Prop := fxOpsRow.holds Try.pinned (OpenSpec.ofChange fxOpsWrong)

/-- 'astrolabelaw2.FxDots': WHATEVER THE INPUT: true; the input reads as it did. -/
def fxDotsSpec : ChangeSpec := { name := "fxDots", fn := fun _ => fun
  | [d1, d2, d3] => { results := [.lit (.bool true)], args := [d1, d2, d3] }
  | _ => none }
def fxDotsRow : OpenClaim := { program := "ytjbikokffafdbaa", sum := "28af7c2384db4d0c87c66bcb0a4d381ca42acf9c974dba3f54cdbca93a2cda3e", func := "astrolabe/astrolabelaw2.FxDots", spec := "fxDots", inPlace := ["math/bits.Add64"], named := ["math/bits.divideError", "math/bits.overflowError"], apart := false }
def FxDotsSaid : Prop := fxDotsRow.holds Try.pinned (OpenSpec.ofChange fxDotsSpec)

/-- ITS FALSE NEIGHBOUR: 'it returns false'. Refute it at one input. -/
def fxDotsWrong : ChangeSpec := { name := "fxDots", fn := fun _ => fun
  | [d1, d2, d3] => { results := [.lit (.bool false)], args := [d1, d2, d3] }
  | _ => none }
def FxDotsWrongFalsely : Prop := fxDotsRow.holds Try.pinned (OpenSpec.ofChange fxDotsWrong)

/-- 'astrolabelaw2.FxFlags': WHATEVER THE INPUT: true; the input reads as it did. -/
def fxFlagsSpec : ChangeSpec := { name := "fxFlags", fn := fun _ => fun
  | [d1, d2, d3] => { results := [.lit (.bool true)], args := [d1, d2, d3] }
  | _ => none }
def fxFlagsRow : OpenClaim := { program := "ytjbikokffafdbaa", sum := "28af7c2384db4d0c87c66bcb0a4d381ca42acf9c974dba3f54cdbca93a2cda3e", func := "astrolabe/astrolabelaw2.FxFlags", spec := "fxFlags", inPlace := ["math/bits.Add64"], named := ["math/bits.divideError", "math/bits.overflowError"], apart := false }
def FxFlagsSaid : Prop := fxFlagsRow.holds Try.pinned (OpenSpec.ofChange fxFlagsSpec)

/-- ITS FALSE NEIGHBOUR: 'it returns false'. Refute it at one input. -/
def fxFlagsWrong : ChangeSpec := { name := "fxFlags", fn := fun _ => fun
  | [d1, d2, d3] => { results := [.lit (.bool false)], args := [d1, d2, d3] }
  | _ => none }
def FxFlagsWrongFalsely : Prop := fxFlagsRow.holds Try.pinned (OpenSpec.ofChange fxFlagsWrong)

/-- 'astrolabelaw2.FxLaws': WHATEVER THE INPUT: true; the input reads as it did. -/
def fxLawsSpec : ChangeSpec := { name := "fxLaws", fn := fun _ => fun
  | [d1, d2, d3] => { results := [.lit (.bool true)], args := [d1, d2, d3] }
  | _ => none }
def fxLawsRow : OpenClaim := { program := "ytjbikokffafdbaa", sum := "28af7c2384db4d0c87c66bcb0a4d381ca42acf9c974dba3f54cdbca93a2cda3e", func := "astrolabe/astrolabelaw2.FxLaws", spec := "fxLaws", inPlace := ["math/bits.Add64"], named := ["math/bits.divideError", "math/bits.overflowError"], apart := false }
def FxLawsSaid : Prop := fxLawsRow.holds Try.pinned (OpenSpec.ofChange fxLawsSpec)

/-- ITS FALSE NEIGHBOUR: 'it returns false'. Refute it at one input. -/
def fxLawsWrong : ChangeSpec := { name := "fxLaws", fn := fun _ => fun
  | [d1, d2, d3] => { results := [.lit (.bool false)], args := [d1, d2, d3] }
  | _ => none }
def FxLawsWrongFalsely : Prop := fxLawsRow.holds Try.pinned (OpenSpec.ofChange fxLawsWrong)

/-- 'astrolabelaw2.FxClamps': WHATEVER THE INPUT: true; the input reads as it did. -/
def fxClampsSpec : ChangeSpec := { name := "fxClamps", fn := fun _ => fun
  | [d1, d2, d3, d4] => { results := [.lit (.bool true)], args := [d1, d2, d3, d4] }
  | _ => none }
def fxClampsRow : OpenClaim := { program := "ytjbikokffafdbaa", sum := "28af7c2384db4d0c87c66bcb0a4d381ca42acf9c974dba3f54cdbca93a2cda3e", func := "astrolabe/astrolabelaw2.FxClamps", spec := "fxClamps", inPlace := ["math/bits.Add64"], named := ["math/bits.divideError", "math/bits.overflowError"], apart := false }
def FxClampsSaid : Prop := fxClampsRow.holds Try.pinned (OpenSpec.ofChange fxClampsSpec)

/-- ITS FALSE NEIGHBOUR: 'it returns false'. Refute it at one input. -/
def fxClampsWrong : ChangeSpec := { name := "fxClamps", fn := fun _ => fun
  | [d1, d2, d3, d4] => { results := [.lit (.bool false)], args := [d1, d2, d3, d4] }
  | _ => none }
def FxClampsWrongFalsely : Prop := fxClampsRow.holds Try.pinned (OpenSpec.ofChange fxClampsWrong)

/-- 'astrolabelaw2.FxJoins': WHATEVER THE INPUT: true; the input reads as it did. -/
def fxJoinsSpec : ChangeSpec := { name := "fxJoins", fn := fun _ => fun
  | [d1, d2, d3, d4] => { results := [.lit (.bool true)], args := [d1, d2, d3, d4] }
  | _ => none }
def fxJoinsRow : OpenClaim := { program := "ytjbikokffafdbaa", sum := "28af7c2384db4d0c87c66bcb0a4d381ca42acf9c974dba3f54cdbca93a2cda3e", func := "astrolabe/astrolabelaw2.FxJoins", spec := "fxJoins", inPlace := ["math/bits.Add64"], named := ["math/bits.divideError", "math/bits.overflowError"], apart := false }
def FxJoinsSaid : Prop := fxJoinsRow.holds Try.pinned (OpenSpec.ofChange fxJoinsSpec)

/-- ITS FALSE NEIGHBOUR: 'it returns false'. Refute it at one input. -/
def fxJoinsWrong : ChangeSpec := { name := "fxJoins", fn := fun _ => fun
  | [d1, d2, d3, d4] => { results := [.lit (.bool false)], args := [d1, d2, d3, d4] }
  | _ => none }
def FxJoinsWrongFalsely : Prop := fxJoinsRow.holds Try.pinned (OpenSpec.ofChange fxJoinsWrong)

/-- 'astrolabelaw2.FxHalves': WHATEVER THE INPUT: true; the input reads as it did. -/
def fxHalvesSpec : ChangeSpec := { name := "fxHalves", fn := fun _ => fun
  | [d1, d2] => { results := [.lit (.bool true)], args := [d1, d2] }
  | _ => none }
def fxHalvesRow : OpenClaim := { program := "ytjbikokffafdbaa", sum := "28af7c2384db4d0c87c66bcb0a4d381ca42acf9c974dba3f54cdbca93a2cda3e", func := "astrolabe/astrolabelaw2.FxHalves", spec := "fxHalves", inPlace := ["math/bits.Add64"], named := ["math/bits.divideError", "math/bits.overflowError"], apart := false }
def FxHalvesSaid : Prop := fxHalvesRow.holds Try.pinned (OpenSpec.ofChange fxHalvesSpec)

/-- ITS FALSE NEIGHBOUR: 'it returns false'. Refute it at one input. -/
def fxHalvesWrong : ChangeSpec := { name := "fxHalves", fn := fun _ => fun
  | [d1, d2] => { results := [.lit (.bool false)], args := [d1, d2] }
  | _ => none }
def FxHalvesWrongFalsely : Prop := fxHalvesRow.holds Try.pinned (OpenSpec.ofChange fxHalvesWrong)

/-- 'astrolabelaw3.RootHolds': WHATEVER THE INPUT: true; the input reads as it did. -/
def rootHoldsSpec : ChangeSpec := { name := "rootHolds", fn := fun _ => fun
  | [d1, d2, d3] => { results := [.lit (.bool true)], args := [d1, d2, d3] }
  | _ => none }
def rootHoldsRow : OpenClaim := { program := "ytjbikokffafdbaa", sum := "28af7c2384db4d0c87c66bcb0a4d381ca42acf9c974dba3f54cdbca93a2cda3e", func := "astrolabe/astrolabelaw3.RootHolds", spec := "rootHolds", inPlace := ["math/bits.Add64", "math/bits.Sub64"], named := ["math/bits.divideError", "math/bits.overflowError"], apart := false }
def RootHoldsSaid : Prop := rootHoldsRow.holds Try.pinned (OpenSpec.ofChange rootHoldsSpec)

/-- ITS FALSE NEIGHBOUR: 'it returns false'. Refute it at one input. -/
def rootHoldsWrong : ChangeSpec := { name := "rootHolds", fn := fun _ => fun
  | [d1, d2, d3] => { results := [.lit (.bool false)], args := [d1, d2, d3] }
  | _ => none }
def RootHoldsWrongFalsely : Prop := rootHoldsRow.holds Try.pinned (OpenSpec.ofChange rootHoldsWrong)

/- THE SECOND FORM. 'bulk': how many values and letters a reading holds, each counted each time it is reached (what is shared counts as often as it is met; a slice's spare places count too). A statement '..UptoSaid' is the law's where the arguments, and the package variables that the reading takes, are together of bulk at most 1048576: NARROWER than '..Said'. Prove '..Said' where nothing that the law and all that it calls make is longer than what came in: it says more and counts as full. Else prove '..UptoSaid'. A law counts once. -/
mutual
def uptoBulk {H : Type} : DataW H → Nat
  | .lit (.string bytes) => bytes.length + 1
  | .lit _ => 1
  | .nil => 1
  | .ptr d => uptoBulk d + 1
  | .slice elems spare => uptoBulkAll elems + uptoBulkAll spare + 1
  | .agg parts => uptoBulkAll parts + 1
  | .iface _ d => uptoBulk d + 1
  | .map entries => uptoBulkEntries entries + 1
  | .held _ => 1
def uptoBulkAll {H : Type} : List (DataW H) → Nat
  | [] => 0
  | d :: r => uptoBulk d + uptoBulkAll r
def uptoBulkEntries {H : Type} : List (Lit × DataW H) → Nat
  | [] => 0
  | x :: r => uptoBulkEntry x + uptoBulkEntries r
def uptoBulkEntry {H : Type} : Lit × DataW H → Nat
  | (.string bytes, d) => bytes.length + uptoBulk d + 1
  | (_, d) => uptoBulk d + 1
 end
def uptoSmall : (H : Type) → List (DataW H) → Bool := fun _ ds => decide (uptoBulkAll ds ≤ 1048576)
def OpenSpec.upto (s : _root_.Go.ChangeSpec) : _root_.Go.OpenSpec := { _root_.Go.OpenSpec.ofChange s with cond := some uptoSmall }

/-- 'astrolabelaw3.RootKnown', WHERE WHAT IT READS IS OF BULK AT MOST 1048576: true; the input reads as it did. -/
def rootKnownUptoRow : OpenClaim := { program := "ytjbikokffafdbaa", sum := "28af7c2384db4d0c87c66bcb0a4d381ca42acf9c974dba3f54cdbca93a2cda3e", func := "astrolabe/astrolabelaw3.RootKnown", spec := "rootKnown", inPlace := ["math/bits.Add64", "math/bits.Sub64"], named := ["math/bits.divideError", "math/bits.overflowError"], apart := false, narrowed := true }
def RootKnownUptoSaid : Prop := rootKnownUptoRow.holds Try.pinned (OpenSpec.upto rootKnownSpec)

/-- 'astrolabelaw3.RootRises', WHERE WHAT IT READS IS OF BULK AT MOST 1048576: true; the input reads as it did. -/
def rootRisesUptoRow : OpenClaim := { program := "ytjbikokffafdbaa", sum := "28af7c2384db4d0c87c66bcb0a4d381ca42acf9c974dba3f54cdbca93a2cda3e", func := "astrolabe/astrolabelaw3.RootRises", spec := "rootRises", inPlace := ["math/bits.Add64", "math/bits.Sub64"], named := ["math/bits.divideError", "math/bits.overflowError"], apart := false, narrowed := true }
def RootRisesUptoSaid : Prop := rootRisesUptoRow.holds Try.pinned (OpenSpec.upto rootRisesSpec)

/-- 'astrolabelaw3.RootMany', WHERE WHAT IT READS IS OF BULK AT MOST 1048576: true; the input reads as it did. -/
def rootManyUptoRow : OpenClaim := { program := "ytjbikokffafdbaa", sum := "28af7c2384db4d0c87c66bcb0a4d381ca42acf9c974dba3f54cdbca93a2cda3e", func := "astrolabe/astrolabelaw3.RootMany", spec := "rootMany", inPlace := ["math/bits.Add64", "math/bits.Sub64"], named := ["math/bits.divideError", "math/bits.overflowError"], apart := false, narrowed := true }
def RootManyUptoSaid : Prop := rootManyUptoRow.holds Try.pinned (OpenSpec.upto rootManySpec)

/-- 'astrolabelaw2.FxKnown', WHERE WHAT IT READS IS OF BULK AT MOST 1048576: true; the input reads as it did. -/
def fxKnownUptoRow : OpenClaim := { program := "ytjbikokffafdbaa", sum := "28af7c2384db4d0c87c66bcb0a4d381ca42acf9c974dba3f54cdbca93a2cda3e", func := "astrolabe/astrolabelaw2.FxKnown", spec := "fxKnown", inPlace := ["math/bits.Add64"], named := ["math/bits.divideError", "math/bits.overflowError"], apart := false, narrowed := true }
def FxKnownUptoSaid : Prop := fxKnownUptoRow.holds Try.pinned (OpenSpec.upto fxKnownSpec)

/-- 'astrolabelaw2.FxOps', WHERE WHAT IT READS IS OF BULK AT MOST 1048576: true; the input reads as it did. -/
def fxOpsUptoRow : OpenClaim := { program := "ytjbikokffafdbaa", sum := "28af7c2384db4d0c87c66bcb0a4d381ca42acf9c974dba3f54cdbca93a2cda3e", func := "astrolabe/astrolabelaw2.FxOps", spec := "fxOps", inPlace := ["math/bits.Add64"], named := ["math/bits.divideError", "math/bits.overflowError"], apart := false, narrowed := true }
def FxOpsUptoSaid : Prop := fxOpsUptoRow.holds Try.pinned (OpenSpec.upto fxOpsSpec)

/-- 'astrolabelaw2.FxDots', WHERE WHAT IT READS IS OF BULK AT MOST 1048576: true; the input reads as it did. -/
def fxDotsUptoRow : OpenClaim := { program := "ytjbikokffafdbaa", sum := "28af7c2384db4d0c87c66bcb0a4d381ca42acf9c974dba3f54cdbca93a2cda3e", func := "astrolabe/astrolabelaw2.FxDots", spec := "fxDots", inPlace := ["math/bits.Add64"], named := ["math/bits.divideError", "math/bits.overflowError"], apart := false, narrowed := true }
def FxDotsUptoSaid : Prop := fxDotsUptoRow.holds Try.pinned (OpenSpec.upto fxDotsSpec)

/-- 'astrolabelaw2.FxFlags', WHERE WHAT IT READS IS OF BULK AT MOST 1048576: true; the input reads as it did. -/
def fxFlagsUptoRow : OpenClaim := { program := "ytjbikokffafdbaa", sum := "28af7c2384db4d0c87c66bcb0a4d381ca42acf9c974dba3f54cdbca93a2cda3e", func := "astrolabe/astrolabelaw2.FxFlags", spec := "fxFlags", inPlace := ["math/bits.Add64"], named := ["math/bits.divideError", "math/bits.overflowError"], apart := false, narrowed := true }
def FxFlagsUptoSaid : Prop := fxFlagsUptoRow.holds Try.pinned (OpenSpec.upto fxFlagsSpec)

/-- 'astrolabelaw2.FxLaws', WHERE WHAT IT READS IS OF BULK AT MOST 1048576: true; the input reads as it did. -/
def fxLawsUptoRow : OpenClaim := { program := "ytjbikokffafdbaa", sum := "28af7c2384db4d0c87c66bcb0a4d381ca42acf9c974dba3f54cdbca93a2cda3e", func := "astrolabe/astrolabelaw2.FxLaws", spec := "fxLaws", inPlace := ["math/bits.Add64"], named := ["math/bits.divideError", "math/bits.overflowError"], apart := false, narrowed := true }
def FxLawsUptoSaid : Prop := fxLawsUptoRow.holds Try.pinned (OpenSpec.upto fxLawsSpec)

/-- 'astrolabelaw2.FxClamps', WHERE WHAT IT READS IS OF BULK AT MOST 1048576: true; the input reads as it did. -/
def fxClampsUptoRow : OpenClaim := { program := "ytjbikokffafdbaa", sum := "28af7c2384db4d0c87c66bcb0a4d381ca42acf9c974dba3f54cdbca93a2cda3e", func := "astrolabe/astrolabelaw2.FxClamps", spec := "fxClamps", inPlace := ["math/bits.Add64"], named := ["math/bits.divideError", "math/bits.overflowError"], apart := false, narrowed := true }
def FxClampsUptoSaid : Prop := fxClampsUptoRow.holds Try.pinned (OpenSpec.upto fxClampsSpec)

/-- 'astrolabelaw2.FxJoins', WHERE WHAT IT READS IS OF BULK AT MOST 1048576: true; the input reads as it did. -/
def fxJoinsUptoRow : OpenClaim := { program := "ytjbikokffafdbaa", sum := "28af7c2384db4d0c87c66bcb0a4d381ca42acf9c974dba3f54cdbca93a2cda3e", func := "astrolabe/astrolabelaw2.FxJoins", spec := "fxJoins", inPlace := ["math/bits.Add64"], named := ["math/bits.divideError", "math/bits.overflowError"], apart := false, narrowed := true }
def FxJoinsUptoSaid : Prop := fxJoinsUptoRow.holds Try.pinned (OpenSpec.upto fxJoinsSpec)

/-- 'astrolabelaw2.FxHalves', WHERE WHAT IT READS IS OF BULK AT MOST 1048576: true; the input reads as it did. -/
def fxHalvesUptoRow : OpenClaim := { program := "ytjbikokffafdbaa", sum := "28af7c2384db4d0c87c66bcb0a4d381ca42acf9c974dba3f54cdbca93a2cda3e", func := "astrolabe/astrolabelaw2.FxHalves", spec := "fxHalves", inPlace := ["math/bits.Add64"], named := ["math/bits.divideError", "math/bits.overflowError"], apart := false, narrowed := true }
def FxHalvesUptoSaid : Prop := fxHalvesUptoRow.holds Try.pinned (OpenSpec.upto fxHalvesSpec)

/-- 'astrolabelaw3.RootHolds', WHERE WHAT IT READS IS OF BULK AT MOST 1048576: true; the input reads as it did. -/
def rootHoldsUptoRow : OpenClaim := { program := "ytjbikokffafdbaa", sum := "28af7c2384db4d0c87c66bcb0a4d381ca42acf9c974dba3f54cdbca93a2cda3e", func := "astrolabe/astrolabelaw3.RootHolds", spec := "rootHolds", inPlace := ["math/bits.Add64", "math/bits.Sub64"], named := ["math/bits.divideError", "math/bits.overflowError"], apart := false, narrowed := true }
def RootHoldsUptoSaid : Prop := rootHoldsUptoRow.holds Try.pinned (OpenSpec.upto rootHoldsSpec)

end Rows
end Go.Proofs.Ytjbikokffafdbaa
