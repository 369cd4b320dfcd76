/-
  No cell of these rows narrows 'for every input' (looked for: loops, veiled, ifaces, maps, wideKeys, modest, calm, conditions, laid).
  DERIVED. THE GIVEN ROWS OF THIS SEAT. 8 by the template 'for every input the law returns true; each argument reads behind the call as it read before'; 0 by the template 'total and deterministic' (their statements: YtnabopepomjncaaTotals.lean).
  GIVEN WITH THE SEED: the statements are not yours to turn. If you find one false, say at which input.
  Laid BY PROGRAM, IN A SANDBOX (cutbox-rows.mjs): the forced cells as the released guide's own fill.sh prints them over the translation 8eef63d40d70a662… (all of the seat's roots in one cut). By AI agents, Wed Nov 11 2026. No macro, syntax, notation, axiom, sorry.
-/
import Derived.Test.YtnabopepomjncaaChecked
import GoSem.Claim
import GoSem.ClaimJoined
import GoSem.ClaimMapViews
import Derived.JoinedTies
import Derived.KernelRfl
namespace Go.Proofs.Ytnabopepomjncaa
/- THE CELL 'sum', in the pinned program and in every row, IS THE sha256 OF THE DUMP (.gsa) THAT YtnabopepomjncaaProg.lean LOADS. Nothing in Lean hashes anything: it is a label: what it is worth is what the hold of that sum in a sandbox is worth. -/
noncomputable def Try.pinned : Pinned := { name := "ytnabopepomjncaa", sum := "8eef63d40d70a6626b3b366c3e2de9223044b83bee6685aa9820c1cb532df19b", checked := Try.checked }
namespace Rows
def none {H : Type} : Left H := { results := [], args := [] }

/-- 'astrolabelaw2.FxFlags': WHATEVER THE INPUT: true; the input reads as it did. -/
def fxFlagsSpec : ChangeSpec := { name := "fxFlags", fn := fun _ => fun
  | [d1, d2, d3] => { results := [.lit (.bool true)], args := [d1, d2, d3] }
  | _ => none }
def fxFlagsRow : OpenClaim := { program := "ytnabopepomjncaa", sum := "8eef63d40d70a6626b3b366c3e2de9223044b83bee6685aa9820c1cb532df19b", func := "astrolabe/astrolabelaw2.FxFlags", spec := "fxFlags", inPlace := ["math/bits.Add64"], named := ["math/bits.divideError", "math/bits.overflowError"], apart := false }
def FxFlagsSaid : Prop := fxFlagsRow.holds Try.pinned (OpenSpec.ofChange fxFlagsSpec)

/-- ITS FALSE NEIGHBOUR: 'it returns false'. Refute it at one input. -/
def fxFlagsWrong : ChangeSpec := { name := "fxFlags", fn := fun _ => fun
  | [d1, d2, d3] => { results := [.lit (.bool false)], args := [d1, d2, d3] }
  | _ => none }
def FxFlagsWrongFalsely : Prop := fxFlagsRow.holds Try.pinned (OpenSpec.ofChange fxFlagsWrong)

/-- 'astrolabelaw2.FxJoins': WHATEVER THE INPUT: true; the input reads as it did. -/
def fxJoinsSpec : ChangeSpec := { name := "fxJoins", fn := fun _ => fun
  | [d1, d2, d3, d4] => { results := [.lit (.bool true)], args := [d1, d2, d3, d4] }
  | _ => none }
def fxJoinsRow : OpenClaim := { program := "ytnabopepomjncaa", sum := "8eef63d40d70a6626b3b366c3e2de9223044b83bee6685aa9820c1cb532df19b", func := "astrolabe/astrolabelaw2.FxJoins", spec := "fxJoins", inPlace := ["math/bits.Add64"], named := ["math/bits.divideError", "math/bits.overflowError"], apart := false }
def FxJoinsSaid : Prop := fxJoinsRow.holds Try.pinned (OpenSpec.ofChange fxJoinsSpec)

/-- ITS FALSE NEIGHBOUR: 'it returns false'. Refute it at one input. -/
def fxJoinsWrong : ChangeSpec := { name := "fxJoins", fn := fun _ => fun
  | [d1, d2, d3, d4] => { results := [.lit (.bool false)], args := [d1, d2, d3, d4] }
  | _ => none }
def FxJoinsWrongFalsely : Prop := fxJoinsRow.holds Try.pinned (OpenSpec.ofChange fxJoinsWrong)

/-- 'astrolabelaw2.FxOps': WHATEVER THE INPUT: true; the input reads as it did. -/
def fxOpsSpec : ChangeSpec := { name := "fxOps", fn := fun _ => fun
  | [d1, d2, d3, d4] => { results := [.lit (.bool true)], args := [d1, d2, d3, d4] }
  | _ => none }
def fxOpsRow : OpenClaim := { program := "ytnabopepomjncaa", sum := "8eef63d40d70a6626b3b366c3e2de9223044b83bee6685aa9820c1cb532df19b", func := "astrolabe/astrolabelaw2.FxOps", spec := "fxOps", inPlace := ["math/bits.Add64"], named := ["math/bits.divideError", "math/bits.overflowError"], apart := false }
def FxOpsSaid : Prop := fxOpsRow.holds Try.pinned (OpenSpec.ofChange fxOpsSpec)

/-- ITS FALSE NEIGHBOUR: 'it returns false'. Refute it at one input. -/
def fxOpsWrong : ChangeSpec := { name := "fxOps", fn := fun _ => fun
  | [d1, d2, d3, d4] => { results := [.lit (.bool false)], args := [d1, d2, d3, d4] }
  | _ => none }
def FxOpsWrongFalsely : Prop := fxOpsRow.holds Try.pinned (OpenSpec.ofChange fxOpsWrong)

/-- 'astrolabelaw2.FxDots': WHATEVER THE INPUT: true; the input reads as it did. -/
def fxDotsSpec : ChangeSpec := { name := "fxDots", fn := fun _ => fun
  | [d1, d2, d3] => { results := [.lit (.bool true)], args := [d1, d2, d3] }
  | _ => none }
def fxDotsRow : OpenClaim := { program := "ytnabopepomjncaa", sum := "8eef63d40d70a6626b3b366c3e2de9223044b83bee6685aa9820c1cb532df19b", func := "astrolabe/astrolabelaw2.FxDots", spec := "fxDots", inPlace := ["math/bits.Add64"], named := ["math/bits.divideError", "math/bits.overflowError"], apart := false }
def FxDotsSaid : Prop := fxDotsRow.holds Try.pinned (OpenSpec.ofChange fxDotsSpec)

/-- ITS FALSE NEIGHBOUR: 'it returns false'. Refute it at one input. -/
def fxDotsWrong : ChangeSpec := { name := "fxDots", fn := fun _ => fun
  | [d1, d2, d3] => { results := [.lit (.bool false)], args := [d1, d2, d3] }
  | _ => none }
def FxDotsWrongFalsely : Prop := fxDotsRow.holds Try.pinned (OpenSpec.ofChange fxDotsWrong)

/-- 'astrolabelaw3.RootMany': WHATEVER THE INPUT: true; the input reads as it did. -/
def rootManySpec : ChangeSpec := { name := "rootMany", fn := fun _ => fun
  | [d1, d2] => { results := [.lit (.bool true)], args := [d1, d2] }
  | _ => none }
def rootManyRow : OpenClaim := { program := "ytnabopepomjncaa", sum := "8eef63d40d70a6626b3b366c3e2de9223044b83bee6685aa9820c1cb532df19b", func := "astrolabe/astrolabelaw3.RootMany", spec := "rootMany", inPlace := ["math/bits.Add64", "math/bits.Sub64"], named := ["math/bits.divideError", "math/bits.overflowError"], apart := false }
def RootManySaid : Prop := rootManyRow.holds Try.pinned (OpenSpec.ofChange rootManySpec)

/-- ITS FALSE NEIGHBOUR: 'it returns false'. Refute it at one input. -/
def rootManyWrong : ChangeSpec := { name := "rootMany", fn := fun _ => fun
  | [d1, d2] => { results := [.lit (.bool false)], args := [d1, d2] }
  | _ => none }
def RootManyWrongFalsely : Prop := rootManyRow.holds Try.pinned (OpenSpec.ofChange rootManyWrong)

/-- 'astrolabelaw6.QuatChains': WHATEVER THE INPUT: true; the input reads as it did. -/
def quatChainsSpec : ChangeSpec := { name := "quatChains", fn := fun _ => fun
  | [d] => { results := [.lit (.bool true)], args := [d] }
  | _ => none }
def quatChainsRow : OpenClaim := { program := "ytnabopepomjncaa", sum := "8eef63d40d70a6626b3b366c3e2de9223044b83bee6685aa9820c1cb532df19b", func := "astrolabe/astrolabelaw6.QuatChains", spec := "quatChains", inPlace := ["math/bits.Add64", "math/bits.Sub64"], unfollowed := true, recurses := true, named := ["math/bits.divideError", "math/bits.overflowError"], apart := false }
def QuatChainsSaid : Prop := quatChainsRow.holds Try.pinned (OpenSpec.ofChange quatChainsSpec)

/-- ITS FALSE NEIGHBOUR: 'it returns false'. Refute it at one input. -/
def quatChainsWrong : ChangeSpec := { name := "quatChains", fn := fun _ => fun
  | [d] => { results := [.lit (.bool false)], args := [d] }
  | _ => none }
def QuatChainsWrongFalsely : Prop := quatChainsRow.holds Try.pinned (OpenSpec.ofChange quatChainsWrong)

/-- 'astrolabelaw23.FlowRates': WHATEVER THE INPUT: true; the input reads as it did. -/
def flowRatesSpec : ChangeSpec := { name := "flowRates", fn := fun _ => fun
  | [d1, d2, d3, d4] => { results := [.lit (.bool true)], args := [d1, d2, d3, d4] }
  | _ => none }
def flowRatesRow : OpenClaim := { program := "ytnabopepomjncaa", sum := "8eef63d40d70a6626b3b366c3e2de9223044b83bee6685aa9820c1cb532df19b", func := "astrolabe/astrolabelaw23.FlowRates", spec := "flowRates", inPlace := ["math/bits.Add64"], unfollowed := true, recurses := true, named := ["math/bits.divideError", "math/bits.overflowError"], apart := false }
def FlowRatesSaid : Prop := flowRatesRow.holds Try.pinned (OpenSpec.ofChange flowRatesSpec)

/-- ITS FALSE NEIGHBOUR: 'it returns false'. Refute it at one input. -/
def flowRatesWrong : ChangeSpec := { name := "flowRates", fn := fun _ => fun
  | [d1, d2, d3, d4] => { results := [.lit (.bool false)], args := [d1, d2, d3, d4] }
  | _ => none }
def FlowRatesWrongFalsely : Prop := flowRatesRow.holds Try.pinned (OpenSpec.ofChange flowRatesWrong)

/-- 'astrolabelaw21.MagTurns': WHATEVER THE INPUT: true; the input reads as it did. -/
def magTurnsSpec : ChangeSpec := { name := "magTurns", fn := fun _ => fun
  | [d1, d2, d3, d4, d5] => { results := [.lit (.bool true)], args := [d1, d2, d3, d4, d5] }
  | _ => none }
def magTurnsRow : OpenClaim := { program := "ytnabopepomjncaa", sum := "8eef63d40d70a6626b3b366c3e2de9223044b83bee6685aa9820c1cb532df19b", func := "astrolabe/astrolabelaw21.MagTurns", spec := "magTurns", inPlace := ["math/bits.Add64", "math/bits.Sub64"], unfollowed := true, recurses := true, named := ["math/bits.divideError", "math/bits.overflowError"], apart := false }
def MagTurnsSaid : Prop := magTurnsRow.holds Try.pinned (OpenSpec.ofChange magTurnsSpec)

/-- ITS FALSE NEIGHBOUR: 'it returns false'. Refute it at one input. -/
def magTurnsWrong : ChangeSpec := { name := "magTurns", fn := fun _ => fun
  | [d1, d2, d3, d4, d5] => { results := [.lit (.bool false)], args := [d1, d2, d3, d4, d5] }
  | _ => none }
def MagTurnsWrongFalsely : Prop := magTurnsRow.holds Try.pinned (OpenSpec.ofChange magTurnsWrong)

/- THE SECOND FORM. 'bulk': how many values and letters a reading holds, each counted each time it is reached (what is shared counts as often as it is met; a slice's spare places count too). A statement '..UptoSaid' is the law's where the arguments, and the package variables that the reading takes, are together of bulk at most 1048576: NARROWER than '..Said'. Prove '..Said' where nothing that the law and all that it calls make is longer than what came in: it says more and counts as full. Else prove '..UptoSaid'. A law counts once. -/
mutual
def uptoBulk {H : Type} : DataW H → Nat
  | .lit (.string bytes) => bytes.length + 1
  | .lit _ => 1
  | .nil => 1
  | .ptr d => uptoBulk d + 1
  | .slice elems spare => uptoBulkAll elems + uptoBulkAll spare + 1
  | .agg parts => uptoBulkAll parts + 1
  | .iface _ d => uptoBulk d + 1
  | .map entries => uptoBulkEntries entries + 1
  | .held _ => 1
def uptoBulkAll {H : Type} : List (DataW H) → Nat
  | [] => 0
  | d :: r => uptoBulk d + uptoBulkAll r
def uptoBulkEntries {H : Type} : List (Lit × DataW H) → Nat
  | [] => 0
  | x :: r => uptoBulkEntry x + uptoBulkEntries r
def uptoBulkEntry {H : Type} : Lit × DataW H → Nat
  | (.string bytes, d) => bytes.length + uptoBulk d + 1
  | (_, d) => uptoBulk d + 1
 end
def uptoSmall : (H : Type) → List (DataW H) → Bool := fun _ ds => decide (uptoBulkAll ds ≤ 1048576)
def OpenSpec.upto (s : _root_.Go.ChangeSpec) : _root_.Go.OpenSpec := { _root_.Go.OpenSpec.ofChange s with cond := some uptoSmall }

/-- 'astrolabelaw2.FxFlags', WHERE WHAT IT READS IS OF BULK AT MOST 1048576: true; the input reads as it did. -/
def fxFlagsUptoRow : OpenClaim := { program := "ytnabopepomjncaa", sum := "8eef63d40d70a6626b3b366c3e2de9223044b83bee6685aa9820c1cb532df19b", func := "astrolabe/astrolabelaw2.FxFlags", spec := "fxFlags", inPlace := ["math/bits.Add64"], named := ["math/bits.divideError", "math/bits.overflowError"], apart := false, narrowed := true }
def FxFlagsUptoSaid : Prop := fxFlagsUptoRow.holds Try.pinned (OpenSpec.upto fxFlagsSpec)

/-- 'astrolabelaw2.FxJoins', WHERE WHAT IT READS IS OF BULK AT MOST 1048576: true; the input reads as it did. -/
def fxJoinsUptoRow : OpenClaim := { program := "ytnabopepomjncaa", sum := "8eef63d40d70a6626b3b366c3e2de9223044b83bee6685aa9820c1cb532df19b", func := "astrolabe/astrolabelaw2.FxJoins", spec := "fxJoins", inPlace := ["math/bits.Add64"], named := ["math/bits.divideError", "math/bits.overflowError"], apart := false, narrowed := true }
def FxJoinsUptoSaid : Prop := fxJoinsUptoRow.holds Try.pinned (OpenSpec.upto fxJoinsSpec)

/-- 'astrolabelaw2.FxOps', WHERE WHAT IT READS IS OF BULK AT MOST 1048576: true; the input reads as it did. -/
def fxOpsUptoRow : OpenClaim := { program := "ytnabopepomjncaa", sum := "8eef63d40d70a6626b3b366c3e2de9223044b83bee6685aa9820c1cb532df19b", func := "astrolabe/astrolabelaw2.FxOps", spec := "fxOps", inPlace := ["math/bits.Add64"], named := ["math/bits.divideError", "math/bits.overflowError"], apart := false, narrowed := true }
def FxOpsUptoSaid : Prop := fxOpsUptoRow.holds Try.pinned (OpenSpec.upto fxOpsSpec)

/-- 'astrolabelaw2.FxDots', WHERE WHAT IT READS IS OF BULK AT MOST 1048576: true; the input reads as it did. -/
def fxDotsUptoRow : OpenClaim := { program := "ytnabopepomjncaa", sum := "8eef63d40d70a6626b3b366c3e2de9223044b83bee6685aa9820c1cb532df19b", func := "astrolabe/astrolabelaw2.FxDots", spec := "fxDots", inPlace := ["math/bits.Add64"], named := ["math/bits.divideError", "math/bits.overflowError"], apart := false, narrowed := true }
def FxDotsUptoSaid : Prop := fxDotsUptoRow.holds Try.pinned (OpenSpec.upto fxDotsSpec)

/-- 'astrolabelaw3.RootMany', WHERE WHAT IT READS IS OF BULK AT MOST 1048576: true; the input reads as it did. -/
def rootManyUptoRow : OpenClaim := { program := "ytnabopepomjncaa", sum := "8eef63d40d70a6626b3b366c3e2de9223044b83bee6685aa9820c1cb532df19b", func := "astrolabe/astrolabelaw3.RootMany", spec := "rootMany", inPlace := ["math/bits.Add64", "math/bits.Sub64"], named := ["math/bits.divideError", "math/bits.overflowError"], apart := false, narrowed := true }
def RootManyUptoSaid : Prop := rootManyUptoRow.holds Try.pinned (OpenSpec.upto rootManySpec)

/-- 'astrolabelaw6.QuatChains', WHERE WHAT IT READS IS OF BULK AT MOST 1048576: true; the input reads as it did. -/
def quatChainsUptoRow : OpenClaim := { program := "ytnabopepomjncaa", sum := "8eef63d40d70a6626b3b366c3e2de9223044b83bee6685aa9820c1cb532df19b", func := "astrolabe/astrolabelaw6.QuatChains", spec := "quatChains", inPlace := ["math/bits.Add64", "math/bits.Sub64"], unfollowed := true, recurses := true, named := ["math/bits.divideError", "math/bits.overflowError"], apart := false, narrowed := true }
def QuatChainsUptoSaid : Prop := quatChainsUptoRow.holds Try.pinned (OpenSpec.upto quatChainsSpec)

/-- 'astrolabelaw23.FlowRates', WHERE WHAT IT READS IS OF BULK AT MOST 1048576: true; the input reads as it did. -/
def flowRatesUptoRow : OpenClaim := { program := "ytnabopepomjncaa", sum := "8eef63d40d70a6626b3b366c3e2de9223044b83bee6685aa9820c1cb532df19b", func := "astrolabe/astrolabelaw23.FlowRates", spec := "flowRates", inPlace := ["math/bits.Add64"], unfollowed := true, recurses := true, named := ["math/bits.divideError", "math/bits.overflowError"], apart := false, narrowed := true }
def FlowRatesUptoSaid : Prop := flowRatesUptoRow.holds Try.pinned (OpenSpec.upto flowRatesSpec)

/-- 'astrolabelaw21.MagTurns', WHERE WHAT IT READS IS OF BULK AT MOST 1048576: true; the input reads as it did. -/
def magTurnsUptoRow : OpenClaim := { program := "ytnabopepomjncaa", sum := "8eef63d40d70a6626b3b366c3e2de9223044b83bee6685aa9820c1cb532df19b", func := "astrolabe/astrolabelaw21.MagTurns", spec := "magTurns", inPlace := ["math/bits.Add64", "math/bits.Sub64"], unfollowed := true, recurses := true, named := ["math/bits.divideError", "math/bits.overflowError"], apart := false, narrowed := true }
def MagTurnsUptoSaid : Prop := magTurnsUptoRow.holds Try.pinned (OpenSpec.upto magTurnsSpec)

end Rows
end Go.Proofs.Ytnabopepomjncaa
