/-
  No cell of these rows narrows 'for every input' (looked for: loops, veiled, ifaces, maps, wideKeys, modest, calm, conditions, laid).
  DERIVED. THE GIVEN ROWS OF THIS SEAT. 5 by the template 'for every input the law returns true; each argument reads behind the call as it read before'; 0 by the template 'total and deterministic' (their statements: YthiimmooiidjoaaTotals.lean).
  GIVEN WITH THE SEED: the statements are not yours to turn. If you find one false, say at which input.
  Laid BY PROGRAM, IN A SANDBOX (cutbox-rows.mjs): the forced cells as the released guide's own fill.sh prints them over the translation 233f5ada00526e5c… (all of the seat's roots in one cut). By AI agents, Wed Nov 11 2026. No macro, syntax, notation, axiom, sorry.
-/
import Derived.Test.YthiimmooiidjoaaChecked
import GoSem.Claim
import GoSem.ClaimJoined
import GoSem.ClaimMapViews
import Derived.JoinedTies
import Derived.KernelRfl
namespace Go.Proofs.Ythiimmooiidjoaa
/- THE CELL 'sum', in the pinned program and in every row, IS THE sha256 OF THE DUMP (.gsa) THAT YthiimmooiidjoaaProg.lean LOADS. Nothing in Lean hashes anything: it is a label: what it is worth is what the hold of that sum in a sandbox is worth. -/
noncomputable def Try.pinned : Pinned := { name := "ythiimmooiidjoaa", sum := "233f5ada00526e5c83791591dcd6ea40020e865ff362a32c57535708bda89c07", checked := Try.checked }
namespace Rows
def none {H : Type} : Left H := { results := [], args := [] }

/-- 'astrolabelaw21.MagKnown': WHATEVER THE INPUT: true; the input reads as it did. -/
def magKnownSpec : ChangeSpec := { name := "magKnown", fn := fun _ => fun
  | [] => { results := [.lit (.bool true)], args := [] }
  | _ => none }
def magKnownRow : OpenClaim := { program := "ythiimmooiidjoaa", sum := "233f5ada00526e5c83791591dcd6ea40020e865ff362a32c57535708bda89c07", func := "astrolabe/astrolabelaw21.MagKnown", spec := "magKnown", inPlace := ["math/bits.Add64", "math/bits.Sub64"], unfollowed := true, recurses := true, named := ["math/bits.divideError", "math/bits.overflowError"], apart := false }
def MagKnownSaid : Prop := magKnownRow.holds Try.pinned (OpenSpec.ofChange magKnownSpec)

/-- ITS FALSE NEIGHBOUR: 'it returns false'. Refute it at one input. -/
def magKnownWrong : ChangeSpec := { name := "magKnown", fn := fun _ => fun
  | [] => { results := [.lit (.bool false)], args := [] }
  | _ => none }
def MagKnownWrongFalsely : Prop := magKnownRow.holds Try.pinned (OpenSpec.ofChange magKnownWrong)

/-- 'astrolabelaw22.AirWind': WHATEVER THE INPUT: true; the input reads as it did. -/
def airWindSpec : ChangeSpec := { name := "airWind", fn := fun _ => fun
  | [d1, d2, d3, d4, d5] => { results := [.lit (.bool true)], args := [d1, d2, d3, d4, d5] }
  | _ => none }
def airWindRow : OpenClaim := { program := "ythiimmooiidjoaa", sum := "233f5ada00526e5c83791591dcd6ea40020e865ff362a32c57535708bda89c07", func := "astrolabe/astrolabelaw22.AirWind", spec := "airWind", inPlace := ["math/bits.Add64", "math/bits.Sub64"], unfollowed := true, recurses := true, named := ["math/bits.divideError", "math/bits.overflowError"], apart := false }
def AirWindSaid : Prop := airWindRow.holds Try.pinned (OpenSpec.ofChange airWindSpec)

/-- ITS FALSE NEIGHBOUR: 'it returns false'. Refute it at one input. -/
def airWindWrong : ChangeSpec := { name := "airWind", fn := fun _ => fun
  | [d1, d2, d3, d4, d5] => { results := [.lit (.bool false)], args := [d1, d2, d3, d4, d5] }
  | _ => none }
def AirWindWrongFalsely : Prop := airWindRow.holds Try.pinned (OpenSpec.ofChange airWindWrong)

/-- 'astrolabelaw22.AirExpected': WHATEVER THE INPUT: true; the input reads as it did. -/
def airExpectedSpec : ChangeSpec := { name := "airExpected", fn := fun _ => fun
  | [d1, d2, d3, d4] => { results := [.lit (.bool true)], args := [d1, d2, d3, d4] }
  | _ => none }
def airExpectedRow : OpenClaim := { program := "ythiimmooiidjoaa", sum := "233f5ada00526e5c83791591dcd6ea40020e865ff362a32c57535708bda89c07", func := "astrolabe/astrolabelaw22.AirExpected", spec := "airExpected", inPlace := ["math/bits.Add64", "math/bits.Sub64"], unfollowed := true, recurses := true, named := ["math/bits.divideError", "math/bits.overflowError"], apart := false }
def AirExpectedSaid : Prop := airExpectedRow.holds Try.pinned (OpenSpec.ofChange airExpectedSpec)

/-- ITS FALSE NEIGHBOUR: 'it returns false'. Refute it at one input. -/
def airExpectedWrong : ChangeSpec := { name := "airExpected", fn := fun _ => fun
  | [d1, d2, d3, d4] => { results := [.lit (.bool false)], args := [d1, d2, d3, d4] }
  | _ => none }
def AirExpectedWrongFalsely : Prop := airExpectedRow.holds Try.pinned (OpenSpec.ofChange airExpectedWrong)

/-- 'astrolabelaw21.MagRows': WHATEVER THE INPUT: true; the input reads as it did. -/
def magRowsSpec : ChangeSpec := { name := "magRows", fn := fun _ => fun
  | [d1, d2, d3] => { results := [.lit (.bool true)], args := [d1, d2, d3] }
  | _ => none }
def magRowsRow : OpenClaim := { program := "ythiimmooiidjoaa", sum := "233f5ada00526e5c83791591dcd6ea40020e865ff362a32c57535708bda89c07", func := "astrolabe/astrolabelaw21.MagRows", spec := "magRows", inPlace := ["math/bits.Add64", "math/bits.Sub64"], unfollowed := true, recurses := true, named := ["math/bits.divideError", "math/bits.overflowError"], apart := false }
def MagRowsSaid : Prop := magRowsRow.holds Try.pinned (OpenSpec.ofChange magRowsSpec)

/-- ITS FALSE NEIGHBOUR: 'it returns false'. Refute it at one input. -/
def magRowsWrong : ChangeSpec := { name := "magRows", fn := fun _ => fun
  | [d1, d2, d3] => { results := [.lit (.bool false)], args := [d1, d2, d3] }
  | _ => none }
def MagRowsWrongFalsely : Prop := magRowsRow.holds Try.pinned (OpenSpec.ofChange magRowsWrong)

/-- 'astrolabelaw21.MagExpected': WHATEVER THE INPUT: true; the input reads as it did. -/
def magExpectedSpec : ChangeSpec := { name := "magExpected", fn := fun _ => fun
  | [d1, d2] => { results := [.lit (.bool true)], args := [d1, d2] }
  | _ => none }
def magExpectedRow : OpenClaim := { program := "ythiimmooiidjoaa", sum := "233f5ada00526e5c83791591dcd6ea40020e865ff362a32c57535708bda89c07", func := "astrolabe/astrolabelaw21.MagExpected", spec := "magExpected", inPlace := ["math/bits.Add64", "math/bits.Sub64"], unfollowed := true, recurses := true, named := ["math/bits.divideError", "math/bits.overflowError"], apart := false }
def MagExpectedSaid : Prop := magExpectedRow.holds Try.pinned (OpenSpec.ofChange magExpectedSpec)

/-- ITS FALSE NEIGHBOUR: 'it returns false'. Refute it at one input. -/
def magExpectedWrong : ChangeSpec := { name := "magExpected", fn := fun _ => fun
  | [d1, d2] => { results := [.lit (.bool false)], args := [d1, d2] }
  | _ => none }
def MagExpectedWrongFalsely : Prop := magExpectedRow.holds Try.pinned (OpenSpec.ofChange magExpectedWrong)

/- THE SECOND FORM. 'bulk': how many values and letters a reading holds, each counted each time it is reached (what is shared counts as often as it is met; a slice's spare places count too). A statement '..UptoSaid' is the law's where the arguments, and the package variables that the reading takes, are together of bulk at most 1048576: NARROWER than '..Said'. Prove '..Said' where nothing that the law and all that it calls make is longer than what came in: it says more and counts as full. Else prove '..UptoSaid'. A law counts once. -/
mutual
def uptoBulk {H : Type} : DataW H → Nat
  | .lit (.string bytes) => bytes.length + 1
  | .lit _ => 1
  | .nil => 1
  | .ptr d => uptoBulk d + 1
  | .slice elems spare => uptoBulkAll elems + uptoBulkAll spare + 1
  | .agg parts => uptoBulkAll parts + 1
  | .iface _ d => uptoBulk d + 1
  | .map entries => uptoBulkEntries entries + 1
  | .held _ => 1
def uptoBulkAll {H : Type} : List (DataW H) → Nat
  | [] => 0
  | d :: r => uptoBulk d + uptoBulkAll r
def uptoBulkEntries {H : Type} : List (Lit × DataW H) → Nat
  | [] => 0
  | x :: r => uptoBulkEntry x + uptoBulkEntries r
def uptoBulkEntry {H : Type} : Lit × DataW H → Nat
  | (.string bytes, d) => bytes.length + uptoBulk d + 1
  | (_, d) => uptoBulk d + 1
 end
def uptoSmall : (H : Type) → List (DataW H) → Bool := fun _ ds => decide (uptoBulkAll ds ≤ 1048576)
def OpenSpec.upto (s : _root_.Go.ChangeSpec) : _root_.Go.OpenSpec := { _root_.Go.OpenSpec.ofChange s with cond := some uptoSmall }

/-- 'astrolabelaw21.MagKnown', WHERE WHAT IT READS IS OF BULK AT MOST 1048576: true; the input reads as it did. -/
def magKnownUptoRow : OpenClaim := { program := "ythiimmooiidjoaa", sum := "233f5ada00526e5c83791591dcd6ea40020e865ff362a32c57535708bda89c07", func := "astrolabe/astrolabelaw21.MagKnown", spec := "magKnown", inPlace := ["math/bits.Add64", "math/bits.Sub64"], unfollowed := true, recurses := true, named := ["math/bits.divideError", "math/bits.overflowError"], apart := false, narrowed := true }
def MagKnownUptoSaid : Prop := magKnownUptoRow.holds Try.pinned (OpenSpec.upto magKnownSpec)

/-- 'astrolabelaw22.AirWind', WHERE WHAT IT READS IS OF BULK AT MOST 1048576: true; the input reads as it did. -/
def airWindUptoRow : OpenClaim := { program := "ythiimmooiidjoaa", sum := "233f5ada00526e5c83791591dcd6ea40020e865ff362a32c57535708bda89c07", func := "astrolabe/astrolabelaw22.AirWind", spec := "airWind", inPlace := ["math/bits.Add64", "math/bits.Sub64"], unfollowed := true, recurses := true, named := ["math/bits.divideError", "math/bits.overflowError"], apart := false, narrowed := true }
def AirWindUptoSaid : Prop := airWindUptoRow.holds Try.pinned (OpenSpec.upto airWindSpec)

/-- 'astrolabelaw22.AirExpected', WHERE WHAT IT READS IS OF BULK AT MOST 1048576: true; the input reads as it did. -/
def airExpectedUptoRow : OpenClaim := { program := "ythiimmooiidjoaa", sum := "233f5ada00526e5c83791591dcd6ea40020e865ff362a32c57535708bda89c07", func := "astrolabe/astrolabelaw22.AirExpected", spec := "airExpected", inPlace := ["math/bits.Add64", "math/bits.Sub64"], unfollowed := true, recurses := true, named := ["math/bits.divideError", "math/bits.overflowError"], apart := false, narrowed := true }
def AirExpectedUptoSaid : Prop := airExpectedUptoRow.holds Try.pinned (OpenSpec.upto airExpectedSpec)

/-- 'astrolabelaw21.MagRows', WHERE WHAT IT READS IS OF BULK AT MOST 1048576: true; the input reads as it did. -/
def magRowsUptoRow : OpenClaim := { program := "ythiimmooiidjoaa", sum := "233f5ada00526e5c83791591dcd6ea40020e865ff362a32c57535708bda89c07", func := "astrolabe/astrolabelaw21.MagRows", spec := "magRows", inPlace := ["math/bits.Add64", "math/bits.Sub64"], unfollowed := true, recurses := true, named := ["math/bits.divideError", "math/bits.overflowError"], apart := false, narrowed := true }
def MagRowsUptoSaid : Prop := magRowsUptoRow.holds Try.pinned (OpenSpec.upto magRowsSpec)

/-- 'astrolabelaw21.MagExpected', WHERE WHAT IT READS IS OF BULK AT MOST 1048576: true; the input reads as it did. -/
def magExpectedUptoRow : OpenClaim := { program := "ythiimmooiidjoaa", sum := "233f5ada00526e5c83791591dcd6ea40020e865ff362a32c57535708bda89c07", func := "astrolabe/astrolabelaw21.MagExpected", spec := "magExpected", inPlace := ["math/bits.Add64", "math/bits.Sub64"], unfollowed := true, recurses := true, named := ["math/bits.divideError", "math/bits.overflowError"], apart := false, narrowed := true }
def MagExpectedUptoSaid : Prop := magExpectedUptoRow.holds Try.pinned (OpenSpec.upto magExpectedSpec)

end Rows
end Go.Proofs.Ythiimmooiidjoaa
