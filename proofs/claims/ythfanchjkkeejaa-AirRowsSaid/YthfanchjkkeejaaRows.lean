/-
  No cell of these rows narrows 'for every input' (looked for: loops, veiled, ifaces, maps, wideKeys, modest, calm, conditions, laid).
  DERIVED. THE GIVEN ROWS OF THIS SEAT. 12 by the template 'for every input the law returns true; each argument reads behind the call as it read before'; 0 by the template 'total and deterministic' (their statements: YthfanchjkkeejaaTotals.lean).
  GIVEN WITH THE SEED: the statements are not yours to turn. If you find one false, say at which input.
  Laid BY PROGRAM, IN A SANDBOX (cutbox-rows.mjs): the forced cells as the released guide's own fill.sh prints them over the translation b347ffefb6c57ee2… (all of the seat's roots in one cut). By AI agents, Wed Nov 11 2026. No macro, syntax, notation, axiom, sorry.
-/
import Derived.Test.YthfanchjkkeejaaChecked
import GoSem.Claim
import GoSem.ClaimJoined
import GoSem.ClaimMapViews
import Derived.JoinedTies
import Derived.KernelRfl
namespace Go.Proofs.Ythfanchjkkeejaa
/- THE CELL 'sum', in the pinned program and in every row, IS THE sha256 OF THE DUMP (.gsa) THAT YthfanchjkkeejaaProg.lean LOADS. Nothing in Lean hashes anything: it is a label: what it is worth is what the hold of that sum in a sandbox is worth. -/
noncomputable def Try.pinned : Pinned := { name := "ythfanchjkkeejaa", sum := "b347ffefb6c57ee2d7cc1c487b5448280d02fcaf2d08af2f9b13cc8c69228e24", checked := Try.checked }
namespace Rows
def none {H : Type} : Left H := { results := [], args := [] }

/-- 'astrolabelaw22.AirExpected': WHATEVER THE INPUT: true; the input reads as it did. -/
def airExpectedSpec : ChangeSpec := { name := "airExpected", fn := fun _ => fun
  | [d1, d2, d3, d4] => { results := [.lit (.bool true)], args := [d1, d2, d3, d4] }
  | _ => none }
def airExpectedRow : OpenClaim := { program := "ythfanchjkkeejaa", sum := "b347ffefb6c57ee2d7cc1c487b5448280d02fcaf2d08af2f9b13cc8c69228e24", func := "astrolabe/astrolabelaw22.AirExpected", spec := "airExpected", inPlace := ["math/bits.Add64", "math/bits.Sub64"], unfollowed := true, recurses := true, named := ["math/bits.divideError", "math/bits.overflowError"], apart := false }
def AirExpectedSaid : Prop := airExpectedRow.holds Try.pinned (OpenSpec.ofChange airExpectedSpec)

/-- ITS FALSE NEIGHBOUR: 'it returns false'. Refute it at one input. -/
def airExpectedWrong : ChangeSpec := { name := "airExpected", fn := fun _ => fun
  | [d1, d2, d3, d4] => { results := [.lit (.bool false)], args := [d1, d2, d3, d4] }
  | _ => none }
def AirExpectedWrongFalsely : Prop := airExpectedRow.holds Try.pinned (OpenSpec.ofChange airExpectedWrong)

/-- 'astrolabelaw22.AirRows': WHATEVER THE INPUT: true; the input reads as it did. -/
def airRowsSpec : ChangeSpec := { name := "airRows", fn := fun _ => fun
  | [d1, d2] => { results := [.lit (.bool true)], args := [d1, d2] }
  | _ => none }
def airRowsRow : OpenClaim := { program := "ythfanchjkkeejaa", sum := "b347ffefb6c57ee2d7cc1c487b5448280d02fcaf2d08af2f9b13cc8c69228e24", func := "astrolabe/astrolabelaw22.AirRows", spec := "airRows", inPlace := ["math/bits.Add64", "math/bits.Sub64"], unfollowed := true, recurses := true, named := ["math/bits.divideError", "math/bits.overflowError"], apart := false }
def AirRowsSaid : Prop := airRowsRow.holds Try.pinned (OpenSpec.ofChange airRowsSpec)

/-- ITS FALSE NEIGHBOUR: 'it returns false'. Refute it at one input. -/
def airRowsWrong : ChangeSpec := { name := "airRows", fn := fun _ => fun
  | [d1, d2] => { results := [.lit (.bool false)], args := [d1, d2] }
  | _ => none }
def AirRowsWrongFalsely : Prop := airRowsRow.holds Try.pinned (OpenSpec.ofChange airRowsWrong)

/-- 'astrolabelaw6.QuatChains': WHATEVER THE INPUT: true; the input reads as it did. -/
def quatChainsSpec : ChangeSpec := { name := "quatChains", fn := fun _ => fun
  | [d] => { results := [.lit (.bool true)], args := [d] }
  | _ => none }
def quatChainsRow : OpenClaim := { program := "ythfanchjkkeejaa", sum := "b347ffefb6c57ee2d7cc1c487b5448280d02fcaf2d08af2f9b13cc8c69228e24", func := "astrolabe/astrolabelaw6.QuatChains", spec := "quatChains", inPlace := ["math/bits.Add64", "math/bits.Sub64"], unfollowed := true, recurses := true, named := ["math/bits.divideError", "math/bits.overflowError"], apart := false }
def QuatChainsSaid : Prop := quatChainsRow.holds Try.pinned (OpenSpec.ofChange quatChainsSpec)

/-- ITS FALSE NEIGHBOUR: 'it returns false'. Refute it at one input. -/
def quatChainsWrong : ChangeSpec := { name := "quatChains", fn := fun _ => fun
  | [d] => { results := [.lit (.bool false)], args := [d] }
  | _ => none }
def QuatChainsWrongFalsely : Prop := quatChainsRow.holds Try.pinned (OpenSpec.ofChange quatChainsWrong)

/-- 'astrolabelaw6.QuatUnits': WHATEVER THE INPUT: true; the input reads as it did. -/
def quatUnitsSpec : ChangeSpec := { name := "quatUnits", fn := fun _ => fun
  | [d1, d2] => { results := [.lit (.bool true)], args := [d1, d2] }
  | _ => none }
def quatUnitsRow : OpenClaim := { program := "ythfanchjkkeejaa", sum := "b347ffefb6c57ee2d7cc1c487b5448280d02fcaf2d08af2f9b13cc8c69228e24", func := "astrolabe/astrolabelaw6.QuatUnits", spec := "quatUnits", inPlace := ["math/bits.Add64", "math/bits.Sub64"], unfollowed := true, recurses := true, named := ["math/bits.divideError", "math/bits.overflowError"], apart := false }
def QuatUnitsSaid : Prop := quatUnitsRow.holds Try.pinned (OpenSpec.ofChange quatUnitsSpec)

/-- ITS FALSE NEIGHBOUR: 'it returns false'. Refute it at one input. -/
def quatUnitsWrong : ChangeSpec := { name := "quatUnits", fn := fun _ => fun
  | [d1, d2] => { results := [.lit (.bool false)], args := [d1, d2] }
  | _ => none }
def QuatUnitsWrongFalsely : Prop := quatUnitsRow.holds Try.pinned (OpenSpec.ofChange quatUnitsWrong)

/-- 'astrolabelaw6.QuatGroups': WHATEVER THE INPUT: true; the input reads as it did. -/
def quatGroupsSpec : ChangeSpec := { name := "quatGroups", fn := fun _ => fun
  | [d1, d2, d3] => { results := [.lit (.bool true)], args := [d1, d2, d3] }
  | _ => none }
def quatGroupsRow : OpenClaim := { program := "ythfanchjkkeejaa", sum := "b347ffefb6c57ee2d7cc1c487b5448280d02fcaf2d08af2f9b13cc8c69228e24", func := "astrolabe/astrolabelaw6.QuatGroups", spec := "quatGroups", inPlace := ["math/bits.Add64", "math/bits.Sub64"], unfollowed := true, recurses := true, named := ["math/bits.divideError", "math/bits.overflowError"], apart := false }
def QuatGroupsSaid : Prop := quatGroupsRow.holds Try.pinned (OpenSpec.ofChange quatGroupsSpec)

/-- ITS FALSE NEIGHBOUR: 'it returns false'. Refute it at one input. -/
def quatGroupsWrong : ChangeSpec := { name := "quatGroups", fn := fun _ => fun
  | [d1, d2, d3] => { results := [.lit (.bool false)], args := [d1, d2, d3] }
  | _ => none }
def QuatGroupsWrongFalsely : Prop := quatGroupsRow.holds Try.pinned (OpenSpec.ofChange quatGroupsWrong)

/-- 'astrolabelaw6.QuatSays': WHATEVER THE INPUT: true; the input reads as it did. -/
def quatSaysSpec : ChangeSpec := { name := "quatSays", fn := fun _ => fun
  | [d1, d2] => { results := [.lit (.bool true)], args := [d1, d2] }
  | _ => none }
def quatSaysRow : OpenClaim := { program := "ythfanchjkkeejaa", sum := "b347ffefb6c57ee2d7cc1c487b5448280d02fcaf2d08af2f9b13cc8c69228e24", func := "astrolabe/astrolabelaw6.QuatSays", spec := "quatSays", inPlace := ["math/bits.Add64", "math/bits.Sub64"], unfollowed := true, recurses := true, named := ["math/bits.divideError", "math/bits.overflowError"], apart := false }
def QuatSaysSaid : Prop := quatSaysRow.holds Try.pinned (OpenSpec.ofChange quatSaysSpec)

/-- ITS FALSE NEIGHBOUR: 'it returns false'. Refute it at one input. -/
def quatSaysWrong : ChangeSpec := { name := "quatSays", fn := fun _ => fun
  | [d1, d2] => { results := [.lit (.bool false)], args := [d1, d2] }
  | _ => none }
def QuatSaysWrongFalsely : Prop := quatSaysRow.holds Try.pinned (OpenSpec.ofChange quatSaysWrong)

/-- 'astrolabelaw20.HeightReads': WHATEVER THE INPUT: true; the input reads as it did. -/
def heightReadsSpec : ChangeSpec := { name := "heightReads", fn := fun _ => fun
  | [d] => { results := [.lit (.bool true)], args := [d] }
  | _ => none }
def heightReadsRow : OpenClaim := { program := "ythfanchjkkeejaa", sum := "b347ffefb6c57ee2d7cc1c487b5448280d02fcaf2d08af2f9b13cc8c69228e24", func := "astrolabe/astrolabelaw20.HeightReads", spec := "heightReads", inPlace := ["math/bits.Add64"], unfollowed := true, recurses := true, named := ["math/bits.divideError", "math/bits.overflowError"], apart := false }
def HeightReadsSaid : Prop := heightReadsRow.holds Try.pinned (OpenSpec.ofChange heightReadsSpec)

/-- ITS FALSE NEIGHBOUR: 'it returns false'. Refute it at one input. -/
def heightReadsWrong : ChangeSpec := { name := "heightReads", fn := fun _ => fun
  | [d] => { results := [.lit (.bool false)], args := [d] }
  | _ => none }
def HeightReadsWrongFalsely : Prop := heightReadsRow.holds Try.pinned (OpenSpec.ofChange heightReadsWrong)

/-- 'astrolabelaw20.HeightLevel': WHATEVER THE INPUT: true; the input reads as it did. -/
def heightLevelSpec : ChangeSpec := { name := "heightLevel", fn := fun _ => fun
  | [d1, d2] => { results := [.lit (.bool true)], args := [d1, d2] }
  | _ => none }
def heightLevelRow : OpenClaim := { program := "ythfanchjkkeejaa", sum := "b347ffefb6c57ee2d7cc1c487b5448280d02fcaf2d08af2f9b13cc8c69228e24", func := "astrolabe/astrolabelaw20.HeightLevel", spec := "heightLevel", inPlace := ["math/bits.Add64"], unfollowed := true, recurses := true, named := ["math/bits.divideError", "math/bits.overflowError"], apart := false }
def HeightLevelSaid : Prop := heightLevelRow.holds Try.pinned (OpenSpec.ofChange heightLevelSpec)

/-- ITS FALSE NEIGHBOUR: 'it returns false'. Refute it at one input. -/
def heightLevelWrong : ChangeSpec := { name := "heightLevel", fn := fun _ => fun
  | [d1, d2] => { results := [.lit (.bool false)], args := [d1, d2] }
  | _ => none }
def HeightLevelWrongFalsely : Prop := heightLevelRow.holds Try.pinned (OpenSpec.ofChange heightLevelWrong)

/-- 'astrolabelaw4.TrigSays': WHATEVER THE INPUT: true; the input reads as it did. -/
def trigSaysSpec : ChangeSpec := { name := "trigSays", fn := fun _ => fun
  | [d1, d2, d3] => { results := [.lit (.bool true)], args := [d1, d2, d3] }
  | _ => none }
def trigSaysRow : OpenClaim := { program := "ythfanchjkkeejaa", sum := "b347ffefb6c57ee2d7cc1c487b5448280d02fcaf2d08af2f9b13cc8c69228e24", func := "astrolabe/astrolabelaw4.TrigSays", spec := "trigSays", inPlace := ["math/bits.Add64", "math/bits.Sub64"], named := ["math/bits.divideError", "math/bits.overflowError"], apart := false }
def TrigSaysSaid : Prop := trigSaysRow.holds Try.pinned (OpenSpec.ofChange trigSaysSpec)

/-- ITS FALSE NEIGHBOUR: 'it returns false'. Refute it at one input. -/
def trigSaysWrong : ChangeSpec := { name := "trigSays", fn := fun _ => fun
  | [d1, d2, d3] => { results := [.lit (.bool false)], args := [d1, d2, d3] }
  | _ => none }
def TrigSaysWrongFalsely : Prop := trigSaysRow.holds Try.pinned (OpenSpec.ofChange trigSaysWrong)

/-- 'astrolabelaw4.TrigTurns': WHATEVER THE INPUT: true; the input reads as it did. -/
def trigTurnsSpec : ChangeSpec := { name := "trigTurns", fn := fun _ => fun
  | [d1, d2] => { results := [.lit (.bool true)], args := [d1, d2] }
  | _ => none }
def trigTurnsRow : OpenClaim := { program := "ythfanchjkkeejaa", sum := "b347ffefb6c57ee2d7cc1c487b5448280d02fcaf2d08af2f9b13cc8c69228e24", func := "astrolabe/astrolabelaw4.TrigTurns", spec := "trigTurns", inPlace := ["math/bits.Add64", "math/bits.Sub64"], named := ["math/bits.divideError", "math/bits.overflowError"], apart := false }
def TrigTurnsSaid : Prop := trigTurnsRow.holds Try.pinned (OpenSpec.ofChange trigTurnsSpec)

/-- ITS FALSE NEIGHBOUR: 'it returns false'. Refute it at one input. -/
def trigTurnsWrong : ChangeSpec := { name := "trigTurns", fn := fun _ => fun
  | [d1, d2] => { results := [.lit (.bool false)], args := [d1, d2] }
  | _ => none }
def TrigTurnsWrongFalsely : Prop := trigTurnsRow.holds Try.pinned (OpenSpec.ofChange trigTurnsWrong)

/-- 'astrolabelaw7.RotSquares': WHATEVER THE INPUT: true; the input reads as it did. -/
def rotSquaresSpec : ChangeSpec := { name := "rotSquares", fn := fun _ => fun
  | [d] => { results := [.lit (.bool true)], args := [d] }
  | _ => none }
def rotSquaresRow : OpenClaim := { program := "ythfanchjkkeejaa", sum := "b347ffefb6c57ee2d7cc1c487b5448280d02fcaf2d08af2f9b13cc8c69228e24", func := "astrolabe/astrolabelaw7.RotSquares", spec := "rotSquares", inPlace := ["math/bits.Add64", "math/bits.Sub64"], unfollowed := true, recurses := true, named := ["math/bits.divideError", "math/bits.overflowError"], apart := false }
def RotSquaresSaid : Prop := rotSquaresRow.holds Try.pinned (OpenSpec.ofChange rotSquaresSpec)

/-- ITS FALSE NEIGHBOUR: 'it returns false'. Refute it at one input. -/
def rotSquaresWrong : ChangeSpec := { name := "rotSquares", fn := fun _ => fun
  | [d] => { results := [.lit (.bool false)], args := [d] }
  | _ => none }
def RotSquaresWrongFalsely : Prop := rotSquaresRow.holds Try.pinned (OpenSpec.ofChange rotSquaresWrong)

/-- 'astrolabelaw7.RotSays': WHATEVER THE INPUT: true; the input reads as it did. -/
def rotSaysSpec : ChangeSpec := { name := "rotSays", fn := fun _ => fun
  | [d1, d2, d3] => { results := [.lit (.bool true)], args := [d1, d2, d3] }
  | _ => none }
def rotSaysRow : OpenClaim := { program := "ythfanchjkkeejaa", sum := "b347ffefb6c57ee2d7cc1c487b5448280d02fcaf2d08af2f9b13cc8c69228e24", func := "astrolabe/astrolabelaw7.RotSays", spec := "rotSays", inPlace := ["math/bits.Add64", "math/bits.Sub64"], unfollowed := true, recurses := true, named := ["math/bits.divideError", "math/bits.overflowError"], apart := false }
def RotSaysSaid : Prop := rotSaysRow.holds Try.pinned (OpenSpec.ofChange rotSaysSpec)

/-- ITS FALSE NEIGHBOUR: 'it returns false'. Refute it at one input. -/
def rotSaysWrong : ChangeSpec := { name := "rotSays", fn := fun _ => fun
  | [d1, d2, d3] => { results := [.lit (.bool false)], args := [d1, d2, d3] }
  | _ => none }
def RotSaysWrongFalsely : Prop := rotSaysRow.holds Try.pinned (OpenSpec.ofChange rotSaysWrong)

/- THE SECOND FORM. 'bulk': how many values and letters a reading holds, each counted each time it is reached (what is shared counts as often as it is met; a slice's spare places count too). A statement '..UptoSaid' is the law's where the arguments, and the package variables that the reading takes, are together of bulk at most 1048576: NARROWER than '..Said'. Prove '..Said' where nothing that the law and all that it calls make is longer than what came in: it says more and counts as full. Else prove '..UptoSaid'. A law counts once. -/
mutual
def uptoBulk {H : Type} : DataW H → Nat
  | .lit (.string bytes) => bytes.length + 1
  | .lit _ => 1
  | .nil => 1
  | .ptr d => uptoBulk d + 1
  | .slice elems spare => uptoBulkAll elems + uptoBulkAll spare + 1
  | .agg parts => uptoBulkAll parts + 1
  | .iface _ d => uptoBulk d + 1
  | .map entries => uptoBulkEntries entries + 1
  | .held _ => 1
def uptoBulkAll {H : Type} : List (DataW H) → Nat
  | [] => 0
  | d :: r => uptoBulk d + uptoBulkAll r
def uptoBulkEntries {H : Type} : List (Lit × DataW H) → Nat
  | [] => 0
  | x :: r => uptoBulkEntry x + uptoBulkEntries r
def uptoBulkEntry {H : Type} : Lit × DataW H → Nat
  | (.string bytes, d) => bytes.length + uptoBulk d + 1
  | (_, d) => uptoBulk d + 1
 end
def uptoSmall : (H : Type) → List (DataW H) → Bool := fun _ ds => decide (uptoBulkAll ds ≤ 1048576)
def OpenSpec.upto (s : _root_.Go.ChangeSpec) : _root_.Go.OpenSpec := { _root_.Go.OpenSpec.ofChange s with cond := some uptoSmall }

/-- 'astrolabelaw22.AirExpected', WHERE WHAT IT READS IS OF BULK AT MOST 1048576: true; the input reads as it did. -/
def airExpectedUptoRow : OpenClaim := { program := "ythfanchjkkeejaa", sum := "b347ffefb6c57ee2d7cc1c487b5448280d02fcaf2d08af2f9b13cc8c69228e24", func := "astrolabe/astrolabelaw22.AirExpected", spec := "airExpected", inPlace := ["math/bits.Add64", "math/bits.Sub64"], unfollowed := true, recurses := true, named := ["math/bits.divideError", "math/bits.overflowError"], apart := false, narrowed := true }
def AirExpectedUptoSaid : Prop := airExpectedUptoRow.holds Try.pinned (OpenSpec.upto airExpectedSpec)

/-- 'astrolabelaw22.AirRows', WHERE WHAT IT READS IS OF BULK AT MOST 1048576: true; the input reads as it did. -/
def airRowsUptoRow : OpenClaim := { program := "ythfanchjkkeejaa", sum := "b347ffefb6c57ee2d7cc1c487b5448280d02fcaf2d08af2f9b13cc8c69228e24", func := "astrolabe/astrolabelaw22.AirRows", spec := "airRows", inPlace := ["math/bits.Add64", "math/bits.Sub64"], unfollowed := true, recurses := true, named := ["math/bits.divideError", "math/bits.overflowError"], apart := false, narrowed := true }
def AirRowsUptoSaid : Prop := airRowsUptoRow.holds Try.pinned (OpenSpec.upto airRowsSpec)

/-- 'astrolabelaw6.QuatChains', WHERE WHAT IT READS IS OF BULK AT MOST 1048576: true; the input reads as it did. -/
def quatChainsUptoRow : OpenClaim := { program := "ythfanchjkkeejaa", sum := "b347ffefb6c57ee2d7cc1c487b5448280d02fcaf2d08af2f9b13cc8c69228e24", func := "astrolabe/astrolabelaw6.QuatChains", spec := "quatChains", inPlace := ["math/bits.Add64", "math/bits.Sub64"], unfollowed := true, recurses := true, named := ["math/bits.divideError", "math/bits.overflowError"], apart := false, narrowed := true }
def QuatChainsUptoSaid : Prop := quatChainsUptoRow.holds Try.pinned (OpenSpec.upto quatChainsSpec)

/-- 'astrolabelaw6.QuatUnits', WHERE WHAT IT READS IS OF BULK AT MOST 1048576: true; the input reads as it did. -/
def quatUnitsUptoRow : OpenClaim := { program := "ythfanchjkkeejaa", sum := "b347ffefb6c57ee2d7cc1c487b5448280d02fcaf2d08af2f9b13cc8c69228e24", func := "astrolabe/astrolabelaw6.QuatUnits", spec := "quatUnits", inPlace := ["math/bits.Add64", "math/bits.Sub64"], unfollowed := true, recurses := true, named := ["math/bits.divideError", "math/bits.overflowError"], apart := false, narrowed := true }
def QuatUnitsUptoSaid : Prop := quatUnitsUptoRow.holds Try.pinned (OpenSpec.upto quatUnitsSpec)

/-- 'astrolabelaw6.QuatGroups', WHERE WHAT IT READS IS OF BULK AT MOST 1048576: true; the input reads as it did. -/
def quatGroupsUptoRow : OpenClaim := { program := "ythfanchjkkeejaa", sum := "b347ffefb6c57ee2d7cc1c487b5448280d02fcaf2d08af2f9b13cc8c69228e24", func := "astrolabe/astrolabelaw6.QuatGroups", spec := "quatGroups", inPlace := ["math/bits.Add64", "math/bits.Sub64"], unfollowed := true, recurses := true, named := ["math/bits.divideError", "math/bits.overflowError"], apart := false, narrowed := true }
def QuatGroupsUptoSaid : Prop := quatGroupsUptoRow.holds Try.pinned (OpenSpec.upto quatGroupsSpec)

/-- 'astrolabelaw6.QuatSays', WHERE WHAT IT READS IS OF BULK AT MOST 1048576: true; the input reads as it did. -/
def quatSaysUptoRow : OpenClaim := { program := "ythfanchjkkeejaa", sum := "b347ffefb6c57ee2d7cc1c487b5448280d02fcaf2d08af2f9b13cc8c69228e24", func := "astrolabe/astrolabelaw6.QuatSays", spec := "quatSays", inPlace := ["math/bits.Add64", "math/bits.Sub64"], unfollowed := true, recurses := true, named := ["math/bits.divideError", "math/bits.overflowError"], apart := false, narrowed := true }
def QuatSaysUptoSaid : Prop := quatSaysUptoRow.holds Try.pinned (OpenSpec.upto quatSaysSpec)

/-- 'astrolabelaw20.HeightReads', WHERE WHAT IT READS IS OF BULK AT MOST 1048576: true; the input reads as it did. -/
def heightReadsUptoRow : OpenClaim := { program := "ythfanchjkkeejaa", sum := "b347ffefb6c57ee2d7cc1c487b5448280d02fcaf2d08af2f9b13cc8c69228e24", func := "astrolabe/astrolabelaw20.HeightReads", spec := "heightReads", inPlace := ["math/bits.Add64"], unfollowed := true, recurses := true, named := ["math/bits.divideError", "math/bits.overflowError"], apart := false, narrowed := true }
def HeightReadsUptoSaid : Prop := heightReadsUptoRow.holds Try.pinned (OpenSpec.upto heightReadsSpec)

/-- 'astrolabelaw20.HeightLevel', WHERE WHAT IT READS IS OF BULK AT MOST 1048576: true; the input reads as it did. -/
def heightLevelUptoRow : OpenClaim := { program := "ythfanchjkkeejaa", sum := "b347ffefb6c57ee2d7cc1c487b5448280d02fcaf2d08af2f9b13cc8c69228e24", func := "astrolabe/astrolabelaw20.HeightLevel", spec := "heightLevel", inPlace := ["math/bits.Add64"], unfollowed := true, recurses := true, named := ["math/bits.divideError", "math/bits.overflowError"], apart := false, narrowed := true }
def HeightLevelUptoSaid : Prop := heightLevelUptoRow.holds Try.pinned (OpenSpec.upto heightLevelSpec)

/-- 'astrolabelaw4.TrigSays', WHERE WHAT IT READS IS OF BULK AT MOST 1048576: true; the input reads as it did. -/
def trigSaysUptoRow : OpenClaim := { program := "ythfanchjkkeejaa", sum := "b347ffefb6c57ee2d7cc1c487b5448280d02fcaf2d08af2f9b13cc8c69228e24", func := "astrolabe/astrolabelaw4.TrigSays", spec := "trigSays", inPlace := ["math/bits.Add64", "math/bits.Sub64"], named := ["math/bits.divideError", "math/bits.overflowError"], apart := false, narrowed := true }
def TrigSaysUptoSaid : Prop := trigSaysUptoRow.holds Try.pinned (OpenSpec.upto trigSaysSpec)

/-- 'astrolabelaw4.TrigTurns', WHERE WHAT IT READS IS OF BULK AT MOST 1048576: true; the input reads as it did. -/
def trigTurnsUptoRow : OpenClaim := { program := "ythfanchjkkeejaa", sum := "b347ffefb6c57ee2d7cc1c487b5448280d02fcaf2d08af2f9b13cc8c69228e24", func := "astrolabe/astrolabelaw4.TrigTurns", spec := "trigTurns", inPlace := ["math/bits.Add64", "math/bits.Sub64"], named := ["math/bits.divideError", "math/bits.overflowError"], apart := false, narrowed := true }
def TrigTurnsUptoSaid : Prop := trigTurnsUptoRow.holds Try.pinned (OpenSpec.upto trigTurnsSpec)

/-- 'astrolabelaw7.RotSquares', WHERE WHAT IT READS IS OF BULK AT MOST 1048576: true; the input reads as it did. -/
def rotSquaresUptoRow : OpenClaim := { program := "ythfanchjkkeejaa", sum := "b347ffefb6c57ee2d7cc1c487b5448280d02fcaf2d08af2f9b13cc8c69228e24", func := "astrolabe/astrolabelaw7.RotSquares", spec := "rotSquares", inPlace := ["math/bits.Add64", "math/bits.Sub64"], unfollowed := true, recurses := true, named := ["math/bits.divideError", "math/bits.overflowError"], apart := false, narrowed := true }
def RotSquaresUptoSaid : Prop := rotSquaresUptoRow.holds Try.pinned (OpenSpec.upto rotSquaresSpec)

/-- 'astrolabelaw7.RotSays', WHERE WHAT IT READS IS OF BULK AT MOST 1048576: true; the input reads as it did. -/
def rotSaysUptoRow : OpenClaim := { program := "ythfanchjkkeejaa", sum := "b347ffefb6c57ee2d7cc1c487b5448280d02fcaf2d08af2f9b13cc8c69228e24", func := "astrolabe/astrolabelaw7.RotSays", spec := "rotSays", inPlace := ["math/bits.Add64", "math/bits.Sub64"], unfollowed := true, recurses := true, named := ["math/bits.divideError", "math/bits.overflowError"], apart := false, narrowed := true }
def RotSaysUptoSaid : Prop := rotSaysUptoRow.holds Try.pinned (OpenSpec.upto rotSaysSpec)

end Rows
end Go.Proofs.Ythfanchjkkeejaa
