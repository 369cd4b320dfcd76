/-
  No cell of these rows narrows 'for every input' (looked for: loops, veiled, ifaces, maps, wideKeys, modest, calm, conditions, laid).
  DERIVED. THE GIVEN ROWS OF THIS SEAT. 12 by the template 'for every input the law returns true; each argument reads behind the call as it read before'; 0 by the template 'total and deterministic' (their statements: YtbcfnmjdaipenaaTotals.lean).
  GIVEN WITH THE SEED: the statements are not yours to turn. If you find one false, say at which input.
  Laid BY PROGRAM, IN A SANDBOX (cutbox-rows.mjs): the forced cells as the released guide's own fill.sh prints them over the translation d700d09304ce4227… (all of the seat's roots in one cut). By AI agents, Wed Nov 11 2026. No macro, syntax, notation, axiom, sorry.
-/
import Derived.Test.YtbcfnmjdaipenaaChecked
import GoSem.Claim
import GoSem.ClaimJoined
import GoSem.ClaimMapViews
import Derived.JoinedTies
import Derived.KernelRfl
namespace Go.Proofs.Ytbcfnmjdaipenaa
/- THE CELL 'sum', in the pinned program and in every row, IS THE sha256 OF THE DUMP (.gsa) THAT YtbcfnmjdaipenaaProg.lean LOADS. Nothing in Lean hashes anything: it is a label: what it is worth is what the hold of that sum in a sandbox is worth. -/
noncomputable def Try.pinned : Pinned := { name := "ytbcfnmjdaipenaa", sum := "d700d09304ce42273f1b0b035a7c890a7270d798c256060aa7c5bc4ecce16572", checked := Try.checked }
namespace Rows
def none {H : Type} : Left H := { results := [], args := [] }

/-- 'astrolabelaw23.FlowKnown': WHATEVER THE INPUT: true; the input reads as it did. -/
def flowKnownSpec : ChangeSpec := { name := "flowKnown", fn := fun _ => fun
  | [] => { results := [.lit (.bool true)], args := [] }
  | _ => none }
def flowKnownRow : OpenClaim := { program := "ytbcfnmjdaipenaa", sum := "d700d09304ce42273f1b0b035a7c890a7270d798c256060aa7c5bc4ecce16572", func := "astrolabe/astrolabelaw23.FlowKnown", spec := "flowKnown", inPlace := ["math/bits.Add64"], unfollowed := true, recurses := true, named := ["math/bits.divideError", "math/bits.overflowError"], apart := false }
def FlowKnownSaid : Prop := flowKnownRow.holds Try.pinned (OpenSpec.ofChange flowKnownSpec)

/-- ITS FALSE NEIGHBOUR: 'it returns false'. Refute it at one input. -/
def flowKnownWrong : ChangeSpec := { name := "flowKnown", fn := fun _ => fun
  | [] => { results := [.lit (.bool false)], args := [] }
  | _ => none }
def FlowKnownWrongFalsely : Prop := flowKnownRow.holds Try.pinned (OpenSpec.ofChange flowKnownWrong)

/-- 'astrolabelaw23.FlowStops': WHATEVER THE INPUT: true; the input reads as it did. -/
def flowStopsSpec : ChangeSpec := { name := "flowStops", fn := fun _ => fun
  | [d1, d2, d3, d4] => { results := [.lit (.bool true)], args := [d1, d2, d3, d4] }
  | _ => none }
def flowStopsRow : OpenClaim := { program := "ytbcfnmjdaipenaa", sum := "d700d09304ce42273f1b0b035a7c890a7270d798c256060aa7c5bc4ecce16572", func := "astrolabe/astrolabelaw23.FlowStops", spec := "flowStops", inPlace := ["math/bits.Add64"], unfollowed := true, recurses := true, named := ["math/bits.divideError", "math/bits.overflowError"], apart := false }
def FlowStopsSaid : Prop := flowStopsRow.holds Try.pinned (OpenSpec.ofChange flowStopsSpec)

/-- ITS FALSE NEIGHBOUR: 'it returns false'. Refute it at one input. -/
def flowStopsWrong : ChangeSpec := { name := "flowStops", fn := fun _ => fun
  | [d1, d2, d3, d4] => { results := [.lit (.bool false)], args := [d1, d2, d3, d4] }
  | _ => none }
def FlowStopsWrongFalsely : Prop := flowStopsRow.holds Try.pinned (OpenSpec.ofChange flowStopsWrong)

/-- 'astrolabelaw20.HeightKnown': WHATEVER THE INPUT: true; the input reads as it did. -/
def heightKnownSpec : ChangeSpec := { name := "heightKnown", fn := fun _ => fun
  | [] => { results := [.lit (.bool true)], args := [] }
  | _ => none }
def heightKnownRow : OpenClaim := { program := "ytbcfnmjdaipenaa", sum := "d700d09304ce42273f1b0b035a7c890a7270d798c256060aa7c5bc4ecce16572", func := "astrolabe/astrolabelaw20.HeightKnown", spec := "heightKnown", inPlace := ["math/bits.Add64"], unfollowed := true, recurses := true, named := ["math/bits.divideError", "math/bits.overflowError"], apart := false }
def HeightKnownSaid : Prop := heightKnownRow.holds Try.pinned (OpenSpec.ofChange heightKnownSpec)

/-- ITS FALSE NEIGHBOUR: 'it returns false'. Refute it at one input. -/
def heightKnownWrong : ChangeSpec := { name := "heightKnown", fn := fun _ => fun
  | [] => { results := [.lit (.bool false)], args := [] }
  | _ => none }
def HeightKnownWrongFalsely : Prop := heightKnownRow.holds Try.pinned (OpenSpec.ofChange heightKnownWrong)

/-- 'astrolabelaw20.HeightReads': WHATEVER THE INPUT: true; the input reads as it did. -/
def heightReadsSpec : ChangeSpec := { name := "heightReads", fn := fun _ => fun
  | [d] => { results := [.lit (.bool true)], args := [d] }
  | _ => none }
def heightReadsRow : OpenClaim := { program := "ytbcfnmjdaipenaa", sum := "d700d09304ce42273f1b0b035a7c890a7270d798c256060aa7c5bc4ecce16572", func := "astrolabe/astrolabelaw20.HeightReads", spec := "heightReads", inPlace := ["math/bits.Add64"], unfollowed := true, recurses := true, named := ["math/bits.divideError", "math/bits.overflowError"], apart := false }
def HeightReadsSaid : Prop := heightReadsRow.holds Try.pinned (OpenSpec.ofChange heightReadsSpec)

/-- ITS FALSE NEIGHBOUR: 'it returns false'. Refute it at one input. -/
def heightReadsWrong : ChangeSpec := { name := "heightReads", fn := fun _ => fun
  | [d] => { results := [.lit (.bool false)], args := [d] }
  | _ => none }
def HeightReadsWrongFalsely : Prop := heightReadsRow.holds Try.pinned (OpenSpec.ofChange heightReadsWrong)

/-- 'astrolabelaw20.HeightShifts': WHATEVER THE INPUT: true; the input reads as it did. -/
def heightShiftsSpec : ChangeSpec := { name := "heightShifts", fn := fun _ => fun
  | [d1, d2, d3, d4] => { results := [.lit (.bool true)], args := [d1, d2, d3, d4] }
  | _ => none }
def heightShiftsRow : OpenClaim := { program := "ytbcfnmjdaipenaa", sum := "d700d09304ce42273f1b0b035a7c890a7270d798c256060aa7c5bc4ecce16572", func := "astrolabe/astrolabelaw20.HeightShifts", spec := "heightShifts", inPlace := ["math/bits.Add64"], unfollowed := true, recurses := true, named := ["math/bits.divideError", "math/bits.overflowError"], apart := false }
def HeightShiftsSaid : Prop := heightShiftsRow.holds Try.pinned (OpenSpec.ofChange heightShiftsSpec)

/-- ITS FALSE NEIGHBOUR: 'it returns false'. Refute it at one input. -/
def heightShiftsWrong : ChangeSpec := { name := "heightShifts", fn := fun _ => fun
  | [d1, d2, d3, d4] => { results := [.lit (.bool false)], args := [d1, d2, d3, d4] }
  | _ => none }
def HeightShiftsWrongFalsely : Prop := heightShiftsRow.holds Try.pinned (OpenSpec.ofChange heightShiftsWrong)

/-- 'astrolabelaw6.QuatKnown': WHATEVER THE INPUT: true; the input reads as it did. -/
def quatKnownSpec : ChangeSpec := { name := "quatKnown", fn := fun _ => fun
  | [] => { results := [.lit (.bool true)], args := [] }
  | _ => none }
def quatKnownRow : OpenClaim := { program := "ytbcfnmjdaipenaa", sum := "d700d09304ce42273f1b0b035a7c890a7270d798c256060aa7c5bc4ecce16572", func := "astrolabe/astrolabelaw6.QuatKnown", spec := "quatKnown", inPlace := ["math/bits.Add64", "math/bits.Sub64"], unfollowed := true, recurses := true, named := ["math/bits.divideError", "math/bits.overflowError"], apart := false }
def QuatKnownSaid : Prop := quatKnownRow.holds Try.pinned (OpenSpec.ofChange quatKnownSpec)

/-- ITS FALSE NEIGHBOUR: 'it returns false'. Refute it at one input. -/
def quatKnownWrong : ChangeSpec := { name := "quatKnown", fn := fun _ => fun
  | [] => { results := [.lit (.bool false)], args := [] }
  | _ => none }
def QuatKnownWrongFalsely : Prop := quatKnownRow.holds Try.pinned (OpenSpec.ofChange quatKnownWrong)

/-- 'astrolabelaw6.QuatSays': WHATEVER THE INPUT: true; the input reads as it did. -/
def quatSaysSpec : ChangeSpec := { name := "quatSays", fn := fun _ => fun
  | [d1, d2] => { results := [.lit (.bool true)], args := [d1, d2] }
  | _ => none }
def quatSaysRow : OpenClaim := { program := "ytbcfnmjdaipenaa", sum := "d700d09304ce42273f1b0b035a7c890a7270d798c256060aa7c5bc4ecce16572", func := "astrolabe/astrolabelaw6.QuatSays", spec := "quatSays", inPlace := ["math/bits.Add64", "math/bits.Sub64"], unfollowed := true, recurses := true, named := ["math/bits.divideError", "math/bits.overflowError"], apart := false }
def QuatSaysSaid : Prop := quatSaysRow.holds Try.pinned (OpenSpec.ofChange quatSaysSpec)

/-- ITS FALSE NEIGHBOUR: 'it returns false'. Refute it at one input. -/
def quatSaysWrong : ChangeSpec := { name := "quatSays", fn := fun _ => fun
  | [d1, d2] => { results := [.lit (.bool false)], args := [d1, d2] }
  | _ => none }
def QuatSaysWrongFalsely : Prop := quatSaysRow.holds Try.pinned (OpenSpec.ofChange quatSaysWrong)

/-- 'astrolabelaw6.QuatChains': WHATEVER THE INPUT: true; the input reads as it did. -/
def quatChainsSpec : ChangeSpec := { name := "quatChains", fn := fun _ => fun
  | [d] => { results := [.lit (.bool true)], args := [d] }
  | _ => none }
def quatChainsRow : OpenClaim := { program := "ytbcfnmjdaipenaa", sum := "d700d09304ce42273f1b0b035a7c890a7270d798c256060aa7c5bc4ecce16572", func := "astrolabe/astrolabelaw6.QuatChains", spec := "quatChains", inPlace := ["math/bits.Add64", "math/bits.Sub64"], unfollowed := true, recurses := true, named := ["math/bits.divideError", "math/bits.overflowError"], apart := false }
def QuatChainsSaid : Prop := quatChainsRow.holds Try.pinned (OpenSpec.ofChange quatChainsSpec)

/-- ITS FALSE NEIGHBOUR: 'it returns false'. Refute it at one input. -/
def quatChainsWrong : ChangeSpec := { name := "quatChains", fn := fun _ => fun
  | [d] => { results := [.lit (.bool false)], args := [d] }
  | _ => none }
def QuatChainsWrongFalsely : Prop := quatChainsRow.holds Try.pinned (OpenSpec.ofChange quatChainsWrong)

/-- 'astrolabelaw6.QuatSigns': WHATEVER THE INPUT: true; the input reads as it did. -/
def quatSignsSpec : ChangeSpec := { name := "quatSigns", fn := fun _ => fun
  | [d1, d2] => { results := [.lit (.bool true)], args := [d1, d2] }
  | _ => none }
def quatSignsRow : OpenClaim := { program := "ytbcfnmjdaipenaa", sum := "d700d09304ce42273f1b0b035a7c890a7270d798c256060aa7c5bc4ecce16572", func := "astrolabe/astrolabelaw6.QuatSigns", spec := "quatSigns", inPlace := ["math/bits.Add64", "math/bits.Sub64"], unfollowed := true, recurses := true, named := ["math/bits.divideError", "math/bits.overflowError"], apart := false }
def QuatSignsSaid : Prop := quatSignsRow.holds Try.pinned (OpenSpec.ofChange quatSignsSpec)

/-- ITS FALSE NEIGHBOUR: 'it returns false'. Refute it at one input. -/
def quatSignsWrong : ChangeSpec := { name := "quatSigns", fn := fun _ => fun
  | [d1, d2] => { results := [.lit (.bool false)], args := [d1, d2] }
  | _ => none }
def QuatSignsWrongFalsely : Prop := quatSignsRow.holds Try.pinned (OpenSpec.ofChange quatSignsWrong)

/-- 'astrolabelaw4.TrigKnown': WHATEVER THE INPUT: true; the input reads as it did. -/
def trigKnownSpec : ChangeSpec := { name := "trigKnown", fn := fun _ => fun
  | [] => { results := [.lit (.bool true)], args := [] }
  | _ => none }
def trigKnownRow : OpenClaim := { program := "ytbcfnmjdaipenaa", sum := "d700d09304ce42273f1b0b035a7c890a7270d798c256060aa7c5bc4ecce16572", func := "astrolabe/astrolabelaw4.TrigKnown", spec := "trigKnown", inPlace := ["math/bits.Add64", "math/bits.Sub64"], named := ["math/bits.divideError", "math/bits.overflowError"], apart := false }
def TrigKnownSaid : Prop := trigKnownRow.holds Try.pinned (OpenSpec.ofChange trigKnownSpec)

/-- ITS FALSE NEIGHBOUR: 'it returns false'. Refute it at one input. -/
def trigKnownWrong : ChangeSpec := { name := "trigKnown", fn := fun _ => fun
  | [] => { results := [.lit (.bool false)], args := [] }
  | _ => none }
def TrigKnownWrongFalsely : Prop := trigKnownRow.holds Try.pinned (OpenSpec.ofChange trigKnownWrong)

/-- 'astrolabelaw4.TrigSays': WHATEVER THE INPUT: true; the input reads as it did. -/
def trigSaysSpec : ChangeSpec := { name := "trigSays", fn := fun _ => fun
  | [d1, d2, d3] => { results := [.lit (.bool true)], args := [d1, d2, d3] }
  | _ => none }
def trigSaysRow : OpenClaim := { program := "ytbcfnmjdaipenaa", sum := "d700d09304ce42273f1b0b035a7c890a7270d798c256060aa7c5bc4ecce16572", func := "astrolabe/astrolabelaw4.TrigSays", spec := "trigSays", inPlace := ["math/bits.Add64", "math/bits.Sub64"], named := ["math/bits.divideError", "math/bits.overflowError"], apart := false }
def TrigSaysSaid : Prop := trigSaysRow.holds Try.pinned (OpenSpec.ofChange trigSaysSpec)

/-- ITS FALSE NEIGHBOUR: 'it returns false'. Refute it at one input. -/
def trigSaysWrong : ChangeSpec := { name := "trigSays", fn := fun _ => fun
  | [d1, d2, d3] => { results := [.lit (.bool false)], args := [d1, d2, d3] }
  | _ => none }
def TrigSaysWrongFalsely : Prop := trigSaysRow.holds Try.pinned (OpenSpec.ofChange trigSaysWrong)

/-- 'astrolabelaw4.TrigWraps': WHATEVER THE INPUT: true; the input reads as it did. -/
def trigWrapsSpec : ChangeSpec := { name := "trigWraps", fn := fun _ => fun
  | [d1, d2] => { results := [.lit (.bool true)], args := [d1, d2] }
  | _ => none }
def trigWrapsRow : OpenClaim := { program := "ytbcfnmjdaipenaa", sum := "d700d09304ce42273f1b0b035a7c890a7270d798c256060aa7c5bc4ecce16572", func := "astrolabe/astrolabelaw4.TrigWraps", spec := "trigWraps", inPlace := ["math/bits.Add64", "math/bits.Sub64"], named := ["math/bits.divideError", "math/bits.overflowError"], apart := false }
def TrigWrapsSaid : Prop := trigWrapsRow.holds Try.pinned (OpenSpec.ofChange trigWrapsSpec)

/-- ITS FALSE NEIGHBOUR: 'it returns false'. Refute it at one input. -/
def trigWrapsWrong : ChangeSpec := { name := "trigWraps", fn := fun _ => fun
  | [d1, d2] => { results := [.lit (.bool false)], args := [d1, d2] }
  | _ => none }
def TrigWrapsWrongFalsely : Prop := trigWrapsRow.holds Try.pinned (OpenSpec.ofChange trigWrapsWrong)

/- THE SECOND FORM. 'bulk': how many values and letters a reading holds, each counted each time it is reached (what is shared counts as often as it is met; a slice's spare places count too). A statement '..UptoSaid' is the law's where the arguments, and the package variables that the reading takes, are together of bulk at most 1048576: NARROWER than '..Said'. Prove '..Said' where nothing that the law and all that it calls make is longer than what came in: it says more and counts as full. Else prove '..UptoSaid'. A law counts once. -/
mutual
def uptoBulk {H : Type} : DataW H → Nat
  | .lit (.string bytes) => bytes.length + 1
  | .lit _ => 1
  | .nil => 1
  | .ptr d => uptoBulk d + 1
  | .slice elems spare => uptoBulkAll elems + uptoBulkAll spare + 1
  | .agg parts => uptoBulkAll parts + 1
  | .iface _ d => uptoBulk d + 1
  | .map entries => uptoBulkEntries entries + 1
  | .held _ => 1
def uptoBulkAll {H : Type} : List (DataW H) → Nat
  | [] => 0
  | d :: r => uptoBulk d + uptoBulkAll r
def uptoBulkEntries {H : Type} : List (Lit × DataW H) → Nat
  | [] => 0
  | x :: r => uptoBulkEntry x + uptoBulkEntries r
def uptoBulkEntry {H : Type} : Lit × DataW H → Nat
  | (.string bytes, d) => bytes.length + uptoBulk d + 1
  | (_, d) => uptoBulk d + 1
 end
def uptoSmall : (H : Type) → List (DataW H) → Bool := fun _ ds => decide (uptoBulkAll ds ≤ 1048576)
def OpenSpec.upto (s : _root_.Go.ChangeSpec) : _root_.Go.OpenSpec := { _root_.Go.OpenSpec.ofChange s with cond := some uptoSmall }

/-- 'astrolabelaw23.FlowKnown', WHERE WHAT IT READS IS OF BULK AT MOST 1048576: true; the input reads as it did. -/
def flowKnownUptoRow : OpenClaim := { program := "ytbcfnmjdaipenaa", sum := "d700d09304ce42273f1b0b035a7c890a7270d798c256060aa7c5bc4ecce16572", func := "astrolabe/astrolabelaw23.FlowKnown", spec := "flowKnown", inPlace := ["math/bits.Add64"], unfollowed := true, recurses := true, named := ["math/bits.divideError", "math/bits.overflowError"], apart := false, narrowed := true }
def FlowKnownUptoSaid : Prop := flowKnownUptoRow.holds Try.pinned (OpenSpec.upto flowKnownSpec)

/-- 'astrolabelaw23.FlowStops', WHERE WHAT IT READS IS OF BULK AT MOST 1048576: true; the input reads as it did. -/
def flowStopsUptoRow : OpenClaim := { program := "ytbcfnmjdaipenaa", sum := "d700d09304ce42273f1b0b035a7c890a7270d798c256060aa7c5bc4ecce16572", func := "astrolabe/astrolabelaw23.FlowStops", spec := "flowStops", inPlace := ["math/bits.Add64"], unfollowed := true, recurses := true, named := ["math/bits.divideError", "math/bits.overflowError"], apart := false, narrowed := true }
def FlowStopsUptoSaid : Prop := flowStopsUptoRow.holds Try.pinned (OpenSpec.upto flowStopsSpec)

/-- 'astrolabelaw20.HeightKnown', WHERE WHAT IT READS IS OF BULK AT MOST 1048576: true; the input reads as it did. -/
def heightKnownUptoRow : OpenClaim := { program := "ytbcfnmjdaipenaa", sum := "d700d09304ce42273f1b0b035a7c890a7270d798c256060aa7c5bc4ecce16572", func := "astrolabe/astrolabelaw20.HeightKnown", spec := "heightKnown", inPlace := ["math/bits.Add64"], unfollowed := true, recurses := true, named := ["math/bits.divideError", "math/bits.overflowError"], apart := false, narrowed := true }
def HeightKnownUptoSaid : Prop := heightKnownUptoRow.holds Try.pinned (OpenSpec.upto heightKnownSpec)

/-- 'astrolabelaw20.HeightReads', WHERE WHAT IT READS IS OF BULK AT MOST 1048576: true; the input reads as it did. -/
def heightReadsUptoRow : OpenClaim := { program := "ytbcfnmjdaipenaa", sum := "d700d09304ce42273f1b0b035a7c890a7270d798c256060aa7c5bc4ecce16572", func := "astrolabe/astrolabelaw20.HeightReads", spec := "heightReads", inPlace := ["math/bits.Add64"], unfollowed := true, recurses := true, named := ["math/bits.divideError", "math/bits.overflowError"], apart := false, narrowed := true }
def HeightReadsUptoSaid : Prop := heightReadsUptoRow.holds Try.pinned (OpenSpec.upto heightReadsSpec)

/-- 'astrolabelaw20.HeightShifts', WHERE WHAT IT READS IS OF BULK AT MOST 1048576: true; the input reads as it did. -/
def heightShiftsUptoRow : OpenClaim := { program := "ytbcfnmjdaipenaa", sum := "d700d09304ce42273f1b0b035a7c890a7270d798c256060aa7c5bc4ecce16572", func := "astrolabe/astrolabelaw20.HeightShifts", spec := "heightShifts", inPlace := ["math/bits.Add64"], unfollowed := true, recurses := true, named := ["math/bits.divideError", "math/bits.overflowError"], apart := false, narrowed := true }
def HeightShiftsUptoSaid : Prop := heightShiftsUptoRow.holds Try.pinned (OpenSpec.upto heightShiftsSpec)

/-- 'astrolabelaw6.QuatKnown', WHERE WHAT IT READS IS OF BULK AT MOST 1048576: true; the input reads as it did. -/
def quatKnownUptoRow : OpenClaim := { program := "ytbcfnmjdaipenaa", sum := "d700d09304ce42273f1b0b035a7c890a7270d798c256060aa7c5bc4ecce16572", func := "astrolabe/astrolabelaw6.QuatKnown", spec := "quatKnown", inPlace := ["math/bits.Add64", "math/bits.Sub64"], unfollowed := true, recurses := true, named := ["math/bits.divideError", "math/bits.overflowError"], apart := false, narrowed := true }
def QuatKnownUptoSaid : Prop := quatKnownUptoRow.holds Try.pinned (OpenSpec.upto quatKnownSpec)

/-- 'astrolabelaw6.QuatSays', WHERE WHAT IT READS IS OF BULK AT MOST 1048576: true; the input reads as it did. -/
def quatSaysUptoRow : OpenClaim := { program := "ytbcfnmjdaipenaa", sum := "d700d09304ce42273f1b0b035a7c890a7270d798c256060aa7c5bc4ecce16572", func := "astrolabe/astrolabelaw6.QuatSays", spec := "quatSays", inPlace := ["math/bits.Add64", "math/bits.Sub64"], unfollowed := true, recurses := true, named := ["math/bits.divideError", "math/bits.overflowError"], apart := false, narrowed := true }
def QuatSaysUptoSaid : Prop := quatSaysUptoRow.holds Try.pinned (OpenSpec.upto quatSaysSpec)

/-- 'astrolabelaw6.QuatChains', WHERE WHAT IT READS IS OF BULK AT MOST 1048576: true; the input reads as it did. -/
def quatChainsUptoRow : OpenClaim := { program := "ytbcfnmjdaipenaa", sum := "d700d09304ce42273f1b0b035a7c890a7270d798c256060aa7c5bc4ecce16572", func := "astrolabe/astrolabelaw6.QuatChains", spec := "quatChains", inPlace := ["math/bits.Add64", "math/bits.Sub64"], unfollowed := true, recurses := true, named := ["math/bits.divideError", "math/bits.overflowError"], apart := false, narrowed := true }
def QuatChainsUptoSaid : Prop := quatChainsUptoRow.holds Try.pinned (OpenSpec.upto quatChainsSpec)

/-- 'astrolabelaw6.QuatSigns', WHERE WHAT IT READS IS OF BULK AT MOST 1048576: true; the input reads as it did. -/
def quatSignsUptoRow : OpenClaim := { program := "ytbcfnmjdaipenaa", sum := "d700d09304ce42273f1b0b035a7c890a7270d798c256060aa7c5bc4ecce16572", func := "astrolabe/astrolabelaw6.QuatSigns", spec := "quatSigns", inPlace := ["math/bits.Add64", "math/bits.Sub64"], unfollowed := true, recurses := true, named := ["math/bits.divideError", "math/bits.overflowError"], apart := false, narrowed := true }
def QuatSignsUptoSaid : Prop := quatSignsUptoRow.holds Try.pinned (OpenSpec.upto quatSignsSpec)

/-- 'astrolabelaw4.TrigKnown', WHERE WHAT IT READS IS OF BULK AT MOST 1048576: true; the input reads as it did. -/
def trigKnownUptoRow : OpenClaim := { program := "ytbcfnmjdaipenaa", sum := "d700d09304ce42273f1b0b035a7c890a7270d798c256060aa7c5bc4ecce16572", func := "astrolabe/astrolabelaw4.TrigKnown", spec := "trigKnown", inPlace := ["math/bits.Add64", "math/bits.Sub64"], named := ["math/bits.divideError", "math/bits.overflowError"], apart := false, narrowed := true }
def TrigKnownUptoSaid : Prop := trigKnownUptoRow.holds Try.pinned (OpenSpec.upto trigKnownSpec)

/-- 'astrolabelaw4.TrigSays', WHERE WHAT IT READS IS OF BULK AT MOST 1048576: true; the input reads as it did. -/
def trigSaysUptoRow : OpenClaim := { program := "ytbcfnmjdaipenaa", sum := "d700d09304ce42273f1b0b035a7c890a7270d798c256060aa7c5bc4ecce16572", func := "astrolabe/astrolabelaw4.TrigSays", spec := "trigSays", inPlace := ["math/bits.Add64", "math/bits.Sub64"], named := ["math/bits.divideError", "math/bits.overflowError"], apart := false, narrowed := true }
def TrigSaysUptoSaid : Prop := trigSaysUptoRow.holds Try.pinned (OpenSpec.upto trigSaysSpec)

/-- 'astrolabelaw4.TrigWraps', WHERE WHAT IT READS IS OF BULK AT MOST 1048576: true; the input reads as it did. -/
def trigWrapsUptoRow : OpenClaim := { program := "ytbcfnmjdaipenaa", sum := "d700d09304ce42273f1b0b035a7c890a7270d798c256060aa7c5bc4ecce16572", func := "astrolabe/astrolabelaw4.TrigWraps", spec := "trigWraps", inPlace := ["math/bits.Add64", "math/bits.Sub64"], named := ["math/bits.divideError", "math/bits.overflowError"], apart := false, narrowed := true }
def TrigWrapsUptoSaid : Prop := trigWrapsUptoRow.holds Try.pinned (OpenSpec.upto trigWrapsSpec)

end Rows
end Go.Proofs.Ytbcfnmjdaipenaa
