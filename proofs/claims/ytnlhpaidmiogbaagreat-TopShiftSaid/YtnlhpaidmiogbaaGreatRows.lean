/-
  No cell of these rows narrows 'for every input' (looked for: loops, veiled, ifaces, maps, wideKeys, modest, calm, conditions, laid).
  DERIVED. THE GIVEN ROWS OF THIS SEAT. 6 by the template 'for every input the law returns true; each argument reads behind the call as it read before'; 0 by the template 'total and deterministic' (their statements: YtnlhpaidmiogbaaGreatTotals.lean).
  GIVEN WITH THE SEED: the statements are not yours to turn. If you find one false, say at which input.
  Laid BY PROGRAM, IN A SANDBOX (cutbox-rows.mjs): the forced cells as the released guide's own fill.sh prints them over the translation 1e3467f1d2b46dea… (all of the seat's roots in one cut). By AI agents, Wed Nov 11 2026. No macro, syntax, notation, axiom, sorry.
-/
import Derived.Test.YtnlhpaidmiogbaaGreatChecked
import GoSem.Claim
import GoSem.ClaimJoined
import GoSem.ClaimMapViews
import Derived.JoinedTies
import Derived.KernelRfl
namespace Go.Proofs.YtnlhpaidmiogbaaGreat
/- THE CELL 'sum', in the pinned program and in every row, IS THE sha256 OF THE DUMP (.gsa) THAT YtnlhpaidmiogbaaGreatProg.lean LOADS. Nothing in Lean hashes anything: it is a label: what it is worth is what the hold of that sum in a sandbox is worth. -/
noncomputable def Tryz.pinned : Pinned := { name := "ytnlhpaidmiogbaagreat", sum := "1e3467f1d2b46deaad3c20bc9fcfc6069597f7edc4250f6efcd9992a9e5be011", checked := Tryz.checked }
namespace Rows
def none {H : Type} : Left H := { results := [], args := [] }

/-- 'astrolabetop.TopSources': WHATEVER THE INPUT: true; the input reads as it did. -/
def topSourcesSpec : ChangeSpec := { name := "topSources", fn := fun _ => fun
  | [d1, d2, d3] => { results := [.lit (.bool true)], args := [d1, d2, d3] }
  | _ => none }
def topSourcesRow : OpenClaim := { program := "ytnlhpaidmiogbaagreat", sum := "1e3467f1d2b46deaad3c20bc9fcfc6069597f7edc4250f6efcd9992a9e5be011", func := "astrolabe/astrolabetop.TopSources", spec := "topSources", inPlace := ["math/bits.Add64", "math/bits.Sub64", "slices.overlaps[astrolabe/api.Sample]"], unfollowed := true, recurses := true, named := ["math/bits.divideError", "math/bits.overflowError"], apart := false }
def TopSourcesSaid : Prop := topSourcesRow.holds Tryz.pinned (OpenSpec.ofChange topSourcesSpec)

/-- ITS FALSE NEIGHBOUR: 'it returns false'. Refute it at one input. -/
def topSourcesWrong : ChangeSpec := { name := "topSources", fn := fun _ => fun
  | [d1, d2, d3] => { results := [.lit (.bool false)], args := [d1, d2, d3] }
  | _ => none }
def TopSourcesWrongFalsely : Prop := topSourcesRow.holds Tryz.pinned (OpenSpec.ofChange topSourcesWrong)

/-- 'astrolabetop.TopMoves': WHATEVER THE INPUT: true; the input reads as it did. -/
def topMovesSpec : ChangeSpec := { name := "topMoves", fn := fun _ => fun
  | [d1, d2, d3] => { results := [.lit (.bool true)], args := [d1, d2, d3] }
  | _ => none }
def topMovesRow : OpenClaim := { program := "ytnlhpaidmiogbaagreat", sum := "1e3467f1d2b46deaad3c20bc9fcfc6069597f7edc4250f6efcd9992a9e5be011", func := "astrolabe/astrolabetop.TopMoves", spec := "topMoves", inPlace := ["math/bits.Add64", "math/bits.Sub64", "slices.overlaps[astrolabe/api.Sample]"], unfollowed := true, recurses := true, named := ["math/bits.divideError", "math/bits.overflowError"], apart := false }
def TopMovesSaid : Prop := topMovesRow.holds Tryz.pinned (OpenSpec.ofChange topMovesSpec)

/-- ITS FALSE NEIGHBOUR: 'it returns false'. Refute it at one input. -/
def topMovesWrong : ChangeSpec := { name := "topMoves", fn := fun _ => fun
  | [d1, d2, d3] => { results := [.lit (.bool false)], args := [d1, d2, d3] }
  | _ => none }
def TopMovesWrongFalsely : Prop := topMovesRow.holds Tryz.pinned (OpenSpec.ofChange topMovesWrong)

/-- 'astrolabetop.TopAccel': WHATEVER THE INPUT: true; the input reads as it did. -/
def topAccelSpec : ChangeSpec := { name := "topAccel", fn := fun _ => fun
  | [d1, d2] => { results := [.lit (.bool true)], args := [d1, d2] }
  | _ => none }
def topAccelRow : OpenClaim := { program := "ytnlhpaidmiogbaagreat", sum := "1e3467f1d2b46deaad3c20bc9fcfc6069597f7edc4250f6efcd9992a9e5be011", func := "astrolabe/astrolabetop.TopAccel", spec := "topAccel", inPlace := ["math/bits.Add64", "math/bits.Sub64", "slices.overlaps[astrolabe/api.Sample]"], unfollowed := true, recurses := true, named := ["math/bits.divideError", "math/bits.overflowError"], apart := false }
def TopAccelSaid : Prop := topAccelRow.holds Tryz.pinned (OpenSpec.ofChange topAccelSpec)

/-- ITS FALSE NEIGHBOUR: 'it returns false'. Refute it at one input. -/
def topAccelWrong : ChangeSpec := { name := "topAccel", fn := fun _ => fun
  | [d1, d2] => { results := [.lit (.bool false)], args := [d1, d2] }
  | _ => none }
def TopAccelWrongFalsely : Prop := topAccelRow.holds Tryz.pinned (OpenSpec.ofChange topAccelWrong)

/-- 'astrolabetop.TopSums': WHATEVER THE INPUT: true; the input reads as it did. -/
def topSumsSpec : ChangeSpec := { name := "topSums", fn := fun _ => fun
  | [d1, d2] => { results := [.lit (.bool true)], args := [d1, d2] }
  | _ => none }
def topSumsRow : OpenClaim := { program := "ytnlhpaidmiogbaagreat", sum := "1e3467f1d2b46deaad3c20bc9fcfc6069597f7edc4250f6efcd9992a9e5be011", func := "astrolabe/astrolabetop.TopSums", spec := "topSums", inPlace := ["math/bits.Add64", "math/bits.Sub64", "slices.overlaps[astrolabe/api.Sample]"], unfollowed := true, recurses := true, named := ["math/bits.divideError", "math/bits.overflowError"], apart := false }
def TopSumsSaid : Prop := topSumsRow.holds Tryz.pinned (OpenSpec.ofChange topSumsSpec)

/-- ITS FALSE NEIGHBOUR: 'it returns false'. Refute it at one input. -/
def topSumsWrong : ChangeSpec := { name := "topSums", fn := fun _ => fun
  | [d1, d2] => { results := [.lit (.bool false)], args := [d1, d2] }
  | _ => none }
def TopSumsWrongFalsely : Prop := topSumsRow.holds Tryz.pinned (OpenSpec.ofChange topSumsWrong)

/-- 'astrolabetop.TopShift': WHATEVER THE INPUT: true; the input reads as it did. -/
def topShiftSpec : ChangeSpec := { name := "topShift", fn := fun _ => fun
  | [d1, d2, d3] => { results := [.lit (.bool true)], args := [d1, d2, d3] }
  | _ => none }
def topShiftRow : OpenClaim := { program := "ytnlhpaidmiogbaagreat", sum := "1e3467f1d2b46deaad3c20bc9fcfc6069597f7edc4250f6efcd9992a9e5be011", func := "astrolabe/astrolabetop.TopShift", spec := "topShift", inPlace := ["math/bits.Add64", "math/bits.Sub64", "slices.overlaps[astrolabe/api.Sample]"], unfollowed := true, recurses := true, named := ["math/bits.divideError", "math/bits.overflowError"], apart := false }
def TopShiftSaid : Prop := topShiftRow.holds Tryz.pinned (OpenSpec.ofChange topShiftSpec)

/-- ITS FALSE NEIGHBOUR: 'it returns false'. Refute it at one input. -/
def topShiftWrong : ChangeSpec := { name := "topShift", fn := fun _ => fun
  | [d1, d2, d3] => { results := [.lit (.bool false)], args := [d1, d2, d3] }
  | _ => none }
def TopShiftWrongFalsely : Prop := topShiftRow.holds Tryz.pinned (OpenSpec.ofChange topShiftWrong)

/-- 'astrolabetop.TopSeconds': WHATEVER THE INPUT: true; the input reads as it did. -/
def topSecondsSpec : ChangeSpec := { name := "topSeconds", fn := fun _ => fun
  | [d] => { results := [.lit (.bool true)], args := [d] }
  | _ => none }
def topSecondsRow : OpenClaim := { program := "ytnlhpaidmiogbaagreat", sum := "1e3467f1d2b46deaad3c20bc9fcfc6069597f7edc4250f6efcd9992a9e5be011", func := "astrolabe/astrolabetop.TopSeconds", spec := "topSeconds", inPlace := ["math/bits.Add64", "math/bits.Sub64"], unfollowed := true, recurses := true, named := ["math/bits.divideError", "math/bits.overflowError"], apart := false }
def TopSecondsSaid : Prop := topSecondsRow.holds Tryz.pinned (OpenSpec.ofChange topSecondsSpec)

/-- ITS FALSE NEIGHBOUR: 'it returns false'. Refute it at one input. -/
def topSecondsWrong : ChangeSpec := { name := "topSeconds", fn := fun _ => fun
  | [d] => { results := [.lit (.bool false)], args := [d] }
  | _ => none }
def TopSecondsWrongFalsely : Prop := topSecondsRow.holds Tryz.pinned (OpenSpec.ofChange topSecondsWrong)

/- THE SECOND FORM. 'bulk': how many values and letters a reading holds, each counted each time it is reached (what is shared counts as often as it is met; a slice's spare places count too). A statement '..UptoSaid' is the law's where the arguments, and the package variables that the reading takes, are together of bulk at most 1048576: NARROWER than '..Said'. Prove '..Said' where nothing that the law and all that it calls make is longer than what came in: it says more and counts as full. Else prove '..UptoSaid'. A law counts once. -/
mutual
def uptoBulk {H : Type} : DataW H → Nat
  | .lit (.string bytes) => bytes.length + 1
  | .lit _ => 1
  | .nil => 1
  | .ptr d => uptoBulk d + 1
  | .slice elems spare => uptoBulkAll elems + uptoBulkAll spare + 1
  | .agg parts => uptoBulkAll parts + 1
  | .iface _ d => uptoBulk d + 1
  | .map entries => uptoBulkEntries entries + 1
  | .held _ => 1
def uptoBulkAll {H : Type} : List (DataW H) → Nat
  | [] => 0
  | d :: r => uptoBulk d + uptoBulkAll r
def uptoBulkEntries {H : Type} : List (Lit × DataW H) → Nat
  | [] => 0
  | x :: r => uptoBulkEntry x + uptoBulkEntries r
def uptoBulkEntry {H : Type} : Lit × DataW H → Nat
  | (.string bytes, d) => bytes.length + uptoBulk d + 1
  | (_, d) => uptoBulk d + 1
 end
def uptoSmall : (H : Type) → List (DataW H) → Bool := fun _ ds => decide (uptoBulkAll ds ≤ 1048576)
def OpenSpec.upto (s : _root_.Go.ChangeSpec) : _root_.Go.OpenSpec := { _root_.Go.OpenSpec.ofChange s with cond := some uptoSmall }

/-- 'astrolabetop.TopSources', WHERE WHAT IT READS IS OF BULK AT MOST 1048576: true; the input reads as it did. -/
def topSourcesUptoRow : OpenClaim := { program := "ytnlhpaidmiogbaagreat", sum := "1e3467f1d2b46deaad3c20bc9fcfc6069597f7edc4250f6efcd9992a9e5be011", func := "astrolabe/astrolabetop.TopSources", spec := "topSources", inPlace := ["math/bits.Add64", "math/bits.Sub64", "slices.overlaps[astrolabe/api.Sample]"], unfollowed := true, recurses := true, named := ["math/bits.divideError", "math/bits.overflowError"], apart := false, narrowed := true }
def TopSourcesUptoSaid : Prop := topSourcesUptoRow.holds Tryz.pinned (OpenSpec.upto topSourcesSpec)

/-- 'astrolabetop.TopMoves', WHERE WHAT IT READS IS OF BULK AT MOST 1048576: true; the input reads as it did. -/
def topMovesUptoRow : OpenClaim := { program := "ytnlhpaidmiogbaagreat", sum := "1e3467f1d2b46deaad3c20bc9fcfc6069597f7edc4250f6efcd9992a9e5be011", func := "astrolabe/astrolabetop.TopMoves", spec := "topMoves", inPlace := ["math/bits.Add64", "math/bits.Sub64", "slices.overlaps[astrolabe/api.Sample]"], unfollowed := true, recurses := true, named := ["math/bits.divideError", "math/bits.overflowError"], apart := false, narrowed := true }
def TopMovesUptoSaid : Prop := topMovesUptoRow.holds Tryz.pinned (OpenSpec.upto topMovesSpec)

/-- 'astrolabetop.TopAccel', WHERE WHAT IT READS IS OF BULK AT MOST 1048576: true; the input reads as it did. -/
def topAccelUptoRow : OpenClaim := { program := "ytnlhpaidmiogbaagreat", sum := "1e3467f1d2b46deaad3c20bc9fcfc6069597f7edc4250f6efcd9992a9e5be011", func := "astrolabe/astrolabetop.TopAccel", spec := "topAccel", inPlace := ["math/bits.Add64", "math/bits.Sub64", "slices.overlaps[astrolabe/api.Sample]"], unfollowed := true, recurses := true, named := ["math/bits.divideError", "math/bits.overflowError"], apart := false, narrowed := true }
def TopAccelUptoSaid : Prop := topAccelUptoRow.holds Tryz.pinned (OpenSpec.upto topAccelSpec)

/-- 'astrolabetop.TopSums', WHERE WHAT IT READS IS OF BULK AT MOST 1048576: true; the input reads as it did. -/
def topSumsUptoRow : OpenClaim := { program := "ytnlhpaidmiogbaagreat", sum := "1e3467f1d2b46deaad3c20bc9fcfc6069597f7edc4250f6efcd9992a9e5be011", func := "astrolabe/astrolabetop.TopSums", spec := "topSums", inPlace := ["math/bits.Add64", "math/bits.Sub64", "slices.overlaps[astrolabe/api.Sample]"], unfollowed := true, recurses := true, named := ["math/bits.divideError", "math/bits.overflowError"], apart := false, narrowed := true }
def TopSumsUptoSaid : Prop := topSumsUptoRow.holds Tryz.pinned (OpenSpec.upto topSumsSpec)

/-- 'astrolabetop.TopShift', WHERE WHAT IT READS IS OF BULK AT MOST 1048576: true; the input reads as it did. -/
def topShiftUptoRow : OpenClaim := { program := "ytnlhpaidmiogbaagreat", sum := "1e3467f1d2b46deaad3c20bc9fcfc6069597f7edc4250f6efcd9992a9e5be011", func := "astrolabe/astrolabetop.TopShift", spec := "topShift", inPlace := ["math/bits.Add64", "math/bits.Sub64", "slices.overlaps[astrolabe/api.Sample]"], unfollowed := true, recurses := true, named := ["math/bits.divideError", "math/bits.overflowError"], apart := false, narrowed := true }
def TopShiftUptoSaid : Prop := topShiftUptoRow.holds Tryz.pinned (OpenSpec.upto topShiftSpec)

/-- 'astrolabetop.TopSeconds', WHERE WHAT IT READS IS OF BULK AT MOST 1048576: true; the input reads as it did. -/
def topSecondsUptoRow : OpenClaim := { program := "ytnlhpaidmiogbaagreat", sum := "1e3467f1d2b46deaad3c20bc9fcfc6069597f7edc4250f6efcd9992a9e5be011", func := "astrolabe/astrolabetop.TopSeconds", spec := "topSeconds", inPlace := ["math/bits.Add64", "math/bits.Sub64"], unfollowed := true, recurses := true, named := ["math/bits.divideError", "math/bits.overflowError"], apart := false, narrowed := true }
def TopSecondsUptoSaid : Prop := topSecondsUptoRow.holds Tryz.pinned (OpenSpec.upto topSecondsSpec)

end Rows
end Go.Proofs.YtnlhpaidmiogbaaGreat
