/-
  No cell of these rows narrows 'for every input' (looked for: loops, veiled, ifaces, maps, wideKeys, modest, calm, conditions, laid).
  DERIVED. THE GIVEN ROWS OF THIS SEAT. 3 by the template 'for every input the law returns true; each argument reads behind the call as it read before'; 0 by the template 'total and deterministic' (their statements: YtfepmlklbapfiaaGreatTotals.lean).
  GIVEN WITH THE SEED: the statements are not yours to turn. If you find one false, say at which input.
  Laid BY PROGRAM, IN A SANDBOX (cutbox-rows.mjs): the forced cells as the released guide's own fill.sh prints them over the translation 975ae1b81f9f4f3e… (all of the seat's roots in one cut). By AI agents, Wed Nov 11 2026. No macro, syntax, notation, axiom, sorry.
-/
import Derived.Test.YtfepmlklbapfiaaGreatChecked
import GoSem.Claim
import GoSem.ClaimJoined
import GoSem.ClaimMapViews
import Derived.JoinedTies
import Derived.KernelRfl
namespace Go.Proofs.YtfepmlklbapfiaaGreat
/- THE CELL 'sum', in the pinned program and in every row, IS THE sha256 OF THE DUMP (.gsa) THAT YtfepmlklbapfiaaGreatProg.lean LOADS. Nothing in Lean hashes anything: it is a label: what it is worth is what the hold of that sum in a sandbox is worth. -/
noncomputable def Tryz.pinned : Pinned := { name := "ytfepmlklbapfiaagreat", sum := "975ae1b81f9f4f3ef0f250e28c1942ac069a7faaefe9c24a1e9feef2501eea26", checked := Tryz.checked }
namespace Rows
def none {H : Type} : Left H := { results := [], args := [] }

/-- 'astrolabetop.TopShaken': WHATEVER THE INPUT: true; the input reads as it did. -/
def topShakenSpec : ChangeSpec := { name := "topShaken", fn := fun _ => fun
  | [d1, d2] => { results := [.lit (.bool true)], args := [d1, d2] }
  | _ => none }
def topShakenRow : OpenClaim := { program := "ytfepmlklbapfiaagreat", sum := "975ae1b81f9f4f3ef0f250e28c1942ac069a7faaefe9c24a1e9feef2501eea26", func := "astrolabe/astrolabetop.TopShaken", spec := "topShaken", inPlace := ["math/bits.Add64", "math/bits.Sub64"], unfollowed := true, recurses := true, named := ["math/bits.divideError", "math/bits.overflowError"], apart := false }
def TopShakenSaid : Prop := topShakenRow.holds Tryz.pinned (OpenSpec.ofChange topShakenSpec)

/-- ITS FALSE NEIGHBOUR: 'it returns false'. Refute it at one input. -/
def topShakenWrong : ChangeSpec := { name := "topShaken", fn := fun _ => fun
  | [d1, d2] => { results := [.lit (.bool false)], args := [d1, d2] }
  | _ => none }
def TopShakenWrongFalsely : Prop := topShakenRow.holds Tryz.pinned (OpenSpec.ofChange topShakenWrong)

/-- 'astrolabetop.TopTilted': WHATEVER THE INPUT: true; the input reads as it did. -/
def topTiltedSpec : ChangeSpec := { name := "topTilted", fn := fun _ => fun
  | [d] => { results := [.lit (.bool true)], args := [d] }
  | _ => none }
def topTiltedRow : OpenClaim := { program := "ytfepmlklbapfiaagreat", sum := "975ae1b81f9f4f3ef0f250e28c1942ac069a7faaefe9c24a1e9feef2501eea26", func := "astrolabe/astrolabetop.TopTilted", spec := "topTilted", inPlace := ["math/bits.Add64", "math/bits.Sub64"], unfollowed := true, recurses := true, named := ["math/bits.divideError", "math/bits.overflowError"], apart := false }
def TopTiltedSaid : Prop := topTiltedRow.holds Tryz.pinned (OpenSpec.ofChange topTiltedSpec)

/-- ITS FALSE NEIGHBOUR: 'it returns false'. Refute it at one input. -/
def topTiltedWrong : ChangeSpec := { name := "topTilted", fn := fun _ => fun
  | [d] => { results := [.lit (.bool false)], args := [d] }
  | _ => none }
def TopTiltedWrongFalsely : Prop := topTiltedRow.holds Tryz.pinned (OpenSpec.ofChange topTiltedWrong)

/-- 'astrolabetop.TopSeconds': WHATEVER THE INPUT: true; the input reads as it did. -/
def topSecondsSpec : ChangeSpec := { name := "topSeconds", fn := fun _ => fun
  | [d] => { results := [.lit (.bool true)], args := [d] }
  | _ => none }
def topSecondsRow : OpenClaim := { program := "ytfepmlklbapfiaagreat", sum := "975ae1b81f9f4f3ef0f250e28c1942ac069a7faaefe9c24a1e9feef2501eea26", func := "astrolabe/astrolabetop.TopSeconds", spec := "topSeconds", inPlace := ["math/bits.Add64", "math/bits.Sub64"], unfollowed := true, recurses := true, named := ["math/bits.divideError", "math/bits.overflowError"], apart := false }
def TopSecondsSaid : Prop := topSecondsRow.holds Tryz.pinned (OpenSpec.ofChange topSecondsSpec)

/-- ITS FALSE NEIGHBOUR: 'it returns false'. Refute it at one input. -/
def topSecondsWrong : ChangeSpec := { name := "topSeconds", fn := fun _ => fun
  | [d] => { results := [.lit (.bool false)], args := [d] }
  | _ => none }
def TopSecondsWrongFalsely : Prop := topSecondsRow.holds Tryz.pinned (OpenSpec.ofChange topSecondsWrong)

/- THE SECOND FORM. 'bulk': how many values and letters a reading holds, each counted each time it is reached (what is shared counts as often as it is met; a slice's spare places count too). A statement '..UptoSaid' is the law's where the arguments, and the package variables that the reading takes, are together of bulk at most 1048576: NARROWER than '..Said'. Prove '..Said' where nothing that the law and all that it calls make is longer than what came in: it says more and counts as full. Else prove '..UptoSaid'. A law counts once. -/
mutual
def uptoBulk {H : Type} : DataW H → Nat
  | .lit (.string bytes) => bytes.length + 1
  | .lit _ => 1
  | .nil => 1
  | .ptr d => uptoBulk d + 1
  | .slice elems spare => uptoBulkAll elems + uptoBulkAll spare + 1
  | .agg parts => uptoBulkAll parts + 1
  | .iface _ d => uptoBulk d + 1
  | .map entries => uptoBulkEntries entries + 1
  | .held _ => 1
def uptoBulkAll {H : Type} : List (DataW H) → Nat
  | [] => 0
  | d :: r => uptoBulk d + uptoBulkAll r
def uptoBulkEntries {H : Type} : List (Lit × DataW H) → Nat
  | [] => 0
  | x :: r => uptoBulkEntry x + uptoBulkEntries r
def uptoBulkEntry {H : Type} : Lit × DataW H → Nat
  | (.string bytes, d) => bytes.length + uptoBulk d + 1
  | (_, d) => uptoBulk d + 1
 end
def uptoSmall : (H : Type) → List (DataW H) → Bool := fun _ ds => decide (uptoBulkAll ds ≤ 1048576)
def OpenSpec.upto (s : _root_.Go.ChangeSpec) : _root_.Go.OpenSpec := { _root_.Go.OpenSpec.ofChange s with cond := some uptoSmall }

/-- 'astrolabetop.TopShaken', WHERE WHAT IT READS IS OF BULK AT MOST 1048576: true; the input reads as it did. -/
def topShakenUptoRow : OpenClaim := { program := "ytfepmlklbapfiaagreat", sum := "975ae1b81f9f4f3ef0f250e28c1942ac069a7faaefe9c24a1e9feef2501eea26", func := "astrolabe/astrolabetop.TopShaken", spec := "topShaken", inPlace := ["math/bits.Add64", "math/bits.Sub64"], unfollowed := true, recurses := true, named := ["math/bits.divideError", "math/bits.overflowError"], apart := false, narrowed := true }
def TopShakenUptoSaid : Prop := topShakenUptoRow.holds Tryz.pinned (OpenSpec.upto topShakenSpec)

/-- 'astrolabetop.TopTilted', WHERE WHAT IT READS IS OF BULK AT MOST 1048576: true; the input reads as it did. -/
def topTiltedUptoRow : OpenClaim := { program := "ytfepmlklbapfiaagreat", sum := "975ae1b81f9f4f3ef0f250e28c1942ac069a7faaefe9c24a1e9feef2501eea26", func := "astrolabe/astrolabetop.TopTilted", spec := "topTilted", inPlace := ["math/bits.Add64", "math/bits.Sub64"], unfollowed := true, recurses := true, named := ["math/bits.divideError", "math/bits.overflowError"], apart := false, narrowed := true }
def TopTiltedUptoSaid : Prop := topTiltedUptoRow.holds Tryz.pinned (OpenSpec.upto topTiltedSpec)

/-- 'astrolabetop.TopSeconds', WHERE WHAT IT READS IS OF BULK AT MOST 1048576: true; the input reads as it did. -/
def topSecondsUptoRow : OpenClaim := { program := "ytfepmlklbapfiaagreat", sum := "975ae1b81f9f4f3ef0f250e28c1942ac069a7faaefe9c24a1e9feef2501eea26", func := "astrolabe/astrolabetop.TopSeconds", spec := "topSeconds", inPlace := ["math/bits.Add64", "math/bits.Sub64"], unfollowed := true, recurses := true, named := ["math/bits.divideError", "math/bits.overflowError"], apart := false, narrowed := true }
def TopSecondsUptoSaid : Prop := topSecondsUptoRow.holds Tryz.pinned (OpenSpec.upto topSecondsSpec)

end Rows
end Go.Proofs.YtfepmlklbapfiaaGreat
