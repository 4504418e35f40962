/-
  No cell of these rows narrows 'for every input' (looked for: loops, veiled, ifaces, maps, wideKeys, modest, calm, conditions, laid).
  DERIVED. THE GIVEN ROWS OF THIS SEAT. 6 by the template 'for every input the law returns true; each argument reads behind the call as it read before'; 0 by the template 'total and deterministic' (their statements: YtnniljlepppdpaaGreatTotals.lean).
  GIVEN WITH THE SEED: the statements are not yours to turn. If you find one false, say at which input.
  Laid BY PROGRAM, IN A SANDBOX (cutbox-rows.mjs): the forced cells as the released guide's own fill.sh prints them over the translation ebf8137b46d20212… (all of the seat's roots in one cut). By AI agents, Wed Nov 11 2026. No macro, syntax, notation, axiom, sorry.
-/
import Derived.Test.YtnniljlepppdpaaGreatChecked
import GoSem.Claim
import GoSem.ClaimJoined
import GoSem.ClaimMapViews
import Derived.JoinedTies
import Derived.KernelRfl
namespace Go.Proofs.YtnniljlepppdpaaGreat
/- THE CELL 'sum', in the pinned program and in every row, IS THE sha256 OF THE DUMP (.gsa) THAT YtnniljlepppdpaaGreatProg.lean LOADS. Nothing in Lean hashes anything: it is a label: what it is worth is what the hold of that sum in a sandbox is worth. -/
noncomputable def Tryz.pinned : Pinned := { name := "ytnniljlepppdpaagreat", sum := "ebf8137b46d202122c7ba9c98133dbfbb5d347efd0a81a3da82831feb75c1a36", checked := Tryz.checked }
namespace Rows
def none {H : Type} : Left H := { results := [], args := [] }

/-- 'brepkernellaw10.CurveStays': WHATEVER THE INPUT: true; the input reads as it did. -/
def curveStaysSpec : ChangeSpec := { name := "curveStays", fn := fun _ => fun
  | [d1, d2, d3] => { results := [.lit (.bool true)], args := [d1, d2, d3] }
  | _ => none }
def curveStaysRow : OpenClaim := { program := "ytnniljlepppdpaagreat", sum := "ebf8137b46d202122c7ba9c98133dbfbb5d347efd0a81a3da82831feb75c1a36", func := "brepkernel/brepkernellaw10.CurveStays", spec := "curveStays", inPlace := ["math/bits.Add64", "slices.overlaps[brepkernel/api.Rat]"], unfollowed := true, recurses := true, apart := false }
def CurveStaysSaid : Prop := curveStaysRow.holds Tryz.pinned (OpenSpec.ofChange curveStaysSpec)

/-- ITS FALSE NEIGHBOUR: 'it returns false'. Refute it at one input. -/
def curveStaysWrong : ChangeSpec := { name := "curveStays", fn := fun _ => fun
  | [d1, d2, d3] => { results := [.lit (.bool false)], args := [d1, d2, d3] }
  | _ => none }
def CurveStaysWrongFalsely : Prop := curveStaysRow.holds Tryz.pinned (OpenSpec.ofChange curveStaysWrong)

/-- 'brepkernellaw10.CurvePieces': WHATEVER THE INPUT: true; the input reads as it did. -/
def curvePiecesSpec : ChangeSpec := { name := "curvePieces", fn := fun _ => fun
  | [d1, d2] => { results := [.lit (.bool true)], args := [d1, d2] }
  | _ => none }
def curvePiecesRow : OpenClaim := { program := "ytnniljlepppdpaagreat", sum := "ebf8137b46d202122c7ba9c98133dbfbb5d347efd0a81a3da82831feb75c1a36", func := "brepkernel/brepkernellaw10.CurvePieces", spec := "curvePieces", inPlace := ["math/bits.Add64", "slices.overlaps[brepkernel/api.Rat]"], unfollowed := true, recurses := true, apart := false }
def CurvePiecesSaid : Prop := curvePiecesRow.holds Tryz.pinned (OpenSpec.ofChange curvePiecesSpec)

/-- ITS FALSE NEIGHBOUR: 'it returns false'. Refute it at one input. -/
def curvePiecesWrong : ChangeSpec := { name := "curvePieces", fn := fun _ => fun
  | [d1, d2] => { results := [.lit (.bool false)], args := [d1, d2] }
  | _ => none }
def CurvePiecesWrongFalsely : Prop := curvePiecesRow.holds Tryz.pinned (OpenSpec.ofChange curvePiecesWrong)

/-- 'brepkernellaw12.SurfaceChanges': WHATEVER THE INPUT: true; the input reads as it did. -/
def surfaceChangesSpec : ChangeSpec := { name := "surfaceChanges", fn := fun _ => fun
  | [d1, d2, d3] => { results := [.lit (.bool true)], args := [d1, d2, d3] }
  | _ => none }
def surfaceChangesRow : OpenClaim := { program := "ytnniljlepppdpaagreat", sum := "ebf8137b46d202122c7ba9c98133dbfbb5d347efd0a81a3da82831feb75c1a36", func := "brepkernel/brepkernellaw12.SurfaceChanges", spec := "surfaceChanges", inPlace := ["math/bits.Add64", "slices.overlaps[brepkernel/api.Rat]"], unfollowed := true, recurses := true, apart := false }
def SurfaceChangesSaid : Prop := surfaceChangesRow.holds Tryz.pinned (OpenSpec.ofChange surfaceChangesSpec)

/-- ITS FALSE NEIGHBOUR: 'it returns false'. Refute it at one input. -/
def surfaceChangesWrong : ChangeSpec := { name := "surfaceChanges", fn := fun _ => fun
  | [d1, d2, d3] => { results := [.lit (.bool false)], args := [d1, d2, d3] }
  | _ => none }
def SurfaceChangesWrongFalsely : Prop := surfaceChangesRow.holds Tryz.pinned (OpenSpec.ofChange surfaceChangesWrong)

/-- 'brepkernellaw12.SurfaceParts': WHATEVER THE INPUT: true; the input reads as it did. -/
def surfacePartsSpec : ChangeSpec := { name := "surfaceParts", fn := fun _ => fun
  | [d1, d2, d3, d4] => { results := [.lit (.bool true)], args := [d1, d2, d3, d4] }
  | _ => none }
def surfacePartsRow : OpenClaim := { program := "ytnniljlepppdpaagreat", sum := "ebf8137b46d202122c7ba9c98133dbfbb5d347efd0a81a3da82831feb75c1a36", func := "brepkernel/brepkernellaw12.SurfaceParts", spec := "surfaceParts", inPlace := ["math/bits.Add64", "slices.overlaps[brepkernel/api.Rat]"], unfollowed := true, recurses := true, apart := false }
def SurfacePartsSaid : Prop := surfacePartsRow.holds Tryz.pinned (OpenSpec.ofChange surfacePartsSpec)

/-- ITS FALSE NEIGHBOUR: 'it returns false'. Refute it at one input. -/
def surfacePartsWrong : ChangeSpec := { name := "surfaceParts", fn := fun _ => fun
  | [d1, d2, d3, d4] => { results := [.lit (.bool false)], args := [d1, d2, d3, d4] }
  | _ => none }
def SurfacePartsWrongFalsely : Prop := surfacePartsRow.holds Tryz.pinned (OpenSpec.ofChange surfacePartsWrong)

/-- 'brepkernellaw12.SurfaceStays': WHATEVER THE INPUT: true; the input reads as it did. -/
def surfaceStaysSpec : ChangeSpec := { name := "surfaceStays", fn := fun _ => fun
  | [d1, d2, d3, d4] => { results := [.lit (.bool true)], args := [d1, d2, d3, d4] }
  | _ => none }
def surfaceStaysRow : OpenClaim := { program := "ytnniljlepppdpaagreat", sum := "ebf8137b46d202122c7ba9c98133dbfbb5d347efd0a81a3da82831feb75c1a36", func := "brepkernel/brepkernellaw12.SurfaceStays", spec := "surfaceStays", inPlace := ["math/bits.Add64", "slices.overlaps[brepkernel/api.Rat]"], unfollowed := true, recurses := true, apart := false }
def SurfaceStaysSaid : Prop := surfaceStaysRow.holds Tryz.pinned (OpenSpec.ofChange surfaceStaysSpec)

/-- ITS FALSE NEIGHBOUR: 'it returns false'. Refute it at one input. -/
def surfaceStaysWrong : ChangeSpec := { name := "surfaceStays", fn := fun _ => fun
  | [d1, d2, d3, d4] => { results := [.lit (.bool false)], args := [d1, d2, d3, d4] }
  | _ => none }
def SurfaceStaysWrongFalsely : Prop := surfaceStaysRow.holds Tryz.pinned (OpenSpec.ofChange surfaceStaysWrong)

/-- 'brepkernellaw12.SurfaceCuts': WHATEVER THE INPUT: true; the input reads as it did. -/
def surfaceCutsSpec : ChangeSpec := { name := "surfaceCuts", fn := fun _ => fun
  | [d1, d2] => { results := [.lit (.bool true)], args := [d1, d2] }
  | _ => none }
def surfaceCutsRow : OpenClaim := { program := "ytnniljlepppdpaagreat", sum := "ebf8137b46d202122c7ba9c98133dbfbb5d347efd0a81a3da82831feb75c1a36", func := "brepkernel/brepkernellaw12.SurfaceCuts", spec := "surfaceCuts", inPlace := ["math/bits.Add64", "slices.overlaps[brepkernel/api.Rat]"], unfollowed := true, recurses := true, apart := false }
def SurfaceCutsSaid : Prop := surfaceCutsRow.holds Tryz.pinned (OpenSpec.ofChange surfaceCutsSpec)

/-- ITS FALSE NEIGHBOUR: 'it returns false'. Refute it at one input. -/
def surfaceCutsWrong : ChangeSpec := { name := "surfaceCuts", fn := fun _ => fun
  | [d1, d2] => { results := [.lit (.bool false)], args := [d1, d2] }
  | _ => none }
def SurfaceCutsWrongFalsely : Prop := surfaceCutsRow.holds Tryz.pinned (OpenSpec.ofChange surfaceCutsWrong)

/- THE SECOND FORM. 'bulk': how many values and letters a reading holds, each counted each time it is reached (what is shared counts as often as it is met; a slice's spare places count too). A statement '..UptoSaid' is the law's where the arguments, and the package variables that the reading takes, are together of bulk at most 1048576: NARROWER than '..Said'. Prove '..Said' where nothing that the law and all that it calls make is longer than what came in: it says more and counts as full. Else prove '..UptoSaid'. A law counts once. -/
mutual
def uptoBulk {H : Type} : DataW H → Nat
  | .lit (.string bytes) => bytes.length + 1
  | .lit _ => 1
  | .nil => 1
  | .ptr d => uptoBulk d + 1
  | .slice elems spare => uptoBulkAll elems + uptoBulkAll spare + 1
  | .agg parts => uptoBulkAll parts + 1
  | .iface _ d => uptoBulk d + 1
  | .map entries => uptoBulkEntries entries + 1
  | .held _ => 1
def uptoBulkAll {H : Type} : List (DataW H) → Nat
  | [] => 0
  | d :: r => uptoBulk d + uptoBulkAll r
def uptoBulkEntries {H : Type} : List (Lit × DataW H) → Nat
  | [] => 0
  | x :: r => uptoBulkEntry x + uptoBulkEntries r
def uptoBulkEntry {H : Type} : Lit × DataW H → Nat
  | (.string bytes, d) => bytes.length + uptoBulk d + 1
  | (_, d) => uptoBulk d + 1
 end
def uptoSmall : (H : Type) → List (DataW H) → Bool := fun _ ds => decide (uptoBulkAll ds ≤ 1048576)
def OpenSpec.upto (s : _root_.Go.ChangeSpec) : _root_.Go.OpenSpec := { _root_.Go.OpenSpec.ofChange s with cond := some uptoSmall }

/-- 'brepkernellaw10.CurveStays', WHERE WHAT IT READS IS OF BULK AT MOST 1048576: true; the input reads as it did. -/
def curveStaysUptoRow : OpenClaim := { program := "ytnniljlepppdpaagreat", sum := "ebf8137b46d202122c7ba9c98133dbfbb5d347efd0a81a3da82831feb75c1a36", func := "brepkernel/brepkernellaw10.CurveStays", spec := "curveStays", inPlace := ["math/bits.Add64", "slices.overlaps[brepkernel/api.Rat]"], unfollowed := true, recurses := true, apart := false, narrowed := true }
def CurveStaysUptoSaid : Prop := curveStaysUptoRow.holds Tryz.pinned (OpenSpec.upto curveStaysSpec)

/-- 'brepkernellaw10.CurvePieces', WHERE WHAT IT READS IS OF BULK AT MOST 1048576: true; the input reads as it did. -/
def curvePiecesUptoRow : OpenClaim := { program := "ytnniljlepppdpaagreat", sum := "ebf8137b46d202122c7ba9c98133dbfbb5d347efd0a81a3da82831feb75c1a36", func := "brepkernel/brepkernellaw10.CurvePieces", spec := "curvePieces", inPlace := ["math/bits.Add64", "slices.overlaps[brepkernel/api.Rat]"], unfollowed := true, recurses := true, apart := false, narrowed := true }
def CurvePiecesUptoSaid : Prop := curvePiecesUptoRow.holds Tryz.pinned (OpenSpec.upto curvePiecesSpec)

/-- 'brepkernellaw12.SurfaceChanges', WHERE WHAT IT READS IS OF BULK AT MOST 1048576: true; the input reads as it did. -/
def surfaceChangesUptoRow : OpenClaim := { program := "ytnniljlepppdpaagreat", sum := "ebf8137b46d202122c7ba9c98133dbfbb5d347efd0a81a3da82831feb75c1a36", func := "brepkernel/brepkernellaw12.SurfaceChanges", spec := "surfaceChanges", inPlace := ["math/bits.Add64", "slices.overlaps[brepkernel/api.Rat]"], unfollowed := true, recurses := true, apart := false, narrowed := true }
def SurfaceChangesUptoSaid : Prop := surfaceChangesUptoRow.holds Tryz.pinned (OpenSpec.upto surfaceChangesSpec)

/-- 'brepkernellaw12.SurfaceParts', WHERE WHAT IT READS IS OF BULK AT MOST 1048576: true; the input reads as it did. -/
def surfacePartsUptoRow : OpenClaim := { program := "ytnniljlepppdpaagreat", sum := "ebf8137b46d202122c7ba9c98133dbfbb5d347efd0a81a3da82831feb75c1a36", func := "brepkernel/brepkernellaw12.SurfaceParts", spec := "surfaceParts", inPlace := ["math/bits.Add64", "slices.overlaps[brepkernel/api.Rat]"], unfollowed := true, recurses := true, apart := false, narrowed := true }
def SurfacePartsUptoSaid : Prop := surfacePartsUptoRow.holds Tryz.pinned (OpenSpec.upto surfacePartsSpec)

/-- 'brepkernellaw12.SurfaceStays', WHERE WHAT IT READS IS OF BULK AT MOST 1048576: true; the input reads as it did. -/
def surfaceStaysUptoRow : OpenClaim := { program := "ytnniljlepppdpaagreat", sum := "ebf8137b46d202122c7ba9c98133dbfbb5d347efd0a81a3da82831feb75c1a36", func := "brepkernel/brepkernellaw12.SurfaceStays", spec := "surfaceStays", inPlace := ["math/bits.Add64", "slices.overlaps[brepkernel/api.Rat]"], unfollowed := true, recurses := true, apart := false, narrowed := true }
def SurfaceStaysUptoSaid : Prop := surfaceStaysUptoRow.holds Tryz.pinned (OpenSpec.upto surfaceStaysSpec)

/-- 'brepkernellaw12.SurfaceCuts', WHERE WHAT IT READS IS OF BULK AT MOST 1048576: true; the input reads as it did. -/
def surfaceCutsUptoRow : OpenClaim := { program := "ytnniljlepppdpaagreat", sum := "ebf8137b46d202122c7ba9c98133dbfbb5d347efd0a81a3da82831feb75c1a36", func := "brepkernel/brepkernellaw12.SurfaceCuts", spec := "surfaceCuts", inPlace := ["math/bits.Add64", "slices.overlaps[brepkernel/api.Rat]"], unfollowed := true, recurses := true, apart := false, narrowed := true }
def SurfaceCutsUptoSaid : Prop := surfaceCutsUptoRow.holds Tryz.pinned (OpenSpec.upto surfaceCutsSpec)

end Rows
end Go.Proofs.YtnniljlepppdpaaGreat
