/-
  No cell of these rows narrows 'for every input' (looked for: loops, veiled, ifaces, maps, wideKeys, modest, calm, conditions, laid).
  DERIVED. THE GIVEN ROWS OF THIS SEAT. 7 by the template 'for every input the law returns true; each argument reads behind the call as it read before'; 0 by the template 'total and deterministic' (their statements: YtbghpkgbokbmlaaGreatTotals.lean).
  GIVEN WITH THE SEED: the statements are not yours to turn. If you find one false, say at which input.
  Laid BY PROGRAM, IN A SANDBOX (cutbox-rows.mjs): the forced cells as the released guide's own fill.sh prints them over the translation 5d614f6005433183… (all of the seat's roots in one cut). By AI agents, Wed Nov 11 2026. No macro, syntax, notation, axiom, sorry.
-/
import Derived.Test.YtbghpkgbokbmlaaGreatChecked
import GoSem.Claim
import GoSem.ClaimJoined
import GoSem.ClaimMapViews
import Derived.JoinedTies
import Derived.KernelRfl
namespace Go.Proofs.YtbghpkgbokbmlaaGreat
/- THE CELL 'sum', in the pinned program and in every row, IS THE sha256 OF THE DUMP (.gsa) THAT YtbghpkgbokbmlaaGreatProg.lean LOADS. Nothing in Lean hashes anything: it is a label: what it is worth is what the hold of that sum in a sandbox is worth. -/
noncomputable def Tryz.pinned : Pinned := { name := "ytbghpkgbokbmlaagreat", sum := "5d614f6005433183868f14c889f246775847800d04c2312b6afbeecaacc4ef3b", checked := Tryz.checked }
namespace Rows
def none {H : Type} : Left H := { results := [], args := [] }

/-- 'brepkernellaw14.ShapesRevolved': WHATEVER THE INPUT: true; the input reads as it did. -/
def shapesRevolvedSpec : ChangeSpec := { name := "shapesRevolved", fn := fun _ => fun
  | [d1, d2, d3, d4] => { results := [.lit (.bool true)], args := [d1, d2, d3, d4] }
  | _ => none }
def shapesRevolvedRow : OpenClaim := { program := "ytbghpkgbokbmlaagreat", sum := "5d614f6005433183868f14c889f246775847800d04c2312b6afbeecaacc4ef3b", func := "brepkernel/brepkernellaw14.ShapesRevolved", spec := "shapesRevolved", inPlace := ["math/bits.Add64"], unfollowed := true, recurses := true, apart := false }
def ShapesRevolvedSaid : Prop := shapesRevolvedRow.holds Tryz.pinned (OpenSpec.ofChange shapesRevolvedSpec)

/-- ITS FALSE NEIGHBOUR: 'it returns false'. Refute it at one input. -/
def shapesRevolvedWrong : ChangeSpec := { name := "shapesRevolved", fn := fun _ => fun
  | [d1, d2, d3, d4] => { results := [.lit (.bool false)], args := [d1, d2, d3, d4] }
  | _ => none }
def ShapesRevolvedWrongFalsely : Prop := shapesRevolvedRow.holds Tryz.pinned (OpenSpec.ofChange shapesRevolvedWrong)

/-- 'brepkernellaw14.ShapesTurns': WHATEVER THE INPUT: true; the input reads as it did. -/
def shapesTurnsSpec : ChangeSpec := { name := "shapesTurns", fn := fun _ => fun
  | [d1, d2, d3, d4] => { results := [.lit (.bool true)], args := [d1, d2, d3, d4] }
  | _ => none }
def shapesTurnsRow : OpenClaim := { program := "ytbghpkgbokbmlaagreat", sum := "5d614f6005433183868f14c889f246775847800d04c2312b6afbeecaacc4ef3b", func := "brepkernel/brepkernellaw14.ShapesTurns", spec := "shapesTurns", inPlace := ["math/bits.Add64"], unfollowed := true, recurses := true, apart := false }
def ShapesTurnsSaid : Prop := shapesTurnsRow.holds Tryz.pinned (OpenSpec.ofChange shapesTurnsSpec)

/-- ITS FALSE NEIGHBOUR: 'it returns false'. Refute it at one input. -/
def shapesTurnsWrong : ChangeSpec := { name := "shapesTurns", fn := fun _ => fun
  | [d1, d2, d3, d4] => { results := [.lit (.bool false)], args := [d1, d2, d3, d4] }
  | _ => none }
def ShapesTurnsWrongFalsely : Prop := shapesTurnsRow.holds Tryz.pinned (OpenSpec.ofChange shapesTurnsWrong)

/-- 'brepkernellaw14.ShapesCircles': WHATEVER THE INPUT: true; the input reads as it did. -/
def shapesCirclesSpec : ChangeSpec := { name := "shapesCircles", fn := fun _ => fun
  | [d1, d2] => { results := [.lit (.bool true)], args := [d1, d2] }
  | _ => none }
def shapesCirclesRow : OpenClaim := { program := "ytbghpkgbokbmlaagreat", sum := "5d614f6005433183868f14c889f246775847800d04c2312b6afbeecaacc4ef3b", func := "brepkernel/brepkernellaw14.ShapesCircles", spec := "shapesCircles", inPlace := ["math/bits.Add64"], unfollowed := true, recurses := true, apart := false }
def ShapesCirclesSaid : Prop := shapesCirclesRow.holds Tryz.pinned (OpenSpec.ofChange shapesCirclesSpec)

/-- ITS FALSE NEIGHBOUR: 'it returns false'. Refute it at one input. -/
def shapesCirclesWrong : ChangeSpec := { name := "shapesCircles", fn := fun _ => fun
  | [d1, d2] => { results := [.lit (.bool false)], args := [d1, d2] }
  | _ => none }
def ShapesCirclesWrongFalsely : Prop := shapesCirclesRow.holds Tryz.pinned (OpenSpec.ofChange shapesCirclesWrong)

/-- 'brepkernellaw14.ShapesCurves': WHATEVER THE INPUT: true; the input reads as it did. -/
def shapesCurvesSpec : ChangeSpec := { name := "shapesCurves", fn := fun _ => fun
  | [d1, d2] => { results := [.lit (.bool true)], args := [d1, d2] }
  | _ => none }
def shapesCurvesRow : OpenClaim := { program := "ytbghpkgbokbmlaagreat", sum := "5d614f6005433183868f14c889f246775847800d04c2312b6afbeecaacc4ef3b", func := "brepkernel/brepkernellaw14.ShapesCurves", spec := "shapesCurves", inPlace := ["math/bits.Add64"], unfollowed := true, recurses := true, apart := false }
def ShapesCurvesSaid : Prop := shapesCurvesRow.holds Tryz.pinned (OpenSpec.ofChange shapesCurvesSpec)

/-- ITS FALSE NEIGHBOUR: 'it returns false'. Refute it at one input. -/
def shapesCurvesWrong : ChangeSpec := { name := "shapesCurves", fn := fun _ => fun
  | [d1, d2] => { results := [.lit (.bool false)], args := [d1, d2] }
  | _ => none }
def ShapesCurvesWrongFalsely : Prop := shapesCurvesRow.holds Tryz.pinned (OpenSpec.ofChange shapesCurvesWrong)

/-- 'brepkernellaw14.ShapesSurfaces': WHATEVER THE INPUT: true; the input reads as it did. -/
def shapesSurfacesSpec : ChangeSpec := { name := "shapesSurfaces", fn := fun _ => fun
  | [d1, d2, d3] => { results := [.lit (.bool true)], args := [d1, d2, d3] }
  | _ => none }
def shapesSurfacesRow : OpenClaim := { program := "ytbghpkgbokbmlaagreat", sum := "5d614f6005433183868f14c889f246775847800d04c2312b6afbeecaacc4ef3b", func := "brepkernel/brepkernellaw14.ShapesSurfaces", spec := "shapesSurfaces", inPlace := ["math/bits.Add64"], unfollowed := true, recurses := true, apart := false }
def ShapesSurfacesSaid : Prop := shapesSurfacesRow.holds Tryz.pinned (OpenSpec.ofChange shapesSurfacesSpec)

/-- ITS FALSE NEIGHBOUR: 'it returns false'. Refute it at one input. -/
def shapesSurfacesWrong : ChangeSpec := { name := "shapesSurfaces", fn := fun _ => fun
  | [d1, d2, d3] => { results := [.lit (.bool false)], args := [d1, d2, d3] }
  | _ => none }
def ShapesSurfacesWrongFalsely : Prop := shapesSurfacesRow.holds Tryz.pinned (OpenSpec.ofChange shapesSurfacesWrong)

/-- 'brepkernellaw14.ShapesSwept': WHATEVER THE INPUT: true; the input reads as it did. -/
def shapesSweptSpec : ChangeSpec := { name := "shapesSwept", fn := fun _ => fun
  | [d1, d2, d3] => { results := [.lit (.bool true)], args := [d1, d2, d3] }
  | _ => none }
def shapesSweptRow : OpenClaim := { program := "ytbghpkgbokbmlaagreat", sum := "5d614f6005433183868f14c889f246775847800d04c2312b6afbeecaacc4ef3b", func := "brepkernel/brepkernellaw14.ShapesSwept", spec := "shapesSwept", inPlace := ["math/bits.Add64"], unfollowed := true, recurses := true, apart := false }
def ShapesSweptSaid : Prop := shapesSweptRow.holds Tryz.pinned (OpenSpec.ofChange shapesSweptSpec)

/-- ITS FALSE NEIGHBOUR: 'it returns false'. Refute it at one input. -/
def shapesSweptWrong : ChangeSpec := { name := "shapesSwept", fn := fun _ => fun
  | [d1, d2, d3] => { results := [.lit (.bool false)], args := [d1, d2, d3] }
  | _ => none }
def ShapesSweptWrongFalsely : Prop := shapesSweptRow.holds Tryz.pinned (OpenSpec.ofChange shapesSweptWrong)

/-- 'brepkernellaw22.TraceCells': WHATEVER THE INPUT: true; the input reads as it did. -/
def traceCellsSpec : ChangeSpec := { name := "traceCells", fn := fun _ => fun
  | [d] => { results := [.lit (.bool true)], args := [d] }
  | _ => none }
def traceCellsRow : OpenClaim := { program := "ytbghpkgbokbmlaagreat", sum := "5d614f6005433183868f14c889f246775847800d04c2312b6afbeecaacc4ef3b", func := "brepkernel/brepkernellaw22.TraceCells", spec := "traceCells", unfollowed := true, recurses := true, apart := false }
def TraceCellsSaid : Prop := traceCellsRow.holds Tryz.pinned (OpenSpec.ofChange traceCellsSpec)

/-- ITS FALSE NEIGHBOUR: 'it returns false'. Refute it at one input. -/
def traceCellsWrong : ChangeSpec := { name := "traceCells", fn := fun _ => fun
  | [d] => { results := [.lit (.bool false)], args := [d] }
  | _ => none }
def TraceCellsWrongFalsely : Prop := traceCellsRow.holds Tryz.pinned (OpenSpec.ofChange traceCellsWrong)

/- THE SECOND FORM. 'bulk': how many values and letters a reading holds, each counted each time it is reached (what is shared counts as often as it is met; a slice's spare places count too). A statement '..UptoSaid' is the law's where the arguments, and the package variables that the reading takes, are together of bulk at most 1048576: NARROWER than '..Said'. Prove '..Said' where nothing that the law and all that it calls make is longer than what came in: it says more and counts as full. Else prove '..UptoSaid'. A law counts once. -/
mutual
def uptoBulk {H : Type} : DataW H → Nat
  | .lit (.string bytes) => bytes.length + 1
  | .lit _ => 1
  | .nil => 1
  | .ptr d => uptoBulk d + 1
  | .slice elems spare => uptoBulkAll elems + uptoBulkAll spare + 1
  | .agg parts => uptoBulkAll parts + 1
  | .iface _ d => uptoBulk d + 1
  | .map entries => uptoBulkEntries entries + 1
  | .held _ => 1
def uptoBulkAll {H : Type} : List (DataW H) → Nat
  | [] => 0
  | d :: r => uptoBulk d + uptoBulkAll r
def uptoBulkEntries {H : Type} : List (Lit × DataW H) → Nat
  | [] => 0
  | x :: r => uptoBulkEntry x + uptoBulkEntries r
def uptoBulkEntry {H : Type} : Lit × DataW H → Nat
  | (.string bytes, d) => bytes.length + uptoBulk d + 1
  | (_, d) => uptoBulk d + 1
 end
def uptoSmall : (H : Type) → List (DataW H) → Bool := fun _ ds => decide (uptoBulkAll ds ≤ 1048576)
def OpenSpec.upto (s : _root_.Go.ChangeSpec) : _root_.Go.OpenSpec := { _root_.Go.OpenSpec.ofChange s with cond := some uptoSmall }

/-- 'brepkernellaw14.ShapesRevolved', WHERE WHAT IT READS IS OF BULK AT MOST 1048576: true; the input reads as it did. -/
def shapesRevolvedUptoRow : OpenClaim := { program := "ytbghpkgbokbmlaagreat", sum := "5d614f6005433183868f14c889f246775847800d04c2312b6afbeecaacc4ef3b", func := "brepkernel/brepkernellaw14.ShapesRevolved", spec := "shapesRevolved", inPlace := ["math/bits.Add64"], unfollowed := true, recurses := true, apart := false, narrowed := true }
def ShapesRevolvedUptoSaid : Prop := shapesRevolvedUptoRow.holds Tryz.pinned (OpenSpec.upto shapesRevolvedSpec)

/-- 'brepkernellaw14.ShapesTurns', WHERE WHAT IT READS IS OF BULK AT MOST 1048576: true; the input reads as it did. -/
def shapesTurnsUptoRow : OpenClaim := { program := "ytbghpkgbokbmlaagreat", sum := "5d614f6005433183868f14c889f246775847800d04c2312b6afbeecaacc4ef3b", func := "brepkernel/brepkernellaw14.ShapesTurns", spec := "shapesTurns", inPlace := ["math/bits.Add64"], unfollowed := true, recurses := true, apart := false, narrowed := true }
def ShapesTurnsUptoSaid : Prop := shapesTurnsUptoRow.holds Tryz.pinned (OpenSpec.upto shapesTurnsSpec)

/-- 'brepkernellaw14.ShapesCircles', WHERE WHAT IT READS IS OF BULK AT MOST 1048576: true; the input reads as it did. -/
def shapesCirclesUptoRow : OpenClaim := { program := "ytbghpkgbokbmlaagreat", sum := "5d614f6005433183868f14c889f246775847800d04c2312b6afbeecaacc4ef3b", func := "brepkernel/brepkernellaw14.ShapesCircles", spec := "shapesCircles", inPlace := ["math/bits.Add64"], unfollowed := true, recurses := true, apart := false, narrowed := true }
def ShapesCirclesUptoSaid : Prop := shapesCirclesUptoRow.holds Tryz.pinned (OpenSpec.upto shapesCirclesSpec)

/-- 'brepkernellaw14.ShapesCurves', WHERE WHAT IT READS IS OF BULK AT MOST 1048576: true; the input reads as it did. -/
def shapesCurvesUptoRow : OpenClaim := { program := "ytbghpkgbokbmlaagreat", sum := "5d614f6005433183868f14c889f246775847800d04c2312b6afbeecaacc4ef3b", func := "brepkernel/brepkernellaw14.ShapesCurves", spec := "shapesCurves", inPlace := ["math/bits.Add64"], unfollowed := true, recurses := true, apart := false, narrowed := true }
def ShapesCurvesUptoSaid : Prop := shapesCurvesUptoRow.holds Tryz.pinned (OpenSpec.upto shapesCurvesSpec)

/-- 'brepkernellaw14.ShapesSurfaces', WHERE WHAT IT READS IS OF BULK AT MOST 1048576: true; the input reads as it did. -/
def shapesSurfacesUptoRow : OpenClaim := { program := "ytbghpkgbokbmlaagreat", sum := "5d614f6005433183868f14c889f246775847800d04c2312b6afbeecaacc4ef3b", func := "brepkernel/brepkernellaw14.ShapesSurfaces", spec := "shapesSurfaces", inPlace := ["math/bits.Add64"], unfollowed := true, recurses := true, apart := false, narrowed := true }
def ShapesSurfacesUptoSaid : Prop := shapesSurfacesUptoRow.holds Tryz.pinned (OpenSpec.upto shapesSurfacesSpec)

/-- 'brepkernellaw14.ShapesSwept', WHERE WHAT IT READS IS OF BULK AT MOST 1048576: true; the input reads as it did. -/
def shapesSweptUptoRow : OpenClaim := { program := "ytbghpkgbokbmlaagreat", sum := "5d614f6005433183868f14c889f246775847800d04c2312b6afbeecaacc4ef3b", func := "brepkernel/brepkernellaw14.ShapesSwept", spec := "shapesSwept", inPlace := ["math/bits.Add64"], unfollowed := true, recurses := true, apart := false, narrowed := true }
def ShapesSweptUptoSaid : Prop := shapesSweptUptoRow.holds Tryz.pinned (OpenSpec.upto shapesSweptSpec)

/-- 'brepkernellaw22.TraceCells', WHERE WHAT IT READS IS OF BULK AT MOST 1048576: true; the input reads as it did. -/
def traceCellsUptoRow : OpenClaim := { program := "ytbghpkgbokbmlaagreat", sum := "5d614f6005433183868f14c889f246775847800d04c2312b6afbeecaacc4ef3b", func := "brepkernel/brepkernellaw22.TraceCells", spec := "traceCells", unfollowed := true, recurses := true, apart := false, narrowed := true }
def TraceCellsUptoSaid : Prop := traceCellsUptoRow.holds Tryz.pinned (OpenSpec.upto traceCellsSpec)

end Rows
end Go.Proofs.YtbghpkgbokbmlaaGreat
