/-
  No cell of these rows narrows 'for every input' (looked for: loops, veiled, ifaces, maps, wideKeys, modest, calm, conditions, laid).
  DERIVED. THE GIVEN ROWS OF THIS SEAT. 3 by the template 'for every input the law returns true; each argument reads behind the call as it read before'; 0 by the template 'total and deterministic' (their statements: YtfjlccdmhpdiiaaGreatTotals.lean).
  GIVEN WITH THE SEED: the statements are not yours to turn. If you find one false, say at which input.
  Laid BY PROGRAM, IN A SANDBOX (cutbox-rows.mjs): the forced cells as the released guide's own fill.sh prints them over the translation 0188026865050629… (all of the seat's roots in one cut). By AI agents, Wed Nov 11 2026. No macro, syntax, notation, axiom, sorry.
-/
import Derived.Test.YtfjlccdmhpdiiaaGreatChecked
import GoSem.Claim
import GoSem.ClaimJoined
import GoSem.ClaimMapViews
import Derived.JoinedTies
import Derived.KernelRfl
namespace Go.Proofs.YtfjlccdmhpdiiaaGreat
/- THE CELL 'sum', in the pinned program and in every row, IS THE sha256 OF THE DUMP (.gsa) THAT YtfjlccdmhpdiiaaGreatProg.lean LOADS. Nothing in Lean hashes anything: it is a label: what it is worth is what the hold of that sum in a sandbox is worth. -/
noncomputable def Tryz.pinned : Pinned := { name := "ytfjlccdmhpdiiaagreat", sum := "018802686505062935ca7b1a2f721527b340e4b7724147fcb3b1afed76214b06", checked := Tryz.checked }
namespace Rows
def none {H : Type} : Left H := { results := [], args := [] }

/-- 'brepkernellaw12.SurfaceParts': WHATEVER THE INPUT: true; the input reads as it did. -/
def surfacePartsSpec : ChangeSpec := { name := "surfaceParts", fn := fun _ => fun
  | [d1, d2, d3, d4] => { results := [.lit (.bool true)], args := [d1, d2, d3, d4] }
  | _ => none }
def surfacePartsRow : OpenClaim := { program := "ytfjlccdmhpdiiaagreat", sum := "018802686505062935ca7b1a2f721527b340e4b7724147fcb3b1afed76214b06", func := "brepkernel/brepkernellaw12.SurfaceParts", spec := "surfaceParts", inPlace := ["math/bits.Add64", "slices.overlaps[brepkernel/api.Rat]"], unfollowed := true, recurses := true, apart := false }
def SurfacePartsSaid : Prop := surfacePartsRow.holds Tryz.pinned (OpenSpec.ofChange surfacePartsSpec)

/-- ITS FALSE NEIGHBOUR: 'it returns false'. Refute it at one input. -/
def surfacePartsWrong : ChangeSpec := { name := "surfaceParts", fn := fun _ => fun
  | [d1, d2, d3, d4] => { results := [.lit (.bool false)], args := [d1, d2, d3, d4] }
  | _ => none }
def SurfacePartsWrongFalsely : Prop := surfacePartsRow.holds Tryz.pinned (OpenSpec.ofChange surfacePartsWrong)

/-- 'brepkernellaw12.SurfaceCuts': WHATEVER THE INPUT: true; the input reads as it did. -/
def surfaceCutsSpec : ChangeSpec := { name := "surfaceCuts", fn := fun _ => fun
  | [d1, d2] => { results := [.lit (.bool true)], args := [d1, d2] }
  | _ => none }
def surfaceCutsRow : OpenClaim := { program := "ytfjlccdmhpdiiaagreat", sum := "018802686505062935ca7b1a2f721527b340e4b7724147fcb3b1afed76214b06", func := "brepkernel/brepkernellaw12.SurfaceCuts", spec := "surfaceCuts", inPlace := ["math/bits.Add64", "slices.overlaps[brepkernel/api.Rat]"], unfollowed := true, recurses := true, apart := false }
def SurfaceCutsSaid : Prop := surfaceCutsRow.holds Tryz.pinned (OpenSpec.ofChange surfaceCutsSpec)

/-- ITS FALSE NEIGHBOUR: 'it returns false'. Refute it at one input. -/
def surfaceCutsWrong : ChangeSpec := { name := "surfaceCuts", fn := fun _ => fun
  | [d1, d2] => { results := [.lit (.bool false)], args := [d1, d2] }
  | _ => none }
def SurfaceCutsWrongFalsely : Prop := surfaceCutsRow.holds Tryz.pinned (OpenSpec.ofChange surfaceCutsWrong)

/-- 'brepkernellaw12.SurfaceStays': WHATEVER THE INPUT: true; the input reads as it did. -/
def surfaceStaysSpec : ChangeSpec := { name := "surfaceStays", fn := fun _ => fun
  | [d1, d2, d3, d4] => { results := [.lit (.bool true)], args := [d1, d2, d3, d4] }
  | _ => none }
def surfaceStaysRow : OpenClaim := { program := "ytfjlccdmhpdiiaagreat", sum := "018802686505062935ca7b1a2f721527b340e4b7724147fcb3b1afed76214b06", func := "brepkernel/brepkernellaw12.SurfaceStays", spec := "surfaceStays", inPlace := ["math/bits.Add64", "slices.overlaps[brepkernel/api.Rat]"], unfollowed := true, recurses := true, apart := false }
def SurfaceStaysSaid : Prop := surfaceStaysRow.holds Tryz.pinned (OpenSpec.ofChange surfaceStaysSpec)

/-- ITS FALSE NEIGHBOUR: 'it returns false'. Refute it at one input. -/
def surfaceStaysWrong : ChangeSpec := { name := "surfaceStays", fn := fun _ => fun
  | [d1, d2, d3, d4] => { results := [.lit (.bool false)], args := [d1, d2, d3, d4] }
  | _ => none }
def SurfaceStaysWrongFalsely : Prop := surfaceStaysRow.holds Tryz.pinned (OpenSpec.ofChange surfaceStaysWrong)

/- THE SECOND FORM. 'bulk': how many values and letters a reading holds, each counted each time it is reached (what is shared counts as often as it is met; a slice's spare places count too). A statement '..UptoSaid' is the law's where the arguments, and the package variables that the reading takes, are together of bulk at most 1048576: NARROWER than '..Said'. Prove '..Said' where nothing that the law and all that it calls make is longer than what came in: it says more and counts as full. Else prove '..UptoSaid'. A law counts once. -/
mutual
def uptoBulk {H : Type} : DataW H → Nat
  | .lit (.string bytes) => bytes.length + 1
  | .lit _ => 1
  | .nil => 1
  | .ptr d => uptoBulk d + 1
  | .slice elems spare => uptoBulkAll elems + uptoBulkAll spare + 1
  | .agg parts => uptoBulkAll parts + 1
  | .iface _ d => uptoBulk d + 1
  | .map entries => uptoBulkEntries entries + 1
  | .held _ => 1
def uptoBulkAll {H : Type} : List (DataW H) → Nat
  | [] => 0
  | d :: r => uptoBulk d + uptoBulkAll r
def uptoBulkEntries {H : Type} : List (Lit × DataW H) → Nat
  | [] => 0
  | x :: r => uptoBulkEntry x + uptoBulkEntries r
def uptoBulkEntry {H : Type} : Lit × DataW H → Nat
  | (.string bytes, d) => bytes.length + uptoBulk d + 1
  | (_, d) => uptoBulk d + 1
 end
def uptoSmall : (H : Type) → List (DataW H) → Bool := fun _ ds => decide (uptoBulkAll ds ≤ 1048576)
def OpenSpec.upto (s : _root_.Go.ChangeSpec) : _root_.Go.OpenSpec := { _root_.Go.OpenSpec.ofChange s with cond := some uptoSmall }

/-- 'brepkernellaw12.SurfaceParts', WHERE WHAT IT READS IS OF BULK AT MOST 1048576: true; the input reads as it did. -/
def surfacePartsUptoRow : OpenClaim := { program := "ytfjlccdmhpdiiaagreat", sum := "018802686505062935ca7b1a2f721527b340e4b7724147fcb3b1afed76214b06", func := "brepkernel/brepkernellaw12.SurfaceParts", spec := "surfaceParts", inPlace := ["math/bits.Add64", "slices.overlaps[brepkernel/api.Rat]"], unfollowed := true, recurses := true, apart := false, narrowed := true }
def SurfacePartsUptoSaid : Prop := surfacePartsUptoRow.holds Tryz.pinned (OpenSpec.upto surfacePartsSpec)

/-- 'brepkernellaw12.SurfaceCuts', WHERE WHAT IT READS IS OF BULK AT MOST 1048576: true; the input reads as it did. -/
def surfaceCutsUptoRow : OpenClaim := { program := "ytfjlccdmhpdiiaagreat", sum := "018802686505062935ca7b1a2f721527b340e4b7724147fcb3b1afed76214b06", func := "brepkernel/brepkernellaw12.SurfaceCuts", spec := "surfaceCuts", inPlace := ["math/bits.Add64", "slices.overlaps[brepkernel/api.Rat]"], unfollowed := true, recurses := true, apart := false, narrowed := true }
def SurfaceCutsUptoSaid : Prop := surfaceCutsUptoRow.holds Tryz.pinned (OpenSpec.upto surfaceCutsSpec)

/-- 'brepkernellaw12.SurfaceStays', WHERE WHAT IT READS IS OF BULK AT MOST 1048576: true; the input reads as it did. -/
def surfaceStaysUptoRow : OpenClaim := { program := "ytfjlccdmhpdiiaagreat", sum := "018802686505062935ca7b1a2f721527b340e4b7724147fcb3b1afed76214b06", func := "brepkernel/brepkernellaw12.SurfaceStays", spec := "surfaceStays", inPlace := ["math/bits.Add64", "slices.overlaps[brepkernel/api.Rat]"], unfollowed := true, recurses := true, apart := false, narrowed := true }
def SurfaceStaysUptoSaid : Prop := surfaceStaysUptoRow.holds Tryz.pinned (OpenSpec.upto surfaceStaysSpec)

end Rows
end Go.Proofs.YtfjlccdmhpdiiaaGreat
