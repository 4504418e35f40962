/-
  No cell of these rows narrows 'for every input' (looked for: loops, veiled, ifaces, maps, wideKeys, modest, calm, conditions, laid).
  DERIVED. THE GIVEN ROWS OF THIS SEAT. 6 by the template 'for every input the law returns true; each argument reads behind the call as it read before'; 0 by the template 'total and deterministic' (their statements: YtppeigelbecpbaaGreatTotals.lean).
  GIVEN WITH THE SEED: the statements are not yours to turn. If you find one false, say at which input.
  Laid BY PROGRAM, IN A SANDBOX (cutbox-rows.mjs): the forced cells as the released guide's own fill.sh prints them over the translation 004a67b381378246… (all of the seat's roots in one cut). By AI agents, Wed Nov 11 2026. No macro, syntax, notation, axiom, sorry.
-/
import Derived.Test.YtppeigelbecpbaaGreatChecked
import GoSem.Claim
import GoSem.ClaimJoined
import GoSem.ClaimMapViews
import Derived.JoinedTies
import Derived.KernelRfl
namespace Go.Proofs.YtppeigelbecpbaaGreat
/- THE CELL 'sum', in the pinned program and in every row, IS THE sha256 OF THE DUMP (.gsa) THAT YtppeigelbecpbaaGreatProg.lean LOADS. Nothing in Lean hashes anything: it is a label: what it is worth is what the hold of that sum in a sandbox is worth. -/
noncomputable def Tryz.pinned : Pinned := { name := "ytppeigelbecpbaagreat", sum := "004a67b381378246975209c9018bf6b173fd558c761343ddd62cc74fb21e8201", checked := Tryz.checked }
namespace Rows
def none {H : Type} : Left H := { results := [], args := [] }

/-- 'brepkernellaw12.SurfaceEvals': WHATEVER THE INPUT: true; the input reads as it did. -/
def surfaceEvalsSpec : ChangeSpec := { name := "surfaceEvals", fn := fun _ => fun
  | [d1, d2, d3, d4] => { results := [.lit (.bool true)], args := [d1, d2, d3, d4] }
  | _ => none }
def surfaceEvalsRow : OpenClaim := { program := "ytppeigelbecpbaagreat", sum := "004a67b381378246975209c9018bf6b173fd558c761343ddd62cc74fb21e8201", func := "brepkernel/brepkernellaw12.SurfaceEvals", spec := "surfaceEvals", inPlace := ["math/bits.Add64"], unfollowed := true, recurses := true, apart := false }
def SurfaceEvalsSaid : Prop := surfaceEvalsRow.holds Tryz.pinned (OpenSpec.ofChange surfaceEvalsSpec)

/-- ITS FALSE NEIGHBOUR: 'it returns false'. Refute it at one input. -/
def surfaceEvalsWrong : ChangeSpec := { name := "surfaceEvals", fn := fun _ => fun
  | [d1, d2, d3, d4] => { results := [.lit (.bool false)], args := [d1, d2, d3, d4] }
  | _ => none }
def SurfaceEvalsWrongFalsely : Prop := surfaceEvalsRow.holds Tryz.pinned (OpenSpec.ofChange surfaceEvalsWrong)

/-- 'brepkernellaw10.CurveInserts': WHATEVER THE INPUT: true; the input reads as it did. -/
def curveInsertsSpec : ChangeSpec := { name := "curveInserts", fn := fun _ => fun
  | [d1, d2, d3] => { results := [.lit (.bool true)], args := [d1, d2, d3] }
  | _ => none }
def curveInsertsRow : OpenClaim := { program := "ytppeigelbecpbaagreat", sum := "004a67b381378246975209c9018bf6b173fd558c761343ddd62cc74fb21e8201", func := "brepkernel/brepkernellaw10.CurveInserts", spec := "curveInserts", inPlace := ["math/bits.Add64", "slices.overlaps[brepkernel/api.Rat]"], unfollowed := true, recurses := true, apart := false }
def CurveInsertsSaid : Prop := curveInsertsRow.holds Tryz.pinned (OpenSpec.ofChange curveInsertsSpec)

/-- ITS FALSE NEIGHBOUR: 'it returns false'. Refute it at one input. -/
def curveInsertsWrong : ChangeSpec := { name := "curveInserts", fn := fun _ => fun
  | [d1, d2, d3] => { results := [.lit (.bool false)], args := [d1, d2, d3] }
  | _ => none }
def CurveInsertsWrongFalsely : Prop := curveInsertsRow.holds Tryz.pinned (OpenSpec.ofChange curveInsertsWrong)

/-- 'brepkernellaw10.CurveFull': WHATEVER THE INPUT: true; the input reads as it did. -/
def curveFullSpec : ChangeSpec := { name := "curveFull", fn := fun _ => fun
  | [d] => { results := [.lit (.bool true)], args := [d] }
  | _ => none }
def curveFullRow : OpenClaim := { program := "ytppeigelbecpbaagreat", sum := "004a67b381378246975209c9018bf6b173fd558c761343ddd62cc74fb21e8201", func := "brepkernel/brepkernellaw10.CurveFull", spec := "curveFull", inPlace := ["math/bits.Add64", "slices.overlaps[brepkernel/api.Rat]"], unfollowed := true, recurses := true, apart := false }
def CurveFullSaid : Prop := curveFullRow.holds Tryz.pinned (OpenSpec.ofChange curveFullSpec)

/-- ITS FALSE NEIGHBOUR: 'it returns false'. Refute it at one input. -/
def curveFullWrong : ChangeSpec := { name := "curveFull", fn := fun _ => fun
  | [d] => { results := [.lit (.bool false)], args := [d] }
  | _ => none }
def CurveFullWrongFalsely : Prop := curveFullRow.holds Tryz.pinned (OpenSpec.ofChange curveFullWrong)

/-- 'brepkernellaw10.CurveElevates': WHATEVER THE INPUT: true; the input reads as it did. -/
def curveElevatesSpec : ChangeSpec := { name := "curveElevates", fn := fun _ => fun
  | [d] => { results := [.lit (.bool true)], args := [d] }
  | _ => none }
def curveElevatesRow : OpenClaim := { program := "ytppeigelbecpbaagreat", sum := "004a67b381378246975209c9018bf6b173fd558c761343ddd62cc74fb21e8201", func := "brepkernel/brepkernellaw10.CurveElevates", spec := "curveElevates", inPlace := ["math/bits.Add64", "slices.overlaps[brepkernel/api.Rat]"], unfollowed := true, recurses := true, apart := false }
def CurveElevatesSaid : Prop := curveElevatesRow.holds Tryz.pinned (OpenSpec.ofChange curveElevatesSpec)

/-- ITS FALSE NEIGHBOUR: 'it returns false'. Refute it at one input. -/
def curveElevatesWrong : ChangeSpec := { name := "curveElevates", fn := fun _ => fun
  | [d] => { results := [.lit (.bool false)], args := [d] }
  | _ => none }
def CurveElevatesWrongFalsely : Prop := curveElevatesRow.holds Tryz.pinned (OpenSpec.ofChange curveElevatesWrong)

/-- 'brepkernellaw10.CurveMoves': WHATEVER THE INPUT: true; the input reads as it did. -/
def curveMovesSpec : ChangeSpec := { name := "curveMoves", fn := fun _ => fun
  | [d1, d2, d3, d4] => { results := [.lit (.bool true)], args := [d1, d2, d3, d4] }
  | _ => none }
def curveMovesRow : OpenClaim := { program := "ytppeigelbecpbaagreat", sum := "004a67b381378246975209c9018bf6b173fd558c761343ddd62cc74fb21e8201", func := "brepkernel/brepkernellaw10.CurveMoves", spec := "curveMoves", inPlace := ["math/bits.Add64", "slices.overlaps[brepkernel/api.Rat]"], unfollowed := true, recurses := true, apart := false }
def CurveMovesSaid : Prop := curveMovesRow.holds Tryz.pinned (OpenSpec.ofChange curveMovesSpec)

/-- ITS FALSE NEIGHBOUR: 'it returns false'. Refute it at one input. -/
def curveMovesWrong : ChangeSpec := { name := "curveMoves", fn := fun _ => fun
  | [d1, d2, d3, d4] => { results := [.lit (.bool false)], args := [d1, d2, d3, d4] }
  | _ => none }
def CurveMovesWrongFalsely : Prop := curveMovesRow.holds Tryz.pinned (OpenSpec.ofChange curveMovesWrong)

/-- 'brepkernellaw10.CurveCommutes': WHATEVER THE INPUT: true; the input reads as it did. -/
def curveCommutesSpec : ChangeSpec := { name := "curveCommutes", fn := fun _ => fun
  | [d1, d2] => { results := [.lit (.bool true)], args := [d1, d2] }
  | _ => none }
def curveCommutesRow : OpenClaim := { program := "ytppeigelbecpbaagreat", sum := "004a67b381378246975209c9018bf6b173fd558c761343ddd62cc74fb21e8201", func := "brepkernel/brepkernellaw10.CurveCommutes", spec := "curveCommutes", inPlace := ["math/bits.Add64", "slices.overlaps[brepkernel/api.Rat]"], unfollowed := true, recurses := true, apart := false }
def CurveCommutesSaid : Prop := curveCommutesRow.holds Tryz.pinned (OpenSpec.ofChange curveCommutesSpec)

/-- ITS FALSE NEIGHBOUR: 'it returns false'. Refute it at one input. -/
def curveCommutesWrong : ChangeSpec := { name := "curveCommutes", fn := fun _ => fun
  | [d1, d2] => { results := [.lit (.bool false)], args := [d1, d2] }
  | _ => none }
def CurveCommutesWrongFalsely : Prop := curveCommutesRow.holds Tryz.pinned (OpenSpec.ofChange curveCommutesWrong)

/- THE SECOND FORM. 'bulk': how many values and letters a reading holds, each counted each time it is reached (what is shared counts as often as it is met; a slice's spare places count too). A statement '..UptoSaid' is the law's where the arguments, and the package variables that the reading takes, are together of bulk at most 1048576: NARROWER than '..Said'. Prove '..Said' where nothing that the law and all that it calls make is longer than what came in: it says more and counts as full. Else prove '..UptoSaid'. A law counts once. -/
mutual
def uptoBulk {H : Type} : DataW H → Nat
  | .lit (.string bytes) => bytes.length + 1
  | .lit _ => 1
  | .nil => 1
  | .ptr d => uptoBulk d + 1
  | .slice elems spare => uptoBulkAll elems + uptoBulkAll spare + 1
  | .agg parts => uptoBulkAll parts + 1
  | .iface _ d => uptoBulk d + 1
  | .map entries => uptoBulkEntries entries + 1
  | .held _ => 1
def uptoBulkAll {H : Type} : List (DataW H) → Nat
  | [] => 0
  | d :: r => uptoBulk d + uptoBulkAll r
def uptoBulkEntries {H : Type} : List (Lit × DataW H) → Nat
  | [] => 0
  | x :: r => uptoBulkEntry x + uptoBulkEntries r
def uptoBulkEntry {H : Type} : Lit × DataW H → Nat
  | (.string bytes, d) => bytes.length + uptoBulk d + 1
  | (_, d) => uptoBulk d + 1
 end
def uptoSmall : (H : Type) → List (DataW H) → Bool := fun _ ds => decide (uptoBulkAll ds ≤ 1048576)
def OpenSpec.upto (s : _root_.Go.ChangeSpec) : _root_.Go.OpenSpec := { _root_.Go.OpenSpec.ofChange s with cond := some uptoSmall }

/-- 'brepkernellaw12.SurfaceEvals', WHERE WHAT IT READS IS OF BULK AT MOST 1048576: true; the input reads as it did. -/
def surfaceEvalsUptoRow : OpenClaim := { program := "ytppeigelbecpbaagreat", sum := "004a67b381378246975209c9018bf6b173fd558c761343ddd62cc74fb21e8201", func := "brepkernel/brepkernellaw12.SurfaceEvals", spec := "surfaceEvals", inPlace := ["math/bits.Add64"], unfollowed := true, recurses := true, apart := false, narrowed := true }
def SurfaceEvalsUptoSaid : Prop := surfaceEvalsUptoRow.holds Tryz.pinned (OpenSpec.upto surfaceEvalsSpec)

/-- 'brepkernellaw10.CurveInserts', WHERE WHAT IT READS IS OF BULK AT MOST 1048576: true; the input reads as it did. -/
def curveInsertsUptoRow : OpenClaim := { program := "ytppeigelbecpbaagreat", sum := "004a67b381378246975209c9018bf6b173fd558c761343ddd62cc74fb21e8201", func := "brepkernel/brepkernellaw10.CurveInserts", spec := "curveInserts", inPlace := ["math/bits.Add64", "slices.overlaps[brepkernel/api.Rat]"], unfollowed := true, recurses := true, apart := false, narrowed := true }
def CurveInsertsUptoSaid : Prop := curveInsertsUptoRow.holds Tryz.pinned (OpenSpec.upto curveInsertsSpec)

/-- 'brepkernellaw10.CurveFull', WHERE WHAT IT READS IS OF BULK AT MOST 1048576: true; the input reads as it did. -/
def curveFullUptoRow : OpenClaim := { program := "ytppeigelbecpbaagreat", sum := "004a67b381378246975209c9018bf6b173fd558c761343ddd62cc74fb21e8201", func := "brepkernel/brepkernellaw10.CurveFull", spec := "curveFull", inPlace := ["math/bits.Add64", "slices.overlaps[brepkernel/api.Rat]"], unfollowed := true, recurses := true, apart := false, narrowed := true }
def CurveFullUptoSaid : Prop := curveFullUptoRow.holds Tryz.pinned (OpenSpec.upto curveFullSpec)

/-- 'brepkernellaw10.CurveElevates', WHERE WHAT IT READS IS OF BULK AT MOST 1048576: true; the input reads as it did. -/
def curveElevatesUptoRow : OpenClaim := { program := "ytppeigelbecpbaagreat", sum := "004a67b381378246975209c9018bf6b173fd558c761343ddd62cc74fb21e8201", func := "brepkernel/brepkernellaw10.CurveElevates", spec := "curveElevates", inPlace := ["math/bits.Add64", "slices.overlaps[brepkernel/api.Rat]"], unfollowed := true, recurses := true, apart := false, narrowed := true }
def CurveElevatesUptoSaid : Prop := curveElevatesUptoRow.holds Tryz.pinned (OpenSpec.upto curveElevatesSpec)

/-- 'brepkernellaw10.CurveMoves', WHERE WHAT IT READS IS OF BULK AT MOST 1048576: true; the input reads as it did. -/
def curveMovesUptoRow : OpenClaim := { program := "ytppeigelbecpbaagreat", sum := "004a67b381378246975209c9018bf6b173fd558c761343ddd62cc74fb21e8201", func := "brepkernel/brepkernellaw10.CurveMoves", spec := "curveMoves", inPlace := ["math/bits.Add64", "slices.overlaps[brepkernel/api.Rat]"], unfollowed := true, recurses := true, apart := false, narrowed := true }
def CurveMovesUptoSaid : Prop := curveMovesUptoRow.holds Tryz.pinned (OpenSpec.upto curveMovesSpec)

/-- 'brepkernellaw10.CurveCommutes', WHERE WHAT IT READS IS OF BULK AT MOST 1048576: true; the input reads as it did. -/
def curveCommutesUptoRow : OpenClaim := { program := "ytppeigelbecpbaagreat", sum := "004a67b381378246975209c9018bf6b173fd558c761343ddd62cc74fb21e8201", func := "brepkernel/brepkernellaw10.CurveCommutes", spec := "curveCommutes", inPlace := ["math/bits.Add64", "slices.overlaps[brepkernel/api.Rat]"], unfollowed := true, recurses := true, apart := false, narrowed := true }
def CurveCommutesUptoSaid : Prop := curveCommutesUptoRow.holds Tryz.pinned (OpenSpec.upto curveCommutesSpec)

end Rows
end Go.Proofs.YtppeigelbecpbaaGreat
