/-
  No cell of these rows narrows 'for every input' (looked for: loops, veiled, ifaces, maps, wideKeys, modest, calm, conditions, laid).
  DERIVED. THE GIVEN ROWS OF THIS SEAT. 3 by the template 'for every input the law returns true; each argument reads behind the call as it read before'; 0 by the template 'total and deterministic' (their statements: YtnocdkaonpdmjaaTotals.lean).
  GIVEN WITH THE SEED: the statements are not yours to turn. If you find one false, say at which input.
  Laid BY PROGRAM, IN A SANDBOX (cutbox-rows.mjs): the forced cells as the released guide's own fill.sh prints them over the translation 95abf2785fd78f40… (all of the seat's roots in one cut). By AI agents, Wed Nov 11 2026. No macro, syntax, notation, axiom, sorry.
-/
import Derived.Test.YtnocdkaonpdmjaaChecked
import GoSem.Claim
import GoSem.ClaimJoined
import GoSem.ClaimMapViews
import Derived.JoinedTies
import Derived.KernelRfl
namespace Go.Proofs.Ytnocdkaonpdmjaa
/- THE CELL 'sum', in the pinned program and in every row, IS THE sha256 OF THE DUMP (.gsa) THAT YtnocdkaonpdmjaaProg.lean LOADS. Nothing in Lean hashes anything: it is a label: what it is worth is what the hold of that sum in a sandbox is worth. -/
noncomputable def Try.pinned : Pinned := { name := "ytnocdkaonpdmjaa", sum := "95abf2785fd78f408b9df3bbd42e0cbceccf21551604a876402934f18c790748", checked := Try.checked }
namespace Rows
def none {H : Type} : Left H := { results := [], args := [] }

/-- 'brepkernellaw08.KnotsChanges': WHATEVER THE INPUT: true; the input reads as it did. -/
def knotsChangesSpec : ChangeSpec := { name := "knotsChanges", fn := fun _ => fun
  | [d1, d2, d3] => { results := [.lit (.bool true)], args := [d1, d2, d3] }
  | _ => none }
def knotsChangesRow : OpenClaim := { program := "ytnocdkaonpdmjaa", sum := "95abf2785fd78f408b9df3bbd42e0cbceccf21551604a876402934f18c790748", func := "brepkernel/brepkernellaw08.KnotsChanges", spec := "knotsChanges", inPlace := ["math/bits.Add64"], unfollowed := true, recurses := true, apart := false }
def KnotsChangesSaid : Prop := knotsChangesRow.holds Try.pinned (OpenSpec.ofChange knotsChangesSpec)

/-- ITS FALSE NEIGHBOUR: 'it returns false'. Refute it at one input. -/
def knotsChangesWrong : ChangeSpec := { name := "knotsChanges", fn := fun _ => fun
  | [d1, d2, d3] => { results := [.lit (.bool false)], args := [d1, d2, d3] }
  | _ => none }
def KnotsChangesWrongFalsely : Prop := knotsChangesRow.holds Try.pinned (OpenSpec.ofChange knotsChangesWrong)

/-- 'brepkernellaw08.KnotsReads': WHATEVER THE INPUT: true; the input reads as it did. -/
def knotsReadsSpec : ChangeSpec := { name := "knotsReads", fn := fun _ => fun
  | [d1, d2, d3] => { results := [.lit (.bool true)], args := [d1, d2, d3] }
  | _ => none }
def knotsReadsRow : OpenClaim := { program := "ytnocdkaonpdmjaa", sum := "95abf2785fd78f408b9df3bbd42e0cbceccf21551604a876402934f18c790748", func := "brepkernel/brepkernellaw08.KnotsReads", spec := "knotsReads", inPlace := ["math/bits.Add64", "slices.overlaps[brepkernel/api.Rat]"], unfollowed := true, recurses := true, apart := false }
def KnotsReadsSaid : Prop := knotsReadsRow.holds Try.pinned (OpenSpec.ofChange knotsReadsSpec)

/-- ITS FALSE NEIGHBOUR: 'it returns false'. Refute it at one input. -/
def knotsReadsWrong : ChangeSpec := { name := "knotsReads", fn := fun _ => fun
  | [d1, d2, d3] => { results := [.lit (.bool false)], args := [d1, d2, d3] }
  | _ => none }
def KnotsReadsWrongFalsely : Prop := knotsReadsRow.holds Try.pinned (OpenSpec.ofChange knotsReadsWrong)

/-- 'brepkernellaw08.KnotsStay': WHATEVER THE INPUT: true; the input reads as it did. -/
def knotsStaySpec : ChangeSpec := { name := "knotsStay", fn := fun _ => fun
  | [d1, d2] => { results := [.lit (.bool true)], args := [d1, d2] }
  | _ => none }
def knotsStayRow : OpenClaim := { program := "ytnocdkaonpdmjaa", sum := "95abf2785fd78f408b9df3bbd42e0cbceccf21551604a876402934f18c790748", func := "brepkernel/brepkernellaw08.KnotsStay", spec := "knotsStay", inPlace := ["math/bits.Add64", "slices.overlaps[brepkernel/api.Rat]"], unfollowed := true, recurses := true, apart := false }
def KnotsStaySaid : Prop := knotsStayRow.holds Try.pinned (OpenSpec.ofChange knotsStaySpec)

/-- ITS FALSE NEIGHBOUR: 'it returns false'. Refute it at one input. -/
def knotsStayWrong : ChangeSpec := { name := "knotsStay", fn := fun _ => fun
  | [d1, d2] => { results := [.lit (.bool false)], args := [d1, d2] }
  | _ => none }
def KnotsStayWrongFalsely : Prop := knotsStayRow.holds Try.pinned (OpenSpec.ofChange knotsStayWrong)

/- THE SECOND FORM. 'bulk': how many values and letters a reading holds, each counted each time it is reached (what is shared counts as often as it is met; a slice's spare places count too). A statement '..UptoSaid' is the law's where the arguments, and the package variables that the reading takes, are together of bulk at most 1048576: NARROWER than '..Said'. Prove '..Said' where nothing that the law and all that it calls make is longer than what came in: it says more and counts as full. Else prove '..UptoSaid'. A law counts once. -/
mutual
def uptoBulk {H : Type} : DataW H → Nat
  | .lit (.string bytes) => bytes.length + 1
  | .lit _ => 1
  | .nil => 1
  | .ptr d => uptoBulk d + 1
  | .slice elems spare => uptoBulkAll elems + uptoBulkAll spare + 1
  | .agg parts => uptoBulkAll parts + 1
  | .iface _ d => uptoBulk d + 1
  | .map entries => uptoBulkEntries entries + 1
  | .held _ => 1
def uptoBulkAll {H : Type} : List (DataW H) → Nat
  | [] => 0
  | d :: r => uptoBulk d + uptoBulkAll r
def uptoBulkEntries {H : Type} : List (Lit × DataW H) → Nat
  | [] => 0
  | x :: r => uptoBulkEntry x + uptoBulkEntries r
def uptoBulkEntry {H : Type} : Lit × DataW H → Nat
  | (.string bytes, d) => bytes.length + uptoBulk d + 1
  | (_, d) => uptoBulk d + 1
 end
def uptoSmall : (H : Type) → List (DataW H) → Bool := fun _ ds => decide (uptoBulkAll ds ≤ 1048576)
def OpenSpec.upto (s : _root_.Go.ChangeSpec) : _root_.Go.OpenSpec := { _root_.Go.OpenSpec.ofChange s with cond := some uptoSmall }

/-- 'brepkernellaw08.KnotsChanges', WHERE WHAT IT READS IS OF BULK AT MOST 1048576: true; the input reads as it did. -/
def knotsChangesUptoRow : OpenClaim := { program := "ytnocdkaonpdmjaa", sum := "95abf2785fd78f408b9df3bbd42e0cbceccf21551604a876402934f18c790748", func := "brepkernel/brepkernellaw08.KnotsChanges", spec := "knotsChanges", inPlace := ["math/bits.Add64"], unfollowed := true, recurses := true, apart := false, narrowed := true }
def KnotsChangesUptoSaid : Prop := knotsChangesUptoRow.holds Try.pinned (OpenSpec.upto knotsChangesSpec)

/-- 'brepkernellaw08.KnotsReads', WHERE WHAT IT READS IS OF BULK AT MOST 1048576: true; the input reads as it did. -/
def knotsReadsUptoRow : OpenClaim := { program := "ytnocdkaonpdmjaa", sum := "95abf2785fd78f408b9df3bbd42e0cbceccf21551604a876402934f18c790748", func := "brepkernel/brepkernellaw08.KnotsReads", spec := "knotsReads", inPlace := ["math/bits.Add64", "slices.overlaps[brepkernel/api.Rat]"], unfollowed := true, recurses := true, apart := false, narrowed := true }
def KnotsReadsUptoSaid : Prop := knotsReadsUptoRow.holds Try.pinned (OpenSpec.upto knotsReadsSpec)

/-- 'brepkernellaw08.KnotsStay', WHERE WHAT IT READS IS OF BULK AT MOST 1048576: true; the input reads as it did. -/
def knotsStayUptoRow : OpenClaim := { program := "ytnocdkaonpdmjaa", sum := "95abf2785fd78f408b9df3bbd42e0cbceccf21551604a876402934f18c790748", func := "brepkernel/brepkernellaw08.KnotsStay", spec := "knotsStay", inPlace := ["math/bits.Add64", "slices.overlaps[brepkernel/api.Rat]"], unfollowed := true, recurses := true, apart := false, narrowed := true }
def KnotsStayUptoSaid : Prop := knotsStayUptoRow.holds Try.pinned (OpenSpec.upto knotsStaySpec)

end Rows
end Go.Proofs.Ytnocdkaonpdmjaa
