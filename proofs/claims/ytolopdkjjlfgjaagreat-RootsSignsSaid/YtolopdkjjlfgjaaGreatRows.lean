/-
  No cell of these rows narrows 'for every input' (looked for: loops, veiled, ifaces, maps, wideKeys, modest, calm, conditions, laid).
  DERIVED. THE GIVEN ROWS OF THIS SEAT. 8 by the template 'for every input the law returns true; each argument reads behind the call as it read before'; 0 by the template 'total and deterministic' (their statements: YtolopdkjjlfgjaaGreatTotals.lean).
  GIVEN WITH THE SEED: the statements are not yours to turn. If you find one false, say at which input.
  Laid BY PROGRAM, IN A SANDBOX (cutbox-rows.mjs): the forced cells as the released guide's own fill.sh prints them over the translation 7b6cc9f323cc7f51… (all of the seat's roots in one cut). By AI agents, Wed Nov 11 2026. No macro, syntax, notation, axiom, sorry.
-/
import Derived.Test.YtolopdkjjlfgjaaGreatChecked
import GoSem.Claim
import GoSem.ClaimJoined
import GoSem.ClaimMapViews
import Derived.JoinedTies
import Derived.KernelRfl
namespace Go.Proofs.YtolopdkjjlfgjaaGreat
/- THE CELL 'sum', in the pinned program and in every row, IS THE sha256 OF THE DUMP (.gsa) THAT YtolopdkjjlfgjaaGreatProg.lean LOADS. Nothing in Lean hashes anything: it is a label: what it is worth is what the hold of that sum in a sandbox is worth. -/
noncomputable def Tryz.pinned : Pinned := { name := "ytolopdkjjlfgjaagreat", sum := "7b6cc9f323cc7f51343d3d094e561ac7ed7469386e435edc692e7ef2922ec6a4", checked := Tryz.checked }
namespace Rows
def none {H : Type} : Left H := { results := [], args := [] }

/-- 'brepkernellaw06.RootsCounts': WHATEVER THE INPUT: true; the input reads as it did. -/
def rootsCountsSpec : ChangeSpec := { name := "rootsCounts", fn := fun _ => fun
  | [d1, d2, d3, d4] => { results := [.lit (.bool true)], args := [d1, d2, d3, d4] }
  | _ => none }
def rootsCountsRow : OpenClaim := { program := "ytolopdkjjlfgjaagreat", sum := "7b6cc9f323cc7f51343d3d094e561ac7ed7469386e435edc692e7ef2922ec6a4", func := "brepkernel/brepkernellaw06.RootsCounts", spec := "rootsCounts", inPlace := ["math/bits.Add64"], unfollowed := true, recurses := true, apart := false }
def RootsCountsSaid : Prop := rootsCountsRow.holds Tryz.pinned (OpenSpec.ofChange rootsCountsSpec)

/-- ITS FALSE NEIGHBOUR: 'it returns false'. Refute it at one input. -/
def rootsCountsWrong : ChangeSpec := { name := "rootsCounts", fn := fun _ => fun
  | [d1, d2, d3, d4] => { results := [.lit (.bool false)], args := [d1, d2, d3, d4] }
  | _ => none }
def RootsCountsWrongFalsely : Prop := rootsCountsRow.holds Tryz.pinned (OpenSpec.ofChange rootsCountsWrong)

/-- 'brepkernellaw06.RootsIsolates': WHATEVER THE INPUT: true; the input reads as it did. -/
def rootsIsolatesSpec : ChangeSpec := { name := "rootsIsolates", fn := fun _ => fun
  | [d] => { results := [.lit (.bool true)], args := [d] }
  | _ => none }
def rootsIsolatesRow : OpenClaim := { program := "ytolopdkjjlfgjaagreat", sum := "7b6cc9f323cc7f51343d3d094e561ac7ed7469386e435edc692e7ef2922ec6a4", func := "brepkernel/brepkernellaw06.RootsIsolates", spec := "rootsIsolates", inPlace := ["math/bits.Add64"], unfollowed := true, recurses := true, apart := false }
def RootsIsolatesSaid : Prop := rootsIsolatesRow.holds Tryz.pinned (OpenSpec.ofChange rootsIsolatesSpec)

/-- ITS FALSE NEIGHBOUR: 'it returns false'. Refute it at one input. -/
def rootsIsolatesWrong : ChangeSpec := { name := "rootsIsolates", fn := fun _ => fun
  | [d] => { results := [.lit (.bool false)], args := [d] }
  | _ => none }
def RootsIsolatesWrongFalsely : Prop := rootsIsolatesRow.holds Tryz.pinned (OpenSpec.ofChange rootsIsolatesWrong)

/-- 'brepkernellaw06.RootsComplete': WHATEVER THE INPUT: true; the input reads as it did. -/
def rootsCompleteSpec : ChangeSpec := { name := "rootsComplete", fn := fun _ => fun
  | [d] => { results := [.lit (.bool true)], args := [d] }
  | _ => none }
def rootsCompleteRow : OpenClaim := { program := "ytolopdkjjlfgjaagreat", sum := "7b6cc9f323cc7f51343d3d094e561ac7ed7469386e435edc692e7ef2922ec6a4", func := "brepkernel/brepkernellaw06.RootsComplete", spec := "rootsComplete", inPlace := ["math/bits.Add64"], unfollowed := true, recurses := true, apart := false }
def RootsCompleteSaid : Prop := rootsCompleteRow.holds Tryz.pinned (OpenSpec.ofChange rootsCompleteSpec)

/-- ITS FALSE NEIGHBOUR: 'it returns false'. Refute it at one input. -/
def rootsCompleteWrong : ChangeSpec := { name := "rootsComplete", fn := fun _ => fun
  | [d] => { results := [.lit (.bool false)], args := [d] }
  | _ => none }
def RootsCompleteWrongFalsely : Prop := rootsCompleteRow.holds Tryz.pinned (OpenSpec.ofChange rootsCompleteWrong)

/-- 'brepkernellaw06.RootsDivisors': WHATEVER THE INPUT: true; the input reads as it did. -/
def rootsDivisorsSpec : ChangeSpec := { name := "rootsDivisors", fn := fun _ => fun
  | [d] => { results := [.lit (.bool true)], args := [d] }
  | _ => none }
def rootsDivisorsRow : OpenClaim := { program := "ytolopdkjjlfgjaagreat", sum := "7b6cc9f323cc7f51343d3d094e561ac7ed7469386e435edc692e7ef2922ec6a4", func := "brepkernel/brepkernellaw06.RootsDivisors", spec := "rootsDivisors", inPlace := ["math/bits.Add64"], unfollowed := true, recurses := true, apart := false }
def RootsDivisorsSaid : Prop := rootsDivisorsRow.holds Tryz.pinned (OpenSpec.ofChange rootsDivisorsSpec)

/-- ITS FALSE NEIGHBOUR: 'it returns false'. Refute it at one input. -/
def rootsDivisorsWrong : ChangeSpec := { name := "rootsDivisors", fn := fun _ => fun
  | [d] => { results := [.lit (.bool false)], args := [d] }
  | _ => none }
def RootsDivisorsWrongFalsely : Prop := rootsDivisorsRow.holds Tryz.pinned (OpenSpec.ofChange rootsDivisorsWrong)

/-- 'brepkernellaw06.RootsDivides': WHATEVER THE INPUT: true; the input reads as it did. -/
def rootsDividesSpec : ChangeSpec := { name := "rootsDivides", fn := fun _ => fun
  | [d] => { results := [.lit (.bool true)], args := [d] }
  | _ => none }
def rootsDividesRow : OpenClaim := { program := "ytolopdkjjlfgjaagreat", sum := "7b6cc9f323cc7f51343d3d094e561ac7ed7469386e435edc692e7ef2922ec6a4", func := "brepkernel/brepkernellaw06.RootsDivides", spec := "rootsDivides", inPlace := ["math/bits.Add64"], unfollowed := true, recurses := true, apart := false }
def RootsDividesSaid : Prop := rootsDividesRow.holds Tryz.pinned (OpenSpec.ofChange rootsDividesSpec)

/-- ITS FALSE NEIGHBOUR: 'it returns false'. Refute it at one input. -/
def rootsDividesWrong : ChangeSpec := { name := "rootsDivides", fn := fun _ => fun
  | [d] => { results := [.lit (.bool false)], args := [d] }
  | _ => none }
def RootsDividesWrongFalsely : Prop := rootsDividesRow.holds Tryz.pinned (OpenSpec.ofChange rootsDividesWrong)

/-- 'brepkernellaw06.RootsRefines': WHATEVER THE INPUT: true; the input reads as it did. -/
def rootsRefinesSpec : ChangeSpec := { name := "rootsRefines", fn := fun _ => fun
  | [d1, d2, d3, d4] => { results := [.lit (.bool true)], args := [d1, d2, d3, d4] }
  | _ => none }
def rootsRefinesRow : OpenClaim := { program := "ytolopdkjjlfgjaagreat", sum := "7b6cc9f323cc7f51343d3d094e561ac7ed7469386e435edc692e7ef2922ec6a4", func := "brepkernel/brepkernellaw06.RootsRefines", spec := "rootsRefines", inPlace := ["math/bits.Add64"], unfollowed := true, recurses := true, apart := false }
def RootsRefinesSaid : Prop := rootsRefinesRow.holds Tryz.pinned (OpenSpec.ofChange rootsRefinesSpec)

/-- ITS FALSE NEIGHBOUR: 'it returns false'. Refute it at one input. -/
def rootsRefinesWrong : ChangeSpec := { name := "rootsRefines", fn := fun _ => fun
  | [d1, d2, d3, d4] => { results := [.lit (.bool false)], args := [d1, d2, d3, d4] }
  | _ => none }
def RootsRefinesWrongFalsely : Prop := rootsRefinesRow.holds Tryz.pinned (OpenSpec.ofChange rootsRefinesWrong)

/-- 'brepkernellaw06.RootsSigns': WHATEVER THE INPUT: true; the input reads as it did. -/
def rootsSignsSpec : ChangeSpec := { name := "rootsSigns", fn := fun _ => fun
  | [d1, d2, d3] => { results := [.lit (.bool true)], args := [d1, d2, d3] }
  | _ => none }
def rootsSignsRow : OpenClaim := { program := "ytolopdkjjlfgjaagreat", sum := "7b6cc9f323cc7f51343d3d094e561ac7ed7469386e435edc692e7ef2922ec6a4", func := "brepkernel/brepkernellaw06.RootsSigns", spec := "rootsSigns", inPlace := ["math/bits.Add64"], unfollowed := true, recurses := true, apart := false }
def RootsSignsSaid : Prop := rootsSignsRow.holds Tryz.pinned (OpenSpec.ofChange rootsSignsSpec)

/-- ITS FALSE NEIGHBOUR: 'it returns false'. Refute it at one input. -/
def rootsSignsWrong : ChangeSpec := { name := "rootsSigns", fn := fun _ => fun
  | [d1, d2, d3] => { results := [.lit (.bool false)], args := [d1, d2, d3] }
  | _ => none }
def RootsSignsWrongFalsely : Prop := rootsSignsRow.holds Tryz.pinned (OpenSpec.ofChange rootsSignsWrong)

/-- 'brepkernellaw06.RootsKnown': WHATEVER THE INPUT: true; the input reads as it did. -/
def rootsKnownSpec : ChangeSpec := { name := "rootsKnown", fn := fun _ => fun
  | [d1, d2] => { results := [.lit (.bool true)], args := [d1, d2] }
  | _ => none }
def rootsKnownRow : OpenClaim := { program := "ytolopdkjjlfgjaagreat", sum := "7b6cc9f323cc7f51343d3d094e561ac7ed7469386e435edc692e7ef2922ec6a4", func := "brepkernel/brepkernellaw06.RootsKnown", spec := "rootsKnown", inPlace := ["math/bits.Add64"], unfollowed := true, recurses := true, apart := false }
def RootsKnownSaid : Prop := rootsKnownRow.holds Tryz.pinned (OpenSpec.ofChange rootsKnownSpec)

/-- ITS FALSE NEIGHBOUR: 'it returns false'. Refute it at one input. -/
def rootsKnownWrong : ChangeSpec := { name := "rootsKnown", fn := fun _ => fun
  | [d1, d2] => { results := [.lit (.bool false)], args := [d1, d2] }
  | _ => none }
def RootsKnownWrongFalsely : Prop := rootsKnownRow.holds Tryz.pinned (OpenSpec.ofChange rootsKnownWrong)

/- THE SECOND FORM. 'bulk': how many values and letters a reading holds, each counted each time it is reached (what is shared counts as often as it is met; a slice's spare places count too). A statement '..UptoSaid' is the law's where the arguments, and the package variables that the reading takes, are together of bulk at most 1048576: NARROWER than '..Said'. Prove '..Said' where nothing that the law and all that it calls make is longer than what came in: it says more and counts as full. Else prove '..UptoSaid'. A law counts once. -/
mutual
def uptoBulk {H : Type} : DataW H → Nat
  | .lit (.string bytes) => bytes.length + 1
  | .lit _ => 1
  | .nil => 1
  | .ptr d => uptoBulk d + 1
  | .slice elems spare => uptoBulkAll elems + uptoBulkAll spare + 1
  | .agg parts => uptoBulkAll parts + 1
  | .iface _ d => uptoBulk d + 1
  | .map entries => uptoBulkEntries entries + 1
  | .held _ => 1
def uptoBulkAll {H : Type} : List (DataW H) → Nat
  | [] => 0
  | d :: r => uptoBulk d + uptoBulkAll r
def uptoBulkEntries {H : Type} : List (Lit × DataW H) → Nat
  | [] => 0
  | x :: r => uptoBulkEntry x + uptoBulkEntries r
def uptoBulkEntry {H : Type} : Lit × DataW H → Nat
  | (.string bytes, d) => bytes.length + uptoBulk d + 1
  | (_, d) => uptoBulk d + 1
 end
def uptoSmall : (H : Type) → List (DataW H) → Bool := fun _ ds => decide (uptoBulkAll ds ≤ 1048576)
def OpenSpec.upto (s : _root_.Go.ChangeSpec) : _root_.Go.OpenSpec := { _root_.Go.OpenSpec.ofChange s with cond := some uptoSmall }

/-- 'brepkernellaw06.RootsCounts', WHERE WHAT IT READS IS OF BULK AT MOST 1048576: true; the input reads as it did. -/
def rootsCountsUptoRow : OpenClaim := { program := "ytolopdkjjlfgjaagreat", sum := "7b6cc9f323cc7f51343d3d094e561ac7ed7469386e435edc692e7ef2922ec6a4", func := "brepkernel/brepkernellaw06.RootsCounts", spec := "rootsCounts", inPlace := ["math/bits.Add64"], unfollowed := true, recurses := true, apart := false, narrowed := true }
def RootsCountsUptoSaid : Prop := rootsCountsUptoRow.holds Tryz.pinned (OpenSpec.upto rootsCountsSpec)

/-- 'brepkernellaw06.RootsIsolates', WHERE WHAT IT READS IS OF BULK AT MOST 1048576: true; the input reads as it did. -/
def rootsIsolatesUptoRow : OpenClaim := { program := "ytolopdkjjlfgjaagreat", sum := "7b6cc9f323cc7f51343d3d094e561ac7ed7469386e435edc692e7ef2922ec6a4", func := "brepkernel/brepkernellaw06.RootsIsolates", spec := "rootsIsolates", inPlace := ["math/bits.Add64"], unfollowed := true, recurses := true, apart := false, narrowed := true }
def RootsIsolatesUptoSaid : Prop := rootsIsolatesUptoRow.holds Tryz.pinned (OpenSpec.upto rootsIsolatesSpec)

/-- 'brepkernellaw06.RootsComplete', WHERE WHAT IT READS IS OF BULK AT MOST 1048576: true; the input reads as it did. -/
def rootsCompleteUptoRow : OpenClaim := { program := "ytolopdkjjlfgjaagreat", sum := "7b6cc9f323cc7f51343d3d094e561ac7ed7469386e435edc692e7ef2922ec6a4", func := "brepkernel/brepkernellaw06.RootsComplete", spec := "rootsComplete", inPlace := ["math/bits.Add64"], unfollowed := true, recurses := true, apart := false, narrowed := true }
def RootsCompleteUptoSaid : Prop := rootsCompleteUptoRow.holds Tryz.pinned (OpenSpec.upto rootsCompleteSpec)

/-- 'brepkernellaw06.RootsDivisors', WHERE WHAT IT READS IS OF BULK AT MOST 1048576: true; the input reads as it did. -/
def rootsDivisorsUptoRow : OpenClaim := { program := "ytolopdkjjlfgjaagreat", sum := "7b6cc9f323cc7f51343d3d094e561ac7ed7469386e435edc692e7ef2922ec6a4", func := "brepkernel/brepkernellaw06.RootsDivisors", spec := "rootsDivisors", inPlace := ["math/bits.Add64"], unfollowed := true, recurses := true, apart := false, narrowed := true }
def RootsDivisorsUptoSaid : Prop := rootsDivisorsUptoRow.holds Tryz.pinned (OpenSpec.upto rootsDivisorsSpec)

/-- 'brepkernellaw06.RootsDivides', WHERE WHAT IT READS IS OF BULK AT MOST 1048576: true; the input reads as it did. -/
def rootsDividesUptoRow : OpenClaim := { program := "ytolopdkjjlfgjaagreat", sum := "7b6cc9f323cc7f51343d3d094e561ac7ed7469386e435edc692e7ef2922ec6a4", func := "brepkernel/brepkernellaw06.RootsDivides", spec := "rootsDivides", inPlace := ["math/bits.Add64"], unfollowed := true, recurses := true, apart := false, narrowed := true }
def RootsDividesUptoSaid : Prop := rootsDividesUptoRow.holds Tryz.pinned (OpenSpec.upto rootsDividesSpec)

/-- 'brepkernellaw06.RootsRefines', WHERE WHAT IT READS IS OF BULK AT MOST 1048576: true; the input reads as it did. -/
def rootsRefinesUptoRow : OpenClaim := { program := "ytolopdkjjlfgjaagreat", sum := "7b6cc9f323cc7f51343d3d094e561ac7ed7469386e435edc692e7ef2922ec6a4", func := "brepkernel/brepkernellaw06.RootsRefines", spec := "rootsRefines", inPlace := ["math/bits.Add64"], unfollowed := true, recurses := true, apart := false, narrowed := true }
def RootsRefinesUptoSaid : Prop := rootsRefinesUptoRow.holds Tryz.pinned (OpenSpec.upto rootsRefinesSpec)

/-- 'brepkernellaw06.RootsSigns', WHERE WHAT IT READS IS OF BULK AT MOST 1048576: true; the input reads as it did. -/
def rootsSignsUptoRow : OpenClaim := { program := "ytolopdkjjlfgjaagreat", sum := "7b6cc9f323cc7f51343d3d094e561ac7ed7469386e435edc692e7ef2922ec6a4", func := "brepkernel/brepkernellaw06.RootsSigns", spec := "rootsSigns", inPlace := ["math/bits.Add64"], unfollowed := true, recurses := true, apart := false, narrowed := true }
def RootsSignsUptoSaid : Prop := rootsSignsUptoRow.holds Tryz.pinned (OpenSpec.upto rootsSignsSpec)

/-- 'brepkernellaw06.RootsKnown', WHERE WHAT IT READS IS OF BULK AT MOST 1048576: true; the input reads as it did. -/
def rootsKnownUptoRow : OpenClaim := { program := "ytolopdkjjlfgjaagreat", sum := "7b6cc9f323cc7f51343d3d094e561ac7ed7469386e435edc692e7ef2922ec6a4", func := "brepkernel/brepkernellaw06.RootsKnown", spec := "rootsKnown", inPlace := ["math/bits.Add64"], unfollowed := true, recurses := true, apart := false, narrowed := true }
def RootsKnownUptoSaid : Prop := rootsKnownUptoRow.holds Tryz.pinned (OpenSpec.upto rootsKnownSpec)

end Rows
end Go.Proofs.YtolopdkjjlfgjaaGreat
