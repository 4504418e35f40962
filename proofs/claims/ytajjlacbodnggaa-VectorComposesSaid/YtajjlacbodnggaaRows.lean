/-
  No cell of these rows narrows 'for every input' (looked for: loops, veiled, ifaces, maps, wideKeys, modest, calm, conditions, laid).
  DERIVED. THE GIVEN ROWS OF THIS SEAT. 6 by the template 'for every input the law returns true; each argument reads behind the call as it read before'; 0 by the template 'total and deterministic' (their statements: YtajjlacbodnggaaTotals.lean).
  GIVEN WITH THE SEED: the statements are not yours to turn. If you find one false, say at which input.
  Laid BY PROGRAM, IN A SANDBOX (cutbox-rows.mjs): the forced cells as the released guide's own fill.sh prints them over the translation 3c372d154739fa74… (all of the seat's roots in one cut). By AI agents, Wed Nov 11 2026. No macro, syntax, notation, axiom, sorry.
-/
import Derived.Test.YtajjlacbodnggaaChecked
import GoSem.Claim
import GoSem.ClaimJoined
import GoSem.ClaimMapViews
import Derived.JoinedTies
import Derived.KernelRfl
namespace Go.Proofs.Ytajjlacbodnggaa
/- THE CELL 'sum', in the pinned program and in every row, IS THE sha256 OF THE DUMP (.gsa) THAT YtajjlacbodnggaaProg.lean LOADS. Nothing in Lean hashes anything: it is a label: what it is worth is what the hold of that sum in a sandbox is worth. -/
noncomputable def Try.pinned : Pinned := { name := "ytajjlacbodnggaa", sum := "3c372d154739fa74629902edf86ce22efbe6317f3b9ecb02814402493bf91dfb", checked := Try.checked }
namespace Rows
def none {H : Type} : Left H := { results := [], args := [] }

/-- 'brepkernellaw04.VectorProducts': WHATEVER THE INPUT: true; the input reads as it did. -/
def vectorProductsSpec : ChangeSpec := { name := "vectorProducts", fn := fun _ => fun
  | [d] => { results := [.lit (.bool true)], args := [d] }
  | _ => none }
def vectorProductsRow : OpenClaim := { program := "ytajjlacbodnggaa", sum := "3c372d154739fa74629902edf86ce22efbe6317f3b9ecb02814402493bf91dfb", func := "brepkernel/brepkernellaw04.VectorProducts", spec := "vectorProducts", inPlace := ["math/bits.Add64"], unfollowed := true, recurses := true, apart := false }
def VectorProductsSaid : Prop := vectorProductsRow.holds Try.pinned (OpenSpec.ofChange vectorProductsSpec)

/-- ITS FALSE NEIGHBOUR: 'it returns false'. Refute it at one input. -/
def vectorProductsWrong : ChangeSpec := { name := "vectorProducts", fn := fun _ => fun
  | [d] => { results := [.lit (.bool false)], args := [d] }
  | _ => none }
def VectorProductsWrongFalsely : Prop := vectorProductsRow.holds Try.pinned (OpenSpec.ofChange vectorProductsWrong)

/-- 'brepkernellaw04.VectorSums': WHATEVER THE INPUT: true; the input reads as it did. -/
def vectorSumsSpec : ChangeSpec := { name := "vectorSums", fn := fun _ => fun
  | [d] => { results := [.lit (.bool true)], args := [d] }
  | _ => none }
def vectorSumsRow : OpenClaim := { program := "ytajjlacbodnggaa", sum := "3c372d154739fa74629902edf86ce22efbe6317f3b9ecb02814402493bf91dfb", func := "brepkernel/brepkernellaw04.VectorSums", spec := "vectorSums", inPlace := ["math/bits.Add64"], unfollowed := true, recurses := true, apart := false }
def VectorSumsSaid : Prop := vectorSumsRow.holds Try.pinned (OpenSpec.ofChange vectorSumsSpec)

/-- ITS FALSE NEIGHBOUR: 'it returns false'. Refute it at one input. -/
def vectorSumsWrong : ChangeSpec := { name := "vectorSums", fn := fun _ => fun
  | [d] => { results := [.lit (.bool false)], args := [d] }
  | _ => none }
def VectorSumsWrongFalsely : Prop := vectorSumsRow.holds Try.pinned (OpenSpec.ofChange vectorSumsWrong)

/-- 'brepkernellaw04.VectorSigns': WHATEVER THE INPUT: true; the input reads as it did. -/
def vectorSignsSpec : ChangeSpec := { name := "vectorSigns", fn := fun _ => fun
  | [d] => { results := [.lit (.bool true)], args := [d] }
  | _ => none }
def vectorSignsRow : OpenClaim := { program := "ytajjlacbodnggaa", sum := "3c372d154739fa74629902edf86ce22efbe6317f3b9ecb02814402493bf91dfb", func := "brepkernel/brepkernellaw04.VectorSigns", spec := "vectorSigns", inPlace := ["math/bits.Add64"], unfollowed := true, recurses := true, apart := false }
def VectorSignsSaid : Prop := vectorSignsRow.holds Try.pinned (OpenSpec.ofChange vectorSignsSpec)

/-- ITS FALSE NEIGHBOUR: 'it returns false'. Refute it at one input. -/
def vectorSignsWrong : ChangeSpec := { name := "vectorSigns", fn := fun _ => fun
  | [d] => { results := [.lit (.bool false)], args := [d] }
  | _ => none }
def VectorSignsWrongFalsely : Prop := vectorSignsRow.holds Try.pinned (OpenSpec.ofChange vectorSignsWrong)

/-- 'brepkernellaw04.VectorSides': WHATEVER THE INPUT: true; the input reads as it did. -/
def vectorSidesSpec : ChangeSpec := { name := "vectorSides", fn := fun _ => fun
  | [d] => { results := [.lit (.bool true)], args := [d] }
  | _ => none }
def vectorSidesRow : OpenClaim := { program := "ytajjlacbodnggaa", sum := "3c372d154739fa74629902edf86ce22efbe6317f3b9ecb02814402493bf91dfb", func := "brepkernel/brepkernellaw04.VectorSides", spec := "vectorSides", inPlace := ["math/bits.Add64"], unfollowed := true, recurses := true, apart := false }
def VectorSidesSaid : Prop := vectorSidesRow.holds Try.pinned (OpenSpec.ofChange vectorSidesSpec)

/-- ITS FALSE NEIGHBOUR: 'it returns false'. Refute it at one input. -/
def vectorSidesWrong : ChangeSpec := { name := "vectorSides", fn := fun _ => fun
  | [d] => { results := [.lit (.bool false)], args := [d] }
  | _ => none }
def VectorSidesWrongFalsely : Prop := vectorSidesRow.holds Try.pinned (OpenSpec.ofChange vectorSidesWrong)

/-- 'brepkernellaw04.VectorNearest': WHATEVER THE INPUT: true; the input reads as it did. -/
def vectorNearestSpec : ChangeSpec := { name := "vectorNearest", fn := fun _ => fun
  | [d1, d2] => { results := [.lit (.bool true)], args := [d1, d2] }
  | _ => none }
def vectorNearestRow : OpenClaim := { program := "ytajjlacbodnggaa", sum := "3c372d154739fa74629902edf86ce22efbe6317f3b9ecb02814402493bf91dfb", func := "brepkernel/brepkernellaw04.VectorNearest", spec := "vectorNearest", inPlace := ["math/bits.Add64"], unfollowed := true, recurses := true, apart := false }
def VectorNearestSaid : Prop := vectorNearestRow.holds Try.pinned (OpenSpec.ofChange vectorNearestSpec)

/-- ITS FALSE NEIGHBOUR: 'it returns false'. Refute it at one input. -/
def vectorNearestWrong : ChangeSpec := { name := "vectorNearest", fn := fun _ => fun
  | [d1, d2] => { results := [.lit (.bool false)], args := [d1, d2] }
  | _ => none }
def VectorNearestWrongFalsely : Prop := vectorNearestRow.holds Try.pinned (OpenSpec.ofChange vectorNearestWrong)

/-- 'brepkernellaw04.VectorComposes': WHATEVER THE INPUT: true; the input reads as it did. -/
def vectorComposesSpec : ChangeSpec := { name := "vectorComposes", fn := fun _ => fun
  | [d] => { results := [.lit (.bool true)], args := [d] }
  | _ => none }
def vectorComposesRow : OpenClaim := { program := "ytajjlacbodnggaa", sum := "3c372d154739fa74629902edf86ce22efbe6317f3b9ecb02814402493bf91dfb", func := "brepkernel/brepkernellaw04.VectorComposes", spec := "vectorComposes", inPlace := ["math/bits.Add64"], unfollowed := true, recurses := true, apart := false }
def VectorComposesSaid : Prop := vectorComposesRow.holds Try.pinned (OpenSpec.ofChange vectorComposesSpec)

/-- ITS FALSE NEIGHBOUR: 'it returns false'. Refute it at one input. -/
def vectorComposesWrong : ChangeSpec := { name := "vectorComposes", fn := fun _ => fun
  | [d] => { results := [.lit (.bool false)], args := [d] }
  | _ => none }
def VectorComposesWrongFalsely : Prop := vectorComposesRow.holds Try.pinned (OpenSpec.ofChange vectorComposesWrong)

/- THE SECOND FORM. 'bulk': how many values and letters a reading holds, each counted each time it is reached (what is shared counts as often as it is met; a slice's spare places count too). A statement '..UptoSaid' is the law's where the arguments, and the package variables that the reading takes, are together of bulk at most 1048576: NARROWER than '..Said'. Prove '..Said' where nothing that the law and all that it calls make is longer than what came in: it says more and counts as full. Else prove '..UptoSaid'. A law counts once. -/
mutual
def uptoBulk {H : Type} : DataW H → Nat
  | .lit (.string bytes) => bytes.length + 1
  | .lit _ => 1
  | .nil => 1
  | .ptr d => uptoBulk d + 1
  | .slice elems spare => uptoBulkAll elems + uptoBulkAll spare + 1
  | .agg parts => uptoBulkAll parts + 1
  | .iface _ d => uptoBulk d + 1
  | .map entries => uptoBulkEntries entries + 1
  | .held _ => 1
def uptoBulkAll {H : Type} : List (DataW H) → Nat
  | [] => 0
  | d :: r => uptoBulk d + uptoBulkAll r
def uptoBulkEntries {H : Type} : List (Lit × DataW H) → Nat
  | [] => 0
  | x :: r => uptoBulkEntry x + uptoBulkEntries r
def uptoBulkEntry {H : Type} : Lit × DataW H → Nat
  | (.string bytes, d) => bytes.length + uptoBulk d + 1
  | (_, d) => uptoBulk d + 1
 end
def uptoSmall : (H : Type) → List (DataW H) → Bool := fun _ ds => decide (uptoBulkAll ds ≤ 1048576)
def OpenSpec.upto (s : _root_.Go.ChangeSpec) : _root_.Go.OpenSpec := { _root_.Go.OpenSpec.ofChange s with cond := some uptoSmall }

/-- 'brepkernellaw04.VectorProducts', WHERE WHAT IT READS IS OF BULK AT MOST 1048576: true; the input reads as it did. -/
def vectorProductsUptoRow : OpenClaim := { program := "ytajjlacbodnggaa", sum := "3c372d154739fa74629902edf86ce22efbe6317f3b9ecb02814402493bf91dfb", func := "brepkernel/brepkernellaw04.VectorProducts", spec := "vectorProducts", inPlace := ["math/bits.Add64"], unfollowed := true, recurses := true, apart := false, narrowed := true }
def VectorProductsUptoSaid : Prop := vectorProductsUptoRow.holds Try.pinned (OpenSpec.upto vectorProductsSpec)

/-- 'brepkernellaw04.VectorSums', WHERE WHAT IT READS IS OF BULK AT MOST 1048576: true; the input reads as it did. -/
def vectorSumsUptoRow : OpenClaim := { program := "ytajjlacbodnggaa", sum := "3c372d154739fa74629902edf86ce22efbe6317f3b9ecb02814402493bf91dfb", func := "brepkernel/brepkernellaw04.VectorSums", spec := "vectorSums", inPlace := ["math/bits.Add64"], unfollowed := true, recurses := true, apart := false, narrowed := true }
def VectorSumsUptoSaid : Prop := vectorSumsUptoRow.holds Try.pinned (OpenSpec.upto vectorSumsSpec)

/-- 'brepkernellaw04.VectorSigns', WHERE WHAT IT READS IS OF BULK AT MOST 1048576: true; the input reads as it did. -/
def vectorSignsUptoRow : OpenClaim := { program := "ytajjlacbodnggaa", sum := "3c372d154739fa74629902edf86ce22efbe6317f3b9ecb02814402493bf91dfb", func := "brepkernel/brepkernellaw04.VectorSigns", spec := "vectorSigns", inPlace := ["math/bits.Add64"], unfollowed := true, recurses := true, apart := false, narrowed := true }
def VectorSignsUptoSaid : Prop := vectorSignsUptoRow.holds Try.pinned (OpenSpec.upto vectorSignsSpec)

/-- 'brepkernellaw04.VectorSides', WHERE WHAT IT READS IS OF BULK AT MOST 1048576: true; the input reads as it did. -/
def vectorSidesUptoRow : OpenClaim := { program := "ytajjlacbodnggaa", sum := "3c372d154739fa74629902edf86ce22efbe6317f3b9ecb02814402493bf91dfb", func := "brepkernel/brepkernellaw04.VectorSides", spec := "vectorSides", inPlace := ["math/bits.Add64"], unfollowed := true, recurses := true, apart := false, narrowed := true }
def VectorSidesUptoSaid : Prop := vectorSidesUptoRow.holds Try.pinned (OpenSpec.upto vectorSidesSpec)

/-- 'brepkernellaw04.VectorNearest', WHERE WHAT IT READS IS OF BULK AT MOST 1048576: true; the input reads as it did. -/
def vectorNearestUptoRow : OpenClaim := { program := "ytajjlacbodnggaa", sum := "3c372d154739fa74629902edf86ce22efbe6317f3b9ecb02814402493bf91dfb", func := "brepkernel/brepkernellaw04.VectorNearest", spec := "vectorNearest", inPlace := ["math/bits.Add64"], unfollowed := true, recurses := true, apart := false, narrowed := true }
def VectorNearestUptoSaid : Prop := vectorNearestUptoRow.holds Try.pinned (OpenSpec.upto vectorNearestSpec)

/-- 'brepkernellaw04.VectorComposes', WHERE WHAT IT READS IS OF BULK AT MOST 1048576: true; the input reads as it did. -/
def vectorComposesUptoRow : OpenClaim := { program := "ytajjlacbodnggaa", sum := "3c372d154739fa74629902edf86ce22efbe6317f3b9ecb02814402493bf91dfb", func := "brepkernel/brepkernellaw04.VectorComposes", spec := "vectorComposes", inPlace := ["math/bits.Add64"], unfollowed := true, recurses := true, apart := false, narrowed := true }
def VectorComposesUptoSaid : Prop := vectorComposesUptoRow.holds Try.pinned (OpenSpec.upto vectorComposesSpec)

end Rows
end Go.Proofs.Ytajjlacbodnggaa
