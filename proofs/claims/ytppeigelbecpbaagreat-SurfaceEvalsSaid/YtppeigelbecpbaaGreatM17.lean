/- brepkernellaw10.CurveEvals. -/
import Derived.Test.YtppeigelbecpbaaGreatY49
import Derived.Test.YtppeigelbecpbaaGreatY48
set_option linter.unusedVariables false
namespace Go.Am.B
open Go Go.Am.N AV aa aj IntKind
abbrev gB (z:Nat→Int):Nat→AV:=fun i=>.int .i64 (z i)
noncomputable def NI:aS:=[(Nz,fL T (sG::rK) [] 60 JR)]
noncomputable def Hl:aS:=[(I4,fL T (sG::NI) [] 60 NK)]
noncomputable def FD:aS:=[(Gq,fL T (sG::rK) [] 60 J8)]
theorem Zn:aW P NI:=aD (fU hT (ji um) hm (aP Ry (by kernel_rfl) (by kernel_rfl) (by kernel_rfl)) _ _) aX
theorem Yk:aW P Hl:=aD (fU hT (ji Zn) hm (aP PY (by kernel_rfl) (by kernel_rfl) (by kernel_rfl)) _ _) aX
theorem YN:aW P FD:=aD (fU hT (ji um) hm (aP TA (by kernel_rfl) (by kernel_rfl) (by kernel_rfl)) _ _) aX
theorem Kn.LK {n p:Nat} {k:Nat→Rat} (h:Kn n p k):k 0≤k (n-1):=h.mono (show 0≤n-1 by omega) (by have:=h.len;omega)
end Go.Am.B
