/- vector: Volume, Apply, Compose, Inverse, by the evaluator. -/
import Derived.Test.YtajjlacbodnggaaGreatB39
set_option linter.unusedVariables false
namespace Go.Am.B
open Go Go.Am.N AV

theorem is_vVol : FnIs P vector_Volume fn_vector_Volume (codeOf fn_vector_Volume) := fnIs get_vector_Volume (by kernel_rfl) (by kernel_rfl) (by kernel_rfl)
theorem is_vApply : FnIs P vector_Apply fn_vector_Apply (codeOf fn_vector_Apply) := fnIs get_vector_Apply (by kernel_rfl) (by kernel_rfl) (by kernel_rfl)
theorem is_vComp : FnIs P vector_Compose fn_vector_Compose (codeOf fn_vector_Compose) := fnIs get_vector_Compose (by kernel_rfl) (by kernel_rfl) (by kernel_rfl)
theorem is_vInv : FnIs P vector_Inverse fn_vector_Inverse (codeOf fn_vector_Inverse) := fnIs get_vector_Inverse (by kernel_rfl) (by kernel_rfl) (by kernel_rfl)
noncomputable def tVe2 : Contracts := sG :: (vector_Volume, aSpec T tVec [] 60 fn_vector_Volume) :: (vector_Apply, aSpec T tVec [] 60 fn_vector_Apply) :: tVec
noncomputable def tVe4 : Contracts := sG :: (vector_Compose, aSpec T tVe2 [] 60 fn_vector_Compose) :: (vector_Inverse, aSpec T tVe2 [18] 60 fn_vector_Inverse) :: tVe2
theorem tVe2_ok : GOK P tVe2 := gok_strict <| gok_cons (aSpec_ok hT tVec_ok hm is_vVol _ _) (gok_cons (aSpec_ok hT tVec_ok hm is_vApply _ _) tVec_ok)
theorem tVe4_ok : GOK P tVe4 := gok_strict <| gok_cons (aSpec_ok hT tVe2_ok hm is_vComp _ _) (gok_cons (aSpec_ok hT tVe2_ok hm is_vInv _ _) tVe2_ok)
end Go.Am.B
