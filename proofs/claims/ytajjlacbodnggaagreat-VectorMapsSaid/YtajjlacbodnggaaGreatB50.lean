/- The laws VectorMaps, VectorBoxes: what they have in common. -/
import Derived.Test.YtajjlacbodnggaaGreatB38
import Derived.Test.YtajjlacbodnggaaGreatB44
import Derived.Test.YtajjlacbodnggaaGreatB47
import Derived.Test.YtajjlacbodnggaaGreatB49
set_option linter.unusedVariables false
namespace Go.Am.B
open Go Go.Am.N AV
def GLz : Contracts := [sG, (made_Light, s_mLight), (made_Roll, s_mRoll), (made_Dice_Point, diceSpec g_point), (made_Dice_Map, diceSpec g_map), (law04_awake, s_awake)]
noncomputable def GLw : Contracts := sG :: (law04_awake, s_awake) :: (tVe4 ++ tMd)
theorem GLz_ok : GOK P GLz := gok_strict <| gok_cons s_mLight_ok (gok_cons s_mRoll_ok (gok_cons s_mPoint_ok (gok_cons s_mMap_ok (gok_cons s_awake_ok gok_nil))))
theorem GLw_ok : GOK P GLw := gok_strict <| gok_cons s_awake_ok (gok_append tVe4_ok tMd_ok)
end Go.Am.B
