/- brepkernellaw04.awake. -/
import Derived.Test.YtajjlacbodnggaaB37
set_option linter.unusedVariables false
namespace Go.Am.B
open Go Go.Am.N AV

theorem is_awake : FnIs P law04_awake fn_law04_awake (codeOf fn_law04_awake) := fnIs get_law04_awake (by kernel_rfl) (by kernel_rfl) (by kernel_rfl)
def GAw : Contracts := (ref04_Unit, sp1 kI (fun i => vA (unitV i) 1) fun i => [0 ≤ i, i < 3]) :: (ref04_Same, sp2 kV kV ovSame vNeed) :: (vector_Through, sp3 kV kV kV oThr n3) :: (vector_Orient2, sp3 kV kV kV oOr2 n3) :: (vector_Side, sp2 kPl kV oSide vNeed) :: GV2
theorem GAw_ok : GOK P GAw := gok_cons (sp1_ok gUnit_ok) (gok_cons (sp2_ok gSame_ok) (gok_cons (sp3_ok vThrough_ok) (gok_cons (sp3_ok vOrient2_ok) (gok_cons (sp2_ok vSide_ok) GV2_ok))))
theorem awake_end : funT T GAw [20, 25, 31] 60 fn_law04_awake (codeOf fn_law04_awake) ⟨zipSlots 0 [], [], 0⟩ =
    some
      (ATree.must
        [(0 : Int) ≤ (0 : Int), (0 : Int) < (3 : Int), (0 : Int) ≤ (1 : Int), (1 : Int) < (3 : Int), (0 : Nat) < 1,
          (0 : Nat) < 1, (0 : Nat) < 1]
        (ATree.must
          [(0 : Nat) < 1, (0 : Nat) < 1, (0 : Nat) < 1, (1 : Nat) ≤ (1 : Nat),
            (1 : Nat) ≤ (1 : Nat), (1 : Nat) ≤ (1 : Nat), (1 : Nat) ≤ (1 : Nat), (1 : Nat) ≤ (1 : Nat),
            (1 : Nat) ≤ (1 : Nat), (1 : Nat) < (2 : Nat) ^ (34 : Nat), (1 : Nat) < (2 : Nat) ^ (34 : Nat),
            (1 : Nat) < (2 : Nat) ^ (34 : Nat), (0 : Nat) < 1]
          (ATree.fork true
            (ATree.fork true
              (ATree.must
                [(0 : Nat) < 1, (0 : Nat) < 1, (0 : Nat) < 1, (1 : Nat) ≤ (1 : Nat),
                  (1 : Nat) ≤ (1 : Nat), (1 : Nat) ≤ (1 : Nat), (1 : Nat) ≤ (1 : Nat), (1 : Nat) ≤ (1 : Nat),
                  (1 : Nat) ≤ (1 : Nat), (1 : Nat) < (2 : Nat) ^ (34 : Nat), (1 : Nat) < (2 : Nat) ^ (34 : Nat),
                  (1 : Nat) < (2 : Nat) ^ (34 : Nat),
                  (bif
                        sgnR
                            (((if (0 : Int) = (0 : Int) then (1 : Rat) else (0 : Rat)) - (0 : Rat)) *
                                ((if (1 : Int) = (1 : Int) then (1 : Rat) else (0 : Rat)) - (0 : Rat)) -
                              ((if (0 : Int) = (1 : Int) then (1 : Rat) else (0 : Rat)) - (0 : Rat)) *
                                ((if (1 : Int) = (0 : Int) then (1 : Rat) else (0 : Rat)) - (0 : Rat))) ==
                          (1 : Int) then
                      thrE { x := (0 : Rat), y := (0 : Rat), z := (0 : Rat) }
                          { x := if (0 : Int) = (0 : Int) then (1 : Rat) else (0 : Rat),
                            y := if (0 : Int) = (1 : Int) then (1 : Rat) else (0 : Rat),
                            z := if (0 : Int) = (2 : Int) then (1 : Rat) else (0 : Rat) }
                          { x := if (1 : Int) = (0 : Int) then (1 : Rat) else (0 : Rat),
                            y := if (1 : Int) = (1 : Int) then (1 : Rat) else (0 : Rat),
                            z := if (1 : Int) = (2 : Int) then (1 : Rat) else (0 : Rat) } ==
                        (0 : Int)
                    else false) =
                    true,
                  (0 : Nat) < 1, (0 : Int) ≤ (2 : Int), (2 : Int) < (3 : Int),
                  (3 : Nat) *
                        ((2 : Nat) * ((1 : Nat) + (1 : Nat) + (2 : Nat) * (1 : Nat) + (2 : Nat)) + (1 : Nat) + (1 : Nat)) +
                      (4 : Nat) ≤
                    (3 : Nat) *
                        ((2 : Nat) * ((1 : Nat) + (1 : Nat) + (2 : Nat) * (1 : Nat) + (2 : Nat)) + (1 : Nat) + (1 : Nat)) +
                      (4 : Nat),
                  (3 : Nat) *
                        ((2 : Nat) * ((1 : Nat) + (1 : Nat) + (2 : Nat) * (1 : Nat) + (2 : Nat)) + (1 : Nat) + (1 : Nat)) +
                      (4 : Nat) ≤
                    (3 : Nat) *
                        ((2 : Nat) * ((1 : Nat) + (1 : Nat) + (2 : Nat) * (1 : Nat) + (2 : Nat)) + (1 : Nat) + (1 : Nat)) +
                      (4 : Nat),
                  (1 : Nat) ≤ (1 : Nat), (1 : Nat) ≤ (1 : Nat),
                  (3 : Nat) *
                        ((2 : Nat) * ((1 : Nat) + (1 : Nat) + (2 : Nat) * (1 : Nat) + (2 : Nat)) + (1 : Nat) + (1 : Nat)) +
                      (4 : Nat) <
                    (2 : Nat) ^ (38 : Nat),
                  (1 : Nat) < (2 : Nat) ^ (38 : Nat),
                  (bif true then
                      vsame
                        {
                          x :=
                            ((if (0 : Int) = (1 : Int) then (1 : Rat) else (0 : Rat)) - (0 : Rat)) *
                                ((if (1 : Int) = (2 : Int) then (1 : Rat) else (0 : Rat)) - (0 : Rat)) -
                              ((if (0 : Int) = (2 : Int) then (1 : Rat) else (0 : Rat)) - (0 : Rat)) *
                                ((if (1 : Int) = (1 : Int) then (1 : Rat) else (0 : Rat)) - (0 : Rat)),
                          y :=
                            ((if (0 : Int) = (2 : Int) then (1 : Rat) else (0 : Rat)) - (0 : Rat)) *
                                ((if (1 : Int) = (0 : Int) then (1 : Rat) else (0 : Rat)) - (0 : Rat)) -
                              ((if (0 : Int) = (0 : Int) then (1 : Rat) else (0 : Rat)) - (0 : Rat)) *
                                ((if (1 : Int) = (2 : Int) then (1 : Rat) else (0 : Rat)) - (0 : Rat)),
                          z :=
                            ((if (0 : Int) = (0 : Int) then (1 : Rat) else (0 : Rat)) - (0 : Rat)) *
                                ((if (1 : Int) = (1 : Int) then (1 : Rat) else (0 : Rat)) - (0 : Rat)) -
                              ((if (0 : Int) = (1 : Int) then (1 : Rat) else (0 : Rat)) - (0 : Rat)) *
                                ((if (1 : Int) = (0 : Int) then (1 : Rat) else (0 : Rat)) - (0 : Rat)) }
                        { x := if (2 : Int) = (0 : Int) then (1 : Rat) else (0 : Rat),
                          y := if (2 : Int) = (1 : Int) then (1 : Rat) else (0 : Rat),
                          z := if (2 : Int) = (2 : Int) then (1 : Rat) else (0 : Rat) }
                    else false) =
                    true,
                  (0 : Nat) < 1, (0 : Nat) < 1, (0 : Nat) < 1, (0 : Nat) < 1,
                  (1 : Nat) ≤ (1 : Nat), (1 : Nat) ≤ (1 : Nat), (1 : Nat) ≤ (1 : Nat), (1 : Nat) ≤ (1 : Nat),
                  (1 : Nat) < (2 : Nat) ^ (38 : Nat), (1 : Nat) < (2 : Nat) ^ (38 : Nat), (1 : Nat) ≤ (1 : Nat),
                  (1 : Nat) ≤ (1 : Nat),
                  (1 : Nat) + (1 : Nat) + ((1 : Nat) + (1 : Nat)) + (1 : Nat) ≤
                    (1 : Nat) + (1 : Nat) + ((1 : Nat) + (1 : Nat)) + (1 : Nat),
                  (1 : Nat) + (1 : Nat) + ((1 : Nat) + (1 : Nat)) + (1 : Nat) ≤
                    (1 : Nat) + (1 : Nat) + ((1 : Nat) + (1 : Nat)) + (1 : Nat),
                  (1 : Nat) < (2 : Nat) ^ (38 : Nat),
                  (1 : Nat) + (1 : Nat) + ((1 : Nat) + (1 : Nat)) + (1 : Nat) < (2 : Nat) ^ (38 : Nat),
                  (3 : Nat) *
                        ((2 : Nat) * ((1 : Nat) + (1 : Nat) + (2 : Nat) * (1 : Nat) + (2 : Nat)) + (1 : Nat) + (1 : Nat)) +
                      (4 : Nat) ≤
                    (3 : Nat) *
                        ((2 : Nat) * ((1 : Nat) + (1 : Nat) + (2 : Nat) * (1 : Nat) + (2 : Nat)) + (1 : Nat) + (1 : Nat)) +
                      (4 : Nat),
                  (3 : Nat) *
                        ((2 : Nat) * ((1 : Nat) + (1 : Nat) + (2 : Nat) * (1 : Nat) + (2 : Nat)) + (1 : Nat) + (1 : Nat)) +
                      (4 : Nat) ≤
                    (3 : Nat) *
                        ((2 : Nat) * ((1 : Nat) + (1 : Nat) + (2 : Nat) * (1 : Nat) + (2 : Nat)) + (1 : Nat) + (1 : Nat)) +
                      (4 : Nat),
                  (1 : Nat) + ((1 : Nat) + (1 : Nat) + ((1 : Nat) + (1 : Nat)) + (1 : Nat)) + (1 : Nat) ≤
                    (1 : Nat) + ((1 : Nat) + (1 : Nat) + ((1 : Nat) + (1 : Nat)) + (1 : Nat)) + (1 : Nat),
                  (1 : Nat) + ((1 : Nat) + (1 : Nat) + ((1 : Nat) + (1 : Nat)) + (1 : Nat)) + (1 : Nat) ≤
                    (1 : Nat) + ((1 : Nat) + (1 : Nat) + ((1 : Nat) + (1 : Nat)) + (1 : Nat)) + (1 : Nat),
                  max
                      ((3 : Nat) *
                          ((2 : Nat) * ((1 : Nat) + (1 : Nat) + (2 : Nat) * (1 : Nat) + (2 : Nat)) + (1 : Nat) +
                            (1 : Nat)) +
                        (4 : Nat))
                      ((3 : Nat) *
                          ((2 : Nat) * ((1 : Nat) + (1 : Nat) + (2 : Nat) * (1 : Nat) + (2 : Nat)) + (1 : Nat) +
                            (1 : Nat)) +
                        (4 : Nat)) <
                    (2 : Nat) ^ (38 : Nat),
                  (1 : Nat) + ((1 : Nat) + (1 : Nat) + ((1 : Nat) + (1 : Nat)) + (1 : Nat)) + (1 : Nat) <
                    (2 : Nat) ^ (38 : Nat)]
                (ATree.leaf AEx.ret [AV.bool true]))
              (ATree.must
                [(0 : Nat) < 1, (0 : Nat) < 1, (0 : Nat) < 1, (1 : Nat) ≤ (1 : Nat),
                  (1 : Nat) ≤ (1 : Nat), (1 : Nat) ≤ (1 : Nat), (1 : Nat) ≤ (1 : Nat), (1 : Nat) ≤ (1 : Nat),
                  (1 : Nat) ≤ (1 : Nat), (1 : Nat) < (2 : Nat) ^ (34 : Nat), (1 : Nat) < (2 : Nat) ^ (34 : Nat),
                  (1 : Nat) < (2 : Nat) ^ (34 : Nat),
                  (bif
                        sgnR
                            (((if (0 : Int) = (0 : Int) then (1 : Rat) else (0 : Rat)) - (0 : Rat)) *
                                ((if (1 : Int) = (1 : Int) then (1 : Rat) else (0 : Rat)) - (0 : Rat)) -
                              ((if (0 : Int) = (1 : Int) then (1 : Rat) else (0 : Rat)) - (0 : Rat)) *
                                ((if (1 : Int) = (0 : Int) then (1 : Rat) else (0 : Rat)) - (0 : Rat))) ==
                          (1 : Int) then
                      thrE { x := (0 : Rat), y := (0 : Rat), z := (0 : Rat) }
                          { x := if (0 : Int) = (0 : Int) then (1 : Rat) else (0 : Rat),
                            y := if (0 : Int) = (1 : Int) then (1 : Rat) else (0 : Rat),
                            z := if (0 : Int) = (2 : Int) then (1 : Rat) else (0 : Rat) }
                          { x := if (1 : Int) = (0 : Int) then (1 : Rat) else (0 : Rat),
                            y := if (1 : Int) = (1 : Int) then (1 : Rat) else (0 : Rat),
                            z := if (1 : Int) = (2 : Int) then (1 : Rat) else (0 : Rat) } ==
                        (0 : Int)
                    else false) =
                    true,
                  (0 : Nat) < 1, (0 : Int) ≤ (2 : Int), (2 : Int) < (3 : Int),
                  (3 : Nat) *
                        ((2 : Nat) * ((1 : Nat) + (1 : Nat) + (2 : Nat) * (1 : Nat) + (2 : Nat)) + (1 : Nat) + (1 : Nat)) +
                      (4 : Nat) ≤
                    (3 : Nat) *
                        ((2 : Nat) * ((1 : Nat) + (1 : Nat) + (2 : Nat) * (1 : Nat) + (2 : Nat)) + (1 : Nat) + (1 : Nat)) +
                      (4 : Nat),
                  (3 : Nat) *
                        ((2 : Nat) * ((1 : Nat) + (1 : Nat) + (2 : Nat) * (1 : Nat) + (2 : Nat)) + (1 : Nat) + (1 : Nat)) +
                      (4 : Nat) ≤
                    (3 : Nat) *
                        ((2 : Nat) * ((1 : Nat) + (1 : Nat) + (2 : Nat) * (1 : Nat) + (2 : Nat)) + (1 : Nat) + (1 : Nat)) +
                      (4 : Nat),
                  (1 : Nat) ≤ (1 : Nat), (1 : Nat) ≤ (1 : Nat),
                  (3 : Nat) *
                        ((2 : Nat) * ((1 : Nat) + (1 : Nat) + (2 : Nat) * (1 : Nat) + (2 : Nat)) + (1 : Nat) + (1 : Nat)) +
                      (4 : Nat) <
                    (2 : Nat) ^ (38 : Nat),
                  (1 : Nat) < (2 : Nat) ^ (38 : Nat),
                  (bif true then
                      vsame
                        {
                          x :=
                            ((if (0 : Int) = (1 : Int) then (1 : Rat) else (0 : Rat)) - (0 : Rat)) *
                                ((if (1 : Int) = (2 : Int) then (1 : Rat) else (0 : Rat)) - (0 : Rat)) -
                              ((if (0 : Int) = (2 : Int) then (1 : Rat) else (0 : Rat)) - (0 : Rat)) *
                                ((if (1 : Int) = (1 : Int) then (1 : Rat) else (0 : Rat)) - (0 : Rat)),
                          y :=
                            ((if (0 : Int) = (2 : Int) then (1 : Rat) else (0 : Rat)) - (0 : Rat)) *
                                ((if (1 : Int) = (0 : Int) then (1 : Rat) else (0 : Rat)) - (0 : Rat)) -
                              ((if (0 : Int) = (0 : Int) then (1 : Rat) else (0 : Rat)) - (0 : Rat)) *
                                ((if (1 : Int) = (2 : Int) then (1 : Rat) else (0 : Rat)) - (0 : Rat)),
                          z :=
                            ((if (0 : Int) = (0 : Int) then (1 : Rat) else (0 : Rat)) - (0 : Rat)) *
                                ((if (1 : Int) = (1 : Int) then (1 : Rat) else (0 : Rat)) - (0 : Rat)) -
                              ((if (0 : Int) = (1 : Int) then (1 : Rat) else (0 : Rat)) - (0 : Rat)) *
                                ((if (1 : Int) = (0 : Int) then (1 : Rat) else (0 : Rat)) - (0 : Rat)) }
                        { x := if (2 : Int) = (0 : Int) then (1 : Rat) else (0 : Rat),
                          y := if (2 : Int) = (1 : Int) then (1 : Rat) else (0 : Rat),
                          z := if (2 : Int) = (2 : Int) then (1 : Rat) else (0 : Rat) }
                    else false) =
                    false]
                (ATree.leaf AEx.ret [AV.bool false])))
            (ATree.fork false
              (ATree.must
                [(0 : Nat) < 1, (0 : Nat) < 1, (0 : Nat) < 1, (1 : Nat) ≤ (1 : Nat),
                  (1 : Nat) ≤ (1 : Nat), (1 : Nat) ≤ (1 : Nat), (1 : Nat) ≤ (1 : Nat), (1 : Nat) ≤ (1 : Nat),
                  (1 : Nat) ≤ (1 : Nat), (1 : Nat) < (2 : Nat) ^ (34 : Nat), (1 : Nat) < (2 : Nat) ^ (34 : Nat),
                  (1 : Nat) < (2 : Nat) ^ (34 : Nat),
                  (bif
                        sgnR
                            (((if (0 : Int) = (0 : Int) then (1 : Rat) else (0 : Rat)) - (0 : Rat)) *
                                ((if (1 : Int) = (1 : Int) then (1 : Rat) else (0 : Rat)) - (0 : Rat)) -
                              ((if (0 : Int) = (1 : Int) then (1 : Rat) else (0 : Rat)) - (0 : Rat)) *
                                ((if (1 : Int) = (0 : Int) then (1 : Rat) else (0 : Rat)) - (0 : Rat))) ==
                          (1 : Int) then
                      thrE { x := (0 : Rat), y := (0 : Rat), z := (0 : Rat) }
                          { x := if (0 : Int) = (0 : Int) then (1 : Rat) else (0 : Rat),
                            y := if (0 : Int) = (1 : Int) then (1 : Rat) else (0 : Rat),
                            z := if (0 : Int) = (2 : Int) then (1 : Rat) else (0 : Rat) }
                          { x := if (1 : Int) = (0 : Int) then (1 : Rat) else (0 : Rat),
                            y := if (1 : Int) = (1 : Int) then (1 : Rat) else (0 : Rat),
                            z := if (1 : Int) = (2 : Int) then (1 : Rat) else (0 : Rat) } ==
                        (0 : Int)
                    else false) =
                    false,
                  false = true, (0 : Nat) < 1, (0 : Nat) < 1, (0 : Nat) < 1, (0 : Nat) < 1,
                  (1 : Nat) ≤ (1 : Nat), (1 : Nat) ≤ (1 : Nat), (1 : Nat) ≤ (1 : Nat), (1 : Nat) ≤ (1 : Nat),
                  (1 : Nat) < (2 : Nat) ^ (38 : Nat), (1 : Nat) < (2 : Nat) ^ (38 : Nat), (1 : Nat) ≤ (1 : Nat),
                  (1 : Nat) ≤ (1 : Nat),
                  (1 : Nat) + (1 : Nat) + ((1 : Nat) + (1 : Nat)) + (1 : Nat) ≤
                    (1 : Nat) + (1 : Nat) + ((1 : Nat) + (1 : Nat)) + (1 : Nat),
                  (1 : Nat) + (1 : Nat) + ((1 : Nat) + (1 : Nat)) + (1 : Nat) ≤
                    (1 : Nat) + (1 : Nat) + ((1 : Nat) + (1 : Nat)) + (1 : Nat),
                  (1 : Nat) < (2 : Nat) ^ (38 : Nat),
                  (1 : Nat) + (1 : Nat) + ((1 : Nat) + (1 : Nat)) + (1 : Nat) < (2 : Nat) ^ (38 : Nat),
                  (3 : Nat) *
                        ((2 : Nat) * ((1 : Nat) + (1 : Nat) + (2 : Nat) * (1 : Nat) + (2 : Nat)) + (1 : Nat) + (1 : Nat)) +
                      (4 : Nat) ≤
                    (3 : Nat) *
                        ((2 : Nat) * ((1 : Nat) + (1 : Nat) + (2 : Nat) * (1 : Nat) + (2 : Nat)) + (1 : Nat) + (1 : Nat)) +
                      (4 : Nat),
                  (3 : Nat) *
                        ((2 : Nat) * ((1 : Nat) + (1 : Nat) + (2 : Nat) * (1 : Nat) + (2 : Nat)) + (1 : Nat) + (1 : Nat)) +
                      (4 : Nat) ≤
                    (3 : Nat) *
                        ((2 : Nat) * ((1 : Nat) + (1 : Nat) + (2 : Nat) * (1 : Nat) + (2 : Nat)) + (1 : Nat) + (1 : Nat)) +
                      (4 : Nat),
                  (1 : Nat) + ((1 : Nat) + (1 : Nat) + ((1 : Nat) + (1 : Nat)) + (1 : Nat)) + (1 : Nat) ≤
                    (1 : Nat) + ((1 : Nat) + (1 : Nat) + ((1 : Nat) + (1 : Nat)) + (1 : Nat)) + (1 : Nat),
                  (1 : Nat) + ((1 : Nat) + (1 : Nat) + ((1 : Nat) + (1 : Nat)) + (1 : Nat)) + (1 : Nat) ≤
                    (1 : Nat) + ((1 : Nat) + (1 : Nat) + ((1 : Nat) + (1 : Nat)) + (1 : Nat)) + (1 : Nat),
                  max
                      ((3 : Nat) *
                          ((2 : Nat) * ((1 : Nat) + (1 : Nat) + (2 : Nat) * (1 : Nat) + (2 : Nat)) + (1 : Nat) +
                            (1 : Nat)) +
                        (4 : Nat))
                      ((3 : Nat) *
                          ((2 : Nat) * ((1 : Nat) + (1 : Nat) + (2 : Nat) * (1 : Nat) + (2 : Nat)) + (1 : Nat) +
                            (1 : Nat)) +
                        (4 : Nat)) <
                    (2 : Nat) ^ (38 : Nat),
                  (1 : Nat) + ((1 : Nat) + (1 : Nat) + ((1 : Nat) + (1 : Nat)) + (1 : Nat)) + (1 : Nat) <
                    (2 : Nat) ^ (38 : Nat)]
                (ATree.leaf AEx.ret [AV.bool true]))
              (ATree.must
                [(0 : Nat) < 1, (0 : Nat) < 1, (0 : Nat) < 1, (1 : Nat) ≤ (1 : Nat),
                  (1 : Nat) ≤ (1 : Nat), (1 : Nat) ≤ (1 : Nat), (1 : Nat) ≤ (1 : Nat), (1 : Nat) ≤ (1 : Nat),
                  (1 : Nat) ≤ (1 : Nat), (1 : Nat) < (2 : Nat) ^ (34 : Nat), (1 : Nat) < (2 : Nat) ^ (34 : Nat),
                  (1 : Nat) < (2 : Nat) ^ (34 : Nat),
                  (bif
                        sgnR
                            (((if (0 : Int) = (0 : Int) then (1 : Rat) else (0 : Rat)) - (0 : Rat)) *
                                ((if (1 : Int) = (1 : Int) then (1 : Rat) else (0 : Rat)) - (0 : Rat)) -
                              ((if (0 : Int) = (1 : Int) then (1 : Rat) else (0 : Rat)) - (0 : Rat)) *
                                ((if (1 : Int) = (0 : Int) then (1 : Rat) else (0 : Rat)) - (0 : Rat))) ==
                          (1 : Int) then
                      thrE { x := (0 : Rat), y := (0 : Rat), z := (0 : Rat) }
                          { x := if (0 : Int) = (0 : Int) then (1 : Rat) else (0 : Rat),
                            y := if (0 : Int) = (1 : Int) then (1 : Rat) else (0 : Rat),
                            z := if (0 : Int) = (2 : Int) then (1 : Rat) else (0 : Rat) }
                          { x := if (1 : Int) = (0 : Int) then (1 : Rat) else (0 : Rat),
                            y := if (1 : Int) = (1 : Int) then (1 : Rat) else (0 : Rat),
                            z := if (1 : Int) = (2 : Int) then (1 : Rat) else (0 : Rat) } ==
                        (0 : Int)
                    else false) =
                    false,
                  false = false]
                (ATree.leaf AEx.ret [AV.bool false])))))) := by kernel_rfl

theorem awake_ok (K : Nat) : FOK P law04_awake K [] [] (pres (.bool true) []) := by
  refine fok_tree hT GAw_ok hm is_awake rfl (of_decide_eq_true (by kernel_rfl)) rfl 60 awake_end (fun _ => ?_) K []
  simp only [ATree.all, allP, Nat.max_self]
  (repeat' with_reducible first | refine And.intro ?_ ?_ | intro _)
  all_goals first | omega | decide | contradiction | exact avLe0.refl _ | kernel_rfl
def s_awake : Spec := pureSpec fun l => match l with
  | [] => some (pres (.bool true) [])
  | _ => none
theorem s_awake_ok : ∀ K args pre r, s_awake K args pre = some r → FOK P law04_awake K args pre r := by
  refine pureSpec_ok fun K args r hk hs _ => ?_
  split at hs
  · simp only [Option.some.injEq] at hs
    subst hs
    exact awake_ok K
  · simp at hs
end Go.Am.B
