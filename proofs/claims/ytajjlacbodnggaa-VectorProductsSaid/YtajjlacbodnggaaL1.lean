/- brepkernellaw04.VectorProducts. -/
import Derived.Test.YtajjlacbodnggaaB38
set_option linter.unusedVariables false
namespace Go.Am.B
open Go Go.Am.N AV

theorem is_L1 : FnIs P law04_VectorProducts fn_law04_VectorProducts (codeOf fn_law04_VectorProducts) := fnIs get_law04_VectorProducts (by kernel_rfl) (by kernel_rfl) (by kernel_rfl)
def GLd : Contracts := [(made_Light, s_mLight), (made_Roll, s_mRoll), (made_Dice_Point, diceSpec g_point), (made_Dice_Number, diceSpec g_number), (made_Dice_Map, diceSpec g_map), (law04_awake, s_awake)]
abbrev objV (u : V3) : AObj := ⟨false, true, 9, 1, fun j => if (j == (0 : Nat)) = true then vA u 64 else vA v0 1⟩
abbrev L1Os (u v w : V3) : Store := [(61440, objV w), (57344, objV v), (53248, objV u)]
abbrev L1Vs : List AV := [.ptr 53248 0 9 0 [], .ptr 57344 0 9 0 [], .ptr 61440 0 9 0 []]
def GLv : Contracts := (law04_awake, s_awake) :: (vector_Det, sp3 kV kV kV oDet n3) :: (ref04_Unit, sp1 kI (fun i => vA (unitV i) 1) fun i => [0 ≤ i, i < 3]) :: (ref04_Same, sp2 kV kV ovSame vNeed) :: (vector_Through, sp3 kV kV kV oThr n3) :: (vector_Orient2, sp3 kV kV kV oOr2 n3) :: (vector_Side, sp2 kPl kV oSide vNeed) :: (ref02_Add, sp2 kR kR oAdd eNeed) :: (ref02_Sub, sp2 kR kR oSub eNeed) :: (ref02_Mul, sp2 kR kR oMul eNeed) :: (ref02_Same, sp2 kR kR oSame eNeed) :: (ref02_Cmp, sp2 kR kR oCmp eNeed) :: (ref02_Sign, sp1 kR oSign fun a => [a.2 < 2 ^ 41]) :: GV2
theorem L1_pre {n : Nat} {z : Nat → Int} : seeL T GLd [13] 60 [2, 4, 5, 6] (before (codeOf fn_law04_VectorProducts) [1,1,1,1]) ⟨zipSlots 0 [.tab 1 n (fun i => .int .i64 (z i))], [], 0⟩ =
    some
      (ATree.fork (!decide ((↑n : Int) ≤ (500 : Int)))
        (ATree.leaf AEx.ret ([AV.bool true, tuple [], tuple [], tuple []], []))
        (ATree.must
          [DiceOK n (fun (i : Nat) ↦ int IntKind.i64 (z i)) (0 : Int),
            DiceOK n (fun (i : Nat) ↦ int IntKind.i64 (z i)) (ptA n (fun (i : Nat) ↦ int IntKind.i64 (z i)) (0 : Int)),
            DiceOK n (fun (i : Nat) ↦ int IntKind.i64 (z i))
              (ptA n (fun (i : Nat) ↦ int IntKind.i64 (z i)) (ptA n (fun (i : Nat) ↦ int IntKind.i64 (z i)) (0 : Int))),
            (0 : Nat) < 1, (0 : Nat) < 1, (0 : Nat) < 1]
          (ATree.leaf AEx.normal
            ([AV.bool false, ptr (53248 : Nat) (0 : Nat) (9 : Nat) (0 : Nat) [],
                ptr (57344 : Nat) (0 : Nat) (9 : Nat) (0 : Nat) [], ptr (61440 : Nat) (0 : Nat) (9 : Nat) (0 : Nat) []],
              [((61440 : Nat),
                  { row := false, wr := true, es := (9 : Nat), len := (1 : Nat),
                    f := fun (j : Nat) ↦
                      if (j == (0 : Nat)) = true then
                        deN
                          (agg
                            [rat
                                (numV n (fun (i : Nat) ↦ int IntKind.i64 (z i))
                                  (ptA n (fun (i : Nat) ↦ int IntKind.i64 (z i))
                                    (ptA n (fun (i : Nat) ↦ int IntKind.i64 (z i)) (0 : Int))))
                                (64 : Nat),
                              rat
                                (numV n (fun (i : Nat) ↦ int IntKind.i64 (z i))
                                  (numA n (fun (i : Nat) ↦ int IntKind.i64 (z i))
                                    (ptA n (fun (i : Nat) ↦ int IntKind.i64 (z i))
                                      (ptA n (fun (i : Nat) ↦ int IntKind.i64 (z i)) (0 : Int)))))
                                (64 : Nat),
                              rat
                                (numV n (fun (i : Nat) ↦ int IntKind.i64 (z i))
                                  (numA n (fun (i : Nat) ↦ int IntKind.i64 (z i))
                                    (numA n (fun (i : Nat) ↦ int IntKind.i64 (z i))
                                      (ptA n (fun (i : Nat) ↦ int IntKind.i64 (z i))
                                        (ptA n (fun (i : Nat) ↦ int IntKind.i64 (z i)) (0 : Int))))))
                                (64 : Nat)])
                      else agg [rat (0 : Rat) (1 : Nat), rat (0 : Rat) (1 : Nat), rat (0 : Rat) (1 : Nat)] }),
                ((57344 : Nat),
                  { row := false, wr := true, es := (9 : Nat), len := (1 : Nat),
                    f := fun (j : Nat) ↦
                      if (j == (0 : Nat)) = true then
                        deN
                          (agg
                            [rat
                                (numV n (fun (i : Nat) ↦ int IntKind.i64 (z i))
                                  (ptA n (fun (i : Nat) ↦ int IntKind.i64 (z i)) (0 : Int)))
                                (64 : Nat),
                              rat
                                (numV n (fun (i : Nat) ↦ int IntKind.i64 (z i))
                                  (numA n (fun (i : Nat) ↦ int IntKind.i64 (z i))
                                    (ptA n (fun (i : Nat) ↦ int IntKind.i64 (z i)) (0 : Int))))
                                (64 : Nat),
                              rat
                                (numV n (fun (i : Nat) ↦ int IntKind.i64 (z i))
                                  (numA n (fun (i : Nat) ↦ int IntKind.i64 (z i))
                                    (numA n (fun (i : Nat) ↦ int IntKind.i64 (z i))
                                      (ptA n (fun (i : Nat) ↦ int IntKind.i64 (z i)) (0 : Int)))))
                                (64 : Nat)])
                      else agg [rat (0 : Rat) (1 : Nat), rat (0 : Rat) (1 : Nat), rat (0 : Rat) (1 : Nat)] }),
                ((53248 : Nat),
                  { row := false, wr := true, es := (9 : Nat), len := (1 : Nat),
                    f := fun (j : Nat) ↦
                      if (j == (0 : Nat)) = true then
                        deN
                          (agg
                            [rat (numV n (fun (i : Nat) ↦ int IntKind.i64 (z i)) (0 : Int)) (64 : Nat),
                              rat
                                (numV n (fun (i : Nat) ↦ int IntKind.i64 (z i))
                                  (numA n (fun (i : Nat) ↦ int IntKind.i64 (z i)) (0 : Int)))
                                (64 : Nat),
                              rat
                                (numV n (fun (i : Nat) ↦ int IntKind.i64 (z i))
                                  (numA n (fun (i : Nat) ↦ int IntKind.i64 (z i))
                                    (numA n (fun (i : Nat) ↦ int IntKind.i64 (z i)) (0 : Int))))
                                (64 : Nat)])
                      else agg [rat (0 : Rat) (1 : Nat), rat (0 : Rat) (1 : Nat), rat (0 : Rat) (1 : Nat)] })])))) := by kernel_rfl
theorem L1_end {u v w : V3} : endL T GLv [100062, 100069, 100076, 100080, 100090] 60 fn_law04_VectorProducts [part (codeOf fn_law04_VectorProducts) [1,1,1,1]] ⟨zipL [4, 5, 6] L1Vs, L1Os u v w, 65536⟩ =
    some
      (ATree.must
        [(0 : Nat) < 1, (0 : Nat) < 1, (64 : Nat) ≤ (64 : Nat), (64 : Nat) ≤ (64 : Nat),
          (64 : Nat) ≤ (64 : Nat), (64 : Nat) ≤ (64 : Nat), (64 : Nat) < (2 : Nat) ^ (38 : Nat),
          (64 : Nat) < (2 : Nat) ^ (38 : Nat), (0 : Nat) < 1]
        (ATree.must
          [(0 : Nat) < 1, (0 : Nat) < 1, (64 : Nat) ≤ (64 : Nat), (64 : Nat) ≤ (64 : Nat),
            (64 : Nat) ≤ (64 : Nat), (64 : Nat) ≤ (64 : Nat), (64 : Nat) < (2 : Nat) ^ (38 : Nat),
            (64 : Nat) < (2 : Nat) ^ (38 : Nat), (0 : Nat) < 1]
          (ATree.must
            [(0 : Nat) < 1, (0 : Nat) < 1, (64 : Nat) ≤ (64 : Nat), (64 : Nat) ≤ (64 : Nat),
              (64 : Nat) ≤ (64 : Nat), (64 : Nat) ≤ (64 : Nat), (64 : Nat) < (2 : Nat) ^ (38 : Nat),
              (64 : Nat) < (2 : Nat) ^ (38 : Nat), (0 : Nat) < 1, (0 : Nat) < 1, (64 : Nat) ≤ (64 : Nat),
              (64 : Nat) ≤ (64 : Nat), (64 : Nat) ≤ (64 : Nat), (64 : Nat) ≤ (64 : Nat),
              (64 : Nat) < (2 : Nat) ^ (38 : Nat), (64 : Nat) < (2 : Nat) ^ (38 : Nat),
              (3 : Nat) * ((64 : Nat) + (64 : Nat)) + (4 : Nat) < (2 : Nat) ^ (41 : Nat),
              (3 : Nat) * ((64 : Nat) + (64 : Nat)) + (4 : Nat) < (2 : Nat) ^ (41 : Nat), (0 : Nat) < 1,
              (0 : Nat) < 1, (3 : Nat) * ((64 : Nat) + (64 : Nat)) + (4 : Nat) < (2 : Nat) ^ (41 : Nat),
              (3 : Nat) * ((64 : Nat) + (64 : Nat)) + (4 : Nat) < (2 : Nat) ^ (41 : Nat),
              (3 : Nat) * ((64 : Nat) + (64 : Nat)) + (4 : Nat) + ((3 : Nat) * ((64 : Nat) + (64 : Nat)) + (4 : Nat)) <
                (2 : Nat) ^ (41 : Nat),
              (3 : Nat) * ((64 : Nat) + (64 : Nat)) + (4 : Nat) + ((3 : Nat) * ((64 : Nat) + (64 : Nat)) + (4 : Nat)) <
                (2 : Nat) ^ (41 : Nat),
              (0 : Nat) < 1]
            (ATree.must
              [(0 : Nat) < 1, (0 : Nat) < 1, (0 : Nat) < 1, (64 : Nat) ≤ (64 : Nat),
                (64 : Nat) ≤ (64 : Nat), (64 : Nat) ≤ (64 : Nat), (64 : Nat) ≤ (64 : Nat),
                (64 : Nat) < (2 : Nat) ^ (38 : Nat), (64 : Nat) < (2 : Nat) ^ (38 : Nat), (64 : Nat) ≤ (64 : Nat),
                (64 : Nat) ≤ (64 : Nat),
                (64 : Nat) + (64 : Nat) + ((64 : Nat) + (64 : Nat)) + (1 : Nat) ≤
                  (64 : Nat) + (64 : Nat) + ((64 : Nat) + (64 : Nat)) + (1 : Nat),
                (64 : Nat) + (64 : Nat) + ((64 : Nat) + (64 : Nat)) + (1 : Nat) ≤
                  (64 : Nat) + (64 : Nat) + ((64 : Nat) + (64 : Nat)) + (1 : Nat),
                (64 : Nat) < (2 : Nat) ^ (38 : Nat),
                (64 : Nat) + (64 : Nat) + ((64 : Nat) + (64 : Nat)) + (1 : Nat) < (2 : Nat) ^ (38 : Nat),
                (0 : Nat) < 1, (0 : Nat) < 1, (0 : Nat) < 1, (64 : Nat) ≤ (64 : Nat),
                (64 : Nat) ≤ (64 : Nat), (64 : Nat) ≤ (64 : Nat), (64 : Nat) ≤ (64 : Nat),
                (64 : Nat) < (2 : Nat) ^ (38 : Nat), (64 : Nat) < (2 : Nat) ^ (38 : Nat), (64 : Nat) ≤ (64 : Nat),
                (64 : Nat) ≤ (64 : Nat),
                (64 : Nat) + (64 : Nat) + ((64 : Nat) + (64 : Nat)) + (1 : Nat) ≤
                  (64 : Nat) + (64 : Nat) + ((64 : Nat) + (64 : Nat)) + (1 : Nat),
                (64 : Nat) + (64 : Nat) + ((64 : Nat) + (64 : Nat)) + (1 : Nat) ≤
                  (64 : Nat) + (64 : Nat) + ((64 : Nat) + (64 : Nat)) + (1 : Nat),
                (64 : Nat) < (2 : Nat) ^ (38 : Nat),
                (64 : Nat) + (64 : Nat) + ((64 : Nat) + (64 : Nat)) + (1 : Nat) < (2 : Nat) ^ (38 : Nat),
                (64 : Nat) + ((64 : Nat) + (64 : Nat) + ((64 : Nat) + (64 : Nat)) + (1 : Nat)) +
                      ((64 : Nat) + ((64 : Nat) + (64 : Nat) + ((64 : Nat) + (64 : Nat)) + (1 : Nat))) +
                    (1 : Nat) ≤
                  (64 : Nat) + ((64 : Nat) + (64 : Nat) + ((64 : Nat) + (64 : Nat)) + (1 : Nat)) +
                      ((64 : Nat) + ((64 : Nat) + (64 : Nat) + ((64 : Nat) + (64 : Nat)) + (1 : Nat))) +
                    (1 : Nat),
                (64 : Nat) + ((64 : Nat) + (64 : Nat) + ((64 : Nat) + (64 : Nat)) + (1 : Nat)) +
                      ((64 : Nat) + ((64 : Nat) + (64 : Nat) + ((64 : Nat) + (64 : Nat)) + (1 : Nat))) +
                    (1 : Nat) ≤
                  (64 : Nat) + ((64 : Nat) + (64 : Nat) + ((64 : Nat) + (64 : Nat)) + (1 : Nat)) +
                      ((64 : Nat) + ((64 : Nat) + (64 : Nat) + ((64 : Nat) + (64 : Nat)) + (1 : Nat))) +
                    (1 : Nat),
                (64 : Nat) + ((64 : Nat) + (64 : Nat) + ((64 : Nat) + (64 : Nat)) + (1 : Nat)) +
                      ((64 : Nat) + ((64 : Nat) + (64 : Nat) + ((64 : Nat) + (64 : Nat)) + (1 : Nat))) +
                    (1 : Nat) ≤
                  (64 : Nat) + ((64 : Nat) + (64 : Nat) + ((64 : Nat) + (64 : Nat)) + (1 : Nat)) +
                      ((64 : Nat) + ((64 : Nat) + (64 : Nat) + ((64 : Nat) + (64 : Nat)) + (1 : Nat))) +
                    (1 : Nat),
                (64 : Nat) + ((64 : Nat) + (64 : Nat) + ((64 : Nat) + (64 : Nat)) + (1 : Nat)) +
                      ((64 : Nat) + ((64 : Nat) + (64 : Nat) + ((64 : Nat) + (64 : Nat)) + (1 : Nat))) +
                    (1 : Nat) ≤
                  (64 : Nat) + ((64 : Nat) + (64 : Nat) + ((64 : Nat) + (64 : Nat)) + (1 : Nat)) +
                      ((64 : Nat) + ((64 : Nat) + (64 : Nat) + ((64 : Nat) + (64 : Nat)) + (1 : Nat))) +
                    (1 : Nat),
                (64 : Nat) + ((64 : Nat) + (64 : Nat) + ((64 : Nat) + (64 : Nat)) + (1 : Nat)) +
                      ((64 : Nat) + ((64 : Nat) + (64 : Nat) + ((64 : Nat) + (64 : Nat)) + (1 : Nat))) +
                    (1 : Nat) <
                  (2 : Nat) ^ (38 : Nat),
                (64 : Nat) + ((64 : Nat) + (64 : Nat) + ((64 : Nat) + (64 : Nat)) + (1 : Nat)) +
                      ((64 : Nat) + ((64 : Nat) + (64 : Nat) + ((64 : Nat) + (64 : Nat)) + (1 : Nat))) +
                    (1 : Nat) <
                  (2 : Nat) ^ (38 : Nat),
                (0 : Nat) < 1, (0 : Nat) < 1, (0 : Nat) < 1, (64 : Nat) ≤ (64 : Nat),
                (64 : Nat) ≤ (64 : Nat), (64 : Nat) ≤ (64 : Nat), (64 : Nat) ≤ (64 : Nat),
                (64 : Nat) < (2 : Nat) ^ (38 : Nat), (64 : Nat) < (2 : Nat) ^ (38 : Nat), (64 : Nat) ≤ (64 : Nat),
                (64 : Nat) ≤ (64 : Nat),
                (64 : Nat) + (64 : Nat) + ((64 : Nat) + (64 : Nat)) + (1 : Nat) ≤
                  (64 : Nat) + (64 : Nat) + ((64 : Nat) + (64 : Nat)) + (1 : Nat),
                (64 : Nat) + (64 : Nat) + ((64 : Nat) + (64 : Nat)) + (1 : Nat) ≤
                  (64 : Nat) + (64 : Nat) + ((64 : Nat) + (64 : Nat)) + (1 : Nat),
                (64 : Nat) < (2 : Nat) ^ (38 : Nat),
                (64 : Nat) + (64 : Nat) + ((64 : Nat) + (64 : Nat)) + (1 : Nat) < (2 : Nat) ^ (38 : Nat),
                (64 : Nat) + ((64 : Nat) + (64 : Nat) + ((64 : Nat) + (64 : Nat)) + (1 : Nat)) +
                          ((64 : Nat) + ((64 : Nat) + (64 : Nat) + ((64 : Nat) + (64 : Nat)) + (1 : Nat))) +
                        (1 : Nat) +
                      ((64 : Nat) + ((64 : Nat) + (64 : Nat) + ((64 : Nat) + (64 : Nat)) + (1 : Nat)) +
                          ((64 : Nat) + ((64 : Nat) + (64 : Nat) + ((64 : Nat) + (64 : Nat)) + (1 : Nat))) +
                        (1 : Nat)) +
                    (1 : Nat) ≤
                  (64 : Nat) + ((64 : Nat) + (64 : Nat) + ((64 : Nat) + (64 : Nat)) + (1 : Nat)) +
                          ((64 : Nat) + ((64 : Nat) + (64 : Nat) + ((64 : Nat) + (64 : Nat)) + (1 : Nat))) +
                        (1 : Nat) +
                      ((64 : Nat) + ((64 : Nat) + (64 : Nat) + ((64 : Nat) + (64 : Nat)) + (1 : Nat)) +
                          ((64 : Nat) + ((64 : Nat) + (64 : Nat) + ((64 : Nat) + (64 : Nat)) + (1 : Nat))) +
                        (1 : Nat)) +
                    (1 : Nat),
                (64 : Nat) + ((64 : Nat) + (64 : Nat) + ((64 : Nat) + (64 : Nat)) + (1 : Nat)) +
                          ((64 : Nat) + ((64 : Nat) + (64 : Nat) + ((64 : Nat) + (64 : Nat)) + (1 : Nat))) +
                        (1 : Nat) +
                      ((64 : Nat) + ((64 : Nat) + (64 : Nat) + ((64 : Nat) + (64 : Nat)) + (1 : Nat)) +
                          ((64 : Nat) + ((64 : Nat) + (64 : Nat) + ((64 : Nat) + (64 : Nat)) + (1 : Nat))) +
                        (1 : Nat)) +
                    (1 : Nat) ≤
                  (64 : Nat) + ((64 : Nat) + (64 : Nat) + ((64 : Nat) + (64 : Nat)) + (1 : Nat)) +
                          ((64 : Nat) + ((64 : Nat) + (64 : Nat) + ((64 : Nat) + (64 : Nat)) + (1 : Nat))) +
                        (1 : Nat) +
                      ((64 : Nat) + ((64 : Nat) + (64 : Nat) + ((64 : Nat) + (64 : Nat)) + (1 : Nat)) +
                          ((64 : Nat) + ((64 : Nat) + (64 : Nat) + ((64 : Nat) + (64 : Nat)) + (1 : Nat))) +
                        (1 : Nat)) +
                    (1 : Nat),
                (64 : Nat) + ((64 : Nat) + (64 : Nat) + ((64 : Nat) + (64 : Nat)) + (1 : Nat)) +
                      ((64 : Nat) + ((64 : Nat) + (64 : Nat) + ((64 : Nat) + (64 : Nat)) + (1 : Nat))) +
                    (1 : Nat) ≤
                  (64 : Nat) + ((64 : Nat) + (64 : Nat) + ((64 : Nat) + (64 : Nat)) + (1 : Nat)) +
                      ((64 : Nat) + ((64 : Nat) + (64 : Nat) + ((64 : Nat) + (64 : Nat)) + (1 : Nat))) +
                    (1 : Nat),
                (64 : Nat) + ((64 : Nat) + (64 : Nat) + ((64 : Nat) + (64 : Nat)) + (1 : Nat)) +
                      ((64 : Nat) + ((64 : Nat) + (64 : Nat) + ((64 : Nat) + (64 : Nat)) + (1 : Nat))) +
                    (1 : Nat) ≤
                  (64 : Nat) + ((64 : Nat) + (64 : Nat) + ((64 : Nat) + (64 : Nat)) + (1 : Nat)) +
                      ((64 : Nat) + ((64 : Nat) + (64 : Nat) + ((64 : Nat) + (64 : Nat)) + (1 : Nat))) +
                    (1 : Nat),
                (64 : Nat) + ((64 : Nat) + (64 : Nat) + ((64 : Nat) + (64 : Nat)) + (1 : Nat)) +
                          ((64 : Nat) + ((64 : Nat) + (64 : Nat) + ((64 : Nat) + (64 : Nat)) + (1 : Nat))) +
                        (1 : Nat) +
                      ((64 : Nat) + ((64 : Nat) + (64 : Nat) + ((64 : Nat) + (64 : Nat)) + (1 : Nat)) +
                          ((64 : Nat) + ((64 : Nat) + (64 : Nat) + ((64 : Nat) + (64 : Nat)) + (1 : Nat))) +
                        (1 : Nat)) +
                    (1 : Nat) <
                  (2 : Nat) ^ (38 : Nat),
                (64 : Nat) + ((64 : Nat) + (64 : Nat) + ((64 : Nat) + (64 : Nat)) + (1 : Nat)) +
                      ((64 : Nat) + ((64 : Nat) + (64 : Nat) + ((64 : Nat) + (64 : Nat)) + (1 : Nat))) +
                    (1 : Nat) <
                  (2 : Nat) ^ (38 : Nat),
                (0 : Nat) < 1]
              (ATree.must
                [(0 : Nat) < 1, (0 : Nat) < 1,
                  (64 : Nat) + (64 : Nat) + ((64 : Nat) + (64 : Nat)) + (1 : Nat) ≤
                    (64 : Nat) + (64 : Nat) + ((64 : Nat) + (64 : Nat)) + (1 : Nat),
                  (64 : Nat) + (64 : Nat) + ((64 : Nat) + (64 : Nat)) + (1 : Nat) ≤
                    (64 : Nat) + (64 : Nat) + ((64 : Nat) + (64 : Nat)) + (1 : Nat),
                  (64 : Nat) ≤ (64 : Nat), (64 : Nat) ≤ (64 : Nat),
                  (64 : Nat) + (64 : Nat) + ((64 : Nat) + (64 : Nat)) + (1 : Nat) < (2 : Nat) ^ (38 : Nat),
                  (64 : Nat) < (2 : Nat) ^ (38 : Nat),
                  (3 : Nat) * ((64 : Nat) + (64 : Nat) + ((64 : Nat) + (64 : Nat)) + (1 : Nat) + (64 : Nat)) + (4 : Nat) <
                    (2 : Nat) ^ (41 : Nat),
                  (sgnR
                        (dot { x := u.y * v.z - u.z * v.y, y := u.z * v.x - u.x * v.z, z := u.x * v.y - u.y * v.x }
                          { x := u.x, y := u.y, z := u.z }) ==
                      (0 : Int)) =
                    true,
                  (0 : Nat) < 1, (0 : Nat) < 1,
                  (64 : Nat) + (64 : Nat) + ((64 : Nat) + (64 : Nat)) + (1 : Nat) ≤
                    (64 : Nat) + (64 : Nat) + ((64 : Nat) + (64 : Nat)) + (1 : Nat),
                  (64 : Nat) + (64 : Nat) + ((64 : Nat) + (64 : Nat)) + (1 : Nat) ≤
                    (64 : Nat) + (64 : Nat) + ((64 : Nat) + (64 : Nat)) + (1 : Nat),
                  (64 : Nat) ≤ (64 : Nat), (64 : Nat) ≤ (64 : Nat),
                  (64 : Nat) + (64 : Nat) + ((64 : Nat) + (64 : Nat)) + (1 : Nat) < (2 : Nat) ^ (38 : Nat),
                  (64 : Nat) < (2 : Nat) ^ (38 : Nat),
                  (3 : Nat) * ((64 : Nat) + (64 : Nat) + ((64 : Nat) + (64 : Nat)) + (1 : Nat) + (64 : Nat)) + (4 : Nat) <
                    (2 : Nat) ^ (41 : Nat),
                  (bif true then
                      sgnR
                          (dot { x := u.y * v.z - u.z * v.y, y := u.z * v.x - u.x * v.z, z := u.x * v.y - u.y * v.x }
                            { x := v.x, y := v.y, z := v.z }) ==
                        (0 : Int)
                    else false) =
                    true,
                  (0 : Nat) < 1, (0 : Nat) < 1,
                  (64 : Nat) + (64 : Nat) + ((64 : Nat) + (64 : Nat)) + (1 : Nat) ≤
                    (64 : Nat) + (64 : Nat) + ((64 : Nat) + (64 : Nat)) + (1 : Nat),
                  (64 : Nat) + (64 : Nat) + ((64 : Nat) + (64 : Nat)) + (1 : Nat) ≤
                    (64 : Nat) + (64 : Nat) + ((64 : Nat) + (64 : Nat)) + (1 : Nat),
                  (64 : Nat) + (64 : Nat) + ((64 : Nat) + (64 : Nat)) + (1 : Nat) ≤
                    (64 : Nat) + (64 : Nat) + ((64 : Nat) + (64 : Nat)) + (1 : Nat),
                  (64 : Nat) + (64 : Nat) + ((64 : Nat) + (64 : Nat)) + (1 : Nat) ≤
                    (64 : Nat) + (64 : Nat) + ((64 : Nat) + (64 : Nat)) + (1 : Nat),
                  (64 : Nat) + (64 : Nat) + ((64 : Nat) + (64 : Nat)) + (1 : Nat) < (2 : Nat) ^ (38 : Nat),
                  (64 : Nat) + (64 : Nat) + ((64 : Nat) + (64 : Nat)) + (1 : Nat) < (2 : Nat) ^ (38 : Nat),
                  (0 : Nat) < 1,
                  (3 : Nat) *
                        ((64 : Nat) + (64 : Nat) + ((64 : Nat) + (64 : Nat)) + (1 : Nat) +
                          ((64 : Nat) + (64 : Nat) + ((64 : Nat) + (64 : Nat)) + (1 : Nat))) +
                      (4 : Nat) <
                    (2 : Nat) ^ (41 : Nat),
                  (3 : Nat) * ((64 : Nat) + (64 : Nat)) + (4 : Nat) + ((3 : Nat) * ((64 : Nat) + (64 : Nat)) + (4 : Nat)) +
                        ((3 : Nat) * ((64 : Nat) + (64 : Nat)) + (4 : Nat) +
                          ((3 : Nat) * ((64 : Nat) + (64 : Nat)) + (4 : Nat))) +
                      (1 : Nat) <
                    (2 : Nat) ^ (41 : Nat),
                  (bif true then
                      decide
                        (dot { x := u.y * v.z - u.z * v.y, y := u.z * v.x - u.x * v.z, z := u.x * v.y - u.y * v.x }
                            { x := u.y * v.z - u.z * v.y, y := u.z * v.x - u.x * v.z, z := u.x * v.y - u.y * v.x } =
                          dot { x := u.x, y := u.y, z := u.z } { x := u.x, y := u.y, z := u.z } *
                              dot { x := v.x, y := v.y, z := v.z } { x := v.x, y := v.y, z := v.z } -
                            dot { x := u.x, y := u.y, z := u.z } { x := v.x, y := v.y, z := v.z } *
                              dot { x := u.x, y := u.y, z := u.z } { x := v.x, y := v.y, z := v.z })
                    else false) =
                    true,
                  (0 : Nat) < 1,
                  (64 : Nat) + ((64 : Nat) + (64 : Nat) + ((64 : Nat) + (64 : Nat)) + (1 : Nat)) +
                                ((64 : Nat) + ((64 : Nat) + (64 : Nat) + ((64 : Nat) + (64 : Nat)) + (1 : Nat))) +
                              (1 : Nat) +
                            ((64 : Nat) + ((64 : Nat) + (64 : Nat) + ((64 : Nat) + (64 : Nat)) + (1 : Nat)) +
                                ((64 : Nat) + ((64 : Nat) + (64 : Nat) + ((64 : Nat) + (64 : Nat)) + (1 : Nat))) +
                              (1 : Nat)) +
                          (1 : Nat) +
                        ((64 : Nat) + ((64 : Nat) + (64 : Nat) + ((64 : Nat) + (64 : Nat)) + (1 : Nat)) +
                            ((64 : Nat) + ((64 : Nat) + (64 : Nat) + ((64 : Nat) + (64 : Nat)) + (1 : Nat))) +
                          (1 : Nat)) +
                      (1 : Nat) ≤
                    (64 : Nat) + ((64 : Nat) + (64 : Nat) + ((64 : Nat) + (64 : Nat)) + (1 : Nat)) +
                                ((64 : Nat) + ((64 : Nat) + (64 : Nat) + ((64 : Nat) + (64 : Nat)) + (1 : Nat))) +
                              (1 : Nat) +
                            ((64 : Nat) + ((64 : Nat) + (64 : Nat) + ((64 : Nat) + (64 : Nat)) + (1 : Nat)) +
                                ((64 : Nat) + ((64 : Nat) + (64 : Nat) + ((64 : Nat) + (64 : Nat)) + (1 : Nat))) +
                              (1 : Nat)) +
                          (1 : Nat) +
                        ((64 : Nat) + ((64 : Nat) + (64 : Nat) + ((64 : Nat) + (64 : Nat)) + (1 : Nat)) +
                            ((64 : Nat) + ((64 : Nat) + (64 : Nat) + ((64 : Nat) + (64 : Nat)) + (1 : Nat))) +
                          (1 : Nat)) +
                      (1 : Nat),
                  (64 : Nat) + ((64 : Nat) + (64 : Nat) + ((64 : Nat) + (64 : Nat)) + (1 : Nat)) +
                                ((64 : Nat) + ((64 : Nat) + (64 : Nat) + ((64 : Nat) + (64 : Nat)) + (1 : Nat))) +
                              (1 : Nat) +
                            ((64 : Nat) + ((64 : Nat) + (64 : Nat) + ((64 : Nat) + (64 : Nat)) + (1 : Nat)) +
                                ((64 : Nat) + ((64 : Nat) + (64 : Nat) + ((64 : Nat) + (64 : Nat)) + (1 : Nat))) +
                              (1 : Nat)) +
                          (1 : Nat) +
                        ((64 : Nat) + ((64 : Nat) + (64 : Nat) + ((64 : Nat) + (64 : Nat)) + (1 : Nat)) +
                            ((64 : Nat) + ((64 : Nat) + (64 : Nat) + ((64 : Nat) + (64 : Nat)) + (1 : Nat))) +
                          (1 : Nat)) +
                      (1 : Nat) ≤
                    (64 : Nat) + ((64 : Nat) + (64 : Nat) + ((64 : Nat) + (64 : Nat)) + (1 : Nat)) +
                                ((64 : Nat) + ((64 : Nat) + (64 : Nat) + ((64 : Nat) + (64 : Nat)) + (1 : Nat))) +
                              (1 : Nat) +
                            ((64 : Nat) + ((64 : Nat) + (64 : Nat) + ((64 : Nat) + (64 : Nat)) + (1 : Nat)) +
                                ((64 : Nat) + ((64 : Nat) + (64 : Nat) + ((64 : Nat) + (64 : Nat)) + (1 : Nat))) +
                              (1 : Nat)) +
                          (1 : Nat) +
                        ((64 : Nat) + ((64 : Nat) + (64 : Nat) + ((64 : Nat) + (64 : Nat)) + (1 : Nat)) +
                            ((64 : Nat) + ((64 : Nat) + (64 : Nat) + ((64 : Nat) + (64 : Nat)) + (1 : Nat))) +
                          (1 : Nat)) +
                      (1 : Nat),
                  (64 : Nat) + ((64 : Nat) + (64 : Nat) + ((64 : Nat) + (64 : Nat)) + (1 : Nat)) +
                                ((64 : Nat) + ((64 : Nat) + (64 : Nat) + ((64 : Nat) + (64 : Nat)) + (1 : Nat))) +
                              (1 : Nat) +
                            ((64 : Nat) + ((64 : Nat) + (64 : Nat) + ((64 : Nat) + (64 : Nat)) + (1 : Nat)) +
                                ((64 : Nat) + ((64 : Nat) + (64 : Nat) + ((64 : Nat) + (64 : Nat)) + (1 : Nat))) +
                              (1 : Nat)) +
                          (1 : Nat) +
                        ((64 : Nat) + ((64 : Nat) + (64 : Nat) + ((64 : Nat) + (64 : Nat)) + (1 : Nat)) +
                            ((64 : Nat) + ((64 : Nat) + (64 : Nat) + ((64 : Nat) + (64 : Nat)) + (1 : Nat))) +
                          (1 : Nat)) +
                      (1 : Nat) <
                    (2 : Nat) ^ (38 : Nat),
                  (bif true then
                      vsame
                        {
                          x :=
                            u.y * (v.x * w.y - v.y * w.x) - u.z * (v.z * w.x - v.x * w.z) +
                                (v.y * (w.x * u.y - w.y * u.x) - v.z * (w.z * u.x - w.x * u.z)) +
                              (w.y * (u.x * v.y - u.y * v.x) - w.z * (u.z * v.x - u.x * v.z)),
                          y :=
                            u.z * (v.y * w.z - v.z * w.y) - u.x * (v.x * w.y - v.y * w.x) +
                                (v.z * (w.y * u.z - w.z * u.y) - v.x * (w.x * u.y - w.y * u.x)) +
                              (w.z * (u.y * v.z - u.z * v.y) - w.x * (u.x * v.y - u.y * v.x)),
                          z :=
                            u.x * (v.z * w.x - v.x * w.z) - u.y * (v.y * w.z - v.z * w.y) +
                                (v.x * (w.z * u.x - w.x * u.z) - v.y * (w.y * u.z - w.z * u.y)) +
                              (w.x * (u.z * v.x - u.x * v.z) - w.y * (u.y * v.z - u.z * v.y)) }
                        v0
                    else false) =
                    true,
                  (0 : Nat) < 1, (0 : Nat) < 1, (0 : Nat) < 1, (64 : Nat) ≤ (64 : Nat),
                  (64 : Nat) ≤ (64 : Nat), (64 : Nat) ≤ (64 : Nat), (64 : Nat) ≤ (64 : Nat), (64 : Nat) ≤ (64 : Nat),
                  (64 : Nat) ≤ (64 : Nat), (64 : Nat) < (2 : Nat) ^ (34 : Nat), (64 : Nat) < (2 : Nat) ^ (34 : Nat),
                  (64 : Nat) < (2 : Nat) ^ (34 : Nat), (0 : Nat) < 1, (0 : Nat) < 1,
                  (64 : Nat) + (64 : Nat) + ((64 : Nat) + (64 : Nat)) + (1 : Nat) ≤
                    (64 : Nat) + (64 : Nat) + ((64 : Nat) + (64 : Nat)) + (1 : Nat),
                  (64 : Nat) + (64 : Nat) + ((64 : Nat) + (64 : Nat)) + (1 : Nat) ≤
                    (64 : Nat) + (64 : Nat) + ((64 : Nat) + (64 : Nat)) + (1 : Nat),
                  (64 : Nat) ≤ (64 : Nat), (64 : Nat) ≤ (64 : Nat),
                  (64 : Nat) + (64 : Nat) + ((64 : Nat) + (64 : Nat)) + (1 : Nat) < (2 : Nat) ^ (38 : Nat),
                  (64 : Nat) < (2 : Nat) ^ (38 : Nat),
                  (3 : Nat) * ((64 : Nat) + ((64 : Nat) + (64 : Nat) + ((64 : Nat) + (64 : Nat)) + (1 : Nat))) + (4 : Nat) <
                    (2 : Nat) ^ (41 : Nat),
                  (3 : Nat) * ((64 : Nat) + (64 : Nat) + ((64 : Nat) + (64 : Nat)) + (1 : Nat) + (64 : Nat)) + (4 : Nat) <
                    (2 : Nat) ^ (41 : Nat),
                  (bif true then
                      decide
                        (det { x := u.x, y := u.y, z := u.z } { x := v.x, y := v.y, z := v.z }
                            { x := w.x, y := w.y, z := w.z } =
                          dot { x := u.y * v.z - u.z * v.y, y := u.z * v.x - u.x * v.z, z := u.x * v.y - u.y * v.x }
                            { x := w.x, y := w.y, z := w.z })
                    else false) =
                    true]
                (ATree.leaf AEx.ret [AV.bool true])))))) := by kernel_rfl

theorem sgnR_zero {x : Rat} : sgnR x = 0 ↔ x = 0 := by unfold sgnR; grind
theorem GLd_ok : GOK P GLd := gok_cons s_mLight_ok (gok_cons s_mRoll_ok (gok_cons s_mPoint_ok (gok_cons s_mNumber_ok (gok_cons s_mMap_ok (gok_cons s_awake_ok gok_nil)))))
theorem GLv_ok : GOK P GLv := gok_cons s_awake_ok (gok_cons (sp3_ok vDet_ok) (gok_cons (sp1_ok gUnit_ok) (gok_cons (sp2_ok gSame_ok) (gok_cons (sp3_ok vThrough_ok) (gok_cons (sp3_ok vOrient2_ok) (gok_cons (sp2_ok vSide_ok)
  (gok_cons (sp2_ok fun _ _ K hn => eAdd_ok hn.1 hn.2 K) (gok_cons (sp2_ok fun _ _ K hn => eSub_ok hn.1 hn.2 K) (gok_cons (sp2_ok fun _ _ K hn => eMul_ok hn.1 hn.2 K)
  (gok_cons (sp2_ok fun _ _ K hn => eSame_ok (Nat.lt_trans hn.1 (by omega)) (Nat.lt_trans hn.2 (by omega)) K []) (gok_cons (sp2_ok fun _ _ K hn => eCmp_ok hn.1 hn.2 K) (gok_cons (sp1_ok fun _ K _ => eSign_ok K []) GV2_ok))))))))))))

section law
variable (u v w : V3)
theorem p1_1 : (sgnR (dot (cross u v) u) == (0 : Int)) = true := by
  rw [beq_iff_eq, sgnR_zero]; simp only [dot, cross]; grind
theorem p1_2 : (bif true then sgnR (dot (cross u v) v) == (0 : Int) else false) = true := by
  rw [cond_true, beq_iff_eq, sgnR_zero]; simp only [dot, cross]; grind
theorem p1_3 : (bif true then decide (dot (cross u v) (cross u v) = dot u u * dot v v - dot u v * dot u v) else false) = true := by
  rw [cond_true, decide_eq_true_eq]; simp only [dot, cross]; grind
theorem p1_4 : (bif true then vsame (vadd (vadd (cross u (cross v w)) (cross v (cross w u))) (cross w (cross u v))) v0 else false) = true := by
  rw [cond_true, vsame_iff]; simp only [vadd, cross, V3.mk.injEq]; grind
theorem p1_5 : (bif true then decide (det u v w = dot (cross u v) w) else false) = true := by
  rw [cond_true, decide_eq_true_eq]; simp only [det, dot, cross]; grind
end law

theorem okO_L1 {u v w : V3} : okO 65536 (L1Os u v w) := ⟨⟨by omega, fun i _ => by show keys (if (i == 0) = true then _ else _) = []; split <;> rfl⟩, ⟨by omega, fun i _ => by show keys (if (i == 0) = true then _ else _) = []; split <;> rfl⟩, ⟨by omega, fun i _ => by show keys (if (i == 0) = true then _ else _) = []; split <;> rfl⟩, trivial⟩

theorem L1_ok {n : Nat} {z : Nat → Int} (K : Nat) : FOK P law04_VectorProducts K [.tab 1 n (fun i => .int .i64 (z i))] [] (pres (.bool true) []) := by
  refine fok_down hT is_L1 rfl (of_decide_eq_true (by kernel_rfl)) rfl (fun _ c h0 => ?_) K []
  refine AWp.hole [1,1,1,1] (by kernel_rfl) (AWpL.see hT GLd_ok hm 60 [2, 4, 5, 6] L1_pre (by kernel_rfl) ?_)
  refine ⟨fun hb s' hv => then_ret (.inl ?_), fun hb => ?_⟩
  · exact fin_view (us := [.bool true]) (.inr rfl) hv (by kernel_rfl) (.refl _)
  have hn : n ≤ 500 := by simp only [Bool.not_eq_false', decide_eq_true_eq] at hb; omega
  have hd : DiceOK n (fun i => .int .i64 (z i)) 0 := ⟨fun i => rfl, by omega, by omega, by omega⟩
  refine ⟨⟨hd, hd.point, hd.point.point, Nat.zero_lt_one, Nat.zero_lt_one, Nat.zero_lt_one⟩, fun s' hv => then_go ?_⟩
  obtain ⟨u, v, w, hv⟩ : ∃ u v w : V3, viewAV [4, 5, 6] s' = some (L1Vs, L1Os u v w) := ⟨⟨_, _, _⟩, ⟨_, _, _⟩, ⟨_, _, _⟩, view_drop (l := [2]) (us := [.bool false]) hv rfl rfl⟩
  refine AWp.mono (Q := thenDo (fun s' => AWpL P c fn_law04_VectorProducts.ntmps [] s' (Lower c (Fin T fn_law04_VectorProducts (.bool true)))) (Lower c (Fin T fn_law04_VectorProducts (.bool true)))) ?_ fun e s' h => by cases e <;> exact h
  refine AWpL.finDV (l := [part (codeOf fn_law04_VectorProducts) [1,1,1,1]]) hT GLv_ok hm 60 hv (h0 _) rfl okO_L1 L1_end (by kernel_rfl) rfl ?_
  simp only [ATree.all, allP]
  (repeat' with_reducible refine And.intro ?_ ?_)
  all_goals first | omega | exact avLe0.refl _ | exact p1_1 u v | exact p1_2 u v | exact p1_3 u v | exact p1_4 u v w | exact p1_5 u v w
end Go.Am.B
