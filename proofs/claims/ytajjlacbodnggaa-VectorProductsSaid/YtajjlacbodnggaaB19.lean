/- rational.add, Mul, Quo, Cmp: what their pieces come to. -/
import Derived.Test.YtajjlacbodnggaaB18
set_option linter.unusedVariables false
namespace Go.Am.B
open Go Go.Am.N AV

theorem is_radd : FnIs P rational_add fn_rational_add (codeOf fn_rational_add) := fnIs get_rational_add (by kernel_rfl) (by kernel_rfl) (by kernel_rfl)
theorem is_rMul : FnIs P rational_Mul fn_rational_Mul (codeOf fn_rational_Mul) := fnIs get_rational_Mul (by kernel_rfl) (by kernel_rfl) (by kernel_rfl)
theorem is_rQuo : FnIs P rational_Quo fn_rational_Quo (codeOf fn_rational_Quo) := fnIs get_rational_Quo (by kernel_rfl) (by kernel_rfl) (by kernel_rfl)
theorem is_rCmp : FnIs P rational_Cmp fn_rational_Cmp (codeOf fn_rational_Cmp) := fnIs get_rational_Cmp (by kernel_rfl) (by kernel_rfl) (by kernel_rfl)
def GQ : Contracts := (rational_parts, s_parts) :: (rational_short, s_short) :: (rational_den, s_den) :: (rational_reduce, s_reduce) :: (natural_Mul, pureSpec (spec2 g_mul)) :: (natural_Add, pureSpec (spec2 g_add)) :: (natural_Sub, pureSpec (spec2 g_sub)) :: (natural_Cmp, pureSpec (spec2 g_cmp)) :: (slices_Equal_uint32_uint32, s_equal) :: (math_bits_Add64, s_add64) :: (rational_Sign, s_rSign) :: []
theorem GQ_ok : GOK P GQ := gok_cons s_parts_ok (gok_cons s_short_ok (gok_cons s_den_ok (gok_cons s_reduce_ok (gok_cons s_mul (gok_cons s_add (gok_cons s_sub (gok_cons s_cmp (gok_cons s_equal_ok (gok_cons s_add64_ok (gok_cons s_rSign_ok gok_nil))))))))))
theorem mul_end {q r : Rat} {n m : Nat} : funT T GQ [15, 20, 28, 35] 60 fn_rational_Mul (codeOf fn_rational_Mul) ⟨zipSlots 0 [.rat q n, .rat r m], [], 0⟩ =
    some
      (ATree.fork ((↑(nl q.num.natAbs) : Int) == (0 : Int))
        (ATree.must [(0 : Nat) < 1, ((↑(nl q.num.natAbs) : Int) == (0 : Int)) = true]
          (ATree.fork true
            (ATree.must [(0 : Nat) < 1]
              (ATree.must [(0 : Nat) < 1] (ATree.leaf AEx.ret [agg [AV.bool false, mag (0 : Nat), mag (0 : Nat)]])))
            (ATree.must [(0 : Nat) < 1]
              (ATree.fork (pOK q)
                (ATree.must [(0 : Nat) < 1]
                  (ATree.fork (pOK r)
                    (ATree.must
                      [(0 : Nat) < 1, (0 : Nat) < 1,
                        (0 : Int) ≤
                            IntKind.u64.wrap
                              ((↑(if pOK q = true then q.num.natAbs else (0 : Nat)) : Int) *
                                (↑(if pOK r = true then r.num.natAbs else (0 : Nat)) : Int)) ∧
                          IntKind.u64.wrap
                              ((↑(if pOK q = true then q.num.natAbs else (0 : Nat)) : Int) *
                                (↑(if pOK r = true then r.num.natAbs else (0 : Nat)) : Int)) <
                            (2 : Int) ^ (64 : Nat),
                        (0 : Int) <
                            IntKind.u64.wrap
                              ((↑(if pOK q = true then q.den else (0 : Nat)) : Int) *
                                (↑(if pOK r = true then r.den else (0 : Nat)) : Int)) ∧
                          IntKind.u64.wrap
                              ((↑(if pOK q = true then q.den else (0 : Nat)) : Int) *
                                (↑(if pOK r = true then r.den else (0 : Nat)) : Int)) <
                            (2 : Int) ^ (64 : Nat),
                        (0 : Nat) < 1]
                      (ATree.must [(0 : Nat) < 1]
                        (ATree.leaf AEx.ret
                          [rat
                              (sQ (decide (q < (0 : Rat)) != decide (r < (0 : Rat)))
                                (IntKind.u64.wrap
                                    ((↑(if pOK q = true then q.num.natAbs else (0 : Nat)) : Int) *
                                      (↑(if pOK r = true then r.num.natAbs else (0 : Nat)) : Int))).toNat
                                (IntKind.u64.wrap
                                    ((↑(if pOK q = true then q.den else (0 : Nat)) : Int) *
                                      (↑(if pOK r = true then r.den else (0 : Nat)) : Int))).toNat)
                              (rsz
                                (sQ (decide (q < (0 : Rat)) != decide (r < (0 : Rat)))
                                  (IntKind.u64.wrap
                                      ((↑(if pOK q = true then q.num.natAbs else (0 : Nat)) : Int) *
                                        (↑(if pOK r = true then r.num.natAbs else (0 : Nat)) : Int))).toNat
                                  (IntKind.u64.wrap
                                      ((↑(if pOK q = true then q.den else (0 : Nat)) : Int) *
                                        (↑(if pOK r = true then r.den else (0 : Nat)) : Int))).toNat))])))
                    (ATree.must
                      [(0 : Nat) < 1, (0 : Nat) < 1, (0 : Nat) < 1, (0 : Nat) < 1,
                        nl q.num.natAbs < (2 : Nat) ^ (40 : Nat), nl r.num.natAbs < (2 : Nat) ^ (40 : Nat),
                        (0 : Nat) < 1, (0 : Nat) < 1, nl q.den < (2 : Nat) ^ (40 : Nat),
                        nl r.den < (2 : Nat) ^ (40 : Nat), nl (q.num.natAbs * r.num.natAbs) < (2 : Nat) ^ (40 : Nat),
                        nl (q.den * r.den) < (2 : Nat) ^ (40 : Nat), (0 : Nat) < 1]
                      (ATree.must [(0 : Nat) < 1]
                        (ATree.leaf AEx.ret
                          [rat
                              (sQ (decide (q < (0 : Rat)) != decide (r < (0 : Rat))) (q.num.natAbs * r.num.natAbs)
                                (q.den * r.den))
                              (rsz
                                (sQ (decide (q < (0 : Rat)) != decide (r < (0 : Rat))) (q.num.natAbs * r.num.natAbs)
                                  (q.den * r.den)))])))))
                (ATree.must
                  [(0 : Nat) < 1, (0 : Nat) < 1, (0 : Nat) < 1, (0 : Nat) < 1,
                    nl q.num.natAbs < (2 : Nat) ^ (40 : Nat), nl r.num.natAbs < (2 : Nat) ^ (40 : Nat),
                    (0 : Nat) < 1, (0 : Nat) < 1, nl q.den < (2 : Nat) ^ (40 : Nat),
                    nl r.den < (2 : Nat) ^ (40 : Nat), nl (q.num.natAbs * r.num.natAbs) < (2 : Nat) ^ (40 : Nat),
                    nl (q.den * r.den) < (2 : Nat) ^ (40 : Nat), (0 : Nat) < 1]
                  (ATree.must [(0 : Nat) < 1]
                    (ATree.leaf AEx.ret
                      [rat
                          (sQ (decide (q < (0 : Rat)) != decide (r < (0 : Rat))) (q.num.natAbs * r.num.natAbs)
                            (q.den * r.den))
                          (rsz
                            (sQ (decide (q < (0 : Rat)) != decide (r < (0 : Rat))) (q.num.natAbs * r.num.natAbs)
                              (q.den * r.den)))])))))))
        (ATree.must [(0 : Nat) < 1, ((↑(nl q.num.natAbs) : Int) == (0 : Int)) = false, (0 : Nat) < 1]
          (ATree.fork (bif false then true else (↑(nl r.num.natAbs) : Int) == (0 : Int))
            (ATree.must [(0 : Nat) < 1]
              (ATree.must [(0 : Nat) < 1] (ATree.leaf AEx.ret [agg [AV.bool false, mag (0 : Nat), mag (0 : Nat)]])))
            (ATree.must [(0 : Nat) < 1]
              (ATree.fork (pOK q)
                (ATree.must [(0 : Nat) < 1]
                  (ATree.fork (pOK r)
                    (ATree.must
                      [(0 : Nat) < 1, (0 : Nat) < 1,
                        (0 : Int) ≤
                            IntKind.u64.wrap
                              ((↑(if pOK q = true then q.num.natAbs else (0 : Nat)) : Int) *
                                (↑(if pOK r = true then r.num.natAbs else (0 : Nat)) : Int)) ∧
                          IntKind.u64.wrap
                              ((↑(if pOK q = true then q.num.natAbs else (0 : Nat)) : Int) *
                                (↑(if pOK r = true then r.num.natAbs else (0 : Nat)) : Int)) <
                            (2 : Int) ^ (64 : Nat),
                        (0 : Int) <
                            IntKind.u64.wrap
                              ((↑(if pOK q = true then q.den else (0 : Nat)) : Int) *
                                (↑(if pOK r = true then r.den else (0 : Nat)) : Int)) ∧
                          IntKind.u64.wrap
                              ((↑(if pOK q = true then q.den else (0 : Nat)) : Int) *
                                (↑(if pOK r = true then r.den else (0 : Nat)) : Int)) <
                            (2 : Int) ^ (64 : Nat),
                        (0 : Nat) < 1]
                      (ATree.must [(0 : Nat) < 1]
                        (ATree.leaf AEx.ret
                          [rat
                              (sQ (decide (q < (0 : Rat)) != decide (r < (0 : Rat)))
                                (IntKind.u64.wrap
                                    ((↑(if pOK q = true then q.num.natAbs else (0 : Nat)) : Int) *
                                      (↑(if pOK r = true then r.num.natAbs else (0 : Nat)) : Int))).toNat
                                (IntKind.u64.wrap
                                    ((↑(if pOK q = true then q.den else (0 : Nat)) : Int) *
                                      (↑(if pOK r = true then r.den else (0 : Nat)) : Int))).toNat)
                              (rsz
                                (sQ (decide (q < (0 : Rat)) != decide (r < (0 : Rat)))
                                  (IntKind.u64.wrap
                                      ((↑(if pOK q = true then q.num.natAbs else (0 : Nat)) : Int) *
                                        (↑(if pOK r = true then r.num.natAbs else (0 : Nat)) : Int))).toNat
                                  (IntKind.u64.wrap
                                      ((↑(if pOK q = true then q.den else (0 : Nat)) : Int) *
                                        (↑(if pOK r = true then r.den else (0 : Nat)) : Int))).toNat))])))
                    (ATree.must
                      [(0 : Nat) < 1, (0 : Nat) < 1, (0 : Nat) < 1, (0 : Nat) < 1,
                        nl q.num.natAbs < (2 : Nat) ^ (40 : Nat), nl r.num.natAbs < (2 : Nat) ^ (40 : Nat),
                        (0 : Nat) < 1, (0 : Nat) < 1, nl q.den < (2 : Nat) ^ (40 : Nat),
                        nl r.den < (2 : Nat) ^ (40 : Nat), nl (q.num.natAbs * r.num.natAbs) < (2 : Nat) ^ (40 : Nat),
                        nl (q.den * r.den) < (2 : Nat) ^ (40 : Nat), (0 : Nat) < 1]
                      (ATree.must [(0 : Nat) < 1]
                        (ATree.leaf AEx.ret
                          [rat
                              (sQ (decide (q < (0 : Rat)) != decide (r < (0 : Rat))) (q.num.natAbs * r.num.natAbs)
                                (q.den * r.den))
                              (rsz
                                (sQ (decide (q < (0 : Rat)) != decide (r < (0 : Rat))) (q.num.natAbs * r.num.natAbs)
                                  (q.den * r.den)))])))))
                (ATree.must
                  [(0 : Nat) < 1, (0 : Nat) < 1, (0 : Nat) < 1, (0 : Nat) < 1,
                    nl q.num.natAbs < (2 : Nat) ^ (40 : Nat), nl r.num.natAbs < (2 : Nat) ^ (40 : Nat),
                    (0 : Nat) < 1, (0 : Nat) < 1, nl q.den < (2 : Nat) ^ (40 : Nat),
                    nl r.den < (2 : Nat) ^ (40 : Nat), nl (q.num.natAbs * r.num.natAbs) < (2 : Nat) ^ (40 : Nat),
                    nl (q.den * r.den) < (2 : Nat) ^ (40 : Nat), (0 : Nat) < 1]
                  (ATree.must [(0 : Nat) < 1]
                    (ATree.leaf AEx.ret
                      [rat
                          (sQ (decide (q < (0 : Rat)) != decide (r < (0 : Rat))) (q.num.natAbs * r.num.natAbs)
                            (q.den * r.den))
                          (rsz
                            (sQ (decide (q < (0 : Rat)) != decide (r < (0 : Rat))) (q.num.natAbs * r.num.natAbs)
                              (q.den * r.den)))])))))))) := by kernel_rfl
theorem quo_end {q r : Rat} {n m : Nat} : funT T GQ [14, 22, 29] 60 fn_rational_Quo (codeOf fn_rational_Quo) ⟨zipSlots 0 [.rat q n, .rat r m], [], 0⟩ =
    some
      (ATree.must [(0 : Nat) < 1, m < (2 : Nat) ^ (44 : Nat)]
        (ATree.fork (sgnR r == (0 : Int))
          (ATree.must [(0 : Nat) < 1]
            (ATree.must [(0 : Nat) < 1]
              (ATree.leaf AEx.ret [agg [AV.bool false, mag (0 : Nat), mag (0 : Nat)], int IntKind.i64 (3 : Int)])))
          (ATree.must [(0 : Nat) < 1]
            (ATree.fork (pOK q)
              (ATree.must [(0 : Nat) < 1]
                (ATree.fork (pOK r)
                  (ATree.must
                    [(0 : Nat) < 1, (0 : Nat) < 1,
                      (0 : Int) ≤
                          IntKind.u64.wrap
                            ((↑(if pOK q = true then q.num.natAbs else (0 : Nat)) : Int) *
                              (↑(if pOK r = true then r.den else (0 : Nat)) : Int)) ∧
                        IntKind.u64.wrap
                            ((↑(if pOK q = true then q.num.natAbs else (0 : Nat)) : Int) *
                              (↑(if pOK r = true then r.den else (0 : Nat)) : Int)) <
                          (2 : Int) ^ (64 : Nat),
                      (0 : Int) <
                          IntKind.u64.wrap
                            ((↑(if pOK q = true then q.den else (0 : Nat)) : Int) *
                              (↑(if pOK r = true then r.num.natAbs else (0 : Nat)) : Int)) ∧
                        IntKind.u64.wrap
                            ((↑(if pOK q = true then q.den else (0 : Nat)) : Int) *
                              (↑(if pOK r = true then r.num.natAbs else (0 : Nat)) : Int)) <
                          (2 : Int) ^ (64 : Nat),
                      (0 : Nat) < 1]
                    (ATree.must [(0 : Nat) < 1]
                      (ATree.leaf AEx.ret
                        [rat
                            (sQ (decide (q < (0 : Rat)) != decide (r < (0 : Rat)))
                              (IntKind.u64.wrap
                                  ((↑(if pOK q = true then q.num.natAbs else (0 : Nat)) : Int) *
                                    (↑(if pOK r = true then r.den else (0 : Nat)) : Int))).toNat
                              (IntKind.u64.wrap
                                  ((↑(if pOK q = true then q.den else (0 : Nat)) : Int) *
                                    (↑(if pOK r = true then r.num.natAbs else (0 : Nat)) : Int))).toNat)
                            (rsz
                              (sQ (decide (q < (0 : Rat)) != decide (r < (0 : Rat)))
                                (IntKind.u64.wrap
                                    ((↑(if pOK q = true then q.num.natAbs else (0 : Nat)) : Int) *
                                      (↑(if pOK r = true then r.den else (0 : Nat)) : Int))).toNat
                                (IntKind.u64.wrap
                                    ((↑(if pOK q = true then q.den else (0 : Nat)) : Int) *
                                      (↑(if pOK r = true then r.num.natAbs else (0 : Nat)) : Int))).toNat)),
                          int IntKind.i64 (0 : Int)])))
                  (ATree.must
                    [(0 : Nat) < 1, (0 : Nat) < 1, (0 : Nat) < 1, (0 : Nat) < 1,
                      nl q.num.natAbs < (2 : Nat) ^ (40 : Nat), nl r.den < (2 : Nat) ^ (40 : Nat), (0 : Nat) < 1,
                      (0 : Nat) < 1, nl q.den < (2 : Nat) ^ (40 : Nat), nl r.num.natAbs < (2 : Nat) ^ (40 : Nat),
                      nl (q.num.natAbs * r.den) < (2 : Nat) ^ (40 : Nat),
                      nl (q.den * r.num.natAbs) < (2 : Nat) ^ (40 : Nat), (0 : Nat) < 1]
                    (ATree.must [(0 : Nat) < 1]
                      (ATree.leaf AEx.ret
                        [rat
                            (sQ (decide (q < (0 : Rat)) != decide (r < (0 : Rat))) (q.num.natAbs * r.den)
                              (q.den * r.num.natAbs))
                            (rsz
                              (sQ (decide (q < (0 : Rat)) != decide (r < (0 : Rat))) (q.num.natAbs * r.den)
                                (q.den * r.num.natAbs))),
                          int IntKind.i64 (0 : Int)])))))
              (ATree.must
                [(0 : Nat) < 1, (0 : Nat) < 1, (0 : Nat) < 1, (0 : Nat) < 1,
                  nl q.num.natAbs < (2 : Nat) ^ (40 : Nat), nl r.den < (2 : Nat) ^ (40 : Nat), (0 : Nat) < 1,
                  (0 : Nat) < 1, nl q.den < (2 : Nat) ^ (40 : Nat), nl r.num.natAbs < (2 : Nat) ^ (40 : Nat),
                  nl (q.num.natAbs * r.den) < (2 : Nat) ^ (40 : Nat), nl (q.den * r.num.natAbs) < (2 : Nat) ^ (40 : Nat),
                  (0 : Nat) < 1]
                (ATree.must [(0 : Nat) < 1]
                  (ATree.leaf AEx.ret
                    [rat
                        (sQ (decide (q < (0 : Rat)) != decide (r < (0 : Rat))) (q.num.natAbs * r.den)
                          (q.den * r.num.natAbs))
                        (rsz
                          (sQ (decide (q < (0 : Rat)) != decide (r < (0 : Rat))) (q.num.natAbs * r.den)
                            (q.den * r.num.natAbs))),
                      int IntKind.i64 (0 : Int)]))))))) := by kernel_rfl
abbrev raLs : List Nat := [2, 3, 4, 6]
abbrev raVs (s : Bool) : List AV := [.bool s, .ptr 0 0 3 0 [], .ptr 4096 0 3 0 [], .ptr 8192 0 3 0 []]
abbrev raOs (q r : Rat) (n m : Nat) : Store := [(8192, ⟨false, true, 3, 1, fun _ => .rat 0 1⟩), (4096, ⟨false, true, 3, 1, fun _ => .rat r m⟩), (0, ⟨false, true, 3, 1, fun _ => .rat q n⟩)]
noncomputable abbrev raA : Code := part (codeOf fn_rational_add) [1,0]
noncomputable abbrev raX : Code := part raA [1,1,0]
noncomputable abbrev raY : Code := part raX [1,1,0]
noncomputable abbrev raZ : Code := part (codeOf fn_rational_add) [1,1]
theorem add_0 {q r : Rat} {n m : Nat} {s : Bool} : seeL T GQ [] 60 raLs [part (codeOf fn_rational_add) [0]] ⟨zipSlots 0 [.rat q n, .rat r m, .bool s], [], 0⟩ =
    some
      (ATree.leaf AEx.normal
        ([AV.bool s, ptr (0 : Nat) (0 : Nat) (deN (rat q n)).size (0 : Nat) [],
            ptr (4096 : Nat) (0 : Nat) (deN (rat r m)).size (0 : Nat) [],
            ptr (8192 : Nat) (0 : Nat) (3 : Nat) (0 : Nat) []],
          [((8192 : Nat),
              { row := false, wr := true, es := (3 : Nat), len := (1 : Nat),
                f := fun (x : Nat) ↦ rat (0 : Rat) (1 : Nat) }),
            ((4096 : Nat),
              { row := false, wr := true, es := (deN (rat r m)).size, len := (1 : Nat),
                f := fun (x : Nat) ↦ deN (rat r m) }),
            ((0 : Nat),
              { row := false, wr := true, es := (deN (rat q n)).size, len := (1 : Nat),
                f := fun (x : Nat) ↦ deN (rat q n) })])) := by kernel_rfl
theorem add_1 {q r : Rat} {n m : Nat} {s : Bool} : seeL T GQ [] 60 (raLs ++ [7, 8, 28]) (before raA [1,1]) ⟨zipL raLs (raVs s), raOs q r n m, 8193⟩ =
    some
      (ATree.must [(0 : Nat) < 1]
        (ATree.leaf AEx.normal
          ([AV.bool s, ptr (0 : Nat) (0 : Nat) (3 : Nat) (0 : Nat) [], ptr (4096 : Nat) (0 : Nat) (3 : Nat) (0 : Nat) [],
              ptr (8192 : Nat) (0 : Nat) (3 : Nat) (0 : Nat) [],
              int IntKind.u64 (↑(if pOK q = true then q.num.natAbs else (0 : Nat)) : Int),
              int IntKind.u64 (↑(if pOK q = true then q.den else (0 : Nat)) : Int), AV.bool (pOK q)],
            [((8192 : Nat),
                { row := false, wr := true, es := (3 : Nat), len := (1 : Nat),
                  f := fun (x : Nat) ↦ rat (0 : Rat) (1 : Nat) }),
              ((4096 : Nat), { row := false, wr := true, es := (3 : Nat), len := (1 : Nat), f := fun (x : Nat) ↦ rat r m }),
              ((0 : Nat), { row := false, wr := true, es := (3 : Nat), len := (1 : Nat), f := fun (x : Nat) ↦ rat q n })]))) := by kernel_rfl
theorem add_2 {q r : Rat} {n m : Nat} {s : Bool} {x p : Nat} : seeL T GQ [] 60 (raLs ++ [7, 8, 10, 11, 35]) (before raX [1,1]) ⟨zipL (raLs ++ [7, 8]) (raVs s ++ [.int .u64 x, .int .u64 p]), raOs q r n m, 8193⟩ =
    some
      (ATree.must [(0 : Nat) < 1]
        (ATree.leaf AEx.normal
          ([AV.bool s, ptr (0 : Nat) (0 : Nat) (3 : Nat) (0 : Nat) [], ptr (4096 : Nat) (0 : Nat) (3 : Nat) (0 : Nat) [],
              ptr (8192 : Nat) (0 : Nat) (3 : Nat) (0 : Nat) [], int IntKind.u64 (↑x : Int), int IntKind.u64 (↑p : Int),
              int IntKind.u64 (↑(if pOK r = true then r.num.natAbs else (0 : Nat)) : Int),
              int IntKind.u64 (↑(if pOK r = true then r.den else (0 : Nat)) : Int), AV.bool (pOK r)],
            [((8192 : Nat),
                { row := false, wr := true, es := (3 : Nat), len := (1 : Nat),
                  f := fun (x : Nat) ↦ rat (0 : Rat) (1 : Nat) }),
              ((4096 : Nat), { row := false, wr := true, es := (3 : Nat), len := (1 : Nat), f := fun (x : Nat) ↦ rat r m }),
              ((0 : Nat), { row := false, wr := true, es := (3 : Nat), len := (1 : Nat), f := fun (x : Nat) ↦ rat q n })]))) := by kernel_rfl
abbrev raOsA (b : Bool) (N D : Nat) (r : Rat) (m : Nat) (f : Nat → AV) : Store := [(8192, ⟨false, true, 3, 1, f⟩), (4096, ⟨false, true, 3, 1, fun _ => .rat r m⟩), (0, ⟨false, true, 3, 1, fun _ => .agg [.bool b, .mag N, .mag D]⟩)]
theorem add_tt {r : Rat} {m N D : Nat} {x p y t : Nat} : seeL T GQ [48] 60 raLs [raY] ⟨zipL (raLs ++ [7, 8, 10, 11]) (raVs true ++ [.int .u64 x, .int .u64 p, .int .u64 y, .int .u64 t]), raOsA true N D r m fun _ => .rat 0 1, 8193⟩ =
    some
      (ATree.must
        [(0 : Int) ≤ IntKind.u64.wrap ((↑x : Int) * (↑t : Int)), (0 : Int) ≤ IntKind.u64.wrap ((↑y : Int) * (↑p : Int)),
          (0 : Int) ≤ (0 : Int) ∧ (0 : Int) ≤ (1 : Int)]
        (ATree.must [(0 : Nat) < 1]
          (ATree.fork
            (bif true == true then
              (IntKind.u64.wrap ((↑x : Int) * (↑t : Int)) + IntKind.u64.wrap ((↑y : Int) * (↑p : Int)) + (0 : Int)) /
                  (18446744073709551616 : Int) ==
                (0 : Int)
            else false)
            (ATree.must
              [(0 : Int) ≤
                    (IntKind.u64.wrap ((↑x : Int) * (↑t : Int)) + IntKind.u64.wrap ((↑y : Int) * (↑p : Int)) + (0 : Int)) %
                      (18446744073709551616 : Int) ∧
                  (IntKind.u64.wrap ((↑x : Int) * (↑t : Int)) + IntKind.u64.wrap ((↑y : Int) * (↑p : Int)) + (0 : Int)) %
                      (18446744073709551616 : Int) <
                    (2 : Int) ^ (64 : Nat),
                (0 : Int) < IntKind.u64.wrap ((↑p : Int) * (↑t : Int)) ∧
                  IntKind.u64.wrap ((↑p : Int) * (↑t : Int)) < (2 : Int) ^ (64 : Nat),
                (0 : Nat) < 1]
              (ATree.leaf AEx.ret
                ([AV.bool true, ptr (0 : Nat) (0 : Nat) (3 : Nat) (0 : Nat) [],
                    ptr (4096 : Nat) (0 : Nat) (3 : Nat) (0 : Nat) [], ptr (8192 : Nat) (0 : Nat) (3 : Nat) (0 : Nat) []],
                  [((8192 : Nat),
                      { row := false, wr := true, es := (3 : Nat), len := (1 : Nat),
                        f := fun (j : Nat) ↦
                          if (j == (0 : Nat)) = true then
                            deN
                              (rat
                                (sQ true
                                  ((IntKind.u64.wrap ((↑x : Int) * (↑t : Int)) +
                                          IntKind.u64.wrap ((↑y : Int) * (↑p : Int)) +
                                        (0 : Int)) %
                                      (18446744073709551616 : Int)).toNat
                                  (IntKind.u64.wrap ((↑p : Int) * (↑t : Int))).toNat)
                                (rsz
                                  (sQ true
                                    ((IntKind.u64.wrap ((↑x : Int) * (↑t : Int)) +
                                            IntKind.u64.wrap ((↑y : Int) * (↑p : Int)) +
                                          (0 : Int)) %
                                        (18446744073709551616 : Int)).toNat
                                    (IntKind.u64.wrap ((↑p : Int) * (↑t : Int))).toNat)))
                          else rat (0 : Rat) (1 : Nat) }),
                    ((4096 : Nat),
                      { row := false, wr := true, es := (3 : Nat), len := (1 : Nat), f := fun (x : Nat) ↦ rat r m }),
                    ((0 : Nat),
                      { row := false, wr := true, es := (3 : Nat), len := (1 : Nat),
                        f := fun (x : Nat) ↦ agg [AV.bool true, mag N, mag D] })])))
            (ATree.must [(0 : Nat) < 1]
              (ATree.must [(0 : Nat) < 1]
                (ATree.leaf AEx.normal
                  ([AV.bool true, ptr (0 : Nat) (0 : Nat) (3 : Nat) (0 : Nat) [],
                      ptr (4096 : Nat) (0 : Nat) (3 : Nat) (0 : Nat) [], ptr (8192 : Nat) (0 : Nat) (3 : Nat) (0 : Nat) []],
                    [((8192 : Nat),
                        { row := false, wr := true, es := (3 : Nat), len := (1 : Nat),
                          f := fun (x : Nat) ↦ rat (0 : Rat) (1 : Nat) }),
                      ((4096 : Nat),
                        { row := false, wr := true, es := (3 : Nat), len := (1 : Nat), f := fun (x : Nat) ↦ rat r m }),
                      ((0 : Nat),
                        { row := false, wr := true, es := (3 : Nat), len := (1 : Nat),
                          f := fun (x : Nat) ↦ agg [AV.bool true, mag N, mag D] })]))))))) := by kernel_rfl
theorem add_ff {r : Rat} {m N D : Nat} {x p y t : Nat} : seeL T GQ [48] 60 raLs [raY] ⟨zipL (raLs ++ [7, 8, 10, 11]) (raVs false ++ [.int .u64 x, .int .u64 p, .int .u64 y, .int .u64 t]), raOsA false N D r m fun _ => .rat 0 1, 8193⟩ =
    some
      (ATree.must
        [(0 : Int) ≤ IntKind.u64.wrap ((↑x : Int) * (↑t : Int)), (0 : Int) ≤ IntKind.u64.wrap ((↑y : Int) * (↑p : Int)),
          (0 : Int) ≤ (0 : Int) ∧ (0 : Int) ≤ (1 : Int)]
        (ATree.must [(0 : Nat) < 1]
          (ATree.fork
            (bif false == false then
              (IntKind.u64.wrap ((↑x : Int) * (↑t : Int)) + IntKind.u64.wrap ((↑y : Int) * (↑p : Int)) + (0 : Int)) /
                  (18446744073709551616 : Int) ==
                (0 : Int)
            else false)
            (ATree.must
              [(0 : Int) ≤
                    (IntKind.u64.wrap ((↑x : Int) * (↑t : Int)) + IntKind.u64.wrap ((↑y : Int) * (↑p : Int)) + (0 : Int)) %
                      (18446744073709551616 : Int) ∧
                  (IntKind.u64.wrap ((↑x : Int) * (↑t : Int)) + IntKind.u64.wrap ((↑y : Int) * (↑p : Int)) + (0 : Int)) %
                      (18446744073709551616 : Int) <
                    (2 : Int) ^ (64 : Nat),
                (0 : Int) < IntKind.u64.wrap ((↑p : Int) * (↑t : Int)) ∧
                  IntKind.u64.wrap ((↑p : Int) * (↑t : Int)) < (2 : Int) ^ (64 : Nat),
                (0 : Nat) < 1]
              (ATree.leaf AEx.ret
                ([AV.bool false, ptr (0 : Nat) (0 : Nat) (3 : Nat) (0 : Nat) [],
                    ptr (4096 : Nat) (0 : Nat) (3 : Nat) (0 : Nat) [], ptr (8192 : Nat) (0 : Nat) (3 : Nat) (0 : Nat) []],
                  [((8192 : Nat),
                      { row := false, wr := true, es := (3 : Nat), len := (1 : Nat),
                        f := fun (j : Nat) ↦
                          if (j == (0 : Nat)) = true then
                            deN
                              (rat
                                (sQ false
                                  ((IntKind.u64.wrap ((↑x : Int) * (↑t : Int)) +
                                          IntKind.u64.wrap ((↑y : Int) * (↑p : Int)) +
                                        (0 : Int)) %
                                      (18446744073709551616 : Int)).toNat
                                  (IntKind.u64.wrap ((↑p : Int) * (↑t : Int))).toNat)
                                (rsz
                                  (sQ false
                                    ((IntKind.u64.wrap ((↑x : Int) * (↑t : Int)) +
                                            IntKind.u64.wrap ((↑y : Int) * (↑p : Int)) +
                                          (0 : Int)) %
                                        (18446744073709551616 : Int)).toNat
                                    (IntKind.u64.wrap ((↑p : Int) * (↑t : Int))).toNat)))
                          else rat (0 : Rat) (1 : Nat) }),
                    ((4096 : Nat),
                      { row := false, wr := true, es := (3 : Nat), len := (1 : Nat), f := fun (x : Nat) ↦ rat r m }),
                    ((0 : Nat),
                      { row := false, wr := true, es := (3 : Nat), len := (1 : Nat),
                        f := fun (x : Nat) ↦ agg [AV.bool false, mag N, mag D] })])))
            (ATree.must [(0 : Nat) < 1]
              (ATree.must [(0 : Nat) < 1]
                (ATree.leaf AEx.normal
                  ([AV.bool false, ptr (0 : Nat) (0 : Nat) (3 : Nat) (0 : Nat) [],
                      ptr (4096 : Nat) (0 : Nat) (3 : Nat) (0 : Nat) [], ptr (8192 : Nat) (0 : Nat) (3 : Nat) (0 : Nat) []],
                    [((8192 : Nat),
                        { row := false, wr := true, es := (3 : Nat), len := (1 : Nat),
                          f := fun (x : Nat) ↦ rat (0 : Rat) (1 : Nat) }),
                      ((4096 : Nat),
                        { row := false, wr := true, es := (3 : Nat), len := (1 : Nat), f := fun (x : Nat) ↦ rat r m }),
                      ((0 : Nat),
                        { row := false, wr := true, es := (3 : Nat), len := (1 : Nat),
                          f := fun (x : Nat) ↦ agg [AV.bool false, mag N, mag D] })]))))))) := by kernel_rfl
theorem add_tf {r : Rat} {m N D : Nat} {x p y t : Nat} : seeL T GQ [63] 60 raLs [raY] ⟨zipL (raLs ++ [7, 8, 10, 11]) (raVs false ++ [.int .u64 x, .int .u64 p, .int .u64 y, .int .u64 t]), raOsA true N D r m fun _ => .rat 0 1, 8193⟩ =
    some
      (ATree.must
        [(0 : Int) ≤ IntKind.u64.wrap ((↑x : Int) * (↑t : Int)), (0 : Int) ≤ IntKind.u64.wrap ((↑y : Int) * (↑p : Int)),
          (0 : Int) ≤ (0 : Int) ∧ (0 : Int) ≤ (1 : Int)]
        (ATree.must [(0 : Nat) < 1]
          (ATree.must [(0 : Nat) < 1]
            (ATree.fork
              (bif true != false then
                decide (IntKind.u64.wrap ((↑x : Int) * (↑t : Int)) ≥ IntKind.u64.wrap ((↑y : Int) * (↑p : Int)))
              else false)
              (ATree.must
                [(0 : Nat) < 1,
                  (0 : Int) ≤
                      IntKind.u64.wrap
                        (IntKind.u64.wrap ((↑x : Int) * (↑t : Int)) - IntKind.u64.wrap ((↑y : Int) * (↑p : Int))) ∧
                    IntKind.u64.wrap
                        (IntKind.u64.wrap ((↑x : Int) * (↑t : Int)) - IntKind.u64.wrap ((↑y : Int) * (↑p : Int))) <
                      (2 : Int) ^ (64 : Nat),
                  (0 : Int) < IntKind.u64.wrap ((↑p : Int) * (↑t : Int)) ∧
                    IntKind.u64.wrap ((↑p : Int) * (↑t : Int)) < (2 : Int) ^ (64 : Nat),
                  (0 : Nat) < 1]
                (ATree.leaf AEx.ret
                  ([AV.bool false, ptr (0 : Nat) (0 : Nat) (3 : Nat) (0 : Nat) [],
                      ptr (4096 : Nat) (0 : Nat) (3 : Nat) (0 : Nat) [], ptr (8192 : Nat) (0 : Nat) (3 : Nat) (0 : Nat) []],
                    [((8192 : Nat),
                        { row := false, wr := true, es := (3 : Nat), len := (1 : Nat),
                          f := fun (j : Nat) ↦
                            if (j == (0 : Nat)) = true then
                              deN
                                (rat
                                  (sQ true
                                    (IntKind.u64.wrap
                                        (IntKind.u64.wrap ((↑x : Int) * (↑t : Int)) -
                                          IntKind.u64.wrap ((↑y : Int) * (↑p : Int)))).toNat
                                    (IntKind.u64.wrap ((↑p : Int) * (↑t : Int))).toNat)
                                  (rsz
                                    (sQ true
                                      (IntKind.u64.wrap
                                          (IntKind.u64.wrap ((↑x : Int) * (↑t : Int)) -
                                            IntKind.u64.wrap ((↑y : Int) * (↑p : Int)))).toNat
                                      (IntKind.u64.wrap ((↑p : Int) * (↑t : Int))).toNat)))
                            else rat (0 : Rat) (1 : Nat) }),
                      ((4096 : Nat),
                        { row := false, wr := true, es := (3 : Nat), len := (1 : Nat), f := fun (x : Nat) ↦ rat r m }),
                      ((0 : Nat),
                        { row := false, wr := true, es := (3 : Nat), len := (1 : Nat),
                          f := fun (x : Nat) ↦ agg [AV.bool true, mag N, mag D] })])))
              (ATree.must [(0 : Nat) < 1]
                (ATree.must
                  [(0 : Int) ≤
                        IntKind.u64.wrap
                          (IntKind.u64.wrap ((↑y : Int) * (↑p : Int)) - IntKind.u64.wrap ((↑x : Int) * (↑t : Int))) ∧
                      IntKind.u64.wrap
                          (IntKind.u64.wrap ((↑y : Int) * (↑p : Int)) - IntKind.u64.wrap ((↑x : Int) * (↑t : Int))) <
                        (2 : Int) ^ (64 : Nat),
                    (0 : Int) < IntKind.u64.wrap ((↑p : Int) * (↑t : Int)) ∧
                      IntKind.u64.wrap ((↑p : Int) * (↑t : Int)) < (2 : Int) ^ (64 : Nat),
                    (0 : Nat) < 1]
                  (ATree.leaf AEx.ret
                    ([AV.bool false, ptr (0 : Nat) (0 : Nat) (3 : Nat) (0 : Nat) [],
                        ptr (4096 : Nat) (0 : Nat) (3 : Nat) (0 : Nat) [],
                        ptr (8192 : Nat) (0 : Nat) (3 : Nat) (0 : Nat) []],
                      [((8192 : Nat),
                          { row := false, wr := true, es := (3 : Nat), len := (1 : Nat),
                            f := fun (j : Nat) ↦
                              if (j == (0 : Nat)) = true then
                                deN
                                  (rat
                                    (sQ false
                                      (IntKind.u64.wrap
                                          (IntKind.u64.wrap ((↑y : Int) * (↑p : Int)) -
                                            IntKind.u64.wrap ((↑x : Int) * (↑t : Int)))).toNat
                                      (IntKind.u64.wrap ((↑p : Int) * (↑t : Int))).toNat)
                                    (rsz
                                      (sQ false
                                        (IntKind.u64.wrap
                                            (IntKind.u64.wrap ((↑y : Int) * (↑p : Int)) -
                                              IntKind.u64.wrap ((↑x : Int) * (↑t : Int)))).toNat
                                        (IntKind.u64.wrap ((↑p : Int) * (↑t : Int))).toNat)))
                              else rat (0 : Rat) (1 : Nat) }),
                        ((4096 : Nat),
                          { row := false, wr := true, es := (3 : Nat), len := (1 : Nat), f := fun (x : Nat) ↦ rat r m }),
                        ((0 : Nat),
                          { row := false, wr := true, es := (3 : Nat), len := (1 : Nat),
                            f := fun (x : Nat) ↦ agg [AV.bool true, mag N, mag D] })])))))))) := by kernel_rfl
theorem add_ft {r : Rat} {m N D : Nat} {x p y t : Nat} : seeL T GQ [63] 60 raLs [raY] ⟨zipL (raLs ++ [7, 8, 10, 11]) (raVs true ++ [.int .u64 x, .int .u64 p, .int .u64 y, .int .u64 t]), raOsA false N D r m fun _ => .rat 0 1, 8193⟩ =
    some
      (ATree.must
        [(0 : Int) ≤ IntKind.u64.wrap ((↑x : Int) * (↑t : Int)), (0 : Int) ≤ IntKind.u64.wrap ((↑y : Int) * (↑p : Int)),
          (0 : Int) ≤ (0 : Int) ∧ (0 : Int) ≤ (1 : Int)]
        (ATree.must [(0 : Nat) < 1]
          (ATree.must [(0 : Nat) < 1]
            (ATree.fork
              (bif false != true then
                decide (IntKind.u64.wrap ((↑x : Int) * (↑t : Int)) ≥ IntKind.u64.wrap ((↑y : Int) * (↑p : Int)))
              else false)
              (ATree.must
                [(0 : Nat) < 1,
                  (0 : Int) ≤
                      IntKind.u64.wrap
                        (IntKind.u64.wrap ((↑x : Int) * (↑t : Int)) - IntKind.u64.wrap ((↑y : Int) * (↑p : Int))) ∧
                    IntKind.u64.wrap
                        (IntKind.u64.wrap ((↑x : Int) * (↑t : Int)) - IntKind.u64.wrap ((↑y : Int) * (↑p : Int))) <
                      (2 : Int) ^ (64 : Nat),
                  (0 : Int) < IntKind.u64.wrap ((↑p : Int) * (↑t : Int)) ∧
                    IntKind.u64.wrap ((↑p : Int) * (↑t : Int)) < (2 : Int) ^ (64 : Nat),
                  (0 : Nat) < 1]
                (ATree.leaf AEx.ret
                  ([AV.bool true, ptr (0 : Nat) (0 : Nat) (3 : Nat) (0 : Nat) [],
                      ptr (4096 : Nat) (0 : Nat) (3 : Nat) (0 : Nat) [], ptr (8192 : Nat) (0 : Nat) (3 : Nat) (0 : Nat) []],
                    [((8192 : Nat),
                        { row := false, wr := true, es := (3 : Nat), len := (1 : Nat),
                          f := fun (j : Nat) ↦
                            if (j == (0 : Nat)) = true then
                              deN
                                (rat
                                  (sQ false
                                    (IntKind.u64.wrap
                                        (IntKind.u64.wrap ((↑x : Int) * (↑t : Int)) -
                                          IntKind.u64.wrap ((↑y : Int) * (↑p : Int)))).toNat
                                    (IntKind.u64.wrap ((↑p : Int) * (↑t : Int))).toNat)
                                  (rsz
                                    (sQ false
                                      (IntKind.u64.wrap
                                          (IntKind.u64.wrap ((↑x : Int) * (↑t : Int)) -
                                            IntKind.u64.wrap ((↑y : Int) * (↑p : Int)))).toNat
                                      (IntKind.u64.wrap ((↑p : Int) * (↑t : Int))).toNat)))
                            else rat (0 : Rat) (1 : Nat) }),
                      ((4096 : Nat),
                        { row := false, wr := true, es := (3 : Nat), len := (1 : Nat), f := fun (x : Nat) ↦ rat r m }),
                      ((0 : Nat),
                        { row := false, wr := true, es := (3 : Nat), len := (1 : Nat),
                          f := fun (x : Nat) ↦ agg [AV.bool false, mag N, mag D] })])))
              (ATree.must [(0 : Nat) < 1]
                (ATree.must
                  [(0 : Int) ≤
                        IntKind.u64.wrap
                          (IntKind.u64.wrap ((↑y : Int) * (↑p : Int)) - IntKind.u64.wrap ((↑x : Int) * (↑t : Int))) ∧
                      IntKind.u64.wrap
                          (IntKind.u64.wrap ((↑y : Int) * (↑p : Int)) - IntKind.u64.wrap ((↑x : Int) * (↑t : Int))) <
                        (2 : Int) ^ (64 : Nat),
                    (0 : Int) < IntKind.u64.wrap ((↑p : Int) * (↑t : Int)) ∧
                      IntKind.u64.wrap ((↑p : Int) * (↑t : Int)) < (2 : Int) ^ (64 : Nat),
                    (0 : Nat) < 1]
                  (ATree.leaf AEx.ret
                    ([AV.bool true, ptr (0 : Nat) (0 : Nat) (3 : Nat) (0 : Nat) [],
                        ptr (4096 : Nat) (0 : Nat) (3 : Nat) (0 : Nat) [],
                        ptr (8192 : Nat) (0 : Nat) (3 : Nat) (0 : Nat) []],
                      [((8192 : Nat),
                          { row := false, wr := true, es := (3 : Nat), len := (1 : Nat),
                            f := fun (j : Nat) ↦
                              if (j == (0 : Nat)) = true then
                                deN
                                  (rat
                                    (sQ true
                                      (IntKind.u64.wrap
                                          (IntKind.u64.wrap ((↑y : Int) * (↑p : Int)) -
                                            IntKind.u64.wrap ((↑x : Int) * (↑t : Int)))).toNat
                                      (IntKind.u64.wrap ((↑p : Int) * (↑t : Int))).toNat)
                                    (rsz
                                      (sQ true
                                        (IntKind.u64.wrap
                                            (IntKind.u64.wrap ((↑y : Int) * (↑p : Int)) -
                                              IntKind.u64.wrap ((↑x : Int) * (↑t : Int)))).toNat
                                        (IntKind.u64.wrap ((↑p : Int) * (↑t : Int))).toNat)))
                              else rat (0 : Rat) (1 : Nat) }),
                        ((4096 : Nat),
                          { row := false, wr := true, es := (3 : Nat), len := (1 : Nat), f := fun (x : Nat) ↦ rat r m }),
                        ((0 : Nat),
                          { row := false, wr := true, es := (3 : Nat), len := (1 : Nat),
                            f := fun (x : Nat) ↦ agg [AV.bool false, mag N, mag D] })])))))))) := by kernel_rfl
theorem add_e {b s : Bool} {r : Rat} {m N D k : Nat} {z : Rat} : endT T fn_rational_add .ret ⟨zipL raLs (raVs s), raOsA b N D r m fun j => if j = 0 then deN (.rat z k) else .rat 0 1, 8193⟩ =
    some (ATree.must [(0 : Nat) < 1] (ATree.leaf AEx.ret [rat z k])) := by kernel_rfl
theorem add_4 {q r : Rat} {n m : Nat} {s : Bool} : seeL T GQ [106] 60 (raLs ++ [15, 16, 17]) (before raZ [1,1]) ⟨zipL raLs (raVs s), raOs q r n m, 8193⟩ =
    some
      (ATree.must [(0 : Nat) < 1, (0 : Nat) < 1, (0 : Nat) < 1]
        (ATree.must
          [(0 : Nat) < 1, (0 : Nat) < 1,
            nl (if q.den = (1 : Nat) then (0 : Nat) else q.den) < (2 : Nat) ^ (40 : Nat),
            nl (if r.den = (1 : Nat) then (0 : Nat) else r.den) < (2 : Nat) ^ (40 : Nat)]
          (ATree.fork
            (!decide ((if q.den = (1 : Nat) then (0 : Nat) else q.den) = if r.den = (1 : Nat) then (0 : Nat) else r.den))
            (ATree.must
              [(0 : Nat) < 1, nl q.num.natAbs < (2 : Nat) ^ (40 : Nat), nl r.den < (2 : Nat) ^ (40 : Nat),
                (0 : Nat) < 1, nl r.num.natAbs < (2 : Nat) ^ (40 : Nat), nl q.den < (2 : Nat) ^ (40 : Nat),
                (0 : Nat) < 1, nl q.den < (2 : Nat) ^ (40 : Nat), nl r.den < (2 : Nat) ^ (40 : Nat)]
              (ATree.leaf AEx.normal
                ([AV.bool s, ptr (0 : Nat) (0 : Nat) (3 : Nat) (0 : Nat) [],
                    ptr (4096 : Nat) (0 : Nat) (3 : Nat) (0 : Nat) [], ptr (8192 : Nat) (0 : Nat) (3 : Nat) (0 : Nat) [],
                    mag (q.num.natAbs * r.den), mag (r.num.natAbs * q.den), mag (q.den * r.den)],
                  [((8192 : Nat),
                      { row := false, wr := true, es := (3 : Nat), len := (1 : Nat),
                        f := fun (x : Nat) ↦ rat (0 : Rat) (1 : Nat) }),
                    ((4096 : Nat),
                      { row := false, wr := true, es := (3 : Nat), len := (1 : Nat), f := fun (x : Nat) ↦ rat r m }),
                    ((0 : Nat),
                      { row := false, wr := true, es := (3 : Nat), len := (1 : Nat), f := fun (x : Nat) ↦ rat q n })])))
            (ATree.leaf AEx.normal
              ([AV.bool s, ptr (0 : Nat) (0 : Nat) (3 : Nat) (0 : Nat) [],
                  ptr (4096 : Nat) (0 : Nat) (3 : Nat) (0 : Nat) [], ptr (8192 : Nat) (0 : Nat) (3 : Nat) (0 : Nat) [],
                  mag q.num.natAbs, mag r.num.natAbs, mag q.den],
                [((8192 : Nat),
                    { row := false, wr := true, es := (3 : Nat), len := (1 : Nat),
                      f := fun (x : Nat) ↦ rat (0 : Rat) (1 : Nat) }),
                  ((4096 : Nat),
                    { row := false, wr := true, es := (3 : Nat), len := (1 : Nat), f := fun (x : Nat) ↦ rat r m }),
                  ((0 : Nat),
                    { row := false, wr := true, es := (3 : Nat), len := (1 : Nat), f := fun (x : Nat) ↦ rat q n })]))))) := by kernel_rfl
theorem add_5 {q r : Rat} {n m : Nat} {s : Bool} {X Y D : Nat} : endL T GQ [122, 136] 60 fn_rational_add [part raZ [1,1]] ⟨zipL (raLs ++ [15, 16, 17]) (raVs s ++ [.mag X, .mag Y, .mag D]), raOs q r n m, 8193⟩ =
    some
      (ATree.must [(0 : Nat) < 1]
        (ATree.fork (decide (q < (0 : Rat)) == s)
          (ATree.must
            [nl X < (2 : Nat) ^ (40 : Nat), nl Y < (2 : Nat) ^ (40 : Nat), nl (X + Y) < (2 : Nat) ^ (40 : Nat),
              nl D < (2 : Nat) ^ (40 : Nat), (0 : Nat) < 1]
            (ATree.must [(0 : Nat) < 1] (ATree.leaf AEx.ret [rat (sQ s (X + Y) D) (rsz (sQ s (X + Y) D))])))
          (ATree.must [nl X < (2 : Nat) ^ (40 : Nat), nl Y < (2 : Nat) ^ (40 : Nat)]
            (ATree.fork ((if X < Y then (7 : Int) else (0 : Int)) == (0 : Int))
              (ATree.must
                [(0 : Nat) < 1, nl (X - Y) < (2 : Nat) ^ (40 : Nat), nl D < (2 : Nat) ^ (40 : Nat),
                  (0 : Nat) < 1]
                (ATree.must [(0 : Nat) < 1]
                  (ATree.leaf AEx.ret
                    [rat (sQ (decide (q < (0 : Rat))) (X - Y) D) (rsz (sQ (decide (q < (0 : Rat))) (X - Y) D))])))
              (ATree.must [nl Y < (2 : Nat) ^ (40 : Nat), nl X < (2 : Nat) ^ (40 : Nat)]
                (ATree.must [nl (Y - X) < (2 : Nat) ^ (40 : Nat), nl D < (2 : Nat) ^ (40 : Nat), (0 : Nat) < 1]
                  (ATree.must [(0 : Nat) < 1]
                    (ATree.leaf AEx.ret [rat (sQ s (Y - X) D) (rsz (sQ s (Y - X) D))])))))))) := by kernel_rfl
end Go.Am.B
