/- natural.Div: what its pieces come to. -/
import Derived.Test.YtajjlacbodnggaaB7
set_option linter.unusedVariables false
namespace Go.Am.B
open Go Go.Am.N AV

theorem is_natural_Div : FnIs P natural_Div fn_natural_Div (codeOf fn_natural_Div) := fnIs get_natural_Div (by kernel_rfl) (by kernel_rfl) (by kernel_rfl)

/-- The contracts that natural.Div leans on; then that of trim of a slice that is written to. -/
def GD : Contracts := (natural_Cmp, pureSpec (spec2 g_cmp)) :: (slices_Clone_uint32_uint32, s_clone) :: (natural_small, pureSpec (spec1u g_small)) :: (math_bits_LeadingZeros32, s_lz) :: (natural_raise, s_raiseO) :: G1
def GT : Contracts := [(natural_trim, s_trimO)]
abbrev divLoop : List Nat := [1,1,1,1,1,1,1,0,1]
noncomputable abbrev divBody : Code := part (codeOf fn_natural_Div) [1,1,1,1,1,1,1,0,1,0,0]
noncomputable abbrev divD : Code := part divBody [1,0,0]
noncomputable abbrev divD2 : Code := part divD [1,1,1]
noncomputable abbrev divR : Code := part divD2 [1,1]
noncomputable abbrev divT : Code := part divR [1,1,0,1,0]
noncomputable abbrev divE : Code := part (codeOf fn_natural_Div) [1,1,1,1,1,1,1,1]
abbrev divLs : List Nat := [4, 9, 10, 11, 12, 13]
abbrev divVs (lq s lu V : Nat) (j : Int) : List AV := [.own 8 1 0 lq, .int .i64 s, .own 7 1 0 lu, .mag V, .int .i64 (nl V), .int .i64 j]
abbrev divOs (lq lu : Nat) (q u : Nat → Nat) : Store := [(7, ⟨true, true, 1, lu, limbsF u⟩), (8, ⟨true, true, 1, lq, limbsF q⟩)]
theorem div_1 {n m : Nat} {z y : Nat → Nat} : seeL T GD [] 60 [0, 1, 4, 5, 6] ((before (codeOf fn_natural_Div) divLoop).take 2) ⟨zipSlots 0 [.tab 1 n (limbsF z), .tab 1 m (limbsF y)], [], 0⟩ =
    some
      (ATree.must [Limbs n (limbsF z), n < (2 : Nat) ^ (62 : Nat), Limbs m (limbsF y), m < (2 : Nat) ^ (62 : Nat)]
        (ATree.leaf AEx.normal
          ([mag (val n fun (i : Nat) ↦ numOf (limbsF z i)), mag (val m fun (i : Nat) ↦ numOf (limbsF y i)), nil, nil,
              int IntKind.i64 (0 : Int)],
            []))) := by kernel_rfl
theorem div_2 {A B : Nat} : seeL T GD [30, 34, 41] 60 [0, 1, 4, 5, 6] (((before (codeOf fn_natural_Div) divLoop).drop 2).take 1) ⟨zipL [0, 1, 4, 5, 6] [.mag A, .mag B, .nil, .nil, .int .i64 0], [], 0⟩ =
    some
      (ATree.fork ((↑(nl B) : Int) == (0 : Int))
        (ATree.leaf AEx.ret ([mag A, mag B, nil, nil, int IntKind.i64 (3 : Int)], []))
        (ATree.must [nl A < (2 : Nat) ^ (40 : Nat), nl B < (2 : Nat) ^ (40 : Nat)]
          (ATree.fork (decide (cmpI A B < (0 : Int)))
            (ATree.must [nl A < (2 : Nat) ^ (40 : Nat)]
              (ATree.leaf AEx.ret ([mag A, mag B, nil, mag A, int IntKind.i64 (0 : Int)], [])))
            (ATree.fork ((↑(nl B) : Int) == (1 : Int))
              (ATree.must
                [(0 : Int) ≤ (0 : Int) ∧ Int.toNat (0 : Int) < nl B, nl A < (2 : Nat) ^ (40 : Nat),
                  (0 : Int) < (↑(limb B (Int.toNat (0 : Int))) : Int),
                  (↑(limb B (Int.toNat (0 : Int))) : Int) < (2 : Int) ^ (32 : Nat)]
                (ATree.must
                  [(1 : Nat) * (1 : Nat) ≤ (2 : Nat) ^ (24 : Nat),
                    Limbs (1 : Nat) fun (i : Nat) ↦
                      nth [int IntKind.u32 (↑(A % (↑(limb B (Int.toNat (0 : Int))) : Int).toNat) : Int)]
                        (int IntKind.u32 (0 : Int)) (i + (0 : Nat)),
                    (1 : Nat) < (2 : Nat) ^ (62 : Nat)]
                  (ATree.leaf AEx.ret
                    ([mag A, mag B, mag (A / (↑(limb B (Int.toNat (0 : Int))) : Int).toNat),
                        mag
                          (val (1 : Nat) fun (i : Nat) ↦
                            numOf
                              (nth [int IntKind.u32 (↑(A % (↑(limb B (Int.toNat (0 : Int))) : Int).toNat) : Int)]
                                (int IntKind.u32 (0 : Int)) (i + (0 : Nat)))),
                        int IntKind.i64 (0 : Int)],
                      []))))
              (ATree.leaf AEx.normal ([mag A, mag B, nil, nil, int IntKind.i64 (0 : Int)], [])))))) := by kernel_rfl
theorem div_3 {A B : Nat} : seeL T GD [] 60 [0, 1, 9] (((before (codeOf fn_natural_Div) divLoop).drop 3).take 1) ⟨zipL [0, 1, 4, 5, 6] [.mag A, .mag B, .nil, .nil, .int .i64 0], [], 0⟩ =
    some
      (ATree.must
        [(0 : Int) ≤ IntKind.i64.wrap ((↑(nl B) : Int) - (1 : Int)) ∧
            (IntKind.i64.wrap ((↑(nl B) : Int) - (1 : Int))).toNat < nl B,
          (0 : Int) ≤ (↑(limb B (IntKind.i64.wrap ((↑(nl B) : Int) - (1 : Int))).toNat) : Int) ∧
            (↑(limb B (IntKind.i64.wrap ((↑(nl B) : Int) - (1 : Int))).toNat) : Int) < (2 : Int) ^ (32 : Nat)]
        (ATree.leaf AEx.normal
          ([mag A, mag B,
              int IntKind.i64
                (↑((32 : Nat) - bitsN (↑(limb B (IntKind.i64.wrap ((↑(nl B) : Int) - (1 : Int))).toNat) : Int).toNat) :
                  Int)],
            []))) := by kernel_rfl
theorem div_4 {A B s : Nat} : seeL T GD [] 60 [9, 10, 11] (((before (codeOf fn_natural_Div) divLoop).drop 4).take 1) ⟨zipL [0, 1, 9] [.mag A, .mag B, .int .i64 s], [], 0⟩ =
    some
      (ATree.must
        [nl A < (2 : Nat) ^ (40 : Nat), (0 : Int) ≤ (↑s : Int), (↑s : Int) < (32 : Int), nl B < (2 : Nat) ^ (40 : Nat),
          (0 : Int) ≤ (↑s : Int), (↑s : Int) < (32 : Int),
          Limbs (nl B + (1 : Nat)) fun (i : Nat) ↦ limbsF (limb (B * (2 : Nat) ^ (↑s : Int).toNat)) (i + (0 : Nat)),
          nl B + (1 : Nat) < (2 : Nat) ^ (62 : Nat)]
        (ATree.leaf AEx.normal
          ([int IntKind.i64 (↑s : Int), own (8192 : Nat) (1 : Nat) (0 : Nat) (nl A + (1 : Nat)),
              mag
                (val (nl B + (1 : Nat)) fun (i : Nat) ↦
                  numOf (limbsF (limb (B * (2 : Nat) ^ (↑s : Int).toNat)) (i + (0 : Nat))))],
            [((8192 : Nat),
                { row := true, wr := true, es := (1 : Nat), len := nl A + (1 : Nat),
                  f := limbsF (limb (A * (2 : Nat) ^ (↑s : Int).toNat)) })]))) := by kernel_rfl
theorem div_5 {s lu V : Nat} {u : Nat → Nat} : seeL T GD [] 60 divLs ((before (codeOf fn_natural_Div) divLoop).drop 5) ⟨zipL [9, 10, 11] [.int .i64 s, .own 7 1 0 lu, .mag V], [(7, ⟨true, true, 1, lu, limbsF u⟩)], 8⟩ =
    some
      (ATree.must
        [(0 : Int) ≤ IntKind.i64.wrap ((↑lu : Int) - (↑(nl V) : Int)) ∧
            IntKind.i64.wrap ((↑lu : Int) - (↑(nl V) : Int)) ≤ IntKind.i64.wrap ((↑lu : Int) - (↑(nl V) : Int)) ∧
              IntKind.i64.wrap ((↑lu : Int) - (↑(nl V) : Int)) ≤ (2 : Int) ^ (47 : Nat) ∧
                IntKind.i64.wrap ((↑lu : Int) - (↑(nl V) : Int)) * (↑(4 : Nat) : Int) ≤ (2 : Int) ^ (47 : Nat)]
        (ATree.leaf AEx.normal
          ([own (28680 : Nat) (1 : Nat) (0 : Nat) (IntKind.i64.wrap ((↑lu : Int) - (↑(nl V) : Int))).toNat,
              int IntKind.i64 (↑s : Int), own (7 : Nat) (1 : Nat) (0 : Nat) lu, mag V, int IntKind.i64 (↑(nl V) : Int),
              int IntKind.i64
                (IntKind.i64.wrap ((↑(IntKind.i64.wrap ((↑lu : Int) - (↑(nl V) : Int))).toNat : Int) - (1 : Int)))],
            [((7 : Nat), { row := true, wr := true, es := (1 : Nat), len := lu, f := limbsF u }),
              ((28680 : Nat),
                { row := true, wr := true, es := (1 : Nat), len := (IntKind.i64.wrap ((↑lu : Int) - (↑(nl V) : Int))).toNat,
                  f := fun (x : Nat) ↦ int IntKind.u32 (0 : Int) })]))) := by kernel_rfl
theorem div_head {lq s lu V m : Nat} {q u : Nat → Nat} : seeL T GD [82] 60 divLs [part divBody [0]] ⟨zipL divLs (divVs lq s lu V ((m : Int) - 1)), divOs lq lu q u, 9⟩ =
    some
      (ATree.fork (decide ((↑m : Int) - (1 : Int) ≥ (0 : Int)))
        (ATree.leaf AEx.normal
          ([own (8 : Nat) (1 : Nat) (0 : Nat) lq, int IntKind.i64 (↑s : Int), own (7 : Nat) (1 : Nat) (0 : Nat) lu, mag V,
              int IntKind.i64 (↑(nl V) : Int), int IntKind.i64 ((↑m : Int) - (1 : Int))],
            [((7 : Nat), { row := true, wr := true, es := (1 : Nat), len := lu, f := limbsF u }),
              ((8 : Nat), { row := true, wr := true, es := (1 : Nat), len := lq, f := limbsF q })]))
        (ATree.leaf (AEx.exit (1 : Nat))
          ([own (8 : Nat) (1 : Nat) (0 : Nat) lq, int IntKind.i64 (↑s : Int), own (7 : Nat) (1 : Nat) (0 : Nat) lu, mag V,
              int IntKind.i64 (↑(nl V) : Int), int IntKind.i64 ((↑m : Int) - (1 : Int))],
            [((7 : Nat), { row := true, wr := true, es := (1 : Nat), len := lu, f := limbsF u }),
              ((8 : Nat), { row := true, wr := true, es := (1 : Nat), len := lq, f := limbsF q })]))) := by kernel_rfl
theorem div_top {lq s lu V j : Nat} {q u : Nat → Nat} : seeL T GD [] 60 (divLs ++ [15, 16]) (before divD [1,1,0]) ⟨zipL divLs (divVs lq s lu V (j : Nat)), divOs lq lu q u, 9⟩ =
    some
      (ATree.must
        [(0 : Int) ≤ IntKind.i64.wrap ((↑j : Int) + (↑(nl V) : Int)) ∧
            (IntKind.i64.wrap ((↑j : Int) + (↑(nl V) : Int))).toNat < lu,
          (IntKind.i64.wrap ((↑j : Int) + (↑(nl V) : Int))).toNat + (0 : Nat) < lu, (0 : Int) ≤ (32 : Int),
          (0 : Int) ≤ IntKind.i64.wrap (IntKind.i64.wrap ((↑j : Int) + (↑(nl V) : Int)) - (1 : Int)) ∧
            (IntKind.i64.wrap (IntKind.i64.wrap ((↑j : Int) + (↑(nl V) : Int)) - (1 : Int))).toNat < lu,
          (IntKind.i64.wrap (IntKind.i64.wrap ((↑j : Int) + (↑(nl V) : Int)) - (1 : Int))).toNat + (0 : Nat) < lu]
        (ATree.must
          [(0 : Int) ≤ IntKind.i64.wrap ((↑(nl V) : Int) - (1 : Int)) ∧
              (IntKind.i64.wrap ((↑(nl V) : Int) - (1 : Int))).toNat < nl V,
            IntKind.u64.wrap (↑(limb V (IntKind.i64.wrap ((↑(nl V) : Int) - (1 : Int))).toNat) : Int) ≠ (0 : Int),
            (0 : Int) ≤ IntKind.i64.wrap ((↑(nl V) : Int) - (1 : Int)) ∧
              (IntKind.i64.wrap ((↑(nl V) : Int) - (1 : Int))).toNat < nl V,
            IntKind.u64.wrap (↑(limb V (IntKind.i64.wrap ((↑(nl V) : Int) - (1 : Int))).toNat) : Int) ≠ (0 : Int)]
          (ATree.leaf AEx.normal
            ([own (8 : Nat) (1 : Nat) (0 : Nat) lq, int IntKind.i64 (↑s : Int), own (7 : Nat) (1 : Nat) (0 : Nat) lu, mag V,
                int IntKind.i64 (↑(nl V) : Int), int IntKind.i64 (↑j : Int),
                int IntKind.u64
                  (IntKind.u64.wrap
                    ((IntKind.u64.wrap
                          (↑(BitVec.ofInt IntKind.u64.bits
                                    (IntKind.u64.wrap
                                      (IntKind.u64.wrap
                                          (↑(u ((IntKind.i64.wrap ((↑j : Int) + (↑(nl V) : Int))).toNat + (0 : Nat))) :
                                            Int) *
                                        (2 : Int) ^ min (Int.toNat (32 : Int)) IntKind.u64.bits)) |||
                                  BitVec.ofInt IntKind.u64.bits
                                    (IntKind.u64.wrap
                                      (↑(u
                                            ((IntKind.i64.wrap
                                                  (IntKind.i64.wrap ((↑j : Int) + (↑(nl V) : Int)) - (1 : Int))).toNat +
                                              (0 : Nat))) :
                                        Int))).toNat :
                            Int)).tdiv
                      (IntKind.u64.wrap (↑(limb V (IntKind.i64.wrap ((↑(nl V) : Int) - (1 : Int))).toNat) : Int)))),
                int IntKind.u64
                  ((IntKind.u64.wrap
                        (↑(BitVec.ofInt IntKind.u64.bits
                                  (IntKind.u64.wrap
                                    (IntKind.u64.wrap
                                        (↑(u ((IntKind.i64.wrap ((↑j : Int) + (↑(nl V) : Int))).toNat + (0 : Nat))) : Int) *
                                      (2 : Int) ^ min (Int.toNat (32 : Int)) IntKind.u64.bits)) |||
                                BitVec.ofInt IntKind.u64.bits
                                  (IntKind.u64.wrap
                                    (↑(u
                                          ((IntKind.i64.wrap
                                                (IntKind.i64.wrap ((↑j : Int) + (↑(nl V) : Int)) - (1 : Int))).toNat +
                                            (0 : Nat))) :
                                      Int))).toNat :
                          Int)).tmod
                    (IntKind.u64.wrap (↑(limb V (IntKind.i64.wrap ((↑(nl V) : Int) - (1 : Int))).toNat) : Int)))],
              [((7 : Nat), { row := true, wr := true, es := (1 : Nat), len := lu, f := limbsF u }),
                ((8 : Nat), { row := true, wr := true, es := (1 : Nat), len := lq, f := limbsF q })])))) := by kernel_rfl
theorem div_cor {lq s lu V j rest : Nat} {x : Int} {q u : Nat → Nat} : seeL T GD [120, 141, 153] 60 (divLs ++ [15, 16]) [part divD [1,1,0,0,0]] ⟨zipL (divLs ++ [15, 16]) (divVs lq s lu V (j : Nat) ++ [.int .u64 x, .int .u64 rest]), divOs lq lu q u, 9⟩ =
    some
      (ATree.fork (decide (x ≥ (4294967296 : Int)))
        (ATree.must [decide (x ≥ (4294967296 : Int)) = true]
          (ATree.fork true
            (ATree.must
              [(0 : Int) ≤ IntKind.i64.wrap ((↑(nl V) : Int) - (1 : Int)) ∧
                  (IntKind.i64.wrap ((↑(nl V) : Int) - (1 : Int))).toNat < nl V]
              (ATree.fork
                (decide
                  (IntKind.u64.wrap
                      ((↑rest : Int) +
                        IntKind.u64.wrap (↑(limb V (IntKind.i64.wrap ((↑(nl V) : Int) - (1 : Int))).toNat) : Int)) ≥
                    (4294967296 : Int)))
                (ATree.leaf (AEx.exit (3 : Nat))
                  ([own (8 : Nat) (1 : Nat) (0 : Nat) lq, int IntKind.i64 (↑s : Int), own (7 : Nat) (1 : Nat) (0 : Nat) lu,
                      mag V, int IntKind.i64 (↑(nl V) : Int), int IntKind.i64 (↑j : Int),
                      int IntKind.u64 (IntKind.u64.wrap (x - (1 : Int))),
                      int IntKind.u64
                        (IntKind.u64.wrap
                          ((↑rest : Int) +
                            IntKind.u64.wrap (↑(limb V (IntKind.i64.wrap ((↑(nl V) : Int) - (1 : Int))).toNat) : Int)))],
                    [((7 : Nat), { row := true, wr := true, es := (1 : Nat), len := lu, f := limbsF u }),
                      ((8 : Nat), { row := true, wr := true, es := (1 : Nat), len := lq, f := limbsF q })]))
                (ATree.leaf AEx.normal
                  ([own (8 : Nat) (1 : Nat) (0 : Nat) lq, int IntKind.i64 (↑s : Int), own (7 : Nat) (1 : Nat) (0 : Nat) lu,
                      mag V, int IntKind.i64 (↑(nl V) : Int), int IntKind.i64 (↑j : Int),
                      int IntKind.u64 (IntKind.u64.wrap (x - (1 : Int))),
                      int IntKind.u64
                        (IntKind.u64.wrap
                          ((↑rest : Int) +
                            IntKind.u64.wrap (↑(limb V (IntKind.i64.wrap ((↑(nl V) : Int) - (1 : Int))).toNat) : Int)))],
                    [((7 : Nat), { row := true, wr := true, es := (1 : Nat), len := lu, f := limbsF u }),
                      ((8 : Nat), { row := true, wr := true, es := (1 : Nat), len := lq, f := limbsF q })]))))
            (ATree.leaf (AEx.exit (3 : Nat))
              ([own (8 : Nat) (1 : Nat) (0 : Nat) lq, int IntKind.i64 (↑s : Int), own (7 : Nat) (1 : Nat) (0 : Nat) lu,
                  mag V, int IntKind.i64 (↑(nl V) : Int), int IntKind.i64 (↑j : Int), int IntKind.u64 x,
                  int IntKind.u64 (↑rest : Int)],
                [((7 : Nat), { row := true, wr := true, es := (1 : Nat), len := lu, f := limbsF u }),
                  ((8 : Nat), { row := true, wr := true, es := (1 : Nat), len := lq, f := limbsF q })]))))
        (ATree.must
          [decide (x ≥ (4294967296 : Int)) = false,
            (0 : Int) ≤ IntKind.i64.wrap ((↑(nl V) : Int) - (2 : Int)) ∧
              (IntKind.i64.wrap ((↑(nl V) : Int) - (2 : Int))).toNat < nl V,
            (0 : Int) ≤ (32 : Int),
            (0 : Int) ≤ IntKind.i64.wrap (IntKind.i64.wrap ((↑j : Int) + (↑(nl V) : Int)) - (2 : Int)) ∧
              (IntKind.i64.wrap (IntKind.i64.wrap ((↑j : Int) + (↑(nl V) : Int)) - (2 : Int))).toNat < lu,
            (IntKind.i64.wrap (IntKind.i64.wrap ((↑j : Int) + (↑(nl V) : Int)) - (2 : Int))).toNat + (0 : Nat) < lu]
          (ATree.fork
            (bif false then true
            else
              decide
                (IntKind.u64.wrap
                    (x * IntKind.u64.wrap (↑(limb V (IntKind.i64.wrap ((↑(nl V) : Int) - (2 : Int))).toNat) : Int)) >
                  IntKind.u64.wrap
                    (↑(BitVec.ofInt IntKind.u64.bits
                              (IntKind.u64.wrap
                                ((↑rest : Int) * (2 : Int) ^ min (Int.toNat (32 : Int)) IntKind.u64.bits)) |||
                            BitVec.ofInt IntKind.u64.bits
                              (IntKind.u64.wrap
                                (↑(u
                                      ((IntKind.i64.wrap
                                            (IntKind.i64.wrap ((↑j : Int) + (↑(nl V) : Int)) - (2 : Int))).toNat +
                                        (0 : Nat))) :
                                  Int))).toNat :
                      Int)))
            (ATree.must
              [(0 : Int) ≤ IntKind.i64.wrap ((↑(nl V) : Int) - (1 : Int)) ∧
                  (IntKind.i64.wrap ((↑(nl V) : Int) - (1 : Int))).toNat < nl V]
              (ATree.fork
                (decide
                  (IntKind.u64.wrap
                      ((↑rest : Int) +
                        IntKind.u64.wrap (↑(limb V (IntKind.i64.wrap ((↑(nl V) : Int) - (1 : Int))).toNat) : Int)) ≥
                    (4294967296 : Int)))
                (ATree.leaf (AEx.exit (3 : Nat))
                  ([own (8 : Nat) (1 : Nat) (0 : Nat) lq, int IntKind.i64 (↑s : Int), own (7 : Nat) (1 : Nat) (0 : Nat) lu,
                      mag V, int IntKind.i64 (↑(nl V) : Int), int IntKind.i64 (↑j : Int),
                      int IntKind.u64 (IntKind.u64.wrap (x - (1 : Int))),
                      int IntKind.u64
                        (IntKind.u64.wrap
                          ((↑rest : Int) +
                            IntKind.u64.wrap (↑(limb V (IntKind.i64.wrap ((↑(nl V) : Int) - (1 : Int))).toNat) : Int)))],
                    [((7 : Nat), { row := true, wr := true, es := (1 : Nat), len := lu, f := limbsF u }),
                      ((8 : Nat), { row := true, wr := true, es := (1 : Nat), len := lq, f := limbsF q })]))
                (ATree.leaf AEx.normal
                  ([own (8 : Nat) (1 : Nat) (0 : Nat) lq, int IntKind.i64 (↑s : Int), own (7 : Nat) (1 : Nat) (0 : Nat) lu,
                      mag V, int IntKind.i64 (↑(nl V) : Int), int IntKind.i64 (↑j : Int),
                      int IntKind.u64 (IntKind.u64.wrap (x - (1 : Int))),
                      int IntKind.u64
                        (IntKind.u64.wrap
                          ((↑rest : Int) +
                            IntKind.u64.wrap (↑(limb V (IntKind.i64.wrap ((↑(nl V) : Int) - (1 : Int))).toNat) : Int)))],
                    [((7 : Nat), { row := true, wr := true, es := (1 : Nat), len := lu, f := limbsF u }),
                      ((8 : Nat), { row := true, wr := true, es := (1 : Nat), len := lq, f := limbsF q })]))))
            (ATree.leaf (AEx.exit (3 : Nat))
              ([own (8 : Nat) (1 : Nat) (0 : Nat) lq, int IntKind.i64 (↑s : Int), own (7 : Nat) (1 : Nat) (0 : Nat) lu,
                  mag V, int IntKind.i64 (↑(nl V) : Int), int IntKind.i64 (↑j : Int), int IntKind.u64 x,
                  int IntKind.u64 (↑rest : Int)],
                [((7 : Nat), { row := true, wr := true, es := (1 : Nat), len := lu, f := limbsF u }),
                  ((8 : Nat), { row := true, wr := true, es := (1 : Nat), len := lq, f := limbsF q })]))))) := by kernel_rfl
theorem div_mid {lq s lu V j x rest : Nat} {q u : Nat → Nat} : seeL T GD [] 60 (divLs ++ [15, 17, 18, 154, 155, 156]) (before divD2 [1,0,1]) ⟨zipL (divLs ++ [15, 16]) (divVs lq s lu V (j : Nat) ++ [.int .u64 x, .int .u64 rest]), divOs lq lu q u, 9⟩ =
    some
      (ATree.leaf AEx.normal
        ([own (8 : Nat) (1 : Nat) (0 : Nat) lq, int IntKind.i64 (↑s : Int), own (7 : Nat) (1 : Nat) (0 : Nat) lu, mag V,
            int IntKind.i64 (↑(nl V) : Int), int IntKind.i64 (↑j : Int), int IntKind.u64 (↑x : Int),
            int IntKind.u64 (0 : Int), int IntKind.u64 (0 : Int), mag V, int IntKind.i64 (↑(nl V) : Int),
            int IntKind.i64 (0 : Int)],
          [((7 : Nat), { row := true, wr := true, es := (1 : Nat), len := lu, f := limbsF u }),
            ((8 : Nat), { row := true, wr := true, es := (1 : Nat), len := lq, f := limbsF q })])) := by kernel_rfl
theorem div_mul {lq s lu V j x b c i : Nat} {q u : Nat → Nat} : seeL T GD [157] 60 (divLs ++ [15, 17, 18, 154, 155, 156]) [part divD2 [1,0,1,0,0]] ⟨zipL (divLs ++ [15, 17, 18, 154, 155, 156]) (divVs lq s lu V (j : Nat) ++ [.int .u64 x, .int .u64 b, .int .u64 c, .mag V, .int .i64 (nl V), .int .i64 i]), divOs lq lu q u, 9⟩ =
    some
      (ATree.fork (decide ((↑i : Int) < (↑(nl V) : Int)))
        (ATree.must [(0 : Int) ≤ (↑i : Int) ∧ (↑i : Int).toNat < nl V]
          (ATree.must
            [(0 : Int) ≤ IntKind.i64.wrap ((↑i : Int) + (↑j : Int)) ∧
                (IntKind.i64.wrap ((↑i : Int) + (↑j : Int))).toNat < lu,
              (IntKind.i64.wrap ((↑i : Int) + (↑j : Int))).toNat + (0 : Nat) < lu]
            (ATree.must
              [(0 : Int) ≤ IntKind.i64.wrap ((↑i : Int) + (↑j : Int)) ∧
                  (IntKind.i64.wrap ((↑i : Int) + (↑j : Int))).toNat < lu,
                (IntKind.i64.wrap ((↑i : Int) + (↑j : Int))).toNat + (0 : Nat) < lu]
              (ATree.must [(0 : Int) ≤ (63 : Int)]
                (ATree.must [(0 : Int) ≤ (32 : Int)]
                  (ATree.leaf AEx.normal
                    ([own (8 : Nat) (1 : Nat) (0 : Nat) lq, int IntKind.i64 (↑s : Int),
                        own (7 : Nat) (1 : Nat) (0 : Nat) lu, mag V, int IntKind.i64 (↑(nl V) : Int),
                        int IntKind.i64 (↑j : Int), int IntKind.u64 (↑x : Int),
                        int IntKind.u64
                          ((IntKind.u64.wrap
                                (IntKind.u64.wrap
                                    (IntKind.u64.wrap
                                        (↑(u ((IntKind.i64.wrap ((↑i : Int) + (↑j : Int))).toNat + (0 : Nat))) : Int) -
                                      IntKind.u64.wrap
                                        (↑(BitVec.ofInt IntKind.u64.bits
                                                  (IntKind.u64.wrap
                                                    ((↑c : Int) +
                                                      IntKind.u64.wrap
                                                        ((↑x : Int) *
                                                          IntKind.u64.wrap (↑(limb V (↑i : Int).toNat) : Int)))) &&&
                                                BitVec.ofInt IntKind.u64.bits (4294967295 : Int)).toNat :
                                          Int)) -
                                  (↑b : Int))).fdiv
                            ((2 : Int) ^ min (Int.toNat (63 : Int)) IntKind.u64.bits)),
                        int IntKind.u64
                          ((IntKind.u64.wrap
                                ((↑c : Int) +
                                  IntKind.u64.wrap ((↑x : Int) * IntKind.u64.wrap (↑(limb V (↑i : Int).toNat) : Int)))).fdiv
                            ((2 : Int) ^ min (Int.toNat (32 : Int)) IntKind.u64.bits)),
                        mag V, int IntKind.i64 (↑(nl V) : Int),
                        int IntKind.i64 (IntKind.i64.wrap ((↑i : Int) + (1 : Int)))],
                      [((7 : Nat),
                          { row := true, wr := true, es := (1 : Nat), len := lu,
                            f := fun (j_1 : Nat) ↦
                              if (j_1 == (IntKind.i64.wrap ((↑i : Int) + (↑j : Int))).toNat + (0 : Nat)) = true then
                                int IntKind.u32
                                  (IntKind.u32.wrap
                                    (IntKind.u64.wrap
                                      (IntKind.u64.wrap
                                          (IntKind.u64.wrap
                                              (↑(u ((IntKind.i64.wrap ((↑i : Int) + (↑j : Int))).toNat + (0 : Nat))) :
                                                Int) -
                                            IntKind.u64.wrap
                                              (↑(BitVec.ofInt IntKind.u64.bits
                                                        (IntKind.u64.wrap
                                                          ((↑c : Int) +
                                                            IntKind.u64.wrap
                                                              ((↑x : Int) *
                                                                IntKind.u64.wrap (↑(limb V (↑i : Int).toNat) : Int)))) &&&
                                                      BitVec.ofInt IntKind.u64.bits (4294967295 : Int)).toNat :
                                                Int)) -
                                        (↑b : Int))))
                              else limbsF u j_1 }),
                        ((8 : Nat), { row := true, wr := true, es := (1 : Nat), len := lq, f := limbsF q })])))))))
        (ATree.leaf (AEx.exit (5 : Nat))
          ([own (8 : Nat) (1 : Nat) (0 : Nat) lq, int IntKind.i64 (↑s : Int), own (7 : Nat) (1 : Nat) (0 : Nat) lu, mag V,
              int IntKind.i64 (↑(nl V) : Int), int IntKind.i64 (↑j : Int), int IntKind.u64 (↑x : Int),
              int IntKind.u64 (↑b : Int), int IntKind.u64 (↑c : Int), mag V, int IntKind.i64 (↑(nl V) : Int),
              int IntKind.i64 (↑i : Int)],
            [((7 : Nat), { row := true, wr := true, es := (1 : Nat), len := lu, f := limbsF u }),
              ((8 : Nat), { row := true, wr := true, es := (1 : Nat), len := lq, f := limbsF q })]))) := by kernel_rfl
theorem div_neg {lq s lu V j x b c : Nat} {q u : Nat → Nat} : seeL T GD [] 60 (divLs ++ [15, 211]) (before divR [1,1,0,1]) ⟨zipL (divLs ++ [15, 17, 18]) (divVs lq s lu V (j : Nat) ++ [.int .u64 x, .int .u64 b, .int .u64 c]), divOs lq lu q u, 9⟩ =
    some
      (ATree.must
        [(0 : Int) ≤ IntKind.i64.wrap ((↑j : Int) + (↑(nl V) : Int)) ∧
            (IntKind.i64.wrap ((↑j : Int) + (↑(nl V) : Int))).toNat < lu,
          (IntKind.i64.wrap ((↑j : Int) + (↑(nl V) : Int))).toNat + (0 : Nat) < lu]
        (ATree.must
          [(0 : Int) ≤ IntKind.i64.wrap ((↑j : Int) + (↑(nl V) : Int)) ∧
              (IntKind.i64.wrap ((↑j : Int) + (↑(nl V) : Int))).toNat < lu,
            (IntKind.i64.wrap ((↑j : Int) + (↑(nl V) : Int))).toNat + (0 : Nat) < lu]
          (ATree.must [(0 : Int) ≤ (63 : Int)]
            (ATree.leaf AEx.normal
              ([own (8 : Nat) (1 : Nat) (0 : Nat) lq, int IntKind.i64 (↑s : Int), own (7 : Nat) (1 : Nat) (0 : Nat) lu,
                  mag V, int IntKind.i64 (↑(nl V) : Int), int IntKind.i64 (↑j : Int), int IntKind.u64 (↑x : Int),
                  AV.bool
                    ((IntKind.u64.wrap
                            (IntKind.u64.wrap
                                (IntKind.u64.wrap
                                    (↑(u ((IntKind.i64.wrap ((↑j : Int) + (↑(nl V) : Int))).toNat + (0 : Nat))) : Int) -
                                  (↑c : Int)) -
                              (↑b : Int))).fdiv
                        ((2 : Int) ^ min (Int.toNat (63 : Int)) IntKind.u64.bits) !=
                      (0 : Int))],
                [((7 : Nat),
                    { row := true, wr := true, es := (1 : Nat), len := lu,
                      f := fun (j_1 : Nat) ↦
                        if (j_1 == (IntKind.i64.wrap ((↑j : Int) + (↑(nl V) : Int))).toNat + (0 : Nat)) = true then
                          int IntKind.u32
                            (IntKind.u32.wrap
                              (IntKind.u64.wrap
                                (IntKind.u64.wrap
                                    (IntKind.u64.wrap
                                        (↑(u ((IntKind.i64.wrap ((↑j : Int) + (↑(nl V) : Int))).toNat + (0 : Nat))) : Int) -
                                      (↑c : Int)) -
                                  (↑b : Int))))
                        else limbsF u j_1 }),
                  ((8 : Nat), { row := true, wr := true, es := (1 : Nat), len := lq, f := limbsF q })]))))) := by kernel_rfl
theorem div_fix {lq s lu V j x : Nat} {q u : Nat → Nat} : seeL T GD [] 60 (divLs ++ [15, 18, 214, 215, 216]) (before divT [1,1,0,1]) ⟨zipL (divLs ++ [15]) (divVs lq s lu V (j : Nat) ++ [.int .u64 x]), divOs lq lu q u, 9⟩ =
    some
      (ATree.leaf AEx.normal
        ([own (8 : Nat) (1 : Nat) (0 : Nat) lq, int IntKind.i64 (↑s : Int), own (7 : Nat) (1 : Nat) (0 : Nat) lu, mag V,
            int IntKind.i64 (↑(nl V) : Int), int IntKind.i64 (↑j : Int),
            int IntKind.u64 (IntKind.u64.wrap ((↑x : Int) - (1 : Int))), int IntKind.u64 (0 : Int), mag V,
            int IntKind.i64 (↑(nl V) : Int), int IntKind.i64 (0 : Int)],
          [((7 : Nat), { row := true, wr := true, es := (1 : Nat), len := lu, f := limbsF u }),
            ((8 : Nat), { row := true, wr := true, es := (1 : Nat), len := lq, f := limbsF q })])) := by kernel_rfl
theorem div_add {lq s lu V j x c i : Nat} {q u : Nat → Nat} : seeL T GD [217] 60 (divLs ++ [15, 18, 214, 215, 216]) [part divT [1,1,0,1,0,0]] ⟨zipL (divLs ++ [15, 18, 214, 215, 216]) (divVs lq s lu V (j : Nat) ++ [.int .u64 x, .int .u64 c, .mag V, .int .i64 (nl V), .int .i64 i]), divOs lq lu q u, 9⟩ =
    some
      (ATree.fork (decide ((↑i : Int) < (↑(nl V) : Int)))
        (ATree.must [(0 : Int) ≤ (↑i : Int) ∧ (↑i : Int).toNat < nl V]
          (ATree.must
            [(0 : Int) ≤ IntKind.i64.wrap ((↑i : Int) + (↑j : Int)) ∧
                (IntKind.i64.wrap ((↑i : Int) + (↑j : Int))).toNat < lu,
              (IntKind.i64.wrap ((↑i : Int) + (↑j : Int))).toNat + (0 : Nat) < lu]
            (ATree.must
              [(0 : Int) ≤ IntKind.i64.wrap ((↑i : Int) + (↑j : Int)) ∧
                  (IntKind.i64.wrap ((↑i : Int) + (↑j : Int))).toNat < lu,
                (IntKind.i64.wrap ((↑i : Int) + (↑j : Int))).toNat + (0 : Nat) < lu]
              (ATree.must [(0 : Int) ≤ (32 : Int)]
                (ATree.leaf AEx.normal
                  ([own (8 : Nat) (1 : Nat) (0 : Nat) lq, int IntKind.i64 (↑s : Int), own (7 : Nat) (1 : Nat) (0 : Nat) lu,
                      mag V, int IntKind.i64 (↑(nl V) : Int), int IntKind.i64 (↑j : Int), int IntKind.u64 (↑x : Int),
                      int IntKind.u64
                        ((IntKind.u64.wrap
                              ((↑c : Int) +
                                IntKind.u64.wrap
                                  (IntKind.u64.wrap
                                      (↑(u ((IntKind.i64.wrap ((↑i : Int) + (↑j : Int))).toNat + (0 : Nat))) : Int) +
                                    IntKind.u64.wrap (↑(limb V (↑i : Int).toNat) : Int)))).fdiv
                          ((2 : Int) ^ min (Int.toNat (32 : Int)) IntKind.u64.bits)),
                      mag V, int IntKind.i64 (↑(nl V) : Int), int IntKind.i64 (IntKind.i64.wrap ((↑i : Int) + (1 : Int)))],
                    [((7 : Nat),
                        { row := true, wr := true, es := (1 : Nat), len := lu,
                          f := fun (j_1 : Nat) ↦
                            if (j_1 == (IntKind.i64.wrap ((↑i : Int) + (↑j : Int))).toNat + (0 : Nat)) = true then
                              int IntKind.u32
                                (IntKind.u32.wrap
                                  (IntKind.u64.wrap
                                    ((↑c : Int) +
                                      IntKind.u64.wrap
                                        (IntKind.u64.wrap
                                            (↑(u ((IntKind.i64.wrap ((↑i : Int) + (↑j : Int))).toNat + (0 : Nat))) : Int) +
                                          IntKind.u64.wrap (↑(limb V (↑i : Int).toNat) : Int)))))
                            else limbsF u j_1 }),
                      ((8 : Nat), { row := true, wr := true, es := (1 : Nat), len := lq, f := limbsF q })]))))))
        (ATree.leaf (AEx.exit (7 : Nat))
          ([own (8 : Nat) (1 : Nat) (0 : Nat) lq, int IntKind.i64 (↑s : Int), own (7 : Nat) (1 : Nat) (0 : Nat) lu, mag V,
              int IntKind.i64 (↑(nl V) : Int), int IntKind.i64 (↑j : Int), int IntKind.u64 (↑x : Int),
              int IntKind.u64 (↑c : Int), mag V, int IntKind.i64 (↑(nl V) : Int), int IntKind.i64 (↑i : Int)],
            [((7 : Nat), { row := true, wr := true, es := (1 : Nat), len := lu, f := limbsF u }),
              ((8 : Nat), { row := true, wr := true, es := (1 : Nat), len := lq, f := limbsF q })]))) := by kernel_rfl
theorem div_top2 {lq s lu V j x c : Nat} {q u : Nat → Nat} : seeL T GD [] 60 (divLs ++ [15]) (behind divT [1,1,0,1]) ⟨zipL (divLs ++ [15, 18]) (divVs lq s lu V (j : Nat) ++ [.int .u64 x, .int .u64 c]), divOs lq lu q u, 9⟩ =
    some
      (ATree.must
        [(0 : Int) ≤ IntKind.i64.wrap ((↑j : Int) + (↑(nl V) : Int)) ∧
            (IntKind.i64.wrap ((↑j : Int) + (↑(nl V) : Int))).toNat < lu,
          (IntKind.i64.wrap ((↑j : Int) + (↑(nl V) : Int))).toNat + (0 : Nat) < lu,
          (0 : Int) ≤ IntKind.i64.wrap ((↑j : Int) + (↑(nl V) : Int)) ∧
            (IntKind.i64.wrap ((↑j : Int) + (↑(nl V) : Int))).toNat < lu,
          (IntKind.i64.wrap ((↑j : Int) + (↑(nl V) : Int))).toNat + (0 : Nat) < lu]
        (ATree.leaf AEx.normal
          ([own (8 : Nat) (1 : Nat) (0 : Nat) lq, int IntKind.i64 (↑s : Int), own (7 : Nat) (1 : Nat) (0 : Nat) lu, mag V,
              int IntKind.i64 (↑(nl V) : Int), int IntKind.i64 (↑j : Int), int IntKind.u64 (↑x : Int)],
            [((7 : Nat),
                { row := true, wr := true, es := (1 : Nat), len := lu,
                  f := fun (j_1 : Nat) ↦
                    if (j_1 == (IntKind.i64.wrap ((↑j : Int) + (↑(nl V) : Int))).toNat + (0 : Nat)) = true then
                      int IntKind.u32
                        (IntKind.u32.wrap
                          ((↑(u ((IntKind.i64.wrap ((↑j : Int) + (↑(nl V) : Int))).toNat + (0 : Nat))) : Int) +
                            IntKind.u32.wrap (↑c : Int)))
                    else limbsF u j_1 }),
              ((8 : Nat), { row := true, wr := true, es := (1 : Nat), len := lq, f := limbsF q })]))) := by kernel_rfl
theorem div_set {lq s lu V j x : Nat} {q u : Nat → Nat} : seeL T GD [] 60 divLs (behind divR [1,1,0,1]) ⟨zipL (divLs ++ [15]) (divVs lq s lu V (j : Nat) ++ [.int .u64 x]), divOs lq lu q u, 9⟩ =
    some
      (ATree.must [(0 : Int) ≤ (↑j : Int) ∧ (↑j : Int).toNat < lq, (↑j : Int).toNat + (0 : Nat) < lq]
        (ATree.leaf AEx.normal
          ([own (8 : Nat) (1 : Nat) (0 : Nat) lq, int IntKind.i64 (↑s : Int), own (7 : Nat) (1 : Nat) (0 : Nat) lu, mag V,
              int IntKind.i64 (↑(nl V) : Int), int IntKind.i64 (↑j : Int)],
            [((7 : Nat), { row := true, wr := true, es := (1 : Nat), len := lu, f := limbsF u }),
              ((8 : Nat),
                { row := true, wr := true, es := (1 : Nat), len := lq,
                  f := fun (j_1 : Nat) ↦
                    if (j_1 == (↑j : Int).toNat + (0 : Nat)) = true then int IntKind.u32 (IntKind.u32.wrap (↑x : Int))
                    else limbsF q j_1 })]))) := by kernel_rfl
theorem div_next {lq s lu V j : Nat} {q u : Nat → Nat} : seeL T GD [] 60 divLs [part divBody [1,1]] ⟨zipL divLs (divVs lq s lu V (j : Nat)), divOs lq lu q u, 9⟩ =
    some
      (ATree.leaf AEx.normal
        ([own (8 : Nat) (1 : Nat) (0 : Nat) lq, int IntKind.i64 (↑s : Int), own (7 : Nat) (1 : Nat) (0 : Nat) lu, mag V,
            int IntKind.i64 (↑(nl V) : Int), int IntKind.i64 (IntKind.i64.wrap ((↑j : Int) - (1 : Int)))],
          [((7 : Nat), { row := true, wr := true, es := (1 : Nat), len := lu, f := limbsF u }),
            ((8 : Nat), { row := true, wr := true, es := (1 : Nat), len := lq, f := limbsF q })])) := by kernel_rfl
theorem div_6 {lq s lu V : Nat} {q u : Nat → Nat} : seeL T GT [] 60 [4, 5, 9, 261, 262] (before divE [1,0,1]) ⟨zipL divLs (divVs lq s lu V (-1)), divOs lq lu q u, 9⟩ =
    some
      (ATree.must [Limbs lu (limbsF u), lu = lu, lu < (2 : Nat) ^ (62 : Nat)]
        (ATree.leaf AEx.normal
          ([own (8 : Nat) (1 : Nat) (0 : Nat) lq,
              own (7 : Nat) (1 : Nat) (0 : Nat) (nl (val lu fun (i : Nat) ↦ numOf (limbsF u i))),
              int IntKind.i64 (↑s : Int), int IntKind.i64 (↑(nl (val lu fun (i : Nat) ↦ numOf (limbsF u i))) : Int),
              int IntKind.i64 (0 : Int)],
            [((7 : Nat), { row := true, wr := true, es := (1 : Nat), len := lu, f := limbsF u }),
              ((8 : Nat), { row := true, wr := true, es := (1 : Nat), len := lq, f := limbsF q })]))) := by kernel_rfl
theorem div_sh1 {lq s lu l i : Nat} {q u : Nat → Nat} : seeL T GT [263] 60 [4, 5, 9, 261, 262] (before (part divE [1,0,1,0,0]) [1,1,0]) ⟨zipL [4, 5, 9, 261, 262] [.own 8 1 0 lq, .own 7 1 0 l, .int .i64 s, .int .i64 l, .int .i64 i], divOs lq lu q u, 9⟩ =
    some
      (ATree.fork (decide ((↑i : Int) < (↑l : Int)))
        (ATree.leaf AEx.normal
          ([own (8 : Nat) (1 : Nat) (0 : Nat) lq, own (7 : Nat) (1 : Nat) (0 : Nat) l, int IntKind.i64 (↑s : Int),
              int IntKind.i64 (↑l : Int), int IntKind.i64 (↑i : Int)],
            [((7 : Nat), { row := true, wr := true, es := (1 : Nat), len := lu, f := limbsF u }),
              ((8 : Nat), { row := true, wr := true, es := (1 : Nat), len := lq, f := limbsF q })]))
        (ATree.leaf (AEx.exit (9 : Nat))
          ([own (8 : Nat) (1 : Nat) (0 : Nat) lq, own (7 : Nat) (1 : Nat) (0 : Nat) l, int IntKind.i64 (↑s : Int),
              int IntKind.i64 (↑l : Int), int IntKind.i64 (↑i : Int)],
            [((7 : Nat), { row := true, wr := true, es := (1 : Nat), len := lu, f := limbsF u }),
              ((8 : Nat), { row := true, wr := true, es := (1 : Nat), len := lq, f := limbsF q })]))) := by kernel_rfl
theorem div_sh2 {lq s lu l i : Nat} {q u : Nat → Nat} : seeL T GT [] 60 [4, 5, 9, 25, 261, 262] (before (part divE [1,0,1,0,0,1,1,0,0]) [1,1]) ⟨zipL [4, 5, 9, 261, 262] [.own 8 1 0 lq, .own 7 1 0 l, .int .i64 s, .int .i64 l, .int .i64 i], divOs lq lu q u, 9⟩ =
    some
      (ATree.must
        [(0 : Int) ≤ (↑i : Int) ∧ (↑i : Int).toNat < l, (↑i : Int).toNat + (0 : Nat) < lu, (0 : Int) ≤ (↑s : Int),
          (0 : Int) ≤ (↑i : Int) ∧ (↑i : Int).toNat < l, (↑i : Int).toNat + (0 : Nat) < lu]
        (ATree.leaf AEx.normal
          ([own (8 : Nat) (1 : Nat) (0 : Nat) lq, own (7 : Nat) (1 : Nat) (0 : Nat) l, int IntKind.i64 (↑s : Int),
              int IntKind.i64 (↑i : Int), int IntKind.i64 (↑l : Int), int IntKind.i64 (↑i : Int)],
            [((7 : Nat),
                { row := true, wr := true, es := (1 : Nat), len := lu,
                  f := fun (j : Nat) ↦
                    if (j == (↑i : Int).toNat + (0 : Nat)) = true then
                      int IntKind.u32
                        ((↑(u ((↑i : Int).toNat + (0 : Nat))) : Int).fdiv
                          ((2 : Int) ^ min (↑s : Int).toNat IntKind.u32.bits))
                    else limbsF u j }),
              ((8 : Nat), { row := true, wr := true, es := (1 : Nat), len := lq, f := limbsF q })]))) := by kernel_rfl
theorem div_sh3 {lq s lu l i : Nat} {q u : Nat → Nat} : seeL T GT [274, 280] 60 [4, 5, 9, 261, 262] [part divE [1,0,1,0,0,1,1,0,0,1,1]] ⟨zipL [4, 5, 9, 25, 261, 262] [.own 8 1 0 lq, .own 7 1 0 l, .int .i64 s, .int .i64 i, .int .i64 l, .int .i64 i], divOs lq lu q u, 9⟩ =
    some
      (ATree.fork (decide ((↑s : Int) > (0 : Int)))
        (ATree.must [decide ((↑s : Int) > (0 : Int)) = true]
          (ATree.fork (bif true then decide (IntKind.i64.wrap ((↑i : Int) + (1 : Int)) < (↑l : Int)) else false)
            (ATree.must
              [(0 : Int) ≤ (↑i : Int) ∧ (↑i : Int).toNat < l, (↑i : Int).toNat + (0 : Nat) < lu,
                (0 : Int) ≤ IntKind.i64.wrap ((↑i : Int) + (1 : Int)) ∧
                  (IntKind.i64.wrap ((↑i : Int) + (1 : Int))).toNat < l,
                (IntKind.i64.wrap ((↑i : Int) + (1 : Int))).toNat + (0 : Nat) < lu,
                (0 : Int) ≤ IntKind.i64.wrap ((32 : Int) - (↑s : Int)), (0 : Int) ≤ (↑i : Int) ∧ (↑i : Int).toNat < l,
                (↑i : Int).toNat + (0 : Nat) < lu]
              (ATree.leaf AEx.normal
                ([own (8 : Nat) (1 : Nat) (0 : Nat) lq, own (7 : Nat) (1 : Nat) (0 : Nat) l, int IntKind.i64 (↑s : Int),
                    int IntKind.i64 (↑l : Int), int IntKind.i64 (↑i : Int)],
                  [((7 : Nat),
                      { row := true, wr := true, es := (1 : Nat), len := lu,
                        f := fun (j : Nat) ↦
                          if (j == (↑i : Int).toNat + (0 : Nat)) = true then
                            int IntKind.u32
                              (IntKind.u32.wrap
                                (↑(BitVec.ofInt IntKind.u32.bits (↑(u ((↑i : Int).toNat + (0 : Nat))) : Int) |||
                                        BitVec.ofInt IntKind.u32.bits
                                          (IntKind.u32.wrap
                                            ((↑(u ((IntKind.i64.wrap ((↑i : Int) + (1 : Int))).toNat + (0 : Nat))) : Int) *
                                              (2 : Int) ^
                                                min (IntKind.i64.wrap ((32 : Int) - (↑s : Int))).toNat
                                                  IntKind.u32.bits))).toNat :
                                  Int))
                          else limbsF u j }),
                    ((8 : Nat), { row := true, wr := true, es := (1 : Nat), len := lq, f := limbsF q })])))
            (ATree.leaf AEx.normal
              ([own (8 : Nat) (1 : Nat) (0 : Nat) lq, own (7 : Nat) (1 : Nat) (0 : Nat) l, int IntKind.i64 (↑s : Int),
                  int IntKind.i64 (↑l : Int), int IntKind.i64 (↑i : Int)],
                [((7 : Nat), { row := true, wr := true, es := (1 : Nat), len := lu, f := limbsF u }),
                  ((8 : Nat), { row := true, wr := true, es := (1 : Nat), len := lq, f := limbsF q })]))))
        (ATree.must [decide ((↑s : Int) > (0 : Int)) = false]
          (ATree.fork false
            (ATree.must
              [(0 : Int) ≤ (↑i : Int) ∧ (↑i : Int).toNat < l, (↑i : Int).toNat + (0 : Nat) < lu,
                (0 : Int) ≤ IntKind.i64.wrap ((↑i : Int) + (1 : Int)) ∧
                  (IntKind.i64.wrap ((↑i : Int) + (1 : Int))).toNat < l,
                (IntKind.i64.wrap ((↑i : Int) + (1 : Int))).toNat + (0 : Nat) < lu,
                (0 : Int) ≤ IntKind.i64.wrap ((32 : Int) - (↑s : Int)), (0 : Int) ≤ (↑i : Int) ∧ (↑i : Int).toNat < l,
                (↑i : Int).toNat + (0 : Nat) < lu]
              (ATree.leaf AEx.normal
                ([own (8 : Nat) (1 : Nat) (0 : Nat) lq, own (7 : Nat) (1 : Nat) (0 : Nat) l, int IntKind.i64 (↑s : Int),
                    int IntKind.i64 (↑l : Int), int IntKind.i64 (↑i : Int)],
                  [((7 : Nat),
                      { row := true, wr := true, es := (1 : Nat), len := lu,
                        f := fun (j : Nat) ↦
                          if (j == (↑i : Int).toNat + (0 : Nat)) = true then
                            int IntKind.u32
                              (IntKind.u32.wrap
                                (↑(BitVec.ofInt IntKind.u32.bits (↑(u ((↑i : Int).toNat + (0 : Nat))) : Int) |||
                                        BitVec.ofInt IntKind.u32.bits
                                          (IntKind.u32.wrap
                                            ((↑(u ((IntKind.i64.wrap ((↑i : Int) + (1 : Int))).toNat + (0 : Nat))) : Int) *
                                              (2 : Int) ^
                                                min (IntKind.i64.wrap ((32 : Int) - (↑s : Int))).toNat
                                                  IntKind.u32.bits))).toNat :
                                  Int))
                          else limbsF u j }),
                    ((8 : Nat), { row := true, wr := true, es := (1 : Nat), len := lq, f := limbsF q })])))
            (ATree.leaf AEx.normal
              ([own (8 : Nat) (1 : Nat) (0 : Nat) lq, own (7 : Nat) (1 : Nat) (0 : Nat) l, int IntKind.i64 (↑s : Int),
                  int IntKind.i64 (↑l : Int), int IntKind.i64 (↑i : Int)],
                [((7 : Nat), { row := true, wr := true, es := (1 : Nat), len := lu, f := limbsF u }),
                  ((8 : Nat), { row := true, wr := true, es := (1 : Nat), len := lq, f := limbsF q })]))))) := by kernel_rfl
theorem div_sh4 {lq s lu l i : Nat} {q u : Nat → Nat} : seeL T GT [] 60 [4, 5, 9, 261, 262] (behind (part divE [1,0,1,0,0]) [1,1,0]) ⟨zipL [4, 5, 9, 261, 262] [.own 8 1 0 lq, .own 7 1 0 l, .int .i64 s, .int .i64 l, .int .i64 i], divOs lq lu q u, 9⟩ =
    some
      (ATree.leaf AEx.normal
        ([own (8 : Nat) (1 : Nat) (0 : Nat) lq, own (7 : Nat) (1 : Nat) (0 : Nat) l, int IntKind.i64 (↑s : Int),
            int IntKind.i64 (↑l : Int), int IntKind.i64 (IntKind.i64.wrap ((↑i : Int) + (1 : Int)))],
          [((7 : Nat), { row := true, wr := true, es := (1 : Nat), len := lu, f := limbsF u }),
            ((8 : Nat), { row := true, wr := true, es := (1 : Nat), len := lq, f := limbsF q })])) := by kernel_rfl
theorem div_end {lq s lu l i : Nat} {q u : Nat → Nat} : endL T G1 [] 60 fn_natural_Div (behind divE [1,0,1]) ⟨zipL [4, 5, 9, 261, 262] [.own 8 1 0 lq, .own 7 1 0 l, .int .i64 s, .int .i64 l, .int .i64 i], divOs lq lu q u, 9⟩ =
    some
      (ATree.must
        [Limbs lq fun (i : Nat) ↦ limbsF q (i + (0 : Nat)), lq < (2 : Nat) ^ (62 : Nat),
          Limbs l fun (i : Nat) ↦ limbsF u (i + (0 : Nat)), l < (2 : Nat) ^ (62 : Nat)]
        (ATree.leaf AEx.ret
          [mag (val lq fun (i : Nat) ↦ numOf (limbsF q (i + (0 : Nat)))),
            mag (val l fun (i : Nat) ↦ numOf (limbsF u (i + (0 : Nat)))), int IntKind.i64 (0 : Int)])) := by kernel_rfl
end Go.Am.B
