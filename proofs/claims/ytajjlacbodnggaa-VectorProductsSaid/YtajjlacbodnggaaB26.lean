/- ref01: Div, Gcd: what their pieces come to. -/
import Derived.Test.YtajjlacbodnggaaB25
set_option linter.unusedVariables false
namespace Go.Am.B
open Go Go.Am.N AV

theorem is_fDiv : FnIs P ref01_Div fn_ref01_Div (codeOf fn_ref01_Div) := fnIs get_ref01_Div (by kernel_rfl) (by kernel_rfl) (by kernel_rfl)
def GFD : Contracts := [(ref01_Cmp, s_fCmp), (ref01_Trim, s_fTrim), (ref01_small, s_fsmall), (ref01_Of, s_fOf), (ref01_byLimb, s_fbyLimb), (ref01_Bits, s_fBits), (ref01_up, s_fup), (ref01_times, s_ftimes), (ref01_shifted, s_fshifted), (ref01_minus, spec2m (fun A B => .mag (A - B)) fun A B => [B ≤ A, nl A < 2 ^ 40]), (ref01_down, s_fdown)]
abbrev fdvP : List Nat := [1,1,1,1,1,1,1,1,1,0,1]
noncomputable abbrev fdvL : Code := part (codeOf fn_ref01_Div) [1,1,1,1,1,1,1,1,1,0,1,0,0]
noncomputable abbrev fdvC : Code := part fdvL [1,0,0]
abbrev fdvLs : List Nat := [1, 13, 5, 14, 4, 15]
abbrev fdvVs (V s R lq : Nat) (j : Int) (K : Nat) : List AV := [.mag V, .int .i64 s, .mag R, .int .i64 (nl V), .own K 1 0 lq, .int .i64 j]
theorem GFD_ok : GOK P GFD := gok_cons s_fCmp_ok (gok_cons s_fTrim_ok (gok_cons s_fsmall_ok (gok_cons s_fOf_ok (gok_cons s_fbyLimb_ok (gok_cons s_fBits_ok (gok_cons s_fup_ok (gok_cons s_ftimes_ok (gok_cons s_fshifted_ok (gok_cons (spec2m_ok fun h => fminus_ok h.1 h.2) (gok_cons s_fdown_ok gok_nil))))))))))
theorem fdv_1 {A B : Nat} : seeL T GFD [21, 25, 33, 49] 60 [0, 1, 4, 5, 6] ((before (codeOf fn_ref01_Div) fdvP).take 5) ⟨zipSlots 0 [.mag A, .mag B], [], 0⟩ =
    some
      (ATree.fork ((↑(nl B) : Int) == (0 : Int))
        (ATree.leaf AEx.ret ([mag A, mag B, nil, nil, int IntKind.i64 (3 : Int)], []))
        (ATree.must [nl A < (2 : Nat) ^ (40 : Nat), nl B < (2 : Nat) ^ (40 : Nat)]
          (ATree.fork (decide (cmpI A B < (0 : Int)))
            (ATree.must [nl A < (2 : Nat) ^ (40 : Nat)]
              (ATree.leaf AEx.ret ([mag A, mag B, nil, mag A, int IntKind.i64 (0 : Int)], [])))
            (ATree.fork (fitsW A)
              (ATree.must
                [(↑(if fitsW B = true then B else (0 : Nat)) : Int) ≠ (0 : Int),
                  (0 : Int) ≤
                      IntKind.u64.wrap
                        ((↑(if fitsW A = true then A else (0 : Nat)) : Int).tdiv
                          (↑(if fitsW B = true then B else (0 : Nat)) : Int)) ∧
                    IntKind.u64.wrap
                        ((↑(if fitsW A = true then A else (0 : Nat)) : Int).tdiv
                          (↑(if fitsW B = true then B else (0 : Nat)) : Int)) <
                      (2 : Int) ^ (64 : Nat),
                  (↑(if fitsW B = true then B else (0 : Nat)) : Int) ≠ (0 : Int),
                  (0 : Int) ≤
                      (↑(if fitsW A = true then A else (0 : Nat)) : Int).tmod
                        (↑(if fitsW B = true then B else (0 : Nat)) : Int) ∧
                    (↑(if fitsW A = true then A else (0 : Nat)) : Int).tmod
                        (↑(if fitsW B = true then B else (0 : Nat)) : Int) <
                      (2 : Int) ^ (64 : Nat)]
                (ATree.leaf AEx.ret
                  ([mag A, mag B,
                      mag
                        (IntKind.u64.wrap
                            ((↑(if fitsW A = true then A else (0 : Nat)) : Int).tdiv
                              (↑(if fitsW B = true then B else (0 : Nat)) : Int))).toNat,
                      mag
                        ((↑(if fitsW A = true then A else (0 : Nat)) : Int).tmod
                            (↑(if fitsW B = true then B else (0 : Nat)) : Int)).toNat,
                      int IntKind.i64 (0 : Int)],
                    [])))
              (ATree.fork ((↑(nl B) : Int) == (1 : Int))
                (ATree.must
                  [(0 : Int) ≤ (0 : Int) ∧ Int.toNat (0 : Int) < nl B, nl A < (2 : Nat) ^ (40 : Nat),
                    (0 : Int) < (↑(limb B (Int.toNat (0 : Int))) : Int),
                    (↑(limb B (Int.toNat (0 : Int))) : Int) < (2 : Int) ^ (32 : Nat)]
                  (ATree.must
                    [(0 : Int) ≤ IntKind.u64.wrap (↑(A % (↑(limb B (Int.toNat (0 : Int))) : Int).toNat) : Int) ∧
                        IntKind.u64.wrap (↑(A % (↑(limb B (Int.toNat (0 : Int))) : Int).toNat) : Int) <
                          (2 : Int) ^ (64 : Nat)]
                    (ATree.leaf AEx.ret
                      ([mag A, mag B, mag (A / (↑(limb B (Int.toNat (0 : Int))) : Int).toNat),
                          mag (IntKind.u64.wrap (↑(A % (↑(limb B (Int.toNat (0 : Int))) : Int).toNat) : Int)).toNat,
                          int IntKind.i64 (0 : Int)],
                        []))))
                (ATree.leaf AEx.normal ([mag A, mag B, nil, nil, int IntKind.i64 (0 : Int)], []))))))) := by kernel_rfl
theorem fdv_2 {A B : Nat} : seeL T GFD [] 60 [0, 1, 13] (((before (codeOf fn_ref01_Div) fdvP).drop 5).take 1) ⟨zipL [0, 1] [.mag A, .mag B], [], 0⟩ =
    some
      (ATree.must
        [(0 : Int) ≤ IntKind.i64.wrap ((↑(nl B) : Int) - (1 : Int)) ∧
            IntKind.i64.wrap ((↑(nl B) : Int) - (1 : Int)) ≤ (↑(nl B) : Int) ∧
              (↑(nl B) : Int) ≤ (↑(nl B) : Int) ∧ (↑(nl B) : Int) ≤ (↑(nl B) : Int),
          Limbs ((↑(nl B) : Int).toNat - (IntKind.i64.wrap ((↑(nl B) : Int) - (1 : Int))).toNat) fun (i : Nat) ↦
            int IntKind.u32 (↑(limb B (i + (IntKind.i64.wrap ((↑(nl B) : Int) - (1 : Int))).toNat)) : Int),
          (↑(nl B) : Int).toNat - (IntKind.i64.wrap ((↑(nl B) : Int) - (1 : Int))).toNat < (2 : Nat) ^ (40 : Nat),
          nl
              (val ((↑(nl B) : Int).toNat - (IntKind.i64.wrap ((↑(nl B) : Int) - (1 : Int))).toNat) fun (i : Nat) ↦
                numOf (int IntKind.u32 (↑(limb B (i + (IntKind.i64.wrap ((↑(nl B) : Int) - (1 : Int))).toNat)) : Int))) =
            (↑(nl B) : Int).toNat - (IntKind.i64.wrap ((↑(nl B) : Int) - (1 : Int))).toNat]
        (ATree.leaf AEx.normal
          ([mag A, mag B,
              int IntKind.i64
                (IntKind.i64.wrap
                  ((32 : Int) -
                    (↑(bitsN
                          (val ((↑(nl B) : Int).toNat - (IntKind.i64.wrap ((↑(nl B) : Int) - (1 : Int))).toNat)
                            fun (i : Nat) ↦
                            numOf
                              (int IntKind.u32
                                (↑(limb B (i + (IntKind.i64.wrap ((↑(nl B) : Int) - (1 : Int))).toNat)) : Int)))) :
                      Int)))],
            []))) := by kernel_rfl
theorem fdv_3 {A B s : Nat} : seeL T GFD [] 60 fdvLs ((before (codeOf fn_ref01_Div) fdvP).drop (5 + 1)) ⟨zipL [0, 1, 13] [.mag A, .mag B, .int .i64 s], [], 0⟩ =
    some
      (ATree.must
        [nl B < (2 : Nat) ^ (39 : Nat), (0 : Int) ≤ (↑s : Int), (↑s : Int) < (2 : Int) ^ (43 : Nat),
          nl A < (2 : Nat) ^ (39 : Nat), (0 : Int) ≤ (↑s : Int), (↑s : Int) < (2 : Int) ^ (43 : Nat)]
        (ATree.must
          [(0 : Int) ≤
                IntKind.i64.wrap
                  (IntKind.i64.wrap
                      ((↑(nl (A * (2 : Nat) ^ (↑s : Int).toNat)) : Int) -
                        (↑(nl (B * (2 : Nat) ^ (↑s : Int).toNat)) : Int)) +
                    (1 : Int)) ∧
              IntKind.i64.wrap
                    (IntKind.i64.wrap
                        ((↑(nl (A * (2 : Nat) ^ (↑s : Int).toNat)) : Int) -
                          (↑(nl (B * (2 : Nat) ^ (↑s : Int).toNat)) : Int)) +
                      (1 : Int)) ≤
                  IntKind.i64.wrap
                    (IntKind.i64.wrap
                        ((↑(nl (A * (2 : Nat) ^ (↑s : Int).toNat)) : Int) -
                          (↑(nl (B * (2 : Nat) ^ (↑s : Int).toNat)) : Int)) +
                      (1 : Int)) ∧
                IntKind.i64.wrap
                      (IntKind.i64.wrap
                          ((↑(nl (A * (2 : Nat) ^ (↑s : Int).toNat)) : Int) -
                            (↑(nl (B * (2 : Nat) ^ (↑s : Int).toNat)) : Int)) +
                        (1 : Int)) ≤
                    (2 : Int) ^ (47 : Nat) ∧
                  IntKind.i64.wrap
                        (IntKind.i64.wrap
                            ((↑(nl (A * (2 : Nat) ^ (↑s : Int).toNat)) : Int) -
                              (↑(nl (B * (2 : Nat) ^ (↑s : Int).toNat)) : Int)) +
                          (1 : Int)) *
                      (↑(4 : Nat) : Int) ≤
                    (2 : Int) ^ (47 : Nat)]
          (ATree.leaf AEx.normal
            ([mag (B * (2 : Nat) ^ (↑s : Int).toNat), int IntKind.i64 (↑s : Int), mag (A * (2 : Nat) ^ (↑s : Int).toNat),
                int IntKind.i64 (↑(nl (B * (2 : Nat) ^ (↑s : Int).toNat)) : Int),
                own (65536 : Nat) (1 : Nat) (0 : Nat)
                  (IntKind.i64.wrap
                      (IntKind.i64.wrap
                          ((↑(nl (A * (2 : Nat) ^ (↑s : Int).toNat)) : Int) -
                            (↑(nl (B * (2 : Nat) ^ (↑s : Int).toNat)) : Int)) +
                        (1 : Int))).toNat,
                int IntKind.i64
                  (IntKind.i64.wrap
                    ((↑(nl (A * (2 : Nat) ^ (↑s : Int).toNat)) : Int) - (↑(nl (B * (2 : Nat) ^ (↑s : Int).toNat)) : Int)))],
              [((65536 : Nat),
                  { row := true, wr := true, es := (1 : Nat),
                    len :=
                      (IntKind.i64.wrap
                          (IntKind.i64.wrap
                              ((↑(nl (A * (2 : Nat) ^ (↑s : Int).toNat)) : Int) -
                                (↑(nl (B * (2 : Nat) ^ (↑s : Int).toNat)) : Int)) +
                            (1 : Int))).toNat,
                    f := fun (x : Nat) ↦ int IntKind.u32 (0 : Int) })])))) := by kernel_rfl
theorem fdv_head {V s R lq m : Nat} {q : Nat → Nat} : seeL T GFD [88] 60 fdvLs [part fdvL [0]] ⟨zipL fdvLs (fdvVs V s R lq ((m : Int) - 1) 7), fmOs 7 lq q, 8⟩ =
    some
      (ATree.fork (decide ((↑m : Int) - (1 : Int) ≥ (0 : Int)))
        (ATree.leaf AEx.normal
          ([mag V, int IntKind.i64 (↑s : Int), mag R, int IntKind.i64 (↑(nl V) : Int), own (7 : Nat) (1 : Nat) (0 : Nat) lq,
              int IntKind.i64 ((↑m : Int) - (1 : Int))],
            [((7 : Nat), { row := true, wr := true, es := (1 : Nat), len := lq, f := limbsF q })]))
        (ATree.leaf (AEx.exit (0 : Nat))
          ([mag V, int IntKind.i64 (↑s : Int), mag R, int IntKind.i64 (↑(nl V) : Int), own (7 : Nat) (1 : Nat) (0 : Nat) lq,
              int IntKind.i64 ((↑m : Int) - (1 : Int))],
            [((7 : Nat), { row := true, wr := true, es := (1 : Nat), len := lq, f := limbsF q })]))) := by kernel_rfl
theorem fdv_a {V s R lq j : Nat} {q : Nat → Nat} : seeL T GFD [96, 110] 60 (fdvLs ++ [16]) ((before fdvC [1,1,1,1,1,0]).take 3) ⟨zipL fdvLs (fdvVs V s R lq (j : Nat) 7), fmOs 7 lq q, 8⟩ =
    some
      (ATree.fork (decide (IntKind.i64.wrap ((↑j : Int) + (↑(nl V) : Int)) < (↑(nl R) : Int)))
        (ATree.must
          [(0 : Int) ≤ IntKind.i64.wrap ((↑j : Int) + (↑(nl V) : Int)) ∧
              (IntKind.i64.wrap ((↑j : Int) + (↑(nl V) : Int))).toNat < nl R]
          (ATree.fork
            (decide (IntKind.i64.wrap (IntKind.i64.wrap ((↑j : Int) + (↑(nl V) : Int)) - (1 : Int)) < (↑(nl R) : Int)))
            (ATree.must
              [(0 : Int) ≤ (32 : Int),
                (0 : Int) ≤ IntKind.i64.wrap (IntKind.i64.wrap ((↑j : Int) + (↑(nl V) : Int)) - (1 : Int)) ∧
                  (IntKind.i64.wrap (IntKind.i64.wrap ((↑j : Int) + (↑(nl V) : Int)) - (1 : Int))).toNat < nl R]
              (ATree.leaf AEx.normal
                ([mag V, int IntKind.i64 (↑s : Int), mag R, int IntKind.i64 (↑(nl V) : Int),
                    own (7 : Nat) (1 : Nat) (0 : Nat) lq, int IntKind.i64 (↑j : Int),
                    int IntKind.u64
                      (IntKind.u64.wrap
                        (↑(BitVec.ofInt IntKind.u64.bits
                                  (IntKind.u64.wrap
                                    (IntKind.u64.wrap
                                        (↑(limb R (IntKind.i64.wrap ((↑j : Int) + (↑(nl V) : Int))).toNat) : Int) *
                                      (2 : Int) ^ min (Int.toNat (32 : Int)) IntKind.u64.bits)) |||
                                BitVec.ofInt IntKind.u64.bits
                                  (IntKind.u64.wrap
                                    (↑(limb R
                                          (IntKind.i64.wrap
                                              (IntKind.i64.wrap ((↑j : Int) + (↑(nl V) : Int)) - (1 : Int))).toNat) :
                                      Int))).toNat :
                          Int))],
                  [((7 : Nat), { row := true, wr := true, es := (1 : Nat), len := lq, f := limbsF q })])))
            (ATree.must [(0 : Int) ≤ (32 : Int)]
              (ATree.leaf AEx.normal
                ([mag V, int IntKind.i64 (↑s : Int), mag R, int IntKind.i64 (↑(nl V) : Int),
                    own (7 : Nat) (1 : Nat) (0 : Nat) lq, int IntKind.i64 (↑j : Int),
                    int IntKind.u64
                      (IntKind.u64.wrap
                        (IntKind.u64.wrap (↑(limb R (IntKind.i64.wrap ((↑j : Int) + (↑(nl V) : Int))).toNat) : Int) *
                          (2 : Int) ^ min (Int.toNat (32 : Int)) IntKind.u64.bits))],
                  [((7 : Nat), { row := true, wr := true, es := (1 : Nat), len := lq, f := limbsF q })])))))
        (ATree.fork
          (decide (IntKind.i64.wrap (IntKind.i64.wrap ((↑j : Int) + (↑(nl V) : Int)) - (1 : Int)) < (↑(nl R) : Int)))
          (ATree.must
            [(0 : Int) ≤ (32 : Int),
              (0 : Int) ≤ IntKind.i64.wrap (IntKind.i64.wrap ((↑j : Int) + (↑(nl V) : Int)) - (1 : Int)) ∧
                (IntKind.i64.wrap (IntKind.i64.wrap ((↑j : Int) + (↑(nl V) : Int)) - (1 : Int))).toNat < nl R]
            (ATree.leaf AEx.normal
              ([mag V, int IntKind.i64 (↑s : Int), mag R, int IntKind.i64 (↑(nl V) : Int),
                  own (7 : Nat) (1 : Nat) (0 : Nat) lq, int IntKind.i64 (↑j : Int),
                  int IntKind.u64
                    (IntKind.u64.wrap
                      (↑(BitVec.ofInt IntKind.u64.bits
                                (IntKind.u64.wrap ((0 : Int) * (2 : Int) ^ min (Int.toNat (32 : Int)) IntKind.u64.bits)) |||
                              BitVec.ofInt IntKind.u64.bits
                                (IntKind.u64.wrap
                                  (↑(limb R
                                        (IntKind.i64.wrap
                                            (IntKind.i64.wrap ((↑j : Int) + (↑(nl V) : Int)) - (1 : Int))).toNat) :
                                    Int))).toNat :
                        Int))],
                [((7 : Nat), { row := true, wr := true, es := (1 : Nat), len := lq, f := limbsF q })])))
          (ATree.must [(0 : Int) ≤ (32 : Int)]
            (ATree.leaf AEx.normal
              ([mag V, int IntKind.i64 (↑s : Int), mag R, int IntKind.i64 (↑(nl V) : Int),
                  own (7 : Nat) (1 : Nat) (0 : Nat) lq, int IntKind.i64 (↑j : Int), int IntKind.u64 (0 : Int)],
                [((7 : Nat), { row := true, wr := true, es := (1 : Nat), len := lq, f := limbsF q })]))))) := by kernel_rfl
theorem fdv_b {V s R lq j t : Nat} {q : Nat → Nat} : seeL T GFD [] 60 (fdvLs ++ [17]) (((before fdvC [1,1,1,1,1,0]).drop 3).take 1) ⟨zipL (fdvLs ++ [16]) (fdvVs V s R lq (j : Nat) 7 ++ [.int .u64 t]), fmOs 7 lq q, 8⟩ =
    some
      (ATree.must
        [(0 : Int) ≤ IntKind.i64.wrap ((↑(nl V) : Int) - (1 : Int)) ∧
            (IntKind.i64.wrap ((↑(nl V) : Int) - (1 : Int))).toNat < nl V,
          IntKind.u64.wrap (↑(limb V (IntKind.i64.wrap ((↑(nl V) : Int) - (1 : Int))).toNat) : Int) ≠ (0 : Int)]
        (ATree.leaf AEx.normal
          ([mag V, int IntKind.i64 (↑s : Int), mag R, int IntKind.i64 (↑(nl V) : Int), own (7 : Nat) (1 : Nat) (0 : Nat) lq,
              int IntKind.i64 (↑j : Int),
              int IntKind.u64
                (if
                    (4294967295 : Int) <
                      IntKind.u64.wrap
                        ((↑t : Int).tdiv
                          (IntKind.u64.wrap (↑(limb V (IntKind.i64.wrap ((↑(nl V) : Int) - (1 : Int))).toNat) : Int))) then
                  (4294967295 : Int)
                else
                  IntKind.u64.wrap
                    ((↑t : Int).tdiv
                      (IntKind.u64.wrap (↑(limb V (IntKind.i64.wrap ((↑(nl V) : Int) - (1 : Int))).toNat) : Int))))],
            [((7 : Nat), { row := true, wr := true, es := (1 : Nat), len := lq, f := limbsF q })]))) := by kernel_rfl
theorem fdv_c {V s R lq j d : Nat} {q : Nat → Nat} : seeL T GFD [] 60 (fdvLs ++ [17, 18]) ((before fdvC [1,1,1,1,1,0]).drop (3 + 1)) ⟨zipL (fdvLs ++ [17]) (fdvVs V s R lq (j : Nat) 7 ++ [.int .u64 d]), fmOs 7 lq q, 8⟩ =
    some
      (ATree.must
        [nl V < (2 : Nat) ^ (39 : Nat), (0 : Int) ≤ IntKind.u32.wrap (↑d : Int),
          IntKind.u32.wrap (↑d : Int) < (2 : Int) ^ (32 : Nat),
          nl (V * (IntKind.u32.wrap (↑d : Int)).toNat) < (2 : Nat) ^ (40 : Nat), (0 : Int) ≤ (↑j : Int),
          (↑j : Int) < (2 : Int) ^ (40 : Nat)]
        (ATree.leaf AEx.normal
          ([mag V, int IntKind.i64 (↑s : Int), mag R, int IntKind.i64 (↑(nl V) : Int), own (7 : Nat) (1 : Nat) (0 : Nat) lq,
              int IntKind.i64 (↑j : Int), int IntKind.u64 (↑d : Int),
              mag (V * (IntKind.u32.wrap (↑d : Int)).toNat * (2 : Nat) ^ ((32 : Nat) * (↑j : Int).toNat))],
            [((7 : Nat), { row := true, wr := true, es := (1 : Nat), len := lq, f := limbsF q })]))) := by kernel_rfl
theorem fdv_d {V s R lq j d X : Nat} {q : Nat → Nat} : seeL T GFD [142] 60 (fdvLs ++ [17, 18]) [part fdvC [1,1,1,1,1,0,0,0]] ⟨zipL (fdvLs ++ [17, 18]) (fdvVs V s R lq (j : Nat) 7 ++ [.int .u64 d, .mag X]), fmOs 7 lq q, 8⟩ =
    some
      (ATree.must [nl X < (2 : Nat) ^ (40 : Nat), nl R < (2 : Nat) ^ (40 : Nat)]
        (ATree.fork (decide (cmpI X R > (0 : Int)))
          (ATree.must
            [nl V < (2 : Nat) ^ (40 : Nat), (0 : Int) ≤ (↑j : Int), (↑j : Int) < (2 : Int) ^ (40 : Nat),
              V * (2 : Nat) ^ ((32 : Nat) * (↑j : Int).toNat) ≤ X, nl X < (2 : Nat) ^ (40 : Nat)]
            (ATree.leaf AEx.normal
              ([mag V, int IntKind.i64 (↑s : Int), mag R, int IntKind.i64 (↑(nl V) : Int),
                  own (7 : Nat) (1 : Nat) (0 : Nat) lq, int IntKind.i64 (↑j : Int),
                  int IntKind.u64 (IntKind.u64.wrap ((↑d : Int) - (1 : Int))),
                  mag (X - V * (2 : Nat) ^ ((32 : Nat) * (↑j : Int).toNat))],
                [((7 : Nat), { row := true, wr := true, es := (1 : Nat), len := lq, f := limbsF q })])))
          (ATree.leaf (AEx.exit (2 : Nat))
            ([mag V, int IntKind.i64 (↑s : Int), mag R, int IntKind.i64 (↑(nl V) : Int),
                own (7 : Nat) (1 : Nat) (0 : Nat) lq, int IntKind.i64 (↑j : Int), int IntKind.u64 (↑d : Int), mag X],
              [((7 : Nat), { row := true, wr := true, es := (1 : Nat), len := lq, f := limbsF q })])))) := by kernel_rfl
theorem fdv_e {V s R lq j d X : Nat} {q : Nat → Nat} : seeL T GFD [] 60 fdvLs (behind fdvC [1,1,1,1,1,0]) ⟨zipL (fdvLs ++ [17, 18]) (fdvVs V s R lq (j : Nat) 7 ++ [.int .u64 d, .mag X]), fmOs 7 lq q, 8⟩ =
    some
      (ATree.must [(0 : Int) ≤ (↑j : Int) ∧ (↑j : Int).toNat < lq, (↑j : Int).toNat + (0 : Nat) < lq]
        (ATree.must [X ≤ R, nl R < (2 : Nat) ^ (40 : Nat)]
          (ATree.leaf AEx.normal
            ([mag V, int IntKind.i64 (↑s : Int), mag (R - X), int IntKind.i64 (↑(nl V) : Int),
                own (7 : Nat) (1 : Nat) (0 : Nat) lq, int IntKind.i64 (↑j : Int)],
              [((7 : Nat),
                  { row := true, wr := true, es := (1 : Nat), len := lq,
                    f := fun (j_1 : Nat) ↦
                      if (j_1 == (↑j : Int).toNat + (0 : Nat)) = true then int IntKind.u32 (IntKind.u32.wrap (↑d : Int))
                      else limbsF q j_1 })])))) := by kernel_rfl
theorem fdv_n {V s R lq j : Nat} {q : Nat → Nat} : seeL T GFD [] 60 fdvLs [part fdvL [1,1]] ⟨zipL fdvLs (fdvVs V s R lq (j : Nat) 7), fmOs 7 lq q, 8⟩ =
    some
      (ATree.leaf AEx.normal
        ([mag V, int IntKind.i64 (↑s : Int), mag R, int IntKind.i64 (↑(nl V) : Int), own (7 : Nat) (1 : Nat) (0 : Nat) lq,
            int IntKind.i64 (IntKind.i64.wrap ((↑j : Int) - (1 : Int)))],
          [((7 : Nat), { row := true, wr := true, es := (1 : Nat), len := lq, f := limbsF q })])) := by kernel_rfl
theorem fdv_end {V s R lq : Nat} {q : Nat → Nat} {j : Int} : endL T GFD [] 60 fn_ref01_Div (behind (codeOf fn_ref01_Div) fdvP) ⟨zipL fdvLs (fdvVs V s R lq j 7), fmOs 7 lq q, 8⟩ =
    some
      (ATree.must
        [Limbs lq fun (i : Nat) ↦ limbsF q (i + (0 : Nat)), lq < (2 : Nat) ^ (40 : Nat), nl R < (2 : Nat) ^ (40 : Nat),
          (0 : Int) ≤ (↑s : Int), (↑s : Int) < (2 : Int) ^ (62 : Nat)]
        (ATree.leaf AEx.ret
          [mag (val lq fun (i : Nat) ↦ numOf (limbsF q (i + (0 : Nat)))), mag (R / (2 : Nat) ^ (↑s : Int).toNat),
            int IntKind.i64 (0 : Int)])) := by kernel_rfl
end Go.Am.B
