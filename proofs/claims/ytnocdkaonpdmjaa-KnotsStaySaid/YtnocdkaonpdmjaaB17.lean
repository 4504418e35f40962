/- rational.den, parts, reduce, Same, Sign, copied, size. -/
import Derived.Test.YtnocdkaonpdmjaaB16
set_option linter.unusedVariables false
namespace Go.Am.B
open Go Go.Am.N AV
theorem is_den : FnIs P rational_den fn_rational_den (codeOf fn_rational_den) := fnIs get_rational_den (by kernel_rfl) (by kernel_rfl) (by kernel_rfl)
theorem is_parts : FnIs P rational_parts fn_rational_parts (codeOf fn_rational_parts) := fnIs get_rational_parts (by kernel_rfl) (by kernel_rfl) (by kernel_rfl)
theorem is_reduce : FnIs P rational_reduce fn_rational_reduce (codeOf fn_rational_reduce) := fnIs get_rational_reduce (by kernel_rfl) (by kernel_rfl) (by kernel_rfl)
theorem is_rSame : FnIs P rational_Same fn_rational_Same (codeOf fn_rational_Same) := fnIs get_rational_Same (by kernel_rfl) (by kernel_rfl) (by kernel_rfl)
theorem is_rSign : FnIs P rational_Sign fn_rational_Sign (codeOf fn_rational_Sign) := fnIs get_rational_Sign (by kernel_rfl) (by kernel_rfl) (by kernel_rfl)
theorem is_size : FnIs P rational_size fn_rational_size (codeOf fn_rational_size) := fnIs get_rational_size (by kernel_rfl) (by kernel_rfl) (by kernel_rfl)
def GR : Contracts := (natural_Bits, pureSpec (spec1 g_bits)) :: (rational_word, pureSpec (spec1 g_word)) :: (rational_short, s_short) :: (natural_Gcd, pureSpec (spec2 g_gcd)) :: (natural_Div, pureSpec (spec2 g_div)) :: (natural_Add, pureSpec (spec2 g_add)) :: (rational_one, s_one) :: (slices_Equal_uint32_uint32, s_equal) :: (slices_Clone_uint32_uint32, s_clone) :: (natural_Of, s_of) :: []
theorem GR_ok : GOK P GR := gok_cons s_bits (gok_cons s_rword (gok_cons s_short_ok (gok_cons s_gcd (gok_cons s_div (gok_cons s_add (gok_cons s_one_ok (gok_cons s_equal_ok (gok_cons s_clone_ok (gok_cons s_of_ok gok_nil)))))))))
theorem den_end {q : Rat} {n : Nat} : funT T GR [6] 60 fn_rational_den (codeOf fn_rational_den) ⟨zipSlots 0 [.rat q n], [], 0⟩ =
    some (ATree.must [(0 : Nat) < 1] (ATree.fork ((↑(nl (if q.den = 1 then 0 else q.den)) : Int) == (0 : Int)) (ATree.leaf AEx.ret [mag 1]) (ATree.must [(0 : Nat) < 1] (ATree.leaf AEx.ret [mag (if q.den = 1 then 0 else q.den)])))) := by kernel_rfl
theorem parts_end {q : Rat} {n : Nat} : funT T GR [9, 14, 18] 60 fn_rational_parts (codeOf fn_rational_parts) ⟨zipSlots 0 [.rat q n], [], 0⟩ =
    some (ATree.fork (decide ((↑(nl q.num.natAbs) : Int) > (1 : Int))) (ATree.must [(0 : Nat) < 1, decide ((↑(nl q.num.natAbs) : Int) > (1 : Int)) = true] (ATree.fork true (ATree.leaf AEx.ret [int IntKind.u64 (0 : Int), int IntKind.u64 (0 : Int), AV.bool false]) (ATree.must [(0 : Nat) < 1] (ATree.fork ((↑(nl (if q.den = 1 then 0 else q.den)) : Int) == (1 : Int)) (ATree.must [(0 : Nat) < 1, (0 : Int) ≤ (0 : Int) ∧ Int.toNat (0 : Int) < nl (if q.den = 1 then 0 else q.den)] (ATree.must [(0 : Nat) < 1, nl q.num.natAbs ≤ 2] (ATree.leaf AEx.ret [int IntKind.u64 (↑q.num.natAbs : Int), int IntKind.u64 (IntKind.u64.wrap (↑(limb (if q.den = 1 then 0 else q.den) (Int.toNat (0 : Int))) : Int)), AV.bool (IntKind.u64.wrap (↑(limb (if q.den = 1 then 0 else q.den) (Int.toNat (0 : Int))) : Int) != (0 : Int))]))) (ATree.must [(0 : Nat) < 1, nl q.num.natAbs ≤ 2] (ATree.leaf AEx.ret [int IntKind.u64 (↑q.num.natAbs : Int), int IntKind.u64 (1 : Int), AV.bool true])))))) (ATree.must [(0 : Nat) < 1, decide ((↑(nl q.num.natAbs) : Int) > (1 : Int)) = false, (0 : Nat) < 1] (ATree.fork (bif false then true else decide ((↑(nl (if q.den = 1 then 0 else q.den)) : Int) > (1 : Int))) (ATree.leaf AEx.ret [int IntKind.u64 (0 : Int), int IntKind.u64 (0 : Int), AV.bool false]) (ATree.must [(0 : Nat) < 1] (ATree.fork ((↑(nl (if q.den = 1 then 0 else q.den)) : Int) == (1 : Int)) (ATree.must [(0 : Nat) < 1, (0 : Int) ≤ (0 : Int) ∧ Int.toNat (0 : Int) < nl (if q.den = 1 then 0 else q.den)] (ATree.must [(0 : Nat) < 1, nl q.num.natAbs ≤ 2] (ATree.leaf AEx.ret [int IntKind.u64 (↑q.num.natAbs : Int), int IntKind.u64 (IntKind.u64.wrap (↑(limb (if q.den = 1 then 0 else q.den) (Int.toNat (0 : Int))) : Int)), AV.bool (IntKind.u64.wrap (↑(limb (if q.den = 1 then 0 else q.den) (Int.toNat (0 : Int))) : Int) != (0 : Int))]))) (ATree.must [(0 : Nat) < 1, nl q.num.natAbs ≤ 2] (ATree.leaf AEx.ret [int IntKind.u64 (↑q.num.natAbs : Int), int IntKind.u64 (1 : Int), AV.bool true]))))))) := by kernel_rfl
theorem same_end {q r : Rat} {n m : Nat} : funT T GR [10, 17] 60 fn_rational_Same (codeOf fn_rational_Same) ⟨zipSlots 0 [.rat q n, .rat r m], [], 0⟩ =
    some (ATree.fork (decide (q < 0) == decide (r < 0)) (ATree.fork (bif true then decide (q.num.natAbs = r.num.natAbs) else false) (ATree.must [(0 : Nat) < 1, (0 : Nat) < 1, (decide (q < 0) == decide (r < 0)) = true, (0 : Nat) < 1, (0 : Nat) < 1, nl q.num.natAbs < 2 ^ 40, nl r.num.natAbs < 2 ^ 40, (bif true then decide (q.num.natAbs = r.num.natAbs) else false) = true, (0 : Nat) < 1, (0 : Nat) < 1, nl (if q.den = 1 then 0 else q.den) < 2 ^ 40, nl (if r.den = 1 then 0 else r.den) < 2 ^ 40] (ATree.leaf AEx.ret [AV.bool (bif true then decide ((if q.den = 1 then 0 else q.den) = if r.den = 1 then 0 else r.den) else false)])) (ATree.must [(0 : Nat) < 1, (0 : Nat) < 1, (decide (q < 0) == decide (r < 0)) = true, (0 : Nat) < 1, (0 : Nat) < 1, nl q.num.natAbs < 2 ^ 40, nl r.num.natAbs < 2 ^ 40, (bif true then decide (q.num.natAbs = r.num.natAbs) else false) = false] (ATree.leaf AEx.ret [AV.bool false]))) (ATree.fork false (ATree.must [(0 : Nat) < 1, (0 : Nat) < 1, (decide (q < 0) == decide (r < 0)) = false, false = true, (0 : Nat) < 1, (0 : Nat) < 1, nl (if q.den = 1 then 0 else q.den) < 2 ^ 40, nl (if r.den = 1 then 0 else r.den) < 2 ^ 40] (ATree.leaf AEx.ret [AV.bool (bif true then decide ((if q.den = 1 then 0 else q.den) = if r.den = 1 then 0 else r.den) else false)])) (ATree.must [(0 : Nat) < 1, (0 : Nat) < 1, (decide (q < 0) == decide (r < 0)) = false, false = false] (ATree.leaf AEx.ret [AV.bool false])))) := by kernel_rfl
theorem sign_end {q : Rat} {n : Nat} : funT T GR [3, 8] 60 fn_rational_Sign (codeOf fn_rational_Sign) ⟨zipSlots 0 [.rat q n], [], 0⟩ =
    some (ATree.must [(0 : Nat) < 1, nl q.num.natAbs < 2 ^ 40] (ATree.fork ((↑(bitsN q.num.natAbs) : Int) == (0 : Int)) (ATree.leaf AEx.ret [int IntKind.i64 (0 : Int)]) (ATree.must [(0 : Nat) < 1] (ATree.fork (decide (q < 0)) (ATree.leaf AEx.ret [int IntKind.i64 (-1 : Int)]) (ATree.leaf AEx.ret [int IntKind.i64 (1 : Int)]))))) := by kernel_rfl
theorem size_end {n : Int} : funT T GR [4] 60 fn_rational_size (codeOf fn_rational_size) ⟨zipSlots 0 [.int .i64 n], [], 0⟩ =
    some (ATree.fork (n == (-9223372036854775808 : Int)) (ATree.must [(0 : Int) ≤ (9223372036854775808 : Int) ∧ (9223372036854775808 : Int) < (2 : Int) ^ 64] (ATree.leaf AEx.ret [mag 9223372036854775808])) (ATree.must [(0 : Int) ≤ IntKind.u64.wrap (if n < IntKind.i64.wrap ((0 : Int) - n) then IntKind.i64.wrap ((0 : Int) - n) else n) ∧ IntKind.u64.wrap (if n < IntKind.i64.wrap ((0 : Int) - n) then IntKind.i64.wrap ((0 : Int) - n) else n) < (2 : Int) ^ 64] (ATree.leaf AEx.ret [mag (IntKind.u64.wrap (if n < IntKind.i64.wrap ((0 : Int) - n) then IntKind.i64.wrap ((0 : Int) - n) else n)).toNat]))) := by kernel_rfl
abbrev redLs : List Nat := [0, 1, 2, 6]
abbrev redVs (b : Bool) (N D : Nat) : List AV := [.bool b, .mag N, .mag D, .ptr 0 0 3 0 []]
abbrev redOs : Store := [(0, ⟨false, true, 3, 1, fun _ => .rat 0 1⟩)]
theorem red_1 {b : Bool} {N D : Nat} : seeL T GR [11, 15] 60 redLs ((before (codeOf fn_rational_reduce) [1,1,1,1]).take 2) ⟨zipSlots 0 [.bool b, .mag N, .mag D], [], 0⟩ =
    some (ATree.fork ((↑(bitsN N) : Int) == (0 : Int)) (ATree.must [nl N < 2 ^ 40, ((↑(bitsN N) : Int) == (0 : Int)) = true] (ATree.fork true (ATree.must [(0 : Nat) < 1] (ATree.leaf AEx.ret ([AV.bool b, mag N, mag D, ptr 0 0 3 0 []], [((0 : Nat), { row := false, wr := true, es := 3, len := 1, f := fun (j : Nat) ↦ if (j == 0) = true then deN (agg (rat 0 1).kids) else rat 0 1 })]))) (ATree.leaf AEx.normal ([AV.bool b, mag N, mag D, ptr 0 0 3 0 []], [((0 : Nat), { row := false, wr := true, es := 3, len := 1, f := fun (x : Nat) ↦ rat 0 1 })])))) (ATree.must [nl N < 2 ^ 40, ((↑(bitsN N) : Int) == (0 : Int)) = false, nl D < 2 ^ 40] (ATree.fork (bif false then true else (↑(bitsN D) : Int) == (0 : Int)) (ATree.must [(0 : Nat) < 1] (ATree.leaf AEx.ret ([AV.bool b, mag N, mag D, ptr 0 0 3 0 []], [((0 : Nat), { row := false, wr := true, es := 3, len := 1, f := fun (j : Nat) ↦ if (j == 0) = true then deN (agg (rat 0 1).kids) else rat 0 1 })]))) (ATree.leaf AEx.normal ([AV.bool b, mag N, mag D, ptr 0 0 3 0 []], [((0 : Nat), { row := false, wr := true, es := 3, len := 1, f := fun (x : Nat) ↦ rat 0 1 })]))))) := by kernel_rfl
theorem red_1e {b : Bool} {N D : Nat} : endT T fn_rational_reduce .ret ⟨zipL redLs (redVs b N D), [(0, ⟨false, true, 3, 1, fun j => if j = 0 then deN (.agg (AV.kids (.rat 0 1))) else .rat 0 1⟩)], 1⟩ =
    some (ATree.must [(0 : Nat) < 1] (ATree.leaf AEx.ret [agg [AV.bool false, mag 0, mag 0]])) := by kernel_rfl
theorem red_2e {b : Bool} {N D : Nat} {q : Rat} {k : Nat} : endT T fn_rational_reduce .ret ⟨zipL redLs (redVs b N D), [(0, ⟨false, true, 3, 1, fun j => if j = 0 then deN (.rat q k) else .rat 0 1⟩)], 1⟩ =
    some (ATree.must [(0 : Nat) < 1] (ATree.leaf AEx.ret [rat q k])) := by kernel_rfl
theorem red_2 {b : Bool} {N D : Nat} : seeL T GR [20, 24] 60 redLs (((before (codeOf fn_rational_reduce) [1,1,1,1]).drop 2).take 1) ⟨zipL redLs (redVs b N D), redOs, 1⟩ =
    some (ATree.fork (decide ((↑(nl N) : Int) ≤ (2 : Int))) (ATree.must [decide ((↑(nl N) : Int) ≤ (2 : Int)) = true] (ATree.fork (bif true then decide ((↑(nl D) : Int) ≤ (2 : Int)) else false) (ATree.must [nl N ≤ 2, nl D ≤ 2, (0 : Int) ≤ (↑N : Int) ∧ (↑N : Int) < (2 : Int) ^ 64, (0 : Int) < (↑D : Int) ∧ (↑D : Int) < (2 : Int) ^ 64, (0 : Nat) < 1] (ATree.leaf AEx.ret ([AV.bool b, mag N, mag D, ptr 0 0 3 0 []], [((0 : Nat), { row := false, wr := true, es := 3, len := 1, f := fun (j : Nat) ↦ if (j == 0) = true then deN (rat (sQ b (↑N : Int).toNat (↑D : Int).toNat) (rsz (sQ b (↑N : Int).toNat (↑D : Int).toNat))) else rat 0 1 })]))) (ATree.leaf AEx.normal ([AV.bool b, mag N, mag D, ptr 0 0 3 0 []], [((0 : Nat), { row := false, wr := true, es := 3, len := 1, f := fun (x : Nat) ↦ rat 0 1 })])))) (ATree.must [decide ((↑(nl N) : Int) ≤ (2 : Int)) = false] (ATree.fork false (ATree.must [nl N ≤ 2, nl D ≤ 2, (0 : Int) ≤ (↑N : Int) ∧ (↑N : Int) < (2 : Int) ^ 64, (0 : Int) < (↑D : Int) ∧ (↑D : Int) < (2 : Int) ^ 64, (0 : Nat) < 1] (ATree.leaf AEx.ret ([AV.bool b, mag N, mag D, ptr 0 0 3 0 []], [((0 : Nat), { row := false, wr := true, es := 3, len := 1, f := fun (j : Nat) ↦ if (j == 0) = true then deN (rat (sQ b (↑N : Int).toNat (↑D : Int).toNat) (rsz (sQ b (↑N : Int).toNat (↑D : Int).toNat))) else rat 0 1 })]))) (ATree.leaf AEx.normal ([AV.bool b, mag N, mag D, ptr 0 0 3 0 []], [((0 : Nat), { row := false, wr := true, es := 3, len := 1, f := fun (x : Nat) ↦ rat 0 1 })]))))) := by kernel_rfl
theorem red_3 {b : Bool} {N D : Nat} : seeL T GR [36] 60 redLs ((before (codeOf fn_rational_reduce) [1,1,1,1]).drop (2 + 1)) ⟨zipL redLs (redVs b N D), redOs, 1⟩ =
    some (ATree.must [nl N < 2 ^ 40, nl D < 2 ^ 40] (ATree.must [nl (N.gcd D) < 2 ^ 40] (ATree.fork (decide ((↑(bitsN (N.gcd D)) : Int) > (1 : Int))) (ATree.must [nl N < 2 ^ 40, nl (N.gcd D) < 2 ^ 40] (ATree.must [nl D < 2 ^ 40, nl (N.gcd D) < 2 ^ 40] (ATree.leaf AEx.normal ([AV.bool b, mag (N / N.gcd D), mag (D / N.gcd D), ptr 0 0 3 0 []], [((0 : Nat), { row := false, wr := true, es := 3, len := 1, f := fun (x : Nat) ↦ rat 0 1 })])))) (ATree.leaf AEx.normal ([AV.bool b, mag N, mag D, ptr 0 0 3 0 []], [((0 : Nat), { row := false, wr := true, es := 3, len := 1, f := fun (x : Nat) ↦ rat 0 1 })]))))) := by kernel_rfl
theorem red_4 {b : Bool} {N D : Nat} : endL T GR [58, 63] 60 fn_rational_reduce [part (codeOf fn_rational_reduce) [1,1,1,1]] ⟨zipL redLs (redVs b N D), redOs, 1⟩ =
    some (ATree.must [nl N < 2 ^ 40, (0 : Nat) < 2 ^ 40, nl D < 2 ^ 40, (0 : Nat) < 2 ^ 40] (ATree.fork ((↑(nl (D + 0)) : Int) == (1 : Int)) (ATree.must [((↑(nl (D + 0)) : Int) == (1 : Int)) = true, (0 : Int) ≤ (0 : Int) ∧ Int.toNat (0 : Int) < nl (D + 0)] (ATree.fork (bif true then (↑(limb (D + 0) (Int.toNat (0 : Int))) : Int) == (1 : Int) else false) (ATree.must [(0 : Nat) < 1] (ATree.must [(0 : Nat) < 1] (ATree.leaf AEx.ret [agg [AV.bool b, mag (N + 0), nil]]))) (ATree.must [(0 : Nat) < 1] (ATree.must [(0 : Nat) < 1] (ATree.leaf AEx.ret [agg [AV.bool b, mag (N + 0), mag (D + 0)]]))))) (ATree.must [((↑(nl (D + 0)) : Int) == (1 : Int)) = false] (ATree.fork false (ATree.must [(0 : Nat) < 1] (ATree.must [(0 : Nat) < 1] (ATree.leaf AEx.ret [agg [AV.bool b, mag (N + 0), nil]]))) (ATree.must [(0 : Nat) < 1] (ATree.must [(0 : Nat) < 1] (ATree.leaf AEx.ret [agg [AV.bool b, mag (N + 0), mag (D + 0)]]))))))) := by kernel_rfl
theorem bif_tt {a b v : Bool} (h : (bif true then a else b) = v) : a = v := h
theorem bitsN_zero {N : Nat} : bitsN N = 0 ↔ N = 0 := by unfold bitsN; split <;> simp_all
theorem bitsN_one {N : Nat} : bitsN N ≤ 1 ↔ N ≤ 1 := by rw [bitsN_le]; omega
theorem nl_zero_iff {N : Nat} : nl N = 0 ↔ N = 0 := by
  constructor
  · intro h
    rcases Nat.eq_zero_or_pos N with h1 | h1
    · exact h1
    · have := nl_pos.2 (show N ≠ 0 by omega); omega
  · intro h; subst h; rfl
theorem sQ_den0 {b : Bool} {n : Nat} : sQ b n 0 = 0 := by unfold sQ; simp
theorem avLe0_agg_nil {b : Bool} {x : Nat} : avLe0 (.agg [.bool b, .mag x, .nil]) (.agg [.bool b, .mag x, .mag 0]) := avLe0_agg ⟨.refl _, .refl _, avLe0_nil_mag, trivial⟩
theorem reduce_ok {b : Bool} {N D : Nat} (hN : nl N < 2 ^ 40) (hD : nl D < 2 ^ 40) (K : Nat) (pre : Store) : FOK P rational_reduce K [.bool b, .mag N, .mag D] pre (pres (.rat (sQ b N D) (rsz (sQ b N D))) []) := by
  refine fok_down hT is_reduce rfl (of_decide_eq_true (by kernel_rfl)) rfl (fun _ c h0 => ?_) K pre
  have hO : ∀ {v : AV}, keys v = [] → okO 1 [(0, (⟨false, true, 3, 1, fun j => if j = 0 then v else .rat 0 1⟩ : AObj))] := fun h => ⟨⟨by omega, fun i _ => by show keys (if i = 0 then _ else _) = []; split; exact h; rfl⟩, trivial⟩
  have hO' : okO 1 redOs := ⟨⟨by omega, fun _ _ => rfl⟩, trivial⟩
  have hz : sQ b N D = 0 → avLe0 (.agg [.bool false, .mag 0, .mag 0]) (.rat (sQ b N D) (rsz (sQ b N D))) := fun h => by
    rw [h]; exact avLe0_zero
  refine AWp.hole [1,1,1,1] (by kernel_rfl) (AWpL.chunk 2 (AWpL.see hT GR_ok hm 60 redLs red_1 (by kernel_rfl) ?_))
  simp only [ATree.all, allP, beq_iff_eq, beq_eq_false_iff_ne, ne_eq]
  -- behind the first questions
  have rest : ∀ {s' : AState}, N ≠ 0 → D ≠ 0 → viewAV redLs s' = some (redVs b N D, redOs) →
      AWpL P c fn_rational_reduce.ntmps ((before (codeOf fn_rational_reduce) [1,1,1,1]).drop 2) s' (thenDo (fun s' => AWp P c fn_rational_reduce.ntmps (part (codeOf fn_rational_reduce) [1,1,1,1]) s' (thenDo (fun s' => AWpL P c fn_rational_reduce.ntmps (behind (codeOf fn_rational_reduce) [1,1,1,1]) s' (Lower c (Fin T fn_rational_reduce (.rat (sQ b N D) (rsz (sQ b N D)))))) (Lower c (Fin T fn_rational_reduce (.rat (sQ b N D) (rsz (sQ b N D)))))))
        (Lower c (Fin T fn_rational_reduce (.rat (sQ b N D) (rsz (sQ b N D)))))) := by
    intro s' hN0 hD0 hv
    have last : ∀ {s' : AState} {X Y : Nat}, nl X < 2 ^ 40 → nl Y < 2 ^ 40 → X = N / Nat.gcd N D → Y = D / Nat.gcd N D → viewAV redLs s' = some (redVs b X Y, redOs) →
        AWp P c fn_rational_reduce.ntmps (part (codeOf fn_rational_reduce) [1,1,1,1]) s' (thenDo (fun s' => AWpL P c fn_rational_reduce.ntmps (behind (codeOf fn_rational_reduce) [1,1,1,1]) s' (Lower c (Fin T fn_rational_reduce (.rat (sQ b N D) (rsz (sQ b N D)))))) (Lower c (Fin T fn_rational_reduce (.rat (sQ b N D) (rsz (sQ b N D)))))) := by
      intro s' X Y hX hY eX eY hv
      refine AWp.mono (Q := thenDo (fun s' => AWpL P c fn_rational_reduce.ntmps [] s' (Lower c (Fin T fn_rational_reduce (.rat (sQ b N D) (rsz (sQ b N D)))))) (Lower c (Fin T fn_rational_reduce (.rat (sQ b N D) (rsz (sQ b N D)))))) ?_ fun e s' h => by cases e <;> exact h
      refine AWpL.finDV (l := [part (codeOf fn_rational_reduce) [1,1,1,1]]) hT GR_ok hm 60 hv (h0 _) rfl hO' red_4 (by kernel_rfl) rfl ?_
      simp only [ATree.all, allP, beq_iff_eq, beq_eq_false_iff_ne, ne_eq, Nat.add_zero, Int.toNat_zero]
      have hY0 : Y ≠ 0 := by rw [eY]; exact Nat.pos_iff_ne_zero.1 (Nat.div_pos (Nat.le_of_dvd (by omega) (Nat.gcd_dvd_right _ _)) (Nat.gcd_pos_of_pos_left _ (by omega)))
      have h1 : Y ≠ 1 → avLe0 (.agg [.bool b, .mag X, .mag Y]) (.rat (sQ b N D) (rsz (sQ b N D))) := fun h => avLe0_sQ hN0 hD0 eX (by rw [← eY, if_neg h]) Sz_rsz
      have h2 : Y = 1 → avLe0 (.agg [.bool b, .mag X, .nil]) (.rat (sQ b N D) (rsz (sQ b N D))) := fun h => avLe0_agg_nil.trans (avLe0_sQ hN0 hD0 eX (by rw [← eY, if_pos h]) Sz_rsz)
      have hl : nl Y = 1 → limb Y 0 = Y := fun h => by
        have := val_nl (N := Y)
        rw [h, val, val] at this
        simpa using this
      refine ⟨⟨hX, by omega, hY, by omega⟩, fun hb => ⟨⟨hb, by omega, by omega⟩, fun hc => ⟨by omega, by omega, h2 ?_⟩, fun hc => ⟨by omega, by omega, h1 ?_⟩⟩, fun hb => ⟨hb, fun h => by simp at h, fun _ => ⟨by omega, by omega, h1 ?_⟩⟩⟩
      · have := bif_tt hc
        rw [hl (by omega)] at this
        have := eq_of_beq this
        omega
      · have := bif_tt hc
        rw [hl (by omega)] at this
        intro h
        rw [h] at this
        simp at this
      · intro h
        rw [h] at hb
        exact hb (by decide)
    refine AWpL.chunk 1 (AWpL.seeV hT GR_ok hm 60 hv (h0 _) rfl hO' redLs red_2 (by kernel_rfl) rfl ?_)
    simp only [ATree.all, allP, decide_eq_true_eq, decide_eq_false_iff_not, Int.toNat_natCast, beq_iff_eq]
    have long : ∀ {s' : AState}, viewAV redLs s' = some (redVs b N D, redOs) → AWpL P c fn_rational_reduce.ntmps (((before (codeOf fn_rational_reduce) [1,1,1,1]).drop 2).drop 1) s' (thenDo (fun s' => AWp P c fn_rational_reduce.ntmps (part (codeOf fn_rational_reduce) [1,1,1,1]) s' (thenDo (fun s' => AWpL P c fn_rational_reduce.ntmps (behind (codeOf fn_rational_reduce) [1,1,1,1]) s' (Lower c (Fin T fn_rational_reduce (.rat (sQ b N D) (rsz (sQ b N D)))))) (Lower c (Fin T fn_rational_reduce (.rat (sQ b N D) (rsz (sQ b N D)))))))
        (Lower c (Fin T fn_rational_reduce (.rat (sQ b N D) (rsz (sQ b N D)))))) := by
      intro s' hv
      rw [List.drop_drop]
      refine AWpL.seeV hT GR_ok hm 60 hv (h0 _) rfl hO' redLs red_3 (by kernel_rfl) rfl ?_
      simp only [ATree.all, allP, decide_eq_true_eq, decide_eq_false_iff_not]
      have hg : nl (Nat.gcd N D) < 2 ^ 40 := Nat.lt_of_le_of_lt (nl_mono (Nat.gcd_le_left _ (by omega))) hN
      have hg0 : 0 < Nat.gcd N D := Nat.gcd_pos_of_pos_left _ (by omega)
      refine ⟨⟨hN, hD⟩, hg, fun hb => ⟨⟨hN, hg⟩, ⟨hD, hg⟩, fun s' hv => last (Nat.lt_of_le_of_lt (nl_mono (Nat.div_le_self _ _)) hN) (Nat.lt_of_le_of_lt (nl_mono (Nat.div_le_self _ _)) hD) rfl rfl hv⟩, fun hb s' hv => ?_⟩
      have hg1 : Nat.gcd N D = 1 := by
        have : bitsN (Nat.gcd N D) ≤ 1 := by omega
        have := bitsN_one.1 this
        omega
      exact last hN hD (by rw [hg1, Nat.div_one]) (by rw [hg1, Nat.div_one]) hv
    refine ⟨fun hb => ⟨hb, fun hc => ⟨?_, fun s' hv => ?_⟩, fun hc s' hv => then_go (long hv)⟩, fun hb => ⟨hb, fun h => by simp at h, fun _ s' hv => then_go (long hv)⟩⟩
    · have h2 : nl D ≤ 2 := by have := of_decide_eq_true (bif_tt hc); omega
      have := nl_two (show nl N ≤ 2 by omega)
      have := nl_two h2
      exact ⟨by omega, h2, by omega, by omega, by omega⟩
    · refine then_ret (then_ret (finD red_2e hv (h0 _) rfl (hO rfl) ⟨by simp [allP], ?_⟩))
      exact .refl _
  refine ⟨fun hb => ⟨⟨hN, hb⟩, fun _ => ⟨by omega, fun s' hv => then_ret (then_ret (finD red_1e hv (h0 _) rfl (hO rfl) ⟨by simp [allP], hz ?_⟩))⟩, fun h => by simp at h⟩, fun hb => ⟨⟨hN, hb, hD⟩, fun hc => ⟨by omega, fun s' hv => then_ret (then_ret (finD red_1e hv (h0 _) rfl (hO rfl) ⟨by simp [allP], hz ?_⟩))⟩, fun hc s' hv => then_go (rest ?_ ?_ hv)⟩⟩
  · rw [bitsN_zero.1 (show bitsN N = 0 by omega), sQ_zero]
  · have := eq_of_beq (bif_ff hc)
    rw [bitsN_zero.1 (show bitsN D = 0 by omega), sQ_den0]
  · intro h; rw [h] at hb; exact hb (by decide)
  · intro h
    have := bif_ff hc
    rw [h] at this
    simp [bitsN] at this
end Go.Am.B
