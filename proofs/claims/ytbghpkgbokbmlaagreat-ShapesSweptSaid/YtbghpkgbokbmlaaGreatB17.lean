/- rational.den, parts, reduce, Same, Sign, copied, size. -/
import Derived.Test.YtbghpkgbokbmlaaGreatB16
set_option linter.unusedVariables false
namespace Go.Am.B
open Go Go.Am.N AV
theorem ZS : aP P uv rF (au rF) := aL Rc (by kernel_rfl) (by kernel_rfl) (by kernel_rfl)
theorem NT : aP P sk rm (au rm) := aL ZU (by kernel_rfl) (by kernel_rfl) (by kernel_rfl)
theorem SU : aP P o8 cS (au cS) := aL YN (by kernel_rfl) (by kernel_rfl) (by kernel_rfl)
theorem YW : aP P kf vj (au vj) := aL LY (by kernel_rfl) (by kernel_rfl) (by kernel_rfl)
theorem Q7 : aP P oM tu (au tu) := aL SS (by kernel_rfl) (by kernel_rfl) (by kernel_rfl)
theorem P3 : aP P uX vw (au vw) := aL ach (by kernel_rfl) (by kernel_rfl) (by kernel_rfl)
theorem LW : aP P s6 r8 (au r8) := aL Ou (by kernel_rfl) (by kernel_rfl) (by kernel_rfl)
def GR : aQ := (we, bt (jJ FB)) :: (rN, bt (jJ xH)) :: (qv, B6) :: (th, bt (fZ F6)) :: (qg, bt (fZ Dm)) :: (pK, bt (fZ CL)) :: (pV, CD) :: (ql, Du) :: (oL, zF) :: (qQ, BY) :: []
theorem j8 : aW P GR := aC L5 (aC Zh (aC Jb (aC acf (aC Hh (aC H6 (aC FO (aC JM (aC Cc (aC Fm aT)))))))))
theorem Sm {q : Rat} {n : Nat} : bA T GR [6] 60 rF (au rF) ⟨aM 0 [.rat q n], [], 0⟩ =
  some (aa.af [(0 : Nat) < 1] (aa.fork ((↑(nl (if q.den = 1 then 0 else q.den)) : Int) == (0 : Int)) (aa.leaf ag.ret [mag 1]) (aa.af [(0 : Nat) < 1] (aa.leaf ag.ret [mag (if q.den = 1 then 0 else q.den)])))) := by kernel_rfl
theorem Nd {q : Rat} {n : Nat} : bA T GR [9, 14, 18] 60 rm (au rm) ⟨aM 0 [.rat q n], [], 0⟩ =
  some (aa.fork (decide ((↑(nl q.num.natAbs) : Int) > (1 : Int))) (aa.af [(0 : Nat) < 1, decide ((↑(nl q.num.natAbs) : Int) > (1 : Int)) = true] (aa.fork true (aa.leaf ag.ret [int IntKind.u64 (0 : Int), int IntKind.u64 (0 : Int), AV.bool false]) (aa.af [(0 : Nat) < 1] (aa.fork ((↑(nl (if q.den = 1 then 0 else q.den)) : Int) == (1 : Int)) (aa.af [(0 : Nat) < 1, (0 : Int) ≤ (0 : Int) ∧ Int.toNat (0 : Int) < nl (if q.den = 1 then 0 else q.den)] (aa.af [(0 : Nat) < 1, nl q.num.natAbs ≤ 2] (aa.leaf ag.ret [int IntKind.u64 (↑q.num.natAbs : Int), int IntKind.u64 (IntKind.u64.wrap (↑(ak (if q.den = 1 then 0 else q.den) (Int.toNat (0 : Int))) : Int)), AV.bool (IntKind.u64.wrap (↑(ak (if q.den = 1 then 0 else q.den) (Int.toNat (0 : Int))) : Int) != (0 : Int))]))) (aa.af [(0 : Nat) < 1, nl q.num.natAbs ≤ 2] (aa.leaf ag.ret [int IntKind.u64 (↑q.num.natAbs : Int), int IntKind.u64 (1 : Int), AV.bool true])))))) (aa.af [(0 : Nat) < 1, decide ((↑(nl q.num.natAbs) : Int) > (1 : Int)) = false, (0 : Nat) < 1] (aa.fork (bif false then true else decide ((↑(nl (if q.den = 1 then 0 else q.den)) : Int) > (1 : Int))) (aa.leaf ag.ret [int IntKind.u64 (0 : Int), int IntKind.u64 (0 : Int), AV.bool false]) (aa.af [(0 : Nat) < 1] (aa.fork ((↑(nl (if q.den = 1 then 0 else q.den)) : Int) == (1 : Int)) (aa.af [(0 : Nat) < 1, (0 : Int) ≤ (0 : Int) ∧ Int.toNat (0 : Int) < nl (if q.den = 1 then 0 else q.den)] (aa.af [(0 : Nat) < 1, nl q.num.natAbs ≤ 2] (aa.leaf ag.ret [int IntKind.u64 (↑q.num.natAbs : Int), int IntKind.u64 (IntKind.u64.wrap (↑(ak (if q.den = 1 then 0 else q.den) (Int.toNat (0 : Int))) : Int)), AV.bool (IntKind.u64.wrap (↑(ak (if q.den = 1 then 0 else q.den) (Int.toNat (0 : Int))) : Int) != (0 : Int))]))) (aa.af [(0 : Nat) < 1, nl q.num.natAbs ≤ 2] (aa.leaf ag.ret [int IntKind.u64 (↑q.num.natAbs : Int), int IntKind.u64 (1 : Int), AV.bool true]))))))) := by kernel_rfl
theorem abh {q r : Rat} {n m : Nat} : bA T GR [10, 17] 60 vj (au vj) ⟨aM 0 [.rat q n, .rat r m], [], 0⟩ =
  some (aa.fork (decide (q < 0) == decide (r < 0)) (aa.fork (bif true then decide (q.num.natAbs = r.num.natAbs) else false) (aa.af [(0 : Nat) < 1, (0 : Nat) < 1, (decide (q < 0) == decide (r < 0)) = true, (0 : Nat) < 1, (0 : Nat) < 1, nl q.num.natAbs < 2 ^ 40, nl r.num.natAbs < 2 ^ 40, (bif true then decide (q.num.natAbs = r.num.natAbs) else false) = true, (0 : Nat) < 1, (0 : Nat) < 1, nl (if q.den = 1 then 0 else q.den) < 2 ^ 40, nl (if r.den = 1 then 0 else r.den) < 2 ^ 40] (aa.leaf ag.ret [AV.bool (bif true then decide ((if q.den = 1 then 0 else q.den) = if r.den = 1 then 0 else r.den) else false)])) (aa.af [(0 : Nat) < 1, (0 : Nat) < 1, (decide (q < 0) == decide (r < 0)) = true, (0 : Nat) < 1, (0 : Nat) < 1, nl q.num.natAbs < 2 ^ 40, nl r.num.natAbs < 2 ^ 40, (bif true then decide (q.num.natAbs = r.num.natAbs) else false) = false] (aa.leaf ag.ret [AV.bool false]))) (aa.fork false (aa.af [(0 : Nat) < 1, (0 : Nat) < 1, (decide (q < 0) == decide (r < 0)) = false, false = true, (0 : Nat) < 1, (0 : Nat) < 1, nl (if q.den = 1 then 0 else q.den) < 2 ^ 40, nl (if r.den = 1 then 0 else r.den) < 2 ^ 40] (aa.leaf ag.ret [AV.bool (bif true then decide ((if q.den = 1 then 0 else q.den) = if r.den = 1 then 0 else r.den) else false)])) (aa.af [(0 : Nat) < 1, (0 : Nat) < 1, (decide (q < 0) == decide (r < 0)) = false, false = false] (aa.leaf ag.ret [AV.bool false])))) := by kernel_rfl
theorem Yy {q : Rat} {n : Nat} : bA T GR [3, 8] 60 tu (au tu) ⟨aM 0 [.rat q n], [], 0⟩ =
  some (aa.af [(0 : Nat) < 1, nl q.num.natAbs < 2 ^ 40] (aa.fork ((↑(aS q.num.natAbs) : Int) == (0 : Int)) (aa.leaf ag.ret [int IntKind.i64 (0 : Int)]) (aa.af [(0 : Nat) < 1] (aa.fork (decide (q < 0)) (aa.leaf ag.ret [int IntKind.i64 (-1 : Int)]) (aa.leaf ag.ret [int IntKind.i64 (1 : Int)]))))) := by kernel_rfl
theorem Re {q : Rat} {n : Nat} : bA T GR [] 60 vw (au vw) ⟨aM 0 [.rat q n], [], 0⟩ =
  some (aa.af [(0 : Nat) < 1, (0 : Nat) < 1, nl q.num.natAbs < 2 ^ 40, (0 : Nat) < 1, nl (if q.den = 1 then 0 else q.den) < 2 ^ 40, (0 : Nat) < 1] (aa.af [(0 : Nat) < 1] (aa.leaf ag.ret [agg [AV.bool (decide (q < 0)), mag q.num.natAbs, mag (if q.den = 1 then 0 else q.den)]]))) := by kernel_rfl
theorem Vk {n : Int} : bA T GR [4] 60 r8 (au r8) ⟨aM 0 [.int .i64 n], [], 0⟩ =
  some (aa.fork (n == (-9223372036854775808 : Int)) (aa.af [(0 : Int) ≤ (9223372036854775808 : Int) ∧ (9223372036854775808 : Int) < (2 : Int) ^ 64] (aa.leaf ag.ret [mag 9223372036854775808])) (aa.af [(0 : Int) ≤ IntKind.u64.wrap (if n < IntKind.i64.wrap ((0 : Int) - n) then IntKind.i64.wrap ((0 : Int) - n) else n) ∧ IntKind.u64.wrap (if n < IntKind.i64.wrap ((0 : Int) - n) then IntKind.i64.wrap ((0 : Int) - n) else n) < (2 : Int) ^ 64] (aa.leaf ag.ret [mag (IntKind.u64.wrap (if n < IntKind.i64.wrap ((0 : Int) - n) then IntKind.i64.wrap ((0 : Int) - n) else n)).toNat]))) := by kernel_rfl
abbrev iB : List Nat := [0, 1, 2, 6]
abbrev mI (b : Bool) (N D : Nat) : List AV := [.bool b, .mag N, .mag D, .ptr 0 0 3 0 []]
abbrev oA : aD := [(0, ⟨false, true, 3, 1, fun _ => .rat 0 1⟩)]
theorem MK {b : Bool} {N D : Nat} : aH T GR [11, 15] 60 iB ((before (au cS) [1,1,1,1]).take 2) ⟨aM 0 [.bool b, .mag N, .mag D], [], 0⟩ =
  some (aa.fork ((↑(aS N) : Int) == (0 : Int)) (aa.af [nl N < 2 ^ 40, ((↑(aS N) : Int) == (0 : Int)) = true] (aa.fork true (aa.af [(0 : Nat) < 1] (aa.leaf ag.ret ([AV.bool b, mag N, mag D, ptr 0 0 3 0 []], [((0 : Nat), ⟨false, true, 3, 1, fun (j : Nat) ↦ if (j == 0) = true then bk (agg (rat 0 1).kids) else rat 0 1⟩)]))) (aa.leaf ag.normal ([AV.bool b, mag N, mag D, ptr 0 0 3 0 []], [((0 : Nat), ⟨false, true, 3, 1, fun (x : Nat) ↦ rat 0 1⟩)])))) (aa.af [nl N < 2 ^ 40, ((↑(aS N) : Int) == (0 : Int)) = false, nl D < 2 ^ 40] (aa.fork (bif false then true else (↑(aS D) : Int) == (0 : Int)) (aa.af [(0 : Nat) < 1] (aa.leaf ag.ret ([AV.bool b, mag N, mag D, ptr 0 0 3 0 []], [((0 : Nat), ⟨false, true, 3, 1, fun (j : Nat) ↦ if (j == 0) = true then bk (agg (rat 0 1).kids) else rat 0 1⟩)]))) (aa.leaf ag.normal ([AV.bool b, mag N, mag D, ptr 0 0 3 0 []], [((0 : Nat), ⟨false, true, 3, 1, fun (x : Nat) ↦ rat 0 1⟩)]))))) := by kernel_rfl
theorem Jj {b : Bool} {N D : Nat} : iY T cS .ret ⟨aB iB (mI b N D), [(0, ⟨false, true, 3, 1, fun j => if j = 0 then bk (.agg (AV.kids (.rat 0 1))) else .rat 0 1⟩)], 1⟩ =
  some (aa.af [(0 : Nat) < 1] (aa.leaf ag.ret [agg [AV.bool false, mag 0, mag 0]])) := by kernel_rfl
theorem Sd {b : Bool} {N D : Nat} {q : Rat} {k : Nat} : iY T cS .ret ⟨aB iB (mI b N D), [(0, ⟨false, true, 3, 1, fun j => if j = 0 then bk (.rat q k) else .rat 0 1⟩)], 1⟩ =
  some (aa.af [(0 : Nat) < 1] (aa.leaf ag.ret [rat q k])) := by kernel_rfl
theorem N9 {b : Bool} {N D : Nat} : aH T GR [20, 24] 60 iB (((before (au cS) [1,1,1,1]).drop 2).take 1) ⟨aB iB (mI b N D), oA, 1⟩ =
  some (aa.fork (decide ((↑(nl N) : Int) ≤ (2 : Int))) (aa.af [decide ((↑(nl N) : Int) ≤ (2 : Int)) = true] (aa.fork (bif true then decide ((↑(nl D) : Int) ≤ (2 : Int)) else false) (aa.af [nl N ≤ 2, nl D ≤ 2, (0 : Int) ≤ (↑N : Int) ∧ (↑N : Int) < (2 : Int) ^ 64, (0 : Int) < (↑D : Int) ∧ (↑D : Int) < (2 : Int) ^ 64, (0 : Nat) < 1] (aa.leaf ag.ret ([AV.bool b, mag N, mag D, ptr 0 0 3 0 []], [((0 : Nat), ⟨false, true, 3, 1, fun (j : Nat) ↦ if (j == 0) = true then bk (rat (sQ b (↑N : Int).toNat (↑D : Int).toNat) (bV (sQ b (↑N : Int).toNat (↑D : Int).toNat))) else rat 0 1⟩)]))) (aa.leaf ag.normal ([AV.bool b, mag N, mag D, ptr 0 0 3 0 []], [((0 : Nat), ⟨false, true, 3, 1, fun (x : Nat) ↦ rat 0 1⟩)])))) (aa.af [decide ((↑(nl N) : Int) ≤ (2 : Int)) = false] (aa.fork false (aa.af [nl N ≤ 2, nl D ≤ 2, (0 : Int) ≤ (↑N : Int) ∧ (↑N : Int) < (2 : Int) ^ 64, (0 : Int) < (↑D : Int) ∧ (↑D : Int) < (2 : Int) ^ 64, (0 : Nat) < 1] (aa.leaf ag.ret ([AV.bool b, mag N, mag D, ptr 0 0 3 0 []], [((0 : Nat), ⟨false, true, 3, 1, fun (j : Nat) ↦ if (j == 0) = true then bk (rat (sQ b (↑N : Int).toNat (↑D : Int).toNat) (bV (sQ b (↑N : Int).toNat (↑D : Int).toNat))) else rat 0 1⟩)]))) (aa.leaf ag.normal ([AV.bool b, mag N, mag D, ptr 0 0 3 0 []], [((0 : Nat), ⟨false, true, 3, 1, fun (x : Nat) ↦ rat 0 1⟩)]))))) := by kernel_rfl
theorem Z2 {b : Bool} {N D : Nat} : aH T GR [36] 60 iB ((before (au cS) [1,1,1,1]).drop (2 + 1)) ⟨aB iB (mI b N D), oA, 1⟩ =
  some (aa.af [nl N < 2 ^ 40, nl D < 2 ^ 40] (aa.af [nl (N.gcd D) < 2 ^ 40] (aa.fork (decide ((↑(aS (N.gcd D)) : Int) > (1 : Int))) (aa.af [nl N < 2 ^ 40, nl (N.gcd D) < 2 ^ 40] (aa.af [nl D < 2 ^ 40, nl (N.gcd D) < 2 ^ 40] (aa.leaf ag.normal ([AV.bool b, mag (N / N.gcd D), mag (D / N.gcd D), ptr 0 0 3 0 []], [((0 : Nat), ⟨false, true, 3, 1, fun (x : Nat) ↦ rat 0 1⟩)])))) (aa.leaf ag.normal ([AV.bool b, mag N, mag D, ptr 0 0 3 0 []], [((0 : Nat), ⟨false, true, 3, 1, fun (x : Nat) ↦ rat 0 1⟩)]))))) := by kernel_rfl
theorem Mh {b : Bool} {N D : Nat} : bW T GR [58, 63] 60 cS [part (au cS) [1,1,1,1]] ⟨aB iB (mI b N D), oA, 1⟩ =
  some (aa.af [nl N < 2 ^ 40, (0 : Nat) < 2 ^ 40, nl D < 2 ^ 40, (0 : Nat) < 2 ^ 40] (aa.fork ((↑(nl (D + 0)) : Int) == (1 : Int)) (aa.af [((↑(nl (D + 0)) : Int) == (1 : Int)) = true, (0 : Int) ≤ (0 : Int) ∧ Int.toNat (0 : Int) < nl (D + 0)] (aa.fork (bif true then (↑(ak (D + 0) (Int.toNat (0 : Int))) : Int) == (1 : Int) else false) (aa.af [(0 : Nat) < 1] (aa.af [(0 : Nat) < 1] (aa.leaf ag.ret [agg [AV.bool b, mag (N + 0), nil]]))) (aa.af [(0 : Nat) < 1] (aa.af [(0 : Nat) < 1] (aa.leaf ag.ret [agg [AV.bool b, mag (N + 0), mag (D + 0)]]))))) (aa.af [((↑(nl (D + 0)) : Int) == (1 : Int)) = false] (aa.fork false (aa.af [(0 : Nat) < 1] (aa.af [(0 : Nat) < 1] (aa.leaf ag.ret [agg [AV.bool b, mag (N + 0), nil]]))) (aa.af [(0 : Nat) < 1] (aa.af [(0 : Nat) < 1] (aa.leaf ag.ret [agg [AV.bool b, mag (N + 0), mag (D + 0)]]))))))) := by kernel_rfl
theorem gD {a b v : Bool} (h : (bif true then a else b) = v) : a = v := h
theorem Dx {N : Nat} : aS N = 0 ↔ N = 0 := by unfold aS; split <;> simp_all
theorem abi {N : Nat} : aS N ≤ 1 ↔ N ≤ 1 := by rw [fR]; omega
theorem iC {N : Nat} : nl N = 0 ↔ N = 0 := by
 constructor
 ·intro h
  rcases Nat.eq_zero_or_pos N with h1 | h1
  ·exact h1
  ·have := eO.2 (show N ≠ 0 by omega); omega
 ·intro h; subst h; rfl
theorem Mr {b : Bool} {n : Nat} : sQ b n 0 = 0 := by unfold sQ; simp
theorem I4 {b : Bool} {x : Nat} : bn (.agg [.bool b, .mag x, .nil]) (.agg [.bool b, .mag x, .mag 0]) := cN ⟨.refl _, .refl _, iF, trivial⟩
theorem Sc {b : Bool} {N D : Nat} (hN : nl N < 2 ^ 40) (hD : nl D < 2 ^ 40) (K : Nat) (pre : aD) : az P o8 K [.bool b, .mag N, .mag D] pre (aF (.rat (sQ b N D) (bV (sQ b N D))) []) := by
 refine fe hT SU rfl (of_decide_eq_true (by kernel_rfl)) rfl (fun _ c h0 => ?_) K pre
 have hO : ∀ {v : AV}, keys v = [] → fE 1 [(0, (⟨false, true, 3, 1, fun j => if j = 0 then v else .rat 0 1⟩ : ay))] := fun h => ⟨⟨by omega, fun i _ => by show keys (if i = 0 then _ else _) = []; split; exact h; rfl⟩, trivial⟩
 have hO' : fE 1 oA := ⟨⟨by omega, fun _ _ => rfl⟩, trivial⟩
 have hz : sQ b N D = 0 → bn (.agg [.bool false, .mag 0, .mag 0]) (.rat (sQ b N D) (bV (sQ b N D))) := fun h => by
  rw [h]; exact jI
 refine aq.hole [1,1,1,1] (by kernel_rfl) (aA.chunk 2 (aA.aZ hT j8 hm 60 iB MK (by kernel_rfl) ?_))
 simp only [aa.all, ax, beq_iff_eq, beq_eq_false_iff_ne, ne_eq]
 -- behind the first questions
 have rest : ∀ {s' : aE}, N ≠ 0 → D ≠ 0 → aU iB s' = some (mI b N D, oA) →
   aA P c cS.ntmps ((before (au cS) [1,1,1,1]).drop 2) s' (dw (fun s' => aq P c cS.ntmps (part (au cS) [1,1,1,1]) s' (dw (fun s' => aA P c cS.ntmps (behind (au cS) [1,1,1,1]) s' (dz c (Fin T cS (.rat (sQ b N D) (bV (sQ b N D)))))) (dz c (Fin T cS (.rat (sQ b N D) (bV (sQ b N D)))))))
    (dz c (Fin T cS (.rat (sQ b N D) (bV (sQ b N D)))))) := by
  intro s' hN0 hD0 hv
  have last : ∀ {s' : aE} {X Y : Nat}, nl X < 2 ^ 40 → nl Y < 2 ^ 40 → X = N / Nat.gcd N D → Y = D / Nat.gcd N D → aU iB s' = some (mI b X Y, oA) →
    aq P c cS.ntmps (part (au cS) [1,1,1,1]) s' (dw (fun s' => aA P c cS.ntmps (behind (au cS) [1,1,1,1]) s' (dz c (Fin T cS (.rat (sQ b N D) (bV (sQ b N D)))))) (dz c (Fin T cS (.rat (sQ b N D) (bV (sQ b N D)))))) := by
   intro s' X Y hX hY eX eY hv
   refine aq.mono (Q := dw (fun s' => aA P c cS.ntmps [] s' (dz c (Fin T cS (.rat (sQ b N D) (bV (sQ b N D)))))) (dz c (Fin T cS (.rat (sQ b N D) (bV (sQ b N D)))))) ?_ fun e s' h => by cases e <;> exact h
   refine aA.ij (l := [part (au cS) [1,1,1,1]]) hT j8 hm 60 hv (h0 _) rfl hO' Mh (by kernel_rfl) rfl ?_
   simp only [aa.all, ax, beq_iff_eq, beq_eq_false_iff_ne, ne_eq, Nat.add_zero, Int.toNat_zero]
   have hY0 : Y ≠ 0 := by rw [eY]; exact Nat.pos_iff_ne_zero.1 (Nat.div_pos (Nat.le_of_dvd (by omega) (Nat.gcd_dvd_right _ _)) (Nat.gcd_pos_of_pos_left _ (by omega)))
   have h1 : Y ≠ 1 → bn (.agg [.bool b, .mag X, .mag Y]) (.rat (sQ b N D) (bV (sQ b N D))) := fun h => pR hN0 hD0 eX (by rw [← eY, if_neg h]) rT
   have h2 : Y = 1 → bn (.agg [.bool b, .mag X, .nil]) (.rat (sQ b N D) (bV (sQ b N D))) := fun h => I4.trans (pR hN0 hD0 eX (by rw [← eY, if_pos h]) rT)
   have hl : nl Y = 1 → ak Y 0 = Y := fun h => by
    have := eM (N := Y)
    rw [h, val, val] at this
    simpa using this
   refine ⟨⟨hX, by omega, hY, by omega⟩, fun hb => ⟨⟨hb, by omega, by omega⟩, fun hc => ⟨by omega, by omega, h2 ?_⟩, fun hc => ⟨by omega, by omega, h1 ?_⟩⟩, fun hb => ⟨hb, fun h => by simp at h, fun _ => ⟨by omega, by omega, h1 ?_⟩⟩⟩
   ·have := gD hc
    rw [hl (by omega)] at this
    have := eq_of_beq this
    omega
   ·have := gD hc
    rw [hl (by omega)] at this
    intro h
    rw [h] at this
    simp at this
   ·intro h
    rw [h] at hb
    exact hb (by decide)
  refine aA.chunk 1 (aA.dS hT j8 hm 60 hv (h0 _) rfl hO' iB N9 (by kernel_rfl) rfl ?_)
  simp only [aa.all, ax, decide_eq_true_eq, decide_eq_false_iff_not, Int.toNat_natCast, beq_iff_eq]
  have long : ∀ {s' : aE}, aU iB s' = some (mI b N D, oA) → aA P c cS.ntmps (((before (au cS) [1,1,1,1]).drop 2).drop 1) s' (dw (fun s' => aq P c cS.ntmps (part (au cS) [1,1,1,1]) s' (dw (fun s' => aA P c cS.ntmps (behind (au cS) [1,1,1,1]) s' (dz c (Fin T cS (.rat (sQ b N D) (bV (sQ b N D)))))) (dz c (Fin T cS (.rat (sQ b N D) (bV (sQ b N D)))))))
    (dz c (Fin T cS (.rat (sQ b N D) (bV (sQ b N D)))))) := by
   intro s' hv
   rw [List.drop_drop]
   refine aA.dS hT j8 hm 60 hv (h0 _) rfl hO' iB Z2 (by kernel_rfl) rfl ?_
   simp only [aa.all, ax, decide_eq_true_eq, decide_eq_false_iff_not]
   have hg : nl (Nat.gcd N D) < 2 ^ 40 := Nat.lt_of_le_of_lt (fu (Nat.gcd_le_left _ (by omega))) hN
   have hg0 : 0 < Nat.gcd N D := Nat.gcd_pos_of_pos_left _ (by omega)
   refine ⟨⟨hN, hD⟩, hg, fun hb => ⟨⟨hN, hg⟩, ⟨hD, hg⟩, fun s' hv => last (Nat.lt_of_le_of_lt (fu (Nat.div_le_self _ _)) hN) (Nat.lt_of_le_of_lt (fu (Nat.div_le_self _ _)) hD) rfl rfl hv⟩, fun hb s' hv => ?_⟩
   have hg1 : Nat.gcd N D = 1 := by
    have : aS (Nat.gcd N D) ≤ 1 := by omega
    have := abi.1 this
    omega
   exact last hN hD (by rw [hg1, Nat.div_one]) (by rw [hg1, Nat.div_one]) hv
  refine ⟨fun hb => ⟨hb, fun hc => ⟨?_, fun s' hv => ?_⟩, fun hc s' hv => bI (long hv)⟩, fun hb => ⟨hb, fun h => by simp at h, fun _ s' hv => bI (long hv)⟩⟩
  ·have h2 : nl D ≤ 2 := by have := of_decide_eq_true (gD hc); omega
   have := mR (show nl N ≤ 2 by omega)
   have := mR h2
   exact ⟨by omega, h2, by omega, by omega, by omega⟩
  ·refine ef (ef (vI Sd hv (h0 _) rfl (hO rfl) ⟨by simp [ax], ?_⟩))
   exact .refl _
 refine ⟨fun hb => ⟨⟨hN, hb⟩, fun _ => ⟨by omega, fun s' hv => ef (ef (vI Jj hv (h0 _) rfl (hO rfl) ⟨by simp [ax], hz ?_⟩))⟩, fun h => by simp at h⟩, fun hb => ⟨⟨hN, hb, hD⟩, fun hc => ⟨by omega, fun s' hv => ef (ef (vI Jj hv (h0 _) rfl (hO rfl) ⟨by simp [ax], hz ?_⟩))⟩, fun hc s' hv => bI (rest ?_ ?_ hv)⟩⟩
 ·rw [Dx.1 (show aS N = 0 by omega), Di]
 ·have := eq_of_beq (fQ hc)
  rw [Dx.1 (show aS D = 0 by omega), Mr]
 ·intro h; rw [h] at hb; exact hb (by decide)
 ·intro h
  have := fQ hc
  rw [h] at this
  simp [aS] at this
end Go.Am.B
