/- rational.den, parts, reduce, Same, Sign, copied, size. -/
import Derived.Test.YtjhhblmbiaghfaaGreatB16
set_option linter.unusedVariables false
namespace Go.Am.B
open Go Go.Am.N AV
theorem ZJ : aO P vU uI (ax uI) := aP LL (by kernel_rfl) (by kernel_rfl) (by kernel_rfl)
theorem Nz : aO P sS ur (ax ur) := aP Yy (by kernel_rfl) (by kernel_rfl) (by kernel_rfl)
theorem Q6 : aO P qb cK (ax cK) := aP RP (by kernel_rfl) (by kernel_rfl) (by kernel_rfl)
theorem Rw : aO P wS tC (ax tC) := aP Xc (by kernel_rfl) (by kernel_rfl) (by kernel_rfl)
theorem ZG : aO P pA vR (ax vR) := aP Vw (by kernel_rfl) (by kernel_rfl) (by kernel_rfl)
theorem OS : aO P vO vl (ax vl) := aP RX (by kernel_rfl) (by kernel_rfl) (by kernel_rfl)
theorem Sw : aO P wz sC (ax sC) := aP UW (by kernel_rfl) (by kernel_rfl) (by kernel_rfl)
def GR : aW := (vt, bu (jv EI)) :: (sZ, bu (jv wK)) :: (oN, A2) :: (uL, bu (fP HV)) :: (p4, bu (fP B1)) :: (oS, bu (fP z3)) :: (qk, B2) :: (p8, Be) :: (nQ, xJ) :: (pg, z9) :: []
theorem jL : br P GR := aJ TV (aJ Qi (aJ Dx (aJ W1 (aJ Iy (aJ Gp (aJ HY (aJ FP (aJ AN (aJ Gb aY)))))))))
theorem NI {q : Rat} {n : Nat} : bF T GR [6] 60 uI (ax uI) ⟨aN 0 [.rat q n], [], 0⟩ =
  some (af.ag [(0 : Nat) < 1] (af.fork ((↑(nl (if q.den = 1 then 0 else q.den)) : Int) == (0 : Int)) (af.leaf ak.ret [mag 1]) (af.ag [(0 : Nat) < 1] (af.leaf ak.ret [mag (if q.den = 1 then 0 else q.den)])))) := by kernel_rfl
theorem JL {q : Rat} {n : Nat} : bF T GR [9, 14, 18] 60 ur (ax ur) ⟨aN 0 [.rat q n], [], 0⟩ =
  some (af.fork (decide ((↑(nl q.num.natAbs) : Int) > (1 : Int))) (af.ag [(0 : Nat) < 1, decide ((↑(nl q.num.natAbs) : Int) > (1 : Int)) = true] (af.fork true (af.leaf ak.ret [int IntKind.u64 (0 : Int), int IntKind.u64 (0 : Int), AV.bool false]) (af.ag [(0 : Nat) < 1] (af.fork ((↑(nl (if q.den = 1 then 0 else q.den)) : Int) == (1 : Int)) (af.ag [(0 : Nat) < 1, (0 : Int) ≤ (0 : Int) ∧ Int.toNat (0 : Int) < nl (if q.den = 1 then 0 else q.den)] (af.ag [(0 : Nat) < 1, nl q.num.natAbs ≤ 2] (af.leaf ak.ret [int IntKind.u64 (↑q.num.natAbs : Int), int IntKind.u64 (IntKind.u64.wrap (↑(au (if q.den = 1 then 0 else q.den) (Int.toNat (0 : Int))) : Int)), AV.bool (IntKind.u64.wrap (↑(au (if q.den = 1 then 0 else q.den) (Int.toNat (0 : Int))) : Int) != (0 : Int))]))) (af.ag [(0 : Nat) < 1, nl q.num.natAbs ≤ 2] (af.leaf ak.ret [int IntKind.u64 (↑q.num.natAbs : Int), int IntKind.u64 (1 : Int), AV.bool true])))))) (af.ag [(0 : Nat) < 1, decide ((↑(nl q.num.natAbs) : Int) > (1 : Int)) = false, (0 : Nat) < 1] (af.fork (bif false then true else decide ((↑(nl (if q.den = 1 then 0 else q.den)) : Int) > (1 : Int))) (af.leaf ak.ret [int IntKind.u64 (0 : Int), int IntKind.u64 (0 : Int), AV.bool false]) (af.ag [(0 : Nat) < 1] (af.fork ((↑(nl (if q.den = 1 then 0 else q.den)) : Int) == (1 : Int)) (af.ag [(0 : Nat) < 1, (0 : Int) ≤ (0 : Int) ∧ Int.toNat (0 : Int) < nl (if q.den = 1 then 0 else q.den)] (af.ag [(0 : Nat) < 1, nl q.num.natAbs ≤ 2] (af.leaf ak.ret [int IntKind.u64 (↑q.num.natAbs : Int), int IntKind.u64 (IntKind.u64.wrap (↑(au (if q.den = 1 then 0 else q.den) (Int.toNat (0 : Int))) : Int)), AV.bool (IntKind.u64.wrap (↑(au (if q.den = 1 then 0 else q.den) (Int.toNat (0 : Int))) : Int) != (0 : Int))]))) (af.ag [(0 : Nat) < 1, nl q.num.natAbs ≤ 2] (af.leaf ak.ret [int IntKind.u64 (↑q.num.natAbs : Int), int IntKind.u64 (1 : Int), AV.bool true]))))))) := by kernel_rfl
theorem OE {q r : Rat} {n m : Nat} : bF T GR [10, 17] 60 tC (ax tC) ⟨aN 0 [.rat q n, .rat r m], [], 0⟩ =
  some (af.fork (decide (q < 0) == decide (r < 0)) (af.fork (bif true then decide (q.num.natAbs = r.num.natAbs) else false) (af.ag [(0 : Nat) < 1, (0 : Nat) < 1, (decide (q < 0) == decide (r < 0)) = true, (0 : Nat) < 1, (0 : Nat) < 1, nl q.num.natAbs < 2 ^ 40, nl r.num.natAbs < 2 ^ 40, (bif true then decide (q.num.natAbs = r.num.natAbs) else false) = true, (0 : Nat) < 1, (0 : Nat) < 1, nl (if q.den = 1 then 0 else q.den) < 2 ^ 40, nl (if r.den = 1 then 0 else r.den) < 2 ^ 40] (af.leaf ak.ret [AV.bool (bif true then decide ((if q.den = 1 then 0 else q.den) = if r.den = 1 then 0 else r.den) else false)])) (af.ag [(0 : Nat) < 1, (0 : Nat) < 1, (decide (q < 0) == decide (r < 0)) = true, (0 : Nat) < 1, (0 : Nat) < 1, nl q.num.natAbs < 2 ^ 40, nl r.num.natAbs < 2 ^ 40, (bif true then decide (q.num.natAbs = r.num.natAbs) else false) = false] (af.leaf ak.ret [AV.bool false]))) (af.fork false (af.ag [(0 : Nat) < 1, (0 : Nat) < 1, (decide (q < 0) == decide (r < 0)) = false, false = true, (0 : Nat) < 1, (0 : Nat) < 1, nl (if q.den = 1 then 0 else q.den) < 2 ^ 40, nl (if r.den = 1 then 0 else r.den) < 2 ^ 40] (af.leaf ak.ret [AV.bool (bif true then decide ((if q.den = 1 then 0 else q.den) = if r.den = 1 then 0 else r.den) else false)])) (af.ag [(0 : Nat) < 1, (0 : Nat) < 1, (decide (q < 0) == decide (r < 0)) = false, false = false] (af.leaf ak.ret [AV.bool false])))) := by kernel_rfl
theorem KB {q : Rat} {n : Nat} : bF T GR [3, 8] 60 vR (ax vR) ⟨aN 0 [.rat q n], [], 0⟩ =
  some (af.ag [(0 : Nat) < 1, nl q.num.natAbs < 2 ^ 40] (af.fork ((↑(bf q.num.natAbs) : Int) == (0 : Int)) (af.leaf ak.ret [int IntKind.i64 (0 : Int)]) (af.ag [(0 : Nat) < 1] (af.fork (decide (q < 0)) (af.leaf ak.ret [int IntKind.i64 (-1 : Int)]) (af.leaf ak.ret [int IntKind.i64 (1 : Int)]))))) := by kernel_rfl
theorem JN {q : Rat} {n : Nat} : bF T GR [] 60 vl (ax vl) ⟨aN 0 [.rat q n], [], 0⟩ =
  some (af.ag [(0 : Nat) < 1, (0 : Nat) < 1, nl q.num.natAbs < 2 ^ 40, (0 : Nat) < 1, nl (if q.den = 1 then 0 else q.den) < 2 ^ 40, (0 : Nat) < 1] (af.ag [(0 : Nat) < 1] (af.leaf ak.ret [agg [AV.bool (decide (q < 0)), mag q.num.natAbs, mag (if q.den = 1 then 0 else q.den)]]))) := by kernel_rfl
theorem OU {n : Int} : bF T GR [4] 60 sC (ax sC) ⟨aN 0 [.int .i64 n], [], 0⟩ =
  some (af.fork (n == (-9223372036854775808 : Int)) (af.ag [(0 : Int) ≤ (9223372036854775808 : Int) ∧ (9223372036854775808 : Int) < (2 : Int) ^ 64] (af.leaf ak.ret [mag 9223372036854775808])) (af.ag [(0 : Int) ≤ IntKind.u64.wrap (if n < IntKind.i64.wrap ((0 : Int) - n) then IntKind.i64.wrap ((0 : Int) - n) else n) ∧ IntKind.u64.wrap (if n < IntKind.i64.wrap ((0 : Int) - n) then IntKind.i64.wrap ((0 : Int) - n) else n) < (2 : Int) ^ 64] (af.leaf ak.ret [mag (IntKind.u64.wrap (if n < IntKind.i64.wrap ((0 : Int) - n) then IntKind.i64.wrap ((0 : Int) - n) else n)).toNat]))) := by kernel_rfl
abbrev gX : List Nat := [0, 1, 2, 6]
abbrev kZ (b : Bool) (N D : Nat) : List AV := [.bool b, .mag N, .mag D, .ptr 0 0 3 0 []]
abbrev oe : aB := [(0, ⟨false, true, 3, 1, fun _ => .rat 0 1⟩)]
theorem SA {b : Bool} {N D : Nat} : aF T GR [11, 15] 60 gX ((before (ax cK) [1,1,1,1]).take 2) ⟨aN 0 [.bool b, .mag N, .mag D], [], 0⟩ =
  some (af.fork ((↑(bf N) : Int) == (0 : Int)) (af.ag [nl N < 2 ^ 40, ((↑(bf N) : Int) == (0 : Int)) = true] (af.fork true (af.ag [(0 : Nat) < 1] (af.leaf ak.ret ([AV.bool b, mag N, mag D, ptr 0 0 3 0 []], [((0 : Nat), ⟨false, true, 3, 1, fun (j : Nat) ↦ if (j == 0) = true then cJ (agg (rat 0 1).kids) else rat 0 1⟩)]))) (af.leaf ak.normal ([AV.bool b, mag N, mag D, ptr 0 0 3 0 []], [((0 : Nat), ⟨false, true, 3, 1, fun (x : Nat) ↦ rat 0 1⟩)])))) (af.ag [nl N < 2 ^ 40, ((↑(bf N) : Int) == (0 : Int)) = false, nl D < 2 ^ 40] (af.fork (bif false then true else (↑(bf D) : Int) == (0 : Int)) (af.ag [(0 : Nat) < 1] (af.leaf ak.ret ([AV.bool b, mag N, mag D, ptr 0 0 3 0 []], [((0 : Nat), ⟨false, true, 3, 1, fun (j : Nat) ↦ if (j == 0) = true then cJ (agg (rat 0 1).kids) else rat 0 1⟩)]))) (af.leaf ak.normal ([AV.bool b, mag N, mag D, ptr 0 0 3 0 []], [((0 : Nat), ⟨false, true, 3, 1, fun (x : Nat) ↦ rat 0 1⟩)]))))) := by kernel_rfl
theorem DE {b : Bool} {N D : Nat} : iA T cK .ret ⟨az gX (kZ b N D), [(0, ⟨false, true, 3, 1, fun j => if j = 0 then cJ (.agg (AV.kids (.rat 0 1))) else .rat 0 1⟩)], 1⟩ =
  some (af.ag [(0 : Nat) < 1] (af.leaf ak.ret [agg [AV.bool false, mag 0, mag 0]])) := by kernel_rfl
theorem YM {b : Bool} {N D : Nat} {q : Rat} {k : Nat} : iA T cK .ret ⟨az gX (kZ b N D), [(0, ⟨false, true, 3, 1, fun j => if j = 0 then cJ (.rat q k) else .rat 0 1⟩)], 1⟩ =
  some (af.ag [(0 : Nat) < 1] (af.leaf ak.ret [rat q k])) := by kernel_rfl
theorem Oy {b : Bool} {N D : Nat} : aF T GR [20, 24] 60 gX (((before (ax cK) [1,1,1,1]).drop 2).take 1) ⟨az gX (kZ b N D), oe, 1⟩ =
  some (af.fork (decide ((↑(nl N) : Int) ≤ (2 : Int))) (af.ag [decide ((↑(nl N) : Int) ≤ (2 : Int)) = true] (af.fork (bif true then decide ((↑(nl D) : Int) ≤ (2 : Int)) else false) (af.ag [nl N ≤ 2, nl D ≤ 2, (0 : Int) ≤ (↑N : Int) ∧ (↑N : Int) < (2 : Int) ^ 64, (0 : Int) < (↑D : Int) ∧ (↑D : Int) < (2 : Int) ^ 64, (0 : Nat) < 1] (af.leaf ak.ret ([AV.bool b, mag N, mag D, ptr 0 0 3 0 []], [((0 : Nat), ⟨false, true, 3, 1, fun (j : Nat) ↦ if (j == 0) = true then cJ (rat (sQ b (↑N : Int).toNat (↑D : Int).toNat) (bW (sQ b (↑N : Int).toNat (↑D : Int).toNat))) else rat 0 1⟩)]))) (af.leaf ak.normal ([AV.bool b, mag N, mag D, ptr 0 0 3 0 []], [((0 : Nat), ⟨false, true, 3, 1, fun (x : Nat) ↦ rat 0 1⟩)])))) (af.ag [decide ((↑(nl N) : Int) ≤ (2 : Int)) = false] (af.fork false (af.ag [nl N ≤ 2, nl D ≤ 2, (0 : Int) ≤ (↑N : Int) ∧ (↑N : Int) < (2 : Int) ^ 64, (0 : Int) < (↑D : Int) ∧ (↑D : Int) < (2 : Int) ^ 64, (0 : Nat) < 1] (af.leaf ak.ret ([AV.bool b, mag N, mag D, ptr 0 0 3 0 []], [((0 : Nat), ⟨false, true, 3, 1, fun (j : Nat) ↦ if (j == 0) = true then cJ (rat (sQ b (↑N : Int).toNat (↑D : Int).toNat) (bW (sQ b (↑N : Int).toNat (↑D : Int).toNat))) else rat 0 1⟩)]))) (af.leaf ak.normal ([AV.bool b, mag N, mag D, ptr 0 0 3 0 []], [((0 : Nat), ⟨false, true, 3, 1, fun (x : Nat) ↦ rat 0 1⟩)]))))) := by kernel_rfl
theorem Lj {b : Bool} {N D : Nat} : aF T GR [36] 60 gX ((before (ax cK) [1,1,1,1]).drop (2 + 1)) ⟨az gX (kZ b N D), oe, 1⟩ =
  some (af.ag [nl N < 2 ^ 40, nl D < 2 ^ 40] (af.ag [nl (N.gcd D) < 2 ^ 40] (af.fork (decide ((↑(bf (N.gcd D)) : Int) > (1 : Int))) (af.ag [nl N < 2 ^ 40, nl (N.gcd D) < 2 ^ 40] (af.ag [nl D < 2 ^ 40, nl (N.gcd D) < 2 ^ 40] (af.leaf ak.normal ([AV.bool b, mag (N / N.gcd D), mag (D / N.gcd D), ptr 0 0 3 0 []], [((0 : Nat), ⟨false, true, 3, 1, fun (x : Nat) ↦ rat 0 1⟩)])))) (af.leaf ak.normal ([AV.bool b, mag N, mag D, ptr 0 0 3 0 []], [((0 : Nat), ⟨false, true, 3, 1, fun (x : Nat) ↦ rat 0 1⟩)]))))) := by kernel_rfl
theorem Li {b : Bool} {N D : Nat} : b9 T GR [58, 63] 60 cK [part (ax cK) [1,1,1,1]] ⟨az gX (kZ b N D), oe, 1⟩ =
  some (af.ag [nl N < 2 ^ 40, (0 : Nat) < 2 ^ 40, nl D < 2 ^ 40, (0 : Nat) < 2 ^ 40] (af.fork ((↑(nl (D + 0)) : Int) == (1 : Int)) (af.ag [((↑(nl (D + 0)) : Int) == (1 : Int)) = true, (0 : Int) ≤ (0 : Int) ∧ Int.toNat (0 : Int) < nl (D + 0)] (af.fork (bif true then (↑(au (D + 0) (Int.toNat (0 : Int))) : Int) == (1 : Int) else false) (af.ag [(0 : Nat) < 1] (af.ag [(0 : Nat) < 1] (af.leaf ak.ret [agg [AV.bool b, mag (N + 0), nil]]))) (af.ag [(0 : Nat) < 1] (af.ag [(0 : Nat) < 1] (af.leaf ak.ret [agg [AV.bool b, mag (N + 0), mag (D + 0)]]))))) (af.ag [((↑(nl (D + 0)) : Int) == (1 : Int)) = false] (af.fork false (af.ag [(0 : Nat) < 1] (af.ag [(0 : Nat) < 1] (af.leaf ak.ret [agg [AV.bool b, mag (N + 0), nil]]))) (af.ag [(0 : Nat) < 1] (af.ag [(0 : Nat) < 1] (af.leaf ak.ret [agg [AV.bool b, mag (N + 0), mag (D + 0)]]))))))) := by kernel_rfl
theorem gk {a b v : Bool} (h : (bif true then a else b) = v) : a = v := h
theorem AP {N : Nat} : bf N = 0 ↔ N = 0 := by unfold bf; split <;> simp_all
theorem NV {N : Nat} : bf N ≤ 1 ↔ N ≤ 1 := by rw [fX]; omega
theorem gP {N : Nat} : nl N = 0 ↔ N = 0 := by
 constructor
 ·intro h
  rcases Nat.eq_zero_or_pos N with h1 | h1
  ·exact h1
  ·have := eH.2 (show N ≠ 0 by omega); omega
 ·intro h; subst h; rfl
theorem MM {b : Bool} {n : Nat} : sQ b n 0 = 0 := by unfold sQ; simp
theorem Il {b : Bool} {x : Nat} : bq (.agg [.bool b, .mag x, .nil]) (.agg [.bool b, .mag x, .mag 0]) := eI ⟨.refl _, .refl _, iB, trivial⟩
theorem PT {b : Bool} {N D : Nat} (hN : nl N < 2 ^ 40) (hD : nl D < 2 ^ 40) (K : Nat) (pre : aB) : aC P qb K [.bool b, .mag N, .mag D] pre (aK (.rat (sQ b N D) (bW (sQ b N D))) []) := by
 refine eW hT Q6 rfl (of_decide_eq_true (by kernel_rfl)) rfl (fun _ c h0 => ?_) K pre
 have hO : ∀ {v : AV}, keys v = [] → fe 1 [(0, (⟨false, true, 3, 1, fun j => if j = 0 then v else .rat 0 1⟩ : aD))] := fun h => ⟨⟨by omega, fun i _ => by show keys (if i = 0 then _ else _) = []; split; exact h; rfl⟩, trivial⟩
 have hO' : fe 1 oe := ⟨⟨by omega, fun _ _ => rfl⟩, trivial⟩
 have hz : sQ b N D = 0 → bq (.agg [.bool false, .mag 0, .mag 0]) (.rat (sQ b N D) (bW (sQ b N D))) := fun h => by
  rw [h]; exact mW
 refine aq.hole [1,1,1,1] (by kernel_rfl) (aA.chunk 2 (aA.aS hT jL hm 60 gX SA (by kernel_rfl) ?_))
 simp only [af.all, ay, beq_iff_eq, beq_eq_false_iff_ne, ne_eq]
 -- behind the first questions
 have rest : ∀ {s' : aE}, N ≠ 0 → D ≠ 0 → aQ gX s' = some (kZ b N D, oe) →
   aA P c cK.ntmps ((before (ax cK) [1,1,1,1]).drop 2) s' (cS (fun s' => aq P c cK.ntmps (part (ax cK) [1,1,1,1]) s' (cS (fun s' => aA P c cK.ntmps (behind (ax cK) [1,1,1,1]) s' (dy c (Fin T cK (.rat (sQ b N D) (bW (sQ b N D)))))) (dy c (Fin T cK (.rat (sQ b N D) (bW (sQ b N D)))))))
    (dy c (Fin T cK (.rat (sQ b N D) (bW (sQ b N D)))))) := by
  intro s' hN0 hD0 hv
  have last : ∀ {s' : aE} {X Y : Nat}, nl X < 2 ^ 40 → nl Y < 2 ^ 40 → X = N / Nat.gcd N D → Y = D / Nat.gcd N D → aQ gX s' = some (kZ b X Y, oe) →
    aq P c cK.ntmps (part (ax cK) [1,1,1,1]) s' (cS (fun s' => aA P c cK.ntmps (behind (ax cK) [1,1,1,1]) s' (dy c (Fin T cK (.rat (sQ b N D) (bW (sQ b N D)))))) (dy c (Fin T cK (.rat (sQ b N D) (bW (sQ b N D)))))) := by
   intro s' X Y hX hY eX eY hv
   refine aq.mono (Q := cS (fun s' => aA P c cK.ntmps [] s' (dy c (Fin T cK (.rat (sQ b N D) (bW (sQ b N D)))))) (dy c (Fin T cK (.rat (sQ b N D) (bW (sQ b N D)))))) ?_ fun e s' h => by cases e <;> exact h
   refine aA.gY (l := [part (ax cK) [1,1,1,1]]) hT jL hm 60 hv (h0 _) rfl hO' Li (by kernel_rfl) rfl ?_
   simp only [af.all, ay, beq_iff_eq, beq_eq_false_iff_ne, ne_eq, Nat.add_zero, Int.toNat_zero]
   have hY0 : Y ≠ 0 := by rw [eY]; exact Nat.pos_iff_ne_zero.1 (Nat.div_pos (Nat.le_of_dvd (by omega) (Nat.gcd_dvd_right _ _)) (Nat.gcd_pos_of_pos_left _ (by omega)))
   have h1 : Y ≠ 1 → bq (.agg [.bool b, .mag X, .mag Y]) (.rat (sQ b N D) (bW (sQ b N D))) := fun h => pU hN0 hD0 eX (by rw [← eY, if_neg h]) uQ
   have h2 : Y = 1 → bq (.agg [.bool b, .mag X, .nil]) (.rat (sQ b N D) (bW (sQ b N D))) := fun h => Il.trans (pU hN0 hD0 eX (by rw [← eY, if_pos h]) uQ)
   have hl : nl Y = 1 → au Y 0 = Y := fun h => by
    have := ew (N := Y)
    rw [h, val, val] at this
    simpa using this
   refine ⟨⟨hX, by omega, hY, by omega⟩, fun hb => ⟨⟨hb, by omega, by omega⟩, fun hc => ⟨by omega, by omega, h2 ?_⟩, fun hc => ⟨by omega, by omega, h1 ?_⟩⟩, fun hb => ⟨hb, fun h => by simp at h, fun _ => ⟨by omega, by omega, h1 ?_⟩⟩⟩
   ·have := gk hc
    rw [hl (by omega)] at this
    have := eq_of_beq this
    omega
   ·have := gk hc
    rw [hl (by omega)] at this
    intro h
    rw [h] at this
    simp at this
   ·intro h
    rw [h] at hb
    exact hb (by decide)
  refine aA.chunk 1 (aA.dB hT jL hm 60 hv (h0 _) rfl hO' gX Oy (by kernel_rfl) rfl ?_)
  simp only [af.all, ay, decide_eq_true_eq, decide_eq_false_iff_not, Int.toNat_natCast, beq_iff_eq]
  have long : ∀ {s' : aE}, aQ gX s' = some (kZ b N D, oe) → aA P c cK.ntmps (((before (ax cK) [1,1,1,1]).drop 2).drop 1) s' (cS (fun s' => aq P c cK.ntmps (part (ax cK) [1,1,1,1]) s' (cS (fun s' => aA P c cK.ntmps (behind (ax cK) [1,1,1,1]) s' (dy c (Fin T cK (.rat (sQ b N D) (bW (sQ b N D)))))) (dy c (Fin T cK (.rat (sQ b N D) (bW (sQ b N D)))))))
    (dy c (Fin T cK (.rat (sQ b N D) (bW (sQ b N D)))))) := by
   intro s' hv
   rw [List.drop_drop]
   refine aA.dB hT jL hm 60 hv (h0 _) rfl hO' gX Lj (by kernel_rfl) rfl ?_
   simp only [af.all, ay, decide_eq_true_eq, decide_eq_false_iff_not]
   have hg : nl (Nat.gcd N D) < 2 ^ 40 := Nat.lt_of_le_of_lt (fo (Nat.gcd_le_left _ (by omega))) hN
   have hg0 : 0 < Nat.gcd N D := Nat.gcd_pos_of_pos_left _ (by omega)
   refine ⟨⟨hN, hD⟩, hg, fun hb => ⟨⟨hN, hg⟩, ⟨hD, hg⟩, fun s' hv => last (Nat.lt_of_le_of_lt (fo (Nat.div_le_self _ _)) hN) (Nat.lt_of_le_of_lt (fo (Nat.div_le_self _ _)) hD) rfl rfl hv⟩, fun hb s' hv => ?_⟩
   have hg1 : Nat.gcd N D = 1 := by
    have : bf (Nat.gcd N D) ≤ 1 := by omega
    have := NV.1 this
    omega
   exact last hN hD (by rw [hg1, Nat.div_one]) (by rw [hg1, Nat.div_one]) hv
  refine ⟨fun hb => ⟨hb, fun hc => ⟨?_, fun s' hv => ?_⟩, fun hc s' hv => bL (long hv)⟩, fun hb => ⟨hb, fun h => by simp at h, fun _ s' hv => bL (long hv)⟩⟩
  ·have h2 : nl D ≤ 2 := by have := of_decide_eq_true (gk hc); omega
   have := mB (show nl N ≤ 2 by omega)
   have := mB h2
   exact ⟨by omega, h2, by omega, by omega, by omega⟩
  ·refine dJ (dJ (v8 YM hv (h0 _) rfl (hO rfl) ⟨by simp [ay], ?_⟩))
   exact .refl _
 refine ⟨fun hb => ⟨⟨hN, hb⟩, fun _ => ⟨by omega, fun s' hv => dJ (dJ (v8 DE hv (h0 _) rfl (hO rfl) ⟨by simp [ay], hz ?_⟩))⟩, fun h => by simp at h⟩, fun hb => ⟨⟨hN, hb, hD⟩, fun hc => ⟨by omega, fun s' hv => dJ (dJ (v8 DE hv (h0 _) rfl (hO rfl) ⟨by simp [ay], hz ?_⟩))⟩, fun hc s' hv => bL (rest ?_ ?_ hv)⟩⟩
 ·rw [AP.1 (show bf N = 0 by omega), Ax]
 ·have := eq_of_beq (fL hc)
  rw [AP.1 (show bf D = 0 by omega), MM]
 ·intro h; rw [h] at hb; exact hb (by decide)
 ·intro h
  have := fL hc
  rw [h] at this
  simp [bf] at this
end Go.Am.B
