/- rational.den, parts, reduce, Same, Sign, copied, size. -/
import Derived.Test.YtnocdkaonpdmjaaGreatB16
set_option linter.unusedVariables false
namespace Go.Am.B
open Go Go.Am.N AV
theorem PF : aN P pU tY (au tY) := aP Yf (by kernel_rfl) (by kernel_rfl) (by kernel_rfl)
theorem U9 : aN P xF vS (au vS) := aP TG (by kernel_rfl) (by kernel_rfl) (by kernel_rfl)
theorem Yr : aN P qJ cT (au cT) := aP WU (by kernel_rfl) (by kernel_rfl) (by kernel_rfl)
theorem U2 : aN P fk vW (au vW) := aP Y6 (by kernel_rfl) (by kernel_rfl) (by kernel_rfl)
theorem acg : aN P oK xJ (au xJ) := aP Ov (by kernel_rfl) (by kernel_rfl) (by kernel_rfl)
theorem SM : aN P tN ud (au ud) := aP Y8 (by kernel_rfl) (by kernel_rfl) (by kernel_rfl)
theorem abp : aN P yc vc (au vc) := aP Vf (by kernel_rfl) (by kernel_rfl) (by kernel_rfl)
def GR : aQ := (rI, bw (jD BI)) :: (xI, bw (jD AP)) :: (qT, Dj) :: (rG, bw (fJ DA)) :: (rJ, bw (fJ BQ)) :: (qp, bw (fJ DP)) :: (ql, Ew) :: (qQ, Dq) :: (od, AU) :: (qm, Dp) :: []
theorem kU : aY P GR := aF GV (aF O4 (aF LO (aF HJ (aF E0 (aF G3 (aF Je (aF EW (aF BA (aF EX bk)))))))))
theorem Z6 {q : Rat} {n : Nat} : bu T GR [6] 60 tY (au tY) ⟨aL 0 [.rat q n], [], 0⟩ =
  some (aa.ag [(0 : Nat) < 1] (aa.fork ((↑(nl (if q.den = 1 then 0 else q.den)) : Int) == (0 : Int)) (aa.leaf ah.ret [mag 1]) (aa.ag [(0 : Nat) < 1] (aa.leaf ah.ret [mag (if q.den = 1 then 0 else q.den)])))) := by kernel_rfl
theorem Sd {q : Rat} {n : Nat} : bu T GR [9, 14, 18] 60 vS (au vS) ⟨aL 0 [.rat q n], [], 0⟩ =
  some (aa.fork (decide ((↑(nl q.num.natAbs) : Int) > (1 : Int))) (aa.ag [(0 : Nat) < 1, decide ((↑(nl q.num.natAbs) : Int) > (1 : Int)) = true] (aa.fork true (aa.leaf ah.ret [int IntKind.u64 (0 : Int), int IntKind.u64 (0 : Int), AV.bool false]) (aa.ag [(0 : Nat) < 1] (aa.fork ((↑(nl (if q.den = 1 then 0 else q.den)) : Int) == (1 : Int)) (aa.ag [(0 : Nat) < 1, (0 : Int) ≤ (0 : Int) ∧ Int.toNat (0 : Int) < nl (if q.den = 1 then 0 else q.den)] (aa.ag [(0 : Nat) < 1, nl q.num.natAbs ≤ 2] (aa.leaf ah.ret [int IntKind.u64 (↑q.num.natAbs : Int), int IntKind.u64 (IntKind.u64.wrap (↑(ax (if q.den = 1 then 0 else q.den) (Int.toNat (0 : Int))) : Int)), AV.bool (IntKind.u64.wrap (↑(ax (if q.den = 1 then 0 else q.den) (Int.toNat (0 : Int))) : Int) != (0 : Int))]))) (aa.ag [(0 : Nat) < 1, nl q.num.natAbs ≤ 2] (aa.leaf ah.ret [int IntKind.u64 (↑q.num.natAbs : Int), int IntKind.u64 (1 : Int), AV.bool true])))))) (aa.ag [(0 : Nat) < 1, decide ((↑(nl q.num.natAbs) : Int) > (1 : Int)) = false, (0 : Nat) < 1] (aa.fork (bif false then true else decide ((↑(nl (if q.den = 1 then 0 else q.den)) : Int) > (1 : Int))) (aa.leaf ah.ret [int IntKind.u64 (0 : Int), int IntKind.u64 (0 : Int), AV.bool false]) (aa.ag [(0 : Nat) < 1] (aa.fork ((↑(nl (if q.den = 1 then 0 else q.den)) : Int) == (1 : Int)) (aa.ag [(0 : Nat) < 1, (0 : Int) ≤ (0 : Int) ∧ Int.toNat (0 : Int) < nl (if q.den = 1 then 0 else q.den)] (aa.ag [(0 : Nat) < 1, nl q.num.natAbs ≤ 2] (aa.leaf ah.ret [int IntKind.u64 (↑q.num.natAbs : Int), int IntKind.u64 (IntKind.u64.wrap (↑(ax (if q.den = 1 then 0 else q.den) (Int.toNat (0 : Int))) : Int)), AV.bool (IntKind.u64.wrap (↑(ax (if q.den = 1 then 0 else q.den) (Int.toNat (0 : Int))) : Int) != (0 : Int))]))) (aa.ag [(0 : Nat) < 1, nl q.num.natAbs ≤ 2] (aa.leaf ah.ret [int IntKind.u64 (↑q.num.natAbs : Int), int IntKind.u64 (1 : Int), AV.bool true]))))))) := by kernel_rfl
theorem Um {q r : Rat} {n m : Nat} : bu T GR [10, 17] 60 vW (au vW) ⟨aL 0 [.rat q n, .rat r m], [], 0⟩ =
  some (aa.fork (decide (q < 0) == decide (r < 0)) (aa.fork (bif true then decide (q.num.natAbs = r.num.natAbs) else false) (aa.ag [(0 : Nat) < 1, (0 : Nat) < 1, (decide (q < 0) == decide (r < 0)) = true, (0 : Nat) < 1, (0 : Nat) < 1, nl q.num.natAbs < 2 ^ 40, nl r.num.natAbs < 2 ^ 40, (bif true then decide (q.num.natAbs = r.num.natAbs) else false) = true, (0 : Nat) < 1, (0 : Nat) < 1, nl (if q.den = 1 then 0 else q.den) < 2 ^ 40, nl (if r.den = 1 then 0 else r.den) < 2 ^ 40] (aa.leaf ah.ret [AV.bool (bif true then decide ((if q.den = 1 then 0 else q.den) = if r.den = 1 then 0 else r.den) else false)])) (aa.ag [(0 : Nat) < 1, (0 : Nat) < 1, (decide (q < 0) == decide (r < 0)) = true, (0 : Nat) < 1, (0 : Nat) < 1, nl q.num.natAbs < 2 ^ 40, nl r.num.natAbs < 2 ^ 40, (bif true then decide (q.num.natAbs = r.num.natAbs) else false) = false] (aa.leaf ah.ret [AV.bool false]))) (aa.fork false (aa.ag [(0 : Nat) < 1, (0 : Nat) < 1, (decide (q < 0) == decide (r < 0)) = false, false = true, (0 : Nat) < 1, (0 : Nat) < 1, nl (if q.den = 1 then 0 else q.den) < 2 ^ 40, nl (if r.den = 1 then 0 else r.den) < 2 ^ 40] (aa.leaf ah.ret [AV.bool (bif true then decide ((if q.den = 1 then 0 else q.den) = if r.den = 1 then 0 else r.den) else false)])) (aa.ag [(0 : Nat) < 1, (0 : Nat) < 1, (decide (q < 0) == decide (r < 0)) = false, false = false] (aa.leaf ah.ret [AV.bool false])))) := by kernel_rfl
theorem ack {q : Rat} {n : Nat} : bu T GR [3, 8] 60 xJ (au xJ) ⟨aL 0 [.rat q n], [], 0⟩ =
  some (aa.ag [(0 : Nat) < 1, nl q.num.natAbs < 2 ^ 40] (aa.fork ((↑(bg q.num.natAbs) : Int) == (0 : Int)) (aa.leaf ah.ret [int IntKind.i64 (0 : Int)]) (aa.ag [(0 : Nat) < 1] (aa.fork (decide (q < 0)) (aa.leaf ah.ret [int IntKind.i64 (-1 : Int)]) (aa.leaf ah.ret [int IntKind.i64 (1 : Int)]))))) := by kernel_rfl
theorem abv {q : Rat} {n : Nat} : bu T GR [] 60 ud (au ud) ⟨aL 0 [.rat q n], [], 0⟩ =
  some (aa.ag [(0 : Nat) < 1, (0 : Nat) < 1, nl q.num.natAbs < 2 ^ 40, (0 : Nat) < 1, nl (if q.den = 1 then 0 else q.den) < 2 ^ 40, (0 : Nat) < 1] (aa.ag [(0 : Nat) < 1] (aa.leaf ah.ret [agg [AV.bool (decide (q < 0)), mag q.num.natAbs, mag (if q.den = 1 then 0 else q.den)]]))) := by kernel_rfl
theorem Wr {n : Int} : bu T GR [4] 60 vc (au vc) ⟨aL 0 [.int .i64 n], [], 0⟩ =
  some (aa.fork (n == (-9223372036854775808 : Int)) (aa.ag [(0 : Int) ≤ (9223372036854775808 : Int) ∧ (9223372036854775808 : Int) < (2 : Int) ^ 64] (aa.leaf ah.ret [mag 9223372036854775808])) (aa.ag [(0 : Int) ≤ IntKind.u64.wrap (if n < IntKind.i64.wrap ((0 : Int) - n) then IntKind.i64.wrap ((0 : Int) - n) else n) ∧ IntKind.u64.wrap (if n < IntKind.i64.wrap ((0 : Int) - n) then IntKind.i64.wrap ((0 : Int) - n) else n) < (2 : Int) ^ 64] (aa.leaf ah.ret [mag (IntKind.u64.wrap (if n < IntKind.i64.wrap ((0 : Int) - n) then IntKind.i64.wrap ((0 : Int) - n) else n)).toNat]))) := by kernel_rfl
abbrev ic : List Nat := [0, 1, 2, 6]
abbrev mF (b : Bool) (N D : Nat) : List AV := [.bool b, .mag N, .mag D, .ptr 0 0 3 0 []]
abbrev oc : aD := [(0, ⟨false, true, 3, 1, fun _ => .rat 0 1⟩)]
theorem adi {b : Bool} {N D : Nat} : aI T GR [11, 15] 60 ic ((before (au cT) [1,1,1,1]).take 2) ⟨aL 0 [.bool b, .mag N, .mag D], [], 0⟩ =
  some (aa.fork ((↑(bg N) : Int) == (0 : Int)) (aa.ag [nl N < 2 ^ 40, ((↑(bg N) : Int) == (0 : Int)) = true] (aa.fork true (aa.ag [(0 : Nat) < 1] (aa.leaf ah.ret ([AV.bool b, mag N, mag D, ptr 0 0 3 0 []], [((0 : Nat), ⟨false, true, 3, 1, fun (j : Nat) ↦ if (j == 0) = true then bA (agg (rat 0 1).kids) else rat 0 1⟩)]))) (aa.leaf ah.normal ([AV.bool b, mag N, mag D, ptr 0 0 3 0 []], [((0 : Nat), ⟨false, true, 3, 1, fun (x : Nat) ↦ rat 0 1⟩)])))) (aa.ag [nl N < 2 ^ 40, ((↑(bg N) : Int) == (0 : Int)) = false, nl D < 2 ^ 40] (aa.fork (bif false then true else (↑(bg D) : Int) == (0 : Int)) (aa.ag [(0 : Nat) < 1] (aa.leaf ah.ret ([AV.bool b, mag N, mag D, ptr 0 0 3 0 []], [((0 : Nat), ⟨false, true, 3, 1, fun (j : Nat) ↦ if (j == 0) = true then bA (agg (rat 0 1).kids) else rat 0 1⟩)]))) (aa.leaf ah.normal ([AV.bool b, mag N, mag D, ptr 0 0 3 0 []], [((0 : Nat), ⟨false, true, 3, 1, fun (x : Nat) ↦ rat 0 1⟩)]))))) := by kernel_rfl
theorem HK {b : Bool} {N D : Nat} : jt T cT .ret ⟨aB ic (mF b N D), [(0, ⟨false, true, 3, 1, fun j => if j = 0 then bA (.agg (AV.kids (.rat 0 1))) else .rat 0 1⟩)], 1⟩ =
  some (aa.ag [(0 : Nat) < 1] (aa.leaf ah.ret [agg [AV.bool false, mag 0, mag 0]])) := by kernel_rfl
theorem O2 {b : Bool} {N D : Nat} {q : Rat} {k : Nat} : jt T cT .ret ⟨aB ic (mF b N D), [(0, ⟨false, true, 3, 1, fun j => if j = 0 then bA (.rat q k) else .rat 0 1⟩)], 1⟩ =
  some (aa.ag [(0 : Nat) < 1] (aa.leaf ah.ret [rat q k])) := by kernel_rfl
theorem U5 {b : Bool} {N D : Nat} : aI T GR [20, 24] 60 ic (((before (au cT) [1,1,1,1]).drop 2).take 1) ⟨aB ic (mF b N D), oc, 1⟩ =
  some (aa.fork (decide ((↑(nl N) : Int) ≤ (2 : Int))) (aa.ag [decide ((↑(nl N) : Int) ≤ (2 : Int)) = true] (aa.fork (bif true then decide ((↑(nl D) : Int) ≤ (2 : Int)) else false) (aa.ag [nl N ≤ 2, nl D ≤ 2, (0 : Int) ≤ (↑N : Int) ∧ (↑N : Int) < (2 : Int) ^ 64, (0 : Int) < (↑D : Int) ∧ (↑D : Int) < (2 : Int) ^ 64, (0 : Nat) < 1] (aa.leaf ah.ret ([AV.bool b, mag N, mag D, ptr 0 0 3 0 []], [((0 : Nat), ⟨false, true, 3, 1, fun (j : Nat) ↦ if (j == 0) = true then bA (rat (sQ b (↑N : Int).toNat (↑D : Int).toNat) (bS (sQ b (↑N : Int).toNat (↑D : Int).toNat))) else rat 0 1⟩)]))) (aa.leaf ah.normal ([AV.bool b, mag N, mag D, ptr 0 0 3 0 []], [((0 : Nat), ⟨false, true, 3, 1, fun (x : Nat) ↦ rat 0 1⟩)])))) (aa.ag [decide ((↑(nl N) : Int) ≤ (2 : Int)) = false] (aa.fork false (aa.ag [nl N ≤ 2, nl D ≤ 2, (0 : Int) ≤ (↑N : Int) ∧ (↑N : Int) < (2 : Int) ^ 64, (0 : Int) < (↑D : Int) ∧ (↑D : Int) < (2 : Int) ^ 64, (0 : Nat) < 1] (aa.leaf ah.ret ([AV.bool b, mag N, mag D, ptr 0 0 3 0 []], [((0 : Nat), ⟨false, true, 3, 1, fun (j : Nat) ↦ if (j == 0) = true then bA (rat (sQ b (↑N : Int).toNat (↑D : Int).toNat) (bS (sQ b (↑N : Int).toNat (↑D : Int).toNat))) else rat 0 1⟩)]))) (aa.leaf ah.normal ([AV.bool b, mag N, mag D, ptr 0 0 3 0 []], [((0 : Nat), ⟨false, true, 3, 1, fun (x : Nat) ↦ rat 0 1⟩)]))))) := by kernel_rfl
theorem T2 {b : Bool} {N D : Nat} : aI T GR [36] 60 ic ((before (au cT) [1,1,1,1]).drop (2 + 1)) ⟨aB ic (mF b N D), oc, 1⟩ =
  some (aa.ag [nl N < 2 ^ 40, nl D < 2 ^ 40] (aa.ag [nl (N.gcd D) < 2 ^ 40] (aa.fork (decide ((↑(bg (N.gcd D)) : Int) > (1 : Int))) (aa.ag [nl N < 2 ^ 40, nl (N.gcd D) < 2 ^ 40] (aa.ag [nl D < 2 ^ 40, nl (N.gcd D) < 2 ^ 40] (aa.leaf ah.normal ([AV.bool b, mag (N / N.gcd D), mag (D / N.gcd D), ptr 0 0 3 0 []], [((0 : Nat), ⟨false, true, 3, 1, fun (x : Nat) ↦ rat 0 1⟩)])))) (aa.leaf ah.normal ([AV.bool b, mag N, mag D, ptr 0 0 3 0 []], [((0 : Nat), ⟨false, true, 3, 1, fun (x : Nat) ↦ rat 0 1⟩)]))))) := by kernel_rfl
theorem S7 {b : Bool} {N D : Nat} : b9 T GR [58, 63] 60 cT [part (au cT) [1,1,1,1]] ⟨aB ic (mF b N D), oc, 1⟩ =
  some (aa.ag [nl N < 2 ^ 40, (0 : Nat) < 2 ^ 40, nl D < 2 ^ 40, (0 : Nat) < 2 ^ 40] (aa.fork ((↑(nl (D + 0)) : Int) == (1 : Int)) (aa.ag [((↑(nl (D + 0)) : Int) == (1 : Int)) = true, (0 : Int) ≤ (0 : Int) ∧ Int.toNat (0 : Int) < nl (D + 0)] (aa.fork (bif true then (↑(ax (D + 0) (Int.toNat (0 : Int))) : Int) == (1 : Int) else false) (aa.ag [(0 : Nat) < 1] (aa.ag [(0 : Nat) < 1] (aa.leaf ah.ret [agg [AV.bool b, mag (N + 0), nil]]))) (aa.ag [(0 : Nat) < 1] (aa.ag [(0 : Nat) < 1] (aa.leaf ah.ret [agg [AV.bool b, mag (N + 0), mag (D + 0)]]))))) (aa.ag [((↑(nl (D + 0)) : Int) == (1 : Int)) = false] (aa.fork false (aa.ag [(0 : Nat) < 1] (aa.ag [(0 : Nat) < 1] (aa.leaf ah.ret [agg [AV.bool b, mag (N + 0), nil]]))) (aa.ag [(0 : Nat) < 1] (aa.ag [(0 : Nat) < 1] (aa.leaf ah.ret [agg [AV.bool b, mag (N + 0), mag (D + 0)]]))))))) := by kernel_rfl
theorem gG {a b v : Bool} (h : (bif true then a else b) = v) : a = v := h
theorem BK {N : Nat} : bg N = 0 ↔ N = 0 := by unfold bg; split <;> simp_all
theorem Z1 {N : Nat} : bg N ≤ 1 ↔ N ≤ 1 := by rw [gN]; omega
theorem gP {N : Nat} : nl N = 0 ↔ N = 0 := by
 constructor
 ·intro h
  rcases Nat.eq_zero_or_pos N with h1 | h1
  ·exact h1
  ·have := eE.2 (show N ≠ 0 by omega); omega
 ·intro h; subst h; rfl
theorem Sp {b : Bool} {n : Nat} : sQ b n 0 = 0 := by unfold sQ; simp
theorem I7 {b : Bool} {x : Nat} : bB (.agg [.bool b, .mag x, .nil]) (.agg [.bool b, .mag x, .mag 0]) := dx ⟨.refl _, .refl _, iP, trivial⟩
theorem ad1 {b : Bool} {N D : Nat} (hN : nl N < 2 ^ 40) (hD : nl D < 2 ^ 40) (K : Nat) (pre : aD) : aA P qJ K [.bool b, .mag N, .mag D] pre (aG (.rat (sQ b N D) (bS (sQ b N D))) []) := by
 refine fU hT Yr rfl (of_decide_eq_true (by kernel_rfl)) rfl (fun _ c h0 => ?_) K pre
 have hO : ∀ {v : AV}, keys v = [] → fe 1 [(0, (⟨false, true, 3, 1, fun j => if j = 0 then v else .rat 0 1⟩ : az))] := fun h => ⟨⟨by omega, fun i _ => by show keys (if i = 0 then _ else _) = []; split; exact h; rfl⟩, trivial⟩
 have hO' : fe 1 oc := ⟨⟨by omega, fun _ _ => rfl⟩, trivial⟩
 have hz : sQ b N D = 0 → bB (.agg [.bool false, .mag 0, .mag 0]) (.rat (sQ b N D) (bS (sQ b N D))) := fun h => by
  rw [h]; exact iu
 refine aq.hole [1,1,1,1] (by kernel_rfl) (aC.chunk 2 (aC.aZ hT kU hm 60 ic adi (by kernel_rfl) ?_))
 simp only [aa.all, ay, beq_iff_eq, beq_eq_false_iff_ne, ne_eq]
 -- behind the first questions
 have rest : ∀ {s' : aE}, N ≠ 0 → D ≠ 0 → aV ic s' = some (mF b N D, oc) →
   aC P c cT.ntmps ((before (au cT) [1,1,1,1]).drop 2) s' (cX (fun s' => aq P c cT.ntmps (part (au cT) [1,1,1,1]) s' (cX (fun s' => aC P c cT.ntmps (behind (au cT) [1,1,1,1]) s' (dh c (Fin T cT (.rat (sQ b N D) (bS (sQ b N D)))))) (dh c (Fin T cT (.rat (sQ b N D) (bS (sQ b N D)))))))
    (dh c (Fin T cT (.rat (sQ b N D) (bS (sQ b N D)))))) := by
  intro s' hN0 hD0 hv
  have last : ∀ {s' : aE} {X Y : Nat}, nl X < 2 ^ 40 → nl Y < 2 ^ 40 → X = N / Nat.gcd N D → Y = D / Nat.gcd N D → aV ic s' = some (mF b X Y, oc) →
    aq P c cT.ntmps (part (au cT) [1,1,1,1]) s' (cX (fun s' => aC P c cT.ntmps (behind (au cT) [1,1,1,1]) s' (dh c (Fin T cT (.rat (sQ b N D) (bS (sQ b N D)))))) (dh c (Fin T cT (.rat (sQ b N D) (bS (sQ b N D)))))) := by
   intro s' X Y hX hY eX eY hv
   refine aq.mono (Q := cX (fun s' => aC P c cT.ntmps [] s' (dh c (Fin T cT (.rat (sQ b N D) (bS (sQ b N D)))))) (dh c (Fin T cT (.rat (sQ b N D) (bS (sQ b N D)))))) ?_ fun e s' h => by cases e <;> exact h
   refine aC.iE (l := [part (au cT) [1,1,1,1]]) hT kU hm 60 hv (h0 _) rfl hO' S7 (by kernel_rfl) rfl ?_
   simp only [aa.all, ay, beq_iff_eq, beq_eq_false_iff_ne, ne_eq, Nat.add_zero, Int.toNat_zero]
   have hY0 : Y ≠ 0 := by rw [eY]; exact Nat.pos_iff_ne_zero.1 (Nat.div_pos (Nat.le_of_dvd (by omega) (Nat.gcd_dvd_right _ _)) (Nat.gcd_pos_of_pos_left _ (by omega)))
   have h1 : Y ≠ 1 → bB (.agg [.bool b, .mag X, .mag Y]) (.rat (sQ b N D) (bS (sQ b N D))) := fun h => p9 hN0 hD0 eX (by rw [← eY, if_neg h]) x3
   have h2 : Y = 1 → bB (.agg [.bool b, .mag X, .nil]) (.rat (sQ b N D) (bS (sQ b N D))) := fun h => I7.trans (p9 hN0 hD0 eX (by rw [← eY, if_pos h]) x3)
   have hl : nl Y = 1 → ax Y 0 = Y := fun h => by
    have := eB (N := Y)
    rw [h, val, val] at this
    simpa using this
   refine ⟨⟨hX, by omega, hY, by omega⟩, fun hb => ⟨⟨hb, by omega, by omega⟩, fun hc => ⟨by omega, by omega, h2 ?_⟩, fun hc => ⟨by omega, by omega, h1 ?_⟩⟩, fun hb => ⟨hb, fun h => by simp at h, fun _ => ⟨by omega, by omega, h1 ?_⟩⟩⟩
   ·have := gG hc
    rw [hl (by omega)] at this
    have := eq_of_beq this
    omega
   ·have := gG hc
    rw [hl (by omega)] at this
    intro h
    rw [h] at this
    simp at this
   ·intro h
    rw [h] at hb
    exact hb (by decide)
  refine aC.chunk 1 (aC.dQ hT kU hm 60 hv (h0 _) rfl hO' ic U5 (by kernel_rfl) rfl ?_)
  simp only [aa.all, ay, decide_eq_true_eq, decide_eq_false_iff_not, Int.toNat_natCast, beq_iff_eq]
  have long : ∀ {s' : aE}, aV ic s' = some (mF b N D, oc) → aC P c cT.ntmps (((before (au cT) [1,1,1,1]).drop 2).drop 1) s' (cX (fun s' => aq P c cT.ntmps (part (au cT) [1,1,1,1]) s' (cX (fun s' => aC P c cT.ntmps (behind (au cT) [1,1,1,1]) s' (dh c (Fin T cT (.rat (sQ b N D) (bS (sQ b N D)))))) (dh c (Fin T cT (.rat (sQ b N D) (bS (sQ b N D)))))))
    (dh c (Fin T cT (.rat (sQ b N D) (bS (sQ b N D)))))) := by
   intro s' hv
   rw [List.drop_drop]
   refine aC.dQ hT kU hm 60 hv (h0 _) rfl hO' ic T2 (by kernel_rfl) rfl ?_
   simp only [aa.all, ay, decide_eq_true_eq, decide_eq_false_iff_not]
   have hg : nl (Nat.gcd N D) < 2 ^ 40 := Nat.lt_of_le_of_lt (fC (Nat.gcd_le_left _ (by omega))) hN
   have hg0 : 0 < Nat.gcd N D := Nat.gcd_pos_of_pos_left _ (by omega)
   refine ⟨⟨hN, hD⟩, hg, fun hb => ⟨⟨hN, hg⟩, ⟨hD, hg⟩, fun s' hv => last (Nat.lt_of_le_of_lt (fC (Nat.div_le_self _ _)) hN) (Nat.lt_of_le_of_lt (fC (Nat.div_le_self _ _)) hD) rfl rfl hv⟩, fun hb s' hv => ?_⟩
   have hg1 : Nat.gcd N D = 1 := by
    have : bg (Nat.gcd N D) ≤ 1 := by omega
    have := Z1.1 this
    omega
   exact last hN hD (by rw [hg1, Nat.div_one]) (by rw [hg1, Nat.div_one]) hv
  refine ⟨fun hb => ⟨hb, fun hc => ⟨?_, fun s' hv => ?_⟩, fun hc s' hv => bP (long hv)⟩, fun hb => ⟨hb, fun h => by simp at h, fun _ s' hv => bP (long hv)⟩⟩
  ·have h2 : nl D ≤ 2 := by have := of_decide_eq_true (gG hc); omega
   have := mz (show nl N ≤ 2 by omega)
   have := mz h2
   exact ⟨by omega, h2, by omega, by omega, by omega⟩
  ·refine dY (dY (sy O2 hv (h0 _) rfl (hO rfl) ⟨by simp [ay], ?_⟩))
   exact .refl _
 refine ⟨fun hb => ⟨⟨hN, hb⟩, fun _ => ⟨by omega, fun s' hv => dY (dY (sy HK hv (h0 _) rfl (hO rfl) ⟨by simp [ay], hz ?_⟩))⟩, fun h => by simp at h⟩, fun hb => ⟨⟨hN, hb, hD⟩, fun hc => ⟨by omega, fun s' hv => dY (dY (sy HK hv (h0 _) rfl (hO rfl) ⟨by simp [ay], hz ?_⟩))⟩, fun hc s' hv => bP (rest ?_ ?_ hv)⟩⟩
 ·rw [BK.1 (show bg N = 0 by omega), CB]
 ·have := eq_of_beq (fD hc)
  rw [BK.1 (show bg D = 0 by omega), Sp]
 ·intro h; rw [h] at hb; exact hb (by decide)
 ·intro h
  have := fD hc
  rw [h] at this
  simp [bg] at this
end Go.Am.B
