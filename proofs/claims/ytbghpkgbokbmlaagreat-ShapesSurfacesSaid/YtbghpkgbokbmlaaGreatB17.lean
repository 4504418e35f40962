/- rational.den, parts, reduce, Same, Sign, copied, size. -/
import Derived.Test.YtbghpkgbokbmlaaGreatB16
set_option linter.unusedVariables false
namespace Go.Am.B
open Go Go.Am.N AV
theorem VG : aP P sk rX (au rX) := aL Uq (by kernel_rfl) (by kernel_rfl) (by kernel_rfl)
theorem NX : aP P uy tG (au tG) := aL K0 (by kernel_rfl) (by kernel_rfl) (by kernel_rfl)
theorem Z8 : aP P pe cS (au cS) := aL Tz (by kernel_rfl) (by kernel_rfl) (by kernel_rfl)
theorem S3 : aP P kf tc (au tc) := aL Og (by kernel_rfl) (by kernel_rfl) (by kernel_rfl)
theorem W5 : aP P nr qP (au qP) := aL YG (by kernel_rfl) (by kernel_rfl) (by kernel_rfl)
theorem Mz : aP P rH rB (au rB) := aL Pf (by kernel_rfl) (by kernel_rfl) (by kernel_rfl)
theorem Kl : aP P tT tD (au tD) := aL aaN (by kernel_rfl) (by kernel_rfl) (by kernel_rfl)
def GR : aO := (rP, bA (ju IZ)) :: (tU, bA (ju yG)) :: (pY, B2) :: (ve, bA (fS Dz)) :: (p6, bA (fS Bz)) :: (pL, bA (fS Ad)) :: (o5, zA) :: (qb, B4) :: (nQ, w8) :: (oK, Af) :: []
theorem jH : aW P GR := aD YS (aD X8 (aD I3 (aD Kr (aD EM (aD CY (aD Ho (aD GU (aD As (aD Jp bg)))))))))
theorem Yo {q : Rat} {n : Nat} : bq T GR [6] 60 rX (au rX) ⟨aK 0 [.rat q n], [], 0⟩ =
  some (aa.af [(0 : Nat) < 1] (aa.fork ((↑(nl (if q.den = 1 then 0 else q.den)) : Int) == (0 : Int)) (aa.leaf ah.ret [mag 1]) (aa.af [(0 : Nat) < 1] (aa.leaf ah.ret [mag (if q.den = 1 then 0 else q.den)])))) := by kernel_rfl
theorem Zj {q : Rat} {n : Nat} : bq T GR [9, 14, 18] 60 tG (au tG) ⟨aK 0 [.rat q n], [], 0⟩ =
  some (aa.fork (decide ((↑(nl q.num.natAbs) : Int) > (1 : Int))) (aa.af [(0 : Nat) < 1, decide ((↑(nl q.num.natAbs) : Int) > (1 : Int)) = true] (aa.fork true (aa.leaf ah.ret [int IntKind.u64 (0 : Int), int IntKind.u64 (0 : Int), AV.bool false]) (aa.af [(0 : Nat) < 1] (aa.fork ((↑(nl (if q.den = 1 then 0 else q.den)) : Int) == (1 : Int)) (aa.af [(0 : Nat) < 1, (0 : Int) ≤ (0 : Int) ∧ Int.toNat (0 : Int) < nl (if q.den = 1 then 0 else q.den)] (aa.af [(0 : Nat) < 1, nl q.num.natAbs ≤ 2] (aa.leaf ah.ret [int IntKind.u64 (↑q.num.natAbs : Int), int IntKind.u64 (IntKind.u64.wrap (↑(aq (if q.den = 1 then 0 else q.den) (Int.toNat (0 : Int))) : Int)), AV.bool (IntKind.u64.wrap (↑(aq (if q.den = 1 then 0 else q.den) (Int.toNat (0 : Int))) : Int) != (0 : Int))]))) (aa.af [(0 : Nat) < 1, nl q.num.natAbs ≤ 2] (aa.leaf ah.ret [int IntKind.u64 (↑q.num.natAbs : Int), int IntKind.u64 (1 : Int), AV.bool true])))))) (aa.af [(0 : Nat) < 1, decide ((↑(nl q.num.natAbs) : Int) > (1 : Int)) = false, (0 : Nat) < 1] (aa.fork (bif false then true else decide ((↑(nl (if q.den = 1 then 0 else q.den)) : Int) > (1 : Int))) (aa.leaf ah.ret [int IntKind.u64 (0 : Int), int IntKind.u64 (0 : Int), AV.bool false]) (aa.af [(0 : Nat) < 1] (aa.fork ((↑(nl (if q.den = 1 then 0 else q.den)) : Int) == (1 : Int)) (aa.af [(0 : Nat) < 1, (0 : Int) ≤ (0 : Int) ∧ Int.toNat (0 : Int) < nl (if q.den = 1 then 0 else q.den)] (aa.af [(0 : Nat) < 1, nl q.num.natAbs ≤ 2] (aa.leaf ah.ret [int IntKind.u64 (↑q.num.natAbs : Int), int IntKind.u64 (IntKind.u64.wrap (↑(aq (if q.den = 1 then 0 else q.den) (Int.toNat (0 : Int))) : Int)), AV.bool (IntKind.u64.wrap (↑(aq (if q.den = 1 then 0 else q.den) (Int.toNat (0 : Int))) : Int) != (0 : Int))]))) (aa.af [(0 : Nat) < 1, nl q.num.natAbs ≤ 2] (aa.leaf ah.ret [int IntKind.u64 (↑q.num.natAbs : Int), int IntKind.u64 (1 : Int), AV.bool true]))))))) := by kernel_rfl
theorem TP {q r : Rat} {n m : Nat} : bq T GR [10, 17] 60 tc (au tc) ⟨aK 0 [.rat q n, .rat r m], [], 0⟩ =
  some (aa.fork (decide (q < 0) == decide (r < 0)) (aa.fork (bif true then decide (q.num.natAbs = r.num.natAbs) else false) (aa.af [(0 : Nat) < 1, (0 : Nat) < 1, (decide (q < 0) == decide (r < 0)) = true, (0 : Nat) < 1, (0 : Nat) < 1, nl q.num.natAbs < 2 ^ 40, nl r.num.natAbs < 2 ^ 40, (bif true then decide (q.num.natAbs = r.num.natAbs) else false) = true, (0 : Nat) < 1, (0 : Nat) < 1, nl (if q.den = 1 then 0 else q.den) < 2 ^ 40, nl (if r.den = 1 then 0 else r.den) < 2 ^ 40] (aa.leaf ah.ret [AV.bool (bif true then decide ((if q.den = 1 then 0 else q.den) = if r.den = 1 then 0 else r.den) else false)])) (aa.af [(0 : Nat) < 1, (0 : Nat) < 1, (decide (q < 0) == decide (r < 0)) = true, (0 : Nat) < 1, (0 : Nat) < 1, nl q.num.natAbs < 2 ^ 40, nl r.num.natAbs < 2 ^ 40, (bif true then decide (q.num.natAbs = r.num.natAbs) else false) = false] (aa.leaf ah.ret [AV.bool false]))) (aa.fork false (aa.af [(0 : Nat) < 1, (0 : Nat) < 1, (decide (q < 0) == decide (r < 0)) = false, false = true, (0 : Nat) < 1, (0 : Nat) < 1, nl (if q.den = 1 then 0 else q.den) < 2 ^ 40, nl (if r.den = 1 then 0 else r.den) < 2 ^ 40] (aa.leaf ah.ret [AV.bool (bif true then decide ((if q.den = 1 then 0 else q.den) = if r.den = 1 then 0 else r.den) else false)])) (aa.af [(0 : Nat) < 1, (0 : Nat) < 1, (decide (q < 0) == decide (r < 0)) = false, false = false] (aa.leaf ah.ret [AV.bool false])))) := by kernel_rfl
theorem WA {q : Rat} {n : Nat} : bq T GR [3, 8] 60 qP (au qP) ⟨aK 0 [.rat q n], [], 0⟩ =
  some (aa.af [(0 : Nat) < 1, nl q.num.natAbs < 2 ^ 40] (aa.fork ((↑(aQ q.num.natAbs) : Int) == (0 : Int)) (aa.leaf ah.ret [int IntKind.i64 (0 : Int)]) (aa.af [(0 : Nat) < 1] (aa.fork (decide (q < 0)) (aa.leaf ah.ret [int IntKind.i64 (-1 : Int)]) (aa.leaf ah.ret [int IntKind.i64 (1 : Int)]))))) := by kernel_rfl
theorem J9 {q : Rat} {n : Nat} : bq T GR [] 60 rB (au rB) ⟨aK 0 [.rat q n], [], 0⟩ =
  some (aa.af [(0 : Nat) < 1, (0 : Nat) < 1, nl q.num.natAbs < 2 ^ 40, (0 : Nat) < 1, nl (if q.den = 1 then 0 else q.den) < 2 ^ 40, (0 : Nat) < 1] (aa.af [(0 : Nat) < 1] (aa.leaf ah.ret [agg [AV.bool (decide (q < 0)), mag q.num.natAbs, mag (if q.den = 1 then 0 else q.den)]]))) := by kernel_rfl
theorem To {n : Int} : bq T GR [4] 60 tD (au tD) ⟨aK 0 [.int .i64 n], [], 0⟩ =
  some (aa.fork (n == (-9223372036854775808 : Int)) (aa.af [(0 : Int) ≤ (9223372036854775808 : Int) ∧ (9223372036854775808 : Int) < (2 : Int) ^ 64] (aa.leaf ah.ret [mag 9223372036854775808])) (aa.af [(0 : Int) ≤ IntKind.u64.wrap (if n < IntKind.i64.wrap ((0 : Int) - n) then IntKind.i64.wrap ((0 : Int) - n) else n) ∧ IntKind.u64.wrap (if n < IntKind.i64.wrap ((0 : Int) - n) then IntKind.i64.wrap ((0 : Int) - n) else n) < (2 : Int) ^ 64] (aa.leaf ah.ret [mag (IntKind.u64.wrap (if n < IntKind.i64.wrap ((0 : Int) - n) then IntKind.i64.wrap ((0 : Int) - n) else n)).toNat]))) := by kernel_rfl
abbrev gV : List Nat := [0, 1, 2, 6]
abbrev lF (b : Bool) (N D : Nat) : List AV := [.bool b, .mag N, .mag D, .ptr 0 0 3 0 []]
abbrev mX : aC := [(0, ⟨false, true, 3, 1, fun _ => .rat 0 1⟩)]
theorem NY {b : Bool} {N D : Nat} : aI T GR [11, 15] 60 gV ((before (au cS) [1,1,1,1]).take 2) ⟨aK 0 [.bool b, .mag N, .mag D], [], 0⟩ =
  some (aa.fork ((↑(aQ N) : Int) == (0 : Int)) (aa.af [nl N < 2 ^ 40, ((↑(aQ N) : Int) == (0 : Int)) = true] (aa.fork true (aa.af [(0 : Nat) < 1] (aa.leaf ah.ret ([AV.bool b, mag N, mag D, ptr 0 0 3 0 []], [((0 : Nat), ⟨false, true, 3, 1, fun (j : Nat) ↦ if (j == 0) = true then bw (agg (rat 0 1).kids) else rat 0 1⟩)]))) (aa.leaf ah.normal ([AV.bool b, mag N, mag D, ptr 0 0 3 0 []], [((0 : Nat), ⟨false, true, 3, 1, fun (x : Nat) ↦ rat 0 1⟩)])))) (aa.af [nl N < 2 ^ 40, ((↑(aQ N) : Int) == (0 : Int)) = false, nl D < 2 ^ 40] (aa.fork (bif false then true else (↑(aQ D) : Int) == (0 : Int)) (aa.af [(0 : Nat) < 1] (aa.leaf ah.ret ([AV.bool b, mag N, mag D, ptr 0 0 3 0 []], [((0 : Nat), ⟨false, true, 3, 1, fun (j : Nat) ↦ if (j == 0) = true then bw (agg (rat 0 1).kids) else rat 0 1⟩)]))) (aa.leaf ah.normal ([AV.bool b, mag N, mag D, ptr 0 0 3 0 []], [((0 : Nat), ⟨false, true, 3, 1, fun (x : Nat) ↦ rat 0 1⟩)]))))) := by kernel_rfl
theorem CH {b : Bool} {N D : Nat} : jc T cS .ret ⟨aB gV (lF b N D), [(0, ⟨false, true, 3, 1, fun j => if j = 0 then bw (.agg (AV.kids (.rat 0 1))) else .rat 0 1⟩)], 1⟩ =
  some (aa.af [(0 : Nat) < 1] (aa.leaf ah.ret [agg [AV.bool false, mag 0, mag 0]])) := by kernel_rfl
theorem OL {b : Bool} {N D : Nat} {q : Rat} {k : Nat} : jc T cS .ret ⟨aB gV (lF b N D), [(0, ⟨false, true, 3, 1, fun j => if j = 0 then bw (.rat q k) else .rat 0 1⟩)], 1⟩ =
  some (aa.af [(0 : Nat) < 1] (aa.leaf ah.ret [rat q k])) := by kernel_rfl
theorem PR {b : Bool} {N D : Nat} : aI T GR [20, 24] 60 gV (((before (au cS) [1,1,1,1]).drop 2).take 1) ⟨aB gV (lF b N D), mX, 1⟩ =
  some (aa.fork (decide ((↑(nl N) : Int) ≤ (2 : Int))) (aa.af [decide ((↑(nl N) : Int) ≤ (2 : Int)) = true] (aa.fork (bif true then decide ((↑(nl D) : Int) ≤ (2 : Int)) else false) (aa.af [nl N ≤ 2, nl D ≤ 2, (0 : Int) ≤ (↑N : Int) ∧ (↑N : Int) < (2 : Int) ^ 64, (0 : Int) < (↑D : Int) ∧ (↑D : Int) < (2 : Int) ^ 64, (0 : Nat) < 1] (aa.leaf ah.ret ([AV.bool b, mag N, mag D, ptr 0 0 3 0 []], [((0 : Nat), ⟨false, true, 3, 1, fun (j : Nat) ↦ if (j == 0) = true then bw (rat (sQ b (↑N : Int).toNat (↑D : Int).toNat) (bX (sQ b (↑N : Int).toNat (↑D : Int).toNat))) else rat 0 1⟩)]))) (aa.leaf ah.normal ([AV.bool b, mag N, mag D, ptr 0 0 3 0 []], [((0 : Nat), ⟨false, true, 3, 1, fun (x : Nat) ↦ rat 0 1⟩)])))) (aa.af [decide ((↑(nl N) : Int) ≤ (2 : Int)) = false] (aa.fork false (aa.af [nl N ≤ 2, nl D ≤ 2, (0 : Int) ≤ (↑N : Int) ∧ (↑N : Int) < (2 : Int) ^ 64, (0 : Int) < (↑D : Int) ∧ (↑D : Int) < (2 : Int) ^ 64, (0 : Nat) < 1] (aa.leaf ah.ret ([AV.bool b, mag N, mag D, ptr 0 0 3 0 []], [((0 : Nat), ⟨false, true, 3, 1, fun (j : Nat) ↦ if (j == 0) = true then bw (rat (sQ b (↑N : Int).toNat (↑D : Int).toNat) (bX (sQ b (↑N : Int).toNat (↑D : Int).toNat))) else rat 0 1⟩)]))) (aa.leaf ah.normal ([AV.bool b, mag N, mag D, ptr 0 0 3 0 []], [((0 : Nat), ⟨false, true, 3, 1, fun (x : Nat) ↦ rat 0 1⟩)]))))) := by kernel_rfl
theorem Te {b : Bool} {N D : Nat} : aI T GR [36] 60 gV ((before (au cS) [1,1,1,1]).drop (2 + 1)) ⟨aB gV (lF b N D), mX, 1⟩ =
  some (aa.af [nl N < 2 ^ 40, nl D < 2 ^ 40] (aa.af [nl (N.gcd D) < 2 ^ 40] (aa.fork (decide ((↑(aQ (N.gcd D)) : Int) > (1 : Int))) (aa.af [nl N < 2 ^ 40, nl (N.gcd D) < 2 ^ 40] (aa.af [nl D < 2 ^ 40, nl (N.gcd D) < 2 ^ 40] (aa.leaf ah.normal ([AV.bool b, mag (N / N.gcd D), mag (D / N.gcd D), ptr 0 0 3 0 []], [((0 : Nat), ⟨false, true, 3, 1, fun (x : Nat) ↦ rat 0 1⟩)])))) (aa.leaf ah.normal ([AV.bool b, mag N, mag D, ptr 0 0 3 0 []], [((0 : Nat), ⟨false, true, 3, 1, fun (x : Nat) ↦ rat 0 1⟩)]))))) := by kernel_rfl
theorem QL {b : Bool} {N D : Nat} : ct T GR [58, 63] 60 cS [part (au cS) [1,1,1,1]] ⟨aB gV (lF b N D), mX, 1⟩ =
  some (aa.af [nl N < 2 ^ 40, (0 : Nat) < 2 ^ 40, nl D < 2 ^ 40, (0 : Nat) < 2 ^ 40] (aa.fork ((↑(nl (D + 0)) : Int) == (1 : Int)) (aa.af [((↑(nl (D + 0)) : Int) == (1 : Int)) = true, (0 : Int) ≤ (0 : Int) ∧ Int.toNat (0 : Int) < nl (D + 0)] (aa.fork (bif true then (↑(aq (D + 0) (Int.toNat (0 : Int))) : Int) == (1 : Int) else false) (aa.af [(0 : Nat) < 1] (aa.af [(0 : Nat) < 1] (aa.leaf ah.ret [agg [AV.bool b, mag (N + 0), nil]]))) (aa.af [(0 : Nat) < 1] (aa.af [(0 : Nat) < 1] (aa.leaf ah.ret [agg [AV.bool b, mag (N + 0), mag (D + 0)]]))))) (aa.af [((↑(nl (D + 0)) : Int) == (1 : Int)) = false] (aa.fork false (aa.af [(0 : Nat) < 1] (aa.af [(0 : Nat) < 1] (aa.leaf ah.ret [agg [AV.bool b, mag (N + 0), nil]]))) (aa.af [(0 : Nat) < 1] (aa.af [(0 : Nat) < 1] (aa.leaf ah.ret [agg [AV.bool b, mag (N + 0), mag (D + 0)]]))))))) := by kernel_rfl
theorem gr {a b v : Bool} (h : (bif true then a else b) = v) : a = v := h
theorem AH {N : Nat} : aQ N = 0 ↔ N = 0 := by unfold aQ; split <;> simp_all
theorem XJ {N : Nat} : aQ N ≤ 1 ↔ N ≤ 1 := by rw [gY]; omega
theorem gI {N : Nat} : nl N = 0 ↔ N = 0 := by
 constructor
 ·intro h
  rcases Nat.eq_zero_or_pos N with h1 | h1
  ·exact h1
  ·have := eL.2 (show N ≠ 0 by omega); omega
 ·intro h; subst h; rfl
theorem VL {b : Bool} {n : Nat} : sQ b n 0 = 0 := by unfold sQ; simp
theorem Cq {b : Bool} {x : Nat} : bu (.agg [.bool b, .mag x, .nil]) (.agg [.bool b, .mag x, .mag 0]) := cq ⟨.refl _, .refl _, iu, trivial⟩
theorem Zs {b : Bool} {N D : Nat} (hN : nl N < 2 ^ 40) (hD : nl D < 2 ^ 40) (K : Nat) (pre : aC) : ay P pe K [.bool b, .mag N, .mag D] pre (aF (.rat (sQ b N D) (bX (sQ b N D))) []) := by
 refine fX hT Z8 rfl (of_decide_eq_true (by kernel_rfl)) rfl (fun _ c h0 => ?_) K pre
 have hO : ∀ {v : AV}, keys v = [] → fz 1 [(0, (⟨false, true, 3, 1, fun j => if j = 0 then v else .rat 0 1⟩ : aA))] := fun h => ⟨⟨by omega, fun i _ => by show keys (if i = 0 then _ else _) = []; split; exact h; rfl⟩, trivial⟩
 have hO' : fz 1 mX := ⟨⟨by omega, fun _ _ => rfl⟩, trivial⟩
 have hz : sQ b N D = 0 → bu (.agg [.bool false, .mag 0, .mag 0]) (.rat (sQ b N D) (bX (sQ b N D))) := fun h => by
  rw [h]; exact ji
 refine ak.hole [1,1,1,1] (by kernel_rfl) (az.chunk 2 (az.bk hT jH hm 60 gV NY (by kernel_rfl) ?_))
 simp only [aa.all, ax, beq_iff_eq, beq_eq_false_iff_ne, ne_eq]
 -- behind the first questions
 have rest : ∀ {s' : aE}, N ≠ 0 → D ≠ 0 → aT gV s' = some (lF b N D, mX) →
   az P c cS.ntmps ((before (au cS) [1,1,1,1]).drop 2) s' (dc (fun s' => ak P c cS.ntmps (part (au cS) [1,1,1,1]) s' (dc (fun s' => az P c cS.ntmps (behind (au cS) [1,1,1,1]) s' (dI c (Fin T cS (.rat (sQ b N D) (bX (sQ b N D)))))) (dI c (Fin T cS (.rat (sQ b N D) (bX (sQ b N D)))))))
    (dI c (Fin T cS (.rat (sQ b N D) (bX (sQ b N D)))))) := by
  intro s' hN0 hD0 hv
  have last : ∀ {s' : aE} {X Y : Nat}, nl X < 2 ^ 40 → nl Y < 2 ^ 40 → X = N / Nat.gcd N D → Y = D / Nat.gcd N D → aT gV s' = some (lF b X Y, mX) →
    ak P c cS.ntmps (part (au cS) [1,1,1,1]) s' (dc (fun s' => az P c cS.ntmps (behind (au cS) [1,1,1,1]) s' (dI c (Fin T cS (.rat (sQ b N D) (bX (sQ b N D)))))) (dI c (Fin T cS (.rat (sQ b N D) (bX (sQ b N D)))))) := by
   intro s' X Y hX hY eX eY hv
   refine ak.mono (Q := dc (fun s' => az P c cS.ntmps [] s' (dI c (Fin T cS (.rat (sQ b N D) (bX (sQ b N D)))))) (dI c (Fin T cS (.rat (sQ b N D) (bX (sQ b N D)))))) ?_ fun e s' h => by cases e <;> exact h
   refine az.gZ (l := [part (au cS) [1,1,1,1]]) hT jH hm 60 hv (h0 _) rfl hO' QL (by kernel_rfl) rfl ?_
   simp only [aa.all, ax, beq_iff_eq, beq_eq_false_iff_ne, ne_eq, Nat.add_zero, Int.toNat_zero]
   have hY0 : Y ≠ 0 := by rw [eY]; exact Nat.pos_iff_ne_zero.1 (Nat.div_pos (Nat.le_of_dvd (by omega) (Nat.gcd_dvd_right _ _)) (Nat.gcd_pos_of_pos_left _ (by omega)))
   have h1 : Y ≠ 1 → bu (.agg [.bool b, .mag X, .mag Y]) (.rat (sQ b N D) (bX (sQ b N D))) := fun h => o8 hN0 hD0 eX (by rw [← eY, if_neg h]) tw
   have h2 : Y = 1 → bu (.agg [.bool b, .mag X, .nil]) (.rat (sQ b N D) (bX (sQ b N D))) := fun h => Cq.trans (o8 hN0 hD0 eX (by rw [← eY, if_pos h]) tw)
   have hl : nl Y = 1 → aq Y 0 = Y := fun h => by
    have := eI (N := Y)
    rw [h, val, val] at this
    simpa using this
   refine ⟨⟨hX, by omega, hY, by omega⟩, fun hb => ⟨⟨hb, by omega, by omega⟩, fun hc => ⟨by omega, by omega, h2 ?_⟩, fun hc => ⟨by omega, by omega, h1 ?_⟩⟩, fun hb => ⟨hb, fun h => by simp at h, fun _ => ⟨by omega, by omega, h1 ?_⟩⟩⟩
   ·have := gr hc
    rw [hl (by omega)] at this
    have := eq_of_beq this
    omega
   ·have := gr hc
    rw [hl (by omega)] at this
    intro h
    rw [h] at this
    simp at this
   ·intro h
    rw [h] at hb
    exact hb (by decide)
  refine az.chunk 1 (az.dO hT jH hm 60 hv (h0 _) rfl hO' gV PR (by kernel_rfl) rfl ?_)
  simp only [aa.all, ax, decide_eq_true_eq, decide_eq_false_iff_not, Int.toNat_natCast, beq_iff_eq]
  have long : ∀ {s' : aE}, aT gV s' = some (lF b N D, mX) → az P c cS.ntmps (((before (au cS) [1,1,1,1]).drop 2).drop 1) s' (dc (fun s' => ak P c cS.ntmps (part (au cS) [1,1,1,1]) s' (dc (fun s' => az P c cS.ntmps (behind (au cS) [1,1,1,1]) s' (dI c (Fin T cS (.rat (sQ b N D) (bX (sQ b N D)))))) (dI c (Fin T cS (.rat (sQ b N D) (bX (sQ b N D)))))))
    (dI c (Fin T cS (.rat (sQ b N D) (bX (sQ b N D)))))) := by
   intro s' hv
   rw [List.drop_drop]
   refine az.dO hT jH hm 60 hv (h0 _) rfl hO' gV Te (by kernel_rfl) rfl ?_
   simp only [aa.all, ax, decide_eq_true_eq, decide_eq_false_iff_not]
   have hg : nl (Nat.gcd N D) < 2 ^ 40 := Nat.lt_of_le_of_lt (fA (Nat.gcd_le_left _ (by omega))) hN
   have hg0 : 0 < Nat.gcd N D := Nat.gcd_pos_of_pos_left _ (by omega)
   refine ⟨⟨hN, hD⟩, hg, fun hb => ⟨⟨hN, hg⟩, ⟨hD, hg⟩, fun s' hv => last (Nat.lt_of_le_of_lt (fA (Nat.div_le_self _ _)) hN) (Nat.lt_of_le_of_lt (fA (Nat.div_le_self _ _)) hD) rfl rfl hv⟩, fun hb s' hv => ?_⟩
   have hg1 : Nat.gcd N D = 1 := by
    have : aQ (Nat.gcd N D) ≤ 1 := by omega
    have := XJ.1 this
    omega
   exact last hN hD (by rw [hg1, Nat.div_one]) (by rw [hg1, Nat.div_one]) hv
  refine ⟨fun hb => ⟨hb, fun hc => ⟨?_, fun s' hv => ?_⟩, fun hc s' hv => bM (long hv)⟩, fun hb => ⟨hb, fun h => by simp at h, fun _ s' hv => bM (long hv)⟩⟩
  ·have h2 : nl D ≤ 2 := by have := of_decide_eq_true (gr hc); omega
   have := lU (show nl N ≤ 2 by omega)
   have := lU h2
   exact ⟨by omega, h2, by omega, by omega, by omega⟩
  ·refine dZ (dZ (uj OL hv (h0 _) rfl (hO rfl) ⟨by simp [ax], ?_⟩))
   exact .refl _
 refine ⟨fun hb => ⟨⟨hN, hb⟩, fun _ => ⟨by omega, fun s' hv => dZ (dZ (uj CH hv (h0 _) rfl (hO rfl) ⟨by simp [ax], hz ?_⟩))⟩, fun h => by simp at h⟩, fun hb => ⟨⟨hN, hb, hD⟩, fun hc => ⟨by omega, fun s' hv => dZ (dZ (uj CH hv (h0 _) rfl (hO rfl) ⟨by simp [ax], hz ?_⟩))⟩, fun hc s' hv => bM (rest ?_ ?_ hv)⟩⟩
 ·rw [AH.1 (show aQ N = 0 by omega), AF]
 ·have := eq_of_beq (fH hc)
  rw [AH.1 (show aQ D = 0 by omega), VL]
 ·intro h; rw [h] at hb; exact hb (by decide)
 ·intro h
  have := fH hc
  rw [h] at this
  simp [aQ] at this
end Go.Am.B
