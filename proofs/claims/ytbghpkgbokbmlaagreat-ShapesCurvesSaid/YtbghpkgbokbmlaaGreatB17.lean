/- rational.den, parts, reduce, Same, Sign, copied, size. -/
import Derived.Test.YtbghpkgbokbmlaaGreatB16
set_option linter.unusedVariables false
namespace Go.Am.B
open Go Go.Am.N AV
theorem Kl : aO P qm oN (au oN) := aL QN (by kernel_rfl) (by kernel_rfl) (by kernel_rfl)
theorem Uw : aO P oT qH (au qH) := aL Gb (by kernel_rfl) (by kernel_rfl) (by kernel_rfl)
theorem Qm : aO P nF cy (au cy) := aL TD (by kernel_rfl) (by kernel_rfl) (by kernel_rfl)
theorem KY : aO P tE qa (au qa) := aL NH (by kernel_rfl) (by kernel_rfl) (by kernel_rfl)
theorem IJ : aO P nA pB (au pB) := aL Qd (by kernel_rfl) (by kernel_rfl) (by kernel_rfl)
theorem TM : aO P pN sI (au sI) := aL Tt (by kernel_rfl) (by kernel_rfl) (by kernel_rfl)
theorem JY : aO P pg pQ (au pQ) := aL JU (by kernel_rfl) (by kernel_rfl) (by kernel_rfl)
def GR : aP := (q7, bk (iw E1)) :: (r5, bk (iw uF)) :: (n9, yY) :: (rR, bk (fe Ca)) :: (nu, bk (fe xp)) :: (nT, bk (fe wR)) :: (oF, xC) :: (od, yp) :: (lN, sO) :: (mO, yy) :: []
theorem iG : aX P GR := aE Rg (aE QZ (aE FH (aE Nt (aE Ag (aE By (aE EX (aE Ei (aE yN (aE BY aZ)))))))))
theorem JQ {q : Rat} {n : Nat} : bw T GR [6] 60 oN (au oN) ⟨aM 0 [.rat q n], [], 0⟩ =
  some (aa.af [(0 : Nat) < 1] (aa.fork ((↑(nl (if q.den = 1 then 0 else q.den)) : Int) == (0 : Int)) (aa.leaf ah.ret [mag 1]) (aa.af [(0 : Nat) < 1] (aa.leaf ah.ret [mag (if q.den = 1 then 0 else q.den)])))) := by kernel_rfl
theorem KM {q : Rat} {n : Nat} : bw T GR [9, 14, 18] 60 qH (au qH) ⟨aM 0 [.rat q n], [], 0⟩ =
  some (aa.fork (decide ((↑(nl q.num.natAbs) : Int) > (1 : Int))) (aa.af [(0 : Nat) < 1, decide ((↑(nl q.num.natAbs) : Int) > (1 : Int)) = true] (aa.fork true (aa.leaf ah.ret [int IntKind.u64 (0 : Int), int IntKind.u64 (0 : Int), AV.bool false]) (aa.af [(0 : Nat) < 1] (aa.fork ((↑(nl (if q.den = 1 then 0 else q.den)) : Int) == (1 : Int)) (aa.af [(0 : Nat) < 1, (0 : Int) ≤ (0 : Int) ∧ Int.toNat (0 : Int) < nl (if q.den = 1 then 0 else q.den)] (aa.af [(0 : Nat) < 1, nl q.num.natAbs ≤ 2] (aa.leaf ah.ret [int IntKind.u64 (↑q.num.natAbs : Int), int IntKind.u64 (IntKind.u64.wrap (↑(aj (if q.den = 1 then 0 else q.den) (Int.toNat (0 : Int))) : Int)), AV.bool (IntKind.u64.wrap (↑(aj (if q.den = 1 then 0 else q.den) (Int.toNat (0 : Int))) : Int) != (0 : Int))]))) (aa.af [(0 : Nat) < 1, nl q.num.natAbs ≤ 2] (aa.leaf ah.ret [int IntKind.u64 (↑q.num.natAbs : Int), int IntKind.u64 (1 : Int), AV.bool true])))))) (aa.af [(0 : Nat) < 1, decide ((↑(nl q.num.natAbs) : Int) > (1 : Int)) = false, (0 : Nat) < 1] (aa.fork (bif false then true else decide ((↑(nl (if q.den = 1 then 0 else q.den)) : Int) > (1 : Int))) (aa.leaf ah.ret [int IntKind.u64 (0 : Int), int IntKind.u64 (0 : Int), AV.bool false]) (aa.af [(0 : Nat) < 1] (aa.fork ((↑(nl (if q.den = 1 then 0 else q.den)) : Int) == (1 : Int)) (aa.af [(0 : Nat) < 1, (0 : Int) ≤ (0 : Int) ∧ Int.toNat (0 : Int) < nl (if q.den = 1 then 0 else q.den)] (aa.af [(0 : Nat) < 1, nl q.num.natAbs ≤ 2] (aa.leaf ah.ret [int IntKind.u64 (↑q.num.natAbs : Int), int IntKind.u64 (IntKind.u64.wrap (↑(aj (if q.den = 1 then 0 else q.den) (Int.toNat (0 : Int))) : Int)), AV.bool (IntKind.u64.wrap (↑(aj (if q.den = 1 then 0 else q.den) (Int.toNat (0 : Int))) : Int) != (0 : Int))]))) (aa.af [(0 : Nat) < 1, nl q.num.natAbs ≤ 2] (aa.leaf ah.ret [int IntKind.u64 (↑q.num.natAbs : Int), int IntKind.u64 (1 : Int), AV.bool true]))))))) := by kernel_rfl
theorem Lt {q r : Rat} {n m : Nat} : bw T GR [10, 17] 60 qa (au qa) ⟨aM 0 [.rat q n, .rat r m], [], 0⟩ =
  some (aa.fork (decide (q < 0) == decide (r < 0)) (aa.fork (bif true then decide (q.num.natAbs = r.num.natAbs) else false) (aa.af [(0 : Nat) < 1, (0 : Nat) < 1, (decide (q < 0) == decide (r < 0)) = true, (0 : Nat) < 1, (0 : Nat) < 1, nl q.num.natAbs < 2 ^ 40, nl r.num.natAbs < 2 ^ 40, (bif true then decide (q.num.natAbs = r.num.natAbs) else false) = true, (0 : Nat) < 1, (0 : Nat) < 1, nl (if q.den = 1 then 0 else q.den) < 2 ^ 40, nl (if r.den = 1 then 0 else r.den) < 2 ^ 40] (aa.leaf ah.ret [AV.bool (bif true then decide ((if q.den = 1 then 0 else q.den) = if r.den = 1 then 0 else r.den) else false)])) (aa.af [(0 : Nat) < 1, (0 : Nat) < 1, (decide (q < 0) == decide (r < 0)) = true, (0 : Nat) < 1, (0 : Nat) < 1, nl q.num.natAbs < 2 ^ 40, nl r.num.natAbs < 2 ^ 40, (bif true then decide (q.num.natAbs = r.num.natAbs) else false) = false] (aa.leaf ah.ret [AV.bool false]))) (aa.fork false (aa.af [(0 : Nat) < 1, (0 : Nat) < 1, (decide (q < 0) == decide (r < 0)) = false, false = true, (0 : Nat) < 1, (0 : Nat) < 1, nl (if q.den = 1 then 0 else q.den) < 2 ^ 40, nl (if r.den = 1 then 0 else r.den) < 2 ^ 40] (aa.leaf ah.ret [AV.bool (bif true then decide ((if q.den = 1 then 0 else q.den) = if r.den = 1 then 0 else r.den) else false)])) (aa.af [(0 : Nat) < 1, (0 : Nat) < 1, (decide (q < 0) == decide (r < 0)) = false, false = false] (aa.leaf ah.ret [AV.bool false])))) := by kernel_rfl
theorem U8 {q : Rat} {n : Nat} : bw T GR [3, 8] 60 pB (au pB) ⟨aM 0 [.rat q n], [], 0⟩ =
  some (aa.af [(0 : Nat) < 1, nl q.num.natAbs < 2 ^ 40] (aa.fork ((↑(aN q.num.natAbs) : Int) == (0 : Int)) (aa.leaf ah.ret [int IntKind.i64 (0 : Int)]) (aa.af [(0 : Nat) < 1] (aa.fork (decide (q < 0)) (aa.leaf ah.ret [int IntKind.i64 (-1 : Int)]) (aa.leaf ah.ret [int IntKind.i64 (1 : Int)]))))) := by kernel_rfl
theorem Jl {q : Rat} {n : Nat} : bw T GR [] 60 sI (au sI) ⟨aM 0 [.rat q n], [], 0⟩ =
  some (aa.af [(0 : Nat) < 1, (0 : Nat) < 1, nl q.num.natAbs < 2 ^ 40, (0 : Nat) < 1, nl (if q.den = 1 then 0 else q.den) < 2 ^ 40, (0 : Nat) < 1] (aa.af [(0 : Nat) < 1] (aa.leaf ah.ret [agg [AV.bool (decide (q < 0)), mag q.num.natAbs, mag (if q.den = 1 then 0 else q.den)]]))) := by kernel_rfl
theorem Lj {n : Int} : bw T GR [4] 60 pQ (au pQ) ⟨aM 0 [.int .i64 n], [], 0⟩ =
  some (aa.fork (n == (-9223372036854775808 : Int)) (aa.af [(0 : Int) ≤ (9223372036854775808 : Int) ∧ (9223372036854775808 : Int) < (2 : Int) ^ 64] (aa.leaf ah.ret [mag 9223372036854775808])) (aa.af [(0 : Int) ≤ IntKind.u64.wrap (if n < IntKind.i64.wrap ((0 : Int) - n) then IntKind.i64.wrap ((0 : Int) - n) else n) ∧ IntKind.u64.wrap (if n < IntKind.i64.wrap ((0 : Int) - n) then IntKind.i64.wrap ((0 : Int) - n) else n) < (2 : Int) ^ 64] (aa.leaf ah.ret [mag (IntKind.u64.wrap (if n < IntKind.i64.wrap ((0 : Int) - n) then IntKind.i64.wrap ((0 : Int) - n) else n)).toNat]))) := by kernel_rfl
abbrev gj : List Nat := [0, 1, 2, 6]
abbrev jS (b : Bool) (N D : Nat) : List AV := [.bool b, .mag N, .mag D, .ptr 0 0 3 0 []]
abbrev lp : aC := [(0, ⟨false, true, 3, 1, fun _ => .rat 0 1⟩)]
theorem Jz {b : Bool} {N D : Nat} : aI T GR [11, 15] 60 gj ((before (au cy) [1,1,1,1]).take 2) ⟨aM 0 [.bool b, .mag N, .mag D], [], 0⟩ =
  some (aa.fork ((↑(aN N) : Int) == (0 : Int)) (aa.af [nl N < 2 ^ 40, ((↑(aN N) : Int) == (0 : Int)) = true] (aa.fork true (aa.af [(0 : Nat) < 1] (aa.leaf ah.ret ([AV.bool b, mag N, mag D, ptr 0 0 3 0 []], [((0 : Nat), ⟨false, true, 3, 1, fun (j : Nat) ↦ if (j == 0) = true then bN (agg (rat 0 1).kids) else rat 0 1⟩)]))) (aa.leaf ah.normal ([AV.bool b, mag N, mag D, ptr 0 0 3 0 []], [((0 : Nat), ⟨false, true, 3, 1, fun (x : Nat) ↦ rat 0 1⟩)])))) (aa.af [nl N < 2 ^ 40, ((↑(aN N) : Int) == (0 : Int)) = false, nl D < 2 ^ 40] (aa.fork (bif false then true else (↑(aN D) : Int) == (0 : Int)) (aa.af [(0 : Nat) < 1] (aa.leaf ah.ret ([AV.bool b, mag N, mag D, ptr 0 0 3 0 []], [((0 : Nat), ⟨false, true, 3, 1, fun (j : Nat) ↦ if (j == 0) = true then bN (agg (rat 0 1).kids) else rat 0 1⟩)]))) (aa.leaf ah.normal ([AV.bool b, mag N, mag D, ptr 0 0 3 0 []], [((0 : Nat), ⟨false, true, 3, 1, fun (x : Nat) ↦ rat 0 1⟩)]))))) := by kernel_rfl
theorem DY {b : Bool} {N D : Nat} : gI T cy .ret ⟨aB gj (jS b N D), [(0, ⟨false, true, 3, 1, fun j => if j = 0 then bN (.agg (AV.kids (.rat 0 1))) else .rat 0 1⟩)], 1⟩ =
  some (aa.af [(0 : Nat) < 1] (aa.leaf ah.ret [agg [AV.bool false, mag 0, mag 0]])) := by kernel_rfl
theorem SM {b : Bool} {N D : Nat} {q : Rat} {k : Nat} : gI T cy .ret ⟨aB gj (jS b N D), [(0, ⟨false, true, 3, 1, fun j => if j = 0 then bN (.rat q k) else .rat 0 1⟩)], 1⟩ =
  some (aa.af [(0 : Nat) < 1] (aa.leaf ah.ret [rat q k])) := by kernel_rfl
theorem UW {b : Bool} {N D : Nat} : aI T GR [20, 24] 60 gj (((before (au cy) [1,1,1,1]).drop 2).take 1) ⟨aB gj (jS b N D), lp, 1⟩ =
  some (aa.fork (decide ((↑(nl N) : Int) ≤ (2 : Int))) (aa.af [decide ((↑(nl N) : Int) ≤ (2 : Int)) = true] (aa.fork (bif true then decide ((↑(nl D) : Int) ≤ (2 : Int)) else false) (aa.af [nl N ≤ 2, nl D ≤ 2, (0 : Int) ≤ (↑N : Int) ∧ (↑N : Int) < (2 : Int) ^ 64, (0 : Int) < (↑D : Int) ∧ (↑D : Int) < (2 : Int) ^ 64, (0 : Nat) < 1] (aa.leaf ah.ret ([AV.bool b, mag N, mag D, ptr 0 0 3 0 []], [((0 : Nat), ⟨false, true, 3, 1, fun (j : Nat) ↦ if (j == 0) = true then bN (rat (sQ b (↑N : Int).toNat (↑D : Int).toNat) (bH (sQ b (↑N : Int).toNat (↑D : Int).toNat))) else rat 0 1⟩)]))) (aa.leaf ah.normal ([AV.bool b, mag N, mag D, ptr 0 0 3 0 []], [((0 : Nat), ⟨false, true, 3, 1, fun (x : Nat) ↦ rat 0 1⟩)])))) (aa.af [decide ((↑(nl N) : Int) ≤ (2 : Int)) = false] (aa.fork false (aa.af [nl N ≤ 2, nl D ≤ 2, (0 : Int) ≤ (↑N : Int) ∧ (↑N : Int) < (2 : Int) ^ 64, (0 : Int) < (↑D : Int) ∧ (↑D : Int) < (2 : Int) ^ 64, (0 : Nat) < 1] (aa.leaf ah.ret ([AV.bool b, mag N, mag D, ptr 0 0 3 0 []], [((0 : Nat), ⟨false, true, 3, 1, fun (j : Nat) ↦ if (j == 0) = true then bN (rat (sQ b (↑N : Int).toNat (↑D : Int).toNat) (bH (sQ b (↑N : Int).toNat (↑D : Int).toNat))) else rat 0 1⟩)]))) (aa.leaf ah.normal ([AV.bool b, mag N, mag D, ptr 0 0 3 0 []], [((0 : Nat), ⟨false, true, 3, 1, fun (x : Nat) ↦ rat 0 1⟩)]))))) := by kernel_rfl
theorem Gq {b : Bool} {N D : Nat} : aI T GR [36] 60 gj ((before (au cy) [1,1,1,1]).drop (2 + 1)) ⟨aB gj (jS b N D), lp, 1⟩ =
  some (aa.af [nl N < 2 ^ 40, nl D < 2 ^ 40] (aa.af [nl (N.gcd D) < 2 ^ 40] (aa.fork (decide ((↑(aN (N.gcd D)) : Int) > (1 : Int))) (aa.af [nl N < 2 ^ 40, nl (N.gcd D) < 2 ^ 40] (aa.af [nl D < 2 ^ 40, nl (N.gcd D) < 2 ^ 40] (aa.leaf ah.normal ([AV.bool b, mag (N / N.gcd D), mag (D / N.gcd D), ptr 0 0 3 0 []], [((0 : Nat), ⟨false, true, 3, 1, fun (x : Nat) ↦ rat 0 1⟩)])))) (aa.leaf ah.normal ([AV.bool b, mag N, mag D, ptr 0 0 3 0 []], [((0 : Nat), ⟨false, true, 3, 1, fun (x : Nat) ↦ rat 0 1⟩)]))))) := by kernel_rfl
theorem RO {b : Bool} {N D : Nat} : cr T GR [58, 63] 60 cy [part (au cy) [1,1,1,1]] ⟨aB gj (jS b N D), lp, 1⟩ =
  some (aa.af [nl N < 2 ^ 40, (0 : Nat) < 2 ^ 40, nl D < 2 ^ 40, (0 : Nat) < 2 ^ 40] (aa.fork ((↑(nl (D + 0)) : Int) == (1 : Int)) (aa.af [((↑(nl (D + 0)) : Int) == (1 : Int)) = true, (0 : Int) ≤ (0 : Int) ∧ Int.toNat (0 : Int) < nl (D + 0)] (aa.fork (bif true then (↑(aj (D + 0) (Int.toNat (0 : Int))) : Int) == (1 : Int) else false) (aa.af [(0 : Nat) < 1] (aa.af [(0 : Nat) < 1] (aa.leaf ah.ret [agg [AV.bool b, mag (N + 0), nil]]))) (aa.af [(0 : Nat) < 1] (aa.af [(0 : Nat) < 1] (aa.leaf ah.ret [agg [AV.bool b, mag (N + 0), mag (D + 0)]]))))) (aa.af [((↑(nl (D + 0)) : Int) == (1 : Int)) = false] (aa.fork false (aa.af [(0 : Nat) < 1] (aa.af [(0 : Nat) < 1] (aa.leaf ah.ret [agg [AV.bool b, mag (N + 0), nil]]))) (aa.af [(0 : Nat) < 1] (aa.af [(0 : Nat) < 1] (aa.leaf ah.ret [agg [AV.bool b, mag (N + 0), mag (D + 0)]]))))))) := by kernel_rfl
theorem fJ {a b v : Bool} (h : (bif true then a else b) = v) : a = v := h
theorem yZ {N : Nat} : aN N = 0 ↔ N = 0 := by unfold aN; split <;> simp_all
theorem JR {N : Nat} : aN N ≤ 1 ↔ N ≤ 1 := by rw [fH]; omega
theorem gf {N : Nat} : nl N = 0 ↔ N = 0 := by
 constructor
 ·intro h
  rcases Nat.eq_zero_or_pos N with h1 | h1
  ·exact h1
  ·have := dS.2 (show N ≠ 0 by omega); omega
 ·intro h; subst h; rfl
theorem Kz {b : Bool} {n : Nat} : sQ b n 0 = 0 := by unfold sQ; simp
theorem BB {b : Bool} {x : Nat} : bp (.agg [.bool b, .mag x, .nil]) (.agg [.bool b, .mag x, .mag 0]) := cN ⟨.refl _, .refl _, gy, trivial⟩
theorem PE {b : Bool} {N D : Nat} (hN : nl N < 2 ^ 40) (hD : nl D < 2 ^ 40) (K : Nat) (pre : aC) : az P nF K [.bool b, .mag N, .mag D] pre (aG (.rat (sQ b N D) (bH (sQ b N D))) []) := by
 refine fk hT Qm rfl (of_decide_eq_true (by kernel_rfl)) rfl (fun _ c h0 => ?_) K pre
 have hO : ∀ {v : AV}, keys v = [] → eH 1 [(0, (⟨false, true, 3, 1, fun j => if j = 0 then v else .rat 0 1⟩ : aJ))] := fun h => ⟨⟨by omega, fun i _ => by show keys (if i = 0 then _ else _) = []; split; exact h; rfl⟩, trivial⟩
 have hO' : eH 1 lp := ⟨⟨by omega, fun _ _ => rfl⟩, trivial⟩
 have hz : sQ b N D = 0 → bp (.agg [.bool false, .mag 0, .mag 0]) (.rat (sQ b N D) (bH (sQ b N D))) := fun h => by
  rw [h]; exact hJ
 refine aq.hole [1,1,1,1] (by kernel_rfl) (ax.chunk 2 (ax.aV hT iG hm 60 gj Jz (by kernel_rfl) ?_))
 simp only [aa.all, ay, beq_iff_eq, beq_eq_false_iff_ne, ne_eq]
 -- behind the first questions
 have rest : ∀ {s' : aA}, N ≠ 0 → D ≠ 0 → aR gj s' = some (jS b N D, lp) →
   ax P c cy.ntmps ((before (au cy) [1,1,1,1]).drop 2) s' (cU (fun s' => aq P c cy.ntmps (part (au cy) [1,1,1,1]) s' (cU (fun s' => ax P c cy.ntmps (behind (au cy) [1,1,1,1]) s' (de c (Fin T cy (.rat (sQ b N D) (bH (sQ b N D)))))) (de c (Fin T cy (.rat (sQ b N D) (bH (sQ b N D)))))))
    (de c (Fin T cy (.rat (sQ b N D) (bH (sQ b N D)))))) := by
  intro s' hN0 hD0 hv
  have last : ∀ {s' : aA} {X Y : Nat}, nl X < 2 ^ 40 → nl Y < 2 ^ 40 → X = N / Nat.gcd N D → Y = D / Nat.gcd N D → aR gj s' = some (jS b X Y, lp) →
    aq P c cy.ntmps (part (au cy) [1,1,1,1]) s' (cU (fun s' => ax P c cy.ntmps (behind (au cy) [1,1,1,1]) s' (de c (Fin T cy (.rat (sQ b N D) (bH (sQ b N D)))))) (de c (Fin T cy (.rat (sQ b N D) (bH (sQ b N D)))))) := by
   intro s' X Y hX hY eX eY hv
   refine aq.mono (Q := cU (fun s' => ax P c cy.ntmps [] s' (de c (Fin T cy (.rat (sQ b N D) (bH (sQ b N D)))))) (de c (Fin T cy (.rat (sQ b N D) (bH (sQ b N D)))))) ?_ fun e s' h => by cases e <;> exact h
   refine ax.gh (l := [part (au cy) [1,1,1,1]]) hT iG hm 60 hv (h0 _) rfl hO' RO (by kernel_rfl) rfl ?_
   simp only [aa.all, ay, beq_iff_eq, beq_eq_false_iff_ne, ne_eq, Nat.add_zero, Int.toNat_zero]
   have hY0 : Y ≠ 0 := by rw [eY]; exact Nat.pos_iff_ne_zero.1 (Nat.div_pos (Nat.le_of_dvd (by omega) (Nat.gcd_dvd_right _ _)) (Nat.gcd_pos_of_pos_left _ (by omega)))
   have h1 : Y ≠ 1 → bp (.agg [.bool b, .mag X, .mag Y]) (.rat (sQ b N D) (bH (sQ b N D))) := fun h => mG hN0 hD0 eX (by rw [← eY, if_neg h]) pW
   have h2 : Y = 1 → bp (.agg [.bool b, .mag X, .nil]) (.rat (sQ b N D) (bH (sQ b N D))) := fun h => BB.trans (mG hN0 hD0 eX (by rw [← eY, if_pos h]) pW)
   have hl : nl Y = 1 → aj Y 0 = Y := fun h => by
    have := dX (N := Y)
    rw [h, val, val] at this
    simpa using this
   refine ⟨⟨hX, by omega, hY, by omega⟩, fun hb => ⟨⟨hb, by omega, by omega⟩, fun hc => ⟨by omega, by omega, h2 ?_⟩, fun hc => ⟨by omega, by omega, h1 ?_⟩⟩, fun hb => ⟨hb, fun h => by simp at h, fun _ => ⟨by omega, by omega, h1 ?_⟩⟩⟩
   ·have := fJ hc
    rw [hl (by omega)] at this
    have := eq_of_beq this
    omega
   ·have := fJ hc
    rw [hl (by omega)] at this
    intro h
    rw [h] at this
    simp at this
   ·intro h
    rw [h] at hb
    exact hb (by decide)
  refine ax.chunk 1 (ax.dn hT iG hm 60 hv (h0 _) rfl hO' gj UW (by kernel_rfl) rfl ?_)
  simp only [aa.all, ay, decide_eq_true_eq, decide_eq_false_iff_not, Int.toNat_natCast, beq_iff_eq]
  have long : ∀ {s' : aA}, aR gj s' = some (jS b N D, lp) → ax P c cy.ntmps (((before (au cy) [1,1,1,1]).drop 2).drop 1) s' (cU (fun s' => aq P c cy.ntmps (part (au cy) [1,1,1,1]) s' (cU (fun s' => ax P c cy.ntmps (behind (au cy) [1,1,1,1]) s' (de c (Fin T cy (.rat (sQ b N D) (bH (sQ b N D)))))) (de c (Fin T cy (.rat (sQ b N D) (bH (sQ b N D)))))))
    (de c (Fin T cy (.rat (sQ b N D) (bH (sQ b N D)))))) := by
   intro s' hv
   rw [List.drop_drop]
   refine ax.dn hT iG hm 60 hv (h0 _) rfl hO' gj Gq (by kernel_rfl) rfl ?_
   simp only [aa.all, ay, decide_eq_true_eq, decide_eq_false_iff_not]
   have hg : nl (Nat.gcd N D) < 2 ^ 40 := Nat.lt_of_le_of_lt (eJ (Nat.gcd_le_left _ (by omega))) hN
   have hg0 : 0 < Nat.gcd N D := Nat.gcd_pos_of_pos_left _ (by omega)
   refine ⟨⟨hN, hD⟩, hg, fun hb => ⟨⟨hN, hg⟩, ⟨hD, hg⟩, fun s' hv => last (Nat.lt_of_le_of_lt (eJ (Nat.div_le_self _ _)) hN) (Nat.lt_of_le_of_lt (eJ (Nat.div_le_self _ _)) hD) rfl rfl hv⟩, fun hb s' hv => ?_⟩
   have hg1 : Nat.gcd N D = 1 := by
    have : aN (Nat.gcd N D) ≤ 1 := by omega
    have := JR.1 this
    omega
   exact last hN hD (by rw [hg1, Nat.div_one]) (by rw [hg1, Nat.div_one]) hv
  refine ⟨fun hb => ⟨hb, fun hc => ⟨?_, fun s' hv => ?_⟩, fun hc s' hv => bu (long hv)⟩, fun hb => ⟨hb, fun h => by simp at h, fun _ s' hv => bu (long hv)⟩⟩
  ·have h2 : nl D ≤ 2 := by have := of_decide_eq_true (fJ hc); omega
   have := kJ (show nl N ≤ 2 by omega)
   have := kJ h2
   exact ⟨by omega, h2, by omega, by omega, by omega⟩
  ·refine dx (dx (qQ SM hv (h0 _) rfl (hO rfl) ⟨by simp [ay], ?_⟩))
   exact .refl _
 refine ⟨fun hb => ⟨⟨hN, hb⟩, fun _ => ⟨by omega, fun s' hv => dx (dx (qQ DY hv (h0 _) rfl (hO rfl) ⟨by simp [ay], hz ?_⟩))⟩, fun h => by simp at h⟩, fun hb => ⟨⟨hN, hb, hD⟩, fun hc => ⟨by omega, fun s' hv => dx (dx (qQ DY hv (h0 _) rfl (hO rfl) ⟨by simp [ay], hz ?_⟩))⟩, fun hc s' hv => bu (rest ?_ ?_ hv)⟩⟩
 ·rw [yZ.1 (show aN N = 0 by omega), wu]
 ·have := eq_of_beq (eR hc)
  rw [yZ.1 (show aN D = 0 by omega), Kz]
 ·intro h; rw [h] at hb; exact hb (by decide)
 ·intro h
  have := eR hc
  rw [h] at this
  simp [aN] at this
end Go.Am.B
