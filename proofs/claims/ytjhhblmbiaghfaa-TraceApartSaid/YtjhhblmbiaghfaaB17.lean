/- rational.den, parts, reduce, Same, Sign, copied, size. -/
import Derived.Test.YtjhhblmbiaghfaaB16
set_option linter.unusedVariables false
namespace Go.Am.B
open Go Go.Am.N AV
theorem P0 : aO P rj pA (ax pA) := aS PW (by kernel_rfl) (by kernel_rfl) (by kernel_rfl)
theorem MD : aO P p9 sU (ax sU) := aS Mg (by kernel_rfl) (by kernel_rfl) (by kernel_rfl)
theorem Io : aO P oP cC (ax cC) := aS Gx (by kernel_rfl) (by kernel_rfl) (by kernel_rfl)
theorem IQ : aO P uY r9 (ax r9) := aS SE (by kernel_rfl) (by kernel_rfl) (by kernel_rfl)
theorem Hp : aO P nk rI (ax rI) := aS On (by kernel_rfl) (by kernel_rfl) (by kernel_rfl)
theorem MI : aO P tJ qZ (ax qZ) := aS L8 (by kernel_rfl) (by kernel_rfl) (by kernel_rfl)
theorem Il : aO P pI pB (ax pB) := aS JZ (by kernel_rfl) (by kernel_rfl) (by kernel_rfl)
def GR : bf := (q7, bp (iR DT)) :: (rT, bp (iR vU)) :: (o9, xG) :: (sX, bp (fq DW)) :: (ou, bp (fq xW)) :: (oa, bp (fq zX)) :: (pg, yY) :: (nW, yw) :: (mq, wF) :: (oI, yp) :: []
theorem jl : bC P GR := aK MC (aK NM (aK Bc (aK JJ (aK AM (aK Bh (aK Bn (aK AR (aK yE (aK BB aZ)))))))))
theorem Td {q : Rat} {n : Nat} : bA T GR [6] 60 pA (ax pA) ⟨aM 0 [.rat q n], [], 0⟩ =
  some (aa.af [(0 : Nat) < 1] (aa.fork ((↑(nl (if q.den = 1 then 0 else q.den)) : Int) == (0 : Int)) (aa.leaf aj.ret [mag 1]) (aa.af [(0 : Nat) < 1] (aa.leaf aj.ret [mag (if q.den = 1 then 0 else q.den)])))) := by kernel_rfl
theorem Rf {q : Rat} {n : Nat} : bA T GR [9, 14, 18] 60 sU (ax sU) ⟨aM 0 [.rat q n], [], 0⟩ =
  some (aa.fork (decide ((↑(nl q.num.natAbs) : Int) > (1 : Int))) (aa.af [(0 : Nat) < 1, decide ((↑(nl q.num.natAbs) : Int) > (1 : Int)) = true] (aa.fork true (aa.leaf aj.ret [int IntKind.u64 (0 : Int), int IntKind.u64 (0 : Int), AV.bool false]) (aa.af [(0 : Nat) < 1] (aa.fork ((↑(nl (if q.den = 1 then 0 else q.den)) : Int) == (1 : Int)) (aa.af [(0 : Nat) < 1, (0 : Int) ≤ (0 : Int) ∧ Int.toNat (0 : Int) < nl (if q.den = 1 then 0 else q.den)] (aa.af [(0 : Nat) < 1, nl q.num.natAbs ≤ 2] (aa.leaf aj.ret [int IntKind.u64 (↑q.num.natAbs : Int), int IntKind.u64 (IntKind.u64.wrap (↑(au (if q.den = 1 then 0 else q.den) (Int.toNat (0 : Int))) : Int)), AV.bool (IntKind.u64.wrap (↑(au (if q.den = 1 then 0 else q.den) (Int.toNat (0 : Int))) : Int) != (0 : Int))]))) (aa.af [(0 : Nat) < 1, nl q.num.natAbs ≤ 2] (aa.leaf aj.ret [int IntKind.u64 (↑q.num.natAbs : Int), int IntKind.u64 (1 : Int), AV.bool true])))))) (aa.af [(0 : Nat) < 1, decide ((↑(nl q.num.natAbs) : Int) > (1 : Int)) = false, (0 : Nat) < 1] (aa.fork (bif false then true else decide ((↑(nl (if q.den = 1 then 0 else q.den)) : Int) > (1 : Int))) (aa.leaf aj.ret [int IntKind.u64 (0 : Int), int IntKind.u64 (0 : Int), AV.bool false]) (aa.af [(0 : Nat) < 1] (aa.fork ((↑(nl (if q.den = 1 then 0 else q.den)) : Int) == (1 : Int)) (aa.af [(0 : Nat) < 1, (0 : Int) ≤ (0 : Int) ∧ Int.toNat (0 : Int) < nl (if q.den = 1 then 0 else q.den)] (aa.af [(0 : Nat) < 1, nl q.num.natAbs ≤ 2] (aa.leaf aj.ret [int IntKind.u64 (↑q.num.natAbs : Int), int IntKind.u64 (IntKind.u64.wrap (↑(au (if q.den = 1 then 0 else q.den) (Int.toNat (0 : Int))) : Int)), AV.bool (IntKind.u64.wrap (↑(au (if q.den = 1 then 0 else q.den) (Int.toNat (0 : Int))) : Int) != (0 : Int))]))) (aa.af [(0 : Nat) < 1, nl q.num.natAbs ≤ 2] (aa.leaf aj.ret [int IntKind.u64 (↑q.num.natAbs : Int), int IntKind.u64 (1 : Int), AV.bool true]))))))) := by kernel_rfl
theorem Li {q r : Rat} {n m : Nat} : bA T GR [10, 17] 60 r9 (ax r9) ⟨aM 0 [.rat q n, .rat r m], [], 0⟩ =
  some (aa.fork (decide (q < 0) == decide (r < 0)) (aa.fork (bif true then decide (q.num.natAbs = r.num.natAbs) else false) (aa.af [(0 : Nat) < 1, (0 : Nat) < 1, (decide (q < 0) == decide (r < 0)) = true, (0 : Nat) < 1, (0 : Nat) < 1, nl q.num.natAbs < 2 ^ 40, nl r.num.natAbs < 2 ^ 40, (bif true then decide (q.num.natAbs = r.num.natAbs) else false) = true, (0 : Nat) < 1, (0 : Nat) < 1, nl (if q.den = 1 then 0 else q.den) < 2 ^ 40, nl (if r.den = 1 then 0 else r.den) < 2 ^ 40] (aa.leaf aj.ret [AV.bool (bif true then decide ((if q.den = 1 then 0 else q.den) = if r.den = 1 then 0 else r.den) else false)])) (aa.af [(0 : Nat) < 1, (0 : Nat) < 1, (decide (q < 0) == decide (r < 0)) = true, (0 : Nat) < 1, (0 : Nat) < 1, nl q.num.natAbs < 2 ^ 40, nl r.num.natAbs < 2 ^ 40, (bif true then decide (q.num.natAbs = r.num.natAbs) else false) = false] (aa.leaf aj.ret [AV.bool false]))) (aa.fork false (aa.af [(0 : Nat) < 1, (0 : Nat) < 1, (decide (q < 0) == decide (r < 0)) = false, false = true, (0 : Nat) < 1, (0 : Nat) < 1, nl (if q.den = 1 then 0 else q.den) < 2 ^ 40, nl (if r.den = 1 then 0 else r.den) < 2 ^ 40] (aa.leaf aj.ret [AV.bool (bif true then decide ((if q.den = 1 then 0 else q.den) = if r.den = 1 then 0 else r.den) else false)])) (aa.af [(0 : Nat) < 1, (0 : Nat) < 1, (decide (q < 0) == decide (r < 0)) = false, false = false] (aa.leaf aj.ret [AV.bool false])))) := by kernel_rfl
theorem Sa {q : Rat} {n : Nat} : bA T GR [3, 8] 60 rI (ax rI) ⟨aM 0 [.rat q n], [], 0⟩ =
  some (aa.af [(0 : Nat) < 1, nl q.num.natAbs < 2 ^ 40] (aa.fork ((↑(aY q.num.natAbs) : Int) == (0 : Int)) (aa.leaf aj.ret [int IntKind.i64 (0 : Int)]) (aa.af [(0 : Nat) < 1] (aa.fork (decide (q < 0)) (aa.leaf aj.ret [int IntKind.i64 (-1 : Int)]) (aa.leaf aj.ret [int IntKind.i64 (1 : Int)]))))) := by kernel_rfl
theorem Ji {q : Rat} {n : Nat} : bA T GR [] 60 qZ (ax qZ) ⟨aM 0 [.rat q n], [], 0⟩ =
  some (aa.af [(0 : Nat) < 1, (0 : Nat) < 1, nl q.num.natAbs < 2 ^ 40, (0 : Nat) < 1, nl (if q.den = 1 then 0 else q.den) < 2 ^ 40, (0 : Nat) < 1] (aa.af [(0 : Nat) < 1] (aa.leaf aj.ret [agg [AV.bool (decide (q < 0)), mag q.num.natAbs, mag (if q.den = 1 then 0 else q.den)]]))) := by kernel_rfl
theorem Po {n : Int} : bA T GR [4] 60 pB (ax pB) ⟨aM 0 [.int .i64 n], [], 0⟩ =
  some (aa.fork (n == (-9223372036854775808 : Int)) (aa.af [(0 : Int) ≤ (9223372036854775808 : Int) ∧ (9223372036854775808 : Int) < (2 : Int) ^ 64] (aa.leaf aj.ret [mag 9223372036854775808])) (aa.af [(0 : Int) ≤ IntKind.u64.wrap (if n < IntKind.i64.wrap ((0 : Int) - n) then IntKind.i64.wrap ((0 : Int) - n) else n) ∧ IntKind.u64.wrap (if n < IntKind.i64.wrap ((0 : Int) - n) then IntKind.i64.wrap ((0 : Int) - n) else n) < (2 : Int) ^ 64] (aa.leaf aj.ret [mag (IntKind.u64.wrap (if n < IntKind.i64.wrap ((0 : Int) - n) then IntKind.i64.wrap ((0 : Int) - n) else n)).toNat]))) := by kernel_rfl
abbrev gC : List Nat := [0, 1, 2, 6]
abbrev lD (b : Bool) (N D : Nat) : List AV := [.bool b, .mag N, .mag D, .ptr 0 0 3 0 []]
abbrev lT : aA := [(0, ⟨false, true, 3, 1, fun _ => .rat 0 1⟩)]
theorem OH {b : Bool} {N D : Nat} : aG T GR [11, 15] 60 gC ((before (ax cC) [1,1,1,1]).take 2) ⟨aM 0 [.bool b, .mag N, .mag D], [], 0⟩ =
  some (aa.fork ((↑(aY N) : Int) == (0 : Int)) (aa.af [nl N < 2 ^ 40, ((↑(aY N) : Int) == (0 : Int)) = true] (aa.fork true (aa.af [(0 : Nat) < 1] (aa.leaf aj.ret ([AV.bool b, mag N, mag D, ptr 0 0 3 0 []], [((0 : Nat), ⟨false, true, 3, 1, fun (j : Nat) ↦ if (j == 0) = true then dg (agg (rat 0 1).kids) else rat 0 1⟩)]))) (aa.leaf aj.normal ([AV.bool b, mag N, mag D, ptr 0 0 3 0 []], [((0 : Nat), ⟨false, true, 3, 1, fun (x : Nat) ↦ rat 0 1⟩)])))) (aa.af [nl N < 2 ^ 40, ((↑(aY N) : Int) == (0 : Int)) = false, nl D < 2 ^ 40] (aa.fork (bif false then true else (↑(aY D) : Int) == (0 : Int)) (aa.af [(0 : Nat) < 1] (aa.leaf aj.ret ([AV.bool b, mag N, mag D, ptr 0 0 3 0 []], [((0 : Nat), ⟨false, true, 3, 1, fun (j : Nat) ↦ if (j == 0) = true then dg (agg (rat 0 1).kids) else rat 0 1⟩)]))) (aa.leaf aj.normal ([AV.bool b, mag N, mag D, ptr 0 0 3 0 []], [((0 : Nat), ⟨false, true, 3, 1, fun (x : Nat) ↦ rat 0 1⟩)]))))) := by kernel_rfl
theorem Ad {b : Bool} {N D : Nat} : iC T cC .ret ⟨aB gC (lD b N D), [(0, ⟨false, true, 3, 1, fun j => if j = 0 then dg (.agg (AV.kids (.rat 0 1))) else .rat 0 1⟩)], 1⟩ =
  some (aa.af [(0 : Nat) < 1] (aa.leaf aj.ret [agg [AV.bool false, mag 0, mag 0]])) := by kernel_rfl
theorem Uu {b : Bool} {N D : Nat} {q : Rat} {k : Nat} : iC T cC .ret ⟨aB gC (lD b N D), [(0, ⟨false, true, 3, 1, fun j => if j = 0 then dg (.rat q k) else .rat 0 1⟩)], 1⟩ =
  some (aa.af [(0 : Nat) < 1] (aa.leaf aj.ret [rat q k])) := by kernel_rfl
theorem Mz {b : Bool} {N D : Nat} : aG T GR [20, 24] 60 gC (((before (ax cC) [1,1,1,1]).drop 2).take 1) ⟨aB gC (lD b N D), lT, 1⟩ =
  some (aa.fork (decide ((↑(nl N) : Int) ≤ (2 : Int))) (aa.af [decide ((↑(nl N) : Int) ≤ (2 : Int)) = true] (aa.fork (bif true then decide ((↑(nl D) : Int) ≤ (2 : Int)) else false) (aa.af [nl N ≤ 2, nl D ≤ 2, (0 : Int) ≤ (↑N : Int) ∧ (↑N : Int) < (2 : Int) ^ 64, (0 : Int) < (↑D : Int) ∧ (↑D : Int) < (2 : Int) ^ 64, (0 : Nat) < 1] (aa.leaf aj.ret ([AV.bool b, mag N, mag D, ptr 0 0 3 0 []], [((0 : Nat), ⟨false, true, 3, 1, fun (j : Nat) ↦ if (j == 0) = true then dg (rat (sQ b (↑N : Int).toNat (↑D : Int).toNat) (bT (sQ b (↑N : Int).toNat (↑D : Int).toNat))) else rat 0 1⟩)]))) (aa.leaf aj.normal ([AV.bool b, mag N, mag D, ptr 0 0 3 0 []], [((0 : Nat), ⟨false, true, 3, 1, fun (x : Nat) ↦ rat 0 1⟩)])))) (aa.af [decide ((↑(nl N) : Int) ≤ (2 : Int)) = false] (aa.fork false (aa.af [nl N ≤ 2, nl D ≤ 2, (0 : Int) ≤ (↑N : Int) ∧ (↑N : Int) < (2 : Int) ^ 64, (0 : Int) < (↑D : Int) ∧ (↑D : Int) < (2 : Int) ^ 64, (0 : Nat) < 1] (aa.leaf aj.ret ([AV.bool b, mag N, mag D, ptr 0 0 3 0 []], [((0 : Nat), ⟨false, true, 3, 1, fun (j : Nat) ↦ if (j == 0) = true then dg (rat (sQ b (↑N : Int).toNat (↑D : Int).toNat) (bT (sQ b (↑N : Int).toNat (↑D : Int).toNat))) else rat 0 1⟩)]))) (aa.leaf aj.normal ([AV.bool b, mag N, mag D, ptr 0 0 3 0 []], [((0 : Nat), ⟨false, true, 3, 1, fun (x : Nat) ↦ rat 0 1⟩)]))))) := by kernel_rfl
theorem Lm {b : Bool} {N D : Nat} : aG T GR [36] 60 gC ((before (ax cC) [1,1,1,1]).drop (2 + 1)) ⟨aB gC (lD b N D), lT, 1⟩ =
  some (aa.af [nl N < 2 ^ 40, nl D < 2 ^ 40] (aa.af [nl (N.gcd D) < 2 ^ 40] (aa.fork (decide ((↑(aY (N.gcd D)) : Int) > (1 : Int))) (aa.af [nl N < 2 ^ 40, nl (N.gcd D) < 2 ^ 40] (aa.af [nl D < 2 ^ 40, nl (N.gcd D) < 2 ^ 40] (aa.leaf aj.normal ([AV.bool b, mag (N / N.gcd D), mag (D / N.gcd D), ptr 0 0 3 0 []], [((0 : Nat), ⟨false, true, 3, 1, fun (x : Nat) ↦ rat 0 1⟩)])))) (aa.leaf aj.normal ([AV.bool b, mag N, mag D, ptr 0 0 3 0 []], [((0 : Nat), ⟨false, true, 3, 1, fun (x : Nat) ↦ rat 0 1⟩)]))))) := by kernel_rfl
theorem Sn {b : Bool} {N D : Nat} : cJ T GR [58, 63] 60 cC [part (ax cC) [1,1,1,1]] ⟨aB gC (lD b N D), lT, 1⟩ =
  some (aa.af [nl N < 2 ^ 40, (0 : Nat) < 2 ^ 40, nl D < 2 ^ 40, (0 : Nat) < 2 ^ 40] (aa.fork ((↑(nl (D + 0)) : Int) == (1 : Int)) (aa.af [((↑(nl (D + 0)) : Int) == (1 : Int)) = true, (0 : Int) ≤ (0 : Int) ∧ Int.toNat (0 : Int) < nl (D + 0)] (aa.fork (bif true then (↑(au (D + 0) (Int.toNat (0 : Int))) : Int) == (1 : Int) else false) (aa.af [(0 : Nat) < 1] (aa.af [(0 : Nat) < 1] (aa.leaf aj.ret [agg [AV.bool b, mag (N + 0), nil]]))) (aa.af [(0 : Nat) < 1] (aa.af [(0 : Nat) < 1] (aa.leaf aj.ret [agg [AV.bool b, mag (N + 0), mag (D + 0)]]))))) (aa.af [((↑(nl (D + 0)) : Int) == (1 : Int)) = false] (aa.fork false (aa.af [(0 : Nat) < 1] (aa.af [(0 : Nat) < 1] (aa.leaf aj.ret [agg [AV.bool b, mag (N + 0), nil]]))) (aa.af [(0 : Nat) < 1] (aa.af [(0 : Nat) < 1] (aa.leaf aj.ret [agg [AV.bool b, mag (N + 0), mag (D + 0)]]))))))) := by kernel_rfl
theorem fS {a b v : Bool} (h : (bif true then a else b) = v) : a = v := h
theorem zW {N : Nat} : aY N = 0 ↔ N = 0 := by unfold aY; split <;> simp_all
theorem Nx {N : Nat} : aY N ≤ 1 ↔ N ≤ 1 := by rw [fJ]; omega
theorem gz {N : Nat} : nl N = 0 ↔ N = 0 := by
 constructor
 ·intro h
  rcases Nat.eq_zero_or_pos N with h1 | h1
  ·exact h1
  ·have := ew.2 (show N ≠ 0 by omega); omega
 ·intro h; subst h; rfl
theorem Ld {b : Bool} {n : Nat} : sQ b n 0 = 0 := by unfold sQ; simp
theorem EJ {b : Bool} {x : Nat} : bn (.agg [.bool b, .mag x, .nil]) (.agg [.bool b, .mag x, .mag 0]) := fC ⟨.refl _, .refl _, gL, trivial⟩
theorem FP {b : Bool} {N D : Nat} (hN : nl N < 2 ^ 40) (hD : nl D < 2 ^ 40) (K : Nat) (pre : aA) : aC P oP K [.bool b, .mag N, .mag D] pre (aJ (.rat (sQ b N D) (bT (sQ b N D))) []) := by
 refine fX hT Io rfl (of_decide_eq_true (by kernel_rfl)) rfl (fun _ c h0 => ?_) K pre
 have hO : ∀ {v : AV}, keys v = [] → eP 1 [(0, (⟨false, true, 3, 1, fun j => if j = 0 then v else .rat 0 1⟩ : aH))] := fun h => ⟨⟨by omega, fun i _ => by show keys (if i = 0 then _ else _) = []; split; exact h; rfl⟩, trivial⟩
 have hO' : eP 1 lT := ⟨⟨by omega, fun _ _ => rfl⟩, trivial⟩
 have hz : sQ b N D = 0 → bn (.agg [.bool false, .mag 0, .mag 0]) (.rat (sQ b N D) (bT (sQ b N D))) := fun h => by
  rw [h]; exact lZ
 refine aq.hole [1,1,1,1] (by kernel_rfl) (ay.chunk 2 (ay.aR hT jl hm 60 gC OH (by kernel_rfl) ?_))
 simp only [aa.all, az, beq_iff_eq, beq_eq_false_iff_ne, ne_eq]
 -- behind the first questions
 have rest : ∀ {s' : aD}, N ≠ 0 → D ≠ 0 → aN gC s' = some (lD b N D, lT) →
   ay P c cC.ntmps ((before (ax cC) [1,1,1,1]).drop 2) s' (cM (fun s' => aq P c cC.ntmps (part (ax cC) [1,1,1,1]) s' (cM (fun s' => ay P c cC.ntmps (behind (ax cC) [1,1,1,1]) s' (dh c (Fin T cC (.rat (sQ b N D) (bT (sQ b N D)))))) (dh c (Fin T cC (.rat (sQ b N D) (bT (sQ b N D)))))))
    (dh c (Fin T cC (.rat (sQ b N D) (bT (sQ b N D)))))) := by
  intro s' hN0 hD0 hv
  have last : ∀ {s' : aD} {X Y : Nat}, nl X < 2 ^ 40 → nl Y < 2 ^ 40 → X = N / Nat.gcd N D → Y = D / Nat.gcd N D → aN gC s' = some (lD b X Y, lT) →
    aq P c cC.ntmps (part (ax cC) [1,1,1,1]) s' (cM (fun s' => ay P c cC.ntmps (behind (ax cC) [1,1,1,1]) s' (dh c (Fin T cC (.rat (sQ b N D) (bT (sQ b N D)))))) (dh c (Fin T cC (.rat (sQ b N D) (bT (sQ b N D)))))) := by
   intro s' X Y hX hY eX eY hv
   refine aq.mono (Q := cM (fun s' => ay P c cC.ntmps [] s' (dh c (Fin T cC (.rat (sQ b N D) (bT (sQ b N D)))))) (dh c (Fin T cC (.rat (sQ b N D) (bT (sQ b N D)))))) ?_ fun e s' h => by cases e <;> exact h
   refine ay.gu (l := [part (ax cC) [1,1,1,1]]) hT jl hm 60 hv (h0 _) rfl hO' Sn (by kernel_rfl) rfl ?_
   simp only [aa.all, az, beq_iff_eq, beq_eq_false_iff_ne, ne_eq, Nat.add_zero, Int.toNat_zero]
   have hY0 : Y ≠ 0 := by rw [eY]; exact Nat.pos_iff_ne_zero.1 (Nat.div_pos (Nat.le_of_dvd (by omega) (Nat.gcd_dvd_right _ _)) (Nat.gcd_pos_of_pos_left _ (by omega)))
   have h1 : Y ≠ 1 → bn (.agg [.bool b, .mag X, .mag Y]) (.rat (sQ b N D) (bT (sQ b N D))) := fun h => n8 hN0 hD0 eX (by rw [← eY, if_neg h]) qh
   have h2 : Y = 1 → bn (.agg [.bool b, .mag X, .nil]) (.rat (sQ b N D) (bT (sQ b N D))) := fun h => EJ.trans (n8 hN0 hD0 eX (by rw [← eY, if_pos h]) qh)
   have hl : nl Y = 1 → au Y 0 = Y := fun h => by
    have := ec (N := Y)
    rw [h, val, val] at this
    simpa using this
   refine ⟨⟨hX, by omega, hY, by omega⟩, fun hb => ⟨⟨hb, by omega, by omega⟩, fun hc => ⟨by omega, by omega, h2 ?_⟩, fun hc => ⟨by omega, by omega, h1 ?_⟩⟩, fun hb => ⟨hb, fun h => by simp at h, fun _ => ⟨by omega, by omega, h1 ?_⟩⟩⟩
   ·have := fS hc
    rw [hl (by omega)] at this
    have := eq_of_beq this
    omega
   ·have := fS hc
    rw [hl (by omega)] at this
    intro h
    rw [h] at this
    simp at this
   ·intro h
    rw [h] at hb
    exact hb (by decide)
  refine ay.chunk 1 (ay.de hT jl hm 60 hv (h0 _) rfl hO' gC Mz (by kernel_rfl) rfl ?_)
  simp only [aa.all, az, decide_eq_true_eq, decide_eq_false_iff_not, Int.toNat_natCast, beq_iff_eq]
  have long : ∀ {s' : aD}, aN gC s' = some (lD b N D, lT) → ay P c cC.ntmps (((before (ax cC) [1,1,1,1]).drop 2).drop 1) s' (cM (fun s' => aq P c cC.ntmps (part (ax cC) [1,1,1,1]) s' (cM (fun s' => ay P c cC.ntmps (behind (ax cC) [1,1,1,1]) s' (dh c (Fin T cC (.rat (sQ b N D) (bT (sQ b N D)))))) (dh c (Fin T cC (.rat (sQ b N D) (bT (sQ b N D)))))))
    (dh c (Fin T cC (.rat (sQ b N D) (bT (sQ b N D)))))) := by
   intro s' hv
   rw [List.drop_drop]
   refine ay.de hT jl hm 60 hv (h0 _) rfl hO' gC Lm (by kernel_rfl) rfl ?_
   simp only [aa.all, az, decide_eq_true_eq, decide_eq_false_iff_not]
   have hg : nl (Nat.gcd N D) < 2 ^ 40 := Nat.lt_of_le_of_lt (eR (Nat.gcd_le_left _ (by omega))) hN
   have hg0 : 0 < Nat.gcd N D := Nat.gcd_pos_of_pos_left _ (by omega)
   refine ⟨⟨hN, hD⟩, hg, fun hb => ⟨⟨hN, hg⟩, ⟨hD, hg⟩, fun s' hv => last (Nat.lt_of_le_of_lt (eR (Nat.div_le_self _ _)) hN) (Nat.lt_of_le_of_lt (eR (Nat.div_le_self _ _)) hD) rfl rfl hv⟩, fun hb s' hv => ?_⟩
   have hg1 : Nat.gcd N D = 1 := by
    have : aY (Nat.gcd N D) ≤ 1 := by omega
    have := Nx.1 this
    omega
   exact last hN hD (by rw [hg1, Nat.div_one]) (by rw [hg1, Nat.div_one]) hv
  refine ⟨fun hb => ⟨hb, fun hc => ⟨?_, fun s' hv => ?_⟩, fun hc s' hv => bD (long hv)⟩, fun hb => ⟨hb, fun h => by simp at h, fun _ s' hv => bD (long hv)⟩⟩
  ·have h2 : nl D ≤ 2 := by have := of_decide_eq_true (fS hc); omega
   have := k8 (show nl N ≤ 2 by omega)
   have := k8 h2
   exact ⟨by omega, h2, by omega, by omega, by omega⟩
  ·refine dj (dj (pD Uu hv (h0 _) rfl (hO rfl) ⟨by simp [az], ?_⟩))
   exact .refl _
 refine ⟨fun hb => ⟨⟨hN, hb⟩, fun _ => ⟨by omega, fun s' hv => dj (dj (pD Ad hv (h0 _) rfl (hO rfl) ⟨by simp [az], hz ?_⟩))⟩, fun h => by simp at h⟩, fun hb => ⟨⟨hN, hb, hD⟩, fun hc => ⟨by omega, fun s' hv => dj (dj (pD Ad hv (h0 _) rfl (hO rfl) ⟨by simp [az], hz ?_⟩))⟩, fun hc s' hv => bD (rest ?_ ?_ hv)⟩⟩
 ·rw [zW.1 (show aY N = 0 by omega), zA]
 ·have := eq_of_beq (eW hc)
  rw [zW.1 (show aY D = 0 by omega), Ld]
 ·intro h; rw [h] at hb; exact hb (by decide)
 ·intro h
  have := eW hc
  rw [h] at this
  simp [aY] at this
end Go.Am.B
