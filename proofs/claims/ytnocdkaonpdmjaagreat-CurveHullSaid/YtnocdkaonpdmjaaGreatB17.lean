/- rational.den, parts, reduce, Same, Sign, copied, size. -/
import Derived.Test.YtnocdkaonpdmjaaGreatB16
set_option linter.unusedVariables false
namespace Go.Am.B
open Go Go.Am.N AV
theorem OC : aO P qQ uY (ax uY) := aP S0 (by kernel_rfl) (by kernel_rfl) (by kernel_rfl)
theorem RS : aO P sU xz (ax xz) := aP aav (by kernel_rfl) (by kernel_rfl) (by kernel_rfl)
theorem Qk : aO P qK cR (ax cR) := aP abQ (by kernel_rfl) (by kernel_rfl) (by kernel_rfl)
theorem SD : aO P fj uf (ax uf) := aP Sx (by kernel_rfl) (by kernel_rfl) (by kernel_rfl)
theorem N7 : aO P oF vp (ax vp) := aP Mo (by kernel_rfl) (by kernel_rfl) (by kernel_rfl)
theorem PT : aO P vD um (ax um) := aP PM (by kernel_rfl) (by kernel_rfl) (by kernel_rfl)
theorem XQ : aO P wG uu (ax uu) := aP abv (by kernel_rfl) (by kernel_rfl) (by kernel_rfl)
def GR : aQ := (qM, bu (jr DE)) :: (uA, bu (jr zR)) :: (qF, CO) :: (ru, bu (fM DB)) :: (pM, bu (fM C0)) :: (qx, bu (fM Ba)) :: (pq, BE) :: (pV, Bb) :: (nP, Ao) :: (p8, Cj) :: []
theorem kE : bg P GR := aH FQ (aH Qd (aH Ew (aH J1 (aH Jk (aH Gu (aH Kz (aH Ge (aH CY (aH Es bn)))))))))
theorem Wk {q : Rat} {n : Nat} : bB T GR [6] 60 uY (ax uY) ⟨aL 0 [.rat q n], [], 0⟩ =
  some (aa.ag [(0 : Nat) < 1] (aa.fork ((↑(nl (if q.den = 1 then 0 else q.den)) : Int) == (0 : Int)) (aa.leaf aj.ret [mag 1]) (aa.ag [(0 : Nat) < 1] (aa.leaf aj.ret [mag (if q.den = 1 then 0 else q.den)])))) := by kernel_rfl
theorem abX {q : Rat} {n : Nat} : bB T GR [9, 14, 18] 60 xz (ax xz) ⟨aL 0 [.rat q n], [], 0⟩ =
  some (aa.fork (decide ((↑(nl q.num.natAbs) : Int) > (1 : Int))) (aa.ag [(0 : Nat) < 1, decide ((↑(nl q.num.natAbs) : Int) > (1 : Int)) = true] (aa.fork true (aa.leaf aj.ret [int IntKind.u64 (0 : Int), int IntKind.u64 (0 : Int), AV.bool false]) (aa.ag [(0 : Nat) < 1] (aa.fork ((↑(nl (if q.den = 1 then 0 else q.den)) : Int) == (1 : Int)) (aa.ag [(0 : Nat) < 1, (0 : Int) ≤ (0 : Int) ∧ Int.toNat (0 : Int) < nl (if q.den = 1 then 0 else q.den)] (aa.ag [(0 : Nat) < 1, nl q.num.natAbs ≤ 2] (aa.leaf aj.ret [int IntKind.u64 (↑q.num.natAbs : Int), int IntKind.u64 (IntKind.u64.wrap (↑(au (if q.den = 1 then 0 else q.den) (Int.toNat (0 : Int))) : Int)), AV.bool (IntKind.u64.wrap (↑(au (if q.den = 1 then 0 else q.den) (Int.toNat (0 : Int))) : Int) != (0 : Int))]))) (aa.ag [(0 : Nat) < 1, nl q.num.natAbs ≤ 2] (aa.leaf aj.ret [int IntKind.u64 (↑q.num.natAbs : Int), int IntKind.u64 (1 : Int), AV.bool true])))))) (aa.ag [(0 : Nat) < 1, decide ((↑(nl q.num.natAbs) : Int) > (1 : Int)) = false, (0 : Nat) < 1] (aa.fork (bif false then true else decide ((↑(nl (if q.den = 1 then 0 else q.den)) : Int) > (1 : Int))) (aa.leaf aj.ret [int IntKind.u64 (0 : Int), int IntKind.u64 (0 : Int), AV.bool false]) (aa.ag [(0 : Nat) < 1] (aa.fork ((↑(nl (if q.den = 1 then 0 else q.den)) : Int) == (1 : Int)) (aa.ag [(0 : Nat) < 1, (0 : Int) ≤ (0 : Int) ∧ Int.toNat (0 : Int) < nl (if q.den = 1 then 0 else q.den)] (aa.ag [(0 : Nat) < 1, nl q.num.natAbs ≤ 2] (aa.leaf aj.ret [int IntKind.u64 (↑q.num.natAbs : Int), int IntKind.u64 (IntKind.u64.wrap (↑(au (if q.den = 1 then 0 else q.den) (Int.toNat (0 : Int))) : Int)), AV.bool (IntKind.u64.wrap (↑(au (if q.den = 1 then 0 else q.den) (Int.toNat (0 : Int))) : Int) != (0 : Int))]))) (aa.ag [(0 : Nat) < 1, nl q.num.natAbs ≤ 2] (aa.leaf aj.ret [int IntKind.u64 (↑q.num.natAbs : Int), int IntKind.u64 (1 : Int), AV.bool true]))))))) := by kernel_rfl
theorem MI {q r : Rat} {n m : Nat} : bB T GR [10, 17] 60 uf (ax uf) ⟨aL 0 [.rat q n, .rat r m], [], 0⟩ =
  some (aa.fork (decide (q < 0) == decide (r < 0)) (aa.fork (bif true then decide (q.num.natAbs = r.num.natAbs) else false) (aa.ag [(0 : Nat) < 1, (0 : Nat) < 1, (decide (q < 0) == decide (r < 0)) = true, (0 : Nat) < 1, (0 : Nat) < 1, nl q.num.natAbs < 2 ^ 40, nl r.num.natAbs < 2 ^ 40, (bif true then decide (q.num.natAbs = r.num.natAbs) else false) = true, (0 : Nat) < 1, (0 : Nat) < 1, nl (if q.den = 1 then 0 else q.den) < 2 ^ 40, nl (if r.den = 1 then 0 else r.den) < 2 ^ 40] (aa.leaf aj.ret [AV.bool (bif true then decide ((if q.den = 1 then 0 else q.den) = if r.den = 1 then 0 else r.den) else false)])) (aa.ag [(0 : Nat) < 1, (0 : Nat) < 1, (decide (q < 0) == decide (r < 0)) = true, (0 : Nat) < 1, (0 : Nat) < 1, nl q.num.natAbs < 2 ^ 40, nl r.num.natAbs < 2 ^ 40, (bif true then decide (q.num.natAbs = r.num.natAbs) else false) = false] (aa.leaf aj.ret [AV.bool false]))) (aa.fork false (aa.ag [(0 : Nat) < 1, (0 : Nat) < 1, (decide (q < 0) == decide (r < 0)) = false, false = true, (0 : Nat) < 1, (0 : Nat) < 1, nl (if q.den = 1 then 0 else q.den) < 2 ^ 40, nl (if r.den = 1 then 0 else r.den) < 2 ^ 40] (aa.leaf aj.ret [AV.bool (bif true then decide ((if q.den = 1 then 0 else q.den) = if r.den = 1 then 0 else r.den) else false)])) (aa.ag [(0 : Nat) < 1, (0 : Nat) < 1, (decide (q < 0) == decide (r < 0)) = false, false = false] (aa.leaf aj.ret [AV.bool false])))) := by kernel_rfl
theorem Rk {q : Rat} {n : Nat} : bB T GR [3, 8] 60 vp (ax vp) ⟨aL 0 [.rat q n], [], 0⟩ =
  some (aa.ag [(0 : Nat) < 1, nl q.num.natAbs < 2 ^ 40] (aa.fork ((↑(aZ q.num.natAbs) : Int) == (0 : Int)) (aa.leaf aj.ret [int IntKind.i64 (0 : Int)]) (aa.ag [(0 : Nat) < 1] (aa.fork (decide (q < 0)) (aa.leaf aj.ret [int IntKind.i64 (-1 : Int)]) (aa.leaf aj.ret [int IntKind.i64 (1 : Int)]))))) := by kernel_rfl
theorem Uf {q : Rat} {n : Nat} : bB T GR [] 60 um (ax um) ⟨aL 0 [.rat q n], [], 0⟩ =
  some (aa.ag [(0 : Nat) < 1, (0 : Nat) < 1, nl q.num.natAbs < 2 ^ 40, (0 : Nat) < 1, nl (if q.den = 1 then 0 else q.den) < 2 ^ 40, (0 : Nat) < 1] (aa.ag [(0 : Nat) < 1] (aa.leaf aj.ret [agg [AV.bool (decide (q < 0)), mag q.num.natAbs, mag (if q.den = 1 then 0 else q.den)]]))) := by kernel_rfl
theorem PI {n : Int} : bB T GR [4] 60 uu (ax uu) ⟨aL 0 [.int .i64 n], [], 0⟩ =
  some (aa.fork (n == (-9223372036854775808 : Int)) (aa.ag [(0 : Int) ≤ (9223372036854775808 : Int) ∧ (9223372036854775808 : Int) < (2 : Int) ^ 64] (aa.leaf aj.ret [mag 9223372036854775808])) (aa.ag [(0 : Int) ≤ IntKind.u64.wrap (if n < IntKind.i64.wrap ((0 : Int) - n) then IntKind.i64.wrap ((0 : Int) - n) else n) ∧ IntKind.u64.wrap (if n < IntKind.i64.wrap ((0 : Int) - n) then IntKind.i64.wrap ((0 : Int) - n) else n) < (2 : Int) ^ 64] (aa.leaf aj.ret [mag (IntKind.u64.wrap (if n < IntKind.i64.wrap ((0 : Int) - n) then IntKind.i64.wrap ((0 : Int) - n) else n)).toNat]))) := by kernel_rfl
abbrev ij : List Nat := [0, 1, 2, 6]
abbrev mL (b : Bool) (N D : Nat) : List AV := [.bool b, .mag N, .mag D, .ptr 0 0 3 0 []]
abbrev oZ : aD := [(0, ⟨false, true, 3, 1, fun _ => .rat 0 1⟩)]
theorem TT {b : Bool} {N D : Nat} : aI T GR [11, 15] 60 ij ((before (ax cR) [1,1,1,1]).take 2) ⟨aL 0 [.bool b, .mag N, .mag D], [], 0⟩ =
  some (aa.fork ((↑(aZ N) : Int) == (0 : Int)) (aa.ag [nl N < 2 ^ 40, ((↑(aZ N) : Int) == (0 : Int)) = true] (aa.fork true (aa.ag [(0 : Nat) < 1] (aa.leaf aj.ret ([AV.bool b, mag N, mag D, ptr 0 0 3 0 []], [((0 : Nat), ⟨false, true, 3, 1, fun (j : Nat) ↦ if (j == 0) = true then bC (agg (rat 0 1).kids) else rat 0 1⟩)]))) (aa.leaf aj.normal ([AV.bool b, mag N, mag D, ptr 0 0 3 0 []], [((0 : Nat), ⟨false, true, 3, 1, fun (x : Nat) ↦ rat 0 1⟩)])))) (aa.ag [nl N < 2 ^ 40, ((↑(aZ N) : Int) == (0 : Int)) = false, nl D < 2 ^ 40] (aa.fork (bif false then true else (↑(aZ D) : Int) == (0 : Int)) (aa.ag [(0 : Nat) < 1] (aa.leaf aj.ret ([AV.bool b, mag N, mag D, ptr 0 0 3 0 []], [((0 : Nat), ⟨false, true, 3, 1, fun (j : Nat) ↦ if (j == 0) = true then bC (agg (rat 0 1).kids) else rat 0 1⟩)]))) (aa.leaf aj.normal ([AV.bool b, mag N, mag D, ptr 0 0 3 0 []], [((0 : Nat), ⟨false, true, 3, 1, fun (x : Nat) ↦ rat 0 1⟩)]))))) := by kernel_rfl
theorem J5 {b : Bool} {N D : Nat} : iZ T cR .ret ⟨aC ij (mL b N D), [(0, ⟨false, true, 3, 1, fun j => if j = 0 then bC (.agg (AV.kids (.rat 0 1))) else .rat 0 1⟩)], 1⟩ =
  some (aa.ag [(0 : Nat) < 1] (aa.leaf aj.ret [agg [AV.bool false, mag 0, mag 0]])) := by kernel_rfl
theorem Wp {b : Bool} {N D : Nat} {q : Rat} {k : Nat} : iZ T cR .ret ⟨aC ij (mL b N D), [(0, ⟨false, true, 3, 1, fun j => if j = 0 then bC (.rat q k) else .rat 0 1⟩)], 1⟩ =
  some (aa.ag [(0 : Nat) < 1] (aa.leaf aj.ret [rat q k])) := by kernel_rfl
theorem aaX {b : Bool} {N D : Nat} : aI T GR [20, 24] 60 ij (((before (ax cR) [1,1,1,1]).drop 2).take 1) ⟨aC ij (mL b N D), oZ, 1⟩ =
  some (aa.fork (decide ((↑(nl N) : Int) ≤ (2 : Int))) (aa.ag [decide ((↑(nl N) : Int) ≤ (2 : Int)) = true] (aa.fork (bif true then decide ((↑(nl D) : Int) ≤ (2 : Int)) else false) (aa.ag [nl N ≤ 2, nl D ≤ 2, (0 : Int) ≤ (↑N : Int) ∧ (↑N : Int) < (2 : Int) ^ 64, (0 : Int) < (↑D : Int) ∧ (↑D : Int) < (2 : Int) ^ 64, (0 : Nat) < 1] (aa.leaf aj.ret ([AV.bool b, mag N, mag D, ptr 0 0 3 0 []], [((0 : Nat), ⟨false, true, 3, 1, fun (j : Nat) ↦ if (j == 0) = true then bC (rat (sQ b (↑N : Int).toNat (↑D : Int).toNat) (bS (sQ b (↑N : Int).toNat (↑D : Int).toNat))) else rat 0 1⟩)]))) (aa.leaf aj.normal ([AV.bool b, mag N, mag D, ptr 0 0 3 0 []], [((0 : Nat), ⟨false, true, 3, 1, fun (x : Nat) ↦ rat 0 1⟩)])))) (aa.ag [decide ((↑(nl N) : Int) ≤ (2 : Int)) = false] (aa.fork false (aa.ag [nl N ≤ 2, nl D ≤ 2, (0 : Int) ≤ (↑N : Int) ∧ (↑N : Int) < (2 : Int) ^ 64, (0 : Int) < (↑D : Int) ∧ (↑D : Int) < (2 : Int) ^ 64, (0 : Nat) < 1] (aa.leaf aj.ret ([AV.bool b, mag N, mag D, ptr 0 0 3 0 []], [((0 : Nat), ⟨false, true, 3, 1, fun (j : Nat) ↦ if (j == 0) = true then bC (rat (sQ b (↑N : Int).toNat (↑D : Int).toNat) (bS (sQ b (↑N : Int).toNat (↑D : Int).toNat))) else rat 0 1⟩)]))) (aa.leaf aj.normal ([AV.bool b, mag N, mag D, ptr 0 0 3 0 []], [((0 : Nat), ⟨false, true, 3, 1, fun (x : Nat) ↦ rat 0 1⟩)]))))) := by kernel_rfl
theorem O8 {b : Bool} {N D : Nat} : aI T GR [36] 60 ij ((before (ax cR) [1,1,1,1]).drop (2 + 1)) ⟨aC ij (mL b N D), oZ, 1⟩ =
  some (aa.ag [nl N < 2 ^ 40, nl D < 2 ^ 40] (aa.ag [nl (N.gcd D) < 2 ^ 40] (aa.fork (decide ((↑(aZ (N.gcd D)) : Int) > (1 : Int))) (aa.ag [nl N < 2 ^ 40, nl (N.gcd D) < 2 ^ 40] (aa.ag [nl D < 2 ^ 40, nl (N.gcd D) < 2 ^ 40] (aa.leaf aj.normal ([AV.bool b, mag (N / N.gcd D), mag (D / N.gcd D), ptr 0 0 3 0 []], [((0 : Nat), ⟨false, true, 3, 1, fun (x : Nat) ↦ rat 0 1⟩)])))) (aa.leaf aj.normal ([AV.bool b, mag N, mag D, ptr 0 0 3 0 []], [((0 : Nat), ⟨false, true, 3, 1, fun (x : Nat) ↦ rat 0 1⟩)]))))) := by kernel_rfl
theorem Nw {b : Bool} {N D : Nat} : cq T GR [58, 63] 60 cR [part (ax cR) [1,1,1,1]] ⟨aC ij (mL b N D), oZ, 1⟩ =
  some (aa.ag [nl N < 2 ^ 40, (0 : Nat) < 2 ^ 40, nl D < 2 ^ 40, (0 : Nat) < 2 ^ 40] (aa.fork ((↑(nl (D + 0)) : Int) == (1 : Int)) (aa.ag [((↑(nl (D + 0)) : Int) == (1 : Int)) = true, (0 : Int) ≤ (0 : Int) ∧ Int.toNat (0 : Int) < nl (D + 0)] (aa.fork (bif true then (↑(au (D + 0) (Int.toNat (0 : Int))) : Int) == (1 : Int) else false) (aa.ag [(0 : Nat) < 1] (aa.ag [(0 : Nat) < 1] (aa.leaf aj.ret [agg [AV.bool b, mag (N + 0), nil]]))) (aa.ag [(0 : Nat) < 1] (aa.ag [(0 : Nat) < 1] (aa.leaf aj.ret [agg [AV.bool b, mag (N + 0), mag (D + 0)]]))))) (aa.ag [((↑(nl (D + 0)) : Int) == (1 : Int)) = false] (aa.fork false (aa.ag [(0 : Nat) < 1] (aa.ag [(0 : Nat) < 1] (aa.leaf aj.ret [agg [AV.bool b, mag (N + 0), nil]]))) (aa.ag [(0 : Nat) < 1] (aa.ag [(0 : Nat) < 1] (aa.leaf aj.ret [agg [AV.bool b, mag (N + 0), mag (D + 0)]]))))))) := by kernel_rfl
theorem gu {a b v : Bool} (h : (bif true then a else b) = v) : a = v := h
theorem AY {N : Nat} : aZ N = 0 ↔ N = 0 := by unfold aZ; split <;> simp_all
theorem LU {N : Nat} : aZ N ≤ 1 ↔ N ≤ 1 := by rw [gy]; omega
theorem gH {N : Nat} : nl N = 0 ↔ N = 0 := by
 constructor
 ·intro h
  rcases Nat.eq_zero_or_pos N with h1 | h1
  ·exact h1
  ·have := eP.2 (show N ≠ 0 by omega); omega
 ·intro h; subst h; rfl
theorem aaq {b : Bool} {n : Nat} : sQ b n 0 = 0 := by unfold sQ; simp
theorem Kf {b : Bool} {x : Nat} : bA (.agg [.bool b, .mag x, .nil]) (.agg [.bool b, .mag x, .mag 0]) := ee ⟨.refl _, .refl _, iG, trivial⟩
theorem Vn {b : Bool} {N D : Nat} (hN : nl N < 2 ^ 40) (hD : nl D < 2 ^ 40) (K : Nat) (pre : aD) : aA P qK K [.bool b, .mag N, .mag D] pre (aG (.rat (sQ b N D) (bS (sQ b N D))) []) := by
 refine gb hT Qk rfl (of_decide_eq_true (by kernel_rfl)) rfl (fun _ c h0 => ?_) K pre
 have hO : ∀ {v : AV}, keys v = [] → fk 1 [(0, (⟨false, true, 3, 1, fun j => if j = 0 then v else .rat 0 1⟩ : az))] := fun h => ⟨⟨by omega, fun i _ => by show keys (if i = 0 then _ else _) = []; split; exact h; rfl⟩, trivial⟩
 have hO' : fk 1 oZ := ⟨⟨by omega, fun _ _ => rfl⟩, trivial⟩
 have hz : sQ b N D = 0 → bA (.agg [.bool false, .mag 0, .mag 0]) (.rat (sQ b N D) (bS (sQ b N D))) := fun h => by
  rw [h]; exact kz
 refine aq.hole [1,1,1,1] (by kernel_rfl) (aB.chunk 2 (aB.aX hT kE hm 60 ij TT (by kernel_rfl) ?_))
 simp only [aa.all, ay, beq_iff_eq, beq_eq_false_iff_ne, ne_eq]
 -- behind the first questions
 have rest : ∀ {s' : aE}, N ≠ 0 → D ≠ 0 → aU ij s' = some (mL b N D, oZ) →
   aB P c cR.ntmps ((before (ax cR) [1,1,1,1]).drop 2) s' (cP (fun s' => aq P c cR.ntmps (part (ax cR) [1,1,1,1]) s' (cP (fun s' => aB P c cR.ntmps (behind (ax cR) [1,1,1,1]) s' (dc c (Fin T cR (.rat (sQ b N D) (bS (sQ b N D)))))) (dc c (Fin T cR (.rat (sQ b N D) (bS (sQ b N D)))))))
    (dc c (Fin T cR (.rat (sQ b N D) (bS (sQ b N D)))))) := by
  intro s' hN0 hD0 hv
  have last : ∀ {s' : aE} {X Y : Nat}, nl X < 2 ^ 40 → nl Y < 2 ^ 40 → X = N / Nat.gcd N D → Y = D / Nat.gcd N D → aU ij s' = some (mL b X Y, oZ) →
    aq P c cR.ntmps (part (ax cR) [1,1,1,1]) s' (cP (fun s' => aB P c cR.ntmps (behind (ax cR) [1,1,1,1]) s' (dc c (Fin T cR (.rat (sQ b N D) (bS (sQ b N D)))))) (dc c (Fin T cR (.rat (sQ b N D) (bS (sQ b N D)))))) := by
   intro s' X Y hX hY eX eY hv
   refine aq.mono (Q := cP (fun s' => aB P c cR.ntmps [] s' (dc c (Fin T cR (.rat (sQ b N D) (bS (sQ b N D)))))) (dc c (Fin T cR (.rat (sQ b N D) (bS (sQ b N D)))))) ?_ fun e s' h => by cases e <;> exact h
   refine aB.iC (l := [part (ax cR) [1,1,1,1]]) hT kE hm 60 hv (h0 _) rfl hO' Nw (by kernel_rfl) rfl ?_
   simp only [aa.all, ay, beq_iff_eq, beq_eq_false_iff_ne, ne_eq, Nat.add_zero, Int.toNat_zero]
   have hY0 : Y ≠ 0 := by rw [eY]; exact Nat.pos_iff_ne_zero.1 (Nat.div_pos (Nat.le_of_dvd (by omega) (Nat.gcd_dvd_right _ _)) (Nat.gcd_pos_of_pos_left _ (by omega)))
   have h1 : Y ≠ 1 → bA (.agg [.bool b, .mag X, .mag Y]) (.rat (sQ b N D) (bS (sQ b N D))) := fun h => pU hN0 hD0 eX (by rw [← eY, if_neg h]) sO
   have h2 : Y = 1 → bA (.agg [.bool b, .mag X, .nil]) (.rat (sQ b N D) (bS (sQ b N D))) := fun h => Kf.trans (pU hN0 hD0 eX (by rw [← eY, if_pos h]) sO)
   have hl : nl Y = 1 → au Y 0 = Y := fun h => by
    have := eC (N := Y)
    rw [h, val, val] at this
    simpa using this
   refine ⟨⟨hX, by omega, hY, by omega⟩, fun hb => ⟨⟨hb, by omega, by omega⟩, fun hc => ⟨by omega, by omega, h2 ?_⟩, fun hc => ⟨by omega, by omega, h1 ?_⟩⟩, fun hb => ⟨hb, fun h => by simp at h, fun _ => ⟨by omega, by omega, h1 ?_⟩⟩⟩
   ·have := gu hc
    rw [hl (by omega)] at this
    have := eq_of_beq this
    omega
   ·have := gu hc
    rw [hl (by omega)] at this
    intro h
    rw [h] at this
    simp at this
   ·intro h
    rw [h] at hb
    exact hb (by decide)
  refine aB.chunk 1 (aB.dN hT kE hm 60 hv (h0 _) rfl hO' ij aaX (by kernel_rfl) rfl ?_)
  simp only [aa.all, ay, decide_eq_true_eq, decide_eq_false_iff_not, Int.toNat_natCast, beq_iff_eq]
  have long : ∀ {s' : aE}, aU ij s' = some (mL b N D, oZ) → aB P c cR.ntmps (((before (ax cR) [1,1,1,1]).drop 2).drop 1) s' (cP (fun s' => aq P c cR.ntmps (part (ax cR) [1,1,1,1]) s' (cP (fun s' => aB P c cR.ntmps (behind (ax cR) [1,1,1,1]) s' (dc c (Fin T cR (.rat (sQ b N D) (bS (sQ b N D)))))) (dc c (Fin T cR (.rat (sQ b N D) (bS (sQ b N D)))))))
    (dc c (Fin T cR (.rat (sQ b N D) (bS (sQ b N D)))))) := by
   intro s' hv
   rw [List.drop_drop]
   refine aB.dN hT kE hm 60 hv (h0 _) rfl hO' ij O8 (by kernel_rfl) rfl ?_
   simp only [aa.all, ay, decide_eq_true_eq, decide_eq_false_iff_not]
   have hg : nl (Nat.gcd N D) < 2 ^ 40 := Nat.lt_of_le_of_lt (fu (Nat.gcd_le_left _ (by omega))) hN
   have hg0 : 0 < Nat.gcd N D := Nat.gcd_pos_of_pos_left _ (by omega)
   refine ⟨⟨hN, hD⟩, hg, fun hb => ⟨⟨hN, hg⟩, ⟨hD, hg⟩, fun s' hv => last (Nat.lt_of_le_of_lt (fu (Nat.div_le_self _ _)) hN) (Nat.lt_of_le_of_lt (fu (Nat.div_le_self _ _)) hD) rfl rfl hv⟩, fun hb s' hv => ?_⟩
   have hg1 : Nat.gcd N D = 1 := by
    have : aZ (Nat.gcd N D) ≤ 1 := by omega
    have := LU.1 this
    omega
   exact last hN hD (by rw [hg1, Nat.div_one]) (by rw [hg1, Nat.div_one]) hv
  refine ⟨fun hb => ⟨hb, fun hc => ⟨?_, fun s' hv => ?_⟩, fun hc s' hv => bP (long hv)⟩, fun hb => ⟨hb, fun h => by simp at h, fun _ s' hv => bP (long hv)⟩⟩
  ·have h2 : nl D ≤ 2 := by have := of_decide_eq_true (gu hc); omega
   have := mE (show nl N ≤ 2 by omega)
   have := mE h2
   exact ⟨by omega, h2, by omega, by omega, by omega⟩
  ·refine dS (dS (xI Wp hv (h0 _) rfl (hO rfl) ⟨by simp [ay], ?_⟩))
   exact .refl _
 refine ⟨fun hb => ⟨⟨hN, hb⟩, fun _ => ⟨by omega, fun s' hv => dS (dS (xI J5 hv (h0 _) rfl (hO rfl) ⟨by simp [ay], hz ?_⟩))⟩, fun h => by simp at h⟩, fun hb => ⟨⟨hN, hb, hD⟩, fun hc => ⟨by omega, fun s' hv => dS (dS (xI J5 hv (h0 _) rfl (hO rfl) ⟨by simp [ay], hz ?_⟩))⟩, fun hc s' hv => bP (rest ?_ ?_ hv)⟩⟩
 ·rw [AY.1 (show aZ N = 0 by omega), A6]
 ·have := eq_of_beq (fJ hc)
  rw [AY.1 (show aZ D = 0 by omega), aaq]
 ·intro h; rw [h] at hb; exact hb (by decide)
 ·intro h
  have := fJ hc
  rw [h] at this
  simp [aZ] at this
end Go.Am.B
