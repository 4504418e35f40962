/- brepkernellaw14.ShapesTurns. -/
import Derived.Test.YtbghpkgbokbmlaaGreatY49
import Derived.Test.YtbghpkgbokbmlaaGreatY53
set_option linter.unusedVariables false
namespace Go.Am.B
open Go Go.Am.N AV aa aj IntKind
theorem FN : aN P zP lQ (au lQ) := aK Re (by kernel_rfl) (by kernel_rfl) (by kernel_rfl)
abbrev je : Nat := 12300
def Bo : Spec := fun K args pre => match args with
 | [.agg [_, _, .ag _ _ f], _] => match f 0 with
  | .agg [.agg (.rat _ n :: _), _] => match Nat.ble n 64 with
   | true => Bv 64 64 400 K args pre
   | false => Bv sQ sW je K args pre
  | _ => none
 | _ => none
abbrev cI (z : Nat → Int) : Nat → AV := fun i => .int .i64 (z i)
noncomputable def E3 : aO := [(Ds, cL T (sG :: iz) [] 60 IG)]
noncomputable def GW : aO := [(FM, cL T (sG :: (E3 ++ (pO ++ iz))) [] 60 Fj)]
noncomputable def Jh : aO := [(DS, cL T (sG :: (GW ++ iz)) [] 60 Gz)]
noncomputable def Co : aO := nG :: (yC, G6) :: (wk, D4) :: (wO, Ir) :: (xS, Gq) :: (tL, fO yt) :: (uV, fO B6) :: (n8, yy) :: (pJ, zR) :: (ny, Bo) :: (tD, Di) :: (uq, DC) :: (sS, JP) :: (A9 ++ (Jh ++ (Af ++ (nV ++ gr))))
abbrev yR : List Nat := [8, 3, 10, 11, 12, 13]
noncomputable abbrev Ck : Code := au lQ
noncomputable abbrev B2 : Code := part Ck [1,1,1,1,1]
abbrev Ii (a : V3) : aB := ⟨false, true, 9, 1, fun _ => vA a 64⟩
abbrev Rd (m : Mp) : aB := ⟨false, true, 36, 1, fun _ => eR m sM⟩
abbrev Bp (m : Mp) (p q : V3) (c : Cu) (k : Int) : aE := ⟨az yR [.bool false, .int .i64 k, .ptr 0 0 36 0 [], .ptr 1 0 9 0 [], .ptr 2 0 9 0 [], .ptr 3 0 3 0 []], [(3, ⟨false, true, 3, 1, fun _ => er c 64 64⟩), (2, Ii q), (1, Ii p), (0, Rd m)], 4⟩
theorem Ux {n : Nat} {z : Nat → Int} {i j k : Int} : aH T Co [22] 60 yR (before Ck [1,1,1,1,1]) ⟨aL 0 [.ag 1 n (cI z), .int .i64 i, .int .i64 j, .int .i64 k], [], 0⟩ =
  let c11 : Int := cK n (cI z) (0 : Int); let c9 : Rat := xJ i j; let c8 : Rat := (↑(1 : Int) : Rat); let c6 : Prop := 0 < 1; let c5 : Int := fy n (cI z) (0 : Int); let c2 : Nat := Max.max 1 (aQ (Int.natAbs (1 : Int))); let c1 : AV := rat 0 1; let c7 : AV := agg [c1, c1, c1]; let c4 : Rat := c8 / (c8 + c9 * c9); let c3 : Nat := c2 + ((64 : Nat) + 64) + 1; let c10 : Nat := 64 + 64 + 1 + (c2 + c3); some (fork (!decide ((↑n : Int) ≤ (500 : Int))) (leaf ret ([AV.bool true, int i64 k, tuple [], tuple [], tuple [], tuple []], [])) (af [c6, c6, bY n (cI z) (0 : Int), bY n (cI z) c5, c6, c6, c6] (af [bY n (cI z) (fy n (cI z) c5), (1 : Int) ≤ (2 : Int), (2 : Int) < (900 : Int), (0 : Int) ≤ (1 : Int), (1 : Int) < (900 : Int), c6] (leaf normal ([AV.bool false, int i64 k, ptr 61440 0 36 0 [], ptr 65536 0 9 0 [], ptr 69632 0 9 0 [], ptr 94208 0 3 0 []], [((94208 : Nat), aB.mk false true 3 1 fun j ↦ if (j == 0) = true then br (er (fN n (cI z) (fy n (cI z) c5) (2 : Int) (Int.toNat (1 : Int)) false) 64 64) else agg [int i64 (0 : Int), nil, nil]), ((69632 : Nat), aB.mk false true 9 1 fun j ↦ if (j == 0) = true then br (agg [rat (dN n (cI z) c5) 64, rat (dN n (cI z) (cK n (cI z) c5)) 64, rat (dN n (cI z) (cK n (cI z) (cK n (cI z) c5))) 64]) else c7), ((65536 : Nat), aB.mk false true 9 1 fun j ↦ if (j == 0) = true then br (agg [rat (dN n (cI z) (0 : Int)) 64, rat (dN n (cI z) c11) 64, rat (dN n (cI z) (cK n (cI z) c11)) 64]) else c7), ((61440 : Nat), aB.mk false true 36 1 fun j ↦ if (j == 0) = true then br (agg [agg [agg [rat ((c8 - c9 * c9) * c4) (c3 + (c2 + c3)), rat (-((c9 + c9) * c4)) c10, c1], agg [rat ((c9 + c9) * c4) c10, rat ((c8 - c9 * c9) * c4 + 0) (c3 + (c2 + c3) + 1 + 1), c1], agg [c1, c1, rat c8 c2]], c7]) else agg [agg [c7, c7, c7], c7])]))))) := by kernel_rfl
theorem XC {m : Mp} {p q : V3} {c : Cu} {k : Int} : bR T Co [200066, 100074, 100080, 100084, 100088, 100095] 60 lQ [B2] (Bp m p q c k) =
  let c26 : V3 := m.m.a; let c25 : V3 := m.m.c; let c24 : V3 := m.m.b; let c23 : Prop := (4 : Int) < (2 : Int) ^ 62; let c21 : Prop := (bif true then (0 : Int) == (0 : Int) else false) = true; let c20 : Int := (2 : Int) ^ 63; let c19 : Prop := sM ≤ sM; let c17 : Prop := (3 : Int) ≠ (0 : Int); let c16 : Rat := 0 + (p.x - q.x) * (p.x - q.x) + (p.y - q.y) * (p.y - q.y) + (p.z - q.z) * (p.z - q.z); let c8 : Nat := 2 ^ 30; let c6 : Int := (1 : Int) + k % (4 : Int); let c4 : Prop := 0 < 1; let c1 : Cu := Cu.mk c.p c.n (fun i ↦ bg (rat (c.k i) 64)) c.m fun i ↦ iG (cU (c.f i) 64); let c22 : List Prop := [(1 : Int) ≤ c6, c6 ≤ (4 : Int), c.n < c8, c.m < c8, c4]; let c13 : Rat := 0 + c26.x * p.x + c26.y * p.y + c26.z * p.z + m.t.x - ((0 : Rat) + c26.x * q.x + c26.y * q.y + c26.z * q.z + m.t.x); let c12 : Rat := 0 + c24.x * p.x + c24.y * p.y + c24.z * p.z + m.t.y - ((0 : Rat) + c24.x * q.x + c24.y * q.y + c24.z * q.z + m.t.y); let c11 : Rat := 0 + c25.x * p.x + c25.y * p.y + c25.z * p.z + m.t.z - ((0 : Rat) + c25.x * q.x + c25.y * q.y + c25.z * q.z + m.t.z); let c10 : Rat := 0 + c26.x * (c24.y * c25.z - c24.z * c25.y) + c26.y * (c24.z * c25.x - c24.x * c25.z) + c26.z * (c24.x * c25.y - c24.y * c25.x); let c9 : Nat := qB (cB (e8 c1 0) c.m 400); let c5 : Nat := 2 * c6.toNat; let c2 : Mp := Mp.mk (M3.mk (V3.mk c26.x c26.y c26.z) (V3.mk c24.x c24.y c24.z) (V3.mk c25.x c25.y c25.z)) (V3.mk m.t.x m.t.y m.t.z); let c18 : Nat := c5 + 4; let c15 : Nat := qB (cB (fun j ↦ iu c2 (kZ (fun i ↦ cB (e8 c1 i) c.m 400) 0 j)) c9 sW); let c14 : Nat := c5 + 1; let c7 : Cu := Cu.mk c.p c.n (fun i ↦ bg (rat (bg (rat (c.k i) 64)) sQ)) c.m fun i ↦ iG (cU (iu c2 (iG (cU (c.f i) 64))) sW); let c3 : Rat := 0 + c13 * c13 + c12 * c12 + c11 * c11; some (af [c4, c4, c4, c4, c4, c4, c4, c4, c4, c4, c4, c4, c4, c4, c4, c4, c4, c4, c4, c4, c4, c4, c4, c4] (af (c4 :: ((0 : Int) < (4 : Int)) :: c23 :: (-c20 ≤ c6 ∧ c6 < c20) :: b9 (fun i ↦ rat (c.k i) 64) c.n 64 :: iT (fun i ↦ cU (c.f i) 64) c.m 64 :: ((64 : Nat) + 10 ≤ 400) :: ((2 : Nat) * 64 + 200 ≤ 400) :: ((400 : Nat) < 2 ^ 40) :: c22) (af (c4 :: c4 :: b9 (fun i ↦ rat (c.k i) 64) c.n sQ :: iT (fun i ↦ cU (c.f i) 64) c.m sQ :: (Max.max sM sM ≤ sM) :: c19 :: c19 :: c19 :: c19 :: c19 :: c19 :: c19 :: c19 :: c19 :: c19 :: (c.n < c8) :: (c.m < c8) :: ((0 : Int) < (4 : Int)) :: c23 :: (-c20 ≤ c6 ∧ c6 < c20) :: b9 (fun i ↦ rat (bg (rat (c.k i) 64)) sQ) c.n sQ :: iT (fun i ↦ cU (iu c2 (iG (cU (c.f i) 64))) sW) c.m sW :: (sQ + 10 ≤ je) :: ((2 : Nat) * sW + 200 ≤ je) :: (je < 2 ^ 40) :: c22) (af [c4, b9 (fun i ↦ rat (dP c6.toNat i) 400) c18 2048, b9 (fun i ↦ rat (bg (rat (c.k i) 64)) 400) c.n 2048, nq (fun i ↦ cB (e8 c1 i) c.m 400) c14 2048, wQ (Sf.mk (2 : Int) c.p c18 (fun i ↦ bg (rat (dP c6.toNat i) 400)) c.n (fun i ↦ bg (rat (bg (rat (c.k i) 64)) 400)) c14 c9 (kZ fun i ↦ cB (e8 c1 i) c.m 400))] (af [((0 : Int) != (0 : Int)) = false] (af [c4, c4, c4, c4, c4, c4, decide (c16 = c3) = true, c4, c17, c17, c17, c17, c17, c17, c4, c4, c4, c4, (bif true then decide (c10 = (↑(1 : Int) : Rat)) else false) = true, c21, c21, c4, c4, b9 (fun i ↦ rat (dP c6.toNat i) 400) c18 sQ, b9 (fun i ↦ rat (bg (rat (c.k i) 64)) 400) c.n sQ, nq (fun i ↦ cB (e8 c1 i) c.m 400) c14 sQ, Max.max sM sM ≤ sM, c19, c19, c19, c19, c19, c19, c19, c19, c19, c19, (1 : Nat) ≤ c14, c14 < c8, c18 < c8, c.n < c8, c9 < c8, c4, b9 (fun i ↦ rat (bg (rat (dP c6.toNat i) 400)) sQ) c18 sU, b9 (fun i ↦ rat (bg (rat (bg (rat (c.k i) 64)) 400)) sQ) c.n sU, nq (fun i ↦ cB (fun j ↦ iu c2 (kZ (fun i ↦ cB (e8 c1 i) c.m 400) i j)) c9 sW) c14 sU, b9 (fun i ↦ rat (dP c6.toNat i) je) c18 sU, b9 (fun i ↦ rat (bg (rat (bg (rat (c.k i) 64)) sQ)) je) c.n sU, nq (fun i ↦ cB (e8 c7 i) c.m je) c14 sU, z9 (Sf.mk (2 : Int) c.p c18 (fun i ↦ bg (rat (bg (rat (dP c6.toNat i) 400)) sQ)) c.n (fun i ↦ bg (rat (bg (rat (bg (rat (c.k i) 64)) 400)) sQ)) c14 c15 (kZ fun i ↦ cB (fun j ↦ iu c2 (kZ (fun i ↦ cB (e8 c1 i) c.m 400) i j)) c9 sW)) (Sf.mk (2 : Int) c.p c18 (fun i ↦ bg (rat (dP c6.toNat i) je)) c.n (fun i ↦ bg (rat (bg (rat (bg (rat (c.k i) 64)) sQ)) je)) c14 (qB (cB (e8 c7 0) c.m je)) (kZ fun i ↦ cB (e8 c7 i) c.m je)), c14 < c8, c15 < c8, c18 < c8, c.n < c8, (bif true then true else false) = true] (leaf ret [AV.bool true]))))))) := by kernel_rfl
theorem Pw : ∀ K args pre r, Bo K args pre = some r → aA P ny K args pre r := by
 intro K args pre r h
 unfold Bo at h
 split at h
 ·split at h
  ·split at h
   ·exact G7 _ _ _ _ _ _ _ h
   ·exact G7 _ _ _ _ _ _ _ h
  ·simp at h
 ·simp at h
theorem W9 : aV P E3 := aD (cV hT (cQ iD) hm (aK KF (by kernel_rfl) (by kernel_rfl) (by kernel_rfl)) _ _) aU
theorem Tl : aV P GW := aD (cV hT (cQ (fl W9 (fl vh iD))) hm (aK Yc (by kernel_rfl) (by kernel_rfl) (by kernel_rfl)) _ _) aU
theorem Zv : aV P Jh := aD (cV hT (cQ (fl Tl iD)) hm (aK Uy (by kernel_rfl) (by kernel_rfl) (by kernel_rfl)) _ _) aU
theorem HC : aV P Co := eF (aD Yt (aD Th (aD Sq (aD Ta (aD HW (aD abw (aD BP (aD DW (aD Pw (aD SJ (aD Rj (aD Yh (fl J5 (fl Zv (fl Fu (fl pN gP))))))))))))))))
theorem aaZ {i : Nat} (h : i < 9) : 0 < (eV i : Rat) := by
 match i, h with
 | 0, _ | 1, _ | 2, _ | 3, _ | 4, _ | 5, _ | 6, _ | 7, _ | 8, _ => decide +kernel
theorem Xo {t f : Rat} (h : (1 + t * t) * f = 1) : ((1 - t * t) * f) * ((1 - t * t) * f) + ((t + t) * f) * ((t + t) * f) = 1 := by grind
abbrev ym (C S : Rat) : Mp := ⟨⟨⟨C, -S, 0⟩, ⟨S, C, 0⟩, ⟨0, 0, 1⟩⟩, ⟨0, 0, 0⟩⟩
theorem Oo {t : Rat} : (1 + t * t) * (((1 : Int) : Rat) / (((1 : Int) : Rat) + t * t)) = 1 := by
 have h : (0 : Rat) ≤ t * t := by
  rcases Rat.le_total (a := (0 : Rat)) (b := t) with h | h
  ·exact Rat.mul_nonneg h h
  ·have := Rat.mul_nonneg (show (0 : Rat) ≤ -t by grind) (show (0 : Rat) ≤ -t by grind)
   grind
 show (1 + t * t) * (1 / (1 + t * t)) = 1
 grind
theorem LY {C S : Rat} {c : Cu} {i j : Nat} : iu (ym C S) (e8 c i j) = e8 (ug (ym C S) c) i j := by
 show (⟨⟨_, _, _⟩, _⟩ : Pl) = ⟨⟨_, _, _⟩, _⟩
 congr 1
 ·show (⟨_, _, _⟩ : V3) = ⟨_, _, _⟩
  congr 1
  ·show 0 + C * ((dg i : Rat) * (c.f j).n.x - (de i : Rat) * (c.f j).n.y) + -S * ((de i : Rat) * (c.f j).n.x + (dg i : Rat) * (c.f j).n.y) + 0 * (c.f j).n.z + 0 = (dg i : Rat) * (0 + C * (c.f j).n.x + -S * (c.f j).n.y + 0 * (c.f j).n.z + 0) - (de i : Rat) * (0 + S * (c.f j).n.x + C * (c.f j).n.y + 0 * (c.f j).n.z + 0)
   grind
  ·show 0 + S * ((dg i : Rat) * (c.f j).n.x - (de i : Rat) * (c.f j).n.y) + C * ((de i : Rat) * (c.f j).n.x + (dg i : Rat) * (c.f j).n.y) + 0 * (c.f j).n.z + 0 = (de i : Rat) * (0 + C * (c.f j).n.x + -S * (c.f j).n.y + 0 * (c.f j).n.z + 0) + (dg i : Rat) * (0 + S * (c.f j).n.x + C * (c.f j).n.y + 0 * (c.f j).n.z + 0)
   grind
  ·show 0 + 0 * ((dg i : Rat) * (c.f j).n.x - (de i : Rat) * (c.f j).n.y) + 0 * ((de i : Rat) * (c.f j).n.x + (dg i : Rat) * (c.f j).n.y) + 1 * (c.f j).n.z + 0 = 0 + 0 * (c.f j).n.x + 0 * (c.f j).n.y + 1 * (c.f j).n.z + 0
   grind
theorem Vo {C S : Rat} (h1 : C * C + S * S = 1) {p q : V3} : 0 + (p.x - q.x) * (p.x - q.x) + (p.y - q.y) * (p.y - q.y) + (p.z - q.z) * (p.z - q.z) = 0 + (0 + C * p.x + -S * p.y + 0 * p.z + 0 - (0 + C * q.x + -S * q.y + 0 * q.z + 0)) * (0 + C * p.x + -S * p.y + 0 * p.z + 0 - (0 + C * q.x + -S * q.y + 0 * q.z + 0)) + (0 + S * p.x + C * p.y + 0 * p.z + 0 - (0 + S * q.x + C * q.y + 0 * q.z + 0)) * (0 + S * p.x + C * p.y + 0 * p.z + 0 - (0 + S * q.x + C * q.y + 0 * q.z + 0)) + (0 + 0 * p.x + 0 * p.y + 1 * p.z + 0 - (0 + 0 * q.x + 0 * q.y + 1 * q.z + 0)) * (0 + 0 * p.x + 0 * p.y + 1 * p.z + 0 - (0 + 0 * q.x + 0 * q.y + 1 * q.z + 0)) := by
 grind
theorem aaW {C S : Rat} (h1 : C * C + S * S = 1) : 0 + C * (C * 1 - 0 * 0) + -S * (0 * 0 - S * 1) + 0 * (S * 0 - C * 0) = ((1 : Int) : Rat) := by
 show _ = (1 : Rat)
 grind
theorem QK {cx : Ctx} (hk : Kept [] cx) {C S : Rat} (h1 : C * C + S * S = 1) {p q : V3} {c : Cu} {k : Int} (hkn : Kn c.n c.p.toNat c.k) (hp1 : 1 ≤ c.p) (h3 : c.p ≤ 2) (hm2 : (c.m : Int) = (c.n : Int) - c.p - 1) (hml : c.m ≤ 6) (hw : ∀ i, 0 < (c.f i).d) :
  ak P cx lQ.ntmps B2 (Bp (ym C S) p q c k) (dD cx (Fin T lQ (.bool true))) := by
 have hd0 := Int.emod_nonneg k (show (4 : Int) ≠ 0 by omega)
 have hd1 := Int.emod_lt_of_pos k (show (0 : Int) < 4 by omega)
 obtain ⟨u, hu⟩ : ∃ u, u = (1 + k % 4).toNat := ⟨_, rfl⟩
 have hu2 : 1 + k % 4 = (u : Int) := by omega
 have hu1 : 1 ≤ u := by omega
 have hu4 : u ≤ 4 := by omega
 have hl := hkn.len
 have hso : wQ (PM c u) := ⟨Wk hu1, hkn, by show (0 : Int) ≤ 2; omega, by show (2 : Int) ≤ 6; omega, by show (0 : Int) ≤ c.p; omega, by show c.p ≤ 6; omega, by show 2 * u + 4 ≤ 2 + 41; omega, by show c.n ≤ c.p.toNat + 41; omega, by show ((2 * u + 1 : Nat) : Int) = ((2 * u + 4 : Nat) : Int) - 2 - 1; omega, hm2, fun i j hi _ => Rat.mul_pos (aaZ (show i < 9 by have : i < 2 * u + 1 := hi; omega)) (hw j)⟩
 refine ak.iZ ((ay.fin hT HC hm 60 XC (by kernel_rfl) ?_).mono fun _ _ h => .inl h)
 simp only [aa.all, ax, hu2, Int.toNat_natCast]
 (repeat' with_reducible refine And.intro ?_ ?_)
 all_goals first | omega | (with_reducible exact en (by decide)) | (with_reducible exact oW (by decide)) | (with_reducible exact Iw (by decide)) | exact hso | rfl | decide | exact (show c.m < 2 ^ 30 by omega) | skip
 ·exact decide_eq_true (Vo h1)
 ·exact decide_eq_true (aaW h1)
 ·exact ⟨rfl, rfl, rfl, fun _ _ => rfl, rfl, fun _ _ => rfl, rfl, rfl, fun _ _ _ _ => LY⟩
 ·exact .refl _
theorem Ly {n : Nat} {z : Nat → Int} {i j k : Int} (K : Nat) : aA P zP K [.ag 1 n (fun i => .int .i64 (z i)), .int .i64 i, .int .i64 j, .int .i64 k] [] (aG (.bool true) []) := by
 refine eZ (r := aG (.bool true) []) hT FN rfl (of_decide_eq_true (by kernel_rfl)) rfl (fun _ cx h0 => ?_) K []
 have hk := jM h0
 have hret : jz lQ yR (.bool true) ([AV.bool true, .int .i64 k, tuple [], tuple [], tuple [], tuple []], []) := ⟨[.bool true], by kernel_rfl, bu.refl _⟩
 refine ak.hole [1,1,1,1,1] (by kernel_rfl) (ay.aY hT HC hm 60 yR Ux (mO FN.dst) ?_)
 simp only [aa.all, ax]
 refine ⟨fun h s' hs' => hret.fin hs', fun h => ?_⟩
 have hn : n ≤ 500 := by simp only [Bool.not_eq_false', decide_eq_true_eq] at h; omega
 have hd : bY n (cI z) 0 := ⟨fun i => rfl, by omega, by omega, by omega⟩
 refine ⟨⟨by omega, by omega, hd, hd.mB, by omega, by omega, by omega⟩, ⟨hd.mB.mB, by omega, by omega, by omega, by omega, by omega⟩, fun s' hs' => ?_⟩
 obtain ⟨c, hc⟩ : ∃ c, c = fN n (cI z) (fy n (cI z) (fy n (cI z) 0)) 2 1 false := ⟨_, rfl⟩
 obtain ⟨p, hp⟩ : ∃ p : V3, p = ⟨dN n (cI z) 0, dN n (cI z) (cK n (cI z) 0), dN n (cI z) (cK n (cI z) (cK n (cI z) 0))⟩ := ⟨_, rfl⟩
 obtain ⟨q, hq⟩ : ∃ q : V3, q = ⟨dN n (cI z) (fy n (cI z) 0), dN n (cI z) (cK n (cI z) (fy n (cI z) 0)), dN n (cI z) (cK n (cI z) (cK n (cI z) (fy n (cI z) 0)))⟩ := ⟨_, rfl⟩
 obtain ⟨k1, k2, k3, k4, k5, k6⟩ := TT (m := 1) (b := false) hd.mB.mB (show (1 : Int) ≤ 2 by omega)
 rw [← hc] at k1 k2 k3 k4 k5 k6
 obtain ⟨t, ht⟩ : ∃ t, t = xJ i j := ⟨_, rfl⟩
 obtain ⟨f, hf⟩ : ∃ f : Rat, f = ((1 : Int) : Rat) / (((1 : Int) : Rat) + t * t) := ⟨_, rfl⟩
 have hf1 : (1 + t * t) * f = 1 := by
  rw [hf]; exact Oo
 show ak _ _ _ B2 s' _
 rw [show behind Ck [1,1,1,1,1] = [] from by kernel_rfl]
 refine ak.l6 (s2 := Bp (ym ((1 - t * t) * f) ((t + t) * f)) p q c k) (dn.le ⟨[(0, 61440), (1, 65536), (2, 69632), (3, 94208)], rfl, rfl, rfl, ?_⟩ hs' hk) ((QK hk (Xo hf1) k1 k2 k3 k4 (by omega) fun i => by have := (k6 i).1; grind).mono fun e s' h => by cases e <;> exact h)
 refine aT rfl rfl (aP rfl (by rw [hc]; rfl)) (aT rfl rfl (aP rfl (by rw [hq]; rfl)) (aT rfl rfl (aP rfl (by rw [hp]; rfl)) (aT rfl rfl ?_ trivial)))
 rw [hf, ht]
 exact .inr ⟨rfl, cE ⟨cE ⟨cE ⟨bS rfl (by decide), bS rfl (by decide), bS rfl (by decide), trivial⟩, cE ⟨bS rfl (by decide), bS (Rat.add_zero _) (by decide), bS rfl (by decide), trivial⟩, cE ⟨bS rfl (by decide), bS rfl (by decide), bS rfl (by decide), trivial⟩, trivial⟩, cE ⟨bS rfl (by decide), bS rfl (by decide), bS rfl (by decide), trivial⟩, trivial⟩⟩
end Go.Am.B
