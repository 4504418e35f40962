/- brepkernellaw14.ShapesSwept. -/
import Derived.Test.YtbghpkgbokbmlaaGreatY38
import Derived.Test.YtbghpkgbokbmlaaGreatY44
import Derived.Test.YtbghpkgbokbmlaaGreatY47
import Derived.Test.YtbghpkgbokbmlaaGreatY48
import Derived.Test.YtbghpkgbokbmlaaGreatY52
set_option linter.unusedVariables false
namespace Go.Am.B
open Go Go.Am.N AV aa ag IntKind
theorem FF : aP P CF jh (au jh) := aL WZ (by kernel_rfl) (by kernel_rfl) (by kernel_rfl)
abbrev bY (z : Nat → Int) : Nat → AV := fun i => .int .i64 (z i)
noncomputable def KL : aQ := [(K0, cG T [nG] [] 60 Hj), (Gp, cG T [nG] [] 60 HK), (wV, cG T (sG :: gn) [] 60 qj), (Ea, cG T (sG :: F9) [] 60 HH), (DH, cG T (sG :: gn) [100010] 60 Ls)]
noncomputable def rO : aQ := nG :: (yb, Il) :: (yt, Ji) :: (yA, J3) :: (ua, fX zp) :: (wB, fX CM) :: (tM, JQ) :: (v5, I0) :: (tW, Hw) :: (uH, EO) :: (rH, EP) :: (zI, HY) :: (nY, AJ) :: (rX, BW) :: (KL ++ (IB ++ (yD ++ gn)))
abbrev yE : List Nat := [6, 1, 2, 8, 9, 10, 11, 12]
noncomputable abbrev BK : Code := au jh
abbrev j0 (a : V3) : ay := ⟨false, true, 9, 1, fun _ => vA a 64⟩
abbrev By (a b p q : V3) (c : Cu) (i j : Int) : aE := ⟨aB yE [.bool false, .int .i64 i, .int .i64 j, .ptr 0 0 9 0 [], .ptr 1 0 9 0 [], .ptr 2 0 9 0 [], .ptr 3 0 9 0 [], .ptr 4 0 3 0 []],
 [(4, ⟨false, true, 3, 1, fun _ => cQ c 64 64⟩), (3, j0 q), (2, j0 p), (1, j0 b), (0, j0 a)], 5⟩
noncomputable abbrev qN : Code := part BK [1,1,1,1,1]
noncomputable abbrev m8 : Code := part qN [1,1,1,1,1,1]
abbrev Bt : List Nat := [6, 8, 9, 10, 11, 15, 16, 17, 18, 20]
abbrev z3 (a : V3) (s : Nat) : ay := ⟨false, true, 9, 1, fun _ => vA a s⟩
abbrev Ca (a b p q x y : V3) (f : Rat) (e : Int) (z : Sf) : aE := ⟨aB Bt [.bool false, .ptr 0 0 9 0 [], .ptr 1 0 9 0 [], .ptr 2 0 9 0 [], .ptr 3 0 9 0 [], .ptr 4 0 3 0 [], .ptr 5 0 9 0 [], .int .i64 e, .ptr 6 0 9 0 [], .ptr 7 0 5 0 []],
 [(7, ⟨false, true, 5, 1, fun _ => dU z 64 100⟩), (6, z3 y sE), (5, z3 x iJ), (4, tP f 64), (3, j0 q), (2, j0 p), (1, j0 b), (0, j0 a)], 8⟩
abbrev Ah : List Nat := [6, 9, 10, 21, 23, 25, 26]
abbrev Ad (b p x y : V3) (w : Cu) (e : Int) : aE := ⟨aB Ah [.bool false, .ptr 0 0 9 0 [], .ptr 1 0 9 0 [], .ptr 2 0 9 0 [], .ptr 3 0 9 0 [], .ptr 4 0 3 0 [], .int .i64 e],
 [(4, ⟨false, true, 3, 1, fun _ => cQ w 64 100⟩), (3, z3 y iJ), (2, z3 x iJ), (1, j0 p), (0, j0 b)], 5⟩
theorem abm {n : Nat} {z : Nat → Int} {i j : Int} : aH T rO [31] 60 yE (before BK [1,1,1,1,1]) ⟨aM 0 [.aj 1 n (bY z), .int .i64 i, .int .i64 j], [], 0⟩ =
  let c8 : AV := tuple []; let c7 : Int := cK n (bY z) (0 : Int); let c6 : AV := rat 0 1; let c4 : Prop := 0 < 1; let c3 : Int := eF n (bY z) (0 : Int); let c2 : AV := agg [c6, c6, c6]; let c1 : Int := eF n (bY z) c3; let c5 : Int := eF n (bY z) c1; some (fork (!decide ((↑n : Int) ≤ (500 : Int))) (leaf ret ([AV.bool true, int i64 i, int i64 j, c8, c8, c8, c8, c8], [])) (af [cm n (bY z) (0 : Int), cm n (bY z) c3, cm n (bY z) c1, cm n (bY z) c5, c4, c4, c4, c4] (af [cm n (bY z) (eF n (bY z) c5), (1 : Int) ≤ (3 : Int), (3 : Int) < (900 : Int), (0 : Int) ≤ (2 : Int), (2 : Int) < (900 : Int), c4] (leaf normal ([AV.bool false, int i64 i, int i64 j, ptr 61440 0 9 0 [], ptr 65536 0 9 0 [], ptr 69632 0 9 0 [], ptr 73728 0 9 0 [], ptr 102400 0 3 0 []], [((102400 : Nat), ay.mk false true 3 1 fun j ↦ if (j == 0) = true then bk (cQ (fS n (bY z) (eF n (bY z) c5) (3 : Int) (Int.toNat (2 : Int)) false) 64 64) else agg [int i64 (0 : Int), nil, nil]), ((73728 : Nat), ay.mk false true 9 1 fun j ↦ if (j == 0) = true then bk (agg [rat (dJ n (bY z) c5) 64, rat (dJ n (bY z) (cK n (bY z) c5)) 64, rat (dJ n (bY z) (cK n (bY z) (cK n (bY z) c5))) 64]) else c2), ((69632 : Nat), ay.mk false true 9 1 fun j ↦ if (j == 0) = true then bk (agg [rat (dJ n (bY z) c1) 64, rat (dJ n (bY z) (cK n (bY z) c1)) 64, rat (dJ n (bY z) (cK n (bY z) (cK n (bY z) c1))) 64]) else c2), ((65536 : Nat), ay.mk false true 9 1 fun j ↦ if (j == 0) = true then bk (agg [rat (dJ n (bY z) c3) 64, rat (dJ n (bY z) (cK n (bY z) c3)) 64, rat (dJ n (bY z) (cK n (bY z) (cK n (bY z) c3))) 64]) else c2), ((61440 : Nat), ay.mk false true 9 1 fun j ↦ if (j == 0) = true then bk (agg [rat (dJ n (bY z) (0 : Int)) 64, rat (dJ n (bY z) c7) 64, rat (dJ n (bY z) (cK n (bY z) c7)) 64]) else c2)]))))) := by kernel_rfl
theorem Ux {a b p q : V3} {c : Cu} {i j : Int} : aH T rO [200052, 200056] 60 Bt (before qN [1,1,1,1,1,1]) (By a b p q c i j) =
  let c9 : Nat := Int.toNat (0 : Int); let c8 : Mp := qO (V3.mk a.x a.y a.z); let c7 : Prop := 64 + ((64 : Nat) + ((64 : Nat) + 64 + 1)) + 1 ≤ sK; let c6 : Int := (↑c.n : Int) - (1 : Int); let c5 : AV := rat 0 1; let c3 : Prop := 64 ≤ 64; let c2 : Prop := 0 < 1; let c4 : Rat := c.k c9 + fo i * (c.k c6.toNat - c.k c9); let c1 : Sf := Sf.mk (1 : Int) c.p 4 (fun i ↦ aK (rat (dj i) 130)) c.n (fun i ↦ aK (rat (aK (rat (c.k i) 64)) 130)) 2 (od (ee (fun j ↦ if 0 = 0 then dx (bw (c.f j) 64) else fc c8 (dx (bw (c.f j) 64))) c.m 1400)) (oe fun i ↦ ee (fun j ↦ if i = 0 then dx (bw (c.f j) 64) else fc c8 (dx (bw (c.f j) 64))) c.m 1400); some (af [c2, c2, bM (fun i ↦ rat (c.k i) 64) c.n 64, gd (fun i ↦ bw (c.f i) 64) c.m 64, c3, c3, c3, c.n < 2 ^ 30, c.m < 2 ^ 30, c2] (af [c2, ((↑(2 : Nat) : Int) == (0 : Int)) = false, c2, bM (fun i ↦ rat (dj i) 130) 4 2048, bM (fun i ↦ rat (aK (rat (c.k i) 64)) 130) c.n 2048, kT (fun i ↦ ee (fun j ↦ if i = 0 then dx (bw (c.f j) 64) else fc c8 (dx (bw (c.f j) 64))) c.m 1400) 2 2048, nX c1] (af [(bif false then true else (0 : Int) != (0 : Int)) = false] (af [c2, c2, (0 : Int) ≤ (0 : Int) ∧ c9 < c.n, c2, c2, -(2 : Int) ^ 63 ≤ c6 ∧ c6 < (2 : Int) ^ 63, (0 : Int) ≤ c6 ∧ c6.toNat < c.n, c2, c2, c2, c2, c2] (af [c2, c2, c2, bM (fun i ↦ rat (dj i) 130) 4 sK, bM (fun i ↦ rat (aK (rat (c.k i) 64)) 130) c.n sK, kT (fun i ↦ ee (fun j ↦ if i = 0 then dx (bw (c.f j) 64) else fc c8 (dx (bw (c.f j) 64))) c.m 1400) 2 sK, (64 : Nat) ≤ sK, c7, jo c1, ¬bL 4 (fun i ↦ aK (rat (dj i) 130)) (fo j), c2] (af [c2, c2, bM (fun i ↦ rat (c.k i) 64) c.n sK, gd (fun i ↦ bw (c.f i) 64) c.m sK, c7, Kn c.n c.p.toNat fun i ↦ aK (rat (c.k i) 64), (0 : Int) ≤ c.p, c.p ≤ (6 : Int), c.n < 2 ^ 40, (↑c.m : Int) = (↑c.n : Int) - c.p - (1 : Int), c2] (af [c2, c2, c2, c2, c3, c3, c3, c3, c3, c3, c3, c3, c3, c3, c3, c3, c2] (leaf normal ([AV.bool false, ptr 0 0 9 0 [], ptr 1 0 9 0 [], ptr 2 0 9 0 [], ptr 3 0 9 0 [], ptr 86021 0 3 0 [], ptr 126981 0 9 0 [], int i64 (dr c.n (fun i ↦ aK (rat (aK (rat (c.k i) 64)) 130)) c4), ptr 163845 0 9 0 [], ptr 196613 0 5 0 []], [((196613 : Nat), ay.mk false true 5 1 fun j ↦ if (j == 0) = true then bk (dU (fA (V3.mk a.x a.y a.z) (V3.mk b.x b.y b.z) (V3.mk p.x p.y p.z) (V3.mk q.x q.y q.z)) 64 100) else agg [int i64 (0 : Int), int i64 (0 : Int), nil, nil, nil]), ((163845 : Nat), ay.mk false true 9 1 fun j ↦ if (j == 0) = true then bk (vA (dZ (Cu.mk c.p c.n (fun i ↦ aK (rat (c.k i) 64)) c.m fun i ↦ dx (bw (c.f i) 64)) c4) sE) else agg [c5, c5, c5]), ((126981 : Nat), ay.mk false true 9 1 fun j_1 ↦ if (j_1 == 0) = true then bk (vA (dZ (jD c1 (fo j)) c4) iJ) else agg [c5, c5, c5]), ((86021 : Nat), ay.mk false true 3 1 fun j_1 ↦ if (j_1 == 0) = true then bk (rat (fo j) 64) else c5), ((3 : Nat), ay.mk false true 9 1 fun x ↦ agg [rat q.x 64, rat q.y 64, rat q.z 64]), ((2 : Nat), ay.mk false true 9 1 fun x ↦ agg [rat p.x 64, rat p.y 64, rat p.z 64]), ((1 : Nat), ay.mk false true 9 1 fun x ↦ agg [rat b.x 64, rat b.y 64, rat b.z 64]), ((0 : Nat), ay.mk false true 9 1 fun x ↦ agg [rat a.x 64, rat a.y 64, rat a.z 64])]))))))))) := by kernel_rfl
theorem OT {a b p q x y : V3} {f : Rat} {e : Int} {z : Sf} : aH T rO [200083, 200088, 200097] 60 Ah (before m8 [1,1,1,1]) (Ca a b p q x y f e z) =
  let c12 : Rat := (↑(1 : Int) : Rat); let c11 : AV := rat 0 1; let c10 : Prop := bM (fun i ↦ rat (z.ku i) 64) z.a sK; let c9 : Prop := bM (fun i ↦ rat (z.kv i) 64) z.b sK; let c8 : Prop := kT (fun i ↦ ee (z.f i) z.m 100) z.n sK; let c7 : Prop := Max.max 1 (aS (Int.natAbs (1 : Int))) ≤ sK; let c6 : AV := agg [rat b.x 64, rat b.y 64, rat b.z 64]; let c5 : AV := agg [rat p.x 64, rat p.y 64, rat p.z 64]; let c2 : Prop := 0 < 1; let c1 : Sf := Sf.mk z.u z.v z.a (fun i ↦ aK (rat (z.ku i) 64)) z.b (fun i ↦ aK (rat (z.kv i) 64)) z.n (od (ee (z.f 0) z.m 100)) (oe fun i ↦ ee (z.f i) z.m 100); let c4 : AV := agg [c11, c11, c11]; let c3 : List AV := [agg [rat a.x 64, rat a.y 64, rat a.z 64], c6, c5, agg [rat q.x 64, rat q.y 64, rat q.z 64]]; some (af [(e != (0 : Int)) = false, c2, bM (fun i ↦ rat (z.ku i) 64) z.a 2048, bM (fun i ↦ rat (z.kv i) 64) z.b 2048, kT (fun i ↦ ee (z.f i) z.m 100) z.n 2048, nX c1, (bif false then true else (0 : Int) != (0 : Int)) = false, c2, c2, c2, c2, c2, c2, decide (x.x = y.x + f * a.x) = true, (bif true then decide (x.y = y.y + f * a.y) else false) = true] (af [(bif false then true else !bif true then decide (x.z = y.z + f * a.z) else false) = false] (af [c2, c10, c9, c8, c7, (1 : Nat) ≤ sK, jo c1, ¬bL z.a (fun i ↦ aK (rat (z.ku i) 64)) c12, c2] (af [c2, c10, c9, c8, (1 : Nat) ≤ sK, c7, jo c1, ¬bL z.a (fun i ↦ aK (rat (z.ku i) 64)) 0, c2] (af [c2, c2, c2, c2, (4 : Nat) * 9 ≤ 2 ^ 24, BH (fun i ↦ nth c3 c4 (i + 0)) 4 64, (4 : Nat) < 2 ^ 30, c2] (leaf normal ([AV.bool false, ptr 1 0 9 0 [], ptr 2 0 9 0 [], ptr 98312 0 9 0 [], ptr 139272 0 9 0 [], ptr 188424 0 3 0 [], int i64 (0 : Int)], [((188424 : Nat), ay.mk false true 3 1 fun j ↦ if (j == 0) = true then bk (cQ (jZ 4 fun i ↦ vV (nth c3 c4 (i + 0))) 64 100) else agg [int i64 (0 : Int), nil, nil]), ((139272 : Nat), ay.mk false true 9 1 fun j ↦ if (j == 0) = true then bk (vA (dZ (jD c1 0) c12) iJ) else c4), ((98312 : Nat), ay.mk false true 9 1 fun j ↦ if (j == 0) = true then bk (vA (dZ (jD c1 c12) 0) iJ) else c4), ((2 : Nat), ay.mk false true 9 1 fun x ↦ c5), ((1 : Nat), ay.mk false true 9 1 fun x ↦ c6)]))))))) := by kernel_rfl
theorem Qg {b p x y : V3} {w : Cu} {e : Int} : bW T rO [200123, 200127, 100137, 100142, 100147, 100155] 60 jh [part m8 [1,1,1,1]] (Ad b p x y w e) =
  let c7 : Nat := Int.toNat (0 : Int); let c6 : Prop := (↑w.m : Int) = (↑w.n : Int) - w.p - (1 : Int); let c5 : Rat := (↑(3 : Int) : Rat); let c4 : Prop := Kn w.n w.p.toNat fun i ↦ aK (rat (w.k i) 64); let c3 : Int := (↑w.n : Int) - (1 : Int); let c2 : Prop := 0 < 1; let c1 : V3 := dZ (Cu.mk w.p w.n (fun i ↦ aK (rat (w.k i) 64)) w.m fun i ↦ dx (bw (w.f i) 100)) (↑(2 : Int) : Rat); some (af [(e != (0 : Int)) = false, c2, bM (fun i ↦ rat (w.k i) 64) w.n 2048, gd (fun i ↦ bw (w.f i) 100) w.m 2048, c4, (0 : Int) ≤ w.p, w.p ≤ (6 : Int), w.n ≤ w.p.toNat + 41, c6, ∀ (i : Nat), i < w.m → 0 < aK (rat (w.f i).d 100)] (af [(bif false then true else (0 : Int) != (0 : Int)) = false] (af [c2, bM (fun i ↦ rat (w.k i) 64) w.n sK, gd (fun i ↦ bw (w.f i) 100) w.m sK, Max.max 1 (aS (Int.natAbs (2 : Int))) ≤ sK, c4, (0 : Int) ≤ w.p, w.p ≤ (6 : Int), w.n < 2 ^ 40, c6, c2] (af [c2, c2, decide (x.x = b.x) = true, (bif true then decide (x.y = b.y) else false) = true, (bif true then decide (x.z = b.z) else false) = true, c2, c2, decide (y.x = p.x) = true, (bif true then decide (y.y = p.y) else false) = true, (bif true then bif true then decide (y.z = p.z) else false else false) = true, c2, c2, decide (c1.x = p.x) = true, (bif true then decide (c1.y = p.y) else false) = true, (bif true then bif true then decide (c1.z = p.z) else false else false) = true, c2, c2, (0 : Int) ≤ (0 : Int) ∧ c7 < w.n, c2, c2, -(2 : Int) ^ 63 ≤ c3 ∧ c3 < (2 : Int) ^ 63, (0 : Int) ≤ c3 ∧ c3.toNat < w.n, c2, c2, c2, decide (w.k c7 = mW 0 c5) = true, (bif true then bif true then decide (w.k c3.toNat = nc 0 c5) else false else false) = true] (leaf ret [AV.bool true]))))) := by kernel_rfl
def xA (n : Nat) (f : Nat → AV) (a : Int) : V3 := ⟨dJ n f a, dJ n f (cK n f a), dJ n f (cK n f (cK n f a))⟩
theorem Rt : aW P KL := aC (cH hT (eu aT) hm (aL YV (by kernel_rfl) (by kernel_rfl) (by kernel_rfl)) _ _) (aC (cH hT (eu aT) hm (aL VR (by kernel_rfl) (by kernel_rfl) (by kernel_rfl)) _ _) (aC (cH hT (dc gH) hm Ba _ _) (aC (cH hT (dc Wt) hm (aL Xy (by kernel_rfl) (by kernel_rfl) (by kernel_rfl)) _ _) (aC (cH hT (dc gH) hm (aL QO (by kernel_rfl) (by kernel_rfl) (by kernel_rfl)) _ _) aT))))
theorem y9 : aW P rO := eu (aC WJ (aC ads (aC UC (aC I7 (aC ZC (aC ZB (aC PG (aC adu (aC ZD (aC UF (aC W0 (aC GW (aC LG (gh Rt (gh Zq (gh Cx gH))))))))))))))))
structure W4 (w : Cu) (p : V3) : Prop where
 p1 : w.p = 1
 n : w.n = 6
 m : w.m = 4
 k : Kn w.n w.p.toNat w.k
 d : ∀ i, (w.f i).d = 1
 e : dZ w 2 = p
 lo : w.k 0 = 0
 hi : w.k 5 = 3
theorem RI {g : Nat → V3} : W4 (jZ 4 g) (g 2) := ⟨rfl, rfl, rfl, Ok, fun _ => rfl, O9, by show fG 4 0 = 0; decide +kernel, by show fG 4 5 = 3; decide +kernel⟩
theorem Z5 {cx : Ctx} {b p : V3} {w : Cu} (hw : W4 w p) :
  aq P cx jh.ntmps (part m8 [1,1,1,1]) (Ad b p b p w 0) (dz cx (Fin T jh (.bool true))) := by
 obtain ⟨hp, hn, hm2, hk, hd, he, hlo, hhi⟩ := hw
 refine aq.jq ((aA.fin hT y9 hm 60 Qg (by kernel_rfl) ?_).mono fun _ _ h => .inl h)
 have he2 : dZ (Cu.mk w.p w.n (fun i => aK (rat (w.k i) 64)) w.m fun i => dx (bw (w.f i) 100)) ((2 : Int) : Rat) = p := he
 have h5 : ((w.n : Int) - 1).toNat = 5 := by omega
 simp only [aa.all, ax, he2, h5, Int.toNat_zero, hlo, hhi]
 (repeat' with_reducible refine And.intro ?_ ?_)
 all_goals first | omega | (with_reducible exact cI (by decide)) | (with_reducible exact lD (by decide)) | exact hk | rfl | decide | (exact decide_eq_true rfl) | exact .refl _ | (exact fun i _ => by show 0 < (w.f i).d; rw [hd]; decide +kernel)
theorem Ng {cx : Ctx} (hk0 : Kept [] cx) {a b p q x y : V3} {f : Rat} {z : Sf} (hx : x = ⟨y.x + f * a.x, y.y + f * a.y, y.z + f * a.z⟩) (h1 : nX z) (h2 : jo z) (h3 : ¬ bL z.a z.ku 1) (h4 : ¬ bL z.a z.ku 0) (h5 : dZ (jD z 1) 0 = b) (h6 : dZ (jD z 0) 1 = p) :
  aq P cx jh.ntmps m8 (Ca a b p q x y f 0 z) (dz cx (Fin T jh (.bool true))) := by
 refine aq.hole [1,1,1,1] (by kernel_rfl) (aA.aZ hT y9 hm 60 Ah OT (mY (x := m8) (by kernel_rfl)) ?_)
 have gx : x.x = y.x + f * a.x := by rw [hx]
 have gy : x.y = y.y + f * a.y := by rw [hx]
 have gz : x.z = y.z + f * a.z := by rw [hx]
 simp only [aa.all, ax]
 (repeat' with_reducible refine And.intro ?_ ?_)
 all_goals first | omega | (with_reducible exact cI (by decide)) | (with_reducible exact wS (by decide)) | exact h1 | exact h2 | exact h3 | exact h4 | rfl | decide | exact decide_eq_true gx | exact decide_eq_true gy | exact congrArg (!·) (decide_eq_true gz) | skip
 ·intro i hi
  match i, hi with
  | 0, _ | 1, _ | 2, _ | 3, _ => exact .refl _
 ·intro s' hs'
  show aq _ _ _ (part m8 [1,1,1,1]) s' _
  rw [show behind m8 [1,1,1,1] = [] from by kernel_rfl]
  obtain ⟨g, hg⟩ : ∃ g : Nat → V3, g = fun i => vV (nth [agg [rat a.x 64, rat a.y 64, rat a.z 64], agg [rat b.x 64, rat b.y 64, rat b.z 64], agg [rat p.x 64, rat p.y 64, rat p.z 64], agg [rat q.x 64, rat q.y 64, rat q.z 64]] (agg [rat 0 1, rat 0 1, rat 0 1]) (i + 0)) := ⟨_, rfl⟩
  have hg2 : g 2 = p := by rw [hg]; rfl
  have w4 := RI (g := g)
  rw [hg2] at w4
  refine aq.jX (s2 := Ad b p b p (jZ 4 g) 0) (dF.le ⟨[(0, 1), (1, 2), (2, 98312), (3, 139272), (4, 188424)], rfl, rfl, rfl, ?_⟩ hs' hk0) ((Z5 w4).mono fun e s' h => by cases e <;> exact h)
  refine aR rfl rfl (aN rfl (by rw [hg]; rfl)) (aR rfl rfl ?_ (aR rfl rfl ?_ (aR rfl rfl (aN rfl rfl) (aR rfl rfl (aN rfl rfl) trivial))))
  ·exact aN rfl (congrArg (fun v => vA v iJ) h6)
  ·exact aN rfl (congrArg (fun v => vA v iJ) h5)
theorem Tr {cx : Ctx} (hk0 : Kept [] cx) {a b p q : V3} {c : Cu} {i j : Int} (hkn : Kn c.n c.p.toNat c.k) (hp1 : 1 ≤ c.p) (h3 : c.p ≤ 3) (hm2 : (c.m : Int) = (c.n : Int) - c.p - 1) (hml : c.m ≤ 6) (hw : ∀ i, 1 ≤ (c.f i).d) :
  aq P cx jh.ntmps qN (By a b p q c i j) (dz cx (Fin T jh (.bool true))) := by
 refine aq.hole [1,1,1,1,1,1] (by kernel_rfl) (aA.aZ hT y9 hm 60 Bt Ux (mY (x := qN) (by kernel_rfl)) ?_)
 have hl := hkn.len
 have hkv : ∀ i j : Nat, ((dg c a).f i j).d = (c.f j).d := fun i j => by
  show (if i = 0 then c.f j else fc (qO a) (c.f j)).d = _
  split <;> rfl
 have hs : jo (dg c a) := ⟨tL, hkn, by show (0 : Int) ≤ 1; omega, by show (1 : Int) ≤ 6; omega, by show (0 : Int) ≤ c.p; omega, by show c.p ≤ 6; omega, by show 4 < 2 ^ 30; omega, by show c.n < 2 ^ 30; omega, by show ((2 : Nat) : Int) = ((4 : Nat) : Int) - 1 - 1; omega, hm2⟩
 have hso : nX (dg c a) := ⟨hs.ku, hs.kv, hs.u0, hs.u6, hs.v0, hs.v6, by show 4 ≤ 1 + 41; omega, by show c.n ≤ c.p.toNat + 41; omega, hs.n, hs.m, fun i j _ _ => by rw [hkv]; have := hw j; grind⟩
 have hiU : ¬ bL 4 dj (fo j) := by
  have h := tL.Fu (d := j)
  have e0 : dj 0 = 0 := rfl
  have e1 : dj (4 - 1) = 1 := rfl
  rw [e0, e1, show (0 : Rat) + fo j * (1 - 0) = fo j by grind] at h
  exact h
 obtain ⟨t, ht⟩ : ∃ t, t = c.k 0 + fo i * (c.k (c.n - 1) - c.k 0) := ⟨_, rfl⟩
 have hiT : ¬ bL c.n c.k t := by rw [ht]; exact hkn.Fu
 have hiv := hkn.ve hiT
 have hE : dr c.n c.k t = 0 := if_neg hiT
 have ev := Vy (c := c) (v := a) (u := fo j) (t := t) hkn hiU hiT (fun j _ => hw j) (by omega)
 have e2 : ((c.n : Int) - 1).toNat = c.n - 1 := by omega
 simp only [aa.all, ax, e2, Int.toNat_zero]
 (repeat' with_reducible refine And.intro ?_ ?_)
 all_goals first | omega | (with_reducible exact cI (by decide)) | (with_reducible exact lD (by decide)) | (with_reducible exact wS (by decide)) | exact hso | exact hs | exact hiU | exact hkn | rfl | decide | skip
 intro s' hs'
 show aq _ _ _ m8 s' _
 rw [show behind qN [1,1,1,1,1,1] = [] from by kernel_rfl]
 have z1 : jo (fA a b p q) := ⟨tL, tL, by show (0 : Int) ≤ 1; omega, by show (1 : Int) ≤ 6; omega, by show (0 : Int) ≤ 1; omega, by show (1 : Int) ≤ 6; omega, by show 4 < 2 ^ 30; omega, by show 4 < 2 ^ 30; omega, by show ((2 : Nat) : Int) = ((4 : Nat) : Int) - 1 - 1; omega, by show ((2 : Nat) : Int) = ((4 : Nat) : Int) - 1 - 1; omega⟩
 have z2 : nX (fA a b p q) := ⟨z1.ku, z1.kv, z1.u0, z1.u6, z1.v0, z1.v6, by show 4 ≤ 1 + 41; omega, by show 4 ≤ 1 + 41; omega, z1.n, z1.m, fun i j _ _ => by show (0 : Rat) < 1; decide +kernel⟩
 refine aq.jX (s2 := Ca a b p q (dZ (jD (dg c a) (fo j)) t) (dZ c t) (fo j) 0 (fA a b p q)) (dF.le ⟨[(0, 0), (1, 1), (2, 2), (3, 3), (4, 86021), (5, 126981), (6, 163845), (7, 196613)], rfl, ?_, rfl, ?_⟩ hs' hk0) ((Ng hk0 ev z2 z1 yB.2 yB.1 abO Vw).mono fun e s' h => by cases e <;> exact h)
 ·have hE2 : dr c.n (fun i => aK (rat (aK (rat (c.k i) 64)) 130)) (c.k 0 + fo i * (c.k (c.n - 1) - c.k 0)) = 0 := by rw [← ht]; exact hE
  exact congrArg (fun e => [AV.bool false, ptr 0 0 9 0 [], ptr 1 0 9 0 [], ptr 2 0 9 0 [], ptr 3 0 9 0 [], ptr 86021 0 3 0 [], ptr 126981 0 9 0 [], int i64 e, ptr 163845 0 9 0 [], ptr 196613 0 5 0 []]) hE2
 ·exact aR rfl rfl (aN rfl rfl) (aR rfl rfl (aN rfl (by rw [ht]; rfl)) (aR rfl rfl (aN rfl (by rw [ht]; rfl)) (aR rfl rfl (aN rfl rfl) (aR rfl rfl (aN rfl rfl) (aR rfl rfl (aN rfl rfl) (aR rfl rfl (aN rfl rfl) (aR rfl rfl (aN rfl rfl) trivial)))))))
theorem Mm {n : Nat} {z : Nat → Int} {i j : Int} (K : Nat) : az P CF K [.aj 1 n (fun i => .int .i64 (z i)), .int .i64 i, .int .i64 j] [] (aF (.bool true) []) := by
 refine fe (r := aF (.bool true) []) hT FF rfl (of_decide_eq_true (by kernel_rfl)) rfl (fun _ cx h0 => ?_) K []
 have hk := jO h0
 have hret : j7 jh yE (.bool true) ([AV.bool true, .int .i64 i, .int .i64 j, tuple [], tuple [], tuple [], tuple [], tuple []], []) := ⟨[.bool true], by kernel_rfl, bn.refl _⟩
 refine aq.hole [1,1,1,1,1] (by kernel_rfl) (aA.aZ hT y9 hm 60 yE abm (mY FF.dst) ?_)
 simp only [aa.all, ax]
 refine ⟨fun h s' hs' => hret.fin hs', fun h => ?_⟩
 have hn : n ≤ 500 := by simp only [Bool.not_eq_false', decide_eq_true_eq] at h; omega
 have hd : cm n (bY z) 0 := ⟨fun i => rfl, by omega, by omega, by omega⟩
 have hA := hd.iH.iH.iH.iH
 refine ⟨⟨hd, hd.iH, hd.iH.iH, hd.iH.iH.iH, by omega, by omega, by omega, by omega⟩, ⟨hA, by omega, by omega, by omega, by omega, by omega⟩, fun s' hs' => ?_⟩
 obtain ⟨c, hc⟩ : ∃ c, c = fS n (bY z) (eF n (bY z) (eF n (bY z) (eF n (bY z) (eF n (bY z) 0)))) 3 (Int.toNat 2) false := ⟨_, rfl⟩
 obtain ⟨k1, k2, k3, k4, k5, k6⟩ := WR (m := Int.toNat 2) (b := false) hA (show (1 : Int) ≤ 3 by omega)
 rw [← hc] at k1 k2 k3 k4 k5 k6
 have t2 : Int.toNat 2 = 2 := rfl
 show aq _ _ _ qN s' _
 rw [show behind BK [1,1,1,1,1] = [] from by kernel_rfl]
 refine aq.jX (s2 := By (xA n (bY z) 0) (xA n (bY z) (eF n (bY z) 0)) (xA n (bY z) (eF n (bY z) (eF n (bY z) 0))) (xA n (bY z) (eF n (bY z) (eF n (bY z) (eF n (bY z) 0)))) c i j) (dF.le ⟨[(0, 61440), (1, 65536), (2, 69632), (3, 73728), (4, 102400)], rfl, rfl, rfl, ?_⟩ hs' hk) ((Tr hk k1 k2 k3 k4 (by omega) fun i => (k6 i).1).mono fun e s' h => by cases e <;> exact h)
 exact aR rfl rfl (aN rfl (by rw [hc]; rfl)) (aR rfl rfl (aN rfl rfl) (aR rfl rfl (aN rfl rfl) (aR rfl rfl (aN rfl rfl) (aR rfl rfl (aN rfl rfl) trivial))))
end Go.Am.B
