/- brepkernellaw10.CurveEvals. -/
import Derived.Test.YtnocdkaonpdmjaaGreatY50
import Derived.Test.YtnocdkaonpdmjaaGreatY48
set_option linter.unusedVariables false
namespace Go.Am.B
open Go Go.Am.N AV aa ah IntKind
theorem Jq : aN P Bu nA (au nA) := aP aa6 (by kernel_rfl) (by kernel_rfl) (by kernel_rfl)
abbrev jX (z : Nat → Int) : Nat → AV := fun i => .int .i64 (z i)
noncomputable def Lm : aQ := [(ED, fS T (sG :: pN) [] 60 LP)]
noncomputable def Ko : aQ := [(FN, fS T (sG :: Lm) [] 60 Jr)]
noncomputable def EC : aQ := [(J2, fS T (nG :: (yO, G5) :: (xX, fY BV) :: []) [] 60 Ij)]
noncomputable def Kj : aQ := [(Iv, fS T (sG :: (Ko ++ pN)) [] 60 IN)]
noncomputable def Lw : aQ := [(F8, fS T (sG :: pN) [] 60 LA)]
noncomputable def EO : aQ := [(I1, fS T [nG] [] 60 KP), (JZ, fS T [nG] [] 60 H8), (Lc, fS T (nG :: Lw) [200006] 60 Gm), (K6, fS T (nG :: Kj) [200007] 60 Hr), (IK, fS T (sG :: pn) [100010] 60 KR), (Lz, fS T (sG :: pn) [100010, 100017] 60 Jc)]
noncomputable def DC : aQ := nG :: (Bk, JJ) :: (ux, Fu) :: (ot, y8) :: (yY, G7) :: (s9, CR) :: (yV, FI) :: (EC ++ (EO ++ Hz))
noncomputable abbrev sI : Code := au nA
abbrev yZ : List Nat := [6, 1, 2, 7]
abbrev Dv (c : Cu) (i j : Int) : aE := ⟨aB yZ [.bool false, .int .i64 i, .int .i64 j, .ptr 0 0 3 0 []], [(0, ⟨false, true, 3, 1, fun _ => en c 64 64⟩)], 1⟩
theorem aa2 {n : Nat} {z : Nat → Int} {i j : Int} : aI T DC [19] 60 yZ (before sI [1,1,1]) ⟨aL 0 [.ak 1 n (jX z), .int .i64 i, .int .i64 j], [], 0⟩ =
  let c4 : Int := bn n (0 : Int); let c3 : Prop := 0 < 1; let c2 : Nat := Int.toNat (4 : Int); let c1 : Nat := j6 n (jX z) (0 : Int) (4 : Int); some (fork (!decide ((↑n : Int) ≤ (500 : Int))) (leaf ret ([AV.bool true, int i64 i, int i64 j, tuple []], [])) (ag [cz n (jX z) (0 : Int), (1 : Int) ≤ (4 : Int), (4 : Int) < (900 : Int), (0 : Int) ≤ (4 : Int), (4 : Int) < (900 : Int), c3, c3, c3] (leaf normal ([AV.bool false, int i64 i, int i64 j, ptr 24576 0 3 0 []], [((24576 : Nat), az.mk false true 3 1 fun j ↦ if (j == 0) = true then bA (agg [int i64 (↑c1 : Int), ak 3 (mM n (jX z) c4 c1 c2) fun i ↦ rat (oT n (jX z) c4 c1 c2 i) 64, ak 12 (c1 + 1 + iY n (jX z) c4 c2) fun i ↦ cS (nE n (jX z) (jR n (jX z) (nR n (jX z) (0 : Int) (4 : Int) c2) i) false) 64]) else agg [int i64 (0 : Int), nil, nil])])))) := by kernel_rfl
theorem QG {c : Cu} {i j : Int} : b9 T DC [29, 100058, 100063, 100068, 100073, 100080] 200 nA [part sI [1,1,1]] (Dv c i j) =
  let c25 : Prop := ir (fun i ↦ cS (c.f i) 64) c.m sK; let c24 : Prop := ir (fun i ↦ cS (c.f i) 64) c.m sJ; let c23 : Prop := ck (fun i ↦ rat (c.k i) 64) c.n sJ; let c22 : Prop := ck (fun i ↦ rat (c.k i) 64) c.n sK; let c18 : Int := cH c.n (fun i ↦ aT (rat (c.k i) 64)) (y5 i j); let c16 : Prop := (0 : Int) ≤ (0 : Int); let c15 : Prop := 64 + ((64 : Nat) + ((64 : Nat) + 64 + 1)) + 1 ≤ sK; let c8 : Int := (2 : Int) ^ 63; let c7 : Int := (↑c.n : Int) - (1 : Int); let c6 : Nat := Int.toNat (0 : Int); let c5 : Int := (↑c.m : Int) - (1 : Int); let c3 : Prop := 0 < 1; let c1 : Cu := Cu.mk c.p c.n (fun i ↦ aT (rat (c.k i) 64)) c.m fun i ↦ jW (cS (c.f i) 64); let c29 : Rat := c.k c6; let c28 : Prop := c16 ∧ c6 < c.n; let c27 : Prop := (0 : Int) ≤ c5 ∧ c5.toNat < c.m; let c26 : Prop := -c8 ≤ c7 ∧ c7 < c8; let c20 : Rat := c.k c7.toNat; let c19 : Prop := (0 : Int) ≤ c7 ∧ c7.toNat < c.n; let c14 : V3 := (c.f c6).n; let c12 : V3 := (c.f c5.toNat).n; let c11 : V3 := kQ c1 (y5 i j); let c10 : List Prop := [Kn c.n c.p.toNat fun i ↦ aT (rat (c.k i) 64), (0 : Int) ≤ c.p, c.p ≤ (6 : Int), c.n < 2 ^ 40, (↑c.m : Int) = (↑c.n : Int) - c.p - (1 : Int), c3]; let c13 : List Prop := [c3, c3, c16 ∧ c6 < c.m, c3, c3, -c8 ≤ c5 ∧ c5 < c8, c27, c3, c3, c3, c3, c3, c3]; let c9 : List Prop := [c3, c3, ((↑c.m : Int) == (0 : Int)) = false, c3, c16 ∧ c6 < c.m, c3, c3, c3, c3, c3, -c8 ≤ c5 ∧ c5 < c8, c27, c3, c3, c3, c3, c3, c3, c3, c3, c3]; let c4 : Rat := c29 + BS i * (c20 - c29); let c2 : List Prop := [c3, c3, decide (c14.x + 0 = c14.x) = true, (bif true then decide (c14.y + 0 = c14.y) else false) = true, (bif true then bif true then decide (c14.z + 0 = c14.z) else false else false) = true, c3, c3, decide (c12.x + 0 = c12.x) = true, (bif true then decide (c12.y + 0 = c12.y) else false) = true, (bif true then bif true then decide (c12.z + 0 = c12.z) else false else false) = true, c3, c3, ((↑c.n : Int) == (0 : Int)) = false, c3, c28, c3, c3, c26, c19, c3, c3, c3, c3, c3, c28, c3, c3, c26, c19, c3, c3, decide (oq c29 c20 = c29) = true, (bif true then bif true then decide (oG c29 c20 = c20) else false else false) = true]; let c21 : Int := cH c.n (fun i ↦ aT (rat (c.k i) 64)) c4; let c17 : V3 := kQ c1 c4; some (ag [c3, c3, c28, c3, c3, c26, c19, c3, c3, c3, c3] (ag [(0 : Int) < (7 : Int), (7 : Int) < (2 : Int) ^ 62] (fork (j % (7 : Int) == (6 : Int)) (ag [c3] (ag [c3, c3, c23, c24, (64 : Nat) ≤ sK, fl c1, c3] (ag (c3 :: c3 :: c22 :: c25 :: ((64 : Nat) ≤ sK) :: c10) (ag c9 (ag c13 (ag (((c18 == c18) = true) :: c3 :: c3 :: (decide (c11.x = c11.x) = true) :: ((bif true then decide (c11.y = c11.y) else false) = true) :: ((bif true then bif true then decide (c11.z = c11.z) else false else false) = true) :: c2) (leaf ret [AV.bool true]))))))) (ag [c3, c3, c23, c24, c15, fl c1, c3] (ag (c3 :: c3 :: c22 :: c25 :: c15 :: c10) (ag c9 (ag c13 (ag (((c21 == c21) = true) :: c3 :: c3 :: (decide (c17.x = c17.x) = true) :: ((bif true then decide (c17.y = c17.y) else false) = true) :: ((bif true then bif true then decide (c17.z = c17.z) else false else false) = true) :: c2) (leaf ret [AV.bool true]))))))))) := by kernel_rfl
theorem MS : aY P Lm := aF (ga hT (jj r4) hm (aP ada (by kernel_rfl) (by kernel_rfl) (by kernel_rfl)) _ _) bk
theorem ME : aY P Ko := aF (ga hT (jj MS) hm (aP abF (by kernel_rfl) (by kernel_rfl) (by kernel_rfl)) _ _) bk
theorem VN : aY P EC := aF (ga hT (cO (aF RF (aF Ms bk))) hm (aP OS (by kernel_rfl) (by kernel_rfl) (by kernel_rfl)) _ _) bk
theorem adC : aY P Kj := aF (ga hT (jj (Em ME r4)) hm (aP MP (by kernel_rfl) (by kernel_rfl) (by kernel_rfl)) _ _) bk
theorem QT : aY P Lw := aF (ga hT (jj r4) hm (aP aee (by kernel_rfl) (by kernel_rfl) (by kernel_rfl)) _ _) bk
theorem OH : aY P EO := aF (ga hT (cO bk) hm (aP Pp (by kernel_rfl) (by kernel_rfl) (by kernel_rfl)) _ _) (aF (ga hT (cO bk) hm (aP W6 (by kernel_rfl) (by kernel_rfl) (by kernel_rfl)) _ _) (aF (ga hT (cO QT) hm (aP XM (by kernel_rfl) (by kernel_rfl) (by kernel_rfl)) _ _) (aF (ga hT (cO adC) hm (aP X7 (by kernel_rfl) (by kernel_rfl) (by kernel_rfl)) _ _) (aF (ga hT (jj qP) hm (aP WD (by kernel_rfl) (by kernel_rfl) (by kernel_rfl)) _ _) (aF (ga hT (jj qP) hm (aP acy (by kernel_rfl) (by kernel_rfl) (by kernel_rfl)) _ _) bk)))))
theorem IE : aY P DC := cO (aF XU (aF Zo (aF A5 (aF VH (aF H9 (aF Nl (Em VN (Em OH US))))))))
theorem Kn.QB {n p : Nat} {k : Nat → Rat} (h : Kn n p k) : k 0 ≤ k (n - 1) := h.mono (show 0 ≤ n - 1 by omega) (by have := h.len; omega)
theorem Zr {c : Cu} {i j : Int} {cx : Ctx} (hc : fl c) : aq P cx nA.ntmps (part sI [1,1,1]) (Dv c i j) (dh cx (Fin T nA (.bool true))) := by
 obtain ⟨h1, h2, h3, h4, h5⟩ := id hc
 have hl := h1.len
 have he := h1.QB
 have hmin : oq (c.k 0) (c.k (c.n - 1)) = c.k 0 := by unfold oq; split <;> grind
 have hmax : oG (c.k 0) (c.k (c.n - 1)) = c.k (c.n - 1) := by unfold oG; split <;> grind
 refine aq.lJ ((aC.fin hT IE hm 200 QG (by kernel_rfl) ?_).mono fun _ _ h => .inl h)
 have e1 : ((c.n : Int) - 1).toNat = c.n - 1 := by omega
 have e2 : ((c.m : Int) - 1).toNat = c.m - 1 := by omega
 simp only [aa.all, ay, e1, e2, Int.toNat_zero, hmin, hmax, cond_true, Rat.add_zero, decide_true, beq_self_eq_true]
 (repeat' with_reducible first | refine And.intro ?_ ?_ | intro _)
 all_goals first | omega | exact dj (by decide) | exact kM (by decide) | exact hc | exact h1 | exact .refl _ | decide | exact beq_eq_false_iff_ne.2 (by omega) | skip
set_option maxHeartbeats 1000000 in
theorem RA {n : Nat} {z : Nat → Int} {i j : Int} (K : Nat) : aA P Bu K [.ak 1 n (fun i => .int .i64 (z i)), .int .i64 i, .int .i64 j] [] (aG (.bool true) []) := by
 refine fU (r := aG (.bool true) []) hT Jq rfl (of_decide_eq_true (by kernel_rfl)) rfl (fun _ cx h0 => ?_) K []
 have hk := qc h0
 have hret : lW nA yZ (.bool true) ([AV.bool true, .int .i64 i, .int .i64 j, tuple []], []) := ⟨[.bool true], by kernel_rfl, bB.refl _⟩
 refine aq.hole [1,1,1] (by kernel_rfl) (aC.aZ hT IE hm 60 yZ aa2 (pe Jq.dst) ?_)
 simp only [aa.all, ay]
 refine ⟨fun h s' hs' => hret.fin hs', fun h => ?_⟩
 have hn : n ≤ 500 := by simp only [Bool.not_eq_false', decide_eq_true_eq] at h; omega
 have hd : cz n (jX z) 0 := ⟨fun i => rfl, by omega, by omega, by omega⟩
 refine ⟨⟨hd, by omega, by omega, by omega, by omega, by omega, by omega, by omega⟩, fun s' hs' => ?_⟩
 obtain ⟨c, hc⟩ : ∃ c, c = gd n (jX z) 0 4 4 false := ⟨_, rfl⟩
 obtain ⟨k1, k2, k3, k4, k5, k6⟩ := Oq (m := 4) (b := false) hd (show (1 : Int) ≤ 4 by omega)
 rw [← hc] at k1 k2 k3 k4 k5 k6
 have hkc : fl c := ⟨k1, k2, by omega, by omega, k4⟩
 show aq _ _ _ (part sI [1,1,1]) s' _
 rw [show behind sI [1,1,1] = [] from by kernel_rfl]
 refine aq.jG (s2 := Dv c i j) (eA.le ⟨[(0, 24576)], rfl, rfl, rfl, aR rfl rfl (aM rfl ?_) trivial⟩ hs' hk) ((Zr hkc).mono fun e s' h => by cases e <;> exact h)
 rw [hc]; rfl
end Go.Am.B
