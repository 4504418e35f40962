/- brepkernellaw10.CurveHull. -/
import Derived.Test.YtnocdkaonpdmjaaGreatM17
import Derived.Test.YtnocdkaonpdmjaaGreatB135
set_option linter.unusedVariables false
namespace Go.Am.B
open Go Go.Am.N AV aa aj IntKind
theorem KQ : aO P Bv m8 (ax m8) := aP aal (by kernel_rfl) (by kernel_rfl) (by kernel_rfl)
noncomputable def J6 : aQ := [(G7, mq T (sG :: ql) [] 60 IG)]
noncomputable def HM : aQ := [(Iu, mq T (nG :: Fh) [200006] 60 Ku), (FO, mq T (sG :: (J6 ++ ql)) [] 60 J4)]
noncomputable def sN : aQ := nG :: (yz, IY) :: (uF, KK) :: (yV, Kb) :: (tW, fD zW) :: (x6, fD qN) :: (sw, fD CU) :: (wN, BJ) :: (HM ++ Fc)
noncomputable abbrev BT : Code := ax m8
noncomputable abbrev nv : Code := part BT [1,1,1,1,1]
abbrev zN : List Nat := [4, 1, 6, 7]
abbrev JW (a : V3) (b : Rat) : az := ⟨false, true, 12, 1, fun _ => .agg [vA a 64, .rat b 64]⟩
abbrev II (c : Cu) : az := ⟨false, true, 3, 1, fun _ => eV c 64 64⟩
abbrev Dj (a : V3) (b : Rat) (c : Cu) (d : Int) : aE := ⟨aC zN [.bool false, .int .i64 d, .ptr 0 0 12 0 [], .ptr 1 0 3 0 []], [(1, II c), (0, JW a b)], 2⟩
abbrev tD : List Nat := [4, 6, 7, 8, 9, 10, 11, 12]
abbrev BK (e lo hi : Int) (k : Nat) : List AV := [.bool false, .ptr 0 0 12 0 [], .ptr 1 0 3 0 [], .ptr 2 0 9 0 [], .int .i64 e, .int .i64 lo, .int .i64 hi, .int .i64 k]
abbrev Cd (a : V3) (b : Rat) (c : Cu) (p : V3) : aD := [(2, ⟨false, true, 9, 1, fun _ => vA p sE⟩), (1, II c), (0, JW a b)]
theorem Ym {n : Nat} {z : Nat → Int} {d : Int} : aI T sN [17] 60 zN (before BT [1,1,1,1,1]) ⟨aL 0 [.ak 1 n (eA z), .int .i64 d], [], 0⟩ =
  let c4 : Int := cX n (eA z) (0 : Int); let c2 : Int := gJ n (eA z) (0 : Int); let c1 : AV := rat 0 1; let c3 : AV := agg [agg [c1, c1, c1], c1]; some (fork (!decide ((↑n : Int) ≤ (500 : Int))) (leaf ret ([AV.bool true, int i64 d, tuple [], tuple []], [])) (ag [ct n (eA z) (0 : Int), ct n (eA z) c2, (0 : Nat) < 1] (ag [ct n (eA z) (cX n (eA z) c2), (1 : Int) ≤ (4 : Int), (4 : Int) < (900 : Int), (0 : Int) ≤ (4 : Int), (4 : Int) < (900 : Int), (0 : Nat) < 1] (leaf normal ([AV.bool false, int i64 d, ptr 49152 0 12 0 [], ptr 65536 0 3 0 []], [((65536 : Nat), az.mk false true 3 1 fun j ↦ if (j == 0) = true then bC (eV (fY n (eA z) (cX n (eA z) c2) (4 : Int) (Int.toNat (4 : Int)) false) 64 64) else agg [int i64 (0 : Int), nil, nil]), ((49152 : Nat), az.mk false true 12 1 fun j ↦ if (j == 0) = true then bC (agg ((c3.kids.set 0 (bC (agg [rat (ek n (eA z) (0 : Int)) 64, rat (ek n (eA z) c4) 64, rat (ek n (eA z) (cX n (eA z) c4)) 64]))).set 1 (bC (rat (ek n (eA z) c2) 64)))) else c3)]))))) := by kernel_rfl
theorem Xu {a : V3} {b : Rat} {c : Cu} {d : Int} : aI T sN [] 60 tD (before nv [1,1,0,1]) (Dj a b c d) =
  let c7 : AV := rat 0 1; let c6 : Nat := Int.toNat (0 : Int); let c5 : Nat := Max.max 64 64; let c4 : Cu := Cu.mk c.p c.n (fun i ↦ bp (rat (c.k i) 64)) c.m fun i ↦ jH (cY (c.f i) 64); let c3 : Int := (↑c.n : Int) - (1 : Int); let c2 : Prop := 0 < 1; let c8 : Rat := ou (c.k c6) (c.k c3.toNat); let c1 : Rat := c8 + jy d * (nB (c.k c6) (c.k c3.toNat) - c8); some (ag [c2, c2, c2, ((↑c.n : Int) == (0 : Int)) = false, c2, (0 : Int) ≤ (0 : Int) ∧ c6 < c.n, c2, c2, -(2 : Int) ^ 63 ≤ c3 ∧ c3 < (2 : Int) ^ 63, (0 : Int) ≤ c3 ∧ c3.toNat < c.n, c2, c2, c2, c2, cz (fun i ↦ rat (c.k i) 64) c.n sJ, jv (fun i ↦ cY (c.f i) 64) c.m sJ, c5 + ((64 : Nat) + (c5 + c5 + 1)) + 1 ≤ sK, fy c4, c2] (leaf normal ([AV.bool false, ptr 0 0 12 0 [], ptr 1 0 3 0 [], ptr 36866 0 9 0 [], int i64 (dB c.n (fun i ↦ bp (rat (c.k i) 64)) c1), int i64 (1 : Int), int i64 (-1 : Int), int i64 (0 : Int)], [((36866 : Nat), az.mk false true 9 1 fun j ↦ if (j == 0) = true then bC (vA (kD c4 c1) sE) else agg [c7, c7, c7]), ((1 : Nat), az.mk false true 3 1 fun x ↦ agg [int i64 c.p, ak 3 c.n fun i ↦ rat (c.k i) 64, ak 12 c.m fun i ↦ agg [agg [rat (c.f i).n.x 64, rat (c.f i).n.y 64, rat (c.f i).n.z 64], rat (c.f i).d 64]]), ((0 : Nat), az.mk false true 12 1 fun x ↦ agg [agg [rat a.x 64, rat a.y 64, rat a.z 64], rat b 64])]))) := by kernel_rfl
theorem O3 {a p : V3} {b : Rat} {c : Cu} {e lo hi : Int} {k : Nat} : aI T sN [41] 60 tD [part nv [1,1,0,1,0,0]] ⟨aC tD (BK e lo hi k), Cd a b c p, 3⟩ =
  let c7 : AV := ptr 1 0 3 0 []; let c6 : AV := ptr 2 0 9 0 []; let c5 : AV := ptr 0 0 12 0 []; let c4 : Prop := 0 < 1; let c3 : Int := (↑k : Int); let c1 : List (Nat × az) := [((2 : Nat), az.mk false true 9 1 fun x ↦ agg [rat p.x 4294967298, rat p.y 4294967298, rat p.z 4294967298]), ((1 : Nat), az.mk false true 3 1 fun x ↦ agg [int i64 c.p, ak 3 c.n fun i ↦ rat (c.k i) 64, ak 12 c.m fun i ↦ agg [agg [rat (c.f i).n.x 64, rat (c.f i).n.y 64, rat (c.f i).n.z 64], rat (c.f i).d 64]]), ((0 : Nat), az.mk false true 12 1 fun x ↦ agg [agg [rat a.x 64, rat a.y 64, rat a.z 64], rat b 64])]; let c9 : Int := c3 + (1 : Int); let c8 : V3 := (c.f c3.toNat).n; let c2 : Int := bK ((0 : Rat) + a.x * c8.x + a.y * c8.y + a.z * c8.z - b); some (ag [c4] (fork (decide (c3 < (↑c.m : Int))) (ag [c4, c4, (0 : Int) ≤ c3 ∧ c3.toNat < c.m, c4] (ag [-(2 : Int) ^ 63 ≤ c9 ∧ c9 < (2 : Int) ^ 63] (leaf normal ([AV.bool false, c5, c7, c6, int i64 e, int i64 (if c2 < lo then c2 else lo), int i64 (if hi < c2 then c2 else hi), int i64 c9], c1)))) (leaf (exit 0) ([AV.bool false, c5, c7, c6, int i64 e, int i64 lo, int i64 hi, int i64 c3], c1)))) := by kernel_rfl
theorem YK {a p : V3} {b : Rat} {c : Cu} {e lo hi : Int} {k : Nat} : cq T sN [100063, 100068, 100073] 60 m8 [part nv [1,1,1]] ⟨aC tD (BK e lo hi k), Cd a b c p, 3⟩ =
  let c2 : Prop := 0 < 1; let c1 : Int := bK ((0 : Rat) + a.x * p.x + a.y * p.y + a.z * p.z - b); some (ag [c2, c2, c2] (ag [(e == (0 : Int)) = true, (bif true then decide (lo ≤ c1) else false) = true, (bif true then decide (c1 ≤ hi) else false) = true] (leaf ret [AV.bool true]))) := by kernel_rfl
theorem Mq : bg P J6 := aH (oN hT (mT wC) hm (aP UG (by kernel_rfl) (by kernel_rfl) (by kernel_rfl)) _ _) bn
theorem VA : bg P HM := aH (oN hT (dM aaW) hm (aP acE (by kernel_rfl) (by kernel_rfl) (by kernel_rfl)) _ _) (aH (oN hT (mT (IK Mq wC)) hm (aP X1 (by kernel_rfl) (by kernel_rfl) (by kernel_rfl)) _ _) bn)
theorem Cn : bg P sN := dM (aH Zc (aH TD (aH QW (aH I3 (aH Ph (aH abn (aH Fl (IK VA aab))))))))
theorem Bs {x v : Nat → Rat} : ∀ {n : Nat}, (∀ j, j < n → 0 ≤ x j) → (∀ j, j < n → 0 ≤ v j) → 0 ≤ bz n fun j => x j * v j
 | 0, _, _ => Rat.le_refl
 | n + 1, hx, hv => by
  have h1 := Bs (n := n) (fun j hj => hx j (by omega)) (fun j hj => hv j (by omega))
  have h2 := Rat.mul_nonneg (hx n (by omega)) (hv n (by omega))
  simp only [bz]; grind
theorem zT {x v : Nat → Rat} : ∀ {n : Nat}, (∀ j, j < n → 0 ≤ x j) → (∀ j, j < n → 0 < v j) → 0 < bz n x → 0 < bz n fun j => x j * v j
 | 0, _, _, h => absurd h (by simp only [bz]; decide)
 | n + 1, hx, hv, h => by
  have h2 := Rat.mul_nonneg (hx n (by omega)) (Rat.le_of_lt (hv n (by omega)))
  by_cases h3 : 0 < bz n x
  ·have h1 := zT (n := n) (fun j hj => hx j (by omega)) (fun j hj => hv j (by omega)) h3
   simp only [bz]; grind
  ·have h1 := Bs (n := n) (x := x) (v := v) (fun j hj => hx j (by omega)) (fun j hj => Rat.le_of_lt (hv j (by omega)))
   simp only [bz] at h
   have h4 := Rat.mul_pos (a := x n) (b := v n) (by grind) (hv n (by omega))
   simp only [bz]; grind
theorem OR {q : Rat} : -1 ≤ bK q := by
 unfold bK
 split
 ·omega
 ·split <;> omega
theorem KD {q : Rat} : 0 ≤ bK q ↔ 0 ≤ q := by
 unfold bK
 constructor
 ·intro h; split at h
  ·omega
  ·grind
 ·intro h; split
  ·grind
  ·split <;> omega
theorem FM {q : Rat} : 1 ≤ bK q ↔ 0 < q := by
 unfold bK
 constructor
 ·intro h; split at h
  ·omega
  ·split at h
   ·assumption
   ·omega
 ·intro h; split
  ·grind
  ·omega
theorem HP {q : Rat} : bK (-q) = -bK q := by
 unfold bK
 by_cases h1 : q < 0
 ·rw [if_pos h1, if_neg (by grind), if_pos (by grind)]; omega
 ·by_cases h2 : 0 < q
  ·rw [if_pos (by grind), if_neg h1, if_pos h2]
  ·rw [if_neg (by grind), if_neg (by grind), if_neg h1, if_neg h2]; omega
theorem DY {m : Nat} {x d u : Nat → Rat} {g w : Rat} {lo : Int} (hx : ∀ j, j < m → 0 ≤ x j) (h1 : bz m x = 1) (hd : ∀ j, j < m → 1 ≤ d j) (hw : 0 < w) (hg : g * w = bz m fun j => x j * (d j * u j)) (hlo : lo ≤ 1) (hb : ∀ j, j < m → lo ≤ bK (u j)) : lo ≤ bK g := by
 have h2 := OR (q := g)
 by_cases l1 : lo ≤ -1
 ·omega
 by_cases l0 : lo ≤ 0
 ·have hu : 0 ≤ bz m fun j => x j * (d j * u j) := Bs hx fun j hj => Rat.mul_nonneg (by have := hd j hj; grind) (KD.1 (by have := hb j hj; omega))
  have : 0 ≤ bK g := KD.2 (by
   rw [← hg] at hu
   rcases Rat.le_total (a := 0) (b := g) with h | h
   ·exact h
   ·by_cases hz : g = 0
    ·rw [hz]; exact Rat.le_refl
    ·have := Rat.mul_pos (a := -g) (b := w) (by grind) hw
     grind)
  omega
 ·have hu : 0 < bz m fun j => x j * (d j * u j) := zT hx (fun j hj => Rat.mul_pos (by have := hd j hj; grind) (FM.1 (by have := hb j hj; omega))) (by rw [h1]; decide)
  have : 1 ≤ bK g := FM.2 (by
   rw [← hg] at hu
   rcases Rat.le_total (a := 0) (b := g) with h | h
   ·by_cases hz : g = 0
    ·rw [hz, Rat.zero_mul] at hu; exact absurd hu (by decide)
    ·grind
   ·have := Rat.mul_nonneg (a := -g) (b := w) (by grind) (by grind)
    grind)
  omega
theorem SZ {f : Nat → Rat} {n : Nat} : bz n (fun j => -f j) = -bz n f := by
 have := Ip (c := -1) (f := f) (n := n)
 rw [← od (f := fun j => -1 * f j) (g := fun j => -f j) fun j _ => by grind]
 grind
theorem aas {m : Nat} {x d u : Nat → Rat} {g w : Rat} {lo hi : Int} (hx : ∀ j, j < m → 0 ≤ x j) (h1 : bz m x = 1) (hd : ∀ j, j < m → 1 ≤ d j) (hw : w = bz m fun j => x j * d j) (hg : g * w = bz m fun j => x j * (d j * u j)) (hlo : lo ≤ 1) (hhi : -1 ≤ hi)
  (hb : ∀ j, j < m → lo ≤ bK (u j) ∧ bK (u j) ≤ hi) : lo ≤ bK g ∧ bK g ≤ hi := by
 have hwp : 0 < w := by rw [hw]; exact zT hx (fun j hj => by have := hd j hj; grind) (by rw [h1]; decide)
 refine ⟨DY hx h1 hd hwp hg hlo fun j hj => (hb j hj).1, ?_⟩
 have := DY (u := fun j => -u j) (g := -g) (lo := -hi) hx h1 hd hwp (by
  have e : bz m (fun j => x j * (d j * -u j)) = -bz m fun j => x j * (d j * u j) := by
   rw [← SZ]; exact od fun j _ => by grind
  rw [e, ← hg]; grind) (by omega) (fun j hj => by rw [HP]; have := (hb j hj).2; omega)
 rw [HP] at this
 omega
def g9 (a : V3) (b : Rat) (q : V3) : Rat := 0 + a.x * q.x + a.y * q.y + a.z * q.z - b
theorem JL {a : V3} {b : Rat} {x d X Y Z : Nat → Rat} : ∀ {n : Nat}, a.x * bz n (fun j => x j * (d j * X j)) + a.y * bz n (fun j => x j * (d j * Y j)) + a.z * bz n (fun j => x j * (d j * Z j)) - b * bz n (fun j => x j * d j) = bz n fun j => x j * (d j * (0 + a.x * X j + a.y * Y j + a.z * Z j - b))
 | 0 => by simp only [bz]; grind
 | n + 1 => by
  have := JL (a := a) (b := b) (x := x) (d := d) (X := X) (Y := Y) (Z := Z) (n := n)
  simp only [bz]
  grind
theorem L2 {a : V3} {b : Rat} {c : Cu} {t : Rat} {lo hi : Int} (hc : fy c) (hw : ∀ i, 1 ≤ (c.f i).d) (hin : ¬ dL c.n c.k t) (hlo : lo ≤ 1) (hhi : -1 ≤ hi) (hb : ∀ j, j < c.m → lo ≤ bK (g9 a b (c.f j).n) ∧ bK (g9 a b (c.f j).n) ≤ hi) :
  lo ≤ bK (g9 a b (kD c t)) ∧ bK (g9 a b (kD c t)) ≤ hi := by
 obtain ⟨h1, h2, h3, h4, h5⟩ := hc
 have hiv := h1.zB hin
 have hIs := h1.K5 hin
 obtain ⟨p, hp⟩ : ∃ p, p = c.p.toNat := ⟨_, rfl⟩
 obtain ⟨i, hi'⟩ : ∃ i, i = cD c.n c.k t := ⟨_, rfl⟩
 obtain ⟨x, hx⟩ : ∃ x, x = vB c.k i t p := ⟨_, rfl⟩
 rw [← hi', ← hp] at hiv
 rw [← hi'] at hIs
 have hnn : ∀ j, j < p + 1 → 0 ≤ x j := fun j _ => by rw [hx]; exact Jv hIs.at_ hIs.lo hIs.hi hiv.1 (by omega) j
 have hone : bz (p + 1) x = 1 := by rw [hx]; exact Gi
 obtain ⟨w, hwd⟩ : ∃ w, w = bz (p + 1) fun j => x j * (c.f (i - p + j)).d := ⟨_, rfl⟩
 have hwp : 0 < w := by rw [hwd]; exact zT hnn (fun j hj => by have := hw (i - p + j); grind) (by rw [hone]; decide)
 have hr : ((1 : Int) : Rat) / w * w = 1 := Rat.div_mul_cancel (by intro h; rw [h] at hwp; exact absurd hwp (by decide))
 refine aas (m := p + 1) (x := x) (d := fun j => (c.f (i - p + j)).d) (u := fun j => g9 a b (c.f (i - p + j)).n) (w := w) hnn hone (fun j _ => hw _) hwd ?_ hlo hhi fun j hj => hb _ (by omega)
 have key := JL (a := a) (b := b) (x := x) (d := fun j => (c.f (i - p + j)).d) (X := fun j => (c.f (i - p + j)).n.x) (Y := fun j => (c.f (i - p + j)).n.y) (Z := fun j => (c.f (i - p + j)).n.z) (n := p + 1)
 have he : kD c t = Ab ⟨⟨bz (p + 1) fun j => x j * ((c.f (i - p + j)).d * (c.f (i - p + j)).n.x), bz (p + 1) fun j => x j * ((c.f (i - p + j)).d * (c.f (i - p + j)).n.y), bz (p + 1) fun j => x j * ((c.f (i - p + j)).d * (c.f (i - p + j)).n.z)⟩, w⟩ := by
  unfold kD
  rw [if_neg hin, hwd, hx, hi', hp]; rfl
 rw [he]
 unfold g9 Ab
 rw [← key, ← hwd]
 dsimp only
 generalize ((1 : Int) : Rat) / w = r at *
 grind
set_option maxHeartbeats 1000000 in
theorem St {a : V3} {b : Rat} {c : Cu} {d : Int} {cx : Ctx} (hk : Kept [] cx) (hc : fy c) (hw : ∀ i, 1 ≤ (c.f i).d) : aq P cx m8.ntmps nv (Dj a b c d) (dc cx (Fin T m8 (.bool true))) := by
 obtain ⟨h1, h2, h3, h4, h5⟩ := id hc
 have hl := h1.len
 have he := h1.QJ
 have hmin : ou (c.k 0) (c.k (c.n - 1)) = c.k 0 := by unfold ou; split <;> grind
 have hmax : nB (c.k 0) (c.k (c.n - 1)) = c.k (c.n - 1) := by unfold nB; split <;> grind
 have hin := h1.aag (d := d)
 obtain ⟨t, ht⟩ : ∃ t, t = c.k 0 + jy d * (c.k (c.n - 1) - c.k 0) := ⟨_, rfl⟩
 rw [← ht] at hin
 have hE : dB c.n (fun i => c.k i) t = 0 := by
  show dB c.n c.k t = 0
  unfold dB; rw [if_neg hin]
 refine aq.lP hT Cn hm (x := nv) [1,1,0,1] (i := 0) (y := part nv [1,1,0,1,0,0]) (z := part nv [1,1,1]) (by kernel_rfl) (by kernel_rfl) (by kernel_rfl) (by kernel_rfl) hk (f1 := []) (f2 := [41]) 60 tD 3 (fun s : Int × Int × Nat => BK 0 s.1 s.2.1 s.2.2) (fun _ => Cd a b c (kD c t))
  (fun s => s.2.2 ≤ c.m ∧ s.1 ≤ 1 ∧ -1 ≤ s.2.1 ∧ ∀ j, j < s.2.2 → s.1 ≤ bK (g9 a b (c.f j).n) ∧ bK (g9 a b (c.f j).n) ≤ s.2.1) (fun s => s.2.2 = c.m ∧ s.1 ≤ 1 ∧ -1 ≤ s.2.1 ∧ ∀ j, j < s.2.2 → s.1 ≤ bK (g9 a b (c.f j).n) ∧ bK (g9 a b (c.f j).n) ≤ s.2.1) (fun s => c.m - s.2.2) (fun _ => False)
  ⟨_, Xu, ?_⟩ (fun s hs => ⟨_, O3, ?_⟩) (fun s hs => ?_) (fun _ _ h => h.elim)
 ·have e1 : ((c.n : Int) - 1).toNat = c.n - 1 := by omega
  simp only [aa.all, ay, e1, Int.toNat_zero, hmin, hmax, ← ht, pX, hE]
  (repeat' with_reducible refine And.intro ?_ ?_)
  all_goals first | omega | exact ej (by decide) | exact lG (by decide) | exact hc | decide | exact beq_eq_false_iff_ne.2 (by omega) | skip
  exact ⟨(1, -1, 0), ⟨Nat.zero_le _, by decide, by decide, fun j hj => absurd hj (Nat.not_lt_zero j)⟩, [(0, 0), (1, 1), (2, 36866)], rfl, rfl, rfl, aR rfl rfl (aM rfl rfl) (aR rfl rfl (aM rfl rfl) (aR rfl rfl (aM rfl rfl) trivial))⟩
 ·obtain ⟨lo, hi, k⟩ := s
  obtain ⟨s1, s2, s3, s4⟩ := hs
  dsimp only at s1 s2 s3 s4
  simp only [aa.all, ay, decide_eq_true_eq, decide_eq_false_iff_not, Int.toNat_natCast]
  refine ⟨by omega, fun h => ⟨⟨by omega, by omega, by omega, by omega⟩, by omega, (if bK (g9 a b (c.f k).n) < lo then bK (g9 a b (c.f k).n) else lo, if hi < bK (g9 a b (c.f k).n) then bK (g9 a b (c.f k).n) else hi, k + 1), ⟨by dsimp only; omega, by dsimp only; split <;> omega, by dsimp only; split <;> omega, fun j hj => ?_⟩, by dsimp only; omega, [(0, 0), (1, 1), (2, 2)], rfl, rfl, rfl, aR rfl rfl (aM rfl rfl) (aR rfl rfl (aM rfl rfl) (aR rfl rfl (aM rfl rfl) trivial))⟩,
   fun h => ⟨rfl, (lo, hi, k), ⟨by dsimp only; omega, s2, s3, s4⟩, [(0, 0), (1, 1), (2, 2)], rfl, rfl, rfl, aR rfl rfl (aM rfl rfl) (aR rfl rfl (aM rfl rfl) (aR rfl rfl (aM rfl rfl) trivial))⟩⟩
  dsimp only at hj ⊢
  by_cases hjk : j = k
  ·subst hjk
   constructor <;> split <;> omega
  ·have := s4 j (by omega)
   constructor <;> split <;> omega
 ·obtain ⟨lo, hi, k⟩ := s
  obtain ⟨s1, s2, s3, s4⟩ := hs
  dsimp only at s1 s2 s3 s4
  subst s1
  refine aq.nq ((aB.fin hT Cn hm 60 YK (by kernel_rfl) ?_).mono fun _ _ h => .inl h)
  obtain ⟨g1, g2⟩ := L2 (t := t) hc hw hin s2 s3 s4
  simp only [aa.all, ay, cond_true]
  exact ⟨⟨by omega, by omega, by omega⟩, ⟨by decide, decide_eq_true g1, decide_eq_true g2⟩, .refl _⟩
set_option maxHeartbeats 1000000 in
theorem PV {n : Nat} {z : Nat → Int} {d : Int} (K : Nat) : aA P Bv K [.ak 1 n (fun i => .int .i64 (z i)), .int .i64 d] [] (aG (.bool true) []) := by
 refine gb (r := aG (.bool true) []) hT KQ rfl (of_decide_eq_true (by kernel_rfl)) rfl (fun _ cx h0 => ?_) K []
 have hk := sX h0
 have hret : lT m8 zN (.bool true) ([AV.bool true, .int .i64 d, tuple [], tuple []], []) := ⟨[.bool true], by kernel_rfl, bA.refl _⟩
 refine aq.hole [1,1,1,1,1] (by kernel_rfl) (aB.aX hT Cn hm 60 zN Ym (nC KQ.dst) ?_)
 simp only [aa.all, ay]
 refine ⟨fun h s' hs' => hret.fin hs', fun h => ?_⟩
 have hn : n ≤ 500 := by simp only [Bool.not_eq_false', decide_eq_true_eq] at h; omega
 have hd : ct n (eA z) 0 := ⟨fun i => rfl, by omega, by omega, by omega⟩
 have hd2 := hd.z3
 have hd3 := hd2.number
 refine ⟨⟨hd, hd2, by omega⟩, ⟨hd3, by omega, by omega, by omega, by omega, by omega⟩, fun s' hs' => ?_⟩
 obtain ⟨c, hc⟩ : ∃ c, c = fY n (eA z) (cX n (eA z) (gJ n (eA z) 0)) 4 4 false := ⟨_, rfl⟩
 obtain ⟨k1, k2, k3, k4, k5, k6⟩ := T6 (m := 4) (b := false) hd3 (show (1 : Int) ≤ 4 by omega)
 rw [← hc] at k1 k2 k3 k4 k5 k6
 have hkc : fy c := ⟨k1, k2, by omega, by omega, k4⟩
 show aq _ _ _ nv s' _
 rw [show behind BT [1,1,1,1,1] = [] from by kernel_rfl]
 refine aq.jK (s2 := Dj ⟨ek n (eA z) 0, ek n (eA z) (cX n (eA z) 0), ek n (eA z) (cX n (eA z) (cX n (eA z) 0))⟩ (ek n (eA z) (gJ n (eA z) 0)) c d) (eB.le ⟨[(0, 49152), (1, 65536)], rfl, rfl, rfl, aR rfl rfl (aM rfl ?_) (aR rfl rfl (aM rfl rfl) trivial)⟩ hs' hk) ((St hk hkc fun i => (k6 i).1).mono fun e s' h => by cases e <;> exact h)
 rw [hc]; rfl
end Go.Am.B
