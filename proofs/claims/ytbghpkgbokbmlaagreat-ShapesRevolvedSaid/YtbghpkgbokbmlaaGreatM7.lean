/- brepkernellaw14.ShapesRevolved. -/
import Derived.Test.YtbghpkgbokbmlaaGreatY49
import Derived.Test.YtbghpkgbokbmlaaGreatY53
set_option linter.unusedVariables false
namespace Go.Am.B
open Go Go.Am.N AV aa ah IntKind
theorem EZ : aS P BF mK (au mK) := aN Vx (by kernel_rfl) (by kernel_rfl) (by kernel_rfl)
abbrev vu (z : Nat → Int) : Nat → AV := fun i => .int .i64 (z i)
noncomputable def DB : aT := [(JC, cZ T [nG] [] 60 HA), (HP, cZ T (sG :: gm) [] 60 Hg)]
noncomputable def ur : aT := nG :: (xu, Ju) :: (xU, DH) :: (yQ, G5) :: (tM, gd A5) :: (ni, xw) :: (qy, CV) :: (uL, IL) :: (y5, IE) :: (mS, AE) :: (nh, yq) :: (DB ++ (Kl ++ (x7 ++ gm)))
abbrev rU : List Nat := [8, 10, 16, 18, 20, 22, 24, 25]
abbrev z8 (q : Int) (k : Nat) : List AV := [.bool false, .int .i64 q, .ptr 0 0 9 0 [], .ptr 1 0 9 0 [], .ptr 2 0 9 0 [], .ptr 3 0 9 0 [], .ptr 4 0 9 0 [], .int .i64 k]
abbrev qF (a : V3) (s : Nat) : ay := ⟨false, true, 9, 1, fun _ => vA a s⟩
abbrev z6 (p y a b z : V3) : aD := [(4, qF z sE), (3, qF b jj), (2, qF a jj), (1, qF y sE), (0, qF p jj)]
abbrev uq : List Nat := [1,1,1,1,1,1,1,1,1,1,0,1]
noncomputable abbrev BB : Code := au mK
noncomputable abbrev lX : Code := part BB [1,1,1]
abbrev yh : List Nat := [8, 1, 2, 3, 9]
abbrev Bl (c : Cu) (d i j : Int) : aF := ⟨aA yh [.bool false, .int .i64 d, .int .i64 i, .int .i64 j, .ptr 0 0 3 0 []], [(0, ⟨false, true, 3, 1, fun _ => fc c 64 64⟩)], 1⟩
theorem MH {n : Nat} {z : Nat → Int} {d i j : Int} : aI T ur [28] 60 yh (before BB [1,1,1]) ⟨aO 0 [.aj 1 n (vu z), .int .i64 d, .int .i64 i, .int .i64 j], [], 0⟩ =
  some (fork (!decide ((↑n : Int) ≤ (500 : Int))) (leaf ret ([AV.bool true, int i64 d, int i64 i, int i64 j, tuple []], [])) (af [cr n (vu z) (0 : Int), (1 : Int) ≤ (3 : Int), (3 : Int) < (900 : Int), (0 : Int) ≤ (2 : Int), (2 : Int) < (900 : Int), (0 : Nat) < 1] (leaf normal ([AV.bool false, int i64 d, int i64 i, int i64 j, ptr 28672 0 3 0 []], [((28672 : Nat), ay.mk false true 3 1 fun j ↦ if (j == 0) = true then bu (fc (fU n (vu z) (0 : Int) (3 : Int) (Int.toNat (2 : Int)) false) 64 64) else agg [int i64 (0 : Int), nil, nil])])))) := by kernel_rfl
theorem Sk {c : Cu} {d i j : Int} : aI T ur [200050, 200056, 200060] 60 rU (before lX uq) (Bl c d i j) =
  let c19 : AV := rat 0 1; let c15 : Int := (↑c.n : Int) - (1 : Int); let c14 : Int := (2 : Int) ^ 63; let c13 : Int := (1 : Int) + d % (4 : Int); let c12 : Prop := cq (fun i ↦ rat (aM (rat (c.k i) 64)) sY) c.n sK; let c9 : Nat := Int.toNat (0 : Int); let c8 : Prop := sY + ((64 : Nat) + (sY + sY + 1)) + 1 ≤ sK; let c5 : Cu := Cu.mk c.p c.n (fun i ↦ aM (rat (c.k i) 64)) c.m fun i ↦ qd (dO (c.f i) 64); let c4 : Prop := 0 < 1; let c20 : Rat := aM (rat (c.k c9) 64); let c7 : AV := agg [c19, c19, c19]; let c2 : Nat := c13.toNat; let c18 : Nat := 2 * c2 + 1; let c6 : Nat := 2 * c2 + 4; let c3 : Rat := c20 + g9 j * (aM (rat (c.k c15.toNat) 64) - c20); let c22 : AV := bu (vA (ep c5 c3) sE); let c16 : Prop := cq (fun i ↦ rat (bI c2 i) sY) c6 sK; let c11 : Prop := lE (fun i ↦ ee (gD c5 i) c.m sY) c18 sK; let c10 : Int := (↑c6 : Int) - (1 : Int); let c1 : Sf := Sf.mk (2 : Int) c.p c6 (fun i ↦ aM (rat (bI c2 i) sY)) c.n (fun i ↦ aM (rat (aM (rat (c.k i) 64)) sY)) c18 (qn (ee (gD c5 0) c.m sY)) (oE fun i ↦ ee (gD c5 i) c.m sY); let c21 : Rat := bI c2 c10.toNat; let c17 : Rat := bI c2 c9 + g9 i * (c21 - bI c2 c9); some (af [(0 : Int) < (4 : Int), (4 : Int) < (2 : Int) ^ 62, -c14 ≤ c13 ∧ c13 < c14] (af [c4, cq (fun i ↦ rat (c.k i) 64) c.n sX, jz (fun i ↦ dO (c.f i) 64) c.m 300, (1 : Int) ≤ c13, c13 ≤ (4 : Int), c.n < 2 ^ 30, c.m < 2 ^ 30, c4] (af [c4, (bif (0 : Int) != (0 : Int) then true else (↑c6 : Int) == (0 : Int)) = false, c4, (bif false then true else (↑c.n : Int) == (0 : Int)) = false, c4, cq (fun i ↦ rat (bI c2 i) sY) c6 2048, cq (fun i ↦ rat (aM (rat (c.k i) 64)) sY) c.n 2048, lE (fun i ↦ ee (gD c5 i) c.m sY) c18 2048, wH c1] (af [(bif false then true else (0 : Int) != (0 : Int)) = false] (af [c4, c4, (0 : Int) ≤ (0 : Int) ∧ c9 < c6, c4, c4, -c14 ≤ c10 ∧ c10 < c14, (0 : Int) ≤ c10 ∧ c10.toNat < c6, c4, (0 : Int) ≤ (0 : Int) ∧ c9 < c.n, c4, c4, -c14 ≤ c15 ∧ c15 < c14, (0 : Int) ≤ c15 ∧ c15.toNat < c.n, c4, c4, c4, c4, c4, c4] (af [c4, c4, c4] (af [c4, c4, c4, c4, c16, c12, c11, c8, c8, kg c1, ¬bT c6 (fun i ↦ aM (rat (bI c2 i) sY)) c17, c4] (af [c4, c4, cq (fun i ↦ rat (c.k i) 64) c.n sK, jz (fun i ↦ dO (c.f i) 64) c.m sK, c8, Kn c.n c.p.toNat fun i ↦ aM (rat (c.k i) 64), (0 : Int) ≤ c.p, c.p ≤ (6 : Int), c.n < 2 ^ 40, (↑c.m : Int) = (↑c.n : Int) - c.p - (1 : Int), c4] (af [c4, c4, c4, c16, c12, c11, sY ≤ sK, c8, kg c1, ¬bT c6 (fun i ↦ aM (rat (bI c2 i) sY)) (bI c2 c9), c4] (af [c4, c4, c4, c16, c12, c11, sY ≤ sK, c8, kg c1, ¬bT c6 (fun i ↦ aM (rat (bI c2 i) sY)) c21, c4] (af [c4, c4] (leaf normal ([AV.bool false, int i64 c13, ptr 225281 0 9 0 [], ptr 262145 0 9 0 [], ptr 307201 0 9 0 [], ptr 352257 0 9 0 [], ptr 368641 0 9 0 [], int i64 (0 : Int)], [((368641 : Nat), ay.mk false true 9 1 fun j ↦ if (j == 0) = true then bu (if ((0 : Nat) == 0) = true then c22 else c7) else c7), ((352257 : Nat), ay.mk false true 9 1 fun j ↦ if (j == 0) = true then bu (vA (ep (jb c1 c21) c3) jj) else c7), ((307201 : Nat), ay.mk false true 9 1 fun j ↦ if (j == 0) = true then bu (vA (ep (jb c1 (bI c2 c9)) c3) jj) else c7), ((262145 : Nat), ay.mk false true 9 1 fun j ↦ if (j == 0) = true then c22 else c7), ((225281 : Nat), ay.mk false true 9 1 fun j ↦ if (j == 0) = true then bu (vA (ep (jb c1 c17) c3) jj) else c7)]))))))))))))) := by kernel_rfl
theorem Y4 {p y a b z : V3} {q : Int} {k : Nat} : aI T ur [103] 60 rU [part lX (uq ++ [0,0])] ⟨aA rU (z8 q k), z6 p y a b z, 5⟩ =
  let c11 : Int := (↑k : Int); let c10 : Int := (↑(3 : Nat) : Int); let c8 : AV := rat 0 1; let c7 : AV := ptr 3 0 9 0 []; let c6 : AV := ptr 0 0 9 0 []; let c5 : AV := ptr 2 0 9 0 []; let c4 : AV := ptr 1 0 9 0 []; let c3 : AV := ptr 4 0 9 0 []; let c2 : Prop := 0 < 1; let c1 : List (Nat × ay) := [((3 : Nat), ay.mk false true 9 1 fun x ↦ agg [rat b.x 137438953474, rat b.y 137438953474, rat b.z 137438953474]), ((2 : Nat), ay.mk false true 9 1 fun x ↦ agg [rat a.x 137438953474, rat a.y 137438953474, rat a.z 137438953474]), ((1 : Nat), ay.mk false true 9 1 fun x ↦ agg [rat y.x 4294967298, rat y.y 4294967298, rat y.z 4294967298]), ((0 : Nat), ay.mk false true 9 1 fun x ↦ agg [rat p.x 137438953474, rat p.y 137438953474, rat p.z 137438953474])]; let c9 : Int := c11 + (1 : Int); some (fork (decide (c11 < q)) (af [(0 : Int) ≤ (1 : Int) ∧ (1 : Int) < c10, c2, (0 : Int) ≤ (0 : Int) ∧ (0 : Int) < c10, c2, (0 : Int) ≤ (2 : Int) ∧ (2 : Int) < c10, c2, c2] (af [-(2 : Int) ^ 63 ≤ c9 ∧ c9 < (2 : Int) ^ 63] (leaf normal ([AV.bool false, int i64 q, c6, c4, c5, c7, c3, int i64 c9], ((4 : Nat), ay.mk false true 9 1 fun j ↦ if (j == 0) = true then bu (agg ((((agg [c8, c8, c8]).kids.set 0 (bu (rat (-z.y) sE))).set 1 (bu (rat z.x sE))).set 2 (bu (rat z.z sE)))) else vA z sE) :: c1)))) (leaf (exit 0) ([AV.bool false, int i64 q, c6, c4, c5, c7, c3, int i64 c11], ((4 : Nat), ay.mk false true 9 1 fun x ↦ agg [rat z.x 4294967298, rat z.y 4294967298, rat z.z 4294967298]) :: c1))) := by kernel_rfl
theorem V8 {p y a b z : V3} {q : Int} {k : Nat} : b9 T ur [100119, 100126, 100131, 100136] 60 mK (behind lX uq) ⟨aA rU (z8 q k), z6 p y a b z, 5⟩ =
  let c2 : Prop := (0 : Int) ≤ (2 : Int) ∧ (2 : Int) < (↑(3 : Nat) : Int); let c1 : Prop := 0 < 1; some (af [c2, c1, c2, c1, decide (p.z = y.z) = true, c1, c1, c1, c1, (bif true then decide (p.x * p.x + p.y * p.y = y.x * y.x + y.y * y.y) else false) = true, c1, c1, decide (a.x = y.x) = true, (bif true then decide (a.y = y.y) else false) = true, (bif true then bif true then decide (a.z = y.z) else false else false) = true, c1, c1, decide (b.x = z.x) = true, (bif true then decide (b.y = z.y) else false) = true, (bif true then bif true then decide (b.z = z.z) else false else false) = true] (leaf ret [AV.bool true])) := by kernel_rfl
theorem Ui : bh P DB := aE (dh hT (eP aY) hm (aN VD (by kernel_rfl) (by kernel_rfl) (by kernel_rfl)) _ _) (aE (dh hT (de gF) hm (aN QG (by kernel_rfl) (by kernel_rfl) (by kernel_rfl)) _ _) aY)
theorem AM : bh P ur := eP (aE VS (aE Kz (aE WD (aE Oz (aE BU (aE MZ (aE abG (aE RG (aE DK (aE zJ (gA Ui (gA PZ (gA B0 gF)))))))))))))
theorem X7 {i : Nat} (h : i < 9) : 0 < (eZ i : Rat) := by
 match i, h with
 | 0, _ | 1, _ | 2, _ | 3, _ | 4, _ | 5, _ | 6, _ | 7, _ | 8, _ => decide +kernel
theorem PC {cx : Ctx} (hk : Kept [] cx) {c : Cu} {d i j : Int} (hkn : Kn c.n c.p.toNat c.k) (h1 : 1 ≤ c.p) (h3 : c.p ≤ 3) (hm2 : (c.m : Int) = (c.n : Int) - c.p - 1) (hml : c.m ≤ 6) (hw : ∀ i, 0 < (c.f i).d) :
  ak P cx mK.ntmps lX (Bl c d i j) (dD cx (Fin T mK (.bool true))) := by
 have hd0 := Int.emod_nonneg d (show (4 : Int) ≠ 0 by omega)
 have hd1 := Int.emod_lt_of_pos d (show (0 : Int) < 4 by omega)
 obtain ⟨q, hq⟩ : ∃ q, q = (1 + d % 4).toNat := ⟨_, rfl⟩
 have hq2 : 1 + d % 4 = (q : Int) := by omega
 have hq1 : 1 ≤ q := by omega
 have hq4 : q ≤ 4 := by omega
 have hl := hkn.len
 have hs : kg (fH c q) := ⟨sS hq1, hkn, by show (0 : Int) ≤ 2; omega, by show (2 : Int) ≤ 6; omega, by show (0 : Int) ≤ c.p; omega, by show c.p ≤ 6; omega, by show 2 * q + 4 < 2 ^ 30; omega, by show c.n < 2 ^ 30; omega, by show ((2 * q + 1 : Nat) : Int) = ((2 * q + 4 : Nat) : Int) - 2 - 1; omega, hm2⟩
 have hso : wH (fH c q) := ⟨hs.ku, hs.kv, hs.u0, hs.u6, hs.v0, hs.v6, by show 2 * q + 4 ≤ 2 + 41; omega, by show c.n ≤ c.p.toNat + 41; omega, hs.n, hs.m, fun i j hi _ => Rat.mul_pos (X7 (show i < 9 by have : i < 2 * q + 1 := hi; omega)) (hw j)⟩
 have e1 : (((2 * q + 4 : Nat) : Int) - 1).toNat = 2 * q + 4 - 1 := by omega
 have e2 : ((c.n : Int) - 1).toNat = c.n - 1 := by omega
 have hlo : bI q 0 = 0 := by rw [gV]; unfold eO; simp
 have hhi : bI q (2 * q + 4 - 1) = (q : Rat) := by rw [gV]; congr 1; unfold eO; omega
 have hiU : ¬ bT (2 * q + 4) (bI q) (bI q 0 + g9 i * (bI q (2 * q + 4 - 1) - bI q 0)) := (sS hq1).Jr
 have hiL : ¬ bT (2 * q + 4) (bI q) (bI q 0) := by
  rintro (h | h)
  ·exact absurd h (by grind)
  ·have := (sS hq1).mono (show 0 ≤ 2 * q + 4 - 1 by omega) (by omega); grind
 have hiH : ¬ bT (2 * q + 4) (bI q) (bI q (2 * q + 4 - 1)) := by
  rintro (h | h)
  ·have := (sS hq1).mono (show 0 ≤ 2 * q + 4 - 1 by omega) (by omega); grind
  ·exact absurd h (by grind)
 obtain ⟨t, ht⟩ : ∃ t, t = c.k 0 + g9 j * (c.k (c.n - 1) - c.k 0) := ⟨_, rfl⟩
 have hiT : ¬ bT c.n c.k t := by rw [ht]; exact hkn.Jr
 have hiv := hkn.u7 hiT
 have hne : ∀ j, j < c.m → (c.f j).d ≠ 0 := fun j _ h => by have := hw j; rw [h] at this; exact absurd this (by decide)
 obtain ⟨C1, S1, D1, T1, r1⟩ := Ao hq1 hq4 hiU hiT hne (by omega)
 obtain ⟨C2, S2, D2, T2, r2⟩ := Ao hq1 hq4 hiL hiT hne (by omega)
 obtain ⟨C3, S3, D3, T3, r3⟩ := Ao hq1 hq4 hiH hiT hne (by omega)
 rw [hlo] at T2
 rw [hhi] at T3
 obtain ⟨y, hy⟩ : ∃ y, y = ep c t := ⟨_, rfl⟩
 obtain ⟨p, hp⟩ : ∃ p, p = ep (jb (fH c q) (bI q 0 + g9 i * (bI q (2 * q + 4 - 1) - bI q 0))) t := ⟨_, rfl⟩
 obtain ⟨a, ha⟩ : ∃ a, a = ep (jb (fH c q) (bI q 0)) t := ⟨_, rfl⟩
 obtain ⟨b, hb⟩ : ∃ b, b = ep (jb (fH c q) (bI q (2 * q + 4 - 1))) t := ⟨_, rfl⟩
 rw [← hy] at r1 r2 r3
 have hp2 := hp.trans r1
 have ha2 : a = y := ha.trans (r2.trans (by rw [(H8 T2).1, (H8 T2).2]))
 have hb2 : b = uT y q := hb.trans (r3.trans (Lm hq1 hq4 T3))
 refine ak.iM hT AM hm (x := lX) uq (i := 0) (y := part lX (uq ++ [0,0])) (z := part lX [1,1,1,1,1,1,1,1,1,1,1]) (by kernel_rfl) (by kernel_rfl) (by kernel_rfl) (by kernel_rfl) hk (f1 := [200050, 200056, 200060]) (f2 := [103]) 60 rU 5 (fun k : Nat => z8 q k) (fun k => z6 p y a b (uT y k)) (fun k => k ≤ q) (fun k => k = q) (fun k => q - k) (fun _ => False) ⟨_, Sk, ?_⟩ (fun k hkq => ⟨_, Y4, ?_⟩) (fun k hkq => ?_) (fun _ _ h => h.elim)
 ·simp only [aa.all, ax, hq2, Int.toNat_natCast, e1, e2, Int.toNat_zero]
  have aK : ∀ {s}, 64 ≤ s → cq (fun i => rat (c.k i) 64) c.n s := fun h => dr h
  have aK2 : ∀ {s}, sY ≤ s → cq (fun i => rat (aM (rat (c.k i) 64)) sY) c.n s := fun h => dr h
  have aC : ∀ {s}, sY ≤ s → cq (fun i => rat (bI q i) sY) (2 * q + 4) s := fun h => dr h
  have aR : ∀ {s}, sY ≤ s → lE (fun i => ee (gD c i) c.m sY) (2 * q + 1) s := fun h => yB h
  have z1 : (((2 * q + 4 : Nat) : Int) == 0) = false := beq_eq_false_iff_ne.2 (by omega)
  have z2 : ((c.n : Int) == 0) = false := beq_eq_false_iff_ne.2 (by omega)
  refine ⟨by omega, ⟨by omega, aK (by decide), oH (by decide), by omega, by omega, by omega, by omega, by omega⟩, ⟨by omega, z1, by omega, z2, by omega, aC (by decide), aK2 (by decide), aR (by decide), hso⟩, rfl, ?_, by omega, ⟨by omega, by omega, by omega, by omega, aC (by decide), aK2 (by decide), aR (by decide), by decide, by decide, hs, hiU, by omega⟩,
   ⟨by omega, by omega, aK (by decide), oH (by decide), by decide, hkn, by omega, by omega, by omega, hm2, by omega⟩, ⟨by omega, by omega, by omega, aC (by decide), aK2 (by decide), aR (by decide), by decide, by decide, hs, hiL, by omega⟩, ⟨by omega, by omega, by omega, aC (by decide), aK2 (by decide), aR (by decide), by decide, by decide, hs, hiH, by omega⟩, by omega,
   0, Nat.zero_le _, [(0, 225281), (1, 262145), (2, 307201), (3, 352257), (4, 368641)], rfl, rfl, rfl, ?_⟩
  ·omega
  ·refine aU rfl rfl (aQ rfl ?_) (aU rfl rfl (aQ rfl ?_) (aU rfl rfl (aQ rfl ?_) (aU rfl rfl (aQ rfl ?_) (aU rfl rfl (aQ rfl ?_) trivial))))
   ·rw [hy, ht]; rfl
   ·rw [hb, ht]; rfl
   ·rw [ha, ht]; rfl
   ·rw [hy, ht]; rfl
   ·rw [hp, ht]; rfl
 ·simp only [aa.all, ax, decide_eq_true_eq, decide_eq_false_iff_not]
  exact ⟨fun h => ⟨by omega, by omega, k + 1, by omega, by dsimp only; omega, [(0, 0), (1, 1), (2, 2), (3, 3), (4, 4)], rfl, rfl, rfl, aU rfl rfl (aQ rfl rfl) (aU rfl rfl (aQ rfl rfl) (aU rfl rfl (aQ rfl rfl) (aU rfl rfl (aQ rfl rfl) (aU rfl rfl (aQ rfl rfl) trivial))))⟩,
   fun h => ⟨rfl, k, by omega, [(0, 0), (1, 1), (2, 2), (3, 3), (4, 4)], rfl, rfl, rfl, aU rfl rfl (aQ rfl rfl) (aU rfl rfl (aQ rfl rfl) (aU rfl rfl (aQ rfl rfl) (aU rfl rfl (aQ rfl rfl) (aU rfl rfl (aQ rfl rfl) trivial))))⟩⟩
 ·subst hkq
  refine ak.jg ((az.fin hT AM hm 60 V8 (by kernel_rfl) ?_).mono fun _ _ h => .inl h)
  simp only [aa.all, ax, cond_true, decide_eq_true_eq]
  have hz : p.z = y.z := by rw [hp2]
  have hx : p.x * p.x + p.y * p.y = y.x * y.x + y.y * y.y := by rw [hp2]; exact OW T1
  exact ⟨⟨by omega, by omega, by omega, by omega, hz, by omega, by omega, by omega, by omega, hx, by omega, by omega, by rw [ha2], by rw [ha2], by rw [ha2], by omega, by omega, by rw [hb2], by rw [hb2], by rw [hb2]⟩, .refl _⟩
theorem Qi {n : Nat} {z : Nat → Int} {d i j : Int} (K : Nat) : aB P BF K [.aj 1 n (fun i => .int .i64 (z i)), .int .i64 d, .int .i64 i, .int .i64 j] [] (aH (.bool true) []) := by
 refine fq (r := aH (.bool true) []) hT EZ rfl (of_decide_eq_true (by kernel_rfl)) rfl (fun _ cx h0 => ?_) K []
 have hk := kE h0
 have hret : jS mK yh (.bool true) ([AV.bool true, .int .i64 d, .int .i64 i, .int .i64 j, tuple []], []) := ⟨[.bool true], by kernel_rfl, bD.refl _⟩
 refine ak.hole [1,1,1] (by kernel_rfl) (az.bk hT AM hm 60 yh MH (nK EZ.dst) ?_)
 simp only [aa.all, ax]
 refine ⟨fun h s' hs' => hret.fin hs', fun h => ?_⟩
 have hn : n ≤ 500 := by simp only [Bool.not_eq_false', decide_eq_true_eq] at h; omega
 have hd : cr n (vu z) 0 := ⟨fun i => rfl, by omega, by omega, by omega⟩
 refine ⟨⟨hd, by omega, by omega, by omega, by omega, by omega⟩, fun s' hs' => ?_⟩
 obtain ⟨c, hc⟩ : ∃ c, c = fU n (vu z) 0 3 2 false := ⟨_, rfl⟩
 obtain ⟨k1, k2, k3, k4, k5, k6⟩ := Sr (m := 2) (b := false) hd (show (1 : Int) ≤ 3 by omega)
 rw [← hc] at k1 k2 k3 k4 k5 k6
 show ak _ _ _ lX s' _
 rw [show behind BB [1,1,1] = [] from by kernel_rfl]
 refine ak.mJ (s2 := Bl c d i j) (dx.le ⟨[(0, 28672)], rfl, rfl, rfl, aU rfl rfl (aQ rfl ?_) trivial⟩ hs' hk) ((PC hk k1 k2 k3 k4 (by omega) fun i => by have := (k6 i).1; grind).mono fun e s' h => by cases e <;> exact h)
 rw [hc]; rfl
end Go.Am.B
