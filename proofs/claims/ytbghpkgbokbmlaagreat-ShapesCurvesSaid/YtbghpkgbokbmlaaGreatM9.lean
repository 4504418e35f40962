/- brepkernellaw14.ShapesCurves. -/
import Derived.Test.YtbghpkgbokbmlaaGreatY48
import Derived.Test.YtbghpkgbokbmlaaGreatY52
set_option linter.unusedVariables false
namespace Go.Am.B
open Go Go.Am.N AV aa ah IntKind
theorem Dx : aO P vJ nD (au nD) := aL Nw (by kernel_rfl) (by kernel_rfl) (by kernel_rfl)
abbrev bI (z : Nat → Int) : Nat → AV := fun i => .int .i64 (z i)
noncomputable def uJ : aP := (uP, Cw) :: (tK, zC) :: (s6, Fb) :: (vj, iP xH) :: (uE, iP oe) :: (rG, uH) :: (rQ, uH) :: (tM, uR) :: (uW, uR) :: (nX, DU) :: (Du ++ yx)
abbrev mW : List Nat := [4, 1, 5, 6, 7, 8, 9, 10]
noncomputable abbrev pL : Code := au nD
abbrev xj (u : Int) (i : Nat) : List AV := [.bool false, .int .u8 u, .ptr 0 0 2 0 [], .ptr 1 0 9 0 [], .ptr 2 0 9 0 [], .ptr 3 0 3 0 [], .own 4 9 0 i, .int .i64 i]
abbrev FF (a : V3) : aJ := ⟨false, true, 9, 1, fun _ => vA a 64⟩
abbrev ye (n : Nat) (z : Nat → Int) (d : Int) (g : Nat → V3) (a b : V3) (r : Rat) (i : Nat) : aC := [(4, ⟨true, true, 9, i, fun j => vA (g j) 64⟩), (3, tP r 64), (2, FF b), (1, FF a), (0, NA n z d)]
theorem Gt {n : Nat} {z : Nat → Int} {u : Int} : aI T uJ [21] 60 mW (before pL [1,1,1,1,1,0,1]) ⟨aM 0 [.ak 1 n (bI z), .int .u8 u], [], 0⟩ =
  let c6 : Int := cu n (bI z) (0 : Int); let c5 : AV := tuple []; let c3 : Prop := 0 < 1; let c2 : Int := gJ n (bI z) (0 : Int); let c1 : AV := rat 0 1; let c4 : Int := gJ n (bI z) c2; some (fork (!decide ((↑n : Int) ≤ (500 : Int))) (leaf ret ([AV.bool true, int u8 u, c5, c5, c5, c5, c5, c5], [])) (af [dg n (bI z) (0 : Int), dg n (bI z) c2, dg n (bI z) c4, c3, c3, c3] (leaf normal ([AV.bool false, int u8 u, ptr 20480 0 2 0 [], ptr 53248 0 9 0 [], ptr 57344 0 9 0 [], ptr 61440 0 3 0 [], nil, int i64 (0 : Int)], [((61440 : Nat), aJ.mk false true 3 1 fun j ↦ if (j == 0) = true then bN (rat (dB n (bI z) c4) 64) else c1), ((57344 : Nat), aJ.mk false true 9 1 fun j ↦ if (j == 0) = true then bN (agg [rat (dB n (bI z) c2) 64, rat (dB n (bI z) (cu n (bI z) c2)) 64, rat (dB n (bI z) (cu n (bI z) (cu n (bI z) c2))) 64]) else agg [c1, c1, c1]), ((53248 : Nat), aJ.mk false true 9 1 fun j ↦ if (j == 0) = true then bN (agg [rat (dB n (bI z) (0 : Int)) 64, rat (dB n (bI z) c6) 64, rat (dB n (bI z) (cu n (bI z) c6)) 64]) else agg [c1, c1, c1]), ((20480 : Nat), aJ.mk false true 2 1 fun x ↦ agg [ak 1 n fun a ↦ int i64 (z a), int i64 (cu n (bI z) c4)])])))) := by kernel_rfl
theorem Gx {n i : Nat} {z : Nat → Int} {u d : Int} {g : Nat → V3} {a b : V3} {r : Rat} : aI T uJ [35] 60 mW [part pL [1,1,1,1,1,0,1,0,0]] ⟨aB mW (xj u i), ye n z d g a b r i, 5⟩ =
  let c12 : Int := (↑i : Int); let c11 : Int := (i64.wrap u).tmod (43 : Int); let c10 : Int := cu n (fun i ↦ int i64 (z i)) d; let c9 : AV := ak 1 n fun i ↦ int i64 (z i); let c8 : AV := rat 0 1; let c7 : AV := ptr 3 0 3 0 []; let c6 : AV := ptr 0 0 2 0 []; let c5 : AV := ptr 2 0 9 0 []; let c4 : AV := ptr 1 0 9 0 []; let c3 : Nat × aJ := ((3 : Nat), aJ.mk false true 3 1 fun x ↦ rat r 64); let c2 : Nat × aJ := ((1 : Nat), aJ.mk false true 9 1 fun x ↦ agg [rat a.x 64, rat a.y 64, rat a.z 64]); let c1 : Nat × aJ := ((2 : Nat), aJ.mk false true 9 1 fun x ↦ agg [rat b.x 64, rat b.y 64, rat b.z 64]); some (af [(43 : Int) ≠ (0 : Int)] (fork (decide (c12 < c11)) (af [dg n (fun i ↦ int i64 (z i)) d, (1 : Nat) * 9 ≤ 2 ^ 24, (i + 1) * ((168 : Nat) + 1) * 2 ≤ 2 ^ 47] (leaf normal ([AV.bool false, int u8 u, c6, c4, c5, c7, own 36869 9 0 (i + 1), int i64 (i64.wrap (c12 + (1 : Int)))], [((36869 : Nat), aJ.mk true true 9 (i + 1) fun i_1 ↦ if i_1 < i then vA (g i_1) 64 else nth [agg [rat (dB n (fun i ↦ int i64 (z i)) d) 64, rat (dB n (fun i ↦ int i64 (z i)) c10) 64, rat (dB n (fun i ↦ int i64 (z i)) (cu n (fun i ↦ int i64 (z i)) c10)) 64]] (agg [c8, c8, c8]) (i_1 - i + 0)), c3, c1, c2, ((0 : Nat), aJ.mk false true 2 1 fun x ↦ agg [c9, int i64 (gJ n (fun i ↦ int i64 (z i)) d)])]))) (leaf (exit 0) ([AV.bool false, int u8 u, c6, c4, c5, c7, own 4 9 0 i, int i64 c12], [((4 : Nat), aJ.mk true true 9 i fun j ↦ agg [rat (g j).x 64, rat (g j).y 64, rat (g j).z 64]), c3, c1, c2, ((0 : Nat), aJ.mk false true 2 1 fun x ↦ agg [c9, int i64 d])])))) := by kernel_rfl
theorem T4 {n i : Nat} {z : Nat → Int} {u d : Int} {g : Nat → V3} {a b : V3} {r : Rat} : cr T uJ [100072, 100077, 100082, 100087, 100092, 100099] 60 nD [part pL [1,1,1,1,1,1]] ⟨aB mW (xj u i), ye n z d g a b r i, 5⟩ =
  let c31 : Int := (↑(fQ r 7 0) : Int); let c30 : Prop := (bif true then true else false) = true; let c29 : Nat := eo i (i + 2); let c27 : Nat := fQ r 0 9; let c24 : Bool := decide ((0 : Rat) = 0); let c23 : AV := int i64 (0 : Int); let c22 : AV := rat 0 1; let c19 : Nat := fQ r 0 12; let c16 : Prop := iC (fun i ↦ eu (jg (fun i ↦ vV (vA (g (i + 0)) 64)) i) 100) (eo i i) sU; let c14 : Nat := 2 ^ 30; let c13 : Prop := 64 ≤ 64; let c11 : Nat := 64 + 1 + 1; let c3 : Prop := 0 < 1; let c1 : Rat := (↑(1 : Int) : Rat); let c33 : List Prop := [c3, c3, c13, c13, c13, c13, c3]; let c28 : Prop := fl (fun i ↦ rat (xE i) 64) c19 sU; let c20 : List Prop := [sR (fun i ↦ vA (g (i + 0)) 64) i 64, i < c14, c3]; let c18 : Prop := fl (fun i_1 ↦ rat (ff i i_1) 64) c29 sU; let c17 : Prop := iC (fun i ↦ eu (yR (V3.mk a.x a.y a.z) r i) 300) c27 sU; let c15 : Rat := c1 + r * r; let c12 : List AV := [c23, c23, int i64 (1 : Int), int i64 (1 : Int)]; let c10 : List AV := [rat c1 (Max.max 1 (aN (Int.natAbs (1 : Int))))]; let c9 : Cu := Cu.mk (↑(fQ r 0 2) : Int) c19 (fun i ↦ bQ (rat (xE i) 64)) c27 fun i ↦ jw (eu (yR (V3.mk a.x a.y a.z) r i) 300); let c8 : Bool := bif true then c24 else false; let c7 : Cu := Cu.mk (↑(eo i 1) : Int) c29 (fun i_1 ↦ bQ (rat (ff i i_1) 64)) (eo i i) fun i ↦ jw (eu (jg (fun i ↦ vV (vA (g (i + 0)) 64)) i) 100); let c4 : AV := agg [agg [c22, c22, c22], c22]; let c34 : Bool := bif true then c8 else false; let c32 : Rat := (r + r) / c15; let c26 : Rat := (c1 - r * r) / c15; let c25 : Rat := (r + r) * (c1 / c15); let c21 : Rat := (c1 - r * r) * (c1 / c15); let c6 : Prop := fl (fun i ↦ rat (↑(intOf (nth c12 c23 (i + 0 + 0))) : Rat) 64) 4 sU; let c5 : List AV := [agg (agg [rat a.x 64, rat a.y 64, rat a.z 64] :: c10), agg (agg [rat b.x 64, rat b.y 64, rat b.z 64] :: c10)]; let c2 : List AV := [agg (agg [rat (a.x + 0) c11, rat (a.y + 0) c11, rat (a.z + 0) c11] :: c10), agg (agg [rat (b.x + 0) c11, rat (b.y + 0) c11, rat (b.z + 0) c11] :: c10)]; some (af c20 (af c20 (af c33 (af c33 (af [c3, c3, c3, c3, c3, c3, c3, c3, c3, c3, c3, c3, c3, c3, c6, iC (fun i ↦ nth c2 c4 (i + 0)) 2 sU, c6, iC (fun i ↦ nth c5 c4 (i + 0)) 2 sU, oo (Cu.mk (1 : Int) 4 (fun i ↦ bQ (rat (↑(intOf (nth c12 c23 (i + 0 + 0))) : Rat) 64)) 2 fun i ↦ jw (nth c2 c4 (i + 0))) (Cu.mk (1 : Int) 4 (fun i ↦ bQ (rat (↑(intOf (nth c12 c23 (i + 0 + 0))) : Rat) 64)) 2 fun i ↦ jw (nth c5 c4 (i + 0))), (4 : Nat) < c14, (2 : Nat) < c14, true = true, (bif true then gC i == gC i else false) = true, c3, c3, c18, c16, c18, c16, oo c7 c7, c29 < c14, eo i i < c14, c30, (bif true then c31 == c31 else false) = true, c3, c3, c28, c17, c28, c17, oo c9 c9, c19 < c14, c27 < c14, c30, c3, c3, c3, c3, c3, decide (c21 = c26) = true, (bif true then decide (-c25 = -c32) else false) = true, c8 = true, decide (c25 = c32) = true, (bif true then decide (c21 + 0 = c26) else false) = true, c34 = true, c24 = true, c8 = true, (bif true then bif true then decide (c1 = c1) else false else false) = true, c24 = true, c8 = true, (bif true then c34 else false) = true] (leaf ret [AV.bool true])))))) := by kernel_rfl
theorem F3 : aX P uJ := aE US (aE ND (aE NQ (aE TS (aE U2 (aE Ro (aE PO (aE JG (aE U6 (aE P2 (ek Np zm))))))))))
def mJ (n : Nat) (f : Nat → AV) (a : Int) : Nat → Int
 | 0 => a
 | j + 1 => gJ n f (mJ n f a j)
theorem dg.points {n : Nat} {f : Nat → AV} {a : Int} (h : dg n f a) : ∀ j, dg n f (mJ n f a j)
 | 0 => h
 | j + 1 => (h.points j).m8
theorem vk {x y : Rat} : x * (((1 : Int) : Rat) / y) = x / y := by
 show x * (1 / y) = x / y
 rw [Rat.div_def, Rat.div_def, Rat.one_mul]
theorem Uf {c : Cu} : oo c c := ⟨rfl, rfl, fun _ _ => rfl, rfl, fun _ _ => rfl⟩
theorem D6 {x y z w : Rat} : (⟨⟨x + 0, y + 0, z + 0⟩, w⟩ : Pl) = ⟨⟨x, y, z⟩, w⟩ := by rw [Rat.add_zero, Rat.add_zero, Rat.add_zero]
theorem HH {n : Nat} {z : Nat → Int} {u : Int} (K : Nat) : az P vJ K [.ak 1 n (fun i => .int .i64 (z i)), .int .u8 u] [] (aG (.bool true) []) := by
 refine fk (r := aG (.bool true) []) hT Dx rfl (of_decide_eq_true (by kernel_rfl)) rfl (fun _ cx h0 => ?_) K []
 have hk := nv h0
 obtain ⟨w, hw⟩ : ∃ w, w = (i64.wrap u).tmod 43 := ⟨_, rfl⟩
 have hw2 : w < 43 := hw ▸ Int.tmod_lt_of_pos _ (by omega)
 have hd0 : n ≤ 500 → dg n (bI z) 0 := fun hn => ⟨fun i => rfl, by omega, by omega, by omega⟩
 obtain ⟨d, hd⟩ : ∃ d, d = cu n (bI z) (gJ n (bI z) (gJ n (bI z) 0)) := ⟨_, rfl⟩
 obtain ⟨a, ha⟩ : ∃ a : V3, a = ⟨dB n (bI z) 0, dB n (bI z) (cu n (bI z) 0), dB n (bI z) (cu n (bI z) (cu n (bI z) 0))⟩ := ⟨_, rfl⟩
 obtain ⟨b, hb⟩ : ∃ b : V3, b = ⟨dB n (bI z) (gJ n (bI z) 0), dB n (bI z) (cu n (bI z) (gJ n (bI z) 0)), dB n (bI z) (cu n (bI z) (cu n (bI z) (gJ n (bI z) 0)))⟩ := ⟨_, rfl⟩
 obtain ⟨r, hr⟩ : ∃ r, r = dB n (bI z) (gJ n (bI z) (gJ n (bI z) 0)) := ⟨_, rfl⟩
 have hdd : n ≤ 500 → dg n (bI z) d := fun hn => by rw [hd]; exact (hd0 hn).m8.m8.number
 obtain ⟨g, hg⟩ : ∃ g : Nat → V3, g = fun i => ⟨dB n (bI z) (mJ n (bI z) d i), dB n (bI z) (cu n (bI z) (mJ n (bI z) d i)), dB n (bI z) (cu n (bI z) (cu n (bI z) (mJ n (bI z) d i)))⟩ := ⟨_, rfl⟩
 refine aq.mm hT F3 hm [1,1,1,1,1,0,1] (i := 0) (y := part pL [1,1,1,1,1,0,1,0,0]) (z := part pL [1,1,1,1,1,1]) (by kernel_rfl) (by kernel_rfl) (by kernel_rfl) Dx.dst hk (f1 := [21]) (f2 := [35]) 60 mW 5
  (fun i : Nat => xj u i) (fun i => ye n z (mJ n (bI z) d i) g a b r i) (fun i => i ≤ 43 ∧ n ≤ 500) (fun i => i ≤ 43) (fun i => 43 - i) (oG nD mW (.bool true)) ⟨_, Gt, ?_⟩ (fun i ⟨hi, hn⟩ => ⟨_, Gx, ?_⟩) (fun i hi => ?_) (fun _ _ h hs' => h.fin hs')
 ·simp only [aa.all, ay]
  refine ⟨fun h => ⟨[.bool true], by kernel_rfl, bp.refl _⟩, fun h => ?_⟩
  have hn : n ≤ 500 := by simp only [Bool.not_eq_false', decide_eq_true_eq] at h; omega
  have hd0 := hd0 hn
  exact ⟨⟨hd0, hd0.m8, hd0.m8.m8, by omega, by omega, by omega⟩, 0, ⟨Nat.zero_le _, hn⟩, [(0, 20480), (1, 53248), (2, 57344), (3, 61440)], rfl, rfl, rfl, xX rfl (by omega) (by omega) (cj rfl rfl (bU rfl (by rw [hr]; rfl)) (cj rfl rfl (bU rfl (by rw [hb]; rfl)) (cj rfl rfl (bU rfl (by rw [ha]; rfl)) (cj rfl rfl (bU rfl (by rw [hd]; rfl)) trivial))))⟩
 ·simp only [aa.all, ay, decide_eq_true_eq, decide_eq_false_iff_not, ← hw, wrap_i64 (show -2 ^ 63 ≤ (i : Int) + 1 by omega) (show (i : Int) + 1 < 2 ^ 63 by omega)]
  refine ⟨by omega, fun h => ⟨⟨(hdd hn).points i, by omega, by omega⟩, i + 1, ⟨by omega, hn⟩, by dsimp only; omega, [(0, 0), (1, 1), (2, 2), (3, 3), (4, 36869)], rfl, rfl, rfl, ep rfl rfl rfl (fun k hk => ?_) (cj rfl rfl (bU rfl rfl) (cj rfl rfl (bU rfl rfl) (cj rfl rfl (bU rfl rfl) (cj rfl rfl (bU rfl rfl) trivial))))⟩, fun h => ⟨rfl, i, hi, [(0, 0), (1, 1), (2, 2), (3, 3), (4, 4)], rfl, rfl, rfl, ep rfl rfl rfl (fun _ _ => bU rfl rfl) (cj rfl rfl (bU rfl rfl) (cj rfl rfl (bU rfl rfl) (cj rfl rfl (bU rfl rfl) (cj rfl rfl (bU rfl rfl) trivial))))⟩⟩
  by_cases h : k < i
  ·rw [if_pos h]; exact bU rfl rfl
  ·have : k = i := by omega
   subst this
   rw [if_neg h, Nat.sub_self, hg]
   exact bU rfl rfl
 ·refine aq.oz ((ax.fin hT F3 hm 60 T4 (by kernel_rfl) ?_).mono fun _ _ h => .inl h)
  simp only [aa.all, ay]
  (repeat' with_reducible refine And.intro ?_ ?_)
  all_goals first | omega | (with_reducible exact iK (by decide)) | (with_reducible exact ux (by decide)) | (with_reducible exact Uf) | exact .refl _ | rfl | skip
  ·exact Ex (Nat.le_refl _)
  ·exact Ex (Nat.le_refl _)
  ·intro i hi
   match i, hi with
   | 0, _ | 1, _ => exact cN ⟨cN ⟨bJ rfl (by decide), bJ rfl (by decide), bJ rfl (by decide), trivial⟩, bJ rfl (by decide), trivial⟩
  ·intro i hi
   match i, hi with
   | 0, _ | 1, _ => exact cN ⟨cN ⟨bJ rfl (by decide), bJ rfl (by decide), bJ rfl (by decide), trivial⟩, bJ rfl (by decide), trivial⟩
  ·refine ⟨rfl, rfl, fun _ _ => rfl, rfl, fun i hi => ?_⟩
   match i, hi with
   | 0, _ => exact D6
   | 1, _ => exact D6
  ·trivial
  ·exact beq_self_eq_true _
  ·unfold eo; split <;> (try split) <;> omega
  ·unfold eo; split <;> (try split) <;> omega
  ·exact beq_self_eq_true _
  ·unfold fQ; split <;> omega
  ·unfold fQ; split <;> omega
  ·exact decide_eq_true vk
  ·exact decide_eq_true (by rw [vk])
  ·exact decide_eq_true vk
  ·exact decide_eq_true (by rw [vk, Rat.add_zero])
end Go.Am.B
