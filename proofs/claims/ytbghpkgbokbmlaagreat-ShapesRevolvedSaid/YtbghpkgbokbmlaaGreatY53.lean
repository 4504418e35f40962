/- The points of surfaces; of surfaces of revolution. -/
import Derived.Test.YtbghpkgbokbmlaaGreatY48
import Derived.Test.YtbghpkgbokbmlaaGreatY49
import Derived.Test.YtbghpkgbokbmlaaGreatC9
import Derived.Test.YtbghpkgbokbmlaaGreatZ2
set_option linter.unusedVariables false
namespace Go.Am.B
open Go Go.Am.N AV aa ah IntKind
abbrev jr (s : Sf) (j : Nat) : Cu := ⟨s.u, s.a, s.ku, s.n, fun i => s.f i j⟩
def uc (s : Sf) (u : Rat) : Cu := ⟨s.v, s.b, s.kv, s.m, fun j => ⟨iF (ec (jr s j) u), (ec (jr s j) u).d⟩⟩
theorem Qt {c e : Cu} {x : Nat → Rat} {b n : Nat} {C S D : Rat} (h : ∀ j, j < n → (e.f (b + j)).d * (e.f (b + j)).n.x = C * ((c.f (b + j)).d * (c.f (b + j)).n.x) + -S * ((c.f (b + j)).d * (c.f (b + j)).n.y) ∧
  (e.f (b + j)).d * (e.f (b + j)).n.y = S * ((c.f (b + j)).d * (c.f (b + j)).n.x) + C * ((c.f (b + j)).d * (c.f (b + j)).n.y) ∧ (e.f (b + j)).d * (e.f (b + j)).n.z = D * ((c.f (b + j)).d * (c.f (b + j)).n.z) ∧ (e.f (b + j)).d = D * (c.f (b + j)).d) :
  gQ e x b n = ⟨⟨C * (gQ c x b n).n.x + -S * (gQ c x b n).n.y, S * (gQ c x b n).n.x + C * (gQ c x b n).n.y, D * (gQ c x b n).n.z⟩, D * (gQ c x b n).d⟩ := by
 have e1 : ∀ {a b p q r : Rat}, r * (a * p + b * q) = a * (r * p) + b * (r * q) := fun {a b p q r} => by grind
 have e2 : ∀ {a p r : Rat}, r * (a * p) = a * (r * p) := fun {a p r} => by grind
 have f : gQ e x b n = ⟨⟨ct n fun j => C * (x j * ((c.f (b + j)).d * (c.f (b + j)).n.x)) + -S * (x j * ((c.f (b + j)).d * (c.f (b + j)).n.y)), ct n fun j => S * (x j * ((c.f (b + j)).d * (c.f (b + j)).n.x)) + C * (x j * ((c.f (b + j)).d * (c.f (b + j)).n.y)),
   ct n fun j => D * (x j * ((c.f (b + j)).d * (c.f (b + j)).n.z))⟩, ct n fun j => D * (x j * (c.f (b + j)).d)⟩ := by
  unfold gQ
  simp only [Pl.mk.injEq, V3.mk.injEq]
  exact ⟨⟨uC fun j hj => by rw [(h j hj).1, e1], uC fun j hj => by rw [(h j hj).2.1, e1], uC fun j hj => by rw [(h j hj).2.2.1, e2]⟩, uC fun j hj => by rw [(h j hj).2.2.2, e2]⟩
 rw [f]
 unfold gQ
 simp only [F1, Fv]
theorem CE {D w X : Rat} : 1 / (D * w) * X = 1 / D * (1 / w * X) := by
 simp only [Rat.div_def, Rat.one_mul, Rat.inv_mul_rev]
 grind
theorem kj {i : Nat} (h : i < 9) : (ek i : Rat) = cX i ∧ (eg i : Rat) = cY i ∧ (eZ i : Rat) = cW i := by
 match i, h with
 | 0, _ | 1, _ | 2, _ | 3, _ | 4, _ | 5, _ | 6, _ | 7, _ | 8, _ => exact ⟨by decide +kernel, by decide +kernel, by decide +kernel⟩
def eO (q i : Nat) : Nat := min ((i - 1) / 2) q
theorem gV {q i : Nat} : bI q i = ((eO q i : Nat) : Rat) := rfl
theorem Ej {q i j : Nat} (h : eO q i ≤ eO q j) : bI q i ≤ bI q j := by rw [gV, gV]; exact_mod_cast h
theorem QV {q i j : Nat} (h : eO q i < eO q j) : bI q i < bI q j := by rw [gV, gV]; exact_mod_cast h
theorem sS {q : Nat} (hq : 1 ≤ q) : Kn (2 * q + 4) 2 (bI q) := by
 refine ⟨by omega, by omega, fun i hi => Ej ?_, fun i hi => ?_, fun i h1 h2 => ?_, fun i h1 h2 => QV ?_⟩
 ·unfold eO; omega
 ·have : eO q i = eO q 0 := by unfold eO; omega
  rw [gV, gV, this]
 ·have : eO q i = eO q (2 * q + 4 - 1) := by unfold eO; omega
  rw [gV, gV, this]
 ·unfold eO; omega
theorem TA {q i : Nat} (hi : i + 1 < 2 * q + 4) (h : bI q i < bI q (i + 1)) : ∃ m, m < q ∧ i = 2 * m + 2 ∧ bI q i = (m : Rat) ∧ bI q (i + 1) = ((m + 1 : Nat) : Rat) := by
 have h2 : eO q i < eO q (i + 1) := by
  by_cases h3 : eO q i < eO q (i + 1)
  ·exact h3
  ·have := Ej (q := q) (i := i + 1) (j := i) (by omega)
   grind
 unfold eO at h2
 refine ⟨i / 2 - 1, by omega, by omega, ?_, ?_⟩
 ·rw [gV]; congr 1; unfold eO; omega
 ·rw [gV]; congr 1; unfold eO; omega
structure sA (q : Nat) (u C S D : Rat) : Prop where
 ne : D ≠ 0
 sq : C * C + S * S = D * D
 lo : u = 0 → C = D ∧ S = 0
 hi : u = (q : Rat) → C = D * cX (2 * q) ∧ S = D * cY (2 * q)
theorem Nx {n0 n1 n2 x0 x1 x2 y0 y1 y2 w0 w1 w2 px py pw : Rat} : 0 + n0 * (w0 * pw * (x0 * px - y0 * py)) + n1 * (w1 * pw * (x1 * px - y1 * py)) + n2 * (w2 * pw * (x2 * px - y2 * py)) =
  pw * ((n0 * (w0 * x0) + n1 * (w1 * x1) + n2 * (w2 * x2)) * px + -(n0 * (w0 * y0) + n1 * (w1 * y1) + n2 * (w2 * y2)) * py) := by grind
theorem SO {n0 n1 n2 x0 x1 x2 y0 y1 y2 w0 w1 w2 px py pw : Rat} : 0 + n0 * (w0 * pw * (y0 * px + x0 * py)) + n1 * (w1 * pw * (y1 * px + x1 * py)) + n2 * (w2 * pw * (y2 * px + x2 * py)) =
  pw * ((n0 * (w0 * y0) + n1 * (w1 * y1) + n2 * (w2 * y2)) * px + (n0 * (w0 * x0) + n1 * (w1 * x1) + n2 * (w2 * x2)) * py) := by grind
theorem WT {n0 n1 n2 w0 w1 w2 pz pw : Rat} : 0 + n0 * (w0 * pw * pz) + n1 * (w1 * pw * pz) + n2 * (w2 * pw * pz) = pw * ((n0 * w0 + n1 * w1 + n2 * w2) * pz) := by grind
theorem Ru {n0 n1 n2 w0 w1 w2 pw : Rat} : 0 + n0 * (w0 * pw) + n1 * (w1 * pw) + n2 * (w2 * pw) = (n0 * w0 + n1 * w1 + n2 * w2) * pw := by grind
abbrev fH (c : Cu) (q : Nat) : Sf := ⟨2, c.p, 2 * q + 4, bI q, c.n, c.k, 2 * q + 1, c.m, gD c⟩
theorem abg {c : Cu} {q : Nat} {u : Rat} (h1 : 1 ≤ q) (h4 : q ≤ 4) (hin : ¬ bT (2 * q + 4) (bI q) u) : ∃ C S D, sA q u C S D ∧ ∀ j, ec (jr (fH c q) j) u =
  ⟨⟨(c.f j).d * (C * (c.f j).n.x + -S * (c.f j).n.y), (c.f j).d * (S * (c.f j).n.x + C * (c.f j).n.y), (c.f j).d * (D * (c.f j).n.z)⟩, D * (c.f j).d⟩ := by
 have hkn := sS h1
 have o1 : ¬ u < bI q 0 := fun h => hin (.inl h)
 have o2 : ¬ bI q (2 * q + 4 - 1) < u := fun h => hin (.inr h)
 obtain ⟨hi, hi2, hi3⟩ := hkn.Aa (t := u) (by grind) (by grind)
 obtain ⟨i, hI⟩ : ∃ i, i = cF (2 * q + 4) (bI q) u := ⟨_, rfl⟩
 rw [← hI] at hi hi2 hi3
 obtain ⟨m, hmq, him, ka, kb⟩ := TA (by omega) hi.at_.wide
 have k1 : bI q (i - 1) = (m : Rat) := by
  rw [gV]; congr 1; unfold eO; omega
 have k2 : bI q (i + 2) = ((m + 1 : Nat) : Rat) := by
  rw [gV]; congr 1; unfold eO; omega
 obtain ⟨b0, b1, b2⟩ := Xa (k := bI q) (t := u) (i := i) (a := (m : Rat)) (b := ((m + 1 : Nat) : Rat)) (by omega) k1 ka kb k2
 obtain ⟨q1, q2⟩ := Yf (show m < 4 by omega) b0 b1 b2
 have lt : (m : Rat) < ((m + 1 : Nat) : Rat) := by exact_mod_cast Nat.lt_succ_self m
 refine ⟨_, _, _, ⟨q1, q2, fun hu => ?_, fun hu => ?_⟩, fun j => ?_⟩
 ·have hm0 : m = 0 := by
   have := hi.lo
   rw [ka, hu] at this
   have h : m ≤ 0 := by exact_mod_cast this
   omega
  subst hm0
  have hf : fr ((0 : Nat) : Rat) ((0 + 1 : Nat) : Rat) u = 0 := by rw [hu]; exact KL
  rw [b0, b1, b2, hf]
  constructor <;> decide +kernel
 ·have hm1 : m + 1 = q := by
   have := hi.hi
   rw [kb, hu] at this
   have h : q ≤ m + 1 := by exact_mod_cast this
   omega
  have hf : fr (m : Rat) ((m + 1 : Nat) : Rat) u = 1 := by rw [hu, ← hm1]; exact P1 lt
  rw [b0, b1, b2, hf, ← hm1, show 2 * (m + 1) = 2 * m + 2 by omega]
  constructor <;> grind
 ·unfold ec
  rw [show (jr (fH c q) j).p.toNat = 2 from rfl, ← hI, show i - 2 = 2 * m by omega]
  unfold gQ
  simp only [ct, gD, Nat.add_zero, (kj (show 2 * m < 9 by omega)).1, (kj (show 2 * m < 9 by omega)).2.1, (kj (show 2 * m < 9 by omega)).2.2, (kj (show 2 * m + 1 < 9 by omega)).1, (kj (show 2 * m + 1 < 9 by omega)).2.1, (kj (show 2 * m + 1 < 9 by omega)).2.2,
   (kj (show 2 * m + 2 < 9 by omega)).1, (kj (show 2 * m + 2 < 9 by omega)).2.1, (kj (show 2 * m + 2 < 9 by omega)).2.2]
  rw [Nx, SO, WT, Ru]
theorem Ao {c : Cu} {q : Nat} {u t : Rat} (h1 : 1 ≤ q) (h4 : q ≤ 4) (hin : ¬ bT (2 * q + 4) (bI q) u) (ht : ¬ bT c.n c.k t) (hw : ∀ j, j < c.m → (c.f j).d ≠ 0) (hiv : cF c.n c.k t - c.p.toNat + (c.p.toNat + 1) ≤ c.m) :
  ∃ C S D, sA q u C S D ∧ ep (uc (fH c q) u) t = ⟨1 / D * (C * (ep c t).x + -S * (ep c t).y), 1 / D * (S * (ep c t).x + C * (ep c t).y), (ep c t).z⟩ := by
 obtain ⟨C, S, D, hT, hh⟩ := abg (c := c) h1 h4 hin
 refine ⟨C, S, D, hT, ?_⟩
 have hD := hT.ne
 have hu : 1 / D * D = 1 := by rw [Rat.div_def, Rat.one_mul, Rat.inv_mul_cancel D hD]
 have key : ec (uc (fH c q) u) t = ⟨⟨C * (ec c t).n.x + -S * (ec c t).n.y, S * (ec c t).n.x + C * (ec c t).n.y, D * (ec c t).n.z⟩, D * (ec c t).d⟩ := by
  have hp : ∀ i, i < c.m → (ec (jr (fH c q) i) u).d * (iF (ec (jr (fH c q) i) u)).x = C * ((c.f i).d * (c.f i).n.x) + -S * ((c.f i).d * (c.f i).n.y) ∧ (ec (jr (fH c q) i) u).d * (iF (ec (jr (fH c q) i) u)).y = S * ((c.f i).d * (c.f i).n.x) + C * ((c.f i).d * (c.f i).n.y) ∧
    (ec (jr (fH c q) i) u).d * (iF (ec (jr (fH c q) i) u)).z = D * ((c.f i).d * (c.f i).n.z) ∧ (ec (jr (fH c q) i) u).d = D * (c.f i).d := fun i hi => by
   have hd := hw i hi
   rw [hh i]
   unfold iF
   dsimp only
   generalize (c.f i).d = w at *
   have e : D * w * (((1 : Int) : Rat) / (D * w)) = 1 := by
    rw [show ((1 : Int) : Rat) = 1 from rfl, Rat.div_def, Rat.one_mul, Rat.mul_inv_cancel]
    exact fun h => (Rat.mul_eq_zero.1 h).elim hD hd
   generalize ((1 : Int) : Rat) / (D * w) = r at *
   generalize (c.f i).n.x = x at *
   generalize (c.f i).n.y = y at *
   generalize (c.f i).n.z = z at *
   refine ⟨?_, ?_, ?_, rfl⟩
   ·have : D * w * (r * (w * (C * x + -S * y))) = (D * w * r) * (w * (C * x + -S * y)) := by grind
    rw [this, e]; grind
   ·have : D * w * (r * (w * (S * x + C * y))) = (D * w * r) * (w * (S * x + C * y)) := by grind
    rw [this, e]; grind
   ·have : D * w * (r * (w * (D * z))) = (D * w * r) * (w * (D * z)) := by grind
    rw [this, e]; grind
  exact Qt (c := c) (e := uc (fH c q) u) fun j hj => hp _ (by have : j < c.p.toNat + 1 := hj; show cF c.n c.k t - c.p.toNat + j < c.m; omega)
 have hE : ep (uc (fH c q) u) t = iF (ec (uc (fH c q) u) t) := if_neg ht
 rw [hE, key]
 unfold ep
 rw [if_neg ht]
 unfold iF
 dsimp only
 rw [show ((1 : Int) : Rat) = 1 from rfl]
 generalize ec c t = H
 obtain ⟨⟨X, Y, Z⟩, w⟩ := H
 dsimp only
 rw [CE, CE, CE]
 generalize 1 / w = r at *
 generalize 1 / D = v at *
 have ez : v * (r * (D * Z)) = (v * D) * (r * Z) := by grind
 rw [ez, hu]
 congr 1
 ·grind
 ·grind
 ·grind
def Hv (p : V3) : V3 := ⟨-p.y, p.x, p.z⟩
def uT (p : V3) : Nat → V3
 | 0 => p
 | n + 1 => Hv (uT p n)
theorem H8 {q : Nat} {C S D x y : Rat} (h : sA q 0 C S D) : 1 / D * (C * x + -S * y) = x ∧ 1 / D * (S * x + C * y) = y := by
 obtain ⟨h1, h2⟩ := h.lo rfl
 have hu : 1 / D * D = 1 := by rw [Rat.div_def, Rat.one_mul, Rat.inv_mul_cancel D h.ne]
 subst h2
 rw [h1]
 generalize 1 / D = v at *
 have e1 : v * (D * x + -0 * y) = (v * D) * x := by grind
 have e2 : v * (0 * x + D * y) = (v * D) * y := by grind
 rw [e1, e2, hu]
 constructor <;> grind
theorem Lm {q : Nat} {C S D x y z : Rat} (h1 : 1 ≤ q) (h4 : q ≤ 4) (h : sA q (q : Rat) C S D) : (⟨1 / D * (C * x + -S * y), 1 / D * (S * x + C * y), z⟩ : V3) = uT ⟨x, y, z⟩ q := by
 obtain ⟨h5, h6⟩ := h.hi rfl
 have hu : 1 / D * D = 1 := by rw [Rat.div_def, Rat.one_mul, Rat.inv_mul_cancel D h.ne]
 rw [h5, h6]
 generalize 1 / D = v at *
 have e1 : v * (D * cX (2 * q) * x + -(D * cY (2 * q)) * y) = (v * D) * (cX (2 * q) * x - cY (2 * q) * y) := by grind
 have e2 : v * (D * cY (2 * q) * x + D * cX (2 * q) * y) = (v * D) * (cY (2 * q) * x + cX (2 * q) * y) := by grind
 rw [e1, e2, hu]
 rcases (show q = 1 ∨ q = 2 ∨ q = 3 ∨ q = 4 by omega) with rfl | rfl | rfl | rfl
 all_goals
  simp only [uT, Hv, cX, cY]
  congr 1 <;> grind
theorem OW {q : Nat} {u C S D x y : Rat} (h : sA q u C S D) : 1 / D * (C * x + -S * y) * (1 / D * (C * x + -S * y)) + 1 / D * (S * x + C * y) * (1 / D * (S * x + C * y)) = x * x + y * y := by
 have hu : 1 / D * D = 1 := by rw [Rat.div_def, Rat.one_mul, Rat.inv_mul_cancel D h.ne]
 have hs := h.sq
 generalize 1 / D = v at *
 have e : v * (C * x + -S * y) * (v * (C * x + -S * y)) + v * (S * x + C * y) * (v * (S * x + C * y)) = v * v * (C * C + S * S) * (x * x + y * y) := by grind
 rw [e, hs, show v * v * (D * D) = (v * D) * (v * D) by grind, hu]; grind
end Go.Am.B

/- brepkernelmade: pole, Curve. -/
namespace Go.Am.B
open Go Go.Am.N AV aa ah IntKind
theorem NI : aS P xG v8 (au v8) := aN KX (by kernel_rfl) (by kernel_rfl) (by kernel_rfl)
theorem JR : aS P tM su (au su) := aN YY (by kernel_rfl) (by kernel_rfl) (by kernel_rfl)
def E2 : aT := [(mE, gd p9), (w9, gd zF), (iy, oI)]
def oY (n : Nat) (f : Nat → AV) (a : Int) (b : Bool) : Pl := ⟨⟨fN n f a, fN n f (ew n f a), if b = true then 0 else fN n f (ew n f (ew n f a))⟩, ((1 + bU n f (iO n f a) 3 : Int) : Rat)⟩
def AJ (n : Nat) (f : Nat → AV) (a : Int) : Int := bn n (iO n f a)
def BJ (n : Nat) (f : Nat → AV) (a : Int) (l : List AV) : Option (AV × Int × List Prop) := match l with
 | [.bool b] => some (dO (oY n f a b) 64, AJ n f a, [])
 | _ => none
def yw : aT := nG :: (mE, gd p9) :: (qN, gd CD) :: (xG, gd BJ) :: []
abbrev sB : List Nat := [0, 3, 8, 9, 10]
abbrev An (b : Bool) (i : Nat) : List AV := [.ptr 0 0 2 0 [], .bool b, .ptr 1 0 3 0 [], .ptr 2 0 3 0 [], .int .i64 i]
abbrev AW (n : Nat) (z : Nat → Int) (a p : Int) (N : Nat) (k : Nat → Rat) (f : Nat → Pl) (j : Nat) : aD :=
 [(3, ⟨true, true, 12, j, fun i => dO (f i) 64⟩), (2, ⟨false, true, 3, 1, fun _ => .agg [.int .i64 p, bV k N 64, .own 3 12 0 j]⟩), (1, ⟨false, true, 3, 1, fun _ => .agg [.int .i64 0, .nil, .nil]⟩), (0, iR n z a)]
noncomputable abbrev uP : Code := au su
theorem WG {n : Nat} {z : Nat → Int} {a : Int} {b : Bool} : qw T E2 [8] 60 v8 (au v8) ⟨aO 0 [.ptr 0 0 2 0 [], .bool b], [(0, iR n z a)], 1⟩ =
  let c9 : Int := ew n (fun i ↦ int i64 (z i)) a; let c8 : AV := rat (fN n (fun i ↦ int i64 (z i)) a) 64; let c6 : Int := iO n (fun i ↦ int i64 (z i)) a; let c4 : Prop := 0 < 1; let c5 : AV := rat (fN n (fun i ↦ int i64 (z i)) c9) 64; let c3 : Option ay := some (ay.mk false true 2 1 fun x ↦ agg [aj 1 n fun i ↦ int i64 (z i), int i64 (bn n c6)]); let c1 : Int := i64.wrap ((1 : Int) + (bU n (fun i ↦ int i64 (z i)) c6 (3 : Int)).tmod (3 : Int)); let c7 : AV := rat (↑c1 : Rat) (Max.max 1 (aV c1.natAbs)); let c2 : List Prop := [c4, cr n (fun i ↦ int i64 (z i)) c6, (0 : Int) < (3 : Int), (3 : Int) < (2 : Int) ^ 62, (3 : Int) ≠ (0 : Int), -(2 : Int) ^ 63 ≤ c1, c1 < (2 : Int) ^ 63, c4]; some (af [cr n (fun i ↦ int i64 (z i)) a, c4] (fork b (af [(0 : Int) ≤ (2 : Int) ∧ (2 : Int) < (↑(3 : Nat) : Int), c4] (af c2 (af [c4] (leaf ret ([agg [agg [c8, c5, agg [AV.bool false, mag 0, mag 0]], c7]], c3))))) (af c2 (af [c4] (leaf ret ([agg [agg [c8, c5, rat (fN n (fun i ↦ int i64 (z i)) (ew n (fun i ↦ int i64 (z i)) c9)) 64], c7]], c3)))))) := by kernel_rfl
theorem Rd {n : Nat} {z : Nat → Int} {a p m : Int} {b : Bool} : aI T yw [] 60 sB (before uP [1,1,1,0,1]) ⟨aO 0 [.ptr 0 0 2 0 [], .int .i64 p, .int .i64 m, .bool b], [(0, iR n z a)], 1⟩ =
  let c4 : Prop := 0 < 1; let c2 : AV := agg [int i64 (0 : Int), nil, nil]; let c1 : Int := (1 : Int) + bU n (fun i ↦ int i64 (z i)) a p; let c3 : AV := bu (agg (c2.kids.set 0 (bu (int i64 c1)))); some (af [cr n (fun i ↦ int i64 (z i)) a, (0 : Int) < p, p < (2 : Int) ^ 62, -(2 : Int) ^ 63 ≤ c1 ∧ c1 < (2 : Int) ^ 63, c4] (af [c4, cr n (fun i ↦ int i64 (z i)) (bn n a), (1 : Int) ≤ c1, c1 < (1000 : Int), (0 : Int) ≤ m, m < (1000 : Int), c4] (leaf normal ([ptr 0 0 2 0 [], AV.bool b, ptr 1 0 3 0 [], ptr 24577 0 3 0 [], int i64 (0 : Int)], [((24577 : Nat), ay.mk false true 3 1 fun j ↦ if (j == 0) = true then agg ((if ((0 : Nat) == 0) = true then c3 else c2).kids.set 1 (bu (bV (p6 n (fun i ↦ int i64 (z i)) (bn n a) c1.toNat m.toNat) (n7 n (fun i ↦ int i64 (z i)) (bn n a) c1.toNat m.toNat) 64))) else if (j == 0) = true then c3 else c2), ((1 : Nat), ay.mk false true 3 1 fun x ↦ c2), ((0 : Nat), ay.mk false true 2 1 fun x ↦ agg [aj 1 n fun i ↦ int i64 (z i), int i64 (nJ n (fun i ↦ int i64 (z i)) (bn n a) c1.toNat m.toNat)])])))) := by kernel_rfl
theorem K3 {n N j : Nat} {z : Nat → Int} {a p : Int} {k : Nat → Rat} {f : Nat → Pl} {b : Bool} : aI T yw [30] 60 sB [part uP [1,1,1,0,1,0,0]] ⟨aA sB (An b j), AW n z a p N k f j, 4⟩ =
  let c15 : Int := (↑j : Int); let c14 : Int := (↑N : Int) - p; let c13 : Int := ew n (fun i ↦ int i64 (z i)) a; let c12 : AV := own 3 12 0 j; let c11 : AV := aj 1 n fun i ↦ int i64 (z i); let c9 : AV := ptr 2 0 3 0 []; let c8 : AV := ptr 1 0 3 0 []; let c7 : AV := ptr 0 0 2 0 []; let c6 : Prop := 0 < 1; let c5 : AV := rat 0 1; let c2 : Nat × ay := ((1 : Nat), ay.mk false true 3 1 fun x ↦ agg [int i64 (0 : Int), nil, nil]); let c1 : Int := (2 : Int) ^ 63; let c10 : Int := c15 + (1 : Int); let c4 : Int := c14 - (1 : Int); let c3 : AV := agg [int i64 p, bV k N 64, c12]; some (af [c6, c6, -c1 ≤ c14 ∧ c14 < c1, -c1 ≤ c4 ∧ c4 < c1] (fork (decide (c15 < c4)) (af [c6, cr n (fun i ↦ int i64 (z i)) a, (1 : Nat) * 12 ≤ 2 ^ 24, (j + 1) * ((224 : Nat) + 1) * 2 ≤ 2 ^ 47, c6] (af [-c1 ≤ c10 ∧ c10 < c1] (leaf normal ([c7, AV.bool b, c8, c9, int i64 c10], [((61444 : Nat), ay.mk true true 12 (j + 1) fun i ↦ if i < j then dO (f i) 64 else nth [agg [agg [rat (fN n (fun i ↦ int i64 (z i)) a) 64, rat (fN n (fun i ↦ int i64 (z i)) c13) 64, rat (if b = true then 0 else fN n (fun i ↦ int i64 (z i)) (ew n (fun i ↦ int i64 (z i)) c13)) 64], rat (↑((1 : Int) + bU n (fun i ↦ int i64 (z i)) (iO n (fun i ↦ int i64 (z i)) a) (3 : Int)) : Rat) 64]] (agg [agg [c5, c5, c5], c5]) (i - j + 0)), ((2 : Nat), ay.mk false true 3 1 fun j_1 ↦ if (j_1 == 0) = true then agg (c3.kids.set 2 (bu (own (nat_lit 61443 + 1) 12 0 (j + 1)))) else c3), c2, ((0 : Nat), ay.mk false true 2 1 fun x ↦ agg [c11, int i64 (AJ n (fun i ↦ int i64 (z i)) a)])])))) (leaf (exit 0) ([c7, AV.bool b, c8, c9, int i64 c15], [((3 : Nat), ay.mk true true 12 j fun i ↦ agg [agg [rat (f i).n.x 64, rat (f i).n.y 64, rat (f i).n.z 64], rat (f i).d 64]), ((2 : Nat), ay.mk false true 3 1 fun x ↦ agg [int i64 p, aj 3 N fun i ↦ rat (k i) 64, c12]), c2, ((0 : Nat), ay.mk false true 2 1 fun x ↦ agg [c11, int i64 a])])))) := by kernel_rfl
theorem LI {n N j : Nat} {z : Nat → Int} {a p : Int} {k : Nat → Rat} {f : Nat → Pl} {b : Bool} : xY T yw [] 60 su [part uP [1,1,1,1]] ⟨aA sB (An b j), AW n z a p N k f j, 4⟩ =
  let c1 : Prop := 0 < 1; some (af [c1, c1] (af [c1] (leaf ret ([agg [int i64 p, aj 3 N fun i ↦ rat (k i) 64, aj 12 j fun i ↦ agg [agg [rat (f (i + 0)).n.x 64, rat (f (i + 0)).n.y 64, rat (f (i + 0)).n.z 64], rat (f (i + 0)).d 64]]], some (ay.mk false true 2 1 fun x ↦ agg [aj 1 n fun i ↦ int i64 (z i), int i64 a]))))) := by kernel_rfl
theorem aav : bh P E2 := aE xK (aE Kt (aE tY aY))
theorem Na : ∀ K args pre r, gd BJ K args pre = some r → aB P xG K args pre r := by
 refine oJ fun {k n z a l v b q o} K hg ho hd hq => ?_
 unfold BJ at hg
 split at hg
 ·rename_i b
  simp only [Option.some.injEq, Prod.mk.injEq] at hg
  obtain ⟨rfl, rfl, rfl⟩ := hg
  refine xV hT aav hm NI rfl rfl (of_decide_eq_true (by kernel_rfl)) ho 60 WG (fun _ => ?_) K
  have a1 := gO (n := n) (f := fun i => .int .i64 (z i)) (a := iO n (fun i => .int .i64 (z i)) a) (m := 3) (by omega)
  have a2 := gT (n := n) (f := fun i => .int .i64 (z i)) (a := iO n (fun i => .int .i64 (z i)) a) (m := 3) (by omega)
  unfold oY
  generalize bU n (fun i => .int .i64 (z i)) (iO n (fun i => .int .i64 (z i)) a) 3 = x at *
  have e1 : x.tmod 3 = x := by rw [Int.tmod_eq_of_lt a1 a2]
  have e2 : i64.wrap (1 + x) = 1 + x := wrap_i64 (by omega) (by omega)
  simp only [aa.all, ax, e1, e2]
  have hw : bD (.rat ((1 + x : Int) : Rat) (max 1 (aV (1 + x).natAbs))) (.rat ((1 + x : Int) : Rat) 64) := eA rfl (wB (y := 0) (by omega) (by omega))
  refine ⟨⟨hd, by omega⟩, fun hb => ⟨by omega, ⟨by omega, hd.Cr, by omega, by omega, by omega, by omega, by omega, by omega⟩, by omega, ?_, _, rfl, rfl, kM rfl rfl⟩, fun hb => ⟨⟨by omega, hd.Cr, by omega, by omega, by omega, by omega, by omega, by omega⟩, by omega, ?_, _, rfl, rfl, kM rfl rfl⟩⟩
  ·rw [if_pos hb]
   exact eG ⟨eG ⟨.refl _, .refl _, kz (q := (0 : Rat)) ⟨by decide, by decide⟩ rfl rfl rfl, trivial⟩, hw, trivial⟩
  ·rw [if_neg (by rw [hb]; decide)]
   exact eG ⟨.refl _, hw, trivial⟩
 ·simp at hg
theorem H9 : bh P yw := eP (aE xK (aE PN (aE Na aY)))
def jF (n : Nat) (f : Nat → AV) (a : Int) : Nat → Int
 | 0 => a
 | j + 1 => AJ n f (jF n f a j)
theorem cr.oL {n : Nat} {f : Nat → AV} {a : Int} (h : cr n f a) : ∀ j, cr n f (jF n f a j)
 | 0 => h
 | j + 1 => (h.oL j).Cr.next
theorem cr.fL {n : Nat} {f : Nat → AV} {a : Int} {p m : Nat} (h : cr n f a) (hp : 1 ≤ p) : cr n f (nJ n f a p m) := (wF h hp _).2
def kB (n : Nat) (f : Nat → AV) (a d : Int) : Nat := (1 + bU n f a d).toNat
def o8 (n : Nat) (f : Nat → AV) (a d : Int) (m : Nat) : Int := nJ n f (bn n a) (kB n f a d) m
def fU (n : Nat) (f : Nat → AV) (a d : Int) (m : Nat) (b : Bool) : Cu :=
 ⟨(kB n f a d : Nat), n7 n f (bn n a) (kB n f a d) m, p6 n f (bn n a) (kB n f a d) m, kB n f a d + 1 + iY n f (bn n a) m, fun i => oY n f (jF n f (o8 n f a d m) i) b⟩
def zV (n : Nat) (f : Nat → AV) (a d : Int) (m : Nat) : Int := jF n f (o8 n f a d m) (kB n f a d + 1 + iY n f (bn n a) m)
def A5 (n : Nat) (f : Nat → AV) (a : Int) (l : List AV) : Option (AV × Int × List Prop) := match l with
 | [.int .i64 d, .int .i64 m, .bool b] => some (fc (fU n f a d m.toNat b) 64 64, zV n f a d m.toNat, [1 ≤ d, d < 900, 0 ≤ m, m < 900])
 | _ => none
theorem Gk {n : Nat} {f : Nat → AV} {a : Int} {m : Nat} : iY n f a m ≤ m := by
 have h1 := gO (n := n) (f := f) (a := bn n a) (m := m + 1) (by omega)
 have h2 := gT (n := n) (f := f) (a := bn n a) (m := m + 1) (by omega)
 unfold iY; omega
theorem Qu {k n m : Nat} {z : Nat → Int} {a d : Int} {b : Bool} {o : ay} (ho : ∀ ρ, cC ρ o (iR n z a)) (h : cr n (fun i => .int .i64 (z i)) a) (hd1 : 1 ≤ d) (hd2 : d < 900) (hm2 : m < 900) (K : Nat) :
  aB P tM K [.ptr k 0 2 0 [], .int .i64 d, .int .i64 m, .bool b] [(k, o)] ⟨fc (fU n (fun i => .int .i64 (z i)) a d m b) 64 64, [(k, iR n z (zV n (fun i => .int .i64 (z i)) a d m))], []⟩ := by
 refine Fw hT JR rfl rfl (of_decide_eq_true (by kernel_rfl)) ho (fun _ c hk => ?_) K
 have a1 := gO (n := n) (f := fun i => .int .i64 (z i)) (a := a) (m := d) (by omega)
 have a2 := gT (n := n) (f := fun i => .int .i64 (z i)) (a := a) (m := d) (by omega)
 have hJ := Gk (n := n) (f := fun i => .int .i64 (z i)) (a := bn n a) (m := m)
 unfold fU zV o8 kB
 obtain ⟨p, hp⟩ : ∃ p, p = (1 + bU n (fun i => .int .i64 (z i)) a d).toNat := ⟨_, rfl⟩
 have hp2 : 1 + bU n (fun i => .int .i64 (z i)) a d = (p : Int) := by omega
 rw [← hp]
 have hB := (h.next.fL (p := p) (m := m) (by omega))
 obtain ⟨N, hN⟩ : ∃ N, N = n7 n (fun i => .int .i64 (z i)) (bn n a) p m := ⟨_, rfl⟩
 obtain ⟨kk, hkk⟩ : ∃ kk, kk = p6 n (fun i => .int .i64 (z i)) (bn n a) p m := ⟨_, rfl⟩
 obtain ⟨B, hB2⟩ : ∃ B, B = nJ n (fun i => .int .i64 (z i)) (bn n a) p m := ⟨_, rfl⟩
 have hN2 : N = 2 * p + 2 + iY n (fun i => .int .i64 (z i)) (bn n a) m := hN
 rw [← hN, ← hkk, ← hB2]
 rw [← hB2] at hB
 generalize iY n (fun i => .int .i64 (z i)) (bn n a) m = J at *
 refine ak.iM hT H9 hm [1,1,1,0,1] (i := 0) (y := part uP [1,1,1,0,1,0,0]) (z := part uP [1,1,1,1]) (by kernel_rfl) (by kernel_rfl) (by kernel_rfl) JR.dst hk (f1 := []) (f2 := [30]) 60 sB 4 (fun j : Nat => An b j)
  (fun j => AW n z (jF n (fun i => .int .i64 (z i)) B j) p N kk (fun i => oY n (fun i => .int .i64 (z i)) (jF n (fun i => .int .i64 (z i)) B i) b) j) (fun j => j ≤ p + 1 + J) (fun j => j = p + 1 + J) (fun j => p + 1 + J - j) (fun _ => False) ⟨_, Rd, ?_⟩ (fun j hj => ⟨_, K3, ?_⟩) (fun j hj => ?_) (fun _ _ h => h.elim)
 ·simp only [aa.all, ax, hp2, Int.toNat_natCast]
  rw [← hN, ← hkk, ← hB2]
  exact ⟨⟨h, by omega, by omega, by omega, by omega⟩, ⟨by omega, h.next, by omega, by omega, by omega, by omega, by omega⟩, 0, Nat.zero_le _, [(0, 0), (1, 1), (2, 24577)], rfl, rfl, rfl,
   qf rfl (by omega) (by omega) (aU rfl rfl (ru ⟨⟨rfl, aG rfl⟩, ⟨rfl, aG rfl⟩, ⟨rfl, vI (by omega)⟩, trivial⟩) (aU rfl rfl (aQ rfl rfl) (aU rfl rfl (aQ rfl rfl) trivial)))⟩
 ·simp only [aa.all, ax, decide_eq_true_eq, decide_eq_false_iff_not]
  have hv : ∀ {rl : List (Nat × Nat)} {a l : Nat}, aZ rl 3 = some a → fY rl (.agg [.int .i64 p, bV kk N 64, .own a 12 0 l]) (.agg [.int .i64 p, bV kk N 64, .own 3 12 0 l]) := fun h => ru ⟨⟨rfl, aG rfl⟩, ⟨rfl, aG rfl⟩, ⟨rfl, b7 h rfl rfl⟩, trivial⟩
  refine ⟨⟨by omega, by omega, by omega, by omega⟩, fun h => ⟨⟨by omega, hB.oL j, by omega, by omega, by omega⟩, by omega, j + 1, by omega, by dsimp only; omega, [(0, 0), (1, 1), (2, 2), (3, 61444)], rfl, rfl, rfl,
   bR rfl rfl rfl (fun i hi => DA (y := fun i => oY n (fun i => .int .i64 (z i)) (jF n (fun i => .int .i64 (z i)) B i) b) (fun _ _ => rfl) (.refl _) rfl (Nat.le_refl _) (Nat.le_refl _) hi) (aU rfl rfl (hv rfl) (aU rfl rfl (aQ rfl rfl) (aU rfl rfl (aQ rfl rfl) trivial)))⟩,
   fun h => ⟨rfl, j, by omega, [(0, 0), (1, 1), (2, 2), (3, 3)], rfl, rfl, rfl, bR rfl rfl rfl (fun _ _ => aQ rfl rfl) (aU rfl rfl (hv rfl) (aU rfl rfl (aQ rfl rfl) (aU rfl rfl (aQ rfl rfl) trivial)))⟩⟩
 ·subst hj
  refine ak.jg (az.Dn hT H9 hm 60 LI (by kernel_rfl) ?_)
  simp only [aa.all, ax]
  exact ⟨by omega, by omega, .refl _, _, rfl, rfl, kM rfl rfl⟩
theorem Oz : ∀ K args pre r, gd A5 K args pre = some r → aB P tM K args pre r := by
 refine oJ fun {k n z a l v b q o} K hg ho hd hq => ?_
 unfold A5 at hg
 split at hg
 ·rename_i d m b
  simp only [Option.some.injEq, Prod.mk.injEq] at hg
  obtain ⟨rfl, rfl, rfl⟩ := hg
  obtain ⟨h1, h2, h3, h4⟩ := hq
  have h4 : m < 900 := h4
  have := Qu (k := k) (m := m.toNat) (b := b) ho hd h1 h2 (by omega) K
  rw [Int.toNat_of_nonneg h3] at this
  exact this
 ·simp at hg
theorem Sr {n m : Nat} {f : Nat → AV} {a d : Int} {b : Bool} (h : cr n f a) (hd : 1 ≤ d) : Kn (fU n f a d m b).n (fU n f a d m b).p.toNat (fU n f a d m b).k ∧ 1 ≤ (fU n f a d m b).p ∧ (fU n f a d m b).p ≤ d ∧ ((fU n f a d m b).m : Int) = ((fU n f a d m b).n : Int) - (fU n f a d m b).p - 1 ∧
  (fU n f a d m b).m ≤ (fU n f a d m b).p.toNat + 1 + m ∧ ∀ i, 1 ≤ ((fU n f a d m b).f i).d ∧ ((fU n f a d m b).f i).d ≤ 3 := by
 have a1 := gO (n := n) (f := f) (a := a) (m := d) (by omega)
 have a2 := gT (n := n) (f := f) (a := a) (m := d) (by omega)
 have hJ := Gk (n := n) (f := f) (a := bn n a) (m := m)
 unfold fU
 obtain ⟨p, hp⟩ : ∃ p, p = kB n f a d := ⟨_, rfl⟩
 have hp2 : 1 + bU n f a d = (p : Int) := by rw [hp]; unfold kB; omega
 rw [← hp]
 dsimp only
 refine ⟨?_, by omega, by omega, ?_, by omega, fun i => ?_⟩
 ·rw [Int.toNat_natCast]
  exact (wF h.next (by omega) _).1.done
 ·have : n7 n f (bn n a) p m = 2 * p + 2 + iY n f (bn n a) m := rfl
  omega
 ·have c1 := gO (n := n) (f := f) (a := iO n f (jF n f (o8 n f a d m) i)) (m := 3) (by omega)
  have c2 := gT (n := n) (f := f) (a := iO n f (jF n f (o8 n f a d m) i)) (m := 3) (by omega)
  unfold oY
  dsimp only
  generalize bU n f (iO n f (jF n f (o8 n f a d m) i)) 3 = x at *
  exact ⟨by exact_mod_cast (show 1 ≤ 1 + x by omega), by exact_mod_cast (show 1 + x ≤ 3 by omega)⟩
end Go.Am.B

/- ref12.Check. -/
namespace Go.Am.B
open Go Go.Am.N AV aa ah IntKind
theorem He : aS P uL vY (au vY) := aN W8 (by kernel_rfl) (by kernel_rfl) (by kernel_rfl)
noncomputable abbrev ze : Code := au vY
noncomputable abbrev lf : Code := part ze [1,1,0,1,0,0]
noncomputable abbrev pR : Code := part ze [1,1,1]
noncomputable abbrev oN : Code := part pR [1,1,1,1]
noncomputable abbrev mG : Code := part oN [1,0,1,0,0]
abbrev fk (s : Sf) : aD := [(0, ⟨false, true, 5, 1, fun _ => fF s 2048 2048⟩)]
abbrev lR (i : Nat) : List AV := [.ptr 0 0 5 0 [], .int .i64 0, .int .i64 i]
abbrev As (i j : Nat) : List AV := lR i ++ [.int .i64 j]
abbrev sI (i : Nat) : List AV := [.ptr 0 0 5 0 [], .int .i64 0, .bool true, .int .i64 i]
abbrev zT (i j : Nat) : List AV := sI i ++ [.int .i64 j]
theorem Vi {s : Sf} : aI T ic [] 60 [1, 2, 3] (before ze [1,1,0,1]) ⟨aO 0 [fF s 2048 2048], [], 0⟩ =
  let c1 : Nat := (bu (fF s 2048 2048)).size; some (af [(0 : Nat) < 1, cq (fun i ↦ rat (s.ku i) 2048) s.a sK, s.a < 2 ^ 40, (0 : Nat) < 1, cq (fun i ↦ rat (s.kv i) 2048) s.b sK, s.b < 2 ^ 40] (leaf normal ([ptr 0 0 c1 0 [], int i64 (0 : Int), int i64 (0 : Int)], [((0 : Nat), ay.mk false true c1 1 fun x ↦ agg [int i64 s.u, int i64 s.v, aj 3 s.a fun i ↦ rat (s.ku i) 2048, aj 3 s.b fun i ↦ rat (s.kv i) 2048, aj 1 s.n fun i ↦ aj 12 s.m fun i_1 ↦ agg [agg [rat (s.f i i_1).n.x 2048, rat (s.f i i_1).n.y 2048, rat (s.f i i_1).n.z 2048], rat (s.f i i_1).d 2048]])]))) := by kernel_rfl
theorem aaE {s : Sf} {i : Nat} : aI T ic [26] 60 [1, 2, 3] (before lf [1,0]) ⟨aA [1, 2, 3] (lR i), fk s, 1⟩ =
  let c1 : List AV × aD := ([ptr 0 0 5 0 [], int i64 (0 : Int), int i64 (↑i : Int)], [((0 : Nat), ay.mk false true 5 1 fun x ↦ agg [int i64 s.u, int i64 s.v, aj 3 s.a fun i ↦ rat (s.ku i) 2048, aj 3 s.b fun i ↦ rat (s.kv i) 2048, aj 1 s.n fun i ↦ aj 12 s.m fun i_1 ↦ agg [agg [rat (s.f i i_1).n.x 2048, rat (s.f i i_1).n.y 2048, rat (s.f i i_1).n.z 2048], rat (s.f i i_1).d 2048]])]); some (af [(0 : Nat) < 1] (fork (decide ((↑i : Int) < (↑s.n : Int))) (leaf normal c1) (leaf (exit 0) c1))) := by kernel_rfl
theorem aal {s : Sf} {i : Nat} : aI T ic [] 60 [1, 2, 3, 4] (before (part lf [1,0,0]) [1]) ⟨aA [1, 2, 3] (lR i), fk s, 1⟩ =
  some (leaf normal ([ptr 0 0 5 0 [], int i64 (0 : Int), int i64 (↑i : Int), int i64 (0 : Int)], [((0 : Nat), ay.mk false true 5 1 fun x ↦ agg [int i64 s.u, int i64 s.v, aj 3 s.a fun i ↦ rat (s.ku i) 2048, aj 3 s.b fun i ↦ rat (s.kv i) 2048, aj 1 s.n fun i ↦ aj 12 s.m fun i_1 ↦ agg [agg [rat (s.f i i_1).n.x 2048, rat (s.f i i_1).n.y 2048, rat (s.f i i_1).n.z 2048], rat (s.f i i_1).d 2048]])])) := by kernel_rfl
theorem MN {s : Sf} {i j : Nat} : aI T ic [36] 60 [1, 2, 3, 4] [part lf [1,0,0,1,0,0]] ⟨aA [1, 2, 3, 4] (As i j), fk s, 1⟩ =
  let c8 : Int := (↑i : Int); let c5 : Prop := 0 < 1; let c4 : AV := ptr 0 0 5 0 []; let c3 : Int := (↑j : Int); let c1 : List (Nat × ay) := [((0 : Nat), ay.mk false true 5 1 fun x ↦ agg [int i64 s.u, int i64 s.v, aj 3 s.a fun i ↦ rat (s.ku i) 2048, aj 3 s.b fun i ↦ rat (s.kv i) 2048, aj 1 s.n fun i ↦ aj 12 s.m fun i_1 ↦ agg [agg [rat (s.f i i_1).n.x 2048, rat (s.f i i_1).n.y 2048, rat (s.f i i_1).n.z 2048], rat (s.f i i_1).d 2048]])]; let c7 : Int := c3 + (1 : Int); let c6 : Prop := (0 : Int) ≤ c3 ∧ c3.toNat < s.m; let c2 : Prop := (0 : Int) ≤ c8 ∧ c8.toNat < s.n; some (af [c5, c2] (fork (decide (c3 < (↑s.m : Int))) (af [c5, c2, c6, c5, c2, c6] (af [-(2 : Int) ^ 63 ≤ c7 ∧ c7 < (2 : Int) ^ 63] (leaf normal ([c4, int i64 (0 : Int), int i64 c8, int i64 c7], c1)))) (leaf (exit 2) ([c4, int i64 (0 : Int), int i64 c8, int i64 c3], c1)))) := by kernel_rfl
theorem UH {s : Sf} {i j : Nat} : aI T ic [] 60 [1, 2, 3] [part lf [1,1]] ⟨aA [1, 2, 3, 4] (As i j), fk s, 1⟩ =
  let c1 : Int := (↑i : Int) + (1 : Int); some (af [-(2 : Int) ^ 63 ≤ c1 ∧ c1 < (2 : Int) ^ 63] (leaf normal ([ptr 0 0 5 0 [], int i64 (0 : Int), int i64 c1], [((0 : Nat), ay.mk false true 5 1 fun x ↦ agg [int i64 s.u, int i64 s.v, aj 3 s.a fun i ↦ rat (s.ku i) 2048, aj 3 s.b fun i ↦ rat (s.kv i) 2048, aj 1 s.n fun i ↦ aj 12 s.m fun i_1 ↦ agg [agg [rat (s.f i i_1).n.x 2048, rat (s.f i i_1).n.y 2048, rat (s.f i i_1).n.z 2048], rat (s.f i i_1).d 2048]])]))) := by kernel_rfl
theorem abp {s : Sf} {i : Nat} : aI T ic [200069, 200077, 200087] 60 [1, 2, 7] (before pR [1,1,1,0,1]) ⟨aA [1, 2, 3] (lR i), fk s, 1⟩ =
  let c2 : Nat := 2 ^ 40; let c1 : Prop := 0 < 1; some (af [c1, c1, cq (fun i ↦ rat (s.ku i) 2048) s.a sJ, s.a < c2] (af [(e8 s.a (fun i ↦ aM (rat (s.ku i) 2048)) s.u != (0 : Int)) = false] (af [c1, c1, cq (fun i ↦ rat (s.kv i) 2048) s.b sJ, s.b < c2] (af [(e8 s.b (fun i ↦ aM (rat (s.kv i) 2048)) s.v != (0 : Int)) = false] (af [c1, c1, c1, cq (fun i ↦ rat (s.ku i) 2048) s.a sK, s.a < c2, -(2 : Int) ^ 40 < s.u, s.u < (2 : Int) ^ 40] (af [((↑s.n : Int) != (↑s.a : Int) - s.u - (1 : Int)) = false] (leaf normal ([ptr 0 0 5 0 [], int i64 (0 : Int), int i64 (0 : Int)], [((0 : Nat), ay.mk false true 5 1 fun x ↦ agg [int i64 s.u, int i64 s.v, aj 3 s.a fun i ↦ rat (s.ku i) 2048, aj 3 s.b fun i ↦ rat (s.kv i) 2048, aj 1 s.n fun i ↦ aj 12 s.m fun i_1 ↦ agg [agg [rat (s.f i i_1).n.x 2048, rat (s.f i i_1).n.y 2048, rat (s.f i i_1).n.z 2048], rat (s.f i i_1).d 2048]])])))))))) := by kernel_rfl
theorem abq {s : Sf} {i : Nat} : aI T ic [92, 200106] 60 [1, 2, 7] [part pR [1,1,1,0,1,0,0]] ⟨aA [1, 2, 7] (lR i), fk s, 1⟩ =
  let c4 : AV := ptr 0 0 5 0 []; let c3 : Int := (↑i : Int); let c2 : Prop := 0 < 1; let c1 : List (Nat × ay) := [((0 : Nat), ay.mk false true 5 1 fun x ↦ agg [int i64 s.u, int i64 s.v, aj 3 s.a fun i ↦ rat (s.ku i) 2048, aj 3 s.b fun i ↦ rat (s.kv i) 2048, aj 1 s.n fun i ↦ aj 12 s.m fun i_1 ↦ agg [agg [rat (s.f i i_1).n.x 2048, rat (s.f i i_1).n.y 2048, rat (s.f i i_1).n.z 2048], rat (s.f i i_1).d 2048]])]; let c5 : Int := c3 + (1 : Int); some (af [c2] (fork (decide (c3 < (↑s.n : Int))) (af [c2, (0 : Int) ≤ c3 ∧ c3.toNat < s.n, c2, c2, cq (fun i ↦ rat (s.kv i) 2048) s.b sK, s.b < 2 ^ 40, -(2 : Int) ^ 40 < s.v, s.v < (2 : Int) ^ 40] (af [((↑s.m : Int) != (↑s.b : Int) - s.v - (1 : Int)) = false] (af [-(2 : Int) ^ 63 ≤ c5 ∧ c5 < (2 : Int) ^ 63] (leaf normal ([c4, int i64 (0 : Int), int i64 c5], c1))))) (leaf (exit 4) ([c4, int i64 (0 : Int), int i64 c3], c1)))) := by kernel_rfl
theorem YN {s : Sf} {i : Nat} : aI T ic [] 60 [1, 2, 8, 9] (before oN [1,0,1]) ⟨aA [1, 2, 7] (lR i), fk s, 1⟩ =
  some (af [(0 : Nat) < 1, cq (fun i ↦ rat (s.ku i) 2048) s.a 2048, s.a < 2 ^ 40, (0 : Nat) < 1, cq (fun i ↦ rat (s.kv i) 2048) s.b 2048, s.b < 2 ^ 40] (leaf normal ([ptr 0 0 5 0 [], int i64 (0 : Int), AV.bool true, int i64 (0 : Int)], [((0 : Nat), ay.mk false true 5 1 fun x ↦ agg [int i64 s.u, int i64 s.v, aj 3 s.a fun i ↦ rat (s.ku i) 2048, aj 3 s.b fun i ↦ rat (s.kv i) 2048, aj 1 s.n fun i ↦ aj 12 s.m fun i_1 ↦ agg [agg [rat (s.f i i_1).n.x 2048, rat (s.f i i_1).n.y 2048, rat (s.f i i_1).n.z 2048], rat (s.f i i_1).d 2048]])]))) := by kernel_rfl
theorem Tm {s : Sf} {i : Nat} : aI T ic [119] 60 [1, 2, 8, 9] (before mG [1,0]) ⟨aA [1, 2, 8, 9] (sI i), fk s, 1⟩ =
  let c1 : List AV × aD := ([ptr 0 0 5 0 [], int i64 (0 : Int), AV.bool true, int i64 (↑i : Int)], [((0 : Nat), ay.mk false true 5 1 fun x ↦ agg [int i64 s.u, int i64 s.v, aj 3 s.a fun i ↦ rat (s.ku i) 2048, aj 3 s.b fun i ↦ rat (s.kv i) 2048, aj 1 s.n fun i ↦ aj 12 s.m fun i_1 ↦ agg [agg [rat (s.f i i_1).n.x 2048, rat (s.f i i_1).n.y 2048, rat (s.f i i_1).n.z 2048], rat (s.f i i_1).d 2048]])]); some (af [(0 : Nat) < 1] (fork (decide ((↑i : Int) < (↑s.n : Int))) (leaf normal c1) (leaf (exit 6) c1))) := by kernel_rfl
theorem Rc {s : Sf} {i : Nat} : aI T ic [] 60 [1, 2, 8, 9, 10] (before (part mG [1,0,0]) [1]) ⟨aA [1, 2, 8, 9] (sI i), fk s, 1⟩ =
  some (leaf normal ([ptr 0 0 5 0 [], int i64 (0 : Int), AV.bool true, int i64 (↑i : Int), int i64 (0 : Int)], [((0 : Nat), ay.mk false true 5 1 fun x ↦ agg [int i64 s.u, int i64 s.v, aj 3 s.a fun i ↦ rat (s.ku i) 2048, aj 3 s.b fun i ↦ rat (s.kv i) 2048, aj 1 s.n fun i ↦ aj 12 s.m fun i_1 ↦ agg [agg [rat (s.f i i_1).n.x 2048, rat (s.f i i_1).n.y 2048, rat (s.f i i_1).n.z 2048], rat (s.f i i_1).d 2048]])])) := by kernel_rfl
theorem Zg {s : Sf} {i j : Nat} : aI T ic [129, 200143] 60 [1, 2, 8, 9, 10] [part mG [1,0,0,1,0,0]] ⟨aA [1, 2, 8, 9, 10] (zT i j), fk s, 1⟩ =
  let c8 : Int := (↑i : Int); let c7 : Int := (↑(3 : Nat) : Int); let c5 : AV := ptr 0 0 5 0 []; let c4 : Int := (↑j : Int); let c3 : Prop := 0 < 1; let c1 : List (Nat × ay) := [((0 : Nat), ay.mk false true 5 1 fun x ↦ agg [int i64 s.u, int i64 s.v, aj 3 s.a fun i ↦ rat (s.ku i) 2048, aj 3 s.b fun i ↦ rat (s.kv i) 2048, aj 1 s.n fun i ↦ aj 12 s.m fun i_1 ↦ agg [agg [rat (s.f i i_1).n.x 2048, rat (s.f i i_1).n.y 2048, rat (s.f i i_1).n.z 2048], rat (s.f i i_1).d 2048]])]; let c9 : Int := c4 + (1 : Int); let c6 : Prop := (0 : Int) ≤ c8 ∧ c8.toNat < s.n; let c2 : Pl := s.f c8.toNat c4.toNat; some (af [c3, c6] (fork (decide (c4 < (↑s.m : Int))) (af [c3, c6, (0 : Int) ≤ c4 ∧ c4.toNat < s.m, c3] (af [c3] (af [decide (dA c2.d ≤ (0 : Int)) = false] (af [(0 : Int) ≤ (0 : Int) ∧ (0 : Int) < c7, c3, (0 : Int) ≤ (1 : Int) ∧ (1 : Int) < c7, c3, (0 : Int) ≤ (2 : Int) ∧ (2 : Int) < c7, c3, c3, (4 : Nat) * 3 ≤ 2 ^ 24, cq (fun i ↦ nth [rat c2.n.x 2048, rat c2.n.y 2048, rat c2.n.z 2048, rat c2.d 2048] (rat 0 1) (i + 0)) 4 2048, (4 : Nat) < 2 ^ 40] (af [-(2 : Int) ^ 63 ≤ c9 ∧ c9 < (2 : Int) ^ 63] (leaf normal ([c5, int i64 (0 : Int), AV.bool true, int i64 c8, int i64 c9], c1))))))) (leaf (exit 8) ([c5, int i64 (0 : Int), AV.bool true, int i64 c8, int i64 c4], c1)))) := by kernel_rfl
theorem KP {s : Sf} {i j : Nat} : aI T ic [] 60 [1, 2, 8, 9] [part mG [1,1]] ⟨aA [1, 2, 8, 9, 10] (zT i j), fk s, 1⟩ =
  let c1 : Int := (↑i : Int) + (1 : Int); some (af [-(2 : Int) ^ 63 ≤ c1 ∧ c1 < (2 : Int) ^ 63] (leaf normal ([ptr 0 0 5 0 [], int i64 (0 : Int), AV.bool true, int i64 c1], [((0 : Nat), ay.mk false true 5 1 fun x ↦ agg [int i64 s.u, int i64 s.v, aj 3 s.a fun i ↦ rat (s.ku i) 2048, aj 3 s.b fun i ↦ rat (s.kv i) 2048, aj 1 s.n fun i ↦ aj 12 s.m fun i_1 ↦ agg [agg [rat (s.f i i_1).n.x 2048, rat (s.f i i_1).n.y 2048, rat (s.f i i_1).n.z 2048], rat (s.f i i_1).d 2048]])]))) := by kernel_rfl
theorem aa5 {s : Sf} {i : Nat} : b9 T ic [] 60 vY [part oN [1,1]] ⟨aA [1, 2, 8, 9] (sI i), fk s, 1⟩ =
  some (leaf ret [int i64 (0 : Int)]) := by kernel_rfl
structure wH (s : Sf) : Prop where
 ku : Kn s.a s.u.toNat s.ku
 kv : Kn s.b s.v.toNat s.kv
 u0 : 0 ≤ s.u
 u6 : s.u ≤ 6
 v0 : 0 ≤ s.v
 v6 : s.v ≤ 6
 a : s.a ≤ s.u.toNat + 41
 b : s.b ≤ s.v.toNat + 41
 n : (s.n : Int) = (s.a : Int) - s.u - 1
 m : (s.m : Int) = (s.b : Int) - s.v - 1
 w : ∀ i j, i < s.n → j < s.m → 0 < (s.f i j).d
theorem aa6 {s : Sf} (hs : wH s) (K : Nat) : aB P uL K [fF s 2048 2048] [] (aH (.int .i64 0) []) := by
 obtain ⟨ku, kv, u0, u6, v0, v6, ha, hb, hn, hm2, hw⟩ := hs
 refine fq (r := aH (.int .i64 0) []) hT He rfl (of_decide_eq_true (by kernel_rfl)) rfl (fun _ cx h00 => ?_) K []
 have hk := kE h00
 have hcu : e8 s.a s.ku s.u = 0 := by
  have := ku.HD (by omega) ha
  rwa [Int.toNat_of_nonneg u0] at this
 have hcv : e8 s.b s.kv s.v = 0 := by
  have := kv.HD (by omega) hb
  rwa [Int.toNat_of_nonneg v0] at this
 have re : gM 1 [(0, 0)] (fk s) (fk s) := aU rfl rfl (aQ rfl rfl) trivial
 have re : gM 1 [(0, 0)] (fk s) (fk s) := aU rfl rfl (aQ rfl rfl) trivial
 refine ak.AU hT yy hm (x := ze) [1,1,0,1] (i := 0) (y := lf) (z := pR) (by kernel_rfl) (by kernel_rfl) (by kernel_rfl) He.dst [1,0] (j := 1) (x1 := part lf [1,0,0]) (zb := part lf [1,1]) (by kernel_rfl) (by kernel_rfl) (by kernel_rfl) [1] (i2 := 2) (y2 := part lf [1,0,0,1,0,0]) (by kernel_rfl) (by kernel_rfl) rfl
  hk (f1 := []) (f2 := [26]) (f3 := []) (f4 := [36]) (f5 := []) 60 [1, 2, 3] [1, 2, 3, 4] 1 1 (fun i : Nat => lR i) (fun _ => fk s) (fun i => i ≤ s.n) (fun _ => True) (fun i => s.n - i) (fun i => i < s.n) (fun _ => False) (fun _ => False)
  (fun i (j : Nat) => As i j) (fun _ _ => fk s) (fun _ j => j ≤ s.m) (fun _ _ => True) (fun _ j => s.m - j) ⟨_, Vi, ?_⟩ (fun i hi => ⟨_, aaE, ?_⟩) (fun i hi hg => ⟨_, aal, ?_⟩) (fun i hi hg j hj => ⟨_, MN, ?_⟩) (fun i hi hg j hj => ⟨_, UH, ?_⟩) (fun i hi => ?_) (fun _ _ h => h.elim) (fun _ _ h => h.elim)
 all_goals try simp only [aa.all, ax, decide_eq_true_eq, decide_eq_false_iff_not]
 ·exact ⟨⟨by omega, dr (by decide), by omega, by omega, dr (by decide), by omega⟩, 0, Nat.zero_le _, [(0, 0)], rfl, rfl, rfl, re⟩
 ·exact ⟨by omega, fun h => ⟨by omega, [(0, 0)], rfl, rfl, rfl, re⟩, fun h => ⟨rfl, i, trivial, [(0, 0)], rfl, rfl, rfl, re⟩⟩
 ·exact ⟨0, Nat.zero_le _, [(0, 0)], rfl, rfl, rfl, re⟩
 ·exact ⟨by omega, fun h => ⟨by omega, by omega, j + 1, by omega, by dsimp only; omega, [(0, 0)], rfl, rfl, rfl, re⟩, fun h => ⟨rfl, j, trivial, [(0, 0)], rfl, rfl, rfl, re⟩⟩
 ·exact ⟨by omega, i + 1, by omega, by dsimp only; omega, [(0, 0)], rfl, rfl, rfl, re⟩
 refine ak.iM hT yy hm (x := pR) [1,1,1,0,1] (i := 4) (y := part pR [1,1,1,0,1,0,0]) (z := oN) (by kernel_rfl) (by kernel_rfl) (by kernel_rfl) (by kernel_rfl) hk (f1 := [200069, 200077, 200087]) (f2 := [92, 200106]) 60 [1, 2, 7] 1 (fun i : Nat => lR i) (fun _ => fk s) (fun i => i ≤ s.n) (fun _ => True) (fun i => s.n - i) (fun _ => False) ⟨_, abp, ?_⟩ (fun i hi => ⟨_, abq, ?_⟩) (fun i _ => ?_) (fun _ _ h => h.elim)
 ·simp only [aa.all, ax]
  exact ⟨⟨by omega, by omega, dr (by decide), by omega⟩, bne_eq_false_iff_eq.2 hcu, ⟨by omega, by omega, dr (by decide), by omega⟩, bne_eq_false_iff_eq.2 hcv, ⟨by omega, by omega, by omega, dr (by decide), by omega, by omega, by omega⟩, bne_eq_false_iff_eq.2 hn, 0, Nat.zero_le _, [(0, 0)], rfl, rfl, rfl, re⟩
 ·simp only [aa.all, ax, decide_eq_true_eq, decide_eq_false_iff_not]
  exact ⟨by omega, fun h => ⟨⟨by omega, by omega, by omega, by omega, dr (by decide), by omega, by omega, by omega⟩, bne_eq_false_iff_eq.2 hm2, by omega, i + 1, by omega, by dsimp only; omega, [(0, 0)], rfl, rfl, rfl, re⟩, fun h => ⟨rfl, i, trivial, [(0, 0)], rfl, rfl, rfl, re⟩⟩
 refine ak.AU hT yy hm (x := oN) [1,0,1] (i := 6) (y := mG) (z := part oN [1,1]) (by kernel_rfl) (by kernel_rfl) (by kernel_rfl) (by kernel_rfl) [1,0] (j := 7) (x1 := part mG [1,0,0]) (zb := part mG [1,1]) (by kernel_rfl) (by kernel_rfl) (by kernel_rfl) [1] (i2 := 8) (y2 := part mG [1,0,0,1,0,0]) (by kernel_rfl) (by kernel_rfl) rfl
  hk (f1 := []) (f2 := [119]) (f3 := []) (f4 := [129, 200143]) (f5 := []) 60 [1, 2, 8, 9] [1, 2, 8, 9, 10] 1 1 (fun i : Nat => sI i) (fun _ => fk s) (fun i => i ≤ s.n) (fun _ => True) (fun i => s.n - i) (fun i => i < s.n) (fun _ => False) (fun _ => False)
  (fun i (j : Nat) => zT i j) (fun _ _ => fk s) (fun _ j => j ≤ s.m) (fun _ _ => True) (fun _ j => s.m - j) ⟨_, YN, ?_⟩ (fun i hi => ⟨_, Tm, ?_⟩) (fun i hi hg => ⟨_, Rc, ?_⟩) (fun i hi hg j hj => ⟨_, Zg, ?_⟩) (fun i hi hg j hj => ⟨_, KP, ?_⟩) (fun i hi => ?_) (fun _ _ h => h.elim) (fun _ _ h => h.elim)
 all_goals try simp only [aa.all, ax, decide_eq_true_eq, decide_eq_false_iff_not, Int.toNat_natCast]
 ·exact ⟨⟨by omega, dr (Nat.le_refl _), by omega, by omega, dr (Nat.le_refl _), by omega⟩, 0, Nat.zero_le _, [(0, 0)], rfl, rfl, rfl, re⟩
 ·exact ⟨by omega, fun h => ⟨by omega, [(0, 0)], rfl, rfl, rfl, re⟩, fun h => ⟨rfl, i, trivial, [(0, 0)], rfl, rfl, rfl, re⟩⟩
 ·exact ⟨0, Nat.zero_le _, [(0, 0)], rfl, rfl, rfl, re⟩
 ·refine ⟨by omega, fun h => ⟨by omega, by omega, UT (hw _ _ (by omega) (by omega)), ⟨by omega, by omega, by omega, by omega, by omega, by omega, by omega, by omega, fun k hk => ?_, by omega⟩, by omega, j + 1, by omega, by dsimp only; omega, [(0, 0)], rfl, rfl, rfl, re⟩, fun h => ⟨rfl, j, trivial, [(0, 0)], rfl, rfl, rfl, re⟩⟩
  match k, hk with
  | 0, _ | 1, _ | 2, _ | 3, _ => exact .refl _
 ·exact ⟨by omega, i + 1, by omega, by dsimp only; omega, [(0, 0)], rfl, rfl, rfl, re⟩
 ·refine ak.jg ((az.fin hT yy hm 60 aa5 (by kernel_rfl) ?_).mono fun _ _ h => .inl h)
  exact .refl _
def IL : Spec := ey (kC (uO 2048 2048) kN) (fun _ => .int .i64 0) fun a => [wH a.1]
theorem abG : ∀ K args pre r, IL K args pre = some r → aB P uL K args pre r := eE fun ⟨s, _⟩ K hn => aa6 hn K
end Go.Am.B

/- ref12: row, Swap, IsoV, IsoU, Eval. -/
namespace Go.Am.B
open Go Go.Am.N AV aa ah IntKind
theorem WL : aS P z9 wE (au wE) := aN Wf (by kernel_rfl) (by kernel_rfl) (by kernel_rfl)
theorem Dg : aS P vt rW (au rW) := aN Xp (by kernel_rfl) (by kernel_rfl) (by kernel_rfl)
theorem Ij : aS P sj tV (au tV) := aN Ly (by kernel_rfl) (by kernel_rfl) (by kernel_rfl)
theorem ZY : aS P rB rC (au rC) := aN Vu (by kernel_rfl) (by kernel_rfl) (by kernel_rfl)
theorem Tw : aS P y5 qZ (au qZ) := aN O5 (by kernel_rfl) (by kernel_rfl) (by kernel_rfl)
abbrev qi (s : Sf) : Sf := ⟨s.v, s.u, s.b, s.kv, s.a, s.ku, s.m, s.n, fun j i => s.f i j⟩
abbrev I4 (s : Sf) (i : Nat) : Cu := ⟨s.v, s.b, s.kv, s.m, s.f i⟩
def o5 (s : Sf) (v : Rat) (i : Nat) : Pl := ⟨iF (ec (I4 s i) v), (ec (I4 s i) v).d⟩
def yO (s : Sf) (v : Rat) : Cu := ⟨s.u, s.a, s.ku, s.n, o5 s v⟩
noncomputable abbrev qT : Code := au rW
noncomputable abbrev ua : Code := part qT [1,1,0,1,0,0]
noncomputable abbrev uu : Code := part ua [1,0,0]
abbrev Nl : ay := ⟨false, true, 5, 1, fun _ => .agg [.int .i64 0, .int .i64 0, .nil, .nil, .nil]⟩
abbrev Ta : ay := ⟨false, true, 3, 1, fun _ => .agg [.int .i64 0, .nil, .nil]⟩
abbrev HT (s : Sf) : ay := ⟨false, true, 5, 1, fun _ => fF s sK sK⟩
abbrev nu : List Nat := [1, 2, 3, 4]
abbrev rq (j : Nat) : List AV := [.ptr 0 0 5 0 [], .ptr 1 0 5 0 [], .ptr 2 0 5 0 [], .int .i64 j]
abbrev Ax (n : Nat) (k : Nat → Rat) : ay := ⟨true, true, 3, n, fun i => .rat (k i) sK⟩
abbrev nT (s : Sf) (j : Nat) : aD := [(3, ⟨true, true, 1, j, fun j => ee (fun i => s.f i j) s.n sK⟩), (5, Ax s.a s.ku), (4, Ax s.b s.kv), (2, ⟨false, true, 5, 1, fun _ => .agg [.int .i64 s.v, .int .i64 s.u, .own 4 3 0 s.b, .own 5 3 0 s.a, .own 3 1 0 j]⟩), (1, Nl), (0, HT s)]
abbrev tw : List Nat := [1, 2, 3, 4, 5, 6]
abbrev BP (j i : Nat) : List AV := rq j ++ [.own 6 12 0 i, .int .i64 i]
abbrev A4 (s : Sf) (j i : Nat) : aD := (6, ⟨true, true, 12, i, fun i => dO (s.f i j) sK⟩) :: nT s j
noncomputable def yF : aT := nG :: (lQ, vp) :: (z9, cZ T [nG] [] 60 wE) :: (lI, Cm) :: (lp, zx) :: []
abbrev v9 : List Nat := [2, 3, 4, 8, 9]
abbrev Co (i : Nat) : List AV := [.ptr 0 0 5 0 [], .ptr 1 0 3 0 [], .ptr 2 0 3 0 [], .ptr 3 0 3 0 [], .int .i64 i]
abbrev qC (s : Sf) (v : Rat) (g : Nat → Pl) (i : Nat) : aD := [(4, ⟨true, true, 12, i, fun i => dO (g i) sE⟩), (5, Ax s.a s.ku), (3, ⟨false, true, 3, 1, fun _ => .agg [.int .i64 s.u, .own 5 3 0 s.a, .own 4 12 0 i]⟩), (2, Ta), (1, tP v sK), (0, HT s)]
noncomputable abbrev oR : Code := au tV
theorem XC {s : Sf} : aI T [nG] [] 60 nu (before qT [1,1,0,1]) ⟨aO 0 [fF s sK sK], [], 0⟩ =
  let c7 : Nat := (bu (fF s sK sK)).size; let c6 : Nat := 0 + s.b; let c5 : Nat := 0 + s.a; let c4 : AV := int i64 (0 : Int); let c3 : Prop := 0 * 3 ≤ 2 ^ 24; let c2 : Prop := 0 < 1; let c1 : AV := agg [c4, c4, nil, nil, nil]; some (af [c2, c2, c3, c2, c6 * ((56 : Nat) + 1) * 2 ≤ 2 ^ 47, c3, c2, c5 * ((56 : Nat) + 1) * 2 ≤ 2 ^ 47, c2] (leaf normal ([ptr 0 0 c7 0 [], ptr 4096 0 5 0 [], ptr 61440 0 5 0 [], c4], [((53248 : Nat), ay.mk true true 3 c5 fun i ↦ rat (s.ku (i - 0)) 4096), ((36864 : Nat), ay.mk true true 3 c6 fun i ↦ rat (s.kv (i - 0)) 4096), ((61440 : Nat), ay.mk false true 5 1 fun j ↦ if (j == 0) = true then bu (agg ((((c1.kids.set 0 (bu (int i64 s.v))).set 1 (bu (int i64 s.u))).set 2 (bu (own (nat_lit 36863 + 1) 3 0 c6))).set 3 (bu (own (nat_lit 53247 + 1) 3 0 c5)))) else c1), ((4096 : Nat), ay.mk false true 5 1 fun x ↦ c1), ((0 : Nat), ay.mk false true c7 1 fun x ↦ agg [int i64 s.u, int i64 s.v, aj 3 s.a fun i ↦ rat (s.ku i) 4096, aj 3 s.b fun i ↦ rat (s.kv i) 4096, aj 1 s.n fun i ↦ aj 12 s.m fun i_1 ↦ agg [agg [rat (s.f i i_1).n.x 4096, rat (s.f i i_1).n.y 4096, rat (s.f i i_1).n.z 4096], rat (s.f i i_1).d 4096]])]))) := by kernel_rfl
theorem Si {s : Sf} {j : Nat} : aI T [nG] [26] 60 nu (before ua [1,0]) ⟨aA nu (rq j), nT s j, 6⟩ =
  let c1 : List AV × aD := ([ptr 0 0 5 0 [], ptr 1 0 5 0 [], ptr 2 0 5 0 [], int i64 (↑j : Int)], [((3 : Nat), ay.mk true true 1 j fun j ↦ aj 12 s.n fun i ↦ agg [agg [rat (s.f i j).n.x 4096, rat (s.f i j).n.y 4096, rat (s.f i j).n.z 4096], rat (s.f i j).d 4096]), ((5 : Nat), ay.mk true true 3 s.a fun i ↦ rat (s.ku i) 4096), ((4 : Nat), ay.mk true true 3 s.b fun i ↦ rat (s.kv i) 4096), ((2 : Nat), ay.mk false true 5 1 fun x ↦ agg [int i64 s.v, int i64 s.u, own 4 3 0 s.b, own 5 3 0 s.a, own 3 1 0 j]), ((1 : Nat), ay.mk false true 5 1 fun x ↦ agg [int i64 (0 : Int), int i64 (0 : Int), nil, nil, nil]), ((0 : Nat), ay.mk false true 5 1 fun x ↦ agg [int i64 s.u, int i64 s.v, aj 3 s.a fun i ↦ rat (s.ku i) 4096, aj 3 s.b fun i ↦ rat (s.kv i) 4096, aj 1 s.n fun i ↦ aj 12 s.m fun i_1 ↦ agg [agg [rat (s.f i i_1).n.x 4096, rat (s.f i i_1).n.y 4096, rat (s.f i i_1).n.z 4096], rat (s.f i i_1).d 4096]])]); some (af [(0 : Nat) < 1, (0 : Int) ≤ (0 : Int) ∧ Int.toNat (0 : Int) < s.n] (fork (decide ((↑j : Int) < (↑s.m : Int))) (leaf normal c1) (leaf (exit 0) c1))) := by kernel_rfl
theorem XN {s : Sf} {j : Nat} : aI T [nG] [] 60 tw (before uu [1,0,1]) ⟨aA nu (rq j), nT s j, 6⟩ =
  let c1 : AV := int i64 (0 : Int); some (leaf normal ([ptr 0 0 5 0 [], ptr 1 0 5 0 [], ptr 2 0 5 0 [], int i64 (↑j : Int), nil, c1], [((3 : Nat), ay.mk true true 1 j fun j ↦ aj 12 s.n fun i ↦ agg [agg [rat (s.f i j).n.x 4096, rat (s.f i j).n.y 4096, rat (s.f i j).n.z 4096], rat (s.f i j).d 4096]), ((5 : Nat), ay.mk true true 3 s.a fun i ↦ rat (s.ku i) 4096), ((4 : Nat), ay.mk true true 3 s.b fun i ↦ rat (s.kv i) 4096), ((2 : Nat), ay.mk false true 5 1 fun x ↦ agg [int i64 s.v, int i64 s.u, own 4 3 0 s.b, own 5 3 0 s.a, own 3 1 0 j]), ((1 : Nat), ay.mk false true 5 1 fun x ↦ agg [c1, c1, nil, nil, nil]), ((0 : Nat), ay.mk false true 5 1 fun x ↦ agg [int i64 s.u, int i64 s.v, aj 3 s.a fun i ↦ rat (s.ku i) 4096, aj 3 s.b fun i ↦ rat (s.kv i) 4096, aj 1 s.n fun i ↦ aj 12 s.m fun i_1 ↦ agg [agg [rat (s.f i i_1).n.x 4096, rat (s.f i i_1).n.y 4096, rat (s.f i i_1).n.z 4096], rat (s.f i i_1).d 4096]])])) := by kernel_rfl
theorem TU {s : Sf} {j i : Nat} : aI T [nG] [33] 60 tw [part uu [1,0,1,0,0]] ⟨aA tw (BP j i), A4 s j i, 7⟩ =
  let c11 : Int := (↑j : Int); let c10 : AV := ptr 1 0 5 0 []; let c9 : AV := ptr 0 0 5 0 []; let c8 : AV := ptr 2 0 5 0 []; let c7 : Int := (↑i : Int); let c6 : AV := rat 0 1; let c5 : Nat × ay := ((4 : Nat), ay.mk true true 3 s.b fun i ↦ rat (s.kv i) 4096); let c4 : Nat × ay := ((5 : Nat), ay.mk true true 3 s.a fun i ↦ rat (s.ku i) 4096); let c2 : Nat × ay := ((3 : Nat), ay.mk true true 1 j fun j ↦ aj 12 s.n fun i ↦ agg [agg [rat (s.f i j).n.x 4096, rat (s.f i j).n.y 4096, rat (s.f i j).n.z 4096], rat (s.f i j).d 4096]); let c1 : List (Nat × ay) := [((2 : Nat), ay.mk false true 5 1 fun x ↦ agg [int i64 s.v, int i64 s.u, own 4 3 0 s.b, own 5 3 0 s.a, own 3 1 0 j]), ((1 : Nat), ay.mk false true 5 1 fun x ↦ agg [int i64 (0 : Int), int i64 (0 : Int), nil, nil, nil]), ((0 : Nat), ay.mk false true 5 1 fun x ↦ agg [int i64 s.u, int i64 s.v, aj 3 s.a fun i ↦ rat (s.ku i) 4096, aj 3 s.b fun i ↦ rat (s.kv i) 4096, aj 1 s.n fun i ↦ aj 12 s.m fun i_1 ↦ agg [agg [rat (s.f i i_1).n.x 4096, rat (s.f i i_1).n.y 4096, rat (s.f i i_1).n.z 4096], rat (s.f i i_1).d 4096]])]; let c12 : Int := c7 + (1 : Int); let c3 : Pl := s.f c7.toNat c11.toNat; some (af [(0 : Nat) < 1] (fork (decide (c7 < (↑s.n : Int))) (af [(0 : Nat) < 1, (0 : Int) ≤ c7 ∧ c7.toNat < s.n, (0 : Int) ≤ c11 ∧ c11.toNat < s.m, (1 : Nat) * 12 ≤ 2 ^ 24, (i + 1) * ((224 : Nat) + 1) * 2 ≤ 2 ^ 47] (af [-(2 : Int) ^ 63 ≤ c12 ∧ c12 < (2 : Int) ^ 63] (leaf normal ([c9, c10, c8, int i64 c11, own 61447 12 0 (i + 1), int i64 c12], c2 :: c4 :: c5 :: ((61447 : Nat), ay.mk true true 12 (i + 1) fun i_1 ↦ if i_1 < i then dO (s.f i_1 j) sK else nth [agg [agg [rat c3.n.x sK, rat c3.n.y sK, rat c3.n.z sK], rat c3.d sK]] (agg [agg [c6, c6, c6], c6]) (i_1 - i + 0)) :: c1)))) (leaf (exit 2) ([c9, c10, c8, int i64 c11, own 6 12 0 i, int i64 c7], c2 :: c4 :: c5 :: ((6 : Nat), ay.mk true true 12 i fun i ↦ agg [agg [rat (s.f i j).n.x 4096, rat (s.f i j).n.y 4096, rat (s.f i j).n.z 4096], rat (s.f i j).d 4096]) :: c1)))) := by kernel_rfl
theorem TV {s : Sf} {j i : Nat} : aI T [nG] [] 60 nu (behind uu [1,0,1] ++ [part ua [1,1]]) ⟨aA tw (BP j i), A4 s j i, 7⟩ =
  let c2 : Int := (↑j : Int) + (1 : Int); let c1 : AV := agg [int i64 s.v, int i64 s.u, own 4 3 0 s.b, own 5 3 0 s.a, own 3 1 0 j]; some (af [(0 : Nat) < 1, (1 : Nat) * 1 ≤ 2 ^ 24, (j + 1) * ((24 : Nat) + 1) * 2 ≤ 2 ^ 47, (0 : Nat) < 1] (af [-(2 : Int) ^ 63 ≤ c2 ∧ c2 < (2 : Int) ^ 63] (leaf normal ([ptr 0 0 5 0 [], ptr 1 0 5 0 [], ptr 2 0 5 0 [], int i64 c2], [((16391 : Nat), ay.mk true true 1 (j + 1) fun i_1 ↦ if i_1 < j then ee (fun i ↦ s.f i i_1) s.n sK else nth [aj 12 i fun i ↦ dO (s.f (i + 0) j) sK] nil (i_1 - j + 0)), ((5 : Nat), ay.mk true true 3 s.a fun i ↦ rat (s.ku i) 4096), ((4 : Nat), ay.mk true true 3 s.b fun i ↦ rat (s.kv i) 4096), ((2 : Nat), ay.mk false true 5 1 fun j_1 ↦ if (j_1 == 0) = true then agg (c1.kids.set 4 (bu (own (nat_lit 16390 + 1) 1 0 (j + 1)))) else c1), ((1 : Nat), ay.mk false true 5 1 fun x ↦ agg [int i64 (0 : Int), int i64 (0 : Int), nil, nil, nil]), ((0 : Nat), ay.mk false true 5 1 fun x ↦ agg [int i64 s.u, int i64 s.v, aj 3 s.a fun i ↦ rat (s.ku i) 4096, aj 3 s.b fun i ↦ rat (s.kv i) 4096, aj 1 s.n fun i ↦ aj 12 s.m fun i_1 ↦ agg [agg [rat (s.f i i_1).n.x 4096, rat (s.f i i_1).n.y 4096, rat (s.f i i_1).n.z 4096], rat (s.f i i_1).d 4096]])])))) := by kernel_rfl
theorem K5 {s : Sf} {j : Nat} : b9 T [nG] [] 60 rW [part qT [1,1,1]] ⟨aA nu (rq j), nT s j, 6⟩ =
  let c1 : Prop := 0 < 1; some (af [c1, c1] (af [c1] (leaf ret [agg [int i64 s.v, int i64 s.u, aj 3 s.b fun i ↦ rat (s.kv (i + 0)) 4096, aj 3 s.a fun i ↦ rat (s.ku (i + 0)) 4096, aj 1 j fun i ↦ aj 12 s.n fun i_1 ↦ agg [agg [rat (s.f i_1 (i + 0)).n.x 4096, rat (s.f i_1 (i + 0)).n.y 4096, rat (s.f i_1 (i + 0)).n.z 4096], rat (s.f i_1 (i + 0)).d 4096]]]))) := by kernel_rfl
theorem abz {s : Sf} {v : Rat} : aI T yF [200020] 60 v9 (before oR [1,1,1,0,1]) ⟨aO 0 [fF s sK sK, .rat v sK], [], 0⟩ =
  let c4 : Nat := (bu (fF s sK sK)).size; let c3 : Nat := 0 + s.a; let c2 : AV := agg [int i64 (0 : Int), nil, nil]; let c1 : Prop := 0 < 1; some (af [c1, c1, c1, cq (fun i ↦ rat (s.kv i) sK) s.b sK, sK ≤ sK, Kn s.b s.v.toNat fun i ↦ aM (rat (s.kv i) sK), (0 : Int) ≤ s.v, s.b < 2 ^ 40] (af [(dH s.b (fun i ↦ aM (rat (s.kv i) sK)) v != (0 : Int)) = false] (af [c1, (0 : Nat) * 3 ≤ 2 ^ 24, c1, c3 * ((56 : Nat) + 1) * 2 ≤ 2 ^ 47, c1] (leaf normal ([ptr 0 0 c4 0 [], ptr 4096 0 (bu (rat v sK)).size 0 [], ptr 8192 0 3 0 [], ptr 98304 0 3 0 [], int i64 (0 : Int)], [((90112 : Nat), ay.mk true true 3 c3 fun i ↦ rat (s.ku (i - 0)) 4096), ((98304 : Nat), ay.mk false true 3 1 fun j ↦ if (j == 0) = true then bu (agg ((c2.kids.set 0 (bu (int i64 s.u))).set 1 (bu (own (nat_lit 90111 + 1) 3 0 c3)))) else c2), ((8192 : Nat), ay.mk false true 3 1 fun x ↦ c2), ((4096 : Nat), ay.mk false true (bu (rat v sK)).size 1 fun x ↦ rat v 4096), ((0 : Nat), ay.mk false true c4 1 fun x ↦ agg [int i64 s.u, int i64 s.v, aj 3 s.a fun i ↦ rat (s.ku i) 4096, aj 3 s.b fun i ↦ rat (s.kv i) 4096, aj 1 s.n fun i ↦ aj 12 s.m fun i_1 ↦ agg [agg [rat (s.f i i_1).n.x 4096, rat (s.f i i_1).n.y 4096, rat (s.f i i_1).n.z 4096], rat (s.f i i_1).d 4096]])]))))) := by kernel_rfl
theorem Od {s : Sf} {v : Rat} {g : Nat → Pl} {i : Nat} : aI T yF [34] 60 v9 [part oR [1,1,1,0,1,0,0]] ⟨aA v9 (Co i), qC s v g i, 6⟩ =
  let c13 : AV := ptr 2 0 3 0 []; let c12 : AV := ptr 3 0 3 0 []; let c11 : AV := ptr 1 0 3 0 []; let c10 : AV := ptr 0 0 5 0 []; let c9 : AV := rat 0 1; let c8 : Nat × ay := ((5 : Nat), ay.mk true true 3 s.a fun i ↦ rat (s.ku i) 4096); let c7 : Nat := s.v.toNat; let c6 : Int := (↑i : Int); let c5 : Prop := 0 < 1; let c4 : AV := agg [int i64 s.u, own 5 3 0 s.a, own 4 12 0 i]; let c3 : Nat := cF s.b (fun i ↦ aM (rat (s.kv i) sK)) v; let c2 : List (Nat × ay) := [((2 : Nat), ay.mk false true 3 1 fun x ↦ agg [int i64 (0 : Int), nil, nil]), ((1 : Nat), ay.mk false true 3 1 fun x ↦ rat v 4096), ((0 : Nat), ay.mk false true 5 1 fun x ↦ agg [int i64 s.u, int i64 s.v, aj 3 s.a fun i ↦ rat (s.ku i) 4096, aj 3 s.b fun i ↦ rat (s.kv i) 4096, aj 1 s.n fun i ↦ aj 12 s.m fun i_1 ↦ agg [agg [rat (s.f i i_1).n.x 4096, rat (s.f i i_1).n.y 4096, rat (s.f i i_1).n.z 4096], rat (s.f i i_1).d 4096]])]; let c17 : Int := c6 + (1 : Int); let c16 : Nat := c3 - c7; let c15 : Nat := c7 + 1; let c1 : Rat := ct c15 fun j ↦ vB (fun i ↦ aM (rat (s.kv i) sK)) c3 v c7 j * aM (rat (s.f c6.toNat (c16 + j)).d sK); let c14 : Rat := (↑(1 : Int) : Rat) / c1; some (af [c5] (fork (decide (c6 < (↑s.n : Int))) (af [c5, c5, c5, c5, c5, (0 : Int) ≤ c6 ∧ c6.toNat < s.n, c5, c5, c5, cq (fun i ↦ rat (s.kv i) sK) s.b sK, jz (fun i ↦ dO (s.f c6.toNat i) sK) s.m sK, sK ≤ sK, Kn s.b c7 fun i ↦ aM (rat (s.kv i) sK), (0 : Int) ≤ s.v, s.v ≤ (6 : Int), s.b < 2 ^ 40, (↑s.m : Int) = (↑s.b : Int) - s.v - (1 : Int), ¬bT s.b (fun i ↦ aM (rat (s.kv i) sK)) v, sH ≤ sH, sH ≤ sH, sH ≤ sH, sH ≤ sH, (1 : Nat) * 12 ≤ 2 ^ 24, (i + 1) * ((224 : Nat) + 1) * 2 ≤ 2 ^ 47, c5] (af [-(2 : Int) ^ 63 ≤ c17 ∧ c17 < (2 : Int) ^ 63] (leaf normal ([c10, c11, c13, c12, int i64 c17], ((57350 : Nat), ay.mk true true 12 (i + 1) fun i_1 ↦ if i_1 < i then dO (g i_1) sE else nth [agg [agg [rat (c14 * ct c15 fun j ↦ vB (fun i ↦ aM (rat (s.kv i) sK)) c3 v c7 j * (aM (rat (s.f c6.toNat (c16 + j)).d sK) * aM (rat (s.f c6.toNat (c16 + j)).n.x sK))) sE, rat (c14 * ct c15 fun j ↦ vB (fun i ↦ aM (rat (s.kv i) sK)) c3 v c7 j * (aM (rat (s.f c6.toNat (c16 + j)).d sK) * aM (rat (s.f c6.toNat (c16 + j)).n.y sK))) sE, rat (c14 * ct c15 fun j ↦ vB (fun i ↦ aM (rat (s.kv i) sK)) c3 v c7 j * (aM (rat (s.f c6.toNat (c16 + j)).d sK) * aM (rat (s.f c6.toNat (c16 + j)).n.z sK))) sE], rat c1 sH]] (agg [agg [c9, c9, c9], c9]) (i_1 - i + 0)) :: c8 :: ((3 : Nat), ay.mk false true 3 1 fun j ↦ if (j == 0) = true then agg (c4.kids.set 2 (bu (own (nat_lit 57349 + 1) 12 0 (i + 1)))) else c4) :: c2)))) (leaf (exit 0) ([c10, c11, c13, c12, int i64 c6], ((4 : Nat), ay.mk true true 12 i fun i ↦ agg [agg [rat (g i).n.x 4294967298, rat (g i).n.y 4294967298, rat (g i).n.z 4294967298], rat (g i).d 4294967298]) :: c8 :: ((3 : Nat), ay.mk false true 3 1 fun x ↦ c4) :: c2)))) := by kernel_rfl
theorem OG {s : Sf} {v : Rat} {g : Nat → Pl} {i : Nat} : b9 T yF [] 60 tV [part oR [1,1,1,1]] ⟨aA v9 (Co i), qC s v g i, 6⟩ =
  let c1 : Prop := 0 < 1; some (af [c1, c1] (af [c1] (leaf ret [agg [int i64 s.u, aj 3 s.a fun i ↦ rat (s.ku (i + 0)) 4096, aj 12 i fun i ↦ agg [agg [rat (g (i + 0)).n.x 4294967298, rat (g (i + 0)).n.y 4294967298, rat (g (i + 0)).n.z 4294967298], rat (g (i + 0)).d 4294967298]], int i64 (0 : Int)]))) := by kernel_rfl
theorem I7 : bh P yF := eP (aE xx (aE (dh hT (eP aY) hm WL _ _) (aE DC (aE CN aY))))
theorem aaJ {s : Sf} (hn : 1 ≤ s.n) (h2 : s.n < 2 ^ 30) (h3 : s.m < 2 ^ 30) (h4 : s.a < 2 ^ 30) (h5 : s.b < 2 ^ 30) (K : Nat) : aB P vt K [fF s sK sK] [] (aH (fF (qi s) sK sK) []) := by
 refine fq (r := aH (fF (qi s) sK sK) []) hT Dg rfl (of_decide_eq_true (by kernel_rfl)) rfl (fun _ cx h00 => ?_) K []
 have hk := kE h00
 have hv : ∀ {rl : List (Nat × Nat)} {a b d l m n : Nat} {u : AV}, aZ rl 4 = some a → aZ rl 5 = some b → m = s.b → n = s.a → u.isTuple = false → fo (aZ rl) u (.own 3 1 0 l) → fY rl (.agg [.int .i64 s.v, .int .i64 s.u, .own a 3 0 m, .own b 3 0 n, u]) (.agg [.int .i64 s.v, .int .i64 s.u, .own 4 3 0 s.b, .own 5 3 0 s.a, .own 3 1 0 l]) :=
  fun h1 h2 h3 h4 h5 h6 => ru ⟨⟨rfl, aG rfl⟩, ⟨rfl, aG rfl⟩, ⟨rfl, b7 h1 rfl h3⟩, ⟨rfl, b7 h2 rfl h4⟩, ⟨h5, h6⟩, trivial⟩
 have re : ∀ {j : Nat}, gM 6 [(0, 0), (1, 1), (2, 2), (3, 3), (4, 4), (5, 5)] (nT s j) (nT s j) :=
  fun {j} => bR rfl rfl rfl (fun _ _ => aQ rfl rfl) (bR rfl rfl rfl (fun _ _ => aQ rfl rfl) (bR rfl rfl rfl (fun _ _ => aQ rfl rfl) (aU rfl rfl (hv (d := 0) rfl rfl rfl rfl rfl (b7 rfl rfl rfl)) (aU rfl rfl (aQ rfl rfl) (aU rfl rfl (aQ rfl rfl) trivial)))))
 refine ak.AU hT (eP aY) hm (x := qT) [1,1,0,1] (i := 0) (y := ua) (z := part qT [1,1,1]) (by kernel_rfl) (by kernel_rfl) (by kernel_rfl) Dg.dst [1,0] (j := 1) (x1 := uu) (zb := part ua [1,1]) (by kernel_rfl) (by kernel_rfl) (by kernel_rfl) [1,0,1] (i2 := 2) (y2 := part uu [1,0,1,0,0]) (by kernel_rfl) (by kernel_rfl) rfl
  hk (f1 := []) (f2 := [26]) (f3 := []) (f4 := [33]) (f5 := []) 60 nu tw 6 7 (fun j : Nat => rq j) (fun j => nT s j) (fun j => j ≤ s.m) (fun j => j = s.m) (fun j => s.m - j) (fun j => j < s.m) (fun _ => False) (fun _ => False)
  (fun j (i : Nat) => BP j i) (fun j i => A4 s j i) (fun _ i => i ≤ s.n) (fun _ i => i = s.n) (fun _ i => s.n - i) ⟨_, XC, ?_⟩ (fun j hj => ⟨_, Si, ?_⟩) (fun j hj hg => ⟨_, XN, ?_⟩) (fun j hj hg i hi => ⟨_, TU, ?_⟩) (fun j hj hg i hi => ⟨_, TV, ?_⟩) (fun j hj => ?_) (fun _ _ h => h.elim) (fun _ _ h => h.elim)
 all_goals try simp only [aa.all, ax, decide_eq_true_eq, decide_eq_false_iff_not, Int.toNat_natCast, Nat.add_zero]
 ·exact ⟨by omega, 0, Nat.zero_le _, [(0, 0), (1, 4096), (2, 61440), (4, 36864), (5, 53248)], rfl, rfl, rfl, qf rfl (by omega) (by omega) (bR rfl rfl (Nat.zero_add _) (fun _ _ => aQ rfl rfl) (bR rfl rfl (Nat.zero_add _) (fun _ _ => aQ rfl rfl)
   (aU rfl rfl (hv (d := 0) rfl rfl (Nat.zero_add _) (Nat.zero_add _) rfl (vI (by omega))) (aU rfl rfl (aQ rfl rfl) (aU rfl rfl (aQ rfl rfl) trivial)))))⟩
 ·exact ⟨by omega, fun h => ⟨by omega, _, rfl, rfl, rfl, re⟩, fun h => ⟨rfl, j, by omega, _, rfl, rfl, rfl, re⟩⟩
 ·exact ⟨0, Nat.zero_le _, [(0, 0), (1, 1), (2, 2), (3, 3), (4, 4), (5, 5)], rfl, rfl, rfl, qf rfl (by omega) (by omega) (bR rfl rfl rfl (fun _ _ => aQ rfl rfl) (bR rfl rfl rfl (fun _ _ => aQ rfl rfl) (bR rfl rfl rfl (fun _ _ => aQ rfl rfl) (aU rfl rfl (hv (d := 0) rfl rfl rfl rfl rfl (b7 rfl rfl rfl)) (aU rfl rfl (aQ rfl rfl) (aU rfl rfl (aQ rfl rfl) trivial))))))⟩
 ·refine ⟨by omega, fun h => ⟨by omega, by omega, i + 1, by omega, by dsimp only; omega, [(0, 0), (1, 1), (2, 2), (3, 3), (4, 4), (5, 5), (6, 61447)], rfl, rfl, rfl, bR rfl rfl rfl (fun k hk => DA (y := fun i => s.f i j) (fun _ _ => rfl) (.refl _) rfl (Nat.le_refl _) (Nat.le_refl _) hk) ?_⟩,
   fun h => ⟨rfl, i, by omega, [(0, 0), (1, 1), (2, 2), (3, 3), (4, 4), (5, 5), (6, 6)], rfl, rfl, rfl, bR rfl rfl rfl (fun _ _ => aQ rfl rfl) ?_⟩⟩
  all_goals exact bR rfl rfl rfl (fun _ _ => aQ rfl rfl) (bR rfl rfl rfl (fun _ _ => aQ rfl rfl) (bR rfl rfl rfl (fun _ _ => aQ rfl rfl) (aU rfl rfl (hv (d := 0) rfl rfl rfl rfl rfl (b7 rfl rfl rfl)) (aU rfl rfl (aQ rfl rfl) (aU rfl rfl (aQ rfl rfl) trivial)))))
 ·subst hi
  refine ⟨by omega, by omega, j + 1, by omega, by dsimp only; omega, [(0, 0), (1, 1), (2, 2), (3, 16391), (4, 4), (5, 5)], rfl, rfl, rfl, bR rfl rfl rfl (fun k hk => ?_) (bR rfl rfl rfl (fun _ _ => aQ rfl rfl) (bR rfl rfl rfl (fun _ _ => aQ rfl rfl) (aU rfl rfl (hv (d := 0) rfl rfl rfl rfl rfl (b7 rfl rfl rfl)) (aU rfl rfl (aQ rfl rfl) (aU rfl rfl (aQ rfl rfl) trivial)))))⟩
  by_cases h : k < j
  ·rw [if_pos h]; exact aQ rfl rfl
  ·have : k = j := by omega
   subst this
   rw [if_neg h, Nat.sub_self]; exact aQ rfl rfl
 ·subst hj
  refine ak.jg ((az.fin hT (eP aY) hm 60 K5 (by kernel_rfl) ?_).mono fun _ _ h => .inl h)
  simp only [aa.all, ax]
  exact ⟨by omega, by omega, .refl _⟩
theorem NM {s : Sf} {v : Rat} (hk2 : Kn s.b s.v.toNat s.kv) (h0 : 0 ≤ s.v) (h6 : s.v ≤ 6) (h2 : s.n < 2 ^ 30) (h4 : s.a < 2 ^ 30) (h5 : s.b < 2 ^ 30) (hm2 : (s.m : Int) = (s.b : Int) - s.v - 1) (hin : ¬ bT s.b s.kv v) (K : Nat) : aB P sj K [fF s sK sK, .rat v sK] [] (aH (.tuple [fc (yO s v) sK sE, .int .i64 0]) []) := by
 refine fq (r := aH (.tuple [fc (yO s v) sK sE, .int .i64 0]) []) hT Ij rfl (of_decide_eq_true (by kernel_rfl)) rfl (fun _ cx h00 => ?_) K []
 have hk := kE h00
 have hv : ∀ {rl : List (Nat × Nat)} {b l n : Nat} {u : AV}, aZ rl 5 = some b → n = s.a → u.isTuple = false → fo (aZ rl) u (.own 4 12 0 l) → fY rl (.agg [.int .i64 s.u, .own b 3 0 n, u]) (.agg [.int .i64 s.u, .own 5 3 0 s.a, .own 4 12 0 l]) :=
  fun h2 h4 h5 h6 => ru ⟨⟨rfl, aG rfl⟩, ⟨rfl, b7 h2 rfl h4⟩, ⟨h5, h6⟩, trivial⟩
 refine ak.iM hT I7 hm (x := oR) [1,1,1,0,1] (i := 0) (y := part oR [1,1,1,0,1,0,0]) (z := part oR [1,1,1,1]) (by kernel_rfl) (by kernel_rfl) (by kernel_rfl) Ij.dst hk (f1 := [200020]) (f2 := [34]) 60 v9 6 (fun i : Nat => Co i) (fun i => qC s v (o5 s v) i) (fun i => i ≤ s.n) (fun i => i = s.n) (fun i => s.n - i) (fun _ => False) ⟨_, abz, ?_⟩ (fun i hi => ⟨_, Od, ?_⟩) (fun i hi => ?_) (fun _ _ h => h.elim)
 ·simp only [aa.all, ax]
  exact ⟨⟨by omega, by omega, by omega, dr (Nat.le_refl _), Nat.le_refl _, hk2, h0, by omega⟩, bne_eq_false_iff_eq.2 (if_neg hin : dH s.b s.kv v = 0), ⟨by omega, by omega, by omega, by omega, by omega⟩, 0, Nat.zero_le _, [(0, 0), (1, 4096), (2, 8192), (3, 98304), (5, 90112)], rfl, rfl, rfl, qf rfl (by omega) (by omega) (bR rfl rfl (Nat.zero_add _) (fun _ _ => aQ rfl rfl)
   (aU rfl rfl (hv rfl (Nat.zero_add _) rfl (vI (by omega))) (aU rfl rfl (aQ rfl rfl) (aU rfl rfl (aQ rfl rfl) (aU rfl rfl (aQ rfl rfl) trivial)))))⟩
 ·simp only [aa.all, ax, decide_eq_true_eq, decide_eq_false_iff_not, Int.toNat_natCast]
  have re : gM 6 [(0, 0), (1, 1), (2, 2), (3, 3), (4, 4), (5, 5)] (qC s v (o5 s v) i) (qC s v (o5 s v) i) := bR rfl rfl rfl (fun _ _ => aQ rfl rfl) (bR rfl rfl rfl (fun _ _ => aQ rfl rfl) (aU rfl rfl (hv rfl rfl rfl (b7 rfl rfl rfl)) (aU rfl rfl (aQ rfl rfl) (aU rfl rfl (aQ rfl rfl) (aU rfl rfl (aQ rfl rfl) trivial)))))
  refine ⟨by omega, fun h => ⟨⟨by omega, by omega, by omega, by omega, by omega, by omega, by omega, by omega, by omega, dr (Nat.le_refl _), oH (Nat.le_refl _), Nat.le_refl _, hk2, h0, h6, by omega, hm2, hin, by omega, by omega, by omega, by omega, by omega, by omega, by omega⟩, by omega,
   i + 1, by omega, by dsimp only; omega, [(0, 0), (1, 1), (2, 2), (3, 3), (4, 57350), (5, 5)], rfl, rfl, rfl, bR rfl rfl rfl (fun k hk => ?_) (bR rfl rfl rfl (fun _ _ => aQ rfl rfl) (aU rfl rfl (hv rfl rfl rfl (b7 rfl rfl rfl)) (aU rfl rfl (aQ rfl rfl) (aU rfl rfl (aQ rfl rfl) (aU rfl rfl (aQ rfl rfl) trivial)))))⟩, fun h => ⟨rfl, i, by omega, _, rfl, rfl, rfl, re⟩⟩
  by_cases h : k < i
  ·rw [if_pos h]; exact aQ rfl rfl
  ·have : k = i := by omega
   subst this
   rw [if_neg h, Nat.sub_self]
   exact .inr ⟨rfl, eG ⟨.refl _, cV rfl (by decide), trivial⟩⟩
 ·subst hi
  refine ak.jg ((az.fin hT I7 hm 60 OG (by kernel_rfl) ?_).mono fun _ _ h => .inl h)
  simp only [aa.all, ax]
  exact ⟨by omega, by omega, .refl _, .refl _, trivial⟩
def IF : Spec := ey (kC (uO sK sK) kN) (fun a => fF (qi a.1) sK sK) fun a => [1 ≤ a.1.n, a.1.n < 2 ^ 30, a.1.m < 2 ^ 30, a.1.a < 2 ^ 30, a.1.b < 2 ^ 30]
def Jh : Spec := ey (kC (uO sK sK) (kC (iu sK) kN)) (fun a => .tuple [fc (yO a.1 a.2.1) sK sE, .int .i64 0]) fun a => [Kn a.1.b a.1.v.toNat a.1.kv, 0 ≤ a.1.v, a.1.v ≤ 6, a.1.n < 2 ^ 30, a.1.a < 2 ^ 30, a.1.b < 2 ^ 30, (a.1.m : Int) = (a.1.b : Int) - a.1.v - 1, ¬ bT a.1.b a.1.kv a.2.1]
noncomputable def HN : aT := [nG, (vt, IF), (sj, Jh)]
structure kg (s : Sf) : Prop where
 ku : Kn s.a s.u.toNat s.ku
 kv : Kn s.b s.v.toNat s.kv
 u0 : 0 ≤ s.u
 u6 : s.u ≤ 6
 v0 : 0 ≤ s.v
 v6 : s.v ≤ 6
 a : s.a < 2 ^ 30
 b : s.b < 2 ^ 30
 n : (s.n : Int) = (s.a : Int) - s.u - 1
 m : (s.m : Int) = (s.b : Int) - s.v - 1
abbrev jb (s : Sf) (u : Rat) : Cu := yO (qi s) u
theorem abb : ∀ K args pre r, IF K args pre = some r → aB P vt K args pre r := eE fun ⟨s, _⟩ K hn => aaJ hn.1 hn.2.1 hn.2.2.1 hn.2.2.2.1 hn.2.2.2.2 K
theorem RH : ∀ K args pre r, Jh K args pre = some r → aB P sj K args pre r := eE fun ⟨s, v, _⟩ K hn => NM hn.1 hn.2.1 hn.2.2.1 hn.2.2.2.1 hn.2.2.2.2.1 hn.2.2.2.2.2.1 hn.2.2.2.2.2.2.1 hn.2.2.2.2.2.2.2 K
theorem Qq : bh P HN := eP (aE abb (aE RH aY))
theorem NG {s : Sf} {u : Rat} : bB T HN [] 60 rC (au rC) ⟨aO 0 [fF s sK sK, .rat u sK], [], 0⟩ =
  let c8 : Rat := (↑(1 : Int) : Rat); let c6 : Prop := 0 < 1; let c4 : Nat := qn (ee (s.f 0) s.m sK); let c3 : Nat := 2 ^ 30; let c2 : Nat := s.u.toNat; let c1 : Nat := cF s.a (fun i ↦ aM (rat (aM (rat (s.ku i) sK)) sK)) u; let c7 : Nat := c1 - c2; let c5 : Nat := c2 + 1; some (af [c6, cq (fun i ↦ rat (s.ku i) sK) s.a sK, cq (fun i ↦ rat (s.kv i) sK) s.b sK, lE (fun i ↦ ee (s.f i) s.m sK) s.n sK, (1 : Nat) ≤ s.n, s.n < c3, c4 < c3, s.a < c3, s.b < c3, c6, cq (fun i ↦ rat (aM (rat (s.kv i) sK)) sK) s.b sK, cq (fun i ↦ rat (aM (rat (s.ku i) sK)) sK) s.a sK, lE (fun i ↦ ee (fun i_1 ↦ oE (fun i ↦ ee (s.f i) s.m sK) i_1 i) s.n sK) c4 sK, sK ≤ sK, Kn s.a c2 fun i ↦ aM (rat (aM (rat (s.ku i) sK)) sK), (0 : Int) ≤ s.u, s.u ≤ (6 : Int), c4 < c3, s.b < c3, s.a < c3, (↑(qn (ee (fun i ↦ oE (fun i ↦ ee (s.f i) s.m sK) i 0) s.n sK)) : Int) = (↑s.a : Int) - s.u - (1 : Int), ¬bT s.a (fun i ↦ aM (rat (aM (rat (s.ku i) sK)) sK)) u, c6] (af [c6] (leaf ret [agg [int i64 s.v, aj 3 s.b fun i ↦ rat (aM (rat (aM (rat (s.kv i) sK)) sK)) 4096, aj 12 c4 fun i ↦ agg [agg [rat ((c8 / ct c5 fun j ↦ vB (fun i ↦ aM (rat (aM (rat (s.ku i) sK)) sK)) c1 u c2 j * aM (rat (aM (rat (s.f (c7 + j) i).d sK)) sK)) * ct c5 fun j ↦ vB (fun i ↦ aM (rat (aM (rat (s.ku i) sK)) sK)) c1 u c2 j * (aM (rat (aM (rat (s.f (c7 + j) i).d sK)) sK) * aM (rat (aM (rat (s.f (c7 + j) i).n.x sK)) sK))) 4294967298, rat ((c8 / ct c5 fun j ↦ vB (fun i ↦ aM (rat (aM (rat (s.ku i) sK)) sK)) c1 u c2 j * aM (rat (aM (rat (s.f (c7 + j) i).d sK)) sK)) * ct c5 fun j ↦ vB (fun i ↦ aM (rat (aM (rat (s.ku i) sK)) sK)) c1 u c2 j * (aM (rat (aM (rat (s.f (c7 + j) i).d sK)) sK) * aM (rat (aM (rat (s.f (c7 + j) i).n.y sK)) sK))) 4294967298, rat ((c8 / ct c5 fun j ↦ vB (fun i ↦ aM (rat (aM (rat (s.ku i) sK)) sK)) c1 u c2 j * aM (rat (aM (rat (s.f (c7 + j) i).d sK)) sK)) * ct c5 fun j ↦ vB (fun i ↦ aM (rat (aM (rat (s.ku i) sK)) sK)) c1 u c2 j * (aM (rat (aM (rat (s.f (c7 + j) i).d sK)) sK) * aM (rat (aM (rat (s.f (c7 + j) i).n.z sK)) sK))) 4294967298], rat (ct c5 fun j ↦ vB (fun i ↦ aM (rat (aM (rat (s.ku i) sK)) sK)) c1 u c2 j * aM (rat (aM (rat (s.f (c7 + j) i).d sK)) sK)) 4294967298]], int i64 (0 : Int)]))) := by kernel_rfl
theorem Lk {s : Sf} {u : Rat} (hs : kg s) (hin : ¬ bT s.a s.ku u) (K : Nat) : aB P rB K [fF s sK sK, .rat u sK] [] (aH (.tuple [fc (jb s u) sK sE, .int .i64 0]) []) := by
 obtain ⟨ku, kv, u0, u6, v0, v6, ha, hb, hn, hm2⟩ := hs
 have := ku.len
 refine bF (r := aH (.tuple [fc (jb s u) sK sE, .int .i64 0]) []) hT Qq hm ZY rfl (of_decide_eq_true (by kernel_rfl)) rfl 60 NG (fun _ => ?_) K []
 simp only [aa.all, ax]
 exact ⟨⟨by omega, dr (Nat.le_refl _), dr (Nat.le_refl _), yB (Nat.le_refl _), by omega, by omega, show s.m < 2 ^ 30 by omega, ha, hb, by omega, dr (Nat.le_refl _), dr (Nat.le_refl _), yB (Nat.le_refl _), Nat.le_refl _, ku, u0, u6, show s.m < 2 ^ 30 by omega, hb, ha, show (s.n : Int) = (s.a : Int) - s.u - 1 from hn, hin, by omega⟩, by omega, .refl _, .refl _, trivial⟩
def J2 : Spec := ey (kC (uO sK sK) (kC (iu sK) kN)) (fun a => .tuple [fc (jb a.1 a.2.1) sK sE, .int .i64 0]) fun a => [kg a.1, ¬ bT a.1.a a.1.ku a.2.1]
noncomputable def J0 : aT := [nG, (rB, J2), (mS, Jy)]
def IE : Spec := ey (kC (uO sK sK) (kC (iu sK) (kC (iu sK) kN))) (fun a => .tuple [vA (ep (jb a.1 a.2.1) a.2.2.1) jj, .int .i64 (dH a.1.b a.1.kv a.2.2.1)]) fun a => [kg a.1, ¬ bT a.1.a a.1.ku a.2.1]
theorem QS : ∀ K args pre r, J2 K args pre = some r → aB P rB K args pre r := eE fun ⟨s, u, _⟩ K hn => Lk hn.1 hn.2 K
theorem Qc : bh P J0 := eP (aE QS (aE Oo aY))
theorem Sc {s : Sf} {u v : Rat} : bB T J0 [] 60 qZ (au qZ) ⟨aO 0 [fF s sK sK, .rat u sK, .rat v sK], [], 0⟩ =
  let c4 : Nat := qn (ee (s.f 0) s.m sK); let c3 : Prop := 0 < 1; let c2 : Sf := Sf.mk s.u s.v s.a (fun i ↦ aM (rat (s.ku i) sK)) s.b (fun i ↦ aM (rat (s.kv i) sK)) s.n c4 (oE fun i ↦ ee (s.f i) s.m sK); let c1 : V3 := ep (Cu.mk s.v s.b (fun i ↦ aM (rat (aM (rat (s.kv i) sK)) sK)) c4 fun i ↦ qd (dO (o5 (qi c2) u i) sE)) v; some (af [c3, c3, cq (fun i ↦ rat (s.ku i) sK) s.a sK, cq (fun i ↦ rat (s.kv i) sK) s.b sK, lE (fun i ↦ ee (s.f i) s.m sK) s.n sK, sK ≤ sK, kg c2, ¬bT s.a (fun i ↦ aM (rat (s.ku i) sK)) u, c3] (af [c3, c3, cq (fun i ↦ rat (aM (rat (s.kv i) sK)) sK) s.b sK, jz (fun i ↦ dO (o5 (qi c2) u i) sE) c4 sE, sK ≤ sK, Kn s.b s.v.toNat fun i ↦ aM (rat (aM (rat (s.kv i) sK)) sK), (0 : Int) ≤ s.v, s.v ≤ (6 : Int), s.b < 2 ^ 40, (↑c4 : Int) = (↑s.b : Int) - s.v - (1 : Int), c3] (af [c3] (leaf ret [agg [rat c1.x 137438953474, rat c1.y 137438953474, rat c1.z 137438953474], int i64 (dH s.b (fun i ↦ aM (rat (aM (rat (s.kv i) sK)) sK)) v)])))) := by kernel_rfl
theorem RG : ∀ K args pre r, IE K args pre = some r → aB P y5 K args pre r := eE fun ⟨s, u, v, _⟩ K hn => by
 obtain ⟨hs, hin⟩ := hn
 have hs : kg s := hs
 refine bF (r := aH (.tuple [vA (ep (jb s u) v) jj, .int .i64 (dH s.b s.kv v)]) []) hT Qc hm Tw rfl (of_decide_eq_true (by kernel_rfl)) rfl 60 Sc (fun _ => ?_) K []
 simp only [aa.all, ax]
 have hb := hs.b
 exact ⟨⟨by omega, by omega, dr (Nat.le_refl _), dr (Nat.le_refl _), yB (Nat.le_refl _), Nat.le_refl _, hs, hin, by omega⟩, ⟨by omega, by omega, dr (Nat.le_refl _), oH (Nat.le_refl _), Nat.le_refl _, hs.kv, hs.v0, hs.v6, by omega, hs.m, by omega⟩, by omega, .refl _, .refl _, trivial⟩
end Go.Am.B
