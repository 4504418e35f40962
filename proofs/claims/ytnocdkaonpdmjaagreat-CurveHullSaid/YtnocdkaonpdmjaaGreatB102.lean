/- brepkernelmade: pole, Curve. -/
import Derived.Test.YtnocdkaonpdmjaaGreatY49
import Derived.Test.YtnocdkaonpdmjaaGreatY48
set_option linter.unusedVariables false
namespace Go.Am.B
open Go Go.Am.N AV aa aj IntKind
theorem Wa : aO P yE tL (ax tL) := aP N3 (by kernel_rfl) (by kernel_rfl) (by kernel_rfl)
theorem Gd : aO P sw uG (ax uG) := aP Qz (by kernel_rfl) (by kernel_rfl) (by kernel_rfl)
def Jq : aQ := [(mR, fD qq), (tW, fD zW), (lS, xG)]
def p6 (n : Nat) (f : Nat → AV) (a : Int) (b : Bool) : Pl := ⟨⟨ek n f a, ek n f (cX n f a), if b = true then 0 else ek n f (cX n f (cX n f a))⟩, ((1 + b7 n f (gJ n f a) 3 : Int) : Rat)⟩
def CP (n : Nat) (f : Nat → AV) (a : Int) : Int := bh n (gJ n f a)
def DL (n : Nat) (f : Nat → AV) (a : Int) (l : List AV) : Option (AV × Int × List Prop) := match l with
 | [.bool b] => some (cY (p6 n f a b) 64, CP n f a, [])
 | _ => none
def y9 : aQ := nG :: (mR, fD qq) :: (uz, fD A3) :: (yE, fD DL) :: []
abbrev vt : List Nat := [0, 3, 8, 9, 10]
abbrev DH (b : Bool) (i : Nat) : List AV := [.ptr 0 0 2 0 [], .bool b, .ptr 1 0 3 0 [], .ptr 2 0 3 0 [], .int .i64 i]
abbrev AU (n : Nat) (z : Nat → Int) (a p : Int) (N : Nat) (k : Nat → Rat) (f : Nat → Pl) (j : Nat) : aD :=
 [(3, ⟨true, true, 12, j, fun i => cY (f i) 64⟩), (2, ⟨false, true, 3, 1, fun _ => .agg [.int .i64 p, bI k N 64, .own 3 12 0 j]⟩), (1, ⟨false, true, 3, 1, fun _ => .agg [.int .i64 0, .nil, .nil]⟩), (0, ji n z a)]
noncomputable abbrev s6 : Code := ax uG
theorem Z1 {n : Nat} {z : Nat → Int} {a : Int} {b : Bool} : o4 T Jq [8] 60 tL (ax tL) ⟨aL 0 [.ptr 0 0 2 0 [], .bool b], [(0, ji n z a)], 1⟩ =
  let c9 : Int := cX n (fun i ↦ int i64 (z i)) a; let c8 : AV := rat (ek n (fun i ↦ int i64 (z i)) a) 64; let c6 : Int := gJ n (fun i ↦ int i64 (z i)) a; let c4 : Prop := 0 < 1; let c5 : AV := rat (ek n (fun i ↦ int i64 (z i)) c9) 64; let c3 : Option az := some (az.mk false true 2 1 fun x ↦ agg [ak 1 n fun i ↦ int i64 (z i), int i64 (bh n c6)]); let c1 : Int := i64.wrap ((1 : Int) + (b7 n (fun i ↦ int i64 (z i)) c6 (3 : Int)).tmod (3 : Int)); let c7 : AV := rat (↑c1 : Rat) (Max.max 1 (aZ c1.natAbs)); let c2 : List Prop := [c4, ct n (fun i ↦ int i64 (z i)) c6, (0 : Int) < (3 : Int), (3 : Int) < (2 : Int) ^ 62, (3 : Int) ≠ (0 : Int), -(2 : Int) ^ 63 ≤ c1, c1 < (2 : Int) ^ 63, c4]; some (ag [ct n (fun i ↦ int i64 (z i)) a, c4] (fork b (ag [(0 : Int) ≤ (2 : Int) ∧ (2 : Int) < (↑(3 : Nat) : Int), c4] (ag c2 (ag [c4] (leaf ret ([agg [agg [c8, c5, agg [AV.bool false, mag 0, mag 0]], c7]], c3))))) (ag c2 (ag [c4] (leaf ret ([agg [agg [c8, c5, rat (ek n (fun i ↦ int i64 (z i)) (cX n (fun i ↦ int i64 (z i)) c9)) 64], c7]], c3)))))) := by kernel_rfl
theorem RD {n : Nat} {z : Nat → Int} {a p m : Int} {b : Bool} : aI T y9 [] 60 vt (before s6 [1,1,1,0,1]) ⟨aL 0 [.ptr 0 0 2 0 [], .int .i64 p, .int .i64 m, .bool b], [(0, ji n z a)], 1⟩ =
  let c4 : Prop := 0 < 1; let c2 : AV := agg [int i64 (0 : Int), nil, nil]; let c1 : Int := (1 : Int) + b7 n (fun i ↦ int i64 (z i)) a p; let c3 : AV := bC (agg (c2.kids.set 0 (bC (int i64 c1)))); some (ag [ct n (fun i ↦ int i64 (z i)) a, (0 : Int) < p, p < (2 : Int) ^ 62, -(2 : Int) ^ 63 ≤ c1 ∧ c1 < (2 : Int) ^ 63, c4] (ag [c4, ct n (fun i ↦ int i64 (z i)) (bh n a), (1 : Int) ≤ c1, c1 < (1000 : Int), (0 : Int) ≤ m, m < (1000 : Int), c4] (leaf normal ([ptr 0 0 2 0 [], AV.bool b, ptr 1 0 3 0 [], ptr 24577 0 3 0 [], int i64 (0 : Int)], [((24577 : Nat), az.mk false true 3 1 fun j ↦ if (j == 0) = true then agg ((if ((0 : Nat) == 0) = true then c3 else c2).kids.set 1 (bC (bI (qJ n (fun i ↦ int i64 (z i)) (bh n a) c1.toNat m.toNat) (nM n (fun i ↦ int i64 (z i)) (bh n a) c1.toNat m.toNat) 64))) else if (j == 0) = true then c3 else c2), ((1 : Nat), az.mk false true 3 1 fun x ↦ c2), ((0 : Nat), az.mk false true 2 1 fun x ↦ agg [ak 1 n fun i ↦ int i64 (z i), int i64 (nR n (fun i ↦ int i64 (z i)) (bh n a) c1.toNat m.toNat)])])))) := by kernel_rfl
theorem LR {n N j : Nat} {z : Nat → Int} {a p : Int} {k : Nat → Rat} {f : Nat → Pl} {b : Bool} : aI T y9 [30] 60 vt [part s6 [1,1,1,0,1,0,0]] ⟨aC vt (DH b j), AU n z a p N k f j, 4⟩ =
  let c15 : Int := (↑j : Int); let c14 : Int := (↑N : Int) - p; let c13 : Int := cX n (fun i ↦ int i64 (z i)) a; let c12 : AV := own 3 12 0 j; let c11 : AV := ak 1 n fun i ↦ int i64 (z i); let c9 : AV := ptr 2 0 3 0 []; let c8 : AV := ptr 1 0 3 0 []; let c7 : AV := ptr 0 0 2 0 []; let c6 : Prop := 0 < 1; let c5 : AV := rat 0 1; let c2 : Nat × az := ((1 : Nat), az.mk false true 3 1 fun x ↦ agg [int i64 (0 : Int), nil, nil]); let c1 : Int := (2 : Int) ^ 63; let c10 : Int := c15 + (1 : Int); let c4 : Int := c14 - (1 : Int); let c3 : AV := agg [int i64 p, bI k N 64, c12]; some (ag [c6, c6, -c1 ≤ c14 ∧ c14 < c1, -c1 ≤ c4 ∧ c4 < c1] (fork (decide (c15 < c4)) (ag [c6, ct n (fun i ↦ int i64 (z i)) a, (1 : Nat) * 12 ≤ 2 ^ 24, (j + 1) * ((224 : Nat) + 1) * 2 ≤ 2 ^ 47, c6] (ag [-c1 ≤ c10 ∧ c10 < c1] (leaf normal ([c7, AV.bool b, c8, c9, int i64 c10], [((61444 : Nat), az.mk true true 12 (j + 1) fun i ↦ if i < j then cY (f i) 64 else nth [agg [agg [rat (ek n (fun i ↦ int i64 (z i)) a) 64, rat (ek n (fun i ↦ int i64 (z i)) c13) 64, rat (if b = true then 0 else ek n (fun i ↦ int i64 (z i)) (cX n (fun i ↦ int i64 (z i)) c13)) 64], rat (↑((1 : Int) + b7 n (fun i ↦ int i64 (z i)) (gJ n (fun i ↦ int i64 (z i)) a) (3 : Int)) : Rat) 64]] (agg [agg [c5, c5, c5], c5]) (i - j + 0)), ((2 : Nat), az.mk false true 3 1 fun j_1 ↦ if (j_1 == 0) = true then agg (c3.kids.set 2 (bC (own (nat_lit 61443 + 1) 12 0 (j + 1)))) else c3), c2, ((0 : Nat), az.mk false true 2 1 fun x ↦ agg [c11, int i64 (CP n (fun i ↦ int i64 (z i)) a)])])))) (leaf (exit 0) ([c7, AV.bool b, c8, c9, int i64 c15], [((3 : Nat), az.mk true true 12 j fun i ↦ agg [agg [rat (f i).n.x 64, rat (f i).n.y 64, rat (f i).n.z 64], rat (f i).d 64]), ((2 : Nat), az.mk false true 3 1 fun x ↦ agg [int i64 p, ak 3 N fun i ↦ rat (k i) 64, c12]), c2, ((0 : Nat), az.mk false true 2 1 fun x ↦ agg [c11, int i64 a])])))) := by kernel_rfl
theorem YD {n N j : Nat} {z : Nat → Int} {a p : Int} {k : Nat → Rat} {f : Nat → Pl} {b : Bool} : zP T y9 [] 60 uG [part s6 [1,1,1,1]] ⟨aC vt (DH b j), AU n z a p N k f j, 4⟩ =
  let c1 : Prop := 0 < 1; some (ag [c1, c1] (ag [c1] (leaf ret ([agg [int i64 p, ak 3 N fun i ↦ rat (k i) 64, ak 12 j fun i ↦ agg [agg [rat (f (i + 0)).n.x 64, rat (f (i + 0)).n.y 64, rat (f (i + 0)).n.z 64], rat (f (i + 0)).d 64]]], some (az.mk false true 2 1 fun x ↦ agg [ak 1 n fun i ↦ int i64 (z i), int i64 a]))))) := by kernel_rfl
theorem Rz : bg P Jq := aH z5 (aH I3 (aH Aa bn))
theorem Xv : ∀ K args pre r, fD DL K args pre = some r → aA P yE K args pre r := by
 refine nF fun {k n z a l v b q o} K hg ho hd hq => ?_
 unfold DL at hg
 split at hg
 ·rename_i b
  simp only [Option.some.injEq, Prod.mk.injEq] at hg
  obtain ⟨rfl, rfl, rfl⟩ := hg
  refine xD hT Rz hm Wa rfl rfl (of_decide_eq_true (by kernel_rfl)) ho 60 Z1 (fun _ => ?_) K
  have a1 := hU (n := n) (f := fun i => .int .i64 (z i)) (a := gJ n (fun i => .int .i64 (z i)) a) (m := 3) (by omega)
  have a2 := iA (n := n) (f := fun i => .int .i64 (z i)) (a := gJ n (fun i => .int .i64 (z i)) a) (m := 3) (by omega)
  unfold p6
  generalize b7 n (fun i => .int .i64 (z i)) (gJ n (fun i => .int .i64 (z i)) a) 3 = x at *
  have e1 : x.tmod 3 = x := by rw [Int.tmod_eq_of_lt a1 a2]
  have e2 : i64.wrap (1 + x) = 1 + x := wrap_i64 (by omega) (by omega)
  simp only [aa.all, ay, e1, e2]
  have hw : bA (.rat ((1 + x : Int) : Rat) (max 1 (aZ (1 + x).natAbs))) (.rat ((1 + x : Int) : Rat) 64) := eU rfl (Is (y := 0) (by omega) (by omega))
  refine ⟨⟨hd, by omega⟩, fun hb => ⟨by omega, ⟨by omega, hd.z3, by omega, by omega, by omega, by omega, by omega, by omega⟩, by omega, ?_, _, rfl, rfl, kr rfl rfl⟩, fun hb => ⟨⟨by omega, hd.z3, by omega, by omega, by omega, by omega, by omega, by omega⟩, by omega, ?_, _, rfl, rfl, kr rfl rfl⟩⟩
  ·rw [if_pos hb]
   exact ee ⟨ee ⟨.refl _, .refl _, oc (q := (0 : Rat)) ⟨by decide, by decide⟩ rfl rfl rfl, trivial⟩, hw, trivial⟩
  ·rw [if_neg (by rw [hb]; decide)]
   exact ee ⟨.refl _, hw, trivial⟩
 ·simp at hg
theorem Jg : bg P y9 := dM (aH z5 (aH Um (aH Xv bn)))
def j3 (n : Nat) (f : Nat → AV) (a : Int) : Nat → Int
 | 0 => a
 | j + 1 => CP n f (j3 n f a j)
theorem ct.vH {n : Nat} {f : Nat → AV} {a : Int} (h : ct n f a) : ∀ j, ct n f (j3 n f a j)
 | 0 => h
 | j + 1 => (h.vH j).z3.next
theorem ct.fP {n : Nat} {f : Nat → AV} {a : Int} {p m : Nat} (h : ct n f a) (hp : 1 ≤ p) : ct n f (nR n f a p m) := (xY h hp _).2
def kZ (n : Nat) (f : Nat → AV) (a d : Int) : Nat := (1 + b7 n f a d).toNat
def pZ (n : Nat) (f : Nat → AV) (a d : Int) (m : Nat) : Int := nR n f (bh n a) (kZ n f a d) m
def fY (n : Nat) (f : Nat → AV) (a d : Int) (m : Nat) (b : Bool) : Cu :=
 ⟨(kZ n f a d : Nat), nM n f (bh n a) (kZ n f a d) m, qJ n f (bh n a) (kZ n f a d) m, kZ n f a d + 1 + ja n f (bh n a) m, fun i => p6 n f (j3 n f (pZ n f a d m) i) b⟩
def CQ (n : Nat) (f : Nat → AV) (a d : Int) (m : Nat) : Int := j3 n f (pZ n f a d m) (kZ n f a d + 1 + ja n f (bh n a) m)
def CU (n : Nat) (f : Nat → AV) (a : Int) (l : List AV) : Option (AV × Int × List Prop) := match l with
 | [.int .i64 d, .int .i64 m, .bool b] => some (eV (fY n f a d m.toNat b) 64 64, CQ n f a d m.toNat, [1 ≤ d, d < 900, 0 ≤ m, m < 900])
 | _ => none
theorem F6 {n : Nat} {f : Nat → AV} {a : Int} {m : Nat} : ja n f a m ≤ m := by
 have h1 := hU (n := n) (f := f) (a := bh n a) (m := m + 1) (by omega)
 have h2 := iA (n := n) (f := f) (a := bh n a) (m := m + 1) (by omega)
 unfold ja; omega
theorem Tx {k n m : Nat} {z : Nat → Int} {a d : Int} {b : Bool} {o : az} (ho : ∀ ρ, ck ρ o (ji n z a)) (h : ct n (fun i => .int .i64 (z i)) a) (hd1 : 1 ≤ d) (hd2 : d < 900) (hm2 : m < 900) (K : Nat) :
  aA P sw K [.ptr k 0 2 0 [], .int .i64 d, .int .i64 m, .bool b] [(k, o)] ⟨eV (fY n (fun i => .int .i64 (z i)) a d m b) 64 64, [(k, ji n z (CQ n (fun i => .int .i64 (z i)) a d m))], []⟩ := by
 refine Hj hT Gd rfl rfl (of_decide_eq_true (by kernel_rfl)) ho (fun _ c hk => ?_) K
 have a1 := hU (n := n) (f := fun i => .int .i64 (z i)) (a := a) (m := d) (by omega)
 have a2 := iA (n := n) (f := fun i => .int .i64 (z i)) (a := a) (m := d) (by omega)
 have hJ := F6 (n := n) (f := fun i => .int .i64 (z i)) (a := bh n a) (m := m)
 unfold fY CQ pZ kZ
 obtain ⟨p, hp⟩ : ∃ p, p = (1 + b7 n (fun i => .int .i64 (z i)) a d).toNat := ⟨_, rfl⟩
 have hp2 : 1 + b7 n (fun i => .int .i64 (z i)) a d = (p : Int) := by omega
 rw [← hp]
 have hB := (h.next.fP (p := p) (m := m) (by omega))
 obtain ⟨N, hN⟩ : ∃ N, N = nM n (fun i => .int .i64 (z i)) (bh n a) p m := ⟨_, rfl⟩
 obtain ⟨kk, hkk⟩ : ∃ kk, kk = qJ n (fun i => .int .i64 (z i)) (bh n a) p m := ⟨_, rfl⟩
 obtain ⟨B, hB2⟩ : ∃ B, B = nR n (fun i => .int .i64 (z i)) (bh n a) p m := ⟨_, rfl⟩
 have hN2 : N = 2 * p + 2 + ja n (fun i => .int .i64 (z i)) (bh n a) m := hN
 rw [← hN, ← hkk, ← hB2]
 rw [← hB2] at hB
 generalize ja n (fun i => .int .i64 (z i)) (bh n a) m = J at *
 refine aq.lP hT Jg hm [1,1,1,0,1] (i := 0) (y := part s6 [1,1,1,0,1,0,0]) (z := part s6 [1,1,1,1]) (by kernel_rfl) (by kernel_rfl) (by kernel_rfl) Gd.dst hk (f1 := []) (f2 := [30]) 60 vt 4 (fun j : Nat => DH b j)
  (fun j => AU n z (j3 n (fun i => .int .i64 (z i)) B j) p N kk (fun i => p6 n (fun i => .int .i64 (z i)) (j3 n (fun i => .int .i64 (z i)) B i) b) j) (fun j => j ≤ p + 1 + J) (fun j => j = p + 1 + J) (fun j => p + 1 + J - j) (fun _ => False) ⟨_, RD, ?_⟩ (fun j hj => ⟨_, LR, ?_⟩) (fun j hj => ?_) (fun _ _ h => h.elim)
 ·simp only [aa.all, ay, hp2, Int.toNat_natCast]
  rw [← hN, ← hkk, ← hB2]
  exact ⟨⟨h, by omega, by omega, by omega, by omega⟩, ⟨by omega, h.next, by omega, by omega, by omega, by omega, by omega⟩, 0, Nat.zero_le _, [(0, 0), (1, 1), (2, 24577)], rfl, rfl, rfl,
   x4 rfl (by omega) (by omega) (aR rfl rfl (pN ⟨⟨rfl, aF rfl⟩, ⟨rfl, aF rfl⟩, ⟨rfl, s9 (by omega)⟩, trivial⟩) (aR rfl rfl (aM rfl rfl) (aR rfl rfl (aM rfl rfl) trivial)))⟩
 ·simp only [aa.all, ay, decide_eq_true_eq, decide_eq_false_iff_not]
  have hv : ∀ {rl : List (Nat × Nat)} {a l : Nat}, aS rl 3 = some a → fN rl (.agg [.int .i64 p, bI kk N 64, .own a 12 0 l]) (.agg [.int .i64 p, bI kk N 64, .own 3 12 0 l]) := fun h => pN ⟨⟨rfl, aF rfl⟩, ⟨rfl, aF rfl⟩, ⟨rfl, cF h rfl rfl⟩, trivial⟩
  refine ⟨⟨by omega, by omega, by omega, by omega⟩, fun h => ⟨⟨by omega, hB.vH j, by omega, by omega, by omega⟩, by omega, j + 1, by omega, by dsimp only; omega, [(0, 0), (1, 1), (2, 2), (3, 61444)], rfl, rfl, rfl,
   bG rfl rfl rfl (fun i hi => Oy (y := fun i => p6 n (fun i => .int .i64 (z i)) (j3 n (fun i => .int .i64 (z i)) B i) b) (fun _ _ => rfl) (.refl _) rfl (Nat.le_refl _) (Nat.le_refl _) hi) (aR rfl rfl (hv rfl) (aR rfl rfl (aM rfl rfl) (aR rfl rfl (aM rfl rfl) trivial)))⟩,
   fun h => ⟨rfl, j, by omega, [(0, 0), (1, 1), (2, 2), (3, 3)], rfl, rfl, rfl, bG rfl rfl rfl (fun _ _ => aM rfl rfl) (aR rfl rfl (hv rfl) (aR rfl rfl (aM rfl rfl) (aR rfl rfl (aM rfl rfl) trivial)))⟩⟩
 ·subst hj
  refine aq.nq (aB.HN hT Jg hm 60 YD (by kernel_rfl) ?_)
  simp only [aa.all, ay]
  exact ⟨by omega, by omega, .refl _, _, rfl, rfl, kr rfl rfl⟩
theorem abn : ∀ K args pre r, fD CU K args pre = some r → aA P sw K args pre r := by
 refine nF fun {k n z a l v b q o} K hg ho hd hq => ?_
 unfold CU at hg
 split at hg
 ·rename_i d m b
  simp only [Option.some.injEq, Prod.mk.injEq] at hg
  obtain ⟨rfl, rfl, rfl⟩ := hg
  obtain ⟨h1, h2, h3, h4⟩ := hq
  have h4 : m < 900 := h4
  have := Tx (k := k) (m := m.toNat) (b := b) ho hd h1 h2 (by omega) K
  rw [Int.toNat_of_nonneg h3] at this
  exact this
 ·simp at hg
theorem T6 {n m : Nat} {f : Nat → AV} {a d : Int} {b : Bool} (h : ct n f a) (hd : 1 ≤ d) : Kn (fY n f a d m b).n (fY n f a d m b).p.toNat (fY n f a d m b).k ∧ 1 ≤ (fY n f a d m b).p ∧ (fY n f a d m b).p ≤ d ∧ ((fY n f a d m b).m : Int) = ((fY n f a d m b).n : Int) - (fY n f a d m b).p - 1 ∧
  (fY n f a d m b).m ≤ (fY n f a d m b).p.toNat + 1 + m ∧ ∀ i, 1 ≤ ((fY n f a d m b).f i).d ∧ ((fY n f a d m b).f i).d ≤ 3 := by
 have a1 := hU (n := n) (f := f) (a := a) (m := d) (by omega)
 have a2 := iA (n := n) (f := f) (a := a) (m := d) (by omega)
 have hJ := F6 (n := n) (f := f) (a := bh n a) (m := m)
 unfold fY
 obtain ⟨p, hp⟩ : ∃ p, p = kZ n f a d := ⟨_, rfl⟩
 have hp2 : 1 + b7 n f a d = (p : Int) := by rw [hp]; unfold kZ; omega
 rw [← hp]
 dsimp only
 refine ⟨?_, by omega, by omega, ?_, by omega, fun i => ?_⟩
 ·rw [Int.toNat_natCast]
  exact (xY h.next (by omega) _).1.done
 ·have : nM n f (bh n a) p m = 2 * p + 2 + ja n f (bh n a) m := rfl
  omega
 ·have c1 := hU (n := n) (f := f) (a := gJ n f (j3 n f (pZ n f a d m) i)) (m := 3) (by omega)
  have c2 := iA (n := n) (f := f) (a := gJ n f (j3 n f (pZ n f a d m) i)) (m := 3) (by omega)
  unfold p6
  dsimp only
  generalize b7 n f (gJ n f (j3 n f (pZ n f a d m) i)) 3 = x at *
  exact ⟨by exact_mod_cast (show 1 ≤ 1 + x by omega), by exact_mod_cast (show 1 + x ≤ 3 by omega)⟩
end Go.Am.B
