/- ref22: alike, spans, Touch, check, hulls; ref03: Meet, Hull, Same, SameList; lists of integers compared. -/
import Derived.Test.YtjhhblmbiaghfaaGreatY48
set_option linter.unusedVariables false
namespace Go.Am.B
open Go Go.Am.N AV af ak IntKind
theorem Zx : aO P qg td (ax td) := aP TA (by kernel_rfl) (by kernel_rfl) (by kernel_rfl)
theorem Z3 : aO P tA vJ (ax vJ) := aP Tm (by kernel_rfl) (by kernel_rfl) (by kernel_rfl)
theorem Sn : aO P qD uX (ax uX) := aP Yi (by kernel_rfl) (by kernel_rfl) (by kernel_rfl)
theorem C5 : aO P pq l6 (ax l6) := aP Zv (by kernel_rfl) (by kernel_rfl) (by kernel_rfl)
theorem Kb : aO P xy uV (ax uV) := aP Ky (by kernel_rfl) (by kernel_rfl) (by kernel_rfl)
theorem SE : aO P Aw zI (ax zI) := aP UL (by kernel_rfl) (by kernel_rfl) (by kernel_rfl)
theorem WE : aO P Ca xY (ax xY) := aP KC (by kernel_rfl) (by kernel_rfl) (by kernel_rfl)
theorem PJ : aO P yt u9 (ax u9) := aP Z4 (by kernel_rfl) (by kernel_rfl) (by kernel_rfl)
theorem Uu : aO P yR uB (ax uB) := aP X1 (by kernel_rfl) (by kernel_rfl) (by kernel_rfl)
theorem JI : aO P wo wD (ax wD) := aP Qc (by kernel_rfl) (by kernel_rfl) (by kernel_rfl)
theorem MS : aO P x5 qR (ax qR) := aP Qd (by kernel_rfl) (by kernel_rfl) (by kernel_rfl)
def IY : aW := yV ++ pX
noncomputable def ye : aW := nG :: (qg, lf 64) :: (tA, oC 64) :: (Aw, mm T IY [23] 60 zI) :: []
noncomputable abbrev uO : Code := ax uX
abbrev tU : List Nat := [4, 5, 6, 7]
abbrev Ci (f g : Nat → Sp) (n i : Nat) : List AV := [.bool false, de f n 64, de g n 64, .int .i64 i]
noncomputable def oW : aW := nG :: (qg, lf 64) :: []
noncomputable abbrev wR : Code := ax l6
noncomputable abbrev nX : Code := part wR [1,1,1]
abbrev nY : List Nat := [4, 0, 1, 5]
abbrev qJ : List Nat := [4, 0, 1, 6]
abbrev lJ (x : Nat → Ce) (n : Nat) (w : Nat → Int) (m i : Nat) : List AV := [.int .i64 0, cq x n 64, cA w m, .int .i64 i]
noncomputable def xH : aW := nG :: (Ca, mm T yV [] 60 xY) :: []
noncomputable abbrev uf : Code := ax uV
abbrev q6 : List Nat := [0, 1, 5, 6]
abbrev BJ (f g : Nat → Sp) (n m i : Nat) : List AV := [de f n 64, de g m 64, .own 0 6 0 i, .int .i64 i]
abbrev zY (h : Nat → Sp) (i : Nat) : aB := [(0, ⟨true, true, 6, i, fun j => sA (h j) 64⟩)]
def DA : Spec := fh (kC (lg 64) (kC (lg 64) kN)) (fun a => de (fun i => fN (a.1.2 i) (a.2.1.2 i)) a.1.1 64) fun a => [a.1.1 < 2 ^ 30, a.1.1 ≤ a.2.1.1]
def og (s t : Sp) : Bool := decide (s.lo = t.lo ∧ s.hi = t.hi)
def HF : Spec := fh (kC (El 64) (kC (El 64) kN)) (fun a => .bool (og a.1 a.2.1)) fun _ => []
def nH (n : Nat) (f : Nat → Sp) (m : Nat) (g : Nat → Sp) : Bool := decide (n = m ∧ ∀ i, i < n → og (f i) (g i) = true)
noncomputable def xM : aW := nG :: (yt, HF) :: []
noncomputable abbrev qX : Code := ax uB
abbrev gH : List Nat := [4, 0, 1, 5]
abbrev CE (f g : Nat → Sp) (n m i : Nat) : List AV := [.bool false, de f n 64, de g m 64, .int .i64 i]
def EM : Spec := fh (kC (lg 64) (kC (lg 64) kN)) (fun a => .bool (nH a.1.1 a.1.2 a.2.1.1 a.2.1.2)) fun a => [a.1.1 < 2 ^ 40, a.2.1.1 < 2 ^ 40]
def mH (n : Nat) (f : Nat → Int) (m : Nat) (g : Nat → Int) : Bool := decide (n = m ∧ ∀ i, i < n → f i = g i)
noncomputable abbrev uT : Code := ax wD
abbrev A0 (f g : Nat → Int) (n m i : Nat) : List AV := [.bool false, cA f n, cA g m, .int .i64 i]
def B9 : Spec := fh (kC iT (kC iT kN)) (fun a => .bool (mH a.1.1 a.1.2 a.2.1.1 a.2.1.2)) fun a => [a.1.1 < 2 ^ 40, a.2.1.1 < 2 ^ 40]
def ov (v : AV) : Nat × (Nat → Int) := match Ak v with
 | some (n, f) => (n, fun i => cu (f i))
 | none => (0, fun _ => 0)
abbrev uH (f : Nat → Nat × (Nat → Int)) (n : Nat) : AV := .ah 1 n fun i => cA (f i).2 (f i).1
def AY (f : Nat → AV) (n : Nat) : Prop := ∀ i, i < n → bq (f i) (cA (ov (f i)).2 (ov (f i)).1)
def HP : Kind (Nat × (Nat → Nat × (Nat → Int))) := ⟨fun v => match v with
 | .ah 1 n f => some ((n, fun i => ov (f i)), [AY f n])
 | _ => none, fun a => uH a.2 a.1, fun {v a q} h hq => by
  split at h
  ·simp only [Option.some.injEq, Prod.mk.injEq] at h
   obtain ⟨rfl, rfl⟩ := h
   exact gj hq
  ·simp at h⟩
def wZ (n : Nat) (f : Nat → Nat × (Nat → Int)) (m : Nat) (g : Nat → Nat × (Nat → Int)) : Bool := decide (n = m ∧ ∀ i, i < n → mH (f i).1 (f i).2 (g i).1 (g i).2 = true)
noncomputable def yp : aW := nG :: (wo, B9) :: []
noncomputable abbrev sG : Code := ax qR
abbrev Ad (f g : Nat → Nat × (Nat → Int)) (n m i : Nat) : List AV := [.bool false, uH f n, uH g m, .int .i64 i]
def pE (f : Nat → Nat × (Nat → Int)) (n : Nat) : Prop := ∀ i, i < n → (f i).1 < 2 ^ 40
def Fw : Spec := fh (kC HP (kC HP kN)) (fun a => .bool (wZ a.1.1 a.1.2 a.2.1.1 a.2.1.2)) fun a => [a.1.1 < 2 ^ 40, a.2.1.1 < 2 ^ 40, pE a.1.2 a.1.1, pE a.2.1.2 a.2.1.1]
theorem RY {c : Ce} {s : Nat} : bF T [] [] 60 vJ (ax vJ) ⟨aN 0 [bk c s], [], 0⟩ =
  let c2 : AV := rat 0 1; let c1 : Nat := 0 + c.na; some (ag [(0 : Nat) * 6 ≤ 2 ^ 24, (0 : Nat) < 1, c1 * ((112 : Nat) + 1) * 2 ≤ 2 ^ 47, (0 : Nat) < 1, (c1 + c.nb) * ((112 : Nat) + 1) * 2 ≤ 2 ^ 47] (leaf ret [ah 6 (c1 + c.nb) fun i ↦ if i + 0 < c1 then if i + 0 < 0 then nth [] (agg [c2, c2]) (i + 0) else sA (c.a (i + 0 - 0)) s else sA (c.b (i + 0 - c1)) s])) := by kernel_rfl
theorem Tl {c d : Ce} {s : Nat} : bF T [] [12] 60 td (ax td) ⟨aN 0 [bk c s, bk d s], [], 0⟩ =
  let c2 : Bool := (↑c.na : Int) == (↑d.na : Int); let c1 : Prop := 0 < 1; some (fork c2 (ag [c1, c1, c2 = true, c1, c1] (leaf ret [AV.bool (bif true then (↑c.nb : Int) == (↑d.nb : Int) else false)])) (ag [c1, c1, c2 = false] (leaf ret [AV.bool false]))) := by kernel_rfl
theorem Sv {c d : Ce} : aF T ye [13] 60 tU (before uO [1,1,1,0,1]) ⟨aN 0 [bk c 64, bk d 64], [], 0⟩ =
  let c8 : Prop := bK (fun i ↦ sA (c.a i) 64) c.na 64; let c7 : Prop := bK (fun i ↦ sA (d.a i) 64) d.na 64; let c6 : Prop := bK (fun i ↦ sA (d.b i) 64) d.nb 64; let c5 : Prop := bK (fun i ↦ sA (c.b i) 64) c.nb 64; let c4 : Prop := 0 < 1; let c3 : Nat := 2 ^ 30; let c2 : Ce := Ce.mk d.na (fun i ↦ bR (sA (d.a i) 64)) d.nb (fun i ↦ bR (sA (d.b i) 64)) d.k d.j; let c1 : Ce := Ce.mk c.na (fun i ↦ bR (sA (c.a i) 64)) c.nb (fun i ↦ bR (sA (c.b i) 64)) c.k c.j; some (ag [c4, c4, c8, c5, c7, c6, c.na < c3, c.nb < c3, d.na < c3, d.nb < c3] (fork (!decide (c.na = d.na ∧ c.nb = d.nb)) (leaf ret ([AV.bool false, tuple [], tuple [], tuple []], [])) (ag [c4, c8, c5, c.na + c.nb < c3, c4, c7, c6, d.na + d.nb < c3] (leaf normal ([AV.bool false, ah 6 (c.na + c.nb) fun i ↦ agg [rat (c1.sp i).lo 64, rat (c1.sp i).hi 64], ah 6 (d.na + d.nb) fun i ↦ agg [rat (c2.sp i).lo 64, rat (c2.sp i).hi 64], int i64 (0 : Int)], []))))) := by kernel_rfl
theorem N7 {f g : Nat → Sp} {n i : Nat} : aF T ye [21, 37] 60 tU [part uO [1,1,1,0,1,0,0]] ⟨az tU (Ci f g n i), [], 0⟩ =
  let c7 : Prop := Max.max 64 64 < 2 ^ 41; let c6 : AV := ah 6 n fun i ↦ agg [rat (g i).lo 64, rat (g i).hi 64]; let c5 : AV := ah 6 n fun i ↦ agg [rat (f i).lo 64, rat (f i).hi 64]; let c3 : Int := (↑i : Int); let c2 : Prop := 0 < 1; let c9 : Int := c3 + (1 : Int); let c8 : Prop := (0 : Int) ≤ c3 ∧ c3.toNat < n; let c4 : Int := cB (cW (f c3.toNat).lo (g c3.toNat).lo) (cR (f c3.toNat).hi (g c3.toNat).hi); let c1 : List AV × aB := ([AV.bool false, c5, c6, int i64 c3], []); some (fork (decide (c3 < (↑n : Int))) (ag [c8, c8, c2, c2, c2, c2, c2, c2, c2, c7, c7, decide (c4 > (0 : Int)) = true → ay ([] ++ ([c2] ++ ([] ++ [])) ++ ([c2] ++ ([] ++ []) ++ [])), decide (c4 > (0 : Int)) = false → ay ([c2] ++ ([c2] ++ ([] ++ [])) ++ ([c2] ++ ([] ++ []) ++ [])), c2] (fork (!bif decide (c4 > (0 : Int)) then false else true) (leaf ret c1) (ag [-(2 : Int) ^ 63 ≤ c9 ∧ c9 < (2 : Int) ^ 63] (leaf normal ([AV.bool false, c5, c6, int i64 c9], []))))) (leaf (exit 0) c1)) := by kernel_rfl
theorem Ks {f g : Nat → Sp} {n i : Nat} : b9 T ye [] 60 uX [part uO [1,1,1,1]] ⟨az tU (Ci f g n i), [], 0⟩ =
  some (leaf ret [AV.bool true]) := by kernel_rfl
theorem X3 {x : Nat → Ce} {w : Nat → Int} {n m : Nat} : aF T oW [9] 60 nY (before wR [1,1,0,1]) ⟨aN 0 [cq x n 64, cA w m], [], 0⟩ =
  let c2 : AV := ah 1 m fun i ↦ int i64 (w i); let c1 : AV := ah 4 n fun i ↦ agg [ah 6 (x i).na fun i_1 ↦ agg [rat ((x i).a i_1).lo 64, rat ((x i).a i_1).hi 64], ah 6 (x i).nb fun i_1 ↦ agg [rat ((x i).b i_1).lo 64, rat ((x i).b i_1).hi 64], int i64 (x i).k, int i64 (x i).j]; some (fork ((↑m : Int) == (0 : Int)) (leaf ret ([int i64 (7 : Int), c1, c2, tuple []], [])) (leaf normal ([int i64 (0 : Int), c1, c2, int i64 (0 : Int)], []))) := by kernel_rfl
theorem V9 {x : Nat → Ce} {w : Nat → Int} {n m i : Nat} : aF T oW [13, 21, 29] 60 nY [part wR [1,1,0,1,0,0]] ⟨az nY (lJ x n w m i), [], 0⟩ =
  let c4 : AV := ah 1 m fun i ↦ int i64 (w i); let c3 : Int := (↑i : Int); let c1 : AV := ah 4 n fun i ↦ agg [ah 6 (x i).na fun i_1 ↦ agg [rat ((x i).a i_1).lo 64, rat ((x i).a i_1).hi 64], ah 6 (x i).nb fun i_1 ↦ agg [rat ((x i).b i_1).lo 64, rat ((x i).b i_1).hi 64], int i64 (x i).k, int i64 (x i).j]; let c9 : Int := w c3.toNat; let c8 : Int := c3 + (1 : Int); let c7 : List AV := [int i64 (7 : Int), c1, c4, int i64 c3]; let c6 : Prop := (0 : Int) ≤ c3 ∧ c3.toNat < m; let c5 : Bool := decide (c9 < (0 : Int)); let c2 : af (List AV × aB) := ag [-(2 : Int) ^ 63 ≤ c8 ∧ c8 < (2 : Int) ^ 63] (leaf normal ([int i64 (0 : Int), c1, c4, int i64 c8], [])); some (fork (decide (c3 < (↑m : Int))) (fork c5 (ag [c6, c5 = true] (fork true (leaf ret (c7, [])) c2)) (ag [c6, c5 = false, c6] (fork (bif false then true else decide (c9 ≥ (↑n : Int))) (leaf ret (c7, [])) c2))) (leaf (exit 0) ([int i64 (0 : Int), c1, c4, int i64 c3], []))) := by kernel_rfl
theorem NO {x : Nat → Ce} {w : Nat → Int} {n m i : Nat} : aF T oW [] 60 qJ (before nX [0,1]) ⟨az nY (lJ x n w m i), [], 0⟩ =
  some (leaf normal ([int i64 (0 : Int), ah 4 n fun i ↦ agg [ah 6 (x i).na fun i_1 ↦ agg [rat ((x i).a i_1).lo 64, rat ((x i).a i_1).hi 64], ah 6 (x i).nb fun i_1 ↦ agg [rat ((x i).b i_1).lo 64, rat ((x i).b i_1).hi 64], int i64 (x i).k, int i64 (x i).j], ah 1 m fun i ↦ int i64 (w i), int i64 (1 : Int)], [])) := by kernel_rfl
theorem Tp {x : Nat → Ce} {w : Nat → Int} {n m i : Nat} : aF T oW [33, 50] 60 qJ [part nX [0,1,0,0]] ⟨az qJ (lJ x n w m i), [], 0⟩ =
  let c7 : Nat := Int.toNat (0 : Int); let c6 : Nat := 2 ^ 30; let c5 : AV := ah 1 m fun i ↦ int i64 (w i); let c4 : Int := (↑i : Int); let c1 : AV := ah 4 n fun i ↦ agg [ah 6 (x i).na fun i_1 ↦ agg [rat ((x i).a i_1).lo 64, rat ((x i).a i_1).hi 64], ah 6 (x i).nb fun i_1 ↦ agg [rat ((x i).b i_1).lo 64, rat ((x i).b i_1).hi 64], int i64 (x i).k, int i64 (x i).j]; let c10 : Int := c4 + (1 : Int); let c3 : Ce := x (w c4.toNat).toNat; let c2 : Nat := (w c7).toNat; let c9 : Nat := (x c2).nb; let c8 : Nat := (x c2).na; some (fork (decide (c4 < (↑m : Int))) (ag [(0 : Int) ≤ (0 : Int) ∧ c7 < m, (0 : Int) ≤ w c7 ∧ c2 < n, (0 : Int) ≤ c4 ∧ c4.toNat < m, (0 : Int) ≤ w c4.toNat ∧ (w c4.toNat).toNat < n, bK (fun i ↦ sA ((x c2).a i) 64) c8 64, bK (fun i ↦ sA ((x c2).b i) 64) c9 64, bK (fun i ↦ sA (c3.a i) 64) c3.na 64, bK (fun i ↦ sA (c3.b i) 64) c3.nb 64, c8 < c6, c9 < c6, c3.na < c6, c3.nb < c6] (fork (!decide (c8 = c3.na ∧ c9 = c3.nb)) (leaf ret ([int i64 (1 : Int), c1, c5, int i64 c4], [])) (ag [-(2 : Int) ^ 63 ≤ c10 ∧ c10 < (2 : Int) ^ 63] (leaf normal ([int i64 (0 : Int), c1, c5, int i64 c10], []))))) (leaf (exit 2) ([int i64 (0 : Int), c1, c5, int i64 c4], []))) := by kernel_rfl
theorem ZE {x : Nat → Ce} {w : Nat → Int} {n m i : Nat} : b9 T oW [] 60 l6 [part nX [1]] ⟨az qJ (lJ x n w m i), [], 0⟩ =
  some (leaf ret [int i64 (0 : Int)]) := by kernel_rfl
theorem R8 {f g : Nat → Sp} {n m : Nat} : aF T xH [] 60 q6 (before uf [1,1,0,1]) ⟨aN 0 [de f n 64, de g m 64], [], 0⟩ =
  some (leaf normal ([ah 6 n fun i ↦ agg [rat (f i).lo 64, rat (f i).hi 64], ah 6 m fun i ↦ agg [rat (g i).lo 64, rat (g i).hi 64], nil, int i64 (0 : Int)], [])) := by kernel_rfl
theorem XA {f g h : Nat → Sp} {n m i : Nat} : aF T xH [10] 60 q6 [part uf [1,1,0,1,0,0]] ⟨az q6 (BJ f g n m i), zY h i, 1⟩ =
  let c7 : AV := rat 0 1; let c5 : Nat := Max.max 64 64; let c4 : AV := ah 6 n fun i ↦ agg [rat (f i).lo 64, rat (f i).hi 64]; let c3 : AV := ah 6 m fun i ↦ agg [rat (g i).lo 64, rat (g i).hi 64]; let c2 : Prop := 0 < 1; let c1 : Int := (↑i : Int); let c6 : Int := c1 + (1 : Int); some (fork (decide (c1 < (↑n : Int))) (ag [(0 : Int) ≤ c1 ∧ c1.toNat < n, (0 : Int) ≤ c1 ∧ c1.toNat < m, c2, c2, c2, c2, c2, c2, (1 : Nat) * 6 ≤ 2 ^ 24, (i + 1) * ((112 : Nat) + 1) * 2 ≤ 2 ^ 47] (ag [-(2 : Int) ^ 63 ≤ c6 ∧ c6 < (2 : Int) ^ 63] (leaf normal ([c4, c3, own 61441 6 0 (i + 1), int i64 c6], [((61441 : Nat), aD.mk true true 6 (i + 1) fun i_1 ↦ if i_1 < i then sA (h i_1) 64 else nth [agg [rat (cR (f c1.toNat).lo (g c1.toNat).lo) c5, rat (cW (f c1.toNat).hi (g c1.toNat).hi) c5]] (agg [c7, c7]) (i_1 - i + 0))])))) (leaf (exit 0) ([c4, c3, own 0 6 0 i, int i64 c1], [((0 : Nat), aD.mk true true 6 i fun j ↦ agg [rat (h j).lo 64, rat (h j).hi 64])]))) := by kernel_rfl
theorem Pm {f g h : Nat → Sp} {n m i : Nat} : b9 T xH [] 60 uV [part uf [1,1,1]] ⟨az q6 (BJ f g n m i), zY h i, 1⟩ =
  some (leaf ret [ah 6 i fun i ↦ agg [rat (h (i + 0)).lo 64, rat (h (i + 0)).hi 64]]) := by kernel_rfl
theorem T7 {a b : Sp} : bF T pX [10] 60 u9 (ax u9) ⟨aN 0 [sA a 64, sA b 64], [], 0⟩ =
  let c3 : Bool := decide (a.lo = b.lo); let c2 : Prop := 0 < 1; let c1 : Prop := 64 < 2 ^ 41; some (fork c3 (ag [c2, c2, c1, c1, c3 = true, c2, c2, c1, c1] (leaf ret [AV.bool (bif true then decide (a.hi = b.hi) else false)])) (ag [c2, c2, c1, c1, c3 = false] (leaf ret [AV.bool false]))) := by kernel_rfl
theorem Qo {f g : Nat → Sp} {n m : Nat} : aF T xM [10] 60 gH (before qX [1,1,0,1]) ⟨aN 0 [de f n 64, de g m 64], [], 0⟩ =
  let c2 : AV := ah 6 m fun i ↦ agg [rat (g i).lo 64, rat (g i).hi 64]; let c1 : AV := ah 6 n fun i ↦ agg [rat (f i).lo 64, rat (f i).hi 64]; some (fork ((↑n : Int) != (↑m : Int)) (leaf ret ([AV.bool false, c1, c2, tuple []], [])) (leaf normal ([AV.bool false, c1, c2, int i64 (0 : Int)], []))) := by kernel_rfl
theorem KN {f g : Nat → Sp} {n m i : Nat} : aF T xM [14, 26] 60 gH [part qX [1,1,0,1,0,0]] ⟨az gH (CE f g n m i), [], 0⟩ =
  let c5 : Prop := 64 ≤ 64; let c4 : AV := ah 6 n fun i ↦ agg [rat (f i).lo 64, rat (f i).hi 64]; let c3 : AV := ah 6 m fun i ↦ agg [rat (g i).lo 64, rat (g i).hi 64]; let c2 : Int := (↑i : Int); let c6 : Int := c2 + (1 : Int); let c1 : List AV × aB := ([AV.bool false, c4, c3, int i64 c2], []); some (fork (decide (c2 < (↑n : Int))) (ag [(0 : Int) ≤ c2 ∧ c2.toNat < n, (0 : Int) ≤ c2 ∧ c2.toNat < m, c5, c5, c5, c5] (fork (!og (Sp.mk (f c2.toNat).lo (f c2.toNat).hi) (Sp.mk (g c2.toNat).lo (g c2.toNat).hi)) (leaf ret c1) (ag [-(2 : Int) ^ 63 ≤ c6 ∧ c6 < (2 : Int) ^ 63] (leaf normal ([AV.bool false, c4, c3, int i64 c6], []))))) (leaf (exit 0) c1)) := by kernel_rfl
theorem TY {f g : Nat → Sp} {n m i : Nat} : b9 T xM [] 60 uB [part qX [1,1,1]] ⟨az gH (CE f g n m i), [], 0⟩ =
  some (leaf ret [AV.bool true]) := by kernel_rfl
theorem Pf {f g : Nat → Int} {n m : Nat} : aF T [nG] [10] 60 gH (before uT [1,1,0,1]) ⟨aN 0 [cA f n, cA g m], [], 0⟩ =
  let c2 : AV := ah 1 n fun i ↦ int i64 (f i); let c1 : AV := ah 1 m fun i ↦ int i64 (g i); some (fork ((↑n : Int) != (↑m : Int)) (leaf ret ([AV.bool false, c2, c1, tuple []], [])) (leaf normal ([AV.bool false, c2, c1, int i64 (0 : Int)], []))) := by kernel_rfl
theorem Ki {f g : Nat → Int} {n m i : Nat} : aF T [nG] [14, 25] 60 gH [part uT [1,1,0,1,0,0]] ⟨az gH (A0 f g n m i), [], 0⟩ =
  let c4 : AV := ah 1 n fun i ↦ int i64 (f i); let c3 : AV := ah 1 m fun i ↦ int i64 (g i); let c2 : Int := (↑i : Int); let c5 : Int := c2 + (1 : Int); let c1 : List AV := [AV.bool false, c4, c3, int i64 c2]; some (fork (decide (c2 < (↑n : Int))) (ag [(0 : Int) ≤ c2 ∧ c2.toNat < n, (0 : Int) ≤ c2 ∧ c2.toNat < m] (fork (f c2.toNat != g c2.toNat) (leaf ret (c1, [])) (ag [-(2 : Int) ^ 63 ≤ c5 ∧ c5 < (2 : Int) ^ 63] (leaf normal ([AV.bool false, c4, c3, int i64 c5], []))))) (leaf (exit 0) (c1, []))) := by kernel_rfl
theorem WK {f g : Nat → Int} {n m i : Nat} : b9 T [nG] [] 60 wD [part uT [1,1,1]] ⟨az gH (A0 f g n m i), [], 0⟩ =
  some (leaf ret [AV.bool true]) := by kernel_rfl
theorem Qs {f g : Nat → Nat × (Nat → Int)} {n m : Nat} : aF T yp [10] 60 gH (before sG [1,1,0,1]) ⟨aN 0 [uH f n, uH g m], [], 0⟩ =
  let c2 : AV := ah 1 n fun i ↦ ah 1 (f i).fst fun i_1 ↦ int i64 ((f i).snd i_1); let c1 : AV := ah 1 m fun i ↦ ah 1 (g i).fst fun i_1 ↦ int i64 ((g i).snd i_1); some (fork ((↑n : Int) != (↑m : Int)) (leaf ret ([AV.bool false, c2, c1, tuple []], [])) (leaf normal ([AV.bool false, c2, c1, int i64 (0 : Int)], []))) := by kernel_rfl
theorem Tf {f g : Nat → Nat × (Nat → Int)} {n m i : Nat} : aF T yp [14, 26] 60 gH [part sG [1,1,0,1,0,0]] ⟨az gH (Ad f g n m i), [], 0⟩ =
  let c5 : Int := (↑i : Int); let c4 : AV := ah 1 m fun i ↦ ah 1 (g i).fst fun i_1 ↦ int i64 ((g i).snd i_1); let c3 : AV := ah 1 n fun i ↦ ah 1 (f i).fst fun i_1 ↦ int i64 ((f i).snd i_1); let c6 : Int := c5 + (1 : Int); let c2 : Nat := c5.toNat; let c1 : List AV × aB := ([AV.bool false, c3, c4, int i64 c5], []); some (fork (decide (c5 < (↑n : Int))) (ag [(0 : Int) ≤ c5 ∧ c2 < n, (0 : Int) ≤ c5 ∧ c2 < m, eA (fun i ↦ int i64 ((f c2).snd i)) (f c2).fst, eA (fun i ↦ int i64 ((g c2).snd i)) (g c2).fst, (f c2).fst < 2 ^ 40, (g c2).fst < 2 ^ 40] (fork (!mH (f c2).fst (fun i ↦ cu (int i64 ((f c2).snd i))) (g c2).fst fun i ↦ cu (int i64 ((g c2).snd i))) (leaf ret c1) (ag [-(2 : Int) ^ 63 ≤ c6 ∧ c6 < (2 : Int) ^ 63] (leaf normal ([AV.bool false, c3, c4, int i64 c6], []))))) (leaf (exit 0) c1)) := by kernel_rfl
theorem Na {f g : Nat → Nat × (Nat → Int)} {n m i : Nat} : b9 T yp [] 60 qR [part sG [1,1,1]] ⟨az gH (Ad f g n m i), [], 0⟩ =
  some (leaf ret [AV.bool true]) := by kernel_rfl
theorem C4 (s : Nat) : ∀ K args pre r, oC s K args pre = some r → aC P tA K args pre r := by
 refine en fun a K hn => ?_
 obtain ⟨c, _⟩ := a
 have hn : c.na + c.nb < 2 ^ 30 := hn
 refine bH hT aY hm Z3 rfl (of_decide_eq_true (by kernel_rfl)) rfl 60 (RY (c := c) (s := s)) (fun _ => ?_) K []
 simp only [af.all, ay]
 refine ⟨⟨by omega, by omega, by omega, by omega, by omega⟩, oL (by omega) fun i _ => ?_⟩
 show bq (if i + 0 < 0 + c.na then (if i + 0 < 0 then _ else sA (c.a (i + 0 - 0)) s) else sA (c.b (i + 0 - (0 + c.na))) s) (sA (c.sp i) s)
 unfold Ce.sp
 by_cases h : i < c.na
 ·rw [if_pos (by omega), if_neg (by omega), if_pos h]; exact .refl _
 ·rw [if_neg (by omega), if_neg h, Nat.zero_add, Nat.add_zero]; exact .refl _
theorem Cx (s : Nat) : ∀ K args pre r, lf s K args pre = some r → aC P qg K args pre r := by
 refine en fun a K hn => ?_
 obtain ⟨c, d, _⟩ := a
 obtain ⟨n1, n2, n3, n4⟩ := hn
 refine bH hT aY hm Zx rfl (of_decide_eq_true (by kernel_rfl)) rfl 60 (Tl (c := c) (d := d) (s := s)) (fun _ => ?_) K []
 simp only [af.all, ay, beq_iff_eq, beq_eq_false_iff_ne, cond_true]
 refine ⟨fun h => ⟨⟨by omega, by omega, h, by omega, by omega⟩, cZ ?_⟩, fun h => ⟨⟨by omega, by omega, h⟩, cZ (decide_eq_false fun hh => h (by rw [hh.1])).symm⟩⟩
 have h : c.na = d.na := by omega
 rw [Bool.eq_iff_iff]
 simp only [beq_iff_eq, decide_eq_true_eq]
 exact ⟨fun e => ⟨h, by omega⟩, fun e => by rw [e.2]⟩
theorem WX : br P IY := Kf A3 th
theorem Ml : br P ye := eV (aJ (Cx 64) (aJ (C4 64) (aJ (mU hT WX hm SE _ _) aY)))
theorem MG {c d : Ce} (h1 : c.na + c.nb < 2 ^ 30) (h2 : d.na + d.nb < 2 ^ 30) (K : Nat) : aC P qD K [bk c 64, bk d 64] [] (aK (.bool (gM c d)) []) := by
 refine lX (r := aK (.bool (gM c d)) []) hT Ml hm Sn rfl (of_decide_eq_true (by kernel_rfl)) rfl [1,1,1,0,1] (i := 0) (y := part uO [1,1,1,0,1,0,0]) (z := part uO [1,1,1,1]) (by kernel_rfl) (by kernel_rfl) (by kernel_rfl) (f1 := [13]) (f2 := [21, 37]) (f3 := []) 60 tU 0
  (fun i : Nat => Ci c.sp d.sp (c.na + c.nb) i) (fun _ => []) (fun i => i ≤ c.na + c.nb ∧ c.na = d.na ∧ c.nb = d.nb ∧ ∀ j, j < i → iR (c.sp j) (d.sp j) = true) (fun i => i = c.na + c.nb ∧ c.na = d.na ∧ c.nb = d.nb ∧ ∀ j, j < i → iR (c.sp j) (d.sp j) = true) (fun i => c.na + c.nb - i) (fun _ => ⟨⟨_, Sv, ?_⟩, fun i ⟨g1, g2, g3, g4⟩ => ⟨_, N7, ?_⟩, fun i ⟨g1, g2, g3, g4⟩ => ⟨_, Ks, ?_⟩⟩) K []
 ·simp only [af.all, ay, Bool.not_eq_true', Bool.not_eq_false', decide_eq_true_eq, decide_eq_false_iff_not]
  refine ⟨⟨by omega, by omega, bD (Nat.le_refl _), bD (Nat.le_refl _), bD (Nat.le_refl _), bD (Nat.le_refl _), by omega, by omega, by omega, by omega⟩, fun h => ⟨[.bool false], by kernel_rfl, cZ (decide_eq_false fun hh => h ⟨hh.1, hh.2.1⟩).symm⟩, fun h => ⟨⟨by omega, bD (Nat.le_refl _), bD (Nat.le_refl _), h1, by omega, bD (Nat.le_refl _), bD (Nat.le_refl _), h2⟩, 0, ⟨by omega, h.1, h.2, fun j hj => by omega⟩, ?_⟩⟩
  have e : d.na + d.nb = c.na + c.nb := by omega
  rw [e]
  exact .vals rfl
 ·have hc : cB (cW (c.sp i).lo (d.sp i).lo) (cR (c.sp i).hi (d.sp i).hi) > 0 ↔ ¬ iR (c.sp i) (d.sp i) = true := by
   have := xj (q := cW (c.sp i).lo (d.sp i).lo) (r := cR (c.sp i).hi (d.sp i).hi)
   unfold iR
   rw [← this]
   simp
  simp only [af.all, ay, Int.toNat_natCast, decide_eq_true_eq, decide_eq_false_iff_not]
  refine ⟨fun h => ⟨⟨⟨by omega, by omega⟩, ⟨by omega, by omega⟩, by omega, by omega, by omega, by omega, by omega, by omega, by omega, by decide, by decide, fun _ => (show 0 < 1 ∧ 0 < 1 from ⟨by omega, by omega⟩), fun _ => (show 0 < 1 ∧ 0 < 1 ∧ 0 < 1 from ⟨by omega, by omega, by omega⟩), by omega⟩, fun hb => ?_, fun hb => ⟨by omega, ?_⟩⟩, fun h => ⟨rfl, i, ⟨by omega, g2, g3, g4⟩, .vals rfl⟩⟩
  ·refine ⟨[.bool false], by kernel_rfl, cZ (decide_eq_false fun hh => ?_).symm⟩
   have hb : cB (cW (c.sp i).lo (d.sp i).lo) (cR (c.sp i).hi (d.sp i).hi) > 0 := by simpa using hb
   exact hc.1 hb (hh.2.2 i (by omega))
  ·have hb : ¬ cB (cW (c.sp i).lo (d.sp i).lo) (cR (c.sp i).hi (d.sp i).hi) > 0 := by simpa using hb
   refine ⟨i + 1, ⟨by omega, g2, g3, fun j hj => ?_⟩, by dsimp only; omega, .vals rfl⟩
   by_cases hj2 : j = i
   ·subst hj2; exact Decidable.not_not.1 fun hn => hb (hc.2 hn)
   ·exact g4 j (by omega)
 ·subst g1
  simp only [af.all]
  exact cZ (decide_eq_true ⟨g2, g3, g4⟩).symm
theorem Jg : ∀ K args pre r, nT K args pre = some r → aC P qD K args pre r := en fun _ K hn => MG hn.1 hn.2 K
theorem Dp {p : Nat → Bool} {m i : Nat} (hi : i < m) (h : p i = true) : iN p m = true := by
 have := y4 (n := m) h
 exact decide_eq_true (by omega)
theorem Dq {p : Nat → Bool} {m : Nat} (h : ∀ j, j < m → p j = false) : iN p m = false := by
 unfold iN
 rw [Gh h]
 exact decide_eq_false (Nat.lt_irrefl _)
theorem Ch : br P oW := eV (aJ (Cx 64) aY)
theorem Yg {x : Nat → Ce} {n m : Nat} {w : Nat → Int} (n1 : m < 2 ^ 40) (n3 : ek x n) (K : Nat) : aC P pq K [cq x n 64, cA w m] [] (aK (.int .i64 (b6 x n w m)) []) := by
 refine eW (r := aK (.int .i64 (b6 x n w m)) []) hT C5 rfl (of_decide_eq_true (by kernel_rfl)) rfl (fun _ cx h0 => ?_) K []
 have hk := kF h0
 refine aq.nR hT Ch hm [1,1,0,1] (i := 0) (y := part wR [1,1,0,1,0,0]) (z := nX) (by kernel_rfl) (by kernel_rfl) (by kernel_rfl) C5.dst hk (f1 := [9]) (f2 := [13, 21, 29]) 60 nY 0 (fun i : Nat => lJ x n w m i) (fun _ => []) (fun i => i ≤ m ∧ 0 < m ∧ ∀ j, j < i → iL n w j = false) (fun i => i = m ∧ 0 < m ∧ ∀ j, j < i → iL n w j = false) (fun i => m - i) (je l6 nY (.int .i64 (b6 x n w m)))
  ⟨_, X3, ?_⟩ (fun i ⟨h1, h2, h3⟩ => ⟨_, V9, ?_⟩) (fun i ⟨h1, h2, h3⟩ => ?_) (fun v s' hv hs' => hv.fin hs')
 ·simp only [af.all, ay, beq_iff_eq, beq_eq_false_iff_ne]
  exact ⟨fun h => ⟨[.int .i64 7], by kernel_rfl, bm (by unfold b6; rw [if_pos (by omega)])⟩, fun h => ⟨0, ⟨Nat.zero_le _, by omega, fun j hj => by omega⟩, .vals rfl⟩⟩
 ·simp only [af.all, ay, decide_eq_true_eq, decide_eq_false_iff_not, Int.toNat_natCast, cond_false]
  have bad : i < m → (w i < 0 ∨ (n : Int) ≤ w i) → b6 x n w m = 7 := fun hi hb => by
   unfold b6
   rw [if_neg (by omega), if_pos (Dp hi (decide_eq_true hb))]
  have good : i < m → ¬ (w i < 0 ∨ (n : Int) ≤ w i) → Round [] (fun i : Nat => lJ x n w m i) (fun _ => []) 0 (fun i => i ≤ m ∧ 0 < m ∧ ∀ j, j < i → iL n w j = false) (fun i => i = m ∧ 0 < m ∧ ∀ j, j < i → iL n w j = false) (fun i => m - i) 0 (je l6 nY (.int .i64 (b6 x n w m))) i .normal (lJ x n w m (i + 1), []) := fun hi hb => by
   refine ⟨i + 1, ⟨hi, h2, fun j hj => ?_⟩, by dsimp only; omega, .vals rfl⟩
   by_cases hji : j = i
   ·subst hji; exact decide_eq_false hb
   ·exact h3 j (by omega)
  refine ⟨fun hi => ⟨fun hb => ⟨⟨⟨by omega, by omega⟩, hb⟩, fun _ => ⟨[.int .i64 7], by kernel_rfl, bm (bad (by omega) (.inl hb)).symm⟩, fun h => by simp at h⟩, fun hb => ⟨⟨⟨by omega, by omega⟩, hb, by omega, by omega⟩, fun hc => ⟨[.int .i64 7], by kernel_rfl, bm (bad (by omega) (.inr hc)).symm⟩, fun hc => ⟨by omega, good (by omega) (by omega)⟩⟩⟩, fun hi => ⟨rfl, i, ⟨by omega, h2, h3⟩, .vals rfl⟩⟩
 ·subst h1
  have hrange : ∀ j, j < i → 0 ≤ w j ∧ w j < (n : Int) := fun j hj => by
   have : ¬ (w j < 0 ∨ (n : Int) ≤ w j) := of_decide_eq_false (h3 j hj)
   omega
  have hno := Dq h3
  refine aq.nR hT Ch hm (x := nX) [0,1] (i := 2) (y := part nX [0,1,0,0]) (z := part nX [1]) (by kernel_rfl) (by kernel_rfl) (by kernel_rfl) (by kernel_rfl) hk (f1 := []) (f2 := [33, 50]) 60 qJ 0 (fun j : Nat => lJ x n w i j) (fun _ => []) (fun j => 1 ≤ j ∧ j ≤ i ∧ ∀ l, l < j → gp x w (w 0) l = false) (fun j => j = i ∧ ∀ l, l < j → gp x w (w 0) l = false) (fun j => i - j) (je l6 qJ (.int .i64 (b6 x n w i)))
   ⟨_, NO, ?_⟩ (fun j ⟨g1, g2, g3⟩ => ⟨_, Tp, ?_⟩) (fun j ⟨g1, g2⟩ => ?_) (fun v s' hv hs' => hv.fin hs')
  ·refine ⟨1, ⟨Nat.le_refl _, h2, fun l hl => ?_⟩, .vals rfl⟩
   have : l = 0 := by omega
   subst this
   unfold gp ke
   rw [decide_eq_true ⟨rfl, rfl⟩]; rfl
  ·have r0 := hrange 0 h2
   have f0 := n3 (w 0).toNat (by omega)
   simp only [af.all, ay, decide_eq_true_eq, decide_eq_false_iff_not, Int.toNat_natCast, show Int.toNat 0 = 0 from rfl, Bool.not_eq_true', Bool.not_eq_false']
   refine ⟨fun hj => ?_, fun hj => ⟨rfl, j, ⟨by omega, g3⟩, .vals rfl⟩⟩
   have rj := hrange j (by omega)
   have fj := n3 (w j).toNat (by omega)
   refine ⟨⟨⟨by omega, h2⟩, by omega, ⟨by omega, by omega⟩, by omega, bD (Nat.le_refl _), bD (Nat.le_refl _), bD (Nat.le_refl _), bD (Nat.le_refl _), by omega, by omega, by omega, by omega⟩, fun hb => ?_, fun hb => ⟨by omega, j + 1, ⟨by omega, by omega, fun l hl => ?_⟩, by dsimp only; omega, .vals rfl⟩⟩
   ·refine ⟨[.int .i64 1], by kernel_rfl, bm ?_⟩
    unfold b6
    rw [if_neg (by omega), if_neg (by rw [hno]; decide), if_pos (Dp (i := j) (by omega) ?_)]
    unfold gp ke
    rw [decide_eq_false fun h => hb ⟨h.1.symm, h.2.symm⟩]; rfl
   ·by_cases hlj : l = j
    ·subst hlj
     unfold gp ke
     rw [decide_eq_true ⟨hb.1.symm, hb.2.symm⟩]; rfl
    ·exact g3 l (by omega)
  ·subst g1
   refine aq.js ((aA.fin hT Ch hm 60 ZE (by kernel_rfl) ?_).mono fun _ _ h => .inl h)
   refine bm ?_
   unfold b6
   rw [if_neg (by omega), if_neg (by rw [hno]; decide), if_neg (by rw [Dq g2]; decide)]
theorem CT : ∀ K args pre r, pT K args pre = some r → aC P pq K args pre r := en fun _ K hn => Yg hn.1 hn.2.2 K
theorem Yx : br P xH := eV (aJ (mU hT A3 hm WE _ _) aY)
theorem Xr : ∀ K args pre r, DA K args pre = some r → aC P xy K args pre r := by
 refine en fun a K hn => ?_
 obtain ⟨⟨n, f⟩, ⟨m, g⟩, _⟩ := a
 obtain ⟨n1, n2⟩ := hn
 have n1 : n < 2 ^ 30 := n1
 have n2 : n ≤ m := n2
 refine lX (r := aK (de (fun i => fN (f i) (g i)) n 64) []) hT Yx hm Kb rfl (of_decide_eq_true (by kernel_rfl)) rfl [1,1,0,1] (i := 0) (y := part uf [1,1,0,1,0,0]) (z := part uf [1,1,1]) (by kernel_rfl) (by kernel_rfl) (by kernel_rfl) (f1 := []) (f2 := [10]) (f3 := []) 60 q6 1
  (fun i : Nat => BJ f g n m i) (fun i => zY (fun i => fN (f i) (g i)) i) (fun i => i ≤ n) (fun i => i = n) (fun i => n - i) (fun _ => ⟨⟨_, R8, ?_⟩, fun i hi => ⟨_, XA, ?_⟩, fun i hi => ⟨_, Pm, ?_⟩⟩) K []
 ·exact ⟨0, Nat.zero_le _, [], rfl, rfl, rfl, jl rfl (by omega) (by omega) trivial⟩
 ·simp only [af.all, ay, decide_eq_true_eq, decide_eq_false_iff_not, Int.toNat_natCast]
  refine ⟨fun h => ⟨⟨⟨by omega, by omega⟩, ⟨by omega, by omega⟩, by omega, by omega, by omega, by omega, by omega, by omega, by omega, by omega⟩, by omega, i + 1, by omega, by dsimp only; omega, [(0, 61441)], rfl, rfl, rfl, aT rfl rfl rfl (fun b hb => ?_) trivial⟩, fun h => ⟨rfl, i, by omega, [(0, 0)], rfl, rfl, rfl, aT rfl rfl rfl (fun _ _ => aM rfl rfl) trivial⟩⟩
  by_cases hbi : b < i
  ·rw [if_pos hbi]; exact aM rfl rfl
  ·have : b = i := by omega
   subst this
   rw [if_neg hbi, Nat.sub_self]
   exact .inr ⟨rfl, eI ⟨ic rfl (by decide), ic rfl (by decide), trivial⟩⟩
 ·subst hi
  exact .refl _
theorem Qt : ∀ K args pre r, HF K args pre = some r → aC P yt K args pre r := by
 refine en fun a K _ => ?_
 obtain ⟨a, b, _⟩ := a
 refine bH hT th hm PJ rfl (of_decide_eq_true (by kernel_rfl)) rfl 60 (T7 (a := a) (b := b)) (fun _ => ?_) K []
 simp only [af.all, ay, decide_eq_true_eq, decide_eq_false_iff_not, cond_true]
 refine ⟨fun h => ⟨⟨by omega, by omega, by omega, by omega, h, by omega, by omega, by omega, by omega⟩, cZ ?_⟩, fun h => ⟨⟨by omega, by omega, by omega, by omega, h⟩, cZ (decide_eq_false fun hh => h hh.1).symm⟩⟩
 show _ = og a b
 unfold og
 rw [Bool.eq_iff_iff]
 simp only [decide_eq_true_eq]
 exact ⟨fun h' => ⟨h, h'⟩, fun h' => h'.2⟩
theorem Rr : br P xM := eV (aJ Qt aY)
theorem X0 : ∀ K args pre r, EM K args pre = some r → aC P yR K args pre r := by
 refine en fun a K hn => ?_
 obtain ⟨⟨n, f⟩, ⟨m, g⟩, _⟩ := a
 obtain ⟨n1, n2⟩ := hn
 have n1 : n < 2 ^ 40 := n1
 refine lX (r := aK (.bool (nH n f m g)) []) hT Rr hm Uu rfl (of_decide_eq_true (by kernel_rfl)) rfl [1,1,0,1] (i := 0) (y := part qX [1,1,0,1,0,0]) (z := part qX [1,1,1]) (by kernel_rfl) (by kernel_rfl) (by kernel_rfl) (f1 := [10]) (f2 := [14, 26]) (f3 := []) 60 gH 0
  (fun i : Nat => CE f g n m i) (fun _ => []) (fun i => i ≤ n ∧ n = m ∧ ∀ j, j < i → og (f j) (g j) = true) (fun i => i = n ∧ n = m ∧ ∀ j, j < i → og (f j) (g j) = true) (fun i => n - i) (fun _ => ⟨⟨_, Qo, ?_⟩, fun i ⟨h1, h2, h3⟩ => ⟨_, KN, ?_⟩, fun i ⟨h1, h2, h3⟩ => ⟨_, TY, ?_⟩⟩) K []
 ·simp only [af.all, ay, bne_iff_ne, ne_eq, bne_eq_false_iff_eq]
  exact ⟨fun h => ⟨[.bool false], by kernel_rfl, cZ (decide_eq_false fun hh => h (by rw [hh.1])).symm⟩, fun h => ⟨0, ⟨Nat.zero_le _, by omega, fun j hj => by omega⟩, .vals rfl⟩⟩
 ·have e : ∀ s : Sp, Sp.mk s.lo s.hi = s := fun _ => rfl
  simp only [af.all, ay, decide_eq_true_eq, decide_eq_false_iff_not, Int.toNat_natCast, Bool.not_eq_true', Bool.not_eq_false', e]
  refine ⟨fun h => ⟨⟨⟨by omega, by omega⟩, ⟨by omega, by omega⟩, by omega, by omega, by omega, by omega⟩, fun hb => ⟨[.bool false], by kernel_rfl, cZ (decide_eq_false fun hh => by rw [hh.2 i (by omega)] at hb; simp at hb).symm⟩, fun hb => ⟨by omega, i + 1, ⟨by omega, h2, fun j hj => ?_⟩, by dsimp only; omega, .vals rfl⟩⟩, fun h => ⟨rfl, i, ⟨by omega, h2, h3⟩, .vals rfl⟩⟩
  by_cases hji : j = i
  ·subst hji; exact hb
  ·exact h3 j (by omega)
 ·subst h1
  exact cZ (decide_eq_true ⟨h2, h3⟩).symm
theorem IC : ∀ K args pre r, B9 K args pre = some r → aC P wo K args pre r := by
 refine en fun a K hn => ?_
 obtain ⟨⟨n, f⟩, ⟨m, g⟩, _⟩ := a
 obtain ⟨n1, n2⟩ := hn
 have n1 : n < 2 ^ 40 := n1
 refine lX (r := aK (.bool (mH n f m g)) []) hT (eV aY) hm JI rfl (of_decide_eq_true (by kernel_rfl)) rfl [1,1,0,1] (i := 0) (y := part uT [1,1,0,1,0,0]) (z := part uT [1,1,1]) (by kernel_rfl) (by kernel_rfl) (by kernel_rfl) (f1 := [10]) (f2 := [14, 25]) (f3 := []) 60 gH 0
  (fun i : Nat => A0 f g n m i) (fun _ => []) (fun i => i ≤ n ∧ n = m ∧ ∀ j, j < i → f j = g j) (fun i => i = n ∧ n = m ∧ ∀ j, j < i → f j = g j) (fun i => n - i) (fun _ => ⟨⟨_, Pf, ?_⟩, fun i ⟨h1, h2, h3⟩ => ⟨_, Ki, ?_⟩, fun i ⟨h1, h2, h3⟩ => ⟨_, WK, ?_⟩⟩) K []
 ·simp only [af.all, ay, bne_iff_ne, ne_eq, bne_eq_false_iff_eq]
  exact ⟨fun h => ⟨[.bool false], by kernel_rfl, cZ (decide_eq_false fun hh => h (by rw [hh.1])).symm⟩, fun h => ⟨0, ⟨Nat.zero_le _, by omega, fun j hj => by omega⟩, .vals rfl⟩⟩
 ·simp only [af.all, ay, decide_eq_true_eq, decide_eq_false_iff_not, Int.toNat_natCast, bne_iff_ne, ne_eq, bne_eq_false_iff_eq]
  refine ⟨fun h => ⟨⟨⟨by omega, by omega⟩, by omega, by omega⟩, fun hb => ⟨[.bool false], by kernel_rfl, cZ (decide_eq_false fun hh => hb (hh.2 i (by omega))).symm⟩, fun hb => ⟨by omega, i + 1, ⟨by omega, h2, fun j hj => ?_⟩, by dsimp only; omega, .vals rfl⟩⟩, fun h => ⟨rfl, i, ⟨by omega, h2, h3⟩, .vals rfl⟩⟩
  by_cases hji : j = i
  ·subst hji; exact hb
  ·exact h3 j (by omega)
 ·subst h1
  exact cZ (decide_eq_true ⟨h2, h3⟩).symm
theorem Kv : br P yp := eV (aJ IC aY)
theorem VT : ∀ K args pre r, Fw K args pre = some r → aC P x5 K args pre r := by
 refine en fun a K hn => ?_
 obtain ⟨⟨n, f⟩, ⟨m, g⟩, _⟩ := a
 obtain ⟨n1, n2, n3, n4⟩ := hn
 have n1 : n < 2 ^ 40 := n1
 have n3 : pE f n := n3
 have n4 : pE g m := n4
 refine lX (r := aK (.bool (wZ n f m g)) []) hT Kv hm MS rfl (of_decide_eq_true (by kernel_rfl)) rfl [1,1,0,1] (i := 0) (y := part sG [1,1,0,1,0,0]) (z := part sG [1,1,1]) (by kernel_rfl) (by kernel_rfl) (by kernel_rfl) (f1 := [10]) (f2 := [14, 26]) (f3 := []) 60 gH 0
  (fun i : Nat => Ad f g n m i) (fun _ => []) (fun i => i ≤ n ∧ n = m ∧ ∀ j, j < i → mH (f j).1 (f j).2 (g j).1 (g j).2 = true) (fun i => i = n ∧ n = m ∧ ∀ j, j < i → mH (f j).1 (f j).2 (g j).1 (g j).2 = true) (fun i => n - i) (fun _ => ⟨⟨_, Qs, ?_⟩, fun i ⟨h1, h2, h3⟩ => ⟨_, Tf, ?_⟩, fun i ⟨h1, h2, h3⟩ => ⟨_, Na, ?_⟩⟩) K []
 ·simp only [af.all, ay, bne_iff_ne, ne_eq, bne_eq_false_iff_eq]
  exact ⟨fun h => ⟨[.bool false], by kernel_rfl, cZ (decide_eq_false fun hh => h (by rw [hh.1])).symm⟩, fun h => ⟨0, ⟨Nat.zero_le _, by omega, fun j hj => by omega⟩, .vals rfl⟩⟩
 ·simp only [af.all, ay, decide_eq_true_eq, decide_eq_false_iff_not, Int.toNat_natCast, Bool.not_eq_true', Bool.not_eq_false', lM]
  refine ⟨fun h => ⟨⟨⟨by omega, by omega⟩, ⟨by omega, by omega⟩, fun _ _ => rfl, fun _ _ => rfl, n3 i (by omega), n4 i (by omega)⟩, fun hb => ⟨[.bool false], by kernel_rfl, cZ (decide_eq_false fun hh => by have := hh.2 i (by omega); rw [this] at hb; simp at hb).symm⟩, fun hb => ⟨by omega, i + 1, ⟨by omega, h2, fun j hj => ?_⟩, by dsimp only; omega, .vals rfl⟩⟩, fun h => ⟨rfl, i, ⟨by omega, h2, h3⟩, .vals rfl⟩⟩
  by_cases hji : j = i
  ·subst hji; exact hb
  ·exact h3 j (by omega)
 ·subst h1
  exact cZ (decide_eq_true ⟨h2, h3⟩).symm
end Go.Am.B
