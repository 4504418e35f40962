/- brepkernellaw22.TraceApart. -/
import Derived.Test.YtjhhblmbiaghfaaY45
import Derived.Test.YtjhhblmbiaghfaaY48
import Derived.Test.YtjhhblmbiaghfaaC12
set_option linter.unusedVariables false
namespace Go.Am.B
open Go Go.Am.N AV aa aj IntKind
theorem Dm : aO P yc nv (ax nv) := aS OJ (by kernel_rfl) (by kernel_rfl) (by kernel_rfl)
abbrev bX (z : Nat → Int) : Nat → AV := fun i => .int .i64 (z i)
noncomputable def gi : bf := nG :: (wP, EU) :: (pS, Cq) :: (tZ, Cf) :: (qy, iQ zV) :: (nY, xx) :: (nA, xS) :: (l9, wq) :: (wj, CF) :: []
noncomputable abbrev xK : Code := ax nv
noncomputable abbrev mZ : Code := part xK [1,1,1,1,1,0,1,0,0]
noncomputable abbrev vJ : Code := part mZ [1,0,0]
noncomputable abbrev tB : Code := part vJ [1,1,1,0,0]
noncomputable abbrev v5 : Code := part tB [1,0,0]
noncomputable abbrev Fa : Code := part v5 [1,1,1,1,0,0]
noncomputable abbrev o8 : Code := part xK [1,1,1,1,1,1]
noncomputable abbrev pK : Code := part o8 [0,1,0,0]
noncomputable abbrev wu : Code := part pK [1,0,0]
noncomputable abbrev Bb : Code := part wu [1,0,1,0,0]
abbrev jf : List Nat := [2, 3, 4, 5, 6]
abbrev ke (x : Nat → Ce) (m i : Nat) : List AV := [.bool false, eu x m 64, mB (tT x) m, .own 0 1 0 m, .int .i64 i]
abbrev gf (m : Nat) (o : Nat → Int) : aA := [(0, eg m o)]
abbrev l7 : List Nat := [2, 3, 4, 5, 6, 7, 9]
abbrev we (x : Nat → Ce) (m i k : Nat) : List AV := [.bool false, eu x m 64, mB (tT x) m, .own 0 1 0 m, .int .i64 i, .ptr 1 0 4 0 [], .int .i64 k]
abbrev mP (m : Nat) (o : Nat → Int) (h : Ce) : aA := [(1, ⟨false, true, 4, 1, fun _ => bO h 64⟩), (0, eg m o)]
abbrev ql : List Nat := [2, 3, 4, 5, 6, 7, 9, 10, 11]
abbrev zD (x : Nat → Ce) (m i k b j : Nat) : List AV := [.bool false, eu x m 64, mB (tT x) m, .own 0 1 0 m, .int .i64 i, .ptr 1 0 4 0 [], .int .i64 k, .int .i64 b, .int .i64 j]
abbrev mV : List Nat := [2, 3, 4, 5, 12]
abbrev rO : List Nat := [2, 3, 4, 5, 12, 13, 14]
abbrev sM (x : Nat → Ce) (m i k : Nat) (b : Bool) : List AV := [.bool false, eu x m 64, mB (tT x) m, .own 0 1 0 m, .int .i64 i, .bool b, .int .i64 k]
theorem MW {n : Nat} {z : Nat → Int} : aG T gi [17] 60 jf (before xK [1,1,1,1,1,0,1]) ⟨aM 0 [.ah 1 n (bX z)], [], 0⟩ =
  let c7 : AV := int i64 (0 : Int); let c5 : Int := iq n (0 : Int); let c3 : Nat := g7 n (bX z) (0 : Int); let c2 : Nat := js n (bX z) (0 : Int); let c1 : Nat := iF n (bX z) (0 : Int); let c6 : Int := (↑c2 : Int); let c4 : List Nat := roots (tT fun i ↦ dL (bO (ia n (bX z) (0 : Int) i) 64)) c2 c2; some (fork (!decide ((↑n : Int) ≤ (500 : Int))) (leaf ret ([AV.bool true, tuple [], tuple [], tuple [], tuple []], [])) (af [cw n (bX z) (0 : Int)] (af [ir (fun i ↦ bO (ia n (bX z) (0 : Int) i) 64) c2 64, c2 ≤ 12, ∀ (i : Nat), i < c2 → (c1 + if bW n (bX z) (fH n (bX z) (dY n (bX z) c5 c1 c3 i) c1 c3) (12 : Int) = (11 : Int) then 1 else 0) + c3 < 2 ^ 30] (af [(0 : Int) ≤ c6 ∧ c6 ≤ c6 ∧ c6 ≤ (2 : Int) ^ 47 ∧ c6 * (↑(8 : Nat) : Int) ≤ (2 : Int) ^ 47] (leaf normal ([AV.bool false, ah 4 c2 fun i ↦ agg [ah 6 (c1 + if bW n (bX z) (fH n (bX z) (dY n (bX z) c5 c1 c3 i) c1 c3) (12 : Int) = (11 : Int) then 1 else 0) fun i_1 ↦ agg [rat (if i_1 < c1 then gk n (bX z) (dS n (bX z) (dY n (bX z) c5 c1 c3 i) i_1) else gk n (bX z) (br n (fH n (bX z) (dY n (bX z) c5 c1 c3 i) c1 c3))).lo 64, rat (if i_1 < c1 then gk n (bX z) (dS n (bX z) (dY n (bX z) c5 c1 c3 i) i_1) else gk n (bX z) (br n (fH n (bX z) (dY n (bX z) c5 c1 c3 i) c1 c3))).hi 64], ah 6 c3 fun i_1 ↦ agg [rat (cO (ff n (bX z) (dS n (bX z) (dS n (bX z) (dY n (bX z) c5 c1 c3 i) c1) i_1)) (ff n (bX z) (fT n (bX z) (dS n (bX z) (dS n (bX z) (dY n (bX z) c5 c1 c3 i) c1) i_1)))) 64, rat (cQ (ff n (bX z) (dS n (bX z) (dS n (bX z) (dY n (bX z) c5 c1 c3 i) c1) i_1)) (ff n (bX z) (fT n (bX z) (dS n (bX z) (dS n (bX z) (dY n (bX z) c5 c1 c3 i) c1) i_1)))) 64], c7, c7], ah 1 c4.length fun c ↦ ah 1 (bV (tT fun i ↦ dL (bO (ia n (bX z) (0 : Int) i) 64)) c2 c2 (c4.getD c 0)).length fun a ↦ int i64 (↑((bV (tT fun i ↦ dL (bO (ia n (bX z) (0 : Int) i) 64)) c2 c2 (c4.getD c 0)).getD a 0) : Int), own 53248 1 0 c6.toNat, c7], [((53248 : Nat), aH.mk true true 1 c6.toNat fun x ↦ c7)])))))) := by kernel_rfl
theorem MG {x : Nat → Ce} {m i : Nat} {o : Nat → Int} : aG T gi [30] 60 jf (before mZ [1,0]) ⟨aB jf (ke x m i), gf m o, 1⟩ =
  let c2 : List Nat := roots (tT x) m m; let c1 : List AV × aA := ([AV.bool false, ah 4 m fun i ↦ agg [ah 6 (x i).na fun i_1 ↦ agg [rat ((x i).a i_1).lo 64, rat ((x i).a i_1).hi 64], ah 6 (x i).nb fun i_1 ↦ agg [rat ((x i).b i_1).lo 64, rat ((x i).b i_1).hi 64], int i64 (x i).k, int i64 (x i).j], ah 1 c2.length fun c ↦ ah 1 (bV (tT x) m m (c2.getD c 0)).length fun a ↦ int i64 (↑((bV (tT x) m m (c2.getD c 0)).getD a 0) : Int), own 0 1 0 m, int i64 (↑i : Int)], [((0 : Nat), aH.mk true true 1 m fun i ↦ int i64 (o i))]); some (fork (decide ((↑i : Int) < (↑c2.length : Int))) (leaf normal c1) (leaf (exit 0) c1)) := by kernel_rfl
theorem TU {x : Nat → Ce} {m i : Nat} {o : Nat → Int} : aG T gi [200048, 200051] 60 l7 (before vJ [1,1,1]) ⟨aB jf (ke x m i), gf m o, 1⟩ =
  let c6 : Int := (↑i : Int); let c4 : AV := int i64 (0 : Int); let c3 : List Nat := roots (tT x) m m; let c2 : Prop := (0 : Int) ≤ c6 ∧ c6.toNat < c3.length; let c1 : List Nat := bV (tT x) m m (c3.getD c6.toNat 0); let c5 : Nat := c1.length; some (af [c2, ir (fun i ↦ bO (x i) 64) m 64, fM (iV c1) c5, c5 < 2 ^ 40, m < 2 ^ 40, fO (fun i ↦ dL (bO (x i) 64)) m, sV (fun i ↦ dL (bO (x i) 64)) m, (0 : Nat) < 1] (af [c2, ((↑c5 : Int) == (0 : Int)) = false] (af [(bif false then true else eC (fun i ↦ dL (bO (x i) 64)) m (fun i ↦ dw (iV c1 i)) c5 != (0 : Int)) = false] (leaf normal ([AV.bool false, ah 4 m fun i ↦ agg [ah 6 (x i).na fun i_1 ↦ agg [rat ((x i).a i_1).lo 64, rat ((x i).a i_1).hi 64], ah 6 (x i).nb fun i_1 ↦ agg [rat ((x i).b i_1).lo 64, rat ((x i).b i_1).hi 64], int i64 (x i).k, int i64 (x i).j], ah 1 c3.length fun c ↦ ah 1 (bV (tT x) m m (c3.getD c 0)).length fun a ↦ int i64 (↑((bV (tT x) m m (c3.getD c 0)).getD a 0) : Int), own 0 1 0 m, int i64 c6, ptr 36865 0 4 0 [], c4], [((36865 : Nat), aH.mk false true 4 1 fun j ↦ if (j == 0) = true then dg (bO (iO (fun i ↦ dL (bO (x i) 64)) m (fun i ↦ dw (iV c1 i)) c5) 64) else agg [nil, nil, c4, c4]), ((0 : Nat), aH.mk true true 1 m fun i ↦ int i64 (o i))]))))) := by kernel_rfl
theorem Rk {x : Nat → Ce} {m i k : Nat} {o : Nat → Int} {h : Ce} : aG T gi [58] 60 l7 (before tB [1,0]) ⟨aB l7 (we x m i k), mP m o h, 2⟩ =
  let c4 : Int := (↑i : Int); let c3 : List Nat := roots (tT x) m m; let c2 : Int := (↑(bV (tT x) m m (c3.getD c4.toNat 0)).length : Int); let c1 : List AV × aA := ([AV.bool false, ah 4 m fun i ↦ agg [ah 6 (x i).na fun i_1 ↦ agg [rat ((x i).a i_1).lo 64, rat ((x i).a i_1).hi 64], ah 6 (x i).nb fun i_1 ↦ agg [rat ((x i).b i_1).lo 64, rat ((x i).b i_1).hi 64], int i64 (x i).k, int i64 (x i).j], ah 1 c3.length fun c ↦ ah 1 (bV (tT x) m m (c3.getD c 0)).length fun a ↦ int i64 (↑((bV (tT x) m m (c3.getD c 0)).getD a 0) : Int), own 0 1 0 m, int i64 c4, ptr 1 0 4 0 [], int i64 (↑k : Int)], [((1 : Nat), aH.mk false true 4 1 fun x ↦ agg [ah 6 h.na fun i ↦ agg [rat (h.a i).lo 64, rat (h.a i).hi 64], ah 6 h.nb fun i ↦ agg [rat (h.b i).lo 64, rat (h.b i).hi 64], int i64 h.k, int i64 h.j]), ((0 : Nat), aH.mk true true 1 m fun i ↦ int i64 (o i))]); some (af [(0 : Int) ≤ c4 ∧ c4.toNat < c3.length] (fork (decide ((↑k : Int) < c2)) (leaf normal c1) (leaf (exit 2) c1))) := by kernel_rfl
theorem F0 {x : Nat → Ce} {m i k : Nat} {o : Nat → Int} {h : Ce} : aG T gi [200070, 200076, 200083, 200095, 200106] 60 ql (before v5 [1,1,1,1]) ⟨aB l7 (we x m i k), mP m o h, 2⟩ =
  let c8 : Int := (↑k : Int); let c6 : Int := (↑i : Int); let c5 : List Nat := roots (tT x) m m; let c7 : Int := c6 + (1 : Int); let c4 : List Nat := bV (tT x) m m (c5.getD c6.toNat 0); let c1 : Int := (↑(c4.getD c8.toNat 0) : Int); let c3 : Nat := c1.toNat + 0; let c2 : Prop := (0 : Int) ≤ c1 ∧ c1.toNat < m; some (af [(0 : Int) ≤ c6 ∧ c6.toNat < c5.length, (0 : Int) ≤ c8 ∧ c8.toNat < c4.length] (af [decide (c1 < (0 : Int)) = false, (bif false then true else decide (c1 ≥ (↑m : Int))) = false, c2, c3 < m, (bif false then true else o c3 != (0 : Int)) = false, (0 : Nat) < 1, c2, (bif false then true else (↑h.na : Int) != (↑(x c1.toNat).na : Int)) = false, (0 : Nat) < 1, c2] (af [(bif false then true else (↑h.nb : Int) != (↑(x c1.toNat).nb : Int)) = false] (af [-(2 : Int) ^ 63 ≤ c7 ∧ c7 < (2 : Int) ^ 63, c2, c3 < m] (leaf normal ([AV.bool false, ah 4 m fun i ↦ agg [ah 6 (x i).na fun i_1 ↦ agg [rat ((x i).a i_1).lo 64, rat ((x i).a i_1).hi 64], ah 6 (x i).nb fun i_1 ↦ agg [rat ((x i).b i_1).lo 64, rat ((x i).b i_1).hi 64], int i64 (x i).k, int i64 (x i).j], ah 1 c5.length fun c ↦ ah 1 (bV (tT x) m m (c5.getD c 0)).length fun a ↦ int i64 (↑((bV (tT x) m m (c5.getD c 0)).getD a 0) : Int), own 0 1 0 m, int i64 c6, ptr 1 0 4 0 [], int i64 c8, int i64 c1, int i64 (0 : Int)], [((1 : Nat), aH.mk false true 4 1 fun x ↦ agg [ah 6 h.na fun i ↦ agg [rat (h.a i).lo 64, rat (h.a i).hi 64], ah 6 h.nb fun i ↦ agg [rat (h.b i).lo 64, rat (h.b i).hi 64], int i64 h.k, int i64 h.j]), ((0 : Nat), aH.mk true true 1 m fun j ↦ if (j == c3) = true then int i64 c7 else int i64 (o j))])))))) := by kernel_rfl
theorem O7 {x : Nat → Ce} {m i k b j : Nat} {o : Nat → Int} {h : Ce} : aG T gi [116, 200133] 60 ql [Fa] ⟨aB ql (zD x m i k b j), mP m o h, 2⟩ =
  let c10 : List Nat := roots (tT x) m m; let c8 : AV := own 0 1 0 m; let c7 : Int := (↑b : Int); let c6 : AV := ptr 1 0 4 0 []; let c5 : Prop := 64 ≤ 64; let c4 : Int := (↑j : Int); let c2 : AV := ah 4 m fun i ↦ agg [ah 6 (x i).na fun i_1 ↦ agg [rat ((x i).a i_1).lo 64, rat ((x i).a i_1).hi 64], ah 6 (x i).nb fun i_1 ↦ agg [rat ((x i).b i_1).lo 64, rat ((x i).b i_1).hi 64], int i64 (x i).k, int i64 (x i).j]; let c1 : List (Nat × aH) := [((1 : Nat), aH.mk false true 4 1 fun x ↦ agg [ah 6 h.na fun i ↦ agg [rat (h.a i).lo 64, rat (h.a i).hi 64], ah 6 h.nb fun i ↦ agg [rat (h.b i).lo 64, rat (h.b i).hi 64], int i64 h.k, int i64 h.j]), ((0 : Nat), aH.mk true true 1 m fun i ↦ int i64 (o i))]; let c11 : Sp := (x c7.toNat).a c4.toNat; let c9 : Int := c4 + (1 : Int); let c3 : AV := ah 1 c10.length fun c ↦ ah 1 (bV (tT x) m m (c10.getD c 0)).length fun a ↦ int i64 (↑((bV (tT x) m m (c10.getD c 0)).getD a 0) : Int); some (af [(0 : Nat) < 1] (fork (decide (c4 < (↑h.na : Int))) (af [(0 : Int) ≤ c7 ∧ c7.toNat < m, (0 : Int) ≤ c4 ∧ c4.toNat < (x c7.toNat).na, (0 : Nat) < 1, (0 : Int) ≤ c4 ∧ c4.toNat < h.na, c5, c5, c5, c5] (af [(!lU (Sp.mk c11.lo c11.hi) (Sp.mk (h.a c4.toNat).lo (h.a c4.toNat).hi)) = false] (af [-(2 : Int) ^ 63 ≤ c9 ∧ c9 < (2 : Int) ^ 63] (leaf normal ([AV.bool false, c2, c3, c8, int i64 (↑i : Int), c6, int i64 (↑k : Int), int i64 c7, int i64 c9], c1))))) (leaf (exit 4) ([AV.bool false, c2, c3, c8, int i64 (↑i : Int), c6, int i64 (↑k : Int), int i64 c7, int i64 c4], c1)))) := by kernel_rfl
theorem La {x : Nat → Ce} {m i k b j : Nat} {o : Nat → Int} {h : Ce} : aG T gi [] 60 l7 (behind v5 [1,1,1,1] ++ [part tB [1,1]]) ⟨aB ql (zD x m i k b j), mP m o h, 2⟩ =
  let c2 : List Nat := roots (tT x) m m; let c1 : Int := (↑k : Int) + (1 : Int); some (af [-(2 : Int) ^ 63 ≤ c1 ∧ c1 < (2 : Int) ^ 63] (leaf normal ([AV.bool false, ah 4 m fun i ↦ agg [ah 6 (x i).na fun i_1 ↦ agg [rat ((x i).a i_1).lo 64, rat ((x i).a i_1).hi 64], ah 6 (x i).nb fun i_1 ↦ agg [rat ((x i).b i_1).lo 64, rat ((x i).b i_1).hi 64], int i64 (x i).k, int i64 (x i).j], ah 1 c2.length fun c ↦ ah 1 (bV (tT x) m m (c2.getD c 0)).length fun a ↦ int i64 (↑((bV (tT x) m m (c2.getD c 0)).getD a 0) : Int), own 0 1 0 m, int i64 (↑i : Int), ptr 1 0 4 0 [], int i64 c1], [((1 : Nat), aH.mk false true 4 1 fun x ↦ agg [ah 6 h.na fun i ↦ agg [rat (h.a i).lo 64, rat (h.a i).hi 64], ah 6 h.nb fun i ↦ agg [rat (h.b i).lo 64, rat (h.b i).hi 64], int i64 h.k, int i64 h.j]), ((0 : Nat), aH.mk true true 1 m fun i ↦ int i64 (o i))]))) := by kernel_rfl
theorem LR {x : Nat → Ce} {m i k : Nat} {o : Nat → Int} {h : Ce} : aG T gi [] 60 jf [part mZ [1,1]] ⟨aB l7 (we x m i k), mP m o h, 2⟩ =
  let c2 : List Nat := roots (tT x) m m; let c1 : Int := (↑i : Int) + (1 : Int); some (af [-(2 : Int) ^ 63 ≤ c1 ∧ c1 < (2 : Int) ^ 63] (leaf normal ([AV.bool false, ah 4 m fun i ↦ agg [ah 6 (x i).na fun i_1 ↦ agg [rat ((x i).a i_1).lo 64, rat ((x i).a i_1).hi 64], ah 6 (x i).nb fun i_1 ↦ agg [rat ((x i).b i_1).lo 64, rat ((x i).b i_1).hi 64], int i64 (x i).k, int i64 (x i).j], ah 1 c2.length fun c ↦ ah 1 (bV (tT x) m m (c2.getD c 0)).length fun a ↦ int i64 (↑((bV (tT x) m m (c2.getD c 0)).getD a 0) : Int), own 0 1 0 m, int i64 c1], [((0 : Nat), aH.mk true true 1 m fun i ↦ int i64 (o i))]))) := by kernel_rfl
theorem J6 {x : Nat → Ce} {m i : Nat} {o : Nat → Int} : aG T gi [] 60 mV (before o8 [0,1]) ⟨aB jf (ke x m i), gf m o, 1⟩ =
  let c1 : List Nat := roots (tT x) m m; some (leaf normal ([AV.bool false, ah 4 m fun i ↦ agg [ah 6 (x i).na fun i_1 ↦ agg [rat ((x i).a i_1).lo 64, rat ((x i).a i_1).hi 64], ah 6 (x i).nb fun i_1 ↦ agg [rat ((x i).b i_1).lo 64, rat ((x i).b i_1).hi 64], int i64 (x i).k, int i64 (x i).j], ah 1 c1.length fun c ↦ ah 1 (bV (tT x) m m (c1.getD c 0)).length fun a ↦ int i64 (↑((bV (tT x) m m (c1.getD c 0)).getD a 0) : Int), own 0 1 0 m, int i64 (0 : Int)], [((0 : Nat), aH.mk true true 1 m fun i ↦ int i64 (o i))])) := by kernel_rfl
theorem Ph {x : Nat → Ce} {m i : Nat} {o : Nat → Int} : aG T gi [137] 60 mV (before pK [1,0]) ⟨aB mV (ke x m i), gf m o, 1⟩ =
  let c2 : List Nat := roots (tT x) m m; let c1 : List AV × aA := ([AV.bool false, ah 4 m fun i ↦ agg [ah 6 (x i).na fun i_1 ↦ agg [rat ((x i).a i_1).lo 64, rat ((x i).a i_1).hi 64], ah 6 (x i).nb fun i_1 ↦ agg [rat ((x i).b i_1).lo 64, rat ((x i).b i_1).hi 64], int i64 (x i).k, int i64 (x i).j], ah 1 c2.length fun c ↦ ah 1 (bV (tT x) m m (c2.getD c 0)).length fun a ↦ int i64 (↑((bV (tT x) m m (c2.getD c 0)).getD a 0) : Int), own 0 1 0 m, int i64 (↑i : Int)], [((0 : Nat), aH.mk true true 1 m fun i ↦ int i64 (o i))]); some (fork (decide ((↑i : Int) < (↑m : Int))) (leaf normal c1) (leaf (exit 6) c1)) := by kernel_rfl
theorem QZ {x : Nat → Ce} {m i : Nat} {o : Nat → Int} : aG T gi [] 60 rO (before wu [1,0,1]) ⟨aB mV (ke x m i), gf m o, 1⟩ =
  let c1 : List Nat := roots (tT x) m m; some (leaf normal ([AV.bool false, ah 4 m fun i ↦ agg [ah 6 (x i).na fun i_1 ↦ agg [rat ((x i).a i_1).lo 64, rat ((x i).a i_1).hi 64], ah 6 (x i).nb fun i_1 ↦ agg [rat ((x i).b i_1).lo 64, rat ((x i).b i_1).hi 64], int i64 (x i).k, int i64 (x i).j], ah 1 c1.length fun c ↦ ah 1 (bV (tT x) m m (c1.getD c 0)).length fun a ↦ int i64 (↑((bV (tT x) m m (c1.getD c 0)).getD a 0) : Int), own 0 1 0 m, int i64 (↑i : Int), AV.bool false, int i64 (0 : Int)], [((0 : Nat), aH.mk true true 1 m fun i ↦ int i64 (o i))])) := by kernel_rfl
theorem Ua {x : Nat → Ce} {m i k : Nat} {b : Bool} {o : Nat → Int} : aG T gi [143, 148, 200168, 178, 200189, 191] 60 rO [Bb] ⟨aB rO (sM x m i k b), gf m o, 1⟩ =
  let c25 : Int := (↑i : Int); let c24 : List Nat := roots (tT x) m m; let c23 : Int := (↑k : Int); let c20 : AV := own 0 1 0 m; let c17 : Nat × aH := ((0 : Nat), aH.mk true true 1 m fun i ↦ int i64 (o i)); let c5 : AV := ah 4 m fun i ↦ agg [ah 6 (x i).na fun i_1 ↦ agg [rat ((x i).a i_1).lo 64, rat ((x i).a i_1).hi 64], ah 6 (x i).nb fun i_1 ↦ agg [rat ((x i).b i_1).lo 64, rat ((x i).b i_1).hi 64], int i64 (x i).k, int i64 (x i).j]; let c22 : AV := int i64 c25; let c21 : Int := c23 + (1 : Int); let c6 : AV := ah 1 c24.length fun c ↦ ah 1 (bV (tT x) m m (c24.getD c 0)).length fun a ↦ int i64 (↑((bV (tT x) m m (c24.getD c 0)).getD a 0) : Int); let c4 : Nat := c25.toNat; let c3 : Nat := c23.toNat; let c19 : Ce := Ce.mk (x c4).na (fun i ↦ dX (sA ((x c4).a i) 64)) (x c4).nb (fun i ↦ dX (sA ((x c4).b i) 64)) (x c4).k (x c4).j; let c18 : Ce := Ce.mk (x c3).na (fun i ↦ dX (sA ((x c3).a i) 64)) (x c3).nb (fun i ↦ dX (sA ((x c3).b i) 64)) (x c3).k (x c3).j; let c16 : Prop := -(2 : Int) ^ 63 ≤ c21 ∧ c21 < (2 : Int) ^ 63; let c15 : Prop := (0 : Int) ≤ c23 ∧ c3 < m; let c14 : Prop := (0 : Int) ≤ c25 ∧ c4 < m; let c13 : Prop := (x c3).na + (x c3).nb < 2 ^ 30; let c12 : Prop := (x c4).na + (x c4).nb < 2 ^ 30; let c10 : Prop := ek (fun i ↦ sA ((x c3).b i) 64) (x c3).nb 64; let c9 : Prop := ek (fun i ↦ sA ((x c4).a i) 64) (x c4).na 64; let c8 : Prop := ek (fun i ↦ sA ((x c4).b i) 64) (x c4).nb 64; let c7 : Prop := ek (fun i ↦ sA ((x c3).a i) 64) (x c3).na 64; let c2 : Bool := gY c19 c18; let c11 : Prop := (c2 != gY c18 c19) = false; let c1 : aa (List AV × aA) := fork b (af [b = true] (af [c16] (leaf normal ([AV.bool false, c5, c6, c20, c22, AV.bool true, int i64 c21], [c17])))) (af [b = false, c14, c15, c9, c8, c7, c10, c12, c13] (af [c16] (leaf normal ([AV.bool false, c5, c6, c20, c22, AV.bool (bif false then true else c2), int i64 c21], [c17])))); some (fork (decide (c23 < (↑m : Int))) (fork (c25 == c23) (af [c16] (leaf normal ([AV.bool false, c5, c6, c20, c22, AV.bool b, int i64 c21], [c17]))) (fork c2 (af [c14, c15, c9, c8, c7, c10, c12, c13, c15, c14, c7, c10, c9, c8, c13, c12, c11, c14, c15, c9, c8, c7, c10, c12, c13, c2 = true, c14, c4 + 0 < m, c15, c3 + 0 < m] (af [(bif false then true else bif true then o (c4 + 0) != o (c3 + 0) else false) = false] c1)) (af [c14, c15, c9, c8, c7, c10, c12, c13, c15, c14, c7, c10, c9, c8, c13, c12, c11, c14, c15, c9, c8, c7, c10, c12, c13, c2 = false] (af [(bif false then true else false) = false] c1)))) (leaf (exit 8) ([AV.bool false, c5, c6, c20, c22, AV.bool b, int i64 c23], [c17]))) := by kernel_rfl
theorem Ia {x : Nat → Ce} {m i k : Nat} {b : Bool} {o : Nat → Int} : aG T gi [200207, 200215, 218, 200229] 60 mV (behind wu [1,0,1] ++ [part pK [1,1]]) ⟨aB rO (sM x m i k b), gf m o, 1⟩ =
  let c8 : Int := (↑i : Int); let c5 : Int := (2 : Int) ^ 63; let c4 : List Nat := roots (tT x) m m; let c7 : Int := c8 + (1 : Int); let c3 : Prop := (0 : Int) ≤ c8 ∧ c8.toNat < m; let c2 : Nat := c8.toNat + 0; let c6 : Int := o c2 - (1 : Int); let c1 : aa (List AV × aA) := af [-c5 ≤ c7 ∧ c7 < c5] (leaf normal ([AV.bool false, ah 4 m fun i ↦ agg [ah 6 (x i).na fun i_1 ↦ agg [rat ((x i).a i_1).lo 64, rat ((x i).a i_1).hi 64], ah 6 (x i).nb fun i_1 ↦ agg [rat ((x i).b i_1).lo 64, rat ((x i).b i_1).hi 64], int i64 (x i).k, int i64 (x i).j], ah 1 c4.length fun c ↦ ah 1 (bV (tT x) m m (c4.getD c 0)).length fun a ↦ int i64 (↑((bV (tT x) m m (c4.getD c 0)).getD a 0) : Int), own 0 1 0 m, int i64 c7], [((0 : Nat), aH.mk true true 1 m fun i ↦ int i64 (o i))])); some (af [c3, c2 < m, (o c2 == (0 : Int)) = false, c3, c2 < m] (af [(bif false then true else decide (o c2 > (↑c4.length : Int))) = false] (fork (!b) (af [(!b) = true, c3, c2 < m, -c5 ≤ c6 ∧ c6 < c5, (0 : Int) ≤ c6 ∧ c6.toNat < c4.length] (af [(bif true then (↑(bV (tT x) m m (c4.getD c6.toNat 0)).length : Int) != (1 : Int) else false) = false] c1)) (af [(!b) = false] (af [false = false] c1))))) := by kernel_rfl
theorem T3 {x : Nat → Ce} {m i : Nat} {o : Nat → Int} : cJ T gi [] 60 nv [part o8 [1]] ⟨aB mV (ke x m i), gf m o, 1⟩ =
  some (leaf ret [AV.bool true]) := by kernel_rfl
theorem nD : bC P gi := iH (aK GZ (aK Sb (aK Qc (aK Ta (aK Dy (aK BV (aK y5 (aK Qx aZ))))))))
theorem QX {a b : Rat} : cO a b ≤ a ∧ cO a b ≤ b := by unfold cO; grind
theorem Qf {a b : Rat} : a ≤ cQ a b ∧ b ≤ cQ a b := by unfold cQ; grind
theorem Fz {x : Nat → Ce} {w : Nat → Int} {k j : Nat} : ∀ {n : Nat}, k ≤ n → (ga x w n j).lo ≤ ((x (w k).toNat).sp j).lo ∧ ((x (w k).toNat).sp j).hi ≤ (ga x w n j).hi
 | 0, h => by
  have : k = 0 := by omega
  subst this
  exact ⟨Rat.le_refl, Rat.le_refl⟩
 | n + 1, h => by
  have e : ga x w (n + 1) j = r8 (ga x w n j) ((x (w (n + 1)).toNat).sp j) := rfl
  rw [e]
  have a := QX (a := (ga x w n j).lo) (b := ((x (w (n + 1)).toNat).sp j).lo)
  have b := Qf (a := (ga x w n j).hi) (b := ((x (w (n + 1)).toNat).sp j).hi)
  by_cases hk : k = n + 1
  ·subst hk; exact ⟨a.2, b.2⟩
  ·have ih := Fz (x := x) (w := w) (j := j) (show k ≤ n by omega)
   exact ⟨Rat.le_trans a.1 ih.1, Rat.le_trans ih.2 b.1⟩
theorem Ax {x : Nat → Ce} {m a b : Nat} (ha : a < m) (hb : b < m) (h : bH (tT x) m a = bH (tT x) m b) : (x a).na = (x b).na ∧ (x a).nb = (x b).nb :=
 ot (T := tT x) (n := m) (E := fun c d => (x c).na = (x d).na ∧ (x c).nb = (x d).nb) (fun _ => ⟨rfl, rfl⟩) (fun _ _ _ _ p q => ⟨p.1.trans q.1, p.2.trans q.2⟩) (fun c d _ _ ht => ⟨(of_decide_eq_true ht).1, (of_decide_eq_true ht).2.1⟩) (Nat.le_refl m) ha hb ((pT x8 ha hb).2 h)
theorem CR {p : Nat → Bool} {m : Nat} (h : ∀ j, j < m → p j = false) : ¬ gT p m = true := by
 unfold gT
 rw [DY h]
 simp
theorem Ih {x : Nat → Ce} {m i : Nat} (hi : i < (roots (tT x) m m).length) : eC x m (fun b => (((bu (tT x) m i).getD b 0 : Nat) : Int)) (bu (tT x) m i).length = 0 := by
 have hp := CS hi
 have b1 : ¬ gT (jK m fun b => (((bu (tT x) m i).getD b 0 : Nat) : Int)) (bu (tT x) m i).length = true := CR fun j hj => by
  have h1 := (jk hj).1
  exact decide_eq_false (show ¬ ((((bu (tT x) m i).getD j 0 : Nat) : Int) < 0 ∨ (m : Int) ≤ (((bu (tT x) m i).getD j 0 : Nat) : Int)) by omega)
 have b2 : ¬ gT (gH x (fun b => (((bu (tT x) m i).getD b 0 : Nat) : Int)) (((bu (tT x) m i).getD 0 0 : Nat) : Int)) (bu (tT x) m i).length = true := CR fun j hj => by
  have h1 := jk hj
  have h0 := jk hp
  have := Ax (x := x) h1.1 h0.1 (h1.2.trans h0.2.symm)
  unfold gH wG
  simp only [Int.toNat_natCast]
  rw [decide_eq_true this]; rfl
 unfold eC
 rw [if_neg (by omega), if_neg b1, if_neg b2]
theorem Nw {a b : Sp} (h1 : b.lo ≤ a.lo) (h2 : a.hi ≤ b.hi) (h : a.lo ≤ a.hi) : lU a b = true := by
 unfold lU hasB
 simp only [decide_eq_true_eq]
 exact ⟨⟨h1, Rat.le_trans h h2⟩, Rat.le_trans h1 h, h2⟩
theorem Np {n : Nat} {z : Nat → Int} (K : Nat) : aC P yc K [.ah 1 n (fun i => .int .i64 (z i))] [] (aJ (.bool true) []) := by
 refine fX (r := aJ (.bool true) []) hT Dm rfl (of_decide_eq_true (by kernel_rfl)) rfl (fun _ cx h0 => ?_) K []
 have hk := vX h0
 obtain ⟨x, hx⟩ : ∃ x, x = ia n (bX z) 0 := ⟨_, rfl⟩
 obtain ⟨m, hm2⟩ : ∃ m, m = js n (bX z) 0 := ⟨_, rfl⟩
 have hm8 : m ≤ 8 := by rw [hm2]; exact Jo
 have hlen : ∀ i, (x i).na + (x i).nb ≤ 5 := fun i => by rw [hx]; exact E0
 have hokx : ∀ i, (x i).ok := fun i => by rw [hx]; exact Lk
 have hok' : sV x m := fun i _ j _ => by
  unfold Ce.sp
  split
  ·exact (hokx i).1 _
  ·exact (hokx i).2 _
 have hfew : fO x m := fun i _ => by have := hlen i; omega
 have hs := x8 (x := x)
 have hR := EE (T := tT x) (n := m) (m := m)
 refine aq.vE hT nD hm [1,1,1,1,1,0,1] (i := 0) (y := mZ) (z := o8) (by kernel_rfl) (by kernel_rfl) (by kernel_rfl) Dm.dst hk (f1 := [17]) 60 jf 1 (fun a : Nat × (Nat → Int) => ke x m a.1) (fun a => gf m a.2)
  (fun a => a.1 ≤ (roots (tT x) m m).length ∧ OI (tT x) m a.1 0 a.2) (fun a => a.1 = (roots (tT x) m m).length ∧ OI (tT x) m a.1 0 a.2) (fun a => (roots (tT x) m m).length - a.1) (oH nv jf (.bool true)) ⟨_, MW, ?_⟩ (fun ⟨i, o⟩ ⟨h1, h2⟩ => ?_) (fun ⟨i, o⟩ ⟨h1, h2⟩ => ?_) (fun _ _ h hs' => h.fin hs')
 ·simp only [aa.all, az]
  refine ⟨fun h => ⟨[.bool true], by kernel_rfl, bn.refl _⟩, fun h => ?_⟩
  have hn : n ≤ 500 := by simp only [Bool.not_eq_false', decide_eq_true_eq] at h; omega
  have hd : cw n (bX z) 0 := ⟨fun i => rfl, by omega, by omega, by omega⟩
  refine ⟨hd, ⟨jT (Nat.le_refl _), ?_, fun i _ => Nat.lt_of_le_of_lt (E0 (n := n) (f := bX z) (a := 0) (i := i)) (by decide)⟩, ?_, (0, fun _ => 0), ⟨Nat.zero_le _, OI.zero fun _ _ => rfl⟩, [(0, 53248)], rfl, ?_, rfl, ?_⟩
  ·rw [← hm2]; omega
  ·rw [← hm2]; omega
  ·rw [hx, hm2, Int.toNat_natCast]; rfl
  ·rw [← hm2, Int.toNat_natCast]
   exact bh rfl rfl rfl (fun _ _ => aP rfl rfl) trivial
 ·have h1 : i ≤ (roots (tT x) m m).length := h1
  have h2 : OI (tT x) m i 0 o := h2
  refine aq.nS hT nD hm (y := mZ) (x1 := vJ) (zb := part mZ [1,1]) [1,0] (j := 1) (by kernel_rfl) (by kernel_rfl) (by kernel_rfl) (by kernel_rfl) hk (f1 := [30]) 60 jf 1 (fun _ : Unit => ke x m i) (fun _ => gf m o) (fun _ => i < (roots (tT x) m m).length) ⟨_, MG, ?_⟩ (fun _ hlt => ?_)
  ·simp only [aa.all, az, decide_eq_true_eq, decide_eq_false_iff_not]
   exact ⟨fun h => ⟨(), by omega, [(0, 0)], rfl, rfl, rfl, bh rfl rfl rfl (fun _ _ => aP rfl rfl) trivial⟩, fun h s' hs' => ⟨rfl, (i, o), ⟨by dsimp only; omega, h2⟩, dK.le ⟨[(0, 0)], rfl, rfl, rfl, bh rfl rfl rfl (fun _ _ => aP rfl rfl) trivial⟩ hs' hk⟩⟩
  have hchk := Ih (x := x) (m := m) hlt
  have hpos := CS (T := tT x) (m := m) hlt
  have hcl := Kw (T := tT x) (m := m) (c := i)
  obtain ⟨w, hw⟩ : ∃ w : Nat → Int, w = fun b => (((bu (tT x) m i).getD b 0 : Nat) : Int) := ⟨_, rfl⟩
  rw [← hw] at hchk
  obtain ⟨h, hh⟩ : ∃ h, h = iO x m w (bu (tT x) m i).length := ⟨_, rfl⟩
  have hna : h.na = (x (w 0).toNat).na := by rw [hh]; unfold iO; rw [if_pos hchk]
  have hnb : h.nb = (x (w 0).toNat).nb := by rw [hh]; unfold iO; rw [if_pos hchk]
  have ha : ∀ j, h.a j = ga x w ((bu (tT x) m i).length - 1) j := fun j => by rw [hh]; unfold iO; rw [if_pos hchk]
  have hat : ∀ k, k < (bu (tT x) m i).length → (x ((bu (tT x) m i).getD k 0)).na = h.na ∧ (x ((bu (tT x) m i).getD k 0)).nb = h.nb := fun k hk' => by
   have g1 := jk hk'
   have g0 := jk hpos
   rw [hna, hnb, hw]
   simp only [Int.toNat_natCast]
   exact Ax g1.1 g0.1 (g1.2.trans g0.2.symm)
  refine aq.u5 hT nD hm (x := vJ) [1,1,1] (i := 2) (y := tB) (by kernel_rfl) (by kernel_rfl) (by kernel_rfl) [1,0] (j := 3) (x1 := v5) (zb := part tB [1,1]) (by kernel_rfl) (by kernel_rfl) (by kernel_rfl) [1,1,1,1] (i2 := 4) (y2 := Fa) (by kernel_rfl) (by kernel_rfl) rfl hk
   (f1 := [200048, 200051]) (f2 := [58]) (f3 := [200070, 200076, 200083, 200095, 200106]) (f4 := [116, 200133]) (f5 := []) 60 l7 ql 2 2 (fun a : Nat × (Nat → Int) => we x m i a.1) (fun a => mP m a.2 h) (fun a => a.1 ≤ (bu (tT x) m i).length ∧ OI (tT x) m i a.1 a.2) (fun a => a.1 = (bu (tT x) m i).length ∧ OI (tT x) m i a.1 a.2) (fun a => (bu (tT x) m i).length - a.1) (fun a => a.1 < (bu (tT x) m i).length) (fun _ => False) (fun _ => False)
   (fun a (b : Nat) => zD x m i a.1 ((bu (tT x) m i).getD a.1 0) b) (fun a _ => mP m (fun c => if c = (bu (tT x) m i).getD a.1 0 then (i : Int) + 1 else a.2 c) h) (fun _ b => b ≤ h.na) (fun _ b => b = h.na) (fun _ b => h.na - b)
   ⟨_, TU, ?_⟩ (fun ⟨k, o'⟩ ⟨k1, k2⟩ => ⟨_, Rk, ?_⟩) (fun ⟨k, o'⟩ ⟨k1, k2⟩ k3 => ⟨_, F0, ?_⟩) (fun ⟨k, o'⟩ ⟨k1, k2⟩ k3 j hj => ⟨_, O7, ?_⟩) (fun ⟨k, o'⟩ ⟨k1, k2⟩ k3 j hj => ⟨_, La, ?_⟩) (fun ⟨k, o'⟩ s' ⟨k1, k2⟩ hle => ?_) (fun _ _ h => h.elim) (fun _ _ h => h.elim)
  ·simp only [aa.all, az, Int.toNat_natCast]
   have e2 : ((((bV (tT x) m m ((roots (tT x) m m).getD i 0)).length : Nat) : Int) == 0) = false := by
    have : 0 < (bV (tT x) m m ((roots (tT x) m m).getD i 0)).length := hpos
    rw [beq_eq_false_iff_ne]; omega
   have hcl' : (bV (tT x) m m ((roots (tT x) m m).getD i 0)).length ≤ m := hcl
   refine ⟨⟨⟨by omega, hlt⟩, jT (Nat.le_refl _), fun _ _ => rfl, by omega, by omega, hfew, hok', by omega⟩, ⟨⟨by omega, hlt⟩, e2⟩, ?_, (0, o), ⟨Nat.zero_le _, h2⟩, [(0, 0), (1, 36865)], rfl, rfl, rfl, cV rfl rfl (aP rfl ?_) (bh rfl rfl rfl (fun _ _ => aP rfl rfl) trivial)⟩
   ·rw [hw] at hchk
    show (eC x m (fun b => (((bu (tT x) m i).getD b 0 : Nat) : Int)) (bu (tT x) m i).length != 0) = false
    rw [hchk]; rfl
   ·rw [hh, hw]; rfl
  ·have k1 : k ≤ (bu (tT x) m i).length := k1
   have e : (bV (tT x) m m ((roots (tT x) m m).getD i 0)).length = (bu (tT x) m i).length := rfl
   simp only [aa.all, az, decide_eq_true_eq, decide_eq_false_iff_not, Int.toNat_natCast, e]
   exact ⟨⟨by omega, hlt⟩, fun h => ⟨by dsimp only; omega, [(0, 0), (1, 1)], rfl, rfl, rfl, cV rfl rfl (aP rfl rfl) (bh rfl rfl rfl (fun _ _ => aP rfl rfl) trivial)⟩, fun h => ⟨rfl, (k, o'), ⟨by dsimp only; omega, k2⟩, [(0, 0), (1, 1)], rfl, rfl, rfl, cV rfl rfl (aP rfl rfl) (bh rfl rfl rfl (fun _ _ => aP rfl rfl) trivial)⟩⟩
  ·have k3 : k < (bu (tT x) m i).length := k3
   have k2 : OI (tT x) m i k o' := k2
   have g1 := (jk k3).1
   have g2 := k2.at hlt k3
   have g3 := hat k k3
   have e : bV (tT x) m m ((roots (tT x) m m).getD i 0) = bu (tT x) m i := rfl
   simp only [aa.all, az, Int.toNat_natCast, e, cond_false, Nat.add_zero]
   refine ⟨⟨⟨by omega, hlt⟩, by omega, k3⟩, ⟨decide_eq_false (by omega), decide_eq_false (by omega), ⟨by omega, g1⟩, g1, by rw [g2]; rfl, by omega, ⟨by omega, g1⟩, by rw [g3.1]; exact bne_self_eq_false _, by omega, by omega, g1⟩, by rw [g3.2]; exact bne_self_eq_false _, ⟨by omega, ⟨by omega, g1⟩, g1⟩, 0, Nat.zero_le _, [(0, 0), (1, 1)], rfl, rfl, rfl, cV rfl rfl (aP rfl rfl) (bh rfl rfl rfl (fun c _ => aP (xQ rfl rfl) ?_) trivial)⟩
   show (if (c == (bu (tT x) m i).getD k 0) = true then AV.int i64 ((i : Int) + 1) else AV.int i64 (o' c)) = AV.int i64 (if c = (bu (tT x) m i).getD k 0 then (i : Int) + 1 else o' c)
   by_cases hc : c = (bu (tT x) m i).getD k 0
   ·rw [if_pos hc, if_pos (by simpa using hc)]
   ·rw [if_neg hc, if_neg (by simpa using hc)]
  ·have k3 : k < (bu (tT x) m i).length := k3
   have hj : j ≤ h.na := hj
   have g1 := (jk k3).1
   have g3 := hat k k3
   have hl5 := hlen ((bu (tT x) m i).getD k 0)
   simp only [aa.all, az, Int.toNat_natCast, decide_eq_true_eq, decide_eq_false_iff_not]
   refine ⟨by omega, fun hjl => ⟨⟨⟨by omega, g1⟩, ⟨by omega, by omega⟩, by omega, ⟨by omega, by omega⟩, by omega, by omega, by omega, by omega⟩, ?_, by omega, j + 1, by omega, by dsimp only; omega, [(0, 0), (1, 1)], rfl, rfl, rfl, cV rfl rfl (aP rfl rfl) (bh rfl rfl rfl (fun c _ => aP rfl rfl) trivial)⟩,
    fun hjl => ⟨rfl, j, by omega, [(0, 0), (1, 1)], rfl, rfl, rfl, cV rfl rfl (aP rfl rfl) (bh rfl rfl rfl (fun c _ => aP rfl rfl) trivial)⟩⟩
   have hin := Fz (x := x) (w := w) (j := j) (k := k) (n := (bu (tT x) m i).length - 1) (by omega)
   have hwk : (w k).toNat = (bu (tT x) m i).getD k 0 := by rw [hw]; exact Int.toNat_natCast _
   rw [hwk, ← ha j] at hin
   have hsp : (x ((bu (tT x) m i).getD k 0)).sp j = (x ((bu (tT x) m i).getD k 0)).a j := by unfold Ce.sp; rw [if_pos (by omega)]
   rw [hsp] at hin
   have hins := Nw hin.1 hin.2 ((hokx _).1 j)
   show (!lU ((x ((bu (tT x) m i).getD k 0)).a j) (h.a j)) = false
   rw [hins]; rfl
  ·have k3 : k < (bu (tT x) m i).length := k3
   have k2 : OI (tT x) m i k o' := k2
   simp only [aa.all, az]
   exact ⟨by omega, (k + 1, fun c => if c = (bu (tT x) m i).getD k 0 then (i : Int) + 1 else o' c), ⟨k3, k2.step hlt k3⟩, by dsimp only; omega, [(0, 0), (1, 1)], rfl, rfl, rfl, cV rfl rfl (aP rfl rfl) (bh rfl rfl rfl (fun c _ => aP rfl rfl) trivial)⟩
  ·have k1 : k = (bu (tT x) m i).length := k1
   have k2 : OI (tT x) m i k o' := k2
   show aq P cx _ (part mZ [1,1]) s' _
   refine aq.iL hle (aq.aR hT nD hm 60 jf LR (by kernel_rfl) ?_)
   simp only [aa.all, az]
   exact ⟨by omega, fun s' hs' => ⟨(i + 1, o'), ⟨hlt, k2.next k1⟩, by dsimp only; omega, dK.le ⟨[(0, 0)], rfl, rfl, rfl, bh rfl rfl rfl (fun _ _ => aP rfl rfl) trivial⟩ hs' hk⟩⟩
 ·have h1 : i = (roots (tT x) m m).length := h1
  have h2 : OI (tT x) m i 0 o := h2
  have hdone := fun a ha => h2.done hs h1 (a := a) ha
  have hob : gm 1 [(0, 0)] [(0, eg m o)] (gf m o) := bh rfl rfl rfl (fun _ _ => aP rfl rfl) trivial
  refine aq.QJ hT nD hm (x := o8) [0,1] (i := 6) (y := pK) (z := part o8 [1]) (by kernel_rfl) (by kernel_rfl) (by kernel_rfl) (by kernel_rfl) [1,0] (j := 7) (x1 := wu) (zb := part pK [1,1]) (by kernel_rfl) (by kernel_rfl) (by kernel_rfl) [1,0,1] (i2 := 8) (y2 := Bb) (by kernel_rfl) (by kernel_rfl) rfl hk
   (f1 := []) (f2 := [137]) (f3 := []) (f4 := [143, 148, 200168, 178, 200189, 191]) (f5 := [200207, 200215, 218, 200229]) 60 mV rO 1 1 (fun i : Nat => ke x m i) (fun _ => gf m o) (fun i => i ≤ m) (fun i => i = m) (fun i => m - i) (fun i => i < m) (fun _ => False) (fun _ => False)
   (fun i (b : Nat × Bool) => sM x m i b.1 b.2) (fun _ _ => gf m o) (fun i b => b.1 ≤ m ∧ (b.2 = true ↔ ∃ k, k < b.1 ∧ k ≠ i ∧ tT x i k = true)) (fun i b => b.1 = m ∧ (b.2 = true ↔ ∃ k, k < m ∧ k ≠ i ∧ tT x i k = true)) (fun _ b => m - b.1)
   ⟨_, J6, ?_⟩ (fun i hi => ⟨_, Ph, ?_⟩) (fun i hi hlt => ⟨_, QZ, ?_⟩) (fun i hi hlt ⟨k, b⟩ ⟨k1, k2⟩ => ⟨_, Ua, ?_⟩) (fun i hi hlt ⟨k, b⟩ ⟨k1, k2⟩ => ⟨_, Ia, ?_⟩) (fun i hi => ?_) (fun _ _ h => h.elim) (fun _ _ h => h.elim)
  ·simp only [aa.all, az]
   exact ⟨0, Nat.zero_le _, [(0, 0)], rfl, rfl, rfl, hob⟩
  ·simp only [aa.all, az, decide_eq_true_eq, decide_eq_false_iff_not]
   exact ⟨fun h => ⟨by omega, [(0, 0)], rfl, rfl, rfl, hob⟩, fun h => ⟨rfl, i, by omega, [(0, 0)], rfl, rfl, rfl, hob⟩⟩
  ·simp only [aa.all, az]
   exact ⟨(0, false), ⟨Nat.zero_le _, by constructor; intro h; simp at h; rintro ⟨k, hk', _⟩; omega⟩, [(0, 0)], rfl, rfl, rfl, hob⟩
  ·have k1 : k ≤ m := k1
   have k2 : b = true ↔ ∃ l, l < k ∧ l ≠ i ∧ tT x i l = true := k2
   have hfi := hfew i hlt
   have et : ∀ a c, gY (Ce.mk (x a).na (fun i ↦ dX (sA ((x a).a i) 64)) (x a).nb (fun i ↦ dX (sA ((x a).b i) 64)) (x a).k (x a).j) (Ce.mk (x c).na (fun i ↦ dX (sA ((x c).a i) 64)) (x c).nb (fun i ↦ dX (sA ((x c).b i) 64)) (x c).k (x c).j) = tT x a c := fun _ _ => rfl
   simp only [aa.all, az, decide_eq_true_eq, decide_eq_false_iff_not, Int.toNat_natCast, Nat.add_zero, et, cond_false, cond_true, hs k i, bne_self_eq_false, beq_iff_eq, beq_eq_false_iff_ne]
   have step : ∀ {b' : Bool}, k < m → (b' = true ↔ b = true ∨ (k ≠ i ∧ tT x i k = true)) → ((k + 1, b') : Nat × Bool).1 ≤ m ∧ (((k + 1, b') : Nat × Bool).2 = true ↔ ∃ l, l < ((k + 1, b') : Nat × Bool).1 ∧ l ≠ i ∧ tT x i l = true) := fun {b'} hkm hb' => by
    refine ⟨hkm, hb'.trans ⟨fun h => ?_, fun ⟨l, hl, hl2, hl3⟩ => ?_⟩⟩
    ·rcases h with h | h
     ·obtain ⟨l, hl, hl2⟩ := k2.1 h
      exact ⟨l, by dsimp only; omega, hl2⟩
     ·exact ⟨k, by dsimp only; omega, h⟩
    ·by_cases hlk : l = k
     ·subst hlk; exact .inr ⟨hl2, hl3⟩
     ·exact .inl (k2.2 ⟨l, by dsimp only at hl; omega, hl2, hl3⟩)
   have fin : ∀ {b' : Bool} {v : List AV × aA}, k < m → (b' = true ↔ b = true ∨ (k ≠ i ∧ tT x i k = true)) → dK [] v (sM x m i (k + 1) b') (gf m o) 1 → Round [] (fun b : Nat × Bool => sM x m i b.1 b.2) (fun _ => gf m o) 1 (fun b => b.1 ≤ m ∧ (b.2 = true ↔ ∃ k, k < b.1 ∧ k ≠ i ∧ tT x i k = true)) (fun b => b.1 = m ∧ (b.2 = true ↔ ∃ k, k < m ∧ k ≠ i ∧ tT x i k = true)) (fun b => m - b.1) 8 (fun _ => False) (k, b) .normal v :=
    fun hkm hb' hre => ⟨(k + 1, _), step hkm hb', by dsimp only; omega, hre⟩
   refine ⟨fun hkm => ?_, fun hkm => ⟨rfl, (k, b), ⟨by dsimp only; omega, by have hkm' : k = m := (by omega); subst hkm'; exact k2⟩, [(0, 0)], rfl, rfl, rfl, hob⟩⟩
   have hkm : k < m := by omega
   have hfk := hfew k hkm
   have ai : (0 : Int) ≤ (i : Int) ∧ i < m := ⟨by omega, hlt⟩
   have ak : (0 : Int) ≤ (k : Int) ∧ k < m := ⟨by omega, hkm⟩
   have w1 : -(2 : Int) ^ 63 ≤ (k : Int) + 1 ∧ (k : Int) + 1 < (2 : Int) ^ 63 := by omega
   refine ⟨fun hik => ⟨w1, fin hkm ⟨.inl, fun h => h.elim id fun h => absurd (by omega) h.1⟩ ⟨[(0, 0)], rfl, rfl, rfl, hob⟩⟩, fun hik => ⟨fun ht => ⟨⟨ai, ak, bS (Nat.le_refl _), bS (Nat.le_refl _), bS (Nat.le_refl _), bS (Nat.le_refl _), hfi, hfk, ak, ai, bS (Nat.le_refl _), bS (Nat.le_refl _), bS (Nat.le_refl _), bS (Nat.le_refl _), hfk, hfi, trivial, ai, ak, bS (Nat.le_refl _), bS (Nat.le_refl _), bS (Nat.le_refl _), bS (Nat.le_refl _), hfi, hfk, ht, ai, hlt, ak, hkm⟩, ?_, fun hb => ⟨hb, w1, fin hkm (by simp [hb]) ⟨[(0, 0)], rfl, rfl, rfl, hob⟩⟩, fun hb => ⟨⟨hb, ai, ak, bS (Nat.le_refl _), bS (Nat.le_refl _), bS (Nat.le_refl _), bS (Nat.le_refl _), hfi, hfk⟩, w1, fin hkm ⟨fun h => .inr ⟨by omega, h⟩, fun h => h.elim (fun h => by rw [hb] at h; simp at h) fun h => h.2⟩ ⟨[(0, 0)], rfl, rfl, rfl, hob⟩⟩⟩,
    fun ht => ⟨⟨ai, ak, bS (Nat.le_refl _), bS (Nat.le_refl _), bS (Nat.le_refl _), bS (Nat.le_refl _), hfi, hfk, ak, ai, bS (Nat.le_refl _), bS (Nat.le_refl _), bS (Nat.le_refl _), bS (Nat.le_refl _), hfk, hfi, trivial, ai, ak, bS (Nat.le_refl _), bS (Nat.le_refl _), bS (Nat.le_refl _), bS (Nat.le_refl _), hfi, hfk, ht⟩, trivial, fun hb => ⟨hb, w1, fin hkm (by simp [hb]) ⟨[(0, 0)], rfl, rfl, rfl, hob⟩⟩, fun hb => ⟨⟨hb, ai, ak, bS (Nat.le_refl _), bS (Nat.le_refl _), bS (Nat.le_refl _), bS (Nat.le_refl _), hfi, hfk⟩, w1, fin hkm ⟨fun h => .inr ⟨by omega, h⟩, fun h => h.elim (fun h => by rw [hb] at h; simp at h) fun h => h.2⟩ ⟨[(0, 0)], rfl, rfl, rfl, hob⟩⟩⟩⟩⟩
   obtain ⟨c, c1, c2, c3⟩ := hdone i hlt
   obtain ⟨d, d1, d2, d3⟩ := hdone k hkm
   have : c = d := y3 Fx c1 d1 (by rw [c2, d2]; exact xl hs hlt hkm ht)
   rw [c3, d3, this]; exact bne_self_eq_false _
  ·have k1 : k = m := k1
   have k2 : b = true ↔ ∃ l, l < m ∧ l ≠ i ∧ tT x i l = true := k2
   obtain ⟨c, c1, c2, c3⟩ := hdone i hlt
   simp only [aa.all, az, Int.toNat_natCast, Nat.add_zero, c3, cond_false, cond_true]
   have e1 : ((c : Int) + 1 - 1) = (c : Int) := by omega
   have w1 : -(2 : Int) ^ 63 ≤ (i : Int) + 1 ∧ (i : Int) + 1 < (2 : Int) ^ 63 := by omega
   rw [e1, Int.toNat_natCast, c2]
   refine ⟨⟨⟨by omega, hlt⟩, hlt, by rw [beq_eq_false_iff_ne]; omega, ⟨by omega, hlt⟩, hlt⟩, decide_eq_false (by omega), fun hb => ⟨⟨hb, ⟨by omega, hlt⟩, hlt, by omega, ⟨by omega, c1⟩⟩, ?_, w1, i + 1, hlt, by dsimp only; omega, [(0, 0)], rfl, rfl, rfl, hob⟩, fun hb => ⟨hb, trivial, w1, i + 1, hlt, by dsimp only; omega, [(0, 0)], rfl, rfl, rfl, hob⟩⟩
   have hl := SZ hs hlt fun l hl hne => by
    cases ht : tT x i l with
    | false => rfl
    | true =>
     have := k2.2 ⟨l, hl, hne, ht⟩
     rw [this] at hb; simp at hb
   rw [hl]; rfl
  ·refine aq.nE ((ay.fin hT nD hm 60 T3 (by kernel_rfl) ?_).mono fun _ _ h => .inl h)
   exact .refl _
end Go.Am.B
