/- fP.Times, ref08.Times; fP.copied. -/
import Derived.Test.YtnocdkaonpdmjaaGreatY45
import Derived.Test.YtnocdkaonpdmjaaGreatC8
import Derived.Test.YtnocdkaonpdmjaaGreatZ2
import Derived.Test.YtnocdkaonpdmjaaGreatC2
set_option linter.unusedVariables false
namespace Go.Am.B
open Go Go.Am.N AV aa aj IntKind
theorem Px : aO P qU tr (ax tr) := aP UD (by kernel_rfl) (by kernel_rfl) (by kernel_rfl)
theorem Co : aO P l6 wR (ax wR) := aP UQ (by kernel_rfl) (by kernel_rfl) (by kernel_rfl)
abbrev sY : List Nat := [3, 5, 8, 9, 10]
abbrev th (n : Nat) (k : Nat → Rat) (c i : Nat) : List AV := [.ptr 0 0 3 0 [], .int .i64 c, ls k n, .int .i64 n, .int .i64 i]
noncomputable abbrev vw : Code := ax tr
abbrev sJ : Nat := 4000
abbrev eJ (m : Nat) (k : Nat → Rat) : az := ⟨true, true, 3, m, fun i => .rat (k i) sK⟩
abbrev sM : List Nat := [3, 9, 10, 11]
abbrev C4 (n : Nat) (k : Nat → Rat) (i : Nat) : List AV := [.own 0 3 0 i, bI k n sJ, .int .i64 n, .int .i64 i]
noncomputable abbrev j6 : Code := ax wR
theorem Zz {n : Nat} {k : Nat → Rat} {t : Rat} : aI T fl [] 60 sY (before vw [1,1,0,1]) ⟨aL 0 [ls k n, .rat t sK], [], 0⟩ =
  some (leaf normal ([ptr 0 0 (bC (rat t sK)).size 0 [], int i64 (0 : Int), ak 3 n fun i ↦ rat (k i) 4096, int i64 (↑n : Int), int i64 (0 : Int)], [((0 : Nat), az.mk false true (bC (rat t sK)).size 1 fun x ↦ rat t 4096)])) := by kernel_rfl
theorem aaF {n c i : Nat} {k : Nat → Rat} {t : Rat} : aI T fl [11, 16] 60 sY [part vw [1,1,0,1,0,0]] ⟨aC sY (th n k c i), [(0, tP t sK)], 1⟩ =
  let c10 : Int := (↑n : Int); let c9 : Prop := 0 < 1; let c8 : Int := (↑c : Int) + (1 : Int); let c7 : AV := ak 3 n fun i ↦ rat (k i) 4096; let c5 : Int := (↑i : Int); let c4 : AV := ptr 0 0 3 0 []; let c2 : Int := (2 : Int) ^ 63; let c1 : Nat × az := ((0 : Nat), az.mk false true 3 1 fun x ↦ rat t 4096); let c6 : Int := c5 + (1 : Int); let c3 : List AV := [c7, int i64 c10, int i64 c6]; some (fork (decide (c5 < c10)) (ag [(0 : Int) ≤ c5 ∧ c5.toNat < n, c9] (ag [c9, c9] (fork (decide (k c5.toNat = t)) (ag [-c2 ≤ c8 ∧ c8 < c2] (ag [-c2 ≤ c6 ∧ c6 < c2] (leaf normal (c4 :: int i64 c8 :: c3, [c1])))) (ag [-c2 ≤ c6 ∧ c6 < c2] (leaf normal (c4 :: int i64 (↑c : Int) :: c3, [c1])))))) (leaf (exit 0) ([c4, int i64 (↑c : Int), c7, int i64 c10, int i64 c5], [c1]))) := by kernel_rfl
theorem MV {n c i : Nat} {k : Nat → Rat} {t : Rat} : cq T fl [] 60 tr [part vw [1,1,1]] ⟨aC sY (th n k c i), [(0, tP t sK)], 1⟩ =
  some (leaf ret [int i64 (↑c : Int)]) := by kernel_rfl
theorem PL {n : Nat} {k : Nat → Rat} : aI T fl [] 60 sM (before j6 [1,1,0,1]) ⟨aL 0 [bI k n sJ], [], 0⟩ =
  let c1 : Int := (↑n : Int); some (ag [(0 : Int) ≤ (0 : Int) ∧ (0 : Int) ≤ c1 ∧ c1 ≤ (2 : Int) ^ 47 ∧ c1 * (↑(56 : Nat) : Int) ≤ (2 : Int) ^ 47] (leaf normal ([own 12288 3 0 0, ak 3 n fun i ↦ rat (k i) 4000, int i64 c1, int i64 (0 : Int)], [((12288 : Nat), az.mk true true 3 0 fun x ↦ rat 0 1)]))) := by kernel_rfl
theorem X2 {n i : Nat} {k : Nat → Rat} : aI T fl [12] 60 sM [part j6 [1,1,0,1,0,0]] ⟨aC sM (C4 n k i), [(0, eJ i k)], 1⟩ =
  let c4 : Int := (↑n : Int); let c2 : AV := ak 3 n fun i ↦ rat (k i) 4000; let c1 : Int := (↑i : Int); let c3 : Int := c1 + (1 : Int); some (fork (decide (c1 < c4)) (ag [(0 : Int) ≤ c1 ∧ c1.toNat < n, (0 : Nat) < 1] (ag [(0 : Nat) < 1, (1 : Nat) * 3 ≤ 2 ^ 24, (i + 1) * ((56 : Nat) + 1) * 2 ≤ 2 ^ 47] (ag [-(2 : Int) ^ 63 ≤ c3 ∧ c3 < (2 : Int) ^ 63] (leaf normal ([own 40961 3 0 (i + 1), c2, int i64 c4, int i64 c3], [((40961 : Nat), az.mk true true 3 (i + 1) fun i_1 ↦ if i_1 < i then rat (k i_1) sK else nth [rat (k c1.toNat + 0) (sJ + 1 + 1)] (rat 0 1) (i_1 - i + 0))]))))) (leaf (exit 0) ([own 0 3 0 i, c2, int i64 c4, int i64 c1], [((0 : Nat), az.mk true true 3 i fun i ↦ rat (k i) 4096)]))) := by kernel_rfl
theorem WL {n i : Nat} {k : Nat → Rat} : aI T fl [] 60 [2] [part j6 [1,1,1]] ⟨aC sM (C4 n k i), [(0, eJ i k)], 1⟩ =
  some (leaf ret ([own 0 3 0 i], [((0 : Nat), az.mk true true 3 i fun i ↦ rat (k i) 4096)])) := by kernel_rfl
theorem S6 {k : Nat → Rat} {t : Rat} {i : Nat} (h : k i = t) : dA k t (i + 1) = dA k t i + 1 := by rw [dA, if_pos h]
theorem Q7 {k : Nat → Rat} {t : Rat} {i : Nat} (h : ¬ k i = t) : dA k t (i + 1) = dA k t i := by rw [dA, if_neg h]; rfl
theorem VT {n : Nat} {k : Nat → Rat} {t : Rat} (hn : n < 2 ^ 40) (K : Nat) : aA P qU K [ls k n, .rat t sK] [] (aG (.int .i64 (dA k t n)) []) := by
 refine gV (r := aG (.int .i64 (dA k t n)) []) hT jq hm Px rfl (of_decide_eq_true (by kernel_rfl)) rfl [1,1,0,1] (i := 0) (y := part vw [1,1,0,1,0,0]) (z := part vw [1,1,1]) (by kernel_rfl) (by kernel_rfl) (by kernel_rfl) (f1 := []) (f2 := [11, 16]) (f3 := []) 60 sY 1
  (fun i : Nat => th n k (dA k t i) i) (fun _ => [(0, tP t sK)]) (fun i => i ≤ n) (fun i => i = n) (fun i => n - i) (fun _ => ⟨⟨_, Zz, ?_⟩, fun i hi => ⟨_, aaF, ?_⟩, fun i hi => ⟨_, MV, ?_⟩⟩) K []
 ·simp only [aa.all, ay]
  exact ⟨0, Nat.zero_le _, [(0, 0)], rfl, rfl, rfl, aR rfl rfl (aM rfl rfl) trivial⟩
 ·have h1 := EW (k := k) (t := t) (n := i)
  simp only [aa.all, ay, decide_eq_true_eq, decide_eq_false_iff_not, Int.toNat_natCast, Nat.add_zero]
  refine ⟨fun h2 => ⟨by omega, by omega, fun h3 => ⟨by omega, by omega, i + 1, by omega, by dsimp only; omega, [(0, 0)], rfl, ?_, rfl, aR rfl rfl (aM rfl rfl) trivial⟩, fun h3 => ⟨by omega, i + 1, by omega, by dsimp only; omega, [(0, 0)], rfl, ?_, rfl, aR rfl rfl (aM rfl rfl) trivial⟩⟩, fun h2 => ⟨rfl, i, by omega, [(0, 0)], rfl, rfl, rfl, aR rfl rfl (aM rfl rfl) trivial⟩⟩
  ·show _ = (th n k (dA k t (i + 1)) (i + 1)).map _
   rw [S6 h3]; rfl
  ·show _ = (th n k (dA k t (i + 1)) (i + 1)).map _
   rw [Q7 h3]; rfl
 ·subst hi
  simp only [aa.all, ay]
  exact .refl _
abbrev Ow : nT ((Nat × (Nat → Rat)) × Rat × Unit) := kC (kL sK) (kC (jM sK) kN)
noncomputable def C8 : Spec := dn Ow (fun a => .int .i64 (dA a.1.2 a.2.1 a.1.1)) fun a => [a.1.1 < 2 ^ 40]
theorem I9 : ∀ K args pre r, C8 K args pre = some r → aA P qU K args pre r := dD fun ⟨⟨n, k⟩, t, _⟩ K hn => VT hn K
theorem P6 {args : List AV} {n : Nat} {k : Nat → Rat} {l : List Prop} (ha : ay l → ep (aS []) args [bI k n sJ]) (hn : ay l → n < 2 ^ 40) (K : Nat) : aA P l6 K args [] ⟨jn [.own K 3 0 n], [(K, eJ n k)], l⟩ := by
 refine FE hT Co ha (of_decide_eq_true (by kernel_rfl)) fun need c hk => ?_
 have hn := hn need
 refine aq.lP hT jq hm [1,1,0,1] (i := 0) (y := part j6 [1,1,0,1,0,0]) (z := part j6 [1,1,1]) (by kernel_rfl) (by kernel_rfl) (by kernel_rfl) Co.dst hk (f1 := []) (f2 := [12]) 60 sM 1 (fun i : Nat => C4 n k i) (fun i => [(0, eJ i k)])
  (fun i => i ≤ n) (fun i => i = n) (fun i => n - i) (fun _ => False) ⟨_, PL, ?_⟩ (fun i hi => ⟨_, X2, ?_⟩) (fun i hi => ?_) (fun _ _ h => h.elim)
 ·simp only [aa.all, ay]
  exact ⟨by omega, 0, Nat.zero_le _, [(0, 12288)], rfl, rfl, rfl, bG rfl rfl rfl (fun i hi => absurd hi (Nat.not_lt_zero i)) trivial⟩
 ·simp only [aa.all, ay, decide_eq_true_eq, decide_eq_false_iff_not, Int.toNat_natCast, Nat.add_zero]
  exact ⟨fun h2 => ⟨by omega, by omega, by omega, i + 1, by omega, by dsimp only; omega, [(0, 40961)], rfl, rfl, rfl, bG rfl rfl rfl (fun j hj => C5 (fun _ _ => rfl) (Rat.add_zero _) (Nat.le_refl _) (by decide) hj) trivial⟩, fun h2 => ⟨rfl, i, by omega, [(0, 0)], rfl, rfl, rfl, bG rfl rfl rfl (fun j hj => aM rfl rfl) trivial⟩⟩
 ·subst hi
  refine aq.aX hT jq hm 60 [2] WL (by kernel_rfl) fun s' hs' => ⟨.inr rfl, [2], _, [.own 0 3 0 i], _, 0, _, hs', by kernel_rfl, ⟨⟨rfl, cF (by simp [aS, look]) rfl rfl⟩, trivial⟩, rfl, gM rfl fun i hi => aF rfl⟩
noncomputable def FK : Spec := pS fun K l => match l with
 | [v] => match (kL sJ).read v with
  | some ((n, k), q) => some ⟨.own K 3 0 n, [(K, eJ n k)], q ++ [n < 2 ^ 40]⟩
  | none => none
 | _ => none
theorem abN : ∀ K args pre r, FK K args pre = some r → aA P l6 K args pre r := by
 refine yH fun K args r hk hs => ?_
 split at hs
 ·rename_i v
  split at hs
  ·rename_i n k q hv
   simp only [Option.some.injEq] at hs
   subst hs
   exact P6 (fun hn => C3 hk (by cases v <;> first | rfl | simp [kL, zA] at hv) ⟨(kL sJ).ok hv (dy.1 hn).1, trivial⟩) (fun hn => (dy (a := q) (b := [n < 2 ^ 40]).1 hn).2) K
  ·simp at hs
 ·simp at hs
end Go.Am.B

/- slices.CompactFunc of numbers; fP.Distinct. -/
namespace Go.Am.B
open Go Go.Am.N AV aa aj IntKind
theorem FC : aO P zH Av (ax Av) := aP X7 (by kernel_rfl) (by kernel_rfl) (by kernel_rfl)
theorem YQ : aO P zC uU (ax uU) := aP YJ (by kernel_rfl) (by kernel_rfl) (by kernel_rfl)
noncomputable abbrev qC : Func := Av
noncomputable abbrev tJ : Code := ax qC
noncomputable abbrev qg : Code := part tJ [1,1,0,1,0,0]
noncomputable abbrev qf : Code := part qg [1,0,0]
noncomputable abbrev nr : Code := part qf [1,0]
abbrev iB : List Nat := [4, 0, 1, 5]
abbrev tn (n i : Nat) : List AV := [.nil, .own 0 3 0 n, .func fj [], .int .i64 i]
abbrev xV : List Nat := [4, 0, 1, 5, 28]
abbrev CT (n i : Nat) (b : Bool) : List AV := [.nil, .own 0 3 0 n, .func fj [], .int .i64 i, .bool b]
abbrev uc : List Nat := [4, 0, 1, 5, 6, 7]
abbrev qp (n m b j : Nat) : List AV := [.nil, .own 0 3 0 n, .func fj [], .int .i64 m, .own 0 3 b (n - b), .int .i64 j]
theorem TE {n : Nat} {k : Nat → Rat} : aI T fl [10] 60 iB (before tJ [1,1,0,1]) ⟨aL 0 [.own 0 3 0 n, .func fj []], [(0, eJ n k)], 1⟩ =
  let c2 : Nat × az := ((0 : Nat), az.mk true true 3 n fun i ↦ rat (k i) 4096); let c1 : AV := own 0 3 0 n; some (fork (decide ((↑n : Int) < (2 : Int))) (leaf ret ([c1, c1, func fj [], tuple []], [c2])) (leaf normal ([nil, c1, func fj [], int i64 (1 : Int)], [c2]))) := by kernel_rfl
theorem SC {n i : Nat} {k : Nat → Rat} : aI T fl [15] 60 iB (before qg [1,0]) ⟨aC iB (tn n i), [(0, eJ n k)], 1⟩ =
  let c1 : List AV × aD := ([nil, own 0 3 0 n, func fj [], int i64 (↑i : Int)], [((0 : Nat), az.mk true true 3 n fun i ↦ rat (k i) 4096)]); some (fork (decide ((↑i : Int) < (↑n : Int))) (leaf normal c1) (leaf (exit 0) c1)) := by kernel_rfl
theorem Nk {n i : Nat} {k : Nat → Rat} : aI T fl [] 60 xV (before qf [1]) ⟨aC iB (tn n i), [(0, eJ n k)], 1⟩ =
  let c4 : Int := (↑i : Int); let c2 : Nat := c4.toNat + 0; let c1 : Int := c4 - (1 : Int); let c3 : Nat := c1.toNat + 0; some (ag [(0 : Int) ≤ c4 ∧ c4.toNat < n, c2 < n, -(2 : Int) ^ 63 ≤ c1 ∧ c1 < (2 : Int) ^ 63, (0 : Int) ≤ c1 ∧ c1.toNat < n, c3 < n] (leaf normal ([nil, own 0 3 0 n, func fj [], int i64 c4, AV.bool (decide (k c2 = k c3))], [((0 : Nat), az.mk true true 3 n fun i ↦ rat (k i) 4096)]))) := by kernel_rfl
theorem aaY {n i : Nat} {b : Bool} {k : Nat → Rat} : aI T fl [] 60 uc (before nr [1,0,1]) ⟨aC xV (CT n i b), [(0, eJ n k)], 1⟩ =
  let c2 : Int := (↑i : Int); let c1 : Int := (↑n : Int); some (ag [(0 : Int) ≤ c2 ∧ c2 ≤ c1 ∧ c1 ≤ c1 ∧ c1 ≤ c1] (leaf normal ([nil, own 0 3 0 n, func fj [], int i64 c2, own 0 3 ((0 : Nat) + c2.toNat) (c1.toNat - c2.toNat), int i64 (1 : Int)], [((0 : Nat), az.mk true true 3 n fun i ↦ rat (k i) 4096)]))) := by kernel_rfl
theorem To {n m b j : Nat} {k : Nat → Rat} : aI T fl [35, 49] 60 uc [part nr [1,0,1,0,0]] ⟨aC uc (qp n m b j), [(0, eJ n k)], 1⟩ =
  let c11 : AV := func fj []; let c7 : AV := own 0 3 b (n - b); let c6 : Nat × az := ((0 : Nat), az.mk true true 3 n fun i ↦ rat (k i) 4096); let c5 : Int := (↑m : Int); let c4 : AV := own 0 3 0 n; let c2 : Int := (2 : Int) ^ 63; let c1 : Int := (↑j : Int); let c13 : Int := c5 + (1 : Int); let c12 : Prop := (0 : Int) ≤ c1 ∧ c1.toNat < n - b; let c10 : Nat := c5.toNat + 0; let c9 : Nat := c1.toNat + b; let c8 : Int := c1 + (1 : Int); let c3 : Int := c1 - (1 : Int); some (fork (decide (c1 < (↑(n - b) : Int))) (ag [c12, c9 < n, -c2 ≤ c3 ∧ c3 < c2, (0 : Int) ≤ c3 ∧ c3.toNat < n - b, c3.toNat + b < n] (fork (!decide (k c9 = k (c3.toNat + b))) (ag [c12, c9 < n, (0 : Int) ≤ c5 ∧ c5.toNat < n, c10 < n] (ag [-c2 ≤ c13 ∧ c13 < c2] (ag [-c2 ≤ c8 ∧ c8 < c2] (leaf normal ([nil, c4, c11, int i64 c13, c7, int i64 c8], [((0 : Nat), az.mk true true 3 n fun j ↦ rat (bif j == c10 then k c9 else k j) (bif j == c10 then sK else sK))]))))) (ag [-c2 ≤ c8 ∧ c8 < c2] (leaf normal ([nil, c4, c11, int i64 c5, c7, int i64 c8], [c6]))))) (leaf (exit 2) ([nil, c4, c11, int i64 c5, c7, int i64 c1], [c6]))) := by kernel_rfl
theorem UR {n m b j : Nat} {k : Nat → Rat} : aI T fl [] 60 iB [part nr [1,1]] ⟨aC uc (qp n m b j), [(0, eJ n k)], 1⟩ =
  let c4 : Int := (↑n : Int); let c2 : Int := (↑m : Int); let c3 : Nat := 0 + c2.toNat; let c1 : Nat := c3 + (c4.toNat - c2.toNat); some (ag [(0 : Int) ≤ c2 ∧ c2 ≤ c4 ∧ c4 ≤ c4 ∧ c4 ≤ c4] (ag [(0 : Int) ≤ (0 : Int) ∧ (0 : Int) ≤ c2 ∧ c2 ≤ c2 ∧ c2 ≤ c4] (leaf ret ([own 0 3 0 (c2.toNat - Int.toNat (0 : Int)), own 0 3 0 n, func fj [], int i64 c2], [((0 : Nat), az.mk true true 3 n fun i ↦ if c3 ≤ i ∧ i < c1 then rat 0 1 else rat (k i) sK)])))) := by kernel_rfl
theorem K4 {n i : Nat} {b : Bool} {k : Nat → Rat} : aI T fl [] 60 iB [part qf [1,1], part qg [1,1]] ⟨aC xV (CT n i b), [(0, eJ n k)], 1⟩ =
  let c1 : Int := (↑i : Int) + (1 : Int); some (ag [-(2 : Int) ^ 63 ≤ c1 ∧ c1 < (2 : Int) ^ 63] (leaf normal ([nil, own 0 3 0 n, func fj [], int i64 c1], [((0 : Nat), az.mk true true 3 n fun i ↦ rat (k i) 4096)]))) := by kernel_rfl
theorem Q6 {n i : Nat} {k : Nat → Rat} : aI T fl [] 60 iB [part tJ [1,1,1]] ⟨aC iB (tn n i), [(0, eJ n k)], 1⟩ =
  let c1 : AV := own 0 3 0 n; some (leaf ret ([c1, c1, func fj [], int i64 (↑i : Int)], [((0 : Nat), az.mk true true 3 n fun i ↦ rat (k i) 4096)])) := by kernel_rfl
def js (k : Nat → Rat) (n i : Nat) : Rat := if i < bQ k n then cS k n i else 0
theorem SG {k : Nat → Rat} {n : Nat} (h : ∀ j, j < n → fh k j) {i : Nat} (hi : i < n) : bQ k n = n ∧ js k n i = k i := by
 obtain ⟨h1, h2⟩ := KN h
 unfold js
 rw [h1, if_pos hi]
 exact ⟨rfl, h2 i hi⟩
theorem XT {kk n : Nat} {k : Nat → Rat} (hn : n < 2 ^ 40) (c : Ctx) (hk : Kept [0] c) : aq P c qC.ntmps tJ ⟨aL 0 [.own 0 3 0 n, .func fj []], [(0, eJ n k)], 1⟩ (BY qC kk [.own kk 3 0 (bQ k n)] (eJ n (js k n))) := by
 have hall : ∀ {L : List Nat} {us : List AV}, (∀ j, j < n → fh k j) → jt (aC L us) qC.results.toList = some [.own 0 3 0 n] → zy qC kk [.own kk 3 0 (bQ k n)] (eJ n (js k n)) L (us, [(0, eJ n k)]) := fun h1 h2 =>
  ⟨_, _, h2, ⟨⟨rfl, cF (by simp [aS, look]) rfl (KN h1).1.symm⟩, trivial⟩, y5, rfl, rfl, rfl, rfl, fun i hi => by
   show fo _ (.rat (k i) sK) (.rat (js k n i) sK)
   rw [(SG h1 hi).2]; exact aF rfl⟩
 refine aq.zZ hT jq hm [1,1,0,1] (i := 0) (y := qg) (z := part tJ [1,1,1]) (by kernel_rfl) (by kernel_rfl) (by kernel_rfl) FC.dst hk (f1 := [10]) 60 iB 1 (fun i : Nat => tn n i) (fun _ => [(0, eJ n k)]) (fun i => 1 ≤ i ∧ i ≤ n ∧ ∀ j, j < i → fh k j) (fun i => i = n ∧ ∀ j, j < n → fh k j) (fun i => n - i)
  (zy qC kk [.own kk 3 0 (bQ k n)] (eJ n (js k n)) iB) ⟨_, TE, ?_⟩ (fun i ⟨h1, h2, h3⟩ => ?_) (fun i ⟨h1, h2⟩ => ?_) (fun v s' hv hs' => hv.fin hs')
 ·simp only [aa.all, ay, decide_eq_true_eq, decide_eq_false_iff_not]
  exact ⟨fun h => hall (fun j hj => .inl (by omega)) (by kernel_rfl), fun h => ⟨1, ⟨by omega, by omega, fun j hj => .inl (by omega)⟩, [(0, 0)], rfl, rfl, rfl, bG rfl rfl rfl (fun x hx => aM rfl rfl) trivial⟩⟩
 ·refine aq.uL hT jq hm (y := qg) (x1 := qf) (zb := part qg [1,1]) [1,0] (j := 1) (by kernel_rfl) (by kernel_rfl) (by kernel_rfl) (by kernel_rfl) hk (f1 := [15]) 60 iB 1 (fun _ : Unit => tn n i) (fun _ => [(0, eJ n k)]) (fun _ => i < n) ⟨_, SC, ?_⟩ (fun _ hlt => ?_)
  ·simp only [aa.all, ay, decide_eq_true_eq, decide_eq_false_iff_not]
   exact ⟨fun h => ⟨(), by omega, [(0, 0)], rfl, rfl, rfl, bG rfl rfl rfl (fun x hx => aM rfl rfl) trivial⟩, fun h s' hs' => ⟨rfl, i, ⟨by omega, fun j hj => h3 j (by omega)⟩, eB.le ⟨[(0, 0)], rfl, rfl, rfl, bG rfl rfl rfl (fun x hx => aM rfl rfl) trivial⟩ hs' hk⟩⟩
  refine aq.branch hT jq hm (x := qf) (u := nr) (v := part qf [1,1]) (b := .tmp 28) [1] (by kernel_rfl) (by kernel_rfl) (by kernel_rfl) (by kernel_rfl) hk (f1 := []) 60 xV 1 (fun _ : Unit => CT n i (decide (k i = k (i - 1)))) (fun _ => [(0, eJ n k)]) (fun _ => True) ⟨_, Nk, ?_⟩ (fun _ _ => ⟨decide (k i = k (i - 1)), rfl, fun hb => ?_, fun hb => ?_⟩)
  ·simp only [aa.all, ay]
   simp only [Int.toNat_natCast, Nat.add_zero, show ((i : Int) - 1).toNat = i - 1 by omega]
   exact ⟨⟨⟨by omega, by omega⟩, by omega, by omega, ⟨by omega, by omega⟩, by omega⟩, (), trivial, [(0, 0)], rfl, rfl, rfl, bG rfl rfl rfl (fun x hx => aM rfl rfl) trivial⟩
  ·have hold : ¬ fh k i := fun h => by
    rcases h with h | h
    ·omega
    ·exact h (of_decide_eq_true hb)
   obtain ⟨s1, s2⟩ := O2 h3 hold
   refine aq.zK hT jq hm (x := nr) [1,0,1] (i := 2) (y := part nr [1,0,1,0,0]) (by kernel_rfl) (by kernel_rfl) (by kernel_rfl) hk (f1 := []) (f2 := [35, 49]) 60 uc 1 (fun j : Nat => qp n (bQ k (i + j)) i j) (fun j => [(0, eJ n (gh k (i + j)))]) (fun j => 1 ≤ j ∧ i + j ≤ n) (fun j => i + j = n) (fun j => n - j) (fun _ => False) ⟨_, aaY, ?_⟩ (fun j ⟨j1, j2⟩ => ⟨_, To, ?_⟩) (fun j s' hj hle => ?_) (fun _ _ h => h.elim)
   ·simp only [aa.all, ay]
    simp only [Int.toNat_natCast, Nat.zero_add]
    refine ⟨by omega, 1, ⟨by omega, by omega⟩, [(0, 0)], rfl, ?_, rfl, bG rfl rfl rfl (fun x hx => aM rfl ?_) trivial⟩
    ·show _ = (qp n (bQ k (i + 1)) i 1).map _
     rw [s1]; rfl
    ·rw [s2]
   ·simp only [aa.all, ay, decide_eq_true_eq, decide_eq_false_iff_not]
    have hd := Kt hold (l := i + j) (by omega)
    have e1 : gh k (i + j) (j + i) = k (i + j) := by rw [Nat.add_comm j i]; exact Km (by omega)
    have e2 : gh k (i + j) (((j : Int) - 1).toNat + i) = k (i + j - 1) := by rw [show ((j : Int) - 1).toNat + i = i + j - 1 by omega]; exact Km (by omega)
    simp only [Int.toNat_natCast, Nat.add_zero, e1, e2, Bool.not_eq_true', Bool.not_eq_false', decide_eq_true_eq, decide_eq_false_iff_not]
    refine ⟨fun h => ⟨by omega, fun hne => ⟨by omega, by omega, by omega, j + 1, by omega, by dsimp only; omega, [(0, 0)], rfl, ?_, rfl, bG rfl rfl rfl (fun x hx => ?_) trivial⟩, fun heq => ⟨by omega, j + 1, by omega, by dsimp only; omega, [(0, 0)], rfl, ?_, rfl, bG rfl rfl rfl (fun x hx => ?_) trivial⟩⟩, fun h => ⟨rfl, j, by omega, [(0, 0)], rfl, rfl, rfl, bG rfl rfl rfl (fun x hx => aM rfl rfl) trivial⟩⟩
    ·show _ = (qp n (bQ k (i + j + 1)) i (j + 1)).map _
     rw [PU (l := i + j) (.inr hne)]; rfl
    ·refine .inr ⟨rfl, cm ?_ (by cases (x == bQ k (i + j)) <;> exact Nat.le_refl _)⟩
     show _ = gh k (i + j + 1) x
     rw [Sv (.inr hne) (by omega)]
     by_cases hx2 : x = bQ k (i + j)
     ·subst hx2; simp
     ·have : (x == bQ k (i + j)) = false := by simpa using hx2
      rw [this, if_neg hx2]; rfl
    ·have hold2 : ¬ fh k (i + j) := fun h => by
      rcases h with h | h
      ·omega
      ·exact h heq
     show _ = (qp n (bQ k (i + j + 1)) i (j + 1)).map _
     rw [Ko hold2]; rfl
    ·have hold2 : ¬ fh k (i + j) := fun h => by
      rcases h with h | h
      ·omega
      ·exact h heq
     exact aM rfl (by show _ = AV.rat (gh k (i + j + 1) x) sK; rw [(QV hold2).2])
   ·rw [show behind nr [1,0,1] = [part nr [1,1]] from by kernel_rfl]
    refine aB.weak rfl hle (aB.aX hT jq hm 60 iB UR (by kernel_rfl) ?_)
    simp only [aa.all, ay]
    rw [hj]
    have hd := qO (k := k) (n := n)
    simp only [Int.toNat_natCast, Nat.zero_add]
    refine ⟨by omega, by omega, fun s' hs' => ⟨_, ⟨[.own 0 3 0 (bQ k n)], ⟨true, true, 3, n, fun i => if bQ k n ≤ i ∧ i < bQ k n + (n - bQ k n) then .rat 0 1 else .rat (gh k n i) sK⟩, by kernel_rfl, ⟨⟨rfl, cF (by simp [aS, look]) rfl rfl⟩, trivial⟩, rfl, ⟨rfl, rfl, rfl, rfl, fun x hx => ?_⟩⟩, hs'⟩⟩
    have hx : x < n := hx
    refine kJ (Cb rfl rfl) ?_
    show bA (if _ then _ else _) (.rat (js k n x) sK)
    unfold js
    by_cases h : x < bQ k n
    ·rw [if_neg (by omega), if_pos h]
     exact cI (by unfold gh; rw [if_pos h])
    ·rw [if_pos (by omega), if_neg h]
     exact ew (by decide)
  ·have hnew : fh k i := .inr (of_decide_eq_false hb)
   refine aq.tail (fun s' hh => by have := hh.1; omega) (aB.aX hT jq hm 60 iB K4 (by kernel_rfl) ?_)
   simp only [aa.all, ay]
   refine ⟨by omega, fun s' hs' => ⟨i + 1, ⟨by omega, by omega, fun j hj => ?_⟩, by dsimp only; omega, eB.le ⟨[(0, 0)], rfl, rfl, rfl, bG rfl rfl rfl (fun x hx => aM rfl rfl) trivial⟩ hs' hk⟩⟩
   by_cases he : j = i
   ·subst he; exact hnew
   ·exact h3 j (by omega)
 ·subst h1
  refine aq.aX hT jq hm 60 iB Q6 (by kernel_rfl) ?_
  simp only [aa.all, ay]
  exact fun s' hs' => (hall h2 (by kernel_rfl)).fin hs'
def BM (f : Nat → AV) (n s : Nat) : Prop := ∀ i, i < n → keys (f i) = [] ∧ bA (f i) (.rat (bp (f i)) s)
theorem X8 {k : Nat → Rat} {n s s' : Nat} (h : s ≤ s') : BM (fun i => .rat (k i) s) n s' := fun _ _ => ⟨rfl, ew h⟩
def Cf : Spec := fun _ args pre => match args, pre with
 | [.own k 3 0 n, .func g []], [(k', ⟨true, true, 3, m, f⟩)] => match Nat.beq g fj && k' == k with
  | true => some ⟨jn [.own k 3 0 (bQ (fun i => bp (f i)) n)], [(k, eJ n (js (fun i => bp (f i)) n))], [m = n, BM f n sK, n < 2 ^ 40]⟩
  | false => none
 | _, _ => none
theorem Zw : ∀ K args pre r, Cf K args pre = some r → aA P zH K args pre r := by
 intro K args pre r h
 unfold Cf at h
 split at h
 ·rename_i k n g k' m f
  split at h
  ·rename_i hc
   simp only [Bool.and_eq_true, beq_iff_eq] at hc
   obtain ⟨h1, h2⟩ := hc
   have h1 := Nat.eq_of_beq_eq_true h1
   subst h1 h2
   simp only [Option.some.injEq] at h
   subst h
   intro need
   have h0 := need
   obtain ⟨rfl, n1, n2⟩ := need
   exact RM hT FC (rest := [.func fj []]) (o2 := ⟨true, true, 3, m, f⟩) (o := eJ m fun i => bp (f i)) rfl rfl (of_decide_eq_true (by kernel_rfl)) (fun ρ => ⟨rfl, rfl, rfl, rfl, fun i hi => kJ (n1 i hi).1 (n1 i hi).2⟩) (fun _ c hk => XT n2 c hk) K h0
  ·simp at h
 ·simp at h
end Go.Am.B

/- fP.Distinct, ref08.Distinct, slices.IsSortedFunc of numbers. -/
namespace Go.Am.B
open Go Go.Am.N AV aa aj IntKind
theorem SJ : aO P sq tS (ax tS) := aP ZJ (by kernel_rfl) (by kernel_rfl) (by kernel_rfl)
noncomputable abbrev ug : Code := ax tS
abbrev sn : List Nat := [4, 0, 1, 5]
abbrev Ct (n : Nat) (k : Nat → Rat) (i : Nat) : List AV := [.bool false, ls k n, .func iy [], .int .i64 ((i : Int) - 1)]
noncomputable def HX : aQ := [(l6, FK), (zH, Cf)]
theorem M8 {n : Nat} {k : Nat → Rat} : aI T fl [] 60 sn (before ug [1,0,1]) ⟨aL 0 [ls k n, .func iy []], [], 0⟩ =
  let c1 : Int := (↑n : Int) - (1 : Int); some (ag [-(2 : Int) ^ 63 ≤ c1 ∧ c1 < (2 : Int) ^ 63] (leaf normal ([AV.bool false, ak 3 n fun i ↦ rat (k i) 4096, func iy [], int i64 c1], []))) := by kernel_rfl
theorem UU {n i : Nat} {k : Nat → Rat} : aI T fl [10, 24] 60 sn [part ug [1,0,1,0,0]] ⟨aC sn (Ct n k i), [], 1⟩ =
  let c5 : AV := ak 3 n fun i ↦ rat (k i) 4096; let c4 : Int := (2 : Int) ^ 63; let c1 : Int := (↑i : Int) - (1 : Int); let c3 : List AV := [AV.bool false, c5, func iy [], int i64 c1]; let c2 : Int := c1 - (1 : Int); let c6 : Int := ef (k c1.toNat) (k c2.toNat); some (fork (decide (c1 > (0 : Int))) (ag [(0 : Int) ≤ c1 ∧ c1.toNat < n, -c4 ≤ c2 ∧ c2 < c4, (0 : Int) ≤ c2 ∧ c2.toNat < n] (fork (decide (c6 < (0 : Int))) (leaf ret (c3, [])) (ag [-c4 ≤ c2 ∧ c2 < c4] (leaf normal ([AV.bool false, c5, func iy [], int i64 c2], []))))) (leaf (exit 0) (c3, []))) := by kernel_rfl
theorem aao {n i : Nat} {k : Nat → Rat} : cq T fl [] 60 tS [part ug [1,1]] ⟨aC sn (Ct n k i), [], 1⟩ =
  some (leaf ret [AV.bool true]) := by kernel_rfl
theorem ZN {n : Nat} {k : Nat → Rat} : bB T HX [] 60 uU (ax uU) ⟨aL 0 [bI k n sJ], [], 0⟩ =
  let c1 : Prop := n < 2 ^ 40; some (ag [cz (fun i ↦ rat (k i) sJ) n sJ, c1, n = n, BM (fun i ↦ rat (bp (rat (k i) sJ)) sK) n sK, c1] (leaf ret [ak 3 (bQ (fun i ↦ bp (rat (bp (rat (k i) sJ)) sK)) n) fun i ↦ rat (js (fun i ↦ bp (rat (bp (rat (k i) sJ)) sK)) n (i + 0)) 4096])) := by kernel_rfl
def kF (g : FuncId) : Kind Unit := ⟨fun v => match v with
 | .func f [] => match Nat.beq f g with
  | true => some ((), [])
  | false => none
 | _ => none, fun _ => .func g [], fun {v a q} h _ => by
  split at h
  ·split at h
   ·rename_i hb
    rw [Nat.eq_of_beq_eq_true hb]; exact .refl _
   ·simp at h
  ·simp at h⟩
noncomputable def mu (p : Prop) : Bool := @decide p (Classical.propDecidable p)
theorem Lx {p : Prop} (h : p) : mu p = true := @decide_eq_true p (Classical.propDecidable p) h
theorem UF {p : Prop} (h : ¬ p) : mu p = false := @decide_eq_false p (Classical.propDecidable p) h
theorem OY {p : Prop} (h : mu p = true) : p := @of_decide_eq_true p (Classical.propDecidable p) h
theorem UZ {p : Prop} (h : mu p = false) : ¬ p := @of_decide_eq_false p (Classical.propDecidable p) h
theorem RP {n : Nat} {k : Nat → Rat} (hn : n < 2 ^ 40) (K : Nat) : aA P sq K [ls k n, .func iy []] [] (aG (.bool (mu (oM n k))) []) := by
 refine gV (r := aG (.bool (mu (oM n k))) []) hT jq hm SJ rfl (of_decide_eq_true (by kernel_rfl)) rfl [1,0,1] (i := 0) (y := part ug [1,0,1,0,0]) (z := part ug [1,1]) (by kernel_rfl) (by kernel_rfl) (by kernel_rfl) (f1 := []) (f2 := [10, 24]) (f3 := []) 60 sn 1
  (fun i : Nat => Ct n k i) (fun _ => []) (fun i => i ≤ n ∧ ∀ j, i ≤ j + 1 → j + 1 < n → k j ≤ k (j + 1)) (fun _ => oM n k) (fun i => i) (fun _ => ⟨⟨_, M8, ?_⟩, fun i ⟨h1, h2⟩ => ⟨_, UU, ?_⟩, fun i hi => ⟨_, aao, ?_⟩⟩) K []
 ·simp only [aa.all, ay]
  exact ⟨by omega, n, ⟨Nat.le_refl _, fun j h1 h2 => by omega⟩, eB.vals rfl⟩
 ·simp only [aa.all, ay, decide_eq_true_eq, decide_eq_false_iff_not, lX]
  refine ⟨fun h => ⟨by omega, fun hlt => ⟨[.bool false], by kernel_rfl, eO ?_⟩, fun hle => ⟨by omega, i - 1, ⟨by omega, fun j g1 g2 => ?_⟩, by dsimp only; omega, [], rfl, ?_, rfl, trivial⟩⟩, fun h => ⟨rfl, i, fun j hj => h2 j (by omega) hj, [], rfl, rfl, rfl, trivial⟩⟩
  ·refine (UF fun hs => ?_).symm
   have := hs (i - 2) (by omega)
   rw [show ((i : Int) - 1).toNat = i - 2 + 1 by omega, show ((i : Int) - 1 - 1).toNat = i - 2 by omega] at hlt
   grind
  ·by_cases he : j + 2 = i
   ·rw [show ((i : Int) - 1).toNat = j + 1 by omega, show ((i : Int) - 1 - 1).toNat = j by omega] at hle
    grind
   ·exact h2 j (by omega) g2
  ·show _ = [_, _, _, AV.int .i64 (((i - 1 : Nat) : Int) - 1)]
   rw [show ((i - 1 : Nat) : Int) - 1 = (i : Int) - 1 - 1 by omega]; rfl
 ·simp only [aa.all, ay]
  exact eO (Lx hi).symm
noncomputable def GV : Spec := dn (kC (kL sK) (kC (kF iy) kN)) (fun a => .bool (mu (oM a.1.1 a.1.2))) fun a => [a.1.1 < 2 ^ 40]
theorem Nv : ∀ K args pre r, GV K args pre = some r → aA P sq K args pre r := dD fun ⟨⟨n, k⟩, _, _⟩ K hn => RP hn K
noncomputable def Hw : Spec := dn (kC (kL sJ) kN) (fun a => ls (cS a.1.2 a.1.1) (bQ a.1.2 a.1.1)) fun a => [a.1.1 < 2 ^ 40]
theorem Qp : bg P HX := aH abN (aH Zw bn)
theorem Yz : ∀ K args pre r, Hw K args pre = some r → aA P zC K args pre r := dD fun ⟨⟨n, k⟩, _⟩ K hn => by
 have hn : n < 2 ^ 40 := hn
 refine bH (r := aG (ls (cS k n) (bQ k n)) []) hT Qp hm YQ rfl (of_decide_eq_true (by kernel_rfl)) rfl 60 ZN (fun _ => ?_) K []
 simp only [aa.all, ay]
 exact ⟨⟨ej (Nat.le_refl _), hn, trivial, X8 (Nat.le_refl _), hn⟩, wD rfl fun i hi => by
  show AV.rat (js k n (i + 0)) sK = _
  have hi : i < bQ k n := hi
  rw [Nat.add_zero]; unfold js; rw [if_pos hi]⟩
end Go.Am.B

/- fP.Check, ref08.Check. -/
namespace Go.Am.B
open Go Go.Am.N AV aa aj IntKind
theorem Sg : aO P qG nA (ax nA) := aP PF (by kernel_rfl) (by kernel_rfl) (by kernel_rfl)
noncomputable def za : aQ := (sq, GV) :: (zC, Hw) :: (qU, C8) :: x7
noncomputable abbrev uO : Code := ax nA
abbrev oq : List Nat := [0, 1, 4, 48, 49, 50]
abbrev CD (n : Nat) (k : Nat → Rat) (p : Int) (d : Nat) (f : Nat → Rat) (i : Nat) : List AV := [bI k n sJ, .int .i64 p, .int .i64 0, bI f d sK, .int .i64 d, .int .i64 i]
theorem abj {n : Nat} {k : Nat → Rat} {p : Int} : aI T za [18, 15, 22, 29, 35, 46] 60 oq (before uO [1,1,1,0,1]) ⟨aL 0 [bI k n sJ, .int .i64 p], [], 0⟩ =
  let c16 : Int := (↑n : Int); let c15 : Prop := cz (fun i ↦ rat (k i) sJ) n sK; let c14 : Nat := Int.toNat (0 : Int); let c13 : Nat := bQ (fun i ↦ bp (rat (k i) sJ)) n; let c11 : Bool := decide (p < (1 : Int)); let c10 : Int := i64.wrap (i64.wrap ((2 : Int) * p) + (2 : Int)); let c9 : Prop := n < 2 ^ 40; let c7 : List AV := [tuple [], tuple [], tuple []]; let c6 : Bool := !mu (oM n fun i ↦ bp (rat (k i) sJ)); let c3 : AV := ak 3 n fun i ↦ rat (k i) 4000; let c12 : List AV := c3 :: int i64 p :: int i64 (1 : Int) :: c7; let c8 : Int := i64.wrap (i64.wrap (c16 - p) - (1 : Int)); let c5 : Int := i64.wrap (c16 - (1 : Int)); let c4 : aa (List AV × aD) := leaf ret (c3 :: int i64 p :: int i64 (5 : Int) :: c7, []); let c2 : aa (List AV × aD) := ag [cz (fun i ↦ rat (k i) sJ) n sJ, c9] (leaf normal ([c3, int i64 p, int i64 (0 : Int), ak 3 c13 fun i ↦ rat (cS (fun i ↦ bp (rat (k i) sJ)) n i) 4096, int i64 (↑c13 : Int), int i64 (0 : Int)], [])); let c1 : aa (List AV × aD) := fork (decide (c16 < c10)) c4 (fork (decide (c8 > (40 : Int))) (leaf ret (c3 :: int i64 p :: int i64 (2 : Int) :: c7, [])) (fork c6 (ag [c15, c9, c6 = true] (fork true c4 c2)) (ag [c15, c9, c6 = false, (0 : Int) ≤ (0 : Int) ∧ c14 < n, (0 : Int) ≤ c5 ∧ c5.toNat < n] (fork (bif false then true else decide (k c14 = k c5.toNat)) c4 c2)))); some (fork c11 (ag [c11 = true] (fork true (leaf ret (c12, [])) c1)) (ag [c11 = false] (fork (bif false then true else decide (p > (6 : Int))) (leaf ret (c12, [])) c1))) := by kernel_rfl
theorem P7 {n d i : Nat} {k f : Nat → Rat} {p : Int} : aI T za [51, 62, 73, 79, 82, 87] 60 oq [part uO [1,1,1,0,1,0,0]] ⟨aC oq (CD n k p d f i), [], 1⟩ =
  let c18 : Int := (↑d : Int); let c16 : Prop := false = false; let c13 : Int := (↑i : Int); let c12 : Prop := 0 < 1; let c11 : AV := ak 3 d fun i ↦ rat (f i) 4096; let c10 : AV := ak 3 n fun i ↦ rat (k i) 4000; let c9 : Int := i64.wrap ((↑n : Int) - (1 : Int)); let c8 : Nat := Int.toNat (0 : Int); let c17 : Prop := (0 : Int) ≤ (0 : Int) ∧ c8 < n; let c14 : List AV := [c11, int i64 c18, int i64 c13]; let c7 : Rat := f c13.toNat; let c1 : aa (List AV × aD) := leaf normal ([c10, int i64 p, int i64 (0 : Int), c11, int i64 c18, int i64 (i64.wrap (c13 + (1 : Int)))], []); let c15 : Bool := decide (c7 = k c8); let c4 : Int := (↑(dA (fun i ↦ bp (rat (k i) sJ)) c7 n) : Int); let c3 : Bool := bif false then true else decide (c7 = k c9.toNat); let c2 : aa (List AV × aD) := leaf ret (c10 :: int i64 p :: int i64 (5 : Int) :: c14, []); let c6 : aa (List AV × aD) := fork (bif false then true else bif true then decide (c4 > p) else false) c2 c1; let c5 : Bool := bif true then c4 != i64.wrap (p + (1 : Int)) else false; some (fork (decide (c13 < c18)) (ag [(0 : Int) ≤ c13 ∧ c13.toNat < d, c12] (ag [c12, cz (fun i ↦ rat (k i) sJ) n sK, sK ≤ sK, n < 2 ^ 40] (fork c15 (ag [c12, c17, c15 = true] (fork true (fork c5 (ag [true = true, c5 = true] (fork true c2 c1)) (fork false (ag [true = true, c5 = false, (!true) = true] c6) (ag [true = true, c5 = false, (!true) = false] (fork false c2 c1)))) (fork false (ag [true = false, false = true] (fork true c2 c1)) (fork false (ag [true = false, c16, (!true) = true] c6) (ag [true = false, c16, (!true) = false] (fork false c2 c1)))))) (ag [c12, c17, c15 = false, c12, (0 : Int) ≤ c9 ∧ c9.toNat < n] (fork c3 (fork c5 (ag [c3 = true, c5 = true] (fork true c2 c1)) (fork (!c3) (ag [c3 = true, c5 = false, (!c3) = true] c6) (ag [c3 = true, c5 = false, (!c3) = false] (fork false c2 c1)))) (fork false (ag [c3 = false, false = true] (fork true c2 c1)) (fork (!c3) (ag [c3 = false, c16, (!c3) = true] c6) (ag [c3 = false, c16, (!c3) = false] (fork false c2 c1))))))))) (leaf (exit 1) (c10 :: int i64 p :: int i64 (0 : Int) :: c14, []))) := by kernel_rfl
theorem Pe {n d i : Nat} {k f : Nat → Rat} {p : Int} : cq T za [] 60 nA [part uO [1,1,1,1]] ⟨aC oq (CD n k p d f i), [], 1⟩ =
  some (leaf ret [int i64 (0 : Int)]) := by kernel_rfl
theorem ZA : bg P za := aH Nv (aH Yz (aH I9 Dy))
def pP (n : Nat) (p : Int) : Prop := 1 ≤ p ∧ p ≤ 6 ∧ 2 * p + 2 ≤ (n : Int) ∧ (n : Int) - p - 1 ≤ 40
theorem PZ {n : Nat} {k : Nat → Rat} {p : Int} (hn : n < 2 ^ 40) (K : Nat) : aA P qG K [bI k n sJ, .int .i64 p] [] (aG (.int .i64 (fm n k p)) []) := by
 refine gV (r := aG (.int .i64 (fm n k p)) []) hT ZA hm Sg rfl (of_decide_eq_true (by kernel_rfl)) rfl [1,1,1,0,1] (i := 1) (y := part uO [1,1,1,0,1,0,0]) (z := part uO [1,1,1,1]) (by kernel_rfl) (by kernel_rfl) (by kernel_rfl) (f1 := [18, 15, 22, 29, 35, 46]) (f2 := [51, 62, 73, 79, 82, 87]) (f3 := []) 60 oq 1
  (fun i : Nat => CD n k p (bQ k n) (cS k n) i) (fun _ => []) (fun i => i ≤ bQ k n ∧ pP n p ∧ oM n k ∧ k 0 ≠ k (n - 1) ∧ ∀ j, j < i → ¬ iQ n k p.toNat (cS k n j)) (fun _ => pP n p ∧ oE n k p.toNat) (fun i => bQ k n - i) (fun _ => ⟨⟨_, abj, ?_⟩, fun i ⟨h1, h2, h3, h4, h5⟩ => ⟨_, P7, ?_⟩, fun i ⟨h1, h2⟩ => ⟨_, Pe, ?_⟩⟩) K []
 ·have r : ∀ {e : Int} {u : AV}, fm n k p = e → lT nA oq (.int .i64 (fm n k p)) ([u, .int .i64 p, .int .i64 e, .tuple [], .tuple [], .tuple []], []) := fun h => ⟨[.int .i64 _], by kernel_rfl, bq h.symm⟩
  by_cases hp : 1 ≤ p ∧ p ≤ 6
  ·have e1 : i64.wrap (i64.wrap (2 * p) + 2) = 2 * p + 2 := by rw [wrap_i64 (show -2 ^ 63 ≤ 2 * p by omega) (by omega)]; exact wrap_i64 (by omega) (by omega)
   have e2 : i64.wrap (i64.wrap ((n : Int) - p) - 1) = (n : Int) - p - 1 := by rw [wrap_i64 (show -2 ^ 63 ≤ (n : Int) - p by omega) (by omega)]; exact wrap_i64 (by omega) (by omega)
   have e3 : i64.wrap ((n : Int) - 1) = (n : Int) - 1 := wrap_i64 (by omega) (by omega)
   have e5 : ((n : Int) - 1).toNat = n - 1 := by omega
   simp only [aa.all, ay, decide_eq_true_eq, decide_eq_false_iff_not, Bool.not_eq_true', Bool.not_eq_false', cond_true, cond_false, Int.toNat_natCast, Int.toNat_zero, pX, e1, e2, e3, e5]
   (repeat' with_reducible first | refine And.intro ?_ ?_ | intro _)
   all_goals first | exact absurd ‹true = false› (by decide) | exact absurd ‹false = true› (by decide) | omega | (exfalso; omega) | exact ej (by decide) | assumption | exact r (abp (by omega) (by omega)) | exact r (abk (by omega) (by omega) (by omega)) | exact r (BP (by omega) (by omega) (by omega) fun h => UZ ‹_› h.1) | exact r (BP (by omega) (by omega) (by omega) fun h => h.2.1 ‹_›) | exact ⟨0, ⟨Nat.zero_le _, ⟨by omega, by omega, by omega, by omega⟩, OY ‹_›, ‹_›, fun j hj => absurd hj (Nat.not_lt_zero j)⟩, eB.vals rfl⟩ | skip
   skip
  ·simp only [aa.all, ay, decide_eq_true_eq, decide_eq_false_iff_not, Bool.not_eq_true', Bool.not_eq_false', cond_true, cond_false, Int.toNat_natCast]
   (repeat' with_reducible first | refine And.intro ?_ ?_ | intro _)
   all_goals first | exact absurd ‹true = false› (by decide) | exact absurd ‹false = true› (by decide) | omega | (exfalso; omega) | exact r (Oh (by omega)) | skip
   skip
 ·obtain ⟨q, rfl⟩ : ∃ q : Nat, p = (q : Int) := ⟨p.toNat, by have := h2.1; omega⟩
  have hq := h2
  unfold pP at hq
  have e1 : i64.wrap ((q : Int) + 1) = ((q + 1 : Nat) : Int) := by rw [wrap_i64 (by omega) (by omega)]; rfl
  have e2 : i64.wrap ((i : Int) + 1) = ((i + 1 : Nat) : Int) := by rw [wrap_i64 (by omega) (by have := qO (k := k) (n := n); omega)]; rfl
  have e3 : i64.wrap ((n : Int) - 1) = (n : Int) - 1 := wrap_i64 (by omega) (by omega)
  have e5 : ((n : Int) - 1).toNat = n - 1 := by omega
  simp only [Int.toNat_natCast] at h5
  have hd := qO (k := k) (n := n)
  have r : ∀ {u v w x y : AV}, iQ n k q (cS k n i) → i < bQ k n → lT nA oq (.int .i64 (fm n k q)) ([u, v, .int .i64 5, w, x, y], []) := fun h hi => ⟨[.int .i64 5], by kernel_rfl, bq (BP (by omega) (by omega) (by omega) fun hk => hk.2.2 i hi (by rw [Int.toNat_natCast]; exact h)).symm⟩
  have nx : ¬ iQ n k q (cS k n i) → i < bQ k n → ∀ j, j < i + 1 → ¬ iQ n k q (cS k n j) := fun h hi j hj => by
   by_cases he : j = i
   ·subst he; exact h
   ·exact h5 j (by omega)
  simp only [aa.all, ay, decide_eq_true_eq, decide_eq_false_iff_not, Bool.not_eq_true', Bool.not_eq_false', cond_true, cond_false, Int.toNat_natCast, Int.toNat_zero, pX, e1, e2, e3, e5, bne_iff_ne, bne_eq_false_iff_eq, ne_eq]
  obtain ⟨c, hc⟩ : ∃ c, dA k (cS k n i) n = c := ⟨_, rfl⟩
  have hc' : dA (fun i => k i) (cS k n i) n = c := hc
  simp only [hc']
  have b1 : cS k n i = k 0 → c ≠ q + 1 → iQ n k q (cS k n i) := fun h1 h2 => .inl ⟨.inl h1, by rw [hc]; exact h2⟩
  have b2 : cS k n i = k (n - 1) → c ≠ q + 1 → iQ n k q (cS k n i) := fun h1 h2 => .inl ⟨.inr h1, by rw [hc]; exact h2⟩
  have b3 : ¬ cS k n i = k 0 → ¬ cS k n i = k (n - 1) → q < c → iQ n k q (cS k n i) := fun h1 h2 h3 => .inr ⟨fun h => h.elim h1 h2, by rw [hc]; exact h3⟩
  have g1 : cS k n i = k 0 → c = q + 1 → ¬ iQ n k q (cS k n i) := by
   rintro h1 h2 (⟨_, h3⟩ | ⟨h3, _⟩)
   ·exact h3 (by rw [hc]; exact h2)
   ·exact h3 (.inl h1)
  have g2 : cS k n i = k (n - 1) → c = q + 1 → ¬ iQ n k q (cS k n i) := by
   rintro h1 h2 (⟨_, h3⟩ | ⟨h3, _⟩)
   ·exact h3 (by rw [hc]; exact h2)
   ·exact h3 (.inr h1)
  have g3 : ¬ cS k n i = k 0 → ¬ cS k n i = k (n - 1) → c ≤ q → ¬ iQ n k q (cS k n i) := by
   rintro h1 h2 h3 (⟨h4, _⟩ | ⟨_, h4⟩)
   ·exact h4.elim h1 h2
   ·rw [hc] at h4; omega
  clear hc hc'
  (repeat' with_reducible first | refine And.intro ?_ ?_ | intro _)
  all_goals first | exact absurd ‹true = false› (by decide) | exact absurd ‹false = true› (by decide) | omega | (exfalso; omega) | exact ej (by decide) | assumption | skip
  all_goals first
   | exact absurd ‹cS k n i = k (n - 1)› ‹_›
   | exact ⟨rfl, i, ⟨h2, h3, h4, fun j hj => h5 j (by omega)⟩, eB.vals rfl⟩
   | exact r (b1 ‹_› (by omega)) (by omega)
   | exact r (b2 ‹_› (by omega)) (by omega)
   | exact r (b3 ‹¬ _ = k 0› ‹_› (by have := of_decide_eq_true ‹decide _ = true›; omega)) (by omega)
   | exact ⟨i + 1, ⟨by omega, h2, h3, h4, nx (g1 ‹_› (by omega)) (by omega)⟩, by dsimp only; omega, eB.vals rfl⟩
   | exact ⟨i + 1, ⟨by omega, h2, h3, h4, nx (g2 ‹_› (by omega)) (by omega)⟩, by dsimp only; omega, eB.vals rfl⟩
   | exact ⟨i + 1, ⟨by omega, h2, h3, h4, nx (g3 ‹¬ _ = k 0› ‹_› (by have := of_decide_eq_false ‹decide _ = false›; omega)) (by omega)⟩, by dsimp only; omega, eB.vals rfl⟩
 ·simp only [aa.all, ay]
  exact bq (Qv (by have := h1; unfold pP at this; omega) (by have := h1; unfold pP at this; omega) (by have := h1; unfold pP at this; omega) h2).symm
noncomputable def B0 : Spec := dn (kC (kL sJ) (kC kI kN)) (fun a => .int .i64 (fm a.1.1 a.1.2 a.2.1)) fun a => [a.1.1 < 2 ^ 40]
theorem FN : ∀ K args pre r, B0 K args pre = some r → aA P qG K args pre r := dD fun ⟨⟨n, k⟩, p, _⟩ K hn => PZ hn K
end Go.Am.B

/- Poles, lists of vH, curves, surfaces as arguments. -/
namespace Go.Am.B
open Go Go.Am.N AV
def jH : AV → Pl
 | .agg [.agg [x, y, z], w] => ⟨⟨bp x, bp y, bp z⟩, bp w⟩
 | _ => ⟨⟨0, 0, 0⟩, 0⟩
def jv (f : Nat → AV) (n s : Nat) : Prop := ∀ i, i < n → bA (f i) (cY (jH (f i)) s)
abbrev lN (f : Nat → Pl) (n s : Nat) : AV := .ak 12 n (fun i => cY (f i) s)
theorem CC {u v : Pl} {n k : Nat} (h : u = v) (hk : n ≤ k) : bA (cY u n) (cY v k) :=
 h ▸ ee ⟨yc rfl hk, cm rfl hk, trivial⟩
theorem lG {f : Nat → Pl} {n s s' : Nat} (h : s ≤ s') : jv (fun i => cY (f i) s) n s' := fun _ _ => CC rfl h
def pO : AV → Option (Nat × (Nat → AV))
 | .ak 12 n f => some (n, f)
 | .nil => some (0, fun _ => .nil)
 | _ => none
theorem Tl {v : AV} {n s : Nat} {f : Nat → AV} (h : pO v = some (n, f)) (ha : jv f n s) : bA v (lN (fun i => jH (f i)) n s) := by
 unfold pO at h
 split at h
 ·simp only [Option.some.injEq, Prod.mk.injEq] at h
  obtain ⟨rfl, rfl⟩ := h
  exact k8 ha
 ·simp only [Option.some.injEq, Prod.mk.injEq] at h
  obtain ⟨rfl, rfl⟩ := h
  exact jf (by omega)
 ·simp at h
def yo (s : Nat) : Kind (Nat × (Nat → Pl)) := ⟨fun v => match pO v with
 | some (n, f) => some ((n, fun i => jH (f i)), [jv f n s])
 | none => none, fun a => lN a.2 a.1 s, fun {v a q} h hq => by
  split at h
  ·rename_i h1
   simp only [Option.some.injEq, Prod.mk.injEq] at h
   obtain ⟨rfl, rfl⟩ := h
   exact Tl h1 hq
  ·simp at h⟩
abbrev cV (h : Pl) (s : Nat) : AV := .agg [.rat h.n.x s, .rat h.n.y s, .rat h.n.z s, .rat h.d s]
def D1 (s : Nat) : Kind Pl := ⟨fun v => match v with
 | .agg [x, y, z, w] => match gG x, gG y, gG z, gG w with
  | some (x, a), some (y, b), some (z, c), some (w, d) => some (⟨⟨x, y, z⟩, w⟩, [a ≤ s, b ≤ s, c ≤ s, d ≤ s])
  | _, _, _, _ => none
 | _ => none, fun a => cV a s, fun {v a q} h hq => by
  split at h
  ·split at h
   ·rename_i h1 h2 h3 h4
    simp only [Option.some.injEq, Prod.mk.injEq] at h
    obtain ⟨rfl, rfl⟩ := h
    exact ee ⟨(iz h1).trans (cm rfl hq.1), (iz h2).trans (cm rfl hq.2.1), (iz h3).trans (cm rfl hq.2.2.1), (iz h4).trans (cm rfl hq.2.2.2), trivial⟩
   ·simp at h
  ·simp at h⟩
structure Cu where
 p : Int
 n : Nat
 k : Nat → Rat
 m : Nat
 f : Nat → Pl
abbrev eV (c : Cu) (s r : Nat) : AV := .agg [.int .i64 c.p, bI c.k c.n s, lN c.f c.m r]
def mQ (s r : Nat) : Kind Cu := ⟨fun v => match v with
 | .agg [p, k, f] => match kI.read p, (kL s).read k, (yo r).read f with
  | some (p, q1), some ((n, k), q2), some ((m, f), q3) => some (⟨p, n, k, m, f⟩, q1 ++ (q2 ++ q3))
  | _, _, _ => none
 | _ => none, fun a => eV a s r, fun {v a q} h hq => by
  split at h
  ·split at h
   ·rename_i h1 h2 h3
    simp only [Option.some.injEq, Prod.mk.injEq] at h
    obtain ⟨rfl, rfl⟩ := h
    obtain ⟨q1, hq⟩ := dy.1 hq
    obtain ⟨q2, q3⟩ := dy.1 hq
    exact ee ⟨kI.ok h1 q1, (kL s).ok h2 q2, (yo r).ok h3 q3, trivial⟩
   ·simp at h
  ·simp at h⟩
structure Sf where
 u : Int
 v : Int
 a : Nat
 ku : Nat → Rat
 b : Nat
 kv : Nat → Rat
 n : Nat
 m : Nat
 f : Nat → Nat → Pl
theorem Oy {rl : List (Nat × Nat)} {l i s s' s2 : Nat} {x y : Nat → Pl} {t : AV} {z : AV} (hx : ∀ i, i < l → x i = y i) (ht : bA t (cY (y l) s')) (hk : keys t = []) (h1 : s ≤ s2) (h2 : s' ≤ s2) (hi : i < l + 1) :
  fN rl (if i < l then cY (x i) s else nth [t] z (i - l + 0)) (cY (y i) s2) := by
 by_cases h : i < l
 ·rw [if_pos h, hx i h]; exact .inr ⟨rfl, CC rfl h1⟩
 ·have : i = l := by omega
  subst this
  rw [if_neg h, Nat.sub_self]
  exact .inr ⟨hk, ht.trans (CC rfl h2)⟩
end Go.Am.B

/- ref02: Valid, Valids, Bits; ref04.Valid; ref10: Short, shortPoles. -/
namespace Go.Am.B
open Go Go.Am.N AV aa aj IntKind
end Go.Am.B

/- ref09: part, function, Values. -/
namespace Go.Am.B
open Go Go.Am.N AV aa aj IntKind
end Go.Am.B

/- ref10: Lift, Homogeneous, Drop, Eval. -/
namespace Go.Am.B
open Go Go.Am.N AV aa aj IntKind
abbrev sH : Nat := 2147483648
abbrev sE : Nat := 4294967298
def Ab (h : Pl) : V3 := ⟨((1 : Int) : Rat) / h.d * h.n.x, ((1 : Int) : Rat) / h.d * h.n.y, ((1 : Int) : Rat) / h.d * h.n.z⟩
abbrev jD (h : Pl) (s : Nat) : az := ⟨false, true, 12, 1, fun _ => cV h s⟩
def SH (c : Cu) (x : Nat → Rat) (b j : Nat) : Pl :=
 ⟨⟨bz j fun j => x j * ((c.f (b + j)).d * (c.f (b + j)).n.x), bz j fun j => x j * ((c.f (b + j)).d * (c.f (b + j)).n.y), bz j fun j => x j * ((c.f (b + j)).d * (c.f (b + j)).n.z)⟩, bz j fun j => x j * (c.f (b + j)).d⟩
def LI (c : Cu) (t : Rat) : Pl := SH c (vB c.k (cD c.n c.k t) t c.p.toNat) (cD c.n c.k t - c.p.toNat) (c.p.toNat + 1)
def kD (c : Cu) (t : Rat) : V3 := if dL c.n c.k t then ⟨0, 0, 0⟩ else Ab (LI c t)
end Go.Am.B

/- ref12: row, Swap, IsoV, IsoU, Eval. -/
namespace Go.Am.B
open Go Go.Am.N AV aa aj IntKind
structure SfW (s : Sf) : Prop where
 ku : Kn s.a s.u.toNat s.ku
 kv : Kn s.b s.v.toNat s.kv
 u0 : 0 ≤ s.u
 u6 : s.u ≤ 6
 v0 : 0 ≤ s.v
 v6 : s.v ≤ 6
 a : s.a < 2 ^ 30
 b : s.b < 2 ^ 30
 n : (s.n : Int) = (s.a : Int) - s.u - 1
 m : (s.m : Int) = (s.b : Int) - s.v - 1
end Go.Am.B

/- spline.Of, Four.Pole, curve.of, Spline.Eval, curve.sound, curve.Eval. -/
namespace Go.Am.B
open Go Go.Am.N AV aa aj IntKind
theorem Ud : aO P AD y6 (ax y6) := aP Zf (by kernel_rfl) (by kernel_rfl) (by kernel_rfl)
theorem LB : aO P og xm (ax xm) := aP Wm (by kernel_rfl) (by kernel_rfl) (by kernel_rfl)
theorem KY : aO P oY tI (ax tI) := aP Y1 (by kernel_rfl) (by kernel_rfl) (by kernel_rfl)
theorem Fw : aO P tE nS (ax nS) := aP K9 (by kernel_rfl) (by kernel_rfl) (by kernel_rfl)
theorem P9 : aO P uC r8 (ax r8) := aP Oq (by kernel_rfl) (by kernel_rfl) (by kernel_rfl)
theorem Tv : aO P wN uj (ax uj) := aP Yx (by kernel_rfl) (by kernel_rfl) (by kernel_rfl)
def iK (p : Pl) : Pl := ⟨⟨p.d * p.n.x, p.d * p.n.y, p.d * p.n.z⟩, p.d⟩
def iU (h : Pl) : Pl := ⟨⟨h.n.x / h.d, h.n.y / h.d, h.n.z / h.d⟩, h.d⟩
abbrev o5 (f : Nat → Pl) (n s : Nat) : AV := .ak 12 n (fun i => cV (f i) s)
abbrev eL (c : Cu) (s r : Nat) : AV := .agg [.int .i64 c.p, bI c.k c.n s, o5 c.f c.m r]
def Jd : aQ := nG :: fZ
noncomputable def zq : aQ := nG :: (AD, mq T Jd [] 80 y6) :: fZ
abbrev wX : List Nat := [2, 3, 12, 13, 14]
abbrev BU (c : Cu) (r i : Nat) : List AV := [.ptr 0 0 3 0 [], .ptr 1 0 3 0 [], lN c.f c.m r, .int .i64 c.m, .int .i64 i]
abbrev DR (c : Cu) (x w i : Nat) : aD := [(2, ⟨true, true, 12, i, fun j => cV (iK (c.f j)) w⟩), (1, ⟨false, true, 3, 1, fun _ => .agg [.int .i64 c.p, bI c.k c.n x, .own 2 12 0 i]⟩), (0, ⟨false, true, 3, 1, fun _ => .agg [.int .i64 0, .nil, .nil]⟩)]
noncomputable abbrev wh : Code := ax tI
def Hy : aQ := nG :: (pW, iH kR kR Bx o3) :: fZ
def DV (f : Nat → Pl) (x : Nat → Rat) (b j : Nat) : Pl :=
 ⟨⟨bz j fun j => x j * (f (b + j)).n.x, bz j fun j => x j * (f (b + j)).n.y, bz j fun j => x j * (f (b + j)).n.z⟩, bz j fun j => x j * (f (b + j)).d⟩
def xO : aQ := nG :: (vR, He) :: fZ
abbrev tM : List Nat := [4, 5, 2, 6, 7, 36, 37, 38]
abbrev z9 (p i : Nat) (x : Nat → Rat) (j : Nat) : List AV := [.ptr 1 0 12 0 [], .int .i64 0, .ptr 0 0 3 0 [], .ptr 2 0 12 0 [], .int .i64 ((i : Int) - p), .ak 3 (p + 1) (fun j => .rat (x j) sV), .int .i64 ((p + 1 : Nat) : Int), .int .i64 j]
abbrev mG (c : Cu) (r : Nat) : az := ⟨false, true, 3, 1, fun _ => eL c sK r⟩
noncomputable abbrev rz : Code := ax nS
def vg : AV → Pl
 | .agg [x, y, z, w] => ⟨⟨bp x, bp y, bp z⟩, bp w⟩
 | _ => ⟨⟨0, 0, 0⟩, 0⟩
def mC (f : Nat → AV) (n s : Nat) : Prop := ∀ i, i < n → bA (f i) (cV (vg (f i)) s)
theorem Rg {v : AV} {n s : Nat} {f : Nat → AV} (h : pO v = some (n, f)) (ha : mC f n s) : bA v (o5 (fun i => vg (f i)) n s) := by
 unfold pO at h
 split at h
 ·simp only [Option.some.injEq, Prod.mk.injEq] at h
  obtain ⟨rfl, rfl⟩ := h
  exact k8 ha
 ·simp only [Option.some.injEq, Prod.mk.injEq] at h
  obtain ⟨rfl, rfl⟩ := h
  exact jf (by omega)
 ·simp at h
theorem UY {h : Pl} {s : Nat} : bB T Hy [] 80 xm (ax xm) ⟨aL 0 [cV h s], [], 0⟩ =
  let c8 : Int := (↑(3 : Nat) : Int); let c7 : Int := (↑(4 : Nat) : Int); let c5 : Int := (2 : Int) ^ 63; let c4 : Prop := s < 2 ^ 42; let c2 : Prop := 0 < 1; let c1 : Int := (0 : Int) + (1 : Int); let c6 : Int := c1 + (1 : Int); let c3 : Prop := (0 : Int) ≤ (3 : Int) ∧ (3 : Int) < c7; some (ag [c3, c2, c4, (1 : Nat) < 2 ^ 42, c2] (ag [(0 : Int) ≤ (0 : Int) ∧ (0 : Int) < c7, c2, c3, c2, c4, c4, (0 : Int) ≤ (0 : Int) ∧ (0 : Int) < c8, c2] (ag [-c5 ≤ c1 ∧ c1 < c5] (ag [(0 : Int) ≤ c1 ∧ c1 < c7, c2, c3, c2, c4, c4, (0 : Int) ≤ c1 ∧ c1 < c8, c2] (ag [-c5 ≤ c6 ∧ c6 < c5] (ag [(0 : Int) ≤ c6 ∧ c6 < c7, c2, c3, c2, c4, c4, (0 : Int) ≤ c6 ∧ c6 < c8, c2] (ag [-c5 ≤ c6 + (1 : Int) ∧ c6 + (1 : Int) < c5] (ag [c2, c2] (ag [c2] (leaf ret [agg [agg [rat (h.n.x / h.d) (s + s), rat (h.n.y / h.d) (s + s), rat (h.n.z / h.d) (s + s)], rat (h.d + 0) (s + 1 + 1)]])))))))))) := by kernel_rfl
theorem T3 {c : Cu} {x r : Nat} : aI T zq [] 60 wX (before wh [1,1,0,1]) ⟨aL 0 [eV c x r], [], 0⟩ =
  let c2 : Prop := 0 < 1; let c1 : AV := agg [int i64 (0 : Int), nil, nil]; some (ag [c2, c2, c2] (ag [c2] (leaf normal ([ptr 4096 0 3 0 [], ptr 28672 0 3 0 [], ak 12 c.m fun i ↦ agg [agg [rat (c.f i).n.x r, rat (c.f i).n.y r, rat (c.f i).n.z r], rat (c.f i).d r], int i64 (↑c.m : Int), int i64 (0 : Int)], [((28672 : Nat), az.mk false true 3 1 fun j ↦ if (j == 0) = true then bC (agg ((c1.kids.set 0 (bC (int i64 c.p))).set 1 (bC (bI c.k c.n x)))) else c1), ((4096 : Nat), az.mk false true 3 1 fun x ↦ c1)])))) := by kernel_rfl
theorem PA {c : Cu} {x r w i : Nat} : aI T zq [15] 60 wX [part wh [1,1,0,1,0,0]] ⟨aC wX (BU c r i), DR c x w i, 3⟩ =
  let c17 : Int := (↑c.m : Int); let c16 : Int := (↑(3 : Nat) : Int); let c15 : AV := own 2 12 0 i; let c14 : AV := ptr 1 0 3 0 []; let c13 : AV := ptr 0 0 3 0 []; let c12 : Int := (↑(4 : Nat) : Int); let c11 : Int := (↑i : Int); let c10 : AV := rat 0 1; let c7 : Nat × az := ((0 : Nat), az.mk false true 3 1 fun x ↦ agg [int i64 (0 : Int), nil, nil]); let c5 : AV := ak 12 c.m fun i ↦ agg [agg [rat (c.f i).n.x r, rat (c.f i).n.y r, rat (c.f i).n.z r], rat (c.f i).d r]; let c4 : Int := (2 : Int) ^ 63; let c3 : Prop := r < 2 ^ 42; let c2 : Int := (0 : Int) + (1 : Int); let c1 : Prop := 0 < 1; let c18 : Int := c11 + (1 : Int); let c9 : AV := agg [int i64 c.p, bI c.k c.n x, c15]; let c8 : Int := c2 + (1 : Int); let c6 : Pl := c.f c11.toNat; some (fork (decide (c11 < c17)) (ag [(0 : Int) ≤ c11 ∧ c11.toNat < c.m, c1] (ag [c1, c1, c1, (0 : Int) ≤ (0 : Int) ∧ (0 : Int) < c16, c1, c1, c1, c3, c3, (0 : Int) ≤ (0 : Int) ∧ (0 : Int) < c12, c1, -c4 ≤ c2 ∧ c2 < c4, (0 : Int) ≤ c2 ∧ c2 < c16, c1, c1, c1, c3, c3, (0 : Int) ≤ c2 ∧ c2 < c12, c1, -c4 ≤ c8 ∧ c8 < c4, (0 : Int) ≤ c8 ∧ c8 < c16, c1, c1, c1, c3, c3, (0 : Int) ≤ c8 ∧ c8 < c12, c1, -c4 ≤ c8 + (1 : Int) ∧ c8 + (1 : Int) < c4, c1, c3, (1 : Nat) < 2 ^ 42, (0 : Int) ≤ (3 : Int) ∧ (3 : Int) < c12, c1, c1, c1, c1, (1 : Nat) * 12 ≤ 2 ^ 24, (i + 1) * ((224 : Nat) + 1) * 2 ≤ 2 ^ 47, c1] (ag [-c4 ≤ c18 ∧ c18 < c4] (leaf normal ([c13, c14, c5, int i64 c17, int i64 c18], [((40963 : Nat), az.mk true true 12 (i + 1) fun i_1 ↦ if i_1 < i then cV (iK (c.f i_1)) w else nth [agg [rat (c6.d * c6.n.x) (r + r), rat (c6.d * c6.n.y) (r + r), rat (c6.d * c6.n.z) (r + r), rat (c6.d + 0) (r + 1 + 1)]] (agg [c10, c10, c10, c10]) (i_1 - i + 0)), ((1 : Nat), az.mk false true 3 1 fun j ↦ if (j == 0) = true then agg (c9.kids.set 2 (bC (own (nat_lit 40962 + 1) 12 0 (i + 1)))) else c9), c7]))))) (leaf (exit 0) ([c13, c14, c5, int i64 c17, int i64 c11], [((2 : Nat), az.mk true true 12 i fun j ↦ agg [rat ((c.f j).d * (c.f j).n.x) w, rat ((c.f j).d * (c.f j).n.y) w, rat ((c.f j).d * (c.f j).n.z) w, rat (c.f j).d w]), ((1 : Nat), az.mk false true 3 1 fun x_1 ↦ agg [int i64 c.p, ak 3 c.n fun i ↦ rat (c.k i) x, c15]), c7]))) := by kernel_rfl
theorem KU {c : Cu} {x r w i : Nat} : cq T zq [] 60 tI [part wh [1,1,1]] ⟨aC wX (BU c r i), DR c x w i, 3⟩ =
  let c1 : Prop := 0 < 1; some (ag [c1, c1] (ag [c1] (leaf ret [agg [int i64 c.p, ak 3 c.n fun i ↦ rat (c.k i) x, ak 12 i fun i ↦ agg [rat ((c.f (i + 0)).d * (c.f (i + 0)).n.x) w, rat ((c.f (i + 0)).d * (c.f (i + 0)).n.y) w, rat ((c.f (i + 0)).d * (c.f (i + 0)).n.z) w, rat (c.f (i + 0)).d w]]]))) := by kernel_rfl
theorem aaV {c : Cu} {r : Nat} {t : Rat} : aI T xO [25, 34] 60 tM (before rz [1,1,1,1,0,1]) ⟨aL 0 [eL c sK r, .rat t sK], [], 0⟩ =
  let c16 : Nat := cD c.n (fun i ↦ bp (rat (c.k i) sK)) t; let c15 : Prop := dL c.n (fun i ↦ bp (rat (c.k i) sK)) t; let c14 : AV := ptr 8192 0 12 0 []; let c13 : AV := ptr 16384 0 12 0 []; let c12 : AV := ptr 0 0 (bC (eL c sK r)).size 0 []; let c11 : AV := rat 0 1; let c10 : Prop := 0 < 1; let c8 : Bool := dB c.n (fun i ↦ bp (rat (c.k i) sK)) t != (0 : Int); let c6 : Nat × az := ((0 : Nat), az.mk false true (bC (eL c sK r)).size 1 fun x ↦ agg [int i64 c.p, ak 3 c.n fun i ↦ rat (c.k i) 4096, ak 12 c.m fun i ↦ agg [rat (c.f i).n.x r, rat (c.f i).n.y r, rat (c.f i).n.z r, rat (c.f i).d r]]); let c7 : Nat := if c15 then 0 else c.p.toNat + 1; let c5 : Int := if c15 then (0 : Int) else (↑c16 : Int) - (↑c.p.toNat : Int); let c4 : AV := agg [c11, c11, c11, c11]; let c9 : az := az.mk false true 12 1 fun x ↦ c4; let c3 : Int := c5 + (↑c7 : Int); let c2 : aa (List AV × aD) := leaf normal ([c14, int i64 (0 : Int), c12, c13, int i64 c5, ak 3 c7 fun j ↦ rat (vB (fun i ↦ bp (rat (c.k i) sK)) c16 t c.p.toNat j) 268435456, int i64 (↑c7 : Int), int i64 (0 : Int)], [((16384 : Nat), c9), c6, ((8192 : Nat), c9)]); let c1 : aa (List AV × aD) := ag [c10] (leaf ret ([c14, int i64 (7 : Int), c12, c13, int i64 c5, tuple [], tuple [], tuple []], [((16384 : Nat), c9), c6, ((8192 : Nat), az.mk false true 12 1 fun j ↦ if (j == 0) = true then bC (agg c4.kids) else c4)])); some (ag [c10, c10, c10, cz (fun i ↦ rat (c.k i) sK) c.n sK, sK ≤ sK, Kn c.n c.p.toNat fun i ↦ bp (rat (c.k i) sK), (0 : Int) ≤ c.p, c.p ≤ (6 : Int), c.n < 2 ^ 40] (fork c8 (ag [c8 = true] (fork true c1 c2)) (ag [c8 = false, -(2 : Int) ^ 63 ≤ c3 ∧ c3 < (2 : Int) ^ 63, c10] (fork (bif false then true else decide (c3 > (↑c.m : Int))) c1 c2)))) := by kernel_rfl
theorem PW {c : Cu} {h : Pl} {p i j s r : Nat} {x : Nat → Rat} : aI T xO [39] 60 tM [part rz [1,1,1,1,0,1,0,0]] ⟨aC tM (z9 p i x j), [(2, jD h s), (1, jD ⟨⟨0, 0, 0⟩, 0⟩ 1), (0, mG c r)], 3⟩ =
  let c29 : Int := (↑i : Int) - (↑p : Int); let c26 : AV := ptr 0 0 3 0 []; let c24 : AV := ptr 2 0 12 0 []; let c23 : AV := ptr 1 0 12 0 []; let c21 : AV := rat 0 1; let c20 : Int := (↑(p + 1) : Int); let c19 : AV := ak 3 (p + 1) fun j ↦ rat (x j) 268435456; let c16 : Int := (↑j : Int); let c15 : Bool := 0 == 0; let c10 : Int := (↑(4 : Nat) : Int); let c9 : Int := (0 : Int) + (1 : Int); let c8 : Nat := 2 ^ 42; let c7 : Prop := 0 < 1; let c6 : Int := (2 : Int) ^ 63; let c33 : Prop := sV + r < c8; let c32 : Rat := x c16.toNat; let c31 : Int := c16 + (1 : Int); let c28 : Prop := (0 : Int) ≤ c9 ∧ c9 < c10; let c18 : Prop := (0 : Int) ≤ (0 : Int) ∧ (0 : Int) < c10; let c4 : List (Nat × az) := [((0 : Nat), az.mk false true 3 1 fun x ↦ agg [int i64 c.p, ak 3 c.n fun i ↦ rat (c.k i) 4096, ak 12 c.m fun i ↦ agg [rat (c.f i).n.x r, rat (c.f i).n.y r, rat (c.f i).n.z r, rat (c.f i).d r]]), ((1 : Nat), az.mk false true 12 1 fun x ↦ agg [c21, c21, c21, c21])]; let c3 : Int := c9 + (1 : Int); let c2 : Int := c29 + c16; let c30 : Pl := c.f c2.toNat; let c27 : Prop := (0 : Int) ≤ c3 ∧ c3 < c10; let c25 : Prop := -c6 ≤ c2 ∧ c2 < c6; let c17 : Prop := (0 : Int) ≤ c2 ∧ c2.toNat < c.m; let c12 : Int := c3 + (1 : Int); let c22 : Prop := (0 : Int) ≤ c12 ∧ c12 < c10; let c11 : AV := agg ((cV h s).kids.set (Int.toNat (0 : Int)) (bC (jx (h.n.x, s) (c32 * c30.n.x, sV + r)))); let c5 : AV := if c15 = true then c11 else cV h s; let c13 : AV := agg (c5.kids.set c9.toNat (bC (jx (h.n.y, s) (c32 * c30.n.y, sV + r)))); let c1 : AV := if c15 = true then c13 else c5; let c14 : AV := agg (c1.kids.set c3.toNat (bC (jx (h.n.z, s) (c32 * c30.n.z, sV + r)))); some (fork (decide (c16 < c20)) (ag [(0 : Int) ≤ c16 ∧ c16.toNat < p + 1, c7] (ag [c18, c7, c7, c7, c25, c17, c18, sV < c8, r < c8, s < c8, c33, c18, c7] (ag [-c6 ≤ c9 ∧ c9 < c6] (ag [c28, c7, c7, c7, c25, c17, c28, sV < c8, r < c8, s < c8, c33, c28, c7] (ag [-c6 ≤ c3 ∧ c3 < c6] (ag [c27, c7, c7, c7, c25, c17, c27, sV < c8, r < c8, s < c8, c33, c27, c7] (ag [-c6 ≤ c12 ∧ c12 < c6] (ag [c22, c7, c7, c7, c25, c17, c22, sV < c8, r < c8, s < c8, c33, c22, c7] (ag [-c6 ≤ c12 + (1 : Int) ∧ c12 + (1 : Int) < c6] (ag [-c6 ≤ c31 ∧ c31 < c6] (leaf normal ([c23, int i64 (0 : Int), c26, c24, int i64 c29, c19, int i64 c20, int i64 c31], ((2 : Nat), az.mk false true 12 1 fun j ↦ if (j == 0) = true then agg ((if c15 = true then c14 else c1).kids.set c12.toNat (bC (jx (h.d, s) (c32 * c30.d, sV + r)))) else if (j == 0) = true then c14 else if (j == 0) = true then c13 else if (j == 0) = true then c11 else cV h s) :: c4)))))))))))) (leaf (exit 0) ([c23, int i64 (0 : Int), c26, c24, int i64 c29, c19, int i64 c20, int i64 c16], ((2 : Nat), az.mk false true 12 1 fun x ↦ agg [rat h.n.x s, rat h.n.y s, rat h.n.z s, rat h.d s]) :: c4))) := by kernel_rfl
theorem KZ {c : Cu} {h : Pl} {p i j s r : Nat} {x : Nat → Rat} : cq T xO [] 60 nS [part rz [1,1,1,1,1]] ⟨aC tM (z9 p i x j), [(2, jD h s), (1, jD ⟨⟨0, 0, 0⟩, 0⟩ 1), (0, mG c r)], 3⟩ =
  let c1 : Prop := 0 < 1; some (ag [c1, c1] (ag [c1] (leaf ret [agg [rat h.n.x s, rat h.n.y s, rat h.n.z s, rat h.d s], int i64 (0 : Int)]))) := by kernel_rfl
theorem SM : bg P Jd := dM gU
theorem U7 : bg P zq := dM (aH (oN hT SM hm Ud _ _) gU)
theorem Wb : bg P Hy := dM (aH (jc fun _ _ K hn => CL hn.1 hn.2 K) gU)
theorem FT : bg P xO := dM (aH RO gU)
theorem BA {rl : List (Nat × Nat)} {l i : Nat} {f g : Nat → AV} {v z : AV} (hf : ∀ i, i < l → f i = g i ∧ keys (f i) = []) (hk : keys v = []) (hv : bA v (g l)) (hi : i < l + 1) : fN rl (if i < l then f i else nth [v] z (i - l + 0)) (g i) := by
 by_cases h : i < l
 ·rw [if_pos h]; exact aM (hf i h).2 (hf i h).1
 ·have : i = l := by omega
  subst this
  rw [if_neg h, Nat.sub_self]
  exact .inr ⟨hk, hv⟩
theorem qc {rl : List (Nat × Nat)} {p : Int} {v : AV} {a b i : Nat} (hv : keys v = []) (ht : v.isTuple = false) (h : aS rl b = some a) : fN rl (.agg [.int .i64 p, v, .own a 12 0 i]) (.agg [.int .i64 p, v, .own b 12 0 i]) :=
 pN ⟨⟨rfl, aF rfl⟩, ⟨ht, aF hv⟩, ⟨rfl, cF h rfl rfl⟩, trivial⟩
theorem yU {h h' : Pl} {s s' : Nat} (e : h = h') (hs : s ≤ s') : bA (cV h s) (cV h' s') := e ▸ ee ⟨cm rfl hs, cm rfl hs, cm rfl hs, cm rfl hs, trivial⟩
theorem Ix {h : Pl} {s w : Nat} (hs : s < 2 ^ 40) (h1 : s + s ≤ w) (h2 : s + 2 ≤ w) (K : Nat) : aA P og K [cV h s] [] (aG (cY (iU h) w) []) := by
 refine bH (r := aG (cY (iU h) w) []) hT Wb hm LB rfl (of_decide_eq_true (by kernel_rfl)) rfl 80 UY (fun _ => ?_) K []
 simp only [aa.all, ay]
 (repeat' with_reducible refine And.intro ?_ ?_)
 all_goals first | omega | skip
 exact ee ⟨ee ⟨cm rfl h1, cm rfl h1, cm rfl h1, trivial⟩, cm (Rat.add_zero _) (by omega), trivial⟩
theorem Kp {c : Cu} {x r w : Nat} (h1 : r + r ≤ w) (h2 : r + 2 ≤ w) (hw : w < 2 ^ 40) (hn : c.n < 2 ^ 40) (hm2 : c.m < 2 ^ 30) (K : Nat) : aA P oY K [eV c x r] [] (aG (.agg [.int .i64 c.p, bI c.k c.n x, o5 (fun i => iK (c.f i)) c.m w]) []) := by
 refine gV (r := aG (.agg [.int .i64 c.p, bI c.k c.n x, o5 (fun i => iK (c.f i)) c.m w]) []) hT U7 hm KY rfl (of_decide_eq_true (by kernel_rfl)) rfl [1,1,0,1] (i := 0) (y := part wh [1,1,0,1,0,0]) (z := part wh [1,1,1]) (by kernel_rfl) (by kernel_rfl) (by kernel_rfl) (f1 := []) (f2 := [15]) (f3 := []) 60 wX 3
  (fun i : Nat => BU c r i) (fun i => DR c x w i) (fun i => i ≤ c.m) (fun i => i = c.m) (fun i => c.m - i) (fun _ => ⟨⟨_, T3, ?_⟩, fun i hi => ⟨_, PA, ?_⟩, fun i hi => ⟨_, KU, ?_⟩⟩) K []
 ·simp only [aa.all, ay]
  exact ⟨by omega, by omega, 0, Nat.zero_le _, [(0, 4096), (1, 28672)], rfl, rfl, rfl, x4 rfl (by omega) (by omega) (aR rfl rfl (pN ⟨⟨rfl, aF rfl⟩, ⟨rfl, aF rfl⟩, ⟨rfl, s9 (by omega)⟩, trivial⟩) (aR rfl rfl (aM rfl rfl) trivial))⟩
 ·set_option maxRecDepth 10000 in simp only [aa.all, ay, decide_eq_true_eq, decide_eq_false_iff_not, Int.toNat_natCast, Nat.add_zero]
  refine ⟨fun h => ⟨by omega, by omega, by omega, i + 1, by omega, by dsimp only; omega, [(0, 0), (1, 1), (2, 40963)], rfl, rfl, rfl, bG rfl rfl rfl (fun j hj => BA (g := fun j => cV (iK (c.f j)) w) (fun _ _ => ⟨rfl, rfl⟩) rfl (ee ⟨cm rfl h1, cm rfl h1, cm rfl h1, cm (Rat.add_zero _) (by omega), trivial⟩) hj) (aR rfl rfl (qc rfl rfl rfl) (aR rfl rfl (aM rfl rfl) trivial))⟩,
   fun h => ⟨rfl, i, by omega, [(0, 0), (1, 1), (2, 2)], rfl, rfl, rfl, bG rfl rfl rfl (fun _ _ => aM rfl rfl) (aR rfl rfl (qc rfl rfl rfl) (aR rfl rfl (aM rfl rfl) trivial))⟩⟩
 ·subst hi
  simp only [aa.all, ay]
  exact ⟨by omega, by omega, .refl _⟩
theorem Yf {c : Cu} {r : Nat} : iZ T nS .ret ⟨aC [4, 5, 2, 6] [.ptr 8192 0 12 0 [], .int .i64 7, .ptr 0 0 3 0 [], .ptr 16384 0 12 0 []], [(16384, ⟨false, true, 12, 1, fun _ => .agg [.rat 0 1, .rat 0 1, .rat 0 1, .rat 0 1]⟩), (0, mG c r), (8192, ⟨false, true, 12, 1, fun j => if (j == 0) = true then bC (.agg (AV.kids (.agg [.rat 0 1, .rat 0 1, .rat 0 1, .rat 0 1]))) else .agg [.rat 0 1, .rat 0 1, .rat 0 1, .rat 0 1]⟩)], 16385⟩ =
  let c1 : AV := rat 0 1; some (ag [(0 : Nat) < 1] (leaf ret [agg [c1, c1, c1, c1], int i64 (7 : Int)])) := by kernel_rfl
def lQ (c : Cu) (t : Rat) : Pl := if dL c.n c.k t then ⟨⟨0, 0, 0⟩, 0⟩ else DV c.f (vB c.k (cD c.n c.k t) t c.p.toNat) (cD c.n c.k t - c.p.toNat) (c.p.toNat + 1)
theorem Mm {c : Cu} {t : Rat} {r s : Nat} (hr : 1 + 7 * (sV + r + 1) ≤ s) (hs : s < 2 ^ 40) (hk : Kn c.n c.p.toNat c.k) (h0 : 0 ≤ c.p) (h6 : c.p ≤ 6) (hn : c.n < 2 ^ 40) (hm2 : (c.m : Int) = (c.n : Int) - c.p - 1) (K : Nat) : aA P tE K [eL c sK r, .rat t sK] [] (aG (.tuple [cV (lQ c t) s, .int .i64 (dB c.n c.k t)]) []) := by
 refine gb (r := aG (.tuple [cV (lQ c t) s, .int .i64 (dB c.n c.k t)]) []) hT Fw rfl (of_decide_eq_true (by kernel_rfl)) rfl (fun _ cx h00 => ?_) K []
 have hkp := sX h00
 obtain ⟨q, hq⟩ : ∃ q, q = c.p.toNat := ⟨_, rfl⟩
 have hq2 : c.p = (q : Int) := by omega
 obtain ⟨i, hi⟩ : ∃ i, i = cD c.n c.k t := ⟨_, rfl⟩
 obtain ⟨x, hx⟩ : ∃ x, x = vB c.k i t q := ⟨_, rfl⟩
 have h1 : sK = 4096 := rfl
 have h2 : sV = 268435456 := rfl
 have z0 : 1 + 0 * (sV + r + 1) = 1 := by omega
 have zle : ∀ j, j ≤ 7 → 1 + j * (sV + r + 1) ≤ s := fun j hj => by
  have := Nat.mul_le_mul_right (sV + r + 1) hj
  omega
 refine aq.lP hT FT hm (x := rz) [1,1,1,1,0,1] (i := 0) (y := part rz [1,1,1,1,0,1,0,0]) (z := part rz [1,1,1,1,1]) (by kernel_rfl) (by kernel_rfl) (by kernel_rfl) Fw.dst hkp (f1 := [25, 34]) (f2 := [39]) 60 tM 3 (fun j : Nat => z9 q i x j) (fun j => [(2, jD (DV c.f x (i - q) j) (1 + j * (sV + r + 1))), (1, jD ⟨⟨0, 0, 0⟩, 0⟩ 1), (0, mG c r)])
  (fun j => j ≤ q + 1 ∧ ¬ dL c.n c.k t) (fun j => j = q + 1 ∧ ¬ dL c.n c.k t) (fun j => q + 1 - j) (CA T nS [4, 5, 2, 6] (.tuple [cV (lQ c t) s, .int .i64 (dB c.n c.k t)])) ⟨_, aaV, ?_⟩ (fun j ⟨hj, hin⟩ => ⟨_, PW, ?_⟩) (fun j ⟨hj, hin⟩ => ?_) (fun v s' hv hs' => hv.fin (L1 := [7, 36, 37, 38]) hkp hs')
 ·simp only [aa.all, ay, pX, bne_iff_ne, ne_eq, bne_eq_false_iff_eq]
  have hko : dL c.n (fun i => c.k i) t = dL c.n c.k t := rfl
  have hkE : dB c.n (fun i => c.k i) t = dB c.n c.k t := rfl
  have hkI : cD c.n (fun i => c.k i) t = cD c.n c.k t := rfl
  simp only [hko, hkE, hkI]
  refine ⟨⟨by omega, by omega, by omega, ej (Nat.le_refl _), Nat.le_refl _, hk, h0, h6, hn⟩, fun hout => ⟨hout, fun _ => ⟨by omega, ?_⟩, fun h => absurd h (by decide)⟩, fun he => ?_⟩
  ·have ho := HO hout
   refine ⟨[_, _, _, _], _, 16385, _, rfl, rfl, rfl, Yf, rfl, ⟨⟨by omega, fun i _ => rfl⟩, ⟨by omega, fun i _ => rfl⟩, ⟨by omega, fun i _ => Cb rfl rfl⟩, trivial⟩, Nat.zero_lt_one, ?_⟩
   exact ⟨yU (h := ⟨⟨0, 0, 0⟩, 0⟩) (by unfold lQ; rw [if_pos ho]) (by omega), bq (by unfold dB; rw [if_pos ho]), trivial⟩
  ·have hin := IM he
   have hiv := hk.zB hin
   simp only [if_neg hin]
   refine ⟨⟨he, by omega, by omega⟩, fun h => ?_, fun _ => ⟨0, ⟨Nat.zero_le _, hin⟩, [(0, 0), (1, 8192), (2, 16384)], rfl, ?_, rfl, aR rfl rfl (aM rfl (by rw [z0]; rfl)) (aR rfl rfl (aM rfl rfl) (aR rfl rfl (aM rfl rfl) trivial))⟩⟩
   ·exfalso
    rw [cond_false, decide_eq_true_eq] at h
    omega
   ·show _ = (z9 q i x 0).map _
    rw [hx, hq, hi]; rfl
 ·have hiv := hk.zB hin
  rw [← hi, ← hq] at hiv
  simp only [aa.all, ay, decide_eq_true_eq, decide_eq_false_iff_not, show ((i : Int) - q + j).toNat = i - q + j by omega, Int.toNat_natCast]
  refine ⟨fun h => ?_, fun h => ⟨rfl, j, ⟨by omega, hin⟩, [(0, 0), (1, 1), (2, 2)], rfl, rfl, rfl, aR rfl rfl (aM rfl rfl) (aR rfl rfl (aM rfl rfl) (aR rfl rfl (aM rfl rfl) trivial))⟩⟩
  have hz := zle j (by omega)
  have hzS : 1 + (j + 1) * (sV + r + 1) = 1 + j * (sV + r + 1) + (sV + r + 1) := by rw [Nat.add_mul, Nat.one_mul]; omega
  have hz2 := zle (j + 1) (by omega)
  generalize 1 + j * (sV + r + 1) = zj at *
  (repeat' with_reducible refine And.intro ?_ ?_)
  all_goals first | omega | skip
  exact ⟨j + 1, ⟨by omega, hin⟩, by dsimp only; omega, [(0, 0), (1, 1), (2, 2)], rfl, rfl, rfl, aR rfl rfl (.inr ⟨rfl, ee ⟨cm rfl (by omega), cm rfl (by omega), cm rfl (by omega), cm rfl (by omega), trivial⟩⟩) (aR rfl rfl (aM rfl rfl) (aR rfl rfl (aM rfl rfl) trivial))⟩
 ·subst hj
  refine aq.nq ((aB.fin hT FT hm 60 KZ (by kernel_rfl) ?_).mono fun _ _ h => .inl h)
  simp only [aa.all, ay]
  have hz := zle (q + 1) (by omega)
  refine ⟨by omega, by omega, ?_, bq (by unfold dB; rw [if_neg hin]), trivial⟩
  exact yU (by unfold lQ; rw [if_neg hin, ← hi, ← hq, ← hx]) hz
def wg (s r : Nat) : Kind Cu := ⟨fun v => match v with
 | .agg [p, k, f] => match kI.read p, (kL s).read k, pO f with
  | some (p, q1), some ((n, k), q2), some (m, f) => some (⟨p, n, k, m, fun i => vg (f i)⟩, q1 ++ (q2 ++ [mC f m r]))
  | _, _, _ => none
 | _ => none, fun a => eL a s r, fun {v a q} h hq => by
  split at h
  ·split at h
   ·rename_i h1 h2 h3
    simp only [Option.some.injEq, Prod.mk.injEq] at h
    obtain ⟨rfl, rfl⟩ := h
    obtain ⟨q1, hq⟩ := dy.1 hq
    obtain ⟨q2, q3⟩ := dy.1 hq
    exact ee ⟨kI.ok h1 q1, (kL s).ok h2 q2, Rg h3 q3, trivial⟩
   ·simp at h
  ·simp at h⟩
def D4 : Spec := dn (kC (mQ sJ sJ) kN) (fun a => eL ⟨a.1.p, a.1.n, a.1.k, a.1.m, fun i => iK (a.1.f i)⟩ sJ (sJ + sJ)) fun a => [a.1.n < 2 ^ 40, a.1.m < 2 ^ 30]
def Ht : Spec := dn (kC (wg sK (sJ + sJ)) (kC (jM sK) kN)) (fun a => .tuple [cV (lQ a.1 a.2.1) sH, .int .i64 (dB a.1.n a.1.k a.2.1)]) fun a => [Kn a.1.n a.1.p.toNat a.1.k, 0 ≤ a.1.p, a.1.p ≤ 6, a.1.n < 2 ^ 40, (a.1.m : Int) = (a.1.n : Int) - a.1.p - 1]
def FL : Spec := dn (kC (D1 sH) kN) (fun a => cY (iU a.1) sE) fun _ => []
def fy (c : Cu) : Prop := Kn c.n c.p.toNat c.k ∧ 1 ≤ c.p ∧ c.p ≤ 6 ∧ c.n ≤ c.p.toNat + 41 ∧ (c.m : Int) = (c.n : Int) - c.p - 1
noncomputable def Gp : aQ := nG :: (qG, B0) :: (oQ, uQ) :: []
def Db : Spec := dn (kC (mQ sJ sJ) kN) (fun _ => .bool true) fun a => [fy a.1]
noncomputable def Hp : aQ := nG :: (uC, Db) :: (oY, D4) :: (tE, Ht) :: (og, FL) :: []
theorem XI {c : Cu} : bB T Gp [100009] 60 r8 (ax r8) ⟨aL 0 [eV c sJ sJ], [], 0⟩ =
  let c2 : Prop := c.n < 2 ^ 40; let c1 : Prop := 0 < 1; some (ag [c1, c1, cz (fun i ↦ rat (c.k i) sJ) c.n sJ, c2, (fm c.n (fun i ↦ bp (rat (c.k i) sJ)) c.p == (0 : Int)) = true, c1, c1, c1, cz (fun i ↦ rat (c.k i) sJ) c.n sK, c2, -(2 : Int) ^ 40 < c.p, c.p < (2 : Int) ^ 40] (leaf ret [AV.bool (bif true then (↑c.m : Int) == (↑c.n : Int) - c.p - (1 : Int) else false)])) := by kernel_rfl
theorem ND {c : Cu} {t : Rat} : bB T Hp [20] 60 uj (ax uj) ⟨aL 0 [eV c sJ sJ, .rat t sK], [], 0⟩ =
  let c7 : Prop := c.n < 2 ^ 40; let c6 : Prop := jv (fun i ↦ cY (c.f i) sJ) c.m sJ; let c5 : Prop := cz (fun i ↦ rat (c.k i) sJ) c.n sJ; let c4 : AV := rat 0 1; let c3 : Int := dB c.n (fun i ↦ bp (rat (bp (rat (c.k i) sJ)) sJ)) t; let c2 : Prop := 0 < 1; let c1 : Pl := lQ (Cu.mk c.p c.n (fun i ↦ bp (rat (bp (rat (c.k i) sJ)) sJ)) c.m fun i ↦ vg (cV (iK (jH (cY (c.f i) sJ))) (sJ + sJ))) t; some (ag [c2, c5, c6, fy (Cu.mk c.p c.n (fun i ↦ bp (rat (c.k i) sJ)) c.m fun i ↦ jH (cY (c.f i) sJ))] (ag [c2, c5, c6, c7, c.m < 2 ^ 30, c2, cz (fun i ↦ rat (bp (rat (c.k i) sJ)) sJ) c.n sK, mC (fun i ↦ cV (iK (jH (cY (c.f i) sJ))) (sJ + sJ)) c.m (sJ + sJ), sK ≤ sK, Kn c.n c.p.toNat fun i ↦ bp (rat (bp (rat (c.k i) sJ)) sJ), (0 : Int) ≤ c.p, c.p ≤ (6 : Int), c7, (↑c.m : Int) = (↑c.n : Int) - c.p - (1 : Int), c2] (fork (c3 != (0 : Int)) (ag [c2] (ag [c2] (leaf ret [agg [c4, c4, c4], int i64 c3]))) (ag [c2, sH ≤ sH, sH ≤ sH, sH ≤ sH, sH ≤ sH, c2] (ag [c2] (leaf ret [agg [rat (c1.n.x / c1.d) 4294967298, rat (c1.n.y / c1.d) 4294967298, rat (c1.n.z / c1.d) 4294967298], int i64 (0 : Int)])))))) := by kernel_rfl
theorem abg : ∀ K args pre r, D4 K args pre = some r → aA P oY K args pre r := dD fun ⟨c, _⟩ K hn => Kp (Nat.le_refl _) (by decide) (by decide) hn.1 hn.2 K
theorem Rp : ∀ K args pre r, Ht K args pre = some r → aA P tE K args pre r := dD fun ⟨c, t, _⟩ K hn => Mm (by decide) (by decide) hn.1 hn.2.1 hn.2.2.1 hn.2.2.2.1 hn.2.2.2.2 K
theorem NR : ∀ K args pre r, FL K args pre = some r → aA P og K args pre r := dD fun ⟨h, _⟩ K _ => Ix (by decide) (by decide) (by decide) K
theorem aba : bg P Gp := dM (aH FN (aH xX bn))
theorem I8 : ∀ K args pre r, Db K args pre = some r → aA P uC K args pre r := dD fun ⟨c, _⟩ K hn => by
 obtain ⟨h1, h2, h3, h4, h5⟩ : fy c := hn
 refine bH (r := aG (.bool true) []) hT aba hm P9 rfl (of_decide_eq_true (by kernel_rfl)) rfl 60 XI (fun _ => ?_) K []
 have hc0 : fm c.n c.k c.p = 0 := by have := h1.Kx (by omega) h4; rwa [Int.toNat_of_nonneg (by omega)] at this
 simp only [aa.all, ay]
 exact ⟨⟨by omega, by omega, ej (Nat.le_refl _), by omega, beq_iff_eq.2 hc0, by omega, by omega, by omega, ej (by decide), by omega, by omega, by omega⟩, eO (beq_iff_eq.2 h5)⟩
theorem ON : bg P Hp := dM (aH I8 (aH abg (aH Rp (aH NR bn))))
theorem div_one {a b : Rat} : a / b = ((1 : Int) : Rat) / b * a := by
 rw [Rat.div_def, Rat.div_def, show ((1 : Int) : Rat) = 1 from rfl, Rat.one_mul, Rat.mul_comm]
theorem YS {h : Pl} : (iU h).n = Ab h := by
 show V3.mk (h.n.x / h.d) (h.n.y / h.d) (h.n.z / h.d) = V3.mk _ _ _
 rw [div_one (a := h.n.x), div_one (a := h.n.y), div_one (a := h.n.z)]
def BJ : Spec := dn (kC (mQ sJ sJ) (kC (jM sK) kN)) (fun a => .tuple [vA (kD a.1 a.2.1) sE, .int .i64 (dB a.1.n a.1.k a.2.1)]) fun a => [fy a.1]
theorem Fl : ∀ K args pre r, BJ K args pre = some r → aA P wN K args pre r := dD fun ⟨c, t, _⟩ K hn => by
 have hc : fy c := hn
 obtain ⟨h1, h2, h3, h4, h5⟩ := id hc
 refine bH (r := aG (.tuple [vA (kD c t) sE, .int .i64 (dB c.n c.k t)]) []) hT ON hm Tv rfl (of_decide_eq_true (by kernel_rfl)) rfl 60 ND (fun _ => ?_) K []
 have e1 : dB c.n (fun i => bp (rat (bp (rat (c.k i) sJ)) sJ)) t = dB c.n c.k t := rfl
 simp only [aa.all, ay, e1, bne_iff_ne, ne_eq, bne_eq_false_iff_eq]
 refine ⟨⟨by omega, ej (Nat.le_refl _), lG (Nat.le_refl _), hc⟩, ⟨by omega, ej (Nat.le_refl _), lG (Nat.le_refl _), by omega, by omega, by omega, ej (by decide), fun _ _ => .refl _, Nat.le_refl _, h1, by omega, h3, by omega, h5, by omega⟩, fun hout => ⟨by omega, by omega, ?_⟩, fun hin => ⟨⟨by omega, Nat.le_refl _, Nat.le_refl _, Nat.le_refl _, Nat.le_refl _, by omega⟩, by omega, ?_⟩⟩
 ·refine ⟨yc (u := ⟨0, 0, 0⟩) (by unfold kD; rw [if_pos (HO hout)]) (by decide), .refl _, trivial⟩
 ·have ho := IM hin
  refine ⟨yc (u := (iU (lQ ⟨c.p, c.n, c.k, c.m, fun i => iK (c.f i)⟩ t)).n) ?_ (by decide), bq hin.symm, trivial⟩
  rw [YS]
  unfold kD lQ
  rw [if_neg ho, if_neg ho]; rfl
end Go.Am.B

/- ref09.Sum; contracts of sums. -/
namespace Go.Am.B
open Go Go.Am.N AV aa aj IntKind
end Go.Am.B

/- basis.Blossom. -/
namespace Go.Am.B
open Go Go.Am.N AV aa aj IntKind
theorem D3 : aO P zY jh (ax jh) := aP Xh (by kernel_rfl) (by kernel_rfl) (by kernel_rfl)
def ov : aQ := nG :: (oQ, uQ) :: (tX, Bk) :: fZ
noncomputable abbrev ye : Code := ax jh
noncomputable abbrev oK : Code := part ye [1,1,1,1,0,1,0,0]
noncomputable abbrev wZ : Code := part oK [1,1,0,0]
abbrev sB : Nat := 536870912
theorem xk : bg P ov := dM (aH xX (aH Ez gU))
def gk (n : Nat) (k : Nat → Rat) (p m l : Nat) (i : Int) : Int := if (m : Int) ≠ (n : Int) - p - 1 ∨ l ≠ p then 1 else if i < p ∨ (m : Int) ≤ i ∨ k (i.toNat + 1) ≤ k i.toNat then 7 else 0
def kY (n : Nat) (k : Nat → Rat) (p m : Nat) (c : Nat → Rat) (i : Int) (l : Nat) (a : Nat → Rat) : Rat := if gk n k p m l i = 0 then bR k (i.toNat - p) p a (fun j => c (i.toNat - p + j)) p p else 0
abbrev I1 (n : Nat) (k : Nat → Rat) (p m : Nat) (c : Nat → Rat) (i : Int) (l : Nat) (a : Nat → Rat) : AV := .tuple [.rat (kY n k p m c i l a) sB, .int .i64 (gk n k p m l i)]
theorem Tr {n p m l : Nat} {k c a : Nat → Rat} {i e : Int} (h : gk n k p m l i = e) (he : e ≠ 0) : dg [.agg [.bool false, .mag 0, .mag 0], .int .i64 e] (I1 n k p m c i l a) :=
 ⟨by unfold kY; rw [if_neg (by rw [h]; exact he)]; exact kz, bq h.symm, trivial⟩
theorem ES {n p m l : Nat} {k : Nat → Rat} {i : Int} (h : (m : Int) ≠ (n : Int) - p - 1 ∨ l ≠ p) : gk n k p m l i = 1 := if_pos h
theorem Cq {n p m l : Nat} {k : Nat → Rat} {i : Int} (h : (m : Int) = (n : Int) - p - 1) (hl : l = p) (h2 : i < p ∨ (m : Int) ≤ i ∨ k (i.toNat + 1) ≤ k i.toNat) : gk n k p m l i = 7 := by
 unfold gk; rw [if_neg (by omega), if_pos h2]
theorem QS {n p m l : Nat} {k : Nat → Rat} {i : Int} (h : (m : Int) = (n : Int) - p - 1) (hl : l = p) (h2 : ¬ (i < p ∨ (m : Int) ≤ i ∨ k (i.toNat + 1) ≤ k i.toNat)) : gk n k p m l i = 0 := by
 unfold gk; rw [if_neg (by omega), if_neg h2]
def jU (k : Nat → Rat) (b p r : Nat) (t : Rat) (x : Nat → Rat) (j i : Nat) : Rat := if i ≤ j then x i else ow k b p r t x i
def kH (r j i : Nat) : Nat := if i ≤ j then SB r else SB (r + 1)
theorem ZM {rl : List (Nat × Nat)} {k : Nat → Rat} {b p r j i s : Nat} {t : Rat} {x : Nat → Rat} (hj : r < j) (hs : s ≤ SB (r + 1)) :
  fN rl (.rat (bif i == j then jU k b p r t x j (j - 1) + fr (k (b + j)) (k (b + j + (p - r))) t * (jU k b p r t x j j - jU k b p r t x j (j - 1)) else jU k b p r t x j i) (bif i == j then s else kH r j i)) (.rat (jU k b p r t x (j - 1) i) (kH r (j - 1) i)) := by
 refine .inr ⟨rfl, ?_⟩
 by_cases h : i = j
 ·subst h
  simp only [beq_self_eq_true, cond_true]
  refine cm ?_ ?_
  ·unfold jU
   rw [if_pos (by omega), if_pos (by omega), if_neg (by omega)]
   unfold ow
   rw [if_pos hj]
  ·unfold kH
   rw [if_neg (by omega)]; exact hs
 ·have hb : (i == j) = false := by simpa using h
  rw [hb]
  refine cm ?_ ?_
  ·simp only [cond_false]
   unfold jU
   by_cases h2 : i ≤ j
   ·rw [if_pos h2, if_pos (by omega)]
   ·rw [if_neg h2, if_neg (by omega)]
  ·simp only [cond_false]
   unfold kH
   by_cases h2 : i ≤ j
   ·rw [if_pos h2, if_pos (by omega)]; exact Nat.le_refl _
   ·rw [if_neg h2, if_neg (by omega)]; exact Nat.le_refl _
theorem Xc {k : Nat → Rat} {b p r i : Nat} {t : Rat} {x : Nat → Rat} : jU k b p r t x r i = ow k b p r t x i := by
 unfold jU
 split
 ·unfold ow; rw [if_neg (by omega)]
 ·rfl
end Go.Am.B

/- ref09.Polar, ref09.Blossom; contracts of polar forms. -/
namespace Go.Am.B
open Go Go.Am.N AV aa aj IntKind
end Go.Am.B

/- basis.Blossom, handed coefficients that may still be written to. -/
namespace Go.Am.B
open Go Go.Am.N AV aa aj IntKind
abbrev iF (m : Nat) (c : Nat → Rat) : az := ⟨true, true, 3, m, fun i => .rat (c i) sK⟩
abbrev kP : List Nat := [10, 11, 2, 4, 0, 1, 3, 12, 66, 67, 68]
abbrev qd (n : Nat) (k : Nat → Rat) (p m : Nat) (a : Nat → Rat) (i : Nat) (r : Nat) : List AV := [.ptr 1 0 3 0 [], .int .i64 0, .own 0 3 0 m, ls a p, ls k n, .int .i64 p, .int .i64 i, .own 2 3 0 (p + 1), ls a p, .int .i64 p, .int .i64 r]
abbrev kq (p m : Nat) (c : Nat → Rat) (x : Nat → Rat) (s : Nat → Nat) : aD := [(2, iP (p + 1) x s), (1, zO), (0, iF m c)]
abbrev rS : List Nat := [10, 11, 2, 4, 0, 1, 3, 12, 66, 67, 68, 13, 14, 15]
abbrev Bm (n : Nat) (k : Nat → Rat) (p m : Nat) (a : Nat → Rat) (i : Nat) (r j : Nat) : List AV := [.ptr 1 0 3 0 [], .int .i64 0, .own 0 3 0 m, ls a p, ls k n, .int .i64 p, .int .i64 i, .own 2 3 0 (p + 1), ls a p, .int .i64 p, .int .i64 r, .int .i64 r, .ptr 3 0 3 0 [], .int .i64 j]
theorem Sw {n m p l : Nat} {k c a : Nat → Rat} {i : Int} : aI T ov [18, 25, 36, 42, 32] 60 kP (before ye [1,1,1,1,0,1]) ⟨aL 0 [ls k n, .int .i64 p, .own 0 3 0 m, .int .i64 i, ls a l], [(0, iF m c)], 1⟩ =
  let c28 : Prop := n < 2 ^ 40; let c27 : Prop := sK < 2 ^ 42; let c26 : Prop := cz (fun i ↦ rat (k i) sK) n sK; let c25 : AV := own 0 3 0 m; let c24 : Int := i + (1 : Int); let c23 : AV := ak 3 n fun i ↦ rat (k i) 4096; let c20 : Int := (2 : Int) ^ 40; let c19 : AV := rat 0 1; let c17 : Nat × az := ((0 : Nat), az.mk true true 3 m fun i ↦ rat (c i) 4096); let c15 : AV := ptr 1 0 3 0 []; let c14 : AV := ak 3 l fun i ↦ rat (a i) 4096; let c13 : Int := (2 : Int) ^ 63; let c12 : Int := (↑m : Int); let c5 : Int := (↑p : Int); let c21 : Bool := decide (i < c5); let c18 : Bool := c12 != (↑n : Int) - c5 - (1 : Int); let c16 : Bool := bif false then true else decide (i ≥ c12); let c11 : Int := c5 + (1 : Int); let c10 : Int := ef (k i.toNat) (k c24.toNat); let c8 : List AV := [c25, c14, c23, int i64 c5, int i64 i, tuple [], tuple [], tuple [], tuple []]; let c7 : List Prop := [(0 : Int) ≤ i ∧ i.toNat < n, -c13 ≤ c24 ∧ c24 < c13, (0 : Int) ≤ c24 ∧ c24.toNat < n, c27, c27]; let c6 : List (Nat × az) := [c17, ((1 : Nat), az.mk false true 3 1 fun j ↦ if (j == 0) = true then bC (agg c19.kids) else c19)]; let c22 : Bool := bif false then true else decide (c10 ≥ (0 : Int)); let c9 : Nat := 0 + Min.min (c12.toNat - (i - c5).toNat) c11.toNat; let c4 : aa (List AV × aD) := ag [(0 : Nat) < 1] (leaf ret (c15 :: int i64 (1 : Int) :: c8, c6)); let c2 : aa (List AV × aD) := ag [(0 : Nat) < 1] (leaf ret (c15 :: int i64 (7 : Int) :: c8, c6)); let c1 : aa (List AV × aD) := ag [-c13 ≤ c11 ∧ c11 < c13, (0 : Int) ≤ c11 ∧ c11 ≤ c11 ∧ c11 ≤ (2 : Int) ^ 47 ∧ c11 * (↑(56 : Nat) : Int) ≤ (2 : Int) ^ 47] (ag [-c13 ≤ i - c5 ∧ i - c5 < c13, (0 : Int) ≤ i - c5 ∧ i - c5 ≤ c12 ∧ c12 ≤ c12 ∧ c12 ≤ c12] (leaf normal ([c15, int i64 (0 : Int), c25, c14, c23, int i64 c5, int i64 i, own 163841 3 0 c11.toNat, c14, int i64 (↑l : Int), int i64 (0 : Int)], [((163841 : Nat), az.mk true true 3 c11.toNat fun i_1 ↦ if 0 ≤ i_1 ∧ i_1 < c9 then rat (c (i_1 - 0 + ((0 : Nat) + (i - c5).toNat))) sK else c19), c17, ((1 : Nat), az.mk false true 3 1 fun x ↦ c19)]))); let c3 : aa (List AV × aD) := fork c21 (fork true (ag [c21 = true, true = true] (fork true c2 c1)) (ag ((c21 = true) :: (true = false) :: c7) (fork c22 c2 c1))) (fork c16 (ag [c21 = false, c16 = true] (fork true c2 c1)) (ag ((c21 = false) :: (c16 = false) :: c7) (fork c22 c2 c1))); some (fork c18 (ag [c26, c28, -c20 < c5, c5 < c20, c18 = true] (fork true c4 c3)) (ag [c26, c28, -c20 < c5, c5 < c20, c18 = false] (fork (bif false then true else (↑l : Int) != c5) c4 c3))) := by kernel_rfl
theorem Yh {e : Int} {m : Nat} {c : Nat → Rat} : vI T jh .ret ⟨aC [10, 11, 2] [.ptr 1 0 3 0 [], .int .i64 e, .own 0 3 0 m], [(0, iF m c), (1, ⟨false, true, 3, 1, fun j => if (j == 0) = true then bC (agg (kids (.rat 0 1))) else .rat 0 1⟩)], 2⟩ =
  some (ag [(0 : Nat) < 1] (leaf ret ([agg [AV.bool false, mag 0, mag 0], int i64 e], some (az.mk true true 3 m fun i ↦ rat (c i) 4096)))) := by kernel_rfl
theorem RA {n p m i r : Nat} {k a c x : Nat → Rat} {s : Nat → Nat} : aI T ov [69] 60 kP (before oK [1,1,0]) ⟨aC kP (qd n k p m a i r), kq p m c x s, 3⟩ =
  let c3 : Int := (↑p : Int); let c2 : AV := ak 3 p fun i ↦ rat (a i) 4096; let c1 : List AV × aD := ([ptr 1 0 3 0 [], int i64 (0 : Int), own 0 3 0 m, c2, ak 3 n fun i ↦ rat (k i) 4096, int i64 c3, int i64 (↑i : Int), own 2 3 0 (p + 1), c2, int i64 c3, int i64 (↑r : Int)], [((2 : Nat), az.mk true true 3 (p + 1) fun i ↦ rat (x i) (s i)), ((0 : Nat), az.mk true true 3 m fun i ↦ rat (c i) 4096), ((1 : Nat), az.mk false true 3 1 fun x ↦ rat 0 1)]); some (fork (decide ((↑r : Int) < c3)) (leaf normal c1) (leaf (exit 1) c1)) := by kernel_rfl
theorem XW {n p m i r : Nat} {k a c x : Nat → Rat} {s : Nat → Nat} : aI T ov [] 60 rS (before wZ [1,1]) ⟨aC kP (qd n k p m a i r), kq p m c x s, 3⟩ =
  let c4 : AV := rat 0 1; let c3 : Int := (↑r : Int); let c2 : AV := int i64 (↑p : Int); let c1 : AV := ak 3 p fun i ↦ rat (a i) 4096; some (ag [(0 : Int) ≤ c3 ∧ c3.toNat < p, (0 : Nat) < 1] (leaf normal ([ptr 1 0 3 0 [], int i64 (0 : Int), own 0 3 0 m, c1, ak 3 n fun i ↦ rat (k i) 4096, c2, int i64 (↑i : Int), own 2 3 0 (p + 1), c1, c2, int i64 c3, int i64 c3, ptr 12291 0 3 0 [], c2], [((12291 : Nat), az.mk false true 3 1 fun j ↦ if (j == 0) = true then bC (rat (a c3.toNat) sK) else c4), ((2 : Nat), az.mk true true 3 (p + 1) fun i ↦ rat (x i) (s i)), ((0 : Nat), az.mk true true 3 m fun i ↦ rat (c i) 4096), ((1 : Nat), az.mk false true 3 1 fun x ↦ c4)]))) := by kernel_rfl
theorem MX {n p m i r j : Nat} {k a c x : Nat → Rat} {s : Nat → Nat} {t : Rat} : aI T ov [76] 60 rS [part wZ [1,1,0,0]] ⟨aC rS (Bm n k p m a i r j), (3, tP t sK) :: kq p m c x s, 4⟩ =
  let c27 : Int := (↑r : Int); let c23 : Int := (↑i : Int); let c21 : AV := own 0 3 0 m; let c19 : Prop := 0 < 1; let c17 : AV := ptr 3 0 3 0 []; let c16 : AV := ptr 1 0 3 0 []; let c15 : AV := ak 3 n fun i ↦ rat (k i) 4096; let c13 : Int := (↑p : Int); let c12 : Int := (↑j : Int); let c11 : Nat × az := ((3 : Nat), az.mk false true 3 1 fun x ↦ rat t 4096); let c10 : Nat := 2 ^ 42; let c8 : Nat := p + 1; let c7 : AV := ak 3 p fun i ↦ rat (a i) 4096; let c6 : List (Nat × az) := [((0 : Nat), az.mk true true 3 m fun i ↦ rat (c i) 4096), ((1 : Nat), az.mk false true 3 1 fun x ↦ rat 0 1)]; let c3 : Int := (2 : Int) ^ 63; let c26 : AV := int i64 c13; let c24 : Prop := (0 : Int) ≤ c12 ∧ c12.toNat < c8; let c20 : AV := own 2 3 0 c8; let c14 : AV := int i64 c27; let c4 : Nat := c12.toNat + 0; let c2 : Int := c23 - c13 + c12; let c1 : Int := c12 - (1 : Int); let c25 : Prop := (0 : Int) ≤ c1 ∧ c1.toNat < c8; let c22 : Prop := -c3 ≤ c1 ∧ c1 < c3; let c9 : Int := c2 + c13 - c27; let c5 : Nat := c1.toNat + 0; let c18 : Nat := s c4 + s c5 + 1; some (fork (decide (c12 > c27)) (ag [-c3 ≤ c23 - c13 ∧ c23 - c13 < c3, -c3 ≤ c2 ∧ c2 < c3] (ag [(0 : Int) ≤ c2 ∧ c2.toNat < n, -c3 ≤ c2 + c13 ∧ c2 + c13 < c3, -c3 ≤ c9 ∧ c9 < c3, (0 : Int) ≤ c9 ∧ c9.toNat < n, c19, sK ≤ sK, sK ≤ sK, sK ≤ sK, c19] (ag [c22, c25, c5 < c8, c19, c24, c4 < c8, c22, c25, c5 < c8, s c4 < c10, s c5 < c10, sF < c10, c18 < c10, s c5 < c10, sF + c18 < c10, c24, c4 < c8] (ag [c22] (leaf normal ([c16, int i64 (0 : Int), c21, c7, c15, c26, int i64 c23, c20, c7, c26, c14, c14, c17, int i64 c1], c11 :: ((2 : Nat), az.mk true true 3 c8 fun j ↦ rat (bif j == c4 then x c5 + fr (k c2.toNat) (k c9.toNat) t * (x c4 - x c5) else x j) (bif j == c4 then s c5 + (sF + c18) + 1 else s j)) :: c6)))))) (leaf (exit 3) ([c16, int i64 (0 : Int), c21, c7, c15, c26, int i64 c23, c20, c7, c26, c14, c14, c17, int i64 c12], c11 :: ((2 : Nat), az.mk true true 3 c8 fun i ↦ rat (x i) (s i)) :: c6))) := by kernel_rfl
theorem T8 {n p m i r j : Nat} {k a c x : Nat → Rat} {s : Nat → Nat} {t : Rat} : aI T ov [] 60 kP [part oK [1,1,1]] ⟨aC rS (Bm n k p m a i r j), (3, tP t sK) :: kq p m c x s, 4⟩ =
  let c2 : Int := (↑r : Int) + (1 : Int); let c1 : AV := ak 3 p fun i ↦ rat (a i) 4096; some (ag [-(2 : Int) ^ 63 ≤ c2 ∧ c2 < (2 : Int) ^ 63] (leaf normal ([ptr 1 0 3 0 [], int i64 (0 : Int), own 0 3 0 m, c1, ak 3 n fun i ↦ rat (k i) 4096, int i64 (↑p : Int), int i64 (↑i : Int), own 2 3 0 (p + 1), c1, int i64 (↑p : Int), int i64 c2], [((2 : Nat), az.mk true true 3 (p + 1) fun i ↦ rat (x i) (s i)), ((0 : Nat), az.mk true true 3 m fun i ↦ rat (c i) 4096), ((1 : Nat), az.mk false true 3 1 fun x ↦ rat 0 1)]))) := by kernel_rfl
theorem UP {n p m i r : Nat} {k a c x : Nat → Rat} {s : Nat → Nat} : AH T ov [] 60 jh [part ye [1,1,1,1,1]] ⟨aC kP (qd n k p m a i r), kq p m c x s, 3⟩ =
  let c1 : Nat := (↑p : Int).toNat + 0; some (ag [(0 : Int) ≤ (↑p : Int) ∧ (↑p : Int).toNat < p + 1, c1 < p + 1, s c1 < 2 ^ 42, (1 : Nat) < 2 ^ 42, (0 : Nat) < 1] (ag [(0 : Nat) < 1] (leaf ret ([rat (x c1 + 0) (s c1 + 1 + 1), int i64 (0 : Int)], some (az.mk true true 3 m fun i ↦ rat (c i) 4096))))) := by kernel_rfl
theorem NB {n p m l : Nat} {k c a : Nat → Rat} {i : Int} (hp1 : 1 ≤ p) (hp6 : p ≤ 6) (hn : n < 2 ^ 40) (hm2 : m < 2 ^ 40) (hi : -2 ^ 40 < i) (hi2 : i < 2 ^ 40) (cx : Ctx) (hk : Kept [0] cx) :
  aq P cx jh.ntmps (ax jh) ⟨aL 0 [ls k n, .int .i64 p, .own 0 3 0 m, .int .i64 i, ls a l], [(0, iF m c)], 1⟩ (dc cx (uR T jh [.rat (kY n k p m c i l a) sB, .int .i64 (gk n k p m l i)] (iF m c))) := by
 obtain ⟨b, hb⟩ : ∃ b, b = i.toNat - p := ⟨_, rfl⟩
 obtain ⟨x, hx⟩ : ∃ x : Nat → Nat → Rat, x = fun r => bR k b p a (fun j => c (b + j)) r := ⟨_, rfl⟩
 have hx0 : x 0 = fun j => c (b + j) := by rw [hx]; rfl
 have hxS : ∀ r, x (r + 1) = ow k b p r (a r) (x r) := fun r => by rw [hx]; rfl
 have hSF := yA
 have hSK : sK = 4096 := rfl
 have hSV : sV = 268435456 := rfl
 have hrow : ∀ (l : Nat) (a : Nat → Rat) (w : Bool) (ρ : Nat → Option Nat), ck ρ ⟨true, w, 3, l, fun i => .rat (a i) sK⟩ ⟨true, w, 3, l, fun i => .rat (a i) sK⟩ := fun l a w ρ => gM rfl fun _ _ => aF rfl
 refine aq.zZ hT xk hm [1,1,1,1,0,1] (i := 1) (y := oK) (z := part ye [1,1,1,1,1]) (by kernel_rfl) (by kernel_rfl) (by kernel_rfl) D3.dst hk (f1 := [18, 25, 36, 42, 32]) 60 kP 3 (fun r : Nat => qd n k p m a i.toNat r) (fun r => kq p m c (x r) fun _ => SB r)
  (fun r => r ≤ p ∧ gk n k p m l i = 0) (fun r => r = p ∧ gk n k p m l i = 0) (fun r => p - r) (zF T jh [10, 11, 2] [.rat (kY n k p m c i l a) sB, .int .i64 (gk n k p m l i)] (iF m c)) ⟨_, Sw, ?_⟩ (fun r ⟨hr, he⟩ => ?_) (fun r ⟨hr, he⟩ => ?_) (fun v s' hv hs' => hv.fin (L1 := [4, 0, 1, 3, 12, 66, 67, 68]) hk hs')
 ·simp only [aa.all, ay, pX, bne_iff_ne, ne_eq, bne_eq_false_iff_eq, Int.toNat_natCast, cond_false, decide_eq_true_eq, decide_eq_false_iff_not, Cs]
  have ret : ∀ {e : Int} {us : List AV}, gk n k p m l i = e → e ≠ 0 → aV us = [] → zF T jh [10, 11, 2] [.rat (kY n k p m c i l a) sB, .int .i64 (gk n k p m l i)] (iF m c) ([ptr 1 0 3 0 [], int i64 e, own 0 3 0 m] ++ us, [((0 : Nat), iF m c), ((1 : Nat), az.mk false true 3 1 fun j ↦ if (j == 0) = true then bC (agg (kids (.rat 0 1))) else .rat 0 1)]) := fun {e us} h1 h2 h3 =>
   ⟨[_, _, _], us, 2, _, rfl, rfl, h3, Yh, rfl, ⟨⟨by omega, fun i _ => rfl⟩, ⟨by omega, fun i _ => Cb rfl rfl⟩, trivial⟩, by omega, Nat.zero_lt_one, rfl, rfl, Tr h1 h2, ⟨_, rfl, hrow _ _ _⟩⟩
  (repeat' with_reducible first | refine And.intro ?_ ?_ | intro _)
  all_goals first | omega | exact ej (Nat.le_refl _) | exact absurd ‹true = false› (by decide) | assumption | skip
  all_goals first | exact ret (ES (.inl ‹_›)) (by decide) rfl | exact ret (ES (.inr (by omega))) (by decide) rfl | skip
  all_goals first | exact ret (Cq (by omega) (by omega) (.inl (by omega))) (by decide) rfl | exact ret (Cq (by omega) (by omega) (.inr (.inl (by omega)))) (by decide) rfl | skip
  all_goals have e1 : (i + 1).toNat = i.toNat + 1 := by omega
  ·exact ret (Cq (by omega) (by omega) (.inr (.inr (by rw [← e1]; assumption)))) (by decide) rfl
  ·rename_i h1
   rw [e1] at h1
   have hlp : l = p := by omega
   subst hlp
   refine ⟨0, ⟨by omega, QS (by omega) rfl (by rintro (h | h | h) <;> first | omega | exact h1 h)⟩, [(0, 0), (1, 1), (2, 163841)], rfl, ?_, rfl, bG rfl rfl (by omega) (fun j hj => ?_) (aR rfl rfl (aM rfl rfl) (bG rfl rfl rfl (fun j hj => aM rfl rfl) trivial))⟩
   ·rw [show ((l : Int) + 1).toNat = l + 1 by omega]
    show _ = [_, _, _, _, _, _, AV.int i64 ((i.toNat : Nat) : Int), _, _, _, _]
    rw [show ((i.toNat : Nat) : Int) = i by omega]
    rfl
   ·rw [if_pos (by omega), hx0, show (i - (l : Int)).toNat = b by omega, Nat.sub_zero, Nat.zero_add, Nat.add_comm j b]
    exact .inr ⟨rfl, cm rfl (show sK ≤ SB 0 by decide)⟩
 ·have hin : (m : Int) = (n : Int) - p - 1 ∧ p ≤ i.toNat ∧ i.toNat < m ∧ i.toNat = b + p ∧ l = p := by
   unfold gk at he
   split at he
   ·omega
   ·split at he
    ·omega
    ·omega
  obtain ⟨i1, i2, i3, i4, i5⟩ := hin
  subst i5
  have hr4 : ∀ {s : Nat → Nat} {y : Nat → Rat}, kG 3 [(0, 0), (1, 1), (2, 2)] [((2 : Nat), az.mk true true 3 (l + 1) fun i ↦ rat (y i) (s i)), ((0 : Nat), iF m c), ((1 : Nat), az.mk false true 3 1 fun x ↦ rat 0 1)] (kq l m c y s) := bG rfl rfl rfl (fun j hj => aM rfl rfl) (aR rfl rfl (aM rfl rfl) (bG rfl rfl rfl (fun j hj => aM rfl rfl) trivial))
  refine aq.uL hT xk hm (y := oK) (x1 := wZ) (zb := part oK [1,1,1]) [1,1,0] (j := 2) (by kernel_rfl) (by kernel_rfl) (by kernel_rfl) (by kernel_rfl) hk (f1 := [69]) 60 kP 3 (fun _ : Unit => qd n k l m a i.toNat r) (fun _ => kq l m c (x r) fun _ => SB r) (fun _ => r < l) ⟨_, RA, ?_⟩ (fun _ hr' => ?_)
  ·simp only [aa.all, ay, decide_eq_true_eq, decide_eq_false_iff_not]
   have re : ∀ {s : Nat → Nat} {y : Nat → Rat}, eB [0] ([ptr 1 0 3 0 [], int i64 (0 : Int), own 0 3 0 m, ls a l, ak 3 n fun i ↦ rat (k i) sK, int i64 l, int i64 (i.toNat : Nat), own 2 3 0 (l + 1), ls a l, int i64 l, int i64 (r : Nat)], [((2 : Nat), az.mk true true 3 (l + 1) fun i ↦ rat (y i) (s i)), ((0 : Nat), iF m c), ((1 : Nat), az.mk false true 3 1 fun x ↦ rat 0 1)]) (qd n k l m a i.toNat r) (kq l m c y s) 3 :=
    ⟨[(0, 0), (1, 1), (2, 2)], rfl, rfl, rfl, hr4⟩
   exact ⟨fun h1 => ⟨(), by omega, re⟩, fun h1 s' hs' => ⟨rfl, r, ⟨by omega, he⟩, re.le hs' hk⟩⟩
  have h1 := pL (d := r)
  have h2 := vc (d := r) (by omega)
  have h3 := yX (d := r)
  refine aq.zK hT xk hm (x := wZ) [1,1] (i := 3) (y := part wZ [1,1,0,0]) (by kernel_rfl) (by kernel_rfl) (by kernel_rfl) hk (f1 := []) (f2 := [76]) 60 rS 4 (fun j : Nat => Bm n k l m a i.toNat r j) (fun j => (3, tP (a r) sK) :: kq l m c (jU k b l r (a r) (x r) j) (kH r j)) (fun j => r ≤ j ∧ j ≤ l) (fun j => j = r) (fun j => j) (fun _ => False) ⟨_, XW, ?_⟩ (fun j hj => ⟨_, MX, ?_⟩) (fun j s' hj hle => ?_) (fun _ _ h => h.elim)
  ·simp only [aa.all, ay, Int.toNat_natCast]
   refine ⟨⟨by omega, by omega⟩, l, by omega, [(0, 0), (1, 1), (2, 2), (3, 12291)], rfl, rfl, rfl, aR rfl rfl (aM rfl rfl) (bG rfl rfl rfl (fun j hj => aM rfl ?_) (aR rfl rfl (aM rfl rfl) (bG rfl rfl rfl (fun j hj => aM rfl rfl) trivial)))⟩
   unfold jU kH
   rw [if_pos (by omega), if_pos (by omega)]
  ·obtain ⟨hj1, hj2⟩ := hj
   have e1 : ((i.toNat : Nat) : Int) - (l : Int) + (j : Int) = ((b + j : Nat) : Int) := by omega
   have e2 : ((b + j : Nat) : Int) + (l : Int) - (r : Int) = ((b + j + (l - r) : Nat) : Int) := by omega
   have u1 : ∀ {j' : Nat}, j' ≤ j → kH r j j' = SB r := fun h => by unfold kH; rw [if_pos h]
   simp only [aa.all, ay, decide_eq_true_eq, decide_eq_false_iff_not, e1, e2, Int.toNat_natCast, Nat.add_zero]
   refine ⟨fun h4 => ?_, fun h4 => ⟨rfl, j, by omega, [(0, 0), (1, 1), (2, 2), (3, 3)], rfl, rfl, rfl, aR rfl rfl (aM rfl rfl) (bG rfl rfl rfl (fun j hj => aM rfl rfl) (aR rfl rfl (aM rfl rfl) (bG rfl rfl rfl (fun j hj => aM rfl rfl) trivial)))⟩⟩
   have e3 : ((j : Int) - 1).toNat = j - 1 := by omega
   have u2 := u1 (j' := j) (Nat.le_refl _)
   have u3 := u1 (j' := j - 1) (by omega)
   simp only [e3, u2, u3]
   (repeat' with_reducible refine And.intro ?_ ?_)
   all_goals first | omega | skip
   exact ⟨j - 1, by omega, by dsimp only; omega, [(0, 0), (1, 1), (2, 2), (3, 3)], rfl, by rw [show (j : Int) - 1 = ((j - 1 : Nat) : Int) by omega]; rfl, rfl, aR rfl rfl (aM rfl rfl) (bG rfl rfl rfl (fun q hq => ZM (by omega) (by omega)) (aR rfl rfl (aM rfl rfl) (bG rfl rfl rfl (fun j hj => aM rfl rfl) trivial)))⟩
  ·subst hj
   show aq P cx jh.ntmps (part oK [1,1,1]) s' _
   refine aq.jK hle (aq.aX hT xk hm 60 kP T8 (by kernel_rfl) ?_)
   simp only [aa.all, ay]
   refine ⟨by omega, fun s' hs' => ⟨j + 1, ⟨by omega, he⟩, by dsimp only; omega, eB.le ⟨[(0, 0), (1, 1), (2, 2)], rfl, rfl, rfl, bG rfl rfl rfl (fun q hq => ?_) (aR rfl rfl (aM rfl rfl) (bG rfl rfl rfl (fun j hj => aM rfl rfl) trivial))⟩ hs' hk⟩⟩
   refine .inr ⟨rfl, cm (by rw [Xc, hxS]) ?_⟩
   show kH j j q ≤ SB (j + 1)
   unfold kH
   split <;> omega
 ·have hlp : l = p := by
   unfold gk at he
   split at he
   ·omega
   ·omega
  subst hlp
  subst hr
  refine aq.nq ((aB.Tf hT xk hm 60 UP (by kernel_rfl) ?_).mono fun _ _ h => .inl h)
  have h2 := vc (d := r) hp6
  simp only [aa.all, ay, Int.toNat_natCast, Nat.add_zero]
  refine ⟨⟨by omega, by omega, by omega, by omega, by omega⟩, by omega, rfl, rfl, ⟨cm ?_ (by show SB r + 1 + 1 ≤ 536870912; omega), bq he.symm, trivial⟩, ⟨_, rfl, hrow _ _ _⟩⟩
  unfold kY
  rw [if_pos he, ← hb, hx, Rat.add_zero]
def qy (f : Nat → AV) (n s : Nat) : Prop := ∀ i, i < n → keys (f i) = [] ∧ bA (f i) (.rat (bp (f i)) s)
theorem Ml {k : Nat → Rat} {n s s' : Nat} (h : s ≤ s') : qy (fun i => .rat (k i) s) n s' := fun _ _ => ⟨rfl, ew h⟩
theorem qy.obj {f : Nat → AV} {n s : Nat} {w : Bool} (h : qy f n s) {m : Nat} (hm : n = m) (ρ : Nat → Option Nat) : ck ρ ⟨true, w, 3, n, f⟩ ⟨true, w, 3, m, fun i => .rat (bp (f i)) s⟩ := ⟨rfl, rfl, rfl, hm.symm, fun i hi => kJ (h i hi).1 (h i hi).2⟩
def BH : Spec := fun _ args pre => match args, pre with
 | [.ak 3 n kf, .int .i64 p, .own b 3 0 m, .int .i64 i, .ak 3 l af], [(b', ⟨true, true, 3, mb, fb⟩)] => match b' == b with
  | true => some ⟨I1 n (fun i => bp (kf i)) p.toNat m (fun i => bp (fb i)) i l (fun i => bp (af i)), [(b, iF m fun i => bp (fb i))],
   [mb = m, cz kf n sK, cz af l sK, qy fb m sK, 1 ≤ p, p ≤ 6, n < 2 ^ 40, m < 2 ^ 40, -2 ^ 40 < i, i < 2 ^ 40]⟩
  | false => none
 | _, _ => none
theorem acy : ∀ K args pre r, BH K args pre = some r → aA P zY K args pre r := by
 intro K args pre r h
 unfold BH at h
 split at h
 ·rename_i n kf p b m i l af b' mb fb
  split at h
  ·rename_i hc
   have hc := eq_of_beq hc
   subst hc
   simp only [Option.some.injEq] at h
   subst h
   intro need
   obtain ⟨rfl, n1, n2, n3, n4, n5, n6, n7, n8, n9⟩ := need
   refine P4 hT D3 (args := [.ak 3 n kf, .int .i64 p, .own b' 3 0 mb, .int .i64 i, .ak 3 l af]) (us := [.rat (kY n (fun i => bp (kf i)) p.toNat mb (fun i => bp (fb i)) i l (fun i => bp (af i))) sB, .int .i64 (gk n (fun i => bp (kf i)) p.toNat mb l i)]) (args0 := [ls (fun i => bp (kf i)) n, .int .i64 p, .own 0 3 0 mb, .int .i64 i, ls (fun i => bp (af i)) l]) (of_decide_eq_true (by kernel_rfl))
    ⟨⟨rfl, kJ rfl (Be n1)⟩, ⟨rfl, aF rfl⟩, ⟨rfl, cF rfl rfl rfl⟩, ⟨rfl, aF rfl⟩, ⟨rfl, kJ rfl (Be n2)⟩, trivial⟩ (fun _ ρ => n3.obj rfl ρ) (fun _ c hk => ?_) K ⟨rfl, n1, n2, n3, n4, n5, n6, n7, n8, n9⟩
   have := NB (n := n) (p := p.toNat) (m := mb) (l := l) (k := fun i => bp (kf i)) (c := fun i => bp (fb i)) (a := fun i => bp (af i)) (i := i) (by omega) (by omega) n6 n7 n8 n9 c hk
   rw [Int.toNat_of_nonneg (by omega)] at this
   exact this
  ·simp at h
 ·simp at h
end Go.Am.B

/- spline.piece, Spline.polar. -/
namespace Go.Am.B
open Go Go.Am.N AV aa aj IntKind
theorem OS : aO P w8 ve (ax ve) := aP ZT (by kernel_rfl) (by kernel_rfl) (by kernel_rfl)
theorem FW : aO P rQ lU (ax lU) := aP ZB (by kernel_rfl) (by kernel_rfl) (by kernel_rfl)
def qz (k : Nat → Rat) (n : Nat) : Nat → Nat → Nat
 | 0, i => i
 | f + 1, i => if i + 1 < n ∧ k (i + 1) ≤ k i then qz k n f (i + 1) else i
def fU (k : Nat → Rat) (n i : Nat) : Nat := qz k n (n - i) i
abbrev xo : List Nat := [0, 1, 4]
abbrev AW (n i : Nat) (k : Nat → Rat) : List AV := [ls k n, .int .i64 i, .int .i64 0]
noncomputable abbrev u5 : Code := ax ve
def l8 (h : Pl) : Nat → Rat
 | 0 => h.n.x
 | 1 => h.n.y
 | 2 => h.n.z
 | _ => h.d
def kO (g : Nat → Rat) : Nat → Pl
 | 0 => ⟨⟨0, 0, 0⟩, 0⟩
 | 1 => ⟨⟨g 0, 0, 0⟩, 0⟩
 | 2 => ⟨⟨g 0, g 1, 0⟩, 0⟩
 | 3 => ⟨⟨g 0, g 1, g 2⟩, 0⟩
 | _ => ⟨⟨g 0, g 1, g 2⟩, g 3⟩
def gY (c : Cu) (i : Int) (l : Nat) (g : Nat → Rat) (a : Nat) : Rat := kY c.n c.k c.p.toNat c.m (fun j => l8 (c.f j) a) i l g
def ud (c : Cu) (i : Int) (l : Nat) (g : Nat → Rat) : Pl := ⟨⟨gY c i l g 0, gY c i l g 1, gY c i l g 2⟩, gY c i l g 3⟩
def kT (c : Cu) (a : Nat) (x : Nat → Rat) (j q : Nat) : Rat := if q < j ∨ c.m ≤ q then l8 (c.f q) a else x q
theorem R5 {c : Cu} {a : Nat} {x : Nat → Rat} : kT c a x c.m = fun q => l8 (c.f q) a := by
 funext q; unfold kT; rw [if_pos (by omega)]
noncomputable def l9 : aQ := nG :: (zY, BH) :: fZ
abbrev ga : List Nat := [1, 2, 3, 6, 7, 8, 16]
abbrev iN (c : Cu) (i : Int) (l : Nat) (g : Nat → Rat) (a : Nat) : List AV := [.int .i64 i, ls g l, .ptr 0 0 3 0 [], .ptr 1 0 12 0 [], .ptr 2 0 12 0 [], .own 3 3 0 c.m, .int .i64 a]
abbrev tA : List Nat := [1, 2, 3, 6, 7, 8, 16, 9, 20, 21, 22]
abbrev yT (c : Cu) (i : Int) (l : Nat) (g : Nat → Rat) (a j : Nat) : List AV := [.int .i64 i, ls g l, .ptr 0 0 3 0 [], .ptr 1 0 12 0 [], .ptr 2 0 12 0 [], .own 3 3 0 c.m, .int .i64 a, .int .i64 a, o5 c.f c.m sK, .int .i64 c.m, .int .i64 j]
abbrev gB (c : Cu) (x : Nat → Rat) (h : Pl) : aD := [(3, iF c.m x), (2, jD h sB), (1, jD ⟨⟨0, 0, 0⟩, 0⟩ 1), (0, mG c sK)]
noncomputable abbrev yK : Code := ax lU
noncomputable abbrev lf : Code := part yK [1,1,1,0,1,0,0]
noncomputable abbrev kW : Code := part lf [1,1,0,0]
theorem Xd {n i : Nat} {k : Nat → Rat} : aI T (nG :: fZ) [] 60 xo (before u5 [1,0]) ⟨aL 0 [ls k n, .int .i64 i], [], 0⟩ =
  some (leaf normal ([ak 3 n fun i ↦ rat (k i) 4096, int i64 (↑i : Int), int i64 (0 : Int)], [])) := by kernel_rfl
theorem QD {n i : Nat} {k : Nat → Rat} : aI T (nG :: fZ) [10, 22] 60 xo [part u5 [1,0,0,0]] ⟨aC xo (AW n i k), [], 0⟩ =
  let c9 : Prop := sK < 2 ^ 42; let c8 : Int := (↑i : Int); let c3 : AV := ak 3 n fun i ↦ rat (k i) 4096; let c4 : aa (List AV × aD) := leaf (exit 0) ([c3, int i64 c8, int i64 (0 : Int)], []); let c1 : Int := c8 + (1 : Int); let c7 : Int := ef (k c8.toNat) (k c1.toNat); let c6 : Bool := decide (c1 < (↑n : Int)); let c2 : Prop := -(2 : Int) ^ 63 ≤ c1 ∧ c1 < (2 : Int) ^ 63; let c5 : aa (List AV × aD) := ag [c2] (leaf normal ([c3, int i64 c1, int i64 (0 : Int)], [])); some (fork c6 (ag [c2, c6 = true, (0 : Int) ≤ c8 ∧ c8.toNat < n, c2, (0 : Int) ≤ c1 ∧ c1.toNat < n, c9, c9] (fork (bif true then decide (c7 ≥ (0 : Int)) else false) c5 c4)) (ag [c2, c6 = false] (fork false c5 c4))) := by kernel_rfl
theorem WO {n i : Nat} {k : Nat → Rat} : cq T (nG :: fZ) [] 60 ve [part u5 [1,1]] ⟨aC xo (AW n i k), [], 0⟩ =
  some (leaf ret [int i64 (↑i : Int)]) := by kernel_rfl
theorem W5 {c : Cu} {i : Int} {l : Nat} {g : Nat → Rat} : aI T l9 [] 60 ga (before yK [1,1,1,0,1]) ⟨aL 0 [eL c sK sK, .int .i64 i, ls g l], [], 0⟩ =
  let c4 : Nat := (bC (eL c sK sK)).size; let c3 : Int := (↑c.m : Int); let c1 : AV := rat 0 1; let c2 : az := az.mk false true 12 1 fun x ↦ agg [c1, c1, c1, c1]; some (ag [(0 : Nat) < 1, (0 : Int) ≤ c3 ∧ c3 ≤ c3 ∧ c3 ≤ (2 : Int) ^ 47 ∧ c3 * (↑(56 : Nat) : Int) ≤ (2 : Int) ^ 47] (leaf normal ([int i64 i, ak 3 l fun i ↦ rat (g i) 4096, ptr 0 0 c4 0 [], ptr 4096 0 12 0 [], ptr 8192 0 12 0 [], own 24576 3 0 c3.toNat, int i64 (0 : Int)], [((24576 : Nat), az.mk true true 3 c3.toNat fun x ↦ c1), ((8192 : Nat), c2), ((4096 : Nat), c2), ((0 : Nat), az.mk false true c4 1 fun x ↦ agg [int i64 c.p, ak 3 c.n fun i ↦ rat (c.k i) 4096, ak 12 c.m fun i ↦ agg [rat (c.f i).n.x 4096, rat (c.f i).n.y 4096, rat (c.f i).n.z 4096, rat (c.f i).d 4096]])]))) := by kernel_rfl
theorem Re {c : Cu} {i : Int} {l a : Nat} {g x : Nat → Rat} {h : Pl} : aI T l9 [17] 60 ga (before lf [1,1,0]) ⟨aC ga (iN c i l g a), gB c x h, 4⟩ =
  let c2 : AV := rat 0 1; let c1 : List AV × aD := ([int i64 i, ak 3 l fun i ↦ rat (g i) 4096, ptr 0 0 3 0 [], ptr 1 0 12 0 [], ptr 2 0 12 0 [], own 3 3 0 c.m, int i64 (↑a : Int)], [((3 : Nat), az.mk true true 3 c.m fun i ↦ rat (x i) 4096), ((2 : Nat), az.mk false true 12 1 fun x ↦ agg [rat h.n.x 536870912, rat h.n.y 536870912, rat h.n.z 536870912, rat h.d 536870912]), ((1 : Nat), az.mk false true 12 1 fun x ↦ agg [c2, c2, c2, c2]), ((0 : Nat), az.mk false true 3 1 fun x ↦ agg [int i64 c.p, ak 3 c.n fun i ↦ rat (c.k i) 4096, ak 12 c.m fun i ↦ agg [rat (c.f i).n.x 4096, rat (c.f i).n.y 4096, rat (c.f i).n.z 4096, rat (c.f i).d 4096]])]); some (fork (decide ((↑a : Int) < (4 : Int))) (leaf normal c1) (leaf (exit 0) c1)) := by kernel_rfl
theorem LL {c : Cu} {i : Int} {l a : Nat} {g x : Nat → Rat} {h : Pl} : aI T l9 [] 60 tA (before kW [1,0,1]) ⟨aC ga (iN c i l g a), gB c x h, 4⟩ =
  let c2 : AV := rat 0 1; let c1 : AV := ak 12 c.m fun i ↦ agg [rat (c.f i).n.x 4096, rat (c.f i).n.y 4096, rat (c.f i).n.z 4096, rat (c.f i).d 4096]; some (ag [(0 : Nat) < 1] (leaf normal ([int i64 i, ak 3 l fun i ↦ rat (g i) 4096, ptr 0 0 3 0 [], ptr 1 0 12 0 [], ptr 2 0 12 0 [], own 3 3 0 c.m, int i64 (↑a : Int), int i64 (↑a : Int), c1, int i64 (↑c.m : Int), int i64 (0 : Int)], [((3 : Nat), az.mk true true 3 c.m fun i ↦ rat (x i) 4096), ((2 : Nat), az.mk false true 12 1 fun x ↦ agg [rat h.n.x 536870912, rat h.n.y 536870912, rat h.n.z 536870912, rat h.d 536870912]), ((1 : Nat), az.mk false true 12 1 fun x ↦ agg [c2, c2, c2, c2]), ((0 : Nat), az.mk false true 3 1 fun x ↦ agg [int i64 c.p, ak 3 c.n fun i ↦ rat (c.k i) 4096, c1])]))) := by kernel_rfl
theorem Mk {c : Cu} {i : Int} {l a : Nat} {g x : Nat → Rat} {h : Pl} : aI T l9 [] 60 ga [part lf [1,1,1]] ⟨aC ga (iN c i l g a), gB c x h, 4⟩ =
  let c2 : Int := (↑a : Int) + (1 : Int); let c1 : AV := rat 0 1; some (ag [-(2 : Int) ^ 63 ≤ c2 ∧ c2 < (2 : Int) ^ 63] (leaf normal ([int i64 i, ak 3 l fun i ↦ rat (g i) 4096, ptr 0 0 3 0 [], ptr 1 0 12 0 [], ptr 2 0 12 0 [], own 3 3 0 c.m, int i64 c2], [((3 : Nat), az.mk true true 3 c.m fun i ↦ rat (x i) 4096), ((2 : Nat), az.mk false true 12 1 fun x ↦ agg [rat h.n.x 536870912, rat h.n.y 536870912, rat h.n.z 536870912, rat h.d 536870912]), ((1 : Nat), az.mk false true 12 1 fun x ↦ agg [c1, c1, c1, c1]), ((0 : Nat), az.mk false true 3 1 fun x ↦ agg [int i64 c.p, ak 3 c.n fun i ↦ rat (c.k i) 4096, ak 12 c.m fun i ↦ agg [rat (c.f i).n.x 4096, rat (c.f i).n.y 4096, rat (c.f i).n.z 4096, rat (c.f i).d 4096]])]))) := by kernel_rfl
theorem RJ {c : Cu} {i : Int} {l a : Nat} {g x : Nat → Rat} {h : Pl} : cq T l9 [] 60 lU [part yK [1,1,1,1]] ⟨aC ga (iN c i l g a), gB c x h, 4⟩ =
  let c1 : Prop := 0 < 1; some (ag [c1, c1] (ag [c1] (leaf ret [agg [rat h.n.x 536870912, rat h.n.y 536870912, rat h.n.z 536870912, rat h.d 536870912]]))) := by kernel_rfl
theorem Va {k : Nat → Rat} {n i : Nat} (h : i + 1 < n) (h2 : k (i + 1) ≤ k i) : fU k n i = fU k n (i + 1) := by
 unfold fU; rw [show n - i = (n - (i + 1)) + 1 by omega, qz, if_pos ⟨h, h2⟩]
theorem HQ {k : Nat → Rat} {n i : Nat} (h : ¬ (i + 1 < n ∧ k (i + 1) ≤ k i)) : fU k n i = i := by
 unfold fU
 cases n - i with
 | zero => rfl
 | succ f => rw [qz, if_neg h]
theorem Xo {n i : Nat} {k : Nat → Rat} (hi : i ≤ n) (hn : n < 2 ^ 40) (K : Nat) : aA P w8 K [ls k n, .int .i64 i] [] (aG (.int .i64 (fU k n i)) []) := by
 refine gV (r := aG (.int .i64 (fU k n i)) []) hT (dM gU) hm OS rfl (of_decide_eq_true (by kernel_rfl)) rfl [1,0] (i := 0) (y := part u5 [1,0,0,0]) (z := part u5 [1,1]) (by kernel_rfl) (by kernel_rfl) (by kernel_rfl) (f1 := []) (f2 := [10, 22]) (f3 := []) 60 xo 0
  (fun j : Nat => AW n j k) (fun _ => []) (fun j => j ≤ n ∧ fU k n j = fU k n i) (fun j => j = fU k n i) (fun j => n - j) (fun _ => ⟨⟨_, Xd, ?_⟩, fun j hj => ⟨_, QD, ?_⟩, fun j hj => ⟨_, WO, ?_⟩⟩) K []
 ·simp only [aa.all, ay]
  exact ⟨i, ⟨hi, rfl⟩, [], rfl, rfl, rfl, trivial⟩
 ·have e1 : ((j : Int) + 1).toNat = j + 1 := by omega
  simp only [aa.all, ay, decide_eq_true_eq, decide_eq_false_iff_not, Int.toNat_natCast, cond_true, e1, Cs]
  refine ⟨fun h1 => ⟨⟨by omega, by omega, by omega, by omega, by omega, by decide, by decide⟩, fun h2 => ⟨by omega, j + 1, ⟨by omega, (Va (by omega) h2).symm.trans hj.2⟩, by dsimp only; omega, [], rfl, rfl, rfl, trivial⟩, fun h2 => ⟨rfl, j, ?_, [], rfl, rfl, rfl, trivial⟩⟩, fun h1 => ⟨⟨by omega, by omega⟩, fun h => absurd h (by decide), fun _ => ⟨rfl, j, ?_, [], rfl, rfl, rfl, trivial⟩⟩⟩
  ·exact (HQ fun h => h2 h.2).symm.trans hj.2
  ·exact (HQ fun h => by omega).symm.trans hj.2
 ·subst hj
  simp only [aa.all, ay]
  exact .refl _
def Jn : Spec := dn (kC (kL sK) (kC kI kN)) (fun a => .int .i64 (fU a.1.2 a.1.1 a.2.1.toNat)) fun a => [0 ≤ a.2.1, a.2.1 ≤ a.1.1, a.1.1 < 2 ^ 40]
theorem ZV : ∀ K args pre r, Jn K args pre = some r → aA P w8 K args pre r := dD fun ⟨⟨n, k⟩, i, _⟩ K hn => by
 obtain ⟨h1, h2, h3⟩ := hn
 have := Xo (n := n) (i := i.toNat) (k := k) (by dsimp only at *; omega) h3 K
 rw [Int.toNat_of_nonneg h1] at this
 exact this
theorem qY : bg P l9 := dM (aH acy gU)
def tq (c : Cu) : Nat → Nat → Rat
 | 0 => fun _ => 0
 | a + 1 => fun q => l8 (c.f q) a
theorem PE {rl : List (Nat × Nat)} {c : Cu} {a : Nat} {x : Nat → Rat} {q : Nat} (hq : q < c.m) : fN rl (.rat (x q) sK) (.rat (kT c a x 0 q) sK) := aM rfl (by unfold kT; rw [if_neg (by omega)])
theorem WW {rl : List (Nat × Nat)} {c : Cu} {a j : Nat} {x : Nat → Rat} {q : Nat} {v : Rat} (hq : q < c.m) (hv : v = l8 (c.f j) a) : fN rl (.rat (bif q == j then v else kT c a x j q) (bif q == j then sK else sK)) (.rat (kT c a x (j + 1) q) sK) := by
 refine aM rfl ?_
 rw [Bool.cond_self]
 congr 1
 by_cases h : q = j
 ·subst h
  rw [beq_self_eq_true, cond_true, hv]; unfold kT; rw [if_pos (by omega)]
 ·rw [beq_eq_false_iff_ne.2 h, cond_false]; unfold kT
  by_cases h2 : q < j
  ·rw [if_pos (.inl h2), if_pos (.inl (by omega))]
  ·rw [if_neg (by omega), if_neg (by omega)]
theorem U3 {x : Nat → Rat} {m : Nat} : qy (fun i => .rat (x i) sK) m sK := Ml (Nat.le_refl _)
theorem four {a : Nat} (ha : a < 4) : a = 0 ∨ a = 1 ∨ a = 2 ∨ a = 3 := by omega
theorem abr {c : Cu} {i : Int} {l a j : Nat} {g x : Nat → Rat} {h : Pl} (ha : a < 4) : aI T l9 [23] 60 tA [part kW [1,0,1,0,0]] ⟨aC tA (yT c i l g a j), gB c x h, 4⟩ =
  some (fork (decide ((j : Int) < c.m)) (ag [(0 : Int) ≤ j ∧ (j : Int).toNat < c.m, 0 < 1] (ag [(0 : Int) ≤ a ∧ (a : Int) < (4 : Nat), 0 < 1, (0 : Int) ≤ j ∧ (j : Int).toNat < c.m, (j : Int).toNat + 0 < c.m] (ag [-(2 : Int) ^ 63 ≤ (j : Int) + 1 ∧ (j : Int) + 1 < (2 : Int) ^ 63]
   (leaf normal ([.int .i64 i, ls g l, .ptr 0 0 3 0 [], .ptr 1 0 12 0 [], .ptr 2 0 12 0 [], .own 3 3 0 c.m, .int .i64 a, .int .i64 a, o5 c.f c.m sK, .int .i64 c.m, .int .i64 ((j : Int) + 1)], (3, ⟨true, true, 3, c.m, fun q => .rat (bif q == (j : Int).toNat + 0 then l8 (c.f (j : Int).toNat) a else x q) (bif q == (j : Int).toNat + 0 then sK else sK)⟩) :: [(2, jD h sB), (1, jD ⟨⟨0, 0, 0⟩, 0⟩ 1), (0, mG c sK)]))))) (leaf (exit 2) (yT c i l g a j, gB c x h))) := by
 rcases four ha with rfl | rfl | rfl | rfl <;> kernel_rfl
theorem UE {c : Cu} {i : Int} {l a j : Nat} {g x : Nat → Rat} {h : Pl} (ha : a < 4) : aI T l9 [] 60 ga [part kW [1,1]] ⟨aC tA (yT c i l g a j), gB c x h, 4⟩ =
  some (ag [0 < 1, 0 < 1, c.m = c.m, cz (fun i => .rat (c.k i) sK) c.n sK, cz (fun i => .rat (g i) sK) l sK, qy (fun i => .rat (x i) sK) c.m sK, (1 : Int) ≤ c.p, c.p ≤ (6 : Int), c.n < 2 ^ 40, c.m < 2 ^ 40, -(2 : Int) ^ 40 < i, i < (2 : Int) ^ 40, (0 : Int) ≤ a ∧ (a : Int) < (4 : Nat), 0 < 1]
   (leaf normal (iN c i l g a, [(3, iF c.m x), (2, ⟨false, true, 12, 1, fun j => if (j == 0) = true then .agg ((cV h sB).kids.set a (.rat (kY c.n c.k c.p.toNat c.m x i l g) sB)) else cV h sB⟩), (1, jD ⟨⟨0, 0, 0⟩, 0⟩ 1), (0, mG c sK)]))) := by
 rcases four ha with rfl | rfl | rfl | rfl <;> kernel_rfl
theorem Zm {rl : List (Nat × Nat)} {G : Nat → Rat} {a : Nat} (ha : a < 4) : fN rl (.agg ((cV (kO G a) sB).kids.set a (.rat (G a) sB))) (cV (kO G (a + 1)) sB) := by
 rcases four ha with rfl | rfl | rfl | rfl <;> exact aM rfl rfl
theorem Yj {c : Cu} {i : Int} {l a : Nat} {g x : Nat → Rat} {cx : Ctx} {Q : aj → aE → Prop} (ha : a < 4) (hk : Kept [] cx) (hp1 : 1 ≤ c.p) (hp6 : c.p ≤ 6) (hn : c.n < 2 ^ 40) (hm2 : c.m < 2 ^ 40) (hi : -2 ^ 40 < i) (hi2 : i < 2 ^ 40)
  (hQ : ∀ s', (∃ ρ, Le cx ρ s' ⟨aC ga (iN c i l g a), gB c (tq c (a + 1)) (kO (gY c i l g) (a + 1)), 4⟩) → aq P cx lU.ntmps (part lf [1,1,1]) s' Q) :
  aq P cx lU.ntmps kW ⟨aC ga (iN c i l g a), gB c x (kO (gY c i l g) a), 4⟩ (inBlock 1 (cP (fun s' => aq P cx lU.ntmps (part lf [1,1,1]) s' Q) Q)) := by
 refine aq.zK hT qY hm (x := kW) [1,0,1] (i := 2) (y := part kW [1,0,1,0,0]) (by kernel_rfl) (by kernel_rfl) (by kernel_rfl) hk (f1 := []) (f2 := [23]) 60 tA 4 (fun j : Nat => yT c i l g a j) (fun j => gB c (kT c a x j) (kO (gY c i l g) a)) (fun j => j ≤ c.m) (fun j => j = c.m) (fun j => c.m - j) (fun _ => False) ⟨_, LL, ?_⟩ (fun j hj => ⟨_, abr ha, ?_⟩) (fun j s' hj hle => ?_) (fun _ _ h => h.elim)
 ·simp only [aa.all, ay]
  exact ⟨by omega, 0, Nat.zero_le _, [(0, 0), (1, 1), (2, 2), (3, 3)], rfl, rfl, rfl, bG rfl rfl rfl (fun q hq => PE hq) (aR rfl rfl (aM rfl rfl) (aR rfl rfl (aM rfl rfl) (aR rfl rfl (aM rfl rfl) trivial)))⟩
 ·simp only [aa.all, ay, decide_eq_true_eq, decide_eq_false_iff_not, Int.toNat_natCast, Nat.add_zero]
  exact ⟨fun h1 => ⟨⟨by omega, by omega⟩, ⟨by omega, by omega, by omega, by omega⟩, by omega, j + 1, by omega, by dsimp only; omega, [(0, 0), (1, 1), (2, 2), (3, 3)], rfl, rfl, rfl, bG rfl rfl rfl (fun q hq => WW hq rfl) (aR rfl rfl (aM rfl rfl) (aR rfl rfl (aM rfl rfl) (aR rfl rfl (aM rfl rfl) trivial)))⟩,
   fun h1 => ⟨rfl, j, by omega, [(0, 0), (1, 1), (2, 2), (3, 3)], rfl, rfl, rfl, bG rfl rfl rfl (fun q hq => aM rfl rfl) (aR rfl rfl (aM rfl rfl) (aR rfl rfl (aM rfl rfl) (aR rfl rfl (aM rfl rfl) trivial)))⟩⟩
 ·subst hj
  simp only [R5] at hle
  rw [show behind kW [1,0,1] = [part kW [1,1]] from by kernel_rfl]
  refine aB.weak rfl hle (aB.aX hT qY hm 60 ga (UE ha) (by kernel_rfl) ?_)
  simp only [aa.all, ay]
  refine ⟨⟨by omega, by omega, trivial, ej (Nat.le_refl _), ej (Nat.le_refl _), U3, hp1, hp6, hn, hm2, hi, hi2, by omega, by omega⟩, fun s'' hs'' => hQ s'' (eB.le ⟨[(0, 0), (1, 1), (2, 2), (3, 3)], rfl, rfl, rfl, bG rfl rfl rfl (fun q hq => aM rfl rfl) (aR rfl rfl (Zm ha) (aR rfl rfl (aM rfl rfl) (aR rfl rfl (aM rfl rfl) trivial)))⟩ hs'' hk)⟩
theorem YR {c : Cu} {i : Int} {l : Nat} {g : Nat → Rat} (hp1 : 1 ≤ c.p) (hp6 : c.p ≤ 6) (hn : c.n < 2 ^ 40) (hm2 : c.m < 2 ^ 40) (hi : -2 ^ 40 < i) (hi2 : i < 2 ^ 40) (K : Nat) : aA P rQ K [eL c sK sK, .int .i64 i, ls g l] [] (aG (cV (ud c i l g) sB) []) := by
 refine gb (r := aG (cV (ud c i l g) sB) []) hT FW rfl (of_decide_eq_true (by kernel_rfl)) rfl (fun _ cx h00 => ?_) K []
 have hk := sX h00
 refine aq.zZ hT qY hm [1,1,1,0,1] (i := 0) (y := lf) (z := part yK [1,1,1,1]) (by kernel_rfl) (by kernel_rfl) (by kernel_rfl) FW.dst hk (f1 := []) 60 ga 4 (fun a : Nat => iN c i l g a) (fun a => gB c (tq c a) (kO (gY c i l g) a)) (fun a => a ≤ 4) (fun a => a = 4) (fun a => 4 - a) (fun _ => False) ⟨_, W5, ?_⟩ (fun a ha => ?_) (fun a ha => ?_) (fun _ _ h => h.elim)
 ·simp only [aa.all, ay, Int.toNat_natCast]
  exact ⟨⟨by omega, by omega⟩, 0, by omega, [(0, 0), (1, 4096), (2, 8192), (3, 24576)], rfl, rfl, rfl, bG rfl rfl rfl (fun q hq => .inr ⟨rfl, cm rfl (by decide)⟩) (aR rfl rfl (.inr ⟨rfl, ee (show dP [.rat _ _, .rat _ _, .rat _ _, .rat _ _] [.rat _ _, .rat _ _, .rat _ _, .rat _ _] from ⟨cm rfl (by decide), cm rfl (by decide), cm rfl (by decide), cm rfl (by decide), trivial⟩)⟩) (aR rfl rfl (aM rfl rfl) (aR rfl rfl (aM rfl rfl) trivial)))⟩
 ·have re : ∀ {x : Nat → Rat} {h : Pl}, eB [] (iN c i l g a, gB c x h) (iN c i l g a) (gB c x h) 4 :=
   fun {x h} => ⟨[(0, 0), (1, 1), (2, 2), (3, 3)], rfl, rfl, rfl, bG rfl rfl rfl (fun q hq => aM rfl rfl) (aR rfl rfl (aM rfl rfl) (aR rfl rfl (aM rfl rfl) (aR rfl rfl (aM rfl rfl) trivial)))⟩
  refine aq.uL hT qY hm (y := lf) (x1 := kW) (zb := part lf [1,1,1]) [1,1,0] (j := 1) (by kernel_rfl) (by kernel_rfl) (by kernel_rfl) (by kernel_rfl) hk (f1 := [17]) 60 ga 4 (fun _ : Unit => iN c i l g a) (fun _ => gB c (tq c a) (kO (gY c i l g) a)) (fun _ => a < 4) ⟨_, Re, ?_⟩ (fun _ ha' => ?_)
  ·simp only [aa.all, ay, decide_eq_true_eq, decide_eq_false_iff_not]
   exact ⟨fun h1 => ⟨(), by omega, re⟩, fun h1 s' hs' => ⟨rfl, a, by omega, re.le hs' hk⟩⟩
  have nx : ∀ s', (∃ ρ, Le cx ρ s' ⟨aC ga (iN c i l g a), gB c (tq c (a + 1)) (kO (gY c i l g) (a + 1)), 4⟩) → aq P cx lU.ntmps (part lf [1,1,1]) s' (ER cx ga (fun a : Nat => iN c i l g a) (fun a => gB c (tq c a) (kO (gY c i l g) a)) 4 (fun a => a ≤ 4) (fun a => a = 4) (fun a => 4 - a) 0 (fun s' => ∃ v, False ∧ aU ga s' = some v) a) := fun s' hle => by
   refine aq.jK hle (aq.aX hT qY hm 60 ga Mk (by kernel_rfl) ?_)
   simp only [aa.all, ay]
   exact ⟨by omega, fun s'' hs'' => ⟨a + 1, by omega, by dsimp only; omega, eB.le ⟨[(0, 0), (1, 1), (2, 2), (3, 3)], rfl, rfl, rfl, bG rfl rfl rfl (fun q hq => aM rfl rfl) (aR rfl rfl (aM rfl rfl) (aR rfl rfl (aM rfl rfl) (aR rfl rfl (aM rfl rfl) trivial)))⟩ hs'' hk⟩⟩
  exact Yj ha' hk hp1 hp6 hn hm2 hi hi2 nx
 ·subst ha
  refine aq.nq ((aB.fin hT qY hm 60 RJ (by kernel_rfl) ?_).mono fun _ _ h => .inl h)
  simp only [aa.all, ay]
  exact ⟨⟨by omega, by omega⟩, by omega, .refl _⟩
def EF : Spec := dn (kC (wg sK sK) (kC kI (kC (kL sK) kN))) (fun a => cV (ud a.1 a.2.1 a.2.2.1.1 a.2.2.1.2) sB) fun a => [1 ≤ a.1.p, a.1.p ≤ 6, a.1.n < 2 ^ 40, a.1.m < 2 ^ 40, -2 ^ 40 < a.2.1, a.2.1 < 2 ^ 40]
theorem T2 : ∀ K args pre r, EF K args pre = some r → aA P rQ K args pre r := dD fun ⟨c, i, ⟨l, g⟩, _⟩ K hn => YR hn.1 hn.2.1 hn.2.2.1 hn.2.2.2.1 hn.2.2.2.2.1 hn.2.2.2.2.2 K
end Go.Am.B

/- ref02: SameList, Mid, Text; ref08.Greville. -/
namespace Go.Am.B
open Go Go.Am.N AV aa aj IntKind
theorem XP : aO P sA jO (ax jO) := aP Pw (by kernel_rfl) (by kernel_rfl) (by kernel_rfl)
theorem Nr : aO P vW iM (ax iM) := aP Xk (by kernel_rfl) (by kernel_rfl) (by kernel_rfl)
end Go.Am.B

/- Affine changes of fP: fP.Affine, ref08.Affine; ref08.Mirror. -/
namespace Go.Am.B
open Go Go.Am.N AV aa aj IntKind
abbrev Bw (m : Nat) (k : Nat → Rat) (s : Nat) : az := ⟨true, true, 3, m, fun i => .rat (k i) s⟩
end Go.Am.B
