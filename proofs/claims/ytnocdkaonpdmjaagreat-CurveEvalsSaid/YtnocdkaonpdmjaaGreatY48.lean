/- fE.Times, ref08.Times; fE.copied. -/
import Derived.Test.YtnocdkaonpdmjaaGreatY45
import Derived.Test.YtnocdkaonpdmjaaGreatC8
import Derived.Test.YtnocdkaonpdmjaaGreatZ2
import Derived.Test.YtnocdkaonpdmjaaGreatC2
set_option linter.unusedVariables false
namespace Go.Am.B
open Go Go.Am.N AV aa ah IntKind
theorem SK : aN P rq tB (au tB) := aP OL (by kernel_rfl) (by kernel_rfl) (by kernel_rfl)
theorem Cy : aN P ni wh (au wh) := aP aaF (by kernel_rfl) (by kernel_rfl) (by kernel_rfl)
abbrev w7 : List Nat := [3, 5, 8, 9, 10]
abbrev xo (n : Nat) (k : Nat → Rat) (c i : Nat) : List AV := [.ptr 0 0 3 0 [], .int .i64 c, ls k n, .int .i64 n, .int .i64 i]
noncomputable abbrev uv : Code := au tB
abbrev sJ : Nat := 4000
abbrev eI (m : Nat) (k : Nat → Rat) : az := ⟨true, true, 3, m, fun i => .rat (k i) sK⟩
abbrev tV : List Nat := [3, 9, 10, 11]
abbrev CW (n : Nat) (k : Nat → Rat) (i : Nat) : List AV := [.own 0 3 0 i, bH k n sJ, .int .i64 n, .int .i64 i]
noncomputable abbrev j3 : Code := au wh
theorem acw {n : Nat} {k : Nat → Rat} {t : Rat} : aI T fc [] 60 w7 (before uv [1,1,0,1]) ⟨aL 0 [ls k n, .rat t sK], [], 0⟩ =
  some (leaf normal ([ptr 0 0 (bA (rat t sK)).size 0 [], int i64 (0 : Int), ak 3 n fun i ↦ rat (k i) 4096, int i64 (↑n : Int), int i64 (0 : Int)], [((0 : Nat), az.mk false true (bA (rat t sK)).size 1 fun x ↦ rat t 4096)])) := by kernel_rfl
theorem Zt {n c i : Nat} {k : Nat → Rat} {t : Rat} : aI T fc [11, 16] 60 w7 [part uv [1,1,0,1,0,0]] ⟨aB w7 (xo n k c i), [(0, tP t sK)], 1⟩ =
  let c10 : Int := (↑n : Int); let c9 : Prop := 0 < 1; let c8 : Int := (↑c : Int) + (1 : Int); let c7 : AV := ak 3 n fun i ↦ rat (k i) 4096; let c5 : Int := (↑i : Int); let c4 : AV := ptr 0 0 3 0 []; let c2 : Int := (2 : Int) ^ 63; let c1 : Nat × az := ((0 : Nat), az.mk false true 3 1 fun x ↦ rat t 4096); let c6 : Int := c5 + (1 : Int); let c3 : List AV := [c7, int i64 c10, int i64 c6]; some (fork (decide (c5 < c10)) (ag [(0 : Int) ≤ c5 ∧ c5.toNat < n, c9] (ag [c9, c9] (fork (decide (k c5.toNat = t)) (ag [-c2 ≤ c8 ∧ c8 < c2] (ag [-c2 ≤ c6 ∧ c6 < c2] (leaf normal (c4 :: int i64 c8 :: c3, [c1])))) (ag [-c2 ≤ c6 ∧ c6 < c2] (leaf normal (c4 :: int i64 (↑c : Int) :: c3, [c1])))))) (leaf (exit 0) ([c4, int i64 (↑c : Int), c7, int i64 c10, int i64 c5], [c1]))) := by kernel_rfl
theorem XO {n c i : Nat} {k : Nat → Rat} {t : Rat} : b9 T fc [] 60 tB [part uv [1,1,1]] ⟨aB w7 (xo n k c i), [(0, tP t sK)], 1⟩ =
  some (leaf ret [int i64 (↑c : Int)]) := by kernel_rfl
theorem Su {n : Nat} {k : Nat → Rat} : aI T fc [] 60 tV (before j3 [1,1,0,1]) ⟨aL 0 [bH k n sJ], [], 0⟩ =
  let c1 : Int := (↑n : Int); some (ag [(0 : Int) ≤ (0 : Int) ∧ (0 : Int) ≤ c1 ∧ c1 ≤ (2 : Int) ^ 47 ∧ c1 * (↑(56 : Nat) : Int) ≤ (2 : Int) ^ 47] (leaf normal ([own 12288 3 0 0, ak 3 n fun i ↦ rat (k i) 4000, int i64 c1, int i64 (0 : Int)], [((12288 : Nat), az.mk true true 3 0 fun x ↦ rat 0 1)]))) := by kernel_rfl
theorem acS {n i : Nat} {k : Nat → Rat} : aI T fc [12] 60 tV [part j3 [1,1,0,1,0,0]] ⟨aB tV (CW n k i), [(0, eI i k)], 1⟩ =
  let c4 : Int := (↑n : Int); let c2 : AV := ak 3 n fun i ↦ rat (k i) 4000; let c1 : Int := (↑i : Int); let c3 : Int := c1 + (1 : Int); some (fork (decide (c1 < c4)) (ag [(0 : Int) ≤ c1 ∧ c1.toNat < n, (0 : Nat) < 1] (ag [(0 : Nat) < 1, (1 : Nat) * 3 ≤ 2 ^ 24, (i + 1) * ((56 : Nat) + 1) * 2 ≤ 2 ^ 47] (ag [-(2 : Int) ^ 63 ≤ c3 ∧ c3 < (2 : Int) ^ 63] (leaf normal ([own 40961 3 0 (i + 1), c2, int i64 c4, int i64 c3], [((40961 : Nat), az.mk true true 3 (i + 1) fun i_1 ↦ if i_1 < i then rat (k i_1) sK else nth [rat (k c1.toNat + 0) (sJ + 1 + 1)] (rat 0 1) (i_1 - i + 0))]))))) (leaf (exit 0) ([own 0 3 0 i, c2, int i64 c4, int i64 c1], [((0 : Nat), az.mk true true 3 i fun i ↦ rat (k i) 4096)]))) := by kernel_rfl
theorem Vg {n i : Nat} {k : Nat → Rat} : aI T fc [] 60 [2] [part j3 [1,1,1]] ⟨aB tV (CW n k i), [(0, eI i k)], 1⟩ =
  some (leaf ret ([own 0 3 0 i], [((0 : Nat), az.mk true true 3 i fun i ↦ rat (k i) 4096)])) := by kernel_rfl
theorem NQ {k : Nat → Rat} {t : Rat} {i : Nat} (h : k i = t) : dD k t (i + 1) = dD k t i + 1 := by rw [dD, if_pos h]
theorem XF {k : Nat → Rat} {t : Rat} {i : Nat} (h : ¬ k i = t) : dD k t (i + 1) = dD k t i := by rw [dD, if_neg h]; rfl
theorem MR {n : Nat} {k : Nat → Rat} {t : Rat} (hn : n < 2 ^ 40) (K : Nat) : aA P rq K [ls k n, .rat t sK] [] (aG (.int .i64 (dD k t n)) []) := by
 refine gp (r := aG (.int .i64 (dD k t n)) []) hT js hm SK rfl (of_decide_eq_true (by kernel_rfl)) rfl [1,1,0,1] (i := 0) (y := part uv [1,1,0,1,0,0]) (z := part uv [1,1,1]) (by kernel_rfl) (by kernel_rfl) (by kernel_rfl) (f1 := []) (f2 := [11, 16]) (f3 := []) 60 w7 1
  (fun i : Nat => xo n k (dD k t i) i) (fun _ => [(0, tP t sK)]) (fun i => i ≤ n) (fun i => i = n) (fun i => n - i) (fun _ => ⟨⟨_, acw, ?_⟩, fun i hi => ⟨_, Zt, ?_⟩, fun i hi => ⟨_, XO, ?_⟩⟩) K []
 ·simp only [aa.all, ay]
  exact ⟨0, Nat.zero_le _, [(0, 0)], rfl, rfl, rfl, aR rfl rfl (aM rfl rfl) trivial⟩
 ·have h1 := FK (k := k) (t := t) (n := i)
  simp only [aa.all, ay, decide_eq_true_eq, decide_eq_false_iff_not, Int.toNat_natCast, Nat.add_zero]
  refine ⟨fun h2 => ⟨by omega, by omega, fun h3 => ⟨by omega, by omega, i + 1, by omega, by dsimp only; omega, [(0, 0)], rfl, ?_, rfl, aR rfl rfl (aM rfl rfl) trivial⟩, fun h3 => ⟨by omega, i + 1, by omega, by dsimp only; omega, [(0, 0)], rfl, ?_, rfl, aR rfl rfl (aM rfl rfl) trivial⟩⟩, fun h2 => ⟨rfl, i, by omega, [(0, 0)], rfl, rfl, rfl, aR rfl rfl (aM rfl rfl) trivial⟩⟩
  ·show _ = (xo n k (dD k t (i + 1)) (i + 1)).map _
   rw [NQ h3]; rfl
  ·show _ = (xo n k (dD k t (i + 1)) (i + 1)).map _
   rw [XF h3]; rfl
 ·subst hi
  simp only [aa.all, ay]
  exact .refl _
abbrev aap : pg ((Nat × (Nat → Rat)) × Rat × Unit) := kC (kL sK) (kC (gv sK) kN)
noncomputable def CQ : Spec := cP aap (fun a => .int .i64 (dD a.1.2 a.2.1 a.1.1)) fun a => [a.1.1 < 2 ^ 40]
theorem EZ : ∀ K args pre r, CQ K args pre = some r → aA P rq K args pre r := cK fun ⟨⟨n, k⟩, t, _⟩ K hn => MR hn K
theorem UJ {args : List AV} {n : Nat} {k : Nat → Rat} {l : List Prop} (ha : ay l → ey (aS []) args [bH k n sJ]) (hn : ay l → n < 2 ^ 40) (K : Nat) : aA P ni K args [] ⟨jA [.own K 3 0 n], [(K, eI n k)], l⟩ := by
 refine HL hT Cy ha (of_decide_eq_true (by kernel_rfl)) fun need c hk => ?_
 have hn := hn need
 refine aq.kY hT js hm [1,1,0,1] (i := 0) (y := part j3 [1,1,0,1,0,0]) (z := part j3 [1,1,1]) (by kernel_rfl) (by kernel_rfl) (by kernel_rfl) Cy.dst hk (f1 := []) (f2 := [12]) 60 tV 1 (fun i : Nat => CW n k i) (fun i => [(0, eI i k)])
  (fun i => i ≤ n) (fun i => i = n) (fun i => n - i) (fun _ => False) ⟨_, Su, ?_⟩ (fun i hi => ⟨_, acS, ?_⟩) (fun i hi => ?_) (fun _ _ h => h.elim)
 ·simp only [aa.all, ay]
  exact ⟨by omega, 0, Nat.zero_le _, [(0, 12288)], rfl, rfl, rfl, bD rfl rfl rfl (fun i hi => absurd hi (Nat.not_lt_zero i)) trivial⟩
 ·simp only [aa.all, ay, decide_eq_true_eq, decide_eq_false_iff_not, Int.toNat_natCast, Nat.add_zero]
  exact ⟨fun h2 => ⟨by omega, by omega, by omega, i + 1, by omega, by dsimp only; omega, [(0, 40961)], rfl, rfl, rfl, bD rfl rfl rfl (fun j hj => yE (fun _ _ => rfl) (Rat.add_zero _) (Nat.le_refl _) (by decide) hj) trivial⟩, fun h2 => ⟨rfl, i, by omega, [(0, 0)], rfl, rfl, rfl, bD rfl rfl rfl (fun j hj => aM rfl rfl) trivial⟩⟩
 ·subst hi
  refine aq.aZ hT js hm 60 [2] Vg (by kernel_rfl) fun s' hs' => ⟨.inr rfl, [2], _, [.own 0 3 0 i], _, 0, _, hs', by kernel_rfl, ⟨⟨rfl, cF (by simp [aS, look]) rfl rfl⟩, trivial⟩, rfl, gQ rfl fun i hi => aH rfl⟩
noncomputable def Jl : Spec := pT fun K l => match l with
 | [v] => match (kL sJ).read v with
  | some ((n, k), q) => some ⟨.own K 3 0 n, [(K, eI n k)], q ++ [n < 2 ^ 40]⟩
  | none => none
 | _ => none
theorem X5 : ∀ K args pre r, Jl K args pre = some r → aA P ni K args pre r := by
 refine yG fun K args r hk hs => ?_
 split at hs
 ·rename_i v
  split at hs
  ·rename_i n k q hv
   simp only [Option.some.injEq] at hs
   subst hs
   exact UJ (fun hn => Ci hk (by cases v <;> first | rfl | simp [kL, Ad] at hv) ⟨(kL sJ).ok hv (dF.1 hn).1, trivial⟩) (fun hn => (dF (a := q) (b := [n < 2 ^ 40]).1 hn).2) K
  ·simp at hs
 ·simp at hs
end Go.Am.B

/- slices.CompactFunc of numbers; fE.Distinct. -/
namespace Go.Am.B
open Go Go.Am.N AV aa ah IntKind
theorem K0 : aN P yU AI (au AI) := aP ZM (by kernel_rfl) (by kernel_rfl) (by kernel_rfl)
theorem Rs : aN P z8 tM (au tM) := aP VB (by kernel_rfl) (by kernel_rfl) (by kernel_rfl)
noncomputable abbrev qL : Func := AI
noncomputable abbrev vk : Code := au qL
noncomputable abbrev rj : Code := part vk [1,1,0,1,0,0]
noncomputable abbrev rE : Code := part rj [1,0,0]
noncomputable abbrev mZ : Code := part rE [1,0]
abbrev iC : List Nat := [4, 0, 1, 5]
abbrev vZ (n i : Nat) : List AV := [.nil, .own 0 3 0 n, .func fk [], .int .i64 i]
abbrev yw : List Nat := [4, 0, 1, 5, 28]
abbrev DL (n i : Nat) (b : Bool) : List AV := [.nil, .own 0 3 0 n, .func fk [], .int .i64 i, .bool b]
abbrev rY : List Nat := [4, 0, 1, 5, 6, 7]
abbrev qg (n m b j : Nat) : List AV := [.nil, .own 0 3 0 n, .func fk [], .int .i64 m, .own 0 3 b (n - b), .int .i64 j]
theorem Nv {n : Nat} {k : Nat → Rat} : aI T fc [10] 60 iC (before vk [1,1,0,1]) ⟨aL 0 [.own 0 3 0 n, .func fk []], [(0, eI n k)], 1⟩ =
  let c2 : Nat × az := ((0 : Nat), az.mk true true 3 n fun i ↦ rat (k i) 4096); let c1 : AV := own 0 3 0 n; some (fork (decide ((↑n : Int) < (2 : Int))) (leaf ret ([c1, c1, func fk [], tuple []], [c2])) (leaf normal ([nil, c1, func fk [], int i64 (1 : Int)], [c2]))) := by kernel_rfl
theorem UI {n i : Nat} {k : Nat → Rat} : aI T fc [15] 60 iC (before rj [1,0]) ⟨aB iC (vZ n i), [(0, eI n k)], 1⟩ =
  let c1 : List AV × aD := ([nil, own 0 3 0 n, func fk [], int i64 (↑i : Int)], [((0 : Nat), az.mk true true 3 n fun i ↦ rat (k i) 4096)]); some (fork (decide ((↑i : Int) < (↑n : Int))) (leaf normal c1) (leaf (exit 0) c1)) := by kernel_rfl
theorem NR {n i : Nat} {k : Nat → Rat} : aI T fc [] 60 yw (before rE [1]) ⟨aB iC (vZ n i), [(0, eI n k)], 1⟩ =
  let c4 : Int := (↑i : Int); let c2 : Nat := c4.toNat + 0; let c1 : Int := c4 - (1 : Int); let c3 : Nat := c1.toNat + 0; some (ag [(0 : Int) ≤ c4 ∧ c4.toNat < n, c2 < n, -(2 : Int) ^ 63 ≤ c1 ∧ c1 < (2 : Int) ^ 63, (0 : Int) ≤ c1 ∧ c1.toNat < n, c3 < n] (leaf normal ([nil, own 0 3 0 n, func fk [], int i64 c4, AV.bool (decide (k c2 = k c3))], [((0 : Nat), az.mk true true 3 n fun i ↦ rat (k i) 4096)]))) := by kernel_rfl
theorem WY {n i : Nat} {b : Bool} {k : Nat → Rat} : aI T fc [] 60 rY (before mZ [1,0,1]) ⟨aB yw (DL n i b), [(0, eI n k)], 1⟩ =
  let c2 : Int := (↑i : Int); let c1 : Int := (↑n : Int); some (ag [(0 : Int) ≤ c2 ∧ c2 ≤ c1 ∧ c1 ≤ c1 ∧ c1 ≤ c1] (leaf normal ([nil, own 0 3 0 n, func fk [], int i64 c2, own 0 3 ((0 : Nat) + c2.toNat) (c1.toNat - c2.toNat), int i64 (1 : Int)], [((0 : Nat), az.mk true true 3 n fun i ↦ rat (k i) 4096)]))) := by kernel_rfl
theorem abJ {n m b j : Nat} {k : Nat → Rat} : aI T fc [35, 49] 60 rY [part mZ [1,0,1,0,0]] ⟨aB rY (qg n m b j), [(0, eI n k)], 1⟩ =
  let c11 : AV := func fk []; let c7 : AV := own 0 3 b (n - b); let c6 : Nat × az := ((0 : Nat), az.mk true true 3 n fun i ↦ rat (k i) 4096); let c5 : Int := (↑m : Int); let c4 : AV := own 0 3 0 n; let c2 : Int := (2 : Int) ^ 63; let c1 : Int := (↑j : Int); let c13 : Int := c5 + (1 : Int); let c12 : Prop := (0 : Int) ≤ c1 ∧ c1.toNat < n - b; let c10 : Nat := c5.toNat + 0; let c9 : Nat := c1.toNat + b; let c8 : Int := c1 + (1 : Int); let c3 : Int := c1 - (1 : Int); some (fork (decide (c1 < (↑(n - b) : Int))) (ag [c12, c9 < n, -c2 ≤ c3 ∧ c3 < c2, (0 : Int) ≤ c3 ∧ c3.toNat < n - b, c3.toNat + b < n] (fork (!decide (k c9 = k (c3.toNat + b))) (ag [c12, c9 < n, (0 : Int) ≤ c5 ∧ c5.toNat < n, c10 < n] (ag [-c2 ≤ c13 ∧ c13 < c2] (ag [-c2 ≤ c8 ∧ c8 < c2] (leaf normal ([nil, c4, c11, int i64 c13, c7, int i64 c8], [((0 : Nat), az.mk true true 3 n fun j ↦ rat (bif j == c10 then k c9 else k j) (bif j == c10 then sK else sK))]))))) (ag [-c2 ≤ c8 ∧ c8 < c2] (leaf normal ([nil, c4, c11, int i64 c5, c7, int i64 c8], [c6]))))) (leaf (exit 2) ([nil, c4, c11, int i64 c5, c7, int i64 c1], [c6]))) := by kernel_rfl
theorem adD {n m b j : Nat} {k : Nat → Rat} : aI T fc [] 60 iC [part mZ [1,1]] ⟨aB rY (qg n m b j), [(0, eI n k)], 1⟩ =
  let c4 : Int := (↑n : Int); let c2 : Int := (↑m : Int); let c3 : Nat := 0 + c2.toNat; let c1 : Nat := c3 + (c4.toNat - c2.toNat); some (ag [(0 : Int) ≤ c2 ∧ c2 ≤ c4 ∧ c4 ≤ c4 ∧ c4 ≤ c4] (ag [(0 : Int) ≤ (0 : Int) ∧ (0 : Int) ≤ c2 ∧ c2 ≤ c2 ∧ c2 ≤ c4] (leaf ret ([own 0 3 0 (c2.toNat - Int.toNat (0 : Int)), own 0 3 0 n, func fk [], int i64 c2], [((0 : Nat), az.mk true true 3 n fun i ↦ if c3 ≤ i ∧ i < c1 then rat 0 1 else rat (k i) sK)])))) := by kernel_rfl
theorem Yy {n i : Nat} {b : Bool} {k : Nat → Rat} : aI T fc [] 60 iC [part rE [1,1], part rj [1,1]] ⟨aB yw (DL n i b), [(0, eI n k)], 1⟩ =
  let c1 : Int := (↑i : Int) + (1 : Int); some (ag [-(2 : Int) ^ 63 ≤ c1 ∧ c1 < (2 : Int) ^ 63] (leaf normal ([nil, own 0 3 0 n, func fk [], int i64 c1], [((0 : Nat), az.mk true true 3 n fun i ↦ rat (k i) 4096)]))) := by kernel_rfl
theorem On {n i : Nat} {k : Nat → Rat} : aI T fc [] 60 iC [part vk [1,1,1]] ⟨aB iC (vZ n i), [(0, eI n k)], 1⟩ =
  let c1 : AV := own 0 3 0 n; some (leaf ret ([c1, c1, func fk [], int i64 (↑i : Int)], [((0 : Nat), az.mk true true 3 n fun i ↦ rat (k i) 4096)])) := by kernel_rfl
def ji (k : Nat → Rat) (n i : Nat) : Rat := if i < bQ k n then cW k n i else 0
theorem abw {k : Nat → Rat} {n : Nat} (h : ∀ j, j < n → eZ k j) {i : Nat} (hi : i < n) : bQ k n = n ∧ ji k n i = k i := by
 obtain ⟨h1, h2⟩ := LC h
 unfold ji
 rw [h1, if_pos hi]
 exact ⟨rfl, h2 i hi⟩
theorem adN {kk n : Nat} {k : Nat → Rat} (hn : n < 2 ^ 40) (c : Ctx) (hk : Kept [0] c) : aq P c qL.ntmps vk ⟨aL 0 [.own 0 3 0 n, .func fk []], [(0, eI n k)], 1⟩ (Dk qL kk [.own kk 3 0 (bQ k n)] (eI n (ji k n))) := by
 have hall : ∀ {L : List Nat} {us : List AV}, (∀ j, j < n → eZ k j) → jr (aB L us) qL.results.toList = some [.own 0 3 0 n] → yT qL kk [.own kk 3 0 (bQ k n)] (eI n (ji k n)) L (us, [(0, eI n k)]) := fun h1 h2 =>
  ⟨_, _, h2, ⟨⟨rfl, cF (by simp [aS, look]) rfl (LC h1).1.symm⟩, trivial⟩, A0, rfl, rfl, rfl, rfl, fun i hi => by
   show ff _ (.rat (k i) sK) (.rat (ji k n i) sK)
   rw [(abw h1 hi).2]; exact aH rfl⟩
 refine aq.Aw hT js hm [1,1,0,1] (i := 0) (y := rj) (z := part vk [1,1,1]) (by kernel_rfl) (by kernel_rfl) (by kernel_rfl) K0.dst hk (f1 := [10]) 60 iC 1 (fun i : Nat => vZ n i) (fun _ => [(0, eI n k)]) (fun i => 1 ≤ i ∧ i ≤ n ∧ ∀ j, j < i → eZ k j) (fun i => i = n ∧ ∀ j, j < n → eZ k j) (fun i => n - i)
  (yT qL kk [.own kk 3 0 (bQ k n)] (eI n (ji k n)) iC) ⟨_, Nv, ?_⟩ (fun i ⟨h1, h2, h3⟩ => ?_) (fun i ⟨h1, h2⟩ => ?_) (fun v s' hv hs' => hv.fin hs')
 ·simp only [aa.all, ay, decide_eq_true_eq, decide_eq_false_iff_not]
  exact ⟨fun h => hall (fun j hj => .inl (by omega)) (by kernel_rfl), fun h => ⟨1, ⟨by omega, by omega, fun j hj => .inl (by omega)⟩, [(0, 0)], rfl, rfl, rfl, bD rfl rfl rfl (fun x hx => aM rfl rfl) trivial⟩⟩
 ·refine aq.vG hT js hm (y := rj) (x1 := rE) (zb := part rj [1,1]) [1,0] (j := 1) (by kernel_rfl) (by kernel_rfl) (by kernel_rfl) (by kernel_rfl) hk (f1 := [15]) 60 iC 1 (fun _ : Unit => vZ n i) (fun _ => [(0, eI n k)]) (fun _ => i < n) ⟨_, UI, ?_⟩ (fun _ hlt => ?_)
  ·simp only [aa.all, ay, decide_eq_true_eq, decide_eq_false_iff_not]
   exact ⟨fun h => ⟨(), by omega, [(0, 0)], rfl, rfl, rfl, bD rfl rfl rfl (fun x hx => aM rfl rfl) trivial⟩, fun h s' hs' => ⟨rfl, i, ⟨by omega, fun j hj => h3 j (by omega)⟩, eA.le ⟨[(0, 0)], rfl, rfl, rfl, bD rfl rfl rfl (fun x hx => aM rfl rfl) trivial⟩ hs' hk⟩⟩
  refine aq.branch hT js hm (x := rE) (u := mZ) (v := part rE [1,1]) (b := .tmp 28) [1] (by kernel_rfl) (by kernel_rfl) (by kernel_rfl) (by kernel_rfl) hk (f1 := []) 60 yw 1 (fun _ : Unit => DL n i (decide (k i = k (i - 1)))) (fun _ => [(0, eI n k)]) (fun _ => True) ⟨_, NR, ?_⟩ (fun _ _ => ⟨decide (k i = k (i - 1)), rfl, fun hb => ?_, fun hb => ?_⟩)
  ·simp only [aa.all, ay]
   simp only [Int.toNat_natCast, Nat.add_zero, show ((i : Int) - 1).toNat = i - 1 by omega]
   exact ⟨⟨⟨by omega, by omega⟩, by omega, by omega, ⟨by omega, by omega⟩, by omega⟩, (), trivial, [(0, 0)], rfl, rfl, rfl, bD rfl rfl rfl (fun x hx => aM rfl rfl) trivial⟩
  ·have hold : ¬ eZ k i := fun h => by
    rcases h with h | h
    ·omega
    ·exact h (of_decide_eq_true hb)
   obtain ⟨s1, s2⟩ := acG h3 hold
   refine aq.zJ hT js hm (x := mZ) [1,0,1] (i := 2) (y := part mZ [1,0,1,0,0]) (by kernel_rfl) (by kernel_rfl) (by kernel_rfl) hk (f1 := []) (f2 := [35, 49]) 60 rY 1 (fun j : Nat => qg n (bQ k (i + j)) i j) (fun j => [(0, eI n (gq k (i + j)))]) (fun j => 1 ≤ j ∧ i + j ≤ n) (fun j => i + j = n) (fun j => n - j) (fun _ => False) ⟨_, WY, ?_⟩ (fun j ⟨j1, j2⟩ => ⟨_, abJ, ?_⟩) (fun j s' hj hle => ?_) (fun _ _ h => h.elim)
   ·simp only [aa.all, ay]
    simp only [Int.toNat_natCast, Nat.zero_add]
    refine ⟨by omega, 1, ⟨by omega, by omega⟩, [(0, 0)], rfl, ?_, rfl, bD rfl rfl rfl (fun x hx => aM rfl ?_) trivial⟩
    ·show _ = (qg n (bQ k (i + 1)) i 1).map _
     rw [s1]; rfl
    ·rw [s2]
   ·simp only [aa.all, ay, decide_eq_true_eq, decide_eq_false_iff_not]
    have hd := Fy hold (l := i + j) (by omega)
    have e1 : gq k (i + j) (j + i) = k (i + j) := by rw [Nat.add_comm j i]; exact Gl (by omega)
    have e2 : gq k (i + j) (((j : Int) - 1).toNat + i) = k (i + j - 1) := by rw [show ((j : Int) - 1).toNat + i = i + j - 1 by omega]; exact Gl (by omega)
    simp only [Int.toNat_natCast, Nat.add_zero, e1, e2, Bool.not_eq_true', Bool.not_eq_false', decide_eq_true_eq, decide_eq_false_iff_not]
    refine ⟨fun h => ⟨by omega, fun hne => ⟨by omega, by omega, by omega, j + 1, by omega, by dsimp only; omega, [(0, 0)], rfl, ?_, rfl, bD rfl rfl rfl (fun x hx => ?_) trivial⟩, fun heq => ⟨by omega, j + 1, by omega, by dsimp only; omega, [(0, 0)], rfl, ?_, rfl, bD rfl rfl rfl (fun x hx => ?_) trivial⟩⟩, fun h => ⟨rfl, j, by omega, [(0, 0)], rfl, rfl, rfl, bD rfl rfl rfl (fun x hx => aM rfl rfl) trivial⟩⟩
    ·show _ = (qg n (bQ k (i + j + 1)) i (j + 1)).map _
     rw [Vj (l := i + j) (.inr hne)]; rfl
    ·refine .inr ⟨rfl, bK ?_ (by cases (x == bQ k (i + j)) <;> exact Nat.le_refl _)⟩
     show _ = gq k (i + j + 1) x
     rw [XY (.inr hne) (by omega)]
     by_cases hx2 : x = bQ k (i + j)
     ·subst hx2; simp
     ·have : (x == bQ k (i + j)) = false := by simpa using hx2
      rw [this, if_neg hx2]; rfl
    ·have hold2 : ¬ eZ k (i + j) := fun h => by
      rcases h with h | h
      ·omega
      ·exact h heq
     show _ = (qg n (bQ k (i + j + 1)) i (j + 1)).map _
     rw [K8 hold2]; rfl
    ·have hold2 : ¬ eZ k (i + j) := fun h => by
      rcases h with h | h
      ·omega
      ·exact h heq
     exact aM rfl (by show _ = AV.rat (gq k (i + j + 1) x) sK; rw [(Nz hold2).2])
   ·rw [show behind mZ [1,0,1] = [part mZ [1,1]] from by kernel_rfl]
    refine aC.weak rfl hle (aC.aZ hT js hm 60 iC adD (by kernel_rfl) ?_)
    simp only [aa.all, ay]
    rw [hj]
    have hd := qh (k := k) (n := n)
    simp only [Int.toNat_natCast, Nat.zero_add]
    refine ⟨by omega, by omega, fun s' hs' => ⟨_, ⟨[.own 0 3 0 (bQ k n)], ⟨true, true, 3, n, fun i => if bQ k n ≤ i ∧ i < bQ k n + (n - bQ k n) then .rat 0 1 else .rat (gq k n i) sK⟩, by kernel_rfl, ⟨⟨rfl, cF (by simp [aS, look]) rfl rfl⟩, trivial⟩, rfl, ⟨rfl, rfl, rfl, rfl, fun x hx => ?_⟩⟩, hs'⟩⟩
    have hx : x < n := hx
    refine kT (CY rfl rfl) ?_
    show bB (if _ then _ else _) (.rat (ji k n x) sK)
    unfold ji
    by_cases h : x < bQ k n
    ·rw [if_neg (by omega), if_pos h]
     exact cI (by unfold gq; rw [if_pos h])
    ·rw [if_pos (by omega), if_neg h]
     exact dm (by decide)
  ·have hnew : eZ k i := .inr (of_decide_eq_false hb)
   refine aq.tail (fun s' hh => by have := hh.1; omega) (aC.aZ hT js hm 60 iC Yy (by kernel_rfl) ?_)
   simp only [aa.all, ay]
   refine ⟨by omega, fun s' hs' => ⟨i + 1, ⟨by omega, by omega, fun j hj => ?_⟩, by dsimp only; omega, eA.le ⟨[(0, 0)], rfl, rfl, rfl, bD rfl rfl rfl (fun x hx => aM rfl rfl) trivial⟩ hs' hk⟩⟩
   by_cases he : j = i
   ·subst he; exact hnew
   ·exact h3 j (by omega)
 ·subst h1
  refine aq.aZ hT js hm 60 iC On (by kernel_rfl) ?_
  simp only [aa.all, ay]
  exact fun s' hs' => (hall h2 (by kernel_rfl)).fin hs'
def Eu (f : Nat → AV) (n s : Nat) : Prop := ∀ i, i < n → keys (f i) = [] ∧ bB (f i) (.rat (aT (f i)) s)
theorem Pw {k : Nat → Rat} {n s s' : Nat} (h : s ≤ s') : Eu (fun i => .rat (k i) s) n s' := fun _ _ => ⟨rfl, dm h⟩
def CC : Spec := fun _ args pre => match args, pre with
 | [.own k 3 0 n, .func g []], [(k', ⟨true, true, 3, m, f⟩)] => match Nat.beq g fk && k' == k with
  | true => some ⟨jA [.own k 3 0 (bQ (fun i => aT (f i)) n)], [(k, eI n (ji (fun i => aT (f i)) n))], [m = n, Eu f n sK, n < 2 ^ 40]⟩
  | false => none
 | _, _ => none
theorem MX : ∀ K args pre r, CC K args pre = some r → aA P yU K args pre r := by
 intro K args pre r h
 unfold CC at h
 split at h
 ·rename_i k n g k' m f
  split at h
  ·rename_i hc
   simp only [Bool.and_eq_true, beq_iff_eq] at hc
   obtain ⟨h1, h2⟩ := hc
   have h1 := Nat.eq_of_beq_eq_true h1
   subst h1 h2
   simp only [Option.some.injEq] at h
   subst h
   intro need
   have h0 := need
   obtain ⟨rfl, n1, n2⟩ := need
   exact abP hT K0 (rest := [.func fk []]) (o2 := ⟨true, true, 3, m, f⟩) (o := eI m fun i => aT (f i)) rfl rfl (of_decide_eq_true (by kernel_rfl)) (fun ρ => ⟨rfl, rfl, rfl, rfl, fun i hi => kT (n1 i hi).1 (n1 i hi).2⟩) (fun _ c hk => adN n2 c hk) K h0
  ·simp at h
 ·simp at h
end Go.Am.B

/- fE.Distinct, ref08.Distinct, slices.IsSortedFunc of numbers. -/
namespace Go.Am.B
open Go Go.Am.N AV aa ah IntKind
theorem Zz : aN P wz xB (au xB) := aP Qz (by kernel_rfl) (by kernel_rfl) (by kernel_rfl)
noncomputable abbrev wW : Code := au xB
abbrev tS : List Nat := [4, 0, 1, 5]
abbrev Ck (n : Nat) (k : Nat → Rat) (i : Nat) : List AV := [.bool false, ls k n, .func iF [], .int .i64 ((i : Int) - 1)]
noncomputable def ES : aQ := [(ni, Jl), (yU, CC)]
theorem aef {n : Nat} {k : Nat → Rat} : aI T fc [] 60 tS (before wW [1,0,1]) ⟨aL 0 [ls k n, .func iF []], [], 0⟩ =
  let c1 : Int := (↑n : Int) - (1 : Int); some (ag [-(2 : Int) ^ 63 ≤ c1 ∧ c1 < (2 : Int) ^ 63] (leaf normal ([AV.bool false, ak 3 n fun i ↦ rat (k i) 4096, func iF [], int i64 c1], []))) := by kernel_rfl
theorem Nk {n i : Nat} {k : Nat → Rat} : aI T fc [10, 24] 60 tS [part wW [1,0,1,0,0]] ⟨aB tS (Ck n k i), [], 1⟩ =
  let c5 : AV := ak 3 n fun i ↦ rat (k i) 4096; let c4 : Int := (2 : Int) ^ 63; let c1 : Int := (↑i : Int) - (1 : Int); let c3 : List AV := [AV.bool false, c5, func iF [], int i64 c1]; let c2 : Int := c1 - (1 : Int); let c6 : Int := dK (k c1.toNat) (k c2.toNat); some (fork (decide (c1 > (0 : Int))) (ag [(0 : Int) ≤ c1 ∧ c1.toNat < n, -c4 ≤ c2 ∧ c2 < c4, (0 : Int) ≤ c2 ∧ c2.toNat < n] (fork (decide (c6 < (0 : Int))) (leaf ret (c3, [])) (ag [-c4 ≤ c2 ∧ c2 < c4] (leaf normal ([AV.bool false, c5, func iF [], int i64 c2], []))))) (leaf (exit 0) (c3, []))) := by kernel_rfl
theorem WX {n i : Nat} {k : Nat → Rat} : b9 T fc [] 60 xB [part wW [1,1]] ⟨aB tS (Ck n k i), [], 1⟩ =
  some (leaf ret [AV.bool true]) := by kernel_rfl
theorem R6 {n : Nat} {k : Nat → Rat} : bu T ES [] 60 tM (au tM) ⟨aL 0 [bH k n sJ], [], 0⟩ =
  let c1 : Prop := n < 2 ^ 40; some (ag [ck (fun i ↦ rat (k i) sJ) n sJ, c1, n = n, Eu (fun i ↦ rat (aT (rat (k i) sJ)) sK) n sK, c1] (leaf ret [ak 3 (bQ (fun i ↦ aT (rat (aT (rat (k i) sJ)) sK)) n) fun i ↦ rat (ji (fun i ↦ aT (rat (aT (rat (k i) sJ)) sK)) n (i + 0)) 4096])) := by kernel_rfl
def kF (g : FuncId) : Kind Unit := ⟨fun v => match v with
 | .func f [] => match Nat.beq f g with
  | true => some ((), [])
  | false => none
 | _ => none, fun _ => .func g [], fun {v a q} h _ => by
  split at h
  ·split at h
   ·rename_i hb
    rw [Nat.eq_of_beq_eq_true hb]; exact .refl _
   ·simp at h
  ·simp at h⟩
noncomputable def mP (p : Prop) : Bool := @decide p (Classical.propDecidable p)
theorem VI {p : Prop} (h : p) : mP p = true := @decide_eq_true p (Classical.propDecidable p) h
theorem M7 {p : Prop} (h : ¬ p) : mP p = false := @decide_eq_false p (Classical.propDecidable p) h
theorem V6 {p : Prop} (h : mP p = true) : p := @of_decide_eq_true p (Classical.propDecidable p) h
theorem aci {p : Prop} (h : mP p = false) : ¬ p := @of_decide_eq_false p (Classical.propDecidable p) h
theorem ab5 {n : Nat} {k : Nat → Rat} (hn : n < 2 ^ 40) (K : Nat) : aA P wz K [ls k n, .func iF []] [] (aG (.bool (mP (nI n k))) []) := by
 refine gp (r := aG (.bool (mP (nI n k))) []) hT js hm Zz rfl (of_decide_eq_true (by kernel_rfl)) rfl [1,0,1] (i := 0) (y := part wW [1,0,1,0,0]) (z := part wW [1,1]) (by kernel_rfl) (by kernel_rfl) (by kernel_rfl) (f1 := []) (f2 := [10, 24]) (f3 := []) 60 tS 1
  (fun i : Nat => Ck n k i) (fun _ => []) (fun i => i ≤ n ∧ ∀ j, i ≤ j + 1 → j + 1 < n → k j ≤ k (j + 1)) (fun _ => nI n k) (fun i => i) (fun _ => ⟨⟨_, aef, ?_⟩, fun i ⟨h1, h2⟩ => ⟨_, Nk, ?_⟩, fun i hi => ⟨_, WX, ?_⟩⟩) K []
 ·simp only [aa.all, ay]
  exact ⟨by omega, n, ⟨Nat.le_refl _, fun j h1 h2 => by omega⟩, eA.vals rfl⟩
 ·simp only [aa.all, ay, decide_eq_true_eq, decide_eq_false_iff_not, kB]
  refine ⟨fun h => ⟨by omega, fun hlt => ⟨[.bool false], by kernel_rfl, eL ?_⟩, fun hle => ⟨by omega, i - 1, ⟨by omega, fun j g1 g2 => ?_⟩, by dsimp only; omega, [], rfl, ?_, rfl, trivial⟩⟩, fun h => ⟨rfl, i, fun j hj => h2 j (by omega) hj, [], rfl, rfl, rfl, trivial⟩⟩
  ·refine (M7 fun hs => ?_).symm
   have := hs (i - 2) (by omega)
   rw [show ((i : Int) - 1).toNat = i - 2 + 1 by omega, show ((i : Int) - 1 - 1).toNat = i - 2 by omega] at hlt
   grind
  ·by_cases he : j + 2 = i
   ·rw [show ((i : Int) - 1).toNat = j + 1 by omega, show ((i : Int) - 1 - 1).toNat = j by omega] at hle
    grind
   ·exact h2 j (by omega) g2
  ·show _ = [_, _, _, AV.int .i64 (((i - 1 : Nat) : Int) - 1)]
   rw [show ((i - 1 : Nat) : Int) - 1 = (i : Int) - 1 - 1 by omega]; rfl
 ·simp only [aa.all, ay]
  exact eL (VI hi).symm
noncomputable def K5 : Spec := cP (kC (kL sK) (kC (kF iF) kN)) (fun a => .bool (mP (nI a.1.1 a.1.2))) fun a => [a.1.1 < 2 ^ 40]
theorem aaM : ∀ K args pre r, K5 K args pre = some r → aA P wz K args pre r := cK fun ⟨⟨n, k⟩, _, _⟩ K hn => ab5 hn K
noncomputable def Hw : Spec := cP (kC (kL sJ) kN) (fun a => ls (cW a.1.2 a.1.1) (bQ a.1.2 a.1.1)) fun a => [a.1.1 < 2 ^ 40]
theorem U1 : aY P ES := aF X5 (aF MX bk)
theorem Y5 : ∀ K args pre r, Hw K args pre = some r → aA P z8 K args pre r := cK fun ⟨⟨n, k⟩, _⟩ K hn => by
 have hn : n < 2 ^ 40 := hn
 refine bC (r := aG (ls (cW k n) (bQ k n)) []) hT U1 hm Rs rfl (of_decide_eq_true (by kernel_rfl)) rfl 60 R6 (fun _ => ?_) K []
 simp only [aa.all, ay]
 exact ⟨⟨dj (Nat.le_refl _), hn, trivial, Pw (Nat.le_refl _), hn⟩, uK rfl fun i hi => by
  show AV.rat (ji k n (i + 0)) sK = _
  have hi : i < bQ k n := hi
  rw [Nat.add_zero]; unfold ji; rw [if_pos hi]⟩
end Go.Am.B

/- fE.Check, ref08.Check. -/
namespace Go.Am.B
open Go Go.Am.N AV aa ah IntKind
theorem Zy : aN P qG o7 (au o7) := aP aaH (by kernel_rfl) (by kernel_rfl) (by kernel_rfl)
noncomputable def AY : aQ := (wz, K5) :: (z8, Hw) :: (rq, CQ) :: pN
noncomputable abbrev vr : Code := au o7
abbrev oo : List Nat := [0, 1, 4, 48, 49, 50]
abbrev D8 (n : Nat) (k : Nat → Rat) (p : Int) (d : Nat) (f : Nat → Rat) (i : Nat) : List AV := [bH k n sJ, .int .i64 p, .int .i64 0, bH f d sK, .int .i64 d, .int .i64 i]
theorem Ub {n : Nat} {k : Nat → Rat} {p : Int} : aI T AY [18, 15, 22, 29, 35, 46] 60 oo (before vr [1,1,1,0,1]) ⟨aL 0 [bH k n sJ, .int .i64 p], [], 0⟩ =
  let c16 : Int := (↑n : Int); let c15 : Prop := ck (fun i ↦ rat (k i) sJ) n sK; let c14 : Nat := Int.toNat (0 : Int); let c13 : Nat := bQ (fun i ↦ aT (rat (k i) sJ)) n; let c11 : Bool := decide (p < (1 : Int)); let c10 : Int := i64.wrap (i64.wrap ((2 : Int) * p) + (2 : Int)); let c9 : Prop := n < 2 ^ 40; let c7 : List AV := [tuple [], tuple [], tuple []]; let c6 : Bool := !mP (nI n fun i ↦ aT (rat (k i) sJ)); let c3 : AV := ak 3 n fun i ↦ rat (k i) 4000; let c12 : List AV := c3 :: int i64 p :: int i64 (1 : Int) :: c7; let c8 : Int := i64.wrap (i64.wrap (c16 - p) - (1 : Int)); let c5 : Int := i64.wrap (c16 - (1 : Int)); let c4 : aa (List AV × aD) := leaf ret (c3 :: int i64 p :: int i64 (5 : Int) :: c7, []); let c2 : aa (List AV × aD) := ag [ck (fun i ↦ rat (k i) sJ) n sJ, c9] (leaf normal ([c3, int i64 p, int i64 (0 : Int), ak 3 c13 fun i ↦ rat (cW (fun i ↦ aT (rat (k i) sJ)) n i) 4096, int i64 (↑c13 : Int), int i64 (0 : Int)], [])); let c1 : aa (List AV × aD) := fork (decide (c16 < c10)) c4 (fork (decide (c8 > (40 : Int))) (leaf ret (c3 :: int i64 p :: int i64 (2 : Int) :: c7, [])) (fork c6 (ag [c15, c9, c6 = true] (fork true c4 c2)) (ag [c15, c9, c6 = false, (0 : Int) ≤ (0 : Int) ∧ c14 < n, (0 : Int) ≤ c5 ∧ c5.toNat < n] (fork (bif false then true else decide (k c14 = k c5.toNat)) c4 c2)))); some (fork c11 (ag [c11 = true] (fork true (leaf ret (c12, [])) c1)) (ag [c11 = false] (fork (bif false then true else decide (p > (6 : Int))) (leaf ret (c12, [])) c1))) := by kernel_rfl
theorem Sc {n d i : Nat} {k f : Nat → Rat} {p : Int} : aI T AY [51, 62, 73, 79, 82, 87] 60 oo [part vr [1,1,1,0,1,0,0]] ⟨aB oo (D8 n k p d f i), [], 1⟩ =
  let c18 : Int := (↑d : Int); let c16 : Prop := false = false; let c13 : Int := (↑i : Int); let c12 : Prop := 0 < 1; let c11 : AV := ak 3 d fun i ↦ rat (f i) 4096; let c10 : AV := ak 3 n fun i ↦ rat (k i) 4000; let c9 : Int := i64.wrap ((↑n : Int) - (1 : Int)); let c8 : Nat := Int.toNat (0 : Int); let c17 : Prop := (0 : Int) ≤ (0 : Int) ∧ c8 < n; let c14 : List AV := [c11, int i64 c18, int i64 c13]; let c7 : Rat := f c13.toNat; let c1 : aa (List AV × aD) := leaf normal ([c10, int i64 p, int i64 (0 : Int), c11, int i64 c18, int i64 (i64.wrap (c13 + (1 : Int)))], []); let c15 : Bool := decide (c7 = k c8); let c4 : Int := (↑(dD (fun i ↦ aT (rat (k i) sJ)) c7 n) : Int); let c3 : Bool := bif false then true else decide (c7 = k c9.toNat); let c2 : aa (List AV × aD) := leaf ret (c10 :: int i64 p :: int i64 (5 : Int) :: c14, []); let c6 : aa (List AV × aD) := fork (bif false then true else bif true then decide (c4 > p) else false) c2 c1; let c5 : Bool := bif true then c4 != i64.wrap (p + (1 : Int)) else false; some (fork (decide (c13 < c18)) (ag [(0 : Int) ≤ c13 ∧ c13.toNat < d, c12] (ag [c12, ck (fun i ↦ rat (k i) sJ) n sK, sK ≤ sK, n < 2 ^ 40] (fork c15 (ag [c12, c17, c15 = true] (fork true (fork c5 (ag [true = true, c5 = true] (fork true c2 c1)) (fork false (ag [true = true, c5 = false, (!true) = true] c6) (ag [true = true, c5 = false, (!true) = false] (fork false c2 c1)))) (fork false (ag [true = false, false = true] (fork true c2 c1)) (fork false (ag [true = false, c16, (!true) = true] c6) (ag [true = false, c16, (!true) = false] (fork false c2 c1)))))) (ag [c12, c17, c15 = false, c12, (0 : Int) ≤ c9 ∧ c9.toNat < n] (fork c3 (fork c5 (ag [c3 = true, c5 = true] (fork true c2 c1)) (fork (!c3) (ag [c3 = true, c5 = false, (!c3) = true] c6) (ag [c3 = true, c5 = false, (!c3) = false] (fork false c2 c1)))) (fork false (ag [c3 = false, false = true] (fork true c2 c1)) (fork (!c3) (ag [c3 = false, c16, (!c3) = true] c6) (ag [c3 = false, c16, (!c3) = false] (fork false c2 c1))))))))) (leaf (exit 1) (c10 :: int i64 p :: int i64 (0 : Int) :: c14, []))) := by kernel_rfl
theorem Nw {n d i : Nat} {k f : Nat → Rat} {p : Int} : b9 T AY [] 60 o7 [part vr [1,1,1,1]] ⟨aB oo (D8 n k p d f i), [], 1⟩ =
  some (leaf ret [int i64 (0 : Int)]) := by kernel_rfl
theorem acs : aY P AY := aF aaM (aF Y5 (aF EZ r4))
def p5 (n : Nat) (p : Int) : Prop := 1 ≤ p ∧ p ≤ 6 ∧ 2 * p + 2 ≤ (n : Int) ∧ (n : Int) - p - 1 ≤ 40
theorem RW {n : Nat} {k : Nat → Rat} {p : Int} (hn : n < 2 ^ 40) (K : Nat) : aA P qG K [bH k n sJ, .int .i64 p] [] (aG (.int .i64 (fh n k p)) []) := by
 refine gp (r := aG (.int .i64 (fh n k p)) []) hT acs hm Zy rfl (of_decide_eq_true (by kernel_rfl)) rfl [1,1,1,0,1] (i := 1) (y := part vr [1,1,1,0,1,0,0]) (z := part vr [1,1,1,1]) (by kernel_rfl) (by kernel_rfl) (by kernel_rfl) (f1 := [18, 15, 22, 29, 35, 46]) (f2 := [51, 62, 73, 79, 82, 87]) (f3 := []) 60 oo 1
  (fun i : Nat => D8 n k p (bQ k n) (cW k n) i) (fun _ => []) (fun i => i ≤ bQ k n ∧ p5 n p ∧ nI n k ∧ k 0 ≠ k (n - 1) ∧ ∀ j, j < i → ¬ iZ n k p.toNat (cW k n j)) (fun _ => p5 n p ∧ nH n k p.toNat) (fun i => bQ k n - i) (fun _ => ⟨⟨_, Ub, ?_⟩, fun i ⟨h1, h2, h3, h4, h5⟩ => ⟨_, Sc, ?_⟩, fun i ⟨h1, h2⟩ => ⟨_, Nw, ?_⟩⟩) K []
 ·have r : ∀ {e : Int} {u : AV}, fh n k p = e → lW o7 oo (.int .i64 (fh n k p)) ([u, .int .i64 p, .int .i64 e, .tuple [], .tuple [], .tuple []], []) := fun h => ⟨[.int .i64 _], by kernel_rfl, bq h.symm⟩
  by_cases hp : 1 ≤ p ∧ p ≤ 6
  ·have e1 : i64.wrap (i64.wrap (2 * p) + 2) = 2 * p + 2 := by rw [wrap_i64 (show -2 ^ 63 ≤ 2 * p by omega) (by omega)]; exact wrap_i64 (by omega) (by omega)
   have e2 : i64.wrap (i64.wrap ((n : Int) - p) - 1) = (n : Int) - p - 1 := by rw [wrap_i64 (show -2 ^ 63 ≤ (n : Int) - p by omega) (by omega)]; exact wrap_i64 (by omega) (by omega)
   have e3 : i64.wrap ((n : Int) - 1) = (n : Int) - 1 := wrap_i64 (by omega) (by omega)
   have e5 : ((n : Int) - 1).toNat = n - 1 := by omega
   simp only [aa.all, ay, decide_eq_true_eq, decide_eq_false_iff_not, Bool.not_eq_true', Bool.not_eq_false', cond_true, cond_false, Int.toNat_natCast, Int.toNat_zero, jY, e1, e2, e3, e5]
   (repeat' with_reducible first | refine And.intro ?_ ?_ | intro _)
   all_goals first | exact absurd ‹true = false› (by decide) | exact absurd ‹false = true› (by decide) | omega | (exfalso; omega) | exact dj (by decide) | assumption | exact r (abT (by omega) (by omega)) | exact r (UX (by omega) (by omega) (by omega)) | exact r (C6 (by omega) (by omega) (by omega) fun h => aci ‹_› h.1) | exact r (C6 (by omega) (by omega) (by omega) fun h => h.2.1 ‹_›) | exact ⟨0, ⟨Nat.zero_le _, ⟨by omega, by omega, by omega, by omega⟩, V6 ‹_›, ‹_›, fun j hj => absurd hj (Nat.not_lt_zero j)⟩, eA.vals rfl⟩ | skip
   skip
  ·simp only [aa.all, ay, decide_eq_true_eq, decide_eq_false_iff_not, Bool.not_eq_true', Bool.not_eq_false', cond_true, cond_false, Int.toNat_natCast]
   (repeat' with_reducible first | refine And.intro ?_ ?_ | intro _)
   all_goals first | exact absurd ‹true = false› (by decide) | exact absurd ‹false = true› (by decide) | omega | (exfalso; omega) | exact r (VA (by omega)) | skip
   skip
 ·obtain ⟨q, rfl⟩ : ∃ q : Nat, p = (q : Int) := ⟨p.toNat, by have := h2.1; omega⟩
  have hq := h2
  unfold p5 at hq
  have e1 : i64.wrap ((q : Int) + 1) = ((q + 1 : Nat) : Int) := by rw [wrap_i64 (by omega) (by omega)]; rfl
  have e2 : i64.wrap ((i : Int) + 1) = ((i + 1 : Nat) : Int) := by rw [wrap_i64 (by omega) (by have := qh (k := k) (n := n); omega)]; rfl
  have e3 : i64.wrap ((n : Int) - 1) = (n : Int) - 1 := wrap_i64 (by omega) (by omega)
  have e5 : ((n : Int) - 1).toNat = n - 1 := by omega
  simp only [Int.toNat_natCast] at h5
  have hd := qh (k := k) (n := n)
  have r : ∀ {u v w x y : AV}, iZ n k q (cW k n i) → i < bQ k n → lW o7 oo (.int .i64 (fh n k q)) ([u, v, .int .i64 5, w, x, y], []) := fun h hi => ⟨[.int .i64 5], by kernel_rfl, bq (C6 (by omega) (by omega) (by omega) fun hk => hk.2.2 i hi (by rw [Int.toNat_natCast]; exact h)).symm⟩
  have nx : ¬ iZ n k q (cW k n i) → i < bQ k n → ∀ j, j < i + 1 → ¬ iZ n k q (cW k n j) := fun h hi j hj => by
   by_cases he : j = i
   ·subst he; exact h
   ·exact h5 j (by omega)
  simp only [aa.all, ay, decide_eq_true_eq, decide_eq_false_iff_not, Bool.not_eq_true', Bool.not_eq_false', cond_true, cond_false, Int.toNat_natCast, Int.toNat_zero, jY, e1, e2, e3, e5, bne_iff_ne, bne_eq_false_iff_eq, ne_eq]
  obtain ⟨c, hc⟩ : ∃ c, dD k (cW k n i) n = c := ⟨_, rfl⟩
  have hc' : dD (fun i => k i) (cW k n i) n = c := hc
  simp only [hc']
  have b1 : cW k n i = k 0 → c ≠ q + 1 → iZ n k q (cW k n i) := fun h1 h2 => .inl ⟨.inl h1, by rw [hc]; exact h2⟩
  have b2 : cW k n i = k (n - 1) → c ≠ q + 1 → iZ n k q (cW k n i) := fun h1 h2 => .inl ⟨.inr h1, by rw [hc]; exact h2⟩
  have b3 : ¬ cW k n i = k 0 → ¬ cW k n i = k (n - 1) → q < c → iZ n k q (cW k n i) := fun h1 h2 h3 => .inr ⟨fun h => h.elim h1 h2, by rw [hc]; exact h3⟩
  have g1 : cW k n i = k 0 → c = q + 1 → ¬ iZ n k q (cW k n i) := by
   rintro h1 h2 (⟨_, h3⟩ | ⟨h3, _⟩)
   ·exact h3 (by rw [hc]; exact h2)
   ·exact h3 (.inl h1)
  have g2 : cW k n i = k (n - 1) → c = q + 1 → ¬ iZ n k q (cW k n i) := by
   rintro h1 h2 (⟨_, h3⟩ | ⟨h3, _⟩)
   ·exact h3 (by rw [hc]; exact h2)
   ·exact h3 (.inr h1)
  have g3 : ¬ cW k n i = k 0 → ¬ cW k n i = k (n - 1) → c ≤ q → ¬ iZ n k q (cW k n i) := by
   rintro h1 h2 h3 (⟨h4, _⟩ | ⟨_, h4⟩)
   ·exact h4.elim h1 h2
   ·rw [hc] at h4; omega
  clear hc hc'
  (repeat' with_reducible first | refine And.intro ?_ ?_ | intro _)
  all_goals first | exact absurd ‹true = false› (by decide) | exact absurd ‹false = true› (by decide) | omega | (exfalso; omega) | exact dj (by decide) | assumption | skip
  all_goals first
   | exact absurd ‹cW k n i = k (n - 1)› ‹_›
   | exact ⟨rfl, i, ⟨h2, h3, h4, fun j hj => h5 j (by omega)⟩, eA.vals rfl⟩
   | exact r (b1 ‹_› (by omega)) (by omega)
   | exact r (b2 ‹_› (by omega)) (by omega)
   | exact r (b3 ‹¬ _ = k 0› ‹_› (by have := of_decide_eq_true ‹decide _ = true›; omega)) (by omega)
   | exact ⟨i + 1, ⟨by omega, h2, h3, h4, nx (g1 ‹_› (by omega)) (by omega)⟩, by dsimp only; omega, eA.vals rfl⟩
   | exact ⟨i + 1, ⟨by omega, h2, h3, h4, nx (g2 ‹_› (by omega)) (by omega)⟩, by dsimp only; omega, eA.vals rfl⟩
   | exact ⟨i + 1, ⟨by omega, h2, h3, h4, nx (g3 ‹¬ _ = k 0› ‹_› (by have := of_decide_eq_false ‹decide _ = false›; omega)) (by omega)⟩, by dsimp only; omega, eA.vals rfl⟩
 ·simp only [aa.all, ay]
  exact bq (St (by have := h1; unfold p5 at this; omega) (by have := h1; unfold p5 at this; omega) (by have := h1; unfold p5 at this; omega) h2).symm
noncomputable def EA : Spec := cP (kC (kL sJ) (kC kI kN)) (fun a => .int .i64 (fh a.1.1 a.1.2 a.2.1)) fun a => [a.1.1 < 2 ^ 40]
theorem Fq : ∀ K args pre r, EA K args pre = some r → aA P qG K args pre r := cK fun ⟨⟨n, k⟩, p, _⟩ K hn => RW hn K
end Go.Am.B

/- Poles, lists of tZ, curves, surfaces as arguments. -/
namespace Go.Am.B
open Go Go.Am.N AV
def jW : AV → Pl
 | .agg [.agg [x, y, z], w] => ⟨⟨aT x, aT y, aT z⟩, aT w⟩
 | _ => ⟨⟨0, 0, 0⟩, 0⟩
def ir (f : Nat → AV) (n s : Nat) : Prop := ∀ i, i < n → bB (f i) (cS (jW (f i)) s)
abbrev lQ (f : Nat → Pl) (n s : Nat) : AV := .ak 12 n (fun i => cS (f i) s)
theorem BF {u v : Pl} {n k : Nat} (h : u = v) (hk : n ≤ k) : bB (cS u n) (cS v k) :=
 h ▸ dx ⟨Bd rfl hk, bK rfl hk, trivial⟩
theorem kM {f : Nat → Pl} {n s s' : Nat} (h : s ≤ s') : ir (fun i => cS (f i) s) n s' := fun _ _ => BF rfl h
def rU : AV → Option (Nat × (Nat → AV))
 | .ak 12 n f => some (n, f)
 | .nil => some (0, fun _ => .nil)
 | _ => none
theorem Vk {v : AV} {n s : Nat} {f : Nat → AV} (h : rU v = some (n, f)) (ha : ir f n s) : bB v (lQ (fun i => jW (f i)) n s) := by
 unfold rU at h
 split at h
 ·simp only [Option.some.injEq, Prod.mk.injEq] at h
  obtain ⟨rfl, rfl⟩ := h
  exact lC ha
 ·simp only [Option.some.injEq, Prod.mk.injEq] at h
  obtain ⟨rfl, rfl⟩ := h
  exact jo (by omega)
 ·simp at h
def AG (s : Nat) : Kind (Nat × (Nat → Pl)) := ⟨fun v => match rU v with
 | some (n, f) => some ((n, fun i => jW (f i)), [ir f n s])
 | none => none, fun a => lQ a.2 a.1 s, fun {v a q} h hq => by
  split at h
  ·rename_i h1
   simp only [Option.some.injEq, Prod.mk.injEq] at h
   obtain ⟨rfl, rfl⟩ := h
   exact Vk h1 hq
  ·simp at h⟩
abbrev cD (h : Pl) (s : Nat) : AV := .agg [.rat h.n.x s, .rat h.n.y s, .rat h.n.z s, .rat h.d s]
def CV (s : Nat) : Kind Pl := ⟨fun v => match v with
 | .agg [x, y, z, w] => match gH x, gH y, gH z, gH w with
  | some (x, a), some (y, b), some (z, c), some (w, d) => some (⟨⟨x, y, z⟩, w⟩, [a ≤ s, b ≤ s, c ≤ s, d ≤ s])
  | _, _, _, _ => none
 | _ => none, fun a => cD a s, fun {v a q} h hq => by
  split at h
  ·split at h
   ·rename_i h1 h2 h3 h4
    simp only [Option.some.injEq, Prod.mk.injEq] at h
    obtain ⟨rfl, rfl⟩ := h
    exact dx ⟨(iB h1).trans (bK rfl hq.1), (iB h2).trans (bK rfl hq.2.1), (iB h3).trans (bK rfl hq.2.2.1), (iB h4).trans (bK rfl hq.2.2.2), trivial⟩
   ·simp at h
  ·simp at h⟩
structure Cu where
 p : Int
 n : Nat
 k : Nat → Rat
 m : Nat
 f : Nat → Pl
abbrev en (c : Cu) (s r : Nat) : AV := .agg [.int .i64 c.p, bH c.k c.n s, lQ c.f c.m r]
def kj (s r : Nat) : Kind Cu := ⟨fun v => match v with
 | .agg [p, k, f] => match kI.read p, (kL s).read k, (AG r).read f with
  | some (p, q1), some ((n, k), q2), some ((m, f), q3) => some (⟨p, n, k, m, f⟩, q1 ++ (q2 ++ q3))
  | _, _, _ => none
 | _ => none, fun a => en a s r, fun {v a q} h hq => by
  split at h
  ·split at h
   ·rename_i h1 h2 h3
    simp only [Option.some.injEq, Prod.mk.injEq] at h
    obtain ⟨rfl, rfl⟩ := h
    obtain ⟨q1, hq⟩ := dF.1 hq
    obtain ⟨q2, q3⟩ := dF.1 hq
    exact dx ⟨kI.ok h1 q1, (kL s).ok h2 q2, (AG r).ok h3 q3, trivial⟩
   ·simp at h
  ·simp at h⟩
structure Sf where
 u : Int
 v : Int
 a : Nat
 ku : Nat → Rat
 b : Nat
 kv : Nat → Rat
 n : Nat
 m : Nat
 f : Nat → Nat → Pl
theorem Uv {rl : List (Nat × Nat)} {l i s s' s2 : Nat} {x y : Nat → Pl} {t : AV} {z : AV} (hx : ∀ i, i < l → x i = y i) (ht : bB t (cS (y l) s')) (hk : keys t = []) (h1 : s ≤ s2) (h2 : s' ≤ s2) (hi : i < l + 1) :
  fq rl (if i < l then cS (x i) s else nth [t] z (i - l + 0)) (cS (y i) s2) := by
 by_cases h : i < l
 ·rw [if_pos h, hx i h]; exact .inr ⟨rfl, BF rfl h1⟩
 ·have : i = l := by omega
  subst this
  rw [if_neg h, Nat.sub_self]
  exact .inr ⟨hk, ht.trans (BF rfl h2)⟩
end Go.Am.B

/- ref02: Valid, Valids, Bits; ref04.Valid; ref10: Short, shortPoles. -/
namespace Go.Am.B
open Go Go.Am.N AV aa ah IntKind
end Go.Am.B

/- ref09: part, function, Values. -/
namespace Go.Am.B
open Go Go.Am.N AV aa ah IntKind
theorem Qa : aN P zK xK (au xK) := aP PV (by kernel_rfl) (by kernel_rfl) (by kernel_rfl)
theorem Gy : aN P xe nT (au nT) := aP Ug (by kernel_rfl) (by kernel_rfl) (by kernel_rfl)
theorem Vn : aN P x7 wA (au wA) := aP Xl (by kernel_rfl) (by kernel_rfl) (by kernel_rfl)
def JR : aQ := (wF, gM kR kR ug mm) :: jf
abbrev oW : Nat := 8193
def Ji : Spec := cP (kC (gv oW) (kC (gv oW) kN)) (fun a => .rat (a.1 / a.2.1) sF) fun _ => []
theorem aa1 {a b : Rat} {n : Nat} : bu T JR [] 60 xK (au xK) ⟨aL 0 [.rat a n, .rat b n], [], 0⟩ =
  let c2 : Prop := n < 2 ^ 41; let c1 : Prop := 0 < 1; some (ag [c1, c1, c2, c2, c1] (ag [c1, c1] (ag [c1] (leaf ret [rat (a / b) (n + n)])))) := by kernel_rfl
theorem adp : aY P JR := aF (hU fun _ _ K hn => KN hn.1 hn.2 K) kr
theorem aaT : ∀ K args pre r, Ji K args pre = some r → aA P zK K args pre r := cK fun ⟨a, b, _⟩ K _ => by
 refine bC (r := aG (.rat (a / b) sF) []) hT adp hm Qa rfl (of_decide_eq_true (by kernel_rfl)) rfl 60 aa1 (fun _ => ?_) K []
 simp only [aa.all, ay]
 have h1 : oW = 8193 := rfl
 (repeat' with_reducible refine And.intro ?_ ?_)
 all_goals first | omega | exact (bK rfl (show oW + oW ≤ sF by decide))
def K9 (d : Nat) : Spec := cP (kC (kL sK) (kC kI (kC kI (kC kI (kC (gv sK) kN))))) (fun a => .rat (nC a.1.2 a.2.2.2.1.toNat a.2.2.2.2.1 d a.2.1.toNat) (SB d)) fun a => [a.2.2.1 = d, 0 ≤ a.2.1, 0 ≤ a.2.2.2.1, a.2.1 + d + 1 < a.1.1, a.1.1 < 2 ^ 40, a.2.2.2.1 < 2 ^ 40, d ≤ 6]
def I6 (d : Nat) : aQ := nG :: (xe, K9 d) :: (zK, Ji) :: (jv, oX) :: jf
abbrev xu (n : Nat) (k : Nat → Rat) (i d a : Nat) (t : Rat) : List AV := [ls k n, .int .i64 i, .int .i64 d, .int .i64 a, .rat t sK]
theorem SS {n i a : Nat} {k : Nat → Rat} {t : Rat} : bu T (nG :: (jv, oX) :: jf) [17] 60 nT (au nT) ⟨aL 0 (xu n k i 0 a t), [], 0⟩ =
  let c1 : List Prop := [(0 : Nat) < 1]; some (fork ((↑i : Int) == (↑a : Int)) (ag c1 (ag c1 (leaf ret [rat (↑(1 : Int) : Rat) 1]))) (ag c1 (ag c1 (leaf ret [agg [AV.bool false, mag 0, mag 0]])))) := by kernel_rfl
theorem TM {n i d a : Nat} {k : Nat → Rat} {t : Rat} : bu T (I6 d) [200014, 23, 29] 60 nT (au nT) ⟨aL 0 (xu n k i (d + 1) a t), [], 0⟩ =
  let c22 : Prop := sK + sK + 1 ≤ oW; let c21 : Int := (↑d : Int); let c20 : Prop := n < 2 ^ 40; let c15 : Prop := ck (fun i ↦ rat (k i) sK) n sK; let c14 : Int := (↑(d + 1) : Int); let c10 : Int := (↑a : Int); let c6 : Int := (↑i : Int); let c5 : Prop := 0 < 1; let c4 : Nat := 2 ^ 41; let c3 : Int := (2 : Int) ^ 63; let c19 : Prop := c10 < (2 : Int) ^ 40; let c17 : Prop := (0 : Int) ≤ c6 ∧ c6.toNat < n; let c16 : Bool := decide (c10 < c6); let c12 : List Prop := [sK < c4, sK < c4, c22, c22, c5]; let c11 : aa (List AV) := ag [c5] (ag [c5] (leaf ret [agg [AV.bool false, mag 0, mag 0]])); let c9 : Int := c6 + (1 : Int); let c7 : Int := c14 - (1 : Int); let c2 : Int := c6 + c14; let c13 : Prop := -c3 ≤ c2 ∧ c2 < c3; let c8 : Int := c2 + (1 : Int); let c18 : Prop := (0 : Int) ≤ c8 ∧ c8.toNat < n; let c1 : aa (List AV) := ag (c5 :: c17 :: (sK < c4) :: (sK < c4) :: c13 :: ((0 : Int) ≤ c2 ∧ c2.toNat < n) :: c17 :: c12) (ag (c13 :: (-c3 ≤ c8 ∧ c8 < c3) :: c18 :: c5 :: (sK < c4) :: (sK < c4) :: c13 :: (-c3 ≤ c8 ∧ c8 < c3) :: c18 :: (-c3 ≤ c9 ∧ c9 < c3) :: ((0 : Int) ≤ c9 ∧ c9.toNat < n) :: c12) (ag [c5, -c3 ≤ c7 ∧ c7 < c3, c5, c15, sK ≤ sK, c7 = c21, (0 : Int) ≤ c6, (0 : Int) ≤ c10, c6 + c21 + (1 : Int) < (↑n : Int), c20, c19, d ≤ 6, sF < c4, SB d < c4, c5, -c3 ≤ c9 ∧ c9 < c3, -c3 ≤ c7 ∧ c7 < c3, c5, c15, sK ≤ sK, c7 = c21, (0 : Int) ≤ c9, (0 : Int) ≤ c10, c9 + c21 + (1 : Int) < (↑n : Int), c20, c19, d ≤ 6, sF < c4, SB d < c4, sF + SB d < c4, sF + SB d < c4, c5] (ag [c5] (leaf ret [rat ((t - k c6.toNat) / (k c2.toNat - k c6.toNat) * nC (fun i ↦ aT (rat (k i) sK)) c10.toNat t d c6.toNat + (k c8.toNat - t) / (k c8.toNat - k c9.toNat) * nC (fun i ↦ aT (rat (k i) sK)) c10.toNat t d c9.toNat) (sF + SB d + (sF + SB d) + 1)])))); some (ag [(c14 == (0 : Int)) = false] (fork c16 (ag [c16 = true] (fork true c11 c1)) (ag [c16 = false, c13] (fork (bif false then true else decide (c10 > c2)) c11 c1)))) := by kernel_rfl
def tU (p : Nat) : aQ := nG :: (qC, pP) :: (xe, K9 p) :: jf
abbrev oJ : List Nat := [0, 1, 5, 9, 11, 12, 6, 7, 8]
abbrev zw (n : Nat) (k : Nat → Rat) (p a : Nat) (v : AV) (i : Int) : List AV := [ls k n, .int .i64 p, .ptr 0 0 3 0 [], .int .i64 a, v, .int .i64 i, .int .i64 0, .nil, .int .i64 0]
noncomputable abbrev yB : Code := au wA
noncomputable abbrev B9 : Code := part yB [1,1,1,1,0,1,0,0]
theorem WH {n p : Nat} {k : Nat → Rat} {t : Rat} : aI T (tU p) [21] 60 oJ (before yB [1,1,1,1,0,1]) ⟨aL 0 [ls k n, .int .i64 p, .rat t sK], [], 0⟩ =
  let c7 : AV := int i64 (0 : Int); let c6 : Int := cH n (fun i ↦ aT (rat (k i) sK)) t; let c5 : Int := (↑p : Int); let c4 : AV := ak 3 n fun i ↦ rat (k i) 4096; let c3 : AV := ptr 0 0 (bA (rat t sK)).size 0 []; let c2 : Nat × az := ((0 : Nat), az.mk false true (bA (rat t sK)).size 1 fun x ↦ rat t 4096); let c1 : Int := (↑(gL n (fun i ↦ aT (rat (k i) sK)) t) : Int); some (ag [(0 : Nat) < 1, ck (fun i ↦ rat (k i) sK) n sK, sK ≤ sK, Kn n c5.toNat fun i ↦ aT (rat (k i) sK), (0 : Int) ≤ c5, n < 2 ^ 40] (fork (c6 != (0 : Int)) (leaf ret ([c4, int i64 c5, c3, int i64 c1, tuple [], tuple [], c7, nil, int i64 c6], [c2])) (ag [-(2 : Int) ^ 63 ≤ c1 - c5 ∧ c1 - c5 < (2 : Int) ^ 63] (leaf normal ([c4, int i64 c5, c3, int i64 c1, nil, int i64 (c1 - c5), c7, nil, c7], [c2]))))) := by kernel_rfl
theorem aco {n p a : Nat} {k : Nat → Rat} {t : Rat} {i : Int} : aI T (tU p) [28] 60 oJ [B9] ⟨aB oJ (zw n k p a .nil i), [(0, tP t sK)], 2⟩ =
  let c6 : Int := (↑p : Int); let c5 : Int := (↑a : Int); let c4 : AV := int i64 (0 : Int); let c3 : AV := ptr 0 0 3 0 []; let c2 : AV := ak 3 n fun i ↦ rat (k i) 4096; let c1 : Nat × az := ((0 : Nat), az.mk false true 3 1 fun x ↦ rat t 4096); some (fork (decide (i ≤ c5)) (ag [(0 : Nat) < 1, ck (fun i ↦ rat (k i) sK) n sK, sK ≤ sK, c6 = c6, (0 : Int) ≤ i, (0 : Int) ≤ c5, i + c6 + (1 : Int) < (↑n : Int), n < 2 ^ 40, c5 < (2 : Int) ^ 40, p ≤ 6, (1 : Nat) * 3 ≤ 2 ^ 24, (0 : Nat) < 1 ∧ 1 * ((56 : Nat) + 1) * 2 ≤ 2 ^ 47] (ag [-(2 : Int) ^ 63 ≤ i + (1 : Int) ∧ i + (1 : Int) < (2 : Int) ^ 63] (leaf normal ([c2, int i64 c6, c3, int i64 c5, own 45058 3 0 1, int i64 (i + (1 : Int)), c4, nil, c4], [((45058 : Nat), az.mk true true 3 1 fun i_1 ↦ nth [rat (nC (fun i ↦ aT (rat (k i) sK)) c5.toNat t p i.toNat) (SB p)] (rat 0 1) (i_1 + 0)), c1])))) (leaf (exit 0) ([c2, int i64 c6, c3, int i64 c5, nil, int i64 i, c4, nil, c4], [c1]))) := by kernel_rfl
theorem L5 {n p a j : Nat} {k x : Nat → Rat} {t : Rat} {i : Int} : aI T (tU p) [28] 60 oJ [B9] ⟨aB oJ (zw n k p a (.own 1 3 0 (j + 1)) i), [(1, gu (j + 1) x fun _ => SB p), (0, tP t sK)], 2⟩ =
  let c7 : Int := (↑p : Int); let c6 : Int := (↑a : Int); let c5 : AV := int i64 (0 : Int); let c4 : AV := ptr 0 0 3 0 []; let c3 : AV := ak 3 n fun i ↦ rat (k i) 4096; let c2 : Nat := j + 1; let c1 : Nat × az := ((0 : Nat), az.mk false true 3 1 fun x ↦ rat t 4096); let c8 : Nat := c2 + 1; some (fork (decide (i ≤ c6)) (ag [(0 : Nat) < 1, ck (fun i ↦ rat (k i) sK) n sK, sK ≤ sK, c7 = c7, (0 : Int) ≤ i, (0 : Int) ≤ c6, i + c7 + (1 : Int) < (↑n : Int), n < 2 ^ 40, c6 < (2 : Int) ^ 40, p ≤ 6, (1 : Nat) * 3 ≤ 2 ^ 24, c8 * ((56 : Nat) + 1) * 2 ≤ 2 ^ 47] (ag [-(2 : Int) ^ 63 ≤ i + (1 : Int) ∧ i + (1 : Int) < (2 : Int) ^ 63] (leaf normal ([c3, int i64 c7, c4, int i64 c6, own 45058 3 0 c8, int i64 (i + (1 : Int)), c5, nil, c5], [((45058 : Nat), az.mk true true 3 c8 fun i_1 ↦ if i_1 < c2 then rat (x i_1) (SB p) else nth [rat (nC (fun i ↦ aT (rat (k i) sK)) c6.toNat t p i.toNat) (SB p)] (rat 0 1) (i_1 - c2 + 0)), c1])))) (leaf (exit 0) ([c3, int i64 c7, c4, int i64 c6, own 1 3 0 c2, int i64 i, c5, nil, c5], [((1 : Nat), az.mk true true 3 c2 fun i ↦ rat (x i) (SB p)), c1]))) := by kernel_rfl
theorem Wm {n p a j : Nat} {k x : Nat → Rat} {t : Rat} {i : Int} : b9 T (tU p) [] 60 wA [part yB [1,1,1,1,1]] ⟨aB oJ (zw n k p a (.own 1 3 0 (j + 1)) i), [(1, gu (j + 1) x fun _ => SB p), (0, tP t sK)], 2⟩ =
  let c1 : Int := (↑a : Int) - (↑p : Int); some (ag [-(2 : Int) ^ 63 ≤ c1 ∧ c1 < (2 : Int) ^ 63] (leaf ret [int i64 c1, ak 3 (j + 1) fun i ↦ rat (x (i + 0)) (SB p), int i64 (0 : Int)])) := by kernel_rfl
theorem S2 : aY P (nG :: (jv, oX) :: jf) := cO (aF (wU zc) kr)
theorem Gp {n : Nat} {k : Nat → Rat} {t : Rat} (hn : n < 2 ^ 40) : ∀ d i a, i + d + 1 < n → a < 2 ^ 40 → d ≤ 6 → ∀ K, aA P xe K (xu n k i d a t) [] (aG (.rat (nC k a t d i) (SB d)) [])
 | 0, i, a, hi, ha, hd, K => by
  refine bC (r := aG (.rat (nC k a t 0 i) (SB 0)) []) hT S2 hm Gy rfl (of_decide_eq_true (by kernel_rfl)) rfl 60 SS (fun _ => ?_) K []
  simp only [aa.all, ay, beq_iff_eq, beq_eq_false_iff_ne, ne_eq]
  refine ⟨fun h => ⟨by omega, by omega, ?_⟩, fun h => ⟨by omega, by omega, ?_⟩⟩
  ·unfold nC; rw [if_pos (by omega)]; exact bK rfl (by decide)
  ·unfold nC; rw [if_neg (by omega)]; exact iu (k := 65535)
 | d + 1, i, a, hi, ha, hd, K => by
  have hΓ : aY P (I6 d) := cO (aF (cK fun ⟨⟨n', k'⟩, i', d', a', t', _⟩ K hn' => by
   obtain ⟨h1, h2, h3, h4, h5, h6, h7⟩ := hn'
   simp only at h1 h2 h3 h4 h5 h6
   have := Gp (n := n') (k := k') (t := t') h5 d i'.toNat a'.toNat (by omega) (by omega) h7 K
   unfold xu at this
   rw [Int.toNat_of_nonneg h2, Int.toNat_of_nonneg h3] at this
   rw [h1]
   exact this) (aF aaT (aF (wU zc) kr)))
  refine bC (r := aG (.rat (nC k a t (d + 1) i) (SB (d + 1))) []) hT hΓ hm Gy rfl (of_decide_eq_true (by kernel_rfl)) rfl 60 TM (fun _ => ?_) K []
  have h1 := vh (d := d)
  have h2 := pG (d := d)
  have h3 := nJ (d := d) (by omega)
  have h4 : sV = 268435456 := rfl
  have h5 := tD
  have h6 : sK = 4096 := rfl
  have h7 : oW = 8193 := rfl
  simp only [aa.all, ay, jY, beq_eq_false_iff_ne, ne_eq, decide_eq_true_eq, decide_eq_false_iff_not, cond_false, Int.toNat_natCast, show ((i : Int) + ((d + 1 : Nat) : Int)).toNat = i + (d + 1) by omega, show ((i : Int) + ((d + 1 : Nat) : Int) + 1).toNat = i + (d + 2) by omega, show ((i : Int) + 1).toNat = i + 1 by omega]
  rw [nC]
  (repeat' with_reducible first | refine And.intro ?_ ?_ | intro _)
  all_goals first | omega | exact dj (Nat.le_refl _) | exact absurd ‹true = false› (by decide) | (rw [if_pos (by omega)]; exact iu (k := SB (d + 1) - 1)) | skip
  all_goals first | (rw [if_pos (by omega), show SB (d + 1) = SB (d + 1) - 1 + 1 by omega]; exact iu) | skip
  rw [if_neg (by omega)]
  exact bK rfl (by omega)
theorem TW {p : Nat} : aY P (tU p) := cO (aF Iy (aF (cK fun ⟨⟨n', k'⟩, i', d', a', t', _⟩ K hn' => by
 obtain ⟨h1, h2, h3, h4, h5, h6, h7⟩ := hn'
 simp only at h1 h2 h3 h4 h5 h6
 have := Gp (n := n') (k := k') (t := t') h5 p i'.toNat a'.toNat (by omega) (by omega) h7 K
 unfold xu at this
 rw [Int.toNat_of_nonneg h2, Int.toNat_of_nonneg h3] at this
 rw [h1]
 exact this) kr))
theorem WZ {n p : Nat} {k : Nat → Rat} {t : Rat} (h : Kn n p k) (hp6 : p ≤ 6) (hn : n < 2 ^ 40) (K : Nat) : aA P x7 K [ls k n, .int .i64 p, .rat t sK] [] (aG (qE n k p t) []) := by
 refine gp (r := aG (qE n k p t) []) hT TW hm Vn rfl (of_decide_eq_true (by kernel_rfl)) rfl [1,1,1,1,0,1] (i := 0) (y := B9) (z := part yB [1,1,1,1,1]) (by kernel_rfl) (by kernel_rfl) (by kernel_rfl) (f1 := [21]) (f2 := [28]) (f3 := []) 60 oJ 2
  (fun j : Nat => zw n k p (bO n k t) (match j with
   | 0 => .nil
   | _ + 1 => .own 1 3 0 j) ((bO n k t : Int) - p + j)) (fun j => match j with
   | 0 => [(0, tP t sK)]
   | _ + 1 => [(1, gu j (fun j => nC k (bO n k t) t p (bO n k t - p + j)) fun _ => SB p), (0, tP t sK)])
  (fun j => j ≤ p + 1 ∧ ¬ cC n k t) (fun j => j = p + 1 ∧ ¬ cC n k t) (fun j => p + 1 - j) (fun _ => ⟨⟨_, WH, ?_⟩, fun j ⟨hj, hin⟩ => ?_, fun j ⟨hj, hin⟩ => ?_⟩) K []
 ·simp only [aa.all, ay, jY, bne_iff_ne, ne_eq, bne_eq_false_iff_eq, Int.toNat_natCast]
  refine ⟨⟨by omega, dj (Nat.le_refl _), Nat.le_refl _, h, by omega, hn⟩, fun hout => ?_, fun hin => ?_⟩
  ·have h1 := CE hout
   exact ⟨[.int .i64 0, .nil, .int .i64 (cH n k t)], by kernel_rfl, by rw [show cH n k t = 7 by unfold cH; rw [if_pos h1]]; exact K7 h1⟩
  ·have hin := yI hin
   have hv := h.oV hin
   have hii : gL n k t = bO n k t := by unfold gL; rw [if_neg hin]
   simp only [hii]
   exact ⟨by omega, 0, ⟨by omega, hin⟩, [(0, 0)], rfl, by simp only [Int.natCast_zero, Int.add_zero]; rfl, rfl, aR rfl rfl (aM rfl rfl) trivial⟩
 ·have hv := h.oV hin
  cases j with
  | zero =>
   refine ⟨_, aco, ?_⟩
   simp only [aa.all, ay, jY, decide_eq_true_eq, decide_eq_false_iff_not, Int.toNat_natCast, Int.natCast_zero, Int.add_zero]
   refine ⟨fun h1 => ⟨⟨by omega, dj (Nat.le_refl _), Nat.le_refl _, trivial, by omega, by omega, by omega, hn, by omega, by omega, by omega, by omega⟩, by omega, 1, ⟨by omega, hin⟩, by dsimp only; omega, [(0, 0), (1, 45058)], rfl, rfl, rfl, bD rfl rfl rfl (fun i hi => N7 (y := fun j => nC k (bO n k t) t p (bO n k t - p + j)) (by rw [show ((bO n k t : Int) - p).toNat = bO n k t - p by omega]; rfl) (Nat.le_refl _) hi) (aR rfl rfl (aM rfl rfl) trivial)⟩, fun h1 => by omega⟩
  | succ j =>
   refine ⟨_, L5, ?_⟩
   simp only [aa.all, ay, jY, decide_eq_true_eq, decide_eq_false_iff_not, Int.toNat_natCast]
   refine ⟨fun h1 => ⟨⟨by omega, dj (Nat.le_refl _), Nat.le_refl _, trivial, by omega, by omega, by omega, hn, by omega, by omega, by omega, by omega⟩, by omega, j + 2, ⟨by omega, hin⟩, by dsimp only; omega, [(0, 0), (1, 45058)], rfl, by rw [show (bO n k t : Int) - p + ((j + 1 : Nat) : Int) + 1 = (bO n k t : Int) - p + ((j + 2 : Nat) : Int) by omega]; rfl, rfl,
    bD rfl rfl rfl (fun i hi => yE (y := fun j => nC k (bO n k t) t p (bO n k t - p + j)) (fun _ _ => rfl) (by rw [show ((bO n k t : Int) - p + ((j + 1 : Nat) : Int)).toNat = bO n k t - p + (j + 1) by omega]) (Nat.le_refl _) (Nat.le_refl _) hi) (aR rfl rfl (aM rfl rfl) trivial)⟩,
    fun h1 => ⟨rfl, j + 1, ⟨by omega, hin⟩, [(0, 0), (1, 1)], rfl, rfl, rfl, bD rfl rfl rfl (fun i hi => aM rfl rfl) (aR rfl rfl (aM rfl rfl) trivial)⟩⟩
 ·subst hj
  have hv := h.oV hin
  refine ⟨_, Wm, ?_⟩
  simp only [aa.all, ay]
  refine ⟨by omega, Lp hin fun j hj => bK ?_ (nJ hp6)⟩
  have h1 : ¬ t < k 0 := fun h => hin (.inl h)
  have h2 : ¬ k (n - 1) < t := fun h => hin (.inr h)
  have hat : At n k (bO n k t) := (h.Ek (by grind) (by grind)).1.at_
  exact (HD hat hv.1 (by omega) j (by omega)).symm
theorem Ry : ∀ K args pre r, yQ K args pre = some r → aA P x7 K args pre r := cK fun ⟨⟨n, k⟩, p, t, _⟩ K hn => by
 obtain ⟨h1, h2, h3, h4⟩ := hn
 have h3 : p ≤ 6 := h3
 have := WZ h1 (by simp only; omega) h4 K (t := t)
 rw [Int.toNat_of_nonneg h2] at this
 exact this
end Go.Am.B

/- ref10: Lift, Homogeneous, Drop, Eval. -/
namespace Go.Am.B
open Go Go.Am.N AV aa ah IntKind
theorem E6 : aN P Ak wZ (au wZ) := aP aa0 (by kernel_rfl) (by kernel_rfl) (by kernel_rfl)
theorem UQ : aN P Dr Ah (au Ah) := aP Yl (by kernel_rfl) (by kernel_rfl) (by kernel_rfl)
theorem S5 : aN P xk vC (au vC) := aP PU (by kernel_rfl) (by kernel_rfl) (by kernel_rfl)
theorem EY : aN P xS vT (au vT) := aP ad4 (by kernel_rfl) (by kernel_rfl) (by kernel_rfl)
theorem Z0 : aN P yV uI (au uI) := aP O3 (by kernel_rfl) (by kernel_rfl) (by kernel_rfl)
noncomputable def Hv : aQ := (Ai, gM kR kR Up mm) :: (Ak, fS T jf [] 60 wZ) :: jf
abbrev sH : Nat := 2147483648
abbrev sE : Nat := 4294967298
def wP (h : Pl) : V3 := ⟨((1 : Int) : Rat) / h.d * h.n.x, ((1 : Int) : Rat) / h.d * h.n.y, ((1 : Int) : Rat) / h.d * h.n.z⟩
def Ii : Spec := cP (kC (CV sH) kN) (fun a => .agg [vA (wP a.1) sE, .rat a.1.d sH]) fun _ => []
noncomputable def Rd : aQ := (Ak, fS T jf [] 60 wZ) :: jf
noncomputable def yu : aQ := nG :: (x7, yQ) :: (Dr, fS T Rd [] 60 Ah) :: jf
abbrev sM : List Nat := [2, 4, 5, 6, 8, 9]
abbrev A2 (p i : Nat) (x : Nat → Rat) (j : Nat) : List AV := [.ptr 0 0 3 0 [], .ptr 1 0 12 0 [], .int .i64 ((i : Int) - p), .ak 3 (p + 1) (fun j => .rat (x j) sV), .ptr 2 0 12 0 [], .int .i64 j]
abbrev gj (h : Pl) (s : Nat) : az := ⟨false, true, 12, 1, fun _ => cD h s⟩
abbrev DR (c : Cu) (r : Nat) : az := ⟨false, true, 3, 1, fun _ => en c sK r⟩
noncomputable abbrev rR : Code := au vT
theorem Qx {h : Pl} {s : Nat} : bu T Hv [] 60 vC (au vC) ⟨aL 0 [cD h s], [], 0⟩ =
  let c9 : Prop := (0 : Int) ≤ (0 : Int); let c8 : Rat := (↑(1 : Int) : Rat) / h.d; let c7 : Int := (↑(4 : Nat) : Int); let c6 : Int := (↑(3 : Nat) : Int); let c4 : Nat := 2 ^ 41; let c3 : Int := i64.wrap ((0 : Int) + (1 : Int)); let c2 : Nat := Max.max 1 (bg (Int.natAbs (1 : Int))); let c1 : Prop := 0 < 1; let c11 : Int := i64.wrap (c3 + (1 : Int)); let c10 : Prop := (0 : Int) ≤ (3 : Int) ∧ (3 : Int) < c7; let c5 : Prop := (0 : Int) ≤ c11 ∧ c11 < c6; some (ag [-(2 : Int) ^ 63 ≤ (1 : Int), (1 : Int) < (2 : Int) ^ 63, c10, c1, c2 < c4, s < c4, c9 ∧ (0 : Int) < c7, c1, (0 : Int) ≤ (1 : Int) ∧ (1 : Int) < c7, c1, (0 : Int) ≤ (2 : Int) ∧ (2 : Int) < c7, c1, c1, c9 ∧ (0 : Int) < c6, c1, c2 + s < c4, s < c4, c9 ∧ (0 : Int) < c6, c1, c1, (0 : Int) ≤ c3 ∧ c3 < c6, c1, c2 + s < c4, s < c4, (0 : Int) ≤ c3 ∧ c3 < c6, c1, c1, c5, c1, c2 + s < c4, s < c4, c5, c1, c1, c1, c1, c10, c1, c1] (ag [c1] (leaf ret [agg [agg [rat (c8 * h.n.x) (c2 + s + s), rat (c8 * h.n.y) (c2 + s + s), rat (c8 * h.n.z) (c2 + s + s)], rat h.d s]]))) := by kernel_rfl
theorem S9 {c : Cu} {t : Rat} {r : Nat} : aI T yu [] 60 sM (before rR [1,1,1,0,1]) ⟨aL 0 [en c sK r, .rat t sK], [], 0⟩ =
  let c5 : Prop := 0 < 1; let c4 : Nat := bO c.n (fun i ↦ aT (rat (c.k i) sK)) t; let c3 : Prop := cC c.n (fun i ↦ aT (rat (c.k i) sK)) t; let c2 : AV := rat 0 1; let c1 : az := az.mk false true 12 1 fun x ↦ agg [c2, c2, c2, c2]; some (ag [c5, c5, c5, ck (fun i ↦ rat (c.k i) sK) c.n sK, sK ≤ sK, Kn c.n c.p.toNat fun i ↦ aT (rat (c.k i) sK), (0 : Int) ≤ c.p, c.p ≤ (6 : Int), c.n < 2 ^ 40] (leaf normal ([ptr 0 0 (bA (en c sK r)).size 0 [], ptr 8192 0 12 0 [], int i64 (if c3 then (0 : Int) else (↑c4 : Int) - (↑c.p.toNat : Int)), ak 3 (if c3 then 0 else c.p.toNat + 1) fun j ↦ rat (vB (fun i ↦ aT (rat (c.k i) sK)) c4 t c.p.toNat j) 268435456, ptr 65536 0 12 0 [], int i64 (0 : Int)], [((65536 : Nat), c1), ((8192 : Nat), c1), ((0 : Nat), az.mk false true (bA (en c sK r)).size 1 fun x ↦ agg [int i64 c.p, ak 3 c.n fun i ↦ rat (c.k i) 4096, ak 12 c.m fun i ↦ agg [agg [rat (c.f i).n.x r, rat (c.f i).n.y r, rat (c.f i).n.z r], rat (c.f i).d r]])]))) := by kernel_rfl
theorem Vh {c : Cu} {h : Pl} {p i j s r : Nat} {x : Nat → Rat} : aI T yu [25] 60 sM [part rR [1,1,1,0,1,0,0]] ⟨aB sM (A2 p i x j), [(2, gj h s), (1, gj ⟨⟨0, 0, 0⟩, 0⟩ 1), (0, DR c r)], 3⟩ =
  let c35 : Nat := p + 1; let c30 : Int := (↑i : Int) - (↑p : Int); let c27 : AV := ptr 0 0 3 0 []; let c26 : Nat := sV + (r + r); let c25 : AV := ptr 2 0 12 0 []; let c24 : AV := ptr 1 0 12 0 []; let c21 : AV := rat 0 1; let c19 : Int := (↑j : Int); let c18 : Prop := (0 : Int) ≤ (0 : Int); let c15 : Int := (↑(3 : Nat) : Int); let c14 : Bool := 0 == 0; let c11 : Int := (↑(4 : Nat) : Int); let c9 : Int := (2 : Int) ^ 63; let c7 : Nat := 2 ^ 41; let c4 : Prop := 0 < 1; let c3 : Int := (0 : Int) + (1 : Int); let c37 : Rat := x c19.toNat; let c36 : Int := c19 + (1 : Int); let c33 : Prop := c18 ∧ (0 : Int) < c11; let c32 : Prop := c18 ∧ (0 : Int) < c15; let c31 : Prop := (0 : Int) ≤ i64.wrap c3 ∧ i64.wrap c3 < c15; let c29 : Prop := (0 : Int) ≤ c3 ∧ c3 < c11; let c20 : AV := ak 3 c35 fun j ↦ rat (x j) 268435456; let c17 : Int := i64.wrap (i64.wrap c3 + (1 : Int)); let c16 : Int := c3 + (1 : Int); let c12 : Prop := (0 : Int) ≤ c19 ∧ c19.toNat < c35; let c6 : List (Nat × az) := [((1 : Nat), az.mk false true 12 1 fun x ↦ agg [c21, c21, c21, c21]), ((0 : Nat), az.mk false true 3 1 fun x ↦ agg [int i64 c.p, ak 3 c.n fun i ↦ rat (c.k i) 4096, ak 12 c.m fun i ↦ agg [agg [rat (c.f i).n.x r, rat (c.f i).n.y r, rat (c.f i).n.z r], rat (c.f i).d r]])]; let c5 : Int := c30 + c19; let c38 : Prop := (0 : Int) ≤ c17 ∧ c17 < c15; let c23 : Prop := (0 : Int) ≤ c16 ∧ c16 < c11; let c22 : Pl := c.f c5.toNat; let c8 : Int := c16 + (1 : Int); let c28 : Prop := (0 : Int) ≤ c8 ∧ c8 < c11; let c2 : AV := agg ((cD h s).kids.set (Int.toNat (0 : Int)) (bA (gX (h.n.x, s) (c37 * (c22.d * c22.n.x), c26)))); let c34 : AV := if c14 = true then c2 else cD h s; let c10 : AV := agg (c34.kids.set c3.toNat (bA (gX (h.n.y, s) (c37 * (c22.d * c22.n.y), c26)))); let c1 : AV := if c14 = true then c10 else c34; let c13 : AV := agg (c1.kids.set c16.toNat (bA (gX (h.n.z, s) (c37 * (c22.d * c22.n.z), c26)))); some (fork (decide (c19 < (↑c35 : Int))) (ag [c4, -c9 ≤ c5 ∧ c5 < c9, (0 : Int) ≤ c5 ∧ c5.toNat < c.m, c4, c4, c4, c32, c4, r < c7, r < c7, c32, c4, c4, c31, c4, r < c7, r < c7, c31, c4, c4, c38, c4, r < c7, r < c7, c38, c4, c4, c4, c4, c4, c32, c4, (0 : Int) ≤ (1 : Int) ∧ (1 : Int) < c15, c4, (0 : Int) ≤ (2 : Int) ∧ (2 : Int) < c15, c4, c4, c4, c4, c4] (ag [c33, c4, c12, c33, c4, sV < c7, r + r < c7, s < c7, c26 < c7, c33, c4] (ag [-c9 ≤ c3 ∧ c3 < c9] (ag [c29, c4, c12, c29, c4, sV < c7, r + r < c7, s < c7, c26 < c7, c29, c4] (ag [-c9 ≤ c16 ∧ c16 < c9] (ag [c23, c4, c12, c23, c4, sV < c7, r + r < c7, s < c7, c26 < c7, c23, c4] (ag [-c9 ≤ c8 ∧ c8 < c9] (ag [c28, c4, c12, c28, c4, sV < c7, r < c7, s < c7, sV + r < c7, c28, c4] (ag [-c9 ≤ c8 + (1 : Int) ∧ c8 + (1 : Int) < c9] (ag [-c9 ≤ c36 ∧ c36 < c9] (leaf normal ([c27, c24, int i64 c30, c20, c25, int i64 c36], ((2 : Nat), az.mk false true 12 1 fun j ↦ if (j == 0) = true then agg ((if c14 = true then c13 else c1).kids.set c8.toNat (bA (gX (h.d, s) (c37 * c22.d, sV + r)))) else if (j == 0) = true then c13 else if (j == 0) = true then c10 else if (j == 0) = true then c2 else cD h s) :: c6)))))))))))) (leaf (exit 0) ([c27, c24, int i64 c30, c20, c25, int i64 c19], ((2 : Nat), az.mk false true 12 1 fun x ↦ agg [rat h.n.x s, rat h.n.y s, rat h.n.z s, rat h.d s]) :: c6))) := by kernel_rfl
theorem abS {c : Cu} {h : Pl} {p i j s r : Nat} {x : Nat → Rat} : b9 T yu [] 60 vT [part rR [1,1,1,1]] ⟨aB sM (A2 p i x j), [(2, gj h s), (1, gj ⟨⟨0, 0, 0⟩, 0⟩ 1), (0, DR c r)], 3⟩ =
  let c1 : Prop := 0 < 1; some (ag [c1, c1] (ag [c1] (leaf ret [agg [rat h.n.x s, rat h.n.y s, rat h.n.z s, rat h.d s]]))) := by kernel_rfl
def D0 (c : Cu) (x : Nat → Rat) (b j : Nat) : Pl :=
 ⟨⟨iR j fun j => x j * ((c.f (b + j)).d * (c.f (b + j)).n.x), iR j fun j => x j * ((c.f (b + j)).d * (c.f (b + j)).n.y), iR j fun j => x j * ((c.f (b + j)).d * (c.f (b + j)).n.z)⟩, iR j fun j => x j * (c.f (b + j)).d⟩
def zH (r j : Nat) : Nat := 1 + j * (sV + (r + r) + 1)
def qu (c : Cu) (t : Rat) : Pl := D0 c (vB c.k (bO c.n c.k t) t c.p.toNat) (bO c.n c.k t - c.p.toNat) (c.p.toNat + 1)
theorem XB : aY P Hv := aF (hU fun _ _ K hn => ZP hn.1 hn.2 K) (aF (ga hT kr hm E6 _ _) kr)
theorem Sr {h : Pl} {s s' : Nat} (hs : s < 2 ^ 40) (hs' : 1 + s + s ≤ s') (K : Nat) : aA P xk K [cD h s] [] (aG (.agg [vA (wP h) s', .rat h.d s]) []) := by
 refine bC (r := aG (.agg [vA (wP h) s', .rat h.d s]) []) hT XB hm S5 rfl (of_decide_eq_true (by kernel_rfl)) rfl 60 (Qx (s := s)) (fun _ => ?_) K []
 have e1 : i64.wrap ((0 : Int) + 1) = 1 := rfl
 have e2 : i64.wrap ((1 : Int) + 1) = 2 := rfl
 simp only [aa.all, ay, Fm, e1, e2]
 refine ⟨?_, by omega, dx ⟨dx ⟨bK rfl (by omega), bK rfl (by omega), bK rfl (by omega), trivial⟩, .refl _, trivial⟩⟩
 (repeat' with_reducible refine And.intro ?_ ?_)
 all_goals omega
theorem XE : ∀ K args pre r, Ii K args pre = some r → aA P xk K args pre r := cK fun ⟨h, _⟩ K _ => Sr (by decide) (by decide) K
theorem Hf : aY P yu := cO (aF Ry (aF (ga hT (aF (ga hT kr hm E6 _ _) kr) hm UQ _ _) kr))
theorem Xk {c : Cu} {t : Rat} {r s : Nat} (hr : 1 + 7 * (sV + (r + r) + 1) ≤ s) (hs : s < 2 ^ 40) (hk : Kn c.n c.p.toNat c.k) (h0 : 0 ≤ c.p) (h6 : c.p ≤ 6) (hn : c.n < 2 ^ 40) (hm2 : (c.m : Int) = (c.n : Int) - c.p - 1) (hin : ¬ cC c.n c.k t) (K : Nat) : aA P xS K [en c sK r, .rat t sK] [] (aG (cD (qu c t) s) []) := by
 refine fU (r := aG (cD (qu c t) s) []) hT EY rfl (of_decide_eq_true (by kernel_rfl)) rfl (fun _ cx h00 => ?_) K []
 have hkp := qc h00
 obtain ⟨q, hq⟩ : ∃ q, q = c.p.toNat := ⟨_, rfl⟩
 have hq2 : c.p = (q : Int) := by omega
 obtain ⟨i, hi⟩ : ∃ i, i = bO c.n c.k t := ⟨_, rfl⟩
 obtain ⟨x, hx⟩ : ∃ x, x = vB c.k i t q := ⟨_, rfl⟩
 have hiv := hk.oV hin
 rw [← hi, ← hq] at hiv
 have hV : qu c t = D0 c x (i - q) (q + 1) := by unfold qu; rw [← hi, ← hq, ← hx]
 rw [hV]
 have h1 : sK = 4096 := rfl
 have h2 : sV = 268435456 := rfl
 have z0 : zH r 0 = 1 := by unfold zH; rw [Nat.zero_mul]
 have zS : ∀ j, zH r (j + 1) = zH r j + (sV + (r + r) + 1) := fun j => by unfold zH; rw [Nat.add_mul, Nat.one_mul]; omega
 have zle : ∀ j, j ≤ 7 → zH r j ≤ s := fun j hj => by
  have := Nat.mul_le_mul_right (sV + (r + r) + 1) hj
  unfold zH; omega
 refine aq.kY hT Hf hm (x := rR) [1,1,1,0,1] (i := 0) (y := part rR [1,1,1,0,1,0,0]) (z := part rR [1,1,1,1]) (by kernel_rfl) (by kernel_rfl) (by kernel_rfl) EY.dst hkp (f1 := []) (f2 := [25]) 60 sM 3 (fun j : Nat => A2 q i x j) (fun j => [(2, gj (D0 c x (i - q) j) (zH r j)), (1, gj ⟨⟨0, 0, 0⟩, 0⟩ 1), (0, DR c r)]) (fun j => j ≤ q + 1) (fun j => j = q + 1) (fun j => q + 1 - j) (fun _ => False) ⟨_, S9, ?_⟩ (fun j hj => ⟨_, Vh, ?_⟩) (fun j hj => ?_) (fun _ _ h => h.elim)
 ·simp only [aa.all, ay]
  simp only [jY, show cC c.n (fun i => c.k i) t = cC c.n c.k t from rfl, if_neg hin]
  refine ⟨⟨by omega, by omega, by omega, dj (Nat.le_refl _), Nat.le_refl _, hk, h0, h6, hn⟩, 0, Nat.zero_le _, [(0, 0), (1, 8192), (2, 65536)], rfl, ?_, rfl, aR rfl rfl (aM rfl (by rw [z0]; rfl)) (aR rfl rfl (aM rfl rfl) (aR rfl rfl (aM rfl rfl) trivial))⟩
  show _ = (A2 q i x 0).map _
  rw [hx, hq, hi]; rfl
 ·simp only [aa.all, ay, decide_eq_true_eq, decide_eq_false_iff_not, show ((i : Int) - q + j).toNat = i - q + j by omega, Int.toNat_natCast, show i64.wrap ((0 : Int) + 1) = 1 from rfl, show i64.wrap ((1 : Int) + 1) = 2 from rfl]
  have hz1 := zS j
  refine ⟨fun h => ?_, fun h => ⟨rfl, j, by omega, [(0, 0), (1, 1), (2, 2)], rfl, rfl, rfl, aR rfl rfl (aM rfl rfl) (aR rfl rfl (aM rfl rfl) (aR rfl rfl (aM rfl rfl) trivial))⟩⟩
  have hz := zle j (by omega)
  have hz2 := zle (j + 1) (by omega)
  (repeat' with_reducible refine And.intro ?_ ?_)
  all_goals first | omega | skip
  exact ⟨j + 1, by omega, by dsimp only; omega, [(0, 0), (1, 1), (2, 2)], rfl, rfl, rfl, aR rfl rfl (.inr ⟨rfl, dx ⟨bK rfl (by omega), bK rfl (by omega), bK rfl (by omega), bK rfl (by omega), trivial⟩⟩) (aR rfl rfl (aM rfl rfl) (aR rfl rfl (aM rfl rfl) trivial))⟩
 ·subst hj
  refine aq.lJ ((aC.fin hT Hf hm 60 abS (by kernel_rfl) ?_).mono fun _ _ h => .inl h)
  simp only [aa.all, ay]
  have hz := zle (q + 1) (by omega)
  exact ⟨by omega, by omega, dx ⟨dm (by omega), dm (by omega), dm (by omega), dm (by omega), trivial⟩⟩
def LV : Spec := cP (kC (kj sK sK) (kC (gv sK) kN)) (fun a => cD (qu a.1 a.2.1) sH) fun a => [Kn a.1.n a.1.p.toNat a.1.k, 0 ≤ a.1.p, a.1.p ≤ 6, a.1.n < 2 ^ 40, (a.1.m : Int) = (a.1.n : Int) - a.1.p - 1, ¬ cC a.1.n a.1.k a.2.1]
noncomputable def IZ : aQ := sG :: (qC, pP) :: (xS, LV) :: (xk, Ii) :: []
theorem ZV : ∀ K args pre r, LV K args pre = some r → aA P xS K args pre r := cK fun ⟨c, t, _⟩ K hn => Xk (by decide) (by decide) hn.1 hn.2.1 hn.2.2.1 hn.2.2.2.1 hn.2.2.2.2.1 hn.2.2.2.2.2 K
theorem W0 : aY P IZ := jj (aF Iy (aF ZV (aF XE bk)))
theorem Sl {c : Cu} {t : Rat} : bu T IZ [18] 60 uI (au uI) ⟨aL 0 [en c sK sK, .rat t sK], [], 0⟩ =
  let c9 : Prop := c.n < 2 ^ 40; let c7 : Prop := ck (fun i ↦ rat (c.k i) sK) c.n sK; let c5 : Int := cH c.n (fun i ↦ aT (rat (c.k i) sK)) t; let c4 : AV := rat 0 1; let c3 : Nat := c.p.toNat; let c1 : Nat := bO c.n (fun i ↦ aT (rat (c.k i) sK)) t; let c10 : Nat := c1 - c3; let c8 : Nat := c3 + 1; let c6 : Prop := Kn c.n c3 fun i ↦ aT (rat (c.k i) sK); let c2 : Rat := (↑(1 : Int) : Rat) / iR c8 fun j ↦ vB (fun i ↦ aT (rat (c.k i) sK)) c1 t c3 j * aT (rat (c.f (c10 + j)).d sK); some (ag [c7, sK ≤ sK, c6, (0 : Int) ≤ c.p, c9] (fork (c5 != (0 : Int)) (ag [(0 : Nat) < 1] (leaf ret [agg [c4, c4, c4], int i64 c5])) (ag [c7, ir (fun i ↦ cS (c.f i) sK) c.m sK, sK ≤ sK, c6, (0 : Int) ≤ c.p, c.p ≤ (6 : Int), c9, (↑c.m : Int) = (↑c.n : Int) - c.p - (1 : Int), ¬cC c.n (fun i ↦ aT (rat (c.k i) sK)) t, sH ≤ sH, sH ≤ sH, sH ≤ sH, sH ≤ sH] (ag [(0 : Nat) < 1] (leaf ret [agg [rat (c2 * iR c8 fun j ↦ vB (fun i ↦ aT (rat (c.k i) sK)) c1 t c3 j * (aT (rat (c.f (c10 + j)).d sK) * aT (rat (c.f (c10 + j)).n.x sK))) 4294967298, rat (c2 * iR c8 fun j ↦ vB (fun i ↦ aT (rat (c.k i) sK)) c1 t c3 j * (aT (rat (c.f (c10 + j)).d sK) * aT (rat (c.f (c10 + j)).n.y sK))) 4294967298, rat (c2 * iR c8 fun j ↦ vB (fun i ↦ aT (rat (c.k i) sK)) c1 t c3 j * (aT (rat (c.f (c10 + j)).d sK) * aT (rat (c.f (c10 + j)).n.z sK))) 4294967298], int i64 (0 : Int)]))))) := by kernel_rfl
def kQ (c : Cu) (t : Rat) : V3 := if cC c.n c.k t then ⟨0, 0, 0⟩ else wP (qu c t)
def FI : Spec := cP (kC (kj sK sK) (kC (gv sK) kN)) (fun a => .tuple [vA (kQ a.1 a.2.1) sE, .int .i64 (cH a.1.n a.1.k a.2.1)]) fun a => [Kn a.1.n a.1.p.toNat a.1.k, 0 ≤ a.1.p, a.1.p ≤ 6, a.1.n < 2 ^ 40, (a.1.m : Int) = (a.1.n : Int) - a.1.p - 1]
theorem Nl : ∀ K args pre r, FI K args pre = some r → aA P yV K args pre r := cK fun ⟨c, t, _⟩ K hn => by
 obtain ⟨hk, h0, h6, hn, hm2⟩ := hn
 have hk : Kn c.n c.p.toNat c.k := hk
 have h6 : c.p ≤ 6 := h6
 have hm2 : (c.m : Int) = (c.n : Int) - c.p - 1 := hm2
 refine bC (r := aG (.tuple [vA (kQ c t) sE, .int .i64 (cH c.n c.k t)]) []) hT W0 hm Z0 rfl (of_decide_eq_true (by kernel_rfl)) rfl 60 Sl (fun _ => ?_) K []
 simp only [aa.all, ay, jY, bne_iff_ne, bne_eq_false_iff_eq, ne_eq, show cC c.n (fun i => c.k i) t = cC c.n c.k t from rfl, show cH c.n (fun i => c.k i) t = cH c.n c.k t from rfl]
 refine ⟨⟨dj (Nat.le_refl _), Nat.le_refl _, hk, h0, hn⟩, fun hout => ?_, fun hin => ?_⟩
 ·have ho : cC c.n c.k t := by
   unfold cH at hout
   by_cases ho : cC c.n c.k t
   ·exact ho
   ·rw [if_neg ho] at hout; exact absurd rfl hout
  refine ⟨by omega, ?_, .refl _, trivial⟩
  unfold kQ
  rw [if_pos ho]
  exact dx ⟨dm (by decide), dm (by decide), dm (by decide), trivial⟩
 ·have hi := yI hin
  refine ⟨⟨dj (Nat.le_refl _), kM (Nat.le_refl _), Nat.le_refl _, hk, h0, h6, hn, hm2, hi, by omega, by omega⟩, by omega, ?_, bq hin.symm, trivial⟩
  unfold kQ
  rw [if_neg hi]
  exact .refl _
end Go.Am.B

/- ref12: row, Swap, IsoV, IsoU, Eval. -/
namespace Go.Am.B
open Go Go.Am.N AV aa ah IntKind
structure SfW (s : Sf) : Prop where
 ku : Kn s.a s.u.toNat s.ku
 kv : Kn s.b s.v.toNat s.kv
 u0 : 0 ≤ s.u
 u6 : s.u ≤ 6
 v0 : 0 ≤ s.v
 v6 : s.v ≤ 6
 a : s.a < 2 ^ 30
 b : s.b < 2 ^ 30
 n : (s.n : Int) = (s.a : Int) - s.u - 1
 m : (s.m : Int) = (s.b : Int) - s.v - 1
end Go.Am.B

/- spline.Of, Four.Pole, curve.of, Spline.Eval, curve.sound, curve.Eval. -/
namespace Go.Am.B
open Go Go.Am.N AV aa ah IntKind
theorem N3 : aN P Dt zx (au zx) := aP QZ (by kernel_rfl) (by kernel_rfl) (by kernel_rfl)
theorem QV : aN P oD rZ (au rZ) := aP ael (by kernel_rfl) (by kernel_rfl) (by kernel_rfl)
theorem adk : aN P oz uT (au uT) := aP WN (by kernel_rfl) (by kernel_rfl) (by kernel_rfl)
theorem HP : aN P xL nS (au nS) := aP Wk (by kernel_rfl) (by kernel_rfl) (by kernel_rfl)
theorem ac3 : aN P vv s5 (au s5) := aP Rr (by kernel_rfl) (by kernel_rfl) (by kernel_rfl)
theorem T1 : aN P s9 xj (au xj) := aP aec (by kernel_rfl) (by kernel_rfl) (by kernel_rfl)
def iN (p : Pl) : Pl := ⟨⟨p.d * p.n.x, p.d * p.n.y, p.d * p.n.z⟩, p.d⟩
def iK (h : Pl) : Pl := ⟨⟨h.n.x / h.d, h.n.y / h.d, h.n.z / h.d⟩, h.d⟩
abbrev oN (f : Nat → Pl) (n s : Nat) : AV := .ak 12 n (fun i => cD (f i) s)
abbrev eO (c : Cu) (s r : Nat) : AV := .agg [.int .i64 c.p, bH c.k c.n s, oN c.f c.m r]
def F6 : aQ := nG :: fT
noncomputable def ze : aQ := nG :: (Dt, fS T F6 [] 80 zx) :: fT
abbrev yl : List Nat := [2, 3, 12, 13, 14]
abbrev Di (c : Cu) (r i : Nat) : List AV := [.ptr 0 0 3 0 [], .ptr 1 0 3 0 [], lQ c.f c.m r, .int .i64 c.m, .int .i64 i]
abbrev DI (c : Cu) (x w i : Nat) : aD := [(2, ⟨true, true, 12, i, fun j => cD (iN (c.f j)) w⟩), (1, ⟨false, true, 3, 1, fun _ => .agg [.int .i64 c.p, bH c.k c.n x, .own 2 12 0 i]⟩), (0, ⟨false, true, 3, 1, fun _ => .agg [.int .i64 0, .nil, .nil]⟩)]
noncomputable abbrev vm : Code := au uT
def Ja : aQ := nG :: (rV, gM kR kR ug oR) :: fT
def FU (f : Nat → Pl) (x : Nat → Rat) (b j : Nat) : Pl :=
 ⟨⟨iR j fun j => x j * (f (b + j)).n.x, iR j fun j => x j * (f (b + j)).n.y, iR j fun j => x j * (f (b + j)).n.z⟩, iR j fun j => x j * (f (b + j)).d⟩
def zW : aQ := nG :: (tg, yQ) :: fT
abbrev tK : List Nat := [4, 5, 2, 6, 7, 36, 37, 38]
abbrev yX (p i : Nat) (x : Nat → Rat) (j : Nat) : List AV := [.ptr 1 0 12 0 [], .int .i64 0, .ptr 0 0 3 0 [], .ptr 2 0 12 0 [], .int .i64 ((i : Int) - p), .ak 3 (p + 1) (fun j => .rat (x j) sV), .int .i64 ((p + 1 : Nat) : Int), .int .i64 j]
abbrev nD (c : Cu) (r : Nat) : az := ⟨false, true, 3, 1, fun _ => eO c sK r⟩
noncomputable abbrev rQ : Code := au nS
def s6 : AV → Pl
 | .agg [x, y, z, w] => ⟨⟨aT x, aT y, aT z⟩, aT w⟩
 | _ => ⟨⟨0, 0, 0⟩, 0⟩
def l9 (f : Nat → AV) (n s : Nat) : Prop := ∀ i, i < n → bB (f i) (cD (s6 (f i)) s)
theorem NB {v : AV} {n s : Nat} {f : Nat → AV} (h : rU v = some (n, f)) (ha : l9 f n s) : bB v (oN (fun i => s6 (f i)) n s) := by
 unfold rU at h
 split at h
 ·simp only [Option.some.injEq, Prod.mk.injEq] at h
  obtain ⟨rfl, rfl⟩ := h
  exact lC ha
 ·simp only [Option.some.injEq, Prod.mk.injEq] at h
  obtain ⟨rfl, rfl⟩ := h
  exact jo (by omega)
 ·simp at h
theorem Wi {h : Pl} {s : Nat} : bu T Ja [] 80 rZ (au rZ) ⟨aL 0 [cD h s], [], 0⟩ =
  let c8 : Int := (↑(3 : Nat) : Int); let c7 : Int := (↑(4 : Nat) : Int); let c5 : Int := (2 : Int) ^ 63; let c4 : Prop := s < 2 ^ 42; let c2 : Prop := 0 < 1; let c1 : Int := (0 : Int) + (1 : Int); let c6 : Int := c1 + (1 : Int); let c3 : Prop := (0 : Int) ≤ (3 : Int) ∧ (3 : Int) < c7; some (ag [c3, c2, c4, (1 : Nat) < 2 ^ 42, c2] (ag [(0 : Int) ≤ (0 : Int) ∧ (0 : Int) < c7, c2, c3, c2, c4, c4, (0 : Int) ≤ (0 : Int) ∧ (0 : Int) < c8, c2] (ag [-c5 ≤ c1 ∧ c1 < c5] (ag [(0 : Int) ≤ c1 ∧ c1 < c7, c2, c3, c2, c4, c4, (0 : Int) ≤ c1 ∧ c1 < c8, c2] (ag [-c5 ≤ c6 ∧ c6 < c5] (ag [(0 : Int) ≤ c6 ∧ c6 < c7, c2, c3, c2, c4, c4, (0 : Int) ≤ c6 ∧ c6 < c8, c2] (ag [-c5 ≤ c6 + (1 : Int) ∧ c6 + (1 : Int) < c5] (ag [c2, c2] (ag [c2] (leaf ret [agg [agg [rat (h.n.x / h.d) (s + s), rat (h.n.y / h.d) (s + s), rat (h.n.z / h.d) (s + s)], rat (h.d + 0) (s + 1 + 1)]])))))))))) := by kernel_rfl
theorem aam {c : Cu} {x r : Nat} : aI T ze [] 60 yl (before vm [1,1,0,1]) ⟨aL 0 [en c x r], [], 0⟩ =
  let c2 : Prop := 0 < 1; let c1 : AV := agg [int i64 (0 : Int), nil, nil]; some (ag [c2, c2, c2] (ag [c2] (leaf normal ([ptr 4096 0 3 0 [], ptr 28672 0 3 0 [], ak 12 c.m fun i ↦ agg [agg [rat (c.f i).n.x r, rat (c.f i).n.y r, rat (c.f i).n.z r], rat (c.f i).d r], int i64 (↑c.m : Int), int i64 (0 : Int)], [((28672 : Nat), az.mk false true 3 1 fun j ↦ if (j == 0) = true then bA (agg ((c1.kids.set 0 (bA (int i64 c.p))).set 1 (bA (bH c.k c.n x)))) else c1), ((4096 : Nat), az.mk false true 3 1 fun x ↦ c1)])))) := by kernel_rfl
theorem W7 {c : Cu} {x r w i : Nat} : aI T ze [15] 60 yl [part vm [1,1,0,1,0,0]] ⟨aB yl (Di c r i), DI c x w i, 3⟩ =
  let c17 : Int := (↑c.m : Int); let c16 : Int := (↑(3 : Nat) : Int); let c15 : AV := own 2 12 0 i; let c14 : AV := ptr 1 0 3 0 []; let c13 : AV := ptr 0 0 3 0 []; let c12 : Int := (↑(4 : Nat) : Int); let c11 : Int := (↑i : Int); let c10 : AV := rat 0 1; let c7 : Nat × az := ((0 : Nat), az.mk false true 3 1 fun x ↦ agg [int i64 (0 : Int), nil, nil]); let c5 : AV := ak 12 c.m fun i ↦ agg [agg [rat (c.f i).n.x r, rat (c.f i).n.y r, rat (c.f i).n.z r], rat (c.f i).d r]; let c4 : Int := (2 : Int) ^ 63; let c3 : Prop := r < 2 ^ 42; let c2 : Int := (0 : Int) + (1 : Int); let c1 : Prop := 0 < 1; let c18 : Int := c11 + (1 : Int); let c9 : AV := agg [int i64 c.p, bH c.k c.n x, c15]; let c8 : Int := c2 + (1 : Int); let c6 : Pl := c.f c11.toNat; some (fork (decide (c11 < c17)) (ag [(0 : Int) ≤ c11 ∧ c11.toNat < c.m, c1] (ag [c1, c1, c1, (0 : Int) ≤ (0 : Int) ∧ (0 : Int) < c16, c1, c1, c1, c3, c3, (0 : Int) ≤ (0 : Int) ∧ (0 : Int) < c12, c1, -c4 ≤ c2 ∧ c2 < c4, (0 : Int) ≤ c2 ∧ c2 < c16, c1, c1, c1, c3, c3, (0 : Int) ≤ c2 ∧ c2 < c12, c1, -c4 ≤ c8 ∧ c8 < c4, (0 : Int) ≤ c8 ∧ c8 < c16, c1, c1, c1, c3, c3, (0 : Int) ≤ c8 ∧ c8 < c12, c1, -c4 ≤ c8 + (1 : Int) ∧ c8 + (1 : Int) < c4, c1, c3, (1 : Nat) < 2 ^ 42, (0 : Int) ≤ (3 : Int) ∧ (3 : Int) < c12, c1, c1, c1, c1, (1 : Nat) * 12 ≤ 2 ^ 24, (i + 1) * ((224 : Nat) + 1) * 2 ≤ 2 ^ 47, c1] (ag [-c4 ≤ c18 ∧ c18 < c4] (leaf normal ([c13, c14, c5, int i64 c17, int i64 c18], [((40963 : Nat), az.mk true true 12 (i + 1) fun i_1 ↦ if i_1 < i then cD (iN (c.f i_1)) w else nth [agg [rat (c6.d * c6.n.x) (r + r), rat (c6.d * c6.n.y) (r + r), rat (c6.d * c6.n.z) (r + r), rat (c6.d + 0) (r + 1 + 1)]] (agg [c10, c10, c10, c10]) (i_1 - i + 0)), ((1 : Nat), az.mk false true 3 1 fun j ↦ if (j == 0) = true then agg (c9.kids.set 2 (bA (own (nat_lit 40962 + 1) 12 0 (i + 1)))) else c9), c7]))))) (leaf (exit 0) ([c13, c14, c5, int i64 c17, int i64 c11], [((2 : Nat), az.mk true true 12 i fun j ↦ agg [rat ((c.f j).d * (c.f j).n.x) w, rat ((c.f j).d * (c.f j).n.y) w, rat ((c.f j).d * (c.f j).n.z) w, rat (c.f j).d w]), ((1 : Nat), az.mk false true 3 1 fun x_1 ↦ agg [int i64 c.p, ak 3 c.n fun i ↦ rat (c.k i) x, c15]), c7]))) := by kernel_rfl
theorem Za {c : Cu} {x r w i : Nat} : b9 T ze [] 60 uT [part vm [1,1,1]] ⟨aB yl (Di c r i), DI c x w i, 3⟩ =
  let c1 : Prop := 0 < 1; some (ag [c1, c1] (ag [c1] (leaf ret [agg [int i64 c.p, ak 3 c.n fun i ↦ rat (c.k i) x, ak 12 i fun i ↦ agg [rat ((c.f (i + 0)).d * (c.f (i + 0)).n.x) w, rat ((c.f (i + 0)).d * (c.f (i + 0)).n.y) w, rat ((c.f (i + 0)).d * (c.f (i + 0)).n.z) w, rat (c.f (i + 0)).d w]]]))) := by kernel_rfl
theorem Md {c : Cu} {r : Nat} {t : Rat} : aI T zW [25, 34] 60 tK (before rQ [1,1,1,1,0,1]) ⟨aL 0 [eO c sK r, .rat t sK], [], 0⟩ =
  let c16 : Nat := bO c.n (fun i ↦ aT (rat (c.k i) sK)) t; let c15 : Prop := cC c.n (fun i ↦ aT (rat (c.k i) sK)) t; let c14 : AV := ptr 8192 0 12 0 []; let c13 : AV := ptr 16384 0 12 0 []; let c12 : AV := ptr 0 0 (bA (eO c sK r)).size 0 []; let c11 : AV := rat 0 1; let c10 : Prop := 0 < 1; let c8 : Bool := cH c.n (fun i ↦ aT (rat (c.k i) sK)) t != (0 : Int); let c6 : Nat × az := ((0 : Nat), az.mk false true (bA (eO c sK r)).size 1 fun x ↦ agg [int i64 c.p, ak 3 c.n fun i ↦ rat (c.k i) 4096, ak 12 c.m fun i ↦ agg [rat (c.f i).n.x r, rat (c.f i).n.y r, rat (c.f i).n.z r, rat (c.f i).d r]]); let c7 : Nat := if c15 then 0 else c.p.toNat + 1; let c5 : Int := if c15 then (0 : Int) else (↑c16 : Int) - (↑c.p.toNat : Int); let c4 : AV := agg [c11, c11, c11, c11]; let c9 : az := az.mk false true 12 1 fun x ↦ c4; let c3 : Int := c5 + (↑c7 : Int); let c2 : aa (List AV × aD) := leaf normal ([c14, int i64 (0 : Int), c12, c13, int i64 c5, ak 3 c7 fun j ↦ rat (vB (fun i ↦ aT (rat (c.k i) sK)) c16 t c.p.toNat j) 268435456, int i64 (↑c7 : Int), int i64 (0 : Int)], [((16384 : Nat), c9), c6, ((8192 : Nat), c9)]); let c1 : aa (List AV × aD) := ag [c10] (leaf ret ([c14, int i64 (7 : Int), c12, c13, int i64 c5, tuple [], tuple [], tuple []], [((16384 : Nat), c9), c6, ((8192 : Nat), az.mk false true 12 1 fun j ↦ if (j == 0) = true then bA (agg c4.kids) else c4)])); some (ag [c10, c10, c10, ck (fun i ↦ rat (c.k i) sK) c.n sK, sK ≤ sK, Kn c.n c.p.toNat fun i ↦ aT (rat (c.k i) sK), (0 : Int) ≤ c.p, c.p ≤ (6 : Int), c.n < 2 ^ 40] (fork c8 (ag [c8 = true] (fork true c1 c2)) (ag [c8 = false, -(2 : Int) ^ 63 ≤ c3 ∧ c3 < (2 : Int) ^ 63, c10] (fork (bif false then true else decide (c3 > (↑c.m : Int))) c1 c2)))) := by kernel_rfl
theorem abA {c : Cu} {h : Pl} {p i j s r : Nat} {x : Nat → Rat} : aI T zW [39] 60 tK [part rQ [1,1,1,1,0,1,0,0]] ⟨aB tK (yX p i x j), [(2, gj h s), (1, gj ⟨⟨0, 0, 0⟩, 0⟩ 1), (0, nD c r)], 3⟩ =
  let c29 : Int := (↑i : Int) - (↑p : Int); let c26 : AV := ptr 0 0 3 0 []; let c24 : AV := ptr 2 0 12 0 []; let c23 : AV := ptr 1 0 12 0 []; let c21 : AV := rat 0 1; let c20 : Int := (↑(p + 1) : Int); let c19 : AV := ak 3 (p + 1) fun j ↦ rat (x j) 268435456; let c16 : Int := (↑j : Int); let c15 : Bool := 0 == 0; let c10 : Int := (↑(4 : Nat) : Int); let c9 : Int := (0 : Int) + (1 : Int); let c8 : Nat := 2 ^ 42; let c7 : Prop := 0 < 1; let c6 : Int := (2 : Int) ^ 63; let c33 : Prop := sV + r < c8; let c32 : Rat := x c16.toNat; let c31 : Int := c16 + (1 : Int); let c28 : Prop := (0 : Int) ≤ c9 ∧ c9 < c10; let c18 : Prop := (0 : Int) ≤ (0 : Int) ∧ (0 : Int) < c10; let c4 : List (Nat × az) := [((0 : Nat), az.mk false true 3 1 fun x ↦ agg [int i64 c.p, ak 3 c.n fun i ↦ rat (c.k i) 4096, ak 12 c.m fun i ↦ agg [rat (c.f i).n.x r, rat (c.f i).n.y r, rat (c.f i).n.z r, rat (c.f i).d r]]), ((1 : Nat), az.mk false true 12 1 fun x ↦ agg [c21, c21, c21, c21])]; let c3 : Int := c9 + (1 : Int); let c2 : Int := c29 + c16; let c30 : Pl := c.f c2.toNat; let c27 : Prop := (0 : Int) ≤ c3 ∧ c3 < c10; let c25 : Prop := -c6 ≤ c2 ∧ c2 < c6; let c17 : Prop := (0 : Int) ≤ c2 ∧ c2.toNat < c.m; let c12 : Int := c3 + (1 : Int); let c22 : Prop := (0 : Int) ≤ c12 ∧ c12 < c10; let c11 : AV := agg ((cD h s).kids.set (Int.toNat (0 : Int)) (bA (gX (h.n.x, s) (c32 * c30.n.x, sV + r)))); let c5 : AV := if c15 = true then c11 else cD h s; let c13 : AV := agg (c5.kids.set c9.toNat (bA (gX (h.n.y, s) (c32 * c30.n.y, sV + r)))); let c1 : AV := if c15 = true then c13 else c5; let c14 : AV := agg (c1.kids.set c3.toNat (bA (gX (h.n.z, s) (c32 * c30.n.z, sV + r)))); some (fork (decide (c16 < c20)) (ag [(0 : Int) ≤ c16 ∧ c16.toNat < p + 1, c7] (ag [c18, c7, c7, c7, c25, c17, c18, sV < c8, r < c8, s < c8, c33, c18, c7] (ag [-c6 ≤ c9 ∧ c9 < c6] (ag [c28, c7, c7, c7, c25, c17, c28, sV < c8, r < c8, s < c8, c33, c28, c7] (ag [-c6 ≤ c3 ∧ c3 < c6] (ag [c27, c7, c7, c7, c25, c17, c27, sV < c8, r < c8, s < c8, c33, c27, c7] (ag [-c6 ≤ c12 ∧ c12 < c6] (ag [c22, c7, c7, c7, c25, c17, c22, sV < c8, r < c8, s < c8, c33, c22, c7] (ag [-c6 ≤ c12 + (1 : Int) ∧ c12 + (1 : Int) < c6] (ag [-c6 ≤ c31 ∧ c31 < c6] (leaf normal ([c23, int i64 (0 : Int), c26, c24, int i64 c29, c19, int i64 c20, int i64 c31], ((2 : Nat), az.mk false true 12 1 fun j ↦ if (j == 0) = true then agg ((if c15 = true then c14 else c1).kids.set c12.toNat (bA (gX (h.d, s) (c32 * c30.d, sV + r)))) else if (j == 0) = true then c14 else if (j == 0) = true then c13 else if (j == 0) = true then c11 else cD h s) :: c4)))))))))))) (leaf (exit 0) ([c23, int i64 (0 : Int), c26, c24, int i64 c29, c19, int i64 c20, int i64 c16], ((2 : Nat), az.mk false true 12 1 fun x ↦ agg [rat h.n.x s, rat h.n.y s, rat h.n.z s, rat h.d s]) :: c4))) := by kernel_rfl
theorem Rz {c : Cu} {h : Pl} {p i j s r : Nat} {x : Nat → Rat} : b9 T zW [] 60 nS [part rQ [1,1,1,1,1]] ⟨aB tK (yX p i x j), [(2, gj h s), (1, gj ⟨⟨0, 0, 0⟩, 0⟩ 1), (0, nD c r)], 3⟩ =
  let c1 : Prop := 0 < 1; some (ag [c1, c1] (ag [c1] (leaf ret [agg [rat h.n.x s, rat h.n.y s, rat h.n.z s, rat h.d s], int i64 (0 : Int)]))) := by kernel_rfl
theorem Sb : aY P F6 := cO g8
theorem SN : aY P ze := cO (aF (ga hT Sb hm N3 _ _) g8)
theorem Yp : aY P Ja := cO (aF (hU fun _ _ K hn => CN hn.1 hn.2 K) g8)
theorem Hy : aY P zW := cO (aF UN g8)
theorem By {rl : List (Nat × Nat)} {l i : Nat} {f g : Nat → AV} {v z : AV} (hf : ∀ i, i < l → f i = g i ∧ keys (f i) = []) (hk : keys v = []) (hv : bB v (g l)) (hi : i < l + 1) : fq rl (if i < l then f i else nth [v] z (i - l + 0)) (g i) := by
 by_cases h : i < l
 ·rw [if_pos h]; exact aM (hf i h).2 (hf i h).1
 ·have : i = l := by omega
  subst this
  rw [if_neg h, Nat.sub_self]
  exact .inr ⟨hk, hv⟩
theorem pV {rl : List (Nat × Nat)} {p : Int} {v : AV} {a b i : Nat} (hv : keys v = []) (ht : v.isTuple = false) (h : aS rl b = some a) : fq rl (.agg [.int .i64 p, v, .own a 12 0 i]) (.agg [.int .i64 p, v, .own b 12 0 i]) :=
 pY ⟨⟨rfl, aH rfl⟩, ⟨ht, aH hv⟩, ⟨rfl, cF h rfl rfl⟩, trivial⟩
theorem Bb {h h' : Pl} {s s' : Nat} (e : h = h') (hs : s ≤ s') : bB (cD h s) (cD h' s') := e ▸ dx ⟨bK rfl hs, bK rfl hs, bK rfl hs, bK rfl hs, trivial⟩
theorem Ht {h : Pl} {s w : Nat} (hs : s < 2 ^ 40) (h1 : s + s ≤ w) (h2 : s + 2 ≤ w) (K : Nat) : aA P oD K [cD h s] [] (aG (cS (iK h) w) []) := by
 refine bC (r := aG (cS (iK h) w) []) hT Yp hm QV rfl (of_decide_eq_true (by kernel_rfl)) rfl 80 Wi (fun _ => ?_) K []
 simp only [aa.all, ay]
 (repeat' with_reducible refine And.intro ?_ ?_)
 all_goals first | omega | skip
 exact dx ⟨dx ⟨bK rfl h1, bK rfl h1, bK rfl h1, trivial⟩, bK (Rat.add_zero _) (by omega), trivial⟩
theorem F0 {c : Cu} {x r w : Nat} (h1 : r + r ≤ w) (h2 : r + 2 ≤ w) (hw : w < 2 ^ 40) (hn : c.n < 2 ^ 40) (hm2 : c.m < 2 ^ 30) (K : Nat) : aA P oz K [en c x r] [] (aG (.agg [.int .i64 c.p, bH c.k c.n x, oN (fun i => iN (c.f i)) c.m w]) []) := by
 refine gp (r := aG (.agg [.int .i64 c.p, bH c.k c.n x, oN (fun i => iN (c.f i)) c.m w]) []) hT SN hm adk rfl (of_decide_eq_true (by kernel_rfl)) rfl [1,1,0,1] (i := 0) (y := part vm [1,1,0,1,0,0]) (z := part vm [1,1,1]) (by kernel_rfl) (by kernel_rfl) (by kernel_rfl) (f1 := []) (f2 := [15]) (f3 := []) 60 yl 3
  (fun i : Nat => Di c r i) (fun i => DI c x w i) (fun i => i ≤ c.m) (fun i => i = c.m) (fun i => c.m - i) (fun _ => ⟨⟨_, aam, ?_⟩, fun i hi => ⟨_, W7, ?_⟩, fun i hi => ⟨_, Za, ?_⟩⟩) K []
 ·simp only [aa.all, ay]
  exact ⟨by omega, by omega, 0, Nat.zero_le _, [(0, 4096), (1, 28672)], rfl, rfl, rfl, zf rfl (by omega) (by omega) (aR rfl rfl (pY ⟨⟨rfl, aH rfl⟩, ⟨rfl, aH rfl⟩, ⟨rfl, tF (by omega)⟩, trivial⟩) (aR rfl rfl (aM rfl rfl) trivial))⟩
 ·set_option maxRecDepth 10000 in simp only [aa.all, ay, decide_eq_true_eq, decide_eq_false_iff_not, Int.toNat_natCast, Nat.add_zero]
  refine ⟨fun h => ⟨by omega, by omega, by omega, i + 1, by omega, by dsimp only; omega, [(0, 0), (1, 1), (2, 40963)], rfl, rfl, rfl, bD rfl rfl rfl (fun j hj => By (g := fun j => cD (iN (c.f j)) w) (fun _ _ => ⟨rfl, rfl⟩) rfl (dx ⟨bK rfl h1, bK rfl h1, bK rfl h1, bK (Rat.add_zero _) (by omega), trivial⟩) hj) (aR rfl rfl (pV rfl rfl rfl) (aR rfl rfl (aM rfl rfl) trivial))⟩,
   fun h => ⟨rfl, i, by omega, [(0, 0), (1, 1), (2, 2)], rfl, rfl, rfl, bD rfl rfl rfl (fun _ _ => aM rfl rfl) (aR rfl rfl (pV rfl rfl rfl) (aR rfl rfl (aM rfl rfl) trivial))⟩⟩
 ·subst hi
  simp only [aa.all, ay]
  exact ⟨by omega, by omega, .refl _⟩
theorem L9 {c : Cu} {r : Nat} : jt T nS .ret ⟨aB [4, 5, 2, 6] [.ptr 8192 0 12 0 [], .int .i64 7, .ptr 0 0 3 0 [], .ptr 16384 0 12 0 []], [(16384, ⟨false, true, 12, 1, fun _ => .agg [.rat 0 1, .rat 0 1, .rat 0 1, .rat 0 1]⟩), (0, nD c r), (8192, ⟨false, true, 12, 1, fun j => if (j == 0) = true then bA (.agg (AV.kids (.agg [.rat 0 1, .rat 0 1, .rat 0 1, .rat 0 1]))) else .agg [.rat 0 1, .rat 0 1, .rat 0 1, .rat 0 1]⟩)], 16385⟩ =
  let c1 : AV := rat 0 1; some (ag [(0 : Nat) < 1] (leaf ret [agg [c1, c1, c1, c1], int i64 (7 : Int)])) := by kernel_rfl
def kW (c : Cu) (t : Rat) : Pl := if cC c.n c.k t then ⟨⟨0, 0, 0⟩, 0⟩ else FU c.f (vB c.k (bO c.n c.k t) t c.p.toNat) (bO c.n c.k t - c.p.toNat) (c.p.toNat + 1)
theorem PA {c : Cu} {t : Rat} {r s : Nat} (hr : 1 + 7 * (sV + r + 1) ≤ s) (hs : s < 2 ^ 40) (hk : Kn c.n c.p.toNat c.k) (h0 : 0 ≤ c.p) (h6 : c.p ≤ 6) (hn : c.n < 2 ^ 40) (hm2 : (c.m : Int) = (c.n : Int) - c.p - 1) (K : Nat) : aA P xL K [eO c sK r, .rat t sK] [] (aG (.tuple [cD (kW c t) s, .int .i64 (cH c.n c.k t)]) []) := by
 refine fU (r := aG (.tuple [cD (kW c t) s, .int .i64 (cH c.n c.k t)]) []) hT HP rfl (of_decide_eq_true (by kernel_rfl)) rfl (fun _ cx h00 => ?_) K []
 have hkp := qc h00
 obtain ⟨q, hq⟩ : ∃ q, q = c.p.toNat := ⟨_, rfl⟩
 have hq2 : c.p = (q : Int) := by omega
 obtain ⟨i, hi⟩ : ∃ i, i = bO c.n c.k t := ⟨_, rfl⟩
 obtain ⟨x, hx⟩ : ∃ x, x = vB c.k i t q := ⟨_, rfl⟩
 have h1 : sK = 4096 := rfl
 have h2 : sV = 268435456 := rfl
 have z0 : 1 + 0 * (sV + r + 1) = 1 := by omega
 have zle : ∀ j, j ≤ 7 → 1 + j * (sV + r + 1) ≤ s := fun j hj => by
  have := Nat.mul_le_mul_right (sV + r + 1) hj
  omega
 refine aq.kY hT Hy hm (x := rQ) [1,1,1,1,0,1] (i := 0) (y := part rQ [1,1,1,1,0,1,0,0]) (z := part rQ [1,1,1,1,1]) (by kernel_rfl) (by kernel_rfl) (by kernel_rfl) HP.dst hkp (f1 := [25, 34]) (f2 := [39]) 60 tK 3 (fun j : Nat => yX q i x j) (fun j => [(2, gj (FU c.f x (i - q) j) (1 + j * (sV + r + 1))), (1, gj ⟨⟨0, 0, 0⟩, 0⟩ 1), (0, nD c r)])
  (fun j => j ≤ q + 1 ∧ ¬ cC c.n c.k t) (fun j => j = q + 1 ∧ ¬ cC c.n c.k t) (fun j => q + 1 - j) (DO T nS [4, 5, 2, 6] (.tuple [cD (kW c t) s, .int .i64 (cH c.n c.k t)])) ⟨_, Md, ?_⟩ (fun j ⟨hj, hin⟩ => ⟨_, abA, ?_⟩) (fun j ⟨hj, hin⟩ => ?_) (fun v s' hv hs' => hv.fin (L1 := [7, 36, 37, 38]) hkp hs')
 ·simp only [aa.all, ay, jY, bne_iff_ne, ne_eq, bne_eq_false_iff_eq]
  have hko : cC c.n (fun i => c.k i) t = cC c.n c.k t := rfl
  have hkE : cH c.n (fun i => c.k i) t = cH c.n c.k t := rfl
  have hkI : bO c.n (fun i => c.k i) t = bO c.n c.k t := rfl
  simp only [hko, hkE, hkI]
  refine ⟨⟨by omega, by omega, by omega, dj (Nat.le_refl _), Nat.le_refl _, hk, h0, h6, hn⟩, fun hout => ⟨hout, fun _ => ⟨by omega, ?_⟩, fun h => absurd h (by decide)⟩, fun he => ?_⟩
  ·have ho := CE hout
   refine ⟨[_, _, _, _], _, 16385, _, rfl, rfl, rfl, L9, rfl, ⟨⟨by omega, fun i _ => rfl⟩, ⟨by omega, fun i _ => rfl⟩, ⟨by omega, fun i _ => CY rfl rfl⟩, trivial⟩, Nat.zero_lt_one, ?_⟩
   exact ⟨Bb (h := ⟨⟨0, 0, 0⟩, 0⟩) (by unfold kW; rw [if_pos ho]) (by omega), bq (by unfold cH; rw [if_pos ho]), trivial⟩
  ·have hin := yI he
   have hiv := hk.oV hin
   simp only [if_neg hin]
   refine ⟨⟨he, by omega, by omega⟩, fun h => ?_, fun _ => ⟨0, ⟨Nat.zero_le _, hin⟩, [(0, 0), (1, 8192), (2, 16384)], rfl, ?_, rfl, aR rfl rfl (aM rfl (by rw [z0]; rfl)) (aR rfl rfl (aM rfl rfl) (aR rfl rfl (aM rfl rfl) trivial))⟩⟩
   ·exfalso
    rw [cond_false, decide_eq_true_eq] at h
    omega
   ·show _ = (yX q i x 0).map _
    rw [hx, hq, hi]; rfl
 ·have hiv := hk.oV hin
  rw [← hi, ← hq] at hiv
  simp only [aa.all, ay, decide_eq_true_eq, decide_eq_false_iff_not, show ((i : Int) - q + j).toNat = i - q + j by omega, Int.toNat_natCast]
  refine ⟨fun h => ?_, fun h => ⟨rfl, j, ⟨by omega, hin⟩, [(0, 0), (1, 1), (2, 2)], rfl, rfl, rfl, aR rfl rfl (aM rfl rfl) (aR rfl rfl (aM rfl rfl) (aR rfl rfl (aM rfl rfl) trivial))⟩⟩
  have hz := zle j (by omega)
  have hzS : 1 + (j + 1) * (sV + r + 1) = 1 + j * (sV + r + 1) + (sV + r + 1) := by rw [Nat.add_mul, Nat.one_mul]; omega
  have hz2 := zle (j + 1) (by omega)
  generalize 1 + j * (sV + r + 1) = zj at *
  (repeat' with_reducible refine And.intro ?_ ?_)
  all_goals first | omega | skip
  exact ⟨j + 1, ⟨by omega, hin⟩, by dsimp only; omega, [(0, 0), (1, 1), (2, 2)], rfl, rfl, rfl, aR rfl rfl (.inr ⟨rfl, dx ⟨bK rfl (by omega), bK rfl (by omega), bK rfl (by omega), bK rfl (by omega), trivial⟩⟩) (aR rfl rfl (aM rfl rfl) (aR rfl rfl (aM rfl rfl) trivial))⟩
 ·subst hj
  refine aq.lJ ((aC.fin hT Hy hm 60 Rz (by kernel_rfl) ?_).mono fun _ _ h => .inl h)
  simp only [aa.all, ay]
  have hz := zle (q + 1) (by omega)
  refine ⟨by omega, by omega, ?_, bq (by unfold cH; rw [if_neg hin]), trivial⟩
  exact Bb (by unfold kW; rw [if_neg hin, ← hi, ← hq, ← hx]) hz
def we (s r : Nat) : Kind Cu := ⟨fun v => match v with
 | .agg [p, k, f] => match kI.read p, (kL s).read k, rU f with
  | some (p, q1), some ((n, k), q2), some (m, f) => some (⟨p, n, k, m, fun i => s6 (f i)⟩, q1 ++ (q2 ++ [l9 f m r]))
  | _, _, _ => none
 | _ => none, fun a => eO a s r, fun {v a q} h hq => by
  split at h
  ·split at h
   ·rename_i h1 h2 h3
    simp only [Option.some.injEq, Prod.mk.injEq] at h
    obtain ⟨rfl, rfl⟩ := h
    obtain ⟨q1, hq⟩ := dF.1 hq
    obtain ⟨q2, q3⟩ := dF.1 hq
    exact dx ⟨kI.ok h1 q1, (kL s).ok h2 q2, NB h3 q3, trivial⟩
   ·simp at h
  ·simp at h⟩
def Ik : Spec := cP (kC (kj sJ sJ) kN) (fun a => eO ⟨a.1.p, a.1.n, a.1.k, a.1.m, fun i => iN (a.1.f i)⟩ sJ (sJ + sJ)) fun a => [a.1.n < 2 ^ 40, a.1.m < 2 ^ 30]
def FL : Spec := cP (kC (we sK (sJ + sJ)) (kC (gv sK) kN)) (fun a => .tuple [cD (kW a.1 a.2.1) sH, .int .i64 (cH a.1.n a.1.k a.2.1)]) fun a => [Kn a.1.n a.1.p.toNat a.1.k, 0 ≤ a.1.p, a.1.p ≤ 6, a.1.n < 2 ^ 40, (a.1.m : Int) = (a.1.n : Int) - a.1.p - 1]
def Fs : Spec := cP (kC (CV sH) kN) (fun a => cS (iK a.1) sE) fun _ => []
def fl (c : Cu) : Prop := Kn c.n c.p.toNat c.k ∧ 1 ≤ c.p ∧ c.p ≤ 6 ∧ c.n ≤ c.p.toNat + 41 ∧ (c.m : Int) = (c.n : Int) - c.p - 1
noncomputable def H6 : aQ := nG :: (qG, EA) :: (oE, tw) :: []
def BP : Spec := cP (kC (kj sJ sJ) kN) (fun _ => .bool true) fun a => [fl a.1]
noncomputable def GH : aQ := nG :: (vv, BP) :: (oz, Ik) :: (xL, FL) :: (oD, Fs) :: []
theorem acD {c : Cu} : bu T H6 [100009] 60 s5 (au s5) ⟨aL 0 [en c sJ sJ], [], 0⟩ =
  let c2 : Prop := c.n < 2 ^ 40; let c1 : Prop := 0 < 1; some (ag [c1, c1, ck (fun i ↦ rat (c.k i) sJ) c.n sJ, c2, (fh c.n (fun i ↦ aT (rat (c.k i) sJ)) c.p == (0 : Int)) = true, c1, c1, c1, ck (fun i ↦ rat (c.k i) sJ) c.n sK, c2, -(2 : Int) ^ 40 < c.p, c.p < (2 : Int) ^ 40] (leaf ret [AV.bool (bif true then (↑c.m : Int) == (↑c.n : Int) - c.p - (1 : Int) else false)])) := by kernel_rfl
theorem Pz {c : Cu} {t : Rat} : bu T GH [20] 60 xj (au xj) ⟨aL 0 [en c sJ sJ, .rat t sK], [], 0⟩ =
  let c7 : Prop := c.n < 2 ^ 40; let c6 : Prop := ir (fun i ↦ cS (c.f i) sJ) c.m sJ; let c5 : Prop := ck (fun i ↦ rat (c.k i) sJ) c.n sJ; let c4 : AV := rat 0 1; let c3 : Int := cH c.n (fun i ↦ aT (rat (aT (rat (c.k i) sJ)) sJ)) t; let c2 : Prop := 0 < 1; let c1 : Pl := kW (Cu.mk c.p c.n (fun i ↦ aT (rat (aT (rat (c.k i) sJ)) sJ)) c.m fun i ↦ s6 (cD (iN (jW (cS (c.f i) sJ))) (sJ + sJ))) t; some (ag [c2, c5, c6, fl (Cu.mk c.p c.n (fun i ↦ aT (rat (c.k i) sJ)) c.m fun i ↦ jW (cS (c.f i) sJ))] (ag [c2, c5, c6, c7, c.m < 2 ^ 30, c2, ck (fun i ↦ rat (aT (rat (c.k i) sJ)) sJ) c.n sK, l9 (fun i ↦ cD (iN (jW (cS (c.f i) sJ))) (sJ + sJ)) c.m (sJ + sJ), sK ≤ sK, Kn c.n c.p.toNat fun i ↦ aT (rat (aT (rat (c.k i) sJ)) sJ), (0 : Int) ≤ c.p, c.p ≤ (6 : Int), c7, (↑c.m : Int) = (↑c.n : Int) - c.p - (1 : Int), c2] (fork (c3 != (0 : Int)) (ag [c2] (ag [c2] (leaf ret [agg [c4, c4, c4], int i64 c3]))) (ag [c2, sH ≤ sH, sH ≤ sH, sH ≤ sH, sH ≤ sH, c2] (ag [c2] (leaf ret [agg [rat (c1.n.x / c1.d) 4294967298, rat (c1.n.y / c1.d) 4294967298, rat (c1.n.z / c1.d) 4294967298], int i64 (0 : Int)])))))) := by kernel_rfl
theorem Uz : ∀ K args pre r, Ik K args pre = some r → aA P oz K args pre r := cK fun ⟨c, _⟩ K hn => F0 (Nat.le_refl _) (by decide) (by decide) hn.1 hn.2 K
theorem Qu : ∀ K args pre r, FL K args pre = some r → aA P xL K args pre r := cK fun ⟨c, t, _⟩ K hn => PA (by decide) (by decide) hn.1 hn.2.1 hn.2.2.1 hn.2.2.2.1 hn.2.2.2.2 K
theorem SO : ∀ K args pre r, Fs K args pre = some r → aA P oD K args pre r := cK fun ⟨h, _⟩ K _ => Ht (by decide) (by decide) (by decide) K
theorem UH : aY P H6 := cO (aF Fq (aF yR bk))
theorem LH : ∀ K args pre r, BP K args pre = some r → aA P vv K args pre r := cK fun ⟨c, _⟩ K hn => by
 obtain ⟨h1, h2, h3, h4, h5⟩ : fl c := hn
 refine bC (r := aG (.bool true) []) hT UH hm ac3 rfl (of_decide_eq_true (by kernel_rfl)) rfl 60 acD (fun _ => ?_) K []
 have hc0 : fh c.n c.k c.p = 0 := by have := h1.EF (by omega) h4; rwa [Int.toNat_of_nonneg (by omega)] at this
 simp only [aa.all, ay]
 exact ⟨⟨by omega, by omega, dj (Nat.le_refl _), by omega, beq_iff_eq.2 hc0, by omega, by omega, by omega, dj (by decide), by omega, by omega, by omega⟩, eL (beq_iff_eq.2 h5)⟩
theorem NX : aY P GH := cO (aF LH (aF Uz (aF Qu (aF SO bk))))
theorem div_one {a b : Rat} : a / b = ((1 : Int) : Rat) / b * a := by
 rw [Rat.div_def, Rat.div_def, show ((1 : Int) : Rat) = 1 from rfl, Rat.one_mul, Rat.mul_comm]
theorem P1 {h : Pl} : (iK h).n = wP h := by
 show V3.mk (h.n.x / h.d) (h.n.y / h.d) (h.n.z / h.d) = V3.mk _ _ _
 rw [div_one (a := h.n.x), div_one (a := h.n.y), div_one (a := h.n.z)]
def CR : Spec := cP (kC (kj sJ sJ) (kC (gv sK) kN)) (fun a => .tuple [vA (kQ a.1 a.2.1) sE, .int .i64 (cH a.1.n a.1.k a.2.1)]) fun a => [fl a.1]
theorem H9 : ∀ K args pre r, CR K args pre = some r → aA P s9 K args pre r := cK fun ⟨c, t, _⟩ K hn => by
 have hc : fl c := hn
 obtain ⟨h1, h2, h3, h4, h5⟩ := id hc
 refine bC (r := aG (.tuple [vA (kQ c t) sE, .int .i64 (cH c.n c.k t)]) []) hT NX hm T1 rfl (of_decide_eq_true (by kernel_rfl)) rfl 60 Pz (fun _ => ?_) K []
 have e1 : cH c.n (fun i => aT (rat (aT (rat (c.k i) sJ)) sJ)) t = cH c.n c.k t := rfl
 simp only [aa.all, ay, e1, bne_iff_ne, ne_eq, bne_eq_false_iff_eq]
 refine ⟨⟨by omega, dj (Nat.le_refl _), kM (Nat.le_refl _), hc⟩, ⟨by omega, dj (Nat.le_refl _), kM (Nat.le_refl _), by omega, by omega, by omega, dj (by decide), fun _ _ => .refl _, Nat.le_refl _, h1, by omega, h3, by omega, h5, by omega⟩, fun hout => ⟨by omega, by omega, ?_⟩, fun hin => ⟨⟨by omega, Nat.le_refl _, Nat.le_refl _, Nat.le_refl _, Nat.le_refl _, by omega⟩, by omega, ?_⟩⟩
 ·refine ⟨Bd (u := ⟨0, 0, 0⟩) (by unfold kQ; rw [if_pos (CE hout)]) (by decide), .refl _, trivial⟩
 ·have ho := yI hin
  refine ⟨Bd (u := (iK (kW ⟨c.p, c.n, c.k, c.m, fun i => iN (c.f i)⟩ t)).n) ?_ (by decide), bq hin.symm, trivial⟩
  rw [P1]
  unfold kQ kW
  rw [if_neg ho, if_neg ho]; rfl
end Go.Am.B

/- ref09.Sum; contracts of sums. -/
namespace Go.Am.B
open Go Go.Am.N AV aa ah IntKind
end Go.Am.B

/- basis.Blossom. -/
namespace Go.Am.B
open Go Go.Am.N AV aa ah IntKind
theorem IQ : aN P Ag ju (au ju) := aP P9 (by kernel_rfl) (by kernel_rfl) (by kernel_rfl)
def oH : aQ := nG :: (oE, tw) :: (vU, C4) :: fT
noncomputable abbrev yF : Code := au ju
noncomputable abbrev oC : Code := part yF [1,1,1,1,0,1,0,0]
noncomputable abbrev sU : Code := part oC [1,1,0,0]
abbrev sB : Nat := 536870912
theorem vF : aY P oH := cO (aF yR (aF FO g8))
def gr (n : Nat) (k : Nat → Rat) (p m l : Nat) (i : Int) : Int := if (m : Int) ≠ (n : Int) - p - 1 ∨ l ≠ p then 1 else if i < p ∨ (m : Int) ≤ i ∨ k (i.toNat + 1) ≤ k i.toNat then 7 else 0
def lR (n : Nat) (k : Nat → Rat) (p m : Nat) (c : Nat → Rat) (i : Int) (l : Nat) (a : Nat → Rat) : Rat := if gr n k p m l i = 0 then bR k (i.toNat - p) p a (fun j => c (i.toNat - p + j)) p p else 0
abbrev G4 (n : Nat) (k : Nat → Rat) (p m : Nat) (c : Nat → Rat) (i : Int) (l : Nat) (a : Nat → Rat) : AV := .tuple [.rat (lR n k p m c i l a) sB, .int .i64 (gr n k p m l i)]
theorem Qk {n p m l : Nat} {k c a : Nat → Rat} {i e : Int} (h : gr n k p m l i = e) (he : e ≠ 0) : dn [.agg [.bool false, .mag 0, .mag 0], .int .i64 e] (G4 n k p m c i l a) :=
 ⟨by unfold lR; rw [if_neg (by rw [h]; exact he)]; exact iu, bq h.symm, trivial⟩
theorem Gg {n p m l : Nat} {k : Nat → Rat} {i : Int} (h : (m : Int) ≠ (n : Int) - p - 1 ∨ l ≠ p) : gr n k p m l i = 1 := if_pos h
theorem BT {n p m l : Nat} {k : Nat → Rat} {i : Int} (h : (m : Int) = (n : Int) - p - 1) (hl : l = p) (h2 : i < p ∨ (m : Int) ≤ i ∨ k (i.toNat + 1) ≤ k i.toNat) : gr n k p m l i = 7 := by
 unfold gr; rw [if_neg (by omega), if_pos h2]
theorem Yj {n p m l : Nat} {k : Nat → Rat} {i : Int} (h : (m : Int) = (n : Int) - p - 1) (hl : l = p) (h2 : ¬ (i < p ∨ (m : Int) ≤ i ∨ k (i.toNat + 1) ≤ k i.toNat)) : gr n k p m l i = 0 := by
 unfold gr; rw [if_neg (by omega), if_neg h2]
def jL (k : Nat → Rat) (b p r : Nat) (t : Rat) (x : Nat → Rat) (j i : Nat) : Rat := if i ≤ j then x i else oF k b p r t x i
def ko (r j i : Nat) : Nat := if i ≤ j then SB r else SB (r + 1)
theorem YF {rl : List (Nat × Nat)} {k : Nat → Rat} {b p r j i s : Nat} {t : Rat} {x : Nat → Rat} (hj : r < j) (hs : s ≤ SB (r + 1)) :
  fq rl (.rat (bif i == j then jL k b p r t x j (j - 1) + fr (k (b + j)) (k (b + j + (p - r))) t * (jL k b p r t x j j - jL k b p r t x j (j - 1)) else jL k b p r t x j i) (bif i == j then s else ko r j i)) (.rat (jL k b p r t x (j - 1) i) (ko r (j - 1) i)) := by
 refine .inr ⟨rfl, ?_⟩
 by_cases h : i = j
 ·subst h
  simp only [beq_self_eq_true, cond_true]
  refine bK ?_ ?_
  ·unfold jL
   rw [if_pos (by omega), if_pos (by omega), if_neg (by omega)]
   unfold oF
   rw [if_pos hj]
  ·unfold ko
   rw [if_neg (by omega)]; exact hs
 ·have hb : (i == j) = false := by simpa using h
  rw [hb]
  refine bK ?_ ?_
  ·simp only [cond_false]
   unfold jL
   by_cases h2 : i ≤ j
   ·rw [if_pos h2, if_pos (by omega)]
   ·rw [if_neg h2, if_neg (by omega)]
  ·simp only [cond_false]
   unfold ko
   by_cases h2 : i ≤ j
   ·rw [if_pos h2, if_pos (by omega)]; exact Nat.le_refl _
   ·rw [if_neg h2, if_neg (by omega)]; exact Nat.le_refl _
theorem abg {k : Nat → Rat} {b p r i : Nat} {t : Rat} {x : Nat → Rat} : jL k b p r t x r i = oF k b p r t x i := by
 unfold jL
 split
 ·unfold oF; rw [if_neg (by omega)]
 ·rfl
end Go.Am.B

/- ref09.Polar, ref09.Blossom; contracts of polar forms. -/
namespace Go.Am.B
open Go Go.Am.N AV aa ah IntKind
end Go.Am.B
