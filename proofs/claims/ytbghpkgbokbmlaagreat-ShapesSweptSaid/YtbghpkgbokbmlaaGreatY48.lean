/- ref12: row, Swap, IsoV, IsoU, Eval. -/
import Derived.Test.YtbghpkgbokbmlaaGreatY47
import Derived.Test.YtbghpkgbokbmlaaGreatZ2
import Derived.Test.YtbghpkgbokbmlaaGreatC2
import Derived.Test.YtbghpkgbokbmlaaGreatB33
import Derived.Test.YtbghpkgbokbmlaaGreatY44
set_option linter.unusedVariables false
namespace Go.Am.B
open Go Go.Am.N AV aa ag IntKind
theorem PS : aP P AN xW (au xW) := aL Qh (by kernel_rfl) (by kernel_rfl) (by kernel_rfl)
theorem IQ : aP P vr sj (au sj) := aL Yv (by kernel_rfl) (by kernel_rfl) (by kernel_rfl)
theorem Ku : aP P v8 vM (au vM) := aL Rd (by kernel_rfl) (by kernel_rfl) (by kernel_rfl)
theorem Nn : aP P r6 ry (au ry) := aL XQ (by kernel_rfl) (by kernel_rfl) (by kernel_rfl)
theorem aay : aP P zI rj (au rj) := aL OA (by kernel_rfl) (by kernel_rfl) (by kernel_rfl)
abbrev o6 (s : Sf) : Sf := ⟨s.v, s.u, s.b, s.kv, s.a, s.ku, s.m, s.n, fun j i => s.f i j⟩
abbrev IG (s : Sf) (i : Nat) : Cu := ⟨s.v, s.b, s.kv, s.m, s.f i⟩
def qM (s : Sf) (v : Rat) (i : Nat) : Pl := ⟨gv (cq (IG s i) v), (cq (IG s i) v).d⟩
def z6 (s : Sf) (v : Rat) : Cu := ⟨s.u, s.a, s.ku, s.n, qM s v⟩
noncomputable abbrev wF : Code := au sj
noncomputable abbrev uu : Code := part wF [1,1,0,1,0,0]
noncomputable abbrev vY : Code := part uu [1,0,0]
abbrev PW : ay := ⟨false, true, 5, 1, fun _ => .agg [.int .i64 0, .int .i64 0, .nil, .nil, .nil]⟩
abbrev cuZ : ay := ⟨false, true, 3, 1, fun _ => .agg [.int .i64 0, .nil, .nil]⟩
abbrev JU (s : Sf) : ay := ⟨false, true, 5, 1, fun _ => dU s sK sK⟩
abbrev nW : List Nat := [1, 2, 3, 4]
abbrev tV (j : Nat) : List AV := [.ptr 0 0 5 0 [], .ptr 1 0 5 0 [], .ptr 2 0 5 0 [], .int .i64 j]
abbrev De (n : Nat) (k : Nat → Rat) : ay := ⟨true, true, 3, n, fun i => .rat (k i) sK⟩
abbrev oP (s : Sf) (j : Nat) : aD := [(3, ⟨true, true, 1, j, fun j => ee (fun i => s.f i j) s.n sK⟩), (5, De s.a s.ku), (4, De s.b s.kv), (2, ⟨false, true, 5, 1, fun _ => .agg [.int .i64 s.v, .int .i64 s.u, .own 4 3 0 s.b, .own 5 3 0 s.a, .own 3 1 0 j]⟩), (1, PW), (0, JU s)]
abbrev rK : List Nat := [1, 2, 3, 4, 5, 6]
abbrev Aw (j i : Nat) : List AV := tV j ++ [.own 6 12 0 i, .int .i64 i]
abbrev A9 (s : Sf) (j i : Nat) : aD := (6, ⟨true, true, 12, i, fun i => bw (s.f i j) sK⟩) :: oP s j
noncomputable def y4 : aQ := nG :: (mA, r4) :: (AN, cG T [nG] [] 60 xW) :: (mQ, Bl) :: (l7, BC) :: []
abbrev rI : List Nat := [2, 3, 4, 8, 9]
abbrev BD (i : Nat) : List AV := [.ptr 0 0 5 0 [], .ptr 1 0 3 0 [], .ptr 2 0 3 0 [], .ptr 3 0 3 0 [], .int .i64 i]
abbrev vF (s : Sf) (v : Rat) (g : Nat → Pl) (i : Nat) : aD := [(4, ⟨true, true, 12, i, fun i => bw (g i) sE⟩), (5, De s.a s.ku), (3, ⟨false, true, 3, 1, fun _ => .agg [.int .i64 s.u, .own 5 3 0 s.a, .own 4 12 0 i]⟩), (2, cuZ), (1, tP v sK), (0, JU s)]
noncomputable abbrev qh : Code := au vM
theorem S0 {s : Sf} : aH T [nG] [] 60 nW (before wF [1,1,0,1]) ⟨aM 0 [dU s sK sK], [], 0⟩ =
  let c7 : Nat := (bk (dU s sK sK)).size; let c6 : Nat := 0 + s.b; let c5 : Nat := 0 + s.a; let c4 : AV := int i64 (0 : Int); let c3 : Prop := 0 * 3 ≤ 2 ^ 24; let c2 : Prop := 0 < 1; let c1 : AV := agg [c4, c4, nil, nil, nil]; some (af [c2, c2, c3, c2, c6 * ((56 : Nat) + 1) * 2 ≤ 2 ^ 47, c3, c2, c5 * ((56 : Nat) + 1) * 2 ≤ 2 ^ 47, c2] (leaf normal ([ptr 0 0 c7 0 [], ptr 4096 0 5 0 [], ptr 61440 0 5 0 [], c4], [((53248 : Nat), ay.mk true true 3 c5 fun i ↦ rat (s.ku (i - 0)) 4096), ((36864 : Nat), ay.mk true true 3 c6 fun i ↦ rat (s.kv (i - 0)) 4096), ((61440 : Nat), ay.mk false true 5 1 fun j ↦ if (j == 0) = true then bk (agg ((((c1.kids.set 0 (bk (int i64 s.v))).set 1 (bk (int i64 s.u))).set 2 (bk (own (nat_lit 36863 + 1) 3 0 c6))).set 3 (bk (own (nat_lit 53247 + 1) 3 0 c5)))) else c1), ((4096 : Nat), ay.mk false true 5 1 fun x ↦ c1), ((0 : Nat), ay.mk false true c7 1 fun x ↦ agg [int i64 s.u, int i64 s.v, aj 3 s.a fun i ↦ rat (s.ku i) 4096, aj 3 s.b fun i ↦ rat (s.kv i) 4096, aj 1 s.n fun i ↦ aj 12 s.m fun i_1 ↦ agg [agg [rat (s.f i i_1).n.x 4096, rat (s.f i i_1).n.y 4096, rat (s.f i i_1).n.z 4096], rat (s.f i i_1).d 4096]])]))) := by kernel_rfl
theorem SN {s : Sf} {j : Nat} : aH T [nG] [26] 60 nW (before uu [1,0]) ⟨aB nW (tV j), oP s j, 6⟩ =
  let c1 : List AV × aD := ([ptr 0 0 5 0 [], ptr 1 0 5 0 [], ptr 2 0 5 0 [], int i64 (↑j : Int)], [((3 : Nat), ay.mk true true 1 j fun j ↦ aj 12 s.n fun i ↦ agg [agg [rat (s.f i j).n.x 4096, rat (s.f i j).n.y 4096, rat (s.f i j).n.z 4096], rat (s.f i j).d 4096]), ((5 : Nat), ay.mk true true 3 s.a fun i ↦ rat (s.ku i) 4096), ((4 : Nat), ay.mk true true 3 s.b fun i ↦ rat (s.kv i) 4096), ((2 : Nat), ay.mk false true 5 1 fun x ↦ agg [int i64 s.v, int i64 s.u, own 4 3 0 s.b, own 5 3 0 s.a, own 3 1 0 j]), ((1 : Nat), ay.mk false true 5 1 fun x ↦ agg [int i64 (0 : Int), int i64 (0 : Int), nil, nil, nil]), ((0 : Nat), ay.mk false true 5 1 fun x ↦ agg [int i64 s.u, int i64 s.v, aj 3 s.a fun i ↦ rat (s.ku i) 4096, aj 3 s.b fun i ↦ rat (s.kv i) 4096, aj 1 s.n fun i ↦ aj 12 s.m fun i_1 ↦ agg [agg [rat (s.f i i_1).n.x 4096, rat (s.f i i_1).n.y 4096, rat (s.f i i_1).n.z 4096], rat (s.f i i_1).d 4096]])]); some (af [(0 : Nat) < 1, (0 : Int) ≤ (0 : Int) ∧ Int.toNat (0 : Int) < s.n] (fork (decide ((↑j : Int) < (↑s.m : Int))) (leaf normal c1) (leaf (exit 0) c1))) := by kernel_rfl
theorem Sp {s : Sf} {j : Nat} : aH T [nG] [] 60 rK (before vY [1,0,1]) ⟨aB nW (tV j), oP s j, 6⟩ =
  let c1 : AV := int i64 (0 : Int); some (leaf normal ([ptr 0 0 5 0 [], ptr 1 0 5 0 [], ptr 2 0 5 0 [], int i64 (↑j : Int), nil, c1], [((3 : Nat), ay.mk true true 1 j fun j ↦ aj 12 s.n fun i ↦ agg [agg [rat (s.f i j).n.x 4096, rat (s.f i j).n.y 4096, rat (s.f i j).n.z 4096], rat (s.f i j).d 4096]), ((5 : Nat), ay.mk true true 3 s.a fun i ↦ rat (s.ku i) 4096), ((4 : Nat), ay.mk true true 3 s.b fun i ↦ rat (s.kv i) 4096), ((2 : Nat), ay.mk false true 5 1 fun x ↦ agg [int i64 s.v, int i64 s.u, own 4 3 0 s.b, own 5 3 0 s.a, own 3 1 0 j]), ((1 : Nat), ay.mk false true 5 1 fun x ↦ agg [c1, c1, nil, nil, nil]), ((0 : Nat), ay.mk false true 5 1 fun x ↦ agg [int i64 s.u, int i64 s.v, aj 3 s.a fun i ↦ rat (s.ku i) 4096, aj 3 s.b fun i ↦ rat (s.kv i) 4096, aj 1 s.n fun i ↦ aj 12 s.m fun i_1 ↦ agg [agg [rat (s.f i i_1).n.x 4096, rat (s.f i i_1).n.y 4096, rat (s.f i i_1).n.z 4096], rat (s.f i i_1).d 4096]])])) := by kernel_rfl
theorem PX {s : Sf} {j i : Nat} : aH T [nG] [33] 60 rK [part vY [1,0,1,0,0]] ⟨aB rK (Aw j i), A9 s j i, 7⟩ =
  let c11 : Int := (↑j : Int); let c10 : AV := ptr 1 0 5 0 []; let c9 : AV := ptr 0 0 5 0 []; let c8 : AV := ptr 2 0 5 0 []; let c7 : Int := (↑i : Int); let c6 : AV := rat 0 1; let c5 : Nat × ay := ((4 : Nat), ay.mk true true 3 s.b fun i ↦ rat (s.kv i) 4096); let c4 : Nat × ay := ((5 : Nat), ay.mk true true 3 s.a fun i ↦ rat (s.ku i) 4096); let c2 : Nat × ay := ((3 : Nat), ay.mk true true 1 j fun j ↦ aj 12 s.n fun i ↦ agg [agg [rat (s.f i j).n.x 4096, rat (s.f i j).n.y 4096, rat (s.f i j).n.z 4096], rat (s.f i j).d 4096]); let c1 : List (Nat × ay) := [((2 : Nat), ay.mk false true 5 1 fun x ↦ agg [int i64 s.v, int i64 s.u, own 4 3 0 s.b, own 5 3 0 s.a, own 3 1 0 j]), ((1 : Nat), ay.mk false true 5 1 fun x ↦ agg [int i64 (0 : Int), int i64 (0 : Int), nil, nil, nil]), ((0 : Nat), ay.mk false true 5 1 fun x ↦ agg [int i64 s.u, int i64 s.v, aj 3 s.a fun i ↦ rat (s.ku i) 4096, aj 3 s.b fun i ↦ rat (s.kv i) 4096, aj 1 s.n fun i ↦ aj 12 s.m fun i_1 ↦ agg [agg [rat (s.f i i_1).n.x 4096, rat (s.f i i_1).n.y 4096, rat (s.f i i_1).n.z 4096], rat (s.f i i_1).d 4096]])]; let c12 : Int := c7 + (1 : Int); let c3 : Pl := s.f c7.toNat c11.toNat; some (af [(0 : Nat) < 1] (fork (decide (c7 < (↑s.n : Int))) (af [(0 : Nat) < 1, (0 : Int) ≤ c7 ∧ c7.toNat < s.n, (0 : Int) ≤ c11 ∧ c11.toNat < s.m, (1 : Nat) * 12 ≤ 2 ^ 24, (i + 1) * ((224 : Nat) + 1) * 2 ≤ 2 ^ 47] (af [-(2 : Int) ^ 63 ≤ c12 ∧ c12 < (2 : Int) ^ 63] (leaf normal ([c9, c10, c8, int i64 c11, own 61447 12 0 (i + 1), int i64 c12], c2 :: c4 :: c5 :: ((61447 : Nat), ay.mk true true 12 (i + 1) fun i_1 ↦ if i_1 < i then bw (s.f i_1 j) sK else nth [agg [agg [rat c3.n.x sK, rat c3.n.y sK, rat c3.n.z sK], rat c3.d sK]] (agg [agg [c6, c6, c6], c6]) (i_1 - i + 0)) :: c1)))) (leaf (exit 2) ([c9, c10, c8, int i64 c11, own 6 12 0 i, int i64 c7], c2 :: c4 :: c5 :: ((6 : Nat), ay.mk true true 12 i fun i ↦ agg [agg [rat (s.f i j).n.x 4096, rat (s.f i j).n.y 4096, rat (s.f i j).n.z 4096], rat (s.f i j).d 4096]) :: c1)))) := by kernel_rfl
theorem Md {s : Sf} {j i : Nat} : aH T [nG] [] 60 nW (behind vY [1,0,1] ++ [part uu [1,1]]) ⟨aB rK (Aw j i), A9 s j i, 7⟩ =
  let c2 : Int := (↑j : Int) + (1 : Int); let c1 : AV := agg [int i64 s.v, int i64 s.u, own 4 3 0 s.b, own 5 3 0 s.a, own 3 1 0 j]; some (af [(0 : Nat) < 1, (1 : Nat) * 1 ≤ 2 ^ 24, (j + 1) * ((24 : Nat) + 1) * 2 ≤ 2 ^ 47, (0 : Nat) < 1] (af [-(2 : Int) ^ 63 ≤ c2 ∧ c2 < (2 : Int) ^ 63] (leaf normal ([ptr 0 0 5 0 [], ptr 1 0 5 0 [], ptr 2 0 5 0 [], int i64 c2], [((16391 : Nat), ay.mk true true 1 (j + 1) fun i_1 ↦ if i_1 < j then ee (fun i ↦ s.f i i_1) s.n sK else nth [aj 12 i fun i ↦ bw (s.f (i + 0) j) sK] nil (i_1 - j + 0)), ((5 : Nat), ay.mk true true 3 s.a fun i ↦ rat (s.ku i) 4096), ((4 : Nat), ay.mk true true 3 s.b fun i ↦ rat (s.kv i) 4096), ((2 : Nat), ay.mk false true 5 1 fun j_1 ↦ if (j_1 == 0) = true then agg (c1.kids.set 4 (bk (own (nat_lit 16390 + 1) 1 0 (j + 1)))) else c1), ((1 : Nat), ay.mk false true 5 1 fun x ↦ agg [int i64 (0 : Int), int i64 (0 : Int), nil, nil, nil]), ((0 : Nat), ay.mk false true 5 1 fun x ↦ agg [int i64 s.u, int i64 s.v, aj 3 s.a fun i ↦ rat (s.ku i) 4096, aj 3 s.b fun i ↦ rat (s.kv i) 4096, aj 1 s.n fun i ↦ aj 12 s.m fun i_1 ↦ agg [agg [rat (s.f i i_1).n.x 4096, rat (s.f i i_1).n.y 4096, rat (s.f i i_1).n.z 4096], rat (s.f i i_1).d 4096]])])))) := by kernel_rfl
theorem acp {s : Sf} {j : Nat} : bW T [nG] [] 60 sj [part wF [1,1,1]] ⟨aB nW (tV j), oP s j, 6⟩ =
  let c1 : Prop := 0 < 1; some (af [c1, c1] (af [c1] (leaf ret [agg [int i64 s.v, int i64 s.u, aj 3 s.b fun i ↦ rat (s.kv (i + 0)) 4096, aj 3 s.a fun i ↦ rat (s.ku (i + 0)) 4096, aj 1 j fun i ↦ aj 12 s.n fun i_1 ↦ agg [agg [rat (s.f i_1 (i + 0)).n.x 4096, rat (s.f i_1 (i + 0)).n.y 4096, rat (s.f i_1 (i + 0)).n.z 4096], rat (s.f i_1 (i + 0)).d 4096]]]))) := by kernel_rfl
theorem NM {s : Sf} {v : Rat} : aH T y4 [200020] 60 rI (before qh [1,1,1,0,1]) ⟨aM 0 [dU s sK sK, .rat v sK], [], 0⟩ =
  let c4 : Nat := (bk (dU s sK sK)).size; let c3 : Nat := 0 + s.a; let c2 : AV := agg [int i64 (0 : Int), nil, nil]; let c1 : Prop := 0 < 1; some (af [c1, c1, c1, bM (fun i ↦ rat (s.kv i) sK) s.b sK, sK ≤ sK, Kn s.b s.v.toNat fun i ↦ aK (rat (s.kv i) sK), (0 : Int) ≤ s.v, s.b < 2 ^ 40] (af [(dr s.b (fun i ↦ aK (rat (s.kv i) sK)) v != (0 : Int)) = false] (af [c1, (0 : Nat) * 3 ≤ 2 ^ 24, c1, c3 * ((56 : Nat) + 1) * 2 ≤ 2 ^ 47, c1] (leaf normal ([ptr 0 0 c4 0 [], ptr 4096 0 (bk (rat v sK)).size 0 [], ptr 8192 0 3 0 [], ptr 98304 0 3 0 [], int i64 (0 : Int)], [((90112 : Nat), ay.mk true true 3 c3 fun i ↦ rat (s.ku (i - 0)) 4096), ((98304 : Nat), ay.mk false true 3 1 fun j ↦ if (j == 0) = true then bk (agg ((c2.kids.set 0 (bk (int i64 s.u))).set 1 (bk (own (nat_lit 90111 + 1) 3 0 c3)))) else c2), ((8192 : Nat), ay.mk false true 3 1 fun x ↦ c2), ((4096 : Nat), ay.mk false true (bk (rat v sK)).size 1 fun x ↦ rat v 4096), ((0 : Nat), ay.mk false true c4 1 fun x ↦ agg [int i64 s.u, int i64 s.v, aj 3 s.a fun i ↦ rat (s.ku i) 4096, aj 3 s.b fun i ↦ rat (s.kv i) 4096, aj 1 s.n fun i ↦ aj 12 s.m fun i_1 ↦ agg [agg [rat (s.f i i_1).n.x 4096, rat (s.f i i_1).n.y 4096, rat (s.f i i_1).n.z 4096], rat (s.f i i_1).d 4096]])]))))) := by kernel_rfl
theorem Nk {s : Sf} {v : Rat} {g : Nat → Pl} {i : Nat} : aH T y4 [34] 60 rI [part qh [1,1,1,0,1,0,0]] ⟨aB rI (BD i), vF s v g i, 6⟩ =
  let c13 : AV := ptr 2 0 3 0 []; let c12 : AV := ptr 3 0 3 0 []; let c11 : AV := ptr 1 0 3 0 []; let c10 : AV := ptr 0 0 5 0 []; let c9 : AV := rat 0 1; let c8 : Nat × ay := ((5 : Nat), ay.mk true true 3 s.a fun i ↦ rat (s.ku i) 4096); let c7 : Nat := s.v.toNat; let c6 : Int := (↑i : Int); let c5 : Prop := 0 < 1; let c4 : AV := agg [int i64 s.u, own 5 3 0 s.a, own 4 12 0 i]; let c3 : Nat := bT s.b (fun i ↦ aK (rat (s.kv i) sK)) v; let c2 : List (Nat × ay) := [((2 : Nat), ay.mk false true 3 1 fun x ↦ agg [int i64 (0 : Int), nil, nil]), ((1 : Nat), ay.mk false true 3 1 fun x ↦ rat v 4096), ((0 : Nat), ay.mk false true 5 1 fun x ↦ agg [int i64 s.u, int i64 s.v, aj 3 s.a fun i ↦ rat (s.ku i) 4096, aj 3 s.b fun i ↦ rat (s.kv i) 4096, aj 1 s.n fun i ↦ aj 12 s.m fun i_1 ↦ agg [agg [rat (s.f i i_1).n.x 4096, rat (s.f i i_1).n.y 4096, rat (s.f i i_1).n.z 4096], rat (s.f i i_1).d 4096]])]; let c17 : Int := c6 + (1 : Int); let c16 : Nat := c3 - c7; let c15 : Nat := c7 + 1; let c1 : Rat := bB c15 fun j ↦ vB (fun i ↦ aK (rat (s.kv i) sK)) c3 v c7 j * aK (rat (s.f c6.toNat (c16 + j)).d sK); let c14 : Rat := (↑(1 : Int) : Rat) / c1; some (af [c5] (fork (decide (c6 < (↑s.n : Int))) (af [c5, c5, c5, c5, c5, (0 : Int) ≤ c6 ∧ c6.toNat < s.n, c5, c5, c5, bM (fun i ↦ rat (s.kv i) sK) s.b sK, gd (fun i ↦ bw (s.f c6.toNat i) sK) s.m sK, sK ≤ sK, Kn s.b c7 fun i ↦ aK (rat (s.kv i) sK), (0 : Int) ≤ s.v, s.v ≤ (6 : Int), s.b < 2 ^ 40, (↑s.m : Int) = (↑s.b : Int) - s.v - (1 : Int), ¬bL s.b (fun i ↦ aK (rat (s.kv i) sK)) v, sH ≤ sH, sH ≤ sH, sH ≤ sH, sH ≤ sH, (1 : Nat) * 12 ≤ 2 ^ 24, (i + 1) * ((224 : Nat) + 1) * 2 ≤ 2 ^ 47, c5] (af [-(2 : Int) ^ 63 ≤ c17 ∧ c17 < (2 : Int) ^ 63] (leaf normal ([c10, c11, c13, c12, int i64 c17], ((57350 : Nat), ay.mk true true 12 (i + 1) fun i_1 ↦ if i_1 < i then bw (g i_1) sE else nth [agg [agg [rat (c14 * bB c15 fun j ↦ vB (fun i ↦ aK (rat (s.kv i) sK)) c3 v c7 j * (aK (rat (s.f c6.toNat (c16 + j)).d sK) * aK (rat (s.f c6.toNat (c16 + j)).n.x sK))) sE, rat (c14 * bB c15 fun j ↦ vB (fun i ↦ aK (rat (s.kv i) sK)) c3 v c7 j * (aK (rat (s.f c6.toNat (c16 + j)).d sK) * aK (rat (s.f c6.toNat (c16 + j)).n.y sK))) sE, rat (c14 * bB c15 fun j ↦ vB (fun i ↦ aK (rat (s.kv i) sK)) c3 v c7 j * (aK (rat (s.f c6.toNat (c16 + j)).d sK) * aK (rat (s.f c6.toNat (c16 + j)).n.z sK))) sE], rat c1 sH]] (agg [agg [c9, c9, c9], c9]) (i_1 - i + 0)) :: c8 :: ((3 : Nat), ay.mk false true 3 1 fun j ↦ if (j == 0) = true then agg (c4.kids.set 2 (bk (own (nat_lit 57349 + 1) 12 0 (i + 1)))) else c4) :: c2)))) (leaf (exit 0) ([c10, c11, c13, c12, int i64 c6], ((4 : Nat), ay.mk true true 12 i fun i ↦ agg [agg [rat (g i).n.x 4294967298, rat (g i).n.y 4294967298, rat (g i).n.z 4294967298], rat (g i).d 4294967298]) :: c8 :: ((3 : Nat), ay.mk false true 3 1 fun x ↦ c4) :: c2)))) := by kernel_rfl
theorem SC {s : Sf} {v : Rat} {g : Nat → Pl} {i : Nat} : bW T y4 [] 60 vM [part qh [1,1,1,1]] ⟨aB rI (BD i), vF s v g i, 6⟩ =
  let c1 : Prop := 0 < 1; some (af [c1, c1] (af [c1] (leaf ret [agg [int i64 s.u, aj 3 s.a fun i ↦ rat (s.ku (i + 0)) 4096, aj 12 i fun i ↦ agg [agg [rat (g (i + 0)).n.x 4294967298, rat (g (i + 0)).n.y 4294967298, rat (g (i + 0)).n.z 4294967298], rat (g (i + 0)).d 4294967298]], int i64 (0 : Int)]))) := by kernel_rfl
theorem D6 : aW P y4 := eu (aC yh (aC (cH hT (eu aT) hm PS _ _) (aC Jf (aC FE aT))))
theorem Xz {s : Sf} (hn : 1 ≤ s.n) (h2 : s.n < 2 ^ 30) (h3 : s.m < 2 ^ 30) (h4 : s.a < 2 ^ 30) (h5 : s.b < 2 ^ 30) (K : Nat) : az P vr K [dU s sK sK] [] (aF (dU (o6 s) sK sK) []) := by
 refine fe (r := aF (dU (o6 s) sK sK) []) hT IQ rfl (of_decide_eq_true (by kernel_rfl)) rfl (fun _ cx h00 => ?_) K []
 have hk := jO h00
 have hv : ∀ {rl : List (Nat × Nat)} {a b d l m n : Nat} {u : AV}, aX rl 4 = some a → aX rl 5 = some b → m = s.b → n = s.a → u.isTuple = false → fD (aX rl) u (.own 3 1 0 l) → ga rl (.agg [.int .i64 s.v, .int .i64 s.u, .own a 3 0 m, .own b 3 0 n, u]) (.agg [.int .i64 s.v, .int .i64 s.u, .own 4 3 0 s.b, .own 5 3 0 s.a, .own 3 1 0 l]) :=
  fun h1 h2 h3 h4 h5 h6 => mm ⟨⟨rfl, aG rfl⟩, ⟨rfl, aG rfl⟩, ⟨rfl, cj h1 rfl h3⟩, ⟨rfl, cj h2 rfl h4⟩, ⟨h5, h6⟩, trivial⟩
 have re : ∀ {j : Nat}, iM 6 [(0, 0), (1, 1), (2, 2), (3, 3), (4, 4), (5, 5)] (oP s j) (oP s j) :=
  fun {j} => bP rfl rfl rfl (fun _ _ => aN rfl rfl) (bP rfl rfl rfl (fun _ _ => aN rfl rfl) (bP rfl rfl rfl (fun _ _ => aN rfl rfl) (aR rfl rfl (hv (d := 0) rfl rfl rfl rfl rfl (cj rfl rfl rfl)) (aR rfl rfl (aN rfl rfl) (aR rfl rfl (aN rfl rfl) trivial)))))
 refine aq.B5 hT (eu aT) hm (x := wF) [1,1,0,1] (i := 0) (y := uu) (z := part wF [1,1,1]) (by kernel_rfl) (by kernel_rfl) (by kernel_rfl) IQ.dst [1,0] (j := 1) (x1 := vY) (zb := part uu [1,1]) (by kernel_rfl) (by kernel_rfl) (by kernel_rfl) [1,0,1] (i2 := 2) (y2 := part vY [1,0,1,0,0]) (by kernel_rfl) (by kernel_rfl) rfl
  hk (f1 := []) (f2 := [26]) (f3 := []) (f4 := [33]) (f5 := []) 60 nW rK 6 7 (fun j : Nat => tV j) (fun j => oP s j) (fun j => j ≤ s.m) (fun j => j = s.m) (fun j => s.m - j) (fun j => j < s.m) (fun _ => False) (fun _ => False)
  (fun j (i : Nat) => Aw j i) (fun j i => A9 s j i) (fun _ i => i ≤ s.n) (fun _ i => i = s.n) (fun _ i => s.n - i) ⟨_, S0, ?_⟩ (fun j hj => ⟨_, SN, ?_⟩) (fun j hj hg => ⟨_, Sp, ?_⟩) (fun j hj hg i hi => ⟨_, PX, ?_⟩) (fun j hj hg i hi => ⟨_, Md, ?_⟩) (fun j hj => ?_) (fun _ _ h => h.elim) (fun _ _ h => h.elim)
 all_goals try simp only [aa.all, ax, decide_eq_true_eq, decide_eq_false_iff_not, Int.toNat_natCast, Nat.add_zero]
 ·exact ⟨by omega, 0, Nat.zero_le _, [(0, 0), (1, 4096), (2, 61440), (4, 36864), (5, 53248)], rfl, rfl, rfl, pH rfl (by omega) (by omega) (bP rfl rfl (Nat.zero_add _) (fun _ _ => aN rfl rfl) (bP rfl rfl (Nat.zero_add _) (fun _ _ => aN rfl rfl)
   (aR rfl rfl (hv (d := 0) rfl rfl (Nat.zero_add _) (Nat.zero_add _) rfl (pL (by omega))) (aR rfl rfl (aN rfl rfl) (aR rfl rfl (aN rfl rfl) trivial)))))⟩
 ·exact ⟨by omega, fun h => ⟨by omega, _, rfl, rfl, rfl, re⟩, fun h => ⟨rfl, j, by omega, _, rfl, rfl, rfl, re⟩⟩
 ·exact ⟨0, Nat.zero_le _, [(0, 0), (1, 1), (2, 2), (3, 3), (4, 4), (5, 5)], rfl, rfl, rfl, pH rfl (by omega) (by omega) (bP rfl rfl rfl (fun _ _ => aN rfl rfl) (bP rfl rfl rfl (fun _ _ => aN rfl rfl) (bP rfl rfl rfl (fun _ _ => aN rfl rfl) (aR rfl rfl (hv (d := 0) rfl rfl rfl rfl rfl (cj rfl rfl rfl)) (aR rfl rfl (aN rfl rfl) (aR rfl rfl (aN rfl rfl) trivial))))))⟩
 ·refine ⟨by omega, fun h => ⟨by omega, by omega, i + 1, by omega, by dsimp only; omega, [(0, 0), (1, 1), (2, 2), (3, 3), (4, 4), (5, 5), (6, 61447)], rfl, rfl, rfl, bP rfl rfl rfl (fun k hk => yV (y := fun i => s.f i j) (fun _ _ => rfl) (.refl _) rfl (Nat.le_refl _) (Nat.le_refl _) hk) ?_⟩,
   fun h => ⟨rfl, i, by omega, [(0, 0), (1, 1), (2, 2), (3, 3), (4, 4), (5, 5), (6, 6)], rfl, rfl, rfl, bP rfl rfl rfl (fun _ _ => aN rfl rfl) ?_⟩⟩
  all_goals exact bP rfl rfl rfl (fun _ _ => aN rfl rfl) (bP rfl rfl rfl (fun _ _ => aN rfl rfl) (bP rfl rfl rfl (fun _ _ => aN rfl rfl) (aR rfl rfl (hv (d := 0) rfl rfl rfl rfl rfl (cj rfl rfl rfl)) (aR rfl rfl (aN rfl rfl) (aR rfl rfl (aN rfl rfl) trivial)))))
 ·subst hi
  refine ⟨by omega, by omega, j + 1, by omega, by dsimp only; omega, [(0, 0), (1, 1), (2, 2), (3, 16391), (4, 4), (5, 5)], rfl, rfl, rfl, bP rfl rfl rfl (fun k hk => ?_) (bP rfl rfl rfl (fun _ _ => aN rfl rfl) (bP rfl rfl rfl (fun _ _ => aN rfl rfl) (aR rfl rfl (hv (d := 0) rfl rfl rfl rfl rfl (cj rfl rfl rfl)) (aR rfl rfl (aN rfl rfl) (aR rfl rfl (aN rfl rfl) trivial)))))⟩
  by_cases h : k < j
  ·rw [if_pos h]; exact aN rfl rfl
  ·have : k = j := by omega
   subst this
   rw [if_neg h, Nat.sub_self]; exact aN rfl rfl
 ·subst hj
  refine aq.jq ((aA.fin hT (eu aT) hm 60 acp (by kernel_rfl) ?_).mono fun _ _ h => .inl h)
  simp only [aa.all, ax]
  exact ⟨by omega, by omega, .refl _⟩
theorem Xc {s : Sf} {v : Rat} (hk2 : Kn s.b s.v.toNat s.kv) (h0 : 0 ≤ s.v) (h6 : s.v ≤ 6) (h2 : s.n < 2 ^ 30) (h4 : s.a < 2 ^ 30) (h5 : s.b < 2 ^ 30) (hm2 : (s.m : Int) = (s.b : Int) - s.v - 1) (hin : ¬ bL s.b s.kv v) (K : Nat) : az P v8 K [dU s sK sK, .rat v sK] [] (aF (.tuple [cQ (z6 s v) sK sE, .int .i64 0]) []) := by
 refine fe (r := aF (.tuple [cQ (z6 s v) sK sE, .int .i64 0]) []) hT Ku rfl (of_decide_eq_true (by kernel_rfl)) rfl (fun _ cx h00 => ?_) K []
 have hk := jO h00
 have hv : ∀ {rl : List (Nat × Nat)} {b l n : Nat} {u : AV}, aX rl 5 = some b → n = s.a → u.isTuple = false → fD (aX rl) u (.own 4 12 0 l) → ga rl (.agg [.int .i64 s.u, .own b 3 0 n, u]) (.agg [.int .i64 s.u, .own 5 3 0 s.a, .own 4 12 0 l]) :=
  fun h2 h4 h5 h6 => mm ⟨⟨rfl, aG rfl⟩, ⟨rfl, cj h2 rfl h4⟩, ⟨h5, h6⟩, trivial⟩
 refine aq.jx hT D6 hm (x := qh) [1,1,1,0,1] (i := 0) (y := part qh [1,1,1,0,1,0,0]) (z := part qh [1,1,1,1]) (by kernel_rfl) (by kernel_rfl) (by kernel_rfl) Ku.dst hk (f1 := [200020]) (f2 := [34]) 60 rI 6 (fun i : Nat => BD i) (fun i => vF s v (qM s v) i) (fun i => i ≤ s.n) (fun i => i = s.n) (fun i => s.n - i) (fun _ => False) ⟨_, NM, ?_⟩ (fun i hi => ⟨_, Nk, ?_⟩) (fun i hi => ?_) (fun _ _ h => h.elim)
 ·simp only [aa.all, ax]
  exact ⟨⟨by omega, by omega, by omega, cI (Nat.le_refl _), Nat.le_refl _, hk2, h0, by omega⟩, bne_eq_false_iff_eq.2 (if_neg hin : dr s.b s.kv v = 0), ⟨by omega, by omega, by omega, by omega, by omega⟩, 0, Nat.zero_le _, [(0, 0), (1, 4096), (2, 8192), (3, 98304), (5, 90112)], rfl, rfl, rfl, pH rfl (by omega) (by omega) (bP rfl rfl (Nat.zero_add _) (fun _ _ => aN rfl rfl)
   (aR rfl rfl (hv rfl (Nat.zero_add _) rfl (pL (by omega))) (aR rfl rfl (aN rfl rfl) (aR rfl rfl (aN rfl rfl) (aR rfl rfl (aN rfl rfl) trivial)))))⟩
 ·simp only [aa.all, ax, decide_eq_true_eq, decide_eq_false_iff_not, Int.toNat_natCast]
  have re : iM 6 [(0, 0), (1, 1), (2, 2), (3, 3), (4, 4), (5, 5)] (vF s v (qM s v) i) (vF s v (qM s v) i) := bP rfl rfl rfl (fun _ _ => aN rfl rfl) (bP rfl rfl rfl (fun _ _ => aN rfl rfl) (aR rfl rfl (hv rfl rfl rfl (cj rfl rfl rfl)) (aR rfl rfl (aN rfl rfl) (aR rfl rfl (aN rfl rfl) (aR rfl rfl (aN rfl rfl) trivial)))))
  refine ⟨by omega, fun h => ⟨⟨by omega, by omega, by omega, by omega, by omega, by omega, by omega, by omega, by omega, cI (Nat.le_refl _), lD (Nat.le_refl _), Nat.le_refl _, hk2, h0, h6, by omega, hm2, hin, by omega, by omega, by omega, by omega, by omega, by omega, by omega⟩, by omega,
   i + 1, by omega, by dsimp only; omega, [(0, 0), (1, 1), (2, 2), (3, 3), (4, 57350), (5, 5)], rfl, rfl, rfl, bP rfl rfl rfl (fun k hk => ?_) (bP rfl rfl rfl (fun _ _ => aN rfl rfl) (aR rfl rfl (hv rfl rfl rfl (cj rfl rfl rfl)) (aR rfl rfl (aN rfl rfl) (aR rfl rfl (aN rfl rfl) (aR rfl rfl (aN rfl rfl) trivial)))))⟩, fun h => ⟨rfl, i, by omega, _, rfl, rfl, rfl, re⟩⟩
  by_cases h : k < i
  ·rw [if_pos h]; exact aN rfl rfl
  ·have : k = i := by omega
   subst this
   rw [if_neg h, Nat.sub_self]
   exact .inr ⟨rfl, cN ⟨.refl _, cr rfl (by decide), trivial⟩⟩
 ·subst hi
  refine aq.jq ((aA.fin hT D6 hm 60 SC (by kernel_rfl) ?_).mono fun _ _ h => .inl h)
  simp only [aa.all, ax]
  exact ⟨by omega, by omega, .refl _, .refl _, trivial⟩
def Ix : Spec := dM (kC (wv sK sK) kN) (fun a => dU (o6 a.1) sK sK) fun a => [1 ≤ a.1.n, a.1.n < 2 ^ 30, a.1.m < 2 ^ 30, a.1.a < 2 ^ 30, a.1.b < 2 ^ 30]
def Lh : Spec := dM (kC (wv sK sK) (kC (iG sK) kN)) (fun a => .tuple [cQ (z6 a.1 a.2.1) sK sE, .int .i64 0]) fun a => [Kn a.1.b a.1.v.toNat a.1.kv, 0 ≤ a.1.v, a.1.v ≤ 6, a.1.n < 2 ^ 30, a.1.a < 2 ^ 30, a.1.b < 2 ^ 30, (a.1.m : Int) = (a.1.b : Int) - a.1.v - 1, ¬ bL a.1.b a.1.kv a.2.1]
noncomputable def D5 : aQ := [nG, (vr, Ix), (v8, Lh)]
structure jo (s : Sf) : Prop where
 ku : Kn s.a s.u.toNat s.ku
 kv : Kn s.b s.v.toNat s.kv
 u0 : 0 ≤ s.u
 u6 : s.u ≤ 6
 v0 : 0 ≤ s.v
 v6 : s.v ≤ 6
 a : s.a < 2 ^ 30
 b : s.b < 2 ^ 30
 n : (s.n : Int) = (s.a : Int) - s.u - 1
 m : (s.m : Int) = (s.b : Int) - s.v - 1
abbrev jD (s : Sf) (u : Rat) : Cu := z6 (o6 s) u
theorem XK : ∀ K args pre r, Ix K args pre = some r → az P vr K args pre r := dP fun ⟨s, _⟩ K hn => Xz hn.1 hn.2.1 hn.2.2.1 hn.2.2.2.1 hn.2.2.2.2 K
theorem WW : ∀ K args pre r, Lh K args pre = some r → az P v8 K args pre r := dP fun ⟨s, v, _⟩ K hn => Xc hn.1 hn.2.1 hn.2.2.1 hn.2.2.2.1 hn.2.2.2.2.1 hn.2.2.2.2.2.1 hn.2.2.2.2.2.2.1 hn.2.2.2.2.2.2.2 K
theorem UD : aW P D5 := eu (aC XK (aC WW aT))
theorem TV {s : Sf} {u : Rat} : bA T D5 [] 60 ry (au ry) ⟨aM 0 [dU s sK sK, .rat u sK], [], 0⟩ =
  let c8 : Rat := (↑(1 : Int) : Rat); let c6 : Prop := 0 < 1; let c4 : Nat := od (ee (s.f 0) s.m sK); let c3 : Nat := 2 ^ 30; let c2 : Nat := s.u.toNat; let c1 : Nat := bT s.a (fun i ↦ aK (rat (aK (rat (s.ku i) sK)) sK)) u; let c7 : Nat := c1 - c2; let c5 : Nat := c2 + 1; some (af [c6, bM (fun i ↦ rat (s.ku i) sK) s.a sK, bM (fun i ↦ rat (s.kv i) sK) s.b sK, kT (fun i ↦ ee (s.f i) s.m sK) s.n sK, (1 : Nat) ≤ s.n, s.n < c3, c4 < c3, s.a < c3, s.b < c3, c6, bM (fun i ↦ rat (aK (rat (s.kv i) sK)) sK) s.b sK, bM (fun i ↦ rat (aK (rat (s.ku i) sK)) sK) s.a sK, kT (fun i ↦ ee (fun i_1 ↦ oe (fun i ↦ ee (s.f i) s.m sK) i_1 i) s.n sK) c4 sK, sK ≤ sK, Kn s.a c2 fun i ↦ aK (rat (aK (rat (s.ku i) sK)) sK), (0 : Int) ≤ s.u, s.u ≤ (6 : Int), c4 < c3, s.b < c3, s.a < c3, (↑(od (ee (fun i ↦ oe (fun i ↦ ee (s.f i) s.m sK) i 0) s.n sK)) : Int) = (↑s.a : Int) - s.u - (1 : Int), ¬bL s.a (fun i ↦ aK (rat (aK (rat (s.ku i) sK)) sK)) u, c6] (af [c6] (leaf ret [agg [int i64 s.v, aj 3 s.b fun i ↦ rat (aK (rat (aK (rat (s.kv i) sK)) sK)) 4096, aj 12 c4 fun i ↦ agg [agg [rat ((c8 / bB c5 fun j ↦ vB (fun i ↦ aK (rat (aK (rat (s.ku i) sK)) sK)) c1 u c2 j * aK (rat (aK (rat (s.f (c7 + j) i).d sK)) sK)) * bB c5 fun j ↦ vB (fun i ↦ aK (rat (aK (rat (s.ku i) sK)) sK)) c1 u c2 j * (aK (rat (aK (rat (s.f (c7 + j) i).d sK)) sK) * aK (rat (aK (rat (s.f (c7 + j) i).n.x sK)) sK))) 4294967298, rat ((c8 / bB c5 fun j ↦ vB (fun i ↦ aK (rat (aK (rat (s.ku i) sK)) sK)) c1 u c2 j * aK (rat (aK (rat (s.f (c7 + j) i).d sK)) sK)) * bB c5 fun j ↦ vB (fun i ↦ aK (rat (aK (rat (s.ku i) sK)) sK)) c1 u c2 j * (aK (rat (aK (rat (s.f (c7 + j) i).d sK)) sK) * aK (rat (aK (rat (s.f (c7 + j) i).n.y sK)) sK))) 4294967298, rat ((c8 / bB c5 fun j ↦ vB (fun i ↦ aK (rat (aK (rat (s.ku i) sK)) sK)) c1 u c2 j * aK (rat (aK (rat (s.f (c7 + j) i).d sK)) sK)) * bB c5 fun j ↦ vB (fun i ↦ aK (rat (aK (rat (s.ku i) sK)) sK)) c1 u c2 j * (aK (rat (aK (rat (s.f (c7 + j) i).d sK)) sK) * aK (rat (aK (rat (s.f (c7 + j) i).n.z sK)) sK))) 4294967298], rat (bB c5 fun j ↦ vB (fun i ↦ aK (rat (aK (rat (s.ku i) sK)) sK)) c1 u c2 j * aK (rat (aK (rat (s.f (c7 + j) i).d sK)) sK)) 4294967298]], int i64 (0 : Int)]))) := by kernel_rfl
theorem Mx {s : Sf} {u : Rat} (hs : jo s) (hin : ¬ bL s.a s.ku u) (K : Nat) : az P r6 K [dU s sK sK, .rat u sK] [] (aF (.tuple [cQ (jD s u) sK sE, .int .i64 0]) []) := by
 obtain ⟨ku, kv, u0, u6, v0, v6, ha, hb, hn, hm2⟩ := hs
 have := ku.len
 refine bD (r := aF (.tuple [cQ (jD s u) sK sE, .int .i64 0]) []) hT UD hm Nn rfl (of_decide_eq_true (by kernel_rfl)) rfl 60 TV (fun _ => ?_) K []
 simp only [aa.all, ax]
 exact ⟨⟨by omega, cI (Nat.le_refl _), cI (Nat.le_refl _), wS (Nat.le_refl _), by omega, by omega, show s.m < 2 ^ 30 by omega, ha, hb, by omega, cI (Nat.le_refl _), cI (Nat.le_refl _), wS (Nat.le_refl _), Nat.le_refl _, ku, u0, u6, show s.m < 2 ^ 30 by omega, hb, ha, show (s.n : Int) = (s.a : Int) - s.u - 1 from hn, hin, by omega⟩, by omega, .refl _, .refl _, trivial⟩
def Gu : Spec := dM (kC (wv sK sK) (kC (iG sK) kN)) (fun a => .tuple [cQ (jD a.1 a.2.1) sK sE, .int .i64 0]) fun a => [jo a.1, ¬ bL a.1.a a.1.ku a.2.1]
noncomputable def Ie : aQ := [nG, (r6, Gu), (nY, GX)]
def HY : Spec := dM (kC (wv sK sK) (kC (iG sK) (kC (iG sK) kN))) (fun a => .tuple [vA (dZ (jD a.1 a.2.1) a.2.2.1) iJ, .int .i64 (dr a.1.b a.1.kv a.2.2.1)]) fun a => [jo a.1, ¬ bL a.1.a a.1.ku a.2.1]
theorem Y1 : ∀ K args pre r, Gu K args pre = some r → az P r6 K args pre r := dP fun ⟨s, u, _⟩ K hn => Mx hn.1 hn.2 K
theorem RU : aW P Ie := eu (aC Y1 (aC OZ aT))
theorem Th {s : Sf} {u v : Rat} : bA T Ie [] 60 rj (au rj) ⟨aM 0 [dU s sK sK, .rat u sK, .rat v sK], [], 0⟩ =
  let c4 : Nat := od (ee (s.f 0) s.m sK); let c3 : Prop := 0 < 1; let c2 : Sf := Sf.mk s.u s.v s.a (fun i ↦ aK (rat (s.ku i) sK)) s.b (fun i ↦ aK (rat (s.kv i) sK)) s.n c4 (oe fun i ↦ ee (s.f i) s.m sK); let c1 : V3 := dZ (Cu.mk s.v s.b (fun i ↦ aK (rat (aK (rat (s.kv i) sK)) sK)) c4 fun i ↦ dx (bw (qM (o6 c2) u i) sE)) v; some (af [c3, c3, bM (fun i ↦ rat (s.ku i) sK) s.a sK, bM (fun i ↦ rat (s.kv i) sK) s.b sK, kT (fun i ↦ ee (s.f i) s.m sK) s.n sK, sK ≤ sK, jo c2, ¬bL s.a (fun i ↦ aK (rat (s.ku i) sK)) u, c3] (af [c3, c3, bM (fun i ↦ rat (aK (rat (s.kv i) sK)) sK) s.b sK, gd (fun i ↦ bw (qM (o6 c2) u i) sE) c4 sE, sK ≤ sK, Kn s.b s.v.toNat fun i ↦ aK (rat (aK (rat (s.kv i) sK)) sK), (0 : Int) ≤ s.v, s.v ≤ (6 : Int), s.b < 2 ^ 40, (↑c4 : Int) = (↑s.b : Int) - s.v - (1 : Int), c3] (af [c3] (leaf ret [agg [rat c1.x 137438953474, rat c1.y 137438953474, rat c1.z 137438953474], int i64 (dr s.b (fun i ↦ aK (rat (aK (rat (s.kv i) sK)) sK)) v)])))) := by kernel_rfl
theorem W0 : ∀ K args pre r, HY K args pre = some r → az P zI K args pre r := dP fun ⟨s, u, v, _⟩ K hn => by
 obtain ⟨hs, hin⟩ := hn
 have hs : jo s := hs
 refine bD (r := aF (.tuple [vA (dZ (jD s u) v) iJ, .int .i64 (dr s.b s.kv v)]) []) hT RU hm aay rfl (of_decide_eq_true (by kernel_rfl)) rfl 60 Th (fun _ => ?_) K []
 simp only [aa.all, ax]
 have hb := hs.b
 exact ⟨⟨by omega, by omega, cI (Nat.le_refl _), cI (Nat.le_refl _), wS (Nat.le_refl _), Nat.le_refl _, hs, hin, by omega⟩, ⟨by omega, by omega, cI (Nat.le_refl _), lD (Nat.le_refl _), Nat.le_refl _, hs.kv, hs.v0, hs.v6, by omega, hs.m, by omega⟩, by omega, .refl _, .refl _, trivial⟩
end Go.Am.B

/- shapes.ints, ref14.ints. -/
namespace Go.Am.B
open Go Go.Am.N AV aa ag IntKind
theorem As : aP P tJ n8 (au n8) := aL abz (by kernel_rfl) (by kernel_rfl) (by kernel_rfl)
theorem ID : aP P yW pY (au pY) := aL Mz (by kernel_rfl) (by kernel_rfl) (by kernel_rfl)
abbrev og (n : Nat) (z : Nat → Int) : AV := .aj 1 n (fun i => .int .i64 (z i))
abbrev lY (n : Nat) (z : Nat → Int) : ay := ⟨true, true, 3, n, fun i => .rat ((z i : Int) : Rat) 64⟩
noncomputable abbrev ke : Code := au n8
abbrev kn : List Nat := [3, 6, 7, 8]
abbrev wY (n : Nat) (z : Nat → Int) (v : AV) (i : Int) : List AV := [v, og n z, .int .i64 n, .int .i64 i]
noncomputable abbrev kj : Code := au pY
abbrev lQ : List Nat := [0, 3, 4]
abbrev yP (n : Nat) (z : Nat → Int) (v : AV) (i : Int) : List AV := [og n z, v, .int .i64 i]
def q7 : aQ := nG :: [(oI, Al)]
def wq : aQ := nG :: [(iI, pD)]
theorem Yt {n : Nat} {z : Nat → Int} : aH T q7 [] 60 kn (before ke [1,1,0,1]) ⟨aM 0 [og n z], [], 0⟩ =
  some (leaf normal ([nil, aj 1 n fun i ↦ int i64 (z i), int i64 (↑n : Int), int i64 (0 : Int)], [])) := by kernel_rfl
theorem Xn {n : Nat} {z : Nat → Int} : aH T q7 [9] 60 kn [part ke [1,1,0,1,0,0]] ⟨aB kn (wY n z .nil 0), [], 1⟩ =
  let c4 : Int := (↑n : Int); let c3 : AV := aj 1 n fun i ↦ int i64 (z i); let c2 : Int := (2 : Int) ^ 63; let c1 : Nat := Int.toNat (0 : Int); some (fork (decide ((0 : Int) < c4)) (af [(0 : Int) ≤ (0 : Int) ∧ c1 < n] (af [-c2 ≤ z c1, z c1 < c2, (1 : Nat) * 3 ≤ 2 ^ 24, (0 : Nat) < 1 ∧ 1 * ((56 : Nat) + 1) * 2 ≤ 2 ^ 47] (af [-c2 ≤ (0 : Int) + (1 : Int) ∧ (0 : Int) + (1 : Int) < c2] (leaf normal ([own 32769 3 0 1, c3, int i64 c4, int i64 (1 : Int)], [((32769 : Nat), ay.mk true true 3 1 fun i ↦ nth [rat (↑(z c1) : Rat) (Max.max 1 (aS (z c1).natAbs))] (rat 0 1) (i + 0))]))))) (leaf (exit 0) ([nil, c3, int i64 c4, int i64 (0 : Int)], []))) := by kernel_rfl
theorem VM {n i : Nat} {z : Nat → Int} : aH T q7 [9] 60 kn [part ke [1,1,0,1,0,0]] ⟨aB kn (wY n z (.own 0 3 0 (i + 1)) ((i + 1 : Nat) : Int)), [(0, lY (i + 1) z)], 1⟩ =
  let c8 : Int := (↑n : Int); let c4 : AV := aj 1 n fun i ↦ int i64 (z i); let c3 : Int := (2 : Int) ^ 63; let c2 : Nat := i + 1; let c5 : Nat := c2 + 1; let c1 : Int := (↑c2 : Int); let c7 : Int := z c1.toNat; let c6 : Int := c1 + (1 : Int); some (fork (decide (c1 < c8)) (af [(0 : Int) ≤ c1 ∧ c1.toNat < n] (af [-c3 ≤ c7, c7 < c3, (1 : Nat) * 3 ≤ 2 ^ 24, c5 * ((56 : Nat) + 1) * 2 ≤ 2 ^ 47] (af [-c3 ≤ c6 ∧ c6 < c3] (leaf normal ([own 32769 3 0 c5, c4, int i64 c8, int i64 c6], [((32769 : Nat), ay.mk true true 3 c5 fun i ↦ if i < c2 then rat (↑(z i) : Rat) 64 else nth [rat (↑c7 : Rat) (Max.max 1 (aS c7.natAbs))] (rat 0 1) (i - c2 + 0))]))))) (leaf (exit 0) ([own 0 3 0 c2, c4, int i64 c8, int i64 c1], [((0 : Nat), ay.mk true true 3 c2 fun i ↦ rat (↑(z i) : Rat) 64)]))) := by kernel_rfl
theorem aaW {n i : Nat} {z : Nat → Int} : aH T q7 [] 60 [2] [part ke [1,1,1]] ⟨aB kn (wY n z (.own 0 3 0 (i + 1)) ((i + 1 : Nat) : Int)), [(0, lY (i + 1) z)], 1⟩ =
  some (leaf ret ([own 0 3 0 (i + 1)], [((0 : Nat), ay.mk true true 3 (i + 1) fun i ↦ rat (↑(z i) : Rat) 64)])) := by kernel_rfl
theorem Tf {n i : Nat} {z : Nat → Int} : bW T q7 [] 60 n8 [part ke [1,1,1]] ⟨aB kn (wY n z (.own 0 3 0 (i + 1)) ((i + 1 : Nat) : Int)), [(0, lY (i + 1) z)], 1⟩ =
  some (leaf ret [aj 3 (i + 1) fun i ↦ rat (↑(z (i + 0)) : Rat) 64]) := by kernel_rfl
theorem Se {n : Nat} {z : Nat → Int} : aH T wq [] 60 lQ (before kj [1,1,0,1]) ⟨aM 0 [og n z], [], 0⟩ =
  some (leaf normal ([aj 1 n fun i ↦ int i64 (z i), nil, int i64 (0 : Int)], [])) := by kernel_rfl
theorem Xs {n : Nat} {z : Nat → Int} : aH T wq [8] 60 lQ [part kj [1,1,0,1,0,0]] ⟨aB lQ (yP n z .nil 0), [], 1⟩ =
  let c3 : AV := aj 1 n fun i ↦ int i64 (z i); let c2 : Int := (2 : Int) ^ 63; let c1 : Nat := Int.toNat (0 : Int); some (fork (decide ((0 : Int) < (↑n : Int))) (af [(0 : Int) ≤ (0 : Int) ∧ c1 < n, -c2 ≤ z c1, z c1 < c2, (1 : Nat) * 3 ≤ 2 ^ 24, (0 : Nat) < 1 ∧ 1 * ((56 : Nat) + 1) * 2 ≤ 2 ^ 47] (af [-c2 ≤ (0 : Int) + (1 : Int) ∧ (0 : Int) + (1 : Int) < c2] (leaf normal ([c3, own 45057 3 0 1, int i64 (1 : Int)], [((45057 : Nat), ay.mk true true 3 1 fun i ↦ nth [rat (↑(z c1) : Rat) (Max.max 1 (aS (z c1).natAbs))] (rat 0 1) (i + 0))])))) (leaf (exit 0) ([c3, nil, int i64 (0 : Int)], []))) := by kernel_rfl
theorem aa0 {n i : Nat} {z : Nat → Int} : aH T wq [8] 60 lQ [part kj [1,1,0,1,0,0]] ⟨aB lQ (yP n z (.own 0 3 0 (i + 1)) ((i + 1 : Nat) : Int)), [(0, lY (i + 1) z)], 1⟩ =
  let c4 : AV := aj 1 n fun i ↦ int i64 (z i); let c3 : Int := (2 : Int) ^ 63; let c2 : Nat := i + 1; let c5 : Nat := c2 + 1; let c1 : Int := (↑c2 : Int); let c7 : Int := z c1.toNat; let c6 : Int := c1 + (1 : Int); some (fork (decide (c1 < (↑n : Int))) (af [(0 : Int) ≤ c1 ∧ c1.toNat < n, -c3 ≤ c7, c7 < c3, (1 : Nat) * 3 ≤ 2 ^ 24, c5 * ((56 : Nat) + 1) * 2 ≤ 2 ^ 47] (af [-c3 ≤ c6 ∧ c6 < c3] (leaf normal ([c4, own 45057 3 0 c5, int i64 c6], [((45057 : Nat), ay.mk true true 3 c5 fun i ↦ if i < c2 then rat (↑(z i) : Rat) 64 else nth [rat (↑c7 : Rat) (Max.max 1 (aS c7.natAbs))] (rat 0 1) (i - c2 + 0))])))) (leaf (exit 0) ([c4, own 0 3 0 c2, int i64 c1], [((0 : Nat), ay.mk true true 3 c2 fun i ↦ rat (↑(z i) : Rat) 64)]))) := by kernel_rfl
theorem abW {n i : Nat} {z : Nat → Int} : aH T wq [] 60 [2] [part kj [1,1,1]] ⟨aB lQ (yP n z (.own 0 3 0 (i + 1)) ((i + 1 : Nat) : Int)), [(0, lY (i + 1) z)], 1⟩ =
  some (leaf ret ([own 0 3 0 (i + 1)], [((0 : Nat), ay.mk true true 3 (i + 1) fun i ↦ rat (↑(z i) : Rat) 64)])) := by kernel_rfl
theorem JK {rl : List (Nat × Nat)} {l i s s' s2 : Nat} {x y : Nat → Rat} {t : Rat} (hx : ∀ i, i < l → x i = y i) (ht : t = y l) (h1 : s ≤ s2) (h2 : Sz (y l) s2) (hi : i < l + 1) : ga rl (if i < l then .rat (x i) s else nth [.rat t s'] (.rat 0 1) (i - l + 0)) (.rat (y i) s2) := by
 by_cases h : i < l
 ·rw [if_pos h, hx i h]; exact .inr ⟨rfl, cr rfl h1⟩
 ·have : i = l := by omega
  subst this
  rw [if_neg h, Nat.sub_self]
  exact .inr ⟨rfl, eG ht h2⟩
theorem CS : aW P q7 := eu (aC J0 aT)
theorem Kz : aW P wq := eu (aC uV aT)
abbrev KY (n : Nat) (z : Nat → Int) (i : Nat) : List AV := wY n z (match i with
 | 0 => .nil
 | _ + 1 => .own 0 3 0 i) i
abbrev yg (z : Nat → Int) (i : Nat) : aD := match i with
 | 0 => []
 | _ + 1 => [(0, lY i z)]
theorem JD {P' : ag → aE → Prop} {n : Nat} {z : Nat → Int} (hn : 0 < n) (hn2 : n < 2 ^ 20) (hz : ∀ i, i < n → -2 ^ 63 ≤ z i ∧ z i < 2 ^ 63) (c : Ctx) (hk : Kept [] c) (hD : aq Go.Am.N.P c n8.ntmps (part ke [1,1,1]) ⟨aB kn (KY n z n), yg z n, 1⟩ P') : aq Go.Am.N.P c n8.ntmps ke ⟨aM 0 [og n z], [], 0⟩ P' := by
 have hs : ∀ i, i < n → Sz ((z i : Int) : Rat) 64 := fun i hi => x8 (y := 0) (hz i hi).1 (hz i hi).2
 refine aq.jx hT CS hm (x := ke) [1,1,0,1] (i := 0) (y := part ke [1,1,0,1,0,0]) (z := part ke [1,1,1]) (by kernel_rfl) (by kernel_rfl) (by kernel_rfl) As.dst hk (f1 := []) (f2 := [9]) 60 kn 1 (fun i : Nat => KY n z i) (fun i => yg z i) (fun i => i ≤ n) (fun i => i = n) (fun i => n - i) (fun _ => False) ⟨_, Yt, ?_⟩ (fun i hi => ?_) (fun i hi => ?_) (fun _ _ h => h.elim)
 ·simp only [aa.all, ax]
  exact ⟨0, Nat.zero_le _, dF.vals rfl⟩
 ·cases i with
  | zero =>
   refine ⟨_, Xn, ?_⟩
   simp only [aa.all, ax, decide_eq_true_eq, decide_eq_false_iff_not]
   refine ⟨fun h => ⟨⟨by omega, by omega⟩, ⟨(hz 0 hn).1, (hz 0 hn).2, by omega, by omega, by omega⟩, by omega, 1, by omega, by dsimp only; omega, [(0, 32769)], rfl, rfl, rfl, bP rfl rfl rfl (fun j hj => ?_) trivial⟩, fun h => by omega⟩
   have hj : j = 0 := by omega
   subst hj
   exact .inr ⟨rfl, eG rfl (hs 0 hn)⟩
  | succ i =>
   refine ⟨_, VM, ?_⟩
   simp only [aa.all, ax, decide_eq_true_eq, decide_eq_false_iff_not]
   have e : ((i + 1 : Nat) : Int).toNat = i + 1 := by omega
   simp only [e]
   refine ⟨fun h => ⟨⟨by omega, by omega⟩, ⟨(hz (i + 1) (by omega)).1, (hz (i + 1) (by omega)).2, by omega, by omega⟩, by omega, i + 2, by omega, by dsimp only; omega, [(0, 32769)], rfl, rfl, rfl, bP rfl rfl rfl (fun j hj => JK (x := fun i => ((z i : Int) : Rat)) (y := fun i => ((z i : Int) : Rat)) (fun _ _ => rfl) rfl (Nat.le_refl _) (hs (i + 1) (by omega)) hj) trivial⟩, fun h => ⟨rfl, i + 1, by omega, [(0, 0)], rfl, rfl, rfl, bP rfl rfl rfl (fun j hj => aN rfl rfl) trivial⟩⟩
 ·subst hi; exact hD
abbrev Kl (n : Nat) (z : Nat → Int) (i : Nat) : List AV := yP n z (match i with
 | 0 => .nil
 | _ + 1 => .own 0 3 0 i) i
theorem YX {P' : ag → aE → Prop} {n : Nat} {z : Nat → Int} (hn : 0 < n) (hn2 : n < 2 ^ 20) (hz : ∀ i, i < n → -2 ^ 63 ≤ z i ∧ z i < 2 ^ 63) (c : Ctx) (hk : Kept [] c) (hD : aq Go.Am.N.P c pY.ntmps (part kj [1,1,1]) ⟨aB lQ (Kl n z n), yg z n, 1⟩ P') : aq Go.Am.N.P c pY.ntmps kj ⟨aM 0 [og n z], [], 0⟩ P' := by
 have hs : ∀ i, i < n → Sz ((z i : Int) : Rat) 64 := fun i hi => x8 (y := 0) (hz i hi).1 (hz i hi).2
 refine aq.jx hT Kz hm (x := kj) [1,1,0,1] (i := 0) (y := part kj [1,1,0,1,0,0]) (z := part kj [1,1,1]) (by kernel_rfl) (by kernel_rfl) (by kernel_rfl) ID.dst hk (f1 := []) (f2 := [8]) 60 lQ 1 (fun i : Nat => Kl n z i) (fun i => yg z i) (fun i => i ≤ n) (fun i => i = n) (fun i => n - i) (fun _ => False) ⟨_, Se, ?_⟩ (fun i hi => ?_) (fun i hi => ?_) (fun _ _ h => h.elim)
 ·simp only [aa.all, ax]
  exact ⟨0, Nat.zero_le _, dF.vals rfl⟩
 ·cases i with
  | zero =>
   refine ⟨_, Xs, ?_⟩
   simp only [aa.all, ax, decide_eq_true_eq, decide_eq_false_iff_not]
   refine ⟨fun h => ⟨⟨⟨by omega, by omega⟩, (hz 0 hn).1, (hz 0 hn).2, by omega, by omega, by omega⟩, by omega, 1, by omega, by dsimp only; omega, [(0, 45057)], rfl, rfl, rfl, bP rfl rfl rfl (fun j hj => ?_) trivial⟩, fun h => by omega⟩
   have hj : j = 0 := by omega
   subst hj
   exact .inr ⟨rfl, eG rfl (hs 0 hn)⟩
  | succ i =>
   refine ⟨_, aa0, ?_⟩
   simp only [aa.all, ax, decide_eq_true_eq, decide_eq_false_iff_not]
   have e : ((i + 1 : Nat) : Int).toNat = i + 1 := by omega
   simp only [e]
   refine ⟨fun h => ⟨⟨⟨by omega, by omega⟩, (hz (i + 1) (by omega)).1, (hz (i + 1) (by omega)).2, by omega, by omega⟩, by omega, i + 2, by omega, by dsimp only; omega, [(0, 45057)], rfl, rfl, rfl, bP rfl rfl rfl (fun j hj => JK (x := fun i => ((z i : Int) : Rat)) (y := fun i => ((z i : Int) : Rat)) (fun _ _ => rfl) rfl (Nat.le_refl _) (hs (i + 1) (by omega)) hj) trivial⟩, fun h => ⟨rfl, i + 1, by omega, [(0, 0)], rfl, rfl, rfl, bP rfl rfl rfl (fun j hj => aN rfl rfl) trivial⟩⟩
 ·subst hi; exact hD
def y7 : Nat → (Nat → AV) → Bool
 | 0, _ => true
 | n + 1, f => y7 n f && match f n with
  | .int .i64 z => decide (-2 ^ 63 ≤ z) && decide (z < 2 ^ 63)
  | _ => false
def VO (n : Nat) (f : Nat → AV) : Bool := Nat.beq n 3 && !(decide (intOf (f 0) = 0) && decide (intOf (f 1) = 0))
def zM (n : Nat) (f : Nat → AV) : Bool := Nat.blt 0 n && Nat.blt n 100 && y7 n f
def Bs : Spec := o5 fun K l => match l with
 | [.aj 1 n f] => match zM n f, VO n f with
  | true, true => some ⟨.aj 3 n (fun i => .rat ((intOf (f i) : Int) : Rat) 64), [], []⟩
  | true, false => some ⟨lN [.own K 3 0 n], [(K, lY n fun i => intOf (f i))], []⟩
  | _, _ => none
 | _ => none
def Gk : Spec := o5 fun K l => match l with
 | [.aj 1 n f] => match zM n f with
  | true => some ⟨lN [.own K 3 0 n], [(K, lY n fun i => intOf (f i))], []⟩
  | false => none
 | _ => none
theorem Bu : ∀ {n : Nat} {f : Nat → AV}, y7 n f = true → ∀ i, i < n → f i = .int .i64 (intOf (f i)) ∧ -2 ^ 63 ≤ intOf (f i) ∧ intOf (f i) < 2 ^ 63
 | 0, _, _, i, hi => by omega
 | n + 1, f, h, i, hi => by
  simp only [y7, Bool.and_eq_true] at h
  by_cases he : i = n
  ·subst he
   have h2 := h.2
   split at h2
   ·rename_i z hz
    simp only [Bool.and_eq_true, decide_eq_true_eq] at h2
    rw [hz]
    exact ⟨rfl, h2⟩
   ·simp at h2
  ·exact Bu h.1 i (by omega)
theorem Av {n : Nat} {f : Nat → AV} (h : zM n f = true) : 0 < n ∧ n < 100 ∧ (∀ i, i < n → -2 ^ 63 ≤ intOf (f i) ∧ intOf (f i) < 2 ^ 63) ∧ dm [.aj 1 n f] [og n fun i => intOf (f i)] := by
 simp only [zM, Bool.and_eq_true, Nat.blt_eq] at h
 exact ⟨h.1.1, h.1.2, fun i hi => (Bu h.2 i hi).2, qV rfl fun i hi => (Bu h.2 i hi).1, trivial⟩
theorem Fe : ∀ K args pre r, Bs K args pre = some r → az P tJ K args pre r := by
 refine zy fun K args r hk hs => ?_
 split at hs
 ·rename_i n f
  split at hs
  ·rename_i h1 h2
   obtain ⟨a1, a2, a3, a4⟩ := Av h1
   simp only [Option.some.injEq] at hs
   subst hs
   refine fk (fe (r := aF (.aj 3 n (fun i => .rat ((intOf (f i) : Int) : Rat) 64)) []) hT As rfl (of_decide_eq_true (by kernel_rfl)) rfl (fun _ c h0 => JD a1 (by omega) a3 c (jO h0) ?_) K []) hk a4 []
   obtain ⟨m, rfl⟩ : ∃ m, n = m + 1 := ⟨n - 1, by omega⟩
   refine aq.jq ((aA.fin hT CS hm 60 Tf (by kernel_rfl) ?_).mono fun _ _ h => .inl h)
   simp only [aa.all, ax]
   exact .refl _
  ·rename_i h1 h2
   obtain ⟨a1, a2, a3, a4⟩ := Av h1
   simp only [Option.some.injEq] at hs
   subst hs
   refine FY hT As (fun _ => Dp hk rfl a4) (of_decide_eq_true (by kernel_rfl)) fun _ c hkp => JD a1 (by omega) a3 c hkp ?_
   obtain ⟨m, rfl⟩ : ∃ m, n = m + 1 := ⟨n - 1, by omega⟩
   refine aq.aZ hT CS hm 60 [2] aaW (by kernel_rfl) fun s' hs' => ⟨.inr rfl, [2], _, [.own 0 3 0 (m + 1)], _, 0, _, hs', by kernel_rfl, ⟨⟨rfl, cj (by simp [aX, look]) rfl rfl⟩, trivial⟩, rfl, g7 rfl fun i hi => aG rfl⟩
  ·simp at hs
 ·simp at hs
theorem WX : ∀ K args pre r, Gk K args pre = some r → az P yW K args pre r := by
 refine zy fun K args r hk hs => ?_
 split at hs
 ·rename_i n f
  split at hs
  ·rename_i h1
   obtain ⟨a1, a2, a3, a4⟩ := Av h1
   simp only [Option.some.injEq] at hs
   subst hs
   refine FY hT ID (fun _ => Dp hk rfl a4) (of_decide_eq_true (by kernel_rfl)) fun _ c hkp => YX a1 (by omega) a3 c hkp ?_
   obtain ⟨m, rfl⟩ : ∃ m, n = m + 1 := ⟨n - 1, by omega⟩
   refine aq.aZ hT Kz hm 60 [2] abW (by kernel_rfl) fun s' hs' => ⟨.inr rfl, [2], _, [.own 0 3 0 (m + 1)], _, 0, _, hs', by kernel_rfl, ⟨⟨rfl, cj (by simp [aX, look]) rfl rfl⟩, trivial⟩, rfl, g7 rfl fun i hi => aG rfl⟩
  ·simp at hs
 ·simp at hs
end Go.Am.B

/- ref09.Sum; contracts of sums. -/
namespace Go.Am.B
open Go Go.Am.N AV aa ag IntKind
end Go.Am.B

/- basis.Blossom. -/
namespace Go.Am.B
open Go Go.Am.N AV aa ag IntKind
end Go.Am.B

/- ref09.Polar, ref09.Blossom; contracts of polar forms. -/
namespace Go.Am.B
open Go Go.Am.N AV aa ag IntKind
end Go.Am.B

/- ref02: SameList, Mid, Text; ref08.Greville. -/
namespace Go.Am.B
open Go Go.Am.N AV aa ag IntKind
theorem Va : aP P tD uw (au uw) := aL Na (by kernel_rfl) (by kernel_rfl) (by kernel_rfl)
theorem ZN : aP P ye vJ (au vJ) := aL Tg (by kernel_rfl) (by kernel_rfl) (by kernel_rfl)
theorem abH : aP P tB kr (au kr) := aL Ws (by kernel_rfl) (by kernel_rfl) (by kernel_rfl)
abbrev tI : List Nat := [0, 1, 4, 5]
abbrev AI (n m : Nat) (f g : Nat → Rat) (i : Nat) : List AV := [bX f n sU, bX g m sU, .bool false, .int .i64 i]
noncomputable abbrev uo : Code := au uw
theorem X7 {n m : Nat} {f g : Nat → Rat} : aH T gT [10] 60 tI (before uo [1,1,0,1]) ⟨aM 0 [bX f n sU, bX g m sU], [], 0⟩ =
  let c2 : AV := aj 3 m fun i ↦ rat (g i) 4294967296; let c1 : AV := aj 3 n fun i ↦ rat (f i) 4294967296; some (fork ((↑n : Int) != (↑m : Int)) (leaf ret ([c1, c2, AV.bool false, tuple []], [])) (leaf normal ([c1, c2, AV.bool false, int i64 (0 : Int)], []))) := by kernel_rfl
theorem Xm {n m i : Nat} {f g : Nat → Rat} : aH T gT [14, 26] 60 tI [part uo [1,1,0,1,0,0]] ⟨aB tI (AI n m f g i), [], 0⟩ =
  let c4 : AV := aj 3 m fun i ↦ rat (g i) 4294967296; let c3 : AV := aj 3 n fun i ↦ rat (f i) 4294967296; let c2 : Int := (↑i : Int); let c5 : Int := c2 + (1 : Int); let c1 : List AV × aD := ([c3, c4, AV.bool false, int i64 c2], []); some (fork (decide (c2 < (↑n : Int))) (af [(0 : Int) ≤ c2 ∧ c2.toNat < n, (0 : Int) ≤ c2 ∧ c2.toNat < m] (fork (!decide (f c2.toNat = g c2.toNat)) (leaf ret c1) (af [-(2 : Int) ^ 63 ≤ c5 ∧ c5 < (2 : Int) ^ 63] (leaf normal ([c3, c4, AV.bool false, int i64 c5], []))))) (leaf (exit 0) c1)) := by kernel_rfl
theorem aaZ {n m i : Nat} {f g : Nat → Rat} : bW T gT [] 60 uw [part uo [1,1,1]] ⟨aB tI (AI n m f g i), [], 0⟩ =
  some (leaf ret [AV.bool true]) := by kernel_rfl
def iS (n : Nat) (f : Nat → Rat) (m : Nat) (g : Nat → Rat) : Bool := decide (n = m ∧ ∀ i, i < n → f i = g i)
theorem abc {n m : Nat} {f g : Nat → Rat} (hn : n < 2 ^ 40) (hm2 : m < 2 ^ 40) (K : Nat) : az P tD K [bX f n sU, bX g m sU] [] (aF (.bool (iS n f m g)) []) := by
 refine jy (r := aF (.bool (iS n f m g)) []) hT zf hm Va rfl (of_decide_eq_true (by kernel_rfl)) rfl [1,1,0,1] (i := 0) (y := part uo [1,1,0,1,0,0]) (z := part uo [1,1,1]) (by kernel_rfl) (by kernel_rfl) (by kernel_rfl) (f1 := [10]) (f2 := [14, 26]) (f3 := []) 60 tI 0
  (fun i : Nat => AI n m f g i) (fun _ => []) (fun i => i ≤ n ∧ n = m ∧ ∀ j, j < i → f j = g j) (fun i => i = n ∧ n = m ∧ ∀ j, j < i → f j = g j) (fun i => n - i) (fun _ => ⟨⟨_, X7, ?_⟩, fun i ⟨h1, h2, h3⟩ => ⟨_, Xm, ?_⟩, fun i ⟨h1, h2, h3⟩ => ⟨_, aaZ, ?_⟩⟩) K []
 ·simp only [aa.all, ax, bne_iff_ne, ne_eq, bne_eq_false_iff_eq]
  exact ⟨fun h => ⟨[.bool false], by kernel_rfl, fO (decide_eq_false (fun hh => h (by omega))).symm⟩, fun h => ⟨0, ⟨by omega, by omega, fun j hj => by omega⟩, .vals rfl⟩⟩
 ·simp only [aa.all, ax, decide_eq_true_eq, decide_eq_false_iff_not, Bool.not_eq_true', Bool.not_eq_false', Int.toNat_natCast]
  (repeat' with_reducible first | refine And.intro ?_ ?_ | intro _)
  all_goals first | omega | skip
  ·rename_i a b
   exact ⟨[.bool false], by kernel_rfl, fO (decide_eq_false (fun hh => b (hh.2 i (by omega)))).symm⟩
  ·rename_i a b
   refine ⟨i + 1, ⟨by omega, h2, fun j hj => ?_⟩, by dsimp only; omega, .vals rfl⟩
   by_cases hj2 : j = i
   ·subst hj2; exact b
   ·exact h3 j (by omega)
  ·exact ⟨rfl, i, ⟨by omega, h2, h3⟩, .vals rfl⟩
 ·subst h1
  exact fO (decide_eq_true ⟨h2, h3⟩).symm
def Ig : Spec := dM (kC (kL sU) (kC (kL sU) kN)) (fun a => .bool (iS a.1.1 a.1.2 a.2.1.1 a.2.1.2)) fun a => [a.1.1 < 2 ^ 40, a.2.1.1 < 2 ^ 40]
theorem adF : ∀ K args pre r, Ig K args pre = some r → az P tD K args pre r := dP fun _ K hn => abc hn.1 hn.2 K
end Go.Am.B

/- brepkernelmade: Number. -/
namespace Go.Am.B
open Go Go.Am.N AV
end Go.Am.B

/- law09: made, at. -/
namespace Go.Am.B
open Go Go.Am.N AV aa ag IntKind
end Go.Am.B

/- ref02.Text of a few numbers; law09.awake. -/
namespace Go.Am.B
open Go Go.Am.N AV aa ag IntKind
def yw : aQ := [sG, (qk, A5)]
theorem Xh : bA T yw [] 60 kr (au kr) ⟨aM 0 [.mag 3], [], 0⟩ =
  let c1 : Int := (↑(1 : Nat) : Int); some (af [nl 3 < 2 ^ 40, (0 : Int) < (1000000000 : Int), (1000000000 : Int) < (2 : Int) ^ 32] (af [(10 : Int) ≠ (0 : Int), (0 : Nat) < 1 ∧ 1 * ((1 : Nat) + 1) * 2 ≤ 2 ^ 47] (af [(10 : Int) ≠ (0 : Int)] (af [(0 : Int) ≤ c1 ∧ c1 ≤ c1 ∧ c1 ≤ (2 : Int) ^ 47 ∧ c1 * c1 ≤ (2 : Int) ^ 47] (leaf ret [str [UInt8.ofNat (u8.wrap (u32.wrap ((48 : Int) + (↑((3 : Nat) % Int.toNat (1000000000 : Int)) : Int).tmod (10 : Int)))).toNat]]))))) := by kernel_rfl
theorem RE : aW P yw := dc (aC Ew aT)
theorem Kn.congr {n p : Nat} {k k' : Nat → Rat} (h : Kn n p k) (e : ∀ i, i < n → k i = k' i) : Kn n p k' := by
 have hp := h.p1
 have hl := h.len
 refine ⟨h.p1, h.len, fun i hi => ?_, fun i hi => ?_, fun i h1 h2 => ?_, fun i h1 h2 => ?_⟩
 ·rw [← e i (by omega), ← e (i + 1) hi]; exact h.sorted i hi
 ·rw [← e i (by omega), ← e 0 (by omega)]; exact h.first i hi
 ·rw [← e i h2, ← e (n - 1) (by omega)]; exact h.last i h1 h2
 ·rw [← e i (by omega), ← e (i + p) (by omega)]; exact h.mult i h1 h2
theorem RP {f : Nat → Rat} (h : ∀ i, i < 6 → f i = jK 2 0 (fun _ => ((0 : Int) : Rat)) ((0 : Int) : Rat) i) : Kn 6 2 f :=
 ((KG.start (p := 2) (by omega) (z := 0) (by omega) (by omega)).done : Kn (2 * 2 + 2 + 0) 2 _).congr fun i hi => (h i hi).symm
end Go.Am.B

/- shapes, vector, ref14: by the evaluator; law14.awake. -/
namespace Go.Am.B
open Go Go.Am.N AV aa ag IntKind
theorem V6 : aP P zo tF (au tF) := aL M4 (by kernel_rfl) (by kernel_rfl) (by kernel_rfl)
theorem Xb {q : Rat} {n : Nat} : bA T GA [8] 60 tF (au tF) ⟨aM 0 [.rat q n], [], 0⟩ =
  let c4 : Int := (↑(nl q.num.natAbs) : Int); let c3 : Bool := !decide (q < 0); let c2 : List AV := [mag q.num.natAbs, mag (if q.den = 1 then 0 else q.den)]; let c1 : Prop := 0 < 1; some (af [c1, n < 2 ^ 44, c1] (fork c3 (af [c1, c3 = true, c1, c1] (af [c1, c1] (af [c1] (leaf ret [agg (AV.bool (bif true then decide (c4 > (0 : Int)) else false) :: c2)])))) (af [c1, c3 = false, c1] (af [c1, c1] (af [c1] (leaf ret [agg (AV.bool false :: c2)])))))) := by kernel_rfl
theorem Uw {q : Rat} {n : Nat} (hn : n < 2 ^ 40) (K : Nat) : az P zo K [.rat q n] [] (aF (.rat (-q) n) []) := by
 refine gA fun ⟨hs1, _⟩ => ?_
 have hs1 : Sz q n := hs1
 have hs2 := hs1.neg
 have e1 : (-q).num.natAbs = q.num.natAbs := by rw [Rat.neg_num, Int.natAbs_neg]
 have e2 : (-q).den = q.den := Rat.neg_den q
 refine bD (r := aF (.rat (-q) n) []) hT qc hm V6 rfl (of_decide_eq_true (by kernel_rfl)) rfl 60 Xb (fun _ => ?_) K []
 simp only [aa.all, ax]
 refine ⟨⟨by omega, by omega, by omega⟩, fun hb => ⟨⟨by omega, hb, by omega, by omega⟩, ⟨by omega, by omega⟩, by omega, lH hs2 ?_ e1.symm (by rw [e2])⟩, fun hb => ⟨⟨by omega, hb, by omega⟩, ⟨by omega, by omega⟩, by omega, lH hs2 ?_ e1.symm (by rw [e2])⟩⟩
 ·have hq : ¬ q < 0 := by simpa using hb
  rw [cond_true]
  have h1 : ¬ q.num < 0 := fun h => hq (fy.2 h)
  exact ((decide_eq_decide (p := -q < 0) (q := (nl q.num.natAbs : Int) > 0)).2 (by
   rw [fy, Rat.neg_num]
   have := eO (N := q.num.natAbs)
   omega)).symm
 ·have hq : q < 0 := by simpa using hb
  have := fy.1 hq
  exact (decide_eq_false (p := -q < 0) (by rw [fy, Rat.neg_num]; omega)).symm
def KS : aQ := [(zo, bt fun l => match l with
 | [.rat q n] => match Nat.blt n (2 ^ 40) with
  | true => some (aF (.rat (-q) n) [])
  | false => none
 | _ => none)]
noncomputable def nv : aQ := [(BL, cG T (sG :: jG) [] 60 Cr), (AH, cG T (sG :: jG) [] 60 CC), (Eb, cG T (sG :: jG) [] 60 EW)]
noncomputable def CH : aQ := [(B3, cG T (sG :: nv) [] 60 B8), (ET, cG T (sG :: nv) [] 60 LC), (Dh, cG T (sG :: nv) [] 60 C0)]
noncomputable def JS : aQ := [(BU, cG T (sG :: CH) [] 60 Ap)]
noncomputable def nQ : aQ := [(tJ, Bs), (FT, cG T [sG] [] 60 Kt), (EE, cG T (sG :: (CH ++ jG)) [] 60 Lf), (Kq, cG T (sG :: (tJ, Bs) :: jG) [] 200 Hg)]
noncomputable def HW : aQ := [(Lj, cG T (sG :: nQ) [] 200 He), (IC, cG T (sG :: nQ) [] 200 FI), (KK, cG T (sG :: (nv ++ (KS ++ jG))) [] 200 Eo)]
noncomputable def HR : aQ := [(E8, cG T (sG :: (nJ, cG T (sG :: jG) [] 200 qm) :: (nQ ++ jG)) [] 400 Fh)]
noncomputable def Gf : aQ := [(yW, Gk), (I9, cG T (sG :: gn) [] 60 LM), (Kx, cG T (sG :: gn) [] 60 Gd)]
noncomputable def JN : aQ := [(JV, cG T (sG :: Gf) [] 200 Ki)]
noncomputable def yD : aQ := [(HE, cG T (sG :: gn) [] 60 HN), (DV, cG T (sG :: gn) [] 60 G8), (HO, cG T (sG :: gn) [] 60 HP), (DP, cG T (sG :: gn) [] 60 D3), (EM, cG T (sG :: gn) [100010, 100017] 60 Ex)]
noncomputable def Lc : aQ := [(tD, Ig), (I5, cG T (sG :: (yD ++ gn)) [200029, 200042] 200 EB)]
noncomputable def Ih : aQ := [(FP, cG T (sG :: Lc) [100010, 100017] 60 Lt)]
def Ff : Spec := bt fun l => match l with
 | [.mag 3] => some (aF (.str [51]) [])
 | [.mag 5] => some (aF (.str [53]) [])
 | _ => none
def O8 : aQ := [sG, (tB, Ff)]
def JI : Spec := bt fun l => match l with
 | [.rat q _] => match decide (q = 3 / 5) with
  | true => some (aF (.str [51, 47, 53]) [])
  | false => none
 | _ => none
noncomputable def KR : aQ := sG :: (nY, AJ) :: (l5, ud) :: (ye, JI) :: (HW ++ (HR ++ (JN ++ (yD ++ (JS ++ (Ih ++ gn))))))
theorem acD : bA T yw [] 60 kr (au kr) ⟨aM 0 [.mag 5], [], 0⟩ =
  let c1 : Int := (↑(1 : Nat) : Int); some (af [nl 5 < 2 ^ 40, (0 : Int) < (1000000000 : Int), (1000000000 : Int) < (2 : Int) ^ 32] (af [(10 : Int) ≠ (0 : Int), (0 : Nat) < 1 ∧ 1 * ((1 : Nat) + 1) * 2 ≤ 2 ^ 47] (af [(10 : Int) ≠ (0 : Int)] (af [(0 : Int) ≤ c1 ∧ c1 ≤ c1 ∧ c1 ≤ (2 : Int) ^ 47 ∧ c1 * c1 ≤ (2 : Int) ^ 47] (leaf ret [str [UInt8.ofNat (u8.wrap (u32.wrap ((48 : Int) + (↑((5 : Nat) % Int.toNat (1000000000 : Int)) : Int).tmod (10 : Int)))).toNat]]))))) := by kernel_rfl
theorem Ym : bA T O8 [] 60 vJ (au vJ) ⟨aM 0 [.agg [.bool false, .mag 3, .mag 5]], [], 0⟩ =
  some (leaf ret [str [(51 : UInt8), (47 : UInt8), (53 : UInt8)]]) := by kernel_rfl
theorem L8 : bA T KR [100027, 100033, 100038, 100043, 100047, 100053] 200 AG (au AG) ⟨aM 0 [], [], 0⟩ =
  let c49 : Int := (↑(4 : Nat) : Int); let c48 : List UInt8 := [(51 : UInt8), (47 : UInt8), (53 : UInt8)]; let c47 : Prop := 3 ≤ 3; let c46 : Prop := (0 : Int) ≤ (0 : Int); let c44 : Rat := 0 * 0; let c42 : Nat := 2 ^ 40; let c41 : Nat := 224 + 1; let c28 : Int := i64.wrap (i64.wrap ((2 : Int) * (4 : Int)) + (1 : Int)); let c27 : Int := (2 : Int) ^ 63; let c25 : Rat := (↑(2 : Int) : Rat); let c22 : Nat := Int.toNat (0 : Int) + 1; let c21 : Nat := nat_lit 0 + 0; let c20 : Nat := nat_lit 2 + 0; let c19 : Nat := 1 + 1; let c18 : Nat := nat_lit 1 + 0; let c17 : AV := rat 0 1; let c15 : Rat := (↑(0 : Int) : Rat); let c14 : Nat := 24 + 1; let c12 : Nat := 56 + 1; let c11 : Nat := 3 + 2; let c7 : Nat := 2 ^ 47; let c6 : AV := int i64 (1 : Int); let c3 : AV := int i64 (0 : Int); let c2 : Prop := 0 < 1; let c1 : Rat := (↑(1 : Int) : Rat); let c53 : List AV := [c6, c3]; let c52 : Prop := c11 * c12 * 2 ≤ c7; let c50 : Nat := c22 + 1; let c45 : Nat := c11 + 1; let c43 : Nat := c19 + 1; let c40 : Rat := c1 / (c1 + c1 * c1); let c39 : Prop := (bif false then true else !decide (c1 = c1)) = false; let c38 : Nat := c11 + 2 + 2; let c35 : Rat := (↑(intOf (nth [c6, c3, c3] c3 c21)) : Rat) + 0; let c32 : Rat := (↑(intOf (nth [c6, c3, c3] c3 c18)) : Rat) + 0; let c31 : Rat := (↑(intOf (nth [c6, c3, c3] c3 c20)) : Rat) + 0; let c24 : Rat := 0 + 0 * c1 + c44 + c1 * 0 + 0; let c23 : List AV := [c3, c3, c3, c6, c6, c6]; let c9 : AV := rat c15 (Max.max 1 (aS (Int.natAbs (0 : Int)))); let c8 : AV := rat c1 (Max.max 1 (aS (Int.natAbs (1 : Int)))); let c5 : Prop := c2 ∧ 1 * c41 * 2 ≤ c7; let c4 : Prop := c19 * c41 * 2 ≤ c7; let c37 : Rat := (↑(intOf (nth (c3 :: c53) c3 c18)) : Rat) + 0; let c36 : Rat := (↑(intOf (nth (c3 :: c53) c3 c20)) : Rat) + 0; let c34 : Rat := (↑(intOf (nth (c3 :: c53) c3 c21)) : Rat) + 0; let c33 : Rat := (↑(intOf (nth (c6 :: c53) c3 c20)) : Rat) + 0; let c30 : Rat := (↑(intOf (nth (c6 :: c53) c3 c18)) : Rat) + 0; let c29 : Rat := (↑(intOf (nth (c6 :: c53) c3 c21)) : Rat) + 0; let c16 : Rat := 0 + (c1 - c1 * c1) * c40 * c1 + -((c1 + c1) * c40) * 0 + c44 + 0; let c13 : Rat := 0 + (c1 + c1) * c40 * c1 + ((c1 - c1 * c1) * c40 + 0) * 0 + c44 + 0; let c10 : Nat := c43 + 1 + 1; let c51 : Nat := c10 + 1 + 1; let c26 : Nat := c51 + 1; some (af [c2, c2, c2, c2, c2, c2, c2, -c27 ≤ (1 : Int), (1 : Int) < c27, -c27 ≤ (2 : Int), (2 : Int) < c27, bM (fun i ↦ rat (↑(intOf (nth c23 c3 (i + 0 + 0))) : Rat) 64) 6 sK, gd (fun i ↦ nth [agg [agg [c8, c9, c9], c8], agg [agg [c8, c8, c9], c8], agg [agg [c9, c8, c9], rat c25 (Max.max 1 (aS (Int.natAbs (2 : Int))))]] (agg [agg [c17, c17, c17], c17]) (i + 0)) 3 sK, (64 : Nat) ≤ sK, Kn 6 (Int.toNat (2 : Int)) fun i ↦ aK (rat (↑(intOf (nth c23 c3 (i + 0 + 0))) : Rat) 64), (0 : Int) ≤ (2 : Int), (2 : Int) ≤ (6 : Int), (6 : Nat) < c42, (↑(3 : Nat) : Int) = (↑(6 : Nat) : Int) - (2 : Int) - (1 : Int)] (af [c2, c2, c2, c2, c2, c2, c2, c2, c2, c2] (af [c2, c2, c2, c2, c2, c2, c2, c2, c2, c2, c2, c52, (c11 + 2) * c12 * 2 ≤ c7, c38 * c12 * 2 ≤ c7, (c38 + 2) * c12 * 2 ≤ c7, (c38 + 2 + 1) * c12 * 2 ≤ c7, c46 ∧ (0 : Int) ≤ c49 ∧ c49 ≤ (2 : Int) ^ 47 ∧ c49 * (↑(56 : Nat) : Int) ≤ (2 : Int) ^ 47, c22 * c12 * 2 ≤ c7, c50 * c12 * 2 ≤ c7, (c50 + 1) * c12 * 2 ≤ c7, (c50 + 1 + 1) * c12 * 2 ≤ c7, c2, c2, c46 ∧ (0 : Int) ≤ c28 ∧ c28 ≤ (↑(9 : Nat) : Int), c5, c4, c2 ∧ 1 * c14 * 2 ≤ c7, c5, c4, c19 * c14 * 2 ≤ c7, c5, c4, c43 * c14 * 2 ≤ c7, c5, c4, (c43 + 1) * c14 * 2 ≤ c7, c5, c4, c10 * c14 * 2 ≤ c7, c5, c4, (c10 + 1) * c14 * 2 ≤ c7, c5, c4, c51 * c14 * 2 ≤ c7, c5, c4, c26 * c14 * 2 ≤ c7, c5, c4, (c26 + 1) * c14 * 2 ≤ c7, c2] (af [(dr 6 (fun i ↦ aK (rat (↑(intOf (nth c23 c3 (i + 0 + 0))) : Rat) 64)) (c1 / c25) == (0 : Int)) = true, (bif true then c48 == c48 else false) = true, c52, c45 * c12 * 2 ≤ c7, c2, c2, c46 ∧ (0 : Int) ≤ (3 : Int) ∧ (3 : Int) ≤ (↑(9 : Nat) : Int), c47, c2, c2, c2, c5, c47, c2, c2, c2, c4, c47, c2, c2, c2, c43 * c41 * 2 ≤ c7, c2, c2, c2, c2, c2, c2, c2, c2, ((2 : Int) == (2 : Int)) = true, bM (fun i ↦ if i + 0 < c11 then if i + 0 < 3 then rat (↑(intOf (nth [c3, c3, c3] c3 (i + 0 + 0))) : Rat) 64 else rat (↑(intOf (nth [c6, c6] c3 (i + 0 - 3 + 0 + 0))) : Rat) 64 else nth [c8] c17 (i + 0 - c11 + 0)) c45 sU, bM (fun i ↦ rat (↑(intOf (nth c23 c3 (i + 0 + 0))) : Rat) 64) 6 sU, c45 < c42, (6 : Nat) < c42, (bif true then iS c45 (fun i ↦ aK (if i + 0 < c11 then if i + 0 < 3 then rat (↑(intOf (nth [c3, c3, c3] c3 (i + 0 + 0))) : Rat) 64 else rat (↑(intOf (nth [c6, c6] c3 (i + 0 - 3 + 0 + 0))) : Rat) 64 else nth [c8] c17 (i + 0 - c11 + 0))) 6 fun i ↦ aK (rat (↑(intOf (nth c23 c3 (i + 0 + 0))) : Rat) 64) else false) = true, decide (c35 = c1) = true, (bif true then decide (c32 = c15) else false) = true, (!bif true then decide (c31 = c15) else false) = false, c39, decide (c29 = c1) = true, (bif true then decide (c30 = c1) else false) = true, (!bif true then decide (c33 = c15) else false) = false, c39, decide (c34 = c15) = true, (bif true then decide (c37 = c1) else false) = true, (!bif true then decide (c36 = c15) else false) = false, (bif false then true else !decide (c25 = c25)) = false, (bif true then bif true then true else false else false) = true, c2, decide (c16 = 0) = true, (bif true then decide (c13 = c1) else false) = true, (bif true then bif true then decide (c24 = 0) else false else false) = true, (bif true then (0 : Int) == (0 : Int) else false) = true, (bif true then (↑(c26 + 1) : Int) == (9 : Int) else false) = true] (leaf ret [AV.bool true]))))) := by kernel_rfl
theorem QM : aW P KS := aC (by
 refine bH fun K args r hk hs _ => ?_
 split at hs
 ·split at hs
  ·rename_i hb
   simp only [Option.some.injEq] at hs
   subst hs
   exact Uw (by rw [Nat.blt_eq] at hb; exact hb) K
  ·simp at hs
 ·simp at hs) aT
theorem qp : aW P nv := aC (cH hT (dc j5) hm (aL JJ (by kernel_rfl) (by kernel_rfl) (by kernel_rfl)) _ _) (aC (cH hT (dc j5) hm (aL HQ (by kernel_rfl) (by kernel_rfl) (by kernel_rfl)) _ _) (aC (cH hT (dc j5) hm (aL acC (by kernel_rfl) (by kernel_rfl) (by kernel_rfl)) _ _) aT))
theorem Ht : aW P CH := aC (cH hT (dc qp) hm (aL Lp (by kernel_rfl) (by kernel_rfl) (by kernel_rfl)) _ _) (aC (cH hT (dc qp) hm (aL SD (by kernel_rfl) (by kernel_rfl) (by kernel_rfl)) _ _) (aC (cH hT (dc qp) hm (aL GH (by kernel_rfl) (by kernel_rfl) (by kernel_rfl)) _ _) aT))
theorem NR : aW P JS := aC (cH hT (dc Ht) hm (aL LK (by kernel_rfl) (by kernel_rfl) (by kernel_rfl)) _ _) aT
theorem pe : aW P nQ := aC Fe (aC (cH hT (dc aT) hm (aL L9 (by kernel_rfl) (by kernel_rfl) (by kernel_rfl)) _ _) (aC (cH hT (dc (gh Ht j5)) hm (aL Yz (by kernel_rfl) (by kernel_rfl) (by kernel_rfl)) _ _) (aC (cH hT (dc (aC Fe j5)) hm (aL adn (by kernel_rfl) (by kernel_rfl) (by kernel_rfl)) _ _) aT)))
theorem L6 : aW P HW := aC (cH hT (dc pe) hm (aL Rz (by kernel_rfl) (by kernel_rfl) (by kernel_rfl)) _ _) (aC (cH hT (dc pe) hm (aL acT (by kernel_rfl) (by kernel_rfl) (by kernel_rfl)) _ _) (aC (cH hT (dc (gh qp (gh QM j5))) hm (aL S4 (by kernel_rfl) (by kernel_rfl) (by kernel_rfl)) _ _) aT))
theorem aab : aW P HR := aC (cH hT (dc (aC (cH hT (dc j5) hm (aL FX (by kernel_rfl) (by kernel_rfl) (by kernel_rfl)) _ _) (gh pe j5))) hm (aL NU (by kernel_rfl) (by kernel_rfl) (by kernel_rfl)) _ _) aT
theorem abI : aW P Gf := aC WX (aC (cH hT (dc gH) hm (aL aaQ (by kernel_rfl) (by kernel_rfl) (by kernel_rfl)) _ _) (aC (cH hT (dc gH) hm (aL OR (by kernel_rfl) (by kernel_rfl) (by kernel_rfl)) _ _) aT))
theorem abP : aW P JN := aC (cH hT (dc abI) hm (aL TB (by kernel_rfl) (by kernel_rfl) (by kernel_rfl)) _ _) aT
theorem Cx : aW P yD := aC (cH hT (dc gH) hm (aL QT (by kernel_rfl) (by kernel_rfl) (by kernel_rfl)) _ _) (aC (cH hT (dc gH) hm (aL acA (by kernel_rfl) (by kernel_rfl) (by kernel_rfl)) _ _) (aC (cH hT (dc gH) hm (aL ac3 (by kernel_rfl) (by kernel_rfl) (by kernel_rfl)) _ _) (aC (cH hT (dc gH) hm (aL Wr (by kernel_rfl) (by kernel_rfl) (by kernel_rfl)) _ _) (aC (cH hT (dc gH) hm (aL abJ (by kernel_rfl) (by kernel_rfl) (by kernel_rfl)) _ _) aT))))
theorem abu : aW P Lc := aC adF (aC (cH hT (dc (gh Cx gH)) hm (aL ab9 (by kernel_rfl) (by kernel_rfl) (by kernel_rfl)) _ _) aT)
theorem ZR : aW P Ih := aC (cH hT (dc abu) hm (aL ZQ (by kernel_rfl) (by kernel_rfl) (by kernel_rfl)) _ _) aT
theorem Wo : ∀ K args pre r, Ff K args pre = some r → az P tB K args pre r := by
 refine bH fun K args r hk hs _ => ?_
 have fin : ∀ {N : Nat} {t : aa (List AV)} {l : List UInt8}, bA T yw [] 60 kr (au kr) ⟨aM 0 [.mag N], [], 0⟩ = some t → (t.all fun _ us => ec us (.str l)) → az P tB K [.mag N] [] (aF (.str l) []) := fun h1 h2 =>
  bD (r := aF _ []) hT RE hm abH rfl (of_decide_eq_true (by kernel_rfl)) rfl 60 h1 (fun _ => h2) K []
 split at hs <;> simp only [Option.some.injEq, reduceCtorEq] at hs
 all_goals subst hs
 ·exact fin Xh (by simp only [aa.all, ax]; exact ⟨by decide, by decide, by decide, by decide, .refl _⟩)
 ·exact fin acD (by simp only [aa.all, ax]; exact ⟨by decide, by decide, by decide, by decide, .refl _⟩)
theorem Ry : ∀ K args pre r, JI K args pre = some r → az P ye K args pre r := by
 refine bH fun K args r hk hs _ => ?_
 split at hs
 ·rename_i q n
  split at hs
  all_goals simp only [Option.some.injEq, reduceCtorEq] at hs
  all_goals subst hs
  obtain rfl : q = 3 / 5 := of_decide_eq_true ‹_›
  exact fk (bD (r := aF _ []) hT (dc (aC Wo aT)) hm ZN rfl (of_decide_eq_true (by kernel_rfl)) rfl 60 Ym (fun _ => .refl _) K []) rfl (show dm [_] [_] from ⟨by rw [← show kids (.rat (3 / 5) n) = [.bool false, .mag 3, .mag 5] from by kernel_rfl]; exact IX, trivial⟩) []
 ·simp at hs
theorem Zg : aW P KR := dc (aC GW (aC zj (aC Ry (gh L6 (gh aab (gh abP (gh Cx (gh NR (gh ZR gH)))))))))
theorem RJ (K : Nat) : az P yt K [] [] (aF (.bool true) []) := by
 refine bD (r := aF (.bool true) []) hT Zg hm (aL abD (by kernel_rfl) (by kernel_rfl) (by kernel_rfl)) rfl (of_decide_eq_true (by kernel_rfl)) rfl 200 L8 (fun _ => ?_) K []
 simp only [aa.all, ax]
 (repeat' with_reducible first | refine And.intro ?_ ?_)
 all_goals first | omega | decide | skip
 ·intro i hi
  match i, hi with
  | 0, _ | 1, _ | 2, _ | 3, _ | 4, _ | 5, _ => exact dN (by decide)
 ·intro i hi
  match i, hi with
  | 0, _ | 1, _ | 2, _ => exact cN ⟨cN ⟨dN (by decide), dN (by decide), dN (by decide), trivial⟩, dN (by decide), trivial⟩
 ·refine RP fun i hi => ?_
  match i, hi with
  | 0, _ | 1, _ | 2, _ | 3, _ | 4, _ | 5, _ => decide +kernel
 ·decide +kernel
 ·intro i hi
  match i, hi with
  | 0, _ | 1, _ | 2, _ | 3, _ | 4, _ | 5, _ => exact dN (by decide)
 ·intro i hi
  match i, hi with
  | 0, _ | 1, _ | 2, _ | 3, _ | 4, _ | 5, _ => exact dN (by decide)
 all_goals first | exact .refl _ | decide +kernel
def Ji : Spec := bt fun l => match l with
 | [] => some (aF (.bool true) [])
 | _ => none
theorem ads : ∀ K args pre r, Ji K args pre = some r → az P yt K args pre r := by
 refine bH fun K args r hk hs _ => ?_
 split at hs
 ·simp only [Option.some.injEq] at hs
  subst hs
  exact RJ K
 ·simp at hs
end Go.Am.B

/- shapes.Polyline, ref14.Polyline. -/
namespace Go.Am.B
open Go Go.Am.N AV aa ag IntKind
theorem Jd : aP P tW oC (au oC) := aL abN (by kernel_rfl) (by kernel_rfl) (by kernel_rfl)
def vV : AV → V3
 | .agg [x, y, z] => ⟨aK x, aK y, aK z⟩
 | _ => ⟨0, 0, 0⟩
def BH (f : Nat → AV) (n s : Nat) : Prop := ∀ i, i < n → bn (f i) (vA (vV (f i)) s)
abbrev qd (f : Nat → V3) (n s : Nat) : AV := .aj 9 n (fun i => vA (f i) s)
def Dn : AV → Option (Nat × (Nat → AV))
 | .aj 9 n f => some (n, f)
 | .nil => some (0, fun _ => .nil)
 | _ => none
theorem Qy {v : AV} {n s : Nat} {f : Nat → AV} (h : Dn v = some (n, f)) (ha : BH f n s) : bn v (qd (fun i => vV (f i)) n s) := by
 unfold Dn at h
 split at h
 ·simp only [Option.some.injEq, Prod.mk.injEq] at h
  obtain ⟨rfl, rfl⟩ := h
  exact gC ha
 ·simp only [Option.some.injEq, Prod.mk.injEq] at h
  obtain ⟨rfl, rfl⟩ := h
  exact gL (by omega)
 ·simp at h
def kVl (s : Nat) : Kind (Nat × (Nat → V3)) := ⟨fun v => match Dn v with
 | some (n, f) => some ((n, fun i => vV (f i)), [BH f n s])
 | none => none, fun a => qd a.2 a.1 s, fun {v a q} h hq => by
  split at h
  ·rename_i h1
   simp only [Option.some.injEq, Prod.mk.injEq] at h
   obtain ⟨rfl, rfl⟩ := h
   exact Qy h1 hq
  ·simp at h⟩
def fG (n j : Nat) : Rat := ((min (j - 1) (n - 1) : Nat) : Rat)
def vC (g : Nat → V3) (j : Nat) : Pl := ⟨g j, 1⟩
def ju (n : Nat) : Int := if n < 2 then 1 else if 40 < n then 2 else 0
def gV (n a : Nat) : Nat := if n < 2 then 0 else if 40 < n then 0 else a
def jZ (n : Nat) (g : Nat → V3) : Cu := ⟨(gV n 1 : Nat), gV n (n + 2), fG n, gV n n, vC g⟩
abbrev xQ (n : Nat) (g : Nat → V3) : AV := .tuple [cQ (jZ n g) 64 100, .int .i64 (ju n)]
noncomputable abbrev wj : Code := au oC
noncomputable def zd : aQ := nG :: x3 :: (nQ ++ jG)
abbrev vu : List Nat := [2, 3, 0, 4, 20, 21, 22]
abbrev Dj (n : Nat) (g : Nat → V3) (i : Nat) : List AV := [.ptr 0 0 3 0 [], .int .i64 0, qd g n 64, .ptr 1 0 3 0 [], qd g n 64, .int .i64 n, .int .i64 i]
abbrev pyZ : ay := ⟨false, true, 3, 1, fun _ => .agg [.int .i64 0, .nil, .nil]⟩
abbrev MR : ay := ⟨false, true, 3, 1, fun j => if (j == (0 : Nat)) = true then bk (.agg (kids (.agg [.int .i64 0, .nil, .nil]))) else .agg [.int .i64 0, .nil, .nil]⟩
abbrev VE (v w : AV) : ay := ⟨false, true, 3, 1, fun _ => .agg [.int .i64 1, v, w]⟩
abbrev A6 (n : Nat) (g : Nat → V3) (i : Nat) : aD := [(3, ⟨true, true, 12, i, fun j => bw (vC g j) 100⟩), (2, ⟨true, true, 3, i + 1, fun j => .rat (fG n j) 64⟩), (1, VE (.own 2 3 0 (i + 1)) (.own 3 12 0 i)), (0, pyZ)]
theorem NC {n : Nat} {g : Nat → V3} : aH T zd [7, 12] 60 vu (before wj [1,1,1,0,1]) ⟨aM 0 [qd g n 64], [], 0⟩ =
  let c8 : Int := (↑n : Int); let c7 : Prop := 0 < 1; let c5 : AV := int i64 (0 : Int); let c4 : AV := ptr 0 0 3 0 []; let c1 : AV := aj 9 n fun i ↦ agg [rat (g i).x 64, rat (g i).y 64, rat (g i).z 64]; let c6 : List AV := [c1, tuple [], tuple [], tuple [], tuple []]; let c3 : AV := agg [c5, nil, nil]; let c2 : List (Nat × ay) := [((0 : Nat), ay.mk false true 3 1 fun j ↦ if (j == 0) = true then bk (agg c3.kids) else c3)]; some (fork (decide (c8 < (2 : Int))) (af [c7] (leaf ret (c4 :: int i64 (1 : Int) :: c6, c2))) (fork (decide (c8 > (40 : Int))) (af [c7] (leaf ret (c4 :: int i64 (2 : Int) :: c6, c2))) (af [(1 : Nat) * 1 ≤ 2 ^ 24, c7] (leaf normal ([c4, c5, c1, ptr 53248 0 3 0 [], c1, int i64 c8, c5], [((45056 : Nat), ay.mk true true 3 1 fun i ↦ rat (↑(intOf (nth [c5] c5 (i + 0))) : Rat) 64), ((53248 : Nat), ay.mk false true 3 1 fun j ↦ if (j == 0) = true then bk (agg ((c3.kids.set 0 (bk (int i64 (1 : Int)))).set 1 (bk (lN [own (nat_lit 45055 + 1) 3 0 1])))) else c3), ((0 : Nat), ay.mk false true 3 1 fun x ↦ c3)]))))) := by kernel_rfl
theorem aaP {n i : Nat} {g : Nat → V3} : aH T zd [23] 60 vu [part wj [1,1,1,0,1,0,0]] ⟨aB vu (Dj n g i), A6 n g i, 4⟩ =
  let c16 : Int := (↑n : Int); let c13 : AV := int i64 (0 : Int); let c12 : AV := ptr 1 0 3 0 []; let c11 : AV := ptr 0 0 3 0 []; let c10 : Int := (2 : Int) ^ 63; let c9 : Nat := 64 + 1 + 1; let c8 : AV := rat 0 1; let c6 : Int := (↑i : Int); let c5 : Nat := i + 1; let c3 : Prop := 0 < 1; let c2 : AV := aj 9 n fun i ↦ agg [rat (g i).x 64, rat (g i).y 64, rat (g i).z 64]; let c15 : Nat := c5 + 1; let c14 : Int := c6 + (1 : Int); let c7 : Nat × ay := ((0 : Nat), ay.mk false true 3 1 fun x ↦ agg [c13, nil, nil]); let c1 : AV := agg [int i64 (1 : Int), own 2 3 0 c5, own 3 12 0 i]; let c4 : AV := agg (c1.kids.set 1 (bk (own (nat_lit 49155 + 1) 3 0 c15))); some (fork (decide (c6 < c16)) (af [(0 : Int) ≤ c6 ∧ c6.toNat < n, c3] (af [c3, -c10 ≤ c6, c6 < c10, (1 : Nat) * 3 ≤ 2 ^ 24, c15 * ((56 : Nat) + 1) * 2 ≤ 2 ^ 47, c3] (af [c3, c3, c3, c3, c3, (1 : Nat) * 12 ≤ 2 ^ 24, c5 * ((224 : Nat) + 1) * 2 ≤ 2 ^ 47, c3] (af [-c10 ≤ c14 ∧ c14 < c10] (leaf normal ([c11, c13, c2, c12, c2, int i64 c16, int i64 c14], [((81924 : Nat), ay.mk true true 12 c5 fun i_1 ↦ if i_1 < i then bw (vC g i_1) 100 else nth [agg [agg [rat ((g c6.toNat).x + 0) c9, rat ((g c6.toNat).y + 0) c9, rat ((g c6.toNat).z + 0) c9], rat (↑(1 : Int) : Rat) (Max.max 1 (aS (Int.natAbs (1 : Int))))]] (agg [agg [c8, c8, c8], c8]) (i_1 - i + 0)), ((49156 : Nat), ay.mk true true 3 c15 fun i ↦ if i < c5 then rat (fG n i) 64 else nth [rat (↑c6 : Rat) (Max.max 1 (aS c6.natAbs))] c8 (i - c5 + 0)), ((1 : Nat), ay.mk false true 3 1 fun j ↦ if (j == 0) = true then agg ((if ((0 : Nat) == 0) = true then c4 else c1).kids.set 2 (bk (own (nat_lit 81923 + 1) 12 0 c5))) else if (j == 0) = true then c4 else c1), c7])))))) (leaf (exit 1) ([c11, c13, c2, c12, c2, int i64 c16, int i64 c6], [((3 : Nat), ay.mk true true 12 i fun j ↦ agg [agg [rat (g j).x 100, rat (g j).y 100, rat (g j).z 100], rat 1 100]), ((2 : Nat), ay.mk true true 3 c5 fun j ↦ rat (fG n j) 64), ((1 : Nat), ay.mk false true 3 1 fun x ↦ c1), c7]))) := by kernel_rfl
theorem Vj {n i : Nat} {g : Nat → V3} : bW T zd [] 60 oC [part wj [1,1,1,1]] ⟨aB vu (Dj n g i), A6 n g i, 4⟩ =
  let c4 : Nat := i + 1; let c3 : Int := (2 : Int) ^ 63; let c2 : Prop := 0 < 1; let c1 : Int := (↑n : Int) - (1 : Int); some (af [c2, -c3 ≤ c1 ∧ c1 < c3, -c3 ≤ c1, c1 < c3, (1 : Nat) * 3 ≤ 2 ^ 24, (c4 + 1) * ((56 : Nat) + 1) * 2 ≤ 2 ^ 47, c2] (af [c2, c2] (af [c2] (leaf ret [agg [int i64 (1 : Int), aj 3 (c4 + 1) fun i ↦ if i + 0 < c4 then rat (fG n (i + 0)) 64 else nth [rat (↑c1 : Rat) (Max.max 1 (aS c1.natAbs))] (rat 0 1) (i + 0 - c4 + 0), aj 12 i fun i ↦ agg [agg [rat (g (i + 0)).x 100, rat (g (i + 0)).y 100, rat (g (i + 0)).z 100], rat 1 100]], int i64 (0 : Int)])))) := by kernel_rfl
theorem HT {e : Int} : iY T oC .ret ⟨aB [2, 3] [.ptr 0 0 3 0 [], .int .i64 e], [(0, MR)], 4⟩ =
  some (af [(0 : Nat) < 1] (leaf ret [agg [int i64 (0 : Int), nil, nil], int i64 e])) := by kernel_rfl
theorem Kc : aW P zd := eu (aC Iz (gh pe j5))
theorem aaF {n a : Nat} (h : n < 2) : gV n a = 0 := if_pos h
theorem N6 {n a : Nat} (h : 40 < n) : gV n a = 0 := by unfold gV; rw [if_neg (by omega), if_pos h]
theorem Bb {n a : Nat} (h1 : ¬ n < 2) (h2 : ¬ 40 < n) : gV n a = a := by unfold gV; rw [if_neg h1, if_neg h2]
theorem Q5 {n : Nat} (h : n < 2) : ju n = 1 := if_pos h
theorem Zs {n : Nat} (h : 40 < n) : ju n = 2 := by unfold ju; rw [if_neg (by omega), if_pos h]
theorem Wf {n : Nat} (h1 : ¬ n < 2) (h2 : ¬ 40 < n) : ju n = 0 := by unfold ju; rw [if_neg h1, if_neg h2]
theorem Y5 {i : Nat} (h : i < 2 ^ 30) : max 1 (aS (i : Int).natAbs) ≤ 64 := by
 have : aS (i : Int).natAbs ≤ 30 := fR.2 (by omega)
 omega
theorem Kj {n : Nat} {g : Nat → V3} {e : Int} (h : ∀ a, gV n a = 0) (he : ju n = e) : dm [.agg [.int .i64 0, .nil, .nil], .int .i64 e] [cQ (jZ n g) 64 100, .int .i64 (ju n)] := by
 show dm _ [.agg [.int .i64 (gV n 1 : Nat), .aj 3 (gV n (n + 2)) _, .aj 12 (gV n n) _], .int .i64 (ju n)]
 rw [h, h, h, he]
 exact ⟨cN ⟨.refl _, gL (by omega), gL (by omega), trivial⟩, .refl _, trivial⟩
theorem MS {n i : Nat} (h : i < n) : ((i : Int) : Rat) = fG n (i + 1) := by
 unfold fG
 rw [show min (i + 1 - 1) (n - 1) = i by omega]
 rfl
theorem Ui {n : Nat} (h : 1 ≤ n) : (((n : Int) - 1 : Int) : Rat) = fG n (n + 1) := by
 unfold fG
 rw [show (n : Int) - 1 = ((min (n + 1 - 1) (n - 1) : Nat) : Int) by omega]
 rfl
theorem Et {rl : List (Nat × Nat)} {n i a b : Nat} (h1 : aX rl 2 = some a) (h2 : aX rl 3 = some b) : ga rl (.agg [.int .i64 1, .own a 3 0 n, .own b 12 0 i]) (.agg [.int .i64 1, .own 2 3 0 n, .own 3 12 0 i]) :=
 mm ⟨⟨rfl, aG rfl⟩, ⟨rfl, cj h1 rfl rfl⟩, ⟨rfl, cj h2 rfl rfl⟩, trivial⟩
theorem SJ {n : Nat} {g : Nat → V3} (h2 : 2 ≤ n) (h3 : n ≤ 40) : dm [.agg [.int .i64 1, .aj 3 (n + 1 + 1) fun j => if j + 0 < n + 1 then .rat (fG n (j + 0)) 64 else nth [.rat (((n : Int) - 1 : Int) : Rat) (max 1 (aS ((n : Int) - 1).natAbs))] (.rat 0 1) (j + 0 - (n + 1) + 0), .aj 12 n fun j => bw (vC g (j + 0)) 100], .int .i64 0] [cQ (jZ n g) 64 100, .int .i64 (ju n)] := by
 show dm _ [.agg [.int .i64 (gV n 1 : Nat), .aj 3 (gV n (n + 2)) _, .aj 12 (gV n n) _], .int .i64 (ju n)]
 rw [Bb (by omega) (by omega), Bb (by omega) (by omega), Bb (by omega) (by omega), Wf (by omega) (by omega)]
 refine ⟨cN ⟨.refl _, gC fun j hj => ?_, .refl _, trivial⟩, .refl _, trivial⟩
 by_cases h : j < n + 1
 ·show bn (if j < n + 1 then _ else _) _
  rw [if_pos h]; exact .refl _
 ·show bn (if j < n + 1 then _ else _) _
  have : j = n + 1 := by omega
  subst this
  rw [if_neg h, Nat.add_zero, Nat.sub_self]
  have : aS ((n : Int) - 1).natAbs ≤ 30 := fR.2 (by omega)
  exact cr (Ui (by omega)) (by omega)
theorem py0 {rl : List (Nat × Nat)} {n k : Nat} (hk : k < 0 + 1) : ga rl (.rat ((intOf (nth [.int .i64 0] (.int .i64 0) (k + 0)) : Int) : Rat) 64) (.rat (fG n k) 64) := by
 have : k = 0 := by omega
 subst this
 have e : fG n 0 = 0 := by
  unfold fG
  rw [show min (0 - 1) (n - 1) = 0 by omega]
  rfl
 rw [e]
 exact aN rfl rfl
theorem ac2 {n : Nat} {g : Nat → V3} (hn : n < 2 ^ 30) (K : Nat) : az P tW K [qd g n 64] [] (aF (xQ n g) []) := by
 refine fe (r := aF (xQ n g) []) hT Jd rfl (of_decide_eq_true (by kernel_rfl)) rfl (fun _ cx h0 => ?_) K []
 have hk := jO h0
 refine aq.jx hT Kc hm [1,1,1,0,1] (i := 1) (y := part wj [1,1,1,0,1,0,0]) (z := part wj [1,1,1,1]) (by kernel_rfl) (by kernel_rfl) (by kernel_rfl) Jd.dst hk (f1 := [7, 12]) (f2 := [23]) 60 vu 4
  (fun i : Nat => Dj n g i) (fun i => A6 n g i) (fun i => i ≤ n ∧ 2 ≤ n ∧ n ≤ 40) (fun i => i = n ∧ 2 ≤ n ∧ n ≤ 40) (fun i => n - i) (CG T oC [2, 3] (xQ n g)) ⟨_, NC, ?_⟩ (fun i ⟨h1, h2, h3⟩ => ⟨_, aaP, ?_⟩) (fun i ⟨h1, h2, h3⟩ => ?_) (fun v s' hv hs' => hv.fin (L1 := [0, 4, 20, 21, 22]) hk hs')
 all_goals try simp only [aa.all, ax, decide_eq_true_eq, decide_eq_false_iff_not, Int.toNat_natCast]
 ·exact ⟨fun h => ⟨by omega, [.ptr 0 0 3 0 [], .int .i64 1], _, 4, _, rfl, rfl, rfl, HT, rfl, ⟨⟨by omega, fun _ _ => Jh rfl rfl⟩, trivial⟩, ⟨Nat.zero_lt_one, Kj (n := n) (g := g) (fun _ => aaF (by omega)) (Q5 (by omega))⟩⟩, fun h => ⟨fun h' => ⟨by omega, [.ptr 0 0 3 0 [], .int .i64 2], _, 4, _, rfl, rfl, rfl, HT, rfl, ⟨⟨by omega, fun _ _ => Jh rfl rfl⟩, trivial⟩, ⟨Nat.zero_lt_one, Kj (n := n) (g := g) (fun _ => N6 (by omega)) (Zs (by omega))⟩⟩,
   fun h' => ⟨⟨by omega, by omega⟩, 0, ⟨by omega, by omega, by omega⟩, [(0, 0), (1, 53248), (2, 45056)], rfl, rfl, rfl, pH rfl (by omega) (by omega) (bP rfl rfl rfl (fun k hk => py0 hk) (aR rfl rfl (mm ⟨⟨rfl, aG rfl⟩, ⟨rfl, cj rfl rfl rfl⟩, ⟨rfl, pL (by omega)⟩, trivial⟩) (aR rfl rfl (aN rfl rfl) trivial)))⟩⟩⟩
 ·refine ⟨fun h => ⟨by omega, by omega, by omega, by omega, i + 1, ⟨by omega, h2, h3⟩, by dsimp only; omega, [(0, 0), (1, 1), (2, 49156), (3, 81924)], rfl, rfl, rfl, bP rfl rfl rfl (fun k hk => yV (y := vC g) (fun _ _ => rfl) ?_ rfl (Nat.le_refl _) (Nat.le_refl _) hk) (bP rfl rfl rfl (fun k hk => yM (fun _ _ => rfl) (MS (by omega)) (Nat.le_refl _) (Y5 (by omega)) hk) (aR rfl rfl (Et rfl rfl) (aR rfl rfl (aN rfl rfl) trivial)))⟩,
   fun h => ⟨rfl, i, ⟨by omega, h2, h3⟩, [(0, 0), (1, 1), (2, 2), (3, 3)], rfl, rfl, rfl, bP rfl rfl rfl (fun _ _ => aN rfl rfl) (bP rfl rfl rfl (fun _ _ => aN rfl rfl) (aR rfl rfl (Et rfl rfl) (aR rfl rfl (aN rfl rfl) trivial)))⟩⟩
  exact cN ⟨cN ⟨cr (Rat.add_zero _) (by decide), cr (Rat.add_zero _) (by decide), cr (Rat.add_zero _) (by decide), trivial⟩, cr rfl (by decide), trivial⟩
 ·subst h1
  refine aq.jq ((aA.fin hT Kc hm 60 Vj (by kernel_rfl) ?_).mono fun _ _ h => .inl h)
  simp only [aa.all, ax]
  exact ⟨⟨by omega, by omega, by omega, by omega, by omega, by omega, by omega⟩, by omega, by omega, SJ h2 h3⟩
def Hw : Spec := dM (kC (kVl 64) kN) (fun a => xQ a.1.1 a.1.2) fun a => [a.1.1 < 2 ^ 30]
theorem adu : ∀ K args pre r, Hw K args pre = some r → az P tW K args pre r := dP fun _ K hn => ac2 hn K
end Go.Am.B

/- spline.Copied, shapes.clamped, shapes.Revolve. -/
namespace Go.Am.B
open Go Go.Am.N AV aa ag IntKind
theorem VN : aP P nJ qm (au qm) := aL FX (by kernel_rfl) (by kernel_rfl) (by kernel_rfl)
abbrev Dg (y m : Nat) (k : Nat → Rat) : ay := ⟨true, true, 3, m, fun i => .rat (k i) y⟩
noncomputable abbrev vS : Code := au qm
abbrev wL : List Nat := [3, 9, 10, 11]
abbrev Cq (x n : Nat) (k : Nat → Rat) (i : Nat) : List AV := [.own 0 3 0 i, bX k n x, .int .i64 n, .int .i64 i]
noncomputable def zX : aQ := nG :: s8
theorem SR {x n : Nat} {k : Nat → Rat} : aH T zX [] 60 wL (before vS [1,1,0,1]) ⟨aM 0 [bX k n x], [], 0⟩ =
  let c1 : Int := (↑n : Int); some (af [(0 : Int) ≤ (0 : Int) ∧ (0 : Int) ≤ c1 ∧ c1 ≤ (2 : Int) ^ 47 ∧ c1 * (↑(56 : Nat) : Int) ≤ (2 : Int) ^ 47] (leaf normal ([own 12288 3 0 0, aj 3 n fun i ↦ rat (k i) x, int i64 c1, int i64 (0 : Int)], [((12288 : Nat), ay.mk true true 3 0 fun x ↦ rat 0 1)]))) := by kernel_rfl
theorem Rq {x y n i : Nat} {k : Nat → Rat} : aH T zX [12] 60 wL [part vS [1,1,0,1,0,0]] ⟨aB wL (Cq x n k i), [(0, Dg y i k)], 1⟩ =
  let c4 : Int := (↑n : Int); let c2 : AV := aj 3 n fun i ↦ rat (k i) x; let c1 : Int := (↑i : Int); let c3 : Int := c1 + (1 : Int); some (fork (decide (c1 < c4)) (af [(0 : Int) ≤ c1 ∧ c1.toNat < n, (0 : Nat) < 1] (af [(0 : Nat) < 1, x < 2 ^ 42, (1 : Nat) < 2 ^ 42, (1 : Nat) * 3 ≤ 2 ^ 24, (i + 1) * ((56 : Nat) + 1) * 2 ≤ 2 ^ 47] (af [-(2 : Int) ^ 63 ≤ c3 ∧ c3 < (2 : Int) ^ 63] (leaf normal ([own 40961 3 0 (i + 1), c2, int i64 c4, int i64 c3], [((40961 : Nat), ay.mk true true 3 (i + 1) fun i_1 ↦ if i_1 < i then rat (k i_1) y else nth [rat (k c1.toNat + 0) (x + 1 + 1)] (rat 0 1) (i_1 - i + 0))]))))) (leaf (exit 0) ([own 0 3 0 i, c2, int i64 c4, int i64 c1], [((0 : Nat), ay.mk true true 3 i fun i ↦ rat (k i) y)]))) := by kernel_rfl
theorem Z4 {x y n i : Nat} {k : Nat → Rat} : bW T zX [] 60 qm [part vS [1,1,1]] ⟨aB wL (Cq x n k i), [(0, Dg y i k)], 1⟩ =
  some (leaf ret [aj 3 i fun i ↦ rat (k (i + 0)) y]) := by kernel_rfl
theorem ZM : aW P zX := eu yx
theorem ab4 {x y n : Nat} {k : Nat → Rat} (hxy : x + 10 ≤ y) (hy : y < 2 ^ 40) (hn : n < 2 ^ 40) (K : Nat) : az P nJ K [bX k n x] [] (aF (bX k n y) []) := by
 refine jy (r := aF (bX k n y) []) hT ZM hm VN rfl (of_decide_eq_true (by kernel_rfl)) rfl [1,1,0,1] (i := 0) (y := part vS [1,1,0,1,0,0]) (z := part vS [1,1,1]) (by kernel_rfl) (by kernel_rfl) (by kernel_rfl) (f1 := []) (f2 := [12]) (f3 := []) 60 wL 1
  (fun i : Nat => Cq x n k i) (fun i => [(0, Dg y i k)]) (fun i => i ≤ n) (fun i => i = n) (fun i => n - i) (fun _ => ⟨⟨_, SR, ?_⟩, fun i hi => ⟨_, Rq, ?_⟩, fun i hi => ⟨_, Z4, ?_⟩⟩) K []
 ·simp only [aa.all, ax]
  exact ⟨by omega, 0, Nat.zero_le _, [(0, 12288)], rfl, rfl, rfl, bP rfl rfl rfl (fun i hi => absurd hi (Nat.not_lt_zero i)) trivial⟩
 ·simp only [aa.all, ax, decide_eq_true_eq, decide_eq_false_iff_not, Int.toNat_natCast, Nat.add_zero]
  exact ⟨fun h2 => ⟨by omega, by omega, by omega, i + 1, by omega, by dsimp only; omega, [(0, 40961)], rfl, rfl, rfl, bP rfl rfl rfl (fun j hj => yM (fun _ _ => rfl) (Rat.add_zero _) (Nat.le_refl _) (by omega) hj) trivial⟩, fun h2 => ⟨rfl, i, by omega, [(0, 0)], rfl, rfl, rfl, bP rfl rfl rfl (fun j hj => aN rfl rfl) trivial⟩⟩
 ·subst hi
  simp only [aa.all, ax]
  exact qV rfl fun j hj => rfl
def Ac (x y : Nat) : Spec := dM (kC (kL x) kN) (fun a => bX a.1.2 a.1.1 y) fun a => [x + 10 ≤ y, y < 2 ^ 40, a.1.1 < 2 ^ 40]
theorem GK (x y : Nat) : ∀ K args pre r, Ac x y K args pre = some r → az P nJ K args pre r := dP fun ⟨⟨n, k⟩, _⟩ K hn => ab4 hn.1 hn.2.1 hn.2.2 K
end Go.Am.B

/- shapes.Revolve. -/
namespace Go.Am.B
open Go Go.Am.N AV aa ag IntKind
end Go.Am.B
