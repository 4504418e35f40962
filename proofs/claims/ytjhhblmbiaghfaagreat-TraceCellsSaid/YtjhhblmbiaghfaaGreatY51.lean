/- ref22.Components. -/
import Derived.Test.YtjhhblmbiaghfaaGreatB123
import Derived.Test.YtjhhblmbiaghfaaGreatC13
import Derived.Test.YtjhhblmbiaghfaaGreatY45
import Derived.Test.YtjhhblmbiaghfaaGreatY48
set_option linter.unusedVariables false
namespace Go.Am.B
open Go Go.Am.N AV af ak IntKind
theorem Eo : aO P qS s6 (ax s6) := aP Vz (by kernel_rfl) (by kernel_rfl) (by kernel_rfl)
noncomputable def gx : aW := zG :: (qD, nT) :: []
noncomputable abbrev yL : Code := ax s6
noncomputable abbrev vh : Code := part yL [1,1,1]
noncomputable abbrev qp : Code := part vh [1]
noncomputable abbrev tH : Code := part vh [0,1,0,0]
noncomputable abbrev w7 : Code := part tH [1,0]
noncomputable abbrev tR : Code := part w7 [1,1,0,0]
noncomputable abbrev xz : Code := part tR [1,0,0]
noncomputable abbrev IS : Code := part xz [1,0,0]
noncomputable abbrev vY : Code := part qp [1,0,1,0,0]
noncomputable abbrev w8 : Code := part vY [1,0,0]
noncomputable abbrev FK : Code := part w8 [1,0,1,0,0]
abbrev qP : List Nat := [0, 3, 4]
abbrev BK (x : Nat → Ce) (n i : Nat) : List AV := [cq x n 64, .own 0 1 0 n, .int .i64 i]
abbrev fV (n : Nat) (l : Nat → Nat) : aB := [(0, er n fun a => ((l a : Nat) : Int))]
abbrev lK : List Nat := [0, 3, 5]
abbrev qq (x : Nat → Ce) (n : Nat) (ch : Bool) : List AV := [cq x n 64, .own 0 1 0 n, .bool ch]
abbrev oM : List Nat := [0, 3, 5, 6]
abbrev Cc (x : Nat → Ce) (n : Nat) (ch : Bool) (i : Nat) : List AV := [cq x n 64, .own 0 1 0 n, .bool ch, .int .i64 i]
abbrev ue : List Nat := [0, 3, 5, 6, 7]
abbrev wC (x : Nat → Ce) (n : Nat) (ch : Bool) (i k : Nat) : List AV := [cq x n 64, .own 0 1 0 n, .bool ch, .int .i64 i, .int .i64 k]
abbrev m7 : List Nat := [0, 3, 9, 10]
abbrev o6 (x : Nat → Ce) (n m r : Nat) : List AV := [cq x n 64, .own 0 1 0 n, .own 1 1 0 m, .int .i64 r]
abbrev nw (n m : Nat) (l : Nat → Nat) (g : Nat → AV) : aB := [(1, ⟨true, true, 1, m, g⟩), (0, er n fun a => ((l a : Nat) : Int))]
abbrev ry : List Nat := [0, 3, 9, 10, 11, 12]
abbrev v9 (x : Nat → Ce) (n m r q i : Nat) : List AV := [cq x n 64, .own 0 1 0 n, .own 1 1 0 m, .int .i64 r, .own 2 1 0 q, .int .i64 i]
abbrev rD (n m : Nat) (l : Nat → Nat) (g : Nat → AV) (C : List Nat) : aB := [(2, ⟨true, true, 1, C.length, hJ C⟩), (1, ⟨true, true, 1, m, g⟩), (0, er n fun a => ((l a : Nat) : Int))]
theorem MH {x : Nat → Ce} {n : Nat} : aF T gx [] 60 qP (before yL [1,1,0,1]) ⟨aN 0 [cq x n 64], [], 0⟩ =
  let c1 : Int := (↑n : Int); some (ag [(0 : Int) ≤ c1 ∧ c1 ≤ c1 ∧ c1 ≤ (2 : Int) ^ 47 ∧ c1 * (↑(8 : Nat) : Int) ≤ (2 : Int) ^ 47] (leaf normal ([ah 4 n fun i ↦ agg [ah 6 (x i).na fun i_1 ↦ agg [rat ((x i).a i_1).lo 64, rat ((x i).a i_1).hi 64], ah 6 (x i).nb fun i_1 ↦ agg [rat ((x i).b i_1).lo 64, rat ((x i).b i_1).hi 64], int i64 (x i).k, int i64 (x i).j], own 12288 1 0 c1.toNat, int i64 (0 : Int)], [((12288 : Nat), aD.mk true true 1 c1.toNat fun x ↦ int i64 (0 : Int))]))) := by kernel_rfl
theorem SL {x : Nat → Ce} {n i : Nat} {l : Nat → Nat} : aF T gx [19] 60 qP [part yL [1,1,0,1,0,0]] ⟨az qP (BK x n i), fV n l, 1⟩ =
  let c3 : AV := own 0 1 0 n; let c2 : Int := (↑i : Int); let c1 : AV := ah 4 n fun i ↦ agg [ah 6 (x i).na fun i_1 ↦ agg [rat ((x i).a i_1).lo 64, rat ((x i).a i_1).hi 64], ah 6 (x i).nb fun i_1 ↦ agg [rat ((x i).b i_1).lo 64, rat ((x i).b i_1).hi 64], int i64 (x i).k, int i64 (x i).j]; let c4 : Int := c2 + (1 : Int); some (fork (decide (c2 < (↑n : Int))) (ag [(0 : Int) ≤ c2 ∧ c2.toNat < n, c2.toNat + 0 < n] (ag [-(2 : Int) ^ 63 ≤ c4 ∧ c4 < (2 : Int) ^ 63] (leaf normal ([c1, c3, int i64 c4], [((0 : Nat), aD.mk true true 1 n fun j ↦ int i64 (bif j == c2.toNat + 0 then c2 else (↑(l j) : Int)))])))) (leaf (exit 0) ([c1, c3, int i64 c2], [((0 : Nat), aD.mk true true 1 n fun i ↦ int i64 (↑(l i) : Int))]))) := by kernel_rfl
theorem YK {x : Nat → Ce} {n i : Nat} {l : Nat → Nat} : aF T gx [] 60 lK (before vh [0,1]) ⟨az qP (BK x n i), fV n l, 1⟩ =
  some (leaf normal ([ah 4 n fun i ↦ agg [ah 6 (x i).na fun i_1 ↦ agg [rat ((x i).a i_1).lo 64, rat ((x i).a i_1).hi 64], ah 6 (x i).nb fun i_1 ↦ agg [rat ((x i).b i_1).lo 64, rat ((x i).b i_1).hi 64], int i64 (x i).k, int i64 (x i).j], own 0 1 0 n, AV.bool true], [((0 : Nat), aD.mk true true 1 n fun i ↦ int i64 (↑(l i) : Int))])) := by kernel_rfl
theorem T2 {x : Nat → Ce} {n : Nat} {ch : Bool} {l : Nat → Nat} : aF T gx [26] 60 lK (before tH [1]) ⟨az lK (qq x n ch), fV n l, 1⟩ =
  let c1 : List AV × aB := ([ah 4 n fun i ↦ agg [ah 6 (x i).na fun i_1 ↦ agg [rat ((x i).a i_1).lo 64, rat ((x i).a i_1).hi 64], ah 6 (x i).nb fun i_1 ↦ agg [rat ((x i).b i_1).lo 64, rat ((x i).b i_1).hi 64], int i64 (x i).k, int i64 (x i).j], own 0 1 0 n, AV.bool ch], [((0 : Nat), aD.mk true true 1 n fun i ↦ int i64 (↑(l i) : Int))]); some (fork ch (leaf normal c1) (leaf (exit 2) c1)) := by kernel_rfl
theorem PZ {x : Nat → Ce} {n : Nat} {ch : Bool} {l : Nat → Nat} : aF T gx [] 60 oM (before w7 [1,1]) ⟨az lK (qq x n ch), fV n l, 1⟩ =
  some (leaf normal ([ah 4 n fun i ↦ agg [ah 6 (x i).na fun i_1 ↦ agg [rat ((x i).a i_1).lo 64, rat ((x i).a i_1).hi 64], ah 6 (x i).nb fun i_1 ↦ agg [rat ((x i).b i_1).lo 64, rat ((x i).b i_1).hi 64], int i64 (x i).k, int i64 (x i).j], own 0 1 0 n, AV.bool false, int i64 (0 : Int)], [((0 : Nat), aD.mk true true 1 n fun i ↦ int i64 (↑(l i) : Int))])) := by kernel_rfl
theorem YW {x : Nat → Ce} {n i : Nat} {ch : Bool} {l : Nat → Nat} : aF T gx [30] 60 oM (before tR [1,0]) ⟨az oM (Cc x n ch i), fV n l, 1⟩ =
  let c1 : List AV × aB := ([ah 4 n fun i ↦ agg [ah 6 (x i).na fun i_1 ↦ agg [rat ((x i).a i_1).lo 64, rat ((x i).a i_1).hi 64], ah 6 (x i).nb fun i_1 ↦ agg [rat ((x i).b i_1).lo 64, rat ((x i).b i_1).hi 64], int i64 (x i).k, int i64 (x i).j], own 0 1 0 n, AV.bool ch, int i64 (↑i : Int)], [((0 : Nat), aD.mk true true 1 n fun i ↦ int i64 (↑(l i) : Int))]); some (fork (decide ((↑i : Int) < (↑n : Int))) (leaf normal c1) (leaf (exit 4) c1)) := by kernel_rfl
theorem K5 {x : Nat → Ce} {n i : Nat} {ch : Bool} {l : Nat → Nat} : aF T gx [] 60 ue (before xz [1]) ⟨az oM (Cc x n ch i), fV n l, 1⟩ =
  some (leaf normal ([ah 4 n fun i ↦ agg [ah 6 (x i).na fun i_1 ↦ agg [rat ((x i).a i_1).lo 64, rat ((x i).a i_1).hi 64], ah 6 (x i).nb fun i_1 ↦ agg [rat ((x i).b i_1).lo 64, rat ((x i).b i_1).hi 64], int i64 (x i).k, int i64 (x i).j], own 0 1 0 n, AV.bool ch, int i64 (↑i : Int), int i64 (0 : Int)], [((0 : Nat), aD.mk true true 1 n fun i ↦ int i64 (↑(l i) : Int))])) := by kernel_rfl
theorem X8 {x : Nat → Ce} {n i k : Nat} {ch : Bool} {l : Nat → Nat} : aF T gx [35, 47, 57] 60 ue [IS] ⟨az ue (wC x n ch i k), fV n l, 1⟩ =
  let c17 : Int := (↑k : Int); let c16 : Int := (↑i : Int); let c13 : Int := (2 : Int) ^ 63; let c12 : Nat × aD := ((0 : Nat), aD.mk true true 1 n fun i ↦ int i64 (↑(l i) : Int)); let c11 : AV := own 0 1 0 n; let c2 : AV := ah 4 n fun i ↦ agg [ah 6 (x i).na fun i_1 ↦ agg [rat ((x i).a i_1).lo 64, rat ((x i).a i_1).hi 64], ah 6 (x i).nb fun i_1 ↦ agg [rat ((x i).b i_1).lo 64, rat ((x i).b i_1).hi 64], int i64 (x i).k, int i64 (x i).j]; let c10 : Int := c17 + (1 : Int); let c4 : Nat := c16.toNat; let c3 : Nat := c17.toNat; let c15 : Nat := c4 + 0; let c14 : Nat := c3 + 0; let c9 : Prop := (0 : Int) ≤ c17 ∧ c3 < n; let c8 : Prop := (0 : Int) ≤ c16 ∧ c4 < n; let c5 : af (List AV × aB) := ag [-c13 ≤ c10 ∧ c10 < c13] (leaf normal ([c2, c11, AV.bool ch, int i64 c16, int i64 c10], [c12])); let c7 : Int := (↑(l c15) : Int); let c6 : Int := (↑(l c14) : Int); let c18 : Int := if c6 < c7 then c6 else c7; let c1 : af (List AV × aB) := ag [c8, c15 < n, c9, c14 < n] (ag [c8, c15 < n, c9, c14 < n] (ag [-c13 ≤ c10 ∧ c10 < c13] (leaf normal ([c2, c11, AV.bool true, int i64 c16, int i64 c10], [((0 : Nat), aD.mk true true 1 n fun j ↦ int i64 (bif j == c14 then c18 else bif j == c15 then c18 else (↑(l j) : Int)))])))); some (fork (decide (c17 < c16)) (fork (c7 != c6) (ag [c8, c15 < n, c9, c14 < n, (c7 != c6) = true, c8, c9, bK (fun i ↦ sA ((x c4).a i) 64) (x c4).na 64, bK (fun i ↦ sA ((x c4).b i) 64) (x c4).nb 64, bK (fun i ↦ sA ((x c3).a i) 64) (x c3).na 64, bK (fun i ↦ sA ((x c3).b i) 64) (x c3).nb 64, (x c4).na + (x c4).nb < 2 ^ 30, (x c3).na + (x c3).nb < 2 ^ 30] (fork (bif true then gM (Ce.mk (x c4).na (fun i ↦ bR (sA ((x c4).a i) 64)) (x c4).nb (fun i ↦ bR (sA ((x c4).b i) 64)) (x c4).k (x c4).j) (Ce.mk (x c3).na (fun i ↦ bR (sA ((x c3).a i) 64)) (x c3).nb (fun i ↦ bR (sA ((x c3).b i) 64)) (x c3).k (x c3).j) else false) c1 c5)) (ag [c8, c15 < n, c9, c14 < n, (c7 != c6) = false] (fork false c1 c5))) (leaf (exit 6) ([c2, c11, AV.bool ch, int i64 c16, int i64 c17], [c12]))) := by kernel_rfl
theorem Qj {x : Nat → Ce} {n i k : Nat} {ch : Bool} {l : Nat → Nat} : aF T gx [] 60 oM (behind xz [1] ++ [part tR [1,1]]) ⟨az ue (wC x n ch i k), fV n l, 1⟩ =
  let c1 : Int := (↑i : Int) + (1 : Int); some (ag [-(2 : Int) ^ 63 ≤ c1 ∧ c1 < (2 : Int) ^ 63] (leaf normal ([ah 4 n fun i ↦ agg [ah 6 (x i).na fun i_1 ↦ agg [rat ((x i).a i_1).lo 64, rat ((x i).a i_1).hi 64], ah 6 (x i).nb fun i_1 ↦ agg [rat ((x i).b i_1).lo 64, rat ((x i).b i_1).hi 64], int i64 (x i).k, int i64 (x i).j], own 0 1 0 n, AV.bool ch, int i64 c1], [((0 : Nat), aD.mk true true 1 n fun i ↦ int i64 (↑(l i) : Int))]))) := by kernel_rfl
theorem PL {x : Nat → Ce} {n : Nat} {ch : Bool} {l : Nat → Nat} : aF T gx [] 60 m7 (before qp [1,0,1]) ⟨az lK (qq x n ch), fV n l, 1⟩ =
  some (leaf normal ([ah 4 n fun i ↦ agg [ah 6 (x i).na fun i_1 ↦ agg [rat ((x i).a i_1).lo 64, rat ((x i).a i_1).hi 64], ah 6 (x i).nb fun i_1 ↦ agg [rat ((x i).b i_1).lo 64, rat ((x i).b i_1).hi 64], int i64 (x i).k, int i64 (x i).j], own 0 1 0 n, nil, int i64 (0 : Int)], [((0 : Nat), aD.mk true true 1 n fun i ↦ int i64 (↑(l i) : Int))])) := by kernel_rfl
theorem Tw {x : Nat → Ce} {n m r : Nat} {l : Nat → Nat} {g : Nat → AV} : aF T gx [78] 60 m7 (before vY [1,0]) ⟨az m7 (o6 x n m r), nw n m l g, 2⟩ =
  let c1 : List AV × aB := ([ah 4 n fun i ↦ agg [ah 6 (x i).na fun i_1 ↦ agg [rat ((x i).a i_1).lo 64, rat ((x i).a i_1).hi 64], ah 6 (x i).nb fun i_1 ↦ agg [rat ((x i).b i_1).lo 64, rat ((x i).b i_1).hi 64], int i64 (x i).k, int i64 (x i).j], own 0 1 0 n, own 1 1 0 m, int i64 (↑r : Int)], [((1 : Nat), aD.mk true true 1 m fun a ↦ g a), ((0 : Nat), aD.mk true true 1 n fun i ↦ int i64 (↑(l i) : Int))]); some (fork (decide ((↑r : Int) < (↑n : Int))) (leaf normal c1) (leaf (exit 8) c1)) := by kernel_rfl
theorem L9 {x : Nat → Ce} {n m r : Nat} {l : Nat → Nat} {g : Nat → AV} : aF T gx [] 60 ry (before w8 [1,0,1]) ⟨az m7 (o6 x n m r), nw n m l g, 2⟩ =
  some (leaf normal ([ah 4 n fun i ↦ agg [ah 6 (x i).na fun i_1 ↦ agg [rat ((x i).a i_1).lo 64, rat ((x i).a i_1).hi 64], ah 6 (x i).nb fun i_1 ↦ agg [rat ((x i).b i_1).lo 64, rat ((x i).b i_1).hi 64], int i64 (x i).k, int i64 (x i).j], own 0 1 0 n, own 1 1 0 m, int i64 (↑r : Int), nil, int i64 (0 : Int)], [((1 : Nat), aD.mk true true 1 m fun a ↦ g a), ((0 : Nat), aD.mk true true 1 n fun i ↦ int i64 (↑(l i) : Int))])) := by kernel_rfl
theorem J7 {x : Nat → Ce} {n m r i : Nat} {l : Nat → Nat} {g : Nat → AV} {C : List Nat} : aF T gx [84, 92] 60 ry [FK] ⟨az ry (v9 x n m r C.length i), rD n m l g C, 3⟩ =
  let c11 : AV := int i64 (↑r : Int); let c9 : Nat := C.length; let c8 : Int := (↑i : Int); let c7 : Int := (2 : Int) ^ 63; let c6 : AV := own 0 1 0 n; let c5 : AV := own 1 1 0 m; let c2 : List (Nat × aD) := [((1 : Nat), aD.mk true true 1 m fun a ↦ g a), ((0 : Nat), aD.mk true true 1 n fun i ↦ int i64 (↑(l i) : Int))]; let c1 : AV := ah 4 n fun i ↦ agg [ah 6 (x i).na fun i_1 ↦ agg [rat ((x i).a i_1).lo 64, rat ((x i).a i_1).hi 64], ah 6 (x i).nb fun i_1 ↦ agg [rat ((x i).b i_1).lo 64, rat ((x i).b i_1).hi 64], int i64 (x i).k, int i64 (x i).j]; let c12 : Nat := c9 + 1; let c10 : AV := own 2 1 0 c9; let c4 : Nat × aD := ((2 : Nat), aD.mk true true 1 c9 fun a ↦ int i64 (↑(C.getD a 0) : Int)); let c3 : Int := c8 + (1 : Int); some (fork (decide (c8 < (↑n : Int))) (ag [(0 : Int) ≤ c8 ∧ c8.toNat < n, c8.toNat + 0 < n] (fork ((↑(l (c8.toNat + 0)) : Int) == (↑r : Int)) (ag [(1 : Nat) * 1 ≤ 2 ^ 24, c12 * ((8 : Nat) + 1) * 2 ≤ 2 ^ 47] (ag [-c7 ≤ c3 ∧ c3 < c7] (leaf normal ([c1, c6, c5, c11, own 53251 1 0 c12, int i64 c3], ((53251 : Nat), aD.mk true true 1 c12 fun i ↦ if i < c9 then hJ C i else nth [int i64 c8] (int i64 (0 : Int)) (i - c9 + 0)) :: c2)))) (ag [-c7 ≤ c3 ∧ c3 < c7] (leaf normal ([c1, c6, c5, c11, c10, int i64 c3], c4 :: c2))))) (leaf (exit 10) ([c1, c6, c5, c11, c10, int i64 c8], c4 :: c2))) := by kernel_rfl
theorem Pq {x : Nat → Ce} {n m r i : Nat} {l : Nat → Nat} {g : Nat → AV} {C : List Nat} : aF T gx [99] 60 m7 (behind w8 [1,0,1] ++ [part vY [1,1]]) ⟨az ry (v9 x n m r C.length i), rD n m l g C, 3⟩ =
  let c5 : AV := own 0 1 0 n; let c4 : Int := (2 : Int) ^ 63; let c3 : Nat × aD := ((0 : Nat), aD.mk true true 1 n fun i ↦ int i64 (↑(l i) : Int)); let c2 : Int := (↑r : Int) + (1 : Int); let c1 : AV := ah 4 n fun i ↦ agg [ah 6 (x i).na fun i_1 ↦ agg [rat ((x i).a i_1).lo 64, rat ((x i).a i_1).hi 64], ah 6 (x i).nb fun i_1 ↦ agg [rat ((x i).b i_1).lo 64, rat ((x i).b i_1).hi 64], int i64 (x i).k, int i64 (x i).j]; some (fork (decide ((↑C.length : Int) > (0 : Int))) (ag [(1 : Nat) * 1 ≤ 2 ^ 24, (m + 1) * ((24 : Nat) + 1) * 2 ≤ 2 ^ 47] (ag [-c4 ≤ c2 ∧ c2 < c4] (leaf normal ([c1, c5, own 24579 1 0 (m + 1), int i64 c2], [((24579 : Nat), aD.mk true true 1 (m + 1) fun i ↦ if i < m then g i else nth [ah 1 C.length fun i ↦ hJ C (i + 0)] nil (i - m + 0)), c3])))) (ag [-c4 ≤ c2 ∧ c2 < c4] (leaf normal ([c1, c5, own 1 1 0 m, int i64 c2], [((1 : Nat), aD.mk true true 1 m fun a ↦ g a), c3])))) := by kernel_rfl
theorem ZM {x : Nat → Ce} {n m r : Nat} {l : Nat → Nat} {g : Nat → AV} : b9 T gx [] 60 s6 [part qp [1,1]] ⟨az m7 (o6 x n m r), nw n m l g, 2⟩ =
  some (leaf ret [ah 1 m fun i ↦ g (i + 0)]) := by kernel_rfl
theorem qG : br P gx := xC (aJ Jg aY)
theorem Le.drop {c : Ctx} {ρ : Nat → Option Nat} {s s2 : aE} {sl : List (Nat × AV)} (h : Le c ρ s s2) (hs : ∀ t v, look t sl = some v → look t s2.bX = some v) : Le c ρ s ⟨sl, s2.store, s2.next⟩ :=
 ⟨h.inj, fun t v ht => h.bX t v (hs t v ht), h.store, h.dom, h.keep⟩
theorem MW {l m : List (Nat × AV)} {t : Nat} {v : AV} (h : look t l = some v) : look t (l ++ m) = some v := by rw [BX, h]
theorem UO {x : Nat → Ce} {n : Nat} (hn : n ≤ 12) (hx : ek x n) (K : Nat) : aC P qS K [cq x n 64] [] (aK (uv (tT x) n) []) := by
 refine eW (r := aK (uv (tT x) n) []) hT Eo rfl (of_decide_eq_true (by kernel_rfl)) rfl (fun _ cx h0 => ?_) K []
 have hk := kF h0
 have hs := CL (x := x)
 have hob : ∀ {l : Nat → Nat}, fI 1 [(0, 0)] [(0, er n fun a => ((l a : Nat) : Int))] (fV n l) := aT rfl rfl rfl (fun _ _ => aM rfl rfl) trivial
 refine aq.nR hT qG hm [1,1,0,1] (i := 0) (y := part yL [1,1,0,1,0,0]) (z := vh) (by kernel_rfl) (by kernel_rfl) (by kernel_rfl) Eo.dst hk (f1 := []) (f2 := [19]) 60 qP 1 (fun i : Nat => BK x n i) (fun i => fV n fun a => if a < i then a else 0) (fun i => i ≤ n) (fun i => i = n) (fun i => n - i) (fun _ => False)
  ⟨_, MH, ?_⟩ (fun i hi => ⟨_, SL, ?_⟩) (fun i hi => ?_) (fun _ _ h => h.elim)
 ·simp only [af.all, ay, Int.toNat_natCast]
  refine ⟨⟨by omega, by omega, by omega, by omega⟩, 0, Nat.zero_le _, [(0, 12288)], rfl, rfl, rfl, aT rfl rfl rfl (fun a _ => aM rfl ?_) trivial⟩
  show AV.int i64 0 = AV.int i64 ((if a < 0 then a else 0 : Nat) : Int)
  rw [if_neg (Nat.not_lt_zero _)]; rfl
 ·simp only [af.all, ay, decide_eq_true_eq, decide_eq_false_iff_not, Int.toNat_natCast, Nat.add_zero]
  refine ⟨fun h => ⟨⟨⟨by omega, by omega⟩, by omega⟩, by omega, i + 1, by omega, by dsimp only; omega, [(0, 0)], rfl, rfl, rfl, aT rfl rfl rfl (fun a _ => aM rfl ?_) trivial⟩, fun h => ⟨rfl, i, by omega, [(0, 0)], rfl, rfl, rfl, hob⟩⟩
  show AV.int i64 _ = AV.int i64 ((if a < i + 1 then a else 0 : Nat) : Int)
  by_cases ha : a = i
  ·subst ha; simp
  ·have e : (a == i) = false := by simpa using ha
   rw [e, cond_false]
   by_cases hl : a < i
   ·rw [if_pos hl, if_pos (by omega)]
   ·rw [if_neg hl, if_neg (by omega)]
 ·subst hi
  refine aq.yo hT qG hm (x := vh) [0,1] (i := 2) (y := tH) (z := qp) (by kernel_rfl) (by kernel_rfl) (by kernel_rfl) (by kernel_rfl) hk (f1 := []) 60 lK 1 (fun a : Bool × (Nat → Nat) => qq x i a.1) (fun a => fV i a.2)
   (fun a => LI (tT x) i a.2 ∧ (a.1 = false → ∀ b, b < i → a.2 b = bJ (tT x) i b)) (fun a => ∀ b, b < i → a.2 b = bJ (tT x) i b) (fun a => 2 * fQ a.2 i + (if a.1 = true then 1 else 0)) (fun _ => False) ⟨_, YK, ?_⟩ (fun ⟨ch, l⟩ ⟨h1, h2⟩ => ?_) (fun ⟨ch, l⟩ h1 => ?_) (fun _ _ h => h.elim)
  ·simp only [af.all, ay]
   refine ⟨(true, fun a => if a < i then a else 0), ⟨⟨fun b hb => ?_, fun b hb => ?_⟩, fun h => by simp at h⟩, [(0, 0)], rfl, rfl, rfl, hob⟩
   ·dsimp only; rw [if_pos hb]; exact Nat.le_refl _
   ·dsimp only; rw [if_pos hb]; exact xx _ _
  ·have h1 : LI (tT x) i l := h1
   have h2 : ch = false → ∀ b, b < i → l b = bJ (tT x) i b := h2
   refine aq.oY hT qG hm (x := tH) [1] (by kernel_rfl) (by kernel_rfl) (by kernel_rfl) hk (f1 := [26]) 60 lK 1 (fun _ : Unit => qq x i ch) (fun _ => fV i l) (fun _ => ch = true) ⟨_, T2, ?_⟩ (fun _ hch => ?_)
   ·simp only [af.all, ay]
    exact ⟨fun h => ⟨(), h, [(0, 0)], rfl, rfl, rfl, hob⟩, fun h s' hs' => ⟨rfl, (ch, l), h2 h, cQ.le ⟨[(0, 0)], rfl, rfl, rfl, hob⟩ hs' hk⟩⟩
   have e3 : part tH [1] = .block 3 w7 := by kernel_rfl
   rw [e3]
   refine aq.CC ?_
   refine aq.zf hT qG hm (x := w7) [1,1] (i := 4) (y := tR) (by kernel_rfl) (by kernel_rfl) (by kernel_rfl) [1,0] (j := 5) (x1 := xz) (zb := part tR [1,1]) (by kernel_rfl) (by kernel_rfl) (by kernel_rfl) [1] (i2 := 6) (y2 := IS) (by kernel_rfl) (by kernel_rfl) rfl hk
    (f1 := []) (f2 := [30]) (f3 := []) (f4 := [35, 47, 57]) (f5 := []) 60 oM ue 1 1 (fun a : Bool × (Nat → Nat) × Nat => Cc x i a.1 a.2.2) (fun a => fV i a.2.1) (fun a => a.2.2 ≤ i ∧ LJ (tT x) i l a.2.2 0 a.2.1 a.1) (fun a => a.2.2 = i ∧ LJ (tT x) i l a.2.2 0 a.2.1 a.1) (fun a => i - a.2.2) (fun a => a.2.2 < i) (fun _ => False) (fun _ => False)
    (fun a (b : Bool × (Nat → Nat) × Nat) => wC x i b.1 a.2.2 b.2.2) (fun _ b => fV i b.2.1) (fun a b => b.2.2 ≤ a.2.2 ∧ LJ (tT x) i l a.2.2 b.2.2 b.2.1 b.1) (fun a b => b.2.2 = a.2.2 ∧ LJ (tT x) i l a.2.2 b.2.2 b.2.1 b.1) (fun a b => a.2.2 - b.2.2)
    ⟨_, PZ, ?_⟩ (fun ⟨c1, l1, a⟩ ⟨k1, k2⟩ => ⟨_, YW, ?_⟩) (fun ⟨c1, l1, a⟩ ⟨k1, k2⟩ k3 => ⟨_, K5, ?_⟩) (fun ⟨c0, l0, a⟩ ⟨g1, _⟩ g3 ⟨c1, l1, b⟩ ⟨k1, k2⟩ => ⟨_, X8, ?_⟩) (fun ⟨c0, l0, a⟩ ⟨g1, _⟩ g3 ⟨c1, l1, b⟩ ⟨k1, k2⟩ => ⟨_, Qj, ?_⟩) (fun ⟨c1, l1, a⟩ s' ⟨k1, k2⟩ hle => ?_) (fun _ _ h => h.elim) (fun _ _ h => h.elim)
   ·exact ⟨(false, l, 0), ⟨Nat.zero_le _, LJ.start h1⟩, [(0, 0)], rfl, rfl, rfl, hob⟩
   ·simp only [af.all, ay, decide_eq_true_eq, decide_eq_false_iff_not]
    exact ⟨fun h => ⟨by dsimp only; omega, [(0, 0)], rfl, rfl, rfl, hob⟩, fun h => ⟨rfl, (c1, l1, a), ⟨by dsimp only at k1 ⊢; omega, k2⟩, [(0, 0)], rfl, rfl, rfl, hob⟩⟩
   ·exact ⟨(c1, l1, 0), ⟨Nat.zero_le _, k2⟩, [(0, 0)], rfl, rfl, rfl, hob⟩
   ·have k1 : b ≤ a := k1
    have g3 : a < i := g3
    have k2 : LJ (tT x) i l a b l1 c1 := k2
    have et : gM (Ce.mk (x a).na (fun i ↦ bR (sA ((x a).a i) 64)) (x a).nb (fun i ↦ bR (sA ((x a).b i) 64)) (x a).k (x a).j) (Ce.mk (x b).na (fun i ↦ bR (sA ((x b).a i) 64)) (x b).nb (fun i ↦ bR (sA ((x b).b i) 64)) (x b).k (x b).j) = tT x a b := rfl
    simp only [af.all, ay, decide_eq_true_eq, decide_eq_false_iff_not, Int.toNat_natCast, Nat.add_zero, et, cond_true, bne_iff_ne, ne_eq, bne_eq_false_iff_eq]
    have fin : ∀ {v : List AV × aB} {c' : Bool} {l' : Nat → Nat}, b < a → LJ (tT x) i l a (b + 1) l' c' → cQ [] v (wC x i c' a (b + 1)) (fV i l') 1 → Round [] (fun b : Bool × (Nat → Nat) × Nat => wC x i b.1 a b.2.2) (fun b => fV i b.2.1) 1 (fun b => b.2.2 ≤ a ∧ LJ (tT x) i l a b.2.2 b.2.1 b.1) (fun b => b.2.2 = a ∧ LJ (tT x) i l a b.2.2 b.2.1 b.1) (fun b => a - b.2.2) 6 (fun _ => False) (c1, l1, b) .normal v :=
     fun hba hj hre => ⟨(_, _, b + 1), ⟨hba, hj⟩, by dsimp only; omega, hre⟩
    refine ⟨fun hba => ?_, fun hba => ⟨rfl, (c1, l1, b), ⟨by dsimp only; omega, k2⟩, [(0, 0)], rfl, rfl, rfl, hob⟩⟩
    have hba : b < a := by omega
    have aa : (0 : Int) ≤ (a : Int) ∧ a < i := ⟨by omega, g3⟩
    have ab : (0 : Int) ≤ (b : Int) ∧ b < i := ⟨by omega, by omega⟩
    have w1 : -(2 : Int) ^ 63 ≤ (b : Int) + 1 ∧ (b : Int) + 1 < (2 : Int) ^ 63 := by omega
    refine ⟨fun hne => ⟨⟨aa, g3, ab, by omega, hne, aa, ab, bD (Nat.le_refl _), bD (Nat.le_refl _), bD (Nat.le_refl _), bD (Nat.le_refl _), hx a g3, hx b (by omega)⟩, fun ht => ⟨⟨aa, g3, ab, by omega⟩, ⟨aa, g3, ab, by omega⟩, w1, fin hba (k2.step hs g3 hba (fun e => hne (by rw [e])) ht) ⟨[(0, 0)], rfl, rfl, rfl, aT rfl rfl rfl (fun y _ => aM rfl ?_) trivial⟩⟩, fun ht => ⟨w1, fin hba (k2.same (.inr ht)) ⟨[(0, 0)], rfl, rfl, rfl, hob⟩⟩⟩,
     fun heq => ⟨⟨aa, g3, ab, by omega, heq⟩, fun h => by simp at h, fun _ => ⟨w1, fin hba (k2.same (.inl (by omega))) ⟨[(0, 0)], rfl, rfl, rfl, hob⟩⟩⟩⟩
    show AV.int i64 _ = AV.int i64 ((kT l1 a b (min (l1 a) (l1 b)) y : Nat) : Int)
    have em : (if ((l1 b : Nat) : Int) < ((l1 a : Nat) : Int) then ((l1 b : Nat) : Int) else ((l1 a : Nat) : Int)) = ((min (l1 a) (l1 b) : Nat) : Int) := by split <;> omega
    rw [em]
    unfold kT
    by_cases hy : y = b
    ·subst hy; simp
    ·have e1 : (y == b) = false := by simpa using hy
     rw [e1, if_neg hy, cond_false]
     by_cases hy2 : y = a
     ·subst hy2; simp
     ·have e2 : (y == a) = false := by simpa using hy2
      rw [e2, if_neg hy2, cond_false]
   ·have k1 : b = a := k1
    subst k1
    have g3 : b < i := g3
    simp only [af.all, ay]
    exact ⟨by omega, (c1, l1, b + 1), ⟨g3, k2.row⟩, by dsimp only; omega, [(0, 0)], rfl, rfl, rfl, hob⟩
   ·have k1 : a = i := k1
    subst k1
    have k2 : LJ (tT x) a l a 0 l1 c1 := k2
    obtain ⟨ρ, hle⟩ := hle
    refine (show ∃ b : Bool × (Nat → Nat), (LI (tT x) a b.2 ∧ (b.1 = false → ∀ c, c < a → b.2 c = bJ (tT x) a c)) ∧ (2 * fQ b.2 a + (if b.1 = true then 1 else 0) < 2 * fQ l a + (if ch = true then 1 else 0)) ∧ ∃ ρ, Le cx ρ s' ⟨az lK (qq x a b.1), fV a b.2, 1⟩ from ⟨(c1, l1), ⟨k2.toLI, fun hc b hb => ?_⟩, ?_, ρ, Le.drop hle fun t v h => MW (m := [(6, .int .i64 a)]) h⟩)
    ·have hc : c1 = false := hc
     subst hc
     exact k2.end hs hb
    ·show 2 * fQ l1 a + (if c1 = true then 1 else 0) < 2 * fQ l a + (if ch = true then 1 else 0)
     rw [if_pos hch]
     by_cases hc : c1 = true
     ·have := k2.z5 hc
      rw [if_pos hc]; omega
     ·have := k2.u7
      rw [if_neg hc]; omega
  ·have h1 : ∀ b, b < i → l b = bJ (tT x) i b := h1
   have hrl := fun r => B0 (T := tT x) (n := i) (m := r)
   have hob8 : ∀ {m : Nat} {L : List Nat}, fI 2 [(0, 0), (1, 1)] [(1, ⟨true, true, 1, m, dP (tT x) i L⟩), (0, er i fun a => ((l a : Nat) : Int))] (nw i m l (dP (tT x) i L)) := aT rfl rfl rfl (fun _ _ => aM rfl rfl) (aT rfl rfl rfl (fun _ _ => aM rfl rfl) trivial)
   refine aq.Cd hT qG hm (x := qp) [1,0,1] (i := 8) (y := vY) (z := part qp [1,1]) (by kernel_rfl) (by kernel_rfl) (by kernel_rfl) (by kernel_rfl) [1,0] (j := 9) (x1 := w8) (zb := part vY [1,1]) (by kernel_rfl) (by kernel_rfl) (by kernel_rfl) [1,0,1] (i2 := 10) (y2 := FK) (by kernel_rfl) (by kernel_rfl) rfl hk
    (f1 := []) (f2 := [78]) (f3 := []) (f4 := [84, 92]) (f5 := [99]) 60 m7 ry 2 3 (fun r : Nat => o6 x i (roots (tT x) i r).length r) (fun r => nw i (roots (tT x) i r).length l (dP (tT x) i (roots (tT x) i r))) (fun r => r ≤ i) (fun r => r = i) (fun r => i - r) (fun r => r < i) (fun _ => False) (fun _ => False)
    (fun r (a : Nat) => v9 x i (roots (tT x) i r).length r (dH (tT x) i a r).length a) (fun r a => rD i (roots (tT x) i r).length l (dP (tT x) i (roots (tT x) i r)) (dH (tT x) i a r)) (fun _ a => a ≤ i) (fun _ a => a = i) (fun _ a => i - a)
    ⟨_, PL, ?_⟩ (fun r hr => ⟨_, Tw, ?_⟩) (fun r hr hlt => ⟨_, L9, ?_⟩) (fun r hr hlt a ha => ⟨_, J7, ?_⟩) (fun r hr hlt a ha => ⟨_, Pq, ?_⟩) (fun r hr => ?_) (fun _ _ h => h.elim) (fun _ _ h => h.elim)
   ·exact ⟨0, Nat.zero_le _, [(0, 0)], rfl, rfl, rfl, jl rfl (by omega) (by omega) (aT rfl rfl rfl (fun _ _ => aM rfl rfl) trivial)⟩
   ·simp only [af.all, ay, decide_eq_true_eq, decide_eq_false_iff_not]
    exact ⟨fun h => ⟨by omega, [(0, 0), (1, 1)], rfl, rfl, rfl, hob8⟩, fun h => ⟨rfl, r, by omega, [(0, 0), (1, 1)], rfl, rfl, rfl, hob8⟩⟩
   ·exact ⟨0, Nat.zero_le _, [(0, 0), (1, 1)], rfl, rfl, rfl, jl rfl (by omega) (by omega) (aT rfl rfl rfl (fun _ _ => aM rfl rfl) (aT rfl rfl rfl (fun _ _ => aM rfl rfl) trivial))⟩
   ·have ha : a ≤ i := ha
    have hcl := Ef (T := tT x) (n := i) (m := a) (r := r)
    have hc := Pn (T := tT x) (n := i) (m := a) (r := r)
    simp only [af.all, ay, decide_eq_true_eq, decide_eq_false_iff_not, Int.toNat_natCast, Nat.add_zero, beq_iff_eq, beq_eq_false_iff_ne]
    refine ⟨fun hai => ⟨⟨⟨by omega, by omega⟩, by omega⟩, fun he => ⟨⟨by omega, by omega⟩, by omega, a + 1, by omega, by dsimp only; omega, ?_⟩, fun he => ⟨by omega, a + 1, by omega, by dsimp only; omega, ?_⟩⟩, fun hai => ⟨rfl, a, by omega, [(0, 0), (1, 1), (2, 2)], rfl, rfl, rfl, aT rfl rfl rfl (fun _ _ => aM rfl rfl) (aT rfl rfl rfl (fun _ _ => aM rfl rfl) (aT rfl rfl rfl (fun _ _ => aM rfl rfl) trivial))⟩⟩
    ·have he2 : bJ (tT x) i a = r := by rw [← h1 a (by omega)]; omega
     rw [if_pos he2] at hc
     have hlen : (dH (tT x) i a r ++ [a]).length = (dH (tT x) i a r).length + 1 := by simp
     show cQ _ _ (v9 x i (roots (tT x) i r).length r (dH (tT x) i (a + 1) r).length (a + 1)) (rD i (roots (tT x) i r).length l (dP (tT x) i (roots (tT x) i r)) (dH (tT x) i (a + 1) r)) _
     rw [hc]
     refine ⟨[(0, 0), (1, 1), (2, 53251)], rfl, by rw [hlen]; rfl, rfl, aT rfl rfl hlen.symm (fun b hb => aM (vX rfl ?_) ?_) (aT rfl rfl rfl (fun _ _ => aM rfl rfl) (aT rfl rfl rfl (fun _ _ => aM rfl rfl) trivial))⟩
     ·rw [show b - (dH (tT x) i a r).length = 0 by omega]; rfl
     ·show (if b < (dH (tT x) i a r).length then hJ (dH (tT x) i a r) b else nth _ _ (b - (dH (tT x) i a r).length + 0)) = hJ (dH (tT x) i a r ++ [a]) b
      by_cases h : b < (dH (tT x) i a r).length
      ·rw [if_pos h]
       show AV.int _ _ = AV.int _ _
       rw [nM h]
      ·have : b = (dH (tT x) i a r).length := by omega
       subst this
       rw [if_neg h, Nat.sub_self]
       show AV.int _ _ = AV.int _ _
       rw [sK]
    ·have he2 : bJ (tT x) i a ≠ r := by rw [← h1 a (by omega)]; omega
     rw [if_neg he2, List.append_nil] at hc
     show cQ _ _ (v9 x i (roots (tT x) i r).length r (dH (tT x) i (a + 1) r).length (a + 1)) (rD i (roots (tT x) i r).length l (dP (tT x) i (roots (tT x) i r)) (dH (tT x) i (a + 1) r)) _
     rw [hc]
     exact ⟨[(0, 0), (1, 1), (2, 2)], rfl, rfl, rfl, aT rfl rfl rfl (fun _ _ => aM rfl rfl) (aT rfl rfl rfl (fun _ _ => aM rfl rfl) (aT rfl rfl rfl (fun _ _ => aM rfl rfl) trivial))⟩
   ·have ha : a = i := ha
    subst ha
    have hm1 := hrl r
    have hroot := UG (T := tT x) (n := a) hs (r := r)
    simp only [af.all, ay, decide_eq_true_eq, decide_eq_false_iff_not]
    refine ⟨fun hp => ⟨⟨by omega, by omega⟩, by omega, r + 1, by omega, by dsimp only; omega, ?_⟩, fun hp => ⟨by omega, r + 1, by omega, by dsimp only; omega, ?_⟩⟩
    ·have hr2 := (hroot.1 (by omega)).2
     have hr : roots (tT x) a (r + 1) = roots (tT x) a r ++ [r] := by rw [wJ, if_pos hr2]
     have hrlen : (roots (tT x) a r ++ [r]).length = (roots (tT x) a r).length + 1 := by simp
     show cQ _ _ (o6 x a (roots (tT x) a (r + 1)).length (r + 1)) (nw a (roots (tT x) a (r + 1)).length l (dP (tT x) a (roots (tT x) a (r + 1)))) _
     rw [hr]
     refine ⟨[(0, 0), (1, 24579)], rfl, by rw [hrlen]; rfl, rfl, aT rfl rfl hrlen.symm (fun b hb => ?_) (aT rfl rfl rfl (fun _ _ => aM rfl rfl) trivial)⟩
     by_cases h : b < (roots (tT x) a r).length
     ·rw [if_pos h]
      refine aM rfl ?_
      unfold dP
      rw [nM h]
     ·have : b = (roots (tT x) a r).length := by omega
      subst this
      rw [if_neg h, Nat.sub_self]
      refine .inr ⟨rfl, ?_⟩
      unfold dP
      rw [sK]
      exact .refl _
    ·have hr2 : ¬ bJ (tT x) a r = r := fun e => by have := hroot.2 ⟨hlt, e⟩; omega
     have hr : roots (tT x) a (r + 1) = roots (tT x) a r := by rw [wJ, if_neg hr2, List.append_nil]
     show cQ _ _ (o6 x a (roots (tT x) a (r + 1)).length (r + 1)) (nw a (roots (tT x) a (r + 1)).length l (dP (tT x) a (roots (tT x) a (r + 1)))) _
     rw [hr]
     exact ⟨[(0, 0), (1, 1)], rfl, rfl, rfl, hob8⟩
   ·subst hr
    refine aq.js ((aA.fin hT qG hm 60 ZM (by kernel_rfl) ?_).mono fun _ _ h => .inl h)
    exact .refl _
theorem Kq : ∀ K args pre r, vL K args pre = some r → aC P qS K args pre r := en fun _ K hn => UO hn.1 hn.2 K
end Go.Am.B

/- trace.Ends, ref22.Ends, ref22.Hull. -/
namespace Go.Am.B
open Go Go.Am.N AV af ak IntKind
theorem Jd : aO P r7 qF (ax qF) := aP X9 (by kernel_rfl) (by kernel_rfl) (by kernel_rfl)
theorem G5 : aO P sE pK (ax pK) := aP JH (by kernel_rfl) (by kernel_rfl) (by kernel_rfl)
theorem FG : aO P wg nN (ax nN) := aP Ob (by kernel_rfl) (by kernel_rfl) (by kernel_rfl)
def jx (c d : Ce) (k : Nat) : Bool := decide ((c.sp k).lo ≤ (d.sp k).lo ∨ (d.sp k).hi ≤ (c.sp k).hi)
def jy (c d : Ce) : Bool := decide (∃ k, k < c.na + c.nb ∧ jx c d k = true)
def dK (x : Nat → Ce) (w : Nat → Int) (d : Ce) (m : Nat) : List Nat := (List.range m).filter fun i => jy (x (w i).toNat) d
def jm (x : Nat → Ce) (n : Nat) (w : Nat → Int) (m : Nat) (d : Ce) : Int := if b6 x n w m ≠ 0 then b6 x n w m else if ke (x (w 0).toNat) d = true then 0 else 1
def jK (x : Nat → Ce) (n : Nat) (w : Nat → Int) (m : Nat) (d : Ce) : Nat := if jm x n w m d = 0 then (dK x w d m).length else 0
abbrev iq (w : Nat → Int) (C : List Nat) : Nat → AV := fun j => .int .i64 (w (C.getD j 0))
abbrev nB (x : Nat → Ce) (n : Nat) (w : Nat → Int) (m : Nat) (d : Ce) : AV := .tuple [.ah 1 (jK x n w m d) (iq w (dK x w d m)), .int .i64 (jm x n w m d)]
noncomputable def nI : aW := nG :: (vc, pT) :: (pY, lf 64) :: (pV, oC 64) :: BF
noncomputable abbrev uW : Code := ax qF
noncomputable abbrev vj : Code := part uW [1,1,1,1,1,0,1,0,0]
noncomputable abbrev yb : Code := part vj [1,1,0,0]
noncomputable abbrev Hv : Code := part yb [1,1,0,0]
abbrev mI : List Nat := [6, 7, 0, 9, 10, 32, 33, 34]
abbrev wN (x : Nat → Ce) (n : Nat) (w : Nat → Int) (m q M i : Nat) (d : Nat → Sp) : List AV := [.nil, .int .i64 0, cq x n 64, .own 0 1 0 q, de d M 64, cA w m, .int .i64 m, .int .i64 i]
abbrev fc (w : Nat → Int) (C : List Nat) : aB := [(0, ⟨true, true, 1, C.length, iq w C⟩)]
abbrev rP : List Nat := [6, 7, 0, 9, 10, 32, 33, 34, 12, 42, 43, 44]
abbrev r8 (x : Nat → Ce) (n : Nat) (w : Nat → Int) (m q M i N k : Nat) (d f : Nat → Sp) : List AV := [.nil, .int .i64 0, cq x n 64, .own 0 1 0 q, de d M 64, cA w m, .int .i64 m, .int .i64 i, .int .i64 (w i), de f N 64, .int .i64 N, .int .i64 k]
noncomputable def mR : aW := nG :: (pq, pT) :: (qg, lf 64) :: (tA, oC 64) :: pX
noncomputable abbrev sR : Code := ax pK
noncomputable abbrev rX : Code := part sR [1,1,1,1,1,0,1,0,0]
noncomputable abbrev ze : Code := part rX [1,0,0]
noncomputable abbrev D9 : Code := part ze [1,1,0,1,0,0]
abbrev k7 : List Nat := [6, 7, 0, 1, 9, 10, 11]
abbrev qy (x : Nat → Ce) (n : Nat) (w : Nat → Int) (m q M i : Nat) (d : Nat → Sp) : List AV := [.nil, .int .i64 0, cq x n 64, cA w m, .own 0 1 0 q, de d M 64, .int .i64 i]
abbrev uA : List Nat := [6, 7, 0, 1, 9, 10, 11, 12, 13, 14]
abbrev vu (x : Nat → Ce) (n : Nat) (w : Nat → Int) (m q M i N k : Nat) (d f : Nat → Sp) (b : Bool) : List AV := [.nil, .int .i64 0, cq x n 64, cA w m, .own 0 1 0 q, de d M 64, .int .i64 i, de f N 64, .bool b, .int .i64 k]
noncomputable def xX : aW := nG :: (pq, pT) :: (xy, DA) :: []
noncomputable abbrev sk : Code := ax nN
abbrev uu : List Nat := [4, 5, 0, 1, 8, 9]
abbrev BD (x : Nat → Ce) (n : Nat) (w : Nat → Int) (m i : Nat) : List AV := [.ptr 0 0 4 0 [], .int .i64 0, cq x n 64, cA w m, .ptr 1 0 4 0 [], .int .i64 i]
abbrev AU (h : Ce) : aB := [(1, ⟨false, true, 4, 1, fun _ => bk h 64⟩), (0, y3)]
theorem Qk {x : Nat → Ce} {w : Nat → Int} {n m : Nat} {d : Ce} : aF T nI [19, 29] 60 mI (before uW [1,1,1,1,1,0,1]) ⟨aN 0 [cq x n 64, cA w m, bk d 64], [], 0⟩ =
  let c12 : AV := tuple []; let c9 : Nat := Int.toNat (0 : Int); let c7 : Prop := bK (fun i ↦ sA (d.b i) 64) d.nb 64; let c6 : Prop := bK (fun i ↦ sA (d.a i) 64) d.na 64; let c5 : Int := b6 (fun i ↦ cL (bk (x i) 64)) n (fun i ↦ cu (int i64 (w i))) m; let c4 : Nat := 2 ^ 30; let c3 : Ce := Ce.mk d.na (fun i ↦ bR (sA (d.a i) 64)) d.nb (fun i ↦ bR (sA (d.b i) 64)) d.k d.j; let c1 : AV := ah 4 n fun i ↦ agg [ah 6 (x i).na fun i_1 ↦ agg [rat ((x i).a i_1).lo 64, rat ((x i).a i_1).hi 64], ah 6 (x i).nb fun i_1 ↦ agg [rat ((x i).b i_1).lo 64, rat ((x i).b i_1).hi 64], int i64 (x i).k, int i64 (x i).j]; let c8 : List AV := [c1, c12, c12, c12, c12, c12]; let c2 : Nat := (w c9).toNat; let c11 : Nat := (x c2).nb; let c10 : Nat := (x c2).na; some (ag [fZ (fun i ↦ bk (x i) 64) n 64, eA (fun i ↦ int i64 (w i)) m, m < 2 ^ 40, n < 2 ^ 40, ek (fun i ↦ cL (bk (x i) 64)) n] (fork (c5 != (0 : Int)) (leaf ret (nil :: int i64 c5 :: c8, [])) (ag [(0 : Int) ≤ (0 : Int) ∧ c9 < m, (0 : Int) ≤ w c9 ∧ c2 < n, (0 : Nat) < 1, bK (fun i ↦ sA ((x c2).a i) 64) c10 64, bK (fun i ↦ sA ((x c2).b i) 64) c11 64, c6, c7, c10 < c4, c11 < c4, d.na < c4, d.nb < c4] (fork (!decide (c10 = d.na ∧ c11 = d.nb)) (leaf ret (nil :: int i64 (1 : Int) :: c8, [])) (ag [(0 : Nat) < 1, c6, c7, d.na + d.nb < c4] (leaf normal ([nil, int i64 (0 : Int), c1, nil, ah 6 (d.na + d.nb) fun i ↦ agg [rat (c3.sp i).lo 64, rat (c3.sp i).hi 64], ah 1 m fun i ↦ int i64 (w i), int i64 (↑m : Int), int i64 (0 : Int)], []))))))) := by kernel_rfl
theorem X6 {x : Nat → Ce} {w : Nat → Int} {n m M i : Nat} {d : Nat → Sp} {C : List Nat} : aF T nI [35] 60 mI (before vj [1,1,0]) ⟨az mI (wN x n w m C.length M i d), fc w C, 1⟩ =
  let c1 : List AV × aB := ([nil, int i64 (0 : Int), ah 4 n fun i ↦ agg [ah 6 (x i).na fun i_1 ↦ agg [rat ((x i).a i_1).lo 64, rat ((x i).a i_1).hi 64], ah 6 (x i).nb fun i_1 ↦ agg [rat ((x i).b i_1).lo 64, rat ((x i).b i_1).hi 64], int i64 (x i).k, int i64 (x i).j], own 0 1 0 C.length, ah 6 M fun i ↦ agg [rat (d i).lo 64, rat (d i).hi 64], ah 1 m fun i ↦ int i64 (w i), int i64 (↑m : Int), int i64 (↑i : Int)], [((0 : Nat), aD.mk true true 1 C.length fun a ↦ int i64 (w (C.getD a 0)))]); some (fork (decide ((↑i : Int) < (↑m : Int))) (leaf normal c1) (leaf (exit 0) c1)) := by kernel_rfl
theorem Um {x : Nat → Ce} {w : Nat → Int} {n m M i : Nat} {d : Nat → Sp} {C : List Nat} : aF T nI [] 60 rP (before yb [1,1]) ⟨az mI (wN x n w m C.length M i d), fc w C, 1⟩ =
  let c3 : Nat := (↑i : Int).toNat; let c1 : Ce := x (w c3).toNat; let c2 : Ce := Ce.mk c1.na (fun i ↦ bR (sA (c1.a i) 64)) c1.nb (fun i ↦ bR (sA (c1.b i) 64)) c1.k c1.j; some (ag [(0 : Int) ≤ (↑i : Int) ∧ c3 < m] (ag [(0 : Int) ≤ w c3 ∧ (w c3).toNat < n, bK (fun i ↦ sA (c1.a i) 64) c1.na 64, bK (fun i ↦ sA (c1.b i) 64) c1.nb 64, c1.na + c1.nb < 2 ^ 30] (leaf normal ([nil, int i64 (0 : Int), ah 4 n fun i ↦ agg [ah 6 (x i).na fun i_1 ↦ agg [rat ((x i).a i_1).lo 64, rat ((x i).a i_1).hi 64], ah 6 (x i).nb fun i_1 ↦ agg [rat ((x i).b i_1).lo 64, rat ((x i).b i_1).hi 64], int i64 (x i).k, int i64 (x i).j], own 0 1 0 C.length, ah 6 M fun i ↦ agg [rat (d i).lo 64, rat (d i).hi 64], ah 1 m fun i ↦ int i64 (w i), int i64 (↑m : Int), int i64 (↑i : Int), int i64 (w c3), ah 6 (c1.na + c1.nb) fun i ↦ agg [rat (c2.sp i).lo 64, rat (c2.sp i).hi 64], int i64 (↑(c1.na + c1.nb) : Int), int i64 (0 : Int)], [((0 : Nat), aD.mk true true 1 C.length fun a ↦ int i64 (w (C.getD a 0)))])))) := by kernel_rfl
theorem Ry {x : Nat → Ce} {w : Nat → Int} {n m M i N k : Nat} {d f : Nat → Sp} {C : List Nat} : aF T nI [45, 58, 68] 60 rP [Hv] ⟨az rP (r8 x n w m C.length M i N k d f), fc w C, 1⟩ =
  let c21 : Int := (↑N : Int); let c20 : AV := int i64 (w i); let c17 : AV := ah 1 m fun i ↦ int i64 (w i); let c14 : Nat := C.length; let c12 : AV := int i64 (0 : Int); let c11 : Prop := 0 < 1; let c10 : Int := (↑k : Int); let c9 : AV := ah 6 M fun i ↦ agg [rat (d i).lo 64, rat (d i).hi 64]; let c8 : AV := ah 6 N fun i ↦ agg [rat (f i).lo 64, rat (f i).hi 64]; let c1 : AV := ah 4 n fun i ↦ agg [ah 6 (x i).na fun i_1 ↦ agg [rat ((x i).a i_1).lo 64, rat ((x i).a i_1).hi 64], ah 6 (x i).nb fun i_1 ↦ agg [rat ((x i).b i_1).lo 64, rat ((x i).b i_1).hi 64], int i64 (x i).k, int i64 (x i).j]; let c19 : Nat := c14 + 1; let c18 : Int := c10 + (1 : Int); let c16 : AV := own 0 1 0 c14; let c7 : Nat × aD := ((0 : Nat), aD.mk true true 1 c14 fun a ↦ int i64 (w (C.getD a 0))); let c5 : Nat := c10.toNat; let c4 : List AV := [c9, c17, int i64 (↑m : Int), int i64 (↑i : Int), c20, c8, int i64 c21, int i64 c10]; let c22 : Int := cB (f c5).hi (d c5).hi; let c13 : Prop := (0 : Int) ≤ c10 ∧ c5 < M; let c6 : Int := cB (f c5).lo (d c5).lo; let c3 : af (List AV × aB) := ag [-(2 : Int) ^ 63 ≤ c18 ∧ c18 < (2 : Int) ^ 63] (leaf normal ([nil, c12, c1, c16, c9, c17, int i64 (↑m : Int), int i64 (↑i : Int), c20, c8, int i64 c21, int i64 c18], [c7])); let c2 : af (List AV × aB) := ag [(1 : Nat) * 1 ≤ 2 ^ 24, c19 * ((8 : Nat) + 1) * 2 ≤ 2 ^ 47] (leaf (exit 2) (nil :: c12 :: c1 :: own 122881 1 0 c19 :: c4, [((122881 : Nat), aD.mk true true 1 c19 fun i ↦ if i < c14 then iq w C i else nth [c20] c12 (i - c14 + 0))])); let c15 : Bool := decide (c6 ≤ (0 : Int)); some (fork (decide (c10 < c21)) (ag [(0 : Int) ≤ c10 ∧ c5 < N, c11] (fork c15 (ag [c11, c13, c15 = true] (fork true c2 c3)) (ag [c11, c13, c15 = false, c11, c13] (fork (bif false then true else decide (c22 ≥ (0 : Int))) c2 c3)))) (leaf (exit 2) (nil :: c12 :: c1 :: c16 :: c4, [c7]))) := by kernel_rfl
theorem RB {x : Nat → Ce} {w : Nat → Int} {n m M i N k : Nat} {d f : Nat → Sp} {C : List Nat} : aF T nI [] 60 mI (behind yb [1,1] ++ [part vj [1,1,1]]) ⟨az rP (r8 x n w m C.length M i N k d f), fc w C, 1⟩ =
  let c1 : Int := (↑i : Int) + (1 : Int); some (ag [-(2 : Int) ^ 63 ≤ c1 ∧ c1 < (2 : Int) ^ 63] (leaf normal ([nil, int i64 (0 : Int), ah 4 n fun i ↦ agg [ah 6 (x i).na fun i_1 ↦ agg [rat ((x i).a i_1).lo 64, rat ((x i).a i_1).hi 64], ah 6 (x i).nb fun i_1 ↦ agg [rat ((x i).b i_1).lo 64, rat ((x i).b i_1).hi 64], int i64 (x i).k, int i64 (x i).j], own 0 1 0 C.length, ah 6 M fun i ↦ agg [rat (d i).lo 64, rat (d i).hi 64], ah 1 m fun i ↦ int i64 (w i), int i64 (↑m : Int), int i64 c1], [((0 : Nat), aD.mk true true 1 C.length fun a ↦ int i64 (w (C.getD a 0)))]))) := by kernel_rfl
theorem Nm {x : Nat → Ce} {w : Nat → Int} {n m M i : Nat} {d : Nat → Sp} {C : List Nat} : b9 T nI [] 60 qF [part uW [1,1,1,1,1,1]] ⟨az mI (wN x n w m C.length M i d), fc w C, 1⟩ =
  some (leaf ret [ah 1 C.length fun i ↦ int i64 (w (C.getD (i + 0) 0)), int i64 (0 : Int)]) := by kernel_rfl
theorem WI {x : Nat → Ce} {w : Nat → Int} {n m : Nat} {d : Ce} : aF T mR [19, 29] 60 k7 (before sR [1,1,1,1,1,0,1]) ⟨aN 0 [cq x n 64, cA w m, bk d 64], [], 0⟩ =
  let c9 : Nat := Int.toNat (0 : Int); let c8 : Prop := bK (fun i ↦ sA (d.b i) 64) d.nb 64; let c7 : Prop := bK (fun i ↦ sA (d.a i) 64) d.na 64; let c6 : AV := ah 1 m fun i ↦ int i64 (w i); let c5 : Int := b6 (fun i ↦ cL (bk (x i) 64)) n (fun i ↦ cu (int i64 (w i))) m; let c4 : Nat := 2 ^ 30; let c3 : Ce := Ce.mk d.na (fun i ↦ bR (sA (d.a i) 64)) d.nb (fun i ↦ bR (sA (d.b i) 64)) d.k d.j; let c1 : AV := ah 4 n fun i ↦ agg [ah 6 (x i).na fun i_1 ↦ agg [rat ((x i).a i_1).lo 64, rat ((x i).a i_1).hi 64], ah 6 (x i).nb fun i_1 ↦ agg [rat ((x i).b i_1).lo 64, rat ((x i).b i_1).hi 64], int i64 (x i).k, int i64 (x i).j]; let c10 : List AV := [c1, c6, tuple [], tuple [], tuple []]; let c2 : Nat := (w c9).toNat; let c12 : Nat := (x c2).na; let c11 : Nat := (x c2).nb; some (ag [fZ (fun i ↦ bk (x i) 64) n 64, eA (fun i ↦ int i64 (w i)) m, m < 2 ^ 40, n < 2 ^ 40, ek (fun i ↦ cL (bk (x i) 64)) n] (fork (c5 != (0 : Int)) (leaf ret (nil :: int i64 c5 :: c10, [])) (ag [(0 : Int) ≤ (0 : Int) ∧ c9 < m, (0 : Int) ≤ w c9 ∧ c2 < n, (0 : Nat) < 1, bK (fun i ↦ sA ((x c2).a i) 64) c12 64, bK (fun i ↦ sA ((x c2).b i) 64) c11 64, c7, c8, c12 < c4, c11 < c4, d.na < c4, d.nb < c4] (fork (!decide (c12 = d.na ∧ c11 = d.nb)) (leaf ret (nil :: int i64 (1 : Int) :: c10, [])) (ag [(0 : Nat) < 1, c7, c8, d.na + d.nb < c4] (leaf normal ([nil, int i64 (0 : Int), c1, c6, nil, ah 6 (d.na + d.nb) fun i ↦ agg [rat (c3.sp i).lo 64, rat (c3.sp i).hi 64], int i64 (0 : Int)], []))))))) := by kernel_rfl
theorem Kh {x : Nat → Ce} {w : Nat → Int} {n m M i : Nat} {d : Nat → Sp} {C : List Nat} : aF T mR [35] 60 k7 (before rX [1,0]) ⟨az k7 (qy x n w m C.length M i d), fc w C, 1⟩ =
  let c1 : List AV × aB := ([nil, int i64 (0 : Int), ah 4 n fun i ↦ agg [ah 6 (x i).na fun i_1 ↦ agg [rat ((x i).a i_1).lo 64, rat ((x i).a i_1).hi 64], ah 6 (x i).nb fun i_1 ↦ agg [rat ((x i).b i_1).lo 64, rat ((x i).b i_1).hi 64], int i64 (x i).k, int i64 (x i).j], ah 1 m fun i ↦ int i64 (w i), own 0 1 0 C.length, ah 6 M fun i ↦ agg [rat (d i).lo 64, rat (d i).hi 64], int i64 (↑i : Int)], [((0 : Nat), aD.mk true true 1 C.length fun a ↦ int i64 (w (C.getD a 0)))]); some (fork (decide ((↑i : Int) < (↑m : Int))) (leaf normal c1) (leaf (exit 0) c1)) := by kernel_rfl
theorem Ko {x : Nat → Ce} {w : Nat → Int} {n m M i : Nat} {d : Nat → Sp} {C : List Nat} : aF T mR [] 60 uA (before ze [1,1,0,1]) ⟨az k7 (qy x n w m C.length M i d), fc w C, 1⟩ =
  let c3 : Nat := (↑i : Int).toNat; let c1 : Ce := x (w c3).toNat; let c2 : Ce := Ce.mk c1.na (fun i ↦ bR (sA (c1.a i) 64)) c1.nb (fun i ↦ bR (sA (c1.b i) 64)) c1.k c1.j; some (ag [(0 : Int) ≤ (↑i : Int) ∧ c3 < m, (0 : Int) ≤ w c3 ∧ (w c3).toNat < n, bK (fun i ↦ sA (c1.a i) 64) c1.na 64, bK (fun i ↦ sA (c1.b i) 64) c1.nb 64, c1.na + c1.nb < 2 ^ 30] (leaf normal ([nil, int i64 (0 : Int), ah 4 n fun i ↦ agg [ah 6 (x i).na fun i_1 ↦ agg [rat ((x i).a i_1).lo 64, rat ((x i).a i_1).hi 64], ah 6 (x i).nb fun i_1 ↦ agg [rat ((x i).b i_1).lo 64, rat ((x i).b i_1).hi 64], int i64 (x i).k, int i64 (x i).j], ah 1 m fun i ↦ int i64 (w i), own 0 1 0 C.length, ah 6 M fun i ↦ agg [rat (d i).lo 64, rat (d i).hi 64], int i64 (↑i : Int), ah 6 (c1.na + c1.nb) fun i ↦ agg [rat (c2.sp i).lo 64, rat (c2.sp i).hi 64], AV.bool false, int i64 (0 : Int)], [((0 : Nat), aD.mk true true 1 C.length fun a ↦ int i64 (w (C.getD a 0)))]))) := by kernel_rfl
theorem JK {x : Nat → Ce} {w : Nat → Int} {n m M i N k : Nat} {d f : Nat → Sp} {b : Bool} {C : List Nat} : aF T mR [49, 53, 67] 60 uA [D9] ⟨az uA (vu x n w m C.length M i N k d f b), fc w C, 1⟩ =
  let c17 : AV := int i64 (0 : Int); let c16 : AV := int i64 (↑i : Int); let c15 : Int := (↑k : Int); let c14 : Int := (2 : Int) ^ 63; let c13 : AV := ah 1 m fun i ↦ int i64 (w i); let c12 : AV := own 0 1 0 C.length; let c8 : AV := ah 6 N fun i ↦ agg [rat (f i).lo 64, rat (f i).hi 64]; let c7 : AV := ah 6 M fun i ↦ agg [rat (d i).lo 64, rat (d i).hi 64]; let c6 : Nat × aD := ((0 : Nat), aD.mk true true 1 C.length fun a ↦ int i64 (w (C.getD a 0))); let c5 : Prop := 64 < 2 ^ 41; let c1 : AV := ah 4 n fun i ↦ agg [ah 6 (x i).na fun i_1 ↦ agg [rat ((x i).a i_1).lo 64, rat ((x i).a i_1).hi 64], ah 6 (x i).nb fun i_1 ↦ agg [rat ((x i).b i_1).lo 64, rat ((x i).b i_1).hi 64], int i64 (x i).k, int i64 (x i).j]; let c11 : Int := c15 + (1 : Int); let c10 : Prop := (0 : Int) ≤ c15; let c4 : Nat := c15.toNat; let c20 : Int := cB (f c4).hi (d c4).hi; let c19 : Int := cB (f c4).lo (d c4).lo; let c18 : List Prop := [c10 ∧ c4 < N, c10 ∧ c4 < M, c5, c5]; let c3 : af (List AV × aB) := ag [-c14 ≤ c11 ∧ c11 < c14] (leaf normal ([nil, c17, c1, c13, c12, c7, c16, c8, AV.bool true, int i64 c11], [c6])); let c9 : Bool := bif false then true else decide (c19 ≤ (0 : Int)); let c2 : af (List AV × aB) := ag [-c14 ≤ c11 ∧ c11 < c14] (leaf normal ([nil, c17, c1, c13, c12, c7, c16, c8, AV.bool (bif false then true else decide (c20 ≥ (0 : Int))), int i64 c11], [c6])); some (fork (decide (c15 < (↑N : Int))) (fork b (fork true (ag [b = true, true = true] c3) (ag ((b = true) :: (true = false) :: c18) c2)) (fork c9 (ag [b = false, c10 ∧ c4 < N, c10 ∧ c4 < M, c5, c5, c9 = true] c3) (ag ((b = false) :: (c10 ∧ c4 < N) :: (c10 ∧ c4 < M) :: c5 :: c5 :: (c9 = false) :: c18) c2))) (leaf (exit 2) ([nil, c17, c1, c13, c12, c7, c16, c8, AV.bool b, int i64 c15], [c6]))) := by kernel_rfl
theorem Up {x : Nat → Ce} {w : Nat → Int} {n m M i N k : Nat} {d f : Nat → Sp} {b : Bool} {C : List Nat} : aF T mR [81] 60 k7 (behind ze [1,1,0,1] ++ [part rX [1,1]]) ⟨az uA (vu x n w m C.length M i N k d f b), fc w C, 1⟩ =
  let c9 : Int := (↑i : Int); let c7 : AV := int i64 (0 : Int); let c6 : AV := ah 1 m fun i ↦ int i64 (w i); let c5 : Nat := C.length; let c1 : AV := ah 4 n fun i ↦ agg [ah 6 (x i).na fun i_1 ↦ agg [rat ((x i).a i_1).lo 64, rat ((x i).a i_1).hi 64], ah 6 (x i).nb fun i_1 ↦ agg [rat ((x i).b i_1).lo 64, rat ((x i).b i_1).hi 64], int i64 (x i).k, int i64 (x i).j]; let c8 : Nat := c5 + 1; let c4 : Int := c9 + (1 : Int); let c3 : Prop := -(2 : Int) ^ 63 ≤ c4 ∧ c4 < (2 : Int) ^ 63; let c2 : List AV := [ah 6 M fun i ↦ agg [rat (d i).lo 64, rat (d i).hi 64], int i64 c4]; some (fork b (ag [(0 : Int) ≤ c9 ∧ c9.toNat < m, (1 : Nat) * 1 ≤ 2 ^ 24, c8 * ((8 : Nat) + 1) * 2 ≤ 2 ^ 47] (ag [c3] (leaf normal (nil :: c7 :: c1 :: c6 :: own 28673 1 0 c8 :: c2, [((28673 : Nat), aD.mk true true 1 c8 fun i ↦ if i < c5 then iq w C i else nth [int i64 (w c9.toNat)] c7 (i - c5 + 0))])))) (ag [c3] (leaf normal (nil :: c7 :: c1 :: c6 :: own 0 1 0 c5 :: c2, [((0 : Nat), aD.mk true true 1 c5 fun a ↦ int i64 (w (C.getD a 0)))])))) := by kernel_rfl
theorem JO {x : Nat → Ce} {w : Nat → Int} {n m M i : Nat} {d : Nat → Sp} {C : List Nat} : b9 T mR [] 60 pK [part sR [1,1,1,1,1,1]] ⟨az k7 (qy x n w m C.length M i d), fc w C, 1⟩ =
  some (leaf ret [ah 1 C.length fun i ↦ int i64 (w (C.getD (i + 0) 0)), int i64 (0 : Int)]) := by kernel_rfl
theorem YP {x : Nat → Ce} {w : Nat → Int} {n m : Nat} : aF T xX [14] 60 uu (before sk [1,1,1,1,0,1]) ⟨aN 0 [cq x n 64, cA w m], [], 0⟩ =
  let c11 : AV := int i64 (0 : Int); let c10 : AV := ah 1 m fun i ↦ int i64 (w i); let c9 : AV := ptr 0 0 4 0 []; let c8 : Nat := Int.toNat (0 : Int); let c5 : Int := b6 (fun i ↦ cL (bk (x i) 64)) n (fun i ↦ cu (int i64 (w i))) m; let c4 : Prop := 0 < 1; let c2 : AV := ah 4 n fun i ↦ agg [ah 6 (x i).na fun i_1 ↦ agg [rat ((x i).a i_1).lo 64, rat ((x i).a i_1).hi 64], ah 6 (x i).nb fun i_1 ↦ agg [rat ((x i).b i_1).lo 64, rat ((x i).b i_1).hi 64], int i64 (x i).k, int i64 (x i).j]; let c3 : AV := agg [nil, nil, c11, c11]; let c1 : Ce := x (w c8).toNat; let c7 : Prop := bK (fun i ↦ sA (c1.b i) 64) c1.nb 64; let c6 : Prop := bK (fun i ↦ sA (c1.a i) 64) c1.na 64; some (ag [fZ (fun i ↦ bk (x i) 64) n 64, eA (fun i ↦ int i64 (w i)) m, m < 2 ^ 40, n < 2 ^ 40, ek (fun i ↦ cL (bk (x i) 64)) n] (fork (c5 != (0 : Int)) (ag [c4] (leaf ret ([c9, int i64 c5, c2, c10, tuple [], tuple []], [((0 : Nat), aD.mk false true 4 1 fun j ↦ if (j == 0) = true then cJ (agg c3.kids) else c3)]))) (ag [(0 : Int) ≤ (0 : Int) ∧ c8 < m, (0 : Int) ≤ w c8 ∧ (w c8).toNat < n, c4] (ag [c4, c4, c6, c6, c1.na < 2 ^ 30, c1.na ≤ c1.na, c4, c4, c7, c7, c1.nb < 2 ^ 30, c1.nb ≤ c1.nb, c4] (leaf normal ([c9, c11, c2, c10, ptr 110592 0 4 0 [], int i64 (1 : Int)], [((110592 : Nat), aD.mk false true 4 1 fun j ↦ if (j == 0) = true then cJ (agg (((c3.kids.set 0 (cJ (de (fun i ↦ fN (bR (sA (c1.a i) 64)) (bR (sA (c1.a i) 64))) c1.na 64))).set 1 (cJ (de (fun i ↦ fN (bR (sA (c1.b i) 64)) (bR (sA (c1.b i) 64))) c1.nb 64))).set 2 (cJ (int i64 (1 : Int))))) else c3), ((0 : Nat), aD.mk false true 4 1 fun x ↦ c3)])))))) := by kernel_rfl
theorem YX {e : Int} : iA T nN .ret ⟨az [4, 5] [.ptr 0 0 4 0 [], .int .i64 e], [(0, C6)], 4⟩ =
  some (ag [(0 : Nat) < 1] (leaf ret [agg [nil, nil, int i64 (0 : Int), int i64 (0 : Int)], int i64 e])) := by kernel_rfl
theorem Zp {x : Nat → Ce} {w : Nat → Int} {n m i : Nat} {h : Ce} : aF T xX [37] 60 uu [part sk [1,1,1,1,0,1,0,0]] ⟨az uu (BD x n w m i), AU h, 2⟩ =
  let c12 : AV := bk h 64; let c10 : AV := ah 1 m fun i ↦ int i64 (w i); let c9 : AV := int i64 (0 : Int); let c8 : AV := ptr 0 0 4 0 []; let c7 : AV := ptr 1 0 4 0 []; let c6 : Prop := 0 < 1; let c5 : Int := (↑i : Int); let c1 : AV := ah 4 n fun i ↦ agg [ah 6 (x i).na fun i_1 ↦ agg [rat ((x i).a i_1).lo 64, rat ((x i).a i_1).hi 64], ah 6 (x i).nb fun i_1 ↦ agg [rat ((x i).b i_1).lo 64, rat ((x i).b i_1).hi 64], int i64 (x i).k, int i64 (x i).j]; let c14 : Int := c5 + (1 : Int); let c13 : Prop := (0 : Int) ≤ c5 ∧ c5.toNat < m; let c4 : Nat × aD := ((0 : Nat), aD.mk false true 4 1 fun x ↦ agg [nil, nil, c9, c9]); let c2 : Nat := (w c5.toNat).toNat; let c11 : Prop := (0 : Int) ≤ w c5.toNat ∧ c2 < n; let c3 : AV := agg (c12.kids.set 0 (cJ (de (fun i ↦ fN (bR (sA (h.a i) 64)) (bR (sA ((x c2).a i) 64))) h.na 64))); some (fork (decide (c5 < (↑m : Int))) (ag [c6, c13, c11, bK (fun i ↦ sA (h.a i) 64) h.na 64, bK (fun i ↦ sA ((x c2).a i) 64) (x c2).na 64, h.na < 2 ^ 30, h.na ≤ (x c2).na, c6, c13, c11, bK (fun i ↦ sA (h.b i) 64) h.nb 64, bK (fun i ↦ sA ((x c2).b i) 64) (x c2).nb 64, h.nb < 2 ^ 30, h.nb ≤ (x c2).nb, c6, c6] (ag [-(2 : Int) ^ 63 ≤ c14 ∧ c14 < (2 : Int) ^ 63] (leaf normal ([c8, c9, c1, c10, c7, int i64 c14], [((1 : Nat), aD.mk false true 4 1 fun j ↦ if (j == 0) = true then agg ((if ((0 : Nat) == 0) = true then c3 else c12).kids.set 1 (cJ (de (fun i ↦ fN (bR (sA (h.b i) 64)) (bR (sA ((x c2).b i) 64))) h.nb 64))) else if (j == 0) = true then c3 else c12), c4])))) (leaf (exit 0) ([c8, c9, c1, c10, c7, int i64 c5], [((1 : Nat), aD.mk false true 4 1 fun x ↦ agg [ah 6 h.na fun i ↦ agg [rat (h.a i).lo 64, rat (h.a i).hi 64], ah 6 h.nb fun i ↦ agg [rat (h.b i).lo 64, rat (h.b i).hi 64], int i64 h.k, int i64 h.j]), c4]))) := by kernel_rfl
theorem Jz {x : Nat → Ce} {w : Nat → Int} {n m i : Nat} {h : Ce} : b9 T xX [] 60 nN [part sk [1,1,1,1,1]] ⟨az uu (BD x n w m i), AU h, 2⟩ =
  let c1 : Prop := 0 < 1; some (ag [c1, c1] (ag [c1] (leaf ret [agg [ah 6 h.na fun i ↦ agg [rat (h.a i).lo 64, rat (h.a i).hi 64], ah 6 h.nb fun i ↦ agg [rat (h.b i).lo 64, rat (h.b i).hi 64], int i64 h.k, int i64 h.j], int i64 (0 : Int)]))) := by kernel_rfl
theorem DC : br P nI := eV (aJ D0 (aJ (Bz 64) (aJ (B6 64) E9)))
theorem Hu : br P mR := eV (aJ CT (aJ (Cx 64) (aJ (C4 64) th)))
theorem C7 : br P xX := eV (aJ CT (aJ Xr aY))
theorem Fv {x : Nat → Ce} {w : Nat → Int} {d : Ce} {m : Nat} : dK x w d (m + 1) = dK x w d m ++ if jy (x (w m).toNat) d = true then [m] else [] := by
 unfold dK
 rw [List.range_succ, List.filter_append]
 congr 1
 by_cases h : jy (x (w m).toNat) d = true
 ·rw [if_pos h, List.filter_cons_of_pos (by exact h), List.filter_nil]
 ·rw [if_neg h, List.filter_cons_of_neg (by exact h), List.filter_nil]
theorem Bv {x : Nat → Ce} {w : Nat → Int} {d : Ce} {m : Nat} : (dK x w d m).length ≤ m := by
 have := List.length_filter_le (fun i => jy (x (w i).toNat) d) (List.range m)
 rwa [List.length_range] at this
theorem GX {rl : List (Nat × Nat)} {w : Nat → Int} {C : List Nat} {i b : Nat} {z : AV} (hb : b < C.length + 1) : ia rl (if b < C.length then iq w C b else nth [.int .i64 (w i)] z (b - C.length + 0)) (iq w (C ++ [i]) b) := by
 by_cases h : b < C.length
 ·rw [if_pos h]
  refine aM rfl ?_
  show AV.int _ _ = AV.int _ _
  rw [nM h]
 ·have : b = C.length := by omega
  subst this
  rw [if_neg h, Nat.sub_self]
  refine aM rfl ?_
  show AV.int _ _ = AV.int _ _
  rw [sK]
theorem pG {C : List Nat} {i : Nat} : (C ++ [i]).length = C.length + 1 := by simp
theorem Vt {q r : Rat} : decide (cB q r ≥ (0 : Int)) = decide (r ≤ q) := by
 have := DD (q := q) (r := r)
 rw [Bool.eq_iff_iff] at this ⊢
 simp only [decide_eq_true_eq] at this ⊢
 constructor
 ·intro h
  have : ¬ q < r := fun h' => by have := this.2 h'; omega
  grind
 ·intro h
  have : ¬ cB q r < 0 := fun h' => by have := this.1 h'; grind
  omega
theorem xR {x : Nat → Ce} {n m : Nat} {w : Nat → Int} {d : Ce} {e : Int} (he : jm x n w m d = e) (h0 : e ≠ 0) : dX [.nil, .int .i64 e] [.ah 1 (jK x n w m d) (iq w (dK x w d m)), .int .i64 (jm x n w m d)] := by
 unfold jK
 rw [he, if_neg h0]
 exact ⟨fS (by omega), .refl _, trivial⟩
theorem Ij {x : Nat → Ce} {n m : Nat} {w : Nat → Int} {d : Ce} (h : b6 x n w m = 0) (ha : (x (w 0).toNat).na = d.na ∧ (x (w 0).toNat).nb = d.nb) : jm x n w m d = 0 := by
 unfold jm
 rw [if_neg (by omega), if_pos (show ke (x (w 0).toNat) d = true from decide_eq_true ha)]
theorem CV {x : Nat → Ce} {n m : Nat} {w : Nat → Int} {d : Ce} (h : b6 x n w m = 0) (ha : ¬ ((x (w 0).toNat).na = d.na ∧ (x (w 0).toNat).nb = d.nb)) : jm x n w m d = 1 := by
 unfold jm ke
 rw [if_neg (by omega), if_neg (by rw [decide_eq_false ha]; decide)]
theorem HQ {x : Nat → Ce} {n m : Nat} {w : Nat → Int} {d : Ce} (h : b6 x n w m ≠ 0) : jm x n w m d = b6 x n w m := by
 unfold jm
 rw [if_pos h]
theorem uE {c d : Ce} {k : Nat} : jx c d k = true ↔ cB (c.sp k).lo (d.sp k).lo ≤ 0 ∨ cB (c.sp k).hi (d.sp k).hi ≥ 0 := by
 have h1 := KD (q := (c.sp k).lo) (r := (d.sp k).lo)
 have h2 := Vt (q := (c.sp k).hi) (r := (d.sp k).hi)
 rw [Bool.eq_iff_iff] at h1 h2
 simp only [decide_eq_true_eq] at h1 h2
 unfold jx
 rw [decide_eq_true_eq, h1, h2]
theorem T5 {x : Nat → Ce} {n m : Nat} {w : Nat → Int} {d : Ce} (n1 : m < 2 ^ 30) (n2 : n < 2 ^ 40) (n3 : ek x n) (n4 : d.na + d.nb < 2 ^ 30) (K : Nat) : aC P r7 K [cq x n 64, cA w m, bk d 64] [] (aK (nB x n w m d) []) := by
 refine eW (r := aK (nB x n w m d) []) hT Jd rfl (of_decide_eq_true (by kernel_rfl)) rfl (fun _ cx h0 => ?_) K []
 have hk := kF h0
 have hob : ∀ {C : List Nat}, fI 1 [(0, 0)] [(0, ⟨true, true, 1, C.length, iq w C⟩)] (fc w C) := aT rfl rfl rfl (fun _ _ => aM rfl rfl) trivial
 refine aq.Cd hT DC hm (x := uW) [1,1,1,1,1,0,1] (i := 0) (y := vj) (z := part uW [1,1,1,1,1,1]) (by kernel_rfl) (by kernel_rfl) (by kernel_rfl) Jd.dst [1,1,0] (j := 1) (x1 := yb) (zb := part vj [1,1,1]) (by kernel_rfl) (by kernel_rfl) (by kernel_rfl) [1,1] (i2 := 2) (y2 := Hv) (by kernel_rfl) (by kernel_rfl) rfl hk
  (f1 := [19, 29]) (f2 := [35]) (f3 := []) (f4 := [45, 58, 68]) (f5 := []) 60 mI rP 1 1 (fun i : Nat => wN x n w m (dK x w d i).length (d.na + d.nb) i d.sp) (fun i => fc w (dK x w d i)) (fun i => i ≤ m ∧ b6 x n w m = 0 ∧ (x (w 0).toNat).na = d.na ∧ (x (w 0).toNat).nb = d.nb) (fun i => i = m ∧ b6 x n w m = 0 ∧ (x (w 0).toNat).na = d.na ∧ (x (w 0).toNat).nb = d.nb) (fun i => m - i) (fun i => i < m) (je qF mI (nB x n w m d)) (fun _ => False)
  (fun i (b : List Nat × Nat) => r8 x n w m b.1.length (d.na + d.nb) i ((x (w i).toNat).na + (x (w i).toNat).nb) b.2 d.sp (x (w i).toNat).sp) (fun _ b => fc w b.1) (fun i b => b.1 = dK x w d i ∧ b.2 ≤ (x (w i).toNat).na + (x (w i).toNat).nb ∧ ∀ k, k < b.2 → jx (x (w i).toNat) d k = false) (fun i b => b.1 = dK x w d (i + 1)) (fun i b => (x (w i).toNat).na + (x (w i).toNat).nb - b.2)
  ⟨_, Qk, ?_⟩ (fun i ⟨h1, h2, h3⟩ => ⟨_, X6, ?_⟩) (fun i ⟨h1, h2, h3⟩ hlt => ⟨_, Um, ?_⟩) (fun i ⟨h1, h2, h3⟩ hlt ⟨C, k⟩ ⟨k1, k2, k3⟩ => ⟨_, Ry, ?_⟩) (fun i ⟨h1, h2, h3⟩ hlt ⟨C, k⟩ k1 => ⟨_, RB, ?_⟩) (fun i ⟨h1, h2, h3⟩ => ?_) (fun v s' hv hs' => hv.fin hs') (fun _ _ h => h.elim)
 ·simp only [af.all, ay, mY, lM, bne_iff_ne, ne_eq, bne_eq_false_iff_eq, show Int.toNat 0 = 0 from rfl, Bool.not_eq_true', Bool.not_eq_false', decide_eq_true_eq, decide_eq_false_iff_not]
  refine ⟨⟨jc (Nat.le_refl _), fun _ _ => rfl, by omega, n2, n3⟩, fun h => ⟨[.nil, .int .i64 (b6 x n w m)], by kernel_rfl, xR (HQ h) h⟩, fun h => ?_⟩
  obtain ⟨c1, c2, _⟩ := jE h
  have r0 := c2 0 c1
  have f0 := n3 (w 0).toNat (by omega)
  exact ⟨⟨⟨by omega, c1⟩, by omega, by omega, bD (Nat.le_refl _), bD (Nat.le_refl _), bD (Nat.le_refl _), bD (Nat.le_refl _), by omega, by omega, by omega, by omega⟩, fun ha => ⟨[.nil, .int .i64 1], by kernel_rfl, xR (CV h ha) (by decide)⟩, fun ha => ⟨⟨by omega, bD (Nat.le_refl _), bD (Nat.le_refl _), n4⟩, 0, ⟨Nat.zero_le _, h, ha⟩, [], rfl, rfl, rfl, jl rfl (by omega) (by omega) trivial⟩⟩
 ·simp only [af.all, ay, decide_eq_true_eq, decide_eq_false_iff_not]
  exact ⟨fun h => ⟨by omega, [(0, 0)], rfl, rfl, rfl, hob⟩, fun h => ⟨rfl, i, ⟨by omega, h2, h3⟩, [(0, 0)], rfl, rfl, rfl, hob⟩⟩
 ·obtain ⟨c1, c2, _⟩ := jE h2
  have ri := c2 i hlt
  have fi := n3 (w i).toNat (by omega)
  simp only [af.all, ay, Int.toNat_natCast]
  exact ⟨⟨by omega, hlt⟩, ⟨⟨by omega, by omega⟩, bD (Nat.le_refl _), bD (Nat.le_refl _), fi⟩, (dK x w d i, 0), ⟨rfl, Nat.zero_le _, fun k hk => by dsimp only at hk; omega⟩, [(0, 0)], rfl, rfl, rfl, hob⟩
 ·obtain ⟨c1, c2, c3⟩ := jE h2
  have k1 : C = dK x w d i := k1
  have k2 : k ≤ (x (w i).toNat).na + (x (w i).toNat).nb := k2
  have k3 : ∀ l, l < k → jx (x (w i).toNat) d l = false := k3
  have ci := c3 i hlt
  have fi := n3 (w i).toNat (by have := c2 i hlt; omega)
  have hlen := Bv (x := x) (w := w) (d := d) (m := i)
  have hes := Fv (x := x) (w := w) (d := d) (m := i)
  simp only [af.all, ay, decide_eq_true_eq, decide_eq_false_iff_not, Int.toNat_natCast, cond_false]
  have hit : k < (x (w i).toNat).na + (x (w i).toNat).nb → (cB ((x (w i).toNat).sp k).lo (d.sp k).lo ≤ 0 ∨ cB ((x (w i).toNat).sp k).hi (d.sp k).hi ≥ 0) → ∃ b : List Nat × Nat, b.1 = dK x w d (i + 1) ∧ cQ [] ([.nil, .int .i64 0, cq x n 64, .own 122881 1 0 (C.length + 1), de d.sp (d.na + d.nb) 64, cA w m, .int .i64 m, .int .i64 i, .int .i64 (w i), de (x (w i).toNat).sp ((x (w i).toNat).na + (x (w i).toNat).nb) 64, .int .i64 ((x (w i).toNat).na + (x (w i).toNat).nb : Nat), .int .i64 k], [(122881, ⟨true, true, 1, C.length + 1, fun b => if b < C.length then iq w C b else nth [.int .i64 (w i)] (.int .i64 0) (b - C.length + 0)⟩)]) (r8 x n w m b.1.length (d.na + d.nb) i ((x (w i).toNat).na + (x (w i).toNat).nb) b.2 d.sp (x (w i).toNat).sp) (fc w b.1) 1 := fun hkl hh => by
   have he : jy (x (w i).toNat) d = true := decide_eq_true ⟨k, hkl, uE.2 hh⟩
   refine ⟨(C ++ [i], k), ?_, [(0, 122881)], rfl, ?_, rfl, aT rfl rfl pG.symm (fun b hb => GX (by rw [pG] at hb; exact hb)) trivial⟩
   ·show C ++ [i] = _
    rw [hes, if_pos he, k1]
   ·show _ = (r8 x n w m (C ++ [i]).length (d.na + d.nb) i _ k d.sp _).map _
    rw [pG]; rfl
  have miss : k < (x (w i).toNat).na + (x (w i).toNat).nb → ¬ (cB ((x (w i).toNat).sp k).lo (d.sp k).lo ≤ 0 ∨ cB ((x (w i).toNat).sp k).hi (d.sp k).hi ≥ 0) → ((C, k + 1) : List Nat × Nat).1 = dK x w d i ∧ ((C, k + 1) : List Nat × Nat).2 ≤ (x (w i).toNat).na + (x (w i).toNat).nb ∧ ∀ l, l < ((C, k + 1) : List Nat × Nat).2 → jx (x (w i).toNat) d l = false := fun hkl hh => by
   refine ⟨k1, hkl, fun l hl => ?_⟩
   by_cases hlk : l = k
   ·subst hlk
    cases hb : jx (x (w i).toNat) d l with
    | false => rfl
    | true => exact absurd (uE.1 hb) hh
   ·exact k3 l (by dsimp only at hl; omega)
  have hCl : C.length ≤ i := by rw [k1]; exact hlen
  refine ⟨fun hkl => ⟨⟨⟨by omega, by omega⟩, by omega⟩, fun hb => ⟨⟨by omega, ⟨by omega, by omega⟩, hb⟩, fun _ => ⟨⟨by omega, by omega⟩, rfl, hit (by omega) (.inl hb)⟩, fun h => by simp at h⟩, fun hb => ⟨⟨by omega, ⟨by omega, by omega⟩, hb, by omega, by omega, by omega⟩, fun hc => ⟨⟨by omega, by omega⟩, rfl, hit (by omega) (.inr hc)⟩, fun hc => ⟨by omega, (C, k + 1), miss (by omega) (fun h => h.elim hb hc), by dsimp only; omega, [(0, 0)], rfl, rfl, rfl, hob⟩⟩⟩, fun hkl => ⟨rfl, (C, k), ?_, [(0, 0)], rfl, rfl, rfl, hob⟩⟩
  show C = dK x w d (i + 1)
  have he : ¬ jy (x (w i).toNat) d = true := fun h => by
   obtain ⟨l, hl, hl2⟩ := of_decide_eq_true h
   rw [k3 l (by omega)] at hl2; simp at hl2
  rw [hes, if_neg he, List.append_nil, k1]
 ·have k1 : C = dK x w d (i + 1) := k1
  subst k1
  simp only [af.all, ay]
  exact ⟨by omega, i + 1, ⟨hlt, h2, h3⟩, by dsimp only; omega, [(0, 0)], rfl, rfl, rfl, hob⟩
 ·subst h1
  refine aq.js ((aA.fin hT DC hm 60 Nm (by kernel_rfl) ?_).mono fun _ _ h => .inl h)
  have e := Ij h2 h3
  refine ⟨oL ?_ fun _ _ => .refl _, bm e.symm, trivial⟩
  unfold jK
  rw [if_pos e]
theorem Ql {x : Nat → Ce} {n m : Nat} {w : Nat → Int} {d : Ce} (n1 : m < 2 ^ 30) (n2 : n < 2 ^ 40) (n3 : ek x n) (n4 : d.na + d.nb < 2 ^ 30) (K : Nat) : aC P sE K [cq x n 64, cA w m, bk d 64] [] (aK (nB x n w m d) []) := by
 refine eW (r := aK (nB x n w m d) []) hT G5 rfl (of_decide_eq_true (by kernel_rfl)) rfl (fun _ cx h0 => ?_) K []
 have hk := kF h0
 have hob : ∀ {C : List Nat}, fI 1 [(0, 0)] [(0, ⟨true, true, 1, C.length, iq w C⟩)] (fc w C) := aT rfl rfl rfl (fun _ _ => aM rfl rfl) trivial
 refine aq.Cd hT Hu hm (x := sR) [1,1,1,1,1,0,1] (i := 0) (y := rX) (z := part sR [1,1,1,1,1,1]) (by kernel_rfl) (by kernel_rfl) (by kernel_rfl) G5.dst [1,0] (j := 1) (x1 := ze) (zb := part rX [1,1]) (by kernel_rfl) (by kernel_rfl) (by kernel_rfl) [1,1,0,1] (i2 := 2) (y2 := D9) (by kernel_rfl) (by kernel_rfl) rfl hk
  (f1 := [19, 29]) (f2 := [35]) (f3 := []) (f4 := [49, 53, 67]) (f5 := [81]) 60 k7 uA 1 1 (fun i : Nat => qy x n w m (dK x w d i).length (d.na + d.nb) i d.sp) (fun i => fc w (dK x w d i)) (fun i => i ≤ m ∧ b6 x n w m = 0 ∧ (x (w 0).toNat).na = d.na ∧ (x (w 0).toNat).nb = d.nb) (fun i => i = m ∧ b6 x n w m = 0 ∧ (x (w 0).toNat).na = d.na ∧ (x (w 0).toNat).nb = d.nb) (fun i => m - i) (fun i => i < m) (je pK k7 (nB x n w m d)) (fun _ => False)
  (fun i (b : Nat × Bool) => vu x n w m (dK x w d i).length (d.na + d.nb) i ((x (w i).toNat).na + (x (w i).toNat).nb) b.1 d.sp (x (w i).toNat).sp b.2) (fun i _ => fc w (dK x w d i)) (fun i b => b.1 ≤ (x (w i).toNat).na + (x (w i).toNat).nb ∧ (b.2 = true ↔ ∃ k, k < b.1 ∧ jx (x (w i).toNat) d k = true)) (fun i b => b.2 = jy (x (w i).toNat) d) (fun i b => (x (w i).toNat).na + (x (w i).toNat).nb - b.1)
  ⟨_, WI, ?_⟩ (fun i ⟨h1, h2, h3⟩ => ⟨_, Kh, ?_⟩) (fun i ⟨h1, h2, h3⟩ hlt => ⟨_, Ko, ?_⟩) (fun i ⟨h1, h2, h3⟩ hlt ⟨k, b⟩ ⟨k1, k2⟩ => ⟨_, JK, ?_⟩) (fun i ⟨h1, h2, h3⟩ hlt ⟨k, b⟩ k1 => ⟨_, Up, ?_⟩) (fun i ⟨h1, h2, h3⟩ => ?_) (fun v s' hv hs' => hv.fin hs') (fun _ _ h => h.elim)
 ·simp only [af.all, ay, mY, lM, bne_iff_ne, ne_eq, bne_eq_false_iff_eq, show Int.toNat 0 = 0 from rfl, Bool.not_eq_true', Bool.not_eq_false', decide_eq_true_eq, decide_eq_false_iff_not]
  refine ⟨⟨jc (Nat.le_refl _), fun _ _ => rfl, by omega, n2, n3⟩, fun h => ⟨[.nil, .int .i64 (b6 x n w m)], by kernel_rfl, xR (HQ h) h⟩, fun h => ?_⟩
  obtain ⟨c1, c2, _⟩ := jE h
  have r0 := c2 0 c1
  have f0 := n3 (w 0).toNat (by omega)
  exact ⟨⟨⟨by omega, c1⟩, by omega, by omega, bD (Nat.le_refl _), bD (Nat.le_refl _), bD (Nat.le_refl _), bD (Nat.le_refl _), by omega, by omega, by omega, by omega⟩, fun ha => ⟨[.nil, .int .i64 1], by kernel_rfl, xR (CV h ha) (by decide)⟩, fun ha => ⟨⟨by omega, bD (Nat.le_refl _), bD (Nat.le_refl _), n4⟩, 0, ⟨Nat.zero_le _, h, ha⟩, [], rfl, rfl, rfl, jl rfl (by omega) (by omega) trivial⟩⟩
 ·simp only [af.all, ay, decide_eq_true_eq, decide_eq_false_iff_not]
  exact ⟨fun h => ⟨by omega, [(0, 0)], rfl, rfl, rfl, hob⟩, fun h => ⟨rfl, i, ⟨by omega, h2, h3⟩, [(0, 0)], rfl, rfl, rfl, hob⟩⟩
 ·obtain ⟨c1, c2, _⟩ := jE h2
  have ri := c2 i hlt
  have fi := n3 (w i).toNat (by omega)
  simp only [af.all, ay, Int.toNat_natCast]
  exact ⟨⟨⟨by omega, hlt⟩, ⟨by omega, by omega⟩, bD (Nat.le_refl _), bD (Nat.le_refl _), fi⟩, (0, false), ⟨Nat.zero_le _, by constructor; intro h; simp at h; rintro ⟨k, hk', _⟩; omega⟩, [(0, 0)], rfl, rfl, rfl, hob⟩
 ·obtain ⟨c1, c2, c3⟩ := jE h2
  have k1 : k ≤ (x (w i).toNat).na + (x (w i).toNat).nb := k1
  have k2 : b = true ↔ ∃ l, l < k ∧ jx (x (w i).toNat) d l = true := k2
  have ci := c3 i hlt
  have fi := n3 (w i).toNat (by have := c2 i hlt; omega)
  simp only [af.all, ay, decide_eq_true_eq, decide_eq_false_iff_not, Int.toNat_natCast, cond_false]
  have fin : ∀ {b' : Bool} {v : List AV × aB}, k < (x (w i).toNat).na + (x (w i).toNat).nb → (b' = true ↔ b = true ∨ jx (x (w i).toNat) d k = true) → cQ [] v (vu x n w m (dK x w d i).length (d.na + d.nb) i ((x (w i).toNat).na + (x (w i).toNat).nb) (k + 1) d.sp (x (w i).toNat).sp b') (fc w (dK x w d i)) 1 →
    Round [] (fun b : Nat × Bool => vu x n w m (dK x w d i).length (d.na + d.nb) i ((x (w i).toNat).na + (x (w i).toNat).nb) b.1 d.sp (x (w i).toNat).sp b.2) (fun _ => fc w (dK x w d i)) 1 (fun b => b.1 ≤ (x (w i).toNat).na + (x (w i).toNat).nb ∧ (b.2 = true ↔ ∃ k, k < b.1 ∧ jx (x (w i).toNat) d k = true)) (fun b => b.2 = jy (x (w i).toNat) d) (fun b => (x (w i).toNat).na + (x (w i).toNat).nb - b.1) 2 (fun _ => False) (k, b) .normal v :=
   fun hkl hb' hre => ⟨(k + 1, _), ⟨hkl, hb'.trans ⟨fun h => by
    rcases h with h | h
    ·obtain ⟨l, hl, hl2⟩ := k2.1 h
     exact ⟨l, by dsimp only; omega, hl2⟩
    ·exact ⟨k, by dsimp only; omega, h⟩, fun ⟨l, hl, hl2⟩ => by
    by_cases hlk : l = k
    ·subst hlk; exact .inr hl2
    ·exact .inl (k2.2 ⟨l, by dsimp only at hl; omega, hl2⟩)⟩⟩, by dsimp only; omega, hre⟩
  refine ⟨fun hkl => ⟨fun hb => ⟨fun _ => ⟨⟨hb, trivial⟩, by omega, fin (by omega) (by simp [hb]) ⟨[(0, 0)], rfl, rfl, rfl, hob⟩⟩, fun h => by simp at h⟩, fun hb => ⟨fun hc => ⟨⟨hb, ⟨by omega, by omega⟩, ⟨by omega, by omega⟩, by decide, by decide, hc⟩, by omega, fin (by omega) (by simp [uE.2 (.inl hc)]) ⟨[(0, 0)], rfl, rfl, rfl, hob⟩⟩, fun hc => ⟨⟨hb, ⟨by omega, by omega⟩, ⟨by omega, by omega⟩, by decide, by decide, hc, ⟨by omega, by omega⟩, ⟨by omega, by omega⟩, by decide, by decide⟩, by omega, fin (b' := decide (cB ((x (w i).toNat).sp k).hi (d.sp k).hi ≥ 0)) (by omega) ?_ ⟨[(0, 0)], rfl, rfl, rfl, hob⟩⟩⟩⟩, fun hkl => ⟨rfl, (k, b), ?_, [(0, 0)], rfl, rfl, rfl, hob⟩⟩
  ·rw [decide_eq_true_eq]
   exact ⟨fun h => .inr (uE.2 (.inr h)), fun h => h.elim (fun h => by rw [hb] at h; simp at h) fun h => (uE.1 h).elim (fun h => absurd h hc) id⟩
  ·show b = jy (x (w i).toNat) d
   have : k = (x (w i).toNat).na + (x (w i).toNat).nb := by omega
   subst this
   rw [Bool.eq_iff_iff, k2]
   unfold jy
   rw [decide_eq_true_eq]
 ·have k1 : b = jy (x (w i).toNat) d := k1
  have hes := Fv (x := x) (w := w) (d := d) (m := i)
  have hlen := Bv (x := x) (w := w) (d := d) (m := i)
  simp only [af.all, ay, Int.toNat_natCast]
  refine ⟨fun hb => ⟨⟨⟨by omega, hlt⟩, by omega, by omega⟩, by omega, i + 1, ⟨hlt, h2, h3⟩, by dsimp only; omega, ?_⟩, fun hb => ⟨by omega, i + 1, ⟨hlt, h2, h3⟩, by dsimp only; omega, ?_⟩⟩
  ·rw [k1] at hb
   rw [if_pos hb] at hes
   show cQ _ _ (qy x n w m (dK x w d (i + 1)).length (d.na + d.nb) (i + 1) d.sp) (fc w (dK x w d (i + 1))) _
   rw [hes]
   exact ⟨[(0, 28673)], rfl, by rw [pG]; rfl, rfl, aT rfl rfl pG.symm (fun c hc => GX (by rw [pG] at hc; exact hc)) trivial⟩
  ·rw [k1] at hb
   rw [if_neg (by rw [hb]; decide), List.append_nil] at hes
   show cQ _ _ (qy x n w m (dK x w d (i + 1)).length (d.na + d.nb) (i + 1) d.sp) (fc w (dK x w d (i + 1))) _
   rw [hes]
   exact ⟨[(0, 0)], rfl, rfl, rfl, hob⟩
 ·subst h1
  refine aq.js ((aA.fin hT Hu hm 60 JO (by kernel_rfl) ?_).mono fun _ _ h => .inl h)
  have e := Ij h2 h3
  refine ⟨oL ?_ fun _ _ => .refl _, bm e.symm, trivial⟩
  unfold jK
  rw [if_pos e]
theorem Ec {s : Sp} : fN s s = s := by unfold fN; rw [Jj, GK]
theorem WR {x : Nat → Ce} {n m : Nat} {w : Nat → Int} (n1 : m < 2 ^ 40) (n2 : n < 2 ^ 40) (n3 : ek x n) (K : Nat) :
  aC P wg K [cq x n 64, cA w m] [] (aK (.tuple [bk (fK x n w m) 64, .int .i64 (b6 x n w m)]) []) := by
 refine eW (r := aK (.tuple [bk (fK x n w m) 64, .int .i64 (b6 x n w m)]) []) hT FG rfl (of_decide_eq_true (by kernel_rfl)) rfl (fun _ cx h0 => ?_) K []
 have hk := kF h0
 obtain ⟨H, hH⟩ : ∃ H : Nat → Ce, H = fun i => ⟨(x (w 0).toNat).na, fM x w (i - 1), (x (w 0).toNat).nb, fun j => fM x w (i - 1) (j + (x (w 0).toNat).na), 1, 0⟩ := ⟨_, rfl⟩
 have hspA : ∀ {c : Ce} {j : Nat}, j < c.na → c.sp j = c.a j := fun h => by unfold Ce.sp; rw [if_pos h]
 have hspB : ∀ {c : Ce} {j : Nat}, c.sp (j + c.na) = c.b j := fun {c j} => by unfold Ce.sp; rw [if_neg (by omega), Nat.add_sub_cancel]
 refine aq.nR hT C7 hm [1,1,1,1,0,1] (i := 0) (y := part sk [1,1,1,1,0,1,0,0]) (z := part sk [1,1,1,1,1]) (by kernel_rfl) (by kernel_rfl) (by kernel_rfl) FG.dst hk (f1 := [14]) (f2 := [37]) 60 uu 2 (fun i : Nat => BD x n w m i) (fun i => AU (H i))
  (fun i => 1 ≤ i ∧ i ≤ m ∧ b6 x n w m = 0) (fun i => i = m ∧ b6 x n w m = 0) (fun i => m - i) (xp T nN [4, 5] (.tuple [bk (fK x n w m) 64, .int .i64 (b6 x n w m)])) ⟨_, YP, ?_⟩ (fun i ⟨k1, k2, k3⟩ => ⟨_, Zp, ?_⟩) (fun i ⟨k1, k2⟩ => ?_) (fun v s' hv hs' => hv.fin (L1 := [0, 1, 8, 9]) hk hs')
 ·simp only [af.all, ay, mY, lM, bne_iff_ne, ne_eq, bne_eq_false_iff_eq, show Int.toNat 0 = 0 from rfl]
  refine ⟨⟨jc (Nat.le_refl _), fun _ _ => rfl, n1, n2, n3⟩, fun h => ⟨by omega, [.ptr 0 0 4 0 [], .int .i64 (b6 x n w m)], _, 4, _, rfl, rfl, rfl, YX, rfl, ⟨⟨by omega, fun _ _ => vX rfl rfl⟩, trivial⟩, ⟨Nat.zero_lt_one, ?_⟩⟩, fun h => ?_⟩
  ·unfold fK
   rw [if_neg h]
   exact ⟨eI ⟨fS (by omega), fS (by omega), .refl _, .refl _, trivial⟩, .refl _, trivial⟩
  obtain ⟨c1, c2, _⟩ := jE h
  have r0 := c2 0 c1
  have f0 := n3 (w 0).toNat (by omega)
  refine ⟨⟨⟨by omega, c1⟩, ⟨by omega, by omega⟩, by omega⟩, ⟨by omega, by omega, bD (Nat.le_refl _), bD (Nat.le_refl _), by omega, Nat.le_refl _, by omega, by omega, bD (Nat.le_refl _), bD (Nat.le_refl _), by omega, Nat.le_refl _, by omega⟩, 1, ⟨Nat.le_refl _, c1, h⟩, [(0, 0), (1, 110592)], rfl, rfl, rfl, cr rfl rfl (.inr ⟨rfl, ?_⟩) (cr rfl rfl (aM rfl rfl) trivial)⟩
  rw [hH]
  refine eI ⟨gj fun j hj => lC ?_ (Nat.le_refl _), gj fun j hj => lC ?_ (Nat.le_refl _), .refl _, .refl _, trivial⟩
  ·show fN ((x (w 0).toNat).a j) ((x (w 0).toNat).a j) = (x (w 0).toNat).sp j
   rw [Ec, hspA hj]
  ·show fN ((x (w 0).toNat).b j) ((x (w 0).toNat).b j) = (x (w 0).toNat).sp (j + (x (w 0).toNat).na)
   rw [Ec, hspB]
 ·obtain ⟨c1, c2, c3⟩ := jE k3
  have hHna : (H i).na = (x (w 0).toNat).na := by rw [hH]
  have hHnb : (H i).nb = (x (w 0).toNat).nb := by rw [hH]
  have r0 := c2 0 c1
  have f0 := n3 (w 0).toNat (by omega)
  simp only [af.all, ay, decide_eq_true_eq, decide_eq_false_iff_not, Int.toNat_natCast]
  refine ⟨fun hlt => ?_, fun hlt => ⟨rfl, i, ⟨by omega, k3⟩, [(0, 0), (1, 1)], rfl, rfl, rfl, cr rfl rfl (aM rfl rfl) (cr rfl rfl (aM rfl rfl) trivial)⟩⟩
  have ri := c2 i (by omega)
  have ci := c3 i (by omega)
  refine ⟨⟨by omega, ⟨by omega, by omega⟩, ⟨by omega, by omega⟩, bD (Nat.le_refl _), bD (Nat.le_refl _), by omega, by omega, by omega, ⟨by omega, by omega⟩, ⟨by omega, by omega⟩, bD (Nat.le_refl _), bD (Nat.le_refl _), by omega, by omega, by omega, by omega⟩, by omega, i + 1, ⟨by omega, by omega, k3⟩, by dsimp only; omega, [(0, 0), (1, 1)], rfl, rfl, rfl, cr rfl rfl (.inr ⟨rfl, ?_⟩) (cr rfl rfl (aM rfl rfl) trivial)⟩
  have ei : i - 1 + 1 = i := by omega
  rw [hH]
  refine eI ⟨gj fun j hj => lC ?_ (Nat.le_refl _), gj fun j hj => lC ?_ (Nat.le_refl _), .refl _, .refl _, trivial⟩
  ·show fN (fM x w (i - 1) j) ((x (w i).toNat).a j) = fM x w i j
   have hj : j < (x (w 0).toNat).na := hj
   rw [← hspA (c := x (w i).toNat) (j := j) (by omega)]
   have e : fM x w (i - 1 + 1) j = fN (fM x w (i - 1) j) ((x (w (i - 1 + 1)).toNat).sp j) := rfl
   rw [ei] at e
   exact e.symm
  ·show fN (fM x w (i - 1) (j + (x (w 0).toNat).na)) ((x (w i).toNat).b j) = fM x w i (j + (x (w 0).toNat).na)
   rw [← hspB (c := x (w i).toNat) (j := j), ci.1]
   have e : fM x w (i - 1 + 1) (j + (x (w 0).toNat).na) = fN (fM x w (i - 1) (j + (x (w 0).toNat).na)) ((x (w (i - 1 + 1)).toNat).sp (j + (x (w 0).toNat).na)) := rfl
   rw [ei] at e
   exact e.symm
 ·subst k1
  refine aq.js ((aA.fin hT C7 hm 60 Jz (by kernel_rfl) ?_).mono fun _ _ h => .inl h)
  simp only [af.all, ay]
  refine ⟨⟨by omega, by omega⟩, by omega, ?_⟩
  unfold fK
  rw [if_pos k2, k2, hH]
  exact ⟨.refl _, .refl _, trivial⟩
def xA : Spec := fh (kC (jM 64) (kC iT (kC (p6 64) kN))) (fun a => nB a.1.2 a.1.1 a.2.1.2 a.2.1.1 a.2.2.1) fun a => [a.2.1.1 < 2 ^ 30, a.1.1 < 2 ^ 40, ek a.1.2 a.1.1, a.2.2.1.na + a.2.2.1.nb < 2 ^ 30]
theorem YL : ∀ K args pre r, xA K args pre = some r → aC P r7 K args pre r := en fun _ K hn => T5 hn.1 hn.2.1 hn.2.2.1 hn.2.2.2 K
theorem RV : ∀ K args pre r, xA K args pre = some r → aC P sE K args pre r := en fun _ K hn => Ql hn.1 hn.2.1 hn.2.2.1 hn.2.2.2 K
theorem Zy : ∀ K args pre r, rC K args pre = some r → aC P wg K args pre r := en fun _ K hn => WR hn.1 hn.2.1 hn.2.2.1 K
end Go.Am.B

/- brepkernellaw22.which: the indices that a die makes. -/
namespace Go.Am.B
open Go Go.Am.N AV af ak IntKind
theorem FB : aO P sB tq (ax tq) := aP K4 (by kernel_rfl) (by kernel_rfl) (by kernel_rfl)
def eJ (n : Nat) (p : Int) : Nat → Int
 | 0 => p
 | j + 1 => aZ n (aZ n (eJ n p j))
def rB (n : Nat) (f : Nat → AV) (p N : Int) (j : Nat) : Int := bC n f (eJ n p j) (N + 1) - (bC n f (aZ n (eJ n p j)) 12).tdiv 11
def jw (n : Nat) (f : Nat → AV) : Nat → Int → Nat → Nat × Int
 | 0, q, c => (c, q)
 | r + 1, q, c => if 0 < bC n f q 3 then jw n f r (aZ n q) (c + 1) else (c, aZ n q)
def jf (n : Nat) (f : Nat → AV) (a : Int) : Nat := (bC n f a 5).toNat
def iO (n : Nat) (f : Nat → AV) (a : Int) : Nat × Int := jw n f (jf n f a) (eJ n (aZ n a) (jf n f a)) 0
def gN (v : Nat → Int) (N : Int) (c b : Nat) : Int := if b < c then min (v b) (max 0 (N - 1)) else v b
def BV (n : Nat) (f : Nat → AV) (a : Int) (l : List AV) : Option (AV × Int × List Prop) := match l with
 | [.int .i64 N] => some (cA (gN (rB n f (aZ n a) N) N (iO n f a).1) (jf n f a), (iO n f a).2, [0 ≤ N, N < 2 ^ 40])
 | _ => none
def p5 : aW := nG :: (k8, gB oP) :: []
noncomputable abbrev zD : Code := ax tq
noncomputable abbrev ng : Code := part zD [1,1,1]
abbrev rH : List Nat := [0, 1, 5, 6]
abbrev qV : List Nat := [0, 1, 5, 7]
abbrev oo (N : Int) (j : Nat) (m : Int) : List AV := [.ptr 0 0 2 0 [], .int .i64 N, .own 1 1 0 j, .int .i64 m]
abbrev nk (n : Nat) (z : Nat → Int) (p : Int) (v : Nat → Int) (j : Nat) : aB := [(1, ⟨true, true, 1, j, fun b => .int .i64 (v b)⟩), (0, iI n z p)]
theorem Mi {n : Nat} {z : Nat → Int} {a N : Int} : aF T p5 [] 60 rH (before zD [1,1,0,1]) ⟨aN 0 [.ptr 0 0 2 0 [], .int .i64 N], [(0, iI n z a)], 1⟩ =
  some (ag [bG n (fun i ↦ int i64 (z i)) a, (0 : Int) < (5 : Int), (5 : Int) < (2 : Int) ^ 62] (leaf normal ([ptr 0 0 2 0 [], int i64 N, nil, int i64 (bC n (fun i ↦ int i64 (z i)) a (5 : Int))], [((0 : Nat), aD.mk false true 2 1 fun x ↦ agg [ah 1 n fun i ↦ int i64 (z i), int i64 (aZ n a)])]))) := by kernel_rfl
theorem MP {n j : Nat} {z v : Nat → Int} {p N m : Int} : aF T p5 [11] 60 rH [part zD [1,1,0,1,0,0]] ⟨az rH (oo N j m), nk n z p v j, 2⟩ =
  let c5 : AV := ah 1 n fun i ↦ int i64 (z i); let c4 : Int := N + (1 : Int); let c3 : AV := ptr 0 0 2 0 []; let c2 : Int := (2 : Int) ^ 63; let c1 : Int := bC n (fun i ↦ int i64 (z i)) p c4 - i64.wrap ((bC n (fun i ↦ int i64 (z i)) (aZ n p) (12 : Int)).tdiv (11 : Int)); some (fork (decide (m > (0 : Int))) (ag [-c2 ≤ c4 ∧ c4 < c2, bG n (fun i ↦ int i64 (z i)) p, (0 : Int) < c4, c4 < (2 : Int) ^ 62, bG n (fun i ↦ int i64 (z i)) (aZ n p), (0 : Int) < (12 : Int), (12 : Int) < (2 : Int) ^ 62, (11 : Int) ≠ (0 : Int), -c2 ≤ c1 ∧ c1 < c2, (1 : Nat) * 1 ≤ 2 ^ 24, (j + 1) * ((8 : Nat) + 1) * 2 ≤ 2 ^ 47] (ag [-c2 ≤ m - (1 : Int) ∧ m - (1 : Int) < c2] (leaf normal ([c3, int i64 N, own 49154 1 0 (j + 1), int i64 (m - (1 : Int))], [((49154 : Nat), aD.mk true true 1 (j + 1) fun i ↦ if i < j then int i64 (v i) else nth [int i64 c1] (int i64 (0 : Int)) (i - j + 0)), ((0 : Nat), aD.mk false true 2 1 fun x ↦ agg [c5, int i64 (aZ n (aZ n p))])])))) (leaf (exit 0) ([c3, int i64 N, own 1 1 0 j, int i64 m], [((1 : Nat), aD.mk true true 1 j fun b ↦ int i64 (v b)), ((0 : Nat), aD.mk false true 2 1 fun x ↦ agg [c5, int i64 p])]))) := by kernel_rfl
theorem Qh {n j : Nat} {z v : Nat → Int} {p N m : Int} : aF T p5 [] 60 qV (before ng [0,1]) ⟨az rH (oo N j m), nk n z p v j, 2⟩ =
  some (leaf normal ([ptr 0 0 2 0 [], int i64 N, own 1 1 0 j, int i64 (0 : Int)], [((1 : Nat), aD.mk true true 1 j fun b ↦ int i64 (v b)), ((0 : Nat), aD.mk false true 2 1 fun x ↦ agg [ah 1 n fun i ↦ int i64 (z i), int i64 p])])) := by kernel_rfl
theorem PM {n j i : Nat} {z v : Nat → Int} {p N : Int} : aF T p5 [29, 33] 60 qV [part ng [0,1,0,0]] ⟨az qV (oo N j i), nk n z p v j, 2⟩ =
  let c16 : AV := ah 1 n fun i ↦ int i64 (z i); let c15 : Int := N - (1 : Int); let c14 : Int := bC n (fun i ↦ int i64 (z i)) p (3 : Int); let c12 : Nat × aD := ((1 : Nat), aD.mk true true 1 j fun b ↦ int i64 (v b)); let c10 : Int := (2 : Int) ^ 63; let c9 : AV := own 1 1 0 j; let c4 : AV := ptr 0 0 2 0 []; let c3 : Int := (↑i : Int); let c19 : List AV := [c4, int i64 N, c9, int i64 c3]; let c18 : Prop := (0 : Int) ≤ c3 ∧ c3.toNat < j; let c13 : Bool := decide (c3 < (↑j : Int)); let c11 : Int := c3 + (1 : Int); let c8 : Nat := c3.toNat + 0; let c7 : Nat × aD := ((0 : Nat), aD.mk false true 2 1 fun x ↦ agg [c16, int i64 p]); let c6 : Nat × aD := ((0 : Nat), aD.mk false true 2 1 fun x ↦ agg [c16, int i64 (aZ n p)]); let c5 : Int := if (0 : Int) < c15 then c15 else (0 : Int); let c17 : List AV := [c4, int i64 N, c9, int i64 c11]; let c2 : List Prop := [c18, c8 < j, -c10 ≤ c15 ∧ c15 < c10, c18, c8 < j]; let c1 : Nat × aD := ((1 : Nat), aD.mk true true 1 j fun j ↦ if (j == c8) = true then int i64 (if c5 < v c8 then c5 else v c8) else int i64 (v j)); some (fork c13 (ag [c13 = true, bG n (fun i ↦ int i64 (z i)) p, (0 : Int) < (3 : Int), (3 : Int) < (2 : Int) ^ 62] (fork (bif true then decide (c14 > (0 : Int)) else false) (ag c2 (ag [-c10 ≤ c11 ∧ c11 < c10] (leaf normal (c17, [c1, c6])))) (leaf (exit 2) (c19, [c12, c6])))) (ag [c13 = false] (fork false (ag c2 (ag [-c10 ≤ c11 ∧ c11 < c10] (leaf normal (c17, [c1, c7])))) (leaf (exit 2) (c19, [c12, c7]))))) := by kernel_rfl
theorem Sx {n j i : Nat} {z v : Nat → Int} {p N : Int} : wV T p5 [] 60 tq [part ng [1]] ⟨az qV (oo N j i), nk n z p v j, 2⟩ =
  some (leaf ret ([ah 1 j fun i ↦ int i64 (v (i + 0))], some (aD.mk false true 2 1 fun x ↦ agg [ah 1 n fun i ↦ int i64 (z i), int i64 p]))) := by kernel_rfl
theorem A9 : br P p5 := eV (aJ x3 aY)
theorem bG.eJ {n : Nat} {f : Nat → AV} {p : Int} (h : bG n f p) : ∀ j, bG n f (Go.Am.B.eJ n p j)
 | 0 => h
 | j + 1 => (h.eJ j).next.next
theorem Vj {k n : Nat} {z : Nat → Int} {a N : Int} {o : aD} (ho : ∀ ρ, ct ρ o (iI n z a)) (h : bG n (fun i => .int .i64 (z i)) a) (h1 : 0 ≤ N) (h2 : N < 2 ^ 40) (K : Nat) :
  aC P sB K [.ptr k 0 2 0 [], .int .i64 N] [(k, o)] ⟨cA (gN (rB n (fun i => .int .i64 (z i)) (aZ n a) N) N (iO n (fun i => .int .i64 (z i)) a).1) (jf n (fun i => .int .i64 (z i)) a), [(k, iI n z (iO n (fun i => .int .i64 (z i)) a).2)], []⟩ := by
 refine Hj hT FB rfl rfl (of_decide_eq_true (by kernel_rfl)) ho (fun _ c hk => ?_) K
 have a1 := kM (n := n) (f := fun i => .int .i64 (z i)) (a := a) (m := 5) (by omega)
 have a2 := ij (n := n) (f := fun i => .int .i64 (z i)) (a := a) (m := 5) (by omega)
 have hL : bC n (fun i => .int .i64 (z i)) a 5 = (jf n (fun i => .int .i64 (z i)) a : Int) := by unfold jf; omega
 have hp := h.next
 unfold iO
 generalize jf n (fun i => .int .i64 (z i)) a = L at *
 obtain ⟨p, hpe⟩ : ∃ p, p = aZ n a := ⟨_, rfl⟩
 rw [← hpe] at hp ⊢
 obtain ⟨v, hv⟩ : ∃ v, v = rB n (fun i => .int .i64 (z i)) p N := ⟨_, rfl⟩
 rw [← hv]
 obtain ⟨R, hR⟩ : ∃ R, R = jw n (fun i => .int .i64 (z i)) L (eJ n p L) 0 := ⟨_, rfl⟩
 rw [← hR]
 refine aq.nR hT A9 hm [1,1,0,1] (i := 0) (y := part zD [1,1,0,1,0,0]) (z := ng) (by kernel_rfl) (by kernel_rfl) (by kernel_rfl) FB.dst hk (f1 := []) (f2 := [11]) 60 rH 2 (fun j : Nat => oo N j ((L : Int) - j)) (fun j => nk n z (eJ n p j) v j) (fun j => j ≤ L) (fun j => j = L) (fun j => L - j) (fun _ => False)
  ⟨_, Mi, ?_⟩ (fun j hj => ⟨_, MP, ?_⟩) (fun j hj => ?_) (fun _ _ h => h.elim)
 ·simp only [af.all, ay]
  refine ⟨⟨h, by omega, by omega⟩, 0, Nat.zero_le _, [(0, 0)], rfl, ?_, rfl, jl rfl (by omega) (by omega) (cr rfl rfl (aM rfl (by rw [hpe]; rfl)) trivial)⟩
  show _ = (oo N 0 ((L : Int) - 0)).map _
  rw [hL, Int.sub_zero]; rfl
 ·have hq := hp.eJ j
  have b1 := kM (n := n) (f := fun i => .int .i64 (z i)) (a := eJ n p j) (m := N + 1) (by omega)
  have b2 := ij (n := n) (f := fun i => .int .i64 (z i)) (a := eJ n p j) (m := N + 1) (by omega)
  have c1 := kM (n := n) (f := fun i => .int .i64 (z i)) (a := aZ n (eJ n p j)) (m := 12) (by omega)
  have c2 := ij (n := n) (f := fun i => .int .i64 (z i)) (a := aZ n (eJ n p j)) (m := 12) (by omega)
  have hvj : v j = bC n (fun i => .int .i64 (z i)) (eJ n p j) (N + 1) - (bC n (fun i => .int .i64 (z i)) (aZ n (eJ n p j)) 12).tdiv 11 := by rw [hv]; rfl
  have d1 : 0 ≤ (bC n (fun i => .int .i64 (z i)) (aZ n (eJ n p j)) 12).tdiv 11 ∧ (bC n (fun i => .int .i64 (z i)) (aZ n (eJ n p j)) 12).tdiv 11 ≤ 1 := by
   rw [Int.tdiv_eq_ediv_of_nonneg c1]; omega
  have e1 : i64.wrap ((bC n (fun i => .int .i64 (z i)) (aZ n (eJ n p j)) 12).tdiv 11) = (bC n (fun i => .int .i64 (z i)) (aZ n (eJ n p j)) 12).tdiv 11 := wrap_i64 (by omega) (by omega)
  have e2 : (L : Int) - j - 1 = (L : Int) - (j + 1 : Nat) := by omega
  simp only [af.all, ay, decide_eq_true_eq, decide_eq_false_iff_not, e1, e2, ← hvj]
  refine ⟨fun hlt => ⟨⟨by omega, hq, by omega, by omega, hq.next, by omega, by omega, by decide, by omega, by omega, by omega⟩, by omega, j + 1, by omega, by dsimp only; omega, [(0, 0), (1, 49154)], rfl, rfl, rfl, aT rfl rfl rfl (fun b hb => ?_) (cr rfl rfl (aM rfl rfl) trivial)⟩, fun hlt => ⟨rfl, j, by omega, [(0, 0), (1, 1)], rfl, rfl, rfl, aT rfl rfl rfl (fun _ _ => aM rfl rfl) (cr rfl rfl (aM rfl rfl) trivial)⟩⟩
  by_cases hbj : b < j
  ·rw [if_pos hbj]; exact aM rfl rfl
  ·have : b = j := by omega
   subst this
   rw [if_neg hbj, Nat.sub_self]
   exact aM rfl rfl
 ·subst hj
  have hq0 := hp.eJ j
  refine aq.nR hT A9 hm (x := ng) [0,1] (i := 2) (y := part ng [0,1,0,0]) (z := part ng [1]) (by kernel_rfl) (by kernel_rfl) (by kernel_rfl) (by kernel_rfl) hk (f1 := []) (f2 := [29, 33]) 60 qV 2 (fun b : Nat × Int => oo N j b.1) (fun b => nk n z b.2 (gN v N b.1) j) (fun b => b.1 ≤ j ∧ bG n (fun i => .int .i64 (z i)) b.2 ∧ jw n (fun i => .int .i64 (z i)) (j - b.1) b.2 b.1 = R) (fun b => b = R) (fun b => j - b.1) (fun _ => False)
   ⟨_, Qh, ?_⟩ (fun ⟨i, q⟩ ⟨g1, g2, g3⟩ => ⟨_, PM, ?_⟩) (fun b hb => ?_) (fun _ _ h => h.elim)
  ·simp only [af.all, ay]
   refine ⟨(0, eJ n p j), ⟨Nat.zero_le _, hq0, hR.symm⟩, [(0, 0), (1, 1)], rfl, rfl, rfl, aT rfl rfl rfl (fun b _ => aM rfl ?_) (cr rfl rfl (aM rfl rfl) trivial)⟩
   show AV.int i64 (v b) = AV.int i64 (gN v N 0 b)
   unfold gN
   rw [if_neg (Nat.not_lt_zero _)]
  ·have g1 : i ≤ j := g1
   have g3 : jw n (fun i => .int .i64 (z i)) (j - i) q i = R := g3
   have hj5 : j < 6 := by omega
   simp only [af.all, ay, decide_eq_true_eq, decide_eq_false_iff_not, Int.toNat_natCast, Nat.add_zero, cond_true]
   have hid : ∀ {q' : Int}, fI 2 [(0, 0), (1, 1)] [(1, ⟨true, true, 1, j, fun b => .int .i64 (gN v N i b)⟩), (0, iI n z q')] (nk n z q' (gN v N i) j) := aT rfl rfl rfl (fun _ _ => aM rfl rfl) (cr rfl rfl (aM rfl rfl) trivial)
   refine ⟨fun hlt => ?_, fun hlt => ⟨hlt, fun h => by simp at h, fun _ => ⟨rfl, (i, q), ?_, [(0, 0), (1, 1)], rfl, rfl, rfl, hid⟩⟩⟩
   ·have ej : j - i = (j - (i + 1)) + 1 := by omega
    rw [ej] at g3
    unfold jw at g3
    refine ⟨⟨hlt, g2, by omega, by omega⟩, fun hn => ⟨⟨⟨by omega, by omega⟩, by omega, by omega, ⟨by omega, by omega⟩, by omega⟩, by omega, (i + 1, aZ n q), ⟨by dsimp only; omega, g2.next, ?_⟩, by dsimp only; omega, [(0, 0), (1, 1)], rfl, rfl, rfl, aT rfl rfl rfl (fun b _ => aM (vX rfl rfl) ?_) (cr rfl rfl (aM rfl rfl) trivial)⟩, fun hn => ⟨rfl, (i, aZ n q), ?_, [(0, 0), (1, 1)], rfl, rfl, rfl, hid⟩⟩
    ·rw [if_pos (by omega)] at g3; exact g3
    ·show (if (b == i) = true then AV.int i64 (if (if (0 : Int) < N - 1 then N - 1 else 0) < gN v N i i then (if (0 : Int) < N - 1 then N - 1 else 0) else gN v N i i) else AV.int i64 (gN v N i b)) = AV.int i64 (gN v N (i + 1) b)
     have em : (if (0 : Int) < N - 1 then N - 1 else 0) = max 0 (N - 1) := by split <;> omega
     rw [em]
     unfold gN
     generalize max 0 (N - 1) = M
     by_cases hb : b = i
     ·subst hb
      rw [if_pos (by simp), if_neg (Nat.lt_irrefl b), if_pos (show b < b + 1 by omega)]
      exact congrArg (AV.int i64) (by rw [Int.min_def]; split <;> split <;> omega)
     ·rw [if_neg (by simpa using hb)]
      congr 1
      by_cases hbi : b < i
      ·rw [if_pos hbi, if_pos (by omega)]
      ·rw [if_neg hbi, if_neg (by omega)]
    ·rw [if_neg (by omega)] at g3; exact g3
   ·have : i = j := by omega
    subst this
    rw [Nat.sub_self] at g3
    exact g3
  ·subst hb
   refine aq.js (aA.Gk hT A9 hm 60 Sx (by kernel_rfl) ?_)
   simp only [af.all, ay]
   exact ⟨.refl _, _, rfl, rfl, ni rfl rfl⟩
theorem Zz : ∀ K args pre r, gB BV K args pre = some r → aC P sB K args pre r := by
 refine tB fun {k n z a l v b q o} K hg ho hd hq => ?_
 unfold BV at hg
 split at hg
 ·simp only [Option.some.injEq, Prod.mk.injEq] at hg
  obtain ⟨rfl, rfl, rfl⟩ := hg
  exact Vj ho hd hq.1 hq.2 K
 ·simp at hg
theorem QX {n : Nat} {f : Nat → AV} {a : Int} : jf n f a ≤ 4 := by
 have := ij (n := n) (f := f) (a := a) (m := 5) (by omega)
 unfold jf; omega
theorem bG.jw {n : Nat} {f : Nat → AV} : ∀ {r : Nat} {q : Int} {c : Nat}, bG n f q → bG n f (Go.Am.B.jw n f r q c).2
 | 0, _, _, h => h
 | r + 1, q, c, h => by
  unfold Go.Am.B.jw
  split
  ·exact bG.jw h.next
  ·exact h.next
theorem bG.iO {n : Nat} {f : Nat → AV} {a : Int} (h : bG n f a) : bG n f (Go.Am.B.iO n f a).2 := bG.jw (h.next.eJ _)
theorem bG.cells {n : Nat} {f : Nat → AV} {a : Int} (h : bG n f a) : bG n f (pL n f a) := h.next.next.next.ey _
end Go.Am.B
