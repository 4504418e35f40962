/- basis.Blossom, handed lists that may still be written to. -/
import Derived.Test.YthnoegfjpmlndaaY45
import Derived.Test.YthnoegfjpmlndaaZ2
set_option linter.unusedVariables false
namespace Go.Am.B
open Go Go.Am.N AV ATree AEx IntKind
abbrev rowK (m : Nat) (c : Nat → Rat) : AObj := ⟨true, true, 3, m, fun i => .rat (c i) sK⟩
abbrev rowF (m : Nat) (c : Nat → Rat) : AObj := ⟨true, false, 3, m, fun i => .rat (c i) sK⟩
abbrev boL1 : List Nat := [10, 11, 2, 4, 0, 1, 3, 12, 66, 67, 68]
abbrev boV1 (n : Nat) (k : Nat → Rat) (p m i : Nat) (r : Nat) : List AV := [.ptr 2 0 3 0 [], .int .i64 0, .own 1 3 0 m, .own 0 3 0 p, ls k n, .int .i64 p, .int .i64 i, .own 3 3 0 (p + 1), .own 0 3 0 p, .int .i64 p, .int .i64 r]
abbrev boO (p m : Nat) (a c : Nat → Rat) (x : Nat → Rat) (s : Nat → Nat) : Store := [(3, rowS (p + 1) x s), (2, zO), (1, rowF m c), (0, rowK p a)]
abbrev boL2 : List Nat := [10, 11, 2, 4, 0, 1, 3, 12, 66, 67, 68, 13, 14, 15]
abbrev boV2 (n : Nat) (k : Nat → Rat) (p m i : Nat) (r j : Nat) : List AV := [.ptr 2 0 3 0 [], .int .i64 0, .own 1 3 0 m, .own 0 3 0 p, ls k n, .int .i64 p, .int .i64 i, .own 3 3 0 (p + 1), .own 0 3 0 p, .int .i64 p, .int .i64 r, .int .i64 r, .ptr 4 0 3 0 [], .int .i64 j]
abbrev boS (m l : Nat) (c a : Nat → Rat) : Store := [(0, rowK l a), (1, rowF m c)]
theorem bo_pre {n m p l : Nat} {k c a : Nat → Rat} {i : Int} : seeL T GBl [18, 25, 36, 42, 32] 60 boL1 (before blC [1,1,1,1,0,1]) ⟨zipSlots 0 [ls k n, .int .i64 p, .own 1 3 0 m, .int .i64 i, .own 0 3 0 l], boS m l c a, 2⟩ =
    let c29 : Prop := n < 2 ^ 40; let c28 : Prop := sK < 2 ^ 42; let c27 : Prop := allRat (fun i ↦ rat (k i) sK) n sK; let c26 : AV := own 1 3 0 m; let c25 : Int := i + (1 : Int); let c23 : AV := tab 3 n fun i ↦ rat (k i) 1048576; let c21 : Int := (2 : Int) ^ 40; let c20 : AV := rat 0 1; let c18 : AV := own 0 3 0 l; let c17 : Nat × AObj := ((0 : Nat), AObj.mk true true 3 l fun i ↦ rat (a i) 1048576); let c16 : Nat × AObj := ((1 : Nat), AObj.mk true false 3 m fun i ↦ rat (c i) 1048576); let c14 : AV := ptr 2 0 3 0 []; let c13 : Int := (2 : Int) ^ 63; let c12 : Int := (↑m : Int); let c6 : Int := (↑p : Int); let c22 : Bool := decide (i < c6); let c19 : Bool := c12 != (↑n : Int) - c6 - (1 : Int); let c15 : Bool := bif false then true else decide (i ≥ c12); let c11 : Int := c6 + (1 : Int); let c10 : Int := cmpR (k i.toNat) (k c25.toNat); let c8 : List AV := [c26, c18, c23, int i64 c6, int i64 i, tuple [], tuple [], tuple [], tuple []]; let c7 : List Prop := [(0 : Int) ≤ i ∧ i.toNat < n, -c13 ≤ c25 ∧ c25 < c13, (0 : Int) ≤ c25 ∧ c25.toNat < n, c28, c28]; let c5 : List (Nat × AObj) := [c17, c16, ((2 : Nat), AObj.mk false true 3 1 fun j ↦ if (j == 0) = true then deN (agg c20.kids) else c20)]; let c24 : Bool := bif false then true else decide (c10 ≥ (0 : Int)); let c9 : Nat := 0 + Min.min (c12.toNat - (i - c6).toNat) c11.toNat; let c4 : ATree (List AV × Store) := must [(0 : Nat) < 1] (leaf ret (c14 :: int i64 (1 : Int) :: c8, c5)); let c3 : ATree (List AV × Store) := must [(0 : Nat) < 1] (leaf ret (c14 :: int i64 (7 : Int) :: c8, c5)); let c2 : ATree (List AV × Store) := must [-c13 ≤ c11 ∧ c11 < c13, (0 : Int) ≤ c11 ∧ c11 ≤ c11 ∧ c11 ≤ (2 : Int) ^ 47 ∧ c11 * (↑(56 : Nat) : Int) ≤ (2 : Int) ^ 47] (must [-c13 ≤ i - c6 ∧ i - c6 < c13, (0 : Int) ≤ i - c6 ∧ i - c6 ≤ c12 ∧ c12 ≤ c12 ∧ c12 ≤ c12] (leaf normal ([c14, int i64 (0 : Int), c26, c18, c23, int i64 c6, int i64 i, own 163842 3 0 c11.toNat, c18, int i64 (↑l : Int), int i64 (0 : Int)], [c17, ((163842 : Nat), AObj.mk true true 3 c11.toNat fun i_1 ↦ if 0 ≤ i_1 ∧ i_1 < c9 then rat (c (i_1 - 0 + ((0 : Nat) + (i - c6).toNat))) sK else c20), c16, ((2 : Nat), AObj.mk false true 3 1 fun x ↦ c20)]))); let c1 : ATree (List AV × Store) := fork c22 (fork true (must [c22 = true, true = true] (fork true c3 c2)) (must ((c22 = true) :: (true = false) :: c7) (fork c24 c3 c2))) (fork c15 (must [c22 = false, c15 = true] (fork true c3 c2)) (must ((c22 = false) :: (c15 = false) :: c7) (fork c24 c3 c2))); some (fork c19 (must [c27, c29, -c21 < c6, c6 < c21, c19 = true] (fork true c4 c1)) (must [c27, c29, -c21 < c6, c6 < c21, c19 = false] (fork (bif false then true else (↑l : Int) != c6) c4 c1))) := by kernel_rfl
theorem bo_r {e : Int} {m l : Nat} {c a : Nat → Rat} : endQ T fn_basis_Blossom .ret ⟨zipL [10, 11, 2, 4] [.ptr 2 0 3 0 [], .int .i64 e, .own 1 3 0 m, .own 0 3 0 l], [(0, rowK l a), (1, rowF m c), (2, ⟨false, true, 3, 1, fun j => if (j == 0) = true then deN (agg (kids (.rat 0 1))) else .rat 0 1⟩)], 3⟩ =
    some (must [(0 : Nat) < 1] (leaf ret ([agg [AV.bool false, mag 0, mag 0], int i64 e], some (AObj.mk true true 3 l fun i ↦ rat (a i) 1048576), some (AObj.mk true false 3 m fun i ↦ rat (c i) 1048576)))) := by kernel_rfl
theorem bo_o {n p m i r : Nat} {k a c x : Nat → Rat} {s : Nat → Nat} : seeL T GBl [69] 60 boL1 (before blY [1,1,0]) ⟨zipL boL1 (boV1 n k p m i r), boO p m a c x s, 4⟩ =
    let c3 : Int := (↑p : Int); let c2 : AV := own 0 3 0 p; let c1 : List AV × Store := ([ptr 2 0 3 0 [], int i64 (0 : Int), own 1 3 0 m, c2, tab 3 n fun i ↦ rat (k i) 1048576, int i64 c3, int i64 (↑i : Int), own 3 3 0 (p + 1), c2, int i64 c3, int i64 (↑r : Int)], [((0 : Nat), AObj.mk true true 3 p fun i ↦ rat (a i) 1048576), ((3 : Nat), AObj.mk true true 3 (p + 1) fun i ↦ rat (x i) (s i)), ((1 : Nat), AObj.mk true false 3 m fun i ↦ rat (c i) 1048576), ((2 : Nat), AObj.mk false true 3 1 fun x ↦ rat 0 1)]); some (fork (decide ((↑r : Int) < c3)) (leaf normal c1) (leaf (exit 1) c1)) := by kernel_rfl
theorem bo_i {n p m i r : Nat} {k a c x : Nat → Rat} {s : Nat → Nat} : seeL T GBl [] 60 boL2 (before blX [1,1]) ⟨zipL boL1 (boV1 n k p m i r), boO p m a c x s, 4⟩ =
    let c4 : AV := rat 0 1; let c3 : AV := int i64 (↑p : Int); let c2 : AV := own 0 3 0 p; let c1 : Int := (↑r : Int); some (must [(0 : Int) ≤ c1 ∧ c1.toNat < p, c1.toNat + 0 < p, (0 : Nat) < 1] (leaf normal ([ptr 2 0 3 0 [], int i64 (0 : Int), own 1 3 0 m, c2, tab 3 n fun i ↦ rat (k i) 1048576, c3, int i64 (↑i : Int), own 3 3 0 (p + 1), c2, c3, int i64 c1, int i64 c1, ptr 12292 0 3 0 [], c3], [((12292 : Nat), AObj.mk false true 3 1 fun j ↦ if (j == 0) = true then deN (rat (a (c1.toNat + 0)) sK) else c4), ((0 : Nat), AObj.mk true true 3 p fun i ↦ rat (a i) 1048576), ((3 : Nat), AObj.mk true true 3 (p + 1) fun i ↦ rat (x i) (s i)), ((1 : Nat), AObj.mk true false 3 m fun i ↦ rat (c i) 1048576), ((2 : Nat), AObj.mk false true 3 1 fun x ↦ c4)]))) := by kernel_rfl
theorem bo_b {n p m i r j : Nat} {k a c x : Nat → Rat} {s : Nat → Nat} {t : Rat} : seeL T GBl [76] 60 boL2 [part blX [1,1,0,0]] ⟨zipL boL2 (boV2 n k p m i r j), (4, tP t sK) :: boO p m a c x s, 5⟩ =
    let c28 : Int := (↑r : Int); let c25 : Int := (↑i : Int); let c22 : AV := own 1 3 0 m; let c20 : Prop := 0 < 1; let c18 : AV := ptr 2 0 3 0 []; let c17 : AV := ptr 4 0 3 0 []; let c15 : AV := tab 3 n fun i ↦ rat (k i) 1048576; let c14 : Int := (↑j : Int); let c13 : Int := (↑p : Int); let c12 : Nat × AObj := ((0 : Nat), AObj.mk true true 3 p fun i ↦ rat (a i) 1048576); let c11 : Nat × AObj := ((4 : Nat), AObj.mk false true 3 1 fun x ↦ rat t 1048576); let c10 : Nat := 2 ^ 42; let c9 : AV := own 0 3 0 p; let c7 : Nat := p + 1; let c6 : List (Nat × AObj) := [((1 : Nat), AObj.mk true false 3 m fun i ↦ rat (c i) 1048576), ((2 : Nat), AObj.mk false true 3 1 fun x ↦ rat 0 1)]; let c3 : Int := (2 : Int) ^ 63; let c27 : AV := int i64 c13; let c24 : Prop := (0 : Int) ≤ c14 ∧ c14.toNat < c7; let c21 : AV := own 3 3 0 c7; let c16 : AV := int i64 c28; let c4 : Nat := c14.toNat + 0; let c2 : Int := c25 - c13 + c14; let c1 : Int := c14 - (1 : Int); let c26 : Prop := (0 : Int) ≤ c1 ∧ c1.toNat < c7; let c23 : Prop := -c3 ≤ c1 ∧ c1 < c3; let c8 : Int := c2 + c13 - c28; let c5 : Nat := c1.toNat + 0; let c19 : Nat := s c4 + s c5 + 1; some (fork (decide (c14 > c28)) (must [-c3 ≤ c25 - c13 ∧ c25 - c13 < c3, -c3 ≤ c2 ∧ c2 < c3] (must [(0 : Int) ≤ c2 ∧ c2.toNat < n, -c3 ≤ c2 + c13 ∧ c2 + c13 < c3, -c3 ≤ c8 ∧ c8 < c3, (0 : Int) ≤ c8 ∧ c8.toNat < n, c20, sK ≤ sK, sK ≤ sK, sK ≤ sK, c20] (must [c23, c26, c5 < c7, c20, c24, c4 < c7, c23, c26, c5 < c7, s c4 < c10, s c5 < c10, sF < c10, c19 < c10, s c5 < c10, sF + c19 < c10, c24, c4 < c7] (must [c23] (leaf normal ([c18, int i64 (0 : Int), c22, c9, c15, c27, int i64 c25, c21, c9, c27, c16, c16, c17, int i64 c1], c11 :: c12 :: ((3 : Nat), AObj.mk true true 3 c7 fun j ↦ rat (bif j == c4 then x c5 + fr (k c2.toNat) (k c8.toNat) t * (x c4 - x c5) else x j) (bif j == c4 then s c5 + (sF + c19) + 1 else s j)) :: c6)))))) (leaf (exit 3) ([c18, int i64 (0 : Int), c22, c9, c15, c27, int i64 c25, c21, c9, c27, c16, c16, c17, int i64 c14], c11 :: c12 :: ((3 : Nat), AObj.mk true true 3 c7 fun i ↦ rat (x i) (s i)) :: c6))) := by kernel_rfl
theorem bo_t {n p m i r j : Nat} {k a c x : Nat → Rat} {s : Nat → Nat} {t : Rat} : seeL T GBl [] 60 boL1 [part blY [1,1,1]] ⟨zipL boL2 (boV2 n k p m i r j), (4, tP t sK) :: boO p m a c x s, 5⟩ =
    let c2 : AV := own 0 3 0 p; let c1 : Int := (↑r : Int) + (1 : Int); some (must [-(2 : Int) ^ 63 ≤ c1 ∧ c1 < (2 : Int) ^ 63] (leaf normal ([ptr 2 0 3 0 [], int i64 (0 : Int), own 1 3 0 m, c2, tab 3 n fun i ↦ rat (k i) 1048576, int i64 (↑p : Int), int i64 (↑i : Int), own 3 3 0 (p + 1), c2, int i64 (↑p : Int), int i64 c1], [((0 : Nat), AObj.mk true true 3 p fun i ↦ rat (a i) 1048576), ((3 : Nat), AObj.mk true true 3 (p + 1) fun i ↦ rat (x i) (s i)), ((1 : Nat), AObj.mk true false 3 m fun i ↦ rat (c i) 1048576), ((2 : Nat), AObj.mk false true 3 1 fun x ↦ rat 0 1)]))) := by kernel_rfl
theorem bo_e {n p m i r : Nat} {k a c x : Nat → Rat} {s : Nat → Nat} : endQL T GBl [] 60 fn_basis_Blossom [part blC [1,1,1,1,1]] ⟨zipL boL1 (boV1 n k p m i r), boO p m a c x s, 4⟩ =
    let c1 : Nat := (↑p : Int).toNat + 0; some (must [(0 : Int) ≤ (↑p : Int) ∧ (↑p : Int).toNat < p + 1, c1 < p + 1, s c1 < 2 ^ 42, (1 : Nat) < 2 ^ 42, (0 : Nat) < 1] (must [(0 : Nat) < 1] (leaf ret ([rat (x c1 + 0) (s c1 + 1 + 1), int i64 (0 : Int)], some (AObj.mk true true 3 p fun i ↦ rat (a i) 1048576), some (AObj.mk true false 3 m fun i ↦ rat (c i) 1048576))))) := by kernel_rfl
theorem boR_ok {n p m l : Nat} {k c a : Nat → Rat} {i : Int} (hp1 : 1 ≤ p) (hp6 : p ≤ 6) (hn : n < 2 ^ 40) (hm2 : m < 2 ^ 40) (hi : -2 ^ 40 < i) (hi2 : i < 2 ^ 40) (cx : Ctx) (hk : Kept [0, 1] cx) :
    AWp P cx fn_basis_Blossom.ntmps (codeOf fn_basis_Blossom) ⟨zipSlots 0 [ls k n, .int .i64 p, .own 1 3 0 m, .int .i64 i, .own 0 3 0 l], [(0, rowK l a), (1, rowF m c)], 2⟩ (Lower cx (EndQ T fn_basis_Blossom [.rat (blR n k p m c i l a) sB, .int .i64 (blE n k p m l i)] (rowK l a) (rowF m c))) := by
  obtain ⟨b, hb⟩ : ∃ b, b = i.toNat - p := ⟨_, rfl⟩
  obtain ⟨x, hx⟩ : ∃ x : Nat → Nat → Rat, x = fun r => bR k b p a (fun j => c (b + j)) r := ⟨_, rfl⟩
  have hx0 : x 0 = fun j => c (b + j) := by rw [hx]; rfl
  have hxS : ∀ r, x (r + 1) = stepB k b p r (a r) (x r) := fun r => by rw [hx]; rfl
  have hSF := sF_is
  have hSK : sK = 1048576 := rfl
  have hSV : sV = 68719476736 := rfl
  have hrow : ∀ (l : Nat) (a : Nat → Rat) (w : Bool) (ρ : Nat → Option Nat), objLe ρ ⟨true, w, 3, l, fun i => .rat (a i) sK⟩ ⟨true, w, 3, l, fun i => .rat (a i) sK⟩ := fun l a w ρ => objLe_of rfl fun _ _ => avLe_pure rfl
  refine AWp.hloopW hT GBl_ok hm [1,1,1,1,0,1] (i := 1) (y := blY) (z := part blC [1,1,1,1,1]) (by kernel_rfl) (by kernel_rfl) (by kernel_rfl) is_bBl.dst hk (f1 := [18, 25, 36, 42, 32]) 60 boL1 4 (fun r : Nat => boV1 n k p m i.toNat r) (fun r => boO p m a c (x r) fun _ => SB r)
    (fun r => r ≤ p ∧ blE n k p m l i = 0) (fun r => r = p ∧ blE n k p m l i = 0) (fun r => p - r) (RetQ T fn_basis_Blossom [10, 11, 2, 4] [.rat (blR n k p m c i l a) sB, .int .i64 (blE n k p m l i)] (rowK l a) (rowF m c)) ⟨_, bo_pre, ?_⟩ (fun r ⟨hr, he⟩ => ?_) (fun r ⟨hr, he⟩ => ?_) (fun v s' hv hs' => hv.fin (L1 := [0, 1, 3, 12, 66, 67, 68]) hk hs')
  · simp only [ATree.all, allP, ratV_rat, bne_iff_ne, ne_eq, bne_eq_false_iff_eq, Int.toNat_natCast, cond_false, decide_eq_true_eq, decide_eq_false_iff_not, cmpR_ge]
    have ret : ∀ {e : Int} {us : List AV}, blE n k p m l i = e → e ≠ 0 → keysL us = [] → RetQ T fn_basis_Blossom [10, 11, 2, 4] [.rat (blR n k p m c i l a) sB, .int .i64 (blE n k p m l i)] (rowK l a) (rowF m c) ([ptr 2 0 3 0 [], int i64 e, own 1 3 0 m, own 0 3 0 l] ++ us, [((0 : Nat), rowK l a), ((1 : Nat), rowF m c), ((2 : Nat), AObj.mk false true 3 1 fun j ↦ if (j == 0) = true then deN (agg (kids (.rat 0 1))) else .rat 0 1)]) := fun {e us} h1 h2 h3 =>
      ⟨[_, _, _, _], us, 3, _, rfl, rfl, h3, bo_r, rfl, ⟨⟨by omega, fun i _ => rfl⟩, ⟨by omega, fun i _ => rfl⟩, ⟨by omega, fun i _ => keys_ite rfl rfl⟩, trivial⟩, by omega, Nat.zero_lt_one, rfl, rfl, blRes_err h1 h2, ⟨_, rfl, hrow _ _ _⟩, ⟨_, rfl, hrow _ _ _⟩⟩
    (repeat' with_reducible first | refine And.intro ?_ ?_ | intro _)
    all_goals first | omega | exact allRat_ls (Nat.le_refl _) | exact absurd ‹true = false› (by decide) | assumption | skip
    all_goals first | exact ret (blE_arg (.inl ‹_›)) (by decide) rfl | exact ret (blE_arg (.inr (by omega))) (by decide) rfl | skip
    all_goals first | exact ret (blE_range (by omega) (by omega) (.inl (by omega))) (by decide) rfl | exact ret (blE_range (by omega) (by omega) (.inr (.inl (by omega)))) (by decide) rfl | skip
    all_goals have e1 : (i + 1).toNat = i.toNat + 1 := by omega
    · exact ret (blE_range (by omega) (by omega) (.inr (.inr (by rw [← e1]; assumption)))) (by decide) rfl
    · rename_i h1
      rw [e1] at h1
      have hlp : l = p := by omega
      subst hlp
      refine ⟨0, ⟨by omega, blE_ok (by omega) rfl (by rintro (h | h | h) <;> first | omega | exact h1 h)⟩, [(0, 0), (1, 1), (2, 2), (3, 163842)], rfl, ?_, rfl, objsQ_cons rfl rfl (by omega) (fun j hj => ?_) (objsQ_one rfl rfl (avQ_eq rfl rfl) (objsQ_cons rfl rfl rfl (fun j hj => avQ_eq rfl rfl) (objsQ_cons rfl rfl rfl (fun j hj => avQ_eq rfl rfl) trivial)))⟩
      · rw [show ((l : Int) + 1).toNat = l + 1 by omega]
        show _ = [_, _, _, _, _, _, AV.int i64 ((i.toNat : Nat) : Int), _, _, _, _]
        rw [show ((i.toNat : Nat) : Int) = i by omega]
        rfl
      · rw [if_pos (by omega), hx0, show (i - (l : Int)).toNat = b by omega, Nat.sub_zero, Nat.zero_add, Nat.add_comm j b]
        exact .inr ⟨rfl, avLe0_rat_up rfl (show sK ≤ SB 0 by decide)⟩
  · have hin : (m : Int) = (n : Int) - p - 1 ∧ p ≤ i.toNat ∧ i.toNat < m ∧ i.toNat = b + p ∧ l = p := by
      unfold blE at he
      split at he
      · omega
      · split at he
        · omega
        · omega
    obtain ⟨i1, i2, i3, i4, i5⟩ := hin
    subst i5
    have hr4 : ∀ {s : Nat → Nat} {y : Nat → Rat}, objsQ [(0, 0), (1, 1), (2, 2), (3, 3)] [((0 : Nat), rowK l a), ((3 : Nat), AObj.mk true true 3 (l + 1) fun i ↦ rat (y i) (s i)), ((1 : Nat), rowF m c), ((2 : Nat), AObj.mk false true 3 1 fun x ↦ rat 0 1)] (boO l m a c y s) := objsQ_cons rfl rfl rfl (fun j hj => avQ_eq rfl rfl) (objsQ_one rfl rfl (avQ_eq rfl rfl) (objsQ_cons rfl rfl rfl (fun j hj => avQ_eq rfl rfl) (objsQ_cons rfl rfl rfl (fun j hj => avQ_eq rfl rfl) trivial)))
    refine AWp.into hT GBl_ok hm (y := blY) (x1 := blX) (zb := part blY [1,1,1]) [1,1,0] (j := 2) (by kernel_rfl) (by kernel_rfl) (by kernel_rfl) (by kernel_rfl) hk (f1 := [69]) 60 boL1 4 (fun _ : Unit => boV1 n k l m i.toNat r) (fun _ => boO l m a c (x r) fun _ => SB r) (fun _ => r < l) ⟨_, bo_o, ?_⟩ (fun _ hr' => ?_)
    · simp only [ATree.all, allP, decide_eq_true_eq, decide_eq_false_iff_not]
      have re : ∀ {s : Nat → Nat} {y : Nat → Rat}, ReOK [0, 1] ([ptr 2 0 3 0 [], int i64 (0 : Int), own 1 3 0 m, own 0 3 0 l, tab 3 n fun i ↦ rat (k i) sK, int i64 l, int i64 (i.toNat : Nat), own 3 3 0 (l + 1), own 0 3 0 l, int i64 l, int i64 (r : Nat)], [((0 : Nat), rowK l a), ((3 : Nat), AObj.mk true true 3 (l + 1) fun i ↦ rat (y i) (s i)), ((1 : Nat), rowF m c), ((2 : Nat), AObj.mk false true 3 1 fun x ↦ rat 0 1)]) (boV1 n k l m i.toNat r) (boO l m a c y s) 4 :=
        ⟨[(0, 0), (1, 1), (2, 2), (3, 3)], rfl, rfl, rfl, hr4⟩
      exact ⟨fun h1 => ⟨(), by omega, re⟩, fun h1 s' hs' => ⟨rfl, r, ⟨by omega, he⟩, re.le hs' hk⟩⟩
    have h1 := SB_lo (d := r)
    have h2 := SB_hi (d := r) (by omega)
    have h3 := SB_succ (d := r)
    refine AWp.hloop0 hT GBl_ok hm (x := blX) [1,1] (i := 3) (y := part blX [1,1,0,0]) (by kernel_rfl) (by kernel_rfl) (by kernel_rfl) hk (f1 := []) (f2 := [76]) 60 boL2 5 (fun j : Nat => boV2 n k l m i.toNat r j) (fun j => (4, tP (a r) sK) :: boO l m a c (upB k b l r (a r) (x r) j) (upS r j)) (fun j => r ≤ j ∧ j ≤ l) (fun j => j = r) (fun j => j) (fun _ => False) ⟨_, bo_i, ?_⟩ (fun j hj => ⟨_, bo_b, ?_⟩) (fun j s' hj hle => ?_) (fun _ _ h => h.elim)
    · simp only [ATree.all, allP, Int.toNat_natCast]
      refine ⟨⟨by omega, by omega, by omega⟩, l, by omega, [(0, 0), (1, 1), (2, 2), (3, 3), (4, 12292)], rfl, rfl, rfl, objsQ_one rfl rfl (avQ_eq rfl rfl) (objsQ_cons rfl rfl rfl (fun j hj => avQ_eq rfl ?_) (objsQ_one rfl rfl (avQ_eq rfl rfl) (objsQ_cons rfl rfl rfl (fun j hj => avQ_eq rfl rfl) (objsQ_cons rfl rfl rfl (fun j hj => avQ_eq rfl rfl) trivial))))⟩
      unfold upB upS
      rw [if_pos (by omega), if_pos (by omega)]
    · obtain ⟨hj1, hj2⟩ := hj
      have e1 : ((i.toNat : Nat) : Int) - (l : Int) + (j : Int) = ((b + j : Nat) : Int) := by omega
      have e2 : ((b + j : Nat) : Int) + (l : Int) - (r : Int) = ((b + j + (l - r) : Nat) : Int) := by omega
      have u1 : ∀ {j' : Nat}, j' ≤ j → upS r j j' = SB r := fun h => by unfold upS; rw [if_pos h]
      simp only [ATree.all, allP, decide_eq_true_eq, decide_eq_false_iff_not, e1, e2, Int.toNat_natCast, Nat.add_zero]
      have rest : objsQ [(0, 0), (1, 1), (2, 2), (3, 3), (4, 4)] [((1 : Nat), rowF m c), ((2 : Nat), AObj.mk false true 3 1 fun x ↦ rat 0 1)] [(2, zO), (1, rowF m c)] := objsQ_one rfl rfl (avQ_eq rfl rfl) (objsQ_cons rfl rfl rfl (fun j hj => avQ_eq rfl rfl) trivial)
      refine ⟨fun h4 => ?_, fun h4 => ⟨rfl, j, by omega, [(0, 0), (1, 1), (2, 2), (3, 3), (4, 4)], rfl, rfl, rfl, objsQ_one rfl rfl (avQ_eq rfl rfl) (objsQ_cons rfl rfl rfl (fun j hj => avQ_eq rfl rfl) (objsQ_one rfl rfl (avQ_eq rfl rfl) (objsQ_cons rfl rfl rfl (fun j hj => avQ_eq rfl rfl) (objsQ_cons rfl rfl rfl (fun j hj => avQ_eq rfl rfl) trivial))))⟩⟩
      have e3 : ((j : Int) - 1).toNat = j - 1 := by omega
      have u2 := u1 (j' := j) (Nat.le_refl _)
      have u3 := u1 (j' := j - 1) (by omega)
      simp only [e3, u2, u3]
      (repeat' with_reducible refine And.intro ?_ ?_)
      all_goals first | omega | skip
      exact ⟨j - 1, by omega, by dsimp only; omega, [(0, 0), (1, 1), (2, 2), (3, 3), (4, 4)], rfl, by rw [show (j : Int) - 1 = ((j - 1 : Nat) : Int) by omega]; rfl, rfl, objsQ_one rfl rfl (avQ_eq rfl rfl) (objsQ_cons rfl rfl rfl (fun q hq => up_next (by omega) (by omega)) (objsQ_one rfl rfl (avQ_eq rfl rfl) (objsQ_cons rfl rfl rfl (fun j hj => avQ_eq rfl rfl) (objsQ_cons rfl rfl rfl (fun j hj => avQ_eq rfl rfl) trivial))))⟩
    · subst hj
      show AWp P cx fn_basis_Blossom.ntmps (part blY [1,1,1]) s' _
      refine AWp.weakE hle (AWp.see hT GBl_ok hm 60 boL1 bo_t (by kernel_rfl) ?_)
      simp only [ATree.all, allP]
      refine ⟨by omega, fun s' hs' => ⟨j + 1, ⟨by omega, he⟩, by dsimp only; omega, ReOK.le ⟨[(0, 0), (1, 1), (2, 2), (3, 3)], rfl, rfl, rfl, objsQ_cons rfl rfl rfl (fun q hq => ?_) (objsQ_one rfl rfl (avQ_eq rfl rfl) (objsQ_cons rfl rfl rfl (fun j hj => avQ_eq rfl rfl) (objsQ_cons rfl rfl rfl (fun j hj => avQ_eq rfl rfl) trivial)))⟩ hs' hk⟩⟩
      refine .inr ⟨rfl, avLe0_rat_up (by rw [up_end, hxS]) ?_⟩
      show upS j j q ≤ SB (j + 1)
      unfold upS
      split <;> omega
  · have hlp : l = p := by
      unfold blE at he
      split at he
      · omega
      · omega
    subst hlp
    subst hr
    refine AWp.ofL ((AWpL.finQ hT GBl_ok hm 60 bo_e (by kernel_rfl) ?_).mono fun _ _ h => .inl h)
    have h2 := SB_hi (d := r) hp6
    simp only [ATree.all, allP, Int.toNat_natCast, Nat.add_zero]
    refine ⟨⟨by omega, by omega, by omega, by omega, by omega⟩, by omega, rfl, rfl, ⟨avLe0_rat_up ?_ (by show SB r + 1 + 1 ≤ 137438953472; omega), avLe0_int he.symm, trivial⟩, ⟨_, rfl, hrow _ _ _⟩, ⟨_, rfl, hrow _ _ _⟩⟩
    unfold blR
    rw [if_pos he, ← hb, hx, Rat.add_zero]
def allRatK (f : Nat → AV) (n s : Nat) : Prop := ∀ i, i < n → keys (f i) = [] ∧ avLe0 (f i) (.rat (ratV (f i)) s)
theorem allRatK_ls {k : Nat → Rat} {n s s' : Nat} (h : s ≤ s') : allRatK (fun i => .rat (k i) s) n s' := fun _ _ => ⟨rfl, avLe0_rat_more h⟩
theorem allRatK.obj {f : Nat → AV} {n s : Nat} {w : Bool} (h : allRatK f n s) {m : Nat} (hm : n = m) (ρ : Nat → Option Nat) : objLe ρ ⟨true, w, 3, n, f⟩ ⟨true, w, 3, m, fun i => .rat (ratV (f i)) s⟩ := ⟨rfl, rfl, rfl, hm.symm, fun i hi => avLe_of0 (h i hi).1 (h i hi).2⟩
def s_bBlW : Spec := fun _ args pre => match args, pre with
  | [.tab 3 n kf, .int .i64 p, .own b 3 0 m, .int .i64 i, .own a 3 0 l], [(a', ⟨true, true, 3, la, fa⟩), (b', ⟨true, false, 3, mb, fb⟩)] => match a' == a && b' == b && !(a == b) with
    | true => some ⟨blRes n (fun i => ratV (kf i)) p.toNat m (fun i => ratV (fb i)) i l (fun i => ratV (fa i)), [(a, rowK l fun i => ratV (fa i)), (b, rowF m fun i => ratV (fb i))],
      [la = l, mb = m, allRat kf n sK, allRatK fa l sK, allRatK fb m sK, 1 ≤ p, p ≤ 6, n < 2 ^ 40, m < 2 ^ 40, -2 ^ 40 < i, i < 2 ^ 40]⟩
    | false => none
  | _, _ => none
theorem s_bBlW_ok : ∀ K args pre r, s_bBlW K args pre = some r → FOK P basis_Blossom K args pre r := by
  intro K args pre r h
  unfold s_bBlW at h
  split at h
  · rename_i n kf p b m i a l a' la fa b' mb fb
    split at h
    · rename_i hc
      simp only [Bool.and_eq_true, beq_iff_eq, Bool.not_eq_true'] at hc
      obtain ⟨⟨h1, h2⟩, hab⟩ := hc
      subst h1 h2
      simp only [Option.some.injEq] at h
      subst h
      intro need
      obtain ⟨rfl, rfl, n1, n2, n3, n4, n5, n6, n7, n8, n9⟩ := need
      refine fok_rows hT is_bBl (args := [.tab 3 n kf, .int .i64 p, .own b' 3 0 mb, .int .i64 i, .own a' 3 0 la]) (us := [.rat (blR n (fun i => ratV (kf i)) p.toNat mb (fun i => ratV (fb i)) i la (fun i => ratV (fa i))) sB, .int .i64 (blE n (fun i => ratV (kf i)) p.toNat mb la i)]) (args0 := [ls (fun i => ratV (kf i)) n, .int .i64 p, .own 1 3 0 mb, .int .i64 i, .own 0 3 0 la]) hab (of_decide_eq_true (by kernel_rfl))
        ⟨⟨rfl, avLe_of0 rfl (avLe0_ls n1)⟩, ⟨rfl, avLe_pure rfl⟩, ⟨rfl, avLe_own rfl rfl rfl⟩, ⟨rfl, avLe_pure rfl⟩, ⟨rfl, avLe_own rfl rfl rfl⟩, trivial⟩ (fun _ ρ => n2.obj rfl ρ) (fun _ ρ => n3.obj rfl ρ) (fun _ c hk => ?_) K ⟨rfl, rfl, n1, n2, n3, n4, n5, n6, n7, n8, n9⟩
      have := boR_ok (n := n) (p := p.toNat) (m := mb) (l := la) (k := fun i => ratV (kf i)) (c := fun i => ratV (fb i)) (a := fun i => ratV (fa i)) (i := i) (by omega) (by omega) n6 n7 n8 n9 c hk
      rw [Int.toNat_of_nonneg (by omega)] at this
      exact this
    · simp at h
  · simp at h
end Go.Am.B

/- law09.with. -/
namespace Go.Am.B
open Go Go.Am.N AV ATree AEx IntKind
theorem is_9with : FnIs P law09_with fn_law09_with (codeOf fn_law09_with) := fnIs get_law09_with (by kernel_rfl) (by kernel_rfl) (by kernel_rfl)
def GWi : Contracts := nG :: (basis_Blossom, s_bBl) :: []
abbrev wiS (n m p l : Nat) (k c a : Nat → Rat) (i : Int) (u : Rat) (s : Nat) : AState := ⟨zipSlots 0 [ls k n, .int .i64 p, .own 1 3 0 m, .int .i64 i, .own 0 3 0 l, .rat u s], [(0, rowK l a), (1, rowF m c)], 2⟩
theorem wi_e {n m p l : Nat} {k c a : Nat → Rat} {i : Int} {u : Rat} {s : Nat} : endQL T GWi [] 60 fn_law09_with [codeOf fn_law09_with] (wiS n m p l k c a i u s) =
    let c6 : AV := rat 0 1; let c5 : Int := (↑p : Int); let c4 : Nat := Int.toNat (1 : Int); let c3 : Int := (↑l : Int); let c2 : Prop := 0 < 1; let c1 : Nat := 1 + (c3.toNat - c4); some (must [c2, (1 : Nat) * 3 ≤ 2 ^ 24, (0 : Int) ≤ (1 : Int) ∧ (1 : Int) ≤ c3 ∧ c3 ≤ c3 ∧ c3 ≤ c3, c1 * ((56 : Nat) + 1) * 2 ≤ 2 ^ 47] (must [allRat (fun i ↦ rat (k i) sK) n sK, allRat (fun i ↦ rat (c (i + 0)) sK) m sK, allRat (fun i ↦ if i + 0 < 1 then nth [rat u s] c6 (i + 0) else rat (a (i + 0 - 1 + ((0 : Nat) + c4))) sK) c1 sK, Kn n c5.toNat fun i ↦ ratV (rat (k i) sK), (0 : Int) ≤ c5, c5 ≤ (6 : Int), n < 2 ^ 40, m < 2 ^ 40, -(2 : Int) ^ 40 < i, i < (2 : Int) ^ 40, c2] (must [c2, c2] (must [c2] (leaf ret ([rat (blR n (fun i ↦ ratV (rat (k i) sK)) c5.toNat m (fun i ↦ ratV (rat (c (i + 0)) sK)) i c1 fun i ↦ ratV (if i + 0 < 1 then nth [rat u s] c6 (i + 0) else rat (a (i + 0 - 1 + ((0 : Nat) + c4))) sK)) 137438953472], some (AObj.mk true true 3 l fun i ↦ rat (a i) 1048576), some (AObj.mk true false 3 m fun i ↦ rat (c i) 1048576))))))) := by kernel_rfl
theorem GWi_ok : GOK P GWi := gok_plain (gok_cons s_bBl_ok gok_nil)
def wiA (u : Rat) (a : Nat → Rat) (j : Nat) : Rat := if j = 0 then u else a j
theorem wiR_ok {n p m l : Nat} {k c a : Nat → Rat} {i : Int} {u : Rat} {s : Nat} (hkn : Kn n p k) (hp6 : p ≤ 6) (hl1 : 1 ≤ l) (hl2 : l ≤ 64) (hs : s ≤ sK) (hn : n < 2 ^ 40) (hm2 : m < 2 ^ 40) (hi : -2 ^ 40 < i) (hi2 : i < 2 ^ 40) (cx : Ctx) :
    AWp P cx fn_law09_with.ntmps (codeOf fn_law09_with) (wiS n m p l k c a i u s) (Lower cx (EndQ T fn_law09_with [.rat (blR n k p m c i l (wiA u a)) sB] (rowK l a) (rowF m c))) := by
  have hSK : sK = 1048576 := rfl
  have hrow : ∀ (l : Nat) (a : Nat → Rat) (w : Bool) (ρ : Nat → Option Nat), objLe ρ ⟨true, w, 3, l, fun i => .rat (a i) sK⟩ ⟨true, w, 3, l, fun i => .rat (a i) sK⟩ := fun l a w ρ => objLe_of rfl fun _ _ => avLe_pure rfl
  refine AWp.ofL ((AWpL.finQ hT GWi_ok hm 60 wi_e (by kernel_rfl) ?_).mono fun _ _ h => .inl h)
  have e1 : 1 + ((l : Int).toNat - Int.toNat (1 : Int)) = l := by
    rw [show Int.toNat (1 : Int) = 1 from rfl]; omega
  have e2 : (fun i : Nat ↦ ratV (if i + 0 < 1 then nth [rat u s] (rat 0 1) (i + 0) else rat (a (i + 0 - 1 + ((0 : Nat) + Int.toNat (1 : Int)))) sK)) = wiA u a := by
    funext j
    unfold wiA
    cases j with
    | zero => rfl
    | succ j => rfl
  simp only [ATree.all, allP, Int.toNat_natCast, Nat.add_zero, ratV_rat] at e1 e2 ⊢
  rw [e1, e2]
  refine ⟨⟨by omega, by omega, by omega, by omega⟩, ⟨allRat_ls (Nat.le_refl _), allRat_ls (Nat.le_refl _), fun j hj => ?_, hkn, by omega, by omega, hn, hm2, hi, hi2, by omega⟩, by omega, by omega, rfl, rfl, ⟨.refl _, trivial⟩, ⟨_, rfl, hrow _ _ _⟩, ⟨_, rfl, hrow _ _ _⟩⟩
  show avLe0 (if j < 1 then _ else _) (.rat (ratV (if j < 1 then _ else _)) sK)
  by_cases h : j < 1
  · rw [if_pos h]
    have : j = 0 := by omega
    subst this
    exact avLe0_rat_more hs
  · rw [if_neg h]; exact .refl _
def s_9withW : Spec := fun _ args pre => match args, pre with
  | [.tab 3 n kf, .int .i64 p, .own b 3 0 m, .int .i64 i, .own a 3 0 l, u], [(a', ⟨true, true, 3, la, fa⟩), (b', ⟨true, false, 3, mb, fb⟩)] => match a' == a && b' == b && !(a == b) && ((keys u).isEmpty && !u.isTuple) with
    | true => some ⟨.rat (blR n (fun i => ratV (kf i)) p.toNat m (fun i => ratV (fb i)) i l (wiA (ratV u) fun i => ratV (fa i))) sB, [(a, rowK l fun i => ratV (fa i)), (b, rowF m fun i => ratV (fb i))],
      [la = l, mb = m, allRat kf n sK, allRatK fa l sK, allRatK fb m sK, Kn n p.toNat fun i => ratV (kf i), p ≤ 6, 1 ≤ l, l ≤ 64, avLe0 u (.rat (ratV u) sK), n < 2 ^ 40, m < 2 ^ 40, -2 ^ 40 < i, i < 2 ^ 40]⟩
    | false => none
  | _, _ => none
theorem s_9withW_ok : ∀ K args pre r, s_9withW K args pre = some r → FOK P law09_with K args pre r := by
  intro K args pre r h
  unfold s_9withW at h
  split at h
  · rename_i n kf p b m i a l u a' la fa b' mb fb
    split at h
    · rename_i hc
      simp only [Bool.and_eq_true, beq_iff_eq, Bool.not_eq_true', List.isEmpty_iff] at hc
      obtain ⟨⟨⟨h1, h2⟩, hab⟩, hu, ht⟩ := hc
      subst h1 h2
      simp only [Option.some.injEq] at h
      subst h
      intro need
      obtain ⟨rfl, rfl, n1, n2, n3, hkn, n5, n51, n52, n53, n6, n7, n8, n9⟩ := need
      have hp1 := hkn.p1
      refine fok_rows hT is_9with (args := [.tab 3 n kf, .int .i64 p, .own b' 3 0 mb, .int .i64 i, .own a' 3 0 la, u]) (us := [.rat (blR n (fun i => ratV (kf i)) p.toNat mb (fun i => ratV (fb i)) i la (wiA (ratV u) fun i => ratV (fa i))) sB]) (args0 := [ls (fun i => ratV (kf i)) n, .int .i64 p, .own 1 3 0 mb, .int .i64 i, .own 0 3 0 la, .rat (ratV u) sK]) hab (of_decide_eq_true (by kernel_rfl))
        ⟨⟨rfl, avLe_of0 rfl (avLe0_ls n1)⟩, ⟨rfl, avLe_pure rfl⟩, ⟨rfl, avLe_own rfl rfl rfl⟩, ⟨rfl, avLe_pure rfl⟩, ⟨rfl, avLe_own rfl rfl rfl⟩, ⟨ht, avLe_of0 hu n53⟩, trivial⟩ (fun _ ρ => n2.obj rfl ρ) (fun _ ρ => n3.obj rfl ρ) (fun _ c hk => ?_) K ⟨rfl, rfl, n1, n2, n3, hkn, n5, n51, n52, n53, n6, n7, n8, n9⟩
      have := wiR_ok (n := n) (p := p.toNat) (m := mb) (l := la) (k := fun i => ratV (kf i)) (c := fun i => ratV (fb i)) (a := fun i => ratV (fa i)) (i := i) (u := ratV u) hkn (by omega) n51 n52 (Nat.le_refl _) n6 n7 n8 n9 c
      unfold wiS at this
      rw [Int.toNat_of_nonneg (by omega)] at this
      exact this
    · simp at h
  · simp at h
end Go.Am.B
