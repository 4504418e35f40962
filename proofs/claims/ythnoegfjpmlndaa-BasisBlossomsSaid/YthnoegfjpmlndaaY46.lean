/- ref09.Polar, ref09.Blossom; contracts of polar forms. -/
import Derived.Test.YthnoegfjpmlndaaY45
import Derived.Test.YthnoegfjpmlndaaB33
set_option linter.unusedVariables false
namespace Go.Am.B
open Go Go.Am.N AV ATree AEx IntKind

theorem is_qPo : FnIs P ref09_Polar fn_ref09_Polar (codeOf fn_ref09_Polar) := fnIs get_ref09_Polar (by kernel_rfl) (by kernel_rfl) (by kernel_rfl)
theorem is_qBl : FnIs P ref09_Blossom fn_ref09_Blossom (codeOf fn_ref09_Blossom) := fnIs get_ref09_Blossom (by kernel_rfl) (by kernel_rfl) (by kernel_rfl)
def GPo : Contracts := nG :: (ref02_Over, sp2 kR kR oOver eNeed) :: GE0
abbrev poL1 : List Nat := [10, 0, 1, 3, 4, 11, 12]
abbrev poV1 (n : Nat) (k : Nat → Rat) (p i : Nat) (a : Nat → Rat) (r : Nat) : List AV := [.ptr 0 0 3 0 [], ls k n, .int .i64 p, .int .i64 i, ls a p, .own 1 3 0 (p + 1), .int .i64 ((r + 1 : Nat) : Int)]
noncomputable abbrev poC : Code := codeOf fn_ref09_Polar
noncomputable abbrev poY : Code := part poC [1,1,0,1,0,0]
noncomputable abbrev poX : Code := part poY [1,0,0]
abbrev poL2 : List Nat := [10, 0, 1, 3, 4, 11, 12, 13]
abbrev poV2 (n : Nat) (k : Nat → Rat) (p i : Nat) (a : Nat → Rat) (r j : Nat) : List AV := [.ptr 0 0 3 0 [], ls k n, .int .i64 p, .int .i64 i, ls a p, .own 1 3 0 (p + 1), .int .i64 ((r + 1 : Nat) : Int), .int .i64 j]
theorem po_pre {n m p i : Nat} {k c a : Nat → Rat} : seeL T GPo [] 60 poL1 (before poC [1,1,0,1]) ⟨zipSlots 0 [ls k n, .int .i64 p, ls c m, .int .i64 i, ls a p], [], 0⟩ =
    let c4 : Int := (2 : Int) ^ 63; let c2 : Int := (↑i : Int) - (↑p : Int); let c1 : Int := (↑i : Int) + (1 : Int); let c3 : Nat := 0 + (c1.toNat - c2.toNat); some (must [(0 : Nat) * 3 ≤ 2 ^ 24, -c4 ≤ c2 ∧ c2 < c4, -c4 ≤ c1 ∧ c1 < c4, (0 : Int) ≤ c2 ∧ c2 ≤ c1 ∧ c1 ≤ c1 ∧ c1 ≤ (↑m : Int), c3 * ((56 : Nat) + 1) * 2 ≤ 2 ^ 47] (leaf normal ([ptr 0 0 3 0 [], tab 3 n fun i ↦ rat (k i) 1048576, int i64 (↑p : Int), int i64 (↑i : Int), tab 3 p fun i ↦ rat (a i) 1048576, own 36864 3 0 c3, int i64 (1 : Int)], [((36864 : Nat), AObj.mk true true 3 c3 fun i ↦ rat (c (i - 0 + c2.toNat)) 1048576), ((0 : Nat), AObj.mk false true 3 1 fun x ↦ rat 0 1)]))) := by kernel_rfl
theorem po_o {n p i r : Nat} {k a x : Nat → Rat} {s : Nat → Nat} : seeL T GPo [28] 60 poL1 (before poY [1,0]) ⟨zipL poL1 (poV1 n k p i a r), blO p x s, 2⟩ =
    let c2 : Int := (↑(r + 1) : Int); let c1 : List AV × Store := ([ptr 0 0 3 0 [], tab 3 n fun i ↦ rat (k i) 1048576, int i64 (↑p : Int), int i64 (↑i : Int), tab 3 p fun i ↦ rat (a i) 1048576, own 1 3 0 (p + 1), int i64 c2], [((1 : Nat), AObj.mk true true 3 (p + 1) fun i ↦ rat (x i) (s i)), ((0 : Nat), AObj.mk false true 3 1 fun x ↦ rat 0 1)]); some (fork (decide (c2 ≤ (↑p : Int))) (leaf normal c1) (leaf (exit 0) c1)) := by kernel_rfl
theorem po_i {n p i r : Nat} {k a x : Nat → Rat} {s : Nat → Nat} : seeL T GPo [] 60 poL2 (before poX [1]) ⟨zipL poL1 (poV1 n k p i a r), blO p x s, 2⟩ =
    some (leaf normal ([ptr 0 0 3 0 [], tab 3 n fun i ↦ rat (k i) 1048576, int i64 (↑p : Int), int i64 (↑i : Int), tab 3 p fun i ↦ rat (a i) 1048576, own 1 3 0 (p + 1), int i64 (↑(r + 1) : Int), int i64 (↑p : Int)], [((1 : Nat), AObj.mk true true 3 (p + 1) fun i ↦ rat (x i) (s i)), ((0 : Nat), AObj.mk false true 3 1 fun x ↦ rat 0 1)])) := by kernel_rfl
theorem po_b {n p i r j : Nat} {k a x : Nat → Rat} {s : Nat → Nat} : seeL T GPo [34] 60 poL2 [part poX [1,0,0]] ⟨zipL poL2 (poV2 n k p i a r j), blO p x s, 2⟩ =
    let c25 : Int := (↑i : Int); let c17 : AV := ptr 0 0 3 0 []; let c15 : AV := tab 3 p fun i ↦ rat (a i) 1048576; let c14 : AV := tab 3 n fun i ↦ rat (k i) 1048576; let c13 : Nat × AObj := ((0 : Nat), AObj.mk false true 3 1 fun x ↦ rat 0 1); let c12 : Prop := 0 < 1; let c11 : Nat := p + 1; let c10 : Nat := sK + sK + 1; let c5 : Int := (↑j : Int); let c4 : Nat := 2 ^ 41; let c3 : Int := (↑(r + 1) : Int); let c2 : Int := (2 : Int) ^ 63; let c23 : Prop := (0 : Int) ≤ c5 ∧ c5.toNat < c11; let c20 : AV := own 1 3 0 c11; let c16 : Int := c3 - (1 : Int); let c9 : Nat := c5.toNat + 0; let c8 : Int := c25 - (↑p : Int); let c7 : Int := c25 + (1 : Int); let c1 : Int := c5 - (1 : Int); let c24 : Nat := (c8 + c5).toNat; let c22 : Prop := (0 : Int) ≤ c1 ∧ c1.toNat < c11; let c21 : Prop := -c2 ≤ c1 ∧ c1 < c2; let c19 : Int := c7 + c5 - c3; let c6 : Nat := c1.toNat + 0; let c18 : Nat := s c9 + s c6 + 1; some (fork (decide (c5 ≥ c3)) (must [-c2 ≤ c8 ∧ c8 < c2, -c2 ≤ c8 + c5 ∧ c8 + c5 < c2, (0 : Int) ≤ c8 + c5 ∧ c24 < n, -c2 ≤ c7 ∧ c7 < c2, -c2 ≤ c7 + c5 ∧ c7 + c5 < c2, -c2 ≤ c19 ∧ c19 < c2, (0 : Int) ≤ c19 ∧ c19.toNat < n, c12, c12] (must [-c2 ≤ c16 ∧ c16 < c2, (0 : Int) ≤ c16 ∧ c16.toNat < p, c12, sK < c4, sK < c4, c12, c12, sK < c4, sK < c4, c10 < c4, c10 < c4, c12] (must [c21, c22, c6 < c11, c12, c23, c9 < c11, c21, c22, c6 < c11, s c9 < c4, s c6 < c4, c10 + c10 < c4, c18 < c4, s c6 < c4, c10 + c10 + c18 < c4, c23, c9 < c11] (must [c21] (leaf normal ([c17, c14, int i64 (↑p : Int), int i64 c25, c15, c20, int i64 c3, int i64 c1], [((1 : Nat), AObj.mk true true 3 c11 fun j ↦ rat (bif j == c9 then x c6 + (a c16.toNat - k c24) / (k c19.toNat - k c24) * (x c9 - x c6) else x j) (bif j == c9 then s c6 + (c10 + c10 + c18) + 1 else s j)), c13])))))) (leaf (exit 2) ([c17, c14, int i64 (↑p : Int), int i64 c25, c15, c20, int i64 c3, int i64 c5], [((1 : Nat), AObj.mk true true 3 c11 fun i ↦ rat (x i) (s i)), c13]))) := by kernel_rfl
theorem po_t {n p i r j : Nat} {k a x : Nat → Rat} {s : Nat → Nat} : seeL T GPo [] 60 poL1 [part poY [1,1]] ⟨zipL poL2 (poV2 n k p i a r j), blO p x s, 2⟩ =
    let c1 : Int := (↑(r + 1) : Int) + (1 : Int); some (must [-(2 : Int) ^ 63 ≤ c1 ∧ c1 < (2 : Int) ^ 63] (leaf normal ([ptr 0 0 3 0 [], tab 3 n fun i ↦ rat (k i) 1048576, int i64 (↑p : Int), int i64 (↑i : Int), tab 3 p fun i ↦ rat (a i) 1048576, own 1 3 0 (p + 1), int i64 c1], [((1 : Nat), AObj.mk true true 3 (p + 1) fun i ↦ rat (x i) (s i)), ((0 : Nat), AObj.mk false true 3 1 fun x ↦ rat 0 1)]))) := by kernel_rfl
theorem po_e {n p i r : Nat} {k a x : Nat → Rat} {s : Nat → Nat} : endL T GPo [] 60 fn_ref09_Polar [part poC [1,1,1]] ⟨zipL poL1 (poV1 n k p i a r), blO p x s, 2⟩ =
    let c1 : Nat := (↑p : Int).toNat + 0; some (must [(0 : Int) ≤ (↑p : Int) ∧ (↑p : Int).toNat < p + 1, c1 < p + 1, (0 : Nat) < 1] (must [(0 : Nat) < 1] (leaf ret [rat (x c1) (s c1)]))) := by kernel_rfl
theorem GPo_ok : GOK P GPo := gok_plain (gok_cons (sp2_ok fun _ _ K hn => eOver_ok hn.1 hn.2 K) GE0_ok)
theorem qPo_ok {n p m i : Nat} {k c a : Nat → Rat} (hp1 : 1 ≤ p) (hp6 : p ≤ 6) (hn : n < 2 ^ 40) (hm2 : m < 2 ^ 40) (hpi : p ≤ i) (him : i < m) (hin : i + p < n) (K : Nat) : FOK P ref09_Polar K [ls k n, .int .i64 p, ls c m, .int .i64 i, ls a p] [] (pres (.rat (bR k (i - p) p a (fun j => c (i - p + j)) p p) sB) []) := by
  refine fok_down (r := pres (.rat (bR k (i - p) p a (fun j => c (i - p + j)) p p) sB) []) hT is_qPo rfl (of_decide_eq_true (by kernel_rfl)) rfl (fun _ cx h0 => ?_) K []
  have hk := kept_nil h0
  obtain ⟨b, hb⟩ : ∃ b, b = i - p := ⟨_, rfl⟩
  obtain ⟨x, hx⟩ : ∃ x : Nat → Nat → Rat, x = fun r => bR k b p a (fun j => c (b + j)) r := ⟨_, rfl⟩
  have hx0 : x 0 = fun j => c (b + j) := by rw [hx]; rfl
  have hxS : ∀ r, x (r + 1) = stepB k b p r (a r) (x r) := fun r => by rw [hx]; rfl
  have hSF := sF_is
  have hSK : sK = 1048576 := rfl
  have hSV : sV = 68719476736 := rfl
  refine AWp.hloopW hT GPo_ok hm [1,1,0,1] (i := 0) (y := poY) (z := part poC [1,1,1]) (by kernel_rfl) (by kernel_rfl) (by kernel_rfl) is_qPo.dst hk (f1 := []) 60 poL1 2 (fun r : Nat => poV1 n k p i a r) (fun r => blO p (x r) fun _ => SB r)
    (fun r => r ≤ p) (fun r => r = p) (fun r => p - r) (fun _ => False) ⟨_, po_pre, ?_⟩ (fun r hr => ?_) (fun r hr => ?_) (fun _ _ h => h.elim)
  · have e0 : 0 + (((i : Int) + 1).toNat - ((i : Int) - (p : Int)).toNat) = p + 1 := by omega
    simp only [ATree.all, allP, e0]
    refine ⟨⟨by omega, by omega, by omega, by omega, by omega⟩, 0, by omega, [(0, 0), (1, 36864)], rfl, rfl, rfl, objsQ_cons rfl rfl rfl (fun j hj => ?_) (objsQ_one rfl rfl (avQ_eq rfl rfl) trivial)⟩
    rw [hx0, show ((i : Int) - (p : Int)).toNat = b by omega, Nat.sub_zero, Nat.add_comm j b]
    exact .inr ⟨rfl, avLe0_rat_up rfl (show sK ≤ SB 0 by decide)⟩
  · refine AWp.into hT GPo_ok hm (y := poY) (x1 := poX) (zb := part poY [1,1]) [1,0] (j := 1) (by kernel_rfl) (by kernel_rfl) (by kernel_rfl) (by kernel_rfl) hk (f1 := [28]) 60 poL1 2 (fun _ : Unit => poV1 n k p i a r) (fun _ => blO p (x r) fun _ => SB r) (fun _ => r < p) ⟨_, po_o, ?_⟩ (fun _ hr' => ?_)
    · simp only [ATree.all, allP, decide_eq_true_eq, decide_eq_false_iff_not]
      have re : ∀ {s : Nat → Nat} {y : Nat → Rat}, ReOK [] ([ptr 0 0 3 0 [], tab 3 n fun i ↦ rat (k i) sK, int i64 p, int i64 i, tab 3 p fun i ↦ rat (a i) sK, own 1 3 0 (p + 1), int i64 ((r + 1 : Nat) : Int)], [((1 : Nat), AObj.mk true true 3 (p + 1) fun i ↦ rat (y i) (s i)), ((0 : Nat), AObj.mk false true 3 1 fun x ↦ rat 0 1)]) (poV1 n k p i a r) (blO p y s) 2 :=
        ⟨[(0, 0), (1, 1)], rfl, rfl, rfl, objsQ_cons rfl rfl rfl (fun i hi => avQ_eq rfl rfl) (objsQ_one rfl rfl (avQ_eq rfl rfl) trivial)⟩
      exact ⟨fun h1 => ⟨(), by omega, re⟩, fun h1 s' hs' => ⟨rfl, r, by omega, re.le hs' hk⟩⟩
    have h1 := SB_lo (d := r)
    have h2 := SB_hi (d := r) (by omega)
    have h3 := SB_succ (d := r)
    refine AWp.hloop0 hT GPo_ok hm (x := poX) [1] (i := 2) (y := part poX [1,0,0]) (by kernel_rfl) (by kernel_rfl) (by kernel_rfl) hk (f1 := []) (f2 := [34]) 60 poL2 2 (fun j : Nat => poV2 n k p i a r j) (fun j => blO p (upB k b p r (a r) (x r) j) (upS r j)) (fun j => r ≤ j ∧ j ≤ p) (fun j => j = r) (fun j => j) (fun _ => False) ⟨_, po_i, ?_⟩ (fun j hj => ⟨_, po_b, ?_⟩) (fun j s' hj hle => ?_) (fun _ _ h => h.elim)
    · simp only [ATree.all, allP, Int.toNat_natCast]
      refine ⟨p, by omega, [(0, 0), (1, 1)], rfl, rfl, rfl, objsQ_cons rfl rfl rfl (fun j hj => avQ_eq rfl ?_) (objsQ_one rfl rfl (avQ_eq rfl rfl) trivial)⟩
      unfold upB upS
      rw [if_pos (by omega), if_pos (by omega)]
    · obtain ⟨hj1, hj2⟩ := hj
      have e1 : ((i : Int) - (p : Int) + (j : Int)).toNat = b + j := by omega
      have e4 : (((r + 1 : Nat) : Int) - 1).toNat = r := by omega
      have u1 : ∀ {j' : Nat}, j' ≤ j → upS r j j' = SB r := fun h => by unfold upS; rw [if_pos h]
      simp only [ATree.all, allP, decide_eq_true_eq, decide_eq_false_iff_not, e1, e4, Int.toNat_natCast, Nat.add_zero]
      refine ⟨fun h4 => ?_, fun h4 => ⟨rfl, j, by omega, [(0, 0), (1, 1)], rfl, rfl, rfl, objsQ_cons rfl rfl rfl (fun j hj => avQ_eq rfl rfl) (objsQ_one rfl rfl (avQ_eq rfl rfl) trivial)⟩⟩
      have e2 : ((i : Int) + 1 + (j : Int) - ((r + 1 : Nat) : Int)).toNat = b + j + (p - r) := by omega
      have e3 : ((j : Int) - 1).toNat = j - 1 := by omega
      have u2 := u1 (j' := j) (Nat.le_refl _)
      have u3 := u1 (j' := j - 1) (by omega)
      simp only [e2, e3, u2, u3]
      (repeat' with_reducible refine And.intro ?_ ?_)
      all_goals first | omega | skip
      exact ⟨j - 1, by omega, by dsimp only; omega, [(0, 0), (1, 1)], rfl, by rw [show (j : Int) - 1 = ((j - 1 : Nat) : Int) by omega]; rfl, rfl, objsQ_cons rfl rfl rfl (fun q hq => up_next (by omega) (by omega)) (objsQ_one rfl rfl (avQ_eq rfl rfl) trivial)⟩
    · subst hj
      show AWp P cx fn_ref09_Polar.ntmps (part poY [1,1]) s' _
      refine AWp.weakE hle (AWp.see hT GPo_ok hm 60 poL1 po_t (by kernel_rfl) ?_)
      simp only [ATree.all, allP]
      refine ⟨by omega, fun s' hs' => ⟨j + 1, by omega, by dsimp only; omega, ReOK.le ⟨[(0, 0), (1, 1)], rfl, rfl, rfl, objsQ_cons rfl rfl rfl (fun q hq => ?_) (objsQ_one rfl rfl (avQ_eq rfl rfl) trivial)⟩ hs' hk⟩⟩
      refine .inr ⟨rfl, avLe0_rat_up (by rw [up_end, hxS]) ?_⟩
      show upS j j q ≤ SB (j + 1)
      unfold upS
      split <;> omega
  · subst hr
    refine AWp.ofL ((AWpL.fin hT GPo_ok hm 60 po_e (by kernel_rfl) ?_).mono fun _ _ h => .inl h)
    have h2 := SB_hi (d := r) hp6
    simp only [ATree.all, allP, Int.toNat_natCast, Nat.add_zero]
    refine ⟨⟨by omega, by omega, by omega⟩, by omega, avLe0_rat_up ?_ (by show SB r ≤ 137438953472; omega)⟩
    rw [hx, hb]
abbrev kdBl : KindL ((Nat × (Nat → Rat)) × Int × (Nat × (Nat → Rat)) × Int × (Nat × (Nat → Rat)) × Unit) := kC (kL sK) (kC kI (kC (kL sK) (kC kI (kC (kL sK) kN))))
def s_qPo : Spec := spL kdBl (fun a => .rat (bR a.1.2 (a.2.2.2.1.toNat - a.2.1.toNat) a.2.1.toNat a.2.2.2.2.1.2 (fun j => a.2.2.1.2 (a.2.2.2.1.toNat - a.2.1.toNat + j)) a.2.1.toNat a.2.1.toNat) sB) fun a => [1 ≤ a.2.1, a.2.1 ≤ 6, a.1.1 < 2 ^ 40, a.2.2.1.1 < 2 ^ 40, a.2.1 ≤ a.2.2.2.1, a.2.2.2.1 < a.2.2.1.1, a.2.2.2.1 + a.2.1 < a.1.1, (a.2.2.2.2.1.1 : Int) = a.2.1]
def GBq : Contracts := nG :: (ref08_Poles, tPol) :: (ref09_Polar, s_qPo) :: GE0
theorem qbl_end {n m p l : Nat} {k c a : Nat → Rat} {i : Int} : funT T GBq [18, 23, 28, 37, 48] 60 fn_ref09_Blossom (codeOf fn_ref09_Blossom) ⟨zipSlots 0 [ls k n, .int .i64 p, ls c m, .int .i64 i, ls a l], [], 0⟩ =
    let c21 : Prop := sK < 2 ^ 41; let c19 : Int := i + (1 : Int); let c14 : Nat := 2 ^ 40; let c13 : Int := (2 : Int) ^ 40; let c12 : Prop := allRat (fun i ↦ rat (k i) sK) n sK; let c9 : AV := agg [AV.bool false, mag 0, mag 0]; let c8 : List Prop := [(0 : Nat) < 1]; let c7 : Int := (2 : Int) ^ 63; let c6 : Int := (↑p : Int); let c18 : ATree (List AV) := must c8 (must c8 (leaf ret [c9, int i64 (1 : Int)])); let c17 : Bool := decide (i < c6); let c16 : Int := (↑n : Int) - c6; let c11 : Nat := c19.toNat; let c3 : ATree (List AV) := must c8 (must c8 (leaf ret [c9, int i64 (7 : Int)])); let c2 : ATree (List AV) := must (c12 :: allRat (fun i ↦ rat (c i) sK) m sK :: allRat (fun i ↦ rat (a i) sK) l sK :: ((1 : Int) ≤ c6) :: (c6 ≤ (6 : Int)) :: (n < c14) :: (m < c14) :: (c6 ≤ i) :: (i < (↑m : Int)) :: (i + c6 < (↑n : Int)) :: ((↑l : Int) = c6) :: c8) (must c8 (leaf ret [rat (bR (fun i ↦ ratV (rat (k i) sK)) (i.toNat - c6.toNat) c6.toNat (fun i ↦ ratV (rat (a i) sK)) (fun j ↦ ratV (rat (c (i.toNat - c6.toNat + j)) sK)) c6.toNat c6.toNat) 137438953472, int i64 (0 : Int)])); let c15 : ATree (List AV) := fork (bif false then true else decide (k i.toNat = k c11)) c3 c2; let c5 : List Prop := [(0 : Int) ≤ i ∧ i.toNat < n, -c7 ≤ c19 ∧ c19 < c7, (0 : Int) ≤ c19 ∧ c11 < n, c21, c21]; let c4 : Int := c16 - (1 : Int); let c20 : Bool := (↑m : Int) != c4; let c10 : Bool := bif false then true else decide (i ≥ c4); let c1 : ATree (List AV) := fork c17 (fork true (must [c17 = true, true = true] (fork true c3 c2)) (must ((c17 = true) :: (true = false) :: c5) c15)) (fork c10 (must [c17 = false, -c7 ≤ c16 ∧ c16 < c7, -c7 ≤ c4 ∧ c4 < c7, c10 = true] (fork true c3 c2)) (must ((c17 = false) :: (-c7 ≤ c16 ∧ c16 < c7) :: (-c7 ≤ c4 ∧ c4 < c7) :: (c10 = false) :: c5) c15)); some (fork c20 (must [c12, n < c14, -c13 < c6, c6 < c13, c20 = true] (fork true c18 c1)) (must [c12, n < c14, -c13 < c6, c6 < c13, c20 = false] (fork (bif false then true else (↑l : Int) != c6) c18 c1))) := by kernel_rfl
theorem s_qPo_ok : ∀ K args pre r, s_qPo K args pre = some r → FOK P ref09_Polar K args pre r := spL_ok fun ⟨⟨n, k⟩, p, ⟨m, c⟩, i, ⟨l, a⟩, _⟩ K hn => by
  obtain ⟨h1, h2, h3, h4, h5, h6, h7, h8⟩ := hn
  have h8 : (l : Int) = p := h8
  simp only at h1 h2 h3 h4 h5 h6 h7
  have := qPo_ok (p := p.toNat) (i := i.toNat) (k := k) (c := c) (a := a) (by omega) (by omega) h3 h4 (by omega) (by omega) (by omega) K
  rw [Int.toNat_of_nonneg (by omega), Int.toNat_of_nonneg (by omega)] at this
  have hl : l = p.toNat := by omega
  subst hl
  exact this
theorem GBq_ok : GOK P GBq := gok_plain (gok_cons tPolh_ok (gok_cons s_qPo_ok GE0_ok))
theorem qBl_ok {n p m l : Nat} {k c a : Nat → Rat} {i : Int} (h : Kn n p k) (hp6 : p ≤ 6) (hn : n < 2 ^ 40) (hm2 : m < 2 ^ 40) (hi : -2 ^ 40 < i) (hi2 : i < 2 ^ 40) (K : Nat) : FOK P ref09_Blossom K [ls k n, .int .i64 p, ls c m, .int .i64 i, ls a l] [] (pres (blRes n k p m c i l a) []) := by
  have hp1 := h.p1
  refine fok_tree (r := pres (blRes n k p m c i l a) []) hT GBq_ok hm is_qBl rfl (of_decide_eq_true (by kernel_rfl)) rfl 60 qbl_end (fun _ => ?_) K []
  simp only [ATree.all, allP, ratV_rat, bne_iff_ne, ne_eq, bne_eq_false_iff_eq, Int.toNat_natCast, cond_false, decide_eq_true_eq, decide_eq_false_iff_not]
  have hSK : sK = 1048576 := rfl
  (repeat' with_reducible first | refine And.intro ?_ ?_ | intro _)
  all_goals first | omega | exact allRat_ls (Nat.le_refl _) | exact absurd ‹true = false› (by decide) | assumption | skip
  all_goals first | exact blRes_err (blE_arg (.inl ‹_›)) (by decide) | exact blRes_err (blE_arg (.inr (by omega))) (by decide) | skip
  all_goals first | exact blRes_err (blE_range (by omega) (by omega) (.inl (by omega))) (by decide) | exact blRes_err (blE_range (by omega) (by omega) (.inr (.inl (by omega)))) (by decide) | skip
  all_goals have e1 : (i + 1).toNat = i.toNat + 1 := by omega
  · rename_i h5
    refine blRes_err (blE_range (by omega) (by omega) (.inr (.inr ?_))) (by decide)
    rw [← e1, ← h5]; exact Rat.le_refl
  · rename_i h5
    rw [e1] at h5
    have hs := h.sorted i.toNat (by omega)
    have he : blE n k p m l i = 0 := blE_ok (by omega) (by omega) (by
      rintro (h | h | h)
      · omega
      · omega
      · grind)
    refine ⟨avLe0_rat_up ?_ (Nat.le_refl _), avLe0_int he.symm, trivial⟩
    unfold blR
    rw [if_pos he]
def s_bBl : Spec := spL kdBl (fun a => blRes a.1.1 a.1.2 a.2.1.toNat a.2.2.1.1 a.2.2.1.2 a.2.2.2.1 a.2.2.2.2.1.1 a.2.2.2.2.1.2) fun a => [Kn a.1.1 a.2.1.toNat a.1.2, 0 ≤ a.2.1, a.2.1 ≤ 6, a.1.1 < 2 ^ 40, a.2.2.1.1 < 2 ^ 40, -2 ^ 40 < a.2.2.2.1, a.2.2.2.1 < 2 ^ 40]
theorem s_bBl_ok : ∀ K args pre r, s_bBl K args pre = some r → FOK P basis_Blossom K args pre r := spL_ok fun ⟨⟨n, k⟩, p, ⟨m, c⟩, i, ⟨l, a⟩, _⟩ K hn => by
  obtain ⟨h1, h2, h3, h4, h5, h6, h7⟩ := hn
  have h3 : p ≤ 6 := h3
  have h7 : i < 2 ^ 40 := h7
  have := bBl_ok (l := l) (k := k) (c := c) (a := a) h1.p1 (by simp only; omega) h4 h5 h6 h7 K
  rw [Int.toNat_of_nonneg h2] at this
  exact this
theorem s_qBl_ok : ∀ K args pre r, s_bBl K args pre = some r → FOK P ref09_Blossom K args pre r := spL_ok fun ⟨⟨n, k⟩, p, ⟨m, c⟩, i, ⟨l, a⟩, _⟩ K hn => by
  obtain ⟨h1, h2, h3, h4, h5, h6, h7⟩ := hn
  have h3 : p ≤ 6 := h3
  have h7 : i < 2 ^ 40 := h7
  have := qBl_ok (l := l) (c := c) (a := a) h1 (by simp only; omega) h4 h5 h6 h7 K
  rw [Int.toNat_of_nonneg h2] at this
  exact this
end Go.Am.B

/- ref02: SameList, Mid, Text; ref08.Greville. -/
namespace Go.Am.B
open Go Go.Am.N AV ATree AEx IntKind

theorem is_eSL : FnIs P ref02_SameList fn_ref02_SameList (codeOf fn_ref02_SameList) := fnIs get_ref02_SameList (by kernel_rfl) (by kernel_rfl) (by kernel_rfl)
theorem is_eMid : FnIs P ref02_Mid fn_ref02_Mid (codeOf fn_ref02_Mid) := fnIs get_ref02_Mid (by kernel_rfl) (by kernel_rfl) (by kernel_rfl)
theorem is_eText : FnIs P ref02_Text fn_ref02_Text (codeOf fn_ref02_Text) := fnIs get_ref02_Text (by kernel_rfl) (by kernel_rfl) (by kernel_rfl)
theorem is_fText : FnIs P ref01_Text fn_ref01_Text (codeOf fn_ref01_Text) := fnIs get_ref01_Text (by kernel_rfl) (by kernel_rfl) (by kernel_rfl)
theorem is_hGr : FnIs P ref08_Greville fn_ref08_Greville (codeOf fn_ref08_Greville) := fnIs get_ref08_Greville (by kernel_rfl) (by kernel_rfl) (by kernel_rfl)
abbrev slL : List Nat := [0, 1, 4, 5]
abbrev slV (n m : Nat) (f g : Nat → Rat) (i : Nat) : List AV := [lsA f n sU, lsA g m sU, .bool false, .int .i64 i]
noncomputable abbrev slC : Code := codeOf fn_ref02_SameList
theorem sl_pre {n m : Nat} {f g : Nat → Rat} : seeL T nRef [10] 60 slL (before slC [1,1,0,1]) ⟨zipSlots 0 [lsA f n sU, lsA g m sU], [], 0⟩ =
    let c2 : AV := tab 3 m fun i ↦ rat (g i) 1099511627776; let c1 : AV := tab 3 n fun i ↦ rat (f i) 1099511627776; some (fork ((↑n : Int) != (↑m : Int)) (leaf ret ([c1, c2, AV.bool false, tuple []], [])) (leaf normal ([c1, c2, AV.bool false, int i64 (0 : Int)], []))) := by kernel_rfl
theorem sl_b {n m i : Nat} {f g : Nat → Rat} : seeL T nRef [14, 26] 60 slL [part slC [1,1,0,1,0,0]] ⟨zipL slL (slV n m f g i), [], 0⟩ =
    let c4 : AV := tab 3 m fun i ↦ rat (g i) 1099511627776; let c3 : AV := tab 3 n fun i ↦ rat (f i) 1099511627776; let c2 : Int := (↑i : Int); let c5 : Int := c2 + (1 : Int); let c1 : List AV × Store := ([c3, c4, AV.bool false, int i64 c2], []); some (fork (decide (c2 < (↑n : Int))) (must [(0 : Int) ≤ c2 ∧ c2.toNat < n, (0 : Int) ≤ c2 ∧ c2.toNat < m] (fork (!decide (f c2.toNat = g c2.toNat)) (leaf ret c1) (must [-(2 : Int) ^ 63 ≤ c5 ∧ c5 < (2 : Int) ^ 63] (leaf normal ([c3, c4, AV.bool false, int i64 c5], []))))) (leaf (exit 0) c1)) := by kernel_rfl
theorem sl_e {n m i : Nat} {f g : Nat → Rat} : endL T nRef [] 60 fn_ref02_SameList [part slC [1,1,1]] ⟨zipL slL (slV n m f g i), [], 0⟩ =
    some (leaf ret [AV.bool true]) := by kernel_rfl
/-- Are two lists equal? -/
def sameL (n : Nat) (f : Nat → Rat) (m : Nat) (g : Nat → Rat) : Bool := decide (n = m ∧ ∀ i, i < n → f i = g i)
theorem eSL_ok {n m : Nat} {f g : Nat → Rat} (hn : n < 2 ^ 40) (hm2 : m < 2 ^ 40) (K : Nat) : FOK P ref02_SameList K [lsA f n sU, lsA g m sU] [] (pres (.bool (sameL n f m g)) []) := by
  refine fok_loop (r := pres (.bool (sameL n f m g)) []) hT nRef_ok hm is_eSL rfl (of_decide_eq_true (by kernel_rfl)) rfl [1,1,0,1] (i := 0) (y := part slC [1,1,0,1,0,0]) (z := part slC [1,1,1]) (by kernel_rfl) (by kernel_rfl) (by kernel_rfl) (f1 := [10]) (f2 := [14, 26]) (f3 := []) 60 slL 0
    (fun i : Nat => slV n m f g i) (fun _ => []) (fun i => i ≤ n ∧ n = m ∧ ∀ j, j < i → f j = g j) (fun i => i = n ∧ n = m ∧ ∀ j, j < i → f j = g j) (fun i => n - i) (fun _ => ⟨⟨_, sl_pre, ?_⟩, fun i ⟨h1, h2, h3⟩ => ⟨_, sl_b, ?_⟩, fun i ⟨h1, h2, h3⟩ => ⟨_, sl_e, ?_⟩⟩) K []
  · simp only [ATree.all, allP, bne_iff_ne, ne_eq, bne_eq_false_iff_eq]
    exact ⟨fun h => ⟨[.bool false], by kernel_rfl, avLe0_bool (decide_eq_false (fun hh => h (by omega))).symm⟩, fun h => ⟨0, ⟨by omega, by omega, fun j hj => by omega⟩, .vals rfl⟩⟩
  · simp only [ATree.all, allP, decide_eq_true_eq, decide_eq_false_iff_not, Bool.not_eq_true', Bool.not_eq_false', Int.toNat_natCast]
    (repeat' with_reducible first | refine And.intro ?_ ?_ | intro _)
    all_goals first | omega | skip
    · rename_i a b
      exact ⟨[.bool false], by kernel_rfl, avLe0_bool (decide_eq_false (fun hh => b (hh.2 i (by omega)))).symm⟩
    · rename_i a b
      refine ⟨i + 1, ⟨by omega, h2, fun j hj => ?_⟩, by dsimp only; omega, .vals rfl⟩
      by_cases hj2 : j = i
      · subst hj2; exact b
      · exact h3 j (by omega)
    · exact ⟨rfl, i, ⟨by omega, h2, h3⟩, .vals rfl⟩
  · subst h1
    exact avLe0_bool (decide_eq_true ⟨h2, h3⟩).symm
def s_eSL : Spec := spL (kC (kL sU) (kC (kL sU) kN)) (fun a => .bool (sameL a.1.1 a.1.2 a.2.1.1 a.2.1.2)) fun a => [a.1.1 < 2 ^ 40, a.2.1.1 < 2 ^ 40]
theorem s_eSL_ok : ∀ K args pre r, s_eSL K args pre = some r → FOK P ref02_SameList K args pre r := spL_ok fun _ K hn => eSL_ok hn.1 hn.2 K
noncomputable def gMid : Contracts := [(ref02_Mid, aSpec T (sG :: (ref02_Frac, s_eFrac) :: tRef) [] 60 fn_ref02_Mid)]
abbrev grL1 : List Nat := [0, 1, 5, 6]
abbrev gk (k : Nat → Rat) (n : Nat) : AV := lsA k n 64
abbrev grV1 (n : Nat) (k : Nat → Rat) (p i : Nat) (v : AV) : List AV := [gk k n, .int .i64 p, v, .int .i64 i]
abbrev grO (j : Nat) (x : Nat → Rat) : Store := match j with
  | 0 => []
  | _ + 1 => [(1, rowS j x fun _ => 512)]
noncomputable abbrev grC : Code := codeOf fn_ref08_Greville
noncomputable abbrev grY : Code := part grC [1,1,0,1,0,0]
noncomputable abbrev grX : Code := part grY [1,0,0]
abbrev grL2 : List Nat := [0, 1, 5, 6, 7, 8]
abbrev grV2 (n : Nat) (k : Nat → Rat) (p i : Nat) (v : AV) (j : Nat) : List AV := [gk k n, .int .i64 p, v, .int .i64 i, .ptr 2 0 3 0 [], .int .i64 j]
def GGr : Contracts := nG :: (ref08_Poles, tPol) :: (ref02_Frac, s_eFrac) :: GE0
theorem gr_pre {n p : Nat} {k : Nat → Rat} : seeL T GGr [] 60 grL1 (before grC [1,1,0,1]) ⟨zipSlots 0 [gk k n, .int .i64 p], [], 0⟩ =
    some (leaf normal ([tab 3 n fun i ↦ rat (k i) 64, int i64 (↑p : Int), nil, int i64 (0 : Int)], [])) := by kernel_rfl
theorem gr_o0 {n p i : Nat} {k : Nat → Rat} : seeL T GGr [13] 60 grL1 (before grY [1,0]) ⟨zipL grL1 (grV1 n k p i .nil), [], 2⟩ =
    let c3 : Int := (↑p : Int); let c2 : Int := (↑n : Int) - c3 - (1 : Int); let c1 : List AV := [tab 3 n fun i ↦ rat (k i) 64, int i64 c3, nil, int i64 (↑i : Int)]; some (must [allRat (fun i ↦ rat (k i) 64) n sK, n < 2 ^ 40, -(2 : Int) ^ 40 < c3, c3 < (2 : Int) ^ 40] (fork (decide ((↑i : Int) < c2)) (leaf normal (c1, [])) (leaf (exit 0) (c1, [])))) := by kernel_rfl
theorem gr_oS {n p i j : Nat} {k x : Nat → Rat} : seeL T GGr [13] 60 grL1 (before grY [1,0]) ⟨zipL grL1 (grV1 n k p i (.own 1 3 0 (j + 1))), [(1, rowS (j + 1) x fun _ => 512)], 2⟩ =
    let c3 : Int := (↑p : Int); let c2 : Int := (↑n : Int) - c3 - (1 : Int); let c1 : List AV × Store := ([tab 3 n fun i ↦ rat (k i) 64, int i64 c3, own 1 3 0 (j + 1), int i64 (↑i : Int)], [((1 : Nat), AObj.mk true true 3 (j + 1) fun i ↦ rat (x i) 512)]); some (must [allRat (fun i ↦ rat (k i) 64) n sK, n < 2 ^ 40, -(2 : Int) ^ 40 < c3, c3 < (2 : Int) ^ 40] (fork (decide ((↑i : Int) < c2)) (leaf normal c1) (leaf (exit 0) c1))) := by kernel_rfl
theorem gr_i0 {n p i : Nat} {k : Nat → Rat} : seeL T GGr [] 60 grL2 (before grX [1,0,1]) ⟨zipL grL1 (grV1 n k p i .nil), [], 2⟩ =
    some (leaf normal ([tab 3 n fun i ↦ rat (k i) 64, int i64 (↑p : Int), nil, int i64 (↑i : Int), ptr 2 0 3 0 [], int i64 (1 : Int)], [((2 : Nat), AObj.mk false true 3 1 fun x ↦ rat 0 1)])) := by kernel_rfl
theorem gr_iS {n p i j : Nat} {k x : Nat → Rat} : seeL T GGr [] 60 grL2 (before grX [1,0,1]) ⟨zipL grL1 (grV1 n k p i (.own 1 3 0 (j + 1))), [(1, rowS (j + 1) x fun _ => 512)], 2⟩ =
    some (leaf normal ([tab 3 n fun i ↦ rat (k i) 64, int i64 (↑p : Int), own 1 3 0 (j + 1), int i64 (↑i : Int), ptr 2 0 3 0 [], int i64 (1 : Int)], [((2 : Nat), AObj.mk false true 3 1 fun x ↦ rat 0 1), ((1 : Nat), AObj.mk true true 3 (j + 1) fun i ↦ rat (x i) 512)])) := by kernel_rfl
theorem gr_b0 {n p i j s : Nat} {k : Nat → Rat} {q : Rat} : seeL T GGr [18] 60 grL2 [part grX [1,0,1,0,0]] ⟨zipL grL2 (grV2 n k p i .nil (j + 1)), [(2, tP q s)], 3⟩ =
    let c7 : Int := (↑p : Int); let c5 : AV := tab 3 n fun i ↦ rat (k i) 64; let c4 : AV := ptr 2 0 3 0 []; let c2 : Int := (2 : Int) ^ 63; let c1 : Int := (↑(j + 1) : Int); let c6 : Int := c1 + (1 : Int); let c3 : Int := (↑i : Int) + c1; some (fork (decide (c1 ≤ c7)) (must [(0 : Nat) < 1, -c2 ≤ c3 ∧ c3 < c2, (0 : Int) ≤ c3 ∧ c3.toNat < n, s < 2 ^ 41, (64 : Nat) < 2 ^ 41, (0 : Nat) < 1] (must [-c2 ≤ c6 ∧ c6 < c2] (leaf normal ([c5, int i64 c7, nil, int i64 (↑i : Int), c4, int i64 c6], [((2 : Nat), AObj.mk false true 3 1 fun j ↦ if (j == 0) = true then deN (oAdd (q, s) (k c3.toNat, (64 : Nat))) else rat q s)])))) (leaf (exit 2) ([c5, int i64 c7, nil, int i64 (↑i : Int), c4, int i64 c1], [((2 : Nat), AObj.mk false true 3 1 fun x ↦ rat q s)]))) := by kernel_rfl
theorem gr_bS {n p i j j' s : Nat} {k x : Nat → Rat} {q : Rat} : seeL T GGr [18] 60 grL2 [part grX [1,0,1,0,0]] ⟨zipL grL2 (grV2 n k p i (.own 1 3 0 (j' + 1)) (j + 1)), [(2, tP q s), (1, rowS (j' + 1) x fun _ => 512)], 3⟩ =
    let c9 : Int := (↑p : Int); let c7 : AV := tab 3 n fun i ↦ rat (k i) 64; let c6 : AV := ptr 2 0 3 0 []; let c4 : AV := own 1 3 0 (j' + 1); let c3 : Int := (2 : Int) ^ 63; let c2 : Nat × AObj := ((1 : Nat), AObj.mk true true 3 (j' + 1) fun i ↦ rat (x i) 512); let c1 : Int := (↑(j + 1) : Int); let c8 : Int := c1 + (1 : Int); let c5 : Int := (↑i : Int) + c1; some (fork (decide (c1 ≤ c9)) (must [(0 : Nat) < 1, -c3 ≤ c5 ∧ c5 < c3, (0 : Int) ≤ c5 ∧ c5.toNat < n, s < 2 ^ 41, (64 : Nat) < 2 ^ 41, (0 : Nat) < 1] (must [-c3 ≤ c8 ∧ c8 < c3] (leaf normal ([c7, int i64 c9, c4, int i64 (↑i : Int), c6, int i64 c8], [((2 : Nat), AObj.mk false true 3 1 fun j ↦ if (j == 0) = true then deN (oAdd (q, s) (k c5.toNat, (64 : Nat))) else rat q s), c2])))) (leaf (exit 2) ([c7, int i64 c9, c4, int i64 (↑i : Int), c6, int i64 c1], [((2 : Nat), AObj.mk false true 3 1 fun x ↦ rat q s), c2]))) := by kernel_rfl
theorem gr_t0 {n p i j s : Nat} {k : Nat → Rat} {q : Rat} : seeL T GGr [] 60 grL1 [part grX [1,1], part grY [1,1]] ⟨zipL grL2 (grV2 n k p i .nil (j + 1)), [(2, tP q s)], 3⟩ =
    let c3 : Int := (↑p : Int); let c2 : Int := (↑i : Int) + (1 : Int); let c1 : Int := (2 : Int) ^ 63; some (must [(0 : Nat) < 1, -c1 ≤ (1 : Int), (1 : Int) < c1, -c1 ≤ c3, c3 < c1, s < 2 ^ 41, (64 : Nat) < 2 ^ 41, (1 : Nat) * 3 ≤ 2 ^ 24, (0 : Nat) < 1 ∧ 1 * ((56 : Nat) + 1) * 2 ≤ 2 ^ 47] (must [-c1 ≤ c2 ∧ c2 < c1] (leaf normal ([tab 3 n fun i ↦ rat (k i) 64, int i64 c3, own 24579 3 0 1, int i64 c2], [((24579 : Nat), AObj.mk true true 3 1 fun i ↦ nth [rat (q * ((↑(1 : Int) : Rat) / (↑c3 : Rat))) (s + 64)] (rat 0 1) (i + 0))])))) := by kernel_rfl
theorem gr_tS {n p i j j' s : Nat} {k x : Nat → Rat} {q : Rat} : seeL T GGr [] 60 grL1 [part grX [1,1], part grY [1,1]] ⟨zipL grL2 (grV2 n k p i (.own 1 3 0 (j' + 1)) (j + 1)), [(2, tP q s), (1, rowS (j' + 1) x fun _ => 512)], 3⟩ =
    let c5 : Int := (↑p : Int); let c3 : Int := (↑i : Int) + (1 : Int); let c2 : Nat := j' + 1; let c1 : Int := (2 : Int) ^ 63; let c4 : Nat := c2 + 1; some (must [(0 : Nat) < 1, -c1 ≤ (1 : Int), (1 : Int) < c1, -c1 ≤ c5, c5 < c1, s < 2 ^ 41, (64 : Nat) < 2 ^ 41, (1 : Nat) * 3 ≤ 2 ^ 24, c4 * ((56 : Nat) + 1) * 2 ≤ 2 ^ 47] (must [-c1 ≤ c3 ∧ c3 < c1] (leaf normal ([tab 3 n fun i ↦ rat (k i) 64, int i64 c5, own 24579 3 0 c4, int i64 c3], [((24579 : Nat), AObj.mk true true 3 c4 fun i ↦ if i < c2 then rat (x i) 512 else nth [rat (q * ((↑(1 : Int) : Rat) / (↑c5 : Rat))) (s + 64)] (rat 0 1) (i - c2 + 0))])))) := by kernel_rfl
theorem gr_e {n p i j : Nat} {k x : Nat → Rat} : endL T GGr [] 60 fn_ref08_Greville [part grC [1,1,1]] ⟨zipL grL1 (grV1 n k p i (.own 1 3 0 (j + 1))), [(1, rowS (j + 1) x fun _ => 512)], 2⟩ =
    some (leaf ret [tab 3 (j + 1) fun i ↦ rat (x (i + 0)) 512]) := by kernel_rfl
theorem gMid_ok : GOK P gMid := gok_cons (aSpec_ok hT (gok_strict (gok_cons s_eFrac_ok tRef_ok)) hm is_eMid _ _) gok_nil
theorem GGr_ok : GOK P GGr := gok_plain (gok_cons tPolh_ok (gok_cons s_eFrac_ok GE0_ok))
/-- Greville's abscissas. -/
def grev (k : Nat → Rat) (p i : Nat) : Rat := kS k (i + 1) p * (((1 : Int) : Rat) / ((p : Int) : Rat))
def grS (j : Nat) : Nat := 1 + 65 * j
theorem hGr_ok {n p : Nat} {k : Nat → Rat} (hp1 : 1 ≤ p) (hp6 : p ≤ 6) (hn : n < 2 ^ 40) (hpn : p + 1 < n) (K : Nat) : FOK P ref08_Greville K [gk k n, .int .i64 p] [] (pres (lsA (grev k p) (n - p - 1) 512) []) := by
  refine fok_down (r := pres (lsA (grev k p) (n - p - 1) 512) []) hT is_hGr rfl (of_decide_eq_true (by kernel_rfl)) rfl (fun _ cx h0 => ?_) K []
  have hk := kept_nil h0
  have hSK : sK = 1048576 := rfl
  obtain ⟨N, hN⟩ : ∃ N, N = n - p - 1 := ⟨_, rfl⟩
  rw [← hN]
  have w : (n : Int) - (p : Int) - 1 = (N : Int) := by omega
  let v : Nat → AV := fun i => match i with
    | 0 => .nil
    | _ + 1 => .own 1 3 0 i
  refine AWp.hloopW hT GGr_ok hm [1,1,0,1] (i := 0) (y := grY) (z := part grC [1,1,1]) (by kernel_rfl) (by kernel_rfl) (by kernel_rfl) is_hGr.dst hk (f1 := []) 60 grL1 2 (fun i : Nat => grV1 n k p i (v i)) (fun i => grO i (grev k p))
    (fun i => i ≤ N) (fun i => i = N) (fun i => N - i) (fun _ => False) ⟨_, gr_pre, 0, by omega, .vals rfl⟩ (fun i hi => ?_) (fun i hi => ?_) (fun _ _ h => h.elim)
  · have hal : allRat (fun i => rat (k i) 64) n sK := allRat_ls (by omega)
    have inner : ∀ {Q : AEx → AState → Prop} {zb : Code}, i < N → (∀ s', (∃ ρ, Le cx ρ s' ⟨zipL grL2 (grV2 n k p i (v i) (p + 1)), (2, tP (kS k (i + 1) p) (grS p)) :: grO i (grev k p), 3⟩) → AWpL P cx fn_ref08_Greville.ntmps [part grX [1,1]] s' Q) → AWp P cx fn_ref08_Greville.ntmps grX ⟨zipL grL1 (grV1 n k p i (v i)), grO i (grev k p), 2⟩ Q := fun {Q zb} hiN hq => by
      refine AWp.hloop0 hT GGr_ok hm (x := grX) [1,0,1] (i := 2) (y := part grX [1,0,1,0,0]) (by kernel_rfl) (by kernel_rfl) (by kernel_rfl) hk (f1 := []) (f2 := [18]) 60 grL2 3 (fun j : Nat => grV2 n k p i (v i) (j + 1)) (fun j => (2, tP (kS k (i + 1) j) (grS j)) :: grO i (grev k p)) (fun j => j ≤ p) (fun j => j = p) (fun j => p - j) (fun _ => False) ?_ (fun j hj => ?_) (fun j s' hj hle => ?_) (fun _ _ h => h.elim)
      · cases i with
        | zero => exact ⟨_, gr_i0, 0, by omega, [(2, 2)], rfl, rfl, rfl, objsQ_one (f := fun _ => rat 0 1) rfl rfl (avQ_eq rfl rfl) trivial⟩
        | succ i => exact ⟨_, gr_iS, 0, by omega, [(1, 1), (2, 2)], rfl, rfl, rfl, objsQ_one (f := fun _ => rat 0 1) rfl rfl (avQ_eq rfl rfl) (objsQ_cons rfl rfl rfl (fun i hi => avQ_eq rfl rfl) trivial)⟩
      · have e1 : ((i : Int) + ((j + 1 : Nat) : Int)).toNat = i + 1 + j := by omega
        have hg : grS j < 2 ^ 40 := by unfold grS; omega
        have val : avQ [(1, 1), (2, 2)] (rat (kS k (i + 1) j + k (i + 1 + j)) (grS j + 64 + 1)) (rat (kS k (i + 1) (j + 1)) (grS (j + 1))) := .inr ⟨rfl, avLe0_rat_up rfl (by unfold grS; omega)⟩
        have val0 : avQ [(2, 2)] (rat (kS k (i + 1) j + k (i + 1 + j)) (grS j + 64 + 1)) (rat (kS k (i + 1) (j + 1)) (grS (j + 1))) := .inr ⟨rfl, avLe0_rat_up rfl (by unfold grS; omega)⟩
        cases i with
        | zero =>
          refine ⟨_, gr_b0, ?_⟩
          simp only [ATree.all, allP, decide_eq_true_eq, decide_eq_false_iff_not, e1]
          exact ⟨fun h1 => ⟨by omega, by omega, j + 1, by omega, by dsimp only; omega, [(2, 2)], rfl, rfl, rfl, objsQ_one rfl rfl val0 trivial⟩, fun h1 => ⟨rfl, j, by omega, [(2, 2)], rfl, rfl, rfl, objsQ_one rfl rfl (avQ_eq rfl rfl) trivial⟩⟩
        | succ i =>
          refine ⟨_, gr_bS, ?_⟩
          simp only [ATree.all, allP, decide_eq_true_eq, decide_eq_false_iff_not, e1]
          exact ⟨fun h1 => ⟨by omega, by omega, j + 1, by omega, by dsimp only; omega, [(1, 1), (2, 2)], rfl, rfl, rfl, objsQ_one rfl rfl val (objsQ_cons rfl rfl rfl (fun i hi => avQ_eq rfl rfl) trivial)⟩, fun h1 => ⟨rfl, j, by omega, [(1, 1), (2, 2)], rfl, rfl, rfl, objsQ_one rfl rfl (avQ_eq rfl rfl) (objsQ_cons rfl rfl rfl (fun i hi => avQ_eq rfl rfl) trivial)⟩⟩
      · subst hj
        rw [show behind grX [1,0,1] = [part grX [1,1]] from by kernel_rfl]
        exact hq s' hle
    refine AWp.into hT GGr_ok hm (y := grY) (x1 := grX) (zb := part grY [1,1]) [1,0] (j := 1) (by kernel_rfl) (by kernel_rfl) (by kernel_rfl) (by kernel_rfl) hk (f1 := [13]) 60 grL1 2 (fun _ : Unit => grV1 n k p i (v i)) (fun _ => grO i (grev k p)) (fun _ => i < N) ?_ (fun _ hi' => inner (zb := part grY [1,1]) hi' fun s' hle => ?_)
    · cases i with
      | zero =>
        refine ⟨_, gr_o0, ?_⟩
        simp only [ATree.all, allP, decide_eq_true_eq, decide_eq_false_iff_not, w]
        exact ⟨⟨hal, hn, by omega, by omega⟩, fun h1 => ⟨(), by omega, .vals rfl⟩, fun h1 => by omega⟩
      | succ i =>
        refine ⟨_, gr_oS, ?_⟩
        simp only [ATree.all, allP, decide_eq_true_eq, decide_eq_false_iff_not, w]
        have re : ReOK [] ([tab 3 n fun i ↦ rat (k i) 64, int i64 p, own 1 3 0 (i + 1), int i64 ((i + 1 : Nat) : Int)], [((1 : Nat), AObj.mk true true 3 (i + 1) fun i ↦ rat (grev k p i) 512)]) (grV1 n k p (i + 1) (v (i + 1))) (grO (i + 1) (grev k p)) 2 :=
          ⟨[(1, 1)], rfl, rfl, rfl, objsQ_cons rfl rfl rfl (fun i hi => avQ_eq rfl rfl) trivial⟩
        exact ⟨⟨hal, hn, by omega, by omega⟩, fun h1 => ⟨(), by omega, re⟩, fun h1 s' hs' => ⟨rfl, i + 1, by omega, re.le hs' hk⟩⟩
    · refine AWpL.one (AWp.tail (fun s' hh => by have := hh.1; omega) (AWpL.weak rfl hle ?_))
      have hg : grS p + 64 ≤ 512 := by unfold grS; omega
      cases i with
      | zero =>
        refine AWpL.see hT GGr_ok hm 60 grL1 gr_t0 (by kernel_rfl) ?_
        simp only [ATree.all, allP]
        exact ⟨by omega, by omega, fun s' hs' => ⟨1, by omega, by dsimp only; omega, ReOK.le ⟨[(1, 24579)], rfl, rfl, rfl, objsQ_cons rfl rfl rfl (fun i hi => rowOne (y := grev k p) rfl hg hi) trivial⟩ hs' hk⟩⟩
      | succ i =>
        refine AWpL.see hT GGr_ok hm 60 grL1 gr_tS (by kernel_rfl) ?_
        simp only [ATree.all, allP]
        exact ⟨by omega, by omega, fun s' hs' => ⟨i + 2, by omega, by dsimp only; omega, ReOK.le ⟨[(1, 24579)], rfl, rfl, rfl, objsQ_cons rfl rfl rfl (fun i hi => rowAdd (y := grev k p) (fun _ _ => rfl) rfl (Nat.le_refl _) hg hi) trivial⟩ hs' hk⟩⟩
  · subst hi
    obtain ⟨j, rfl⟩ : ∃ j, i = j + 1 := ⟨i - 1, by omega⟩
    exact AWp.ofL ((AWpL.fin hT GGr_ok hm 60 gr_e (by kernel_rfl) (avLe0_tab fun _ _ => .refl _)).mono fun _ _ h => .inl h)
def s_hGr : Spec := spL (kC (kL 64) (kC kI kN)) (fun a => lsA (grev a.1.2 a.2.1.toNat) (a.1.1 - a.2.1.toNat - 1) 512) fun a => [1 ≤ a.2.1, a.2.1 ≤ 6, a.1.1 < 2 ^ 40, a.2.1 + 1 < a.1.1]
theorem s_hGr_ok : ∀ K args pre r, s_hGr K args pre = some r → FOK P ref08_Greville K args pre r := spL_ok fun ⟨⟨n, k⟩, p, _⟩ K hn => by
  obtain ⟨h1, h2, h3, h4⟩ := hn
  have h4 : p + 1 < n := h4
  simp only at h1 h2 h3
  have := hGr_ok (p := p.toNat) (k := k) (by omega) (by omega) h3 (by omega) K
  rw [Int.toNat_of_nonneg (by omega)] at this
  exact this
end Go.Am.B

/- brepkernelmade: Knots. -/
namespace Go.Am.B
open Go Go.Am.N AV ATree AEx IntKind

theorem is_mKnots : FnIs P made_Dice_Knots fn_made_Dice_Knots (codeOf fn_made_Dice_Knots) := fnIs get_made_Dice_Knots (by kernel_rfl) (by kernel_rfl) (by kernel_rfl)
def GKn : Contracts := nG :: (made_Dice_Next, diceSpec g_next) :: (ref02_Int, s_eInt) :: (ref02_Frac, s_eFrac) :: GE0
abbrev knD (n : Nat) (z : Nat → Int) (a : Int) : AObj := diceO n (fun i => .int .i64 (z i)) a
abbrev tO (t : Rat) : AObj := ⟨false, true, 3, 1, fun _ => .rat t 64⟩
abbrev rowR (m : Nat) (k : Nat → Rat) : AObj := ⟨true, true, 3, m, fun i => .rat (k i) 64⟩
abbrev knL1 : List Nat := [0, 1, 2, 7, 8, 9]
abbrev knV1 (p m : Int) (v : AV) (i : Int) : List AV := [.ptr 0 0 2 0 [], .int .i64 p, .int .i64 m, .ptr 1 0 3 0 [], v, .int .i64 i]
noncomputable abbrev knC : Code := codeOf fn_made_Dice_Knots
noncomputable abbrev knX2 : Code := part knC [1,1,1,1]
noncomputable abbrev knX3 : Code := part knX2 [1]
abbrev knL2 : List Nat := [0, 1, 7, 8, 10]
abbrev knL3 : List Nat := [0, 1, 7, 8, 11]
abbrev knV2 (p : Int) (l : Nat) (i : Int) : List AV := [.ptr 0 0 2 0 [], .int .i64 p, .ptr 1 0 3 0 [], .own 2 3 0 l, .int .i64 i]
abbrev knO (n : Nat) (z : Nat → Int) (a : Int) (t : Rat) (l : Nat) (k : Nat → Rat) : Store := [(2, rowR l k), (1, tO t), (0, knD n z a)]
theorem ms_pre {n : Nat} {z : Nat → Int} {a p m : Int} : seeL T GKn [] 60 knL1 (before knC [1,1,1,0,1]) ⟨zipSlots 0 [.ptr 0 0 2 0 [], .int .i64 p, .int .i64 m], [(0, knD n z a)], 1⟩ =
    let c2 : Int := (2 : Int) ^ 63; let c1 : Int := nextV n (fun i ↦ int i64 (z i)) a (4 : Int) - (2 : Int); some (must [DiceOK n (fun i ↦ int i64 (z i)) a, (0 : Int) < (4 : Int), (4 : Int) < (2 : Int) ^ 62, -c2 ≤ c1 ∧ c1 < c2, -c2 ≤ c1, c1 < c2, (0 : Nat) < 1] (leaf normal ([ptr 0 0 2 0 [], int i64 p, int i64 m, ptr 20481 0 3 0 [], nil, int i64 (0 : Int)], [((20481 : Nat), AObj.mk false true 3 1 fun j ↦ if (j == 0) = true then deN (rat (↑c1 : Rat) (Max.max 1 (bitsN c1.natAbs))) else rat 0 1), ((0 : Nat), AObj.mk false true 2 1 fun x ↦ agg [tab 1 n fun i ↦ int i64 (z i), int i64 (nextA n a)])]))) := by kernel_rfl
theorem ms_10 {n : Nat} {z : Nat → Int} {a p m : Int} {t : Rat} : seeL T GKn [18] 60 knL1 [part knC [1,1,1,0,1,0,0]] ⟨zipL knL1 (knV1 p m .nil 0), [(1, tO t), (0, knD n z a)], 3⟩ =
    let c3 : AV := ptr 1 0 3 0 []; let c2 : AV := ptr 0 0 2 0 []; let c1 : List (Nat × AObj) := [((1 : Nat), AObj.mk false true 3 1 fun x ↦ rat t 64), ((0 : Nat), AObj.mk false true 2 1 fun x ↦ agg [tab 1 n fun i ↦ int i64 (z i), int i64 a])]; some (fork (decide ((0 : Int) ≤ p)) (must [(0 : Nat) < 1, (1 : Nat) * 3 ≤ 2 ^ 24, (0 : Nat) < 1 ∧ 1 * ((56 : Nat) + 1) * 2 ≤ 2 ^ 47] (must [-(2 : Int) ^ 63 ≤ (0 : Int) + (1 : Int) ∧ (0 : Int) + (1 : Int) < (2 : Int) ^ 63] (leaf normal ([c2, int i64 p, int i64 m, c3, own 24579 3 0 1, int i64 (1 : Int)], ((24579 : Nat), AObj.mk true true 3 1 fun i ↦ nth [rat t 64] (rat 0 1) (i + 0)) :: c1)))) (leaf (exit 0) ([c2, int i64 p, int i64 m, c3, nil, int i64 (0 : Int)], c1))) := by kernel_rfl
theorem ms_1S {n j : Nat} {z : Nat → Int} {a p m : Int} {t : Rat} {k : Nat → Rat} : seeL T GKn [18] 60 knL1 [part knC [1,1,1,0,1,0,0]] ⟨zipL knL1 (knV1 p m (.own 2 3 0 (j + 1)) ((j + 1 : Nat) : Int)), knO n z a t (j + 1) k, 3⟩ =
    let c4 : AV := ptr 1 0 3 0 []; let c3 : AV := ptr 0 0 2 0 []; let c2 : Nat := j + 1; let c1 : List (Nat × AObj) := [((1 : Nat), AObj.mk false true 3 1 fun x ↦ rat t 64), ((0 : Nat), AObj.mk false true 2 1 fun x ↦ agg [tab 1 n fun i ↦ int i64 (z i), int i64 a])]; let c7 : Nat := c2 + 1; let c6 : Int := (↑c2 : Int); let c5 : Int := c6 + (1 : Int); some (fork (decide (c6 ≤ p)) (must [(0 : Nat) < 1, (1 : Nat) * 3 ≤ 2 ^ 24, c7 * ((56 : Nat) + 1) * 2 ≤ 2 ^ 47] (must [-(2 : Int) ^ 63 ≤ c5 ∧ c5 < (2 : Int) ^ 63] (leaf normal ([c3, int i64 p, int i64 m, c4, own 24579 3 0 c7, int i64 c5], ((24579 : Nat), AObj.mk true true 3 c7 fun i ↦ if i < c2 then rat (k i) 64 else nth [rat t 64] (rat 0 1) (i - c2 + 0)) :: c1)))) (leaf (exit 0) ([c3, int i64 p, int i64 m, c4, own 2 3 0 c2, int i64 c6], ((2 : Nat), AObj.mk true true 3 c2 fun i ↦ rat (k i) 64) :: c1))) := by kernel_rfl
theorem ms_m {n j : Nat} {z : Nat → Int} {a p m : Int} {t : Rat} {k : Nat → Rat} : seeL T GKn [] 60 knL2 (before knX2 [0,1]) ⟨zipL knL1 (knV1 p m (.own 2 3 0 (j + 1)) ((j + 1 : Nat) : Int)), knO n z a t (j + 1) k, 3⟩ =
    let c1 : Int := m + (1 : Int); some (must [-(2 : Int) ^ 63 ≤ c1 ∧ c1 < (2 : Int) ^ 63, DiceOK n (fun i ↦ int i64 (z i)) a, (0 : Int) < c1, c1 < (2 : Int) ^ 62] (leaf normal ([ptr 0 0 2 0 [], int i64 p, ptr 1 0 3 0 [], own 2 3 0 (j + 1), int i64 (nextV n (fun i ↦ int i64 (z i)) a c1)], [((2 : Nat), AObj.mk true true 3 (j + 1) fun i ↦ rat (k i) 64), ((1 : Nat), AObj.mk false true 3 1 fun x ↦ rat t 64), ((0 : Nat), AObj.mk false true 2 1 fun x ↦ agg [tab 1 n fun i ↦ int i64 (z i), int i64 (nextA n a)])]))) := by kernel_rfl
theorem ms_2 {n l : Nat} {z : Nat → Int} {a p i : Int} {t : Rat} {k : Nat → Rat} : seeL T GKn [30, 38, 43, 53] 60 knL2 [part knX2 [0,1,0,0]] ⟨zipL knL2 (knV2 p l i), knO n z a t l k, 3⟩ =
    let c40 : Int := i - (1 : Int); let c39 : Nat := 64 + 64 + 1; let c35 : AV := rat t 64; let c34 : AV := rat 0 1; let c33 : Int := nextA n a; let c31 : Nat := l + 1; let c30 : Prop := (0 : Int) < (3 : Int); let c28 : Prop := DiceOK n (fun i ↦ int i64 (z i)) a; let c27 : Int := (↑l : Int); let c25 : AV := ptr 1 0 3 0 []; let c24 : AV := ptr 0 0 2 0 []; let c23 : Prop := 0 < 1; let c21 : Int := (2 : Int) ^ 62; let c20 : AV := tab 1 n fun i ↦ int i64 (z i); let c18 : Int := p + (1 : Int); let c16 : Prop := 64 < 2 ^ 41; let c7 : Int := nextV n (fun i ↦ int i64 (z i)) a (3 : Int); let c5 : Int := (2 : Int) ^ 63; let c43 : Int := nextA n c33; let c41 : Bool := c27 == c18; let c38 : Prop := DiceOK n (fun i ↦ int i64 (z i)) c33; let c37 : Prop := (3 : Int) < c21; let c32 : Prop := -c5 ≤ c18 ∧ c18 < c5; let c29 : Int := (1 : Int) + c7; let c26 : Nat × AObj := ((1 : Nat), AObj.mk false true 3 1 fun x ↦ c35); let c22 : Bool := bif false then true else decide (c7 > (0 : Int)); let c19 : List Prop := [-c5 ≤ c40 ∧ c40 < c5]; let c17 : Nat := (c27 - p).toNat + 0; let c15 : Nat × AObj := ((106499 : Nat), AObj.mk true true 3 c31 fun i ↦ if i < l then rat (k i) 64 else nth [c35] c34 (i - l + 0)); let c13 : List AV := [c24, int i64 p, c25, own 147459 3 0 c31, int i64 c40]; let c12 : List AV := [c24, int i64 p, c25, own 106499 3 0 c31, int i64 c40]; let c10 : Int := (1 : Int) + nextV n (fun i ↦ int i64 (z i)) c33 (2 : Int); let c9 : Int := (1 : Int) + nextV n (fun i ↦ int i64 (z i)) c33 (3 : Int); let c6 : List Prop := [c23, (1 : Nat) * 3 ≤ 2 ^ 24, c31 * ((56 : Nat) + 1) * 2 ≤ 2 ^ 47]; let c42 : Rat := (↑c29 : Rat) / (↑c10 : Rat); let c36 : Bool := bif false then true else decide (t = k c17); let c14 : List (Nat × AObj) := [c26, ((0 : Nat), AObj.mk false true 2 1 fun x ↦ agg [c20, int i64 a])]; let c11 : List Prop := [c23, -c5 ≤ c27 - p ∧ c27 - p < c5, (0 : Int) ≤ c27 - p ∧ (c27 - p).toNat < l, c17 < l, c16, c16]; let c8 : Int := (1 : Int) + nextV n (fun i ↦ int i64 (z i)) c43 (2 : Int); let c3 : ATree (List AV × Store) := must c6 (must c19 (leaf normal (c12, [c15, c26, ((0 : Nat), AObj.mk false true 2 1 fun x ↦ agg [c20, int i64 c33])]))); let c44 : Rat := (↑c9 : Rat) / (↑c8 : Rat); let c4 : ATree (List AV × Store) := must c6 (must c19 (leaf normal (c12, c15 :: c14))); let c2 : ATree (List AV × Store) := must [c23, c28, c30, c37, -c5 ≤ c29 ∧ c29 < c5, c38, (0 : Int) < (2 : Int), (2 : Int) < c21, -c5 ≤ c10 ∧ c10 < c5, -c5 ≤ c29, c29 < c5, -c5 ≤ c10, c10 < c5, c16, c16, c23] (must c6 (must c19 (leaf normal (c13, [((147459 : Nat), AObj.mk true true 3 c31 fun i ↦ if i < l then rat (k i) 64 else nth [rat (t + c42) c39] c34 (i - l + 0)), ((1 : Nat), AObj.mk false true 3 1 fun j ↦ if (j == 0) = true then deN (oAdd (t, (64 : Nat)) (c42, (64 : Nat))) else c35), ((0 : Nat), AObj.mk false true 2 1 fun x ↦ agg [c20, int i64 c43])])))); let c1 : ATree (List AV × Store) := must [c23, c38, c30, c37, -c5 ≤ c9 ∧ c9 < c5, DiceOK n (fun i ↦ int i64 (z i)) c43, (0 : Int) < (2 : Int), (2 : Int) < c21, -c5 ≤ c8 ∧ c8 < c5, -c5 ≤ c9, c9 < c5, -c5 ≤ c8, c8 < c5, c16, c16, c23] (must c6 (must c19 (leaf normal (c13, [((147459 : Nat), AObj.mk true true 3 c31 fun i ↦ if i < l then rat (k i) 64 else nth [rat (t + c44) c39] c34 (i - l + 0)), ((1 : Nat), AObj.mk false true 3 1 fun j ↦ if (j == 0) = true then deN (oAdd (t, (64 : Nat)) (c44, (64 : Nat))) else c35), ((0 : Nat), AObj.mk false true 2 1 fun x ↦ agg [c20, int i64 (nextA n c43)])])))); some (fork (decide (i > (0 : Int))) (fork c41 (fork true (must [c32, c41 = true, true = true] (fork true c2 c4)) (must (c32 :: (c41 = true) :: (true = false) :: c11) (fork c36 c2 c4))) (fork c22 (must [c32, c41 = false, c28, c30, c37, c22 = true] (fork true c1 c3)) (must (c32 :: (c41 = false) :: c28 :: c30 :: c37 :: (c22 = false) :: c11) (fork c36 c1 c3)))) (leaf (exit 2) ([c24, int i64 p, c25, own 2 3 0 l, int i64 i], ((2 : Nat), AObj.mk true true 3 l fun i ↦ rat (k i) 64) :: c14))) := by kernel_rfl
theorem ms_n {n l : Nat} {z : Nat → Int} {a p i : Int} {t : Rat} {k : Nat → Rat} : seeL T GKn [] 60 knL3 (before knX3 [1,0,1]) ⟨zipL knL2 (knV2 p l i), knO n z a t l k, 3⟩ =
    let c1 : Nat := Max.max 1 (bitsN (Int.natAbs (1 : Int))); some (must [(0 : Nat) < 1, -(2 : Int) ^ 63 ≤ (1 : Int), (1 : Int) < (2 : Int) ^ 63, (64 : Nat) < 2 ^ 41, c1 < 2 ^ 41, (0 : Nat) < 1] (leaf normal ([ptr 0 0 2 0 [], int i64 p, ptr 1 0 3 0 [], own 2 3 0 l, int i64 (0 : Int)], [((2 : Nat), AObj.mk true true 3 l fun i ↦ rat (k i) 64), ((1 : Nat), AObj.mk false true 3 1 fun j ↦ if (j == 0) = true then deN (oAdd (t, (64 : Nat)) ((↑(1 : Int) : Rat), c1)) else rat t 64), ((0 : Nat), AObj.mk false true 2 1 fun x ↦ agg [tab 1 n fun i ↦ int i64 (z i), int i64 a])]))) := by kernel_rfl
theorem ms_3 {n l : Nat} {z : Nat → Int} {a p i : Int} {t : Rat} {k : Nat → Rat} : seeL T GKn [72] 60 knL3 [part knX3 [1,0,1,0,0]] ⟨zipL knL3 (knV2 p l i), knO n z a t l k, 3⟩ =
    let c3 : AV := ptr 1 0 3 0 []; let c2 : AV := ptr 0 0 2 0 []; let c1 : List (Nat × AObj) := [((1 : Nat), AObj.mk false true 3 1 fun x ↦ rat t 64), ((0 : Nat), AObj.mk false true 2 1 fun x ↦ agg [tab 1 n fun i ↦ int i64 (z i), int i64 a])]; some (fork (decide (i ≤ p)) (must [(0 : Nat) < 1, (1 : Nat) * 3 ≤ 2 ^ 24, (l + 1) * ((56 : Nat) + 1) * 2 ≤ 2 ^ 47] (must [-(2 : Int) ^ 63 ≤ i + (1 : Int) ∧ i + (1 : Int) < (2 : Int) ^ 63] (leaf normal ([c2, int i64 p, c3, own 24579 3 0 (l + 1), int i64 (i + (1 : Int))], ((24579 : Nat), AObj.mk true true 3 (l + 1) fun i ↦ if i < l then rat (k i) 64 else nth [rat t 64] (rat 0 1) (i - l + 0)) :: c1)))) (leaf (exit 4) ([c2, int i64 p, c3, own 2 3 0 l, int i64 i], ((2 : Nat), AObj.mk true true 3 l fun i ↦ rat (k i) 64) :: c1))) := by kernel_rfl
theorem ms_end {n l : Nat} {z : Nat → Int} {a p i : Int} {t : Rat} {k : Nat → Rat} : endOL T GKn [] 60 fn_made_Dice_Knots [part knX3 [1,1]] ⟨zipL knL3 (knV2 p l i), knO n z a t l k, 3⟩ =
    some (leaf ret ([tab 3 l fun i ↦ rat (k (i + 0)) 64], some (AObj.mk false true 2 1 fun x ↦ agg [tab 1 n fun i ↦ int i64 (z i), int i64 a]))) := by kernel_rfl

/-- The list of knots that a die makes: its knots, the last one, where the die stands. -/
structure KSt where
  k : Nat → Rat
  t : Rat
  a : Int
def knAdd (n : Nat) (f : Nat → AV) (t : Rat) (a : Int) : Rat := t + ((1 + nextV n f a 3 : Int) : Rat) / ((1 + nextV n f (nextA n a) 2 : Int) : Rat)
def knNext (n : Nat) (f : Nat → AV) (p j : Nat) (s : KSt) : KSt :=
  if j = 0 ∨ 0 < nextV n f s.a 3 ∨ s.t = s.k (j + 1) then
    ⟨setK s.k (p + 1 + j) (knAdd n f s.t (if j = 0 then s.a else nextA n s.a)), knAdd n f s.t (if j = 0 then s.a else nextA n s.a), nextA n (nextA n (if j = 0 then s.a else nextA n s.a))⟩
  else ⟨setK s.k (p + 1 + j) s.t, s.t, if j = 0 then s.a else nextA n s.a⟩
def knS (n : Nat) (f : Nat → AV) (p : Nat) (s0 : KSt) : Nat → KSt
  | 0 => s0
  | j + 1 => knNext n f p j (knS n f p s0 j)
def kn0 (n : Nat) (f : Nat → AV) (a : Int) : KSt := ⟨fun _ => ((nextV n f a 4 - 2 : Int) : Rat), ((nextV n f a 4 - 2 : Int) : Rat), nextA n (nextA n a)⟩
def knJ (n : Nat) (f : Nat → AV) (a : Int) (m : Nat) : Nat := (nextV n f (nextA n a) (m + 1)).toNat
def knE (n : Nat) (f : Nat → AV) (a : Int) (p m : Nat) : KSt := knS n f p (kn0 n f a) (knJ n f a m)
/-- How many knots; the knots; where the die stands. -/
def knN (n : Nat) (f : Nat → AV) (a : Int) (p m : Nat) : Nat := 2 * p + 2 + knJ n f a m
def knK (n : Nat) (f : Nat → AV) (a : Int) (p m : Nat) : Nat → Rat := endK p (knJ n f a m) (knE n f a p m).k (knE n f a p m).t
def knA (n : Nat) (f : Nat → AV) (a : Int) (p m : Nat) : Int := (knE n f a p m).a

theorem knS_ok {n : Nat} {f : Nat → AV} {a : Int} {p : Nat} (hd : DiceOK n f a) (hp : 1 ≤ p) : ∀ j, KG p j (knS n f p (kn0 n f a) j).k (knS n f p (kn0 n f a) j).t ∧ DiceOK n f (knS n f p (kn0 n f a) j).a
  | 0 => by
    have h1 := nextV_lo (n := n) (f := f) (a := a) (m := 4) (by omega)
    have h2 := nextV_hi (n := n) (f := f) (a := a) (m := 4) (by omega)
    exact ⟨KG.start hp (by omega) (by omega), hd.next.next⟩
  | j + 1 => by
    obtain ⟨h1, h2⟩ := knS_ok hd hp j
    unfold knS knNext knAdd
    generalize knS n f p (kn0 n f a) j = s at *
    obtain ⟨k, t, b⟩ := s
    simp only at h1 h2 ⊢
    have hb : DiceOK n f (if j = 0 then b else nextA n b) := by split; exact h2; exact h2.next
    generalize (if j = 0 then b else nextA n b) = a1 at *
    split
    · have x1 := nextV_lo (n := n) (f := f) (a := a1) (m := 3) (by omega)
      have x2 := nextV_hi (n := n) (f := f) (a := a1) (m := 3) (by omega)
      have y1 := nextV_lo (n := n) (f := f) (a := nextA n a1) (m := 2) (by omega)
      have y2 := nextV_hi (n := n) (f := f) (a := nextA n a1) (m := 2) (by omega)
      refine ⟨h1.next (.inl ?_), hb.next.next⟩
      generalize nextV n f a1 3 = x at *
      generalize nextV n f (nextA n a1) 2 = y at *
      have key : ∃ z : Int, ((1 + x : Int) : Rat) / ((1 + y : Int) : Rat) = (z : Rat) / 2 ∧ 1 ≤ z ∧ z ≤ 6 := by
        rcases (show y = 0 ∨ y = 1 by omega) with h | h
        · subst h
          refine ⟨2 * (1 + x), ?_, by omega, by omega⟩
          have : ((2 * (1 + x) : Int) : Rat) = 2 * ((1 + x : Int) : Rat) := by simp
          rw [this]
          generalize ((1 + x : Int) : Rat) = w
          simp; grind
        · subst h
          exact ⟨1 + x, by simp, by omega, by omega⟩
      obtain ⟨z, e, z1, z2⟩ := key
      rw [e]
      refine ⟨?_, z, rfl, z2⟩
      have : (1 : Rat) ≤ (z : Rat) := by exact_mod_cast z1
      grind
    · rename_i hc
      have hc1 : ¬ j = 0 := fun h => hc (.inl h)
      have hc2 : ¬ t = k (j + 1) := fun h => hc (.inr (.inr h))
      exact ⟨h1.next (.inr ⟨rfl, by omega, hc2⟩), hb⟩
theorem Sz_half {z : Int} (h1 : -2 ^ 63 ≤ z) (h2 : z < 2 ^ 63) : Sz ((z : Rat) / 2) 64 := by
  have := Sz_frac h1 h2 (y := 2) (by omega) (by omega) (by omega)
  simpa using this
theorem KG.sz {p j : Nat} {k : Nat → Rat} {t : Rat} (h : KG p j k t) (hj : j < 2 ^ 50) : Sz t 64 := by
  obtain ⟨z, e, h1, h2⟩ := h.half (p + j) (Nat.le_refl _)
  rw [h.top] at e
  rw [e]
  exact Sz_half (by omega) (by omega)
theorem wsub {J j : Nat} (h : j < J) : ((J - j : Nat) : Int) - 1 = ((J - (j + 1) : Nat) : Int) := by omega
/-- One more knot in the list. -/
theorem rowNext {rl : List (Nat × Nat)} {l i : Nat} {k k' : Nat → Rat} {t : Rat} {s : Nat} (hk : k' = setK k l t) (ht : Sz t 64) (hi : i < l + 1) : avQ rl (if i < l then .rat (k i) 64 else nth [.rat t s] (.rat 0 1) (i - l + 0)) (.rat (k' i) 64) := by
  subst hk
  by_cases h : i < l
  · rw [if_pos h, setK_ne (by omega)]; exact avQ_eq rfl rfl
  · have : i = l := by omega
    subst this
    rw [if_neg h, setK_same, Nat.sub_self]
    exact .inr ⟨rfl, avLe0_rat_eq rfl ht⟩
theorem GKn_ok : GOK P GKn := gok_plain (gok_cons s_mNext_ok (gok_cons s_eInt_ok (gok_cons s_eFrac_ok GE0_ok)))

theorem mKnots_ok {k n p m : Nat} {z : Nat → Int} {a : Int} {o : AObj} (ho : ∀ ρ, objLe ρ o (knD n z a)) (h : DiceOK n (fun i => .int .i64 (z i)) a) (hp : 1 ≤ p) (hp2 : p < 1000) (hm2 : m < 1000) (K : Nat) :
    FOK P made_Dice_Knots K [.ptr k 0 2 0 [], .int .i64 p, .int .i64 m] [(k, o)] ⟨lsA (knK n (fun i => .int .i64 (z i)) a p m) (knN n (fun i => .int .i64 (z i)) a p m) 64, [(k, knD n z (knA n (fun i => .int .i64 (z i)) a p m))], []⟩ := by
  refine fok_objW hT is_mKnots rfl rfl (of_decide_eq_true (by kernel_rfl)) ho (fun _ c hk => ?_) K
  have a1 := nextV_lo (n := n) (f := fun i => .int .i64 (z i)) (a := a) (m := 4) (by omega)
  have a2 := nextV_hi (n := n) (f := fun i => .int .i64 (z i)) (a := a) (m := 4) (by omega)
  have b1 := nextV_lo (n := n) (f := fun i => .int .i64 (z i)) (a := nextA n a) (m := m + 1) (by omega)
  have b2 := nextV_hi (n := n) (f := fun i => .int .i64 (z i)) (a := nextA n a) (m := m + 1) (by omega)
  have hS := knS_ok h hp
  unfold knA knK knN knE at *
  obtain ⟨J, hJ⟩ : ∃ J, J = knJ n (fun i => .int .i64 (z i)) a m := ⟨_, rfl⟩
  have hJ2 : nextV n (fun i => .int .i64 (z i)) (nextA n a) (m + 1) = (J : Int) := by rw [hJ]; unfold knJ; omega
  rw [← hJ] at *
  have hJ3 : J < 1000 := by omega
  obtain ⟨S, hSd⟩ : ∃ S, S = knS n (fun i => .int .i64 (z i)) p (kn0 n (fun i => .int .i64 (z i)) a) := ⟨_, rfl⟩
  have h00 : S 0 = kn0 n (fun i => .int .i64 (z i)) a := by rw [hSd]; rfl
  have hS1 : ∀ j, S (j + 1) = knNext n (fun i => .int .i64 (z i)) p j (S j) := fun j => by rw [hSd]; rfl
  rw [← hSd] at hS ⊢
  clear hSd hJ
  obtain ⟨t0, ht0⟩ : ∃ t0 : Rat, t0 = ((nextV n (fun i => .int .i64 (z i)) a 4 - 2 : Int) : Rat) := ⟨_, rfl⟩
  unfold kn0 at h00
  rw [← ht0] at h00
  have hs0 : Sz t0 64 := by have := (hS 0).1.sz (by omega); rw [h00] at this; exact this
  refine AWp.hloop hT GKn_ok hm [1,1,1,0,1] (i := 0) (y := part knC [1,1,1,0,1,0,0]) (z := knX2) (by kernel_rfl) (by kernel_rfl) (by kernel_rfl) is_mKnots.dst hk (f1 := []) (f2 := [18]) 60 knL1 3
    (fun j : Nat => knV1 p m (match j with
      | 0 => .nil
      | _ + 1 => .own 2 3 0 j) j) (fun j => match j with
      | 0 => [(1, tO t0), (0, knD n z (nextA n a))]
      | _ + 1 => knO n z (nextA n a) t0 j (fun _ => t0)) (fun j => j ≤ p + 1) (fun j => j = p + 1) (fun j => p + 1 - j) (fun _ => False) ⟨_, ms_pre, ?_⟩ (fun j hj => ?_) (fun j hj => ?_) (fun _ _ h => h.elim)
  · simp only [ATree.all, allP]
    refine ⟨⟨h, by omega, by omega, by omega, by omega, by omega, by omega⟩, 0, by omega, [(0, 0), (1, 20481)], rfl, rfl, rfl, objsQ_one rfl rfl (.inr ⟨rfl, ?_⟩) (objsQ_one rfl rfl (avQ_eq rfl rfl) trivial)⟩
    rw [← ht0]
    exact avLe0_rat_eq rfl hs0
  · cases j with
    | zero =>
      refine ⟨_, ms_10, ?_⟩
      simp only [ATree.all, allP, decide_eq_true_eq, decide_eq_false_iff_not]
      refine ⟨fun _ => ⟨by omega, by omega, 1, by omega, by dsimp only; omega, [(0, 0), (1, 1), (2, 24579)], rfl, rfl, rfl, objsQ_cons rfl rfl rfl (fun i hi => ?_) (objsQ_one rfl rfl (avQ_eq rfl rfl) (objsQ_one rfl rfl (avQ_eq rfl rfl) trivial))⟩, fun h => by omega⟩
      have : i = 0 := by omega
      subst this
      exact avQ_eq rfl rfl
    | succ j =>
      refine ⟨_, ms_1S, ?_⟩
      simp only [ATree.all, allP, decide_eq_true_eq, decide_eq_false_iff_not]
      refine ⟨fun _ => ⟨by omega, by omega, j + 2, by omega, by dsimp only; omega, [(0, 0), (1, 1), (2, 24579)], rfl, rfl, rfl, objsQ_cons rfl rfl rfl (fun i hi => rowNext (by funext i; unfold setK; split <;> rfl) hs0 hi) (objsQ_one rfl rfl (avQ_eq rfl rfl) (objsQ_one rfl rfl (avQ_eq rfl rfl) trivial))⟩,
        fun _ => ⟨rfl, j + 1, by omega, [(0, 0), (1, 1), (2, 2)], rfl, rfl, rfl, objsQ_cons rfl rfl rfl (fun i hi => avQ_eq rfl rfl) (objsQ_one rfl rfl (avQ_eq rfl rfl) (objsQ_one rfl rfl (avQ_eq rfl rfl) trivial))⟩⟩
  subst hj
  refine AWp.hloop hT GKn_ok hm [0,1] (i := 2) (y := part knX2 [0,1,0,0]) (z := knX3) (by kernel_rfl) (by kernel_rfl) (by kernel_rfl) (by kernel_rfl) hk (f1 := []) (f2 := [30, 38, 43, 53]) 60 knL2 3
    (fun j : Nat => knV2 p (p + 1 + j) ((J - j : Nat) : Int)) (fun j => knO n z (S j).a (S j).t (p + 1 + j) (S j).k) (fun j => j ≤ J) (fun j => j = J) (fun j => J - j) (fun _ => False) ⟨_, ms_m, ?_⟩ (fun j hj => ?_) (fun j hj => ?_) (fun _ _ h => h.elim)
  · simp only [ATree.all, allP]
    rw [hJ2]
    refine ⟨⟨by omega, h.next, by omega, by omega⟩, 0, by omega, [(0, 0), (1, 1), (2, 2)], rfl, rfl, rfl, ?_⟩
    dsimp only
    rw [h00]
    exact objsQ_cons rfl rfl rfl (fun i hi => avQ_eq rfl rfl) (objsQ_one rfl rfl (avQ_eq rfl rfl) (objsQ_one rfl rfl (avQ_eq rfl rfl) trivial))
  · refine ⟨_, ms_2, ?_⟩
    have hj1 := hS1 j
    obtain ⟨hg, hd⟩ := hS j
    have hs1 : ∀ {j}, j < 2000 → Sz (S j).t 64 := fun hj => (hS _).1.sz (by omega)
    have hsj := hs1 (j := j) (by omega)
    have hsj1 := hs1 (j := j + 1) (by omega)
    have e1 : (((p + 1 + j : Nat) : Int) - (p : Int)).toNat + 0 = j + 1 := by omega
    simp only [ATree.all, allP, decide_eq_true_eq, decide_eq_false_iff_not, beq_iff_eq, beq_eq_false_iff_ne, e1, cond_false]
    have v3 := fun a => And.intro (nextV_lo (n := n) (f := fun i => .int .i64 (z i)) (a := a) (m := 3) (by omega)) (nextV_hi (n := n) (f := fun i => .int .i64 (z i)) (a := a) (m := 3) (by omega))
    have v2 := fun a => And.intro (nextV_lo (n := n) (f := fun i => .int .i64 (z i)) (a := a) (m := 2) (by omega)) (nextV_hi (n := n) (f := fun i => .int .i64 (z i)) (a := a) (m := 2) (by omega))
    have q1 := v3 (S j).a
    have q2 := v3 (nextA n (S j).a)
    have q3 := v2 (nextA n (S j).a)
    have q4 := v2 (nextA n (nextA n (S j).a))
    refine ⟨fun hi => ?_, fun hi => ⟨rfl, j, by omega, [(0, 0), (1, 1), (2, 2)], rfl, rfl, rfl, objsQ_cons rfl rfl rfl (fun i hi => avQ_eq rfl rfl) (objsQ_one rfl rfl (avQ_eq rfl rfl) (objsQ_one rfl rfl (avQ_eq rfl rfl) trivial))⟩⟩
    have hlt : j < J := by omega
    have fin : ∀ (key : Nat) (t : Rat) (s s2 : Nat) (b : Int) (g : Nat → AV), S (j + 1) = ⟨setK (S j).k (p + 1 + j) t, t, b⟩ → g 0 = .rat t s2 → (renOK 3 [(0, 0), (1, 1), (2, key)]) = true → (key == 1) = false → (key == 0) = false →
        Round [0] (fun j => knV2 p (p + 1 + j) ((J - j : Nat) : Int)) (fun j => knO n z (S j).a (S j).t (p + 1 + j) (S j).k) 3 (fun j => j ≤ J) (fun j => j = J) (fun j => J - j) 2 (fun _ => False) j normal
          ([ptr 0 0 2 0 [], int i64 p, ptr 1 0 3 0 [], own key 3 0 (p + 1 + j + 1), int i64 (((J - j : Nat) : Int) - 1)], [(key, ⟨true, true, 3, p + 1 + j + 1, fun i => if i < p + 1 + j then .rat ((S j).k i) 64 else nth [.rat t s] (.rat 0 1) (i - (p + 1 + j) + 0)⟩), (1, ⟨false, true, 3, 1, g⟩), (0, knD n z b)]) := by
      intro key t s s2 b g e1 e2 e3 hk1 hk0
      rw [e1] at hsj1
      refine ⟨j + 1, by omega, by dsimp only; omega, [(0, 0), (1, 1), (2, key)], by rw [e3]; rfl, by rw [wsub hlt]; rfl, rfl, ?_⟩
      dsimp only
      rw [e1]
      exact objsQ_cons rfl look_head rfl (fun i hi => rowNext rfl hsj1 hi) (objsQ_one rfl ((look_tail hk1).trans rfl) (.inr ⟨by rw [e2]; rfl, by rw [e2]; exact avLe0_rat_eq rfl hsj1⟩) (objsQ_one rfl ((look_tail hk0).trans rfl) (avQ_eq rfl rfl) trivial))
    refine ⟨fun hl => ?_, fun hl => ⟨fun hc => ?_, fun hc => ?_⟩⟩
    all_goals (repeat' with_reducible first | refine And.intro ?_ ?_ | intro _)
    all_goals first | omega | exact hd | exact hd.next | exact hd.next.next | skip
    all_goals try exact absurd ‹true = false› (by decide)
    · refine fin 147459 _ _ _ _ _ ?_ rfl rfl rfl rfl
      rw [hj1]; unfold knNext knAdd
      have hj0 : j = 0 := by omega
      rw [if_pos (.inl hj0), if_pos hj0]
    · refine fin 147459 _ _ _ _ _ ?_ rfl rfl rfl rfl
      rw [hj1]; unfold knNext knAdd
      have hj0 : j ≠ 0 := by omega
      rw [if_pos (.inr (.inl hc)), if_neg hj0]
    · refine fin 147459 _ _ _ _ _ ?_ rfl rfl rfl rfl
      rw [hj1]; unfold knNext knAdd
      have hj0 : j ≠ 0 := by omega
      rename_i hk
      rw [if_pos (.inr (.inr hk)), if_neg hj0]
    · refine fin 106499 _ _ _ _ _ ?_ rfl rfl rfl rfl
      rw [hj1]; unfold knNext knAdd
      have hj0 : j ≠ 0 := by omega
      rename_i hk
      rw [if_neg (by simp only [hj0, hk, or_false, false_or]; omega), if_neg hj0]
  subst hj
  have hs1 : Sz ((S j).t + 1) 64 := by
    obtain ⟨z, e, h1, h2⟩ := (hS j).1.half_done (p + 1 + j)
    unfold endK at e
    rw [if_neg (by omega)] at e
    rw [e]; exact Sz_half (by omega) (by omega)
  refine AWp.hloop hT GKn_ok hm [1,0,1] (i := 4) (y := part knX3 [1,0,1,0,0]) (z := part knX3 [1,1]) (by kernel_rfl) (by kernel_rfl) (by kernel_rfl) (by kernel_rfl) hk (f1 := []) (f2 := [72]) 60 knL3 3
    (fun i : Nat => knV2 p (p + 1 + j + i) i) (fun i => knO n z (S j).a ((S j).t + 1) (p + 1 + j + i) (endK p j (S j).k (S j).t)) (fun i => i ≤ p + 1) (fun i => i = p + 1) (fun i => p + 1 - i) (fun _ => False) ⟨_, ms_n, ?_⟩ (fun i hi => ?_) (fun i hi => ?_) (fun _ _ h => h.elim)
  · simp only [ATree.all, allP]
    refine ⟨⟨by omega, by omega, by omega, by omega, by decide, by omega⟩, 0, by omega, [(0, 0), (1, 1), (2, 2)], rfl, rfl, rfl, objsQ_cons rfl rfl rfl (fun i hi => ?_) (objsQ_one rfl rfl (.inr ⟨rfl, avLe0_rat_eq rfl hs1⟩) (objsQ_one rfl rfl (avQ_eq rfl rfl) trivial))⟩
    refine avQ_eq rfl ?_
    unfold endK
    rw [if_pos (by omega)]
  · refine ⟨_, ms_3, ?_⟩
    simp only [ATree.all, allP, decide_eq_true_eq, decide_eq_false_iff_not]
    refine ⟨fun _ => ⟨by omega, by omega, i + 1, by omega, by dsimp only; omega, [(0, 0), (1, 1), (2, 24579)], rfl, rfl, rfl, objsQ_cons rfl rfl rfl (fun i hi => rowNext ?_ hs1 hi) (objsQ_one rfl rfl (avQ_eq rfl rfl) (objsQ_one rfl rfl (avQ_eq rfl rfl) trivial))⟩,
      fun _ => ⟨rfl, i, by omega, [(0, 0), (1, 1), (2, 2)], rfl, rfl, rfl, objsQ_cons rfl rfl rfl (fun i hi => avQ_eq rfl rfl) (objsQ_one rfl rfl (avQ_eq rfl rfl) (objsQ_one rfl rfl (avQ_eq rfl rfl) trivial))⟩⟩
    funext x
    unfold setK endK
    split
    · rename_i hx; rw [if_neg (by omega)]
    · split <;> rfl
  · subst hi
    refine AWp.ofL (AWpL.finO hT GKn_ok hm 60 ms_end (by kernel_rfl) ⟨?_, _, rfl, rfl, diceLe rfl rfl⟩)
    exact avLe0_tab_eq (by omega) fun _ _ => rfl
def g_knots (n : Nat) (f : Nat → AV) (a : Int) (l : List AV) : Option (AV × Int × List Prop) := match l with
  | [.int .i64 p, .int .i64 m] => some (lsA (knK n f a p.toNat m.toNat) (knN n f a p.toNat m.toNat) 64, knA n f a p.toNat m.toNat, [1 ≤ p, p < 1000, 0 ≤ m, m < 1000])
  | _ => none
theorem s_mKnots_ok : ∀ K args pre r, diceSpec g_knots K args pre = some r → FOK P made_Dice_Knots K args pre r := by
  refine diceSpec_ok fun {k n z a l v b q o} K hg ho hd hq => ?_
  unfold g_knots at hg
  split at hg
  · rename_i p m
    simp only [Option.some.injEq, Prod.mk.injEq] at hg
    obtain ⟨rfl, rfl, rfl⟩ := hg
    obtain ⟨h1, h2, h3, h4⟩ := hq
    have h4 : m < 1000 := h4
    have := mKnots_ok (k := k) (p := p.toNat) (m := m.toNat) ho hd (by omega) (by omega) (by omega) K
    rw [Int.toNat_of_nonneg (by omega), Int.toNat_of_nonneg h3] at this
    exact this
  · simp at hg
end Go.Am.B

/- brepkernelmade: Number. -/
namespace Go.Am.B
open Go Go.Am.N AV

theorem is_mNumber : FnIs P made_Dice_Number fn_made_Dice_Number (codeOf fn_made_Dice_Number) := fnIs get_made_Dice_Number (by kernel_rfl) (by kernel_rfl) (by kernel_rfl)
theorem mNumber_end {n : Nat} {z : Nat → Int} {a : Int} : funO T GP [] 60 fn_made_Dice_Number (codeOf fn_made_Dice_Number) ⟨zipSlots 0 [.ptr 0 0 2 0 []], [(0, diceO n (fun i => .int .i64 (z i)) a)], 1⟩ =
    some (ATree.must [DiceOK n (fun (i : Nat) ↦ int IntKind.i64 (z i)) a, (0 : Nat) < 1] (ATree.must [(0 : Nat) < 1] (ATree.leaf AEx.ret ([rat (numV n (fun (i : Nat) ↦ int IntKind.i64 (z i)) a) 64], some { row := false, wr := true, es := 2, len := 1, f := fun (x : Nat) ↦ agg [tab 1 n fun (i : Nat) ↦ int IntKind.i64 (z i), int IntKind.i64 (numA n (fun (i : Nat) ↦ int IntKind.i64 (z i)) a)] })))) := by kernel_rfl
theorem s_mNumber_ok : ∀ K args pre r, diceSpec g_number K args pre = some r → FOK P made_Dice_Number K args pre r := by
  refine diceSpec_ok fun {k n z a l v b q o} K hg ho hd hq => ?_
  unfold g_number at hg
  split at hg
  · simp only [Option.some.injEq, Prod.mk.injEq] at hg
    obtain ⟨rfl, rfl, rfl⟩ := hg
    refine fok_obj hT GP_ok hm is_mNumber rfl rfl (of_decide_eq_true (by kernel_rfl)) ho 60 mNumber_end (fun _ => ?_) K
    simp only [ATree.all, allP]
    exact ⟨⟨hd, by omega⟩, by omega, .refl _, _, rfl, rfl, diceLe rfl rfl⟩
  · simp at hg
end Go.Am.B

/- law09: made, at. -/
namespace Go.Am.B
open Go Go.Am.N AV ATree AEx IntKind

theorem is_9made : FnIs P law09_made fn_law09_made (codeOf fn_law09_made) := fnIs get_law09_made (by kernel_rfl) (by kernel_rfl) (by kernel_rfl)
theorem is_9at : FnIs P law09_at fn_law09_at (codeOf fn_law09_at) := fnIs get_law09_at (by kernel_rfl) (by kernel_rfl) (by kernel_rfl)
def GMd : Contracts := nG :: (made_Roll, s_mRoll) :: (made_Dice_Next, diceSpec g_next) :: (made_Dice_Knots, diceSpec g_knots) :: (made_Dice_Number, diceSpec g_number) :: []
abbrev mdL : List Nat := [5, 6, 7, 8, 9]
abbrev mdV (N : Nat) (k : Nat → Rat) (p : Int) (v : AV) (i : Nat) : List AV := [.ptr 0 0 2 0 [], .int .i64 p, lsA k N 64, v, .int .i64 i]
noncomputable abbrev mdCd : Code := codeOf fn_law09_made
theorem md_pre {n : Nat} {z : Nat → Int} : seeL T GMd [] 60 mdL (before mdCd [1,1,1,1,1,0,1]) ⟨zipSlots 0 [.tab 1 n (fun i => .int .i64 (z i))], [], 0⟩ =
    let c3 : Nat := Int.toNat (5 : Int); let c2 : Int := nextA n (0 : Int); let c1 : Int := (1 : Int) + nextV n (fun i ↦ int i64 (z i)) (0 : Int) (4 : Int); some (must [DiceOK n (fun i ↦ int i64 (z i)) (0 : Int), (0 : Int) < (4 : Int), (4 : Int) < (2 : Int) ^ 62, -(2 : Int) ^ 63 ≤ c1 ∧ c1 < (2 : Int) ^ 63] (must [DiceOK n (fun i ↦ int i64 (z i)) c2, (1 : Int) ≤ c1, c1 < (1000 : Int), (0 : Int) ≤ (5 : Int), (5 : Int) < (1000 : Int)] (leaf normal ([ptr 16384 0 2 0 [], int i64 c1, tab 3 (knN n (fun i ↦ int i64 (z i)) c2 c1.toNat c3) fun i ↦ rat (knK n (fun i ↦ int i64 (z i)) c2 c1.toNat c3 i) 64, nil, int i64 (0 : Int)], [((16384 : Nat), AObj.mk false true 2 1 fun x ↦ agg [tab 1 n fun i ↦ int i64 (z i), int i64 (knA n (fun i ↦ int i64 (z i)) c2 c1.toNat c3)])])))) := by kernel_rfl
theorem md_0 {n N : Nat} {z : Nat → Int} {k : Nat → Rat} {a p : Int} : seeL T GMd [24] 60 mdL [part mdCd [1,1,1,1,1,0,1,0,0]] ⟨zipL mdL (mdV N k p .nil 0), [(0, knD n z a)], 2⟩ =
    let c7 : Int := (↑N : Int) - p; let c6 : AV := tab 1 n fun i ↦ int i64 (z i); let c5 : AV := tab 3 N fun i ↦ rat (k i) 64; let c4 : AV := ptr 0 0 2 0 []; let c3 : Int := (↑(0 : Nat) : Int); let c1 : Int := (2 : Int) ^ 63; let c2 : Int := c7 - (1 : Int); some (must [-c1 ≤ c7 ∧ c7 < c1, -c1 ≤ c2 ∧ c2 < c1] (fork (decide (c3 < c2)) (must [DiceOK n (fun i ↦ int i64 (z i)) a, (1 : Nat) * 3 ≤ 2 ^ 24, (0 : Nat) < 1 ∧ 1 * ((56 : Nat) + 1) * 2 ≤ 2 ^ 47] (must [-c1 ≤ c3 + (1 : Int) ∧ c3 + (1 : Int) < c1] (leaf normal ([c4, int i64 p, c5, own 45058 3 0 1, int i64 (1 : Int)], [((45058 : Nat), AObj.mk true true 3 1 fun i ↦ nth [rat (numV n (fun i ↦ int i64 (z i)) a) 64] (rat 0 1) (i + 0)), ((0 : Nat), AObj.mk false true 2 1 fun x ↦ agg [c6, int i64 (numA n (fun i ↦ int i64 (z i)) a)])])))) (leaf (exit 0) ([c4, int i64 p, c5, nil, int i64 (0 : Int)], [((0 : Nat), AObj.mk false true 2 1 fun x ↦ agg [c6, int i64 a])])))) := by kernel_rfl
theorem md_S {n N j : Nat} {z : Nat → Int} {k c : Nat → Rat} {a p : Int} : seeL T GMd [24] 60 mdL [part mdCd [1,1,1,1,1,0,1,0,0]] ⟨zipL mdL (mdV N k p (.own 1 3 0 (j + 1)) (j + 1)), [(1, rowR (j + 1) c), (0, knD n z a)], 2⟩ =
    let c10 : Int := (↑N : Int) - p; let c7 : AV := tab 1 n fun i ↦ int i64 (z i); let c5 : AV := tab 3 N fun i ↦ rat (k i) 64; let c4 : AV := ptr 0 0 2 0 []; let c2 : Int := (2 : Int) ^ 63; let c1 : Nat := j + 1; let c9 : Nat := c1 + 1; let c8 : Int := (↑c1 : Int); let c3 : Int := c10 - (1 : Int); let c6 : Int := c8 + (1 : Int); some (must [-c2 ≤ c10 ∧ c10 < c2, -c2 ≤ c3 ∧ c3 < c2] (fork (decide (c8 < c3)) (must [DiceOK n (fun i ↦ int i64 (z i)) a, (1 : Nat) * 3 ≤ 2 ^ 24, c9 * ((56 : Nat) + 1) * 2 ≤ 2 ^ 47] (must [-c2 ≤ c6 ∧ c6 < c2] (leaf normal ([c4, int i64 p, c5, own 45058 3 0 c9, int i64 c6], [((45058 : Nat), AObj.mk true true 3 c9 fun i ↦ if i < c1 then rat (c i) 64 else nth [rat (numV n (fun i ↦ int i64 (z i)) a) 64] (rat 0 1) (i - c1 + 0)), ((0 : Nat), AObj.mk false true 2 1 fun x ↦ agg [c7, int i64 (numA n (fun i ↦ int i64 (z i)) a)])])))) (leaf (exit 0) ([c4, int i64 p, c5, own 1 3 0 c1, int i64 c8], [((1 : Nat), AObj.mk true true 3 c1 fun i ↦ rat (c i) 64), ((0 : Nat), AObj.mk false true 2 1 fun x ↦ agg [c7, int i64 a])])))) := by kernel_rfl
theorem md_e {n N j : Nat} {z : Nat → Int} {k c : Nat → Rat} {a p : Int} : seeL T GMd [] 60 [2, 3, 4] [part mdCd [1,1,1,1,1,1]] ⟨zipL mdL (mdV N k p (.own 1 3 0 (j + 1)) (j + 1)), [(1, rowR (j + 1) c), (0, knD n z a)], 2⟩ =
    some (leaf ret ([tab 3 N fun i ↦ rat (k i) 64, int i64 p, own 1 3 0 (j + 1)], [((1 : Nat), AObj.mk true true 3 (j + 1) fun i ↦ rat (c i) 64)])) := by kernel_rfl
theorem at_end {n : Nat} {k : Nat → Rat} {i : Int} : funT T (nG :: (made_Mod, s_mMod) :: (made_Rat, s_mRat) :: gWithin) [7] 60 fn_law09_at (codeOf fn_law09_at) ⟨zipSlots 0 [gk k n, .int .i64 i], [], 0⟩ =
    let c3 : Nat := Int.toNat (0 : Int); let c2 : Prop := 0 < 1; let c1 : Int := (↑n : Int) - (1 : Int); some (must [(0 : Int) < (9 : Int), (9 : Int) < (2 : Int) ^ 62] (fork (i % (9 : Int) == (8 : Int)) (must [(9 : Int) ≠ (0 : Int), c2] (must [c2] (leaf ret [rat (ratM (i64.wrap (i.tdiv (9 : Int))) i) 64]))) (must [(0 : Int) ≤ (0 : Int) ∧ c3 < n, -(2 : Int) ^ 63 ≤ c1 ∧ c1 < (2 : Int) ^ 63, (0 : Int) ≤ c1 ∧ c1.toNat < n, c2, c2] (must [c2] (leaf ret [rat (k c3 + partV i * (k c1.toNat - k c3)) 258]))))) := by kernel_rfl
theorem GMd_ok : GOK P GMd := gok_plain (gok_cons s_mRoll_ok (gok_cons s_mNext_ok (gok_cons s_mKnots_ok (gok_cons s_mNumber_ok gok_nil))))
theorem kn_ok {n : Nat} {f : Nat → AV} {a : Int} {p m : Nat} (h : DiceOK n f a) (hp : 1 ≤ p) : Kn (knN n f a p m) p (knK n f a p m) ∧ DiceOK n f (knA n f a p m) ∧ knN n f a p m ≤ 2 * p + 2 + m := by
  have h1 := knS_ok h hp (knJ n f a m)
  have b1 := nextV_lo (n := n) (f := f) (a := nextA n a) (m := m + 1) (by omega)
  have b2 := nextV_hi (n := n) (f := f) (a := nextA n a) (m := m + 1) (by omega)
  refine ⟨h1.1.done, h1.2, ?_⟩
  unfold knN knJ; omega
/-- What law09.made makes: a degree, knots, coefficients. -/
def mdP (n : Nat) (f : Nat → AV) : Nat := (1 + nextV n f 0 4).toNat
def mdN (n : Nat) (f : Nat → AV) : Nat := knN n f (nextA n 0) (mdP n f) 5
def mdK (n : Nat) (f : Nat → AV) : Nat → Rat := knK n f (nextA n 0) (mdP n f) 5
def ndA (n : Nat) (f : Nat → AV) (a : Int) : Nat → Int
  | 0 => a
  | j + 1 => numA n f (ndA n f a j)
def mdC (n : Nat) (f : Nat → AV) (j : Nat) : Rat := numV n f (ndA n f (knA n f (nextA n 0) (mdP n f) 5) j)
theorem ndA_ok {n : Nat} {f : Nat → AV} {a : Int} (h : DiceOK n f a) : ∀ j, DiceOK n f (ndA n f a j)
  | 0 => h
  | j + 1 => (ndA_ok h j).number
theorem mdP_ok {n : Nat} {f : Nat → AV} : 1 ≤ mdP n f ∧ mdP n f ≤ 4 := by
  have h1 := nextV_lo (n := n) (f := f) (a := 0) (m := 4) (by omega)
  have h2 := nextV_hi (n := n) (f := f) (a := 0) (m := 4) (by omega)
  unfold mdP; omega
theorem md_ok {n : Nat} {f : Nat → AV} (h : DiceOK n f 0) : Kn (mdN n f) (mdP n f) (mdK n f) ∧ mdN n f ≤ 15 := by
  have h1 := kn_ok (p := mdP n f) (m := 5) h.next mdP_ok.1
  have h2 := mdP_ok (n := n) (f := f)
  exact ⟨h1.1, Nat.le_trans h1.2.2 (by omega)⟩
def s_md : Spec := frzSpec fun K l => match l with
  | [.tab 1 n f] => some ⟨oneOr [lsA (mdK n f) (mdN n f) 64, .int .i64 (mdP n f), .own K 3 0 (mdN n f - mdP n f - 1)], [(K, rowR (mdN n f - mdP n f - 1) (mdC n f))], [DiceOK n f 0]⟩
  | _ => none
theorem s_md_ok : ∀ K args pre r, s_md K args pre = some r → FOK P law09_made K args pre r := by
  refine frzSpec_ok fun K args r hk hs => ?_
  split at hs
  · rename_i n f
    simp only [Option.some.injEq] at hs
    subst hs
    intro need
    have hd : DiceOK n f 0 := need
    obtain ⟨z, rfl⟩ : ∃ z : Nat → Int, f = fun i => .int .i64 (z i) := ⟨fun i => intOf (f i), funext fun i => hd.ints i⟩
    refine (fok_newW hT is_9made hk rfl (of_decide_eq_true (by kernel_rfl)) fun hd' c h0 => ?_ : FOK P law09_made K _ [] _) need
    have hp := mdP_ok (n := n) (f := fun i => .int .i64 (z i))
    obtain ⟨hkn, hN⟩ := md_ok hd
    have hl := hkn.len
    have hd2 := (kn_ok (p := mdP n (fun i => .int .i64 (z i))) (m := 5) hd.next hp.1).2.1
    have e1 : 1 + nextV n (fun i => AV.int i64 (z i)) 0 4 = (mdP n (fun i => AV.int i64 (z i)) : Int) := by
      have := nextV_lo (n := n) (f := fun i => AV.int i64 (z i)) (a := 0) (m := 4) (by omega)
      unfold mdP; omega
    have hC : ∀ j, mdC n (fun i => .int .i64 (z i)) j = numV n (fun i => .int .i64 (z i)) (ndA n (fun i => .int .i64 (z i)) (knA n (fun i => .int .i64 (z i)) (nextA n 0) (mdP n (fun i => .int .i64 (z i))) 5) j) := fun _ => rfl
    have hN' : knN n (fun i => .int .i64 (z i)) (nextA n 0) (mdP n (fun i => .int .i64 (z i))) 5 = mdN n (fun i => .int .i64 (z i)) := rfl
    have hK' : knK n (fun i => .int .i64 (z i)) (nextA n 0) (mdP n (fun i => .int .i64 (z i))) 5 = mdK n (fun i => .int .i64 (z i)) := rfl
    refine AWp.hloop hT GMd_ok hm [1,1,1,1,1,0,1] (i := 0) (y := part mdCd [1,1,1,1,1,0,1,0,0]) (z := part mdCd [1,1,1,1,1,1]) (by kernel_rfl) (by kernel_rfl) (by kernel_rfl) is_9made.dst h0 (f1 := []) (f2 := [24]) 60 mdL 2
      (fun j : Nat => mdV (mdN n (fun i => .int .i64 (z i))) (mdK n (fun i => .int .i64 (z i))) (mdP n (fun i => .int .i64 (z i))) (match j with
        | 0 => .nil
        | _ + 1 => .own 1 3 0 j) j) (fun j => match j with
        | 0 => [(0, knD n z (ndA n (fun i => .int .i64 (z i)) (knA n (fun i => .int .i64 (z i)) (nextA n 0) (mdP n (fun i => .int .i64 (z i))) 5) 0))]
        | _ + 1 => [(1, rowR j (mdC n (fun i => .int .i64 (z i)))), (0, knD n z (ndA n (fun i => .int .i64 (z i)) (knA n (fun i => .int .i64 (z i)) (nextA n 0) (mdP n (fun i => .int .i64 (z i))) 5) j))])
      (fun j => j + mdP n (fun i => .int .i64 (z i)) + 1 ≤ mdN n (fun i => .int .i64 (z i))) (fun j => j + mdP n (fun i => .int .i64 (z i)) + 1 = mdN n (fun i => .int .i64 (z i))) (fun j => mdN n (fun i => .int .i64 (z i)) - j) (fun _ => False) ⟨_, md_pre, ?_⟩ (fun j hj => ?_) (fun j hj => ?_) (fun _ _ h => h.elim)
    · simp only [ATree.all, allP, e1, Int.toNat_natCast, show Int.toNat 5 = 5 from rfl, hN', hK']
      exact ⟨⟨hd, by omega, by omega, by omega⟩, ⟨hd.next, by omega, by omega, by omega, by omega⟩, 0, by omega, [(0, 16384)], rfl, rfl, rfl, objsQ_one rfl rfl (avQ_eq rfl rfl) trivial⟩
    · cases j with
      | zero =>
        refine ⟨_, md_0, ?_⟩
        simp only [ATree.all, allP, decide_eq_true_eq, decide_eq_false_iff_not]
        exact ⟨by omega, fun h1 => ⟨⟨ndA_ok hd2 0, by omega, by omega⟩, by omega, 1, by omega, by dsimp only; omega, [(0, 0), (1, 45058)], rfl, rfl, rfl, objsQ_cons rfl rfl rfl (fun i hi => rowOne (y := mdC n (fun i => .int .i64 (z i))) rfl (Nat.le_refl _) hi) (objsQ_one rfl rfl (avQ_eq rfl rfl) trivial)⟩, fun h1 => by omega⟩
      | succ j =>
        refine ⟨_, md_S, ?_⟩
        simp only [ATree.all, allP, decide_eq_true_eq, decide_eq_false_iff_not]
        exact ⟨by omega, fun h1 => ⟨⟨ndA_ok hd2 (j + 1), by omega, by omega⟩, by omega, j + 2, by omega, by dsimp only; omega, [(0, 0), (1, 45058)], rfl, rfl, rfl, objsQ_cons rfl rfl rfl (fun i hi => rowAdd (y := mdC n (fun i => .int .i64 (z i))) (fun _ _ => rfl) rfl (Nat.le_refl _) (Nat.le_refl _) hi) (objsQ_one rfl rfl (avQ_eq rfl rfl) trivial)⟩,
          fun h1 => ⟨rfl, j + 1, by omega, [(0, 0), (1, 1)], rfl, rfl, rfl, objsQ_cons rfl rfl rfl (fun i hi => avQ_eq rfl rfl) (objsQ_one rfl rfl (avQ_eq rfl rfl) trivial)⟩⟩
    · obtain ⟨j, rfl⟩ : ∃ i, j = i + 1 := ⟨j - 1, by omega⟩
      refine AWp.see hT GMd_ok hm 60 [2, 3, 4] md_e (by kernel_rfl) fun s' hs' => ⟨.inr rfl, [2, 3, 4], _, [lsA (mdK n (fun i => .int .i64 (z i))) (mdN n (fun i => .int .i64 (z i))) 64, .int .i64 (mdP n (fun i => .int .i64 (z i))), .own 1 3 0 (j + 1)], _, 1, _, hs', by kernel_rfl, ⟨⟨rfl, avLe_pure rfl⟩, ⟨rfl, avLe_pure rfl⟩, ⟨rfl, avLe_own (by simp [ren, look]) rfl (by omega)⟩, trivial⟩, rfl, objLe_of (by omega) fun i hi => avLe_pure rfl⟩
  · simp at hs
/-- A parameter, mostly of the domain. -/
def atV (n : Nat) (k : Nat → Rat) (i : Int) : Rat := if i % 9 = 8 then ratM (i64.wrap (i.tdiv 9)) i else k 0 + partV i * (k (n - 1) - k 0)
def s_9at : Spec := spL (kC (kL 64) (kC kI kN)) (fun a => .rat (atV a.1.1 a.1.2 a.2.1) 258) fun a => [0 < a.1.1, a.1.1 < 2 ^ 40]
theorem s_9at_ok : ∀ K args pre r, s_9at K args pre = some r → FOK P law09_at K args pre r := spL_ok fun ⟨⟨n, k⟩, i, _⟩ K hn => by
  obtain ⟨h1, h2⟩ := hn
  have h2 : n < 2 ^ 40 := h2
  simp only at h1
  refine fok_tree (r := pres (.rat (atV n k i) 258) []) hT (gok_plain (gok_cons s_mMod_ok (gok_cons s_mRat_ok gWithin_ok))) hm is_9at rfl (of_decide_eq_true (by kernel_rfl)) rfl 60 at_end (fun _ => ?_) K []
  simp only [ATree.all, allP, beq_iff_eq, beq_eq_false_iff_ne, ne_eq, Int.toNat_zero, show ((n : Int) - 1).toNat = n - 1 by omega]
  unfold atV
  exact ⟨by omega, fun h => ⟨⟨by omega, by omega⟩, by omega, avLe0_rat_up (by rw [if_pos h]) (by omega)⟩, fun h => ⟨⟨by omega, by omega, by omega, by omega, by omega⟩, by omega, avLe0_rat_up (by rw [if_neg h]) (by omega)⟩⟩
end Go.Am.B

/- ref02.Text of a few numbers; law09.awake. -/
namespace Go.Am.B
open Go Go.Am.N AV ATree AEx IntKind

theorem is_9awake : FnIs P law09_awake fn_law09_awake (codeOf fn_law09_awake) := fnIs get_law09_awake (by kernel_rfl) (by kernel_rfl) (by kernel_rfl)
def GBy : Contracts := [sG, (ref01_byLimb, s_fbyLimb)]
def tTx : Spec := pureSpec fun l => match l with
  | [.mag 1] => some (pres (.str [49]) [])
  | [.mag 2] => some (pres (.str [50]) [])
  | [.mag 3] => some (pres (.str [51]) [])
  | [.mag 4] => some (pres (.str [52]) [])
  | _ => none
def GTx : Contracts := [sG, (ref01_Text, tTx)]
def tTe : Spec := pureSpec fun l => match l with
  | [.rat q _] => match decide (q = 1 / 2), decide (q = 1 / 4), decide (q = 3 / 2) with
    | true, _, _ => some (pres (.str [49, 47, 50]) [])
    | false, true, _ => some (pres (.str [49, 47, 52]) [])
    | false, false, true => some (pres (.str [51, 47, 50]) [])
    | _, _, _ => none
  | _ => none
theorem tx_1 : funT T GBy [] 60 fn_ref01_Text (codeOf fn_ref01_Text) ⟨zipSlots 0 [.mag 1], [], 0⟩ =
    let c1 : Int := (↑(1 : Nat) : Int); some (must [nl 1 < 2 ^ 40, (0 : Int) < (1000000000 : Int), (1000000000 : Int) < (2 : Int) ^ 32] (must [(10 : Int) ≠ (0 : Int), (0 : Nat) < 1 ∧ 1 * ((1 : Nat) + 1) * 2 ≤ 2 ^ 47] (must [(10 : Int) ≠ (0 : Int)] (must [(0 : Int) ≤ c1 ∧ c1 ≤ c1 ∧ c1 ≤ (2 : Int) ^ 47 ∧ c1 * c1 ≤ (2 : Int) ^ 47] (leaf ret [str [UInt8.ofNat (u8.wrap (u32.wrap ((48 : Int) + (↑((1 : Nat) % Int.toNat (1000000000 : Int)) : Int).tmod (10 : Int)))).toNat]]))))) := by kernel_rfl
theorem tx_2 : funT T GBy [] 60 fn_ref01_Text (codeOf fn_ref01_Text) ⟨zipSlots 0 [.mag 2], [], 0⟩ =
    let c1 : Int := (↑(1 : Nat) : Int); some (must [nl 2 < 2 ^ 40, (0 : Int) < (1000000000 : Int), (1000000000 : Int) < (2 : Int) ^ 32] (must [(10 : Int) ≠ (0 : Int), (0 : Nat) < 1 ∧ 1 * ((1 : Nat) + 1) * 2 ≤ 2 ^ 47] (must [(10 : Int) ≠ (0 : Int)] (must [(0 : Int) ≤ c1 ∧ c1 ≤ c1 ∧ c1 ≤ (2 : Int) ^ 47 ∧ c1 * c1 ≤ (2 : Int) ^ 47] (leaf ret [str [UInt8.ofNat (u8.wrap (u32.wrap ((48 : Int) + (↑((2 : Nat) % Int.toNat (1000000000 : Int)) : Int).tmod (10 : Int)))).toNat]]))))) := by kernel_rfl
theorem tx_3 : funT T GBy [] 60 fn_ref01_Text (codeOf fn_ref01_Text) ⟨zipSlots 0 [.mag 3], [], 0⟩ =
    let c1 : Int := (↑(1 : Nat) : Int); some (must [nl 3 < 2 ^ 40, (0 : Int) < (1000000000 : Int), (1000000000 : Int) < (2 : Int) ^ 32] (must [(10 : Int) ≠ (0 : Int), (0 : Nat) < 1 ∧ 1 * ((1 : Nat) + 1) * 2 ≤ 2 ^ 47] (must [(10 : Int) ≠ (0 : Int)] (must [(0 : Int) ≤ c1 ∧ c1 ≤ c1 ∧ c1 ≤ (2 : Int) ^ 47 ∧ c1 * c1 ≤ (2 : Int) ^ 47] (leaf ret [str [UInt8.ofNat (u8.wrap (u32.wrap ((48 : Int) + (↑((3 : Nat) % Int.toNat (1000000000 : Int)) : Int).tmod (10 : Int)))).toNat]]))))) := by kernel_rfl
theorem tx_4 : funT T GBy [] 60 fn_ref01_Text (codeOf fn_ref01_Text) ⟨zipSlots 0 [.mag 4], [], 0⟩ =
    let c1 : Int := (↑(1 : Nat) : Int); some (must [nl 4 < 2 ^ 40, (0 : Int) < (1000000000 : Int), (1000000000 : Int) < (2 : Int) ^ 32] (must [(10 : Int) ≠ (0 : Int), (0 : Nat) < 1 ∧ 1 * ((1 : Nat) + 1) * 2 ≤ 2 ^ 47] (must [(10 : Int) ≠ (0 : Int)] (must [(0 : Int) ≤ c1 ∧ c1 ≤ c1 ∧ c1 ≤ (2 : Int) ^ 47 ∧ c1 * c1 ≤ (2 : Int) ^ 47] (leaf ret [str [UInt8.ofNat (u8.wrap (u32.wrap ((48 : Int) + (↑((4 : Nat) % Int.toNat (1000000000 : Int)) : Int).tmod (10 : Int)))).toNat]]))))) := by kernel_rfl
theorem te_12 : funT T GTx [] 60 fn_ref02_Text (codeOf fn_ref02_Text) ⟨zipSlots 0 [.agg [.bool false, .mag 1, .mag 2]], [], 0⟩ =
    some (leaf ret [str [(49 : UInt8), (47 : UInt8), (50 : UInt8)]]) := by kernel_rfl
theorem te_14 : funT T GTx [] 60 fn_ref02_Text (codeOf fn_ref02_Text) ⟨zipSlots 0 [.agg [.bool false, .mag 1, .mag 4]], [], 0⟩ =
    some (leaf ret [str [(49 : UInt8), (47 : UInt8), (52 : UInt8)]]) := by kernel_rfl
theorem te_32 : funT T GTx [] 60 fn_ref02_Text (codeOf fn_ref02_Text) ⟨zipSlots 0 [.agg [.bool false, .mag 3, .mag 2]], [], 0⟩ =
    some (leaf ret [str [(51 : UInt8), (47 : UInt8), (50 : UInt8)]]) := by kernel_rfl
theorem GBy_ok : GOK P GBy := gok_strict (gok_cons s_fbyLimb_ok gok_nil)
theorem tTx_ok : ∀ K args pre r, tTx K args pre = some r → FOK P ref01_Text K args pre r := by
  refine pureSpec_ok fun K args r hk hs _ => ?_
  have fin : ∀ {N : Nat} {t : ATree (List AV)} {l : List UInt8}, funT T GBy [] 60 fn_ref01_Text (codeOf fn_ref01_Text) ⟨zipSlots 0 [.mag N], [], 0⟩ = some t → (t.all fun _ us => resOK us (.str l)) → FOK P ref01_Text K [.mag N] [] (pres (.str l) []) := fun h1 h2 =>
    fok_tree (r := pres _ []) hT GBy_ok hm is_fText rfl (of_decide_eq_true (by kernel_rfl)) rfl 60 h1 (fun _ => h2) K []
  split at hs <;> simp only [Option.some.injEq, reduceCtorEq] at hs
  all_goals subst hs
  · exact fin tx_1 (by simp only [ATree.all, allP]; exact ⟨by decide, by decide, by decide, by decide, .refl _⟩)
  · exact fin tx_2 (by simp only [ATree.all, allP]; exact ⟨by decide, by decide, by decide, by decide, .refl _⟩)
  · exact fin tx_3 (by simp only [ATree.all, allP]; exact ⟨by decide, by decide, by decide, by decide, .refl _⟩)
  · exact fin tx_4 (by simp only [ATree.all, allP]; exact ⟨by decide, by decide, by decide, by decide, .refl _⟩)
theorem GTx_ok : GOK P GTx := gok_strict (gok_cons tTx_ok gok_nil)
theorem tTe_ok : ∀ K args pre r, tTe K args pre = some r → FOK P ref02_Text K args pre r := by
  refine pureSpec_ok fun K args r hk hs _ => ?_
  have fin : ∀ {q : Rat} {n a b : Nat} {t : ATree (List AV)} {l : List UInt8}, kids (.rat q n) = [.bool false, .mag a, .mag b] → funT T GTx [] 60 fn_ref02_Text (codeOf fn_ref02_Text) ⟨zipSlots 0 [.agg [.bool false, .mag a, .mag b]], [], 0⟩ = some t → (t.all fun _ us => resOK us (.str l)) → FOK P ref02_Text K [.rat q n] [] (pres (.str l) []) := fun h0 h1 h2 =>
    fok_weak (fok_tree (r := pres _ []) hT GTx_ok hm is_eText rfl (of_decide_eq_true (by kernel_rfl)) rfl 60 h1 (fun _ => h2) K []) rfl (show avLes0 [_] [_] from ⟨by rw [← h0]; exact avLe0_rat_agg, trivial⟩) []
  split at hs
  · rename_i q n
    split at hs
    all_goals simp only [Option.some.injEq, reduceCtorEq] at hs
    all_goals subst hs
    · obtain rfl : q = 1 / 2 := of_decide_eq_true ‹_›
      exact fin (by kernel_rfl) te_12 (.refl _)
    · obtain rfl : q = 1 / 4 := of_decide_eq_true ‹decide (q = 1 / 4) = true›
      exact fin (by kernel_rfl) te_14 (.refl _)
    · obtain rfl : q = 3 / 2 := of_decide_eq_true ‹decide (q = 3 / 2) = true›
      exact fin (by kernel_rfl) te_32 (.refl _)
  · simp at hs
def G9w : Contracts := sG :: (basis_Values, s_bVa) :: (basis_Blossom, s_bBl) :: (ref02_Text, tTe) :: (ref02_Frac, s_eFrac) :: tRef
theorem aw9_end : funT T G9w [] 60 fn_law09_awake (codeOf fn_law09_awake) ⟨zipSlots 0 [], [], 0⟩ =
    let c8 : Nat := 2 ^ 40; let c5 : AV := rat 0 1; let c4 : Int := (2 : Int) ^ 63; let c3 : AV := rat (↑(1 : Int) : Rat) (Max.max 1 (bitsN (Int.natAbs (1 : Int)))); let c2 : AV := agg [AV.bool (decide ((0 : Rat) < 0)), mag (↑(nat_lit 0) : Int).natAbs, mag (if 1 = 1 then 0 else 1)]; let c1 : List AV := [c2, c2, c2, c3, c3, c3]; let c7 : Prop := allRat (fun i ↦ nth c1 c5 (i + 0)) 6 sK; let c6 : Prop := Kn 6 (Int.toNat (2 : Int)) fun i ↦ ratV (nth c1 c5 (i + 0)); some (must [-c4 ≤ (1 : Int), (1 : Int) < c4, -c4 ≤ (2 : Int), (2 : Int) < c4, c7, (64 : Nat) ≤ sK, c6, (0 : Int) ≤ (2 : Int), (2 : Int) ≤ (6 : Int), (6 : Nat) < c8] (must [-c4 ≤ (1 : Int), (1 : Int) < c4, -c4 ≤ (2 : Int), (2 : Int) < c4, c7, allRat (fun i ↦ nth [c2, c2, c3] c5 (i + 0)) 3 sK, allRat (fun i ↦ nth [rat ((↑(1 : Int) : Rat) / (↑(2 : Int) : Rat)) 64, c3] c5 (i + 0)) 2 sK, c6, (0 : Int) ≤ (2 : Int), (2 : Int) ≤ (6 : Int), (6 : Nat) < c8, (3 : Nat) < c8, -(2 : Int) ^ 40 < (2 : Int), (2 : Int) < (2 : Int) ^ 40] (leaf ret [AV.bool true]))) := by kernel_rfl
theorem G9w_ok : GOK P G9w := gok_strict (gok_cons s_bVa_ok (gok_cons s_bBl_ok (gok_cons tTe_ok (gok_cons s_eFrac_ok tRef_ok))))
theorem Kn.congr {n p : Nat} {k k' : Nat → Rat} (h : Kn n p k) (e : ∀ i, i < n → k i = k' i) : Kn n p k' := by
  have hp := h.p1
  have hl := h.len
  refine ⟨h.p1, h.len, fun i hi => ?_, fun i hi => ?_, fun i h1 h2 => ?_, fun i h1 h2 => ?_⟩
  · rw [← e i (by omega), ← e (i + 1) hi]; exact h.sorted i hi
  · rw [← e i (by omega), ← e 0 (by omega)]; exact h.first i hi
  · rw [← e i h2, ← e (n - 1) (by omega)]; exact h.last i h1 h2
  · rw [← e i (by omega), ← e (i + p) (by omega)]; exact h.mult i h1 h2
theorem kn622 {f : Nat → Rat} (h : ∀ i, i < 6 → f i = endK 2 0 (fun _ => ((0 : Int) : Rat)) ((0 : Int) : Rat) i) : Kn 6 2 f :=
  ((KG.start (p := 2) (by omega) (z := 0) (by omega) (by omega)).done : Kn (2 * 2 + 2 + 0) 2 _).congr fun i hi => (h i hi).symm
theorem aw9_ok (K : Nat) : FOK P law09_awake K [] [] (pres (.bool true) []) := by
  refine fok_tree (r := pres (.bool true) []) hT G9w_ok hm is_9awake rfl (of_decide_eq_true (by kernel_rfl)) rfl 60 aw9_end (fun _ => ?_) K []
  simp only [ATree.all, allP]
  (repeat' with_reducible first | refine And.intro ?_ ?_)
  all_goals first | omega | decide | skip
  · intro i hi
    match i, hi with
    | 0, _ | 1, _ | 2, _ => exact avLe0_zero (k := 1048575)
    | 3, _ | 4, _ | 5, _ => exact avLe0_rat_more (by decide)
  · refine kn622 fun i hi => ?_
    match i, hi with
    | 0, _ | 1, _ | 2, _ | 3, _ | 4, _ | 5, _ => decide +kernel
  · intro i hi
    match i, hi with
    | 0, _ | 1, _ | 2, _ => exact avLe0_zero (k := 1048575)
    | 3, _ | 4, _ | 5, _ => exact avLe0_rat_more (by decide)
  · intro i hi
    match i, hi with
    | 0, _ | 1, _ => exact avLe0_zero (k := 1048575)
    | 2, _ => exact avLe0_rat_more (by decide)
  · intro i hi
    match i, hi with
    | 0, _ | 1, _ => exact avLe0_rat_more (by decide)
  · refine kn622 fun i hi => ?_
    match i, hi with
    | 0, _ | 1, _ | 2, _ | 3, _ | 4, _ | 5, _ => decide +kernel
  · exact .refl _
def s_aw9 : Spec := pureSpec fun l => match l with
  | [] => some (pres (.bool true) [])
  | _ => none
theorem s_aw9_ok : ∀ K args pre r, s_aw9 K args pre = some r → FOK P law09_awake K args pre r := by
  refine pureSpec_ok fun K args r hk hs _ => ?_
  split at hs
  · simp only [Option.some.injEq] at hs
    subst hs
    exact aw9_ok K
  · simp at hs
end Go.Am.B
