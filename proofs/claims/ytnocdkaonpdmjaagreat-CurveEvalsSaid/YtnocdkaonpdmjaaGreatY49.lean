/- basis.Blossom, handed coefficients that may still be written to. -/
import Derived.Test.YtnocdkaonpdmjaaGreatY48
import Derived.Test.YtnocdkaonpdmjaaGreatZ2
set_option linter.unusedVariables false
namespace Go.Am.B
open Go Go.Am.N AV aa ah IntKind
abbrev iX (m : Nat) (c : Nat → Rat) : az := ⟨true, true, 3, m, fun i => .rat (c i) sK⟩
abbrev lI : List Nat := [10, 11, 2, 4, 0, 1, 3, 12, 66, 67, 68]
abbrev qf (n : Nat) (k : Nat → Rat) (p m : Nat) (a : Nat → Rat) (i : Nat) (r : Nat) : List AV := [.ptr 1 0 3 0 [], .int .i64 0, .own 0 3 0 m, ls a p, ls k n, .int .i64 p, .int .i64 i, .own 2 3 0 (p + 1), ls a p, .int .i64 p, .int .i64 r]
abbrev kK (p m : Nat) (c : Nat → Rat) (x : Nat → Rat) (s : Nat → Nat) : aD := [(2, gu (p + 1) x s), (1, zO), (0, iX m c)]
abbrev sj : List Nat := [10, 11, 2, 4, 0, 1, 3, 12, 66, 67, 68, 13, 14, 15]
abbrev C9 (n : Nat) (k : Nat → Rat) (p m : Nat) (a : Nat → Rat) (i : Nat) (r j : Nat) : List AV := [.ptr 1 0 3 0 [], .int .i64 0, .own 0 3 0 m, ls a p, ls k n, .int .i64 p, .int .i64 i, .own 2 3 0 (p + 1), ls a p, .int .i64 p, .int .i64 r, .int .i64 r, .ptr 3 0 3 0 [], .int .i64 j]
theorem OI {n m p l : Nat} {k c a : Nat → Rat} {i : Int} : aI T oH [18, 25, 36, 42, 32] 60 lI (before yF [1,1,1,1,0,1]) ⟨aL 0 [ls k n, .int .i64 p, .own 0 3 0 m, .int .i64 i, ls a l], [(0, iX m c)], 1⟩ =
  let c28 : Prop := n < 2 ^ 40; let c27 : Prop := sK < 2 ^ 42; let c26 : Prop := ck (fun i ↦ rat (k i) sK) n sK; let c25 : AV := own 0 3 0 m; let c24 : Int := i + (1 : Int); let c23 : AV := ak 3 n fun i ↦ rat (k i) 4096; let c20 : Int := (2 : Int) ^ 40; let c19 : AV := rat 0 1; let c17 : Nat × az := ((0 : Nat), az.mk true true 3 m fun i ↦ rat (c i) 4096); let c15 : AV := ptr 1 0 3 0 []; let c14 : AV := ak 3 l fun i ↦ rat (a i) 4096; let c13 : Int := (2 : Int) ^ 63; let c12 : Int := (↑m : Int); let c5 : Int := (↑p : Int); let c21 : Bool := decide (i < c5); let c18 : Bool := c12 != (↑n : Int) - c5 - (1 : Int); let c16 : Bool := bif false then true else decide (i ≥ c12); let c11 : Int := c5 + (1 : Int); let c10 : Int := dK (k i.toNat) (k c24.toNat); let c8 : List AV := [c25, c14, c23, int i64 c5, int i64 i, tuple [], tuple [], tuple [], tuple []]; let c7 : List Prop := [(0 : Int) ≤ i ∧ i.toNat < n, -c13 ≤ c24 ∧ c24 < c13, (0 : Int) ≤ c24 ∧ c24.toNat < n, c27, c27]; let c6 : List (Nat × az) := [c17, ((1 : Nat), az.mk false true 3 1 fun j ↦ if (j == 0) = true then bA (agg c19.kids) else c19)]; let c22 : Bool := bif false then true else decide (c10 ≥ (0 : Int)); let c9 : Nat := 0 + Min.min (c12.toNat - (i - c5).toNat) c11.toNat; let c4 : aa (List AV × aD) := ag [(0 : Nat) < 1] (leaf ret (c15 :: int i64 (1 : Int) :: c8, c6)); let c2 : aa (List AV × aD) := ag [(0 : Nat) < 1] (leaf ret (c15 :: int i64 (7 : Int) :: c8, c6)); let c1 : aa (List AV × aD) := ag [-c13 ≤ c11 ∧ c11 < c13, (0 : Int) ≤ c11 ∧ c11 ≤ c11 ∧ c11 ≤ (2 : Int) ^ 47 ∧ c11 * (↑(56 : Nat) : Int) ≤ (2 : Int) ^ 47] (ag [-c13 ≤ i - c5 ∧ i - c5 < c13, (0 : Int) ≤ i - c5 ∧ i - c5 ≤ c12 ∧ c12 ≤ c12 ∧ c12 ≤ c12] (leaf normal ([c15, int i64 (0 : Int), c25, c14, c23, int i64 c5, int i64 i, own 163841 3 0 c11.toNat, c14, int i64 (↑l : Int), int i64 (0 : Int)], [((163841 : Nat), az.mk true true 3 c11.toNat fun i_1 ↦ if 0 ≤ i_1 ∧ i_1 < c9 then rat (c (i_1 - 0 + ((0 : Nat) + (i - c5).toNat))) sK else c19), c17, ((1 : Nat), az.mk false true 3 1 fun x ↦ c19)]))); let c3 : aa (List AV × aD) := fork c21 (fork true (ag [c21 = true, true = true] (fork true c2 c1)) (ag ((c21 = true) :: (true = false) :: c7) (fork c22 c2 c1))) (fork c16 (ag [c21 = false, c16 = true] (fork true c2 c1)) (ag ((c21 = false) :: (c16 = false) :: c7) (fork c22 c2 c1))); some (fork c18 (ag [c26, c28, -c20 < c5, c5 < c20, c18 = true] (fork true c4 c3)) (ag [c26, c28, -c20 < c5, c5 < c20, c18 = false] (fork (bif false then true else (↑l : Int) != c5) c4 c3))) := by kernel_rfl
theorem LZ {e : Int} {m : Nat} {c : Nat → Rat} : vD T ju .ret ⟨aB [10, 11, 2] [.ptr 1 0 3 0 [], .int .i64 e, .own 0 3 0 m], [(0, iX m c), (1, ⟨false, true, 3, 1, fun j => if (j == 0) = true then bA (agg (kids (.rat 0 1))) else .rat 0 1⟩)], 2⟩ =
  some (ag [(0 : Nat) < 1] (leaf ret ([agg [AV.bool false, mag 0, mag 0], int i64 e], some (az.mk true true 3 m fun i ↦ rat (c i) 4096)))) := by kernel_rfl
theorem S1 {n p m i r : Nat} {k a c x : Nat → Rat} {s : Nat → Nat} : aI T oH [69] 60 lI (before oC [1,1,0]) ⟨aB lI (qf n k p m a i r), kK p m c x s, 3⟩ =
  let c3 : Int := (↑p : Int); let c2 : AV := ak 3 p fun i ↦ rat (a i) 4096; let c1 : List AV × aD := ([ptr 1 0 3 0 [], int i64 (0 : Int), own 0 3 0 m, c2, ak 3 n fun i ↦ rat (k i) 4096, int i64 c3, int i64 (↑i : Int), own 2 3 0 (p + 1), c2, int i64 c3, int i64 (↑r : Int)], [((2 : Nat), az.mk true true 3 (p + 1) fun i ↦ rat (x i) (s i)), ((0 : Nat), az.mk true true 3 m fun i ↦ rat (c i) 4096), ((1 : Nat), az.mk false true 3 1 fun x ↦ rat 0 1)]); some (fork (decide ((↑r : Int) < c3)) (leaf normal c1) (leaf (exit 1) c1)) := by kernel_rfl
theorem Mz {n p m i r : Nat} {k a c x : Nat → Rat} {s : Nat → Nat} : aI T oH [] 60 sj (before sU [1,1]) ⟨aB lI (qf n k p m a i r), kK p m c x s, 3⟩ =
  let c4 : AV := rat 0 1; let c3 : Int := (↑r : Int); let c2 : AV := int i64 (↑p : Int); let c1 : AV := ak 3 p fun i ↦ rat (a i) 4096; some (ag [(0 : Int) ≤ c3 ∧ c3.toNat < p, (0 : Nat) < 1] (leaf normal ([ptr 1 0 3 0 [], int i64 (0 : Int), own 0 3 0 m, c1, ak 3 n fun i ↦ rat (k i) 4096, c2, int i64 (↑i : Int), own 2 3 0 (p + 1), c1, c2, int i64 c3, int i64 c3, ptr 12291 0 3 0 [], c2], [((12291 : Nat), az.mk false true 3 1 fun j ↦ if (j == 0) = true then bA (rat (a c3.toNat) sK) else c4), ((2 : Nat), az.mk true true 3 (p + 1) fun i ↦ rat (x i) (s i)), ((0 : Nat), az.mk true true 3 m fun i ↦ rat (c i) 4096), ((1 : Nat), az.mk false true 3 1 fun x ↦ c4)]))) := by kernel_rfl
theorem aav {n p m i r j : Nat} {k a c x : Nat → Rat} {s : Nat → Nat} {t : Rat} : aI T oH [76] 60 sj [part sU [1,1,0,0]] ⟨aB sj (C9 n k p m a i r j), (3, tP t sK) :: kK p m c x s, 4⟩ =
  let c27 : Int := (↑r : Int); let c23 : Int := (↑i : Int); let c21 : AV := own 0 3 0 m; let c19 : Prop := 0 < 1; let c17 : AV := ptr 3 0 3 0 []; let c16 : AV := ptr 1 0 3 0 []; let c15 : AV := ak 3 n fun i ↦ rat (k i) 4096; let c13 : Int := (↑p : Int); let c12 : Int := (↑j : Int); let c11 : Nat × az := ((3 : Nat), az.mk false true 3 1 fun x ↦ rat t 4096); let c10 : Nat := 2 ^ 42; let c8 : Nat := p + 1; let c7 : AV := ak 3 p fun i ↦ rat (a i) 4096; let c6 : List (Nat × az) := [((0 : Nat), az.mk true true 3 m fun i ↦ rat (c i) 4096), ((1 : Nat), az.mk false true 3 1 fun x ↦ rat 0 1)]; let c3 : Int := (2 : Int) ^ 63; let c26 : AV := int i64 c13; let c24 : Prop := (0 : Int) ≤ c12 ∧ c12.toNat < c8; let c20 : AV := own 2 3 0 c8; let c14 : AV := int i64 c27; let c4 : Nat := c12.toNat + 0; let c2 : Int := c23 - c13 + c12; let c1 : Int := c12 - (1 : Int); let c25 : Prop := (0 : Int) ≤ c1 ∧ c1.toNat < c8; let c22 : Prop := -c3 ≤ c1 ∧ c1 < c3; let c9 : Int := c2 + c13 - c27; let c5 : Nat := c1.toNat + 0; let c18 : Nat := s c4 + s c5 + 1; some (fork (decide (c12 > c27)) (ag [-c3 ≤ c23 - c13 ∧ c23 - c13 < c3, -c3 ≤ c2 ∧ c2 < c3] (ag [(0 : Int) ≤ c2 ∧ c2.toNat < n, -c3 ≤ c2 + c13 ∧ c2 + c13 < c3, -c3 ≤ c9 ∧ c9 < c3, (0 : Int) ≤ c9 ∧ c9.toNat < n, c19, sK ≤ sK, sK ≤ sK, sK ≤ sK, c19] (ag [c22, c25, c5 < c8, c19, c24, c4 < c8, c22, c25, c5 < c8, s c4 < c10, s c5 < c10, sF < c10, c18 < c10, s c5 < c10, sF + c18 < c10, c24, c4 < c8] (ag [c22] (leaf normal ([c16, int i64 (0 : Int), c21, c7, c15, c26, int i64 c23, c20, c7, c26, c14, c14, c17, int i64 c1], c11 :: ((2 : Nat), az.mk true true 3 c8 fun j ↦ rat (bif j == c4 then x c5 + fr (k c2.toNat) (k c9.toNat) t * (x c4 - x c5) else x j) (bif j == c4 then s c5 + (sF + c18) + 1 else s j)) :: c6)))))) (leaf (exit 3) ([c16, int i64 (0 : Int), c21, c7, c15, c26, int i64 c23, c20, c7, c26, c14, c14, c17, int i64 c12], c11 :: ((2 : Nat), az.mk true true 3 c8 fun i ↦ rat (x i) (s i)) :: c6))) := by kernel_rfl
theorem Nc {n p m i r j : Nat} {k a c x : Nat → Rat} {s : Nat → Nat} {t : Rat} : aI T oH [] 60 lI [part oC [1,1,1]] ⟨aB sj (C9 n k p m a i r j), (3, tP t sK) :: kK p m c x s, 4⟩ =
  let c2 : Int := (↑r : Int) + (1 : Int); let c1 : AV := ak 3 p fun i ↦ rat (a i) 4096; some (ag [-(2 : Int) ^ 63 ≤ c2 ∧ c2 < (2 : Int) ^ 63] (leaf normal ([ptr 1 0 3 0 [], int i64 (0 : Int), own 0 3 0 m, c1, ak 3 n fun i ↦ rat (k i) 4096, int i64 (↑p : Int), int i64 (↑i : Int), own 2 3 0 (p + 1), c1, int i64 (↑p : Int), int i64 c2], [((2 : Nat), az.mk true true 3 (p + 1) fun i ↦ rat (x i) (s i)), ((0 : Nat), az.mk true true 3 m fun i ↦ rat (c i) 4096), ((1 : Nat), az.mk false true 3 1 fun x ↦ rat 0 1)]))) := by kernel_rfl
theorem acN {n p m i r : Nat} {k a c x : Nat → Rat} {s : Nat → Nat} : B2 T oH [] 60 ju [part yF [1,1,1,1,1]] ⟨aB lI (qf n k p m a i r), kK p m c x s, 3⟩ =
  let c1 : Nat := (↑p : Int).toNat + 0; some (ag [(0 : Int) ≤ (↑p : Int) ∧ (↑p : Int).toNat < p + 1, c1 < p + 1, s c1 < 2 ^ 42, (1 : Nat) < 2 ^ 42, (0 : Nat) < 1] (ag [(0 : Nat) < 1] (leaf ret ([rat (x c1 + 0) (s c1 + 1 + 1), int i64 (0 : Int)], some (az.mk true true 3 m fun i ↦ rat (c i) 4096))))) := by kernel_rfl
theorem abE {n p m l : Nat} {k c a : Nat → Rat} {i : Int} (hp1 : 1 ≤ p) (hp6 : p ≤ 6) (hn : n < 2 ^ 40) (hm2 : m < 2 ^ 40) (hi : -2 ^ 40 < i) (hi2 : i < 2 ^ 40) (cx : Ctx) (hk : Kept [0] cx) :
  aq P cx ju.ntmps (au ju) ⟨aL 0 [ls k n, .int .i64 p, .own 0 3 0 m, .int .i64 i, ls a l], [(0, iX m c)], 1⟩ (dh cx (sO T ju [.rat (lR n k p m c i l a) sB, .int .i64 (gr n k p m l i)] (iX m c))) := by
 obtain ⟨b, hb⟩ : ∃ b, b = i.toNat - p := ⟨_, rfl⟩
 obtain ⟨x, hx⟩ : ∃ x : Nat → Nat → Rat, x = fun r => bR k b p a (fun j => c (b + j)) r := ⟨_, rfl⟩
 have hx0 : x 0 = fun j => c (b + j) := by rw [hx]; rfl
 have hxS : ∀ r, x (r + 1) = oF k b p r (a r) (x r) := fun r => by rw [hx]; rfl
 have hSF := tD
 have hSK : sK = 4096 := rfl
 have hSV : sV = 268435456 := rfl
 have hrow : ∀ (l : Nat) (a : Nat → Rat) (w : Bool) (ρ : Nat → Option Nat), cq ρ ⟨true, w, 3, l, fun i => .rat (a i) sK⟩ ⟨true, w, 3, l, fun i => .rat (a i) sK⟩ := fun l a w ρ => gQ rfl fun _ _ => aH rfl
 refine aq.Aw hT vF hm [1,1,1,1,0,1] (i := 1) (y := oC) (z := part yF [1,1,1,1,1]) (by kernel_rfl) (by kernel_rfl) (by kernel_rfl) IQ.dst hk (f1 := [18, 25, 36, 42, 32]) 60 lI 3 (fun r : Nat => qf n k p m a i.toNat r) (fun r => kK p m c (x r) fun _ => SB r)
  (fun r => r ≤ p ∧ gr n k p m l i = 0) (fun r => r = p ∧ gr n k p m l i = 0) (fun r => p - r) (A7 T ju [10, 11, 2] [.rat (lR n k p m c i l a) sB, .int .i64 (gr n k p m l i)] (iX m c)) ⟨_, OI, ?_⟩ (fun r ⟨hr, he⟩ => ?_) (fun r ⟨hr, he⟩ => ?_) (fun v s' hv hs' => hv.fin (L1 := [4, 0, 1, 3, 12, 66, 67, 68]) hk hs')
 ·simp only [aa.all, ay, jY, bne_iff_ne, ne_eq, bne_eq_false_iff_eq, Int.toNat_natCast, cond_false, decide_eq_true_eq, decide_eq_false_iff_not, BE]
  have ret : ∀ {e : Int} {us : List AV}, gr n k p m l i = e → e ≠ 0 → aW us = [] → A7 T ju [10, 11, 2] [.rat (lR n k p m c i l a) sB, .int .i64 (gr n k p m l i)] (iX m c) ([ptr 1 0 3 0 [], int i64 e, own 0 3 0 m] ++ us, [((0 : Nat), iX m c), ((1 : Nat), az.mk false true 3 1 fun j ↦ if (j == 0) = true then bA (agg (kids (.rat 0 1))) else .rat 0 1)]) := fun {e us} h1 h2 h3 =>
   ⟨[_, _, _], us, 2, _, rfl, rfl, h3, LZ, rfl, ⟨⟨by omega, fun i _ => rfl⟩, ⟨by omega, fun i _ => CY rfl rfl⟩, trivial⟩, by omega, Nat.zero_lt_one, rfl, rfl, Qk h1 h2, ⟨_, rfl, hrow _ _ _⟩⟩
  (repeat' with_reducible first | refine And.intro ?_ ?_ | intro _)
  all_goals first | omega | exact dj (Nat.le_refl _) | exact absurd ‹true = false› (by decide) | assumption | skip
  all_goals first | exact ret (Gg (.inl ‹_›)) (by decide) rfl | exact ret (Gg (.inr (by omega))) (by decide) rfl | skip
  all_goals first | exact ret (BT (by omega) (by omega) (.inl (by omega))) (by decide) rfl | exact ret (BT (by omega) (by omega) (.inr (.inl (by omega)))) (by decide) rfl | skip
  all_goals have e1 : (i + 1).toNat = i.toNat + 1 := by omega
  ·exact ret (BT (by omega) (by omega) (.inr (.inr (by rw [← e1]; assumption)))) (by decide) rfl
  ·rename_i h1
   rw [e1] at h1
   have hlp : l = p := by omega
   subst hlp
   refine ⟨0, ⟨by omega, Yj (by omega) rfl (by rintro (h | h | h) <;> first | omega | exact h1 h)⟩, [(0, 0), (1, 1), (2, 163841)], rfl, ?_, rfl, bD rfl rfl (by omega) (fun j hj => ?_) (aR rfl rfl (aM rfl rfl) (bD rfl rfl rfl (fun j hj => aM rfl rfl) trivial))⟩
   ·rw [show ((l : Int) + 1).toNat = l + 1 by omega]
    show _ = [_, _, _, _, _, _, AV.int i64 ((i.toNat : Nat) : Int), _, _, _, _]
    rw [show ((i.toNat : Nat) : Int) = i by omega]
    rfl
   ·rw [if_pos (by omega), hx0, show (i - (l : Int)).toNat = b by omega, Nat.sub_zero, Nat.zero_add, Nat.add_comm j b]
    exact .inr ⟨rfl, bK rfl (show sK ≤ SB 0 by decide)⟩
 ·have hin : (m : Int) = (n : Int) - p - 1 ∧ p ≤ i.toNat ∧ i.toNat < m ∧ i.toNat = b + p ∧ l = p := by
   unfold gr at he
   split at he
   ·omega
   ·split at he
    ·omega
    ·omega
  obtain ⟨i1, i2, i3, i4, i5⟩ := hin
  subst i5
  have hr4 : ∀ {s : Nat → Nat} {y : Nat → Rat}, kn 3 [(0, 0), (1, 1), (2, 2)] [((2 : Nat), az.mk true true 3 (l + 1) fun i ↦ rat (y i) (s i)), ((0 : Nat), iX m c), ((1 : Nat), az.mk false true 3 1 fun x ↦ rat 0 1)] (kK l m c y s) := bD rfl rfl rfl (fun j hj => aM rfl rfl) (aR rfl rfl (aM rfl rfl) (bD rfl rfl rfl (fun j hj => aM rfl rfl) trivial))
  refine aq.vG hT vF hm (y := oC) (x1 := sU) (zb := part oC [1,1,1]) [1,1,0] (j := 2) (by kernel_rfl) (by kernel_rfl) (by kernel_rfl) (by kernel_rfl) hk (f1 := [69]) 60 lI 3 (fun _ : Unit => qf n k l m a i.toNat r) (fun _ => kK l m c (x r) fun _ => SB r) (fun _ => r < l) ⟨_, S1, ?_⟩ (fun _ hr' => ?_)
  ·simp only [aa.all, ay, decide_eq_true_eq, decide_eq_false_iff_not]
   have re : ∀ {s : Nat → Nat} {y : Nat → Rat}, eA [0] ([ptr 1 0 3 0 [], int i64 (0 : Int), own 0 3 0 m, ls a l, ak 3 n fun i ↦ rat (k i) sK, int i64 l, int i64 (i.toNat : Nat), own 2 3 0 (l + 1), ls a l, int i64 l, int i64 (r : Nat)], [((2 : Nat), az.mk true true 3 (l + 1) fun i ↦ rat (y i) (s i)), ((0 : Nat), iX m c), ((1 : Nat), az.mk false true 3 1 fun x ↦ rat 0 1)]) (qf n k l m a i.toNat r) (kK l m c y s) 3 :=
    ⟨[(0, 0), (1, 1), (2, 2)], rfl, rfl, rfl, hr4⟩
   exact ⟨fun h1 => ⟨(), by omega, re⟩, fun h1 s' hs' => ⟨rfl, r, ⟨by omega, he⟩, re.le hs' hk⟩⟩
  have h1 := pG (d := r)
  have h2 := nJ (d := r) (by omega)
  have h3 := vh (d := r)
  refine aq.zJ hT vF hm (x := sU) [1,1] (i := 3) (y := part sU [1,1,0,0]) (by kernel_rfl) (by kernel_rfl) (by kernel_rfl) hk (f1 := []) (f2 := [76]) 60 sj 4 (fun j : Nat => C9 n k l m a i.toNat r j) (fun j => (3, tP (a r) sK) :: kK l m c (jL k b l r (a r) (x r) j) (ko r j)) (fun j => r ≤ j ∧ j ≤ l) (fun j => j = r) (fun j => j) (fun _ => False) ⟨_, Mz, ?_⟩ (fun j hj => ⟨_, aav, ?_⟩) (fun j s' hj hle => ?_) (fun _ _ h => h.elim)
  ·simp only [aa.all, ay, Int.toNat_natCast]
   refine ⟨⟨by omega, by omega⟩, l, by omega, [(0, 0), (1, 1), (2, 2), (3, 12291)], rfl, rfl, rfl, aR rfl rfl (aM rfl rfl) (bD rfl rfl rfl (fun j hj => aM rfl ?_) (aR rfl rfl (aM rfl rfl) (bD rfl rfl rfl (fun j hj => aM rfl rfl) trivial)))⟩
   unfold jL ko
   rw [if_pos (by omega), if_pos (by omega)]
  ·obtain ⟨hj1, hj2⟩ := hj
   have e1 : ((i.toNat : Nat) : Int) - (l : Int) + (j : Int) = ((b + j : Nat) : Int) := by omega
   have e2 : ((b + j : Nat) : Int) + (l : Int) - (r : Int) = ((b + j + (l - r) : Nat) : Int) := by omega
   have u1 : ∀ {j' : Nat}, j' ≤ j → ko r j j' = SB r := fun h => by unfold ko; rw [if_pos h]
   simp only [aa.all, ay, decide_eq_true_eq, decide_eq_false_iff_not, e1, e2, Int.toNat_natCast, Nat.add_zero]
   refine ⟨fun h4 => ?_, fun h4 => ⟨rfl, j, by omega, [(0, 0), (1, 1), (2, 2), (3, 3)], rfl, rfl, rfl, aR rfl rfl (aM rfl rfl) (bD rfl rfl rfl (fun j hj => aM rfl rfl) (aR rfl rfl (aM rfl rfl) (bD rfl rfl rfl (fun j hj => aM rfl rfl) trivial)))⟩⟩
   have e3 : ((j : Int) - 1).toNat = j - 1 := by omega
   have u2 := u1 (j' := j) (Nat.le_refl _)
   have u3 := u1 (j' := j - 1) (by omega)
   simp only [e3, u2, u3]
   (repeat' with_reducible refine And.intro ?_ ?_)
   all_goals first | omega | skip
   exact ⟨j - 1, by omega, by dsimp only; omega, [(0, 0), (1, 1), (2, 2), (3, 3)], rfl, by rw [show (j : Int) - 1 = ((j - 1 : Nat) : Int) by omega]; rfl, rfl, aR rfl rfl (aM rfl rfl) (bD rfl rfl rfl (fun q hq => YF (by omega) (by omega)) (aR rfl rfl (aM rfl rfl) (bD rfl rfl rfl (fun j hj => aM rfl rfl) trivial)))⟩
  ·subst hj
   show aq P cx ju.ntmps (part oC [1,1,1]) s' _
   refine aq.jG hle (aq.aZ hT vF hm 60 lI Nc (by kernel_rfl) ?_)
   simp only [aa.all, ay]
   refine ⟨by omega, fun s' hs' => ⟨j + 1, ⟨by omega, he⟩, by dsimp only; omega, eA.le ⟨[(0, 0), (1, 1), (2, 2)], rfl, rfl, rfl, bD rfl rfl rfl (fun q hq => ?_) (aR rfl rfl (aM rfl rfl) (bD rfl rfl rfl (fun j hj => aM rfl rfl) trivial))⟩ hs' hk⟩⟩
   refine .inr ⟨rfl, bK (by rw [abg, hxS]) ?_⟩
   show ko j j q ≤ SB (j + 1)
   unfold ko
   split <;> omega
 ·have hlp : l = p := by
   unfold gr at he
   split at he
   ·omega
   ·omega
  subst hlp
  subst hr
  refine aq.lJ ((aC.Pm hT vF hm 60 acN (by kernel_rfl) ?_).mono fun _ _ h => .inl h)
  have h2 := nJ (d := r) hp6
  simp only [aa.all, ay, Int.toNat_natCast, Nat.add_zero]
  refine ⟨⟨by omega, by omega, by omega, by omega, by omega⟩, by omega, rfl, rfl, ⟨bK ?_ (by show SB r + 1 + 1 ≤ 536870912; omega), bq he.symm, trivial⟩, ⟨_, rfl, hrow _ _ _⟩⟩
  unfold lR
  rw [if_pos he, ← hb, hx, Rat.add_zero]
def qH (f : Nat → AV) (n s : Nat) : Prop := ∀ i, i < n → keys (f i) = [] ∧ bB (f i) (.rat (aT (f i)) s)
theorem Vr {k : Nat → Rat} {n s s' : Nat} (h : s ≤ s') : qH (fun i => .rat (k i) s) n s' := fun _ _ => ⟨rfl, dm h⟩
theorem qH.obj {f : Nat → AV} {n s : Nat} {w : Bool} (h : qH f n s) {m : Nat} (hm : n = m) (ρ : Nat → Option Nat) : cq ρ ⟨true, w, 3, n, f⟩ ⟨true, w, 3, m, fun i => .rat (aT (f i)) s⟩ := ⟨rfl, rfl, rfl, hm.symm, fun i hi => kT (h i hi).1 (h i hi).2⟩
def B7 : Spec := fun _ args pre => match args, pre with
 | [.ak 3 n kf, .int .i64 p, .own b 3 0 m, .int .i64 i, .ak 3 l af], [(b', ⟨true, true, 3, mb, fb⟩)] => match b' == b with
  | true => some ⟨G4 n (fun i => aT (kf i)) p.toNat m (fun i => aT (fb i)) i l (fun i => aT (af i)), [(b, iX m fun i => aT (fb i))],
   [mb = m, ck kf n sK, ck af l sK, qH fb m sK, 1 ≤ p, p ≤ 6, n < 2 ^ 40, m < 2 ^ 40, -2 ^ 40 < i, i < 2 ^ 40]⟩
  | false => none
 | _, _ => none
theorem MA : ∀ K args pre r, B7 K args pre = some r → aA P Ag K args pre r := by
 intro K args pre r h
 unfold B7 at h
 split at h
 ·rename_i n kf p b m i l af b' mb fb
  split at h
  ·rename_i hc
   have hc := eq_of_beq hc
   subst hc
   simp only [Option.some.injEq] at h
   subst h
   intro need
   obtain ⟨rfl, n1, n2, n3, n4, n5, n6, n7, n8, n9⟩ := need
   refine V7 hT IQ (args := [.ak 3 n kf, .int .i64 p, .own b' 3 0 mb, .int .i64 i, .ak 3 l af]) (us := [.rat (lR n (fun i => aT (kf i)) p.toNat mb (fun i => aT (fb i)) i l (fun i => aT (af i))) sB, .int .i64 (gr n (fun i => aT (kf i)) p.toNat mb l i)]) (args0 := [ls (fun i => aT (kf i)) n, .int .i64 p, .own 0 3 0 mb, .int .i64 i, ls (fun i => aT (af i)) l]) (of_decide_eq_true (by kernel_rfl))
    ⟨⟨rfl, kT rfl (Co n1)⟩, ⟨rfl, aH rfl⟩, ⟨rfl, cF rfl rfl rfl⟩, ⟨rfl, aH rfl⟩, ⟨rfl, kT rfl (Co n2)⟩, trivial⟩ (fun _ ρ => n3.obj rfl ρ) (fun _ c hk => ?_) K ⟨rfl, n1, n2, n3, n4, n5, n6, n7, n8, n9⟩
   have := abE (n := n) (p := p.toNat) (m := mb) (l := l) (k := fun i => aT (kf i)) (c := fun i => aT (fb i)) (a := fun i => aT (af i)) (i := i) (by omega) (by omega) n6 n7 n8 n9 c hk
   rw [Int.toNat_of_nonneg (by omega)] at this
   exact this
  ·simp at h
 ·simp at h
end Go.Am.B

/- spline.piece, Spline.polar. -/
namespace Go.Am.B
open Go Go.Am.N AV aa ah IntKind
theorem abG : aN P ue uD (au uD) := aP T6 (by kernel_rfl) (by kernel_rfl) (by kernel_rfl)
theorem Gj : aN P su lO (au lO) := aP NO (by kernel_rfl) (by kernel_rfl) (by kernel_rfl)
def qo (k : Nat → Rat) (n : Nat) : Nat → Nat → Nat
 | 0, i => i
 | f + 1, i => if i + 1 < n ∧ k (i + 1) ≤ k i then qo k n f (i + 1) else i
def fW (k : Nat → Rat) (n i : Nat) : Nat := qo k n (n - i) i
abbrev uj : List Nat := [0, 1, 4]
abbrev C0 (n i : Nat) (k : Nat → Rat) : List AV := [ls k n, .int .i64 i, .int .i64 0]
noncomputable abbrev v7 : Code := au uD
def mN (h : Pl) : Nat → Rat
 | 0 => h.n.x
 | 1 => h.n.y
 | 2 => h.n.z
 | _ => h.d
def lH (g : Nat → Rat) : Nat → Pl
 | 0 => ⟨⟨0, 0, 0⟩, 0⟩
 | 1 => ⟨⟨g 0, 0, 0⟩, 0⟩
 | 2 => ⟨⟨g 0, g 1, 0⟩, 0⟩
 | 3 => ⟨⟨g 0, g 1, g 2⟩, 0⟩
 | _ => ⟨⟨g 0, g 1, g 2⟩, g 3⟩
def gR (c : Cu) (i : Int) (l : Nat) (g : Nat → Rat) (a : Nat) : Rat := lR c.n c.k c.p.toNat c.m (fun j => mN (c.f j) a) i l g
def xD (c : Cu) (i : Int) (l : Nat) (g : Nat → Rat) : Pl := ⟨⟨gR c i l g 0, gR c i l g 1, gR c i l g 2⟩, gR c i l g 3⟩
def lV (c : Cu) (a : Nat) (x : Nat → Rat) (j q : Nat) : Rat := if q < j ∨ c.m ≤ q then mN (c.f q) a else x q
theorem Vw {c : Cu} {a : Nat} {x : Nat → Rat} : lV c a x c.m = fun q => mN (c.f q) a := by
 funext q; unfold lV; rw [if_pos (by omega)]
noncomputable def mE : aQ := nG :: (Ag, B7) :: fT
abbrev gl : List Nat := [1, 2, 3, 6, 7, 8, 16]
abbrev iV (c : Cu) (i : Int) (l : Nat) (g : Nat → Rat) (a : Nat) : List AV := [.int .i64 i, ls g l, .ptr 0 0 3 0 [], .ptr 1 0 12 0 [], .ptr 2 0 12 0 [], .own 3 3 0 c.m, .int .i64 a]
abbrev tq : List Nat := [1, 2, 3, 6, 7, 8, 16, 9, 20, 21, 22]
abbrev AF (c : Cu) (i : Int) (l : Nat) (g : Nat → Rat) (a j : Nat) : List AV := [.int .i64 i, ls g l, .ptr 0 0 3 0 [], .ptr 1 0 12 0 [], .ptr 2 0 12 0 [], .own 3 3 0 c.m, .int .i64 a, .int .i64 a, oN c.f c.m sK, .int .i64 c.m, .int .i64 j]
abbrev gz (c : Cu) (x : Nat → Rat) (h : Pl) : aD := [(3, iX c.m x), (2, gj h sB), (1, gj ⟨⟨0, 0, 0⟩, 0⟩ 1), (0, nD c sK)]
noncomputable abbrev yH : Code := au lO
noncomputable abbrev lT : Code := part yH [1,1,1,0,1,0,0]
noncomputable abbrev lN : Code := part lT [1,1,0,0]
theorem PC {n i : Nat} {k : Nat → Rat} : aI T (nG :: fT) [] 60 uj (before v7 [1,0]) ⟨aL 0 [ls k n, .int .i64 i], [], 0⟩ =
  some (leaf normal ([ak 3 n fun i ↦ rat (k i) 4096, int i64 (↑i : Int), int i64 (0 : Int)], [])) := by kernel_rfl
theorem Pv {n i : Nat} {k : Nat → Rat} : aI T (nG :: fT) [10, 22] 60 uj [part v7 [1,0,0,0]] ⟨aB uj (C0 n i k), [], 0⟩ =
  let c9 : Prop := sK < 2 ^ 42; let c8 : Int := (↑i : Int); let c3 : AV := ak 3 n fun i ↦ rat (k i) 4096; let c4 : aa (List AV × aD) := leaf (exit 0) ([c3, int i64 c8, int i64 (0 : Int)], []); let c1 : Int := c8 + (1 : Int); let c7 : Int := dK (k c8.toNat) (k c1.toNat); let c6 : Bool := decide (c1 < (↑n : Int)); let c2 : Prop := -(2 : Int) ^ 63 ≤ c1 ∧ c1 < (2 : Int) ^ 63; let c5 : aa (List AV × aD) := ag [c2] (leaf normal ([c3, int i64 c1, int i64 (0 : Int)], [])); some (fork c6 (ag [c2, c6 = true, (0 : Int) ≤ c8 ∧ c8.toNat < n, c2, (0 : Int) ≤ c1 ∧ c1.toNat < n, c9, c9] (fork (bif true then decide (c7 ≥ (0 : Int)) else false) c5 c4)) (ag [c2, c6 = false] (fork false c5 c4))) := by kernel_rfl
theorem M8 {n i : Nat} {k : Nat → Rat} : b9 T (nG :: fT) [] 60 uD [part v7 [1,1]] ⟨aB uj (C0 n i k), [], 0⟩ =
  some (leaf ret [int i64 (↑i : Int)]) := by kernel_rfl
theorem ZK {c : Cu} {i : Int} {l : Nat} {g : Nat → Rat} : aI T mE [] 60 gl (before yH [1,1,1,0,1]) ⟨aL 0 [eO c sK sK, .int .i64 i, ls g l], [], 0⟩ =
  let c4 : Nat := (bA (eO c sK sK)).size; let c3 : Int := (↑c.m : Int); let c1 : AV := rat 0 1; let c2 : az := az.mk false true 12 1 fun x ↦ agg [c1, c1, c1, c1]; some (ag [(0 : Nat) < 1, (0 : Int) ≤ c3 ∧ c3 ≤ c3 ∧ c3 ≤ (2 : Int) ^ 47 ∧ c3 * (↑(56 : Nat) : Int) ≤ (2 : Int) ^ 47] (leaf normal ([int i64 i, ak 3 l fun i ↦ rat (g i) 4096, ptr 0 0 c4 0 [], ptr 4096 0 12 0 [], ptr 8192 0 12 0 [], own 24576 3 0 c3.toNat, int i64 (0 : Int)], [((24576 : Nat), az.mk true true 3 c3.toNat fun x ↦ c1), ((8192 : Nat), c2), ((4096 : Nat), c2), ((0 : Nat), az.mk false true c4 1 fun x ↦ agg [int i64 c.p, ak 3 c.n fun i ↦ rat (c.k i) 4096, ak 12 c.m fun i ↦ agg [rat (c.f i).n.x 4096, rat (c.f i).n.y 4096, rat (c.f i).n.z 4096, rat (c.f i).d 4096]])]))) := by kernel_rfl
theorem UE {c : Cu} {i : Int} {l a : Nat} {g x : Nat → Rat} {h : Pl} : aI T mE [17] 60 gl (before lT [1,1,0]) ⟨aB gl (iV c i l g a), gz c x h, 4⟩ =
  let c2 : AV := rat 0 1; let c1 : List AV × aD := ([int i64 i, ak 3 l fun i ↦ rat (g i) 4096, ptr 0 0 3 0 [], ptr 1 0 12 0 [], ptr 2 0 12 0 [], own 3 3 0 c.m, int i64 (↑a : Int)], [((3 : Nat), az.mk true true 3 c.m fun i ↦ rat (x i) 4096), ((2 : Nat), az.mk false true 12 1 fun x ↦ agg [rat h.n.x 536870912, rat h.n.y 536870912, rat h.n.z 536870912, rat h.d 536870912]), ((1 : Nat), az.mk false true 12 1 fun x ↦ agg [c2, c2, c2, c2]), ((0 : Nat), az.mk false true 3 1 fun x ↦ agg [int i64 c.p, ak 3 c.n fun i ↦ rat (c.k i) 4096, ak 12 c.m fun i ↦ agg [rat (c.f i).n.x 4096, rat (c.f i).n.y 4096, rat (c.f i).n.z 4096, rat (c.f i).d 4096]])]); some (fork (decide ((↑a : Int) < (4 : Int))) (leaf normal c1) (leaf (exit 0) c1)) := by kernel_rfl
theorem Wf {c : Cu} {i : Int} {l a : Nat} {g x : Nat → Rat} {h : Pl} : aI T mE [] 60 tq (before lN [1,0,1]) ⟨aB gl (iV c i l g a), gz c x h, 4⟩ =
  let c2 : AV := rat 0 1; let c1 : AV := ak 12 c.m fun i ↦ agg [rat (c.f i).n.x 4096, rat (c.f i).n.y 4096, rat (c.f i).n.z 4096, rat (c.f i).d 4096]; some (ag [(0 : Nat) < 1] (leaf normal ([int i64 i, ak 3 l fun i ↦ rat (g i) 4096, ptr 0 0 3 0 [], ptr 1 0 12 0 [], ptr 2 0 12 0 [], own 3 3 0 c.m, int i64 (↑a : Int), int i64 (↑a : Int), c1, int i64 (↑c.m : Int), int i64 (0 : Int)], [((3 : Nat), az.mk true true 3 c.m fun i ↦ rat (x i) 4096), ((2 : Nat), az.mk false true 12 1 fun x ↦ agg [rat h.n.x 536870912, rat h.n.y 536870912, rat h.n.z 536870912, rat h.d 536870912]), ((1 : Nat), az.mk false true 12 1 fun x ↦ agg [c2, c2, c2, c2]), ((0 : Nat), az.mk false true 3 1 fun x ↦ agg [int i64 c.p, ak 3 c.n fun i ↦ rat (c.k i) 4096, c1])]))) := by kernel_rfl
theorem PR {c : Cu} {i : Int} {l a : Nat} {g x : Nat → Rat} {h : Pl} : aI T mE [] 60 gl [part lT [1,1,1]] ⟨aB gl (iV c i l g a), gz c x h, 4⟩ =
  let c2 : Int := (↑a : Int) + (1 : Int); let c1 : AV := rat 0 1; some (ag [-(2 : Int) ^ 63 ≤ c2 ∧ c2 < (2 : Int) ^ 63] (leaf normal ([int i64 i, ak 3 l fun i ↦ rat (g i) 4096, ptr 0 0 3 0 [], ptr 1 0 12 0 [], ptr 2 0 12 0 [], own 3 3 0 c.m, int i64 c2], [((3 : Nat), az.mk true true 3 c.m fun i ↦ rat (x i) 4096), ((2 : Nat), az.mk false true 12 1 fun x ↦ agg [rat h.n.x 536870912, rat h.n.y 536870912, rat h.n.z 536870912, rat h.d 536870912]), ((1 : Nat), az.mk false true 12 1 fun x ↦ agg [c1, c1, c1, c1]), ((0 : Nat), az.mk false true 3 1 fun x ↦ agg [int i64 c.p, ak 3 c.n fun i ↦ rat (c.k i) 4096, ak 12 c.m fun i ↦ agg [rat (c.f i).n.x 4096, rat (c.f i).n.y 4096, rat (c.f i).n.z 4096, rat (c.f i).d 4096]])]))) := by kernel_rfl
theorem Nq {c : Cu} {i : Int} {l a : Nat} {g x : Nat → Rat} {h : Pl} : b9 T mE [] 60 lO [part yH [1,1,1,1]] ⟨aB gl (iV c i l g a), gz c x h, 4⟩ =
  let c1 : Prop := 0 < 1; some (ag [c1, c1] (ag [c1] (leaf ret [agg [rat h.n.x 536870912, rat h.n.y 536870912, rat h.n.z 536870912, rat h.d 536870912]]))) := by kernel_rfl
theorem NS {k : Nat → Rat} {n i : Nat} (h : i + 1 < n) (h2 : k (i + 1) ≤ k i) : fW k n i = fW k n (i + 1) := by
 unfold fW; rw [show n - i = (n - (i + 1)) + 1 by omega, qo, if_pos ⟨h, h2⟩]
theorem Gw {k : Nat → Rat} {n i : Nat} (h : ¬ (i + 1 < n ∧ k (i + 1) ≤ k i)) : fW k n i = i := by
 unfold fW
 cases n - i with
 | zero => rfl
 | succ f => rw [qo, if_neg h]
theorem ab4 {n i : Nat} {k : Nat → Rat} (hi : i ≤ n) (hn : n < 2 ^ 40) (K : Nat) : aA P ue K [ls k n, .int .i64 i] [] (aG (.int .i64 (fW k n i)) []) := by
 refine gp (r := aG (.int .i64 (fW k n i)) []) hT (cO g8) hm abG rfl (of_decide_eq_true (by kernel_rfl)) rfl [1,0] (i := 0) (y := part v7 [1,0,0,0]) (z := part v7 [1,1]) (by kernel_rfl) (by kernel_rfl) (by kernel_rfl) (f1 := []) (f2 := [10, 22]) (f3 := []) 60 uj 0
  (fun j : Nat => C0 n j k) (fun _ => []) (fun j => j ≤ n ∧ fW k n j = fW k n i) (fun j => j = fW k n i) (fun j => n - j) (fun _ => ⟨⟨_, PC, ?_⟩, fun j hj => ⟨_, Pv, ?_⟩, fun j hj => ⟨_, M8, ?_⟩⟩) K []
 ·simp only [aa.all, ay]
  exact ⟨i, ⟨hi, rfl⟩, [], rfl, rfl, rfl, trivial⟩
 ·have e1 : ((j : Int) + 1).toNat = j + 1 := by omega
  simp only [aa.all, ay, decide_eq_true_eq, decide_eq_false_iff_not, Int.toNat_natCast, cond_true, e1, BE]
  refine ⟨fun h1 => ⟨⟨by omega, by omega, by omega, by omega, by omega, by decide, by decide⟩, fun h2 => ⟨by omega, j + 1, ⟨by omega, (NS (by omega) h2).symm.trans hj.2⟩, by dsimp only; omega, [], rfl, rfl, rfl, trivial⟩, fun h2 => ⟨rfl, j, ?_, [], rfl, rfl, rfl, trivial⟩⟩, fun h1 => ⟨⟨by omega, by omega⟩, fun h => absurd h (by decide), fun _ => ⟨rfl, j, ?_, [], rfl, rfl, rfl, trivial⟩⟩⟩
  ·exact (Gw fun h => h2 h.2).symm.trans hj.2
  ·exact (Gw fun h => by omega).symm.trans hj.2
 ·subst hj
  simp only [aa.all, ay]
  exact .refl _
def IW : Spec := cP (kC (kL sK) (kC kI kN)) (fun a => .int .i64 (fW a.1.2 a.1.1 a.2.1.toNat)) fun a => [0 ≤ a.2.1, a.2.1 ≤ a.1.1, a.1.1 < 2 ^ 40]
theorem RH : ∀ K args pre r, IW K args pre = some r → aA P ue K args pre r := cK fun ⟨⟨n, k⟩, i, _⟩ K hn => by
 obtain ⟨h1, h2, h3⟩ := hn
 have := ab4 (n := n) (i := i.toNat) (k := k) (by dsimp only at *; omega) h3 K
 rw [Int.toNat_of_nonneg h1] at this
 exact this
theorem rH : aY P mE := cO (aF MA g8)
def sk (c : Cu) : Nat → Nat → Rat
 | 0 => fun _ => 0
 | a + 1 => fun q => mN (c.f q) a
theorem acf {rl : List (Nat × Nat)} {c : Cu} {a : Nat} {x : Nat → Rat} {q : Nat} (hq : q < c.m) : fq rl (.rat (x q) sK) (.rat (lV c a x 0 q) sK) := aM rfl (by unfold lV; rw [if_neg (by omega)])
theorem QW {rl : List (Nat × Nat)} {c : Cu} {a j : Nat} {x : Nat → Rat} {q : Nat} {v : Rat} (hq : q < c.m) (hv : v = mN (c.f j) a) : fq rl (.rat (bif q == j then v else lV c a x j q) (bif q == j then sK else sK)) (.rat (lV c a x (j + 1) q) sK) := by
 refine aM rfl ?_
 rw [Bool.cond_self]
 congr 1
 by_cases h : q = j
 ·subst h
  rw [beq_self_eq_true, cond_true, hv]; unfold lV; rw [if_pos (by omega)]
 ·rw [beq_eq_false_iff_ne.2 h, cond_false]; unfold lV
  by_cases h2 : q < j
  ·rw [if_pos (.inl h2), if_pos (.inl (by omega))]
  ·rw [if_neg (by omega), if_neg (by omega)]
theorem Z3 {x : Nat → Rat} {m : Nat} : qH (fun i => .rat (x i) sK) m sK := Vr (Nat.le_refl _)
theorem four {a : Nat} (ha : a < 4) : a = 0 ∨ a = 1 ∨ a = 2 ∨ a = 3 := by omega
theorem Qg {c : Cu} {i : Int} {l a j : Nat} {g x : Nat → Rat} {h : Pl} (ha : a < 4) : aI T mE [23] 60 tq [part lN [1,0,1,0,0]] ⟨aB tq (AF c i l g a j), gz c x h, 4⟩ =
  some (fork (decide ((j : Int) < c.m)) (ag [(0 : Int) ≤ j ∧ (j : Int).toNat < c.m, 0 < 1] (ag [(0 : Int) ≤ a ∧ (a : Int) < (4 : Nat), 0 < 1, (0 : Int) ≤ j ∧ (j : Int).toNat < c.m, (j : Int).toNat + 0 < c.m] (ag [-(2 : Int) ^ 63 ≤ (j : Int) + 1 ∧ (j : Int) + 1 < (2 : Int) ^ 63]
   (leaf normal ([.int .i64 i, ls g l, .ptr 0 0 3 0 [], .ptr 1 0 12 0 [], .ptr 2 0 12 0 [], .own 3 3 0 c.m, .int .i64 a, .int .i64 a, oN c.f c.m sK, .int .i64 c.m, .int .i64 ((j : Int) + 1)], (3, ⟨true, true, 3, c.m, fun q => .rat (bif q == (j : Int).toNat + 0 then mN (c.f (j : Int).toNat) a else x q) (bif q == (j : Int).toNat + 0 then sK else sK)⟩) :: [(2, gj h sB), (1, gj ⟨⟨0, 0, 0⟩, 0⟩ 1), (0, nD c sK)]))))) (leaf (exit 2) (AF c i l g a j, gz c x h))) := by
 rcases four ha with rfl | rfl | rfl | rfl <;> kernel_rfl
theorem Si {c : Cu} {i : Int} {l a j : Nat} {g x : Nat → Rat} {h : Pl} (ha : a < 4) : aI T mE [] 60 gl [part lN [1,1]] ⟨aB tq (AF c i l g a j), gz c x h, 4⟩ =
  some (ag [0 < 1, 0 < 1, c.m = c.m, ck (fun i => .rat (c.k i) sK) c.n sK, ck (fun i => .rat (g i) sK) l sK, qH (fun i => .rat (x i) sK) c.m sK, (1 : Int) ≤ c.p, c.p ≤ (6 : Int), c.n < 2 ^ 40, c.m < 2 ^ 40, -(2 : Int) ^ 40 < i, i < (2 : Int) ^ 40, (0 : Int) ≤ a ∧ (a : Int) < (4 : Nat), 0 < 1]
   (leaf normal (iV c i l g a, [(3, iX c.m x), (2, ⟨false, true, 12, 1, fun j => if (j == 0) = true then .agg ((cD h sB).kids.set a (.rat (lR c.n c.k c.p.toNat c.m x i l g) sB)) else cD h sB⟩), (1, gj ⟨⟨0, 0, 0⟩, 0⟩ 1), (0, nD c sK)]))) := by
 rcases four ha with rfl | rfl | rfl | rfl <;> kernel_rfl
theorem Ui {rl : List (Nat × Nat)} {G : Nat → Rat} {a : Nat} (ha : a < 4) : fq rl (.agg ((cD (lH G a) sB).kids.set a (.rat (G a) sB))) (cD (lH G (a + 1)) sB) := by
 rcases four ha with rfl | rfl | rfl | rfl <;> exact aM rfl rfl
theorem NY {c : Cu} {i : Int} {l a : Nat} {g x : Nat → Rat} {cx : Ctx} {Q : ah → aE → Prop} (ha : a < 4) (hk : Kept [] cx) (hp1 : 1 ≤ c.p) (hp6 : c.p ≤ 6) (hn : c.n < 2 ^ 40) (hm2 : c.m < 2 ^ 40) (hi : -2 ^ 40 < i) (hi2 : i < 2 ^ 40)
  (hQ : ∀ s', (∃ ρ, Le cx ρ s' ⟨aB gl (iV c i l g a), gz c (sk c (a + 1)) (lH (gR c i l g) (a + 1)), 4⟩) → aq P cx lO.ntmps (part lT [1,1,1]) s' Q) :
  aq P cx lO.ntmps lN ⟨aB gl (iV c i l g a), gz c x (lH (gR c i l g) a), 4⟩ (inBlock 1 (cX (fun s' => aq P cx lO.ntmps (part lT [1,1,1]) s' Q) Q)) := by
 refine aq.zJ hT rH hm (x := lN) [1,0,1] (i := 2) (y := part lN [1,0,1,0,0]) (by kernel_rfl) (by kernel_rfl) (by kernel_rfl) hk (f1 := []) (f2 := [23]) 60 tq 4 (fun j : Nat => AF c i l g a j) (fun j => gz c (lV c a x j) (lH (gR c i l g) a)) (fun j => j ≤ c.m) (fun j => j = c.m) (fun j => c.m - j) (fun _ => False) ⟨_, Wf, ?_⟩ (fun j hj => ⟨_, Qg ha, ?_⟩) (fun j s' hj hle => ?_) (fun _ _ h => h.elim)
 ·simp only [aa.all, ay]
  exact ⟨by omega, 0, Nat.zero_le _, [(0, 0), (1, 1), (2, 2), (3, 3)], rfl, rfl, rfl, bD rfl rfl rfl (fun q hq => acf hq) (aR rfl rfl (aM rfl rfl) (aR rfl rfl (aM rfl rfl) (aR rfl rfl (aM rfl rfl) trivial)))⟩
 ·simp only [aa.all, ay, decide_eq_true_eq, decide_eq_false_iff_not, Int.toNat_natCast, Nat.add_zero]
  exact ⟨fun h1 => ⟨⟨by omega, by omega⟩, ⟨by omega, by omega, by omega, by omega⟩, by omega, j + 1, by omega, by dsimp only; omega, [(0, 0), (1, 1), (2, 2), (3, 3)], rfl, rfl, rfl, bD rfl rfl rfl (fun q hq => QW hq rfl) (aR rfl rfl (aM rfl rfl) (aR rfl rfl (aM rfl rfl) (aR rfl rfl (aM rfl rfl) trivial)))⟩,
   fun h1 => ⟨rfl, j, by omega, [(0, 0), (1, 1), (2, 2), (3, 3)], rfl, rfl, rfl, bD rfl rfl rfl (fun q hq => aM rfl rfl) (aR rfl rfl (aM rfl rfl) (aR rfl rfl (aM rfl rfl) (aR rfl rfl (aM rfl rfl) trivial)))⟩⟩
 ·subst hj
  simp only [Vw] at hle
  rw [show behind lN [1,0,1] = [part lN [1,1]] from by kernel_rfl]
  refine aC.weak rfl hle (aC.aZ hT rH hm 60 gl (Si ha) (by kernel_rfl) ?_)
  simp only [aa.all, ay]
  refine ⟨⟨by omega, by omega, trivial, dj (Nat.le_refl _), dj (Nat.le_refl _), Z3, hp1, hp6, hn, hm2, hi, hi2, by omega, by omega⟩, fun s'' hs'' => hQ s'' (eA.le ⟨[(0, 0), (1, 1), (2, 2), (3, 3)], rfl, rfl, rfl, bD rfl rfl rfl (fun q hq => aM rfl rfl) (aR rfl rfl (Ui ha) (aR rfl rfl (aM rfl rfl) (aR rfl rfl (aM rfl rfl) trivial)))⟩ hs'' hk)⟩
theorem UO {c : Cu} {i : Int} {l : Nat} {g : Nat → Rat} (hp1 : 1 ≤ c.p) (hp6 : c.p ≤ 6) (hn : c.n < 2 ^ 40) (hm2 : c.m < 2 ^ 40) (hi : -2 ^ 40 < i) (hi2 : i < 2 ^ 40) (K : Nat) : aA P su K [eO c sK sK, .int .i64 i, ls g l] [] (aG (cD (xD c i l g) sB) []) := by
 refine fU (r := aG (cD (xD c i l g) sB) []) hT Gj rfl (of_decide_eq_true (by kernel_rfl)) rfl (fun _ cx h00 => ?_) K []
 have hk := qc h00
 refine aq.Aw hT rH hm [1,1,1,0,1] (i := 0) (y := lT) (z := part yH [1,1,1,1]) (by kernel_rfl) (by kernel_rfl) (by kernel_rfl) Gj.dst hk (f1 := []) 60 gl 4 (fun a : Nat => iV c i l g a) (fun a => gz c (sk c a) (lH (gR c i l g) a)) (fun a => a ≤ 4) (fun a => a = 4) (fun a => 4 - a) (fun _ => False) ⟨_, ZK, ?_⟩ (fun a ha => ?_) (fun a ha => ?_) (fun _ _ h => h.elim)
 ·simp only [aa.all, ay, Int.toNat_natCast]
  exact ⟨⟨by omega, by omega⟩, 0, by omega, [(0, 0), (1, 4096), (2, 8192), (3, 24576)], rfl, rfl, rfl, bD rfl rfl rfl (fun q hq => .inr ⟨rfl, bK rfl (by decide)⟩) (aR rfl rfl (.inr ⟨rfl, dx (show ec [.rat _ _, .rat _ _, .rat _ _, .rat _ _] [.rat _ _, .rat _ _, .rat _ _, .rat _ _] from ⟨bK rfl (by decide), bK rfl (by decide), bK rfl (by decide), bK rfl (by decide), trivial⟩)⟩) (aR rfl rfl (aM rfl rfl) (aR rfl rfl (aM rfl rfl) trivial)))⟩
 ·have re : ∀ {x : Nat → Rat} {h : Pl}, eA [] (iV c i l g a, gz c x h) (iV c i l g a) (gz c x h) 4 :=
   fun {x h} => ⟨[(0, 0), (1, 1), (2, 2), (3, 3)], rfl, rfl, rfl, bD rfl rfl rfl (fun q hq => aM rfl rfl) (aR rfl rfl (aM rfl rfl) (aR rfl rfl (aM rfl rfl) (aR rfl rfl (aM rfl rfl) trivial)))⟩
  refine aq.vG hT rH hm (y := lT) (x1 := lN) (zb := part lT [1,1,1]) [1,1,0] (j := 1) (by kernel_rfl) (by kernel_rfl) (by kernel_rfl) (by kernel_rfl) hk (f1 := [17]) 60 gl 4 (fun _ : Unit => iV c i l g a) (fun _ => gz c (sk c a) (lH (gR c i l g) a)) (fun _ => a < 4) ⟨_, UE, ?_⟩ (fun _ ha' => ?_)
  ·simp only [aa.all, ay, decide_eq_true_eq, decide_eq_false_iff_not]
   exact ⟨fun h1 => ⟨(), by omega, re⟩, fun h1 s' hs' => ⟨rfl, a, by omega, re.le hs' hk⟩⟩
  have nx : ∀ s', (∃ ρ, Le cx ρ s' ⟨aB gl (iV c i l g a), gz c (sk c (a + 1)) (lH (gR c i l g) (a + 1)), 4⟩) → aq P cx lO.ntmps (part lT [1,1,1]) s' (Fg cx gl (fun a : Nat => iV c i l g a) (fun a => gz c (sk c a) (lH (gR c i l g) a)) 4 (fun a => a ≤ 4) (fun a => a = 4) (fun a => 4 - a) 0 (fun s' => ∃ v, False ∧ aV gl s' = some v) a) := fun s' hle => by
   refine aq.jG hle (aq.aZ hT rH hm 60 gl PR (by kernel_rfl) ?_)
   simp only [aa.all, ay]
   exact ⟨by omega, fun s'' hs'' => ⟨a + 1, by omega, by dsimp only; omega, eA.le ⟨[(0, 0), (1, 1), (2, 2), (3, 3)], rfl, rfl, rfl, bD rfl rfl rfl (fun q hq => aM rfl rfl) (aR rfl rfl (aM rfl rfl) (aR rfl rfl (aM rfl rfl) (aR rfl rfl (aM rfl rfl) trivial)))⟩ hs'' hk⟩⟩
  exact NY ha' hk hp1 hp6 hn hm2 hi hi2 nx
 ·subst ha
  refine aq.lJ ((aC.fin hT rH hm 60 Nq (by kernel_rfl) ?_).mono fun _ _ h => .inl h)
  simp only [aa.all, ay]
  exact ⟨⟨by omega, by omega⟩, by omega, .refl _⟩
def Fz : Spec := cP (kC (we sK sK) (kC kI (kC (kL sK) kN))) (fun a => cD (xD a.1 a.2.1 a.2.2.1.1 a.2.2.1.2) sB) fun a => [1 ≤ a.1.p, a.1.p ≤ 6, a.1.n < 2 ^ 40, a.1.m < 2 ^ 40, -2 ^ 40 < a.2.1, a.2.1 < 2 ^ 40]
theorem acL : ∀ K args pre r, Fz K args pre = some r → aA P su K args pre r := cK fun ⟨c, i, ⟨l, g⟩, _⟩ K hn => UO hn.1 hn.2.1 hn.2.2.1 hn.2.2.2.1 hn.2.2.2.2.1 hn.2.2.2.2.2 K
end Go.Am.B

/- ref02: SameList, Mid, Text; ref08.Greville. -/
namespace Go.Am.B
open Go Go.Am.N AV aa ah IntKind
theorem W3 : aN P sY jU (au jU) := aP YV (by kernel_rfl) (by kernel_rfl) (by kernel_rfl)
theorem YZ : aN P vX iW (au iW) := aP YH (by kernel_rfl) (by kernel_rfl) (by kernel_rfl)
end Go.Am.B

/- Affine changes of fE: fE.Affine, ref08.Affine; ref08.Mirror. -/
namespace Go.Am.B
open Go Go.Am.N AV aa ah IntKind
abbrev DY (m : Nat) (k : Nat → Rat) (s : Nat) : az := ⟨true, true, 3, m, fun i => .rat (k i) s⟩
end Go.Am.B

/- slices.Insert of one number vG a list of just its capacity; fE.Insert, ref08.Insert. -/
namespace Go.Am.B
open Go Go.Am.N AV aa ah IntKind
theorem acq {c : Nat} {u v : AV} (hv : v.isAgg = false) (h : bB u v) : bB (.bz c u) (.bz c v) := by
 refine ⟨rfl, fun M w cs hc => ?_⟩
 cases hc with
 | bz _ h1 h2 => cases h2; exact .bz hv (h.2 _ _ _ h1) .nil
def Rx (s : Nat) : Kind (Nat × (Nat → Rat)) := ⟨fun v => match v with
 | .bz c v => match (kL s).read v with
  | some (a, q) => some (a, (c = a.1) :: q)
  | none => none
 | _ => none, fun a => .bz a.1 (bH a.2 a.1 s), fun {v a q} h hq => by
  split at h
  ·split at h
   ·rename_i h1
    simp only [Option.some.injEq, Prod.mk.injEq] at h
    obtain ⟨rfl, rfl⟩ := h
    obtain ⟨q1, q2⟩ := Ae.1 hq
    subst q1
    exact acq rfl ((kL s).ok h1 q2)
   ·simp at h
  ·simp at h⟩
abbrev z6 : FuncId := HF
noncomputable abbrev zm : Func := JV
def fO (k : Nat → Rat) (t : Rat) : Nat → Nat
 | 0 => 0
 | n + 1 => if fO k t n = n ∧ k n ≤ t then n + 1 else fO k t n
def iH (k : Nat → Rat) (t : Rat) (p j : Nat) : Rat := if j < p then k j else if j = p then t else k (j - 1)
abbrev rW : List Nat := [3, 9, 10, 11]
abbrev Ef (n : Nat) (k : Nat → Rat) (s i : Nat) : List AV := [.bz n (.own 0 3 0 i), bH k n s, .int .i64 n, .int .i64 i]
abbrev zg : aQ := cG :: fT
abbrev wM : List Nat := [0, 3, 5]
abbrev D1 (n : Nat) (k : Nat → Rat) (s i : Nat) : List AV := [bH k n s, .ptr 0 0 3 0 [], .int .i64 i]
noncomputable abbrev wR : Code := au xH
def Hg (w : Nat) : Spec := cP (kC (Rx w) (kC kI (kC (kL w) kN))) (fun a => bH (iH a.1.2 (a.2.2.1.2 0) a.2.1.toNat) (a.1.1 + 1) w) fun a => [0 ≤ a.2.1, a.2.1 ≤ a.1.1, a.2.2.1.1 = 1, a.1.1 < 2 ^ 40]
def EM (s w : Nat) : Spec := cP (kC (kL s) kN) (fun a => .bz a.1.1 (bH a.1.2 a.1.1 w)) fun a => [a.1.1 < 2 ^ 40]
def yM (s w : Nat) : aQ := cG :: (ni, EM s w) :: (z6, Hg w) :: fT
theorem YG : aN P z6 zm (au zm) := aP S3 (by kernel_rfl) (by kernel_rfl) (by kernel_rfl)
theorem Zj : aN P x6 xH (au xH) := aP Rm (by kernel_rfl) (by kernel_rfl) (by kernel_rfl)
theorem W2 {n i s : Nat} {k : Nat → Rat} {t : Rat} : bu T [cG] [22, 100031] 60 zm (au zm) ⟨aL 0 [.bz n (bH k n s), .int .i64 i, bH (fun _ => t) 1 s], [], 0⟩ =
  let c11 : Nat := Int.toNat (0 : Int); let c9 : Int := (↑n : Int); let c7 : Int := (2 : Int) ^ 63; let c4 : Int := (↑i : Int); let c14 : Nat := c4.toNat - c11; let c13 : Prop := (0 : Int) ≤ c4; let c12 : Nat := 0 + c4.toNat; let c3 : Int := c9 + (↑(1 : Nat) : Int); let c2 : Int := c4 + (↑(1 : Nat) : Int); let c10 : Nat := 0 + c2.toNat; let c1 : Nat := c14 + (c3 - c4).toNat; let c8 : Int := (↑c1 : Int); let c6 : Nat := c12 + Min.min 1 (c8.toNat - c4.toNat); let c5 : Nat := c10 + Min.min (c9.toNat - c4.toNat) (c8.toNat - c2.toNat); some (ag [c13 ∧ c4 ≤ c9 ∧ c9 ≤ c9] (fork (c4 == c9) (ag [n < n + 1 ∧ (n + 1) * ((56 : Nat) + 1) * 2 ≤ 2 ^ 47] (leaf ret [ak 3 (n + 1) fun i ↦ if i + 0 < n then rat (k (i + 0)) s else rat t s])) (ag [-c7 ≤ c3 ∧ c3 < c7] (ag [decide (c3 > c9) = true] (ag [(0 : Int) ≤ (0 : Int) ∧ c13 ∧ c4 ≤ c9, -c7 ≤ c3 ∧ c3 < c7, -c7 ≤ c3 - c4 ∧ c3 - c4 < c7, (0 : Int) < c3 - c4 ∧ n - c11 < c1 ∧ c1 * ((56 : Nat) + 1) * 2 ≤ 2 ^ 47] (ag [c13 ∧ c4 ≤ c8 ∧ c8 ≤ c8 ∧ c8 ≤ c8] (ag [-c7 ≤ c2 ∧ c2 < c7, (0 : Int) ≤ c2 ∧ c2 ≤ c8 ∧ c8 ≤ c8 ∧ c8 ≤ c8, c13 ∧ c4 ≤ c9 ∧ c9 ≤ c9] (leaf ret [ak 3 c1 fun i ↦ if c10 ≤ i + 0 ∧ i + 0 < c5 then rat (k (i + 0 - c10 + c4.toNat)) s else if c12 ≤ i + 0 ∧ i + 0 < c6 then rat t s else if i + 0 < c14 then rat (k (i + 0 + c11)) s else rat 0 1])))))))) := by kernel_rfl
theorem Tn {n s : Nat} {k : Nat → Rat} : aI T zg [] 60 rW (before j3 [1,1,0,1]) ⟨aL 0 [bH k n s], [], 0⟩ =
  let c1 : Int := (↑n : Int); some (ag [(0 : Int) ≤ (0 : Int) ∧ (0 : Int) ≤ c1 ∧ c1 ≤ (2 : Int) ^ 47 ∧ c1 * (↑(56 : Nat) : Int) ≤ (2 : Int) ^ 47] (leaf normal ([bz c1.toNat (own 12288 3 0 0), ak 3 n fun i ↦ rat (k i) s, int i64 c1, int i64 (0 : Int)], [((12288 : Nat), az.mk true true 3 0 fun x ↦ rat 0 1)]))) := by kernel_rfl
theorem acB {n i s w : Nat} {k x : Nat → Rat} : aI T zg [12] 60 rW [part j3 [1,1,0,1,0,0]] ⟨aB rW (Ef n k s i), [(0, DY i x w)], 1⟩ =
  let c5 : Int := (↑n : Int); let c3 : Nat := i + 1; let c2 : AV := ak 3 n fun i ↦ rat (k i) s; let c1 : Int := (↑i : Int); let c4 : Int := c1 + (1 : Int); some (fork (decide (c1 < c5)) (ag [(0 : Int) ≤ c1 ∧ c1.toNat < n, (0 : Nat) < 1] (ag [(0 : Nat) < 1, s < 2 ^ 42, (1 : Nat) < 2 ^ 42, (1 : Nat) * 3 ≤ 2 ^ 24, c3 ≤ n, c3 * ((56 : Nat) + 1) * 2 ≤ 2 ^ 47] (ag [-(2 : Int) ^ 63 ≤ c4 ∧ c4 < (2 : Int) ^ 63] (leaf normal ([bz n (own 40961 3 0 c3), c2, int i64 c5, int i64 c4], [((40961 : Nat), az.mk true true 3 c3 fun i_1 ↦ if i_1 < i then rat (x i_1) w else nth [rat (k c1.toNat + 0) (s + 1 + 1)] (rat 0 1) (i_1 - i + 0))]))))) (leaf (exit 0) ([bz n (own 0 3 0 i), c2, int i64 c5, int i64 c1], [((0 : Nat), az.mk true true 3 i fun i ↦ rat (x i) w)]))) := by kernel_rfl
theorem acE {n i s w : Nat} {k x : Nat → Rat} : b9 T zg [] 60 wh [part j3 [1,1,1]] ⟨aB rW (Ef n k s i), [(0, DY i x w)], 1⟩ =
  some (leaf ret [bz n (ak 3 i fun i ↦ rat (x (i + 0)) w)]) := by kernel_rfl
theorem aa3 {n s r w : Nat} {k : Nat → Rat} {t : Rat} : aI T (yM s w) [] 60 wM (before wR [1,1,0]) ⟨aL 0 [bH k n s, .rat t r], [], 0⟩ =
  some (leaf normal ([ak 3 n fun i ↦ rat (k i) s, ptr 0 0 (bA (rat t r)).size 0 [], int i64 (0 : Int)], [((0 : Nat), az.mk false true (bA (rat t r)).size 1 fun x ↦ rat t r)])) := by kernel_rfl
theorem TU {n i s r w : Nat} {k : Nat → Rat} {t : Rat} : aI T (yM s w) [10, 18] 60 wM [part wR [1,1,0,0,0]] ⟨aB wM (D1 n k s i), [(0, tP t r)], 1⟩ =
  let c7 : AV := ak 3 n fun i ↦ rat (k i) s; let c5 : AV := ptr 0 0 3 0 []; let c4 : Nat × az := ((0 : Nat), az.mk false true 3 1 fun x ↦ rat t r); let c3 : Int := (↑i : Int); let c8 : Int := c3 + (1 : Int); let c6 : Bool := decide (c3 < (↑n : Int)); let c2 : aa (List AV × aD) := leaf (exit 0) ([c7, c5, int i64 c3], [c4]); let c1 : aa (List AV × aD) := ag [-(2 : Int) ^ 63 ≤ c8 ∧ c8 < (2 : Int) ^ 63] (leaf normal ([c7, c5, int i64 c8], [c4])); some (fork c6 (ag [c6 = true, (0 : Int) ≤ c3 ∧ c3.toNat < n, (0 : Nat) < 1, s < 2 ^ 42, r < 2 ^ 42] (fork (bif true then decide (dK (k c3.toNat) t ≤ (0 : Int)) else false) c1 c2)) (ag [c6 = false] (fork false c1 c2))) := by kernel_rfl
theorem Wy {n i s r w : Nat} {k : Nat → Rat} {t : Rat} : b9 T (yM s w) [] 60 xH [part wR [1,1,1]] ⟨aB wM (D1 n k s i), [(0, tP t r)], 1⟩ =
  let c3 : AV := rat 0 1; let c2 : Prop := n < 2 ^ 40; let c1 : AV := rat (t + 0) (r + 1 + 1); some (ag [ck (fun i ↦ rat (k i) s) n s, c2, (0 : Nat) < 1, r < 2 ^ 42, (1 : Nat) < 2 ^ 42, (1 : Nat) * 3 ≤ 2 ^ 24, n = n, ck (fun i ↦ rat (aT (rat (k i) s)) w) n w, ck (fun i ↦ nth [c1] c3 (i + 0)) 1 w, (0 : Int) ≤ (↑i : Int), (↑i : Int) ≤ (↑n : Int), (1 : Nat) = 1, c2] (leaf ret [ak 3 (n + 1) fun i_1 ↦ rat (iH (fun i ↦ aT (rat (aT (rat (k i) s)) w)) (aT (nth [c1] c3 ((0 : Nat) + 0))) (↑i : Int).toNat i_1) w])) := by kernel_rfl
theorem Eh {Γ : aQ} (h : aY P Γ) : aY P (cG :: Γ) := aF (fun _ _ _ _ h => nomatch h) h
theorem UA {a b : Rat} : dK a b ≤ (0 : Int) ↔ a ≤ b := by
 have := @qD a b
 constructor
 ·intro h
  exact Rat.not_lt.1 fun h' => by have := qD.2 h'; omega
 ·intro h
  have : ¬ dK a b > 0 := fun h' => Rat.not_lt.2 h (qD.1 h')
  omega
theorem aay {k : Nat → Rat} {t : Rat} {n : Nat} (h : fO k t n = n) (h2 : k n ≤ t) : fO k t (n + 1) = n + 1 := by unfold fO; rw [if_pos ⟨h, h2⟩]
theorem FA {k : Nat → Rat} {t : Rat} {i : Nat} (h : fO k t i = i) (h2 : t < k i) : ∀ {n : Nat}, i ≤ n → fO k t n = i
 | 0, hn => by
    have : i = 0 := by omega
    subst this; rfl
 | n + 1, hn => by
  by_cases he : i = n + 1
  ·subst he; exact h
  ·have ih := FA h h2 (n := n) (by omega)
   unfold fO
   rw [if_neg, ih]
   rintro ⟨g1, g2⟩
   have : i = n := by omega
   subst this
   exact absurd h2 (Rat.not_lt.2 g2)
theorem Z8 {n i s : Nat} {k : Nat → Rat} {t : Rat} (hi : i ≤ n) (hn : n < 2 ^ 40) (K : Nat) : aA P z6 K [.bz n (bH k n s), .int .i64 i, bH (fun _ => t) 1 s] [] (aG (bH (iH k t i) (n + 1) s) []) := by
 refine bC (r := aG (bH (iH k t i) (n + 1) s) []) hT (Eh bk) hm YG rfl (of_decide_eq_true (by kernel_rfl)) rfl 60 W2 (fun _ => ?_) K []
 simp only [aa.all, ay, decide_eq_true_eq, decide_eq_false_iff_not]
 have w1 : ((1 : Nat) : Int) = 1 := rfl
 simp only [w1, Int.toNat_natCast, Int.toNat_zero, Nat.sub_zero, Nat.zero_add, Nat.add_zero, beq_iff_eq, beq_eq_false_iff_ne, ne_eq, Int.ofNat_inj]
 refine ⟨by omega, fun h => ⟨by omega, lC fun j hj => cI ?_⟩, fun h => ?_⟩
 ·subst h
  unfold iH
  by_cases h1 : j < i
  ·rw [if_pos h1, if_pos h1]
  ·rw [if_neg h1, if_neg h1, if_pos (by omega)]
 ·have eN : i + ((n : Int) + 1 - i).toNat = n + 1 := by omega
  have e2 : ((i : Int) + 1).toNat = i + 1 := by omega
  simp only [eN, e2]
  refine ⟨by omega, by omega, by omega, by omega, by omega, lC fun j hj => cI ?_⟩
  unfold iH
  by_cases h1 : j < i
  ·rw [if_neg (by omega), if_neg (by omega), if_pos h1, if_pos h1]
  ·by_cases h2 : j = i
   ·rw [if_neg (by omega), if_pos (by omega), if_neg h1, if_pos h2]
   ·rw [if_pos (by omega), if_neg h1, if_neg h2, show j - (i + 1) + i = j - 1 by omega]
theorem acW : aY P zg := Eh g8
theorem XN {n s w : Nat} {k : Nat → Rat} (h : s + 2 ≤ w) (hw : w < 2 ^ 40) (hn : n < 2 ^ 40) (K : Nat) : aA P ni K [bH k n s] [] (aG (.bz n (bH k n w)) []) := by
 refine gp (r := aG (.bz n (bH k n w)) []) hT acW hm Cy rfl (of_decide_eq_true (by kernel_rfl)) rfl [1,1,0,1] (i := 0) (y := part j3 [1,1,0,1,0,0]) (z := part j3 [1,1,1]) (by kernel_rfl) (by kernel_rfl) (by kernel_rfl) (f1 := []) (f2 := [12]) (f3 := []) 60 rW 1
  (fun i : Nat => Ef n k s i) (fun i => [(0, DY i k w)]) (fun i => i ≤ n) (fun i => i = n) (fun i => n - i) (fun _ => ⟨⟨_, Tn, ?_⟩, fun i hi => ⟨_, acB, ?_⟩, fun i hi => ⟨_, acE, ?_⟩⟩) K []
 ·simp only [aa.all, ay]
  exact ⟨by omega, 0, Nat.zero_le _, [(0, 12288)], rfl, by rw [Int.toNat_natCast]; rfl, rfl, bD rfl rfl rfl (fun j hj => absurd hj (Nat.not_lt_zero j)) trivial⟩
 ·simp only [aa.all, ay, decide_eq_true_eq, decide_eq_false_iff_not, Int.toNat_natCast, Nat.add_zero]
  exact ⟨fun h1 => ⟨by omega, by omega, by omega, i + 1, by omega, by dsimp only; omega, [(0, 40961)], rfl, rfl, rfl, bD rfl rfl rfl (fun j hj => yE (fun _ _ => rfl) (Rat.add_zero _) (Nat.le_refl _) (by omega) hj) trivial⟩,
   fun h1 => ⟨rfl, i, by omega, [(0, 0)], rfl, rfl, rfl, bD rfl rfl rfl (fun _ _ => aM rfl rfl) trivial⟩⟩
 ·subst hi
  simp only [aa.all, ay]
  exact .refl _
theorem Ys {s w : Nat} (h : s + 2 ≤ w) (hw : w < 2 ^ 40) : ∀ K args pre r, EM s w K args pre = some r → aA P ni K args pre r := cK fun ⟨⟨n, k⟩, _⟩ K hn => XN h hw hn K
theorem Mj {w : Nat} : ∀ K args pre r, Hg w K args pre = some r → aA P z6 K args pre r := cK fun ⟨⟨n, k⟩, i, ⟨m, g⟩, _⟩ K hn => by
 obtain ⟨h1, h2, h3, h4⟩ := hn
 simp only at h1 h2 h3 h4
 subst h3
 have := eR (Z8 (k := k) (t := g 0) (s := w) (i := i.toNat) (n := n) (by omega) h4 K) (args := [.bz n (bH k n w), .int .i64 i, bH g 1 w]) rfl ⟨.refl _, bq (by omega), lC fun j hj => cI (by rw [Nat.lt_one_iff.1 hj]), trivial⟩ []
 exact this
theorem Nd {s w : Nat} (h : s + 2 ≤ w) (hw : w < 2 ^ 40) : aY P (yM s w) := Eh (aF (Ys h hw) (aF Mj g8))
theorem UP {n s r w : Nat} {k : Nat → Rat} {t : Rat} (h : s + 2 ≤ w) (h2 : r + 2 ≤ w) (hw : w < 2 ^ 40) (hn : n < 2 ^ 40) (K : Nat) : aA P x6 K [bH k n s, .rat t r] [] (aG (bH (iH k t (fO k t n)) (n + 1) w) []) := by
 refine gp (r := aG (bH (iH k t (fO k t n)) (n + 1) w) []) hT (Nd h hw) hm Zj rfl (of_decide_eq_true (by kernel_rfl)) rfl [1,1,0] (i := 0) (y := part wR [1,1,0,0,0]) (z := part wR [1,1,1]) (by kernel_rfl) (by kernel_rfl) (by kernel_rfl) (f1 := []) (f2 := [10, 18]) (f3 := []) 60 wM 1
  (fun i : Nat => D1 n k s i) (fun _ => [(0, tP t r)]) (fun i => i ≤ n ∧ fO k t i = i) (fun i => i ≤ n ∧ i = fO k t n) (fun i => n - i) (fun _ => ⟨⟨_, aa3, ?_⟩, fun i hi => ⟨_, TU, ?_⟩, fun i hi => ⟨_, Wy, ?_⟩⟩) K []
 ·simp only [aa.all, ay]
  exact ⟨0, ⟨Nat.zero_le _, rfl⟩, [(0, 0)], rfl, rfl, rfl, aR rfl rfl (aM rfl rfl) trivial⟩
 ·simp only [aa.all, ay, decide_eq_true_eq, decide_eq_false_iff_not, Int.toNat_natCast]
  simp only [cond_true, decide_eq_true_eq, decide_eq_false_iff_not, UA]
  exact ⟨fun h1 => ⟨⟨h1, by omega, by omega, by omega, by omega⟩, fun h2 => ⟨by omega, i + 1, ⟨by omega, aay hi.2 h2⟩, by dsimp only; omega, [(0, 0)], rfl, rfl, rfl, aR rfl rfl (aM rfl rfl) trivial⟩,
    fun h2 => ⟨rfl, i, ⟨by omega, (FA hi.2 (Rat.not_le.1 h2) (by omega)).symm⟩, [(0, 0)], rfl, rfl, rfl, aR rfl rfl (aM rfl rfl) trivial⟩⟩,
   fun h1 => ⟨h1, fun h => absurd h (by decide), fun _ => ⟨rfl, i, ⟨hi.1, by rw [show n = i by omega]; exact hi.2.symm⟩, [(0, 0)], rfl, rfl, rfl, aR rfl rfl (aM rfl rfl) trivial⟩⟩⟩
 ·obtain ⟨hi, rfl⟩ := hi
  simp only [aa.all, ay]
  refine ⟨⟨dj (Nat.le_refl _), by omega, by omega, by omega, by omega, by omega, trivial, dj (Nat.le_refl _), fun j hj => ?_, by omega, by omega, trivial, by omega⟩, lC fun j hj => cI ?_⟩
  ·rw [Nat.lt_one_iff.1 hj]; exact dm (by omega)
  ·show AV.rat (iH k (t + 0) ((fO k t n : Nat) : Int).toNat j) w = _
   rw [Rat.add_zero, Int.toNat_natCast]
def Kg (s w : Nat) : Spec := cP (kC (kL s) (kC (gv s) kN)) (fun a => bH (iH a.1.2 a.2.1 (fO a.1.2 a.2.1 a.1.1)) (a.1.1 + 1) w) fun a => [a.1.1 < 2 ^ 40]
theorem Yb {s w : Nat} (h : s + 2 ≤ w) (hw : w < 2 ^ 40) : ∀ K args pre r, Kg s w K args pre = some r → aA P x6 K args pre r := cK fun ⟨⟨n, k⟩, t, _⟩ K hn => UP h h hw hn K
end Go.Am.B

/- shapes.ints, ref14.ints. -/
namespace Go.Am.B
open Go Go.Am.N AV aa ah IntKind
end Go.Am.B

/- spline.Copied, shapes.clamped, shapes.Revolve. -/
namespace Go.Am.B
open Go Go.Am.N AV aa ah IntKind
theorem Us : aN P vI sn (au sn) := aP ad6 (by kernel_rfl) (by kernel_rfl) (by kernel_rfl)
abbrev Bw (y m : Nat) (k : Nat → Rat) : az := ⟨true, true, 3, m, fun i => .rat (k i) y⟩
noncomputable abbrev sR : Code := au sn
abbrev wX : List Nat := [3, 9, 10, 11]
abbrev Ct (x n : Nat) (k : Nat → Rat) (i : Nat) : List AV := [.own 0 3 0 i, bH k n x, .int .i64 n, .int .i64 i]
noncomputable def Ap : aQ := nG :: fT
theorem aad {x n : Nat} {k : Nat → Rat} : aI T Ap [] 60 wX (before sR [1,1,0,1]) ⟨aL 0 [bH k n x], [], 0⟩ =
  let c1 : Int := (↑n : Int); some (ag [(0 : Int) ≤ (0 : Int) ∧ (0 : Int) ≤ c1 ∧ c1 ≤ (2 : Int) ^ 47 ∧ c1 * (↑(56 : Nat) : Int) ≤ (2 : Int) ^ 47] (leaf normal ([own 12288 3 0 0, ak 3 n fun i ↦ rat (k i) x, int i64 c1, int i64 (0 : Int)], [((12288 : Nat), az.mk true true 3 0 fun x ↦ rat 0 1)]))) := by kernel_rfl
theorem QY {x y n i : Nat} {k : Nat → Rat} : aI T Ap [12] 60 wX [part sR [1,1,0,1,0,0]] ⟨aB wX (Ct x n k i), [(0, Bw y i k)], 1⟩ =
  let c4 : Int := (↑n : Int); let c2 : AV := ak 3 n fun i ↦ rat (k i) x; let c1 : Int := (↑i : Int); let c3 : Int := c1 + (1 : Int); some (fork (decide (c1 < c4)) (ag [(0 : Int) ≤ c1 ∧ c1.toNat < n, (0 : Nat) < 1] (ag [(0 : Nat) < 1, x < 2 ^ 42, (1 : Nat) < 2 ^ 42, (1 : Nat) * 3 ≤ 2 ^ 24, (i + 1) * ((56 : Nat) + 1) * 2 ≤ 2 ^ 47] (ag [-(2 : Int) ^ 63 ≤ c3 ∧ c3 < (2 : Int) ^ 63] (leaf normal ([own 40961 3 0 (i + 1), c2, int i64 c4, int i64 c3], [((40961 : Nat), az.mk true true 3 (i + 1) fun i_1 ↦ if i_1 < i then rat (k i_1) y else nth [rat (k c1.toNat + 0) (x + 1 + 1)] (rat 0 1) (i_1 - i + 0))]))))) (leaf (exit 0) ([own 0 3 0 i, c2, int i64 c4, int i64 c1], [((0 : Nat), az.mk true true 3 i fun i ↦ rat (k i) y)]))) := by kernel_rfl
theorem Vc {x y n i : Nat} {k : Nat → Rat} : b9 T Ap [] 60 sn [part sR [1,1,1]] ⟨aB wX (Ct x n k i), [(0, Bw y i k)], 1⟩ =
  some (leaf ret [ak 3 i fun i ↦ rat (k (i + 0)) y]) := by kernel_rfl
theorem Y0 : aY P Ap := cO g8
theorem Vz {x y n : Nat} {k : Nat → Rat} (hxy : x + 10 ≤ y) (hy : y < 2 ^ 40) (hn : n < 2 ^ 40) (K : Nat) : aA P vI K [bH k n x] [] (aG (bH k n y) []) := by
 refine gp (r := aG (bH k n y) []) hT Y0 hm Us rfl (of_decide_eq_true (by kernel_rfl)) rfl [1,1,0,1] (i := 0) (y := part sR [1,1,0,1,0,0]) (z := part sR [1,1,1]) (by kernel_rfl) (by kernel_rfl) (by kernel_rfl) (f1 := []) (f2 := [12]) (f3 := []) 60 wX 1
  (fun i : Nat => Ct x n k i) (fun i => [(0, Bw y i k)]) (fun i => i ≤ n) (fun i => i = n) (fun i => n - i) (fun _ => ⟨⟨_, aad, ?_⟩, fun i hi => ⟨_, QY, ?_⟩, fun i hi => ⟨_, Vc, ?_⟩⟩) K []
 ·simp only [aa.all, ay]
  exact ⟨by omega, 0, Nat.zero_le _, [(0, 12288)], rfl, rfl, rfl, bD rfl rfl rfl (fun i hi => absurd hi (Nat.not_lt_zero i)) trivial⟩
 ·simp only [aa.all, ay, decide_eq_true_eq, decide_eq_false_iff_not, Int.toNat_natCast, Nat.add_zero]
  exact ⟨fun h2 => ⟨by omega, by omega, by omega, i + 1, by omega, by dsimp only; omega, [(0, 40961)], rfl, rfl, rfl, bD rfl rfl rfl (fun j hj => yE (fun _ _ => rfl) (Rat.add_zero _) (Nat.le_refl _) (by omega) hj) trivial⟩, fun h2 => ⟨rfl, i, by omega, [(0, 0)], rfl, rfl, rfl, bD rfl rfl rfl (fun j hj => aM rfl rfl) trivial⟩⟩
 ·subst hi
  simp only [aa.all, ay]
  exact uK rfl fun j hj => rfl
def La (x y : Nat) : Spec := cP (kC (kL x) kN) (fun a => bH a.1.2 a.1.1 y) fun a => [x + 10 ≤ y, y < 2 ^ 40, a.1.1 < 2 ^ 40]
theorem aaR (x y : Nat) : ∀ K args pre r, La x y K args pre = some r → aA P vI K args pre r := cK fun ⟨⟨n, k⟩, _⟩ K hn => Vz hn.1 hn.2.1 hn.2.2 K
end Go.Am.B

/- Spline.Over, Spline.Insert, curve.back. -/
namespace Go.Am.B
open Go Go.Am.N AV aa ah IntKind
theorem Y2 : aN P wk x9 (au x9) := aP Uj (by kernel_rfl) (by kernel_rfl) (by kernel_rfl)
theorem Sw : aN P zy uX (au uX) := aP OP (by kernel_rfl) (by kernel_rfl) (by kernel_rfl)
theorem PY : aN P wV uc (au uc) := aP XC (by kernel_rfl) (by kernel_rfl) (by kernel_rfl)
def Aa (c : Cu) (n : Nat) (k : Nat → Rat) (j : Nat) : Pl := xD c (gL c.n c.k (k (fW k n j))) c.p.toNat (fun q => k (q + (j + 1)))
def zB (c : Cu) (n : Nat) (k : Nat → Rat) : Cu := ⟨c.p, n, k, n - c.p.toNat - 1, Aa c n k⟩
noncomputable def A6 : aQ := nG :: (oE, tw) :: (ue, IW) :: (rz, pP) :: (su, Fz) :: fT
abbrev uo : List Nat := [1, 2, 4, 5, 17, 18]
abbrev Bp (n m : Nat) (k : Nat → Rat) (j : Nat) : List AV := [ls k n, .ptr 0 0 3 0 [], .ptr 1 0 3 0 [], .ptr 2 0 3 0 [], .int .i64 m, .int .i64 j]
abbrev DB (c : Cu) (n : Nat) (k : Nat → Rat) (h : Nat → Pl) (j : Nat) : aD := [(3, ⟨true, true, 12, j, fun i => cD (h i) sB⟩), (2, ⟨false, true, 3, 1, fun _ => .agg [.int .i64 c.p, ls k n, .own 3 12 0 j]⟩), (1, ⟨false, true, 3, 1, fun _ => .agg [.int .i64 0, .nil, .nil]⟩), (0, nD c sK)]
noncomputable abbrev uB : Code := au x9
theorem Ld {f : Nat → Pl} {m s s' : Nat} (h : s ≤ s') : l9 (fun i => cD (f i) s) m s' := fun _ _ => Bb rfl h
noncomputable def IM : Spec := cP (kC (we sK sK) (kC (kL sK) kN)) (fun a => eO (zB a.1 a.2.1.1 a.2.1.2) sK sB) fun a => [Kn a.1.n a.1.p.toNat a.1.k, 1 ≤ a.1.p, a.1.p ≤ 6, a.1.n < 2 ^ 40, a.1.m < 2 ^ 40, a.2.1.1 < 2 ^ 29, a.1.p + 1 ≤ a.2.1.1]
def rX (c : Cu) (t : Rat) : Cu := zB c (c.n + 1) (iH c.k t (fO c.k t c.n))
noncomputable def FX : aQ := nG :: (x6, Kg 2000 2002) :: (wk, IM) :: []
abbrev sW : List Nat := [2, 3, 13, 14, 15]
abbrev B4 (c : Cu) (i : Nat) : List AV := [.ptr 0 0 3 0 [], .ptr 1 0 3 0 [], oN c.f c.m sB, .int .i64 c.m, .int .i64 i]
abbrev Eo (c : Cu) (i : Nat) : aD := [(2, ⟨true, true, 12, i, fun j => cS (iK (c.f j)) (sB + sB)⟩), (1, ⟨false, true, 3, 1, fun _ => .agg [.int .i64 c.p, bH c.k c.n (sK + 10), .own 2 12 0 i]⟩), (0, ⟨false, true, 3, 1, fun _ => .agg [.int .i64 0, .nil, .nil]⟩)]
noncomputable abbrev s7 : Code := au uc
def FD : Spec := cP (kC (CV sB) kN) (fun a => cS (iK a.1) (sB + sB)) fun _ => []
def zX : aQ := nG :: (vI, La sK (sK + 10)) :: (oD, FD) :: []
theorem Me {c : Cu} {n : Nat} {k : Nat → Rat} : aI T A6 [] 60 uo (before uB [1,1,0,1]) ⟨aL 0 [eO c sK sK, ls k n], [], 0⟩ =
  let c3 : Nat := (bA (eO c sK sK)).size; let c2 : Prop := 0 < 1; let c1 : AV := agg [int i64 (0 : Int), nil, nil]; some (ag [c2, c2] (ag [c2, ck (fun i ↦ rat (k i) sK) n sK, n < 2 ^ 40, -(2 : Int) ^ 40 < c.p, c.p < (2 : Int) ^ 40] (leaf normal ([ak 3 n fun i ↦ rat (k i) 4096, ptr 0 0 c3 0 [], ptr 4096 0 3 0 [], ptr 24576 0 3 0 [], int i64 ((↑n : Int) - c.p - (1 : Int)), int i64 (0 : Int)], [((24576 : Nat), az.mk false true 3 1 fun j ↦ if (j == 0) = true then bA (agg ((c1.kids.set 0 (bA (int i64 c.p))).set 1 (bA (ls k n)))) else c1), ((4096 : Nat), az.mk false true 3 1 fun x ↦ c1), ((0 : Nat), az.mk false true c3 1 fun x ↦ agg [int i64 c.p, ak 3 c.n fun i ↦ rat (c.k i) 4096, ak 12 c.m fun i ↦ agg [rat (c.f i).n.x 4096, rat (c.f i).n.y 4096, rat (c.f i).n.z 4096, rat (c.f i).d 4096]])])))) := by kernel_rfl
theorem RO {c : Cu} {n m j : Nat} {k : Nat → Rat} {h : Nat → Pl} : aI T A6 [19] 60 uo [part uB [1,1,0,1,0,0]] ⟨aB uo (Bp n m k j), DB c n k h j, 4⟩ =
  let c20 : Int := (↑m : Int); let c18 : Prop := ck (fun i ↦ rat (c.k i) sK) c.n sK; let c17 : AV := ptr 2 0 3 0 []; let c16 : AV := ptr 1 0 3 0 []; let c15 : AV := ptr 0 0 3 0 []; let c14 : Nat := 2 ^ 40; let c13 : AV := rat 0 1; let c12 : Int := (↑j : Int); let c10 : AV := own 3 12 0 j; let c9 : AV := ak 3 n fun i ↦ rat (k i) 4096; let c8 : Prop := 0 < 1; let c6 : Int := (2 : Int) ^ 63; let c5 : Cu := Cu.mk c.p c.n (fun i ↦ aT (rat (c.k i) sK)) c.m fun i ↦ s6 (cD (c.f i) sK); let c2 : List (Nat × az) := [((1 : Nat), az.mk false true 3 1 fun x ↦ agg [int i64 (0 : Int), nil, nil]), ((0 : Nat), az.mk false true 3 1 fun x ↦ agg [int i64 c.p, ak 3 c.n fun i ↦ rat (c.k i) 4096, ak 12 c.m fun i ↦ agg [rat (c.f i).n.x 4096, rat (c.f i).n.y 4096, rat (c.f i).n.z 4096, rat (c.f i).d 4096]])]; let c19 : AV := agg [int i64 c.p, ls k n, c10]; let c7 : Int := (↑(fW (fun i ↦ aT (rat (k i) sK)) n c12.toNat) : Int); let c4 : Int := c12 + c.p + (1 : Int); let c3 : Int := c12 + (1 : Int); let c11 : Nat := c4.toNat - c3.toNat; let c1 : Int := (↑(gL c.n (fun i ↦ aT (rat (c.k i) sK)) (k c7.toNat)) : Int); some (fork (decide (c12 < c20)) (ag [ck (fun i ↦ rat (k i) sK) n sK, (0 : Int) ≤ c12, c12 ≤ (↑n : Int), n < c14] (ag [c8, c8, (0 : Int) ≤ c7 ∧ c7.toNat < n, c18, sK ≤ sK, Kn c.n c.p.toNat fun i ↦ aT (rat (c.k i) sK), (0 : Int) ≤ c.p, c.n < c14] (ag [c8, c8, -c6 ≤ c3 ∧ c3 < c6, c8, -c6 ≤ c12 + c.p ∧ c12 + c.p < c6, -c6 ≤ c4 ∧ c4 < c6, (0 : Int) ≤ c3 ∧ c3 ≤ c4 ∧ c4 ≤ c4 ∧ c4 ≤ (↑n : Int), c18, l9 (fun i ↦ cD (c.f i) sK) c.m sK, ck (fun i ↦ rat (k (i + c3.toNat)) sK) c11 sK, (1 : Int) ≤ c.p, c.p ≤ (6 : Int), c.n < c14, c.m < c14, -(2 : Int) ^ 40 < c1, c1 < (2 : Int) ^ 40, (1 : Nat) * 12 ≤ 2 ^ 24, (j + 1) * ((224 : Nat) + 1) * 2 ≤ 2 ^ 47, c8] (ag [-c6 ≤ c3 ∧ c3 < c6] (leaf normal ([c9, c15, c16, c17, int i64 c20, int i64 c3], ((147460 : Nat), az.mk true true 12 (j + 1) fun i ↦ if i < j then cD (h i) sB else nth [agg [rat (gR c5 c1 c11 (fun i ↦ aT (rat (k (i + c3.toNat)) sK)) 0) sB, rat (gR c5 c1 c11 (fun i ↦ aT (rat (k (i + c3.toNat)) sK)) 1) sB, rat (gR c5 c1 c11 (fun i ↦ aT (rat (k (i + c3.toNat)) sK)) 2) sB, rat (gR c5 c1 c11 (fun i ↦ aT (rat (k (i + c3.toNat)) sK)) 3) sB]] (agg [c13, c13, c13, c13]) (i - j + 0)) :: ((2 : Nat), az.mk false true 3 1 fun j_1 ↦ if (j_1 == 0) = true then agg (c19.kids.set 2 (bA (own (nat_lit 147459 + 1) 12 0 (j + 1)))) else c19) :: c2)))))) (leaf (exit 0) ([c9, c15, c16, c17, int i64 c20, int i64 c12], ((3 : Nat), az.mk true true 12 j fun i ↦ agg [rat (h i).n.x 536870912, rat (h i).n.y 536870912, rat (h i).n.z 536870912, rat (h i).d 536870912]) :: ((2 : Nat), az.mk false true 3 1 fun x ↦ agg [int i64 c.p, c9, c10]) :: c2))) := by kernel_rfl
theorem PM {c : Cu} {n m j : Nat} {k : Nat → Rat} {h : Nat → Pl} : b9 T A6 [] 60 x9 [part uB [1,1,1]] ⟨aB uo (Bp n m k j), DB c n k h j, 4⟩ =
  let c1 : Prop := 0 < 1; some (ag [c1, c1] (ag [c1] (leaf ret [agg [int i64 c.p, ak 3 n fun i ↦ rat (k i) 4096, ak 12 j fun i ↦ agg [rat (h (i + 0)).n.x 536870912, rat (h (i + 0)).n.y 536870912, rat (h (i + 0)).n.z 536870912, rat (h (i + 0)).d 536870912]]]))) := by kernel_rfl
theorem adm {c : Cu} {t : Rat} : bu T FX [] 60 uX (au uX) ⟨aL 0 [eO c 2000 4000, .rat t 2000], [], 0⟩ =
  some (ag [0 < 1, 0 < 1, 0 < 1, ck (fun i => .rat (c.k i) 2000) c.n 2000, 2000 ≤ 2000, c.n < 2 ^ 40, ck (fun i => .rat (c.k i) 2000) c.n sK, l9 (fun i => cD (c.f i) 4000) c.m sK, ck (fun i => .rat (iH c.k t (fO c.k t c.n) i) 2002) (c.n + 1) sK, Kn c.n c.p.toNat c.k, 1 ≤ c.p, c.p ≤ 6, c.n < 2 ^ 40, c.m < 2 ^ 40, c.n + 1 < 2 ^ 29, c.p + 1 ≤ (c.n + 1 : Nat), 0 < 1]
   (ag [0 < 1] (leaf .ret [eO (rX c t) sK sB]))) := by kernel_rfl
theorem Yc {c : Cu} : aI T zX [] 60 sW (before s7 [1,1,0,1]) ⟨aL 0 [eO c sK sB], [], 0⟩ =
  let c3 : Nat := sK + 10; let c2 : Prop := 0 < 1; let c1 : AV := agg [int i64 (0 : Int), nil, nil]; some (ag [c2, c2, ck (fun i ↦ rat (c.k i) sK) c.n sK, c3 ≤ c3, c3 < 2 ^ 40, c.n < 2 ^ 40, c2] (ag [c2] (leaf normal ([ptr 4096 0 3 0 [], ptr 32768 0 3 0 [], ak 12 c.m fun i ↦ agg [rat (c.f i).n.x 536870912, rat (c.f i).n.y 536870912, rat (c.f i).n.z 536870912, rat (c.f i).d 536870912], int i64 (↑c.m : Int), int i64 (0 : Int)], [((32768 : Nat), az.mk false true 3 1 fun j ↦ if (j == 0) = true then bA (agg ((c1.kids.set 0 (bA (int i64 c.p))).set 1 (bA (bH (fun i ↦ aT (rat (c.k i) sK)) c.n c3)))) else c1), ((4096 : Nat), az.mk false true 3 1 fun x ↦ c1)])))) := by kernel_rfl
theorem VJ {c : Cu} {i : Nat} : aI T zX [16] 60 sW [part s7 [1,1,0,1,0,0]] ⟨aB sW (B4 c i), Eo c i, 3⟩ =
  let c11 : Int := (↑c.m : Int); let c10 : AV := own 2 12 0 i; let c9 : AV := ptr 1 0 3 0 []; let c8 : AV := ptr 0 0 3 0 []; let c7 : Prop := 0 < 1; let c6 : Int := (↑i : Int); let c5 : AV := rat 0 1; let c4 : Nat × az := ((0 : Nat), az.mk false true 3 1 fun x ↦ agg [int i64 (0 : Int), nil, nil]); let c1 : AV := ak 12 c.m fun i ↦ agg [rat (c.f i).n.x 536870912, rat (c.f i).n.y 536870912, rat (c.f i).n.z 536870912, rat (c.f i).d 536870912]; let c12 : Int := c6 + (1 : Int); let c3 : AV := agg [int i64 c.p, bH c.k c.n (sK + 10), c10]; let c2 : Pl := c.f c6.toNat; some (fork (decide (c6 < c11)) (ag [(0 : Int) ≤ c6 ∧ c6.toNat < c.m, c7] (ag [c7, c7, sB ≤ sB, sB ≤ sB, sB ≤ sB, sB ≤ sB, (1 : Nat) * 12 ≤ 2 ^ 24, (i + 1) * ((224 : Nat) + 1) * 2 ≤ 2 ^ 47, c7] (ag [-(2 : Int) ^ 63 ≤ c12 ∧ c12 < (2 : Int) ^ 63] (leaf normal ([c8, c9, c1, int i64 c11, int i64 c12], [((40963 : Nat), az.mk true true 12 (i + 1) fun i_1 ↦ if i_1 < i then cS (iK (c.f i_1)) (sB + sB) else nth [agg [agg [rat (c2.n.x / c2.d) (sB + sB), rat (c2.n.y / c2.d) (sB + sB), rat (c2.n.z / c2.d) (sB + sB)], rat c2.d (sB + sB)]] (agg [agg [c5, c5, c5], c5]) (i_1 - i + 0)), ((1 : Nat), az.mk false true 3 1 fun j ↦ if (j == 0) = true then agg (c3.kids.set 2 (bA (own (nat_lit 40962 + 1) 12 0 (i + 1)))) else c3), c4]))))) (leaf (exit 0) ([c8, c9, c1, int i64 c11, int i64 c6], [((2 : Nat), az.mk true true 12 i fun j ↦ agg [agg [rat ((c.f j).n.x / (c.f j).d) 1073741824, rat ((c.f j).n.y / (c.f j).d) 1073741824, rat ((c.f j).n.z / (c.f j).d) 1073741824], rat (c.f j).d 1073741824]), ((1 : Nat), az.mk false true 3 1 fun x ↦ agg [int i64 c.p, ak 3 c.n fun i ↦ rat (c.k i) 4106, c10]), c4]))) := by kernel_rfl
theorem Y9 {c : Cu} {i : Nat} : b9 T zX [] 60 uc [part s7 [1,1,1]] ⟨aB sW (B4 c i), Eo c i, 3⟩ =
  let c1 : Prop := 0 < 1; some (ag [c1, c1] (ag [c1] (leaf ret [agg [int i64 c.p, ak 3 c.n fun i ↦ rat (c.k i) 4106, ak 12 i fun i ↦ agg [agg [rat ((c.f (i + 0)).n.x / (c.f (i + 0)).d) 1073741824, rat ((c.f (i + 0)).n.y / (c.f (i + 0)).d) 1073741824, rat ((c.f (i + 0)).n.z / (c.f (i + 0)).d) 1073741824], rat (c.f (i + 0)).d 1073741824]]]))) := by kernel_rfl
theorem Lf {k : Nat → Rat} {n : Nat} : ∀ {f i : Nat}, i < n → qo k n f i < n
 | 0, _, h => h
 | f + 1, i, h => by
  unfold qo
  split
  ·exact Lf (by omega)
  ·exact h
theorem UT {k : Nat → Rat} {n i : Nat} (h : i < n) : fW k n i < n := Lf h
theorem XG {n p : Nat} {k : Nat → Rat} (h : Kn n p k) {t : Rat} : gL n k t < n := by
 have hl := h.len
 unfold gL
 split
 ·omega
 ·have := h.oV ‹_›
  omega
theorem Ma : aY P A6 := cO (aF yR (aF RH (aF IV (aF acL g8))))
theorem Sa {c : Cu} {n : Nat} {k : Nat → Rat} (hk : Kn c.n c.p.toNat c.k) (hp1 : 1 ≤ c.p) (hp6 : c.p ≤ 6) (hn : c.n < 2 ^ 40) (hm2 : c.m < 2 ^ 40) (hn2 : n < 2 ^ 29) (hpn : c.p + 1 ≤ n) (K : Nat) : aA P wk K [eO c sK sK, ls k n] [] (aG (eO (zB c n k) sK sB) []) := by
 obtain ⟨q, hq⟩ : ∃ q, q = c.p.toNat := ⟨_, rfl⟩
 have hqp : c.p = (q : Int) := by omega
 refine gp (r := aG (eO (zB c n k) sK sB) []) hT Ma hm Y2 rfl (of_decide_eq_true (by kernel_rfl)) rfl [1,1,0,1] (i := 0) (y := part uB [1,1,0,1,0,0]) (z := part uB [1,1,1]) (by kernel_rfl) (by kernel_rfl) (by kernel_rfl) (f1 := []) (f2 := [19]) (f3 := []) 60 uo 4
  (fun j : Nat => Bp n (n - c.p.toNat - 1) k j) (fun j => DB c n k (Aa c n k) j) (fun j => j ≤ n - c.p.toNat - 1) (fun j => j = n - c.p.toNat - 1) (fun j => n - c.p.toNat - 1 - j) (fun _ => ⟨⟨_, Me, ?_⟩, fun j hj => ⟨_, RO, ?_⟩, fun j hj => ⟨_, PM, ?_⟩⟩) K []
 ·have e1 : (n : Int) - c.p - 1 = ((n - c.p.toNat - 1 : Nat) : Int) := by omega
  simp only [aa.all, ay, e1]
  exact ⟨⟨by omega, by omega⟩, ⟨by omega, dj (Nat.le_refl _), by omega, by omega, by omega⟩, 0, Nat.zero_le _, [(0, 0), (1, 4096), (2, 24576)], rfl, rfl, rfl, zf rfl (by omega) (by omega) (aR rfl rfl (pY ⟨⟨rfl, aH rfl⟩, ⟨rfl, aH rfl⟩, ⟨rfl, tF (by omega)⟩, trivial⟩) (aR rfl rfl (aM rfl rfl) (aR rfl rfl (aM rfl rfl) trivial)))⟩
 ·have e1 : ((j : Int) + 1).toNat = j + 1 := by omega
  have e2 : ((j : Int) + c.p + 1).toNat = j + q + 1 := by omega
  have e3 : j + q + 1 - (j + 1) = q := by omega
  simp only [aa.all, ay, decide_eq_true_eq, decide_eq_false_iff_not, Int.toNat_natCast, e1, e2, e3, Nat.add_zero]
  have h7 : fW (fun i => aT (rat (k i) sK)) n j = fW k n j := rfl
  have h8 : ∀ t, gL c.n (fun i => aT (rat (c.k i) sK)) t = gL c.n c.k t := fun _ => rfl
  simp only [h7, h8]
  refine ⟨fun h => ?_, fun h => ⟨rfl, j, by omega, [(0, 0), (1, 1), (2, 2), (3, 3)], rfl, rfl, rfl, bD rfl rfl rfl (fun _ _ => aM rfl rfl) (aR rfl rfl (pV rfl rfl rfl) (aR rfl rfl (aM rfl rfl) (aR rfl rfl (aM rfl rfl) trivial)))⟩⟩
  have h1 := UT (k := k) (n := n) (i := j) (by omega)
  have h2 := XG hk (t := k (fW k n j))
  (repeat' with_reducible refine And.intro ?_ ?_)
  all_goals first | omega | exact dj (Nat.le_refl _) | exact hk | exact fun _ _ => .refl _ | skip
  refine ⟨j + 1, by omega, by dsimp only; omega, [(0, 0), (1, 1), (2, 2), (3, 147460)], rfl, rfl, rfl, bD rfl rfl rfl (fun j' hj' => By (g := fun j => cD (Aa c n k j) sB) (fun _ _ => ⟨rfl, rfl⟩) rfl ?_ hj') (aR rfl rfl (pV rfl rfl rfl) (aR rfl rfl (aM rfl rfl) (aR rfl rfl (aM rfl rfl) trivial)))⟩
  exact Bb (h := xD c (gL c.n c.k (k (fW k n j))) q (fun q => k (q + (j + 1)))) (by unfold Aa; rw [hq]) (Nat.le_refl _)
 ·subst hj
  simp only [aa.all, ay]
  exact ⟨⟨by omega, by omega⟩, by omega, .refl _⟩
theorem Wu : ∀ K args pre r, IM K args pre = some r → aA P wk K args pre r := cK fun ⟨c, ⟨n, k⟩, _⟩ K hn => Sa hn.1 hn.2.1 hn.2.2.1 hn.2.2.2.1 hn.2.2.2.2.1 hn.2.2.2.2.2.1 hn.2.2.2.2.2.2 K
theorem Y7 : aY P FX := cO (aF (Yb (by decide) (by decide)) (aF Wu bk))
noncomputable def FC : Spec := cP (kC (we 2000 4000) (kC (gv 2000) kN)) (fun a => eO (rX a.1 a.2.1) sK sB) fun a => [Kn a.1.n a.1.p.toNat a.1.k, 1 ≤ a.1.p, a.1.p ≤ 6, a.1.n < 2 ^ 28, a.1.m < 2 ^ 40]
theorem SP : ∀ K args pre r, FC K args pre = some r → aA P zy K args pre r := cK fun ⟨c, t, _⟩ K hn => by
 obtain ⟨h1, h2, h3, h4, h5⟩ : Kn c.n c.p.toNat c.k ∧ 1 ≤ c.p ∧ c.p ≤ 6 ∧ c.n < 2 ^ 28 ∧ c.m < 2 ^ 40 := hn
 have hl := h1.len
 refine bC (r := aG (eO (rX c t) sK sB) []) hT Y7 hm Sw rfl (of_decide_eq_true (by kernel_rfl)) rfl 60 adm (fun _ => ?_) K []
 simp only [aa.all, ay]
 (repeat' with_reducible refine And.intro ?_ ?_)
 all_goals first | omega | exact dj (by decide) | exact h1 | exact Ld (by decide) | skip
 exact .refl _
theorem Qq : ∀ K args pre r, FD K args pre = some r → aA P oD K args pre r := cK fun ⟨h, _⟩ K _ => Ht (by decide) (by decide) (by decide) K
theorem Mb : aY P zX := cO (aF (aaR _ _) (aF Qq bk))
theorem abB {c : Cu} (hn : c.n < 2 ^ 40) (hm2 : c.m < 2 ^ 29) (K : Nat) : aA P wV K [eO c sK sB] [] (aG (en ⟨c.p, c.n, c.k, c.m, fun i => iK (c.f i)⟩ (sK + 10) (sB + sB)) []) := by
 refine gp (r := aG (en ⟨c.p, c.n, c.k, c.m, fun i => iK (c.f i)⟩ (sK + 10) (sB + sB)) []) hT Mb hm PY rfl (of_decide_eq_true (by kernel_rfl)) rfl [1,1,0,1] (i := 0) (y := part s7 [1,1,0,1,0,0]) (z := part s7 [1,1,1]) (by kernel_rfl) (by kernel_rfl) (by kernel_rfl) (f1 := []) (f2 := [16]) (f3 := []) 60 sW 3
  (fun i : Nat => B4 c i) (fun i => Eo c i) (fun i => i ≤ c.m) (fun i => i = c.m) (fun i => c.m - i) (fun _ => ⟨⟨_, Yc, ?_⟩, fun i hi => ⟨_, VJ, ?_⟩, fun i hi => ⟨_, Y9, ?_⟩⟩) K []
 ·simp only [aa.all, ay]
  exact ⟨⟨by omega, by omega, dj (Nat.le_refl _), by omega, by decide, by omega, by omega⟩, by omega, 0, Nat.zero_le _, [(0, 4096), (1, 32768)], rfl, rfl, rfl, zf rfl (by omega) (by omega) (aR rfl rfl (pY ⟨⟨rfl, aH rfl⟩, ⟨rfl, aH rfl⟩, ⟨rfl, tF (by omega)⟩, trivial⟩) (aR rfl rfl (aM rfl rfl) trivial))⟩
 ·simp only [aa.all, ay, decide_eq_true_eq, decide_eq_false_iff_not, Int.toNat_natCast, Nat.add_zero]
  refine ⟨fun h => ?_, fun h => ⟨rfl, i, by omega, [(0, 0), (1, 1), (2, 2)], rfl, rfl, rfl, bD rfl rfl rfl (fun _ _ => aM rfl rfl) (aR rfl rfl (pV rfl rfl rfl) (aR rfl rfl (aM rfl rfl) trivial))⟩⟩
  (repeat' with_reducible refine And.intro ?_ ?_)
  all_goals first | omega | exact Nat.le_refl _ | skip
  exact ⟨i + 1, by omega, by dsimp only; omega, [(0, 0), (1, 1), (2, 40963)], rfl, rfl, rfl, bD rfl rfl rfl (fun j hj => By (g := fun j => cS (iK (c.f j)) (sB + sB)) (fun _ _ => ⟨rfl, rfl⟩) rfl (.refl _) hj) (aR rfl rfl (pV rfl rfl rfl) (aR rfl rfl (aM rfl rfl) trivial))⟩
 ·subst hi
  simp only [aa.all, ay]
  exact ⟨⟨by omega, by omega⟩, by omega, .refl _⟩
def Lg : Spec := cP (kC (we sK sB) kN) (fun a => en ⟨a.1.p, a.1.n, a.1.k, a.1.m, fun i => iK (a.1.f i)⟩ (sK + 10) (sB + sB)) fun a => [a.1.n < 2 ^ 40, a.1.m < 2 ^ 29]
theorem V2 : ∀ K args pre r, Lg K args pre = some r → aA P wV K args pre r := cK fun ⟨c, _⟩ K hn => abB hn.1 hn.2 K
end Go.Am.B

/- curve.inner, curve.Insert. -/
namespace Go.Am.B
open Go Go.Am.N AV aa ah IntKind
theorem Wn : aN P AQ r6 (au r6) := aP ZH (by kernel_rfl) (by kernel_rfl) (by kernel_rfl)
theorem aaf : aN P AT vR (au vR) := aP QJ (by kernel_rfl) (by kernel_rfl) (by kernel_rfl)
noncomputable def GJ : aQ := nG :: (vv, BP) :: fT
def LM : Spec := cP (kC (kj 2000 2000) (kC (gv 2000) kN)) (fun a => .bool (decide (a.1.k 0 < a.2.1) && decide (a.2.1 < a.1.k (a.1.n - 1)))) fun a => [fl a.1]
def Gk : Spec := cP (kC (kj 2000 2000) kN) (fun a => eO ⟨a.1.p, a.1.n, a.1.k, a.1.m, fun i => iN (a.1.f i)⟩ 2000 4000) fun a => [a.1.n < 2 ^ 40, a.1.m < 2 ^ 30]
noncomputable def HX : aQ := nG :: (AQ, LM) :: (rq, CQ) :: (oz, Gk) :: (zy, FC) :: (wV, Lg) :: []
def jP (c : Cu) (t : Rat) : Int := if ¬ (c.k 0 < t ∧ t < c.k (c.n - 1)) then 7 else if c.p ≤ (dD c.k t c.n : Int) then 5 else if 40 ≤ c.m then 2 else 0
def Df (c : Cu) (t : Rat) : Cu := ⟨c.p, c.n + 1, iH c.k t (fO c.k t c.n), c.n + 1 - c.p.toNat - 1, fun i => iK ((rX ⟨c.p, c.n, c.k, c.m, fun i => iN (c.f i)⟩ t).f i)⟩
def DZ : Cu := ⟨0, 0, fun _ => 0, 0, fun _ => ⟨⟨0, 0, 0⟩, 0⟩⟩
def sA (c : Cu) (t : Rat) : Cu := if jP c t = 0 then Df c t else DZ
theorem aek {c : Cu} {t : Rat} : bu T GJ [16] 60 r6 (au r6) ⟨aL 0 [en c 2000 2000, .rat t 2000], [], 0⟩ =
  let c9 : Prop := ir (fun i ↦ cS (c.f i) 2000) c.m sJ; let c8 : Prop := ck (fun i ↦ rat (c.k i) 2000) c.n sJ; let c7 : Prop := (0 : Int) ≤ (0 : Int) ∧ Int.toNat (0 : Int) < c.n; let c5 : Prop := fl (Cu.mk c.p c.n (fun i ↦ aT (rat (c.k i) 2000)) c.m fun i ↦ jW (cS (c.f i) 2000)); let c4 : Int := (↑c.n : Int) - (1 : Int); let c3 : Prop := 0 < 1; let c2 : Int := dK (c.k (Int.toNat (0 : Int))) t; let c1 : Prop := 2000 < 2 ^ 42; let c6 : Bool := bif true then decide (c2 < (0 : Int)) else false; some (fork c6 (ag [c3, c8, c9, c5, c3, c7, c3, c1, c1, c6 = true, c3, c3, c3, -(2 : Int) ^ 63 ≤ c4 ∧ c4 < (2 : Int) ^ 63, (0 : Int) ≤ c4 ∧ c4.toNat < c.n, c1, c1] (leaf ret [AV.bool (bif true then decide (dK t (c.k c4.toNat) < (0 : Int)) else false)])) (ag [c3, c8, c9, c5, c3, c7, c3, c1, c1, c6 = false] (leaf ret [AV.bool false]))) := by kernel_rfl
theorem acj {c : Cu} {t : Rat} : bu T HX [6, 12, 21] 60 vR (au vR) ⟨aL 0 [en c 2000 2000, .rat t 2000], [], 0⟩ =
  let no : Int → aa (List AV) := fun e => ag [0 < 1] (ag [0 < 1] (leaf .ret [.agg [.int .i64 0, .nil, .nil], .int .i64 e])); let k : Prop := ck (fun i => .rat (c.k i) 2000) c.n 2000; let f : Prop := ir (fun i => cS (c.f i) 2000) c.m 2000
  some (ag [0 < 1, 0 < 1, k, f, 2000 ≤ 2000, fl c] (fork (!(decide (c.k 0 < t) && decide (t < c.k (c.n - 1)))) (no 7) (ag [0 < 1, 0 < 1, ck (fun i => .rat (c.k i) 2000) c.n sK, 2000 ≤ sK, c.n < 2 ^ 40, 0 < 1] (fork (decide ((dD c.k t c.n : Int) ≥ c.p)) (no 5) (ag [0 < 1] (fork (decide ((c.m : Int) ≥ 40)) (no 2)
   (ag [0 < 1, k, f, c.n < 2 ^ 40, c.m < 2 ^ 30, 0 < 1, k, l9 (fun i => cD (iN (c.f i)) 4000) c.m 4000, 2000 ≤ 2000, Kn c.n c.p.toNat c.k, 1 ≤ c.p, c.p ≤ 6, c.n < 2 ^ 28, c.m < 2 ^ 40, ck (fun i => .rat (iH c.k t (fO c.k t c.n) i) sK) (c.n + 1) sK, l9 (fun i => cD ((rX ⟨c.p, c.n, c.k, c.m, fun i => iN (c.f i)⟩ t).f i) sB) (c.n + 1 - c.p.toNat - 1) sB, c.n + 1 < 2 ^ 40, c.n + 1 - c.p.toNat - 1 < 2 ^ 29, 0 < 1] (ag [0 < 1] (leaf .ret [en (Df c t) (sK + 10) (sB + sB), .int .i64 0]))))))))) := by kernel_rfl
theorem adR : aY P GJ := cO (aF LH g8)
theorem TO {a b : Rat} : dK a b < (0 : Int) ↔ a < b := kB
theorem abn : ∀ K args pre r, LM K args pre = some r → aA P AQ K args pre r := cK fun ⟨c, t, _⟩ K hn => by
 have hc : fl c := hn
 obtain ⟨h1, h2, h3, h4, h5⟩ := id hc
 have hl := h1.len
 refine bC (r := aG (.bool (decide (c.k 0 < t) && decide (t < c.k (c.n - 1)))) []) hT adR hm Wn rfl (of_decide_eq_true (by kernel_rfl)) rfl 60 aek (fun _ => ?_) K []
 have e1 : ((c.n : Int) - 1).toNat = c.n - 1 := by omega
 simp only [aa.all, ay, e1, Int.toNat_zero, cond_true, cond_false, decide_eq_true_eq, decide_eq_false_iff_not, TO]
 refine ⟨fun h => ?_, fun h => ?_⟩
 ·(repeat' with_reducible refine And.intro ?_ ?_)
  all_goals first | omega | exact dj (by decide) | exact kM (by decide) | exact hc | exact h | decide | skip
  exact eL (by rw [decide_eq_true h, Bool.true_and])
 ·(repeat' with_reducible refine And.intro ?_ ?_)
  all_goals first | omega | exact dj (by decide) | exact kM (by decide) | exact hc | exact h | decide | skip
  exact eL (by rw [decide_eq_false h, Bool.false_and])
theorem Yn : ∀ K args pre r, Gk K args pre = some r → aA P oz K args pre r := cK fun ⟨c, _⟩ K hn => F0 (by decide) (by decide) (by decide) hn.1 hn.2 K
theorem adv : aY P HX := cO (aF abn (aF EZ (aF Yn (aF SP (aF V2 bk)))))
theorem abr {x y : Nat} : bB (.agg [.int .i64 0, .nil, .nil]) (en DZ x y) := dx ⟨.refl _, jo (by decide), jo (by decide), trivial⟩
def Ll : Spec := cP (kC (kj 2000 2000) (kC (gv 2000) kN)) (fun a => .tuple [en (sA a.1 a.2.1) (sK + 10) (sB + sB), .int .i64 (jP a.1 a.2.1)]) fun a => [fl a.1]
theorem Ue : ∀ K args pre r, Ll K args pre = some r → aA P AT K args pre r := cK fun ⟨c, t, _⟩ K hn => by
 have hc : fl c := hn
 obtain ⟨h1, h2, h3, h4, h5⟩ := id hc
 have hl := h1.len
 refine bC (r := aG (.tuple [en (sA c t) (sK + 10) (sB + sB), .int .i64 (jP c t)]) []) hT adv hm aaf rfl (of_decide_eq_true (by kernel_rfl)) rfl 60 acj (fun _ => ?_) K []
 have no : ∀ {e : Int}, jP c t = e → e ≠ 0 → dn [.agg [.int .i64 0, .nil, .nil], .int .i64 e] (.tuple [en (sA c t) (sK + 10) (sB + sB), .int .i64 (jP c t)]) := fun {e} he h0 => by
  refine ⟨?_, bq he.symm, trivial⟩
  rw [show sA c t = DZ from if_neg (by rw [he]; exact h0)]
  exact abr
 simp only [aa.all, ay, decide_eq_true_eq, decide_eq_false_iff_not, Bool.not_eq_true', Bool.not_eq_false', Bool.and_eq_true, Bool.and_eq_false_iff]
 refine ⟨⟨by omega, by omega, dj (Nat.le_refl _), kM (Nat.le_refl _), Nat.le_refl _, hc⟩, fun ho => ⟨by omega, by omega, no ?_ (by decide)⟩, fun hi => ⟨?_, fun h6 => ⟨by omega, by omega, no ?_ (by decide)⟩, fun h6 => ⟨by omega, fun h7 => ⟨by omega, by omega, no ?_ (by decide)⟩, fun h7 => ⟨?_, by omega, ?_⟩⟩⟩⟩
 ·unfold jP; rw [if_pos fun h => ho.elim (fun g => g h.1) fun g => g h.2]
 ·exact ⟨by omega, by omega, dj (by decide), by decide, by omega, by omega⟩
 ·unfold jP; rw [if_neg (fun g => g hi), if_pos h6]
 ·unfold jP; rw [if_neg (fun g => g hi), if_neg h6, if_pos (by omega)]
 ·(repeat' with_reducible refine And.intro ?_ ?_)
  all_goals first | omega | exact dj (by decide) | exact kM (Nat.le_refl _) | exact Ld (Nat.le_refl _) | exact h1 | exact Nat.le_refl _ | skip
 ·have he : jP c t = 0 := by unfold jP; rw [if_neg (fun g => g hi), if_neg h6, if_neg (by omega)]
  refine ⟨?_, bq he.symm, trivial⟩
  rw [show sA c t = Df c t from if_pos he]
  exact .refl _
end Go.Am.B

/- rational.Valid, rational.Bits; the closures of curve.Check; slices.Clone, curve.numbers, curve.Check. -/
namespace Go.Am.B
open Go Go.Am.N AV aa ah IntKind
theorem Q0 : aN P ya wC (au wC) := aP Vq (by kernel_rfl) (by kernel_rfl) (by kernel_rfl)
theorem Xg : aN P xP sw (au sw) := aP QM (by kernel_rfl) (by kernel_rfl) (by kernel_rfl)
theorem Wc : aN P xU tn (au tn) := aP Tr (by kernel_rfl) (by kernel_rfl) (by kernel_rfl)
theorem ac4 : aN P rF y6 (au y6) := aP acY (by kernel_rfl) (by kernel_rfl) (by kernel_rfl)
theorem PT : aN P iA vP (au vP) := aP Sx (by kernel_rfl) (by kernel_rfl) (by kernel_rfl)
theorem Vb : aN P fm tu (au tu) := aP UG (by kernel_rfl) (by kernel_rfl) (by kernel_rfl)
theorem Va : aN P g9 vM (au vM) := aP XZ (by kernel_rfl) (by kernel_rfl) (by kernel_rfl)
theorem HT : aN P wO uM (au uM) := aP adB (by kernel_rfl) (by kernel_rfl) (by kernel_rfl)
theorem YM : aN P u7 vi (au vi) := aP VD (by kernel_rfl) (by kernel_rfl) (by kernel_rfl)
theorem Nx : aN P AN sX (au sX) := aP YY (by kernel_rfl) (by kernel_rfl) (by kernel_rfl)
theorem NI : aN P yx xd (au xd) := aP Vx (by kernel_rfl) (by kernel_rfl) (by kernel_rfl)
theorem acA : aN P wD uR (au uR) := aP aax (by kernel_rfl) (by kernel_rfl) (by kernel_rfl)
theorem adg : aN P yz xg (au xg) := aP ac2 (by kernel_rfl) (by kernel_rfl) (by kernel_rfl)
def HW : Spec := bw fun l => match l with
 | [.mag N] => some (aG (.bool true) [nl N < 2 ^ 40])
 | _ => none
def DV : aQ := nG :: (ya, HW) :: (rI, bw (jD BI)) :: (rG, bw (fJ DA)) :: (pU, Dz) :: []
def EU : Spec := bw fun l => match l with
 | [.rat q n] => some (aG (.bool true) [n < 2 ^ 44])
 | _ => none
def Jj : Spec := bw fun l => match l with
 | [.rat q n] => some (aG (.int .i64 (bS q : Nat)) [n < 2 ^ 44])
 | _ => none
def zF : Spec := bw fun l => match l with
 | [.rat q n] => some (aG (.bool false) [n ≤ 2048])
 | _ => none
def Be : aQ := nG :: (xP, EU) :: (xU, Jj) :: fT
def ad8 (s : Nat) : Kind Pl := ⟨fun v => match Ao v with
 | some (a, q) => some (a.1, q ++ [a.2 ≤ s])
 | none => none, fun a => cS a s, fun {v a q} h hq => by
  split at h
  ·rename_i b q' hb
   simp only [Option.some.injEq, Prod.mk.injEq] at h
   obtain ⟨rfl, rfl⟩ := h
   obtain ⟨q1, q2⟩ := dF.1 hq
   refine bB.trans (N8.ok hb q1) ?_
   show bB (cS b.1 b.2) (cS b.1 s)
   exact dx ⟨dx ⟨dm q2, dm q2, dm q2, trivial⟩, dm q2, trivial⟩
  ·simp at h⟩
def I8 : Spec := cP (kC (ad8 2048) kN) (fun _ => .bool false) fun a => [0 < a.1.d]
def z3 : Kind FuncId := ⟨fun v => match v with
 | .func f [] => some (f, [])
 | _ => none, fun g => .func g [], fun {v a q} h _ => by
  split at h
  ·simp only [Option.some.injEq, Prod.mk.injEq] at h
   obtain ⟨rfl, rfl⟩ := h
   exact .refl _
  ·simp at h⟩
noncomputable def GX : aQ := nG :: (iA, zF) :: (g9, zF) :: (fm, I8) :: []
abbrev ja : List Nat := [4, 0, 1, 7, 8]
abbrev xT (n i : Nat) (k : Nat → Rat) (g : FuncId) : List AV := [.int .i64 0, bH k n 2048, .func g [], .int .i64 n, .int .i64 i]
abbrev BC (n i : Nat) (f : Nat → Pl) (g : FuncId) : List AV := [.int .i64 0, lQ f n 2048, .func g [], .int .i64 n, .int .i64 i]
noncomputable abbrev mo : Code := au uM
noncomputable abbrev wJ : Code := au vi
noncomputable def Ga : Spec := cP (kC (kL 2048) (kC z3 kN)) (fun _ => .int .i64 (-1)) fun a => [a.1.1 < 2 ^ 40, a.2.1 = iA ∨ a.2.1 = g9]
noncomputable def Gb : Spec := cP (kC (kL 2048) (kC z3 kN)) (fun _ => .bool false) fun a => [a.1.1 < 2 ^ 40, a.2.1 = iA ∨ a.2.1 = g9]
noncomputable def GY : aQ := nG :: (wO, Ga) :: []
def Jg : Spec := pT fun K l => match l with
 | [v] => match (kL 2048).read v with
  | some ((n, k), q) => some ⟨.own K 3 0 n, [(K, ⟨true, true, 3, n, fun i => .rat (k i) 2048⟩)], q ++ [1 ≤ n, n < 2 ^ 30]⟩
  | none => none
 | _ => none
def iM (c : Cu) (j : Nat) : Rat := if j < c.n then c.k j else mN (c.f ((j - c.n) / 4)) ((j - c.n) % 4)
def Bc : aQ := nG :: (rF, Jg) :: []
abbrev th : List Nat := [2, 3, 10, 11, 12]
abbrev DN (c : Cu) (i : Nat) : List AV := [.nil, .own 0 3 0 (c.n + 4 * i), lQ c.f c.m 2048, .int .i64 c.m, .int .i64 i]
abbrev BY (c : Cu) (i : Nat) : aD := [(0, ⟨true, true, 3, c.n + 4 * i, fun j => .rat (iM c j) 2048⟩)]
noncomputable abbrev ur : Code := au uR
def LQ : Spec := cP (kC (kj 2048 2048) kN) (fun a => bH (iM a.1) (a.1.n + 4 * a.1.m) 2048) fun a => [1 ≤ a.1.n, a.1.n < 2 ^ 30, a.1.m < 2 ^ 28]
theorem aa4 {N : Nat} : bu T [nG] [6] 60 wC (au wC) ⟨aL 0 [.mag N], [], 0⟩ =
  let c2 : Bool := (↑(nl N) : Int) == (0 : Int); let c1 : Int := (↑(nl N) : Int) - (1 : Int); some (fork c2 (ag [c2 = true] (leaf ret [AV.bool true])) (ag [c2 = false, -(2 : Int) ^ 63 ≤ c1 ∧ c1 < (2 : Int) ^ 63, (0 : Int) ≤ c1 ∧ c1.toNat < nl N] (leaf ret [AV.bool (bif false then true else (↑(ax N c1.toNat) : Int) != (0 : Int))]))) := by kernel_rfl
theorem ads {q : Rat} {n : Nat} : bu T DV [18, 25, 29, 33, 43] 60 sw (au sw) ⟨aL 0 [.rat q n], [], 0⟩ =
  let c9 : aa (List AV) := leaf ret [AV.bool false]; let c7 : Bool := !decide (q < 0); let c6 : Nat := q.num.natAbs; let c4 : Nat := 2 ^ 40; let c3 : Prop := 0 < 1; let c2 : Nat := if q.den = 1 then 0 else q.den; let c5 : Int := (↑(nl c2) : Int); let c10 : Bool := c5 == (1 : Int); let c8 : Bool := c5 == (0 : Int); let c1 : aa (List AV) := ag [c3] (fork ((↑(nl c6) : Int) == (0 : Int)) (fork c7 (ag [c3, c7 = true, c3] (leaf ret [AV.bool (bif true then c8 else false)])) (ag [c3, c7 = false] c9)) (fork c8 (ag [c3, c8 = true] (leaf ret [AV.bool true])) (ag [c3, c8 = false, c3, c3, nl c6 < c4, nl c2 < c4, nl (c6.gcd c2) < c4] (leaf ret [AV.bool (bif false then true else (↑(bg (c6.gcd c2)) : Int) == (1 : Int))])))); some (fork c10 (ag [c3, nl c6 < c4, c3, nl c2 < c4, c3, c10 = true, c3, (0 : Int) ≤ (0 : Int) ∧ Int.toNat (0 : Int) < nl c2] (fork (bif bif !true then true else !true then true else bif true then (↑(ax c2 (Int.toNat (0 : Int))) : Int) == (1 : Int) else false) c9 c1)) (ag [c3, nl c6 < c4, c3, nl c2 < c4, c3, c10 = false] (fork false c9 c1))) := by kernel_rfl
theorem P7 {q : Rat} {n : Nat} : bu T DV [] 60 tn (au tn) ⟨aL 0 [.rat q n], [], 0⟩ =
  let c2 : Int := (↑(bg q.den) : Int); let c1 : Int := (↑(bg q.num.natAbs) : Int); some (ag [(0 : Nat) < 1, nl q.num.natAbs < 2 ^ 40, (0 : Nat) < 1, nl q.den < 2 ^ 40] (leaf ret [int i64 (if c1 < c2 then c2 else c1)])) := by kernel_rfl
theorem Pb {q : Rat} {n : Nat} : bu T Be [] 60 vP (au vP) ⟨aL 0 [.rat q n], [], 0⟩ =
  some (ag [(0 : Nat) < 1, n < 2 ^ 44] (leaf ret [AV.bool false])) := by kernel_rfl
theorem R9 {q : Rat} {n : Nat} : bu T Be [] 60 vM (au vM) ⟨aL 0 [.rat q n], [], 0⟩ =
  some (ag [(0 : Nat) < 1, n < 2 ^ 44] (leaf ret [AV.bool (decide ((↑(bS q) : Int) > (2048 : Int)))])) := by kernel_rfl
theorem abd {p : Pl} : bu T Be [] 60 tu (au tu) ⟨aL 0 [cS p 2048], [], 0⟩ =
  some (ag [(0 : Nat) < 1, (2048 : Nat) < 2 ^ 42] (leaf ret [AV.bool (decide (dO p.d ≤ (0 : Int)))])) := by kernel_rfl
theorem Zh {n s : Nat} {k : Nat → Rat} : aI T [nG] [] 60 [2] [au y6] ⟨aL 0 [.cL false 3 n (fun i => .rat (k i) s)], [], 0⟩ =
  some (ag [(0 : Nat) * 3 ≤ 2 ^ 24, ((0 : Nat) + n) * ((56 : Nat) + 1) * 2 ≤ 2 ^ 47] (leaf ret ([own 20480 3 0 ((0 : Nat) + n)], [((20480 : Nat), az.mk true true 3 ((0 : Nat) + n) fun i ↦ rat (k (i - 0)) s)]))) := by kernel_rfl
theorem HE {n : Nat} {k : Nat → Rat} {g : FuncId} : aI T GX [] 60 ja (before mo [1,0,1]) ⟨aL 0 [bH k n 2048, .func g []], [], 0⟩ =
  some (leaf normal ([int i64 (0 : Int), ak 3 n fun i ↦ rat (k i) 2048, func g [], int i64 (↑n : Int), int i64 (0 : Int)], [])) := by kernel_rfl
theorem U0 {n i : Nat} {k : Nat → Rat} : aI T GX [9] 60 ja [part mo [1,0,1,0,0]] ⟨aB ja (xT n i k iA), [], 0⟩ =
  let c4 : Int := (↑n : Int); let c2 : AV := ak 3 n fun i ↦ rat (k i) 2048; let c1 : Int := (↑i : Int); let c3 : Int := c1 + (1 : Int); some (fork (decide (c1 < c4)) (ag [(0 : Int) ≤ c1 ∧ c1.toNat < n, (2048 : Nat) ≤ 2048] (ag [-(2 : Int) ^ 63 ≤ c3 ∧ c3 < (2 : Int) ^ 63] (leaf normal ([int i64 (0 : Int), c2, func iA [], int i64 c4, int i64 c3], [])))) (leaf (exit 0) ([int i64 (0 : Int), c2, func iA [], int i64 c4, int i64 c1], []))) := by kernel_rfl
theorem Xc {n i : Nat} {k : Nat → Rat} : aI T GX [9] 60 ja [part mo [1,0,1,0,0]] ⟨aB ja (xT n i k g9), [], 0⟩ =
  let c4 : Int := (↑n : Int); let c2 : AV := ak 3 n fun i ↦ rat (k i) 2048; let c1 : Int := (↑i : Int); let c3 : Int := c1 + (1 : Int); some (fork (decide (c1 < c4)) (ag [(0 : Int) ≤ c1 ∧ c1.toNat < n, (2048 : Nat) ≤ 2048] (ag [-(2 : Int) ^ 63 ≤ c3 ∧ c3 < (2 : Int) ^ 63] (leaf normal ([int i64 (0 : Int), c2, func g9 [], int i64 c4, int i64 c3], [])))) (leaf (exit 0) ([int i64 (0 : Int), c2, func g9 [], int i64 c4, int i64 c1], []))) := by kernel_rfl
theorem KK {n i : Nat} {k : Nat → Rat} {g : FuncId} : b9 T GX [] 60 uM [part mo [1,1]] ⟨aB ja (xT n i k g), [], 0⟩ =
  some (leaf ret [int i64 (-1 : Int)]) := by kernel_rfl
theorem L7 {n : Nat} {f : Nat → Pl} : aI T GX [] 60 ja (before wJ [1,0,1]) ⟨aL 0 [lQ f n 2048, .func fm []], [], 0⟩ =
  some (leaf normal ([int i64 (0 : Int), ak 12 n fun i ↦ agg [agg [rat (f i).n.x 2048, rat (f i).n.y 2048, rat (f i).n.z 2048], rat (f i).d 2048], func fm [], int i64 (↑n : Int), int i64 (0 : Int)], [])) := by kernel_rfl
theorem UZ {n i : Nat} {f : Nat → Pl} : aI T GX [9] 60 ja [part wJ [1,0,1,0,0]] ⟨aB ja (BC n i f fm), [], 0⟩ =
  let c5 : Int := (↑n : Int); let c3 : Prop := 2048 ≤ 2048; let c2 : Int := (↑i : Int); let c1 : AV := ak 12 n fun i ↦ agg [agg [rat (f i).n.x 2048, rat (f i).n.y 2048, rat (f i).n.z 2048], rat (f i).d 2048]; let c4 : Int := c2 + (1 : Int); some (fork (decide (c2 < c5)) (ag [(0 : Int) ≤ c2 ∧ c2.toNat < n, c3, c3, Max.max 2048 2048 ≤ 2048, (0 : Rat) < (f c2.toNat).d] (ag [-(2 : Int) ^ 63 ≤ c4 ∧ c4 < (2 : Int) ^ 63] (leaf normal ([int i64 (0 : Int), c1, func fm [], int i64 c5, int i64 c4], [])))) (leaf (exit 0) ([int i64 (0 : Int), c1, func fm [], int i64 c5, int i64 c2], []))) := by kernel_rfl
theorem Mn {n i : Nat} {f : Nat → Pl} : b9 T GX [] 60 vi [part wJ [1,1]] ⟨aB ja (BC n i f fm), [], 0⟩ =
  some (leaf ret [int i64 (-1 : Int)]) := by kernel_rfl
theorem RX {n : Nat} {k : Nat → Rat} {g : FuncId} : bu T GY [] 60 sX (au sX) ⟨aL 0 [bH k n 2048, .func g []], [], 0⟩ =
  some (ag [ck (fun i ↦ rat (k i) 2048) n 2048, n < 2 ^ 40, g = iA ∨ g = g9] (leaf ret [AV.bool false])) := by kernel_rfl
theorem QL {c : Cu} : aI T Bc [] 60 th (before ur [1,1,0,1]) ⟨aL 0 [en c 2048 2048], [], 0⟩ =
  some (ag [(0 : Nat) < 1, ck (fun i ↦ rat (c.k i) 2048) c.n 2048, (1 : Nat) ≤ c.n, c.n < 2 ^ 30] (ag [(0 : Nat) < 1] (leaf normal ([nil, own 16384 3 0 c.n, ak 12 c.m fun i ↦ agg [agg [rat (c.f i).n.x 2048, rat (c.f i).n.y 2048, rat (c.f i).n.z 2048], rat (c.f i).d 2048], int i64 (↑c.m : Int), int i64 (0 : Int)], [((16384 : Nat), az.mk true true 3 c.n fun i ↦ rat (aT (rat (c.k i) 2048)) 2048)])))) := by kernel_rfl
theorem Xs {c : Cu} {i : Nat} : aI T Bc [13] 60 th [part ur [1,1,0,1,0,0]] ⟨aB th (DN c i), BY c i, 1⟩ =
  let c7 : Int := (↑c.m : Int); let c5 : Int := (↑(3 : Nat) : Int); let c4 : Prop := 0 < 1; let c3 : Int := (↑i : Int); let c2 : Nat := c.n + 4 * i; let c1 : AV := ak 12 c.m fun i ↦ agg [agg [rat (c.f i).n.x 2048, rat (c.f i).n.y 2048, rat (c.f i).n.z 2048], rat (c.f i).d 2048]; let c9 : Nat := c2 + 4; let c8 : Int := c3 + (1 : Int); let c6 : Pl := c.f c3.toNat; some (fork (decide (c3 < c7)) (ag [(0 : Int) ≤ c3 ∧ c3.toNat < c.m, c4] (ag [(0 : Int) ≤ (0 : Int) ∧ (0 : Int) < c5, c4, (0 : Int) ≤ (1 : Int) ∧ (1 : Int) < c5, c4, (0 : Int) ≤ (2 : Int) ∧ (2 : Int) < c5, c4, c4, (4 : Nat) * 3 ≤ 2 ^ 24, c9 * ((56 : Nat) + 1) * 2 ≤ 2 ^ 47] (ag [-(2 : Int) ^ 63 ≤ c8 ∧ c8 < (2 : Int) ^ 63] (leaf normal ([nil, own 73729 3 0 c9, c1, int i64 c7, int i64 c8], [((73729 : Nat), az.mk true true 3 c9 fun i ↦ if i < c2 then rat (iM c i) 2048 else nth [rat c6.n.x 2048, rat c6.n.y 2048, rat c6.n.z 2048, rat c6.d 2048] (rat 0 1) (i - c2 + 0))]))))) (leaf (exit 0) ([nil, own 0 3 0 c2, c1, int i64 c7, int i64 c3], [((0 : Nat), az.mk true true 3 c2 fun j ↦ rat (iM c j) 2048)]))) := by kernel_rfl
theorem aaW {c : Cu} {i : Nat} : b9 T Bc [] 60 uR [part ur [1,1,1]] ⟨aB th (DN c i), BY c i, 1⟩ =
  some (leaf ret [ak 3 (c.n + 4 * i) fun i ↦ rat (iM c (i + 0)) 2048]) := by kernel_rfl
theorem Z9 {N : Nat} (hn : nl N < 2 ^ 40) (K : Nat) : aA P ya K [.mag N] [] (aG (.bool true) []) := by
 refine bC hT (cO bk) hm Q0 rfl (of_decide_eq_true (by kernel_rfl)) rfl 60 aa4 (fun _ => ?_) K []
 simp only [aa.all, ay]
 refine ⟨fun h => ⟨h, .refl _⟩, fun h => ?_⟩
 have h0 : nl N ≠ 0 := fun he => by rw [he] at h; exact absurd h (by decide)
 have h1 : N ≠ 0 := fun he => h0 (gP.2 he)
 have e1 : ((nl N : Int) - 1).toNat = nl N - 1 := by omega
 have h2 := zE h1
 rw [e1]
 refine ⟨⟨h, by omega, by omega⟩, eL ?_⟩
 rw [cond_false]
 exact bne_iff_ne.2 (by omega)
theorem MB : ∀ K args pre r, HW K args pre = some r → aA P ya K args pre r := by
 refine bI fun K args r hk hs _ => ?_
 split at hs
 ·simp only [Option.some.injEq] at hs
  subst hs
  exact fun need => Z9 need K trivial
 ·simp at hs
theorem Fi : aY P DV := cO (aF MB (aF GV (aF HJ (aF KL bk))))
theorem ad9 {N : Nat} (h : nl N = 1) (h1 : ax N 0 = 1) : N = 1 := by
 have h2 : N < 2 ^ (32 * 1) := cA.1 (by omega)
 unfold ax at h1
 omega
theorem PL {q : Rat} {n : Nat} (hn : n < 2 ^ 44) (K : Nat) : aA P xP K [.rat q n] [] (aG (.bool true) []) := by
 refine gF fun ⟨hs1, _⟩ => ?_
 obtain ⟨a1, a2, a3⟩ := Sz.gJ hs1 hn
 refine bC hT Fi hm Xg rfl (of_decide_eq_true (by kernel_rfl)) rfl 60 ads (fun _ => ?_) K []
 obtain ⟨D, hD⟩ : ∃ D, D = if q.den = 1 then 0 else q.den := ⟨_, rfl⟩
 have hD1 : D ≠ 1 := by rw [hD]; split <;> omega
 have hg : D ≠ 0 → q.num.natAbs.gcd D = 1 := fun h => by
  have : D = q.den := by rw [hD] at h ⊢; split <;> simp_all
  rw [this]; exact q.reduced
 have hz : q.num.natAbs = 0 → ¬ q < 0 ∧ D = 0 := fun h => by
  have h0 := j8.1 h
  subst h0
  exact ⟨by decide, by rw [hD]; rfl⟩
 rw [← hD] at a3 ⊢
 have nneg : ((nl q.num.natAbs : Int) == 0) = true → (!decide (q < 0)) = true ∧ ((nl D : Int) == 0) = true := fun h => by
  obtain ⟨z1, z2⟩ := hz (gP.1 (by have := beq_iff_eq.1 h; omega))
  rw [decide_eq_false z1, z2]; exact ⟨rfl, rfl⟩
 have last : ((nl D : Int) == 0) = false → D ≠ 0 := fun h he => by rw [he] at h; exact absurd h (by decide)
 simp only [aa.all, ay, cond_true, cond_false, Bool.not_true]
 refine ⟨fun h => ⟨⟨by omega, a1, by omega, a3, by omega, h, by omega, by omega, ?_⟩, fun h2 => ?_, fun h2 => ⟨by omega, fun h3 => ⟨fun h4 => ⟨⟨by omega, h4, by omega⟩, eL (nneg h3).2⟩, fun h4 => absurd (h4.symm.trans (nneg h3).1) (by decide)⟩, fun h3 => ⟨fun h4 => ⟨⟨by omega, h4⟩, .refl _⟩, fun h4 => ?_⟩⟩⟩,
  fun h => ⟨⟨by omega, a1, by omega, a3, by omega, h⟩, fun h => absurd h (by decide), fun _ => ⟨by omega, fun h3 => ⟨fun h4 => ⟨⟨by omega, h4, by omega⟩, eL (nneg h3).2⟩, fun h4 => absurd (h4.symm.trans (nneg h3).1) (by decide)⟩, fun h3 => ⟨fun h4 => ⟨⟨by omega, h4⟩, .refl _⟩, fun h4 => ?_⟩⟩⟩⟩
 ·have := beq_iff_eq.1 h
  rw [Int.toNat_zero]; omega
 ·have e1 := beq_iff_eq.1 h
  have e2 := beq_iff_eq.1 h2
  exact absurd (ad9 (by omega) (by rw [Int.toNat_zero] at e2; omega)) hD1
 ·rw [hg (last h4)]
  exact ⟨⟨by omega, h4, by omega, by omega, a1, a3, by decide⟩, eL (by decide)⟩
 ·rw [hg (last h4)]
  exact ⟨⟨by omega, h4, by omega, by omega, a1, a3, by decide⟩, eL (by decide)⟩
theorem VK : ∀ K args pre r, EU K args pre = some r → aA P xP K args pre r := by
 refine bI fun K args r hk hs _ => ?_
 split at hs
 ·simp only [Option.some.injEq] at hs
  subst hs
  exact fun need => PL need K trivial
 ·simp at hs
theorem acO {q : Rat} {n : Nat} (hn : n < 2 ^ 44) (K : Nat) : aA P xU K [.rat q n] [] (aG (.int .i64 (bS q : Nat)) []) := by
 refine gF fun ⟨hs1, _⟩ => ?_
 obtain ⟨a1, a2, a3⟩ := Sz.gJ hs1 hn
 refine bC hT Fi hm Wc rfl (of_decide_eq_true (by kernel_rfl)) rfl 60 P7 (fun _ => ?_) K []
 simp only [aa.all, ay]
 refine ⟨⟨by omega, a1, by omega, a2⟩, bq ?_⟩
 unfold bS
 split <;> omega
theorem adl : ∀ K args pre r, Jj K args pre = some r → aA P xU K args pre r := by
 refine bI fun K args r hk hs _ => ?_
 split at hs
 ·simp only [Option.some.injEq] at hs
  subst hs
  exact fun need => acO need K trivial
 ·simp at hs
theorem Cf : aY P Be := cO (aF VK (aF adl g8))
theorem MN : ∀ K args pre r, zF K args pre = some r → aA P iA K args pre r := by
 refine bI fun K args r hk hs _ => ?_
 split at hs
 ·rename_i q n
  simp only [Option.some.injEq] at hs
  subst hs
  intro need
  have hn : n ≤ 2048 := need
  refine bC (r := aG (.bool false) [n ≤ 2048]) hT Cf hm PT rfl (of_decide_eq_true (by kernel_rfl)) rfl 60 Pb (fun _ => ?_) K [] need
  simp only [aa.all, ay]
  (repeat' with_reducible refine And.intro ?_ ?_)
  all_goals first | omega | exact .refl _ | skip
 ·simp at hs
theorem OO : ∀ K args pre r, zF K args pre = some r → aA P g9 K args pre r := by
 refine bI fun K args r hk hs _ => ?_
 split at hs
 ·rename_i q n
  simp only [Option.some.injEq] at hs
  subst hs
  intro need
  have hn : n ≤ 2048 := need
  refine (gF (P := P) (f := g9) (K := K) (args := [.rat q n]) (pre := []) (v := .bool false) (l := [n ≤ 2048]) fun ⟨hs1, _⟩ => ?_) need
  have h1 := Tc.1 hs1
  refine bC (r := aG (.bool false) [n ≤ 2048]) hT Cf hm Va rfl (of_decide_eq_true (by kernel_rfl)) rfl 60 R9 (fun _ => ?_) K []
  simp only [aa.all, ay]
  (repeat' with_reducible refine And.intro ?_ ?_)
  all_goals first | omega | skip
  exact eL (decide_eq_false (by omega))
 ·simp at hs
theorem U4 : ∀ K args pre r, I8 K args pre = some r → aA P fm K args pre r := cK fun ⟨p, _⟩ K hn => by
 have hd : 0 < p.d := hn
 refine bC (r := aG (.bool false) []) hT Cf hm Vb rfl (of_decide_eq_true (by kernel_rfl)) rfl 60 abd (fun _ => ?_) K []
 have hs : dO p.d = 1 := by
  unfold dO
  rw [if_neg (by grind), if_pos hd]
 simp only [aa.all, ay, hs]
 (repeat' with_reducible refine And.intro ?_ ?_)
 all_goals first | omega | decide | exact .refl _ | skip
theorem C1 : aY P GX := cO (aF MN (aF OO (aF U4 bk)))
theorem Wd {n : Nat} {k : Nat → Rat} {g : FuncId} (hn : n < 2 ^ 40) (hg : g = iA ∨ g = g9) (K : Nat) : aA P wO K [bH k n 2048, .func g []] [] (aG (.int .i64 (-1)) []) := by
 rcases hg with rfl | rfl
 ·refine gp (r := aG (.int .i64 (-1)) []) hT C1 hm HT rfl (of_decide_eq_true (by kernel_rfl)) rfl [1,0,1] (i := 0) (y := part mo [1,0,1,0,0]) (z := part mo [1,1]) (by kernel_rfl) (by kernel_rfl) (by kernel_rfl) (f1 := []) (f2 := [9]) (f3 := []) 60 ja 0
   (fun i : Nat => xT n i k iA) (fun _ => []) (fun i => i ≤ n) (fun i => i = n) (fun i => n - i) (fun _ => ⟨⟨_, HE, ?_⟩, fun i hi => ⟨_, U0, ?_⟩, fun i hi => ⟨_, KK, ?_⟩⟩) K []
  ·simp only [aa.all, ay]
   exact ⟨0, Nat.zero_le _, [], rfl, rfl, rfl, trivial⟩
  ·simp only [aa.all, ay, decide_eq_true_eq, decide_eq_false_iff_not, Int.toNat_natCast]
   exact ⟨fun h => ⟨⟨by omega, by omega⟩, by omega, i + 1, by omega, by dsimp only; omega, [], rfl, rfl, rfl, trivial⟩, fun h => ⟨rfl, i, by omega, [], rfl, rfl, rfl, trivial⟩⟩
  ·simp only [aa.all, ay]
   exact .refl _
 ·refine gp (r := aG (.int .i64 (-1)) []) hT C1 hm HT rfl (of_decide_eq_true (by kernel_rfl)) rfl [1,0,1] (i := 0) (y := part mo [1,0,1,0,0]) (z := part mo [1,1]) (by kernel_rfl) (by kernel_rfl) (by kernel_rfl) (f1 := []) (f2 := [9]) (f3 := []) 60 ja 0
   (fun i : Nat => xT n i k g9) (fun _ => []) (fun i => i ≤ n) (fun i => i = n) (fun i => n - i) (fun _ => ⟨⟨_, HE, ?_⟩, fun i hi => ⟨_, Xc, ?_⟩, fun i hi => ⟨_, KK, ?_⟩⟩) K []
  ·simp only [aa.all, ay]
   exact ⟨0, Nat.zero_le _, [], rfl, rfl, rfl, trivial⟩
  ·simp only [aa.all, ay, decide_eq_true_eq, decide_eq_false_iff_not, Int.toNat_natCast]
   exact ⟨fun h => ⟨⟨by omega, by omega⟩, by omega, i + 1, by omega, by dsimp only; omega, [], rfl, rfl, rfl, trivial⟩, fun h => ⟨rfl, i, by omega, [], rfl, rfl, rfl, trivial⟩⟩
  ·simp only [aa.all, ay]
   exact .refl _
theorem Rj : ∀ K args pre r, Ga K args pre = some r → aA P wO K args pre r := cK fun ⟨⟨n, k⟩, g, _⟩ K hn => Wd hn.1 hn.2 K
theorem aaU : aY P GY := cO (aF Rj bk)
theorem aaq : ∀ K args pre r, Gb K args pre = some r → aA P AN K args pre r := cK fun ⟨⟨n, k⟩, g, _⟩ K hn => by
 refine bC (r := aG (.bool false) []) hT aaU hm Nx rfl (of_decide_eq_true (by kernel_rfl)) rfl 60 RX (fun _ => ?_) K []
 simp only [aa.all, ay]
 exact ⟨⟨dj (Nat.le_refl _), hn.1, hn.2⟩, .refl _⟩
noncomputable def LB : Spec := cP (kC (AG 2048) (kC z3 kN)) (fun _ => .int .i64 (-1)) fun a => [a.1.1 < 2 ^ 40, ∀ i, i < a.1.1 → 0 < (a.1.2 i).d, a.2.1 = fm]
noncomputable def Hj : Spec := cP (kC (AG 2048) (kC z3 kN)) (fun _ => .bool false) fun a => [a.1.1 < 2 ^ 40, ∀ i, i < a.1.1 → 0 < (a.1.2 i).d, a.2.1 = fm]
noncomputable def LD : aQ := nG :: (u7, LB) :: []
noncomputable def GW : aQ := nG :: (wD, LQ) :: (AN, Gb) :: (yx, Hj) :: (qG, EA) :: (oE, tw) :: []
theorem acQ {n : Nat} {f : Nat → Pl} (hn : n < 2 ^ 40) (hf : ∀ i, i < n → 0 < (f i).d) (K : Nat) : aA P u7 K [lQ f n 2048, .func fm []] [] (aG (.int .i64 (-1)) []) := by
 refine gp (r := aG (.int .i64 (-1)) []) hT C1 hm YM rfl (of_decide_eq_true (by kernel_rfl)) rfl [1,0,1] (i := 0) (y := part wJ [1,0,1,0,0]) (z := part wJ [1,1]) (by kernel_rfl) (by kernel_rfl) (by kernel_rfl) (f1 := []) (f2 := [9]) (f3 := []) 60 ja 0
  (fun i : Nat => BC n i f fm) (fun _ => []) (fun i => i ≤ n) (fun i => i = n) (fun i => n - i) (fun _ => ⟨⟨_, L7, ?_⟩, fun i hi => ⟨_, UZ, ?_⟩, fun i hi => ⟨_, Mn, ?_⟩⟩) K []
 ·simp only [aa.all, ay]
  exact ⟨0, Nat.zero_le _, [], rfl, rfl, rfl, trivial⟩
 ·simp only [aa.all, ay, decide_eq_true_eq, decide_eq_false_iff_not, Int.toNat_natCast]
  exact ⟨fun h => ⟨⟨by omega, by omega, by omega, by decide, hf i (by omega)⟩, by omega, i + 1, by omega, by dsimp only; omega, [], rfl, rfl, rfl, trivial⟩, fun h => ⟨rfl, i, by omega, [], rfl, rfl, rfl, trivial⟩⟩
 ·simp only [aa.all, ay]
  exact .refl _
theorem RB : ∀ K args pre r, LB K args pre = some r → aA P u7 K args pre r := cK fun ⟨⟨n, f⟩, g, _⟩ K hn => by
 have hg : g = fm := hn.2.2
 subst hg
 exact acQ hn.1 hn.2.1 K
theorem NH {args : List AV} {n : Nat} {k : Nat → Rat} {l : List Prop} (ha : ay l → ey (aS []) args [.cL false 3 n (fun i => .rat (k i) 2048)]) (hn : ay l → 1 ≤ n ∧ n < 2 ^ 30) (K : Nat) : aA P rF K args [] ⟨jA [.own K 3 0 n], [(K, ⟨true, true, 3, n, fun i => .rat (k i) 2048⟩)], l⟩ := by
 refine HL hT ac4 ha (of_decide_eq_true (by kernel_rfl)) fun need c hk => ?_
 obtain ⟨h1, h2⟩ := hn need
 refine aq.aZ hT (cO bk) hm 60 [2] Zh (by kernel_rfl) ?_
 simp only [aa.all, ay]
 exact ⟨⟨by omega, by omega⟩, fun s' hs' => ⟨.inr trivial, [2], _, [.own 20480 3 0 (0 + n)], _, 20480, _, hs', by kernel_rfl, ⟨⟨rfl, cF (by simp [aS, look]) rfl (by omega)⟩, trivial⟩, rfl, gQ (by omega) fun i hi => aH rfl⟩⟩
theorem QU {n : Nat} {k : Nat → Rat} {l : List Prop} (hn : ay l → 1 ≤ n ∧ n < 2 ^ 30) (K : Nat) : aA P rF K [bH k n 2048] [] ⟨jA [.own K 3 0 n], [(K, ⟨true, true, 3, n, fun i => .rat (k i) 2048⟩)], l⟩ := by
 refine Ky fun b hb => ?_
 intro need
 have h1 := hn need
 cases b
 ·exact NH (args := [.cL false 3 n (fun i => .rat (k i) 2048)]) (fun _ => ⟨⟨rfl, aH rfl⟩, trivial⟩) hn K need
 ·have := hb rfl
  omega
theorem OR : ∀ K args pre r, Jg K args pre = some r → aA P rF K args pre r := by
 refine yG fun K args r hk hs => ?_
 split at hs
 ·rename_i v
  split at hs
  ·rename_i n k q hv
   simp only [Option.some.injEq] at hs
   subst hs
   intro need
   obtain ⟨hn1, hn2⟩ := dF.1 need
   exact eR (QU (l := q ++ [1 ≤ n, n < 2 ^ 30]) (fun h => ⟨(dF.1 h).2.1, (dF.1 h).2.2⟩) K) hk ⟨(kL 2048).ok hv hn1, trivial⟩ [] need
  ·simp at hs
 ·simp at hs
theorem ZG : aY P Bc := cO (aF OR bk)
theorem Qc {c : Cu} {i j : Nat} {rl : List (Nat × Nat)} (hj : j < c.n + 4 * i + 4) : fq rl (if j < c.n + 4 * i then .rat (iM c j) 2048 else nth [.rat (c.f i).n.x 2048, .rat (c.f i).n.y 2048, .rat (c.f i).n.z 2048, .rat (c.f i).d 2048] (.rat 0 1) (j - (c.n + 4 * i) + 0)) (.rat (iM c j) 2048) := by
 by_cases h : j < c.n + 4 * i
 ·rw [if_pos h]; exact aM rfl rfl
 ·rw [if_neg h]
  have key : ∀ a, a < 4 → j = c.n + 4 * i + a → iM c j = mN (c.f i) a := fun a ha hj => by
   unfold iM
   rw [if_neg (by omega), show (j - c.n) / 4 = i by omega, show (j - c.n) % 4 = a by omega]
  rcases (show j = c.n + 4 * i + 0 ∨ j = c.n + 4 * i + 1 ∨ j = c.n + 4 * i + 2 ∨ j = c.n + 4 * i + 3 by omega) with h' | h' | h' | h'
  ·rw [key 0 (by omega) h', h', show c.n + 4 * i + 0 - (c.n + 4 * i) + 0 = 0 by omega]; exact aM rfl rfl
  ·rw [key 1 (by omega) h', h', show c.n + 4 * i + 1 - (c.n + 4 * i) + 0 = 1 by omega]; exact aM rfl rfl
  ·rw [key 2 (by omega) h', h', show c.n + 4 * i + 2 - (c.n + 4 * i) + 0 = 2 by omega]; exact aM rfl rfl
  ·rw [key 3 (by omega) h', h', show c.n + 4 * i + 3 - (c.n + 4 * i) + 0 = 3 by omega]; exact aM rfl rfl
theorem R7 {c : Cu} (h1 : 1 ≤ c.n) (hn : c.n < 2 ^ 30) (hm2 : c.m < 2 ^ 28) (K : Nat) : aA P wD K [en c 2048 2048] [] (aG (bH (iM c) (c.n + 4 * c.m) 2048) []) := by
 refine gp (r := aG (bH (iM c) (c.n + 4 * c.m) 2048) []) hT ZG hm acA rfl (of_decide_eq_true (by kernel_rfl)) rfl [1,1,0,1] (i := 0) (y := part ur [1,1,0,1,0,0]) (z := part ur [1,1,1]) (by kernel_rfl) (by kernel_rfl) (by kernel_rfl) (f1 := []) (f2 := [13]) (f3 := []) 60 th 1
  (fun i : Nat => DN c i) (fun i => BY c i) (fun i => i ≤ c.m) (fun i => i = c.m) (fun i => c.m - i) (fun _ => ⟨⟨_, QL, ?_⟩, fun i hi => ⟨_, Xs, ?_⟩, fun i hi => ⟨_, aaW, ?_⟩⟩) K []
 ·simp only [aa.all, ay]
  exact ⟨⟨by omega, dj (Nat.le_refl _), by omega, by omega⟩, by omega, 0, Nat.zero_le _, [(0, 16384)], rfl, rfl, rfl, bD rfl rfl rfl (fun j hj => aM rfl (by unfold iM; rw [if_pos (by omega)]; rfl)) trivial⟩
 ·simp only [aa.all, ay, decide_eq_true_eq, decide_eq_false_iff_not, Int.toNat_natCast]
  refine ⟨fun h => ?_, fun h => ⟨rfl, i, by omega, [(0, 0)], rfl, rfl, rfl, bD rfl rfl rfl (fun j hj => aM rfl rfl) trivial⟩⟩
  (repeat' with_reducible refine And.intro ?_ ?_)
  all_goals first | omega | decide | skip
  refine ⟨i + 1, by omega, by dsimp only; omega, [(0, 73729)], rfl, ?_, rfl, bD rfl rfl ?_ (fun j hj => Qc (by omega)) trivial⟩
  ·show _ = [_, AV.own 0 3 0 (c.n + 4 * (i + 1)), _, _, _].map _
   rw [show c.n + 4 * (i + 1) = c.n + 4 * i + 4 by omega]; rfl
  ·show c.n + 4 * (i + 1) = c.n + 4 * i + 4
   omega
 ·subst hi
  simp only [aa.all, ay]
  exact .refl _
theorem WS : ∀ K args pre r, LQ K args pre = some r → aA P wD K args pre r := cK fun ⟨c, _⟩ K hn => R7 hn.1 hn.2.1 hn.2.2 K
theorem abV {n : Nat} {f : Nat → Pl} : bu T LD [] 60 xd (au xd) ⟨aL 0 [lQ f n 2048, .func fm []], [], 0⟩ =
  some (ag [ir (fun i ↦ cS (f i) 2048) n 2048, n < 2 ^ 40, ∀ (i : Nat), i < n → 0 < aT (rat (f i).d 2048), fm = fm] (leaf ret [AV.bool false])) := by kernel_rfl
theorem SF {c : Cu} : bu T GW [200015, 200017] 60 xg (au xg) ⟨aL 0 [en c 2048 2048], [], 0⟩ =
  let c5 : Nat := c.n + 4 * c.m; let c4 : Prop := ir (fun i ↦ cS (c.f i) 2048) c.m 2048; let c3 : Nat := 2 ^ 40; let c2 : Prop := 0 < 1; let c1 : Prop := ck (fun i ↦ rat (iM (Cu.mk c.p c.n (fun i ↦ aT (rat (c.k i) 2048)) c.m fun i ↦ jW (cS (c.f i) 2048)) i) 2048) c5 2048; some (ag [c2, ck (fun i ↦ rat (c.k i) 2048) c.n 2048, c4, (1 : Nat) ≤ c.n, c.n < 2 ^ 30, c.m < 2 ^ 28] (ag [c1, c5 < c3, (114 : Nat) = iA ∨ 114 = g9] (ag [c2, c2, ck (fun i ↦ rat (c.k i) 2048) c.n sJ, c.n < c3] (ag [(fh c.n (fun i ↦ aT (rat (c.k i) 2048)) c.p != (0 : Int)) = false] (ag [c2, c2, c2, ck (fun i ↦ rat (c.k i) 2048) c.n sK, c.n < c3, -(2 : Int) ^ 40 < c.p, c.p < (2 : Int) ^ 40] (ag [((↑c.m : Int) != (↑c.n : Int) - c.p - (1 : Int)) = false] (ag [c2, c4, c.m < c3, ∀ (i : Nat), i < c.m → 0 < aT (rat (c.f i).d 2048), (116 : Nat) = fm] (ag [c1, c5 < c3, (117 : Nat) = iA ∨ 117 = g9] (leaf ret [int i64 (0 : Int)]))))))))) := by kernel_rfl
theorem XR : aY P LD := cO (aF RB bk)
theorem Wg : ∀ K args pre r, Hj K args pre = some r → aA P yx K args pre r := cK fun ⟨⟨n, f⟩, g, _⟩ K hn => by
 have hg : g = fm := hn.2.2
 subst hg
 refine bC (r := aG (.bool false) []) hT XR hm NI rfl (of_decide_eq_true (by kernel_rfl)) rfl 60 abV (fun _ => ?_) K []
 simp only [aa.all, ay]
 exact ⟨⟨kM (Nat.le_refl _), hn.1, hn.2.1, by trivial⟩, .refl _⟩
theorem adZ : aY P GW := cO (aF WS (aF aaq (aF Wg (aF Fq (aF yR bk)))))
noncomputable def JM : Spec := cP (kC (kj 2048 2048) kN) (fun _ => .int .i64 0) fun a => [fl a.1, ∀ i, i < a.1.m → 0 < (a.1.f i).d]
theorem adJ : ∀ K args pre r, JM K args pre = some r → aA P yz K args pre r := cK fun ⟨c, _⟩ K hn => by
 obtain ⟨⟨h1, h2, h3, h4, h5⟩, hw⟩ : fl c ∧ _ := hn
 have hl := h1.len
 refine bC (r := aG (.int .i64 0) []) hT adZ hm adg rfl (of_decide_eq_true (by kernel_rfl)) rfl 60 SF (fun _ => ?_) K []
 have hc0 : fh c.n c.k c.p = 0 := by have := h1.EF (by omega) h4; rwa [Int.toNat_of_nonneg (by omega)] at this
 simp only [aa.all, ay]
 (repeat' with_reducible refine And.intro ?_ ?_)
 all_goals first | omega | exact dj (by decide) | exact kM (by decide) | exact hw | exact bne_eq_false_iff_eq.2 hc0 | exact bne_eq_false_iff_eq.2 h5 | exact .inl trivial | exact .inr trivial | trivial | exact .refl _ | skip
end Go.Am.B

/- ref10.Check. -/
namespace Go.Am.B
open Go Go.Am.N AV aa ah IntKind
end Go.Am.B
