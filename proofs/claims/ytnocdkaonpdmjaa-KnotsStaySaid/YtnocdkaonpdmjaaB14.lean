/- natural.Gcd. -/
import Derived.Test.YtnocdkaonpdmjaaB13
set_option linter.unusedVariables false
namespace Go.Am.B
open Go Go.Am.N AV
theorem is_natural_Gcd : FnIs P natural_Gcd fn_natural_Gcd (codeOf fn_natural_Gcd) := fnIs get_natural_Gcd (by kernel_rfl) (by kernel_rfl) (by kernel_rfl)
def GG : Contracts := (natural_Div, pureSpec (spec2 g_div)) :: (slices_Clone_uint32_uint32, s_clone) :: (natural_word, pureSpec (spec1 g_word)) :: (natural_Of, s_of) :: G1
noncomputable abbrev gcdG : Code := part (codeOf fn_natural_Gcd) [1,1,1]
theorem GG_ok : GOK P GG := gok_cons s_div (gok_cons s_clone_ok (gok_cons s_word (gok_cons s_of_ok G1_ok)))
theorem gcd_1 {n m : Nat} {z y : Nat → Nat} : seeL T GG [] 60 [5, 6] (before (codeOf fn_natural_Gcd) [1,1,0]) ⟨zipSlots 0 [.tab 1 n (limbsF z), .tab 1 m (limbsF y)], [], 0⟩ =
    some (ATree.must [Limbs n (limbsF z), n < 2 ^ 62, nl (val n fun (i : Nat) ↦ numOf (limbsF z i)) < 2 ^ 40, Limbs m (limbsF y), m < 2 ^ 62, nl (val m fun (i : Nat) ↦ numOf (limbsF y i)) < 2 ^ 40] (ATree.leaf AEx.normal ([mag (val n fun (i : Nat) ↦ numOf (limbsF z i)), mag (val m fun (i : Nat) ↦ numOf (limbsF y i))], []))) := by kernel_rfl
theorem gcd_2 {X Y : Nat} : seeL T GG [23] 60 [5, 6] [part (codeOf fn_natural_Gcd) [1,1,0,0,0]] ⟨zipL [5, 6] [.mag X, .mag Y], [], 0⟩ =
    some (ATree.fork (decide ((↑(nl Y) : Int) > (2 : Int))) (ATree.must [nl X < 2 ^ 40, nl Y < 2 ^ 40] (ATree.leaf AEx.normal ([mag Y, mag (if Y = 0 then 0 else X % Y)], []))) (ATree.leaf (AEx.exit 0) ([mag X, mag Y], []))) := by kernel_rfl
theorem gcd_3 {X Y : Nat} : seeL T GG [35, 39] 60 [13, 14, 4] (before gcdG [1,1,1,0]) ⟨zipL [5, 6] [.mag X, .mag Y], [], 0⟩ =
    some (ATree.fork ((↑(nl Y) : Int) == (0 : Int)) (ATree.leaf AEx.ret ([tuple [], tuple [], mag X], [])) (ATree.fork (decide ((↑(nl X) : Int) > (2 : Int))) (ATree.must [nl X < 2 ^ 40, nl Y < 2 ^ 40] (ATree.must [nl Y ≤ 2, nl (if Y = 0 then 0 else X % Y) ≤ 2] (ATree.leaf AEx.normal ([int IntKind.u64 (↑Y : Int), int IntKind.u64 (↑(if Y = 0 then 0 else X % Y) : Int), tuple []], [])))) (ATree.must [nl X ≤ 2, nl Y ≤ 2] (ATree.leaf AEx.normal ([int IntKind.u64 (↑X : Int), int IntKind.u64 (↑Y : Int), tuple []], []))))) := by kernel_rfl
theorem gcd_4 {x y : Nat} : seeL T GG [54] 60 [13, 14] [part gcdG [1,1,1,0,0,0]] ⟨zipL [13, 14] [.int .u64 x, .int .u64 y], [], 0⟩ =
    some (ATree.fork ((↑y : Int) != (0 : Int)) (ATree.must [(↑y : Int) ≠ (0 : Int)] (ATree.leaf AEx.normal ([int IntKind.u64 (↑y : Int), int IntKind.u64 ((↑x : Int).tmod (↑y : Int))], []))) (ATree.leaf (AEx.exit 2) ([int IntKind.u64 (↑x : Int), int IntKind.u64 (↑y : Int)], []))) := by kernel_rfl
theorem gcd_5 {x y : Nat} : endL T GG [] 60 fn_natural_Gcd (behind gcdG [1,1,1,0]) ⟨zipL [13, 14] [.int .u64 x, .int .u64 y], [], 0⟩ =
    some (ATree.must [(0 : Int) ≤ (↑x : Int) ∧ (↑x : Int) < (2 : Int) ^ 64] (ATree.leaf AEx.ret [mag (↑x : Int).toNat])) := by kernel_rfl
theorem nl_two {Y : Nat} (h : nl Y ≤ 2) : Y < 2 ^ 64 := nl_spec.1 h
theorem natural_Gcd_ok {n m : Nat} {z y : Nat → Nat} (hz : ∀ i, i < n → z i < 2 ^ 32) (hy : ∀ i, i < m → y i < 2 ^ 32) (hn : n < 2 ^ 40) (hm' : m < 2 ^ 40) (K : Nat) (pre : Store) :
    FOK P natural_Gcd K [.tab 1 n (limbsF z), .tab 1 m (limbsF y)] pre (pres (.mag (Nat.gcd (val n z) (val m y))) []) := by
  refine fok_pure hT is_natural_Gcd rfl (of_decide_eq_true (by kernel_rfl)) rfl (fun _ c h0 => ?_) K pre
  have hk0 : ∀ {nx : Nat} k x, c.k0 k = some x → k < nx := k0_none h0
  have hA : nl (val n z) ≤ n := nl_spec.2 (val_lt hz)
  have hB : nl (val m y) ≤ m := nl_spec.2 (val_lt hy)
  refine AWp.hole [1,1,0] (by kernel_rfl) (AWpL.see hT GG_ok hm 60 [5, 6] gcd_1 (by kernel_rfl) ?_)
  simp only [ATree.all, allP, val_numOf]
  generalize val n z = A at *
  generalize val m y = B at *
  refine ⟨⟨limbs_limbsF hz, by omega, by omega, limbs_limbsF hy, by omega, by omega⟩, fun s' hv => then_go ?_⟩
  refine AWp.whileV (i := 0) (y := part (codeOf fn_natural_Gcd) [1,1,0,0,0]) (by kernel_rfl) [5, 6] 0 hk0 (fun p : Nat × Nat => [.mag p.1, .mag p.2]) (fun _ => []) (fun _ => rfl) (fun _ => trivial)
    (fun p => Nat.gcd p.1 p.2 = Nat.gcd A B ∧ nl p.1 < 2 ^ 40 ∧ nl p.2 < 2 ^ 40) (fun p => p.2) (A, B) hv ⟨rfl, by simp only; omega, by simp only; omega⟩ ?_
  rintro ⟨X, Y⟩ ⟨hg, hX, hY⟩
  simp only at hg hX hY
  refine AWp.see hT GG_ok hm 60 [5, 6] gcd_2 (by kernel_rfl) ?_
  simp only [ATree.all, allP, decide_eq_true_eq, decide_eq_false_iff_not]
  have hstep : ∀ {X Y : Nat}, Y ≠ 0 → Nat.gcd Y (X % Y) = Nat.gcd X Y := fun {X Y} _ => by rw [Nat.gcd_comm X Y, Nat.gcd_rec Y X, Nat.gcd_comm]
  refine ⟨fun hb => ⟨⟨hX, hY⟩, fun s' hv => ?_⟩, fun hb s' hv => then_exit ?_⟩
  · have hY0 : Y ≠ 0 := nl_pos.1 (by omega)
    have hlt := Nat.mod_lt X (show 0 < Y by omega)
    refine ⟨(Y, X % Y), view_eq hv (by rw [if_neg hY0]) rfl, ⟨by rw [← hg]; exact hstep hY0, hY, Nat.lt_of_le_of_lt (nl_mono (Nat.le_of_lt hlt)) hY⟩, hlt⟩
  have hY2 : nl Y ≤ 2 := by omega
  refine then_go (AWpL.fromV (nx := 0) hv hk0 (by kernel_rfl) rfl trivial ?_)
  show AWpL P c fn_natural_Gcd.ntmps [gcdG] _ _
  refine AWp.hole [1,1,1,0] (by kernel_rfl) (AWpL.see hT GG_ok hm 60 [13, 14, 4] gcd_3 (by kernel_rfl) ?_)
  simp only [ATree.all, allP, decide_eq_true_eq, decide_eq_false_iff_not, beq_iff_eq, beq_eq_false_iff_ne, ne_eq]
  have rest : ∀ {x y : Nat} {s' : AState}, x < 2 ^ 64 → y < 2 ^ 64 → Nat.gcd x y = Nat.gcd A B → viewAV [13, 14, 4] s' = some ([.int .u64 (x : Nat), .int .u64 (y : Nat)] ++ [.tuple []], []) →
      AWp P c fn_natural_Gcd.ntmps (part gcdG [1,1,1,0]) s' (thenDo (fun s' => AWpL P c fn_natural_Gcd.ntmps (behind gcdG [1,1,1,0]) s' (thenDo (fun s' => AWpL P c fn_natural_Gcd.ntmps [] s' (Fin T fn_natural_Gcd (.mag (Nat.gcd A B)))) (Fin T fn_natural_Gcd (.mag (Nat.gcd A B)))))
        (thenDo (fun s' => AWpL P c fn_natural_Gcd.ntmps [] s' (Fin T fn_natural_Gcd (.mag (Nat.gcd A B)))) (Fin T fn_natural_Gcd (.mag (Nat.gcd A B))))) := by
    intro x y s' hx hy hg hv
    have hv := view_take (ls := [13, 14]) (l := [4]) (vs := [.int .u64 (x : Nat), .int .u64 (y : Nat)]) hv rfl rfl
    refine AWp.whileV (i := 2) (y := part gcdG [1,1,1,0,0,0]) (by kernel_rfl) [13, 14] 0 hk0 (fun p : Nat × Nat => [.int .u64 (p.1 : Nat), .int .u64 (p.2 : Nat)]) (fun _ => []) (fun _ => rfl) (fun _ => trivial)
      (fun p => Nat.gcd p.1 p.2 = Nat.gcd A B ∧ p.1 < 2 ^ 64 ∧ p.2 < 2 ^ 64) (fun p => p.2) (x, y) hv ⟨hg, hx, hy⟩ ?_
    rintro ⟨x, y⟩ ⟨hg, hx, hy⟩
    simp only at hg hx hy
    refine AWp.see hT GG_ok hm 60 [13, 14] gcd_4 (by kernel_rfl) ?_
    simp only [ATree.all, allP, bne_iff_ne, ne_eq, bne_eq_false_iff_eq]
    refine ⟨fun hb => ⟨hb, fun s' hv => ?_⟩, fun hb s' hv => then_exit ?_⟩
    · have hy0 : y ≠ 0 := by omega
      have hlt := Nat.mod_lt x (show 0 < y by omega)
      exact ⟨(y, x % y), view_eq hv (by rw [← Int.ofNat_tmod]) rfl, ⟨by rw [← hg]; exact hstep hy0, hy, by simp only; omega⟩, hlt⟩
    · have hy0 : y = 0 := by omega
      subst hy0
      refine then_go ?_
      refine AWpL.mono (Q := Fin T fn_natural_Gcd (.mag (Nat.gcd A B))) (fun e s' h => by cases e <;> exact h) ?_
      refine AWpL.finV hT GG_ok hm 60 (nx := 0) hv hk0 rfl trivial gcd_5 (by kernel_rfl) (by kernel_rfl) ⟨⟨by omega, by omega⟩, avLe0_of_eq ?_⟩
      rw [Int.toNat_natCast, ← hg, Nat.gcd_zero_right]
  refine ⟨fun hb s' hv => then_ret (then_ret ?_), fun hb => ⟨fun h1 => ⟨⟨hX, hY⟩, ⟨by omega, ?_⟩, fun s' hv => then_go (rest (nl_two hY2) ?_ ?_ (view_eq hv rfl rfl))⟩, fun h1 => ⟨⟨by omega, by omega⟩, fun s' hv => then_go (rest (nl_two (by omega)) (nl_two hY2) hg (view_eq hv rfl rfl))⟩⟩⟩
  · have hY0 : Y = 0 := by
      rcases Nat.eq_zero_or_pos Y with h1 | h1
      · exact h1
      · have := nl_pos.2 (show Y ≠ 0 by omega); omega
    refine fin_view (us := [.mag X]) (.inr rfl) hv (by kernel_rfl) (avLe0_of_eq ?_)
    rw [← hg, hY0, Nat.gcd_zero_right]
  all_goals
    have hY0 : Y ≠ 0 := nl_pos.1 (by omega)
    have hlt := Nat.mod_lt X (show 0 < Y by omega)
    rw [if_neg hY0]
  · exact Nat.le_trans (nl_mono (Nat.le_of_lt hlt)) hY2
  · exact Nat.lt_trans hlt (nl_two hY2)
  · rw [← hg]; exact hstep hY0
def g_gcd (A n B m : Nat) : CRes := pres (.mag (Nat.gcd A B)) [n < 2 ^ 40, m < 2 ^ 40]
theorem s_gcd : ∀ K args pre r, pureSpec (spec2 g_gcd) K args pre = some r → FOK P natural_Gcd K args pre r :=
  pureSpec_ok (spec2_ok fun _ _ _ _ K hz hy need => natural_Gcd_ok hz hy need.1 need.2 K [])
end Go.Am.B
