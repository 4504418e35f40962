/- natural.Div: its contract. -/
import Derived.Test.YtnocdkaonpdmjaaB12
set_option linter.unusedVariables false
namespace Go.Am.B
open Go Go.Am.N AV
abbrev divRes (A B : Nat) : AV := .tuple [.mag (A / B), .mag (if B = 0 then 0 else A % B), .int .i64 (if B = 0 then 3 else 0)]
theorem limbs_limb {n N : Nat} : Limbs n (limbsF (limb N)) := limbs_limbsF fun _ _ => limb_lt
theorem cmpI_lt {a b : Nat} : cmpI a b < 0 ↔ a < b := by
  unfold cmpI
  split
  · simp_all
  · split <;> simp_all
theorem then_go {k : AState → Prop} {Q : AEx → AState → Prop} {s : AState} (h : k s) : thenDo k Q .normal s := h
theorem div_long {c : Ctx} (h0 : c.k0 = noKeys) {A B : Nat} (hA : nl A < 2 ^ 40) (hn2 : 2 ≤ nl B) (hAB : B ≤ A) {Q : AEx → AState → Prop} {s' : AState}
    (hv : viewAV [0, 1, 4, 5, 6] s' = some ([.mag A, .mag B, .nil, .nil, .int .i64 0], []))
    (fin : ∀ s lq V s', s < 32 → V = B * 2 ^ s → nl V = nl B → 2 ^ 31 ≤ limb V (nl V - 1) → lq + nl V = nl A + 1 → (∃ ρ, Le c ρ s' ⟨zipL divLs (divVs lq s (nl A + 1) V ((lq : Int) - 1)), divOs lq (nl A + 1) (fun _ => 0) (limb (A * 2 ^ s)), 9⟩) → Q .normal s') :
    AWpL P c fn_natural_Div.ntmps ((before (codeOf fn_natural_Div) divLoop).drop (2 + 1)) s' Q := by
  have hk0 : ∀ {nx : Nat} k x, c.k0 k = some x → k < nx := k0_none h0
  have hABn : nl B ≤ nl A := nl_mono hAB
  have hB0 : B ≠ 0 := fun h => by subst h; simp [nl] at hn2
  refine AWpL.chunk 1 (AWpL.seeV hT GD_ok hm 60 (nx := 0) hv hk0 rfl trivial [0, 1, 9] div_3 (by kernel_rfl) (by kernel_rfl) ?_)
  have w1 : IntKind.i64.wrap ((nl B : Int) - 1) = ((nl B - 1 : Nat) : Int) := i64_nat (by omega) (by omega)
  rw [w1]
  simp only [ATree.all, allP, Int.toNat_natCast]
  have hlB := limb_lt (N := B) (i := nl B - 1)
  refine ⟨⟨by omega, by omega⟩, fun s' hv => then_go ?_⟩
  obtain ⟨s, hs⟩ : ∃ s, s = 32 - bitsN (limb B (nl B - 1)) := ⟨_, rfl⟩
  rw [← hs] at hv
  obtain ⟨hs32, hnV, hnorm, hVlt⟩ := norm_div hB0 hs
  rw [List.drop_drop]
  refine AWpL.chunk 1 (AWpL.seeV hT GD_ok hm 60 (nx := 0) hv hk0 rfl trivial [9, 10, 11] div_4 (by kernel_rfl) (by kernel_rfl) ?_)
  simp only [ATree.all, allP, Int.toNat_natCast, Nat.add_zero]
  refine ⟨⟨by omega, by omega, by omega, by omega, by omega, by omega, limbs_limb, by omega⟩, fun s' hv => then_go ?_⟩
  have hV1 : (val (nl B + 1) fun i => numOf (limbsF (limb (B * 2 ^ s)) i)) = B * 2 ^ s := by
    rw [val_numOf, val_limb]
    exact Nat.lt_of_lt_of_le hVlt (Nat.pow_le_pow_right (by omega) (by omega))
  rw [hV1] at hv
  obtain ⟨V, hV⟩ : ∃ V, V = B * 2 ^ s := ⟨_, rfl⟩
  rw [← hV] at hv hnV hnorm hVlt
  obtain ⟨lq, hlq⟩ : ∃ lq, lq = nl A + 1 - nl V := ⟨_, rfl⟩
  rw [List.drop_drop]
  refine AWpL.weak (by kernel_rfl) (le_view (vs := [.int .i64 s, .own 7 1 0 (nl A + 1), .mag V]) (ps := [(7, ⟨true, true, 1, nl A + 1, limbsF (limb (A * 2 ^ s))⟩)]) (nx := 8) [(7, 8192)] hv h0 rfl
    ⟨⟨rfl, avLe_pure rfl⟩, ⟨rfl, avLe_own rfl rfl rfl⟩, ⟨rfl, avLe_pure rfl⟩, trivial⟩ ⟨⟨_, _, rfl, rfl, objLe_limbs rfl fun j _ => rfl⟩, trivial⟩) ?_
  refine AWpL.see hT GD_ok hm 60 divLs div_5 (by kernel_rfl) ?_
  have w2 : IntKind.i64.wrap (((nl A + 1 : Nat) : Int) - (nl V : Int)) = ((lq : Nat) : Int) := i64_nat (by omega) (by omega)
  have w3 : IntKind.i64.wrap ((lq : Int) - 1) = (lq : Int) - 1 := wrap_i64 (by omega) (by omega)
  rw [w2]
  simp only [ATree.all, allP, Int.toNat_natCast, w3]
  exact ⟨by omega, fun s' hv => fin s lq V s' hs32 hV hnV (by rw [hnV]; exact hnorm) (by omega) (le_view (vs := divVs lq s (nl A + 1) V ((lq : Int) - 1)) (ps := divOs lq (nl A + 1) (fun _ => 0) (limb (A * 2 ^ s))) (nx := 9) [(7, 7), (8, 28680)] hv h0 rfl
    ⟨⟨rfl, avLe_own rfl rfl rfl⟩, ⟨rfl, avLe_pure rfl⟩, ⟨rfl, avLe_own rfl rfl rfl⟩, ⟨rfl, avLe_pure rfl⟩, ⟨rfl, avLe_pure rfl⟩, ⟨rfl, avLe_pure rfl⟩, trivial⟩
    ⟨⟨_, _, rfl, rfl, objLe_limbs rfl fun j _ => rfl⟩, ⟨_, _, rfl, rfl, objLe_limbs rfl fun j _ => rfl⟩, trivial⟩)⟩
theorem div_sizes {A B V s lq : Nat} (hs : s < 32) (hV : V = B * 2 ^ s) (hn2 : 2 ≤ nl B) (hnV : nl V = nl B) (hnorm : 2 ^ 31 ≤ limb V (nl V - 1)) (hlq : lq + nl V = nl A + 1) : A * 2 ^ s < 2 ^ (32 * (nl A + 1)) ∧ A * 2 ^ s < V * 2 ^ (32 * lq) := by
  have hS : 0 < 2 ^ s := Nat.two_pow_pos _
  have hS31 : 2 ^ s ≤ 2 ^ 31 := Nat.pow_le_pow_right (by omega) (by omega)
  have hAl : A < 2 ^ (32 * nl A) := lt_nl
  have hA2 : A * 2 ^ s < 2 ^ (32 * nl A) * 2 ^ 31 :=
    Nat.lt_of_lt_of_le ((Nat.mul_lt_mul_right hS).2 hAl) (Nat.mul_le_mul_left _ hS31)
  have hA3 : A * 2 ^ s < 2 ^ (32 * (nl A + 1)) := by
    rw [pow_succ32]; omega
  refine ⟨hA3, ?_⟩
  have hsp : V = val (nl V - 1) (limb V) + limb V (nl V - 1) * 2 ^ (32 * (nl V - 1)) := by
    have := val_nl (N := V)
    obtain ⟨k, hk⟩ : ∃ k, nl V = k + 1 := ⟨nl V - 1, by omega⟩
    rw [hk, val] at this
    rw [hk, Nat.add_sub_cancel]
    exact this.symm
  have h2 : 2 ^ 31 * 2 ^ (32 * (nl V - 1)) ≤ V := by
    have := Nat.mul_le_mul_right (2 ^ (32 * (nl V - 1))) hnorm
    omega
  have h3 := Nat.mul_le_mul_right (2 ^ (32 * lq)) h2
  have e : 2 ^ 31 * 2 ^ (32 * (nl V - 1)) * 2 ^ (32 * lq) = 2 ^ (32 * nl A) * 2 ^ 31 := by
    rw [Nat.mul_assoc, ← Nat.pow_add, Nat.mul_comm]
    congr 2
    omega
  omega
theorem div_rest {c : Ctx} (h0 : ∀ k x, c.k0 k = some x → k < 9) {A B V s lq : Nat} (hA : nl A < 2 ^ 40) (hB0 : B ≠ 0) (hs : s < 32) (hV : V = B * 2 ^ s) (hn2 : 2 ≤ nl B) (hnV : nl V = nl B) (hnorm : 2 ^ 31 ≤ limb V (nl V - 1)) (hlq : lq + nl V = nl A + 1) :
    AWp P c fn_natural_Div.ntmps (part (codeOf fn_natural_Div) divLoop) ⟨zipL divLs (divVs lq s (nl A + 1) V ((lq : Int) - 1)), divOs lq (nl A + 1) (fun _ => 0) (limb (A * 2 ^ s)), 9⟩
      (thenDo (fun s' => AWpL P c fn_natural_Div.ntmps (behind (codeOf fn_natural_Div) divLoop) s' (Fin T fn_natural_Div (divRes A B))) (Fin T fn_natural_Div (divRes A B))) := by
  obtain ⟨z1, z2⟩ := div_sizes (A := A) hs hV hn2 hnV hnorm hlq
  have hS : 0 < 2 ^ s := Nat.two_pow_pos _
  refine div_main (N := A * 2 ^ s) h0 (by omega) (by omega) (by omega) hnorm (fun i _ => limb_lt) (val_limb z1) z2 rfl fun q u s' hu hq hsum hlt hv => then_go ?_
  have hR : val (nl A + 1) u = A % B * 2 ^ s := by
    have h1 : (A * 2 ^ s) % V = val (nl A + 1) u := by
      rw [← hsum, Nat.mul_comm, Nat.mul_add_mod]; exact Nat.mod_eq_of_lt hlt
    rw [← h1, hV, Nat.mul_mod_mul_right]
  have hQ : val lq q = A / B := by
    have h1 : (A * 2 ^ s) / V = val lq q := by
      rw [← hsum, Nat.mul_comm, Nat.mul_add_div (by omega), Nat.div_eq_of_lt hlt]; omega
    rw [← h1, hV, Nat.mul_div_mul_right _ _ hS]
  have hRl : ∀ i, i < nl (val (nl A + 1) u) → u i = limb (val (nl A + 1) u) i := fun i hi => (limb_val hu (Nat.lt_of_lt_of_le hi (nl_spec.2 (val_lt hu)))).symm
  refine AWpL.fromV (nx := 9) hv h0 (by kernel_rfl) rfl okO_div ?_
  show AWpL P c fn_natural_Div.ntmps [divE] _ _
  refine AWp.hole [1,0,1] (by kernel_rfl) (AWpL.see hT GT_ok hm 60 shLs div_6 (by kernel_rfl) ?_)
  simp only [ATree.all, allP, val_numOf]
  refine ⟨⟨limbs_limbsF hu, trivial, by omega⟩, fun s' hv => then_go ?_⟩
  refine div_shift (lu := nl A + 1) (u := u) h0 hs (by omega) rfl (nl_spec.2 (val_lt hu)) hu hRl hv fun w s' hw hval hv => then_go ?_
  refine AWpL.mono (Q := Fin T fn_natural_Div (divRes A B)) (fun e s' h => by cases e <;> exact h) ?_
  refine AWpL.finV hT G1_ok hm 60 (nx := 9) hv h0 rfl okO_div div_end (by kernel_rfl) (by kernel_rfl) ?_
  simp only [ATree.all, allP, Nat.add_zero, val_numOf]
  have hll : nl (val (nl A + 1) u) ≤ nl A + 1 := nl_spec.2 (val_lt hu)
  refine ⟨⟨limbs_limbsF hq, by omega, limbs_limbsF fun i hi => hw i (by omega), by omega⟩, avLe0_of_eq (by rw [hQ]), avLe0_of_eq ?_, avLe0_int (by simp [hB0]), trivial⟩
  rw [if_neg hB0, hval, hR, Nat.mul_div_cancel _ hS]
theorem natural_Div_ok {n m : Nat} {z y : Nat → Nat} (hz : ∀ i, i < n → z i < 2 ^ 32) (hy : ∀ i, i < m → y i < 2 ^ 32) (hn : n < 2 ^ 40) (hm' : m < 2 ^ 40) (K : Nat) (pre : Store) :
    FOK P natural_Div K [.tab 1 n (limbsF z), .tab 1 m (limbsF y)] pre (pres (divRes (val n z) (val m y)) []) := by
  refine fok_pure hT is_natural_Div rfl (of_decide_eq_true (by kernel_rfl)) rfl (fun _ c h0 => ?_) K pre
  have hk0 : ∀ {nx : Nat} k x, c.k0 k = some x → k < nx := k0_none h0
  have hA : nl (val n z) ≤ n := nl_spec.2 (val_lt hz)
  have hB : nl (val m y) ≤ m := nl_spec.2 (val_lt hy)
  refine AWp.hole divLoop (by kernel_rfl) (AWpL.chunk 2 (AWpL.see hT GD_ok hm 60 [0, 1, 4, 5, 6] div_1 (by kernel_rfl) ?_))
  simp only [ATree.all, allP, val_numOf]
  generalize val n z = A at *
  generalize val m y = B at *
  refine ⟨⟨limbs_limbsF hz, by omega, limbs_limbsF hy, by omega⟩, fun s' hv => then_go ?_⟩
  refine AWpL.chunk 1 (AWpL.seeV hT GD_ok hm 60 (nx := 0) hv hk0 rfl trivial [0, 1, 4, 5, 6] div_2 (by kernel_rfl) (by kernel_rfl) ?_)
  simp only [ATree.all, allP, beq_iff_eq, beq_eq_false_iff_ne, ne_eq, decide_eq_true_eq, decide_eq_false_iff_not, cmpI_lt]
  have hnl0 : nl B = 0 ↔ B = 0 := ⟨fun h => by
    rcases Nat.eq_zero_or_pos B with h1 | h1
    · exact h1
    · have := nl_pos.2 (show B ≠ 0 by omega); omega, fun h => by subst h; rfl⟩
  refine ⟨fun hb s' hv => ?_, fun hb => ⟨⟨by omega, by omega⟩, fun hlt => ⟨by omega, fun s' hv => ?_⟩, fun hge => ⟨fun h1 => ?_, fun h1 s' hv => then_go ?_⟩⟩⟩
  · have hB0 : B = 0 := hnl0.1 (by omega)
    subst hB0
    refine then_ret (then_ret ?_)
    exact fin_view (us := [.nil, .nil, .int .i64 3]) (.inr rfl) hv (by kernel_rfl) ⟨by simpa using avLe0_nil_mag, avLe0_nil_mag, avLe0_int (by simp), trivial⟩
  · have hB0 : B ≠ 0 := fun h => hb (by rw [hnl0.2 h]; rfl)
    refine then_ret (then_ret ?_)
    refine fin_view (us := [.nil, .mag A, .int .i64 0]) (.inr rfl) hv (by kernel_rfl) ⟨?_, avLe0_of_eq ?_, avLe0_int (by simp [hB0]), trivial⟩
    · rw [Nat.div_eq_of_lt hlt]; exact avLe0_nil_mag
    · rw [if_neg hB0, Nat.mod_eq_of_lt hlt]
  · have h1' : nl B = 1 := by omega
    have hB0 : B ≠ 0 := fun h => hb (by rw [hnl0.2 h]; rfl)
    have hl0 : limb B 0 = B := by
      have := val_nl (N := B)
      rw [h1', val, val] at this
      simpa using this
    have hBlt : B < 2 ^ 32 := by rw [← hl0]; exact limb_lt
    have hmod : A % B < 2 ^ 32 := Nat.lt_trans (Nat.mod_lt _ (by omega)) hBlt
    simp only [Int.toNat_zero, hl0, Int.toNat_natCast]
    have hf : (fun i => nth [AV.int .u32 ((A % B : Nat) : Int)] (.int .u32 0) (i + 0)) = fun i => limbsF (fun i => if i = 0 then A % B else 0) i := by
      funext i
      cases i with
      | zero => simp [nth, limbsF]
      | succ i => simp [nth, limbsF]
    rw [hf]
    refine ⟨⟨by omega, by omega, by omega, by omega⟩, ⟨by omega, limbs_limbsF (fun i hi => by split <;> omega), by omega⟩, fun s' hv => then_ret (then_ret ?_)⟩
    refine fin_view (vs := [.mag A, .mag B, .mag (A / B), .mag (A % B), .int .i64 0]) (os := []) (us := [.mag (A / B), .mag (A % B), .int .i64 0]) (.inr rfl) (view_eq hv ?_ rfl) (by kernel_rfl) ⟨.refl _, avLe0_of_eq (by rw [if_neg hB0]), avLe0_int (by simp [hB0]), trivial⟩
    simp [val, nth, numOf]
    rw [← Int.natCast_emod, Int.toNat_natCast]
  have hB0 : B ≠ 0 := fun h => hb (by rw [hnl0.2 h]; rfl)
  have hn2 : 2 ≤ nl B := by have := nl_pos.2 hB0; omega
  rw [List.drop_drop]
  refine div_long h0 (by omega) hn2 (by omega) hv fun s lq V s' hs hV hnV hnorm hlq hle => then_go ?_
  exact AWp.weakE hle (div_rest hk0 (by omega) hB0 hs hV hn2 hnV hnorm hlq)
def g_div (A n B m : Nat) : CRes := pres (divRes A B) [n < 2 ^ 40, m < 2 ^ 40]
theorem s_div : ∀ K args pre r, pureSpec (spec2 g_div) K args pre = some r → FOK P natural_Div K args pre r :=
  pureSpec_ok (spec2_ok fun _ _ _ _ K hz hy need => natural_Div_ok hz hy need.1 need.2 K [])
end Go.Am.B
