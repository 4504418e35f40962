/- natural.Div: its contract. -/
import Derived.Test.YtnocdkaonpdmjaaGreatB12
set_option linter.unusedVariables false
namespace Go.Am.B
open Go Go.Am.N AV
abbrev j0 (A B : Nat) : AV := .tuple [.mag (A / B), .mag (if B = 0 then 0 else A % B), .int .i64 (if B = 0 then 3 else 0)]
theorem Yp {n N : Nat} : cO n (ah (au N)) := eI fun _ _ => cH
theorem yF {a b : Nat} : bT a b < 0 ↔ a < b := by
 unfold bT
 split
 ·simp_all
 ·split <;> simp_all
theorem bP {k : aE → Prop} {Q : aj → aE → Prop} {s : aE} (h : k s) : cP k Q .normal s := h
theorem QL {c : Ctx} (h0 : c.k0 = aW) {A B : Nat} (hA : nl A < 2 ^ 40) (hn2 : 2 ≤ nl B) (hAB : B ≤ A) {Q : aj → aE → Prop} {s' : aE}
  (hv : aU [0, 1, 4, 5, 6] s' = some ([.mag A, .mag B, .nil, .nil, .int .i64 0], []))
  (fin : ∀ s lq V s', s < 32 → V = B * 2 ^ s → nl V = nl B → 2 ^ 31 ≤ au V (nl V - 1) → lq + nl V = nl A + 1 → (∃ ρ, Le c ρ s' ⟨aC cy (dH lq s (nl A + 1) V ((lq : Int) - 1)), cj lq (nl A + 1) (fun _ => 0) (au (A * 2 ^ s)), 9⟩) → Q .normal s') :
  aB P c cT.ntmps ((before (ax cT) j9).drop (2 + 1)) s' Q := by
 have hk0 : ∀ {nx : Nat} k x, c.k0 k = some x → k < nx := ir h0
 have hABn : nl B ≤ nl A := fu hAB
 have hB0 : B ≠ 0 := fun h => by subst h; simp [nl] at hn2
 refine aB.chunk 1 (aB.dN hT gE hm 60 (nx := 0) hv hk0 rfl trivial [0, 1, 9] PC (by kernel_rfl) (by kernel_rfl) ?_)
 have w1 : IntKind.i64.wrap ((nl B : Int) - 1) = ((nl B - 1 : Nat) : Int) := dw (by omega) (by omega)
 rw [w1]
 simp only [aa.all, ay, Int.toNat_natCast]
 have hlB := cH (N := B) (i := nl B - 1)
 refine ⟨⟨by omega, by omega⟩, fun s' hv => bP ?_⟩
 obtain ⟨s, hs⟩ : ∃ s, s = 32 - aZ (au B (nl B - 1)) := ⟨_, rfl⟩
 rw [← hs] at hv
 obtain ⟨hs32, hnV, hnorm, hVlt⟩ := G4 hB0 hs
 rw [List.drop_drop]
 refine aB.chunk 1 (aB.dN hT gE hm 60 (nx := 0) hv hk0 rfl trivial [9, 10, 11] UL (by kernel_rfl) (by kernel_rfl) ?_)
 simp only [aa.all, ay, Int.toNat_natCast, Nat.add_zero]
 refine ⟨⟨by omega, by omega, by omega, by omega, by omega, by omega, Yp, by omega⟩, fun s' hv => bP ?_⟩
 have hV1 : (val (nl B + 1) fun i => numOf (ah (au (B * 2 ^ s)) i)) = B * 2 ^ s := by
  rw [gX, lW]
  exact Nat.lt_of_lt_of_le hVlt (Nat.pow_le_pow_right (by omega) (by omega))
 rw [hV1] at hv
 obtain ⟨V, hV⟩ : ∃ V, V = B * 2 ^ s := ⟨_, rfl⟩
 rw [← hV] at hv hnV hnorm hVlt
 obtain ⟨lq, hlq⟩ : ∃ lq, lq = nl A + 1 - nl V := ⟨_, rfl⟩
 rw [List.drop_drop]
 refine aB.weak (by kernel_rfl) (cC (vs := [.int .i64 s, .own 7 1 0 (nl A + 1), .mag V]) (ps := [(7, ⟨true, true, 1, nl A + 1, ah (au (A * 2 ^ s))⟩)]) (nx := 8) [(7, 8192)] hv h0 rfl
  ⟨⟨rfl, aF rfl⟩, ⟨rfl, cF rfl rfl rfl⟩, ⟨rfl, aF rfl⟩, trivial⟩ ⟨⟨_, _, rfl, rfl, dZ rfl fun j _ => rfl⟩, trivial⟩) ?_
 refine aB.aX hT gE hm 60 cy W4 (by kernel_rfl) ?_
 have w2 : IntKind.i64.wrap (((nl A + 1 : Nat) : Int) - (nl V : Int)) = ((lq : Nat) : Int) := dw (by omega) (by omega)
 have w3 : IntKind.i64.wrap ((lq : Int) - 1) = (lq : Int) - 1 := wrap_i64 (by omega) (by omega)
 rw [w2]
 simp only [aa.all, ay, Int.toNat_natCast, w3]
 exact ⟨by omega, fun s' hv => fin s lq V s' hs32 hV hnV (by rw [hnV]; exact hnorm) (by omega) (cC (vs := dH lq s (nl A + 1) V ((lq : Int) - 1)) (ps := cj lq (nl A + 1) (fun _ => 0) (au (A * 2 ^ s))) (nx := 9) [(7, 7), (8, 28680)] hv h0 rfl
  ⟨⟨rfl, cF rfl rfl rfl⟩, ⟨rfl, aF rfl⟩, ⟨rfl, cF rfl rfl rfl⟩, ⟨rfl, aF rfl⟩, ⟨rfl, aF rfl⟩, ⟨rfl, aF rfl⟩, trivial⟩
  ⟨⟨_, _, rfl, rfl, dZ rfl fun j _ => rfl⟩, ⟨_, _, rfl, rfl, dZ rfl fun j _ => rfl⟩, trivial⟩)⟩
theorem Zo {A B V s lq : Nat} (hs : s < 32) (hV : V = B * 2 ^ s) (hn2 : 2 ≤ nl B) (hnV : nl V = nl B) (hnorm : 2 ^ 31 ≤ au V (nl V - 1)) (hlq : lq + nl V = nl A + 1) : A * 2 ^ s < 2 ^ (32 * (nl A + 1)) ∧ A * 2 ^ s < V * 2 ^ (32 * lq) := by
 have hS : 0 < 2 ^ s := Nat.two_pow_pos _
 have hS31 : 2 ^ s ≤ 2 ^ 31 := Nat.pow_le_pow_right (by omega) (by omega)
 have hAl : A < 2 ^ (32 * nl A) := j8
 have hA2 : A * 2 ^ s < 2 ^ (32 * nl A) * 2 ^ 31 :=
  Nat.lt_of_lt_of_le ((Nat.mul_lt_mul_right hS).2 hAl) (Nat.mul_le_mul_left _ hS31)
 have hA3 : A * 2 ^ s < 2 ^ (32 * (nl A + 1)) := by
  rw [fB]; omega
 refine ⟨hA3, ?_⟩
 have hsp : V = val (nl V - 1) (au V) + au V (nl V - 1) * 2 ^ (32 * (nl V - 1)) := by
  have := eC (N := V)
  obtain ⟨k, hk⟩ : ∃ k, nl V = k + 1 := ⟨nl V - 1, by omega⟩
  rw [hk, val] at this
  rw [hk, Nat.add_sub_cancel]
  exact this.symm
 have h2 : 2 ^ 31 * 2 ^ (32 * (nl V - 1)) ≤ V := by
  have := Nat.mul_le_mul_right (2 ^ (32 * (nl V - 1))) hnorm
  omega
 have h3 := Nat.mul_le_mul_right (2 ^ (32 * lq)) h2
 have e : 2 ^ 31 * 2 ^ (32 * (nl V - 1)) * 2 ^ (32 * lq) = 2 ^ (32 * nl A) * 2 ^ 31 := by
  rw [Nat.mul_assoc, ← Nat.pow_add, Nat.mul_comm]
  congr 2
  omega
 omega
theorem T9 {c : Ctx} (h0 : ∀ k x, c.k0 k = some x → k < 9) {A B V s lq : Nat} (hA : nl A < 2 ^ 40) (hB0 : B ≠ 0) (hs : s < 32) (hV : V = B * 2 ^ s) (hn2 : 2 ≤ nl B) (hnV : nl V = nl B) (hnorm : 2 ^ 31 ≤ au V (nl V - 1)) (hlq : lq + nl V = nl A + 1) :
  aq P c cT.ntmps (part (ax cT) j9) ⟨aC cy (dH lq s (nl A + 1) V ((lq : Int) - 1)), cj lq (nl A + 1) (fun _ => 0) (au (A * 2 ^ s)), 9⟩
   (cP (fun s' => aB P c cT.ntmps (behind (ax cT) j9) s' (Fin T cT (j0 A B))) (Fin T cT (j0 A B))) := by
 obtain ⟨z1, z2⟩ := Zo (A := A) hs hV hn2 hnV hnorm hlq
 have hS : 0 < 2 ^ s := Nat.two_pow_pos _
 refine Li (N := A * 2 ^ s) h0 (by omega) (by omega) (by omega) hnorm (fun i _ => cH) (lW z1) z2 rfl fun q u s' hu hq hsum hlt hv => bP ?_
 have hR : val (nl A + 1) u = A % B * 2 ^ s := by
  have h1 : (A * 2 ^ s) % V = val (nl A + 1) u := by
   rw [← hsum, Nat.mul_comm, Nat.mul_add_mod]; exact Nat.mod_eq_of_lt hlt
  rw [← h1, hV, Nat.mul_mod_mul_right]
 have hQ : val lq q = A / B := by
  have h1 : (A * 2 ^ s) / V = val lq q := by
   rw [← hsum, Nat.mul_comm, Nat.mul_add_div (by omega), Nat.div_eq_of_lt hlt]; omega
  rw [← h1, hV, Nat.mul_div_mul_right _ _ hS]
 have hRl : ∀ i, i < nl (val (nl A + 1) u) → u i = au (val (nl A + 1) u) i := fun i hi => (mI hu (Nat.lt_of_lt_of_le hi (cB.2 (eo hu)))).symm
 refine aB.hG (nx := 9) hv h0 (by kernel_rfl) rfl gi ?_
 show aB P c cT.ntmps [iY] _ _
 refine aq.hole [1,0,1] (by kernel_rfl) (aB.aX hT uy hm 60 jz Rc (by kernel_rfl) ?_)
 simp only [aa.all, ay, gX]
 refine ⟨⟨eI hu, trivial, by omega⟩, fun s' hv => bP ?_⟩
 refine PY (lu := nl A + 1) (u := u) h0 hs (by omega) rfl (cB.2 (eo hu)) hu hRl hv fun w s' hw hval hv => bP ?_
 refine aB.mono (Q := Fin T cT (j0 A B)) (fun e s' h => by cases e <;> exact h) ?_
 refine aB.ze hT e9 hm 60 (nx := 9) hv h0 rfl gi OA (by kernel_rfl) (by kernel_rfl) ?_
 simp only [aa.all, ay, Nat.add_zero, gX]
 have hll : nl (val (nl A + 1) u) ≤ nl A + 1 := cB.2 (eo hu)
 refine ⟨⟨eI hq, by omega, eI fun i hi => hw i (by omega), by omega⟩, cI (by rw [hQ]), cI ?_, bq (by simp [hB0]), trivial⟩
 rw [if_neg hB0, hval, hR, Nat.mul_div_cancel _ hS]
theorem KS {n m : Nat} {z y : Nat → Nat} (hz : ∀ i, i < n → z i < 2 ^ 32) (hy : ∀ i, i < m → y i < 2 ^ 32) (hn : n < 2 ^ 40) (hm' : m < 2 ^ 40) (K : Nat) (pre : aD) :
  aA P pM K [.ak 1 n (ah z), .ak 1 m (ah y)] pre (aG (j0 (val n z) (val m y)) []) := by
 refine gQ hT MU rfl (of_decide_eq_true (by kernel_rfl)) rfl (fun _ c h0 => ?_) K pre
 have hk0 : ∀ {nx : Nat} k x, c.k0 k = some x → k < nx := ir h0
 have hA : nl (val n z) ≤ n := cB.2 (eo hz)
 have hB : nl (val m y) ≤ m := cB.2 (eo hy)
 refine aq.hole j9 (by kernel_rfl) (aB.chunk 2 (aB.aX hT gE hm 60 [0, 1, 4, 5, 6] MK (by kernel_rfl) ?_))
 simp only [aa.all, ay, gX]
 generalize val n z = A at *
 generalize val m y = B at *
 refine ⟨⟨eI hz, by omega, eI hy, by omega⟩, fun s' hv => bP ?_⟩
 refine aB.chunk 1 (aB.dN hT gE hm 60 (nx := 0) hv hk0 rfl trivial [0, 1, 4, 5, 6] Tp (by kernel_rfl) (by kernel_rfl) ?_)
 simp only [aa.all, ay, beq_iff_eq, beq_eq_false_iff_ne, ne_eq, decide_eq_true_eq, decide_eq_false_iff_not, yF]
 have hnl0 : nl B = 0 ↔ B = 0 := ⟨fun h => by
  rcases Nat.eq_zero_or_pos B with h1 | h1
  ·exact h1
  ·have := eP.2 (show B ≠ 0 by omega); omega, fun h => by subst h; rfl⟩
 refine ⟨fun hb s' hv => ?_, fun hb => ⟨⟨by omega, by omega⟩, fun hlt => ⟨by omega, fun s' hv => ?_⟩, fun hge => ⟨fun h1 => ?_, fun h1 s' hv => bP ?_⟩⟩⟩
 ·have hB0 : B = 0 := hnl0.1 (by omega)
  subst hB0
  refine dS (dS ?_)
  exact eM (us := [.nil, .nil, .int .i64 3]) (.inr rfl) hv (by kernel_rfl) ⟨by simpa using iG, iG, bq (by simp), trivial⟩
 ·have hB0 : B ≠ 0 := fun h => hb (by rw [hnl0.2 h]; rfl)
  refine dS (dS ?_)
  refine eM (us := [.nil, .mag A, .int .i64 0]) (.inr rfl) hv (by kernel_rfl) ⟨?_, cI ?_, bq (by simp [hB0]), trivial⟩
  ·rw [Nat.div_eq_of_lt hlt]; exact iG
  ·rw [if_neg hB0, Nat.mod_eq_of_lt hlt]
 ·have h1' : nl B = 1 := by omega
  have hB0 : B ≠ 0 := fun h => hb (by rw [hnl0.2 h]; rfl)
  have hl0 : au B 0 = B := by
   have := eC (N := B)
   rw [h1', val, val] at this
   simpa using this
  have hBlt : B < 2 ^ 32 := by rw [← hl0]; exact cH
  have hmod : A % B < 2 ^ 32 := Nat.lt_trans (Nat.mod_lt _ (by omega)) hBlt
  simp only [Int.toNat_zero, hl0, Int.toNat_natCast]
  have hf : (fun i => nth [AV.int .u32 ((A % B : Nat) : Int)] (.int .u32 0) (i + 0)) = fun i => ah (fun i => if i = 0 then A % B else 0) i := by
   funext i
   cases i with
   | zero => simp [nth, ah]
   | succ i => simp [nth, ah]
  rw [hf]
  refine ⟨⟨by omega, by omega, by omega, by omega⟩, ⟨by omega, eI (fun i hi => by split <;> omega), by omega⟩, fun s' hv => dS (dS ?_)⟩
  refine eM (vs := [.mag A, .mag B, .mag (A / B), .mag (A % B), .int .i64 0]) (os := []) (us := [.mag (A / B), .mag (A % B), .int .i64 0]) (.inr rfl) (cJ hv ?_ rfl) (by kernel_rfl) ⟨.refl _, cI (by rw [if_neg hB0]), bq (by simp [hB0]), trivial⟩
  simp [val, nth, numOf]
  rw [← Int.natCast_emod, Int.toNat_natCast]
 have hB0 : B ≠ 0 := fun h => hb (by rw [hnl0.2 h]; rfl)
 have hn2 : 2 ≤ nl B := by have := eP.2 hB0; omega
 rw [List.drop_drop]
 refine QL h0 (by omega) hn2 (by omega) hv fun s lq V s' hs hV hnV hnorm hlq hle => bP ?_
 exact aq.jK hle (T9 hk0 (by omega) hB0 hs hV hn2 hnV hnorm hlq)
def C0 (A n B m : Nat) : cA := aG (j0 A B) [n < 2 ^ 40, m < 2 ^ 40]
theorem Jk : ∀ K args pre r, bu (fM C0) K args pre = some r → aA P pM K args pre r :=
 bN (qo fun _ _ _ _ K hz hy need => KS hz hy need.1 need.2 K [])
end Go.Am.B
