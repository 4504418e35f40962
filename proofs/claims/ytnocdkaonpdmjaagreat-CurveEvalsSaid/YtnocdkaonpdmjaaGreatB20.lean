/- rational.add, Add, Sub, Mul, Quo. -/
import Derived.Test.YtnocdkaonpdmjaaGreatB19
set_option linter.unusedVariables false
namespace Go.Am.B
open Go Go.Am.N AV
theorem HS {b : Bool} {N D k : Nat} (hk : k ≠ 0) : sQ b (N * k) (D * k) = sQ b N D := by
 unfold sQ
 have : ew b (N * k) = ew b N * (k : Int) := by unfold ew; split <;> simp [Int.neg_mul]
 rw [this, Rat.mkRat_mul_right hk]
theorem Du {a c : Int} {d : Nat} (hd : d ≠ 0) : mkRat a d + mkRat c d = mkRat (a + c) d := by
 rw [Rat.mkRat_add_mkRat _ _ hd hd, ← Int.add_mul, Rat.mkRat_mul_right hd]
theorem DJ {s : Bool} {X Y D : Nat} (hD : D ≠ 0) : sQ s X D + sQ s Y D = sQ s (X + Y) D := by
 unfold sQ
 rw [Du hD]
 congr 1
 unfold ew; split <;> simp <;> omega
theorem DU {b s : Bool} {X Y D : Nat} (hD : D ≠ 0) (hb : b ≠ s) (h : Y ≤ X) : sQ b X D + sQ s Y D = sQ b (X - Y) D := by
 unfold sQ
 rw [Du hD]
 congr 1
 unfold ew
 cases b <;> cases s <;> simp at hb ⊢ <;> omega
theorem D4 {b s : Bool} {X Y D : Nat} (hD : D ≠ 0) (hb : b ≠ s) (h : X ≤ Y) : sQ b X D + sQ s Y D = sQ s (Y - X) D := by
 unfold sQ
 rw [Du hD]
 congr 1
 unfold ew
 cases b <;> cases s <;> simp at hb ⊢ <;> omega
theorem XT {b s : Bool} {X Y : Nat} : ew b X * ew s Y = ew (b != s) (X * Y) := by
 unfold ew
 cases b <;> cases s <;> simp [Int.neg_mul, Int.mul_neg]
theorem Eg {b s : Bool} {X Y D E : Nat} : sQ b X D * sQ s Y E = sQ (b != s) (X * Y) (D * E) := by
 unfold sQ
 rw [Rat.mkRat_mul_mkRat, XT]
theorem mS {q : Rat} (h : bp q = true) : q.num.natAbs < 4294967296 ∧ q.den < 4294967296 := by
 unfold bp at h
 simpa using h
theorem lf {a b : Nat} (ha : a < 4294967296) (hb : b < 4294967296) : IntKind.u64.wrap ((a : Int) * (b : Int)) = ((a * b : Nat) : Int) ∧ a * b ≤ 18446744065119617025 := by
 have h := Nat.mul_le_mul (show a ≤ 4294967295 by omega) (show b ≤ 4294967295 by omega)
 refine ⟨?_, h⟩
 rw [show (a : Int) * (b : Int) = ((a * b : Nat) : Int) by simp, wrap_u64 (by omega) (by omega)]
section add
variable {q r : Rat} {n m : Nat} {s : Bool}
theorem OW {f : Nat → AV} (hf : ∀ i, i < 1 → keys (f i) = []) {b : Bool} {N D : Nat} : fe 8193 (lG b N D r m f) := ⟨⟨by omega, hf⟩, ⟨by omega, fun _ _ => rfl⟩, ⟨by omega, fun _ _ => rfl⟩, trivial⟩
theorem Ab : fe 8193 (kA q r n m) := ⟨⟨by omega, fun _ _ => rfl⟩, ⟨by omega, fun _ _ => rfl⟩, ⟨by omega, fun _ _ => rfl⟩, trivial⟩
theorem Cs (q r : Rat) (s : Bool) : q + sQ s r.num.natAbs r.den = sQ (decide (q < 0)) (q.num.natAbs * r.den) (q.den * r.den) + sQ s (r.num.natAbs * q.den) (q.den * r.den) := by
 rw [HS r.den_nz, iO, Nat.mul_comm q.den, HS q.den_nz]
theorem FB {c : Ctx} (h0 : ∀ nx k x, c.k0 k = some x → k < nx) (hq : Sz q n) (hr : Sz r m) (hn : n < 2 ^ 42) (hm' : m < 2 ^ 42) {s' : aE} (hv : aV dA s' = some (fK s, kA q r n m)) :
  aq P c dZ.ntmps kS s' (dh c (Fin T dZ (.rat (q + sQ s r.num.natAbs r.den) (n + m + 1)))) := by
 obtain ⟨a1, a2, a3⟩ := Sz.gJ hq (by omega)
 obtain ⟨b1, b2, b3⟩ := Sz.gJ hr (by omega)
 have d1 := q.den_nz
 have d2 := r.den_nz
 have hz : Sz (q + sQ s r.num.natAbs r.den) (n + m + 1) := hq.add (Ed d2 hr.1 hr.2)
 have bx : ∀ {a b : Nat}, a < 2 ^ n → b < 2 ^ m → nl (a * b) < 2 ^ 40 := fun ha hb => iI (n := n + m) (by rw [Nat.pow_add]; exact Nat.mul_lt_mul'' ha hb) (by omega)
 have last : ∀ {s' : aE} {X Y D k : Nat}, k < 2 ^ 43 → X < 2 ^ k → Y < 2 ^ k → nl D < 2 ^ 40 → D ≠ 0 → q + sQ s r.num.natAbs r.den = sQ (decide (q < 0)) X D + sQ s Y D → aV (dA ++ [15, 16, 17]) s' = some (fK s ++ [.mag X, .mag Y, .mag D], kA q r n m) →
   aC P c dZ.ntmps [part kS [1,1]] s' (dh c (Fin T dZ (.rat (q + sQ s r.num.natAbs r.den) (n + m + 1)))) := by
  intro s' X Y D k hk hX2 hY2 hD hD0 heq hv
  have hX := iI hX2 (by omega)
  have hY := iI hY2 (by omega)
  have hXY : nl (X + Y) < 2 ^ 40 := iI (n := k + 1) (by rw [Nat.pow_succ]; omega) (by omega)
  refine aC.iE hT jk hm 60 hv (h0 _) rfl Ab ZR (by kernel_rfl) rfl ?_
  simp only [aa.all, ay, beq_iff_eq, beq_eq_false_iff_ne, ne_eq]
  refine ⟨by omega, fun hb => ⟨⟨hX, hY, hXY, hD, by omega⟩, by omega, eM ?_ hz⟩, fun hb => ⟨⟨hX, hY⟩, fun hc => ⟨⟨by omega, Nat.lt_of_le_of_lt (fC (Nat.sub_le _ _)) hX, hD, by omega⟩, by omega, eM ?_ hz⟩, fun hc => ⟨⟨hY, hX⟩, ⟨Nat.lt_of_le_of_lt (fC (Nat.sub_le _ _)) hY, hD, by omega⟩, by omega, eM ?_ hz⟩⟩⟩
  ·rw [heq, hb, DJ hD0]
  ·rw [heq, DU hD0 hb (by split at hc <;> omega)]
  ·rw [heq, D4 hD0 hb (by split at hc <;> omega)]
 have mulb : ∀ {a b : Nat}, a < 2 ^ n → b < 2 ^ m → a * b < 2 ^ (n + m) := fun ha hb => by rw [Nat.pow_add]; exact Nat.mul_lt_mul'' ha hb
 refine aq.hole [1,1] (by kernel_rfl) (aC.dQ hT jk hm 60 hv (h0 _) rfl Ab (dA ++ [15, 16, 17]) YT (by kernel_rfl) rfl ?_)
 simp only [aa.all, ay, Bool.not_eq_true', decide_eq_false_iff_not, Bool.not_eq_false', decide_eq_true_eq]
 have fin : ∀ {s' : aE} {R : AV}, aC P c dZ.ntmps [part kS [1,1]] s' (dh c (Fin T dZ R)) → aq P c dZ.ntmps (part kS [1,1]) s' (cX (fun s'' => aC P c dZ.ntmps (behind kS [1,1]) s'' (dh c (Fin T dZ R))) (dh c (Fin T dZ R))) :=
  fun h => aq.mono h fun e s' h => by cases e <;> exact h
 refine ⟨⟨by omega, by omega, by omega⟩, ⟨by omega, by omega, a3, b3⟩, fun hb => ⟨⟨by omega, a1, b2, by omega, b1, a2, by omega, a2, b2⟩, fun s' hv => bP (fin (last (k := n + m) (by omega) (mulb hq.1 hr.2) ?_ (bx hq.2 hr.2) (Nat.mul_ne_zero d1 d2) (Cs q r s) hv))⟩, fun hb s' hv => bP (fin (last (k := n + m) (by omega) (Nat.lt_of_lt_of_le hq.1 (Nat.pow_le_pow_right (by omega) (by omega))) (Nat.lt_of_lt_of_le hr.1 (Nat.pow_le_pow_right (by omega) (by omega))) a2 d1 ?_ hv))⟩
 ·rw [Nat.mul_comm]; exact mulb hq.2 hr.1
 ·have : q.den = r.den := by split at hb <;> split at hb <;> omega
  rw [← this, iO]
theorem L2 {c : Ctx} (h0 : ∀ nx k x, c.k0 k = some x → k < nx) (hq : Sz q n) (hr : Sz r m) (hn : n < 2 ^ 42) (hm' : m < 2 ^ 42) (h1 : bp q = true) (h2 : bp r = true) {s' : aE} {Q : ah → aE → Prop}
  (hv : aV (dA ++ [7, 8, 10, 11]) s' = some (fK s ++ [.int .u64 (q.num.natAbs : Nat), .int .u64 (q.den : Nat), .int .u64 (r.num.natAbs : Nat), .int .u64 (r.den : Nat)], kA q r n m))
  (hN : ∀ s', aq P c dZ.ntmps kS s' (dh c (Fin T dZ (.rat (q + sQ s r.num.natAbs r.den) (n + m + 1)))) → Q .normal s')
  (hR : ∀ s', dh c (Fin T dZ (.rat (q + sQ s r.num.natAbs r.den) (n + m + 1))) .ret s' → Q .ret s') : aq P c dZ.ntmps pL s' Q := by
 have d1 := q.den_nz
 have d2 := r.den_nz
 have hz : Sz (q + sQ s r.num.natAbs r.den) (n + m + 1) := hq.add (Ed d2 hr.1 hr.2)
 obtain ⟨q1, q2⟩ := mS h1
 obtain ⟨r1, r2⟩ := mS h2
 have hval := Cs q r s
 obtain ⟨b, hb⟩ : ∃ b, decide (q < 0) = b := ⟨_, rfl⟩
 rw [hb] at hval
 obtain ⟨wx, bx⟩ := lf q1 r2
 obtain ⟨wy, by'⟩ := lf r1 q2
 obtain ⟨wd, bd⟩ := lf q2 r2
 have hd0 : q.den * r.den ≠ 0 := Nat.mul_ne_zero d1 d2
 have hk0 : c.k0 = aX := by
  funext k
  cases hk : c.k0 k with
  | none => rfl
  | some x => have := h0 0 k x hk; omega
 -- the end by short numbers
 have ret : ∀ {s' : aE} {N D k : Nat} {z : Rat}, z = q + sQ s r.num.natAbs r.den → aV dA s' = some (fK s, lG b N D r m fun j => if j = 0 then bA (.rat z k) else .rat 0 1) → Q .ret s' := by
  intro s' N D k z hzv hv
  refine hR _ (sy ZL hv (h0 8193) rfl (OW fun i _ => ?_) ⟨show 0 < 1 by omega, eM hzv hz⟩)
  split <;> rfl
 have back : ∀ {s' : aE}, aV dA s' = some (fK s, lG b q.num.natAbs (if q.den = 1 then 0 else q.den) r m fun _ => .rat 0 1) → Q .normal s' := by
  intro s' hv
  refine hN _ (aq.jG (cB (vs := fK s) (ps := kA q r n m) (nx := 8193) [(0, 0), (4096, 4096), (8192, 8192)] hv hk0 (by simp [gb]) ⟨⟨rfl, aH rfl⟩, ⟨rfl, j0 rfl⟩, ⟨rfl, j0 rfl⟩, ⟨rfl, j0 rfl⟩, trivial⟩
   ⟨⟨_, _, rfl, rfl, gQ rfl fun i _ => aH rfl⟩, ⟨_, _, rfl, rfl, gQ rfl fun i _ => aH rfl⟩, ⟨_, _, rfl, rfl, gQ rfl fun i _ => kT rfl ?_⟩, trivial⟩) ?_)
  ·rw [← hb]; exact Ff hq
  ·exact FB h0 hq hr hn hm' (s := s) rfl
 refine aq.jG (cB (us := [.bool s, .ptr 0 0 3 0 [], .ptr 4096 0 3 0 [], .ptr 8192 0 3 0 [], .int .u64 (q.num.natAbs : Nat), .int .u64 (q.den : Nat), .int .u64 (r.num.natAbs : Nat), .int .u64 (r.den : Nat)])
   (vs := [.bool s, .ptr 0 0 3 0 [], .ptr 4096 0 3 0 [], .ptr 8192 0 3 0 [], .int .u64 (q.num.natAbs : Nat), .int .u64 (q.den : Nat), .int .u64 (r.num.natAbs : Nat), .int .u64 (r.den : Nat)]) (os := kA q r n m) (ps := lG b q.num.natAbs (if q.den = 1 then 0 else q.den) r m fun _ => .rat 0 1) (nx := 8193) [(0, 0), (4096, 4096), (8192, 8192)] hv hk0 (by simp [gb])
  ⟨⟨rfl, aH rfl⟩, ⟨rfl, j0 rfl⟩, ⟨rfl, j0 rfl⟩, ⟨rfl, j0 rfl⟩, ⟨rfl, aH rfl⟩, ⟨rfl, aH rfl⟩, ⟨rfl, aH rfl⟩, ⟨rfl, aH rfl⟩, trivial⟩
  ⟨⟨_, _, rfl, rfl, gQ rfl fun i _ => aH rfl⟩, ⟨_, _, rfl, rfl, gQ rfl fun i _ => aH rfl⟩, ⟨_, _, rfl, rfl, gQ rfl fun i _ => kT rfl (by rw [← hb]; exact Jm)⟩, trivial⟩) ?_
 have hD0 : 0 < q.den * r.den := by omega
 have eqc : b = s → sQ s (q.num.natAbs * r.den + r.num.natAbs * q.den) (q.den * r.den) = q + sQ s r.num.natAbs r.den := fun h => by rw [hval, h, DJ hd0]
 have gec : b ≠ s → r.num.natAbs * q.den ≤ q.num.natAbs * r.den → sQ b (q.num.natAbs * r.den - r.num.natAbs * q.den) (q.den * r.den) = q + sQ s r.num.natAbs r.den := fun h h' => by rw [hval, DU hd0 h h']
 have ltc : b ≠ s → q.num.natAbs * r.den ≤ r.num.natAbs * q.den → sQ s (r.num.natAbs * q.den - q.num.natAbs * r.den) (q.den * r.den) = q + sQ s r.num.natAbs r.den := fun h h' => by rw [hval, D4 hd0 h h']
 clear hval hv hN hR h1 h2 hb
 generalize q + sQ s r.num.natAbs r.den = V at *
 generalize q.num.natAbs * r.den = X at *
 generalize r.num.natAbs * q.den = Y at *
 generalize q.den * r.den = D at *
 have ws : ∀ {a b : Nat}, b ≤ a → a ≤ 18446744065119617025 → IntKind.u64.wrap ((a : Int) - (b : Int)) = ((a - b : Nat) : Int) := fun {a b} h1 h2 => by rw [wrap_u64 (by omega) (by omega)]; omega
 cases b <;> cases s
 ·refine aq.aZ hT jk hm 60 dA QS (by kernel_rfl) ?_
  rw [wx, wy, wd]
  simp only [aa.all, ay, beq_iff_eq, Int.toNat_natCast]
  refine ⟨⟨by omega, by omega, by omega⟩, by omega, fun hc => ⟨⟨by omega, by omega, by omega⟩, fun s' hv => ret ?_ hv⟩, fun hc => ⟨by omega, by omega, fun s' hv => back hv⟩⟩
  have h := eq_of_beq (gG hc)
  have e : (((X : Int) + (Y : Int) + 0) % 18446744073709551616).toNat = X + Y := by omega
  rw [e]; exact eqc rfl
 ·refine aq.aZ hT jk hm 60 dA acM (by kernel_rfl) ?_
  rw [wx, wy, wd]
  simp only [aa.all, ay, beq_iff_eq, Int.toNat_natCast]
  refine ⟨⟨by omega, by omega, by omega⟩, by omega, by omega, fun hc => ?_, fun hc => ?_⟩
  ·have h := of_decide_eq_true (gG hc)
   have h' : Y ≤ X := by omega
   rw [ws h' bx]
   refine ⟨⟨by omega, by omega, by omega, by omega⟩, fun s' hv => ret ?_ hv⟩
   rw [Int.toNat_natCast]; exact gec (by simp) h'
  ·have h := of_decide_eq_false (gG hc)
   have h' : X ≤ Y := by omega
   rw [ws h' by']
   refine ⟨by omega, ⟨by omega, by omega, by omega⟩, fun s' hv => ret ?_ hv⟩
   rw [Int.toNat_natCast]; exact ltc (by simp) h'
 ·refine aq.aZ hT jk hm 60 dA Mi (by kernel_rfl) ?_
  rw [wx, wy, wd]
  simp only [aa.all, ay, beq_iff_eq, Int.toNat_natCast]
  refine ⟨⟨by omega, by omega, by omega⟩, by omega, by omega, fun hc => ?_, fun hc => ?_⟩
  ·have h := of_decide_eq_true (gG hc)
   have h' : Y ≤ X := by omega
   rw [ws h' bx]
   refine ⟨⟨by omega, by omega, by omega, by omega⟩, fun s' hv => ret ?_ hv⟩
   rw [Int.toNat_natCast]; exact gec (by simp) h'
  ·have h := of_decide_eq_false (gG hc)
   have h' : X ≤ Y := by omega
   rw [ws h' by']
   refine ⟨by omega, ⟨by omega, by omega, by omega⟩, fun s' hv => ret ?_ hv⟩
   rw [Int.toNat_natCast]; exact ltc (by simp) h'
 ·refine aq.aZ hT jk hm 60 dA Mx (by kernel_rfl) ?_
  rw [wx, wy, wd]
  simp only [aa.all, ay, beq_iff_eq, Int.toNat_natCast]
  refine ⟨⟨by omega, by omega, by omega⟩, by omega, fun hc => ⟨⟨by omega, by omega, by omega⟩, fun s' hv => ret ?_ hv⟩, fun hc => ⟨by omega, by omega, fun s' hv => back hv⟩⟩
  have h := eq_of_beq (gG hc)
  have e : (((X : Int) + (Y : Int) + 0) % 18446744073709551616).toNat = X + Y := by omega
  rw [e]; exact eqc rfl
theorem Q9 (hn : n < 2 ^ 42) (hm' : m < 2 ^ 42) (K : Nat) (pre : aD) : aA P w8 K [.rat q n, .rat r m, .bool s] pre (aG (.rat (q + sQ s r.num.natAbs r.den) (n + m + 1)) []) := by
 refine gF fun ⟨hq, hr, _⟩ => ?_
 have hq : Sz q n := hq
 have hr : Sz r m := hr
 refine fU hT Ob rfl (of_decide_eq_true (by kernel_rfl)) rfl (fun _ c h0 => ?_) K pre
 have long := fun {s' : aE} => FB (s := s) (s' := s') h0 hq hr hn hm'
 have fin : ∀ {s' : aE} {R : AV}, aq P c dZ.ntmps kS s' (dh c (Fin T dZ R)) → aq P c dZ.ntmps kS s' (cX (fun s'' => aC P c dZ.ntmps (behind (au dZ) [1,1]) s'' (dh c (Fin T dZ R))) (dh c (Fin T dZ R))) :=
  fun h => aq.mono h fun e s' h => by cases e <;> exact h
 refine aq.hole [1,1] (by kernel_rfl) (aC.chunk 1 (aC.aZ hT jk hm 60 dA Ot (by kernel_rfl) fun s' hv => bP ?_))
 show aC P c dZ.ntmps [D6] s' _
 refine aC.iJ hv (h0 8193) rfl rfl Ab ?_
 refine aq.hole [1,1] (by kernel_rfl) (aC.aZ hT jk hm 60 (dA ++ [7, 8, 28]) UL (by kernel_rfl) ⟨show 0 < 1 by omega, fun s' hv => bP ?_⟩)
 refine aq.cond (b := .tmp 28) (x := Dc) (y := .skip) (vN hv rfl rfl) (fun h1 => ?_) (fun h1 => aq.skip (by exact fin (long (fP (ls := dA) (l := [7, 8, 28]) (vs := fK s) hv rfl rfl))))
 simp only [h1, if_true] at hv
 have hv := fP (ls := dA ++ [7, 8]) (l := [28]) (vs := fK s ++ [.int .u64 (q.num.natAbs : Nat), .int .u64 (q.den : Nat)]) hv rfl rfl
 refine aq.iJ hv (h0 8193) rfl Ab ?_
 refine aq.hole [1,1] (by kernel_rfl) (aC.aZ hT jk hm 60 (dA ++ [7, 8, 10, 11, 35]) Wo (by kernel_rfl) ⟨show 0 < 1 by omega, fun s' hv => bP ?_⟩)
 refine aq.cond (b := .tmp 35) (x := pL) (y := .skip) (vN hv rfl rfl) (fun h2 => ?_) (fun h2 => aq.skip (by exact fin (long (fP (ls := dA) (l := [7, 8, 10, 11, 35]) (vs := fK s) hv rfl rfl))))
 simp only [h2, if_true] at hv
 exact L2 h0 hq hr hn hm' h1 h2 (fP (ls := dA ++ [7, 8, 10, 11]) (l := [35]) (vs := fK s ++ [.int .u64 (q.num.natAbs : Nat), .int .u64 (q.den : Nat), .int .u64 (r.num.natAbs : Nat), .int .u64 (r.den : Nat)]) hv rfl rfl)
  (fun s' h => by exact fin h) (fun s' h => by exact h)
end add
end Go.Am.B
