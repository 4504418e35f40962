/- rational.add, Add, Sub, Mul, Quo. -/
import Derived.Test.YtbghpkgbokbmlaaGreatB19
set_option linter.unusedVariables false
namespace Go.Am.B
open Go Go.Am.N AV
theorem C3 {b : Bool} {N D k : Nat} (hk : k ≠ 0) : sQ b (N * k) (D * k) = sQ b N D := by
 unfold sQ
 have : eC b (N * k) = eC b N * (k : Int) := by unfold eC; split <;> simp [Int.neg_mul]
 rw [this, Rat.mkRat_mul_right hk]
theorem Ar {a c : Int} {d : Nat} (hd : d ≠ 0) : mkRat a d + mkRat c d = mkRat (a + c) d := by
 rw [Rat.mkRat_add_mkRat _ _ hd hd, ← Int.add_mul, Rat.mkRat_mul_right hd]
theorem zI {s : Bool} {X Y D : Nat} (hD : D ≠ 0) : sQ s X D + sQ s Y D = sQ s (X + Y) D := by
 unfold sQ
 rw [Ar hD]
 congr 1
 unfold eC; split <;> simp <;> omega
theorem AW {b s : Bool} {X Y D : Nat} (hD : D ≠ 0) (hb : b ≠ s) (h : Y ≤ X) : sQ b X D + sQ s Y D = sQ b (X - Y) D := by
 unfold sQ
 rw [Ar hD]
 congr 1
 unfold eC
 cases b <;> cases s <;> simp at hb ⊢ <;> omega
theorem Bv {b s : Bool} {X Y D : Nat} (hD : D ≠ 0) (hb : b ≠ s) (h : X ≤ Y) : sQ b X D + sQ s Y D = sQ s (Y - X) D := by
 unfold sQ
 rw [Ar hD]
 congr 1
 unfold eC
 cases b <;> cases s <;> simp at hb ⊢ <;> omega
theorem QC {b s : Bool} {X Y : Nat} : eC b X * eC s Y = eC (b != s) (X * Y) := by
 unfold eC
 cases b <;> cases s <;> simp [Int.neg_mul, Int.mul_neg]
theorem Ba {b s : Bool} {X Y D E : Nat} : sQ b X D * sQ s Y E = sQ (b != s) (X * Y) (D * E) := by
 unfold sQ
 rw [Rat.mkRat_mul_mkRat, QC]
theorem mA {q : Rat} (h : bn q = true) : q.num.natAbs < 4294967296 ∧ q.den < 4294967296 := by
 unfold bn at h
 simpa using h
theorem kq {a b : Nat} (ha : a < 4294967296) (hb : b < 4294967296) : IntKind.u64.wrap ((a : Int) * (b : Int)) = ((a * b : Nat) : Int) ∧ a * b ≤ 18446744065119617025 := by
 have h := Nat.mul_le_mul (show a ≤ 4294967295 by omega) (show b ≤ 4294967295 by omega)
 refine ⟨?_, h⟩
 rw [show (a : Int) * (b : Int) = ((a * b : Nat) : Int) by simp, bE (by omega) (by omega)]
section add
variable {q r : Rat} {n m : Nat} {s : Bool}
theorem NL {f : Nat → AV} (hf : ∀ i, i < 1 → keys (f i) = []) {b : Bool} {N D : Nat} : fz 8193 (kX b N D r m f) := ⟨⟨by omega, hf⟩, ⟨by omega, fun _ _ => rfl⟩, ⟨by omega, fun _ _ => rfl⟩, trivial⟩
theorem wL : fz 8193 (jS q r n m) := ⟨⟨by omega, fun _ _ => rfl⟩, ⟨by omega, fun _ _ => rfl⟩, ⟨by omega, fun _ _ => rfl⟩, trivial⟩
theorem Ah (q r : Rat) (s : Bool) : q + sQ s r.num.natAbs r.den = sQ (decide (q < 0)) (q.num.natAbs * r.den) (q.den * r.den) + sQ s (r.num.natAbs * q.den) (q.den * r.den) := by
 rw [C3 r.den_nz, iz, Nat.mul_comm q.den, C3 q.den_nz]
theorem JQ {c : Ctx} (h0 : ∀ nx k x, c.k0 k = some x → k < nx) (hq : Sz q n) (hr : Sz r m) (hn : n < 2 ^ 42) (hm' : m < 2 ^ 42) {s' : aE} (hv : aT dm s' = some (fM s, jS q r n m)) :
  ak P c dY.ntmps jz s' (dI c (Fin T dY (.rat (q + sQ s r.num.natAbs r.den) (n + m + 1)))) := by
 obtain ⟨a1, a2, a3⟩ := Sz.gP hq (by omega)
 obtain ⟨b1, b2, b3⟩ := Sz.gP hr (by omega)
 have d1 := q.den_nz
 have d2 := r.den_nz
 have hz : Sz (q + sQ s r.num.natAbs r.den) (n + m + 1) := hq.add (zL d2 hr.1 hr.2)
 have bx : ∀ {a b : Nat}, a < 2 ^ n → b < 2 ^ m → nl (a * b) < 2 ^ 40 := fun ha hb => hH (n := n + m) (by rw [Nat.pow_add]; exact Nat.mul_lt_mul'' ha hb) (by omega)
 have last : ∀ {s' : aE} {X Y D k : Nat}, k < 2 ^ 43 → X < 2 ^ k → Y < 2 ^ k → nl D < 2 ^ 40 → D ≠ 0 → q + sQ s r.num.natAbs r.den = sQ (decide (q < 0)) X D + sQ s Y D → aT (dm ++ [15, 16, 17]) s' = some (fM s ++ [.mag X, .mag Y, .mag D], jS q r n m) →
   az P c dY.ntmps [part jz [1,1]] s' (dI c (Fin T dY (.rat (q + sQ s r.num.natAbs r.den) (n + m + 1)))) := by
  intro s' X Y D k hk hX2 hY2 hD hD0 heq hv
  have hX := hH hX2 (by omega)
  have hY := hH hY2 (by omega)
  have hXY : nl (X + Y) < 2 ^ 40 := hH (n := k + 1) (by rw [Nat.pow_succ]; omega) (by omega)
  refine az.gZ hT iI hm 60 hv (h0 _) rfl wL R8 (by kernel_rfl) rfl ?_
  simp only [aa.all, ax, beq_iff_eq, beq_eq_false_iff_ne, ne_eq]
  refine ⟨by omega, fun hb => ⟨⟨hX, hY, hXY, hD, by omega⟩, by omega, eE ?_ hz⟩, fun hb => ⟨⟨hX, hY⟩, fun hc => ⟨⟨by omega, Nat.lt_of_le_of_lt (fA (Nat.sub_le _ _)) hX, hD, by omega⟩, by omega, eE ?_ hz⟩, fun hc => ⟨⟨hY, hX⟩, ⟨Nat.lt_of_le_of_lt (fA (Nat.sub_le _ _)) hY, hD, by omega⟩, by omega, eE ?_ hz⟩⟩⟩
  ·rw [heq, hb, zI hD0]
  ·rw [heq, AW hD0 hb (by split at hc <;> omega)]
  ·rw [heq, Bv hD0 hb (by split at hc <;> omega)]
 have mulb : ∀ {a b : Nat}, a < 2 ^ n → b < 2 ^ m → a * b < 2 ^ (n + m) := fun ha hb => by rw [Nat.pow_add]; exact Nat.mul_lt_mul'' ha hb
 refine ak.hole [1,1] (by kernel_rfl) (az.dO hT iI hm 60 hv (h0 _) rfl wL (dm ++ [15, 16, 17]) T8 (by kernel_rfl) rfl ?_)
 simp only [aa.all, ax, Bool.not_eq_true', decide_eq_false_iff_not, Bool.not_eq_false', decide_eq_true_eq]
 have fin : ∀ {s' : aE} {R : AV}, az P c dY.ntmps [part jz [1,1]] s' (dI c (Fin T dY R)) → ak P c dY.ntmps (part jz [1,1]) s' (dc (fun s'' => az P c dY.ntmps (behind jz [1,1]) s'' (dI c (Fin T dY R))) (dI c (Fin T dY R))) :=
  fun h => ak.mono h fun e s' h => by cases e <;> exact h
 refine ⟨⟨by omega, by omega, by omega⟩, ⟨by omega, by omega, a3, b3⟩, fun hb => ⟨⟨by omega, a1, b2, by omega, b1, a2, by omega, a2, b2⟩, fun s' hv => bM (fin (last (k := n + m) (by omega) (mulb hq.1 hr.2) ?_ (bx hq.2 hr.2) (Nat.mul_ne_zero d1 d2) (Ah q r s) hv))⟩, fun hb s' hv => bM (fin (last (k := n + m) (by omega) (Nat.lt_of_lt_of_le hq.1 (Nat.pow_le_pow_right (by omega) (by omega))) (Nat.lt_of_lt_of_le hr.1 (Nat.pow_le_pow_right (by omega) (by omega))) a2 d1 ?_ hv))⟩
 ·rw [Nat.mul_comm]; exact mulb hq.2 hr.1
 ·have : q.den = r.den := by split at hb <;> split at hb <;> omega
  rw [← this, iz]
theorem WU {c : Ctx} (h0 : ∀ nx k x, c.k0 k = some x → k < nx) (hq : Sz q n) (hr : Sz r m) (hn : n < 2 ^ 42) (hm' : m < 2 ^ 42) (h1 : bn q = true) (h2 : bn r = true) {s' : aE} {Q : ah → aE → Prop}
  (hv : aT (dm ++ [7, 8, 10, 11]) s' = some (fM s ++ [.int .u64 (q.num.natAbs : Nat), .int .u64 (q.den : Nat), .int .u64 (r.num.natAbs : Nat), .int .u64 (r.den : Nat)], jS q r n m))
  (hN : ∀ s', ak P c dY.ntmps jz s' (dI c (Fin T dY (.rat (q + sQ s r.num.natAbs r.den) (n + m + 1)))) → Q .normal s')
  (hR : ∀ s', dI c (Fin T dY (.rat (q + sQ s r.num.natAbs r.den) (n + m + 1))) .ret s' → Q .ret s') : ak P c dY.ntmps pM s' Q := by
 have d1 := q.den_nz
 have d2 := r.den_nz
 have hz : Sz (q + sQ s r.num.natAbs r.den) (n + m + 1) := hq.add (zL d2 hr.1 hr.2)
 obtain ⟨q1, q2⟩ := mA h1
 obtain ⟨r1, r2⟩ := mA h2
 have hval := Ah q r s
 obtain ⟨b, hb⟩ : ∃ b, decide (q < 0) = b := ⟨_, rfl⟩
 rw [hb] at hval
 obtain ⟨wx, bx⟩ := kq q1 r2
 obtain ⟨wy, by'⟩ := kq r1 q2
 obtain ⟨wd, bd⟩ := kq q2 r2
 have hd0 : q.den * r.den ≠ 0 := Nat.mul_ne_zero d1 d2
 have hk0 : c.k0 = aX := by
  funext k
  cases hk : c.k0 k with
  | none => rfl
  | some x => have := h0 0 k x hk; omega
 -- the end by short numbers
 have ret : ∀ {s' : aE} {N D k : Nat} {z : Rat}, z = q + sQ s r.num.natAbs r.den → aT dm s' = some (fM s, kX b N D r m fun j => if j = 0 then bw (.rat z k) else .rat 0 1) → Q .ret s' := by
  intro s' N D k z hzv hv
  refine hR _ (uj SY hv (h0 8193) rfl (NL fun i _ => ?_) ⟨show 0 < 1 by omega, eE hzv hz⟩)
  split <;> rfl
 have back : ∀ {s' : aE}, aT dm s' = some (fM s, kX b q.num.natAbs (if q.den = 1 then 0 else q.den) r m fun _ => .rat 0 1) → Q .normal s' := by
  intro s' hv
  refine hN _ (ak.kG (cB (vs := fM s) (ps := jS q r n m) (nx := 8193) [(0, 0), (4096, 4096), (8192, 8192)] hv hk0 (by simp [gM]) ⟨⟨rfl, aG rfl⟩, ⟨rfl, jB rfl⟩, ⟨rfl, jB rfl⟩, ⟨rfl, jB rfl⟩, trivial⟩
   ⟨⟨_, _, rfl, rfl, g9 rfl fun i _ => aG rfl⟩, ⟨_, _, rfl, rfl, g9 rfl fun i _ => aG rfl⟩, ⟨_, _, rfl, rfl, g9 rfl fun i _ => tH rfl ?_⟩, trivial⟩) ?_)
  ·rw [← hb]; exact EU hq
  ·exact JQ h0 hq hr hn hm' (s := s) rfl
 refine ak.kG (cB (us := [.bool s, .ptr 0 0 3 0 [], .ptr 4096 0 3 0 [], .ptr 8192 0 3 0 [], .int .u64 (q.num.natAbs : Nat), .int .u64 (q.den : Nat), .int .u64 (r.num.natAbs : Nat), .int .u64 (r.den : Nat)])
   (vs := [.bool s, .ptr 0 0 3 0 [], .ptr 4096 0 3 0 [], .ptr 8192 0 3 0 [], .int .u64 (q.num.natAbs : Nat), .int .u64 (q.den : Nat), .int .u64 (r.num.natAbs : Nat), .int .u64 (r.den : Nat)]) (os := jS q r n m) (ps := kX b q.num.natAbs (if q.den = 1 then 0 else q.den) r m fun _ => .rat 0 1) (nx := 8193) [(0, 0), (4096, 4096), (8192, 8192)] hv hk0 (by simp [gM])
  ⟨⟨rfl, aG rfl⟩, ⟨rfl, jB rfl⟩, ⟨rfl, jB rfl⟩, ⟨rfl, jB rfl⟩, ⟨rfl, aG rfl⟩, ⟨rfl, aG rfl⟩, ⟨rfl, aG rfl⟩, ⟨rfl, aG rfl⟩, trivial⟩
  ⟨⟨_, _, rfl, rfl, g9 rfl fun i _ => aG rfl⟩, ⟨_, _, rfl, rfl, g9 rfl fun i _ => aG rfl⟩, ⟨_, _, rfl, rfl, g9 rfl fun i _ => tH rfl (by rw [← hb]; exact Hz)⟩, trivial⟩) ?_
 have hD0 : 0 < q.den * r.den := by omega
 have eqc : b = s → sQ s (q.num.natAbs * r.den + r.num.natAbs * q.den) (q.den * r.den) = q + sQ s r.num.natAbs r.den := fun h => by rw [hval, h, zI hd0]
 have gec : b ≠ s → r.num.natAbs * q.den ≤ q.num.natAbs * r.den → sQ b (q.num.natAbs * r.den - r.num.natAbs * q.den) (q.den * r.den) = q + sQ s r.num.natAbs r.den := fun h h' => by rw [hval, AW hd0 h h']
 have ltc : b ≠ s → q.num.natAbs * r.den ≤ r.num.natAbs * q.den → sQ s (r.num.natAbs * q.den - q.num.natAbs * r.den) (q.den * r.den) = q + sQ s r.num.natAbs r.den := fun h h' => by rw [hval, Bv hd0 h h']
 clear hval hv hN hR h1 h2 hb
 generalize q + sQ s r.num.natAbs r.den = V at *
 generalize q.num.natAbs * r.den = X at *
 generalize r.num.natAbs * q.den = Y at *
 generalize q.den * r.den = D at *
 have ws : ∀ {a b : Nat}, b ≤ a → a ≤ 18446744065119617025 → IntKind.u64.wrap ((a : Int) - (b : Int)) = ((a - b : Nat) : Int) := fun {a b} h1 h2 => by rw [bE (by omega) (by omega)]; omega
 cases b <;> cases s
 ·refine ak.bk hT iI hm 60 dm MG (by kernel_rfl) ?_
  rw [wx, wy, wd]
  simp only [aa.all, ax, beq_iff_eq, Int.toNat_natCast]
  refine ⟨⟨by omega, by omega, by omega⟩, by omega, fun hc => ⟨⟨by omega, by omega, by omega⟩, fun s' hv => ret ?_ hv⟩, fun hc => ⟨by omega, by omega, fun s' hv => back hv⟩⟩
  have h := eq_of_beq (gr hc)
  have e : (((X : Int) + (Y : Int) + 0) % 18446744073709551616).toNat = X + Y := by omega
  rw [e]; exact eqc rfl
 ·refine ak.bk hT iI hm 60 dm TA (by kernel_rfl) ?_
  rw [wx, wy, wd]
  simp only [aa.all, ax, beq_iff_eq, Int.toNat_natCast]
  refine ⟨⟨by omega, by omega, by omega⟩, by omega, by omega, fun hc => ?_, fun hc => ?_⟩
  ·have h := of_decide_eq_true (gr hc)
   have h' : Y ≤ X := by omega
   rw [ws h' bx]
   refine ⟨⟨by omega, by omega, by omega, by omega⟩, fun s' hv => ret ?_ hv⟩
   rw [Int.toNat_natCast]; exact gec (by simp) h'
  ·have h := of_decide_eq_false (gr hc)
   have h' : X ≤ Y := by omega
   rw [ws h' by']
   refine ⟨by omega, ⟨by omega, by omega, by omega⟩, fun s' hv => ret ?_ hv⟩
   rw [Int.toNat_natCast]; exact ltc (by simp) h'
 ·refine ak.bk hT iI hm 60 dm Xg (by kernel_rfl) ?_
  rw [wx, wy, wd]
  simp only [aa.all, ax, beq_iff_eq, Int.toNat_natCast]
  refine ⟨⟨by omega, by omega, by omega⟩, by omega, by omega, fun hc => ?_, fun hc => ?_⟩
  ·have h := of_decide_eq_true (gr hc)
   have h' : Y ≤ X := by omega
   rw [ws h' bx]
   refine ⟨⟨by omega, by omega, by omega, by omega⟩, fun s' hv => ret ?_ hv⟩
   rw [Int.toNat_natCast]; exact gec (by simp) h'
  ·have h := of_decide_eq_false (gr hc)
   have h' : X ≤ Y := by omega
   rw [ws h' by']
   refine ⟨by omega, ⟨by omega, by omega, by omega⟩, fun s' hv => ret ?_ hv⟩
   rw [Int.toNat_natCast]; exact ltc (by simp) h'
 ·refine ak.bk hT iI hm 60 dm K3 (by kernel_rfl) ?_
  rw [wx, wy, wd]
  simp only [aa.all, ax, beq_iff_eq, Int.toNat_natCast]
  refine ⟨⟨by omega, by omega, by omega⟩, by omega, fun hc => ⟨⟨by omega, by omega, by omega⟩, fun s' hv => ret ?_ hv⟩, fun hc => ⟨by omega, by omega, fun s' hv => back hv⟩⟩
  have h := eq_of_beq (gr hc)
  have e : (((X : Int) + (Y : Int) + 0) % 18446744073709551616).toNat = X + Y := by omega
  rw [e]; exact eqc rfl
theorem J7 (hn : n < 2 ^ 42) (hm' : m < 2 ^ 42) (K : Nat) (pre : aC) : ay P tS K [.rat q n, .rat r m, .bool s] pre (aF (.rat (q + sQ s r.num.natAbs r.den) (n + m + 1)) []) := by
 refine gT fun ⟨hq, hr, _⟩ => ?_
 have hq : Sz q n := hq
 have hr : Sz r m := hr
 refine fX hT LD rfl (of_decide_eq_true (by kernel_rfl)) rfl (fun _ c h0 => ?_) K pre
 have long := fun {s' : aE} => JQ (s := s) (s' := s') h0 hq hr hn hm'
 have fin : ∀ {s' : aE} {R : AV}, ak P c dY.ntmps jz s' (dI c (Fin T dY R)) → ak P c dY.ntmps jz s' (dc (fun s'' => az P c dY.ntmps (behind (au dY) [1,1]) s'' (dI c (Fin T dY R))) (dI c (Fin T dY R))) :=
  fun h => ak.mono h fun e s' h => by cases e <;> exact h
 refine ak.hole [1,1] (by kernel_rfl) (az.chunk 1 (az.bk hT iI hm 60 dm Yl (by kernel_rfl) fun s' hv => bM ?_))
 show az P c dY.ntmps [Aa] s' _
 refine az.gW hv (h0 8193) rfl rfl wL ?_
 refine ak.hole [1,1] (by kernel_rfl) (az.bk hT iI hm 60 (dm ++ [7, 8, 28]) Ns (by kernel_rfl) ⟨show 0 < 1 by omega, fun s' hv => bM ?_⟩)
 refine ak.cond (b := .tmp 28) (x := BB) (y := .skip) (rT hv rfl rfl) (fun h1 => ?_) (fun h1 => ak.skip (by exact fin (long (gd (ls := dm) (l := [7, 8, 28]) (vs := fM s) hv rfl rfl))))
 simp only [h1, if_true] at hv
 have hv := gd (ls := dm ++ [7, 8]) (l := [28]) (vs := fM s ++ [.int .u64 (q.num.natAbs : Nat), .int .u64 (q.den : Nat)]) hv rfl rfl
 refine ak.gW hv (h0 8193) rfl wL ?_
 refine ak.hole [1,1] (by kernel_rfl) (az.bk hT iI hm 60 (dm ++ [7, 8, 10, 11, 35]) WI (by kernel_rfl) ⟨show 0 < 1 by omega, fun s' hv => bM ?_⟩)
 refine ak.cond (b := .tmp 35) (x := pM) (y := .skip) (rT hv rfl rfl) (fun h2 => ?_) (fun h2 => ak.skip (by exact fin (long (gd (ls := dm) (l := [7, 8, 10, 11, 35]) (vs := fM s) hv rfl rfl))))
 simp only [h2, if_true] at hv
 exact WU h0 hq hr hn hm' h1 h2 (gd (ls := dm ++ [7, 8, 10, 11]) (l := [35]) (vs := fM s ++ [.int .u64 (q.num.natAbs : Nat), .int .u64 (q.den : Nat), .int .u64 (r.num.natAbs : Nat), .int .u64 (r.den : Nat)]) hv rfl rfl)
  (fun s' h => by exact fin h) (fun s' h => by exact h)
end add
end Go.Am.B
