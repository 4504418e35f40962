/- rational.add, Add, Sub, Mul, Quo. -/
import Derived.Test.YtnocdkaonpdmjaaGreatB19
set_option linter.unusedVariables false
namespace Go.Am.B
open Go Go.Am.N AV
theorem GC {b : Bool} {N D k : Nat} (hk : k ≠ 0) : sQ b (N * k) (D * k) = sQ b N D := by
 unfold sQ
 have : er b (N * k) = er b N * (k : Int) := by unfold er; split <;> simp [Int.neg_mul]
 rw [this, Rat.mkRat_mul_right hk]
theorem B1 {a c : Int} {d : Nat} (hd : d ≠ 0) : mkRat a d + mkRat c d = mkRat (a + c) d := by
 rw [Rat.mkRat_add_mkRat _ _ hd hd, ← Int.add_mul, Rat.mkRat_mul_right hd]
theorem A9 {s : Bool} {X Y D : Nat} (hD : D ≠ 0) : sQ s X D + sQ s Y D = sQ s (X + Y) D := by
 unfold sQ
 rw [B1 hD]
 congr 1
 unfold er; split <;> simp <;> omega
theorem Cz {b s : Bool} {X Y D : Nat} (hD : D ≠ 0) (hb : b ≠ s) (h : Y ≤ X) : sQ b X D + sQ s Y D = sQ b (X - Y) D := by
 unfold sQ
 rw [B1 hD]
 congr 1
 unfold er
 cases b <;> cases s <;> simp at hb ⊢ <;> omega
theorem DF {b s : Bool} {X Y D : Nat} (hD : D ≠ 0) (hb : b ≠ s) (h : X ≤ Y) : sQ b X D + sQ s Y D = sQ s (Y - X) D := by
 unfold sQ
 rw [B1 hD]
 congr 1
 unfold er
 cases b <;> cases s <;> simp at hb ⊢ <;> omega
theorem NV {b s : Bool} {X Y : Nat} : er b X * er s Y = er (b != s) (X * Y) := by
 unfold er
 cases b <;> cases s <;> simp [Int.neg_mul, Int.mul_neg]
theorem BW {b s : Bool} {X Y D E : Nat} : sQ b X D * sQ s Y E = sQ (b != s) (X * Y) (D * E) := by
 unfold sQ
 rw [Rat.mkRat_mul_mkRat, NV]
theorem mD {q : Rat} (h : bk q = true) : q.num.natAbs < 4294967296 ∧ q.den < 4294967296 := by
 unfold bk at h
 simpa using h
theorem kX {a b : Nat} (ha : a < 4294967296) (hb : b < 4294967296) : IntKind.u64.wrap ((a : Int) * (b : Int)) = ((a * b : Nat) : Int) ∧ a * b ≤ 18446744065119617025 := by
 have h := Nat.mul_le_mul (show a ≤ 4294967295 by omega) (show b ≤ 4294967295 by omega)
 refine ⟨?_, h⟩
 rw [show (a : Int) * (b : Int) = ((a * b : Nat) : Int) by simp, wrap_u64 (by omega) (by omega)]
section add
variable {q r : Rat} {n m : Nat} {s : Bool}
theorem TL {f : Nat → AV} (hf : ∀ i, i < 1 → keys (f i) = []) {b : Bool} {N D : Nat} : fk 8193 (lg b N D r m f) := ⟨⟨by omega, hf⟩, ⟨by omega, fun _ _ => rfl⟩, ⟨by omega, fun _ _ => rfl⟩, trivial⟩
theorem yS : fk 8193 (j7 q r n m) := ⟨⟨by omega, fun _ _ => rfl⟩, ⟨by omega, fun _ _ => rfl⟩, ⟨by omega, fun _ _ => rfl⟩, trivial⟩
theorem B3 (q r : Rat) (s : Bool) : q + sQ s r.num.natAbs r.den = sQ (decide (q < 0)) (q.num.natAbs * r.den) (q.den * r.den) + sQ s (r.num.natAbs * q.den) (q.den * r.den) := by
 rw [GC r.den_nz, iL, Nat.mul_comm q.den, GC q.den_nz]
theorem HY {c : Ctx} (h0 : ∀ nx k x, c.k0 k = some x → k < nx) (hq : Sz q n) (hr : Sz r m) (hn : n < 2 ^ 42) (hm' : m < 2 ^ 42) {s' : aE} (hv : aU dm s' = some (fH s, j7 q r n m)) :
  aq P c dU.ntmps j5 s' (dc c (Fin T dU (.rat (q + sQ s r.num.natAbs r.den) (n + m + 1)))) := by
 obtain ⟨a1, a2, a3⟩ := Sz.gr hq (by omega)
 obtain ⟨b1, b2, b3⟩ := Sz.gr hr (by omega)
 have d1 := q.den_nz
 have d2 := r.den_nz
 have hz : Sz (q + sQ s r.num.natAbs r.den) (n + m + 1) := hq.add (BS d2 hr.1 hr.2)
 have bx : ∀ {a b : Nat}, a < 2 ^ n → b < 2 ^ m → nl (a * b) < 2 ^ 40 := fun ha hb => iw (n := n + m) (by rw [Nat.pow_add]; exact Nat.mul_lt_mul'' ha hb) (by omega)
 have last : ∀ {s' : aE} {X Y D k : Nat}, k < 2 ^ 43 → X < 2 ^ k → Y < 2 ^ k → nl D < 2 ^ 40 → D ≠ 0 → q + sQ s r.num.natAbs r.den = sQ (decide (q < 0)) X D + sQ s Y D → aU (dm ++ [15, 16, 17]) s' = some (fH s ++ [.mag X, .mag Y, .mag D], j7 q r n m) →
   aB P c dU.ntmps [part j5 [1,1]] s' (dc c (Fin T dU (.rat (q + sQ s r.num.natAbs r.den) (n + m + 1)))) := by
  intro s' X Y D k hk hX2 hY2 hD hD0 heq hv
  have hX := iw hX2 (by omega)
  have hY := iw hY2 (by omega)
  have hXY : nl (X + Y) < 2 ^ 40 := iw (n := k + 1) (by rw [Nat.pow_succ]; omega) (by omega)
  refine aB.iC hT iX hm 60 hv (h0 _) rfl yS aaz (by kernel_rfl) rfl ?_
  simp only [aa.all, ay, beq_iff_eq, beq_eq_false_iff_ne, ne_eq]
  refine ⟨by omega, fun hb => ⟨⟨hX, hY, hXY, hD, by omega⟩, by omega, eU ?_ hz⟩, fun hb => ⟨⟨hX, hY⟩, fun hc => ⟨⟨by omega, Nat.lt_of_le_of_lt (fu (Nat.sub_le _ _)) hX, hD, by omega⟩, by omega, eU ?_ hz⟩, fun hc => ⟨⟨hY, hX⟩, ⟨Nat.lt_of_le_of_lt (fu (Nat.sub_le _ _)) hY, hD, by omega⟩, by omega, eU ?_ hz⟩⟩⟩
  ·rw [heq, hb, A9 hD0]
  ·rw [heq, Cz hD0 hb (by split at hc <;> omega)]
  ·rw [heq, DF hD0 hb (by split at hc <;> omega)]
 have mulb : ∀ {a b : Nat}, a < 2 ^ n → b < 2 ^ m → a * b < 2 ^ (n + m) := fun ha hb => by rw [Nat.pow_add]; exact Nat.mul_lt_mul'' ha hb
 refine aq.hole [1,1] (by kernel_rfl) (aB.dN hT iX hm 60 hv (h0 _) rfl yS (dm ++ [15, 16, 17]) YH (by kernel_rfl) rfl ?_)
 simp only [aa.all, ay, Bool.not_eq_true', decide_eq_false_iff_not, Bool.not_eq_false', decide_eq_true_eq]
 have fin : ∀ {s' : aE} {R : AV}, aB P c dU.ntmps [part j5 [1,1]] s' (dc c (Fin T dU R)) → aq P c dU.ntmps (part j5 [1,1]) s' (cP (fun s'' => aB P c dU.ntmps (behind j5 [1,1]) s'' (dc c (Fin T dU R))) (dc c (Fin T dU R))) :=
  fun h => aq.mono h fun e s' h => by cases e <;> exact h
 refine ⟨⟨by omega, by omega, by omega⟩, ⟨by omega, by omega, a3, b3⟩, fun hb => ⟨⟨by omega, a1, b2, by omega, b1, a2, by omega, a2, b2⟩, fun s' hv => bP (fin (last (k := n + m) (by omega) (mulb hq.1 hr.2) ?_ (bx hq.2 hr.2) (Nat.mul_ne_zero d1 d2) (B3 q r s) hv))⟩, fun hb s' hv => bP (fin (last (k := n + m) (by omega) (Nat.lt_of_lt_of_le hq.1 (Nat.pow_le_pow_right (by omega) (by omega))) (Nat.lt_of_lt_of_le hr.1 (Nat.pow_le_pow_right (by omega) (by omega))) a2 d1 ?_ hv))⟩
 ·rw [Nat.mul_comm]; exact mulb hq.2 hr.1
 ·have : q.den = r.den := by split at hb <;> split at hb <;> omega
  rw [← this, iL]
theorem NY {c : Ctx} (h0 : ∀ nx k x, c.k0 k = some x → k < nx) (hq : Sz q n) (hr : Sz r m) (hn : n < 2 ^ 42) (hm' : m < 2 ^ 42) (h1 : bk q = true) (h2 : bk r = true) {s' : aE} {Q : aj → aE → Prop}
  (hv : aU (dm ++ [7, 8, 10, 11]) s' = some (fH s ++ [.int .u64 (q.num.natAbs : Nat), .int .u64 (q.den : Nat), .int .u64 (r.num.natAbs : Nat), .int .u64 (r.den : Nat)], j7 q r n m))
  (hN : ∀ s', aq P c dU.ntmps j5 s' (dc c (Fin T dU (.rat (q + sQ s r.num.natAbs r.den) (n + m + 1)))) → Q .normal s')
  (hR : ∀ s', dc c (Fin T dU (.rat (q + sQ s r.num.natAbs r.den) (n + m + 1))) .ret s' → Q .ret s') : aq P c dU.ntmps rD s' Q := by
 have d1 := q.den_nz
 have d2 := r.den_nz
 have hz : Sz (q + sQ s r.num.natAbs r.den) (n + m + 1) := hq.add (BS d2 hr.1 hr.2)
 obtain ⟨q1, q2⟩ := mD h1
 obtain ⟨r1, r2⟩ := mD h2
 have hval := B3 q r s
 obtain ⟨b, hb⟩ : ∃ b, decide (q < 0) = b := ⟨_, rfl⟩
 rw [hb] at hval
 obtain ⟨wx, bx⟩ := kX q1 r2
 obtain ⟨wy, by'⟩ := kX r1 q2
 obtain ⟨wd, bd⟩ := kX q2 r2
 have hd0 : q.den * r.den ≠ 0 := Nat.mul_ne_zero d1 d2
 have hk0 : c.k0 = aW := by
  funext k
  cases hk : c.k0 k with
  | none => rfl
  | some x => have := h0 0 k x hk; omega
 -- the end by short numbers
 have ret : ∀ {s' : aE} {N D k : Nat} {z : Rat}, z = q + sQ s r.num.natAbs r.den → aU dm s' = some (fH s, lg b N D r m fun j => if j = 0 then bC (.rat z k) else .rat 0 1) → Q .ret s' := by
  intro s' N D k z hzv hv
  refine hR _ (xI QZ hv (h0 8193) rfl (TL fun i _ => ?_) ⟨show 0 < 1 by omega, eU hzv hz⟩)
  split <;> rfl
 have back : ∀ {s' : aE}, aU dm s' = some (fH s, lg b q.num.natAbs (if q.den = 1 then 0 else q.den) r m fun _ => .rat 0 1) → Q .normal s' := by
  intro s' hv
  refine hN _ (aq.jK (cC (vs := fH s) (ps := j7 q r n m) (nx := 8193) [(0, 0), (4096, 4096), (8192, 8192)] hv hk0 (by simp [gf]) ⟨⟨rfl, aF rfl⟩, ⟨rfl, ke rfl⟩, ⟨rfl, ke rfl⟩, ⟨rfl, ke rfl⟩, trivial⟩
   ⟨⟨_, _, rfl, rfl, gM rfl fun i _ => aF rfl⟩, ⟨_, _, rfl, rfl, gM rfl fun i _ => aF rfl⟩, ⟨_, _, rfl, rfl, gM rfl fun i _ => kJ rfl ?_⟩, trivial⟩) ?_)
  ·rw [← hb]; exact Fu hq
  ·exact HY h0 hq hr hn hm' (s := s) rfl
 refine aq.jK (cC (us := [.bool s, .ptr 0 0 3 0 [], .ptr 4096 0 3 0 [], .ptr 8192 0 3 0 [], .int .u64 (q.num.natAbs : Nat), .int .u64 (q.den : Nat), .int .u64 (r.num.natAbs : Nat), .int .u64 (r.den : Nat)])
   (vs := [.bool s, .ptr 0 0 3 0 [], .ptr 4096 0 3 0 [], .ptr 8192 0 3 0 [], .int .u64 (q.num.natAbs : Nat), .int .u64 (q.den : Nat), .int .u64 (r.num.natAbs : Nat), .int .u64 (r.den : Nat)]) (os := j7 q r n m) (ps := lg b q.num.natAbs (if q.den = 1 then 0 else q.den) r m fun _ => .rat 0 1) (nx := 8193) [(0, 0), (4096, 4096), (8192, 8192)] hv hk0 (by simp [gf])
  ⟨⟨rfl, aF rfl⟩, ⟨rfl, ke rfl⟩, ⟨rfl, ke rfl⟩, ⟨rfl, ke rfl⟩, ⟨rfl, aF rfl⟩, ⟨rfl, aF rfl⟩, ⟨rfl, aF rfl⟩, ⟨rfl, aF rfl⟩, trivial⟩
  ⟨⟨_, _, rfl, rfl, gM rfl fun i _ => aF rfl⟩, ⟨_, _, rfl, rfl, gM rfl fun i _ => aF rfl⟩, ⟨_, _, rfl, rfl, gM rfl fun i _ => kJ rfl (by rw [← hb]; exact H7)⟩, trivial⟩) ?_
 have hD0 : 0 < q.den * r.den := by omega
 have eqc : b = s → sQ s (q.num.natAbs * r.den + r.num.natAbs * q.den) (q.den * r.den) = q + sQ s r.num.natAbs r.den := fun h => by rw [hval, h, A9 hd0]
 have gec : b ≠ s → r.num.natAbs * q.den ≤ q.num.natAbs * r.den → sQ b (q.num.natAbs * r.den - r.num.natAbs * q.den) (q.den * r.den) = q + sQ s r.num.natAbs r.den := fun h h' => by rw [hval, Cz hd0 h h']
 have ltc : b ≠ s → q.num.natAbs * r.den ≤ r.num.natAbs * q.den → sQ s (r.num.natAbs * q.den - q.num.natAbs * r.den) (q.den * r.den) = q + sQ s r.num.natAbs r.den := fun h h' => by rw [hval, DF hd0 h h']
 clear hval hv hN hR h1 h2 hb
 generalize q + sQ s r.num.natAbs r.den = V at *
 generalize q.num.natAbs * r.den = X at *
 generalize r.num.natAbs * q.den = Y at *
 generalize q.den * r.den = D at *
 have ws : ∀ {a b : Nat}, b ≤ a → a ≤ 18446744065119617025 → IntKind.u64.wrap ((a : Int) - (b : Int)) = ((a - b : Nat) : Int) := fun {a b} h1 h2 => by rw [wrap_u64 (by omega) (by omega)]; omega
 cases b <;> cases s
 ·refine aq.aX hT iX hm 60 dm aae (by kernel_rfl) ?_
  rw [wx, wy, wd]
  simp only [aa.all, ay, beq_iff_eq, Int.toNat_natCast]
  refine ⟨⟨by omega, by omega, by omega⟩, by omega, fun hc => ⟨⟨by omega, by omega, by omega⟩, fun s' hv => ret ?_ hv⟩, fun hc => ⟨by omega, by omega, fun s' hv => back hv⟩⟩
  have h := eq_of_beq (gu hc)
  have e : (((X : Int) + (Y : Int) + 0) % 18446744073709551616).toNat = X + Y := by omega
  rw [e]; exact eqc rfl
 ·refine aq.aX hT iX hm 60 dm Qy (by kernel_rfl) ?_
  rw [wx, wy, wd]
  simp only [aa.all, ay, beq_iff_eq, Int.toNat_natCast]
  refine ⟨⟨by omega, by omega, by omega⟩, by omega, by omega, fun hc => ?_, fun hc => ?_⟩
  ·have h := of_decide_eq_true (gu hc)
   have h' : Y ≤ X := by omega
   rw [ws h' bx]
   refine ⟨⟨by omega, by omega, by omega, by omega⟩, fun s' hv => ret ?_ hv⟩
   rw [Int.toNat_natCast]; exact gec (by simp) h'
  ·have h := of_decide_eq_false (gu hc)
   have h' : X ≤ Y := by omega
   rw [ws h' by']
   refine ⟨by omega, ⟨by omega, by omega, by omega⟩, fun s' hv => ret ?_ hv⟩
   rw [Int.toNat_natCast]; exact ltc (by simp) h'
 ·refine aq.aX hT iX hm 60 dm aaT (by kernel_rfl) ?_
  rw [wx, wy, wd]
  simp only [aa.all, ay, beq_iff_eq, Int.toNat_natCast]
  refine ⟨⟨by omega, by omega, by omega⟩, by omega, by omega, fun hc => ?_, fun hc => ?_⟩
  ·have h := of_decide_eq_true (gu hc)
   have h' : Y ≤ X := by omega
   rw [ws h' bx]
   refine ⟨⟨by omega, by omega, by omega, by omega⟩, fun s' hv => ret ?_ hv⟩
   rw [Int.toNat_natCast]; exact gec (by simp) h'
  ·have h := of_decide_eq_false (gu hc)
   have h' : X ≤ Y := by omega
   rw [ws h' by']
   refine ⟨by omega, ⟨by omega, by omega, by omega⟩, fun s' hv => ret ?_ hv⟩
   rw [Int.toNat_natCast]; exact ltc (by simp) h'
 ·refine aq.aX hT iX hm 60 dm TG (by kernel_rfl) ?_
  rw [wx, wy, wd]
  simp only [aa.all, ay, beq_iff_eq, Int.toNat_natCast]
  refine ⟨⟨by omega, by omega, by omega⟩, by omega, fun hc => ⟨⟨by omega, by omega, by omega⟩, fun s' hv => ret ?_ hv⟩, fun hc => ⟨by omega, by omega, fun s' hv => back hv⟩⟩
  have h := eq_of_beq (gu hc)
  have e : (((X : Int) + (Y : Int) + 0) % 18446744073709551616).toNat = X + Y := by omega
  rw [e]; exact eqc rfl
theorem L5 (hn : n < 2 ^ 42) (hm' : m < 2 ^ 42) (K : Nat) (pre : aD) : aA P rY K [.rat q n, .rat r m, .bool s] pre (aG (.rat (q + sQ s r.num.natAbs r.den) (n + m + 1)) []) := by
 refine gL fun ⟨hq, hr, _⟩ => ?_
 have hq : Sz q n := hq
 have hr : Sz r m := hr
 refine gb hT ME rfl (of_decide_eq_true (by kernel_rfl)) rfl (fun _ c h0 => ?_) K pre
 have long := fun {s' : aE} => HY (s := s) (s' := s') h0 hq hr hn hm'
 have fin : ∀ {s' : aE} {R : AV}, aq P c dU.ntmps j5 s' (dc c (Fin T dU R)) → aq P c dU.ntmps j5 s' (cP (fun s'' => aB P c dU.ntmps (behind (ax dU) [1,1]) s'' (dc c (Fin T dU R))) (dc c (Fin T dU R))) :=
  fun h => aq.mono h fun e s' h => by cases e <;> exact h
 refine aq.hole [1,1] (by kernel_rfl) (aB.chunk 1 (aB.aX hT iX hm 60 dm Vk (by kernel_rfl) fun s' hv => bP ?_))
 show aB P c dU.ntmps [BC] s' _
 refine aB.hG hv (h0 8193) rfl rfl yS ?_
 refine aq.hole [1,1] (by kernel_rfl) (aB.aX hT iX hm 60 (dm ++ [7, 8, 28]) Lt (by kernel_rfl) ⟨show 0 < 1 by omega, fun s' hv => bP ?_⟩)
 refine aq.cond (b := .tmp 28) (x := Ca) (y := .skip) (tU hv rfl rfl) (fun h1 => ?_) (fun h1 => aq.skip (by exact fin (long (fV (ls := dm) (l := [7, 8, 28]) (vs := fH s) hv rfl rfl))))
 simp only [h1, if_true] at hv
 have hv := fV (ls := dm ++ [7, 8]) (l := [28]) (vs := fH s ++ [.int .u64 (q.num.natAbs : Nat), .int .u64 (q.den : Nat)]) hv rfl rfl
 refine aq.hG hv (h0 8193) rfl yS ?_
 refine aq.hole [1,1] (by kernel_rfl) (aB.aX hT iX hm 60 (dm ++ [7, 8, 10, 11, 35]) KV (by kernel_rfl) ⟨show 0 < 1 by omega, fun s' hv => bP ?_⟩)
 refine aq.cond (b := .tmp 35) (x := rD) (y := .skip) (tU hv rfl rfl) (fun h2 => ?_) (fun h2 => aq.skip (by exact fin (long (fV (ls := dm) (l := [7, 8, 10, 11, 35]) (vs := fH s) hv rfl rfl))))
 simp only [h2, if_true] at hv
 exact NY h0 hq hr hn hm' h1 h2 (fV (ls := dm ++ [7, 8, 10, 11]) (l := [35]) (vs := fH s ++ [.int .u64 (q.num.natAbs : Nat), .int .u64 (q.den : Nat), .int .u64 (r.num.natAbs : Nat), .int .u64 (r.den : Nat)]) hv rfl rfl)
  (fun s' h => by exact fin h) (fun s' h => by exact h)
end add
end Go.Am.B
