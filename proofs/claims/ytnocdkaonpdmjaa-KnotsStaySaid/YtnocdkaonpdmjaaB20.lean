/- rational.add, Add, Sub, Mul, Quo. -/
import Derived.Test.YtnocdkaonpdmjaaB19
set_option linter.unusedVariables false
namespace Go.Am.B
open Go Go.Am.N AV
theorem sQ_scale {b : Bool} {N D k : Nat} (hk : k ≠ 0) : sQ b (N * k) (D * k) = sQ b N D := by
  unfold sQ
  have : sgn b (N * k) = sgn b N * (k : Int) := by unfold sgn; split <;> simp [Int.neg_mul]
  rw [this, Rat.mkRat_mul_right hk]
theorem mkRat_add_same {a c : Int} {d : Nat} (hd : d ≠ 0) : mkRat a d + mkRat c d = mkRat (a + c) d := by
  rw [Rat.mkRat_add_mkRat _ _ hd hd, ← Int.add_mul, Rat.mkRat_mul_right hd]
theorem sQ_add_eq {s : Bool} {X Y D : Nat} (hD : D ≠ 0) : sQ s X D + sQ s Y D = sQ s (X + Y) D := by
  unfold sQ
  rw [mkRat_add_same hD]
  congr 1
  unfold sgn; split <;> simp <;> omega
theorem sQ_add_ge {b s : Bool} {X Y D : Nat} (hD : D ≠ 0) (hb : b ≠ s) (h : Y ≤ X) : sQ b X D + sQ s Y D = sQ b (X - Y) D := by
  unfold sQ
  rw [mkRat_add_same hD]
  congr 1
  unfold sgn
  cases b <;> cases s <;> simp at hb ⊢ <;> omega
theorem sQ_add_lt {b s : Bool} {X Y D : Nat} (hD : D ≠ 0) (hb : b ≠ s) (h : X ≤ Y) : sQ b X D + sQ s Y D = sQ s (Y - X) D := by
  unfold sQ
  rw [mkRat_add_same hD]
  congr 1
  unfold sgn
  cases b <;> cases s <;> simp at hb ⊢ <;> omega
theorem sgn_mul {b s : Bool} {X Y : Nat} : sgn b X * sgn s Y = sgn (b != s) (X * Y) := by
  unfold sgn
  cases b <;> cases s <;> simp [Int.neg_mul, Int.mul_neg]
theorem sQ_mul {b s : Bool} {X Y D E : Nat} : sQ b X D * sQ s Y E = sQ (b != s) (X * Y) (D * E) := by
  unfold sQ
  rw [Rat.mkRat_mul_mkRat, sgn_mul]
theorem pOK_lt {q : Rat} (h : pOK q = true) : q.num.natAbs < 4294967296 ∧ q.den < 4294967296 := by
  unfold pOK at h
  simpa using h
theorem wmul64 {a b : Nat} (ha : a < 4294967296) (hb : b < 4294967296) : IntKind.u64.wrap ((a : Int) * (b : Int)) = ((a * b : Nat) : Int) ∧ a * b ≤ 18446744065119617025 := by
  have h := Nat.mul_le_mul (show a ≤ 4294967295 by omega) (show b ≤ 4294967295 by omega)
  refine ⟨?_, h⟩
  rw [show (a : Int) * (b : Int) = ((a * b : Nat) : Int) by simp, wrap_u64 (by omega) (by omega)]
section add
variable {q r : Rat} {n m : Nat} {s : Bool}
theorem okO_ra {f : Nat → AV} (hf : ∀ i, i < 1 → keys (f i) = []) {b : Bool} {N D : Nat} : okO 8193 (raOsA b N D r m f) := ⟨⟨by omega, hf⟩, ⟨by omega, fun _ _ => rfl⟩, ⟨by omega, fun _ _ => rfl⟩, trivial⟩
theorem okO_ra' : okO 8193 (raOs q r n m) := ⟨⟨by omega, fun _ _ => rfl⟩, ⟨by omega, fun _ _ => rfl⟩, ⟨by omega, fun _ _ => rfl⟩, trivial⟩
theorem add_value (q r : Rat) (s : Bool) : q + sQ s r.num.natAbs r.den = sQ (decide (q < 0)) (q.num.natAbs * r.den) (q.den * r.den) + sQ s (r.num.natAbs * q.den) (q.den * r.den) := by
  rw [sQ_scale r.den_nz, rat_sQ, Nat.mul_comm q.den, sQ_scale q.den_nz]
theorem add_long {c : Ctx} (h0 : ∀ nx k x, c.k0 k = some x → k < nx) (hq : Sz q n) (hr : Sz r m) (hn : n < 2 ^ 42) (hm' : m < 2 ^ 42) {s' : AState} (hv : viewAV raLs s' = some (raVs s, raOs q r n m)) :
    AWp P c fn_rational_add.ntmps raZ s' (Lower c (Fin T fn_rational_add (.rat (q + sQ s r.num.natAbs r.den) (n + m + 1)))) := by
  obtain ⟨a1, a2, a3⟩ := Sz.nls hq (by omega)
  obtain ⟨b1, b2, b3⟩ := Sz.nls hr (by omega)
  have d1 := q.den_nz
  have d2 := r.den_nz
  have hz : Sz (q + sQ s r.num.natAbs r.den) (n + m + 1) := hq.add (Sz_sQ d2 hr.1 hr.2)
  have bx : ∀ {a b : Nat}, a < 2 ^ n → b < 2 ^ m → nl (a * b) < 2 ^ 40 := fun ha hb => nl_lt_of (n := n + m) (by rw [Nat.pow_add]; exact Nat.mul_lt_mul'' ha hb) (by omega)
  have last : ∀ {s' : AState} {X Y D k : Nat}, k < 2 ^ 43 → X < 2 ^ k → Y < 2 ^ k → nl D < 2 ^ 40 → D ≠ 0 → q + sQ s r.num.natAbs r.den = sQ (decide (q < 0)) X D + sQ s Y D → viewAV (raLs ++ [15, 16, 17]) s' = some (raVs s ++ [.mag X, .mag Y, .mag D], raOs q r n m) →
      AWpL P c fn_rational_add.ntmps [part raZ [1,1]] s' (Lower c (Fin T fn_rational_add (.rat (q + sQ s r.num.natAbs r.den) (n + m + 1)))) := by
    intro s' X Y D k hk hX2 hY2 hD hD0 heq hv
    have hX := nl_lt_of hX2 (by omega)
    have hY := nl_lt_of hY2 (by omega)
    have hXY : nl (X + Y) < 2 ^ 40 := nl_lt_of (n := k + 1) (by rw [Nat.pow_succ]; omega) (by omega)
    refine AWpL.finDV hT GQ_ok hm 60 hv (h0 _) rfl okO_ra' add_5 (by kernel_rfl) rfl ?_
    simp only [ATree.all, allP, beq_iff_eq, beq_eq_false_iff_ne, ne_eq]
    refine ⟨by omega, fun hb => ⟨⟨hX, hY, hXY, hD, by omega⟩, by omega, avLe0_rat_eq ?_ hz⟩, fun hb => ⟨⟨hX, hY⟩, fun hc => ⟨⟨by omega, Nat.lt_of_le_of_lt (nl_mono (Nat.sub_le _ _)) hX, hD, by omega⟩, by omega, avLe0_rat_eq ?_ hz⟩, fun hc => ⟨⟨hY, hX⟩, ⟨Nat.lt_of_le_of_lt (nl_mono (Nat.sub_le _ _)) hY, hD, by omega⟩, by omega, avLe0_rat_eq ?_ hz⟩⟩⟩
    · rw [heq, hb, sQ_add_eq hD0]
    · rw [heq, sQ_add_ge hD0 hb (by split at hc <;> omega)]
    · rw [heq, sQ_add_lt hD0 hb (by split at hc <;> omega)]
  have mulb : ∀ {a b : Nat}, a < 2 ^ n → b < 2 ^ m → a * b < 2 ^ (n + m) := fun ha hb => by rw [Nat.pow_add]; exact Nat.mul_lt_mul'' ha hb
  refine AWp.hole [1,1] (by kernel_rfl) (AWpL.seeV hT GQ_ok hm 60 hv (h0 _) rfl okO_ra' (raLs ++ [15, 16, 17]) add_4 (by kernel_rfl) rfl ?_)
  simp only [ATree.all, allP, Bool.not_eq_true', decide_eq_false_iff_not, Bool.not_eq_false', decide_eq_true_eq]
  have fin : ∀ {s' : AState} {R : AV}, AWpL P c fn_rational_add.ntmps [part raZ [1,1]] s' (Lower c (Fin T fn_rational_add R)) → AWp P c fn_rational_add.ntmps (part raZ [1,1]) s' (thenDo (fun s'' => AWpL P c fn_rational_add.ntmps (behind raZ [1,1]) s'' (Lower c (Fin T fn_rational_add R))) (Lower c (Fin T fn_rational_add R))) :=
    fun h => AWp.mono h fun e s' h => by cases e <;> exact h
  refine ⟨⟨by omega, by omega, by omega⟩, ⟨by omega, by omega, a3, b3⟩, fun hb => ⟨⟨by omega, a1, b2, by omega, b1, a2, by omega, a2, b2⟩, fun s' hv => then_go (fin (last (k := n + m) (by omega) (mulb hq.1 hr.2) ?_ (bx hq.2 hr.2) (Nat.mul_ne_zero d1 d2) (add_value q r s) hv))⟩, fun hb s' hv => then_go (fin (last (k := n + m) (by omega) (Nat.lt_of_lt_of_le hq.1 (Nat.pow_le_pow_right (by omega) (by omega))) (Nat.lt_of_lt_of_le hr.1 (Nat.pow_le_pow_right (by omega) (by omega))) a2 d1 ?_ hv))⟩
  · rw [Nat.mul_comm]; exact mulb hq.2 hr.1
  · have : q.den = r.den := by split at hb <;> split at hb <;> omega
    rw [← this, rat_sQ]
theorem add_short {c : Ctx} (h0 : ∀ nx k x, c.k0 k = some x → k < nx) (hq : Sz q n) (hr : Sz r m) (hn : n < 2 ^ 42) (hm' : m < 2 ^ 42) (h1 : pOK q = true) (h2 : pOK r = true) {s' : AState} {Q : AEx → AState → Prop}
    (hv : viewAV (raLs ++ [7, 8, 10, 11]) s' = some (raVs s ++ [.int .u64 (q.num.natAbs : Nat), .int .u64 (q.den : Nat), .int .u64 (r.num.natAbs : Nat), .int .u64 (r.den : Nat)], raOs q r n m))
    (hN : ∀ s', AWp P c fn_rational_add.ntmps raZ s' (Lower c (Fin T fn_rational_add (.rat (q + sQ s r.num.natAbs r.den) (n + m + 1)))) → Q .normal s')
    (hR : ∀ s', Lower c (Fin T fn_rational_add (.rat (q + sQ s r.num.natAbs r.den) (n + m + 1))) .ret s' → Q .ret s') : AWp P c fn_rational_add.ntmps raY s' Q := by
  have d1 := q.den_nz
  have d2 := r.den_nz
  have hz : Sz (q + sQ s r.num.natAbs r.den) (n + m + 1) := hq.add (Sz_sQ d2 hr.1 hr.2)
  obtain ⟨q1, q2⟩ := pOK_lt h1
  obtain ⟨r1, r2⟩ := pOK_lt h2
  have hval := add_value q r s
  obtain ⟨b, hb⟩ : ∃ b, decide (q < 0) = b := ⟨_, rfl⟩
  rw [hb] at hval
  obtain ⟨wx, bx⟩ := wmul64 q1 r2
  obtain ⟨wy, by'⟩ := wmul64 r1 q2
  obtain ⟨wd, bd⟩ := wmul64 q2 r2
  have hd0 : q.den * r.den ≠ 0 := Nat.mul_ne_zero d1 d2
  have hk0 : c.k0 = noKeys := by
    funext k
    cases hk : c.k0 k with
    | none => rfl
    | some x => have := h0 0 k x hk; omega
  -- the end by short numbers
  have ret : ∀ {s' : AState} {N D k : Nat} {z : Rat}, z = q + sQ s r.num.natAbs r.den → viewAV raLs s' = some (raVs s, raOsA b N D r m fun j => if j = 0 then deN (.rat z k) else .rat 0 1) → Q .ret s' := by
    intro s' N D k z hzv hv
    refine hR _ (finD add_e hv (h0 8193) rfl (okO_ra fun i _ => ?_) ⟨show 0 < 1 by omega, avLe0_rat_eq hzv hz⟩)
    split <;> rfl
  have back : ∀ {s' : AState}, viewAV raLs s' = some (raVs s, raOsA b q.num.natAbs (if q.den = 1 then 0 else q.den) r m fun _ => .rat 0 1) → Q .normal s' := by
    intro s' hv
    refine hN _ (AWp.weakE (le_view (vs := raVs s) (ps := raOs q r n m) (nx := 8193) [(0, 0), (4096, 4096), (8192, 8192)] hv hk0 (by simp [renOK]) ⟨⟨rfl, avLe_pure rfl⟩, ⟨rfl, avLe_ptr rfl⟩, ⟨rfl, avLe_ptr rfl⟩, ⟨rfl, avLe_ptr rfl⟩, trivial⟩
      ⟨⟨_, _, rfl, rfl, objLe_of rfl fun i _ => avLe_pure rfl⟩, ⟨_, _, rfl, rfl, objLe_of rfl fun i _ => avLe_pure rfl⟩, ⟨_, _, rfl, rfl, objLe_of rfl fun i _ => avLe_of0 rfl ?_⟩, trivial⟩) ?_)
    · rw [← hb]; exact avLe0_parts hq
    · exact add_long h0 hq hr hn hm' (s := s) rfl
  refine AWp.weakE (le_view (us := [.bool s, .ptr 0 0 3 0 [], .ptr 4096 0 3 0 [], .ptr 8192 0 3 0 [], .int .u64 (q.num.natAbs : Nat), .int .u64 (q.den : Nat), .int .u64 (r.num.natAbs : Nat), .int .u64 (r.den : Nat)])
      (vs := [.bool s, .ptr 0 0 3 0 [], .ptr 4096 0 3 0 [], .ptr 8192 0 3 0 [], .int .u64 (q.num.natAbs : Nat), .int .u64 (q.den : Nat), .int .u64 (r.num.natAbs : Nat), .int .u64 (r.den : Nat)]) (os := raOs q r n m) (ps := raOsA b q.num.natAbs (if q.den = 1 then 0 else q.den) r m fun _ => .rat 0 1) (nx := 8193) [(0, 0), (4096, 4096), (8192, 8192)] hv hk0 (by simp [renOK])
    ⟨⟨rfl, avLe_pure rfl⟩, ⟨rfl, avLe_ptr rfl⟩, ⟨rfl, avLe_ptr rfl⟩, ⟨rfl, avLe_ptr rfl⟩, ⟨rfl, avLe_pure rfl⟩, ⟨rfl, avLe_pure rfl⟩, ⟨rfl, avLe_pure rfl⟩, ⟨rfl, avLe_pure rfl⟩, trivial⟩
    ⟨⟨_, _, rfl, rfl, objLe_of rfl fun i _ => avLe_pure rfl⟩, ⟨_, _, rfl, rfl, objLe_of rfl fun i _ => avLe_pure rfl⟩, ⟨_, _, rfl, rfl, objLe_of rfl fun i _ => avLe_of0 rfl (by rw [← hb]; exact avLe0_rat_agg)⟩, trivial⟩) ?_
  have hD0 : 0 < q.den * r.den := by omega
  have eqc : b = s → sQ s (q.num.natAbs * r.den + r.num.natAbs * q.den) (q.den * r.den) = q + sQ s r.num.natAbs r.den := fun h => by rw [hval, h, sQ_add_eq hd0]
  have gec : b ≠ s → r.num.natAbs * q.den ≤ q.num.natAbs * r.den → sQ b (q.num.natAbs * r.den - r.num.natAbs * q.den) (q.den * r.den) = q + sQ s r.num.natAbs r.den := fun h h' => by rw [hval, sQ_add_ge hd0 h h']
  have ltc : b ≠ s → q.num.natAbs * r.den ≤ r.num.natAbs * q.den → sQ s (r.num.natAbs * q.den - q.num.natAbs * r.den) (q.den * r.den) = q + sQ s r.num.natAbs r.den := fun h h' => by rw [hval, sQ_add_lt hd0 h h']
  clear hval hv hN hR h1 h2 hb
  generalize q + sQ s r.num.natAbs r.den = V at *
  generalize q.num.natAbs * r.den = X at *
  generalize r.num.natAbs * q.den = Y at *
  generalize q.den * r.den = D at *
  have ws : ∀ {a b : Nat}, b ≤ a → a ≤ 18446744065119617025 → IntKind.u64.wrap ((a : Int) - (b : Int)) = ((a - b : Nat) : Int) := fun {a b} h1 h2 => by rw [wrap_u64 (by omega) (by omega)]; omega
  cases b <;> cases s
  · refine AWp.see hT GQ_ok hm 60 raLs add_ff (by kernel_rfl) ?_
    rw [wx, wy, wd]
    simp only [ATree.all, allP, beq_iff_eq, Int.toNat_natCast]
    refine ⟨⟨by omega, by omega, by omega⟩, by omega, fun hc => ⟨⟨by omega, by omega, by omega⟩, fun s' hv => ret ?_ hv⟩, fun hc => ⟨by omega, by omega, fun s' hv => back hv⟩⟩
    have h := eq_of_beq (bif_tt hc)
    have e : (((X : Int) + (Y : Int) + 0) % 18446744073709551616).toNat = X + Y := by omega
    rw [e]; exact eqc rfl
  · refine AWp.see hT GQ_ok hm 60 raLs add_ft (by kernel_rfl) ?_
    rw [wx, wy, wd]
    simp only [ATree.all, allP, beq_iff_eq, Int.toNat_natCast]
    refine ⟨⟨by omega, by omega, by omega⟩, by omega, by omega, fun hc => ?_, fun hc => ?_⟩
    · have h := of_decide_eq_true (bif_tt hc)
      have h' : Y ≤ X := by omega
      rw [ws h' bx]
      refine ⟨⟨by omega, by omega, by omega, by omega⟩, fun s' hv => ret ?_ hv⟩
      rw [Int.toNat_natCast]; exact gec (by simp) h'
    · have h := of_decide_eq_false (bif_tt hc)
      have h' : X ≤ Y := by omega
      rw [ws h' by']
      refine ⟨by omega, ⟨by omega, by omega, by omega⟩, fun s' hv => ret ?_ hv⟩
      rw [Int.toNat_natCast]; exact ltc (by simp) h'
  · refine AWp.see hT GQ_ok hm 60 raLs add_tf (by kernel_rfl) ?_
    rw [wx, wy, wd]
    simp only [ATree.all, allP, beq_iff_eq, Int.toNat_natCast]
    refine ⟨⟨by omega, by omega, by omega⟩, by omega, by omega, fun hc => ?_, fun hc => ?_⟩
    · have h := of_decide_eq_true (bif_tt hc)
      have h' : Y ≤ X := by omega
      rw [ws h' bx]
      refine ⟨⟨by omega, by omega, by omega, by omega⟩, fun s' hv => ret ?_ hv⟩
      rw [Int.toNat_natCast]; exact gec (by simp) h'
    · have h := of_decide_eq_false (bif_tt hc)
      have h' : X ≤ Y := by omega
      rw [ws h' by']
      refine ⟨by omega, ⟨by omega, by omega, by omega⟩, fun s' hv => ret ?_ hv⟩
      rw [Int.toNat_natCast]; exact ltc (by simp) h'
  · refine AWp.see hT GQ_ok hm 60 raLs add_tt (by kernel_rfl) ?_
    rw [wx, wy, wd]
    simp only [ATree.all, allP, beq_iff_eq, Int.toNat_natCast]
    refine ⟨⟨by omega, by omega, by omega⟩, by omega, fun hc => ⟨⟨by omega, by omega, by omega⟩, fun s' hv => ret ?_ hv⟩, fun hc => ⟨by omega, by omega, fun s' hv => back hv⟩⟩
    have h := eq_of_beq (bif_tt hc)
    have e : (((X : Int) + (Y : Int) + 0) % 18446744073709551616).toNat = X + Y := by omega
    rw [e]; exact eqc rfl
theorem radd_ok (hn : n < 2 ^ 42) (hm' : m < 2 ^ 42) (K : Nat) (pre : Store) : FOK P rational_add K [.rat q n, .rat r m, .bool s] pre (pres (.rat (q + sQ s r.num.natAbs r.den) (n + m + 1)) []) := by
  refine fok_szp fun ⟨hq, hr, _⟩ => ?_
  have hq : Sz q n := hq
  have hr : Sz r m := hr
  refine fok_down hT is_radd rfl (of_decide_eq_true (by kernel_rfl)) rfl (fun _ c h0 => ?_) K pre
  have long := fun {s' : AState} => add_long (s := s) (s' := s') h0 hq hr hn hm'
  have fin : ∀ {s' : AState} {R : AV}, AWp P c fn_rational_add.ntmps raZ s' (Lower c (Fin T fn_rational_add R)) → AWp P c fn_rational_add.ntmps raZ s' (thenDo (fun s'' => AWpL P c fn_rational_add.ntmps (behind (codeOf fn_rational_add) [1,1]) s'' (Lower c (Fin T fn_rational_add R))) (Lower c (Fin T fn_rational_add R))) :=
    fun h => AWp.mono h fun e s' h => by cases e <;> exact h
  refine AWp.hole [1,1] (by kernel_rfl) (AWpL.chunk 1 (AWpL.see hT GQ_ok hm 60 raLs add_0 (by kernel_rfl) fun s' hv => then_go ?_))
  show AWpL P c fn_rational_add.ntmps [raA] s' _
  refine AWpL.fromV hv (h0 8193) rfl rfl okO_ra' ?_
  refine AWp.hole [1,1] (by kernel_rfl) (AWpL.see hT GQ_ok hm 60 (raLs ++ [7, 8, 28]) add_1 (by kernel_rfl) ⟨show 0 < 1 by omega, fun s' hv => then_go ?_⟩)
  refine AWp.cond (b := .tmp 28) (x := raX) (y := .skip) (look_slot hv rfl rfl) (fun h1 => ?_) (fun h1 => AWp.skip (by exact fin (long (view_take (ls := raLs) (l := [7, 8, 28]) (vs := raVs s) hv rfl rfl))))
  simp only [h1, if_true] at hv
  have hv := view_take (ls := raLs ++ [7, 8]) (l := [28]) (vs := raVs s ++ [.int .u64 (q.num.natAbs : Nat), .int .u64 (q.den : Nat)]) hv rfl rfl
  refine AWp.fromV hv (h0 8193) rfl okO_ra' ?_
  refine AWp.hole [1,1] (by kernel_rfl) (AWpL.see hT GQ_ok hm 60 (raLs ++ [7, 8, 10, 11, 35]) add_2 (by kernel_rfl) ⟨show 0 < 1 by omega, fun s' hv => then_go ?_⟩)
  refine AWp.cond (b := .tmp 35) (x := raY) (y := .skip) (look_slot hv rfl rfl) (fun h2 => ?_) (fun h2 => AWp.skip (by exact fin (long (view_take (ls := raLs) (l := [7, 8, 10, 11, 35]) (vs := raVs s) hv rfl rfl))))
  simp only [h2, if_true] at hv
  exact add_short h0 hq hr hn hm' h1 h2 (view_take (ls := raLs ++ [7, 8, 10, 11]) (l := [35]) (vs := raVs s ++ [.int .u64 (q.num.natAbs : Nat), .int .u64 (q.den : Nat), .int .u64 (r.num.natAbs : Nat), .int .u64 (r.den : Nat)]) hv rfl rfl)
    (fun s' h => by exact fin h) (fun s' h => by exact h)
end add
end Go.Am.B
