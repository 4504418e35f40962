/- rational.word, divisor, limbs; bits.Add64. -/
import Derived.Test.YtbghpkgbokbmlaaGreatB14
import Derived.Laws.Externs
set_option linter.unusedVariables false
namespace Go.Am.B
open Go Go.Am.N AV
theorem XE : aP P tU lT (au lT) := aL Rx (by kernel_rfl) (by kernel_rfl) (by kernel_rfl)
theorem S4 {n : Nat} {z : Nat → Nat} : aI T [] [] 30 [0, 3, 4] (before (au lT) [1,1,0,1]) ⟨aK 0 [.aj 1 n (ag z)], [], 0⟩ =
  some (aa.leaf ah.normal ([aj 1 n (ag z), int IntKind.u64 (0 : Int), int IntKind.i64 (IntKind.i64.wrap ((↑n : Int) - (1 : Int)))], [])) := by kernel_rfl
theorem UO {n k v : Nat} {z : Nat → Nat} : aI T [] [9] 30 [0, 3, 4] [part (au lT) [1,1,0,1,0,0]] ⟨aB [0, 3, 4] [.aj 1 n (ag z), .int .u64 v, .int .i64 ((k : Int) - 1)], [], 0⟩ =
  some (aa.fork (decide ((↑k : Int) - (1 : Int) ≥ (0 : Int))) (aa.af [(0 : Int) ≤ (32 : Int), (0 : Int) ≤ (↑k : Int) - (1 : Int) ∧ ((↑k : Int) - (1 : Int)).toNat < n] (aa.leaf ah.normal ([aj 1 n (ag z), int IntKind.u64 (IntKind.u64.wrap (↑(BitVec.ofInt IntKind.u64.bits (IntKind.u64.wrap ((↑v : Int) * (2 : Int) ^ min (Int.toNat (32 : Int)) IntKind.u64.bits)) ||| BitVec.ofInt IntKind.u64.bits (IntKind.u64.wrap (↑(z ((↑k : Int) - (1 : Int)).toNat) : Int))).toNat : Int)), int IntKind.i64 (IntKind.i64.wrap ((↑k : Int) - (1 : Int) - (1 : Int)))], []))) (aa.leaf (ah.exit 0) ([aj 1 n (ag z), int IntKind.u64 (↑v : Int), int IntKind.i64 ((↑k : Int) - (1 : Int))], []))) := by kernel_rfl
theorem Rj {n k v : Nat} {z : Nat → Nat} : ct T [] [] 30 lT (behind (au lT) [1,1,0,1]) ⟨aB [0, 3, 4] [.aj 1 n (ag z), .int .u64 v, .int .i64 ((k : Int) - 1)], [], 0⟩ =
  some (aa.leaf ah.ret [int IntKind.u64 (↑v : Int)]) := by kernel_rfl
theorem RY {n : Nat} {z : Nat → Nat} (hz : ∀ i, i < n → z i < 2 ^ 32) (hn : n ≤ 2) (K : Nat) (pre : aC) : ay P tU K [.aj 1 n (ag z)] pre (aF (.int .u64 (val n z : Nat)) []) := by
 refine gF hT XE rfl (of_decide_eq_true (by kernel_rfl)) rfl (fun _ c h0 => ?_) K pre
 refine ak.hole [1,1,0,1] (by kernel_rfl) (az.bk hT bg hm 30 [0, 3, 4] S4 (by kernel_rfl) ?_)
 intro s' hv
 have hv64 : val n z < 2 ^ 64 := by
  have h1 := eA hz
  have h2 : 2 ^ (32 * n) ≤ 2 ^ (32 * 2) := Nat.pow_le_pow_right (by omega) (by omega)
  omega
 refine ak.fR (i := 0) (y := part (au lT) [1,1,0,1,0,0]) (by kernel_rfl)
  (fun p : Nat × Nat => ⟨aB [0, 3, 4] [.aj 1 n (ag z), .int .u64 (p.2 : Nat), .int .i64 ((p.1 : Nat) - 1 : Int)], [], 0⟩)
  (fun p => p.1 ≤ n ∧ p.2 * 2 ^ (32 * p.1) + val p.1 z = val n z) (fun p => p.1) (n, 0)
  (cB [] hv h0 rfl ⟨⟨rfl, aG rfl⟩, ⟨rfl, aG rfl⟩, ⟨rfl, eO (wrap_i64 (by omega) (by omega))⟩, trivial⟩ trivial) ⟨by simp, by simp⟩ ?_
 rintro ⟨k, v⟩ ⟨hk, hval⟩
 simp only at hk hval
 refine ak.bk hT bg hm 30 [0, 3, 4] UO (by kernel_rfl) ?_
 simp only [aa.all, ax, decide_eq_true_eq, decide_eq_false_iff_not]
 refine ⟨fun hb => ?_, fun hb s' hv => ?_⟩
 ·obtain ⟨j, rfl⟩ : ∃ j, k = j + 1 := ⟨k - 1, by omega⟩
  have e : (((j + 1 : Nat) : Int) - 1).toNat = j := by omega
  have hzj := hz j (by omega)
  have hv32 : v < 2 ^ 32 := by
   rcases Nat.lt_or_ge v (2 ^ 32) with h | h
   ·exact h
   ·have h1 : 2 ^ 32 * 2 ^ (32 * (j + 1)) ≤ v * 2 ^ (32 * (j + 1)) := Nat.mul_le_mul_right _ h
    have h2 : 2 ^ 32 ≤ 2 ^ (32 * (j + 1)) := Nat.pow_le_pow_right (by omega) (by omega)
    have h3 : 2 ^ 32 * 2 ^ 32 ≤ 2 ^ 32 * 2 ^ (32 * (j + 1)) := Nat.mul_le_mul_left _ h2
    omega
  rw [e]
  have hor : IntKind.u64.wrap ((BitVec.ofInt IntKind.u64.bits (IntKind.u64.wrap ((v : Int) * 2 ^ min (Int.toNat 32) IntKind.u64.bits)) ||| BitVec.ofInt IntKind.u64.bits (IntKind.u64.wrap (z j : Int))).toNat : Int) =
    ((v * 4294967296 + z j : Nat) : Int) := by
   rw [vc, bE (x := (z j : Int)) (by omega) (by omega), bE (x := (v : Int) * 4294967296) (by omega) (by omega)]
   rw [show (v : Int) * 4294967296 = ((v * 2 ^ 32 : Nat) : Int) by omega, qe (by omega) (by omega), mV hzj]
  refine ⟨⟨by omega, by omega, by omega⟩, fun s' hv => ⟨(j, v * 4294967296 + z j), cB [] hv h0 rfl ⟨⟨rfl, aG rfl⟩, ⟨rfl, eO hor⟩, ⟨rfl, eO (by rw [wrap_i64 (by omega) (by omega)]; simp only; omega)⟩, trivial⟩ trivial,
   ⟨by simp only; omega, D0 hval⟩, by simp⟩⟩
 ·have hk0 : k = 0 := by omega
  subst hk0
  have hval : v = val n z := by simpa [val] using hval
  subst hval
  exact az.weak (by kernel_rfl) (cB (vs := [.aj 1 n (ag z), .int .u64 (val n z : Nat), .int .i64 (((0 : Nat) : Int) - 1)]) (ps := []) (nx := 0) [] hv h0 rfl ⟨⟨rfl, aG rfl⟩, ⟨rfl, aG rfl⟩, ⟨rfl, aG rfl⟩, trivial⟩ trivial)
   (az.fin hT bg hm 30 Rj (by kernel_rfl) (bu.refl _))
theorem X8 : ∀ K args pre r, bA (ju yG) K args pre = some r → ay P tU K args pre r :=
 bQ (oF fun _ _ K hz need => RY hz need K [])
theorem LY : aP P tN lZ (au lZ) := aL P0 (by kernel_rfl) (by kernel_rfl) (by kernel_rfl)
theorem Zv : aP P qD nH (au nH) := aL Xa (by kernel_rfl) (by kernel_rfl) (by kernel_rfl)
theorem Q4 {x y : Nat} : aI T [] [] 60 [0, 1] (before (au lZ) [1,0]) ⟨aK 0 [.int .u64 x, .int .u64 y], [], 0⟩ =
  some (aa.leaf ah.normal ([int IntKind.u64 (↑x : Int), int IntKind.u64 (↑y : Int)], [])) := by kernel_rfl
theorem XC {x y : Nat} : aI T [] [6] 60 [0, 1] [part (au lZ) [1,0,0,0]] ⟨aB [0, 1] [.int .u64 x, .int .u64 y], [], 0⟩ =
  some (aa.fork ((↑y : Int) != (0 : Int)) (aa.af [(↑y : Int) ≠ (0 : Int)] (aa.leaf ah.normal ([int IntKind.u64 (↑y : Int), int IntKind.u64 ((↑x : Int).tmod (↑y : Int))], []))) (aa.leaf (ah.exit 0) ([int IntKind.u64 (↑x : Int), int IntKind.u64 (↑y : Int)], []))) := by kernel_rfl
theorem TQ {x y : Nat} : ct T [] [] 60 lZ (behind (au lZ) [1,0]) ⟨aB [0, 1] [.int .u64 x, .int .u64 y], [], 0⟩ =
  some (aa.leaf ah.ret [int IntKind.u64 (↑x : Int)]) := by kernel_rfl
theorem L6 {s n l x : Nat} {z : Nat → Nat} : aI T [] [11] 60 [0, 1, 4] (before (au nH) [1,1,1]) ⟨aK 0 [.own 0 1 s n, .int .u64 x], [(0, ⟨true, true, 1, l, ag z⟩)], 1⟩ =
  some (aa.af [(0 : Int) ≤ (0 : Int) ∧ Int.toNat (0 : Int) < n, Int.toNat (0 : Int) + s < l] (aa.af [(0 : Int) ≤ (32 : Int)] (aa.fork ((↑x : Int).fdiv ((2 : Int) ^ min (Int.toNat (32 : Int)) IntKind.u64.bits) == (0 : Int)) (aa.leaf ah.ret ([own 0 1 s n, int IntKind.u64 (↑x : Int), int IntKind.i64 (1 : Int)], [((0 : Nat), ⟨true, true, 1, l, fun (j : Nat) ↦ if (j == Int.toNat (0 : Int) + s) = true then int IntKind.u32 (IntKind.u32.wrap (↑x : Int)) else ag z j⟩)])) (aa.leaf ah.normal ([own 0 1 s n, int IntKind.u64 (↑x : Int), int IntKind.i64 (0 : Int)], [((0 : Nat), ⟨true, true, 1, l, fun (j : Nat) ↦ if (j == Int.toNat (0 : Int) + s) = true then int IntKind.u32 (IntKind.u32.wrap (↑x : Int)) else ag z j⟩)]))))) := by kernel_rfl
theorem Tb {s n l x : Nat} {z : Nat → Nat} : aI T [] [] 60 [0, 1, 4] [part (au nH) [1,1,1]] ⟨aB [0, 1, 4] [.own 0 1 s n, .int .u64 x, .int .i64 0], [(0, ⟨true, true, 1, l, ag z⟩)], 1⟩ =
  some (aa.af [(0 : Int) ≤ (32 : Int), (0 : Int) ≤ (1 : Int) ∧ Int.toNat (1 : Int) < n, Int.toNat (1 : Int) + s < l] (aa.leaf ah.ret ([own 0 1 s n, int IntKind.u64 (↑x : Int), int IntKind.i64 (2 : Int)], [((0 : Nat), ⟨true, true, 1, l, fun (j : Nat) ↦ if (j == Int.toNat (1 : Int) + s) = true then int IntKind.u32 (IntKind.u32.wrap ((↑x : Int).fdiv ((2 : Int) ^ min (Int.toNat (32 : Int)) IntKind.u64.bits))) else ag z j⟩)]))) := by kernel_rfl
theorem aaV {x y : Nat} (K : Nat) (pre : aC) : ay P tN K [.int .u64 x, .int .u64 y] pre (aF (.int .u64 (Nat.gcd x y : Nat)) []) := by
 refine gF hT LY rfl (of_decide_eq_true (by kernel_rfl)) rfl (fun _ c h0 => ?_) K pre
 have hk0 : ∀ {nx : Nat} k x, c.k0 k = some x → k < nx := gU h0
 refine ak.hole [1,0] (by kernel_rfl) (az.bk hT bg hm 60 [0, 1] Q4 (by kernel_rfl) fun s' hv => bM ?_)
 refine ak.fu (i := 0) (y := part (au lZ) [1,0,0,0]) (by kernel_rfl) [0, 1] 0 hk0 (fun p : Nat × Nat => [.int .u64 (p.1 : Nat), .int .u64 (p.2 : Nat)]) (fun _ => []) (fun _ => rfl) (fun _ => trivial)
  (fun p => Nat.gcd p.1 p.2 = Nat.gcd x y) (fun p => p.2) (x, y) hv rfl ?_
 rintro ⟨m, n⟩ hg
 simp only at hg
 refine ak.bk hT bg hm 60 [0, 1] XC (by kernel_rfl) ?_
 simp only [aa.all, ax, bne_iff_ne, ne_eq, bne_eq_false_iff_eq]
 refine ⟨fun hb => ⟨hb, fun s' hv => ?_⟩, fun hb s' hv => dX (bM ?_)⟩
 ·have hlt := Nat.mod_lt m (show 0 < n by omega)
  refine ⟨(n, m % n), cL hv (by rw [← Int.ofNat_tmod]) rfl, ?_, hlt⟩
  rw [← hg, Nat.gcd_comm m n, Nat.gcd_rec n m, Nat.gcd_comm]
 ·refine az.xz hT bg hm 60 (nx := 0) hv hk0 rfl trivial TQ (by kernel_rfl) (by kernel_rfl) (bB ?_)
  have : n = 0 := by omega
  rw [← hg, this, Nat.gcd_zero_right]
def CF : Spec := bA fun l => match l with
 | [.int .u64 x, .int .u64 y] => some (aF (.int .u64 (Nat.gcd x.toNat y.toNat : Nat)) [0 ≤ x, 0 ≤ y])
 | _ => none
theorem SO : ∀ K args pre r, CF K args pre = some r → ay P tN K args pre r := by
 refine bQ fun K args r hk hs _ => ?_
 split at hs
 ·rename_i x y
  simp only [Option.some.injEq] at hs
  subst hs
  intro need
  obtain ⟨h1, h2⟩ : 0 ≤ x ∧ 0 ≤ y := need
  obtain ⟨a, rfl⟩ := Int.eq_ofNat_of_zero_le h1
  obtain ⟨b, rfl⟩ := Int.eq_ofNat_of_zero_le h2
  exact aaV K [] trivial
 ·simp at hs
def fB (z : Nat → Nat) (s x : Nat) : Nat → Nat := fun i => if i = s then x % 4294967296 else if i = s + 1 ∧ 4294967296 ≤ x then x / 4294967296 else z i
def bV (x : Nat) : Nat := if x < 4294967296 then 1 else 2
theorem Pp {k s n l x : Nat} {z : Nat → Nat} {f : Nat → AV} (hx : x < 2 ^ 64) (h1 : bV x ≤ n) (hs : s + n ≤ l) (hf : ∀ i, i < l → f i = ag z i) (K : Nat) :
  ay P qD K [.own k 1 s n, .int .u64 x] [(k, ⟨true, true, 1, l, f⟩)] ⟨.int .i64 (bV x : Nat), [(k, ⟨true, true, 1, l, ag (fB z s x)⟩)], []⟩ := by
 refine nh hT Zv (args0 := [.own 0 1 s n, .int .u64 x]) (pre0 := [(0, ⟨true, true, 1, l, ag z⟩)]) (nx := 1) [(0, k)] (of_decide_eq_true (by kernel_rfl)) (by simp [gM]) ⟨⟨rfl, cy rfl rfl rfl⟩, ⟨rfl, aG rfl⟩, trivial⟩ ⟨⟨k, _, rfl, by simp [look], eg rfl hf⟩, trivial⟩
  (fun a x h => ?_) (fun x o h => ?_) (fun _ c h0 => ?_)
 ·simp only [aZ, look] at h
  split at h
  ·simp only [Option.some.injEq] at h; subst h; exact ⟨_, by simp [look]; rfl⟩
  ·simp at h
 ·simp only [look] at h
  split at h
  ·rename_i he
   have : k = x := by simpa using he
   subst this
   exact .inl ⟨_, by simp [look]; rfl⟩
  ·simp at h
 have hk0 : ∀ k x, c.k0 k = some x → k < 1 := fun k x hk => by
  have := h0 k x hk
  simp only [aZ, look] at this
  split at this
  ·rename_i h; simp at h; omega
  ·simp at this
 have key : ∀ {s' : aE} {v : Int} {w : Nat → Nat}, aT [0, 1, 4] s' = some ([.own 0 1 s n, .int .u64 x, .int .i64 v], [(0, ⟨true, true, 1, l, ag w⟩)]) → v = (bV x : Nat) → w = fB z s x →
   ∃ τ, r8 [(0, k)] K [(k, ⟨true, true, 1, l, f⟩)] τ ∧ (Aq T nH τ [(k, ⟨true, true, 1, l, f⟩)] ⟨.int .i64 (bV x : Nat), [(k, ⟨true, true, 1, l, ag (fB z s x)⟩)], []⟩ s' ∨ xj T nH τ [(k, ⟨true, true, 1, l, f⟩)] ⟨.int .i64 (bV x : Nat), [(k, ⟨true, true, 1, l, ag (fB z s x)⟩)], []⟩ s') := by
  intro s' v w hv hv1 hw
  refine ⟨aZ [(k, 0)], yP, .inr (uc (vs := [.own 0 1 s n, .int .u64 x, .int .i64 v]) (us := [.int .i64 v]) (ws := [.int .i64 (bV x : Nat)]) (os := [(0, ⟨true, true, 1, l, ag w⟩)]) (ps := [(k, ⟨true, true, 1, l, ag (fB z s x)⟩)]) hv (by kernel_rfl) ⟨⟨rfl, eO hv1⟩, trivial⟩ rfl (by simp [ck, eF, put]) ⟨⟨0, _, by simp [aZ, look], rfl, eg rfl fun i hi => by rw [hw]⟩, trivial⟩)⟩
 have h12 : bV x = 1 ∨ bV x = 2 := by unfold bV; split <;> simp
 have hset1 : (fun j => if j = s then AV.int .u32 (IntKind.u32.wrap (x : Int)) else ag z j) = ag (bK z s (x % 4294967296)) := by
  funext j; exact ff (by rw [gz]) j
 refine ak.hole [1,1,1] (by kernel_rfl) (az.bk hT bg hm 60 [0, 1, 4] L6 (by kernel_rfl) ?_)
 simp only [aa.all, ax, beq_iff_eq, beq_eq_false_iff_ne, ne_eq, iK, Int.toNat_zero, Nat.zero_add, hset1]
 refine ⟨⟨by omega, by omega⟩, by omega, fun hb s' hv => ?_, fun hb s' hv => bM ?_⟩
 ·have hlt : x < 4294967296 := by omega
  refine dZ ⟨.inr rfl, key hv (by unfold bV; rw [if_pos hlt]; rfl) ?_⟩
  funext i
  unfold bK fB
  by_cases h : i = s
  ·simp [h]
  ·simp [h]; omega
 ·have hge : 4294967296 ≤ x := by omega
  have h2 : bV x = 2 := by unfold bV; rw [if_neg (by omega)]
  refine ak.dO hT bg hm 60 (nx := 1) hv hk0 rfl ⟨⟨by omega, fun _ _ => rfl⟩, trivial⟩ [0, 1, 4] Tb (by kernel_rfl) ?_
  simp only [aa.all, ax, beq_iff_eq, beq_eq_false_iff_ne, ne_eq, iK, show Int.toNat 1 = 1 from rfl]
  refine ⟨⟨by omega, by omega, by omega⟩, fun s' hv => ?_⟩
  have hset2 : (fun j => if j = 1 + s then AV.int .u32 (IntKind.u32.wrap ((x : Int) / 4294967296)) else ag (bK z s (x % 4294967296)) j) = ag (bK (bK z s (x % 4294967296)) (1 + s) (x / 4294967296)) := by
   funext j; exact ff (by rw [wrap_u32 (by omega) (by omega)]; omega) j
  rw [hset2] at hv
  refine dZ ⟨.inr rfl, key hv (by rw [h2]; rfl) ?_⟩
  funext i
  unfold bK fB
  by_cases h : i = s
  ·simp [h]
  ·by_cases h' : i = 1 + s
   ·simp [h', hge, Nat.add_comm]
   ·simp [h, h']; omega
def Aj : Spec := fun _ args pre => match args, pre with
 | [.own k es s n, .int .u64 x], [(k', o)] => if k == k' && es == 1 && o.row && o.wr && o.es == 1 then some ⟨.int .i64 (bV x.toNat : Nat), [(k, ⟨true, true, 1, o.len, ag (fB (fun i => numOf (o.f i)) s x.toNat)⟩)], [cO o.len o.f, 0 ≤ x ∧ x < 2 ^ 64, bV x.toNat ≤ n, s + n ≤ o.len]⟩ else none
 | _, _ => none
theorem RZ : ∀ K args pre r, Aj K args pre = some r → ay P qD K args pre r := by
 intro K args pre r hs
 unfold Aj at hs
 split at hs
 ·rename_i k es s n x k' o
  split at hs
  ·rename_i hc
   simp only [Bool.and_eq_true, beq_iff_eq] at hc
   obtain ⟨⟨⟨⟨rfl, rfl⟩, h4⟩, h5⟩, h6⟩ := hc
   simp only [Option.some.injEq] at hs
   subst hs
   intro need
   obtain ⟨h1, ⟨h2, h2'⟩, h3, h7⟩ : cO o.len o.f ∧ (0 ≤ x ∧ x < 2 ^ 64) ∧ bV x.toNat ≤ n ∧ s + n ≤ o.len := need
   obtain ⟨row, wr, es, len, f⟩ := o
   simp only at h1 h4 h5 h6 h7
   subst h4 h5 h6
   obtain ⟨x, rfl⟩ := Int.eq_ofNat_of_zero_le h2
   refine Pp (z := fun i => numOf (f i)) (by omega) h3 h7 (fun i hi => ?_) K trivial
   obtain ⟨z, g1, g2⟩ := h1 i hi
   simp [g2, numOf, ag]
  ·simp at hs
 ·simp at hs
def GF : Spec := bA fun l => match l with
 | [.int .u64 x, .int .u64 y, .int .u64 z] => some (aF (.tuple [.int .u64 ((x + y + z) % 18446744073709551616), .int .u64 ((x + y + z) / 18446744073709551616)]) [0 ≤ x, 0 ≤ y, 0 ≤ z ∧ z ≤ 1])
 | _ => none
theorem VB : ∀ K args pre r, GF K args pre = some r → ay P zY K args pre r := by
 refine bQ fun K args r hk hs _ => ?_
 split at hs
 ·rename_i x y z
  simp only [Option.some.injEq] at hs
  subst hs
  intro need
  obtain ⟨h1, h2, h3, h4⟩ : 0 ≤ x ∧ 0 ≤ y ∧ 0 ≤ z ∧ z ≤ 1 := need
  refine ⟨fun k o h => by simp [look] at h, fun c D D' β w vs hw0 hMw hrel hD hK hv => .inr ?_⟩
  match vs, hv with
  | [a, b, d], hv =>
   obtain ⟨ha, hb, hd, _⟩ := hv
   have ha := (ha.bJ).int
   have hb := (hb.bJ).int
   have hd := (hd.bJ).int
   subst ha hb hd
   refine ⟨.tuple #[.int .u64 ((x + y + z) % 18446744073709551616), .int .u64 ((x + y + z) / 18446744073709551616)], ?_, β, ?_, cG.refl _ _ _, [_, _], rfl, .b6 (.int .nil) rfl, .b6 (.int .nil) rfl, trivial⟩
   ·rw [run_callFunc_extern (e := add64Entry) Pz (by kernel_rfl) (by kernel_rfl) (by kernel_rfl) (by rfl)]
    rw [run_add64 x y z h1 h2 h3 h4]
    rfl
   ·exact hrel.kU hD
 ·simp at hs
end Go.Am.B
