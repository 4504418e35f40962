/- rational.word, divisor, limbs; bits.Add64. -/
import Derived.Test.YtjhhblmbiaghfaaGreatB14
import Derived.Laws.Externs
set_option linter.unusedVariables false
namespace Go.Am.B
open Go Go.Am.N AV
theorem OQ : aO P sZ mw (ax mw) := aP UP (by kernel_rfl) (by kernel_rfl) (by kernel_rfl)
theorem S6 {n : Nat} {z : Nat → Nat} : aF T [] [] 30 [0, 3, 4] (before (ax mw) [1,1,0,1]) ⟨aN 0 [.ah 1 n (aj z)], [], 0⟩ =
  some (af.leaf ak.normal ([ah 1 n (aj z), int IntKind.u64 (0 : Int), int IntKind.i64 (IntKind.i64.wrap ((↑n : Int) - (1 : Int)))], [])) := by kernel_rfl
theorem Wo {n k v : Nat} {z : Nat → Nat} : aF T [] [9] 30 [0, 3, 4] [part (ax mw) [1,1,0,1,0,0]] ⟨az [0, 3, 4] [.ah 1 n (aj z), .int .u64 v, .int .i64 ((k : Int) - 1)], [], 0⟩ =
  some (af.fork (decide ((↑k : Int) - (1 : Int) ≥ (0 : Int))) (af.ag [(0 : Int) ≤ (32 : Int), (0 : Int) ≤ (↑k : Int) - (1 : Int) ∧ ((↑k : Int) - (1 : Int)).toNat < n] (af.leaf ak.normal ([ah 1 n (aj z), int IntKind.u64 (IntKind.u64.wrap (↑(BitVec.ofInt IntKind.u64.bits (IntKind.u64.wrap ((↑v : Int) * (2 : Int) ^ min (Int.toNat (32 : Int)) IntKind.u64.bits)) ||| BitVec.ofInt IntKind.u64.bits (IntKind.u64.wrap (↑(z ((↑k : Int) - (1 : Int)).toNat) : Int))).toNat : Int)), int IntKind.i64 (IntKind.i64.wrap ((↑k : Int) - (1 : Int) - (1 : Int)))], []))) (af.leaf (ak.exit 0) ([ah 1 n (aj z), int IntKind.u64 (↑v : Int), int IntKind.i64 ((↑k : Int) - (1 : Int))], []))) := by kernel_rfl
theorem TR {n k v : Nat} {z : Nat → Nat} : b9 T [] [] 30 mw (behind (ax mw) [1,1,0,1]) ⟨az [0, 3, 4] [.ah 1 n (aj z), .int .u64 v, .int .i64 ((k : Int) - 1)], [], 0⟩ =
  some (af.leaf ak.ret [int IntKind.u64 (↑v : Int)]) := by kernel_rfl
theorem S0 {n : Nat} {z : Nat → Nat} (hz : ∀ i, i < n → z i < 2 ^ 32) (hn : n ≤ 2) (K : Nat) (pre : aB) : aC P sZ K [.ah 1 n (aj z)] pre (aK (.int .u64 (val n z : Nat)) []) := by
 refine gA hT OQ rfl (of_decide_eq_true (by kernel_rfl)) rfl (fun _ c h0 => ?_) K pre
 refine aq.hole [1,1,0,1] (by kernel_rfl) (aA.aS hT aY hm 30 [0, 3, 4] S6 (by kernel_rfl) ?_)
 intro s' hv
 have hv64 : val n z < 2 ^ 64 := by
  have h1 := ec hz
  have h2 : 2 ^ (32 * n) ≤ 2 ^ (32 * 2) := Nat.pow_le_pow_right (by omega) (by omega)
  omega
 refine aq.fz (i := 0) (y := part (ax mw) [1,1,0,1,0,0]) (by kernel_rfl)
  (fun p : Nat × Nat => ⟨az [0, 3, 4] [.ah 1 n (aj z), .int .u64 (p.2 : Nat), .int .i64 ((p.1 : Nat) - 1 : Int)], [], 0⟩)
  (fun p => p.1 ≤ n ∧ p.2 * 2 ^ (32 * p.1) + val p.1 z = val n z) (fun p => p.1) (n, 0)
  (cz [] hv h0 rfl ⟨⟨rfl, aG rfl⟩, ⟨rfl, aG rfl⟩, ⟨rfl, eB (wrap_i64 (by omega) (by omega))⟩, trivial⟩ trivial) ⟨by simp, by simp⟩ ?_
 rintro ⟨k, v⟩ ⟨hk, hval⟩
 simp only at hk hval
 refine aq.aS hT aY hm 30 [0, 3, 4] Wo (by kernel_rfl) ?_
 simp only [af.all, ay, decide_eq_true_eq, decide_eq_false_iff_not]
 refine ⟨fun hb => ?_, fun hb s' hv => ?_⟩
 ·obtain ⟨j, rfl⟩ : ∃ j, k = j + 1 := ⟨k - 1, by omega⟩
  have e : (((j + 1 : Nat) : Int) - 1).toNat = j := by omega
  have hzj := hz j (by omega)
  have hv32 : v < 2 ^ 32 := by
   rcases Nat.lt_or_ge v (2 ^ 32) with h | h
   ·exact h
   ·have h1 : 2 ^ 32 * 2 ^ (32 * (j + 1)) ≤ v * 2 ^ (32 * (j + 1)) := Nat.mul_le_mul_right _ h
    have h2 : 2 ^ 32 ≤ 2 ^ (32 * (j + 1)) := Nat.pow_le_pow_right (by omega) (by omega)
    have h3 : 2 ^ 32 * 2 ^ 32 ≤ 2 ^ 32 * 2 ^ (32 * (j + 1)) := Nat.mul_le_mul_left _ h2
    omega
  rw [e]
  have hor : IntKind.u64.wrap ((BitVec.ofInt IntKind.u64.bits (IntKind.u64.wrap ((v : Int) * 2 ^ min (Int.toNat 32) IntKind.u64.bits)) ||| BitVec.ofInt IntKind.u64.bits (IntKind.u64.wrap (z j : Int))).toNat : Int) =
    ((v * 4294967296 + z j : Nat) : Int) := by
   rw [s7, bA (x := (z j : Int)) (by omega) (by omega), bA (x := (v : Int) * 4294967296) (by omega) (by omega)]
   rw [show (v : Int) * 4294967296 = ((v * 2 ^ 32 : Nat) : Int) by omega, pM (by omega) (by omega), oq hzj]
  refine ⟨⟨by omega, by omega, by omega⟩, fun s' hv => ⟨(j, v * 4294967296 + z j), cz [] hv h0 rfl ⟨⟨rfl, aG rfl⟩, ⟨rfl, eB hor⟩, ⟨rfl, eB (by rw [wrap_i64 (by omega) (by omega)]; simp only; omega)⟩, trivial⟩ trivial,
   ⟨by simp only; omega, Ez hval⟩, by simp⟩⟩
 ·have hk0 : k = 0 := by omega
  subst hk0
  have hval : v = val n z := by simpa [val] using hval
  subst hval
  exact aA.weak (by kernel_rfl) (cz (vs := [.ah 1 n (aj z), .int .u64 (val n z : Nat), .int .i64 (((0 : Nat) : Int) - 1)]) (ps := []) (nx := 0) [] hv h0 rfl ⟨⟨rfl, aG rfl⟩, ⟨rfl, aG rfl⟩, ⟨rfl, aG rfl⟩, trivial⟩ trivial)
   (aA.fin hT aY hm 30 TR (by kernel_rfl) (bq.refl _))
theorem Qi : ∀ K args pre r, bu (jv wK) K args pre = some r → aC P sZ K args pre r :=
 bQ (p0 fun _ _ K hz need => S0 hz need K [])
theorem ZU : aO P sw lp (ax lp) := aP Lb (by kernel_rfl) (by kernel_rfl) (by kernel_rfl)
theorem Yc : aO P vT mZ (ax mZ) := aP NM (by kernel_rfl) (by kernel_rfl) (by kernel_rfl)
theorem RA {x y : Nat} : aF T [] [] 60 [0, 1] (before (ax lp) [1,0]) ⟨aN 0 [.int .u64 x, .int .u64 y], [], 0⟩ =
  some (af.leaf ak.normal ([int IntKind.u64 (↑x : Int), int IntKind.u64 (↑y : Int)], [])) := by kernel_rfl
theorem YS {x y : Nat} : aF T [] [6] 60 [0, 1] [part (ax lp) [1,0,0,0]] ⟨az [0, 1] [.int .u64 x, .int .u64 y], [], 0⟩ =
  some (af.fork ((↑y : Int) != (0 : Int)) (af.ag [(↑y : Int) ≠ (0 : Int)] (af.leaf ak.normal ([int IntKind.u64 (↑y : Int), int IntKind.u64 ((↑x : Int).tmod (↑y : Int))], []))) (af.leaf (ak.exit 0) ([int IntKind.u64 (↑x : Int), int IntKind.u64 (↑y : Int)], []))) := by kernel_rfl
theorem XZ {x y : Nat} : b9 T [] [] 60 lp (behind (ax lp) [1,0]) ⟨az [0, 1] [.int .u64 x, .int .u64 y], [], 0⟩ =
  some (af.leaf ak.ret [int IntKind.u64 (↑x : Int)]) := by kernel_rfl
theorem Yz {s n l x : Nat} {z : Nat → Nat} : aF T [] [11] 60 [0, 1, 4] (before (ax mZ) [1,1,1]) ⟨aN 0 [.own 0 1 s n, .int .u64 x], [(0, ⟨true, true, 1, l, aj z⟩)], 1⟩ =
  some (af.ag [(0 : Int) ≤ (0 : Int) ∧ Int.toNat (0 : Int) < n, Int.toNat (0 : Int) + s < l] (af.ag [(0 : Int) ≤ (32 : Int)] (af.fork ((↑x : Int).fdiv ((2 : Int) ^ min (Int.toNat (32 : Int)) IntKind.u64.bits) == (0 : Int)) (af.leaf ak.ret ([own 0 1 s n, int IntKind.u64 (↑x : Int), int IntKind.i64 (1 : Int)], [((0 : Nat), ⟨true, true, 1, l, fun (j : Nat) ↦ if (j == Int.toNat (0 : Int) + s) = true then int IntKind.u32 (IntKind.u32.wrap (↑x : Int)) else aj z j⟩)])) (af.leaf ak.normal ([own 0 1 s n, int IntKind.u64 (↑x : Int), int IntKind.i64 (0 : Int)], [((0 : Nat), ⟨true, true, 1, l, fun (j : Nat) ↦ if (j == Int.toNat (0 : Int) + s) = true then int IntKind.u32 (IntKind.u32.wrap (↑x : Int)) else aj z j⟩)]))))) := by kernel_rfl
theorem O0 {s n l x : Nat} {z : Nat → Nat} : aF T [] [] 60 [0, 1, 4] [part (ax mZ) [1,1,1]] ⟨az [0, 1, 4] [.own 0 1 s n, .int .u64 x, .int .i64 0], [(0, ⟨true, true, 1, l, aj z⟩)], 1⟩ =
  some (af.ag [(0 : Int) ≤ (32 : Int), (0 : Int) ≤ (1 : Int) ∧ Int.toNat (1 : Int) < n, Int.toNat (1 : Int) + s < l] (af.leaf ak.ret ([own 0 1 s n, int IntKind.u64 (↑x : Int), int IntKind.i64 (2 : Int)], [((0 : Nat), ⟨true, true, 1, l, fun (j : Nat) ↦ if (j == Int.toNat (1 : Int) + s) = true then int IntKind.u32 (IntKind.u32.wrap ((↑x : Int).fdiv ((2 : Int) ^ min (Int.toNat (32 : Int)) IntKind.u64.bits))) else aj z j⟩)]))) := by kernel_rfl
theorem ZR {x y : Nat} (K : Nat) (pre : aB) : aC P sw K [.int .u64 x, .int .u64 y] pre (aK (.int .u64 (Nat.gcd x y : Nat)) []) := by
 refine gA hT ZU rfl (of_decide_eq_true (by kernel_rfl)) rfl (fun _ c h0 => ?_) K pre
 have hk0 : ∀ {nx : Nat} k x, c.k0 k = some x → k < nx := gT h0
 refine aq.hole [1,0] (by kernel_rfl) (aA.aS hT aY hm 60 [0, 1] RA (by kernel_rfl) fun s' hv => bL ?_)
 refine aq.fl (i := 0) (y := part (ax lp) [1,0,0,0]) (by kernel_rfl) [0, 1] 0 hk0 (fun p : Nat × Nat => [.int .u64 (p.1 : Nat), .int .u64 (p.2 : Nat)]) (fun _ => []) (fun _ => rfl) (fun _ => trivial)
  (fun p => Nat.gcd p.1 p.2 = Nat.gcd x y) (fun p => p.2) (x, y) hv rfl ?_
 rintro ⟨m, n⟩ hg
 simp only at hg
 refine aq.aS hT aY hm 60 [0, 1] YS (by kernel_rfl) ?_
 simp only [af.all, ay, bne_iff_ne, ne_eq, bne_eq_false_iff_eq]
 refine ⟨fun hb => ⟨hb, fun s' hv => ?_⟩, fun hb s' hv => dI (bL ?_)⟩
 ·have hlt := Nat.mod_lt m (show 0 < n by omega)
  refine ⟨(n, m % n), cG hv (by rw [← Int.ofNat_tmod]) rfl, ?_, hlt⟩
  rw [← hg, Nat.gcd_comm m n, Nat.gcd_rec n m, Nat.gcd_comm]
 ·refine aA.xQ hT aY hm 60 (nx := 0) hv hk0 rfl trivial XZ (by kernel_rfl) (by kernel_rfl) (bm ?_)
  have : n = 0 := by omega
  rw [← hg, this, Nat.gcd_zero_right]
def C1 : Spec := bu fun l => match l with
 | [.int .u64 x, .int .u64 y] => some (aK (.int .u64 (Nat.gcd x.toNat y.toNat : Nat)) [0 ≤ x, 0 ≤ y])
 | _ => none
theorem SD : ∀ K args pre r, C1 K args pre = some r → aC P sw K args pre r := by
 refine bQ fun K args r hk hs _ => ?_
 split at hs
 ·rename_i x y
  simp only [Option.some.injEq] at hs
  subst hs
  intro need
  obtain ⟨h1, h2⟩ : 0 ≤ x ∧ 0 ≤ y := need
  obtain ⟨a, rfl⟩ := Int.eq_ofNat_of_zero_le h1
  obtain ⟨b, rfl⟩ := Int.eq_ofNat_of_zero_le h2
  exact ZR K [] trivial
 ·simp at hs
def ff (z : Nat → Nat) (s x : Nat) : Nat → Nat := fun i => if i = s then x % 4294967296 else if i = s + 1 ∧ 4294967296 ≤ x then x / 4294967296 else z i
def bS (x : Nat) : Nat := if x < 4294967296 then 1 else 2
theorem ZZ {k s n l x : Nat} {z : Nat → Nat} {f : Nat → AV} (hx : x < 2 ^ 64) (h1 : bS x ≤ n) (hs : s + n ≤ l) (hf : ∀ i, i < l → f i = aj z i) (K : Nat) :
  aC P vT K [.own k 1 s n, .int .u64 x] [(k, ⟨true, true, 1, l, f⟩)] ⟨.int .i64 (bS x : Nat), [(k, ⟨true, true, 1, l, aj (ff z s x)⟩)], []⟩ := by
 refine lZ hT Yc (args0 := [.own 0 1 s n, .int .u64 x]) (pre0 := [(0, ⟨true, true, 1, l, aj z⟩)]) (nx := 1) [(0, k)] (of_decide_eq_true (by kernel_rfl)) (by simp [gU]) ⟨⟨rfl, cH rfl rfl rfl⟩, ⟨rfl, aG rfl⟩, trivial⟩ ⟨⟨k, _, rfl, by simp [look], dU rfl hf⟩, trivial⟩
  (fun a x h => ?_) (fun x o h => ?_) (fun _ c h0 => ?_)
 ·simp only [aU, look] at h
  split at h
  ·simp only [Option.some.injEq] at h; subst h; exact ⟨_, by simp [look]; rfl⟩
  ·simp at h
 ·simp only [look] at h
  split at h
  ·rename_i he
   have : k = x := by simpa using he
   subst this
   exact .inl ⟨_, by simp [look]; rfl⟩
  ·simp at h
 have hk0 : ∀ k x, c.k0 k = some x → k < 1 := fun k x hk => by
  have := h0 k x hk
  simp only [aU, look] at this
  split at this
  ·rename_i h; simp at h; omega
  ·simp at this
 have key : ∀ {s' : aE} {v : Int} {w : Nat → Nat}, aQ [0, 1, 4] s' = some ([.own 0 1 s n, .int .u64 x, .int .i64 v], [(0, ⟨true, true, 1, l, aj w⟩)]) → v = (bS x : Nat) → w = ff z s x →
   ∃ τ, tr [(0, k)] K [(k, ⟨true, true, 1, l, f⟩)] τ ∧ (AI T mZ τ [(k, ⟨true, true, 1, l, f⟩)] ⟨.int .i64 (bS x : Nat), [(k, ⟨true, true, 1, l, aj (ff z s x)⟩)], []⟩ s' ∨ zl T mZ τ [(k, ⟨true, true, 1, l, f⟩)] ⟨.int .i64 (bS x : Nat), [(k, ⟨true, true, 1, l, aj (ff z s x)⟩)], []⟩ s') := by
  intro s' v w hv hv1 hw
  refine ⟨aU [(k, 0)], tV, .inr (o5 (vs := [.own 0 1 s n, .int .u64 x, .int .i64 v]) (us := [.int .i64 v]) (ws := [.int .i64 (bS x : Nat)]) (os := [(0, ⟨true, true, 1, l, aj w⟩)]) (ps := [(k, ⟨true, true, 1, l, aj (ff z s x)⟩)]) hv (by kernel_rfl) ⟨⟨rfl, eB hv1⟩, trivial⟩ rfl (by simp [bT, eg, put]) ⟨⟨0, _, by simp [aU, look], rfl, dU rfl fun i hi => by rw [hw]⟩, trivial⟩)⟩
 have h12 : bS x = 1 ∨ bS x = 2 := by unfold bS; split <;> simp
 have hset1 : (fun j => if j = s then AV.int .u32 (IntKind.u32.wrap (x : Int)) else aj z j) = aj (bI z s (x % 4294967296)) := by
  funext j; exact eZ (by rw [gC]) j
 refine aq.hole [1,1,1] (by kernel_rfl) (aA.aS hT aY hm 60 [0, 1, 4] Yz (by kernel_rfl) ?_)
 simp only [af.all, ay, beq_iff_eq, beq_eq_false_iff_ne, ne_eq, iY, Int.toNat_zero, Nat.zero_add, hset1]
 refine ⟨⟨by omega, by omega⟩, by omega, fun hb s' hv => ?_, fun hb s' hv => bL ?_⟩
 ·have hlt : x < 4294967296 := by omega
  refine dJ ⟨.inr rfl, key hv (by unfold bS; rw [if_pos hlt]; rfl) ?_⟩
  funext i
  unfold bI ff
  by_cases h : i = s
  ·simp [h]
  ·simp [h]; omega
 ·have hge : 4294967296 ≤ x := by omega
  have h2 : bS x = 2 := by unfold bS; rw [if_neg (by omega)]
  refine aq.dB hT aY hm 60 (nx := 1) hv hk0 rfl ⟨⟨by omega, fun _ _ => rfl⟩, trivial⟩ [0, 1, 4] O0 (by kernel_rfl) ?_
  simp only [af.all, ay, beq_iff_eq, beq_eq_false_iff_ne, ne_eq, iY, show Int.toNat 1 = 1 from rfl]
  refine ⟨⟨by omega, by omega, by omega⟩, fun s' hv => ?_⟩
  have hset2 : (fun j => if j = 1 + s then AV.int .u32 (IntKind.u32.wrap ((x : Int) / 4294967296)) else aj (bI z s (x % 4294967296)) j) = aj (bI (bI z s (x % 4294967296)) (1 + s) (x / 4294967296)) := by
   funext j; exact eZ (by rw [wrap_u32 (by omega) (by omega)]; omega) j
  rw [hset2] at hv
  refine dJ ⟨.inr rfl, key hv (by rw [h2]; rfl) ?_⟩
  funext i
  unfold bI ff
  by_cases h : i = s
  ·simp [h]
  ·by_cases h' : i = 1 + s
   ·simp [h', hge, Nat.add_comm]
   ·simp [h, h']; omega
def Aq : Spec := fun _ args pre => match args, pre with
 | [.own k es s n, .int .u64 x], [(k', o)] => if k == k' && es == 1 && o.row && o.wr && o.es == 1 then some ⟨.int .i64 (bS x.toNat : Nat), [(k, ⟨true, true, 1, o.len, aj (ff (fun i => numOf (o.f i)) s x.toNat)⟩)], [cN o.len o.f, 0 ≤ x ∧ x < 2 ^ 64, bS x.toNat ≤ n, s + n ≤ o.len]⟩ else none
 | _, _ => none
theorem Rl : ∀ K args pre r, Aq K args pre = some r → aC P vT K args pre r := by
 intro K args pre r hs
 unfold Aq at hs
 split at hs
 ·rename_i k es s n x k' o
  split at hs
  ·rename_i hc
   simp only [Bool.and_eq_true, beq_iff_eq] at hc
   obtain ⟨⟨⟨⟨rfl, rfl⟩, h4⟩, h5⟩, h6⟩ := hc
   simp only [Option.some.injEq] at hs
   subst hs
   intro need
   obtain ⟨h1, ⟨h2, h2'⟩, h3, h7⟩ : cN o.len o.f ∧ (0 ≤ x ∧ x < 2 ^ 64) ∧ bS x.toNat ≤ n ∧ s + n ≤ o.len := need
   obtain ⟨row, wr, es, len, f⟩ := o
   simp only at h1 h4 h5 h6 h7
   subst h4 h5 h6
   obtain ⟨x, rfl⟩ := Int.eq_ofNat_of_zero_le h2
   refine ZZ (z := fun i => numOf (f i)) (by omega) h3 h7 (fun i hi => ?_) K trivial
   obtain ⟨z, g1, g2⟩ := h1 i hi
   simp [g2, numOf, aj]
  ·simp at hs
 ·simp at hs
def F3 : Spec := bu fun l => match l with
 | [.int .u64 x, .int .u64 y, .int .u64 z] => some (aK (.tuple [.int .u64 ((x + y + z) % 18446744073709551616), .int .u64 ((x + y + z) / 18446744073709551616)]) [0 ≤ x, 0 ≤ y, 0 ≤ z ∧ z ≤ 1])
 | _ => none
theorem Ww : ∀ K args pre r, F3 K args pre = some r → aC P AF K args pre r := by
 refine bQ fun K args r hk hs _ => ?_
 split at hs
 ·rename_i x y z
  simp only [Option.some.injEq] at hs
  subst hs
  intro need
  obtain ⟨h1, h2, h3, h4⟩ : 0 ≤ x ∧ 0 ≤ y ∧ 0 ≤ z ∧ z ≤ 1 := need
  refine ⟨fun k o h => by simp [look] at h, fun c D D' β w vs hw0 hMw hrel hD hK hv => .inr ?_⟩
  match vs, hv with
  | [a, b, d], hv =>
   obtain ⟨ha, hb, hd, _⟩ := hv
   have ha := (ha.bz).int
   have hb := (hb.bz).int
   have hd := (hd.bz).int
   subst ha hb hd
   refine ⟨.tuple #[.int .u64 ((x + y + z) % 18446744073709551616), .int .u64 ((x + y + z) / 18446744073709551616)], ?_, β, ?_, cj.refl _ _ _, [_, _], rfl, .bV (.int .nil) rfl, .bV (.int .nil) rfl, trivial⟩
   ·rw [run_callFunc_extern (e := add64Entry) To (by kernel_rfl) (by kernel_rfl) (by kernel_rfl) (by rfl)]
    rw [run_add64 x y z h1 h2 h3 h4]
    rfl
   ·exact hrel.jG hD
 ·simp at hs
end Go.Am.B
