/- rational.word, divisor, limbs; bits.Add64. -/
import Derived.Test.YtbghpkgbokbmlaaGreatB14
import Derived.Laws.Externs
set_option linter.unusedVariables false
namespace Go.Am.B
open Go Go.Am.N AV
theorem QH : aP P rN ng (au ng) := aL abU (by kernel_rfl) (by kernel_rfl) (by kernel_rfl)
theorem My {n : Nat} {z : Nat → Nat} : aH T [] [] 30 [0, 3, 4] (before (au ng) [1,1,0,1]) ⟨aM 0 [.aj 1 n (ah z)], [], 0⟩ =
  some (aa.leaf ag.normal ([aj 1 n (ah z), int IntKind.u64 (0 : Int), int IntKind.i64 (IntKind.i64.wrap ((↑n : Int) - (1 : Int)))], [])) := by kernel_rfl
theorem R8 {n k v : Nat} {z : Nat → Nat} : aH T [] [9] 30 [0, 3, 4] [part (au ng) [1,1,0,1,0,0]] ⟨aB [0, 3, 4] [.aj 1 n (ah z), .int .u64 v, .int .i64 ((k : Int) - 1)], [], 0⟩ =
  some (aa.fork (decide ((↑k : Int) - (1 : Int) ≥ (0 : Int))) (aa.af [(0 : Int) ≤ (32 : Int), (0 : Int) ≤ (↑k : Int) - (1 : Int) ∧ ((↑k : Int) - (1 : Int)).toNat < n] (aa.leaf ag.normal ([aj 1 n (ah z), int IntKind.u64 (IntKind.u64.wrap (↑(BitVec.ofInt IntKind.u64.bits (IntKind.u64.wrap ((↑v : Int) * (2 : Int) ^ min (Int.toNat (32 : Int)) IntKind.u64.bits)) ||| BitVec.ofInt IntKind.u64.bits (IntKind.u64.wrap (↑(z ((↑k : Int) - (1 : Int)).toNat) : Int))).toNat : Int)), int IntKind.i64 (IntKind.i64.wrap ((↑k : Int) - (1 : Int) - (1 : Int)))], []))) (aa.leaf (ag.exit 0) ([aj 1 n (ah z), int IntKind.u64 (↑v : Int), int IntKind.i64 ((↑k : Int) - (1 : Int))], []))) := by kernel_rfl
theorem abC {n k v : Nat} {z : Nat → Nat} : bW T [] [] 30 ng (behind (au ng) [1,1,0,1]) ⟨aB [0, 3, 4] [.aj 1 n (ah z), .int .u64 v, .int .i64 ((k : Int) - 1)], [], 0⟩ =
  some (aa.leaf ag.ret [int IntKind.u64 (↑v : Int)]) := by kernel_rfl
theorem UB {n : Nat} {z : Nat → Nat} (hz : ∀ i, i < n → z i < 2 ^ 32) (hn : n ≤ 2) (K : Nat) (pre : aD) : az P rN K [.aj 1 n (ah z)] pre (aF (.int .u64 (val n z : Nat)) []) := by
 refine gX hT QH rfl (of_decide_eq_true (by kernel_rfl)) rfl (fun _ c h0 => ?_) K pre
 refine aq.hole [1,1,0,1] (by kernel_rfl) (aA.aZ hT aT hm 30 [0, 3, 4] My (by kernel_rfl) ?_)
 intro s' hv
 have hv64 : val n z < 2 ^ 64 := by
  have h1 := eE hz
  have h2 : 2 ^ (32 * n) ≤ 2 ^ (32 * 2) := Nat.pow_le_pow_right (by omega) (by omega)
  omega
 refine aq.gk (i := 0) (y := part (au ng) [1,1,0,1,0,0]) (by kernel_rfl)
  (fun p : Nat × Nat => ⟨aB [0, 3, 4] [.aj 1 n (ah z), .int .u64 (p.2 : Nat), .int .i64 ((p.1 : Nat) - 1 : Int)], [], 0⟩)
  (fun p => p.1 ≤ n ∧ p.2 * 2 ^ (32 * p.1) + val p.1 z = val n z) (fun p => p.1) (n, 0)
  (cA [] hv h0 rfl ⟨⟨rfl, aG rfl⟩, ⟨rfl, aG rfl⟩, ⟨rfl, eU (wrap_i64 (by omega) (by omega))⟩, trivial⟩ trivial) ⟨by simp, by simp⟩ ?_
 rintro ⟨k, v⟩ ⟨hk, hval⟩
 simp only at hk hval
 refine aq.aZ hT aT hm 30 [0, 3, 4] R8 (by kernel_rfl) ?_
 simp only [aa.all, ax, decide_eq_true_eq, decide_eq_false_iff_not]
 refine ⟨fun hb => ?_, fun hb s' hv => ?_⟩
 ·obtain ⟨j, rfl⟩ : ∃ j, k = j + 1 := ⟨k - 1, by omega⟩
  have e : (((j + 1 : Nat) : Int) - 1).toNat = j := by omega
  have hzj := hz j (by omega)
  have hv32 : v < 2 ^ 32 := by
   rcases Nat.lt_or_ge v (2 ^ 32) with h | h
   ·exact h
   ·have h1 : 2 ^ 32 * 2 ^ (32 * (j + 1)) ≤ v * 2 ^ (32 * (j + 1)) := Nat.mul_le_mul_right _ h
    have h2 : 2 ^ 32 ≤ 2 ^ (32 * (j + 1)) := Nat.pow_le_pow_right (by omega) (by omega)
    have h3 : 2 ^ 32 * 2 ^ 32 ≤ 2 ^ 32 * 2 ^ (32 * (j + 1)) := Nat.mul_le_mul_left _ h2
    omega
  rw [e]
  have hor : IntKind.u64.wrap ((BitVec.ofInt IntKind.u64.bits (IntKind.u64.wrap ((v : Int) * 2 ^ min (Int.toNat 32) IntKind.u64.bits)) ||| BitVec.ofInt IntKind.u64.bits (IntKind.u64.wrap (z j : Int))).toNat : Int) =
    ((v * 4294967296 + z j : Nat) : Int) := by
   rw [v9, bC (x := (z j : Int)) (by omega) (by omega), bC (x := (v : Int) * 4294967296) (by omega) (by omega)]
   rw [show (v : Int) * 4294967296 = ((v * 2 ^ 32 : Nat) : Int) by omega, qS (by omega) (by omega), oV hzj]
  refine ⟨⟨by omega, by omega, by omega⟩, fun s' hv => ⟨(j, v * 4294967296 + z j), cA [] hv h0 rfl ⟨⟨rfl, aG rfl⟩, ⟨rfl, eU hor⟩, ⟨rfl, eU (by rw [wrap_i64 (by omega) (by omega)]; simp only; omega)⟩, trivial⟩ trivial,
   ⟨by simp only; omega, HZ hval⟩, by simp⟩⟩
 ·have hk0 : k = 0 := by omega
  subst hk0
  have hval : v = val n z := by simpa [val] using hval
  subst hval
  exact aA.weak (by kernel_rfl) (cA (vs := [.aj 1 n (ah z), .int .u64 (val n z : Nat), .int .i64 (((0 : Nat) : Int) - 1)]) (ps := []) (nx := 0) [] hv h0 rfl ⟨⟨rfl, aG rfl⟩, ⟨rfl, aG rfl⟩, ⟨rfl, aG rfl⟩, trivial⟩ trivial)
   (aA.fin hT aT hm 30 abC (by kernel_rfl) (bn.refl _))
theorem Zh : ∀ K args pre r, bt (jJ xH) K args pre = some r → az P rN K args pre r :=
 bH (oZ fun _ _ K hz need => UB hz need K [])
theorem Me : aP P uR mU (au mU) := aL VZ (by kernel_rfl) (by kernel_rfl) (by kernel_rfl)
theorem RH : aP P vL nM (au nM) := aL adr (by kernel_rfl) (by kernel_rfl) (by kernel_rfl)
theorem aai {x y : Nat} : aH T [] [] 60 [0, 1] (before (au mU) [1,0]) ⟨aM 0 [.int .u64 x, .int .u64 y], [], 0⟩ =
  some (aa.leaf ag.normal ([int IntKind.u64 (↑x : Int), int IntKind.u64 (↑y : Int)], [])) := by kernel_rfl
theorem QB {x y : Nat} : aH T [] [6] 60 [0, 1] [part (au mU) [1,0,0,0]] ⟨aB [0, 1] [.int .u64 x, .int .u64 y], [], 0⟩ =
  some (aa.fork ((↑y : Int) != (0 : Int)) (aa.af [(↑y : Int) ≠ (0 : Int)] (aa.leaf ag.normal ([int IntKind.u64 (↑y : Int), int IntKind.u64 ((↑x : Int).tmod (↑y : Int))], []))) (aa.leaf (ag.exit 0) ([int IntKind.u64 (↑x : Int), int IntKind.u64 (↑y : Int)], []))) := by kernel_rfl
theorem ZP {x y : Nat} : bW T [] [] 60 mU (behind (au mU) [1,0]) ⟨aB [0, 1] [.int .u64 x, .int .u64 y], [], 0⟩ =
  some (aa.leaf ag.ret [int IntKind.u64 (↑x : Int)]) := by kernel_rfl
theorem Zd {s n l x : Nat} {z : Nat → Nat} : aH T [] [11] 60 [0, 1, 4] (before (au nM) [1,1,1]) ⟨aM 0 [.own 0 1 s n, .int .u64 x], [(0, ⟨true, true, 1, l, ah z⟩)], 1⟩ =
  some (aa.af [(0 : Int) ≤ (0 : Int) ∧ Int.toNat (0 : Int) < n, Int.toNat (0 : Int) + s < l] (aa.af [(0 : Int) ≤ (32 : Int)] (aa.fork ((↑x : Int).fdiv ((2 : Int) ^ min (Int.toNat (32 : Int)) IntKind.u64.bits) == (0 : Int)) (aa.leaf ag.ret ([own 0 1 s n, int IntKind.u64 (↑x : Int), int IntKind.i64 (1 : Int)], [((0 : Nat), ⟨true, true, 1, l, fun (j : Nat) ↦ if (j == Int.toNat (0 : Int) + s) = true then int IntKind.u32 (IntKind.u32.wrap (↑x : Int)) else ah z j⟩)])) (aa.leaf ag.normal ([own 0 1 s n, int IntKind.u64 (↑x : Int), int IntKind.i64 (0 : Int)], [((0 : Nat), ⟨true, true, 1, l, fun (j : Nat) ↦ if (j == Int.toNat (0 : Int) + s) = true then int IntKind.u32 (IntKind.u32.wrap (↑x : Int)) else ah z j⟩)]))))) := by kernel_rfl
theorem X9 {s n l x : Nat} {z : Nat → Nat} : aH T [] [] 60 [0, 1, 4] [part (au nM) [1,1,1]] ⟨aB [0, 1, 4] [.own 0 1 s n, .int .u64 x, .int .i64 0], [(0, ⟨true, true, 1, l, ah z⟩)], 1⟩ =
  some (aa.af [(0 : Int) ≤ (32 : Int), (0 : Int) ≤ (1 : Int) ∧ Int.toNat (1 : Int) < n, Int.toNat (1 : Int) + s < l] (aa.leaf ag.ret ([own 0 1 s n, int IntKind.u64 (↑x : Int), int IntKind.i64 (2 : Int)], [((0 : Nat), ⟨true, true, 1, l, fun (j : Nat) ↦ if (j == Int.toNat (1 : Int) + s) = true then int IntKind.u32 (IntKind.u32.wrap ((↑x : Int).fdiv ((2 : Int) ^ min (Int.toNat (32 : Int)) IntKind.u64.bits))) else ah z j⟩)]))) := by kernel_rfl
theorem ab0 {x y : Nat} (K : Nat) (pre : aD) : az P uR K [.int .u64 x, .int .u64 y] pre (aF (.int .u64 (Nat.gcd x y : Nat)) []) := by
 refine gX hT Me rfl (of_decide_eq_true (by kernel_rfl)) rfl (fun _ c h0 => ?_) K pre
 have hk0 : ∀ {nx : Nat} k x, c.k0 k = some x → k < nx := iA h0
 refine aq.hole [1,0] (by kernel_rfl) (aA.aZ hT aT hm 60 [0, 1] aai (by kernel_rfl) fun s' hv => bI ?_)
 refine aq.fF (i := 0) (y := part (au mU) [1,0,0,0]) (by kernel_rfl) [0, 1] 0 hk0 (fun p : Nat × Nat => [.int .u64 (p.1 : Nat), .int .u64 (p.2 : Nat)]) (fun _ => []) (fun _ => rfl) (fun _ => trivial)
  (fun p => Nat.gcd p.1 p.2 = Nat.gcd x y) (fun p => p.2) (x, y) hv rfl ?_
 rintro ⟨m, n⟩ hg
 simp only at hg
 refine aq.aZ hT aT hm 60 [0, 1] QB (by kernel_rfl) ?_
 simp only [aa.all, ax, bne_iff_ne, ne_eq, bne_eq_false_iff_eq]
 refine ⟨fun hb => ⟨hb, fun s' hv => ?_⟩, fun hb s' hv => ek (bI ?_)⟩
 ·have hlt := Nat.mod_lt m (show 0 < n by omega)
  refine ⟨(n, m % n), cM hv (by rw [← Int.ofNat_tmod]) rfl, ?_, hlt⟩
  rw [← hg, Nat.gcd_comm m n, Nat.gcd_rec n m, Nat.gcd_comm]
 ·refine aA.yX hT aT hm 60 (nx := 0) hv hk0 rfl trivial ZP (by kernel_rfl) (by kernel_rfl) (bq ?_)
  have : n = 0 := by omega
  rw [← hg, this, Nat.gcd_zero_right]
def Gw : Spec := bt fun l => match l with
 | [.int .u64 x, .int .u64 y] => some (aF (.int .u64 (Nat.gcd x.toNat y.toNat : Nat)) [0 ≤ x, 0 ≤ y])
 | _ => none
theorem Ua : ∀ K args pre r, Gw K args pre = some r → az P uR K args pre r := by
 refine bH fun K args r hk hs _ => ?_
 split at hs
 ·rename_i x y
  simp only [Option.some.injEq] at hs
  subst hs
  intro need
  obtain ⟨h1, h2⟩ : 0 ≤ x ∧ 0 ≤ y := need
  obtain ⟨a, rfl⟩ := Int.eq_ofNat_of_zero_le h1
  obtain ⟨b, rfl⟩ := Int.eq_ofNat_of_zero_le h2
  exact ab0 K [] trivial
 ·simp at hs
def fC (z : Nat → Nat) (s x : Nat) : Nat → Nat := fun i => if i = s then x % 4294967296 else if i = s + 1 ∧ 4294967296 ≤ x then x / 4294967296 else z i
def bR (x : Nat) : Nat := if x < 4294967296 then 1 else 2
theorem WG {k s n l x : Nat} {z : Nat → Nat} {f : Nat → AV} (hx : x < 2 ^ 64) (h1 : bR x ≤ n) (hs : s + n ≤ l) (hf : ∀ i, i < l → f i = ah z i) (K : Nat) :
  az P vL K [.own k 1 s n, .int .u64 x] [(k, ⟨true, true, 1, l, f⟩)] ⟨.int .i64 (bR x : Nat), [(k, ⟨true, true, 1, l, ah (fC z s x)⟩)], []⟩ := by
 refine nR hT RH (args0 := [.own 0 1 s n, .int .u64 x]) (pre0 := [(0, ⟨true, true, 1, l, ah z⟩)]) (nx := 1) [(0, k)] (of_decide_eq_true (by kernel_rfl)) (by simp [iz]) ⟨⟨rfl, cj rfl rfl rfl⟩, ⟨rfl, aG rfl⟩, trivial⟩ ⟨⟨k, _, rfl, by simp [look], ew rfl hf⟩, trivial⟩
  (fun a x h => ?_) (fun x o h => ?_) (fun _ c h0 => ?_)
 ·simp only [aX, look] at h
  split at h
  ·simp only [Option.some.injEq] at h; subst h; exact ⟨_, by simp [look]; rfl⟩
  ·simp at h
 ·simp only [look] at h
  split at h
  ·rename_i he
   have : k = x := by simpa using he
   subst this
   exact .inl ⟨_, by simp [look]; rfl⟩
  ·simp at h
 have hk0 : ∀ k x, c.k0 k = some x → k < 1 := fun k x hk => by
  have := h0 k x hk
  simp only [aX, look] at this
  split at this
  ·rename_i h; simp at h; omega
  ·simp at this
 have key : ∀ {s' : aE} {v : Int} {w : Nat → Nat}, aU [0, 1, 4] s' = some ([.own 0 1 s n, .int .u64 x, .int .i64 v], [(0, ⟨true, true, 1, l, ah w⟩)]) → v = (bR x : Nat) → w = fC z s x →
   ∃ τ, wR [(0, k)] K [(k, ⟨true, true, 1, l, f⟩)] τ ∧ (AU T nM τ [(k, ⟨true, true, 1, l, f⟩)] ⟨.int .i64 (bR x : Nat), [(k, ⟨true, true, 1, l, ah (fC z s x)⟩)], []⟩ s' ∨ yN T nM τ [(k, ⟨true, true, 1, l, f⟩)] ⟨.int .i64 (bR x : Nat), [(k, ⟨true, true, 1, l, ah (fC z s x)⟩)], []⟩ s') := by
  intro s' v w hv hv1 hw
  refine ⟨aX [(k, 0)], x4, .inr (uq (vs := [.own 0 1 s n, .int .u64 x, .int .i64 v]) (us := [.int .i64 v]) (ws := [.int .i64 (bR x : Nat)]) (os := [(0, ⟨true, true, 1, l, ah w⟩)]) (ps := [(k, ⟨true, true, 1, l, ah (fC z s x)⟩)]) hv (by kernel_rfl) ⟨⟨rfl, eU hv1⟩, trivial⟩ rfl (by simp [ck, eJ, put]) ⟨⟨0, _, by simp [aX, look], rfl, ew rfl fun i hi => by rw [hw]⟩, trivial⟩)⟩
 have h12 : bR x = 1 ∨ bR x = 2 := by unfold bR; split <;> simp
 have hset1 : (fun j => if j = s then AV.int .u32 (IntKind.u32.wrap (x : Int)) else ah z j) = ah (bG z s (x % 4294967296)) := by
  funext j; exact fq (by rw [gU]) j
 refine aq.hole [1,1,1] (by kernel_rfl) (aA.aZ hT aT hm 60 [0, 1, 4] Zd (by kernel_rfl) ?_)
 simp only [aa.all, ax, beq_iff_eq, beq_eq_false_iff_ne, ne_eq, jb, Int.toNat_zero, Nat.zero_add, hset1]
 refine ⟨⟨by omega, by omega⟩, by omega, fun hb s' hv => ?_, fun hb s' hv => bI ?_⟩
 ·have hlt : x < 4294967296 := by omega
  refine ef ⟨.inr rfl, key hv (by unfold bR; rw [if_pos hlt]; rfl) ?_⟩
  funext i
  unfold bG fC
  by_cases h : i = s
  ·simp [h]
  ·simp [h]; omega
 ·have hge : 4294967296 ≤ x := by omega
  have h2 : bR x = 2 := by unfold bR; rw [if_neg (by omega)]
  refine aq.dS hT aT hm 60 (nx := 1) hv hk0 rfl ⟨⟨by omega, fun _ _ => rfl⟩, trivial⟩ [0, 1, 4] X9 (by kernel_rfl) ?_
  simp only [aa.all, ax, beq_iff_eq, beq_eq_false_iff_ne, ne_eq, jb, show Int.toNat 1 = 1 from rfl]
  refine ⟨⟨by omega, by omega, by omega⟩, fun s' hv => ?_⟩
  have hset2 : (fun j => if j = 1 + s then AV.int .u32 (IntKind.u32.wrap ((x : Int) / 4294967296)) else ah (bG z s (x % 4294967296)) j) = ah (bG (bG z s (x % 4294967296)) (1 + s) (x / 4294967296)) := by
   funext j; exact fq (by rw [wrap_u32 (by omega) (by omega)]; omega) j
  rw [hset2] at hv
  refine ef ⟨.inr rfl, key hv (by rw [h2]; rfl) ?_⟩
  funext i
  unfold bG fC
  by_cases h : i = s
  ·simp [h]
  ·by_cases h' : i = 1 + s
   ·simp [h', hge, Nat.add_comm]
   ·simp [h, h']; omega
def Cy : Spec := fun _ args pre => match args, pre with
 | [.own k es s n, .int .u64 x], [(k', o)] => if k == k' && es == 1 && o.row && o.wr && o.es == 1 then some ⟨.int .i64 (bR x.toNat : Nat), [(k, ⟨true, true, 1, o.len, ah (fC (fun i => numOf (o.f i)) s x.toNat)⟩)], [cR o.len o.f, 0 ≤ x ∧ x < 2 ^ 64, bR x.toNat ≤ n, s + n ≤ o.len]⟩ else none
 | _, _ => none
theorem Vq : ∀ K args pre r, Cy K args pre = some r → az P vL K args pre r := by
 intro K args pre r hs
 unfold Cy at hs
 split at hs
 ·rename_i k es s n x k' o
  split at hs
  ·rename_i hc
   simp only [Bool.and_eq_true, beq_iff_eq] at hc
   obtain ⟨⟨⟨⟨rfl, rfl⟩, h4⟩, h5⟩, h6⟩ := hc
   simp only [Option.some.injEq] at hs
   subst hs
   intro need
   obtain ⟨h1, ⟨h2, h2'⟩, h3, h7⟩ : cR o.len o.f ∧ (0 ≤ x ∧ x < 2 ^ 64) ∧ bR x.toNat ≤ n ∧ s + n ≤ o.len := need
   obtain ⟨row, wr, es, len, f⟩ := o
   simp only at h1 h4 h5 h6 h7
   subst h4 h5 h6
   obtain ⟨x, rfl⟩ := Int.eq_ofNat_of_zero_le h2
   refine WG (z := fun i => numOf (f i)) (by omega) h3 h7 (fun i hi => ?_) K trivial
   obtain ⟨z, g1, g2⟩ := h1 i hi
   simp [g2, numOf, ah]
  ·simp at hs
 ·simp at hs
def GL : Spec := bt fun l => match l with
 | [.int .u64 x, .int .u64 y, .int .u64 z] => some (aF (.tuple [.int .u64 ((x + y + z) % 18446744073709551616), .int .u64 ((x + y + z) / 18446744073709551616)]) [0 ≤ x, 0 ≤ y, 0 ≤ z ∧ z ≤ 1])
 | _ => none
theorem Wu : ∀ K args pre r, GL K args pre = some r → az P AP K args pre r := by
 refine bH fun K args r hk hs _ => ?_
 split at hs
 ·rename_i x y z
  simp only [Option.some.injEq] at hs
  subst hs
  intro need
  obtain ⟨h1, h2, h3, h4⟩ : 0 ≤ x ∧ 0 ≤ y ∧ 0 ≤ z ∧ z ≤ 1 := need
  refine ⟨fun k o h => by simp [look] at h, fun c D D' β w vs hw0 hMw hrel hD hK hv => .inr ?_⟩
  match vs, hv with
  | [a, b, d], hv =>
   obtain ⟨ha, hb, hd, _⟩ := hv
   have ha := (ha.bF).int
   have hb := (hb.bF).int
   have hd := (hd.bF).int
   subst ha hb hd
   refine ⟨.tuple #[.int .u64 ((x + y + z) % 18446744073709551616), .int .u64 ((x + y + z) / 18446744073709551616)], ?_, β, ?_, cC.refl _ _ _, [_, _], rfl, .b6 (.int .nil) rfl, .b6 (.int .nil) rfl, trivial⟩
   ·rw [run_callFunc_extern (e := add64Entry) ab1 (by kernel_rfl) (by kernel_rfl) (by kernel_rfl) (by rfl)]
    rw [run_add64 x y z h1 h2 h3 h4]
    rfl
   ·exact hrel.kD hD
 ·simp at hs
end Go.Am.B
