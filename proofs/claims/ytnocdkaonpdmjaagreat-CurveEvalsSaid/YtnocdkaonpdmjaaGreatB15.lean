/- rational.word, divisor, limbs; bits.Add64. -/
import Derived.Test.YtnocdkaonpdmjaaGreatB14
import Derived.Laws.Externs
set_option linter.unusedVariables false
namespace Go.Am.B
open Go Go.Am.N AV
theorem Vt : aN P xI nc (au nc) := aP Xq (by kernel_rfl) (by kernel_rfl) (by kernel_rfl)
theorem Zx {n : Nat} {z : Nat → Nat} : aI T [] [] 30 [0, 3, 4] (before (au nc) [1,1,0,1]) ⟨aL 0 [.ak 1 n (aj z)], [], 0⟩ =
  some (aa.leaf ah.normal ([ak 1 n (aj z), int IntKind.u64 (0 : Int), int IntKind.i64 (IntKind.i64.wrap ((↑n : Int) - (1 : Int)))], [])) := by kernel_rfl
theorem VL {n k v : Nat} {z : Nat → Nat} : aI T [] [9] 30 [0, 3, 4] [part (au nc) [1,1,0,1,0,0]] ⟨aB [0, 3, 4] [.ak 1 n (aj z), .int .u64 v, .int .i64 ((k : Int) - 1)], [], 0⟩ =
  some (aa.fork (decide ((↑k : Int) - (1 : Int) ≥ (0 : Int))) (aa.ag [(0 : Int) ≤ (32 : Int), (0 : Int) ≤ (↑k : Int) - (1 : Int) ∧ ((↑k : Int) - (1 : Int)).toNat < n] (aa.leaf ah.normal ([ak 1 n (aj z), int IntKind.u64 (IntKind.u64.wrap (↑(BitVec.ofInt IntKind.u64.bits (IntKind.u64.wrap ((↑v : Int) * (2 : Int) ^ min (Int.toNat (32 : Int)) IntKind.u64.bits)) ||| BitVec.ofInt IntKind.u64.bits (IntKind.u64.wrap (↑(z ((↑k : Int) - (1 : Int)).toNat) : Int))).toNat : Int)), int IntKind.i64 (IntKind.i64.wrap ((↑k : Int) - (1 : Int) - (1 : Int)))], []))) (aa.leaf (ah.exit 0) ([ak 1 n (aj z), int IntKind.u64 (↑v : Int), int IntKind.i64 ((↑k : Int) - (1 : Int))], []))) := by kernel_rfl
theorem MU {n k v : Nat} {z : Nat → Nat} : b9 T [] [] 30 nc (behind (au nc) [1,1,0,1]) ⟨aB [0, 3, 4] [.ak 1 n (aj z), .int .u64 v, .int .i64 ((k : Int) - 1)], [], 0⟩ =
  some (aa.leaf ah.ret [int IntKind.u64 (↑v : Int)]) := by kernel_rfl
theorem NV {n : Nat} {z : Nat → Nat} (hz : ∀ i, i < n → z i < 2 ^ 32) (hn : n ≤ 2) (K : Nat) (pre : aD) : aA P xI K [.ak 1 n (aj z)] pre (aG (.int .u64 (val n z : Nat)) []) := by
 refine gZ hT Vt rfl (of_decide_eq_true (by kernel_rfl)) rfl (fun _ c h0 => ?_) K pre
 refine aq.hole [1,1,0,1] (by kernel_rfl) (aC.aZ hT bk hm 30 [0, 3, 4] Zx (by kernel_rfl) ?_)
 intro s' hv
 have hv64 : val n z < 2 ^ 64 := by
  have h1 := eo hz
  have h2 : 2 ^ (32 * n) ≤ 2 ^ (32 * 2) := Nat.pow_le_pow_right (by omega) (by omega)
  omega
 refine aq.gh (i := 0) (y := part (au nc) [1,1,0,1,0,0]) (by kernel_rfl)
  (fun p : Nat × Nat => ⟨aB [0, 3, 4] [.ak 1 n (aj z), .int .u64 (p.2 : Nat), .int .i64 ((p.1 : Nat) - 1 : Int)], [], 0⟩)
  (fun p => p.1 ≤ n ∧ p.2 * 2 ^ (32 * p.1) + val p.1 z = val n z) (fun p => p.1) (n, 0)
  (cB [] hv h0 rfl ⟨⟨rfl, aH rfl⟩, ⟨rfl, aH rfl⟩, ⟨rfl, eH (wrap_i64 (by omega) (by omega))⟩, trivial⟩ trivial) ⟨by simp, by simp⟩ ?_
 rintro ⟨k, v⟩ ⟨hk, hval⟩
 simp only at hk hval
 refine aq.aZ hT bk hm 30 [0, 3, 4] VL (by kernel_rfl) ?_
 simp only [aa.all, ay, decide_eq_true_eq, decide_eq_false_iff_not]
 refine ⟨fun hb => ?_, fun hb s' hv => ?_⟩
 ·obtain ⟨j, rfl⟩ : ∃ j, k = j + 1 := ⟨k - 1, by omega⟩
  have e : (((j + 1 : Nat) : Int) - 1).toNat = j := by omega
  have hzj := hz j (by omega)
  have hv32 : v < 2 ^ 32 := by
   rcases Nat.lt_or_ge v (2 ^ 32) with h | h
   ·exact h
   ·have h1 : 2 ^ 32 * 2 ^ (32 * (j + 1)) ≤ v * 2 ^ (32 * (j + 1)) := Nat.mul_le_mul_right _ h
    have h2 : 2 ^ 32 ≤ 2 ^ (32 * (j + 1)) := Nat.pow_le_pow_right (by omega) (by omega)
    have h3 : 2 ^ 32 * 2 ^ 32 ≤ 2 ^ 32 * 2 ^ (32 * (j + 1)) := Nat.mul_le_mul_left _ h2
    omega
  rw [e]
  have hor : IntKind.u64.wrap ((BitVec.ofInt IntKind.u64.bits (IntKind.u64.wrap ((v : Int) * 2 ^ min (Int.toNat 32) IntKind.u64.bits)) ||| BitVec.ofInt IntKind.u64.bits (IntKind.u64.wrap (z j : Int))).toNat : Int) =
    ((v * 4294967296 + z j : Nat) : Int) := by
   rw [ye, wrap_u64 (x := (z j : Int)) (by omega) (by omega), wrap_u64 (x := (v : Int) * 4294967296) (by omega) (by omega)]
   rw [show (v : Int) * 4294967296 = ((v * 2 ^ 32 : Nat) : Int) by omega, qn (by omega) (by omega), oS hzj]
  refine ⟨⟨by omega, by omega, by omega⟩, fun s' hv => ⟨(j, v * 4294967296 + z j), cB [] hv h0 rfl ⟨⟨rfl, aH rfl⟩, ⟨rfl, eH hor⟩, ⟨rfl, eH (by rw [wrap_i64 (by omega) (by omega)]; simp only; omega)⟩, trivial⟩ trivial,
   ⟨by simp only; omega, HA hval⟩, by simp⟩⟩
 ·have hk0 : k = 0 := by omega
  subst hk0
  have hval : v = val n z := by simpa [val] using hval
  subst hval
  exact aC.weak (by kernel_rfl) (cB (vs := [.ak 1 n (aj z), .int .u64 (val n z : Nat), .int .i64 (((0 : Nat) : Int) - 1)]) (ps := []) (nx := 0) [] hv h0 rfl ⟨⟨rfl, aH rfl⟩, ⟨rfl, aH rfl⟩, ⟨rfl, aH rfl⟩, trivial⟩ trivial)
   (aC.fin hT bk hm 30 MU (by kernel_rfl) (bB.refl _))
theorem O4 : ∀ K args pre r, bw (jD AP) K args pre = some r → aA P xI K args pre r :=
 bI (qF fun _ _ K hz need => NV hz need K [])
theorem Tv : aN P xb mO (au mO) := aP Xv (by kernel_rfl) (by kernel_rfl) (by kernel_rfl)
theorem OU : aN P yd nZ (au nZ) := aP Zg (by kernel_rfl) (by kernel_rfl) (by kernel_rfl)
theorem aaP {x y : Nat} : aI T [] [] 60 [0, 1] (before (au mO) [1,0]) ⟨aL 0 [.int .u64 x, .int .u64 y], [], 0⟩ =
  some (aa.leaf ah.normal ([int IntKind.u64 (↑x : Int), int IntKind.u64 (↑y : Int)], [])) := by kernel_rfl
theorem QN {x y : Nat} : aI T [] [6] 60 [0, 1] [part (au mO) [1,0,0,0]] ⟨aB [0, 1] [.int .u64 x, .int .u64 y], [], 0⟩ =
  some (aa.fork ((↑y : Int) != (0 : Int)) (aa.ag [(↑y : Int) ≠ (0 : Int)] (aa.leaf ah.normal ([int IntKind.u64 (↑y : Int), int IntKind.u64 ((↑x : Int).tmod (↑y : Int))], []))) (aa.leaf (ah.exit 0) ([int IntKind.u64 (↑x : Int), int IntKind.u64 (↑y : Int)], []))) := by kernel_rfl
theorem OB {x y : Nat} : b9 T [] [] 60 mO (behind (au mO) [1,0]) ⟨aB [0, 1] [.int .u64 x, .int .u64 y], [], 0⟩ =
  some (aa.leaf ah.ret [int IntKind.u64 (↑x : Int)]) := by kernel_rfl
theorem Q8 {s n l x : Nat} {z : Nat → Nat} : aI T [] [11] 60 [0, 1, 4] (before (au nZ) [1,1,1]) ⟨aL 0 [.own 0 1 s n, .int .u64 x], [(0, ⟨true, true, 1, l, aj z⟩)], 1⟩ =
  some (aa.ag [(0 : Int) ≤ (0 : Int) ∧ Int.toNat (0 : Int) < n, Int.toNat (0 : Int) + s < l] (aa.ag [(0 : Int) ≤ (32 : Int)] (aa.fork ((↑x : Int).fdiv ((2 : Int) ^ min (Int.toNat (32 : Int)) IntKind.u64.bits) == (0 : Int)) (aa.leaf ah.ret ([own 0 1 s n, int IntKind.u64 (↑x : Int), int IntKind.i64 (1 : Int)], [((0 : Nat), ⟨true, true, 1, l, fun (j : Nat) ↦ if (j == Int.toNat (0 : Int) + s) = true then int IntKind.u32 (IntKind.u32.wrap (↑x : Int)) else aj z j⟩)])) (aa.leaf ah.normal ([own 0 1 s n, int IntKind.u64 (↑x : Int), int IntKind.i64 (0 : Int)], [((0 : Nat), ⟨true, true, 1, l, fun (j : Nat) ↦ if (j == Int.toNat (0 : Int) + s) = true then int IntKind.u32 (IntKind.u32.wrap (↑x : Int)) else aj z j⟩)]))))) := by kernel_rfl
theorem acR {s n l x : Nat} {z : Nat → Nat} : aI T [] [] 60 [0, 1, 4] [part (au nZ) [1,1,1]] ⟨aB [0, 1, 4] [.own 0 1 s n, .int .u64 x, .int .i64 0], [(0, ⟨true, true, 1, l, aj z⟩)], 1⟩ =
  some (aa.ag [(0 : Int) ≤ (32 : Int), (0 : Int) ≤ (1 : Int) ∧ Int.toNat (1 : Int) < n, Int.toNat (1 : Int) + s < l] (aa.leaf ah.ret ([own 0 1 s n, int IntKind.u64 (↑x : Int), int IntKind.i64 (2 : Int)], [((0 : Nat), ⟨true, true, 1, l, fun (j : Nat) ↦ if (j == Int.toNat (1 : Int) + s) = true then int IntKind.u32 (IntKind.u32.wrap ((↑x : Int).fdiv ((2 : Int) ^ min (Int.toNat (32 : Int)) IntKind.u64.bits))) else aj z j⟩)]))) := by kernel_rfl
theorem Rq {x y : Nat} (K : Nat) (pre : aD) : aA P xb K [.int .u64 x, .int .u64 y] pre (aG (.int .u64 (Nat.gcd x y : Nat)) []) := by
 refine gZ hT Tv rfl (of_decide_eq_true (by kernel_rfl)) rfl (fun _ c h0 => ?_) K pre
 have hk0 : ∀ {nx : Nat} k x, c.k0 k = some x → k < nx := iy h0
 refine aq.hole [1,0] (by kernel_rfl) (aC.aZ hT bk hm 60 [0, 1] aaP (by kernel_rfl) fun s' hv => bP ?_)
 refine aq.fo (i := 0) (y := part (au mO) [1,0,0,0]) (by kernel_rfl) [0, 1] 0 hk0 (fun p : Nat × Nat => [.int .u64 (p.1 : Nat), .int .u64 (p.2 : Nat)]) (fun _ => []) (fun _ => rfl) (fun _ => trivial)
  (fun p => Nat.gcd p.1 p.2 = Nat.gcd x y) (fun p => p.2) (x, y) hv rfl ?_
 rintro ⟨m, n⟩ hg
 simp only at hg
 refine aq.aZ hT bk hm 60 [0, 1] QN (by kernel_rfl) ?_
 simp only [aa.all, ay, bne_iff_ne, ne_eq, bne_eq_false_iff_eq]
 refine ⟨fun hb => ⟨hb, fun s' hv => ?_⟩, fun hb s' hv => dS (bP ?_)⟩
 ·have hlt := Nat.mod_lt m (show 0 < n by omega)
  refine ⟨(n, m % n), cN hv (by rw [← Int.ofNat_tmod]) rfl, ?_, hlt⟩
  rw [← hg, Nat.gcd_comm m n, Nat.gcd_rec n m, Nat.gcd_comm]
 ·refine aC.AA hT bk hm 60 (nx := 0) hv hk0 rfl trivial OB (by kernel_rfl) (by kernel_rfl) (bq ?_)
  have : n = 0 := by omega
  rw [← hg, this, Nat.gcd_zero_right]
def Fj : Spec := bw fun l => match l with
 | [.int .u64 x, .int .u64 y] => some (aG (.int .u64 (Nat.gcd x.toNat y.toNat : Nat)) [0 ≤ x, 0 ≤ y])
 | _ => none
theorem X8 : ∀ K args pre r, Fj K args pre = some r → aA P xb K args pre r := by
 refine bI fun K args r hk hs _ => ?_
 split at hs
 ·rename_i x y
  simp only [Option.some.injEq] at hs
  subst hs
  intro need
  obtain ⟨h1, h2⟩ : 0 ≤ x ∧ 0 ≤ y := need
  obtain ⟨a, rfl⟩ := Int.eq_ofNat_of_zero_le h1
  obtain ⟨b, rfl⟩ := Int.eq_ofNat_of_zero_le h2
  exact Rq K [] trivial
 ·simp at hs
def fy (z : Nat → Nat) (s x : Nat) : Nat → Nat := fun i => if i = s then x % 4294967296 else if i = s + 1 ∧ 4294967296 ≤ x then x / 4294967296 else z i
def bX (x : Nat) : Nat := if x < 4294967296 then 1 else 2
theorem abt {k s n l x : Nat} {z : Nat → Nat} {f : Nat → AV} (hx : x < 2 ^ 64) (h1 : bX x ≤ n) (hs : s + n ≤ l) (hf : ∀ i, i < l → f i = aj z i) (K : Nat) :
  aA P yd K [.own k 1 s n, .int .u64 x] [(k, ⟨true, true, 1, l, f⟩)] ⟨.int .i64 (bX x : Nat), [(k, ⟨true, true, 1, l, aj (fy z s x)⟩)], []⟩ := by
 refine l7 hT OU (args0 := [.own 0 1 s n, .int .u64 x]) (pre0 := [(0, ⟨true, true, 1, l, aj z⟩)]) (nx := 1) [(0, k)] (of_decide_eq_true (by kernel_rfl)) (by simp [gb]) ⟨⟨rfl, cF rfl rfl rfl⟩, ⟨rfl, aH rfl⟩, trivial⟩ ⟨⟨k, _, rfl, by simp [look], ee rfl hf⟩, trivial⟩
  (fun a x h => ?_) (fun x o h => ?_) (fun _ c h0 => ?_)
 ·simp only [aS, look] at h
  split at h
  ·simp only [Option.some.injEq] at h; subst h; exact ⟨_, by simp [look]; rfl⟩
  ·simp at h
 ·simp only [look] at h
  split at h
  ·rename_i he
   have : k = x := by simpa using he
   subst this
   exact .inl ⟨_, by simp [look]; rfl⟩
  ·simp at h
 have hk0 : ∀ k x, c.k0 k = some x → k < 1 := fun k x hk => by
  have := h0 k x hk
  simp only [aS, look] at this
  split at this
  ·rename_i h; simp at h; omega
  ·simp at this
 have key : ∀ {s' : aE} {v : Int} {w : Nat → Nat}, aV [0, 1, 4] s' = some ([.own 0 1 s n, .int .u64 x, .int .i64 v], [(0, ⟨true, true, 1, l, aj w⟩)]) → v = (bX x : Nat) → w = fy z s x →
   ∃ τ, qj [(0, k)] K [(k, ⟨true, true, 1, l, f⟩)] τ ∧ (AO T nZ τ [(k, ⟨true, true, 1, l, f⟩)] ⟨.int .i64 (bX x : Nat), [(k, ⟨true, true, 1, l, aj (fy z s x)⟩)], []⟩ s' ∨ xZ T nZ τ [(k, ⟨true, true, 1, l, f⟩)] ⟨.int .i64 (bX x : Nat), [(k, ⟨true, true, 1, l, aj (fy z s x)⟩)], []⟩ s') := by
  intro s' v w hv hv1 hw
  refine ⟨aS [(k, 0)], ru, .inr (qz (vs := [.own 0 1 s n, .int .u64 x, .int .i64 v]) (us := [.int .i64 v]) (ws := [.int .i64 (bX x : Nat)]) (os := [(0, ⟨true, true, 1, l, aj w⟩)]) (ps := [(k, ⟨true, true, 1, l, aj (fy z s x)⟩)]) hv (by kernel_rfl) ⟨⟨rfl, eH hv1⟩, trivial⟩ rfl (by simp [bV, dP, put]) ⟨⟨0, _, by simp [aS, look], rfl, ee rfl fun i hi => by rw [hw]⟩, trivial⟩)⟩
 have h12 : bX x = 1 ∨ bX x = 2 := by unfold bX; split <;> simp
 have hset1 : (fun j => if j = s then AV.int .u32 (IntKind.u32.wrap (x : Int)) else aj z j) = aj (bJ z s (x % 4294967296)) := by
  funext j; exact e9 (by rw [gU]) j
 refine aq.hole [1,1,1] (by kernel_rfl) (aC.aZ hT bk hm 60 [0, 1, 4] Q8 (by kernel_rfl) ?_)
 simp only [aa.all, ay, beq_iff_eq, beq_eq_false_iff_ne, ne_eq, jq, Int.toNat_zero, Nat.zero_add, hset1]
 refine ⟨⟨by omega, by omega⟩, by omega, fun hb s' hv => ?_, fun hb s' hv => bP ?_⟩
 ·have hlt : x < 4294967296 := by omega
  refine dY ⟨.inr rfl, key hv (by unfold bX; rw [if_pos hlt]; rfl) ?_⟩
  funext i
  unfold bJ fy
  by_cases h : i = s
  ·simp [h]
  ·simp [h]; omega
 ·have hge : 4294967296 ≤ x := by omega
  have h2 : bX x = 2 := by unfold bX; rw [if_neg (by omega)]
  refine aq.dQ hT bk hm 60 (nx := 1) hv hk0 rfl ⟨⟨by omega, fun _ _ => rfl⟩, trivial⟩ [0, 1, 4] acR (by kernel_rfl) ?_
  simp only [aa.all, ay, beq_iff_eq, beq_eq_false_iff_ne, ne_eq, jq, show Int.toNat 1 = 1 from rfl]
  refine ⟨⟨by omega, by omega, by omega⟩, fun s' hv => ?_⟩
  have hset2 : (fun j => if j = 1 + s then AV.int .u32 (IntKind.u32.wrap ((x : Int) / 4294967296)) else aj (bJ z s (x % 4294967296)) j) = aj (bJ (bJ z s (x % 4294967296)) (1 + s) (x / 4294967296)) := by
   funext j; exact e9 (by rw [wrap_u32 (by omega) (by omega)]; omega) j
  rw [hset2] at hv
  refine dY ⟨.inr rfl, key hv (by rw [h2]; rfl) ?_⟩
  funext i
  unfold bJ fy
  by_cases h : i = s
  ·simp [h]
  ·by_cases h' : i = 1 + s
   ·simp [h', hge, Nat.add_comm]
   ·simp [h, h']; omega
def BX : Spec := fun _ args pre => match args, pre with
 | [.own k es s n, .int .u64 x], [(k', o)] => if k == k' && es == 1 && o.row && o.wr && o.es == 1 then some ⟨.int .i64 (bX x.toNat : Nat), [(k, ⟨true, true, 1, o.len, aj (fy (fun i => numOf (o.f i)) s x.toNat)⟩)], [cV o.len o.f, 0 ≤ x ∧ x < 2 ^ 64, bX x.toNat ≤ n, s + n ≤ o.len]⟩ else none
 | _, _ => none
theorem ac0 : ∀ K args pre r, BX K args pre = some r → aA P yd K args pre r := by
 intro K args pre r hs
 unfold BX at hs
 split at hs
 ·rename_i k es s n x k' o
  split at hs
  ·rename_i hc
   simp only [Bool.and_eq_true, beq_iff_eq] at hc
   obtain ⟨⟨⟨⟨rfl, rfl⟩, h4⟩, h5⟩, h6⟩ := hc
   simp only [Option.some.injEq] at hs
   subst hs
   intro need
   obtain ⟨h1, ⟨h2, h2'⟩, h3, h7⟩ : cV o.len o.f ∧ (0 ≤ x ∧ x < 2 ^ 64) ∧ bX x.toNat ≤ n ∧ s + n ≤ o.len := need
   obtain ⟨row, wr, es, len, f⟩ := o
   simp only at h1 h4 h5 h6 h7
   subst h4 h5 h6
   obtain ⟨x, rfl⟩ := Int.eq_ofNat_of_zero_le h2
   refine abt (z := fun i => numOf (f i)) (by omega) h3 h7 (fun i hi => ?_) K trivial
   obtain ⟨z, g1, g2⟩ := h1 i hi
   simp [g2, numOf, aj]
  ·simp at hs
 ·simp at hs
def IA : Spec := bw fun l => match l with
 | [.int .u64 x, .int .u64 y, .int .u64 z] => some (aG (.tuple [.int .u64 ((x + y + z) % 18446744073709551616), .int .u64 ((x + y + z) / 18446744073709551616)]) [0 ≤ x, 0 ≤ y, 0 ≤ z ∧ z ≤ 1])
 | _ => none
theorem ZU : ∀ K args pre r, IA K args pre = some r → aA P B8 K args pre r := by
 refine bI fun K args r hk hs _ => ?_
 split at hs
 ·rename_i x y z
  simp only [Option.some.injEq] at hs
  subst hs
  intro need
  obtain ⟨h1, h2, h3, h4⟩ : 0 ≤ x ∧ 0 ≤ y ∧ 0 ≤ z ∧ z ≤ 1 := need
  refine ⟨fun k o h => by simp [look] at h, fun c D D' β w vs hw0 hMw hrel hD hK hv => .inr ?_⟩
  match vs, hv with
  | [a, b, d], hv =>
   obtain ⟨ha, hb, hd, _⟩ := hv
   have ha := (ha.bt).int
   have hb := (hb.bt).int
   have hd := (hd.bt).int
   subst ha hb hd
   refine ⟨.tuple #[.int .u64 ((x + y + z) % 18446744073709551616), .int .u64 ((x + y + z) / 18446744073709551616)], ?_, β, ?_, cj.refl _ _ _, [_, _], rfl, .bN (.int .nil) rfl, .bN (.int .nil) rfl, trivial⟩
   ·rw [run_callFunc_extern (e := add64Entry) M5 (by kernel_rfl) (by kernel_rfl) (by kernel_rfl) (by rfl)]
    rw [run_add64 x y z h1 h2 h3 h4]
    rfl
   ·exact hrel.kG hD
 ·simp at hs
end Go.Am.B
