/- rational.word, divisor, limbs; bits.Add64. -/
import Derived.Test.YtnocdkaonpdmjaaGreatB14
import Derived.Laws.Externs
set_option linter.unusedVariables false
namespace Go.Am.B
open Go Go.Am.N AV
theorem Rf : aO P uA mz (ax mz) := aP UW (by kernel_rfl) (by kernel_rfl) (by kernel_rfl)
theorem ZD {n : Nat} {z : Nat → Nat} : aI T [] [] 30 [0, 3, 4] (before (ax mz) [1,1,0,1]) ⟨aL 0 [.ak 1 n (ah z)], [], 0⟩ =
  some (aa.leaf aj.normal ([ak 1 n (ah z), int IntKind.u64 (0 : Int), int IntKind.i64 (IntKind.i64.wrap ((↑n : Int) - (1 : Int)))], [])) := by kernel_rfl
theorem PG {n k v : Nat} {z : Nat → Nat} : aI T [] [9] 30 [0, 3, 4] [part (ax mz) [1,1,0,1,0,0]] ⟨aC [0, 3, 4] [.ak 1 n (ah z), .int .u64 v, .int .i64 ((k : Int) - 1)], [], 0⟩ =
  some (aa.fork (decide ((↑k : Int) - (1 : Int) ≥ (0 : Int))) (aa.ag [(0 : Int) ≤ (32 : Int), (0 : Int) ≤ (↑k : Int) - (1 : Int) ∧ ((↑k : Int) - (1 : Int)).toNat < n] (aa.leaf aj.normal ([ak 1 n (ah z), int IntKind.u64 (IntKind.u64.wrap (↑(BitVec.ofInt IntKind.u64.bits (IntKind.u64.wrap ((↑v : Int) * (2 : Int) ^ min (Int.toNat (32 : Int)) IntKind.u64.bits)) ||| BitVec.ofInt IntKind.u64.bits (IntKind.u64.wrap (↑(z ((↑k : Int) - (1 : Int)).toNat) : Int))).toNat : Int)), int IntKind.i64 (IntKind.i64.wrap ((↑k : Int) - (1 : Int) - (1 : Int)))], []))) (aa.leaf (aj.exit 0) ([ak 1 n (ah z), int IntKind.u64 (↑v : Int), int IntKind.i64 ((↑k : Int) - (1 : Int))], []))) := by kernel_rfl
theorem Qg {n k v : Nat} {z : Nat → Nat} : cq T [] [] 30 mz (behind (ax mz) [1,1,0,1]) ⟨aC [0, 3, 4] [.ak 1 n (ah z), .int .u64 v, .int .i64 ((k : Int) - 1)], [], 0⟩ =
  some (aa.leaf aj.ret [int IntKind.u64 (↑v : Int)]) := by kernel_rfl
theorem RT {n : Nat} {z : Nat → Nat} (hz : ∀ i, i < n → z i < 2 ^ 32) (hn : n ≤ 2) (K : Nat) (pre : aD) : aA P uA K [.ak 1 n (ah z)] pre (aG (.int .u64 (val n z : Nat)) []) := by
 refine gQ hT Rf rfl (of_decide_eq_true (by kernel_rfl)) rfl (fun _ c h0 => ?_) K pre
 refine aq.hole [1,1,0,1] (by kernel_rfl) (aB.aX hT bn hm 30 [0, 3, 4] ZD (by kernel_rfl) ?_)
 intro s' hv
 have hv64 : val n z < 2 ^ 64 := by
  have h1 := eo hz
  have h2 : 2 ^ (32 * n) ≤ 2 ^ (32 * 2) := Nat.pow_le_pow_right (by omega) (by omega)
  omega
 refine aq.gp (i := 0) (y := part (ax mz) [1,1,0,1,0,0]) (by kernel_rfl)
  (fun p : Nat × Nat => ⟨aC [0, 3, 4] [.ak 1 n (ah z), .int .u64 (p.2 : Nat), .int .i64 ((p.1 : Nat) - 1 : Int)], [], 0⟩)
  (fun p => p.1 ≤ n ∧ p.2 * 2 ^ (32 * p.1) + val p.1 z = val n z) (fun p => p.1) (n, 0)
  (cC [] hv h0 rfl ⟨⟨rfl, aF rfl⟩, ⟨rfl, aF rfl⟩, ⟨rfl, eG (wrap_i64 (by omega) (by omega))⟩, trivial⟩ trivial) ⟨by simp, by simp⟩ ?_
 rintro ⟨k, v⟩ ⟨hk, hval⟩
 simp only at hk hval
 refine aq.aX hT bn hm 30 [0, 3, 4] PG (by kernel_rfl) ?_
 simp only [aa.all, ay, decide_eq_true_eq, decide_eq_false_iff_not]
 refine ⟨fun hb => ?_, fun hb s' hv => ?_⟩
 ·obtain ⟨j, rfl⟩ : ∃ j, k = j + 1 := ⟨k - 1, by omega⟩
  have e : (((j + 1 : Nat) : Int) - 1).toNat = j := by omega
  have hzj := hz j (by omega)
  have hv32 : v < 2 ^ 32 := by
   rcases Nat.lt_or_ge v (2 ^ 32) with h | h
   ·exact h
   ·have h1 : 2 ^ 32 * 2 ^ (32 * (j + 1)) ≤ v * 2 ^ (32 * (j + 1)) := Nat.mul_le_mul_right _ h
    have h2 : 2 ^ 32 ≤ 2 ^ (32 * (j + 1)) := Nat.pow_le_pow_right (by omega) (by omega)
    have h3 : 2 ^ 32 * 2 ^ 32 ≤ 2 ^ 32 * 2 ^ (32 * (j + 1)) := Nat.mul_le_mul_left _ h2
    omega
  rw [e]
  have hor : IntKind.u64.wrap ((BitVec.ofInt IntKind.u64.bits (IntKind.u64.wrap ((v : Int) * 2 ^ min (Int.toNat 32) IntKind.u64.bits)) ||| BitVec.ofInt IntKind.u64.bits (IntKind.u64.wrap (z j : Int))).toNat : Int) =
    ((v * 4294967296 + z j : Nat) : Int) := by
   rw [xp, wrap_u64 (x := (z j : Int)) (by omega) (by omega), wrap_u64 (x := (v : Int) * 4294967296) (by omega) (by omega)]
   rw [show (v : Int) * 4294967296 = ((v * 2 ^ 32 : Nat) : Int) by omega, pJ (by omega) (by omega), o6 hzj]
  refine ⟨⟨by omega, by omega, by omega⟩, fun s' hv => ⟨(j, v * 4294967296 + z j), cC [] hv h0 rfl ⟨⟨rfl, aF rfl⟩, ⟨rfl, eG hor⟩, ⟨rfl, eG (by rw [wrap_i64 (by omega) (by omega)]; simp only; omega)⟩, trivial⟩ trivial,
   ⟨by simp only; omega, EP hval⟩, by simp⟩⟩
 ·have hk0 : k = 0 := by omega
  subst hk0
  have hval : v = val n z := by simpa [val] using hval
  subst hval
  exact aB.weak (by kernel_rfl) (cC (vs := [.ak 1 n (ah z), .int .u64 (val n z : Nat), .int .i64 (((0 : Nat) : Int) - 1)]) (ps := []) (nx := 0) [] hv h0 rfl ⟨⟨rfl, aF rfl⟩, ⟨rfl, aF rfl⟩, ⟨rfl, aF rfl⟩, trivial⟩ trivial)
   (aB.fin hT bn hm 30 Qg (by kernel_rfl) (bA.refl _))
theorem Qd : ∀ K args pre r, bu (jr zR) K args pre = some r → aA P uA K args pre r :=
 bN (qu fun _ _ K hz need => RT hz need K [])
theorem WB : aO P vK ng (ax ng) := aP aaf (by kernel_rfl) (by kernel_rfl) (by kernel_rfl)
theorem R2 : aO P rI oB (ax oB) := aP Ug (by kernel_rfl) (by kernel_rfl) (by kernel_rfl)
theorem acq {x y : Nat} : aI T [] [] 60 [0, 1] (before (ax ng) [1,0]) ⟨aL 0 [.int .u64 x, .int .u64 y], [], 0⟩ =
  some (aa.leaf aj.normal ([int IntKind.u64 (↑x : Int), int IntKind.u64 (↑y : Int)], [])) := by kernel_rfl
theorem Ra {x y : Nat} : aI T [] [6] 60 [0, 1] [part (ax ng) [1,0,0,0]] ⟨aC [0, 1] [.int .u64 x, .int .u64 y], [], 0⟩ =
  some (aa.fork ((↑y : Int) != (0 : Int)) (aa.ag [(↑y : Int) ≠ (0 : Int)] (aa.leaf aj.normal ([int IntKind.u64 (↑y : Int), int IntKind.u64 ((↑x : Int).tmod (↑y : Int))], []))) (aa.leaf (aj.exit 0) ([int IntKind.u64 (↑x : Int), int IntKind.u64 (↑y : Int)], []))) := by kernel_rfl
theorem OO {x y : Nat} : cq T [] [] 60 ng (behind (ax ng) [1,0]) ⟨aC [0, 1] [.int .u64 x, .int .u64 y], [], 0⟩ =
  some (aa.leaf aj.ret [int IntKind.u64 (↑x : Int)]) := by kernel_rfl
theorem Uh {s n l x : Nat} {z : Nat → Nat} : aI T [] [11] 60 [0, 1, 4] (before (ax oB) [1,1,1]) ⟨aL 0 [.own 0 1 s n, .int .u64 x], [(0, ⟨true, true, 1, l, ah z⟩)], 1⟩ =
  some (aa.ag [(0 : Int) ≤ (0 : Int) ∧ Int.toNat (0 : Int) < n, Int.toNat (0 : Int) + s < l] (aa.ag [(0 : Int) ≤ (32 : Int)] (aa.fork ((↑x : Int).fdiv ((2 : Int) ^ min (Int.toNat (32 : Int)) IntKind.u64.bits) == (0 : Int)) (aa.leaf aj.ret ([own 0 1 s n, int IntKind.u64 (↑x : Int), int IntKind.i64 (1 : Int)], [((0 : Nat), ⟨true, true, 1, l, fun (j : Nat) ↦ if (j == Int.toNat (0 : Int) + s) = true then int IntKind.u32 (IntKind.u32.wrap (↑x : Int)) else ah z j⟩)])) (aa.leaf aj.normal ([own 0 1 s n, int IntKind.u64 (↑x : Int), int IntKind.i64 (0 : Int)], [((0 : Nat), ⟨true, true, 1, l, fun (j : Nat) ↦ if (j == Int.toNat (0 : Int) + s) = true then int IntKind.u32 (IntKind.u32.wrap (↑x : Int)) else ah z j⟩)]))))) := by kernel_rfl
theorem Ni {s n l x : Nat} {z : Nat → Nat} : aI T [] [] 60 [0, 1, 4] [part (ax oB) [1,1,1]] ⟨aC [0, 1, 4] [.own 0 1 s n, .int .u64 x, .int .i64 0], [(0, ⟨true, true, 1, l, ah z⟩)], 1⟩ =
  some (aa.ag [(0 : Int) ≤ (32 : Int), (0 : Int) ≤ (1 : Int) ∧ Int.toNat (1 : Int) < n, Int.toNat (1 : Int) + s < l] (aa.leaf aj.ret ([own 0 1 s n, int IntKind.u64 (↑x : Int), int IntKind.i64 (2 : Int)], [((0 : Nat), ⟨true, true, 1, l, fun (j : Nat) ↦ if (j == Int.toNat (1 : Int) + s) = true then int IntKind.u32 (IntKind.u32.wrap ((↑x : Int).fdiv ((2 : Int) ^ min (Int.toNat (32 : Int)) IntKind.u64.bits))) else ah z j⟩)]))) := by kernel_rfl
theorem MY {x y : Nat} (K : Nat) (pre : aD) : aA P vK K [.int .u64 x, .int .u64 y] pre (aG (.int .u64 (Nat.gcd x y : Nat)) []) := by
 refine gQ hT WB rfl (of_decide_eq_true (by kernel_rfl)) rfl (fun _ c h0 => ?_) K pre
 have hk0 : ∀ {nx : Nat} k x, c.k0 k = some x → k < nx := ir h0
 refine aq.hole [1,0] (by kernel_rfl) (aB.aX hT bn hm 60 [0, 1] acq (by kernel_rfl) fun s' hv => bP ?_)
 refine aq.fq (i := 0) (y := part (ax ng) [1,0,0,0]) (by kernel_rfl) [0, 1] 0 hk0 (fun p : Nat × Nat => [.int .u64 (p.1 : Nat), .int .u64 (p.2 : Nat)]) (fun _ => []) (fun _ => rfl) (fun _ => trivial)
  (fun p => Nat.gcd p.1 p.2 = Nat.gcd x y) (fun p => p.2) (x, y) hv rfl ?_
 rintro ⟨m, n⟩ hg
 simp only at hg
 refine aq.aX hT bn hm 60 [0, 1] Ra (by kernel_rfl) ?_
 simp only [aa.all, ay, bne_iff_ne, ne_eq, bne_eq_false_iff_eq]
 refine ⟨fun hb => ⟨hb, fun s' hv => ?_⟩, fun hb s' hv => dQ (bP ?_)⟩
 ·have hlt := Nat.mod_lt m (show 0 < n by omega)
  refine ⟨(n, m % n), cJ hv (by rw [← Int.ofNat_tmod]) rfl, ?_, hlt⟩
  rw [← hg, Nat.gcd_comm m n, Nat.gcd_rec n m, Nat.gcd_comm]
 ·refine aB.ze hT bn hm 60 (nx := 0) hv hk0 rfl trivial OO (by kernel_rfl) (by kernel_rfl) (bq ?_)
  have : n = 0 := by omega
  rw [← hg, this, Nat.gcd_zero_right]
def Jr : Spec := bu fun l => match l with
 | [.int .u64 x, .int .u64 y] => some (aG (.int .u64 (Nat.gcd x.toNat y.toNat : Nat)) [0 ≤ x, 0 ≤ y])
 | _ => none
theorem XG : ∀ K args pre r, Jr K args pre = some r → aA P vK K args pre r := by
 refine bN fun K args r hk hs _ => ?_
 split at hs
 ·rename_i x y
  simp only [Option.some.injEq] at hs
  subst hs
  intro need
  obtain ⟨h1, h2⟩ : 0 ≤ x ∧ 0 ≤ y := need
  obtain ⟨a, rfl⟩ := Int.eq_ofNat_of_zero_le h1
  obtain ⟨b, rfl⟩ := Int.eq_ofNat_of_zero_le h2
  exact MY K [] trivial
 ·simp at hs
def fE (z : Nat → Nat) (s x : Nat) : Nat → Nat := fun i => if i = s then x % 4294967296 else if i = s + 1 ∧ 4294967296 ≤ x then x / 4294967296 else z i
def bX (x : Nat) : Nat := if x < 4294967296 then 1 else 2
theorem Yd {k s n l x : Nat} {z : Nat → Nat} {f : Nat → AV} (hx : x < 2 ^ 64) (h1 : bX x ≤ n) (hs : s + n ≤ l) (hf : ∀ i, i < l → f i = ah z i) (K : Nat) :
  aA P rI K [.own k 1 s n, .int .u64 x] [(k, ⟨true, true, 1, l, f⟩)] ⟨.int .i64 (bX x : Nat), [(k, ⟨true, true, 1, l, ah (fE z s x)⟩)], []⟩ := by
 refine k7 hT R2 (args0 := [.own 0 1 s n, .int .u64 x]) (pre0 := [(0, ⟨true, true, 1, l, ah z⟩)]) (nx := 1) [(0, k)] (of_decide_eq_true (by kernel_rfl)) (by simp [gf]) ⟨⟨rfl, cF rfl rfl rfl⟩, ⟨rfl, aF rfl⟩, trivial⟩ ⟨⟨k, _, rfl, by simp [look], dZ rfl hf⟩, trivial⟩
  (fun a x h => ?_) (fun x o h => ?_) (fun _ c h0 => ?_)
 ·simp only [aS, look] at h
  split at h
  ·simp only [Option.some.injEq] at h; subst h; exact ⟨_, by simp [look]; rfl⟩
  ·simp at h
 ·simp only [look] at h
  split at h
  ·rename_i he
   have : k = x := by simpa using he
   subst this
   exact .inl ⟨_, by simp [look]; rfl⟩
  ·simp at h
 have hk0 : ∀ k x, c.k0 k = some x → k < 1 := fun k x hk => by
  have := h0 k x hk
  simp only [aS, look] at this
  split at this
  ·rename_i h; simp at h; omega
  ·simp at this
 have key : ∀ {s' : aE} {v : Int} {w : Nat → Nat}, aU [0, 1, 4] s' = some ([.own 0 1 s n, .int .u64 x, .int .i64 v], [(0, ⟨true, true, 1, l, ah w⟩)]) → v = (bX x : Nat) → w = fE z s x →
   ∃ τ, qT [(0, k)] K [(k, ⟨true, true, 1, l, f⟩)] τ ∧ (zm T oB τ [(k, ⟨true, true, 1, l, f⟩)] ⟨.int .i64 (bX x : Nat), [(k, ⟨true, true, 1, l, ah (fE z s x)⟩)], []⟩ s' ∨ xK T oB τ [(k, ⟨true, true, 1, l, f⟩)] ⟨.int .i64 (bX x : Nat), [(k, ⟨true, true, 1, l, ah (fE z s x)⟩)], []⟩ s') := by
  intro s' v w hv hv1 hw
  refine ⟨aS [(k, 0)], qW, .inr (ry (vs := [.own 0 1 s n, .int .u64 x, .int .i64 v]) (us := [.int .i64 v]) (ws := [.int .i64 (bX x : Nat)]) (os := [(0, ⟨true, true, 1, l, ah w⟩)]) (ps := [(k, ⟨true, true, 1, l, ah (fE z s x)⟩)]) hv (by kernel_rfl) ⟨⟨rfl, eG hv1⟩, trivial⟩ rfl (by simp [bW, dO, put]) ⟨⟨0, _, by simp [aS, look], rfl, dZ rfl fun i hi => by rw [hw]⟩, trivial⟩)⟩
 have h12 : bX x = 1 ∨ bX x = 2 := by unfold bX; split <;> simp
 have hset1 : (fun j => if j = s then AV.int .u32 (IntKind.u32.wrap (x : Int)) else ah z j) = ah (bJ z s (x % 4294967296)) := by
  funext j; exact fe (by rw [gZ]) j
 refine aq.hole [1,1,1] (by kernel_rfl) (aB.aX hT bn hm 60 [0, 1, 4] Uh (by kernel_rfl) ?_)
 simp only [aa.all, ay, beq_iff_eq, beq_eq_false_iff_ne, ne_eq, jo, Int.toNat_zero, Nat.zero_add, hset1]
 refine ⟨⟨by omega, by omega⟩, by omega, fun hb s' hv => ?_, fun hb s' hv => bP ?_⟩
 ·have hlt : x < 4294967296 := by omega
  refine dS ⟨.inr rfl, key hv (by unfold bX; rw [if_pos hlt]; rfl) ?_⟩
  funext i
  unfold bJ fE
  by_cases h : i = s
  ·simp [h]
  ·simp [h]; omega
 ·have hge : 4294967296 ≤ x := by omega
  have h2 : bX x = 2 := by unfold bX; rw [if_neg (by omega)]
  refine aq.dN hT bn hm 60 (nx := 1) hv hk0 rfl ⟨⟨by omega, fun _ _ => rfl⟩, trivial⟩ [0, 1, 4] Ni (by kernel_rfl) ?_
  simp only [aa.all, ay, beq_iff_eq, beq_eq_false_iff_ne, ne_eq, jo, show Int.toNat 1 = 1 from rfl]
  refine ⟨⟨by omega, by omega, by omega⟩, fun s' hv => ?_⟩
  have hset2 : (fun j => if j = 1 + s then AV.int .u32 (IntKind.u32.wrap ((x : Int) / 4294967296)) else ah (bJ z s (x % 4294967296)) j) = ah (bJ (bJ z s (x % 4294967296)) (1 + s) (x / 4294967296)) := by
   funext j; exact fe (by rw [wrap_u32 (by omega) (by omega)]; omega) j
  rw [hset2] at hv
  refine dS ⟨.inr rfl, key hv (by rw [h2]; rfl) ?_⟩
  funext i
  unfold bJ fE
  by_cases h : i = s
  ·simp [h]
  ·by_cases h' : i = 1 + s
   ·simp [h', hge, Nat.add_comm]
   ·simp [h, h']; omega
def Du : Spec := fun _ args pre => match args, pre with
 | [.own k es s n, .int .u64 x], [(k', o)] => if k == k' && es == 1 && o.row && o.wr && o.es == 1 then some ⟨.int .i64 (bX x.toNat : Nat), [(k, ⟨true, true, 1, o.len, ah (fE (fun i => numOf (o.f i)) s x.toNat)⟩)], [cO o.len o.f, 0 ≤ x ∧ x < 2 ^ 64, bX x.toNat ≤ n, s + n ≤ o.len]⟩ else none
 | _, _ => none
theorem Lr : ∀ K args pre r, Du K args pre = some r → aA P rI K args pre r := by
 intro K args pre r hs
 unfold Du at hs
 split at hs
 ·rename_i k es s n x k' o
  split at hs
  ·rename_i hc
   simp only [Bool.and_eq_true, beq_iff_eq] at hc
   obtain ⟨⟨⟨⟨rfl, rfl⟩, h4⟩, h5⟩, h6⟩ := hc
   simp only [Option.some.injEq] at hs
   subst hs
   intro need
   obtain ⟨h1, ⟨h2, h2'⟩, h3, h7⟩ : cO o.len o.f ∧ (0 ≤ x ∧ x < 2 ^ 64) ∧ bX x.toNat ≤ n ∧ s + n ≤ o.len := need
   obtain ⟨row, wr, es, len, f⟩ := o
   simp only at h1 h4 h5 h6 h7
   subst h4 h5 h6
   obtain ⟨x, rfl⟩ := Int.eq_ofNat_of_zero_le h2
   refine Yd (z := fun i => numOf (f i)) (by omega) h3 h7 (fun i hi => ?_) K trivial
   obtain ⟨z, g1, g2⟩ := h1 i hi
   simp [g2, numOf, ah]
  ·simp at hs
 ·simp at hs
def E5 : Spec := bu fun l => match l with
 | [.int .u64 x, .int .u64 y, .int .u64 z] => some (aG (.tuple [.int .u64 ((x + y + z) % 18446744073709551616), .int .u64 ((x + y + z) / 18446744073709551616)]) [0 ≤ x, 0 ≤ y, 0 ≤ z ∧ z ≤ 1])
 | _ => none
theorem Mj : ∀ K args pre r, E5 K args pre = some r → aA P AQ K args pre r := by
 refine bN fun K args r hk hs _ => ?_
 split at hs
 ·rename_i x y z
  simp only [Option.some.injEq] at hs
  subst hs
  intro need
  obtain ⟨h1, h2, h3, h4⟩ : 0 ≤ x ∧ 0 ≤ y ∧ 0 ≤ z ∧ z ≤ 1 := need
  refine ⟨fun k o h => by simp [look] at h, fun c D D' β w vs hw0 hMw hrel hD hK hv => .inr ?_⟩
  match vs, hv with
  | [a, b, d], hv =>
   obtain ⟨ha, hb, hd, _⟩ := hv
   have ha := (ha.bt).int
   have hb := (hb.bt).int
   have hd := (hd.bt).int
   subst ha hb hd
   refine ⟨.tuple #[.int .u64 ((x + y + z) % 18446744073709551616), .int .u64 ((x + y + z) / 18446744073709551616)], ?_, β, ?_, b9.refl _ _ _, [_, _], rfl, .bL (.int .nil) rfl, .bL (.int .nil) rfl, trivial⟩
   ·rw [run_callFunc_extern (e := add64Entry) Zq (by kernel_rfl) (by kernel_rfl) (by kernel_rfl) (by rfl)]
    rw [run_add64 x y z h1 h2 h3 h4]
    rfl
   ·exact hrel.kg hD
 ·simp at hs
end Go.Am.B
