/- ref01: up, shifted, times, down. -/
import Derived.Test.YtjhhblmbiaghfaaGreatB24
set_option linter.unusedVariables false
namespace Go.Am.B
open Go Go.Am.N AV
theorem TC : aO P tv kH (ax kH) := aP Zk (by kernel_rfl) (by kernel_rfl) (by kernel_rfl)
theorem NU : aO P uK vC (ax vC) := aP Ju (by kernel_rfl) (by kernel_rfl) (by kernel_rfl)
theorem OZ : aO P uj rJ (ax rJ) := aP Oq (by kernel_rfl) (by kernel_rfl) (by kernel_rfl)
theorem Wp : aO P tF j7 (ax j7) := aP O7 (by kernel_rfl) (by kernel_rfl) (by kernel_rfl)
abbrev mX : List Nat := [0, 1, 5, 6, 7]
abbrev zq (A n l c i K : Nat) : List AV := [.mag A, .int .i64 n, .own K 1 0 l, .int .u64 c, .int .i64 i]
noncomputable abbrev EC : Code := part (ax kH) [1,1,1,0,1,0,0]
def Im : aW := [(kQ, pC), (mA, qZ), (qe, B7)]
theorem Jx : br P Im := aJ tZ (aJ yN (aJ Fb aY))
theorem Q1 {A n : Nat} : aF T dw [] 60 mX (before (ax kH) [1,1,1,0,1]) ⟨aN 0 [.mag A, .int .i64 n], [], 0⟩ =
  some (af.ag [(32 : Int) ≠ (0 : Int), (0 : Int) ≤ IntKind.i64.wrap ((↑n : Int).tdiv (32 : Int)) ∧ IntKind.i64.wrap ((↑n : Int).tdiv (32 : Int)) ≤ IntKind.i64.wrap ((↑n : Int).tdiv (32 : Int)) ∧ IntKind.i64.wrap ((↑n : Int).tdiv (32 : Int)) ≤ (2 : Int) ^ 47 ∧ IntKind.i64.wrap ((↑n : Int).tdiv (32 : Int)) * (↑(4 : Nat) : Int) ≤ (2 : Int) ^ 47] (af.leaf ak.normal ([mag A, int IntKind.i64 (↑n : Int), own 12288 1 0 (IntKind.i64.wrap ((↑n : Int).tdiv (32 : Int))).toNat, int IntKind.u64 (0 : Int), int IntKind.i64 (0 : Int)], [((12288 : Nat), ⟨true, true, 1, (IntKind.i64.wrap ((↑n : Int).tdiv (32 : Int))).toNat, fun (x : Nat) ↦ int IntKind.u32 (0 : Int)⟩)]))) := by kernel_rfl
theorem So {A n l c i : Nat} {o : Nat → Nat} : aF T dw [14] 60 mX [EC] ⟨az mX (zq A n l c i 7), ck 7 l o, 8⟩ =
  some (af.fork (decide ((↑i : Int) < (↑(nl A) : Int))) (af.ag [(0 : Int) ≤ (↑i : Int) ∧ (↑i : Int).toNat < nl A, (32 : Int) ≠ (0 : Int), (0 : Int) ≤ (↑n : Int).tmod (32 : Int)] (af.ag [(1 : Nat) * 1 ≤ 2 ^ 24, (l + 1) * ((4 : Nat) + 1) * 2 ≤ 2 ^ 47] (af.ag [(0 : Int) ≤ (32 : Int)] (af.leaf ak.normal ([mag A, int IntKind.i64 (↑n : Int), own 77832 1 0 (l + 1), int IntKind.u64 ((IntKind.u64.wrap (↑(BitVec.ofInt IntKind.u64.bits (↑c : Int) ||| BitVec.ofInt IntKind.u64.bits (IntKind.u64.wrap (IntKind.u64.wrap (↑(au A (↑i : Int).toNat) : Int) * (2 : Int) ^ min ((↑n : Int).tmod (32 : Int)).toNat IntKind.u64.bits))).toNat : Int)).fdiv ((2 : Int) ^ min (Int.toNat (32 : Int)) IntKind.u64.bits)), int IntKind.i64 (IntKind.i64.wrap ((↑i : Int) + (1 : Int)))], [((77832 : Nat), ⟨true, true, 1, l + 1, fun (i_1 : Nat) ↦ if i_1 < l then aj o i_1 else nth [int IntKind.u32 (IntKind.u32.wrap (IntKind.u64.wrap (↑(BitVec.ofInt IntKind.u64.bits (↑c : Int) ||| BitVec.ofInt IntKind.u64.bits (IntKind.u64.wrap (IntKind.u64.wrap (↑(au A (↑i : Int).toNat) : Int) * (2 : Int) ^ min ((↑n : Int).tmod (32 : Int)).toNat IntKind.u64.bits))).toNat : Int)))] (int IntKind.u32 (0 : Int)) (i_1 - l + 0)⟩)]))))) (af.leaf (ak.exit 0) ([mag A, int IntKind.i64 (↑n : Int), own 7 1 0 l, int IntKind.u64 (↑c : Int), int IntKind.i64 (↑i : Int)], [((7 : Nat), ⟨true, true, 1, l, aj o⟩)]))) := by kernel_rfl
theorem Lk {A n l c i : Nat} {o : Nat → Nat} : b9 T dw [] 60 kH (behind (ax kH) [1,1,1,0,1]) ⟨az mX (zq A n l c i 7), ck 7 l o, 8⟩ =
  some (af.ag [(1 : Nat) * 1 ≤ 2 ^ 24, (l + 1) * ((4 : Nat) + 1) * 2 ≤ 2 ^ 47, cN (l + 1) fun (i : Nat) ↦ if i + 0 < l then aj o (i + 0) else nth [int IntKind.u32 (IntKind.u32.wrap (↑c : Int))] (int IntKind.u32 (0 : Int)) (i + 0 - l + 0), l + 1 < 2 ^ 40] (af.leaf ak.ret [mag (val (l + 1) fun (i : Nat) ↦ numOf (if i + 0 < l then aj o (i + 0) else nth [int IntKind.u32 (IntKind.u32.wrap (↑c : Int))] (int IntKind.u32 (0 : Int)) (i + 0 - l + 0)))])) := by kernel_rfl
theorem N3 {A n : Nat} : bF T dw [7] 60 vC (ax vC) ⟨aN 0 [.mag A, .int .i64 n], [], 0⟩ =
  some (af.fork ((↑(nl A) : Int) == (0 : Int)) (af.leaf ak.ret [nil]) (af.ag [(0 : Int) ≤ (↑n : Int) ∧ (↑n : Int) ≤ (↑n : Int) ∧ (↑n : Int) ≤ (2 : Int) ^ 47 ∧ (↑n : Int) * (↑(4 : Nat) : Int) ≤ (2 : Int) ^ 47, ((↑n : Int).toNat + nl A) * ((4 : Nat) + 1) * 2 ≤ 2 ^ 47] (af.leaf ak.ret [ah 1 ((↑n : Int).toNat + nl A) fun (i : Nat) ↦ if i + 0 < (↑n : Int).toNat then int IntKind.u32 (0 : Int) else int IntKind.u32 (↑(au A (i + 0 - (↑n : Int).toNat)) : Int)]))) := by kernel_rfl
theorem VX {A b : Nat} : bF T Im [] 60 rJ (ax rJ) ⟨aN 0 [.mag A, .int .u32 b], [], 0⟩ =
  some (af.ag [(0 : Int) ≤ IntKind.u64.wrap (↑b : Int) ∧ IntKind.u64.wrap (↑b : Int) < (2 : Int) ^ 64, nl A < 2 ^ 39, nl (IntKind.u64.wrap (↑b : Int)).toNat < 2 ^ 39] (af.leaf ak.ret [mag (A * (IntKind.u64.wrap (↑b : Int)).toNat)])) := by kernel_rfl
abbrev jX : List Nat := [0, 1, 5, 6]
abbrev tK (a : Nat → Nat) (l n i K : Nat) : List AV := [.ah 1 l (aj a), .int .i64 n, .own K 1 0 l, .int .i64 i]
noncomputable abbrev FT : Code := part (ax j7) [1,1,1,1,0,1,0,0]
theorem Vo {A n : Nat} : aF T dw [12] 60 (jX ++ [4]) (before (ax j7) [1,1,1,1,0,1]) ⟨aN 0 [.mag A, .int .i64 n], [], 0⟩ =
  some (af.ag [(32 : Int) ≠ (0 : Int)] (af.fork (decide (IntKind.i64.wrap ((↑n : Int).tdiv (32 : Int)) ≥ (↑(nl A) : Int))) (af.leaf ak.ret ([mag A, int IntKind.i64 (↑n : Int), tuple [], tuple [], nil], [])) (af.ag [(32 : Int) ≠ (0 : Int), (0 : Int) ≤ IntKind.i64.wrap ((↑n : Int).tdiv (32 : Int)) ∧ IntKind.i64.wrap ((↑n : Int).tdiv (32 : Int)) ≤ (↑(nl A) : Int) ∧ (↑(nl A) : Int) ≤ (↑(nl A) : Int) ∧ (↑(nl A) : Int) ≤ (↑(nl A) : Int)] (af.ag [(0 : Int) ≤ (↑((↑(nl A) : Int).toNat - (IntKind.i64.wrap ((↑n : Int).tdiv (32 : Int))).toNat) : Int) ∧ (↑((↑(nl A) : Int).toNat - (IntKind.i64.wrap ((↑n : Int).tdiv (32 : Int))).toNat) : Int) ≤ (↑((↑(nl A) : Int).toNat - (IntKind.i64.wrap ((↑n : Int).tdiv (32 : Int))).toNat) : Int) ∧ (↑((↑(nl A) : Int).toNat - (IntKind.i64.wrap ((↑n : Int).tdiv (32 : Int))).toNat) : Int) ≤ (2 : Int) ^ 47 ∧ (↑((↑(nl A) : Int).toNat - (IntKind.i64.wrap ((↑n : Int).tdiv (32 : Int))).toNat) : Int) * (↑(4 : Nat) : Int) ≤ (2 : Int) ^ 47] (af.leaf ak.normal ([ah 1 ((↑(nl A) : Int).toNat - (IntKind.i64.wrap ((↑n : Int).tdiv (32 : Int))).toNat) fun (i : Nat) ↦ int IntKind.u32 (↑(au A (i + (IntKind.i64.wrap ((↑n : Int).tdiv (32 : Int))).toNat)) : Int), int IntKind.i64 (↑n : Int), own 53248 1 0 (↑((↑(nl A) : Int).toNat - (IntKind.i64.wrap ((↑n : Int).tdiv (32 : Int))).toNat) : Int).toNat, int IntKind.i64 (0 : Int), nil], [((53248 : Nat), ⟨true, true, 1, (↑((↑(nl A) : Int).toNat - (IntKind.i64.wrap ((↑n : Int).tdiv (32 : Int))).toNat) : Int).toNat, fun (x : Nat) ↦ int IntKind.u32 (0 : Int)⟩)])))))) := by kernel_rfl
theorem QE {n l i : Nat} {a o : Nat → Nat} : aF T dw [23, 35] 60 jX [FT] ⟨az jX (tK a l n i 7), ck 7 l o, 8⟩ =
  some (af.fork (decide ((↑i : Int) < (↑l : Int))) (af.ag [(0 : Int) ≤ (↑i : Int) ∧ (↑i : Int).toNat < l] (af.fork (decide (IntKind.i64.wrap ((↑i : Int) + (1 : Int)) < (↑l : Int))) (af.ag [(0 : Int) ≤ IntKind.i64.wrap ((↑i : Int) + (1 : Int)) ∧ (IntKind.i64.wrap ((↑i : Int) + (1 : Int))).toNat < l, (0 : Int) ≤ (32 : Int)] (af.ag [(32 : Int) ≠ (0 : Int), (0 : Int) ≤ (↑n : Int).tmod (32 : Int), (0 : Int) ≤ (↑i : Int) ∧ (↑i : Int).toNat < l, (↑i : Int).toNat + 0 < l] (af.leaf ak.normal ([ah 1 l (aj a), int IntKind.i64 (↑n : Int), own 7 1 0 l, int IntKind.i64 (IntKind.i64.wrap ((↑i : Int) + (1 : Int)))], [((7 : Nat), ⟨true, true, 1, l, fun (j : Nat) ↦ if (j == (↑i : Int).toNat + 0) = true then int IntKind.u32 (IntKind.u32.wrap ((IntKind.u64.wrap (↑(BitVec.ofInt IntKind.u64.bits (IntKind.u64.wrap (↑(a (↑i : Int).toNat) : Int)) ||| BitVec.ofInt IntKind.u64.bits (IntKind.u64.wrap (IntKind.u64.wrap (↑(a (IntKind.i64.wrap ((↑i : Int) + (1 : Int))).toNat) : Int) * (2 : Int) ^ min (Int.toNat (32 : Int)) IntKind.u64.bits))).toNat : Int)).fdiv ((2 : Int) ^ min ((↑n : Int).tmod (32 : Int)).toNat IntKind.u64.bits))) else aj o j⟩)])))) (af.ag [(32 : Int) ≠ (0 : Int), (0 : Int) ≤ (↑n : Int).tmod (32 : Int), (0 : Int) ≤ (↑i : Int) ∧ (↑i : Int).toNat < l, (↑i : Int).toNat + 0 < l] (af.leaf ak.normal ([ah 1 l (aj a), int IntKind.i64 (↑n : Int), own 7 1 0 l, int IntKind.i64 (IntKind.i64.wrap ((↑i : Int) + (1 : Int)))], [((7 : Nat), ⟨true, true, 1, l, fun (j : Nat) ↦ if (j == (↑i : Int).toNat + 0) = true then int IntKind.u32 (IntKind.u32.wrap ((IntKind.u64.wrap (↑(a (↑i : Int).toNat) : Int)).fdiv ((2 : Int) ^ min ((↑n : Int).tmod (32 : Int)).toNat IntKind.u64.bits))) else aj o j⟩)]))))) (af.leaf (ak.exit 0) ([ah 1 l (aj a), int IntKind.i64 (↑n : Int), own 7 1 0 l, int IntKind.i64 (↑i : Int)], [((7 : Nat), ⟨true, true, 1, l, aj o⟩)]))) := by kernel_rfl
theorem Xf {n l i : Nat} {a o : Nat → Nat} : b9 T dw [] 60 j7 (behind (ax j7) [1,1,1,1,0,1]) ⟨az jX (tK a l n i 7), ck 7 l o, 8⟩ =
  some (af.ag [cN l fun (i : Nat) ↦ aj o (i + 0), l < 2 ^ 40] (af.leaf ak.ret [mag (val l fun (i : Nat) ↦ numOf (aj o (i + 0)))])) := by kernel_rfl
theorem xP {c : Ctx} (h0 : ∀ nx k x, c.k0 k = some x → k < nx) : c.k0 = aR := by
 funext k
 cases hk : c.k0 k with
 | none => rfl
 | some x => have := h0 0 k x hk; omega
theorem ET {o : Nat → Nat} {l : Nat} {v : Int} {x : Nat} (hv : v = (x : Nat)) {j : Nat} (hj : j < l + 1) : (if j < l then aj o j else nth [.int .u32 v] (.int .u32 0) (j - l)) = aj (bI o l x) j := by
 by_cases h : j < l
 ·rw [if_pos h]; unfold aj; rw [dY (by omega)]
 ·have : j = l := by omega
  subst this
  rw [if_neg h, hv]
  simp [nth, aj, gQ]
theorem M8 {A n : Nat} (hA : nl A < 2 ^ 39) (hn : n < 2 ^ 43) (K : Nat) : aC P tv K [.mag A, .int .i64 n] [] (aK (.mag (A * 2 ^ n)) []) := by
 refine eW hT TC rfl (of_decide_eq_true (by kernel_rfl)) rfl (fun _ c0 h0 => ?_) K []
 have hk0 := xP h0
 refine aq.hole [1,1,1,0,1] (by kernel_rfl) (aA.aS hT dx hm 60 mX Q1 (by kernel_rfl) ?_)
 have hw : IntKind.i64.wrap ((n : Int).tdiv 32) = ((n / 32 : Nat) : Int) := by
  rw [show (n : Int).tdiv 32 = ((n / 32 : Nat) : Int) from (Int.ofNat_tdiv n 32).symm]
  exact dh rfl (by omega)
 have hmd : (n : Int).tmod 32 = ((n % 32 : Nat) : Int) := (Int.ofNat_tmod n 32).symm
 rw [hw]
 obtain ⟨k, hk⟩ : ∃ k, k = n / 32 := ⟨_, rfl⟩
 obtain ⟨s, hs⟩ : ∃ s, s = n % 32 := ⟨_, rfl⟩
 rw [← hs] at hmd
 rw [← hk]
 simp only [af.all, ay, Int.toNat_natCast]
 refine ⟨by omega, fun s' hv => bL ?_⟩
 refine aq.fz (i := 0) (y := EC) (by kernel_rfl) (fun p : Nat × Nat × (Nat → Nat) => ⟨az mX (zq A n (k + p.1) p.2.1 p.1 7), ck 7 (k + p.1) p.2.2, 8⟩)
  (fun p => p.1 ≤ nl A ∧ p.2.1 < 2 ^ s ∧ (∀ j, j < k + p.1 → p.2.2 j < 2 ^ 32) ∧ val (k + p.1) p.2.2 + p.2.1 * 2 ^ (32 * (k + p.1)) = val p.1 (au A) * 2 ^ (32 * k) * 2 ^ s)
  (fun p => nl A - p.1) (0, 0, fun _ => 0)
  (cz [(7, 12288)] hv hk0 rfl ⟨⟨rfl, aG rfl⟩, ⟨rfl, aG rfl⟩, ⟨rfl, cH rfl rfl rfl⟩, ⟨rfl, aG rfl⟩, ⟨rfl, aG rfl⟩, trivial⟩ ⟨⟨_, _, rfl, rfl, dU rfl fun j _ => rfl⟩, trivial⟩)
  ⟨by simp, Nat.two_pow_pos s, fun _ _ => by simp, ?_⟩ ?_
 ·simp only
  rw [val_zero fun _ _ => rfl]
  simp [val]
 rintro ⟨i, c, o⟩ ⟨hi, hc, ho, hval⟩
 simp only at hi hc ho hval
 have hs32 : s < 32 := by omega
 have h31 : 2 ^ s ≤ 2 ^ 31 := Nat.pow_le_pow_right (by omega) (by omega)
 have hzi := cE (N := A) (i := i)
 refine aq.aS hT dx hm 60 mX So (by kernel_rfl) ?_
 rw [hmd]
 have hor := CY hs32 hzi hc
 obtain ⟨b1, b2⟩ := EB hs32 hzi hc
 simp only [af.all, ay, decide_eq_true_eq, decide_eq_false_iff_not, Int.toNat_natCast, Nat.add_zero] at hor ⊢
 rw [hor]
 refine ⟨fun hb => ⟨⟨by omega, by omega, by omega⟩, ⟨by omega, by omega⟩, by omega, fun s' hv => ⟨(i + 1, (c + au A i * 2 ^ s) / 4294967296, bI o (k + i) ((c + au A i * 2 ^ s) % 4294967296)), ?_, ⟨by simp only; omega, b2, fun j hj => ?_, ?_⟩, by simp only; omega⟩⟩, fun hb s' hv => dI ?_⟩
 ·refine cz (vs := zq A n (k + (i + 1)) ((c + au A i * 2 ^ s) / 4294967296) (i + 1) 7) (ps := ck 7 (k + (i + 1)) (bI o (k + i) ((c + au A i * 2 ^ s) % 4294967296))) [(7, 77832)] hv hk0 rfl ⟨⟨rfl, aG rfl⟩, ⟨rfl, aG rfl⟩, ⟨rfl, cH rfl rfl rfl⟩, ⟨rfl, eB ?_⟩, ⟨rfl, eB ?_⟩, trivial⟩
   ⟨⟨_, _, rfl, rfl, dU rfl fun j hj => ET (by rw [gC]) (by omega)⟩, trivial⟩
  ·rw [iY]; omega
  ·rw [wrap_i64 (by omega) (by omega)]; omega
 ·simp only at hj ⊢
  unfold bI
  split
  ·omega
  ·exact ho j (by omega)
 ·simp only
  have := Iu (x := au A i) hval
  rw [show k + (i + 1) = (k + i) + 1 by omega, nL, fq, this, val]
  congr 1
  rw [Nat.add_mul, Nat.mul_assoc, ← Nat.pow_add, show 32 * i + 32 * k = 32 * (k + i) by omega]
 ·have hin : i = nl A := by omega
  show aA P c0 kH.ntmps (behind (ax kH) [1,1,1,0,1]) s' _
  refine aA.gY hT dx hm 60 hv (h0 _) rfl (e9 (by omega)) Lk (by kernel_rfl) (by kernel_rfl) ?_
  simp only [af.all, ay, Nat.add_zero]
  have ho' : ∀ j, j < k + i + 1 → bI o (k + i) c j < 2 ^ 32 := fun j hj => by
   unfold bI
   split
   ·omega
   ·exact ho j (by omega)
  have e : ∀ j, j < k + i + 1 → (if j < k + i then aj o j else nth [.int .u32 (IntKind.u32.wrap (c : Int))] (.int .u32 0) (j - (k + i))) = aj (bI o (k + i) c) j := fun j hj => ET (wrap_u32 (by omega) (by omega)) hj
  refine ⟨⟨by omega, by omega, fun j hj => ?_, by omega⟩, cV (congrArg AV.mag ?_)⟩
  ·exact ⟨_, ho' j hj, e j hj⟩
  ·rw [val_congr (y := bI o (k + i) c) fun j hj => (congrArg numOf (e j hj)).trans Bs, nL, hval, hin, ew, Nat.mul_assoc, ← Nat.pow_add]
   congr 2
   omega
def Da : Spec := bu fun l => match l with
 | [a, .int .i64 n] => match gh a with
  | some A => some (aK (.mag (A * 2 ^ n.toNat)) [nl A < 2 ^ 39, 0 ≤ n, n < 2 ^ 43])
  | none => none
 | _ => none
theorem A6 {f : FuncId} {g : Nat → Int → AV} {l : Nat → List Prop} {m : Int} (h : ∀ {A n : Nat}, ay (l A) → (n : Int) < m → ∀ K, aC P f K [.mag A, .int .i64 n] [] (aK (g A n) [])) : ∀ K args pre r, bu (fun a => match a with
 | [a, .int .i64 n] => match gh a with
  | some A => some (aK (g A n) (l A ++ [0 ≤ n, n < m]))
  | none => none
 | _ => none) K args pre = some r → aC P f K args pre r := by
 refine bQ fun K args r hk hs _ => ?_
 split at hs
 ·split at hs
  ·rename_i A hA
   simp only [Option.some.injEq] at hs
   subst hs
   intro need
   obtain ⟨h1, h2, h3⟩ := ep.1 need
   rename_i n _
   obtain ⟨n, rfl⟩ := Int.eq_ofNat_of_zero_le h2
   exact fm (h h1 h3 K) hk ⟨iZ hA, .refl _, trivial⟩ [] trivial
  ·simp at hs
 ·simp at hs
theorem Tn : ∀ K args pre r, Da K args pre = some r → aC P tv K args pre r :=
 A6 (g := fun A n => .mag (A * 2 ^ n.toNat)) (l := fun A => [nl A < 2 ^ 39]) (m := 2 ^ 43) fun {A n} h hn K => by
  have := M8 (A := A) (n := n) h (by omega) K
  simpa using this
theorem WQ {A n : Nat} (hA : nl A < 2 ^ 40) (hn : n < 2 ^ 40) (K : Nat) : aC P uK K [.mag A, .int .i64 n] [] (aK (.mag (A * 2 ^ (32 * n))) []) := by
 refine bH hT dx hm NU rfl (of_decide_eq_true (by kernel_rfl)) rfl 60 N3 (fun _ => ?_) K []
 simp only [af.all, ay, beq_iff_eq, beq_eq_false_iff_ne, ne_eq, Int.toNat_natCast, Nat.add_zero]
 refine ⟨fun hb => ?_, fun hb => ⟨⟨by omega, by omega⟩, ?_⟩⟩
 ·have : A = 0 := gP.1 (by omega)
  subst this
  rw [Nat.zero_mul]; exact iB
 ·have hA0 : A ≠ 0 := fun h => hb (by rw [h]; rfl)
  have hlt : A * 2 ^ (32 * n) < 2 ^ (32 * (n + nl A)) := by
   rw [show 32 * (n + nl A) = 32 * nl A + 32 * n by omega, Nat.pow_add]
   exact (Nat.mul_lt_mul_right (Nat.two_pow_pos _)).2 jT
  have hval : A * 2 ^ (32 * n) = val (n + nl A) (fun i => if i < n then 0 else au A (i - n)) := by
   rw [val_add, val_zero fun i hi => if_pos hi, Nat.zero_add]
   congr 1
   have := ew (N := A)
   conv => lhs; rw [← this]
   exact val_congr fun i hi => by rw [if_neg (by omega)]; congr 1; omega
  have hz : ∀ i, i < n + nl A → (if i < n then 0 else au A (i - n)) < 2 ^ 32 := fun i _ => by
   split
   ·omega
   ·exact cE
  refine iM ?_ fun i hi => ?_
  ·rw [hval]
   refine yz hz (.inr ?_)
   have hp := eH.2 hA0
   rw [if_neg (by omega), show n + nl A - 1 - n = nl A - 1 by omega]
   exact Ac hA0
  ·rw [hval, lV hz hi]
   split <;> rfl
def EV : Spec := bu fun l => match l with
 | [a, .int .i64 n] => match gh a with
  | some A => some (aK (.mag (A * 2 ^ (32 * n.toNat))) [nl A < 2 ^ 40, 0 ≤ n, n < 2 ^ 40])
  | none => none
 | _ => none
theorem V8 : ∀ K args pre r, EV K args pre = some r → aC P uK K args pre r :=
 A6 (g := fun A n => .mag (A * 2 ^ (32 * n.toNat))) (l := fun A => [nl A < 2 ^ 40]) (m := 2 ^ 40) fun {A n} h hn K => by
  have := WQ (A := A) (n := n) h (by omega) K
  simpa using this
theorem Ya {A b : Nat} (hA : nl A < 2 ^ 39) (hb : b < 2 ^ 32) (K : Nat) : aC P uj K [.mag A, .int .u32 b] [] (aK (.mag (A * b)) []) := by
 refine bH hT Jx hm OZ rfl (of_decide_eq_true (by kernel_rfl)) rfl 60 VX (fun _ => ?_) K []
 have e : IntKind.u64.wrap (b : Int) = (b : Int) := bA (by omega) (by omega)
 rw [e]
 simp only [af.all, ay, Int.toNat_natCast]
 have : nl b ≤ 1 := cw.2 (by omega)
 exact ⟨⟨by omega, hA, by omega⟩, .refl _⟩
def E1 : Spec := bu fun l => match l with
 | [a, .int .u32 b] => match gh a with
  | some A => some (aK (.mag (A * b.toNat)) [nl A < 2 ^ 39, 0 ≤ b, b < 2 ^ 32])
  | none => none
 | _ => none
theorem Lu : ∀ K args pre r, E1 K args pre = some r → aC P uj K args pre r := by
 refine bQ fun K args r hk hs _ => ?_
 split at hs
 ·rename_i a b
  split at hs
  ·rename_i A hA
   simp only [Option.some.injEq] at hs
   subst hs
   intro need
   obtain ⟨h1, h2, h3⟩ : nl A < 2 ^ 39 ∧ 0 ≤ b ∧ b < 2 ^ 32 := need
   obtain ⟨b, rfl⟩ := Int.eq_ofNat_of_zero_le h2
   exact fm (Ya h1 (by omega) K) hk ⟨iZ hA, .refl _, trivial⟩ [] trivial
  ·simp at hs
 ·simp at hs
theorem QO {A k i : Nat} : au A (i + k) = au (A / 2 ^ (32 * k)) i := by
 unfold au
 rw [Nat.div_div_eq_div_mul, ← Nat.pow_add]
 congr 3
 omega
theorem Zg {a b s : Nat} (ha : a < 2 ^ 32) (hb : b < 2 ^ 32) (hs : s < 32) : (b * 4294967296 + a) / 2 ^ s % 4294967296 = a / 2 ^ s + b % 2 ^ s * 2 ^ (32 - s) := by
 have := sH (R := b * 4294967296 + a) (k := 0) hs
 have l0 : au (b * 4294967296 + a) 0 = a := by unfold au; simp; omega
 have l1 : au (b * 4294967296 + a) (0 + 1) = b := by unfold au; simp; omega
 rw [l0, l1] at this
 rw [← this]
 unfold au
 simp
theorem Wj {A n : Nat} (hA : nl A < 2 ^ 40) (hn : n < 2 ^ 62) (K : Nat) : aC P tF K [.mag A, .int .i64 n] [] (aK (.mag (A / 2 ^ n)) []) := by
 refine eW hT Wp rfl (of_decide_eq_true (by kernel_rfl)) rfl (fun _ c0 h0 => ?_) K []
 have hk0 := xP h0
 refine aq.hole [1,1,1,1,0,1] (by kernel_rfl) (aA.aS hT dx hm 60 (jX ++ [4]) Vo (by kernel_rfl) ?_)
 have hw : IntKind.i64.wrap ((n : Int).tdiv 32) = ((n / 32 : Nat) : Int) := by
  rw [show (n : Int).tdiv 32 = ((n / 32 : Nat) : Int) from (Int.ofNat_tdiv n 32).symm]
  exact dh rfl (by omega)
 have hmd : (n : Int).tmod 32 = ((n % 32 : Nat) : Int) := (Int.ofNat_tmod n 32).symm
 rw [hw]
 obtain ⟨k, hk⟩ : ∃ k, k = n / 32 := ⟨_, rfl⟩
 obtain ⟨s, hs⟩ : ∃ s, s = n % 32 := ⟨_, rfl⟩
 rw [← hs] at hmd
 rw [← hk]
 have hnk : 2 ^ n = 2 ^ (32 * k) * 2 ^ s := by rw [← Nat.pow_add]; congr 1; omega
 simp only [af.all, ay, decide_eq_true_eq, decide_eq_false_iff_not, Int.toNat_natCast]
 refine ⟨by omega, fun hb s' hv => dJ (.inl ?_), fun hb => ⟨⟨by omega, by omega⟩, by omega, fun s' hv => bL ?_⟩⟩
 ·refine eL (us := [.nil]) (.inr rfl) hv (by kernel_rfl) ?_
  have : A / 2 ^ n = 0 := by
   rw [hnk, ← Nat.div_div_eq_div_mul, Nat.div_eq_of_lt (cw.1 (show nl A ≤ k by omega)), Nat.zero_div]
  rw [this]; exact iB
 have hkA : k < nl A := by omega
 have hv := gf (ls := jX) (l := [4]) (vs := [.ah 1 (nl A - k) fun i => .int .u32 (au A (i + k) : Nat), .int .i64 n, .own 53248 1 0 (nl A - k), .int .i64 0]) hv rfl rfl
 obtain ⟨R, hR⟩ : ∃ R, R = A / 2 ^ (32 * k) := ⟨_, rfl⟩
 obtain ⟨l, hl⟩ : ∃ l, l = nl A - k := ⟨_, rfl⟩
 have hRl : R < 2 ^ (32 * l) := by
  rw [hR, Nat.div_lt_iff_lt_mul (Nat.two_pow_pos _), ← Nat.pow_add, ← Nat.mul_add]
  exact cw.1 (show nl A ≤ l + k by omega)
 have hfun : (fun i => AV.int .u32 (au A (i + k) : Nat)) = aj (au R) := by
  funext i; unfold aj; rw [QO, hR]
 rw [hfun, ← hl] at hv
 refine aq.fz (i := 0) (y := FT) (by kernel_rfl) (fun p : Nat × (Nat → Nat) => ⟨az jX (tK (au R) l n p.1 7), ck 7 l p.2, 8⟩)
  (fun p => p.1 ≤ l ∧ ∀ j, j < p.1 → p.2 j = au (R / 2 ^ s) j)
  (fun p => l - p.1) (0, fun _ => 0)
  (cz [(7, 53248)] hv hk0 rfl ⟨⟨rfl, aG rfl⟩, ⟨rfl, aG rfl⟩, ⟨rfl, cH rfl rfl rfl⟩, ⟨rfl, aG rfl⟩, trivial⟩ ⟨⟨_, _, rfl, rfl, dU rfl fun j _ => rfl⟩, trivial⟩)
  ⟨by simp, fun j hj => by simp only at hj; omega⟩ ?_
 rintro ⟨i, o⟩ ⟨hi, ho⟩
 simp only at hi ho
 have hs32 : s < 32 := by omega
 have ha := cE (N := R) (i := i)
 have hb' := cE (N := R) (i := i + 1)
 refine aq.aS hT dx hm 60 jX QE (by kernel_rfl) ?_
 have w1 : IntKind.i64.wrap ((i : Int) + 1) = if i < l then ((i + 1 : Nat) : Int) else IntKind.i64.wrap ((i : Int) + 1) := by
  split
  ·exact dh (by omega) (by omega)
  ·rfl
 simp only [af.all, ay, decide_eq_true_eq, decide_eq_false_iff_not, Int.toNat_natCast, Nat.add_zero, beq_iff_eq]
 have next : ∀ {s' : aE} {v : Int}, i < l → v = ((au (R / 2 ^ s) i : Nat) : Int) → aQ jX s' = some (tK (au R) l n (i + 1) 7, [(7, ⟨true, true, 1, l, fun j => if j = i then .int .u32 v else aj o j⟩)]) →
   ∃ p : Nat × (Nat → Nat), (∃ ρ, Le c0 ρ s' ⟨az jX (tK (au R) l n p.1 7), ck 7 l p.2, 8⟩) ∧ (p.1 ≤ l ∧ ∀ j, j < p.1 → p.2 j = au (R / 2 ^ s) j) ∧ l - p.1 < l - i := by
  intro s' v hil hv1 hv
  refine ⟨(i + 1, bI o i (au (R / 2 ^ s) i)), kJ (cG hv rfl ?_) (h0 _) rfl (e9 (by omega)), ⟨by simp only; omega, fun j hj => ?_⟩, by simp only; omega⟩
  ·simp only [ck]
   congr 3
   funext j
   exact eZ hv1 j
  ·simp only at hj ⊢
   unfold bI
   split
   ·rename_i h; rw [h]
   ·exact ho j (by omega)
 refine ⟨fun hb => ?_, fun hb s' hv => dI ?_⟩
 ·have hil : i < l := by omega
  rw [if_pos hil] at w1
  rw [w1, hmd]
  have hf : ∀ x : Nat, (x : Int).fdiv (2 ^ min ((s : Int).toNat) IntKind.u64.bits) = ((x / 2 ^ s : Nat) : Int) := fun x => by
   have : min ((s : Int).toNat) IntKind.u64.bits = s := by
    have : IntKind.u64.bits = 64 := rfl
    omega
   rw [this, Int.fdiv_eq_ediv_of_nonneg _ (by exact Int.le_of_lt (Int.pow_pos (by decide)))]
   simp
  have wa : IntKind.u64.wrap (au R i : Int) = ((au R i : Nat) : Int) := bA (by omega) (by omega)
  have hor : IntKind.u64.wrap ((BitVec.ofInt IntKind.u64.bits (IntKind.u64.wrap (au R i : Int)) ||| BitVec.ofInt IntKind.u64.bits (IntKind.u64.wrap (IntKind.u64.wrap (au R (i + 1) : Int) * 2 ^ min (Int.toNat 32) IntKind.u64.bits))).toNat : Int) = ((au R (i + 1) * 4294967296 + au R i : Nat) : Int) := by
   rw [BitVec.or_comm, bA (x := (au R (i + 1) : Int)) (by omega) (by omega)]
   exact qL hb' ha
  simp only [Int.toNat_natCast]
  refine ⟨by omega, fun h1 => ⟨⟨by omega, by omega⟩, ⟨by omega, by omega, by omega, by omega⟩, fun s' hv => next hil ?_ hv⟩, fun h1 => ⟨⟨by omega, by omega, by omega, by omega⟩, fun s' hv => next hil ?_ hv⟩⟩
  ·rw [hor]
   have := hf (au R (i + 1) * 4294967296 + au R i)
   simp only [Int.toNat_natCast] at this
   rw [this, gC, Zg ha hb' hs32, sH hs32]
  ·rw [wa]
   have := hf (au R i)
   simp only [Int.toNat_natCast] at this
   have hd := Nat.div_le_self (au R i) (2 ^ s)
   rw [this, gC, sH hs32, gq (A := R) (i := i + 1) (cw.2 (Nat.lt_of_lt_of_le hRl (Nat.pow_le_pow_right (by omega) (by omega)))), Nat.zero_mod, Nat.zero_mul, Nat.add_zero, Nat.mod_eq_of_lt (by omega)]
 ·have hil : i = l := by omega
  show aA P c0 j7.ntmps (behind (ax j7) [1,1,1,1,0,1]) s' _
  refine aA.gY hT dx hm 60 hv (h0 _) rfl (e9 (by omega)) Xf (by kernel_rfl) (by kernel_rfl) ?_
  simp only [af.all, ay, Nat.add_zero, gI]
  refine ⟨⟨eG fun j hj => ?_, by omega⟩, cV (congrArg AV.mag ?_)⟩
  ·rw [ho j (by omega)]; exact cE
  ·rw [val_congr (y := au (R / 2 ^ s)) fun j hj => ho j (by omega), lY (Nat.lt_of_le_of_lt (Nat.div_le_self _ _) hRl), hR, hnk, Nat.div_div_eq_div_mul]
def Ff : Spec := bu fun l => match l with
 | [a, .int .i64 n] => match gh a with
  | some A => some (aK (.mag (A / 2 ^ n.toNat)) [nl A < 2 ^ 40, 0 ≤ n, n < 2 ^ 62])
  | none => none
 | _ => none
theorem YC : ∀ K args pre r, Ff K args pre = some r → aC P tF K args pre r :=
 A6 (g := fun A n => .mag (A / 2 ^ n.toNat)) (l := fun A => [nl A < 2 ^ 40]) (m := 2 ^ 62) fun {A n} h hn K => by
  have := Wj (A := A) (n := n) h (by omega) K
  simpa using this
end Go.Am.B
