/- ref01: up, shifted, times, down. -/
import Derived.Test.YtjhhblmbiaghfaaB24
set_option linter.unusedVariables false
namespace Go.Am.B
open Go Go.Am.N AV
theorem Jk : aO P qL jE (ax jE) := aS TV (by kernel_rfl) (by kernel_rfl) (by kernel_rfl)
theorem Qs : aO P sZ qe (ax qe) := aS RG (by kernel_rfl) (by kernel_rfl) (by kernel_rfl)
theorem K6 : aO P qW pq (ax pq) := aS Mn (by kernel_rfl) (by kernel_rfl) (by kernel_rfl)
theorem S2 : aO P qC jG (ax jG) := aS Oq (by kernel_rfl) (by kernel_rfl) (by kernel_rfl)
abbrev mE : List Nat := [0, 1, 5, 6, 7]
abbrev uL (A n l c i K : Nat) : List AV := [.mag A, .int .i64 n, .own K 1 0 l, .int .u64 c, .int .i64 i]
noncomputable abbrev En : Code := part (ax jE) [1,1,1,0,1,0,0]
def Eg : bf := [(jU, oX), (kA, p7), (oA, zx)]
theorem OQ : bC P Eg := aK p0 (aK vN (aK Cb aZ))
theorem SY {A n : Nat} : aG T cW [] 60 mE (before (ax jE) [1,1,1,0,1]) ⟨aM 0 [.mag A, .int .i64 n], [], 0⟩ =
  some (aa.af [(32 : Int) ≠ (0 : Int), (0 : Int) ≤ IntKind.i64.wrap ((↑n : Int).tdiv (32 : Int)) ∧ IntKind.i64.wrap ((↑n : Int).tdiv (32 : Int)) ≤ IntKind.i64.wrap ((↑n : Int).tdiv (32 : Int)) ∧ IntKind.i64.wrap ((↑n : Int).tdiv (32 : Int)) ≤ (2 : Int) ^ 47 ∧ IntKind.i64.wrap ((↑n : Int).tdiv (32 : Int)) * (↑(4 : Nat) : Int) ≤ (2 : Int) ^ 47] (aa.leaf aj.normal ([mag A, int IntKind.i64 (↑n : Int), own 12288 1 0 (IntKind.i64.wrap ((↑n : Int).tdiv (32 : Int))).toNat, int IntKind.u64 (0 : Int), int IntKind.i64 (0 : Int)], [((12288 : Nat), ⟨true, true, 1, (IntKind.i64.wrap ((↑n : Int).tdiv (32 : Int))).toNat, fun (x : Nat) ↦ int IntKind.u32 (0 : Int)⟩)]))) := by kernel_rfl
theorem Rq {A n l c i : Nat} {o : Nat → Nat} : aG T cW [14] 60 mE [En] ⟨aB mE (uL A n l c i 7), b6 7 l o, 8⟩ =
  some (aa.fork (decide ((↑i : Int) < (↑(nl A) : Int))) (aa.af [(0 : Int) ≤ (↑i : Int) ∧ (↑i : Int).toNat < nl A, (32 : Int) ≠ (0 : Int), (0 : Int) ≤ (↑n : Int).tmod (32 : Int)] (aa.af [(1 : Nat) * 1 ≤ 2 ^ 24, (l + 1) * ((4 : Nat) + 1) * 2 ≤ 2 ^ 47] (aa.af [(0 : Int) ≤ (32 : Int)] (aa.leaf aj.normal ([mag A, int IntKind.i64 (↑n : Int), own 77832 1 0 (l + 1), int IntKind.u64 ((IntKind.u64.wrap (↑(BitVec.ofInt IntKind.u64.bits (↑c : Int) ||| BitVec.ofInt IntKind.u64.bits (IntKind.u64.wrap (IntKind.u64.wrap (↑(au A (↑i : Int).toNat) : Int) * (2 : Int) ^ min ((↑n : Int).tmod (32 : Int)).toNat IntKind.u64.bits))).toNat : Int)).fdiv ((2 : Int) ^ min (Int.toNat (32 : Int)) IntKind.u64.bits)), int IntKind.i64 (IntKind.i64.wrap ((↑i : Int) + (1 : Int)))], [((77832 : Nat), ⟨true, true, 1, l + 1, fun (i_1 : Nat) ↦ if i_1 < l then ag o i_1 else nth [int IntKind.u32 (IntKind.u32.wrap (IntKind.u64.wrap (↑(BitVec.ofInt IntKind.u64.bits (↑c : Int) ||| BitVec.ofInt IntKind.u64.bits (IntKind.u64.wrap (IntKind.u64.wrap (↑(au A (↑i : Int).toNat) : Int) * (2 : Int) ^ min ((↑n : Int).tmod (32 : Int)).toNat IntKind.u64.bits))).toNat : Int)))] (int IntKind.u32 (0 : Int)) (i_1 - l + 0)⟩)]))))) (aa.leaf (aj.exit 0) ([mag A, int IntKind.i64 (↑n : Int), own 7 1 0 l, int IntKind.u64 (↑c : Int), int IntKind.i64 (↑i : Int)], [((7 : Nat), ⟨true, true, 1, l, ag o⟩)]))) := by kernel_rfl
theorem Sj {A n l c i : Nat} {o : Nat → Nat} : cJ T cW [] 60 jE (behind (ax jE) [1,1,1,0,1]) ⟨aB mE (uL A n l c i 7), b6 7 l o, 8⟩ =
  some (aa.af [(1 : Nat) * 1 ≤ 2 ^ 24, (l + 1) * ((4 : Nat) + 1) * 2 ≤ 2 ^ 47, cD (l + 1) fun (i : Nat) ↦ if i + 0 < l then ag o (i + 0) else nth [int IntKind.u32 (IntKind.u32.wrap (↑c : Int))] (int IntKind.u32 (0 : Int)) (i + 0 - l + 0), l + 1 < 2 ^ 40] (aa.leaf aj.ret [mag (val (l + 1) fun (i : Nat) ↦ numOf (if i + 0 < l then ag o (i + 0) else nth [int IntKind.u32 (IntKind.u32.wrap (↑c : Int))] (int IntKind.u32 (0 : Int)) (i + 0 - l + 0)))])) := by kernel_rfl
theorem Ky {A n : Nat} : bA T cW [7] 60 qe (ax qe) ⟨aM 0 [.mag A, .int .i64 n], [], 0⟩ =
  some (aa.fork ((↑(nl A) : Int) == (0 : Int)) (aa.leaf aj.ret [nil]) (aa.af [(0 : Int) ≤ (↑n : Int) ∧ (↑n : Int) ≤ (↑n : Int) ∧ (↑n : Int) ≤ (2 : Int) ^ 47 ∧ (↑n : Int) * (↑(4 : Nat) : Int) ≤ (2 : Int) ^ 47, ((↑n : Int).toNat + nl A) * ((4 : Nat) + 1) * 2 ≤ 2 ^ 47] (aa.leaf aj.ret [ah 1 ((↑n : Int).toNat + nl A) fun (i : Nat) ↦ if i + 0 < (↑n : Int).toNat then int IntKind.u32 (0 : Int) else int IntKind.u32 (↑(au A (i + 0 - (↑n : Int).toNat)) : Int)]))) := by kernel_rfl
theorem Ra {A b : Nat} : bA T Eg [] 60 pq (ax pq) ⟨aM 0 [.mag A, .int .u32 b], [], 0⟩ =
  some (aa.af [(0 : Int) ≤ IntKind.u64.wrap (↑b : Int) ∧ IntKind.u64.wrap (↑b : Int) < (2 : Int) ^ 64, nl A < 2 ^ 39, nl (IntKind.u64.wrap (↑b : Int)).toNat < 2 ^ 39] (aa.leaf aj.ret [mag (A * (IntKind.u64.wrap (↑b : Int)).toNat)])) := by kernel_rfl
abbrev jx : List Nat := [0, 1, 5, 6]
abbrev qI (a : Nat → Nat) (l n i K : Nat) : List AV := [.ah 1 l (ag a), .int .i64 n, .own K 1 0 l, .int .i64 i]
noncomputable abbrev ER : Code := part (ax jG) [1,1,1,1,0,1,0,0]
theorem RI {A n : Nat} : aG T cW [12] 60 (jx ++ [4]) (before (ax jG) [1,1,1,1,0,1]) ⟨aM 0 [.mag A, .int .i64 n], [], 0⟩ =
  some (aa.af [(32 : Int) ≠ (0 : Int)] (aa.fork (decide (IntKind.i64.wrap ((↑n : Int).tdiv (32 : Int)) ≥ (↑(nl A) : Int))) (aa.leaf aj.ret ([mag A, int IntKind.i64 (↑n : Int), tuple [], tuple [], nil], [])) (aa.af [(32 : Int) ≠ (0 : Int), (0 : Int) ≤ IntKind.i64.wrap ((↑n : Int).tdiv (32 : Int)) ∧ IntKind.i64.wrap ((↑n : Int).tdiv (32 : Int)) ≤ (↑(nl A) : Int) ∧ (↑(nl A) : Int) ≤ (↑(nl A) : Int) ∧ (↑(nl A) : Int) ≤ (↑(nl A) : Int)] (aa.af [(0 : Int) ≤ (↑((↑(nl A) : Int).toNat - (IntKind.i64.wrap ((↑n : Int).tdiv (32 : Int))).toNat) : Int) ∧ (↑((↑(nl A) : Int).toNat - (IntKind.i64.wrap ((↑n : Int).tdiv (32 : Int))).toNat) : Int) ≤ (↑((↑(nl A) : Int).toNat - (IntKind.i64.wrap ((↑n : Int).tdiv (32 : Int))).toNat) : Int) ∧ (↑((↑(nl A) : Int).toNat - (IntKind.i64.wrap ((↑n : Int).tdiv (32 : Int))).toNat) : Int) ≤ (2 : Int) ^ 47 ∧ (↑((↑(nl A) : Int).toNat - (IntKind.i64.wrap ((↑n : Int).tdiv (32 : Int))).toNat) : Int) * (↑(4 : Nat) : Int) ≤ (2 : Int) ^ 47] (aa.leaf aj.normal ([ah 1 ((↑(nl A) : Int).toNat - (IntKind.i64.wrap ((↑n : Int).tdiv (32 : Int))).toNat) fun (i : Nat) ↦ int IntKind.u32 (↑(au A (i + (IntKind.i64.wrap ((↑n : Int).tdiv (32 : Int))).toNat)) : Int), int IntKind.i64 (↑n : Int), own 53248 1 0 (↑((↑(nl A) : Int).toNat - (IntKind.i64.wrap ((↑n : Int).tdiv (32 : Int))).toNat) : Int).toNat, int IntKind.i64 (0 : Int), nil], [((53248 : Nat), ⟨true, true, 1, (↑((↑(nl A) : Int).toNat - (IntKind.i64.wrap ((↑n : Int).tdiv (32 : Int))).toNat) : Int).toNat, fun (x : Nat) ↦ int IntKind.u32 (0 : Int)⟩)])))))) := by kernel_rfl
theorem Te {n l i : Nat} {a o : Nat → Nat} : aG T cW [23, 35] 60 jx [ER] ⟨aB jx (qI a l n i 7), b6 7 l o, 8⟩ =
  some (aa.fork (decide ((↑i : Int) < (↑l : Int))) (aa.af [(0 : Int) ≤ (↑i : Int) ∧ (↑i : Int).toNat < l] (aa.fork (decide (IntKind.i64.wrap ((↑i : Int) + (1 : Int)) < (↑l : Int))) (aa.af [(0 : Int) ≤ IntKind.i64.wrap ((↑i : Int) + (1 : Int)) ∧ (IntKind.i64.wrap ((↑i : Int) + (1 : Int))).toNat < l, (0 : Int) ≤ (32 : Int)] (aa.af [(32 : Int) ≠ (0 : Int), (0 : Int) ≤ (↑n : Int).tmod (32 : Int), (0 : Int) ≤ (↑i : Int) ∧ (↑i : Int).toNat < l, (↑i : Int).toNat + 0 < l] (aa.leaf aj.normal ([ah 1 l (ag a), int IntKind.i64 (↑n : Int), own 7 1 0 l, int IntKind.i64 (IntKind.i64.wrap ((↑i : Int) + (1 : Int)))], [((7 : Nat), ⟨true, true, 1, l, fun (j : Nat) ↦ if (j == (↑i : Int).toNat + 0) = true then int IntKind.u32 (IntKind.u32.wrap ((IntKind.u64.wrap (↑(BitVec.ofInt IntKind.u64.bits (IntKind.u64.wrap (↑(a (↑i : Int).toNat) : Int)) ||| BitVec.ofInt IntKind.u64.bits (IntKind.u64.wrap (IntKind.u64.wrap (↑(a (IntKind.i64.wrap ((↑i : Int) + (1 : Int))).toNat) : Int) * (2 : Int) ^ min (Int.toNat (32 : Int)) IntKind.u64.bits))).toNat : Int)).fdiv ((2 : Int) ^ min ((↑n : Int).tmod (32 : Int)).toNat IntKind.u64.bits))) else ag o j⟩)])))) (aa.af [(32 : Int) ≠ (0 : Int), (0 : Int) ≤ (↑n : Int).tmod (32 : Int), (0 : Int) ≤ (↑i : Int) ∧ (↑i : Int).toNat < l, (↑i : Int).toNat + 0 < l] (aa.leaf aj.normal ([ah 1 l (ag a), int IntKind.i64 (↑n : Int), own 7 1 0 l, int IntKind.i64 (IntKind.i64.wrap ((↑i : Int) + (1 : Int)))], [((7 : Nat), ⟨true, true, 1, l, fun (j : Nat) ↦ if (j == (↑i : Int).toNat + 0) = true then int IntKind.u32 (IntKind.u32.wrap ((IntKind.u64.wrap (↑(a (↑i : Int).toNat) : Int)).fdiv ((2 : Int) ^ min ((↑n : Int).tmod (32 : Int)).toNat IntKind.u64.bits))) else ag o j⟩)]))))) (aa.leaf (aj.exit 0) ([ah 1 l (ag a), int IntKind.i64 (↑n : Int), own 7 1 0 l, int IntKind.i64 (↑i : Int)], [((7 : Nat), ⟨true, true, 1, l, ag o⟩)]))) := by kernel_rfl
theorem Lz {n l i : Nat} {a o : Nat → Nat} : cJ T cW [] 60 jG (behind (ax jG) [1,1,1,1,0,1]) ⟨aB jx (qI a l n i 7), b6 7 l o, 8⟩ =
  some (aa.af [cD l fun (i : Nat) ↦ ag o (i + 0), l < 2 ^ 40] (aa.leaf aj.ret [mag (val l fun (i : Nat) ↦ numOf (ag o (i + 0)))])) := by kernel_rfl
theorem tM {c : Ctx} (h0 : ∀ nx k x, c.k0 k = some x → k < nx) : c.k0 = aQ := by
 funext k
 cases hk : c.k0 k with
 | none => rfl
 | some x => have := h0 0 k x hk; omega
theorem BS {o : Nat → Nat} {l : Nat} {v : Int} {x : Nat} (hv : v = (x : Nat)) {j : Nat} (hj : j < l + 1) : (if j < l then ag o j else nth [.int .u32 v] (.int .u32 0) (j - l)) = ag (bB o l x) j := by
 by_cases h : j < l
 ·rw [if_pos h]; unfold ag; rw [dH (by omega)]
 ·have : j = l := by omega
  subst this
  rw [if_neg h, hv]
  simp [nth, ag, gA]
theorem OU {A n : Nat} (hA : nl A < 2 ^ 39) (hn : n < 2 ^ 43) (K : Nat) : aC P qL K [.mag A, .int .i64 n] [] (aJ (.mag (A * 2 ^ n)) []) := by
 refine fX hT Jk rfl (of_decide_eq_true (by kernel_rfl)) rfl (fun _ c0 h0 => ?_) K []
 have hk0 := tM h0
 refine aq.hole [1,1,1,0,1] (by kernel_rfl) (ay.aR hT cX hm 60 mE SY (by kernel_rfl) ?_)
 have hw : IntKind.i64.wrap ((n : Int).tdiv 32) = ((n / 32 : Nat) : Int) := by
  rw [show (n : Int).tdiv 32 = ((n / 32 : Nat) : Int) from (Int.ofNat_tdiv n 32).symm]
  exact cS rfl (by omega)
 have hmd : (n : Int).tmod 32 = ((n % 32 : Nat) : Int) := (Int.ofNat_tmod n 32).symm
 rw [hw]
 obtain ⟨k, hk⟩ : ∃ k, k = n / 32 := ⟨_, rfl⟩
 obtain ⟨s, hs⟩ : ∃ s, s = n % 32 := ⟨_, rfl⟩
 rw [← hs] at hmd
 rw [← hk]
 simp only [aa.all, az, Int.toNat_natCast]
 refine ⟨by omega, fun s' hv => bD ?_⟩
 refine aq.fh (i := 0) (y := En) (by kernel_rfl) (fun p : Nat × Nat × (Nat → Nat) => ⟨aB mE (uL A n (k + p.1) p.2.1 p.1 7), b6 7 (k + p.1) p.2.2, 8⟩)
  (fun p => p.1 ≤ nl A ∧ p.2.1 < 2 ^ s ∧ (∀ j, j < k + p.1 → p.2.2 j < 2 ^ 32) ∧ val (k + p.1) p.2.2 + p.2.1 * 2 ^ (32 * (k + p.1)) = val p.1 (au A) * 2 ^ (32 * k) * 2 ^ s)
  (fun p => nl A - p.1) (0, 0, fun _ => 0)
  (b9 [(7, 12288)] hv hk0 rfl ⟨⟨rfl, aE rfl⟩, ⟨rfl, aE rfl⟩, ⟨rfl, cz rfl rfl rfl⟩, ⟨rfl, aE rfl⟩, ⟨rfl, aE rfl⟩, trivial⟩ ⟨⟨_, _, rfl, rfl, dA rfl fun j _ => rfl⟩, trivial⟩)
  ⟨by simp, Nat.two_pow_pos s, fun _ _ => by simp, ?_⟩ ?_
 ·simp only
  rw [val_zero fun _ _ => rfl]
  simp [val]
 rintro ⟨i, c, o⟩ ⟨hi, hc, ho, hval⟩
 simp only at hi hc ho hval
 have hs32 : s < 32 := by omega
 have h31 : 2 ^ s ≤ 2 ^ 31 := Nat.pow_le_pow_right (by omega) (by omega)
 have hzi := ct (N := A) (i := i)
 refine aq.aR hT cX hm 60 mE Rq (by kernel_rfl) ?_
 rw [hmd]
 have hor := AX hs32 hzi hc
 obtain ⟨b1, b2⟩ := CY hs32 hzi hc
 simp only [aa.all, az, decide_eq_true_eq, decide_eq_false_iff_not, Int.toNat_natCast, Nat.add_zero] at hor ⊢
 rw [hor]
 refine ⟨fun hb => ⟨⟨by omega, by omega, by omega⟩, ⟨by omega, by omega⟩, by omega, fun s' hv => ⟨(i + 1, (c + au A i * 2 ^ s) / 4294967296, bB o (k + i) ((c + au A i * 2 ^ s) % 4294967296)), ?_, ⟨by simp only; omega, b2, fun j hj => ?_, ?_⟩, by simp only; omega⟩⟩, fun hb s' hv => dz ?_⟩
 ·refine b9 (vs := uL A n (k + (i + 1)) ((c + au A i * 2 ^ s) / 4294967296) (i + 1) 7) (ps := b6 7 (k + (i + 1)) (bB o (k + i) ((c + au A i * 2 ^ s) % 4294967296))) [(7, 77832)] hv hk0 rfl ⟨⟨rfl, aE rfl⟩, ⟨rfl, aE rfl⟩, ⟨rfl, cz rfl rfl rfl⟩, ⟨rfl, ee ?_⟩, ⟨rfl, ee ?_⟩, trivial⟩
   ⟨⟨_, _, rfl, rfl, dA rfl fun j hj => BS (by rw [gl]) (by omega)⟩, trivial⟩
  ·rw [hH]; omega
  ·rw [wrap_i64 (by omega) (by omega)]; omega
 ·simp only at hj ⊢
  unfold bB
  split
  ·omega
  ·exact ho j (by omega)
 ·simp only
  have := Az (x := au A i) hval
  rw [show k + (i + 1) = (k + i) + 1 by omega, mA, eU, this, val]
  congr 1
  rw [Nat.add_mul, Nat.mul_assoc, ← Nat.pow_add, show 32 * i + 32 * k = 32 * (k + i) by omega]
 ·have hin : i = nl A := by omega
  show ay P c0 jE.ntmps (behind (ax jE) [1,1,1,0,1]) s' _
  refine ay.gu hT cX hm 60 hv (h0 _) rfl (eH (by omega)) Sj (by kernel_rfl) (by kernel_rfl) ?_
  simp only [aa.all, az, Nat.add_zero]
  have ho' : ∀ j, j < k + i + 1 → bB o (k + i) c j < 2 ^ 32 := fun j hj => by
   unfold bB
   split
   ·omega
   ·exact ho j (by omega)
  have e : ∀ j, j < k + i + 1 → (if j < k + i then ag o j else nth [.int .u32 (IntKind.u32.wrap (c : Int))] (.int .u32 0) (j - (k + i))) = ag (bB o (k + i) c) j := fun j hj => BS (wrap_u32 (by omega) (by omega)) hj
  refine ⟨⟨by omega, by omega, fun j hj => ?_, by omega⟩, cF (congrArg AV.mag ?_)⟩
  ·exact ⟨_, ho' j hj, e j hj⟩
  ·rw [val_congr (y := bB o (k + i) c) fun j hj => (congrArg numOf (e j hj)).trans xD, mA, hval, hin, ec, Nat.mul_assoc, ← Nat.pow_add]
   congr 2
   omega
def EI : Spec := bp fun l => match l with
 | [a, .int .i64 n] => match fL a with
  | some A => some (aJ (.mag (A * 2 ^ n.toNat)) [nl A < 2 ^ 39, 0 ≤ n, n < 2 ^ 43])
  | none => none
 | _ => none
theorem zn {f : FuncId} {g : Nat → Int → AV} {l : Nat → List Prop} {m : Int} (h : ∀ {A n : Nat}, az (l A) → (n : Int) < m → ∀ K, aC P f K [.mag A, .int .i64 n] [] (aJ (g A n) [])) : ∀ K args pre r, bp (fun a => match a with
 | [a, .int .i64 n] => match fL a with
  | some A => some (aJ (g A n) (l A ++ [0 ≤ n, n < m]))
  | none => none
 | _ => none) K args pre = some r → aC P f K args pre r := by
 refine bK fun K args r hk hs _ => ?_
 split at hs
 ·split at hs
  ·rename_i A hA
   simp only [Option.some.injEq] at hs
   subst hs
   intro need
   obtain ⟨h1, h2, h3⟩ := dU.1 need
   rename_i n _
   obtain ⟨n, rfl⟩ := Int.eq_ofNat_of_zero_le h2
   exact eJ (h h1 h3 K) hk ⟨iG hA, .refl _, trivial⟩ [] trivial
  ·simp at hs
 ·simp at hs
theorem O4 : ∀ K args pre r, EI K args pre = some r → aC P qL K args pre r :=
 zn (g := fun A n => .mag (A * 2 ^ n.toNat)) (l := fun A => [nl A < 2 ^ 39]) (m := 2 ^ 43) fun {A n} h hn K => by
  have := OU (A := A) (n := n) h (by omega) K
  simpa using this
theorem LJ {A n : Nat} (hA : nl A < 2 ^ 40) (hn : n < 2 ^ 40) (K : Nat) : aC P sZ K [.mag A, .int .i64 n] [] (aJ (.mag (A * 2 ^ (32 * n))) []) := by
 refine bE hT cX hm Qs rfl (of_decide_eq_true (by kernel_rfl)) rfl 60 Ky (fun _ => ?_) K []
 simp only [aa.all, az, beq_iff_eq, beq_eq_false_iff_ne, ne_eq, Int.toNat_natCast, Nat.add_zero]
 refine ⟨fun hb => ?_, fun hb => ⟨⟨by omega, by omega⟩, ?_⟩⟩
 ·have : A = 0 := gz.1 (by omega)
  subst this
  rw [Nat.zero_mul]; exact gL
 ·have hA0 : A ≠ 0 := fun h => hb (by rw [h]; rfl)
  have hlt : A * 2 ^ (32 * n) < 2 ^ (32 * (n + nl A)) := by
   rw [show 32 * (n + nl A) = 32 * nl A + 32 * n by omega, Nat.pow_add]
   exact (Nat.mul_lt_mul_right (Nat.two_pow_pos _)).2 jj
  have hval : A * 2 ^ (32 * n) = val (n + nl A) (fun i => if i < n then 0 else au A (i - n)) := by
   rw [val_add, val_zero fun i hi => if_pos hi, Nat.zero_add]
   congr 1
   have := ec (N := A)
   conv => lhs; rw [← this]
   exact val_congr fun i hi => by rw [if_neg (by omega)]; congr 1; omega
  have hz : ∀ i, i < n + nl A → (if i < n then 0 else au A (i - n)) < 2 ^ 32 := fun i _ => by
   split
   ·omega
   ·exact ct
  refine g9 ?_ fun i hi => ?_
  ·rw [hval]
   refine uQ hz (.inr ?_)
   have hp := ew.2 hA0
   rw [if_neg (by omega), show n + nl A - 1 - n = nl A - 1 by omega]
   exact xk hA0
  ·rw [hval, kH hz hi]
   split <;> rfl
def AT : Spec := bp fun l => match l with
 | [a, .int .i64 n] => match fL a with
  | some A => some (aJ (.mag (A * 2 ^ (32 * n.toNat))) [nl A < 2 ^ 40, 0 ≤ n, n < 2 ^ 40])
  | none => none
 | _ => none
theorem Nr : ∀ K args pre r, AT K args pre = some r → aC P sZ K args pre r :=
 zn (g := fun A n => .mag (A * 2 ^ (32 * n.toNat))) (l := fun A => [nl A < 2 ^ 40]) (m := 2 ^ 40) fun {A n} h hn K => by
  have := LJ (A := A) (n := n) h (by omega) K
  simpa using this
theorem U6 {A b : Nat} (hA : nl A < 2 ^ 39) (hb : b < 2 ^ 32) (K : Nat) : aC P qW K [.mag A, .int .u32 b] [] (aJ (.mag (A * b)) []) := by
 refine bE hT OQ hm K6 rfl (of_decide_eq_true (by kernel_rfl)) rfl 60 Ra (fun _ => ?_) K []
 have e : IntKind.u64.wrap (b : Int) = (b : Int) := bt (by omega) (by omega)
 rw [e]
 simp only [aa.all, az, Int.toNat_natCast]
 have : nl b ≤ 1 := cm.2 (by omega)
 exact ⟨⟨by omega, hA, by omega⟩, .refl _⟩
def CM : Spec := bp fun l => match l with
 | [a, .int .u32 b] => match fL a with
  | some A => some (aJ (.mag (A * b.toNat)) [nl A < 2 ^ 39, 0 ≤ b, b < 2 ^ 32])
  | none => none
 | _ => none
theorem Kf : ∀ K args pre r, CM K args pre = some r → aC P qW K args pre r := by
 refine bK fun K args r hk hs _ => ?_
 split at hs
 ·rename_i a b
  split at hs
  ·rename_i A hA
   simp only [Option.some.injEq] at hs
   subst hs
   intro need
   obtain ⟨h1, h2, h3⟩ : nl A < 2 ^ 39 ∧ 0 ≤ b ∧ b < 2 ^ 32 := need
   obtain ⟨b, rfl⟩ := Int.eq_ofNat_of_zero_le h2
   exact eJ (U6 h1 (by omega) K) hk ⟨iG hA, .refl _, trivial⟩ [] trivial
  ·simp at hs
 ·simp at hs
theorem S6 {A k i : Nat} : au A (i + k) = au (A / 2 ^ (32 * k)) i := by
 unfold au
 rw [Nat.div_div_eq_div_mul, ← Nat.pow_add]
 congr 3
 omega
theorem Lj {a b s : Nat} (ha : a < 2 ^ 32) (hb : b < 2 ^ 32) (hs : s < 32) : (b * 4294967296 + a) / 2 ^ s % 4294967296 = a / 2 ^ s + b % 2 ^ s * 2 ^ (32 - s) := by
 have := s8 (R := b * 4294967296 + a) (k := 0) hs
 have l0 : au (b * 4294967296 + a) 0 = a := by unfold au; simp; omega
 have l1 : au (b * 4294967296 + a) (0 + 1) = b := by unfold au; simp; omega
 rw [l0, l1] at this
 rw [← this]
 unfold au
 simp
theorem FN {A n : Nat} (hA : nl A < 2 ^ 40) (hn : n < 2 ^ 62) (K : Nat) : aC P qC K [.mag A, .int .i64 n] [] (aJ (.mag (A / 2 ^ n)) []) := by
 refine fX hT S2 rfl (of_decide_eq_true (by kernel_rfl)) rfl (fun _ c0 h0 => ?_) K []
 have hk0 := tM h0
 refine aq.hole [1,1,1,1,0,1] (by kernel_rfl) (ay.aR hT cX hm 60 (jx ++ [4]) RI (by kernel_rfl) ?_)
 have hw : IntKind.i64.wrap ((n : Int).tdiv 32) = ((n / 32 : Nat) : Int) := by
  rw [show (n : Int).tdiv 32 = ((n / 32 : Nat) : Int) from (Int.ofNat_tdiv n 32).symm]
  exact cS rfl (by omega)
 have hmd : (n : Int).tmod 32 = ((n % 32 : Nat) : Int) := (Int.ofNat_tmod n 32).symm
 rw [hw]
 obtain ⟨k, hk⟩ : ∃ k, k = n / 32 := ⟨_, rfl⟩
 obtain ⟨s, hs⟩ : ∃ s, s = n % 32 := ⟨_, rfl⟩
 rw [← hs] at hmd
 rw [← hk]
 have hnk : 2 ^ n = 2 ^ (32 * k) * 2 ^ s := by rw [← Nat.pow_add]; congr 1; omega
 simp only [aa.all, az, decide_eq_true_eq, decide_eq_false_iff_not, Int.toNat_natCast]
 refine ⟨by omega, fun hb s' hv => dj (.inl ?_), fun hb => ⟨⟨by omega, by omega⟩, by omega, fun s' hv => bD ?_⟩⟩
 ·refine ey (us := [.nil]) (.inr rfl) hv (by kernel_rfl) ?_
  have : A / 2 ^ n = 0 := by
   rw [hnk, ← Nat.div_div_eq_div_mul, Nat.div_eq_of_lt (cm.1 (show nl A ≤ k by omega)), Nat.zero_div]
  rw [this]; exact gL
 have hkA : k < nl A := by omega
 have hv := fD (ls := jx) (l := [4]) (vs := [.ah 1 (nl A - k) fun i => .int .u32 (au A (i + k) : Nat), .int .i64 n, .own 53248 1 0 (nl A - k), .int .i64 0]) hv rfl rfl
 obtain ⟨R, hR⟩ : ∃ R, R = A / 2 ^ (32 * k) := ⟨_, rfl⟩
 obtain ⟨l, hl⟩ : ∃ l, l = nl A - k := ⟨_, rfl⟩
 have hRl : R < 2 ^ (32 * l) := by
  rw [hR, Nat.div_lt_iff_lt_mul (Nat.two_pow_pos _), ← Nat.pow_add, ← Nat.mul_add]
  exact cm.1 (show nl A ≤ l + k by omega)
 have hfun : (fun i => AV.int .u32 (au A (i + k) : Nat)) = ag (au R) := by
  funext i; unfold ag; rw [S6, hR]
 rw [hfun, ← hl] at hv
 refine aq.fh (i := 0) (y := ER) (by kernel_rfl) (fun p : Nat × (Nat → Nat) => ⟨aB jx (qI (au R) l n p.1 7), b6 7 l p.2, 8⟩)
  (fun p => p.1 ≤ l ∧ ∀ j, j < p.1 → p.2 j = au (R / 2 ^ s) j)
  (fun p => l - p.1) (0, fun _ => 0)
  (b9 [(7, 53248)] hv hk0 rfl ⟨⟨rfl, aE rfl⟩, ⟨rfl, aE rfl⟩, ⟨rfl, cz rfl rfl rfl⟩, ⟨rfl, aE rfl⟩, trivial⟩ ⟨⟨_, _, rfl, rfl, dA rfl fun j _ => rfl⟩, trivial⟩)
  ⟨by simp, fun j hj => by simp only at hj; omega⟩ ?_
 rintro ⟨i, o⟩ ⟨hi, ho⟩
 simp only at hi ho
 have hs32 : s < 32 := by omega
 have ha := ct (N := R) (i := i)
 have hb' := ct (N := R) (i := i + 1)
 refine aq.aR hT cX hm 60 jx Te (by kernel_rfl) ?_
 have w1 : IntKind.i64.wrap ((i : Int) + 1) = if i < l then ((i + 1 : Nat) : Int) else IntKind.i64.wrap ((i : Int) + 1) := by
  split
  ·exact cS (by omega) (by omega)
  ·rfl
 simp only [aa.all, az, decide_eq_true_eq, decide_eq_false_iff_not, Int.toNat_natCast, Nat.add_zero, beq_iff_eq]
 have next : ∀ {s' : aD} {v : Int}, i < l → v = ((au (R / 2 ^ s) i : Nat) : Int) → aN jx s' = some (qI (au R) l n (i + 1) 7, [(7, ⟨true, true, 1, l, fun j => if j = i then .int .u32 v else ag o j⟩)]) →
   ∃ p : Nat × (Nat → Nat), (∃ ρ, Le c0 ρ s' ⟨aB jx (qI (au R) l n p.1 7), b6 7 l p.2, 8⟩) ∧ (p.1 ≤ l ∧ ∀ j, j < p.1 → p.2 j = au (R / 2 ^ s) j) ∧ l - p.1 < l - i := by
  intro s' v hil hv1 hv
  refine ⟨(i + 1, bB o i (au (R / 2 ^ s) i)), jA (cy hv rfl ?_) (h0 _) rfl (eH (by omega)), ⟨by simp only; omega, fun j hj => ?_⟩, by simp only; omega⟩
  ·simp only [b6]
   congr 3
   funext j
   exact eG hv1 j
  ·simp only at hj ⊢
   unfold bB
   split
   ·rename_i h; rw [h]
   ·exact ho j (by omega)
 refine ⟨fun hb => ?_, fun hb s' hv => dz ?_⟩
 ·have hil : i < l := by omega
  rw [if_pos hil] at w1
  rw [w1, hmd]
  have hf : ∀ x : Nat, (x : Int).fdiv (2 ^ min ((s : Int).toNat) IntKind.u64.bits) = ((x / 2 ^ s : Nat) : Int) := fun x => by
   have : min ((s : Int).toNat) IntKind.u64.bits = s := by
    have : IntKind.u64.bits = 64 := rfl
    omega
   rw [this, Int.fdiv_eq_ediv_of_nonneg _ (by exact Int.le_of_lt (Int.pow_pos (by decide)))]
   simp
  have wa : IntKind.u64.wrap (au R i : Int) = ((au R i : Nat) : Int) := bt (by omega) (by omega)
  have hor : IntKind.u64.wrap ((BitVec.ofInt IntKind.u64.bits (IntKind.u64.wrap (au R i : Int)) ||| BitVec.ofInt IntKind.u64.bits (IntKind.u64.wrap (IntKind.u64.wrap (au R (i + 1) : Int) * 2 ^ min (Int.toNat 32) IntKind.u64.bits))).toNat : Int) = ((au R (i + 1) * 4294967296 + au R i : Nat) : Int) := by
   rw [BitVec.or_comm, bt (x := (au R (i + 1) : Int)) (by omega) (by omega)]
   exact o4 hb' ha
  simp only [Int.toNat_natCast]
  refine ⟨by omega, fun h1 => ⟨⟨by omega, by omega⟩, ⟨by omega, by omega, by omega, by omega⟩, fun s' hv => next hil ?_ hv⟩, fun h1 => ⟨⟨by omega, by omega, by omega, by omega⟩, fun s' hv => next hil ?_ hv⟩⟩
  ·rw [hor]
   have := hf (au R (i + 1) * 4294967296 + au R i)
   simp only [Int.toNat_natCast] at this
   rw [this, gl, Lj ha hb' hs32, s8 hs32]
  ·rw [wa]
   have := hf (au R i)
   simp only [Int.toNat_natCast] at this
   have hd := Nat.div_le_self (au R i) (2 ^ s)
   rw [this, gl, s8 hs32, fU (A := R) (i := i + 1) (cm.2 (Nat.lt_of_lt_of_le hRl (Nat.pow_le_pow_right (by omega) (by omega)))), Nat.zero_mod, Nat.zero_mul, Nat.add_zero, Nat.mod_eq_of_lt (by omega)]
 ·have hil : i = l := by omega
  show ay P c0 jG.ntmps (behind (ax jG) [1,1,1,1,0,1]) s' _
  refine ay.gu hT cX hm 60 hv (h0 _) rfl (eH (by omega)) Lz (by kernel_rfl) (by kernel_rfl) ?_
  simp only [aa.all, az, Nat.add_zero, gd]
  refine ⟨⟨er fun j hj => ?_, by omega⟩, cF (congrArg AV.mag ?_)⟩
  ·rw [ho j (by omega)]; exact ct
  ·rw [val_congr (y := au (R / 2 ^ s)) fun j hj => ho j (by omega), kM (Nat.lt_of_le_of_lt (Nat.div_le_self _ _) hRl), hR, hnk, Nat.div_div_eq_div_mul]
def Ef : Spec := bp fun l => match l with
 | [a, .int .i64 n] => match fL a with
  | some A => some (aJ (.mag (A / 2 ^ n.toNat)) [nl A < 2 ^ 40, 0 ≤ n, n < 2 ^ 62])
  | none => none
 | _ => none
theorem LC : ∀ K args pre r, Ef K args pre = some r → aC P qC K args pre r :=
 zn (g := fun A n => .mag (A / 2 ^ n.toNat)) (l := fun A => [nl A < 2 ^ 40]) (m := 2 ^ 62) fun {A n} h hn K => by
  have := FN (A := A) (n := n) h (by omega) K
  simpa using this
end Go.Am.B
