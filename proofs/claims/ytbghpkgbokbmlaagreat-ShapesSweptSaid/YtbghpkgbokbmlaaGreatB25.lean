/- ref01: up, shifted, times, down. -/
import Derived.Test.YtbghpkgbokbmlaaGreatB24
set_option linter.unusedVariables false
namespace Go.Am.B
open Go Go.Am.N AV
theorem YF : aP P sZ lC (au lC) := aL abr (by kernel_rfl) (by kernel_rfl) (by kernel_rfl)
theorem Yo : aP P vh wW (au wW) := aL adN (by kernel_rfl) (by kernel_rfl) (by kernel_rfl)
theorem XB : aP P wh rB (au rB) := aL Z3 (by kernel_rfl) (by kernel_rfl) (by kernel_rfl)
theorem Rg : aP P uI kJ (au kJ) := aL aa1 (by kernel_rfl) (by kernel_rfl) (by kernel_rfl)
abbrev oG : List Nat := [0, 1, 5, 6, 7]
abbrev xC (A n l c i K : Nat) : List AV := [.mag A, .int .i64 n, .own K 1 0 l, .int .u64 c, .int .i64 i]
noncomputable abbrev KF : Code := part (au lC) [1,1,1,0,1,0,0]
def FH : aQ := [(lF, pM), (mh, uB), (pB, CO)]
theorem Qu : aW P FH := aC vO (aC yH (aC Lw aT))
theorem acU {A n : Nat} : aH T dK [] 60 oG (before (au lC) [1,1,1,0,1]) ⟨aM 0 [.mag A, .int .i64 n], [], 0⟩ =
  some (aa.af [(32 : Int) ≠ (0 : Int), (0 : Int) ≤ IntKind.i64.wrap ((↑n : Int).tdiv (32 : Int)) ∧ IntKind.i64.wrap ((↑n : Int).tdiv (32 : Int)) ≤ IntKind.i64.wrap ((↑n : Int).tdiv (32 : Int)) ∧ IntKind.i64.wrap ((↑n : Int).tdiv (32 : Int)) ≤ (2 : Int) ^ 47 ∧ IntKind.i64.wrap ((↑n : Int).tdiv (32 : Int)) * (↑(4 : Nat) : Int) ≤ (2 : Int) ^ 47] (aa.leaf ag.normal ([mag A, int IntKind.i64 (↑n : Int), own 12288 1 0 (IntKind.i64.wrap ((↑n : Int).tdiv (32 : Int))).toNat, int IntKind.u64 (0 : Int), int IntKind.i64 (0 : Int)], [((12288 : Nat), ⟨true, true, 1, (IntKind.i64.wrap ((↑n : Int).tdiv (32 : Int))).toNat, fun (x : Nat) ↦ int IntKind.u32 (0 : Int)⟩)]))) := by kernel_rfl
theorem VD {A n l c i : Nat} {o : Nat → Nat} : aH T dK [14] 60 oG [KF] ⟨aB oG (xC A n l c i 7), cu 7 l o, 8⟩ =
  some (aa.fork (decide ((↑i : Int) < (↑(nl A) : Int))) (aa.af [(0 : Int) ≤ (↑i : Int) ∧ (↑i : Int).toNat < nl A, (32 : Int) ≠ (0 : Int), (0 : Int) ≤ (↑n : Int).tmod (32 : Int)] (aa.af [(1 : Nat) * 1 ≤ 2 ^ 24, (l + 1) * ((4 : Nat) + 1) * 2 ≤ 2 ^ 47] (aa.af [(0 : Int) ≤ (32 : Int)] (aa.leaf ag.normal ([mag A, int IntKind.i64 (↑n : Int), own 77832 1 0 (l + 1), int IntKind.u64 ((IntKind.u64.wrap (↑(BitVec.ofInt IntKind.u64.bits (↑c : Int) ||| BitVec.ofInt IntKind.u64.bits (IntKind.u64.wrap (IntKind.u64.wrap (↑(ak A (↑i : Int).toNat) : Int) * (2 : Int) ^ min ((↑n : Int).tmod (32 : Int)).toNat IntKind.u64.bits))).toNat : Int)).fdiv ((2 : Int) ^ min (Int.toNat (32 : Int)) IntKind.u64.bits)), int IntKind.i64 (IntKind.i64.wrap ((↑i : Int) + (1 : Int)))], [((77832 : Nat), ⟨true, true, 1, l + 1, fun (i_1 : Nat) ↦ if i_1 < l then ah o i_1 else nth [int IntKind.u32 (IntKind.u32.wrap (IntKind.u64.wrap (↑(BitVec.ofInt IntKind.u64.bits (↑c : Int) ||| BitVec.ofInt IntKind.u64.bits (IntKind.u64.wrap (IntKind.u64.wrap (↑(ak A (↑i : Int).toNat) : Int) * (2 : Int) ^ min ((↑n : Int).tmod (32 : Int)).toNat IntKind.u64.bits))).toNat : Int)))] (int IntKind.u32 (0 : Int)) (i_1 - l + 0)⟩)]))))) (aa.leaf (ag.exit 0) ([mag A, int IntKind.i64 (↑n : Int), own 7 1 0 l, int IntKind.u64 (↑c : Int), int IntKind.i64 (↑i : Int)], [((7 : Nat), ⟨true, true, 1, l, ah o⟩)]))) := by kernel_rfl
theorem Uk {A n l c i : Nat} {o : Nat → Nat} : bW T dK [] 60 lC (behind (au lC) [1,1,1,0,1]) ⟨aB oG (xC A n l c i 7), cu 7 l o, 8⟩ =
  some (aa.af [(1 : Nat) * 1 ≤ 2 ^ 24, (l + 1) * ((4 : Nat) + 1) * 2 ≤ 2 ^ 47, cR (l + 1) fun (i : Nat) ↦ if i + 0 < l then ah o (i + 0) else nth [int IntKind.u32 (IntKind.u32.wrap (↑c : Int))] (int IntKind.u32 (0 : Int)) (i + 0 - l + 0), l + 1 < 2 ^ 40] (aa.leaf ag.ret [mag (val (l + 1) fun (i : Nat) ↦ numOf (if i + 0 < l then ah o (i + 0) else nth [int IntKind.u32 (IntKind.u32.wrap (↑c : Int))] (int IntKind.u32 (0 : Int)) (i + 0 - l + 0)))])) := by kernel_rfl
theorem VK {A n : Nat} : bA T dK [7] 60 wW (au wW) ⟨aM 0 [.mag A, .int .i64 n], [], 0⟩ =
  some (aa.fork ((↑(nl A) : Int) == (0 : Int)) (aa.leaf ag.ret [nil]) (aa.af [(0 : Int) ≤ (↑n : Int) ∧ (↑n : Int) ≤ (↑n : Int) ∧ (↑n : Int) ≤ (2 : Int) ^ 47 ∧ (↑n : Int) * (↑(4 : Nat) : Int) ≤ (2 : Int) ^ 47, ((↑n : Int).toNat + nl A) * ((4 : Nat) + 1) * 2 ≤ 2 ^ 47] (aa.leaf ag.ret [aj 1 ((↑n : Int).toNat + nl A) fun (i : Nat) ↦ if i + 0 < (↑n : Int).toNat then int IntKind.u32 (0 : Int) else int IntKind.u32 (↑(ak A (i + 0 - (↑n : Int).toNat)) : Int)]))) := by kernel_rfl
theorem abZ {A b : Nat} : bA T FH [] 60 rB (au rB) ⟨aM 0 [.mag A, .int .u32 b], [], 0⟩ =
  some (aa.af [(0 : Int) ≤ IntKind.u64.wrap (↑b : Int) ∧ IntKind.u64.wrap (↑b : Int) < (2 : Int) ^ 64, nl A < 2 ^ 39, nl (IntKind.u64.wrap (↑b : Int)).toNat < 2 ^ 39] (aa.leaf ag.ret [mag (A * (IntKind.u64.wrap (↑b : Int)).toNat)])) := by kernel_rfl
abbrev j6 : List Nat := [0, 1, 5, 6]
abbrev sM (a : Nat → Nat) (l n i K : Nat) : List AV := [.aj 1 l (ah a), .int .i64 n, .own K 1 0 l, .int .i64 i]
noncomputable abbrev JG : Code := part (au kJ) [1,1,1,1,0,1,0,0]
theorem Ww {A n : Nat} : aH T dK [12] 60 (j6 ++ [4]) (before (au kJ) [1,1,1,1,0,1]) ⟨aM 0 [.mag A, .int .i64 n], [], 0⟩ =
  some (aa.af [(32 : Int) ≠ (0 : Int)] (aa.fork (decide (IntKind.i64.wrap ((↑n : Int).tdiv (32 : Int)) ≥ (↑(nl A) : Int))) (aa.leaf ag.ret ([mag A, int IntKind.i64 (↑n : Int), tuple [], tuple [], nil], [])) (aa.af [(32 : Int) ≠ (0 : Int), (0 : Int) ≤ IntKind.i64.wrap ((↑n : Int).tdiv (32 : Int)) ∧ IntKind.i64.wrap ((↑n : Int).tdiv (32 : Int)) ≤ (↑(nl A) : Int) ∧ (↑(nl A) : Int) ≤ (↑(nl A) : Int) ∧ (↑(nl A) : Int) ≤ (↑(nl A) : Int)] (aa.af [(0 : Int) ≤ (↑((↑(nl A) : Int).toNat - (IntKind.i64.wrap ((↑n : Int).tdiv (32 : Int))).toNat) : Int) ∧ (↑((↑(nl A) : Int).toNat - (IntKind.i64.wrap ((↑n : Int).tdiv (32 : Int))).toNat) : Int) ≤ (↑((↑(nl A) : Int).toNat - (IntKind.i64.wrap ((↑n : Int).tdiv (32 : Int))).toNat) : Int) ∧ (↑((↑(nl A) : Int).toNat - (IntKind.i64.wrap ((↑n : Int).tdiv (32 : Int))).toNat) : Int) ≤ (2 : Int) ^ 47 ∧ (↑((↑(nl A) : Int).toNat - (IntKind.i64.wrap ((↑n : Int).tdiv (32 : Int))).toNat) : Int) * (↑(4 : Nat) : Int) ≤ (2 : Int) ^ 47] (aa.leaf ag.normal ([aj 1 ((↑(nl A) : Int).toNat - (IntKind.i64.wrap ((↑n : Int).tdiv (32 : Int))).toNat) fun (i : Nat) ↦ int IntKind.u32 (↑(ak A (i + (IntKind.i64.wrap ((↑n : Int).tdiv (32 : Int))).toNat)) : Int), int IntKind.i64 (↑n : Int), own 53248 1 0 (↑((↑(nl A) : Int).toNat - (IntKind.i64.wrap ((↑n : Int).tdiv (32 : Int))).toNat) : Int).toNat, int IntKind.i64 (0 : Int), nil], [((53248 : Nat), ⟨true, true, 1, (↑((↑(nl A) : Int).toNat - (IntKind.i64.wrap ((↑n : Int).tdiv (32 : Int))).toNat) : Int).toNat, fun (x : Nat) ↦ int IntKind.u32 (0 : Int)⟩)])))))) := by kernel_rfl
theorem XX {n l i : Nat} {a o : Nat → Nat} : aH T dK [23, 35] 60 j6 [JG] ⟨aB j6 (sM a l n i 7), cu 7 l o, 8⟩ =
  some (aa.fork (decide ((↑i : Int) < (↑l : Int))) (aa.af [(0 : Int) ≤ (↑i : Int) ∧ (↑i : Int).toNat < l] (aa.fork (decide (IntKind.i64.wrap ((↑i : Int) + (1 : Int)) < (↑l : Int))) (aa.af [(0 : Int) ≤ IntKind.i64.wrap ((↑i : Int) + (1 : Int)) ∧ (IntKind.i64.wrap ((↑i : Int) + (1 : Int))).toNat < l, (0 : Int) ≤ (32 : Int)] (aa.af [(32 : Int) ≠ (0 : Int), (0 : Int) ≤ (↑n : Int).tmod (32 : Int), (0 : Int) ≤ (↑i : Int) ∧ (↑i : Int).toNat < l, (↑i : Int).toNat + 0 < l] (aa.leaf ag.normal ([aj 1 l (ah a), int IntKind.i64 (↑n : Int), own 7 1 0 l, int IntKind.i64 (IntKind.i64.wrap ((↑i : Int) + (1 : Int)))], [((7 : Nat), ⟨true, true, 1, l, fun (j : Nat) ↦ if (j == (↑i : Int).toNat + 0) = true then int IntKind.u32 (IntKind.u32.wrap ((IntKind.u64.wrap (↑(BitVec.ofInt IntKind.u64.bits (IntKind.u64.wrap (↑(a (↑i : Int).toNat) : Int)) ||| BitVec.ofInt IntKind.u64.bits (IntKind.u64.wrap (IntKind.u64.wrap (↑(a (IntKind.i64.wrap ((↑i : Int) + (1 : Int))).toNat) : Int) * (2 : Int) ^ min (Int.toNat (32 : Int)) IntKind.u64.bits))).toNat : Int)).fdiv ((2 : Int) ^ min ((↑n : Int).tmod (32 : Int)).toNat IntKind.u64.bits))) else ah o j⟩)])))) (aa.af [(32 : Int) ≠ (0 : Int), (0 : Int) ≤ (↑n : Int).tmod (32 : Int), (0 : Int) ≤ (↑i : Int) ∧ (↑i : Int).toNat < l, (↑i : Int).toNat + 0 < l] (aa.leaf ag.normal ([aj 1 l (ah a), int IntKind.i64 (↑n : Int), own 7 1 0 l, int IntKind.i64 (IntKind.i64.wrap ((↑i : Int) + (1 : Int)))], [((7 : Nat), ⟨true, true, 1, l, fun (j : Nat) ↦ if (j == (↑i : Int).toNat + 0) = true then int IntKind.u32 (IntKind.u32.wrap ((IntKind.u64.wrap (↑(a (↑i : Int).toNat) : Int)).fdiv ((2 : Int) ^ min ((↑n : Int).tmod (32 : Int)).toNat IntKind.u64.bits))) else ah o j⟩)]))))) (aa.leaf (ag.exit 0) ([aj 1 l (ah a), int IntKind.i64 (↑n : Int), own 7 1 0 l, int IntKind.i64 (↑i : Int)], [((7 : Nat), ⟨true, true, 1, l, ah o⟩)]))) := by kernel_rfl
theorem Y0 {n l i : Nat} {a o : Nat → Nat} : bW T dK [] 60 kJ (behind (au kJ) [1,1,1,1,0,1]) ⟨aB j6 (sM a l n i 7), cu 7 l o, 8⟩ =
  some (aa.af [cR l fun (i : Nat) ↦ ah o (i + 0), l < 2 ^ 40] (aa.leaf ag.ret [mag (val l fun (i : Nat) ↦ numOf (ah o (i + 0)))])) := by kernel_rfl
theorem z5 {c : Ctx} (h0 : ∀ nx k x, c.k0 k = some x → k < nx) : c.k0 = aV := by
 funext k
 cases hk : c.k0 k with
 | none => rfl
 | some x => have := h0 0 k x hk; omega
theorem Gn {o : Nat → Nat} {l : Nat} {v : Int} {x : Nat} (hv : v = (x : Nat)) {j : Nat} (hj : j < l + 1) : (if j < l then ah o j else nth [.int .u32 v] (.int .u32 0) (j - l)) = ah (bG o l x) j := by
 by_cases h : j < l
 ·rw [if_pos h]; unfold ah; rw [eC (by omega)]
 ·have : j = l := by omega
  subst this
  rw [if_neg h, hv]
  simp [nth, ah, ia]
theorem RD {A n : Nat} (hA : nl A < 2 ^ 39) (hn : n < 2 ^ 43) (K : Nat) : az P sZ K [.mag A, .int .i64 n] [] (aF (.mag (A * 2 ^ n)) []) := by
 refine fe hT YF rfl (of_decide_eq_true (by kernel_rfl)) rfl (fun _ c0 h0 => ?_) K []
 have hk0 := z5 h0
 refine aq.hole [1,1,1,0,1] (by kernel_rfl) (aA.aZ hT dL hm 60 oG acU (by kernel_rfl) ?_)
 have hw : IntKind.i64.wrap ((n : Int).tdiv 32) = ((n / 32 : Nat) : Int) := by
  rw [show (n : Int).tdiv 32 = ((n / 32 : Nat) : Int) from (Int.ofNat_tdiv n 32).symm]
  exact dy rfl (by omega)
 have hmd : (n : Int).tmod 32 = ((n % 32 : Nat) : Int) := (Int.ofNat_tmod n 32).symm
 rw [hw]
 obtain ⟨k, hk⟩ : ∃ k, k = n / 32 := ⟨_, rfl⟩
 obtain ⟨s, hs⟩ : ∃ s, s = n % 32 := ⟨_, rfl⟩
 rw [← hs] at hmd
 rw [← hk]
 simp only [aa.all, ax, Int.toNat_natCast]
 refine ⟨by omega, fun s' hv => bI ?_⟩
 refine aq.gk (i := 0) (y := KF) (by kernel_rfl) (fun p : Nat × Nat × (Nat → Nat) => ⟨aB oG (xC A n (k + p.1) p.2.1 p.1 7), cu 7 (k + p.1) p.2.2, 8⟩)
  (fun p => p.1 ≤ nl A ∧ p.2.1 < 2 ^ s ∧ (∀ j, j < k + p.1 → p.2.2 j < 2 ^ 32) ∧ val (k + p.1) p.2.2 + p.2.1 * 2 ^ (32 * (k + p.1)) = val p.1 (ak A) * 2 ^ (32 * k) * 2 ^ s)
  (fun p => nl A - p.1) (0, 0, fun _ => 0)
  (cA [(7, 12288)] hv hk0 rfl ⟨⟨rfl, aG rfl⟩, ⟨rfl, aG rfl⟩, ⟨rfl, cj rfl rfl rfl⟩, ⟨rfl, aG rfl⟩, ⟨rfl, aG rfl⟩, trivial⟩ ⟨⟨_, _, rfl, rfl, ew rfl fun j _ => rfl⟩, trivial⟩)
  ⟨by simp, Nat.two_pow_pos s, fun _ _ => by simp, ?_⟩ ?_
 ·simp only
  rw [val_zero fun _ _ => rfl]
  simp [val]
 rintro ⟨i, c, o⟩ ⟨hi, hc, ho, hval⟩
 simp only at hi hc ho hval
 have hs32 : s < 32 := by omega
 have h31 : 2 ^ s ≤ 2 ^ 31 := Nat.pow_le_pow_right (by omega) (by omega)
 have hzi := cJ (N := A) (i := i)
 refine aq.aZ hT dL hm 60 oG VD (by kernel_rfl) ?_
 rw [hmd]
 have hor := Ld hs32 hzi hc
 obtain ⟨b1, b2⟩ := Ka hs32 hzi hc
 simp only [aa.all, ax, decide_eq_true_eq, decide_eq_false_iff_not, Int.toNat_natCast, Nat.add_zero] at hor ⊢
 rw [hor]
 refine ⟨fun hb => ⟨⟨by omega, by omega, by omega⟩, ⟨by omega, by omega⟩, by omega, fun s' hv => ⟨(i + 1, (c + ak A i * 2 ^ s) / 4294967296, bG o (k + i) ((c + ak A i * 2 ^ s) % 4294967296)), ?_, ⟨by simp only; omega, b2, fun j hj => ?_, ?_⟩, by simp only; omega⟩⟩, fun hb s' hv => ek ?_⟩
 ·refine cA (vs := xC A n (k + (i + 1)) ((c + ak A i * 2 ^ s) / 4294967296) (i + 1) 7) (ps := cu 7 (k + (i + 1)) (bG o (k + i) ((c + ak A i * 2 ^ s) % 4294967296))) [(7, 77832)] hv hk0 rfl ⟨⟨rfl, aG rfl⟩, ⟨rfl, aG rfl⟩, ⟨rfl, cj rfl rfl rfl⟩, ⟨rfl, eU ?_⟩, ⟨rfl, eU ?_⟩, trivial⟩
   ⟨⟨_, _, rfl, rfl, ew rfl fun j hj => Gn (by rw [gU]) (by omega)⟩, trivial⟩
  ·rw [jb]; omega
  ·rw [wrap_i64 (by omega) (by omega)]; omega
 ·simp only at hj ⊢
  unfold bG
  split
  ·omega
  ·exact ho j (by omega)
 ·simp only
  have := G9 (x := ak A i) hval
  rw [show k + (i + 1) = (k + i) + 1 by omega, oR, fB, this, val]
  congr 1
  rw [Nat.add_mul, Nat.mul_assoc, ← Nat.pow_add, show 32 * i + 32 * k = 32 * (k + i) by omega]
 ·have hin : i = nl A := by omega
  show aA P c0 lC.ntmps (behind (au lC) [1,1,1,0,1]) s' _
  refine aA.ij hT dL hm 60 hv (h0 _) rfl (fz (by omega)) Uk (by kernel_rfl) (by kernel_rfl) ?_
  simp only [aa.all, ax, Nat.add_zero]
  have ho' : ∀ j, j < k + i + 1 → bG o (k + i) c j < 2 ^ 32 := fun j hj => by
   unfold bG
   split
   ·omega
   ·exact ho j (by omega)
  have e : ∀ j, j < k + i + 1 → (if j < k + i then ah o j else nth [.int .u32 (IntKind.u32.wrap (c : Int))] (.int .u32 0) (j - (k + i))) = ah (bG o (k + i) c) j := fun j hj => Gn (wrap_u32 (by omega) (by omega)) hj
  refine ⟨⟨by omega, by omega, fun j hj => ?_, by omega⟩, cZ (congrArg AV.mag ?_)⟩
  ·exact ⟨_, ho' j hj, e j hj⟩
  ·rw [val_congr (y := bG o (k + i) c) fun j hj => (congrArg numOf (e j hj)).trans AF, oR, hval, hin, eM, Nat.mul_assoc, ← Nat.pow_add]
   congr 2
   omega
def Kp : Spec := bt fun l => match l with
 | [a, .int .i64 n] => match gm a with
  | some A => some (aF (.mag (A * 2 ^ n.toNat)) [nl A < 2 ^ 39, 0 ≤ n, n < 2 ^ 43])
  | none => none
 | _ => none
theorem B1 {f : FuncId} {g : Nat → Int → AV} {l : Nat → List Prop} {m : Int} (h : ∀ {A n : Nat}, ax (l A) → (n : Int) < m → ∀ K, az P f K [.mag A, .int .i64 n] [] (aF (g A n) [])) : ∀ K args pre r, bt (fun a => match a with
 | [a, .int .i64 n] => match gm a with
  | some A => some (aF (g A n) (l A ++ [0 ≤ n, n < m]))
  | none => none
 | _ => none) K args pre = some r → az P f K args pre r := by
 refine bH fun K args r hk hs _ => ?_
 split at hs
 ·split at hs
  ·rename_i A hA
   simp only [Option.some.injEq] at hs
   subst hs
   intro need
   obtain ⟨h1, h2, h3⟩ := dA.1 need
   rename_i n _
   obtain ⟨n, rfl⟩ := Int.eq_ofNat_of_zero_le h2
   exact fk (h h1 h3 K) hk ⟨jd hA, .refl _, trivial⟩ [] trivial
  ·simp at hs
 ·simp at hs
theorem UM : ∀ K args pre r, Kp K args pre = some r → az P sZ K args pre r :=
 B1 (g := fun A n => .mag (A * 2 ^ n.toNat)) (l := fun A => [nl A < 2 ^ 39]) (m := 2 ^ 43) fun {A n} h hn K => by
  have := RD (A := A) (n := n) h (by omega) K
  simpa using this
theorem ado {A n : Nat} (hA : nl A < 2 ^ 40) (hn : n < 2 ^ 40) (K : Nat) : az P vh K [.mag A, .int .i64 n] [] (aF (.mag (A * 2 ^ (32 * n))) []) := by
 refine bD hT dL hm Yo rfl (of_decide_eq_true (by kernel_rfl)) rfl 60 VK (fun _ => ?_) K []
 simp only [aa.all, ax, beq_iff_eq, beq_eq_false_iff_ne, ne_eq, Int.toNat_natCast, Nat.add_zero]
 refine ⟨fun hb => ?_, fun hb => ⟨⟨by omega, by omega⟩, ?_⟩⟩
 ·have : A = 0 := iC.1 (by omega)
  subst this
  rw [Nat.zero_mul]; exact iF
 ·have hA0 : A ≠ 0 := fun h => hb (by rw [h]; rfl)
  have hlt : A * 2 ^ (32 * n) < 2 ^ (32 * (n + nl A)) := by
   rw [show 32 * (n + nl A) = 32 * nl A + 32 * n by omega, Nat.pow_add]
   exact (Nat.mul_lt_mul_right (Nat.two_pow_pos _)).2 jS
  have hval : A * 2 ^ (32 * n) = val (n + nl A) (fun i => if i < n then 0 else ak A (i - n)) := by
   rw [val_add, val_zero fun i hi => if_pos hi, Nat.zero_add]
   congr 1
   have := eM (N := A)
   conv => lhs; rw [← this]
   exact val_congr fun i hi => by rw [if_neg (by omega)]; congr 1; omega
  have hz : ∀ i, i < n + nl A → (if i < n then 0 else ak A (i - n)) < 2 ^ 32 := fun i _ => by
   split
   ·omega
   ·exact cJ
  refine jj ?_ fun i hi => ?_
  ·rw [hval]
   refine z9 hz (.inr ?_)
   have hp := eO.2 hA0
   rw [if_neg (by omega), show n + nl A - 1 - n = nl A - 1 by omega]
   exact yK hA0
  ·rw [hval, mH hz hi]
   split <;> rfl
def Gx : Spec := bt fun l => match l with
 | [a, .int .i64 n] => match gm a with
  | some A => some (aF (.mag (A * 2 ^ (32 * n.toNat))) [nl A < 2 ^ 40, 0 ≤ n, n < 2 ^ 40])
  | none => none
 | _ => none
theorem Nx : ∀ K args pre r, Gx K args pre = some r → az P vh K args pre r :=
 B1 (g := fun A n => .mag (A * 2 ^ (32 * n.toNat))) (l := fun A => [nl A < 2 ^ 40]) (m := 2 ^ 40) fun {A n} h hn K => by
  have := ado (A := A) (n := n) h (by omega) K
  simpa using this
theorem U2 {A b : Nat} (hA : nl A < 2 ^ 39) (hb : b < 2 ^ 32) (K : Nat) : az P wh K [.mag A, .int .u32 b] [] (aF (.mag (A * b)) []) := by
 refine bD hT Qu hm XB rfl (of_decide_eq_true (by kernel_rfl)) rfl 60 abZ (fun _ => ?_) K []
 have e : IntKind.u64.wrap (b : Int) = (b : Int) := bC (by omega) (by omega)
 rw [e]
 simp only [aa.all, ax, Int.toNat_natCast]
 have : nl b ≤ 1 := cw.2 (by omega)
 exact ⟨⟨by omega, hA, by omega⟩, .refl _⟩
def DY : Spec := bt fun l => match l with
 | [a, .int .u32 b] => match gm a with
  | some A => some (aF (.mag (A * b.toNat)) [nl A < 2 ^ 39, 0 ≤ b, b < 2 ^ 32])
  | none => none
 | _ => none
theorem MB : ∀ K args pre r, DY K args pre = some r → az P wh K args pre r := by
 refine bH fun K args r hk hs _ => ?_
 split at hs
 ·rename_i a b
  split at hs
  ·rename_i A hA
   simp only [Option.some.injEq] at hs
   subst hs
   intro need
   obtain ⟨h1, h2, h3⟩ : nl A < 2 ^ 39 ∧ 0 ≤ b ∧ b < 2 ^ 32 := need
   obtain ⟨b, rfl⟩ := Int.eq_ofNat_of_zero_le h2
   exact fk (U2 h1 (by omega) K) hk ⟨jd hA, .refl _, trivial⟩ [] trivial
  ·simp at hs
 ·simp at hs
theorem Q8 {A k i : Nat} : ak A (i + k) = ak (A / 2 ^ (32 * k)) i := by
 unfold ak
 rw [Nat.div_div_eq_div_mul, ← Nat.pow_add]
 congr 3
 omega
theorem TE {a b s : Nat} (ha : a < 2 ^ 32) (hb : b < 2 ^ 32) (hs : s < 32) : (b * 4294967296 + a) / 2 ^ s % 4294967296 = a / 2 ^ s + b % 2 ^ s * 2 ^ (32 - s) := by
 have := xb (R := b * 4294967296 + a) (k := 0) hs
 have l0 : ak (b * 4294967296 + a) 0 = a := by unfold ak; simp; omega
 have l1 : ak (b * 4294967296 + a) (0 + 1) = b := by unfold ak; simp; omega
 rw [l0, l1] at this
 rw [← this]
 unfold ak
 simp
theorem Uc {A n : Nat} (hA : nl A < 2 ^ 40) (hn : n < 2 ^ 62) (K : Nat) : az P uI K [.mag A, .int .i64 n] [] (aF (.mag (A / 2 ^ n)) []) := by
 refine fe hT Rg rfl (of_decide_eq_true (by kernel_rfl)) rfl (fun _ c0 h0 => ?_) K []
 have hk0 := z5 h0
 refine aq.hole [1,1,1,1,0,1] (by kernel_rfl) (aA.aZ hT dL hm 60 (j6 ++ [4]) Ww (by kernel_rfl) ?_)
 have hw : IntKind.i64.wrap ((n : Int).tdiv 32) = ((n / 32 : Nat) : Int) := by
  rw [show (n : Int).tdiv 32 = ((n / 32 : Nat) : Int) from (Int.ofNat_tdiv n 32).symm]
  exact dy rfl (by omega)
 have hmd : (n : Int).tmod 32 = ((n % 32 : Nat) : Int) := (Int.ofNat_tmod n 32).symm
 rw [hw]
 obtain ⟨k, hk⟩ : ∃ k, k = n / 32 := ⟨_, rfl⟩
 obtain ⟨s, hs⟩ : ∃ s, s = n % 32 := ⟨_, rfl⟩
 rw [← hs] at hmd
 rw [← hk]
 have hnk : 2 ^ n = 2 ^ (32 * k) * 2 ^ s := by rw [← Nat.pow_add]; congr 1; omega
 simp only [aa.all, ax, decide_eq_true_eq, decide_eq_false_iff_not, Int.toNat_natCast]
 refine ⟨by omega, fun hb s' hv => ef (.inl ?_), fun hb => ⟨⟨by omega, by omega⟩, by omega, fun s' hv => bI ?_⟩⟩
 ·refine e9 (us := [.nil]) (.inr rfl) hv (by kernel_rfl) ?_
  have : A / 2 ^ n = 0 := by
   rw [hnk, ← Nat.div_div_eq_div_mul, Nat.div_eq_of_lt (cw.1 (show nl A ≤ k by omega)), Nat.zero_div]
  rw [this]; exact iF
 have hkA : k < nl A := by omega
 have hv := gr (ls := j6) (l := [4]) (vs := [.aj 1 (nl A - k) fun i => .int .u32 (ak A (i + k) : Nat), .int .i64 n, .own 53248 1 0 (nl A - k), .int .i64 0]) hv rfl rfl
 obtain ⟨R, hR⟩ : ∃ R, R = A / 2 ^ (32 * k) := ⟨_, rfl⟩
 obtain ⟨l, hl⟩ : ∃ l, l = nl A - k := ⟨_, rfl⟩
 have hRl : R < 2 ^ (32 * l) := by
  rw [hR, Nat.div_lt_iff_lt_mul (Nat.two_pow_pos _), ← Nat.pow_add, ← Nat.mul_add]
  exact cw.1 (show nl A ≤ l + k by omega)
 have hfun : (fun i => AV.int .u32 (ak A (i + k) : Nat)) = ah (ak R) := by
  funext i; unfold ah; rw [Q8, hR]
 rw [hfun, ← hl] at hv
 refine aq.gk (i := 0) (y := JG) (by kernel_rfl) (fun p : Nat × (Nat → Nat) => ⟨aB j6 (sM (ak R) l n p.1 7), cu 7 l p.2, 8⟩)
  (fun p => p.1 ≤ l ∧ ∀ j, j < p.1 → p.2 j = ak (R / 2 ^ s) j)
  (fun p => l - p.1) (0, fun _ => 0)
  (cA [(7, 53248)] hv hk0 rfl ⟨⟨rfl, aG rfl⟩, ⟨rfl, aG rfl⟩, ⟨rfl, cj rfl rfl rfl⟩, ⟨rfl, aG rfl⟩, trivial⟩ ⟨⟨_, _, rfl, rfl, ew rfl fun j _ => rfl⟩, trivial⟩)
  ⟨by simp, fun j hj => by simp only at hj; omega⟩ ?_
 rintro ⟨i, o⟩ ⟨hi, ho⟩
 simp only at hi ho
 have hs32 : s < 32 := by omega
 have ha := cJ (N := R) (i := i)
 have hb' := cJ (N := R) (i := i + 1)
 refine aq.aZ hT dL hm 60 j6 XX (by kernel_rfl) ?_
 have w1 : IntKind.i64.wrap ((i : Int) + 1) = if i < l then ((i + 1 : Nat) : Int) else IntKind.i64.wrap ((i : Int) + 1) := by
  split
  ·exact dy (by omega) (by omega)
  ·rfl
 simp only [aa.all, ax, decide_eq_true_eq, decide_eq_false_iff_not, Int.toNat_natCast, Nat.add_zero, beq_iff_eq]
 have next : ∀ {s' : aE} {v : Int}, i < l → v = ((ak (R / 2 ^ s) i : Nat) : Int) → aU j6 s' = some (sM (ak R) l n (i + 1) 7, [(7, ⟨true, true, 1, l, fun j => if j = i then .int .u32 v else ah o j⟩)]) →
   ∃ p : Nat × (Nat → Nat), (∃ ρ, Le c0 ρ s' ⟨aB j6 (sM (ak R) l n p.1 7), cu 7 l p.2, 8⟩) ∧ (p.1 ≤ l ∧ ∀ j, j < p.1 → p.2 j = ak (R / 2 ^ s) j) ∧ l - p.1 < l - i := by
  intro s' v hil hv1 hv
  refine ⟨(i + 1, bG o i (ak (R / 2 ^ s) i)), kS (cM hv rfl ?_) (h0 _) rfl (fz (by omega)), ⟨by simp only; omega, fun j hj => ?_⟩, by simp only; omega⟩
  ·simp only [cu]
   congr 3
   funext j
   exact fq hv1 j
  ·simp only at hj ⊢
   unfold bG
   split
   ·rename_i h; rw [h]
   ·exact ho j (by omega)
 refine ⟨fun hb => ?_, fun hb s' hv => ek ?_⟩
 ·have hil : i < l := by omega
  rw [if_pos hil] at w1
  rw [w1, hmd]
  have hf : ∀ x : Nat, (x : Int).fdiv (2 ^ min ((s : Int).toNat) IntKind.u64.bits) = ((x / 2 ^ s : Nat) : Int) := fun x => by
   have : min ((s : Int).toNat) IntKind.u64.bits = s := by
    have : IntKind.u64.bits = 64 := rfl
    omega
   rw [this, Int.fdiv_eq_ediv_of_nonneg _ (by exact Int.le_of_lt (Int.pow_pos (by decide)))]
   simp
  have wa : IntKind.u64.wrap (ak R i : Int) = ((ak R i : Nat) : Int) := bC (by omega) (by omega)
  have hor : IntKind.u64.wrap ((BitVec.ofInt IntKind.u64.bits (IntKind.u64.wrap (ak R i : Int)) ||| BitVec.ofInt IntKind.u64.bits (IntKind.u64.wrap (IntKind.u64.wrap (ak R (i + 1) : Int) * 2 ^ min (Int.toNat 32) IntKind.u64.bits))).toNat : Int) = ((ak R (i + 1) * 4294967296 + ak R i : Nat) : Int) := by
   rw [BitVec.or_comm, bC (x := (ak R (i + 1) : Int)) (by omega) (by omega)]
   exact pn hb' ha
  simp only [Int.toNat_natCast]
  refine ⟨by omega, fun h1 => ⟨⟨by omega, by omega⟩, ⟨by omega, by omega, by omega, by omega⟩, fun s' hv => next hil ?_ hv⟩, fun h1 => ⟨⟨by omega, by omega, by omega, by omega⟩, fun s' hv => next hil ?_ hv⟩⟩
  ·rw [hor]
   have := hf (ak R (i + 1) * 4294967296 + ak R i)
   simp only [Int.toNat_natCast] at this
   rw [this, gU, TE ha hb' hs32, xb hs32]
  ·rw [wa]
   have := hf (ak R i)
   simp only [Int.toNat_natCast] at this
   have hd := Nat.div_le_self (ak R i) (2 ^ s)
   rw [this, gU, xb hs32, gB (A := R) (i := i + 1) (cw.2 (Nat.lt_of_lt_of_le hRl (Nat.pow_le_pow_right (by omega) (by omega)))), Nat.zero_mod, Nat.zero_mul, Nat.add_zero, Nat.mod_eq_of_lt (by omega)]
 ·have hil : i = l := by omega
  show aA P c0 kJ.ntmps (behind (au kJ) [1,1,1,1,0,1]) s' _
  refine aA.ij hT dL hm 60 hv (h0 _) rfl (fz (by omega)) Y0 (by kernel_rfl) (by kernel_rfl) ?_
  simp only [aa.all, ax, Nat.add_zero, gP]
  refine ⟨⟨eW fun j hj => ?_, by omega⟩, cZ (congrArg AV.mag ?_)⟩
  ·rw [ho j (by omega)]; exact cJ
  ·rw [val_congr (y := ak (R / 2 ^ s)) fun j hj => ho j (by omega), mN (Nat.lt_of_le_of_lt (Nat.div_le_self _ _) hRl), hR, hnk, Nat.div_div_eq_div_mul]
def DQ : Spec := bt fun l => match l with
 | [a, .int .i64 n] => match gm a with
  | some A => some (aF (.mag (A / 2 ^ n.toNat)) [nl A < 2 ^ 40, 0 ≤ n, n < 2 ^ 62])
  | none => none
 | _ => none
theorem W1 : ∀ K args pre r, DQ K args pre = some r → az P uI K args pre r :=
 B1 (g := fun A n => .mag (A / 2 ^ n.toNat)) (l := fun A => [nl A < 2 ^ 40]) (m := 2 ^ 62) fun {A n} h hn K => by
  have := Uc (A := A) (n := n) h (by omega) K
  simpa using this
end Go.Am.B
