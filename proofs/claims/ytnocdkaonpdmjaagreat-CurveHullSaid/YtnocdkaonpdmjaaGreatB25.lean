/- ref01: up, shifted, times, down. -/
import Derived.Test.YtnocdkaonpdmjaaGreatB24
set_option linter.unusedVariables false
namespace Go.Am.B
open Go Go.Am.N AV
theorem Xy : aO P vM kU (ax kU) := aP O5 (by kernel_rfl) (by kernel_rfl) (by kernel_rfl)
theorem N4 : aO P wJ vE (ax vE) := aP LP (by kernel_rfl) (by kernel_rfl) (by kernel_rfl)
theorem Po : aO P uI sC (ax sC) := aP aa2 (by kernel_rfl) (by kernel_rfl) (by kernel_rfl)
theorem QK : aO P vu kQ (ax kQ) := aP aaR (by kernel_rfl) (by kernel_rfl) (by kernel_rfl)
abbrev oL : List Nat := [0, 1, 5, 6, 7]
abbrev zQ (A n l c i K : Nat) : List AV := [.mag A, .int .i64 n, .own K 1 0 l, .int .u64 c, .int .i64 i]
noncomputable abbrev Gg : Code := part (ax kU) [1,1,1,0,1,0,0]
def H6 : aQ := [(kS, p7), (l7, sI), (p5, Bg)]
theorem aaU : bg P H6 := aH vG (aH yQ (aH Ey bn))
theorem Sp {A n : Nat} : aI T dx [] 60 oL (before (ax kU) [1,1,1,0,1]) ⟨aL 0 [.mag A, .int .i64 n], [], 0⟩ =
  some (aa.ag [(32 : Int) ≠ (0 : Int), (0 : Int) ≤ IntKind.i64.wrap ((↑n : Int).tdiv (32 : Int)) ∧ IntKind.i64.wrap ((↑n : Int).tdiv (32 : Int)) ≤ IntKind.i64.wrap ((↑n : Int).tdiv (32 : Int)) ∧ IntKind.i64.wrap ((↑n : Int).tdiv (32 : Int)) ≤ (2 : Int) ^ 47 ∧ IntKind.i64.wrap ((↑n : Int).tdiv (32 : Int)) * (↑(4 : Nat) : Int) ≤ (2 : Int) ^ 47] (aa.leaf aj.normal ([mag A, int IntKind.i64 (↑n : Int), own 12288 1 0 (IntKind.i64.wrap ((↑n : Int).tdiv (32 : Int))).toNat, int IntKind.u64 (0 : Int), int IntKind.i64 (0 : Int)], [((12288 : Nat), ⟨true, true, 1, (IntKind.i64.wrap ((↑n : Int).tdiv (32 : Int))).toNat, fun (x : Nat) ↦ int IntKind.u32 (0 : Int)⟩)]))) := by kernel_rfl
theorem ab0 {A n l c i : Nat} {o : Nat → Nat} : aI T dx [14] 60 oL [Gg] ⟨aC oL (zQ A n l c i 7), cu 7 l o, 8⟩ =
  some (aa.fork (decide ((↑i : Int) < (↑(nl A) : Int))) (aa.ag [(0 : Int) ≤ (↑i : Int) ∧ (↑i : Int).toNat < nl A, (32 : Int) ≠ (0 : Int), (0 : Int) ≤ (↑n : Int).tmod (32 : Int)] (aa.ag [(1 : Nat) * 1 ≤ 2 ^ 24, (l + 1) * ((4 : Nat) + 1) * 2 ≤ 2 ^ 47] (aa.ag [(0 : Int) ≤ (32 : Int)] (aa.leaf aj.normal ([mag A, int IntKind.i64 (↑n : Int), own 77832 1 0 (l + 1), int IntKind.u64 ((IntKind.u64.wrap (↑(BitVec.ofInt IntKind.u64.bits (↑c : Int) ||| BitVec.ofInt IntKind.u64.bits (IntKind.u64.wrap (IntKind.u64.wrap (↑(au A (↑i : Int).toNat) : Int) * (2 : Int) ^ min ((↑n : Int).tmod (32 : Int)).toNat IntKind.u64.bits))).toNat : Int)).fdiv ((2 : Int) ^ min (Int.toNat (32 : Int)) IntKind.u64.bits)), int IntKind.i64 (IntKind.i64.wrap ((↑i : Int) + (1 : Int)))], [((77832 : Nat), ⟨true, true, 1, l + 1, fun (i_1 : Nat) ↦ if i_1 < l then ah o i_1 else nth [int IntKind.u32 (IntKind.u32.wrap (IntKind.u64.wrap (↑(BitVec.ofInt IntKind.u64.bits (↑c : Int) ||| BitVec.ofInt IntKind.u64.bits (IntKind.u64.wrap (IntKind.u64.wrap (↑(au A (↑i : Int).toNat) : Int) * (2 : Int) ^ min ((↑n : Int).tmod (32 : Int)).toNat IntKind.u64.bits))).toNat : Int)))] (int IntKind.u32 (0 : Int)) (i_1 - l + 0)⟩)]))))) (aa.leaf (aj.exit 0) ([mag A, int IntKind.i64 (↑n : Int), own 7 1 0 l, int IntKind.u64 (↑c : Int), int IntKind.i64 (↑i : Int)], [((7 : Nat), ⟨true, true, 1, l, ah o⟩)]))) := by kernel_rfl
theorem Q4 {A n l c i : Nat} {o : Nat → Nat} : cq T dx [] 60 kU (behind (ax kU) [1,1,1,0,1]) ⟨aC oL (zQ A n l c i 7), cu 7 l o, 8⟩ =
  some (aa.ag [(1 : Nat) * 1 ≤ 2 ^ 24, (l + 1) * ((4 : Nat) + 1) * 2 ≤ 2 ^ 47, cO (l + 1) fun (i : Nat) ↦ if i + 0 < l then ah o (i + 0) else nth [int IntKind.u32 (IntKind.u32.wrap (↑c : Int))] (int IntKind.u32 (0 : Int)) (i + 0 - l + 0), l + 1 < 2 ^ 40] (aa.leaf aj.ret [mag (val (l + 1) fun (i : Nat) ↦ numOf (if i + 0 < l then ah o (i + 0) else nth [int IntKind.u32 (IntKind.u32.wrap (↑c : Int))] (int IntKind.u32 (0 : Int)) (i + 0 - l + 0)))])) := by kernel_rfl
theorem QH {A n : Nat} : bB T dx [7] 60 vE (ax vE) ⟨aL 0 [.mag A, .int .i64 n], [], 0⟩ =
  some (aa.fork ((↑(nl A) : Int) == (0 : Int)) (aa.leaf aj.ret [nil]) (aa.ag [(0 : Int) ≤ (↑n : Int) ∧ (↑n : Int) ≤ (↑n : Int) ∧ (↑n : Int) ≤ (2 : Int) ^ 47 ∧ (↑n : Int) * (↑(4 : Nat) : Int) ≤ (2 : Int) ^ 47, ((↑n : Int).toNat + nl A) * ((4 : Nat) + 1) * 2 ≤ 2 ^ 47] (aa.leaf aj.ret [ak 1 ((↑n : Int).toNat + nl A) fun (i : Nat) ↦ if i + 0 < (↑n : Int).toNat then int IntKind.u32 (0 : Int) else int IntKind.u32 (↑(au A (i + 0 - (↑n : Int).toNat)) : Int)]))) := by kernel_rfl
theorem MH {A b : Nat} : bB T H6 [] 60 sC (ax sC) ⟨aL 0 [.mag A, .int .u32 b], [], 0⟩ =
  some (aa.ag [(0 : Int) ≤ IntKind.u64.wrap (↑b : Int) ∧ IntKind.u64.wrap (↑b : Int) < (2 : Int) ^ 64, nl A < 2 ^ 39, nl (IntKind.u64.wrap (↑b : Int)).toNat < 2 ^ 39] (aa.leaf aj.ret [mag (A * (IntKind.u64.wrap (↑b : Int)).toNat)])) := by kernel_rfl
abbrev jV : List Nat := [0, 1, 5, 6]
abbrev rK (a : Nat → Nat) (l n i K : Nat) : List AV := [.ak 1 l (ah a), .int .i64 n, .own K 1 0 l, .int .i64 i]
noncomputable abbrev G5 : Code := part (ax kQ) [1,1,1,1,0,1,0,0]
theorem OK {A n : Nat} : aI T dx [12] 60 (jV ++ [4]) (before (ax kQ) [1,1,1,1,0,1]) ⟨aL 0 [.mag A, .int .i64 n], [], 0⟩ =
  some (aa.ag [(32 : Int) ≠ (0 : Int)] (aa.fork (decide (IntKind.i64.wrap ((↑n : Int).tdiv (32 : Int)) ≥ (↑(nl A) : Int))) (aa.leaf aj.ret ([mag A, int IntKind.i64 (↑n : Int), tuple [], tuple [], nil], [])) (aa.ag [(32 : Int) ≠ (0 : Int), (0 : Int) ≤ IntKind.i64.wrap ((↑n : Int).tdiv (32 : Int)) ∧ IntKind.i64.wrap ((↑n : Int).tdiv (32 : Int)) ≤ (↑(nl A) : Int) ∧ (↑(nl A) : Int) ≤ (↑(nl A) : Int) ∧ (↑(nl A) : Int) ≤ (↑(nl A) : Int)] (aa.ag [(0 : Int) ≤ (↑((↑(nl A) : Int).toNat - (IntKind.i64.wrap ((↑n : Int).tdiv (32 : Int))).toNat) : Int) ∧ (↑((↑(nl A) : Int).toNat - (IntKind.i64.wrap ((↑n : Int).tdiv (32 : Int))).toNat) : Int) ≤ (↑((↑(nl A) : Int).toNat - (IntKind.i64.wrap ((↑n : Int).tdiv (32 : Int))).toNat) : Int) ∧ (↑((↑(nl A) : Int).toNat - (IntKind.i64.wrap ((↑n : Int).tdiv (32 : Int))).toNat) : Int) ≤ (2 : Int) ^ 47 ∧ (↑((↑(nl A) : Int).toNat - (IntKind.i64.wrap ((↑n : Int).tdiv (32 : Int))).toNat) : Int) * (↑(4 : Nat) : Int) ≤ (2 : Int) ^ 47] (aa.leaf aj.normal ([ak 1 ((↑(nl A) : Int).toNat - (IntKind.i64.wrap ((↑n : Int).tdiv (32 : Int))).toNat) fun (i : Nat) ↦ int IntKind.u32 (↑(au A (i + (IntKind.i64.wrap ((↑n : Int).tdiv (32 : Int))).toNat)) : Int), int IntKind.i64 (↑n : Int), own 53248 1 0 (↑((↑(nl A) : Int).toNat - (IntKind.i64.wrap ((↑n : Int).tdiv (32 : Int))).toNat) : Int).toNat, int IntKind.i64 (0 : Int), nil], [((53248 : Nat), ⟨true, true, 1, (↑((↑(nl A) : Int).toNat - (IntKind.i64.wrap ((↑n : Int).tdiv (32 : Int))).toNat) : Int).toNat, fun (x : Nat) ↦ int IntKind.u32 (0 : Int)⟩)])))))) := by kernel_rfl
theorem WK {n l i : Nat} {a o : Nat → Nat} : aI T dx [23, 35] 60 jV [G5] ⟨aC jV (rK a l n i 7), cu 7 l o, 8⟩ =
  some (aa.fork (decide ((↑i : Int) < (↑l : Int))) (aa.ag [(0 : Int) ≤ (↑i : Int) ∧ (↑i : Int).toNat < l] (aa.fork (decide (IntKind.i64.wrap ((↑i : Int) + (1 : Int)) < (↑l : Int))) (aa.ag [(0 : Int) ≤ IntKind.i64.wrap ((↑i : Int) + (1 : Int)) ∧ (IntKind.i64.wrap ((↑i : Int) + (1 : Int))).toNat < l, (0 : Int) ≤ (32 : Int)] (aa.ag [(32 : Int) ≠ (0 : Int), (0 : Int) ≤ (↑n : Int).tmod (32 : Int), (0 : Int) ≤ (↑i : Int) ∧ (↑i : Int).toNat < l, (↑i : Int).toNat + 0 < l] (aa.leaf aj.normal ([ak 1 l (ah a), int IntKind.i64 (↑n : Int), own 7 1 0 l, int IntKind.i64 (IntKind.i64.wrap ((↑i : Int) + (1 : Int)))], [((7 : Nat), ⟨true, true, 1, l, fun (j : Nat) ↦ if (j == (↑i : Int).toNat + 0) = true then int IntKind.u32 (IntKind.u32.wrap ((IntKind.u64.wrap (↑(BitVec.ofInt IntKind.u64.bits (IntKind.u64.wrap (↑(a (↑i : Int).toNat) : Int)) ||| BitVec.ofInt IntKind.u64.bits (IntKind.u64.wrap (IntKind.u64.wrap (↑(a (IntKind.i64.wrap ((↑i : Int) + (1 : Int))).toNat) : Int) * (2 : Int) ^ min (Int.toNat (32 : Int)) IntKind.u64.bits))).toNat : Int)).fdiv ((2 : Int) ^ min ((↑n : Int).tmod (32 : Int)).toNat IntKind.u64.bits))) else ah o j⟩)])))) (aa.ag [(32 : Int) ≠ (0 : Int), (0 : Int) ≤ (↑n : Int).tmod (32 : Int), (0 : Int) ≤ (↑i : Int) ∧ (↑i : Int).toNat < l, (↑i : Int).toNat + 0 < l] (aa.leaf aj.normal ([ak 1 l (ah a), int IntKind.i64 (↑n : Int), own 7 1 0 l, int IntKind.i64 (IntKind.i64.wrap ((↑i : Int) + (1 : Int)))], [((7 : Nat), ⟨true, true, 1, l, fun (j : Nat) ↦ if (j == (↑i : Int).toNat + 0) = true then int IntKind.u32 (IntKind.u32.wrap ((IntKind.u64.wrap (↑(a (↑i : Int).toNat) : Int)).fdiv ((2 : Int) ^ min ((↑n : Int).tmod (32 : Int)).toNat IntKind.u64.bits))) else ah o j⟩)]))))) (aa.leaf (aj.exit 0) ([ak 1 l (ah a), int IntKind.i64 (↑n : Int), own 7 1 0 l, int IntKind.i64 (↑i : Int)], [((7 : Nat), ⟨true, true, 1, l, ah o⟩)]))) := by kernel_rfl
theorem Oc {n l i : Nat} {a o : Nat → Nat} : cq T dx [] 60 kQ (behind (ax kQ) [1,1,1,1,0,1]) ⟨aC jV (rK a l n i 7), cu 7 l o, 8⟩ =
  some (aa.ag [cO l fun (i : Nat) ↦ ah o (i + 0), l < 2 ^ 40] (aa.leaf aj.ret [mag (val l fun (i : Nat) ↦ numOf (ah o (i + 0)))])) := by kernel_rfl
theorem zU {c : Ctx} (h0 : ∀ nx k x, c.k0 k = some x → k < nx) : c.k0 = aW := by
 funext k
 cases hk : c.k0 k with
 | none => rfl
 | some x => have := h0 0 k x hk; omega
theorem IX {o : Nat → Nat} {l : Nat} {v : Int} {x : Nat} (hv : v = (x : Nat)) {j : Nat} (hj : j < l + 1) : (if j < l then ah o j else nth [.int .u32 v] (.int .u32 0) (j - l)) = ah (bJ o l x) j := by
 by_cases h : j < l
 ·rw [if_pos h]; unfold ah; rw [eg (by omega)]
 ·have : j = l := by omega
  subst this
  rw [if_neg h, hv]
  simp [nth, ah, ia]
theorem Rw {A n : Nat} (hA : nl A < 2 ^ 39) (hn : n < 2 ^ 43) (K : Nat) : aA P vM K [.mag A, .int .i64 n] [] (aG (.mag (A * 2 ^ n)) []) := by
 refine gb hT Xy rfl (of_decide_eq_true (by kernel_rfl)) rfl (fun _ c0 h0 => ?_) K []
 have hk0 := zU h0
 refine aq.hole [1,1,1,0,1] (by kernel_rfl) (aB.aX hT dJ hm 60 oL Sp (by kernel_rfl) ?_)
 have hw : IntKind.i64.wrap ((n : Int).tdiv 32) = ((n / 32 : Nat) : Int) := by
  rw [show (n : Int).tdiv 32 = ((n / 32 : Nat) : Int) from (Int.ofNat_tdiv n 32).symm]
  exact dw rfl (by omega)
 have hmd : (n : Int).tmod 32 = ((n % 32 : Nat) : Int) := (Int.ofNat_tmod n 32).symm
 rw [hw]
 obtain ⟨k, hk⟩ : ∃ k, k = n / 32 := ⟨_, rfl⟩
 obtain ⟨s, hs⟩ : ∃ s, s = n % 32 := ⟨_, rfl⟩
 rw [← hs] at hmd
 rw [← hk]
 simp only [aa.all, ay, Int.toNat_natCast]
 refine ⟨by omega, fun s' hv => bP ?_⟩
 refine aq.gp (i := 0) (y := Gg) (by kernel_rfl) (fun p : Nat × Nat × (Nat → Nat) => ⟨aC oL (zQ A n (k + p.1) p.2.1 p.1 7), cu 7 (k + p.1) p.2.2, 8⟩)
  (fun p => p.1 ≤ nl A ∧ p.2.1 < 2 ^ s ∧ (∀ j, j < k + p.1 → p.2.2 j < 2 ^ 32) ∧ val (k + p.1) p.2.2 + p.2.1 * 2 ^ (32 * (k + p.1)) = val p.1 (au A) * 2 ^ (32 * k) * 2 ^ s)
  (fun p => nl A - p.1) (0, 0, fun _ => 0)
  (cC [(7, 12288)] hv hk0 rfl ⟨⟨rfl, aF rfl⟩, ⟨rfl, aF rfl⟩, ⟨rfl, cF rfl rfl rfl⟩, ⟨rfl, aF rfl⟩, ⟨rfl, aF rfl⟩, trivial⟩ ⟨⟨_, _, rfl, rfl, dZ rfl fun j _ => rfl⟩, trivial⟩)
  ⟨by simp, Nat.two_pow_pos s, fun _ _ => by simp, ?_⟩ ?_
 ·simp only
  rw [val_zero fun _ _ => rfl]
  simp [val]
 rintro ⟨i, c, o⟩ ⟨hi, hc, ho, hval⟩
 simp only at hi hc ho hval
 have hs32 : s < 32 := by omega
 have h31 : 2 ^ s ≤ 2 ^ 31 := Nat.pow_le_pow_right (by omega) (by omega)
 have hzi := cH (N := A) (i := i)
 refine aq.aX hT dJ hm 60 oL ab0 (by kernel_rfl) ?_
 rw [hmd]
 have hor := F2 hs32 hzi hc
 obtain ⟨b1, b2⟩ := J8 hs32 hzi hc
 simp only [aa.all, ay, decide_eq_true_eq, decide_eq_false_iff_not, Int.toNat_natCast, Nat.add_zero] at hor ⊢
 rw [hor]
 refine ⟨fun hb => ⟨⟨by omega, by omega, by omega⟩, ⟨by omega, by omega⟩, by omega, fun s' hv => ⟨(i + 1, (c + au A i * 2 ^ s) / 4294967296, bJ o (k + i) ((c + au A i * 2 ^ s) % 4294967296)), ?_, ⟨by simp only; omega, b2, fun j hj => ?_, ?_⟩, by simp only; omega⟩⟩, fun hb s' hv => dQ ?_⟩
 ·refine cC (vs := zQ A n (k + (i + 1)) ((c + au A i * 2 ^ s) / 4294967296) (i + 1) 7) (ps := cu 7 (k + (i + 1)) (bJ o (k + i) ((c + au A i * 2 ^ s) % 4294967296))) [(7, 77832)] hv hk0 rfl ⟨⟨rfl, aF rfl⟩, ⟨rfl, aF rfl⟩, ⟨rfl, cF rfl rfl rfl⟩, ⟨rfl, eG ?_⟩, ⟨rfl, eG ?_⟩, trivial⟩
   ⟨⟨_, _, rfl, rfl, dZ rfl fun j hj => IX (by rw [gZ]) (by omega)⟩, trivial⟩
  ·rw [jo]; omega
  ·rw [wrap_i64 (by omega) (by omega)]; omega
 ·simp only at hj ⊢
  unfold bJ
  split
  ·omega
  ·exact ho j (by omega)
 ·simp only
  have := Ho (x := au A i) hval
  rw [show k + (i + 1) = (k + i) + 1 by omega, nD, fB, this, val]
  congr 1
  rw [Nat.add_mul, Nat.mul_assoc, ← Nat.pow_add, show 32 * i + 32 * k = 32 * (k + i) by omega]
 ·have hin : i = nl A := by omega
  show aB P c0 kU.ntmps (behind (ax kU) [1,1,1,0,1]) s' _
  refine aB.iC hT dJ hm 60 hv (h0 _) rfl (ff (by omega)) Q4 (by kernel_rfl) (by kernel_rfl) ?_
  simp only [aa.all, ay, Nat.add_zero]
  have ho' : ∀ j, j < k + i + 1 → bJ o (k + i) c j < 2 ^ 32 := fun j hj => by
   unfold bJ
   split
   ·omega
   ·exact ho j (by omega)
  have e : ∀ j, j < k + i + 1 → (if j < k + i then ah o j else nth [.int .u32 (IntKind.u32.wrap (c : Int))] (.int .u32 0) (j - (k + i))) = ah (bJ o (k + i) c) j := fun j hj => IX (wrap_u32 (by omega) (by omega)) hj
  refine ⟨⟨by omega, by omega, fun j hj => ?_, by omega⟩, cI (congrArg AV.mag ?_)⟩
  ·exact ⟨_, ho' j hj, e j hj⟩
  ·rw [val_congr (y := bJ o (k + i) c) fun j hj => (congrArg numOf (e j hj)).trans BO, nD, hval, hin, eC, Nat.mul_assoc, ← Nat.pow_add]
   congr 2
   omega
def Ef : Spec := bu fun l => match l with
 | [a, .int .i64 n] => match gm a with
  | some A => some (aG (.mag (A * 2 ^ n.toNat)) [nl A < 2 ^ 39, 0 ≤ n, n < 2 ^ 43])
  | none => none
 | _ => none
theorem Dg {f : FuncId} {g : Nat → Int → AV} {l : Nat → List Prop} {m : Int} (h : ∀ {A n : Nat}, ay (l A) → (n : Int) < m → ∀ K, aA P f K [.mag A, .int .i64 n] [] (aG (g A n) [])) : ∀ K args pre r, bu (fun a => match a with
 | [a, .int .i64 n] => match gm a with
  | some A => some (aG (g A n) (l A ++ [0 ≤ n, n < m]))
  | none => none
 | _ => none) K args pre = some r → aA P f K args pre r := by
 refine bN fun K args r hk hs _ => ?_
 split at hs
 ·split at hs
  ·rename_i A hA
   simp only [Option.some.injEq] at hs
   subst hs
   intro need
   obtain ⟨h1, h2, h3⟩ := dy.1 need
   rename_i n _
   obtain ⟨n, rfl⟩ := Int.eq_ofNat_of_zero_le h2
   exact fc (h h1 h3 K) hk ⟨jg hA, .refl _, trivial⟩ [] trivial
  ·simp at hs
 ·simp at hs
theorem Nu : ∀ K args pre r, Ef K args pre = some r → aA P vM K args pre r :=
 Dg (g := fun A n => .mag (A * 2 ^ n.toNat)) (l := fun A => [nl A < 2 ^ 39]) (m := 2 ^ 43) fun {A n} h hn K => by
  have := Rw (A := A) (n := n) h (by omega) K
  simpa using this
theorem Tk {A n : Nat} (hA : nl A < 2 ^ 40) (hn : n < 2 ^ 40) (K : Nat) : aA P wJ K [.mag A, .int .i64 n] [] (aG (.mag (A * 2 ^ (32 * n))) []) := by
 refine bH hT dJ hm N4 rfl (of_decide_eq_true (by kernel_rfl)) rfl 60 QH (fun _ => ?_) K []
 simp only [aa.all, ay, beq_iff_eq, beq_eq_false_iff_ne, ne_eq, Int.toNat_natCast, Nat.add_zero]
 refine ⟨fun hb => ?_, fun hb => ⟨⟨by omega, by omega⟩, ?_⟩⟩
 ·have : A = 0 := gH.1 (by omega)
  subst this
  rw [Nat.zero_mul]; exact iG
 ·have hA0 : A ≠ 0 := fun h => hb (by rw [h]; rfl)
  have hlt : A * 2 ^ (32 * n) < 2 ^ (32 * (n + nl A)) := by
   rw [show 32 * (n + nl A) = 32 * nl A + 32 * n by omega, Nat.pow_add]
   exact (Nat.mul_lt_mul_right (Nat.two_pow_pos _)).2 j8
  have hval : A * 2 ^ (32 * n) = val (n + nl A) (fun i => if i < n then 0 else au A (i - n)) := by
   rw [val_add, val_zero fun i hi => if_pos hi, Nat.zero_add]
   congr 1
   have := eC (N := A)
   conv => lhs; rw [← this]
   exact val_congr fun i hi => by rw [if_neg (by omega)]; congr 1; omega
  have hz : ∀ i, i < n + nl A → (if i < n then 0 else au A (i - n)) < 2 ^ 32 := fun i _ => by
   split
   ·omega
   ·exact cH
  refine jd ?_ fun i hi => ?_
  ·rw [hval]
   refine ya hz (.inr ?_)
   have hp := eP.2 hA0
   rw [if_neg (by omega), show n + nl A - 1 - n = nl A - 1 by omega]
   exact Af hA0
  ·rw [hval, mI hz hi]
   split <;> rfl
def Iy : Spec := bu fun l => match l with
 | [a, .int .i64 n] => match gm a with
  | some A => some (aG (.mag (A * 2 ^ (32 * n.toNat))) [nl A < 2 ^ 40, 0 ≤ n, n < 2 ^ 40])
  | none => none
 | _ => none
theorem OU : ∀ K args pre r, Iy K args pre = some r → aA P wJ K args pre r :=
 Dg (g := fun A n => .mag (A * 2 ^ (32 * n.toNat))) (l := fun A => [nl A < 2 ^ 40]) (m := 2 ^ 40) fun {A n} h hn K => by
  have := Tk (A := A) (n := n) h (by omega) K
  simpa using this
theorem Qr {A b : Nat} (hA : nl A < 2 ^ 39) (hb : b < 2 ^ 32) (K : Nat) : aA P uI K [.mag A, .int .u32 b] [] (aG (.mag (A * b)) []) := by
 refine bH hT aaU hm Po rfl (of_decide_eq_true (by kernel_rfl)) rfl 60 MH (fun _ => ?_) K []
 have e : IntKind.u64.wrap (b : Int) = (b : Int) := wrap_u64 (by omega) (by omega)
 rw [e]
 simp only [aa.all, ay, Int.toNat_natCast]
 have : nl b ≤ 1 := cB.2 (by omega)
 exact ⟨⟨by omega, hA, by omega⟩, .refl _⟩
def G6 : Spec := bu fun l => match l with
 | [a, .int .u32 b] => match gm a with
  | some A => some (aG (.mag (A * b.toNat)) [nl A < 2 ^ 39, 0 ≤ b, b < 2 ^ 32])
  | none => none
 | _ => none
theorem PS : ∀ K args pre r, G6 K args pre = some r → aA P uI K args pre r := by
 refine bN fun K args r hk hs _ => ?_
 split at hs
 ·rename_i a b
  split at hs
  ·rename_i A hA
   simp only [Option.some.injEq] at hs
   subst hs
   intro need
   obtain ⟨h1, h2, h3⟩ : nl A < 2 ^ 39 ∧ 0 ≤ b ∧ b < 2 ^ 32 := need
   obtain ⟨b, rfl⟩ := Int.eq_ofNat_of_zero_le h2
   exact fc (Qr h1 (by omega) K) hk ⟨jg hA, .refl _, trivial⟩ [] trivial
  ·simp at hs
 ·simp at hs
theorem abi {A k i : Nat} : au A (i + k) = au (A / 2 ^ (32 * k)) i := by
 unfold au
 rw [Nat.div_div_eq_div_mul, ← Nat.pow_add]
 congr 3
 omega
theorem TO {a b s : Nat} (ha : a < 2 ^ 32) (hb : b < 2 ^ 32) (hs : s < 32) : (b * 4294967296 + a) / 2 ^ s % 4294967296 = a / 2 ^ s + b % 2 ^ s * 2 ^ (32 - s) := by
 have := vZ (R := b * 4294967296 + a) (k := 0) hs
 have l0 : au (b * 4294967296 + a) 0 = a := by unfold au; simp; omega
 have l1 : au (b * 4294967296 + a) (0 + 1) = b := by unfold au; simp; omega
 rw [l0, l1] at this
 rw [← this]
 unfold au
 simp
theorem Wi {A n : Nat} (hA : nl A < 2 ^ 40) (hn : n < 2 ^ 62) (K : Nat) : aA P vu K [.mag A, .int .i64 n] [] (aG (.mag (A / 2 ^ n)) []) := by
 refine gb hT QK rfl (of_decide_eq_true (by kernel_rfl)) rfl (fun _ c0 h0 => ?_) K []
 have hk0 := zU h0
 refine aq.hole [1,1,1,1,0,1] (by kernel_rfl) (aB.aX hT dJ hm 60 (jV ++ [4]) OK (by kernel_rfl) ?_)
 have hw : IntKind.i64.wrap ((n : Int).tdiv 32) = ((n / 32 : Nat) : Int) := by
  rw [show (n : Int).tdiv 32 = ((n / 32 : Nat) : Int) from (Int.ofNat_tdiv n 32).symm]
  exact dw rfl (by omega)
 have hmd : (n : Int).tmod 32 = ((n % 32 : Nat) : Int) := (Int.ofNat_tmod n 32).symm
 rw [hw]
 obtain ⟨k, hk⟩ : ∃ k, k = n / 32 := ⟨_, rfl⟩
 obtain ⟨s, hs⟩ : ∃ s, s = n % 32 := ⟨_, rfl⟩
 rw [← hs] at hmd
 rw [← hk]
 have hnk : 2 ^ n = 2 ^ (32 * k) * 2 ^ s := by rw [← Nat.pow_add]; congr 1; omega
 simp only [aa.all, ay, decide_eq_true_eq, decide_eq_false_iff_not, Int.toNat_natCast]
 refine ⟨by omega, fun hb s' hv => dS (.inl ?_), fun hb => ⟨⟨by omega, by omega⟩, by omega, fun s' hv => bP ?_⟩⟩
 ·refine eM (us := [.nil]) (.inr rfl) hv (by kernel_rfl) ?_
  have : A / 2 ^ n = 0 := by
   rw [hnk, ← Nat.div_div_eq_div_mul, Nat.div_eq_of_lt (cB.1 (show nl A ≤ k by omega)), Nat.zero_div]
  rw [this]; exact iG
 have hkA : k < nl A := by omega
 have hv := fV (ls := jV) (l := [4]) (vs := [.ak 1 (nl A - k) fun i => .int .u32 (au A (i + k) : Nat), .int .i64 n, .own 53248 1 0 (nl A - k), .int .i64 0]) hv rfl rfl
 obtain ⟨R, hR⟩ : ∃ R, R = A / 2 ^ (32 * k) := ⟨_, rfl⟩
 obtain ⟨l, hl⟩ : ∃ l, l = nl A - k := ⟨_, rfl⟩
 have hRl : R < 2 ^ (32 * l) := by
  rw [hR, Nat.div_lt_iff_lt_mul (Nat.two_pow_pos _), ← Nat.pow_add, ← Nat.mul_add]
  exact cB.1 (show nl A ≤ l + k by omega)
 have hfun : (fun i => AV.int .u32 (au A (i + k) : Nat)) = ah (au R) := by
  funext i; unfold ah; rw [abi, hR]
 rw [hfun, ← hl] at hv
 refine aq.gp (i := 0) (y := G5) (by kernel_rfl) (fun p : Nat × (Nat → Nat) => ⟨aC jV (rK (au R) l n p.1 7), cu 7 l p.2, 8⟩)
  (fun p => p.1 ≤ l ∧ ∀ j, j < p.1 → p.2 j = au (R / 2 ^ s) j)
  (fun p => l - p.1) (0, fun _ => 0)
  (cC [(7, 53248)] hv hk0 rfl ⟨⟨rfl, aF rfl⟩, ⟨rfl, aF rfl⟩, ⟨rfl, cF rfl rfl rfl⟩, ⟨rfl, aF rfl⟩, trivial⟩ ⟨⟨_, _, rfl, rfl, dZ rfl fun j _ => rfl⟩, trivial⟩)
  ⟨by simp, fun j hj => by simp only at hj; omega⟩ ?_
 rintro ⟨i, o⟩ ⟨hi, ho⟩
 simp only at hi ho
 have hs32 : s < 32 := by omega
 have ha := cH (N := R) (i := i)
 have hb' := cH (N := R) (i := i + 1)
 refine aq.aX hT dJ hm 60 jV WK (by kernel_rfl) ?_
 have w1 : IntKind.i64.wrap ((i : Int) + 1) = if i < l then ((i + 1 : Nat) : Int) else IntKind.i64.wrap ((i : Int) + 1) := by
  split
  ·exact dw (by omega) (by omega)
  ·rfl
 simp only [aa.all, ay, decide_eq_true_eq, decide_eq_false_iff_not, Int.toNat_natCast, Nat.add_zero, beq_iff_eq]
 have next : ∀ {s' : aE} {v : Int}, i < l → v = ((au (R / 2 ^ s) i : Nat) : Int) → aU jV s' = some (rK (au R) l n (i + 1) 7, [(7, ⟨true, true, 1, l, fun j => if j = i then .int .u32 v else ah o j⟩)]) →
   ∃ p : Nat × (Nat → Nat), (∃ ρ, Le c0 ρ s' ⟨aC jV (rK (au R) l n p.1 7), cu 7 l p.2, 8⟩) ∧ (p.1 ≤ l ∧ ∀ j, j < p.1 → p.2 j = au (R / 2 ^ s) j) ∧ l - p.1 < l - i := by
  intro s' v hil hv1 hv
  refine ⟨(i + 1, bJ o i (au (R / 2 ^ s) i)), jW (cJ hv rfl ?_) (h0 _) rfl (ff (by omega)), ⟨by simp only; omega, fun j hj => ?_⟩, by simp only; omega⟩
  ·simp only [cu]
   congr 3
   funext j
   exact fe hv1 j
  ·simp only at hj ⊢
   unfold bJ
   split
   ·rename_i h; rw [h]
   ·exact ho j (by omega)
 refine ⟨fun hb => ?_, fun hb s' hv => dQ ?_⟩
 ·have hil : i < l := by omega
  rw [if_pos hil] at w1
  rw [w1, hmd]
  have hf : ∀ x : Nat, (x : Int).fdiv (2 ^ min ((s : Int).toNat) IntKind.u64.bits) = ((x / 2 ^ s : Nat) : Int) := fun x => by
   have : min ((s : Int).toNat) IntKind.u64.bits = s := by
    have : IntKind.u64.bits = 64 := rfl
    omega
   rw [this, Int.fdiv_eq_ediv_of_nonneg _ (by exact Int.le_of_lt (Int.pow_pos (by decide)))]
   simp
  have wa : IntKind.u64.wrap (au R i : Int) = ((au R i : Nat) : Int) := wrap_u64 (by omega) (by omega)
  have hor : IntKind.u64.wrap ((BitVec.ofInt IntKind.u64.bits (IntKind.u64.wrap (au R i : Int)) ||| BitVec.ofInt IntKind.u64.bits (IntKind.u64.wrap (IntKind.u64.wrap (au R (i + 1) : Int) * 2 ^ min (Int.toNat 32) IntKind.u64.bits))).toNat : Int) = ((au R (i + 1) * 4294967296 + au R i : Nat) : Int) := by
   rw [BitVec.or_comm, wrap_u64 (x := (au R (i + 1) : Int)) (by omega) (by omega)]
   exact rj hb' ha
  simp only [Int.toNat_natCast]
  refine ⟨by omega, fun h1 => ⟨⟨by omega, by omega⟩, ⟨by omega, by omega, by omega, by omega⟩, fun s' hv => next hil ?_ hv⟩, fun h1 => ⟨⟨by omega, by omega, by omega, by omega⟩, fun s' hv => next hil ?_ hv⟩⟩
  ·rw [hor]
   have := hf (au R (i + 1) * 4294967296 + au R i)
   simp only [Int.toNat_natCast] at this
   rw [this, gZ, TO ha hb' hs32, vZ hs32]
  ·rw [wa]
   have := hf (au R i)
   simp only [Int.toNat_natCast] at this
   have hd := Nat.div_le_self (au R i) (2 ^ s)
   rw [this, gZ, vZ hs32, gv (A := R) (i := i + 1) (cB.2 (Nat.lt_of_lt_of_le hRl (Nat.pow_le_pow_right (by omega) (by omega)))), Nat.zero_mod, Nat.zero_mul, Nat.add_zero, Nat.mod_eq_of_lt (by omega)]
 ·have hil : i = l := by omega
  show aB P c0 kQ.ntmps (behind (ax kQ) [1,1,1,1,0,1]) s' _
  refine aB.iC hT dJ hm 60 hv (h0 _) rfl (ff (by omega)) Oc (by kernel_rfl) (by kernel_rfl) ?_
  simp only [aa.all, ay, Nat.add_zero, gX]
  refine ⟨⟨eI fun j hj => ?_, by omega⟩, cI (congrArg AV.mag ?_)⟩
  ·rw [ho j (by omega)]; exact cH
  ·rw [val_congr (y := au (R / 2 ^ s)) fun j hj => ho j (by omega), lW (Nat.lt_of_le_of_lt (Nat.div_le_self _ _) hRl), hR, hnk, Nat.div_div_eq_div_mul]
def Ft : Spec := bu fun l => match l with
 | [a, .int .i64 n] => match gm a with
  | some A => some (aG (.mag (A / 2 ^ n.toNat)) [nl A < 2 ^ 40, 0 ≤ n, n < 2 ^ 62])
  | none => none
 | _ => none
theorem Qn : ∀ K args pre r, Ft K args pre = some r → aA P vu K args pre r :=
 Dg (g := fun A n => .mag (A / 2 ^ n.toNat)) (l := fun A => [nl A < 2 ^ 40]) (m := 2 ^ 62) fun {A n} h hn K => by
  have := Wi (A := A) (n := n) h (by omega) K
  simpa using this
end Go.Am.B
