/- ref01: Trim, Of, small, Cmp, Bits. -/
import Derived.Test.YtnocdkaonpdmjaaGreatB21
set_option linter.unusedVariables false
namespace Go.Am.B
open Go Go.Am.N AV
theorem WI : aO P kS jP (ax jP) := aP NA (by kernel_rfl) (by kernel_rfl) (by kernel_rfl)
theorem S4 : aO P l7 w7 (ax w7) := aP Ot (by kernel_rfl) (by kernel_rfl) (by kernel_rfl)
theorem ZU : aO P pR sD (ax sD) := aP Sd (by kernel_rfl) (by kernel_rfl) (by kernel_rfl)
theorem Za : aO P mo mM (ax mM) := aP NF (by kernel_rfl) (by kernel_rfl) (by kernel_rfl)
theorem Wr : aO P xx nk (ax nk) := aP Nh (by kernel_rfl) (by kernel_rfl) (by kernel_rfl)
theorem Uw {n : Nat} {z : Nat → Nat} : aI T [] [] 30 [0, 3] (before (ax jP) [1,1,0]) ⟨aL 0 [.ak 1 n (ah z)], [], 0⟩ =
  some (aa.leaf aj.normal ([ak 1 n (ah z), int IntKind.i64 (↑n : Int)], [])) := by kernel_rfl
theorem Yo {n k : Nat} {z : Nat → Nat} : aI T [] [8, 15] 30 [0, 3] [part (ax jP) [1,1,0,0,0]] ⟨aC [0, 3] [.ak 1 n (ah z), .int .i64 k], [], 0⟩ =
  some (aa.fork (decide ((↑k : Int) > (0 : Int))) (aa.ag [decide ((↑k : Int) > (0 : Int)) = true, (0 : Int) ≤ IntKind.i64.wrap ((↑k : Int) - (1 : Int)) ∧ (IntKind.i64.wrap ((↑k : Int) - (1 : Int))).toNat < n] (aa.fork (bif true then (↑(z (IntKind.i64.wrap ((↑k : Int) - (1 : Int))).toNat) : Int) == (0 : Int) else false) (aa.leaf aj.normal ([ak 1 n (ah z), int IntKind.i64 (IntKind.i64.wrap ((↑k : Int) - (1 : Int)))], [])) (aa.leaf (aj.exit 0) ([ak 1 n (ah z), int IntKind.i64 (↑k : Int)], [])))) (aa.ag [decide ((↑k : Int) > (0 : Int)) = false] (aa.fork false (aa.leaf aj.normal ([ak 1 n (ah z), int IntKind.i64 (IntKind.i64.wrap ((↑k : Int) - (1 : Int)))], [])) (aa.leaf (aj.exit 0) ([ak 1 n (ah z), int IntKind.i64 (↑k : Int)], []))))) := by kernel_rfl
theorem ab2 {n k : Nat} {z : Nat → Nat} : cq T [] [] 30 jP (behind (ax jP) [1,1,0]) ⟨aC [0, 3] [.ak 1 n (ah z), .int .i64 k], [], 0⟩ =
  some (aa.ag [(0 : Nat) * 1 ≤ 2 ^ 24, (0 : Int) ≤ (0 : Int) ∧ (0 : Int) ≤ (↑k : Int) ∧ (↑k : Int) ≤ (↑k : Int) ∧ (↑k : Int) ≤ (↑n : Int), ((0 : Nat) + ((↑k : Int).toNat - Int.toNat (0 : Int))) * ((4 : Nat) + 1) * 2 ≤ 2 ^ 47] (aa.leaf aj.ret [ak 1 ((0 : Nat) + ((↑k : Int).toNat - Int.toNat (0 : Int))) fun (i : Nat) ↦ if i + 0 < 0 then nth [] (int IntKind.u32 (0 : Int)) (i + 0) else ah z (i + 0 - 0 + Int.toNat (0 : Int))])) := by kernel_rfl
def p7 : Spec := bu (jr fun N n => aG (.mag N) [n < 2 ^ 40])
def dx : aQ := [(kS, p7)]
theorem Wq {n : Nat} : bB T dx [] 30 w7 (ax w7) ⟨aL 0 [.int .u64 n], [], 0⟩ =
  some (aa.ag [(0 : Int) ≤ (32 : Int), (2 : Nat) * 1 ≤ 2 ^ 24, cO 2 fun (i : Nat) ↦ nth [int IntKind.u32 (IntKind.u32.wrap (↑n : Int)), int IntKind.u32 (IntKind.u32.wrap ((↑n : Int).fdiv ((2 : Int) ^ min (Int.toNat (32 : Int)) IntKind.u64.bits)))] (int IntKind.u32 (0 : Int)) (i + 0), (2 : Nat) < 2 ^ 40] (aa.leaf aj.ret [mag (val 2 fun (i : Nat) ↦ numOf (nth [int IntKind.u32 (IntKind.u32.wrap (↑n : Int)), int IntKind.u32 (IntKind.u32.wrap ((↑n : Int).fdiv ((2 : Int) ^ min (Int.toNat (32 : Int)) IntKind.u64.bits)))] (int IntKind.u32 (0 : Int)) (i + 0)))])) := by kernel_rfl
theorem ZP {A : Nat} : bB T dx [6, 8, 14] 30 sD (ax sD) ⟨aL 0 [.mag A], [], 0⟩ =
  some (aa.fork ((↑(nl A) : Int) == (0 : Int)) (aa.leaf aj.ret [int IntKind.u64 (0 : Int), AV.bool true]) (aa.fork ((↑(nl A) : Int) == (1 : Int)) (aa.ag [(0 : Int) ≤ (0 : Int) ∧ Int.toNat (0 : Int) < nl A] (aa.leaf aj.ret [int IntKind.u64 (IntKind.u64.wrap (↑(au A (Int.toNat (0 : Int))) : Int)), AV.bool true])) (aa.fork ((↑(nl A) : Int) == (2 : Int)) (aa.ag [(0 : Int) ≤ (0 : Int) ∧ Int.toNat (0 : Int) < nl A, (0 : Int) ≤ (1 : Int) ∧ Int.toNat (1 : Int) < nl A, (0 : Int) ≤ (32 : Int)] (aa.leaf aj.ret [int IntKind.u64 (IntKind.u64.wrap (↑(BitVec.ofInt IntKind.u64.bits (IntKind.u64.wrap (↑(au A (Int.toNat (0 : Int))) : Int)) ||| BitVec.ofInt IntKind.u64.bits (IntKind.u64.wrap (IntKind.u64.wrap (↑(au A (Int.toNat (1 : Int))) : Int) * (2 : Int) ^ min (Int.toNat (32 : Int)) IntKind.u64.bits))).toNat : Int)), AV.bool true])) (aa.leaf aj.ret [int IntKind.u64 (0 : Int), AV.bool false])))) := by kernel_rfl
theorem SQ {A B : Nat} : aI T [] [10, 15] 30 [0, 1, 5, 4] (before (ax mM) [1,1,0,1]) ⟨aL 0 [.mag A, .mag B], [], 0⟩ =
  some (aa.fork ((↑(nl A) : Int) != (↑(nl B) : Int)) (aa.fork (decide ((↑(nl A) : Int) < (↑(nl B) : Int))) (aa.leaf aj.ret ([mag A, mag B, tuple [], int IntKind.i64 (-1 : Int)], [])) (aa.leaf aj.ret ([mag A, mag B, tuple [], int IntKind.i64 (1 : Int)], []))) (aa.leaf aj.normal ([mag A, mag B, int IntKind.i64 (IntKind.i64.wrap ((↑(nl A) : Int) - (1 : Int))), int IntKind.i64 (0 : Int)], []))) := by kernel_rfl
theorem OD {A B k : Nat} : aI T [] [20, 31, 40] 30 [0, 1, 5, 4] [part (ax mM) [1,1,0,1,0,0]] ⟨aC [0, 1, 5, 4] [.mag A, .mag B, .int .i64 ((k : Int) - 1), .int .i64 0], [], 0⟩ =
  some (aa.fork (decide ((↑k : Int) - (1 : Int) ≥ (0 : Int))) (aa.ag [(0 : Int) ≤ (↑k : Int) - (1 : Int) ∧ ((↑k : Int) - (1 : Int)).toNat < nl A, (0 : Int) ≤ (↑k : Int) - (1 : Int) ∧ ((↑k : Int) - (1 : Int)).toNat < nl B] (aa.fork (decide ((↑(au A ((↑k : Int) - (1 : Int)).toNat) : Int) < (↑(au B ((↑k : Int) - (1 : Int)).toNat) : Int))) (aa.leaf aj.ret ([mag A, mag B, int IntKind.i64 ((↑k : Int) - (1 : Int)), int IntKind.i64 (-1 : Int)], [])) (aa.ag [(0 : Int) ≤ (↑k : Int) - (1 : Int) ∧ ((↑k : Int) - (1 : Int)).toNat < nl A, (0 : Int) ≤ (↑k : Int) - (1 : Int) ∧ ((↑k : Int) - (1 : Int)).toNat < nl B] (aa.fork (decide ((↑(au A ((↑k : Int) - (1 : Int)).toNat) : Int) > (↑(au B ((↑k : Int) - (1 : Int)).toNat) : Int))) (aa.leaf aj.ret ([mag A, mag B, int IntKind.i64 ((↑k : Int) - (1 : Int)), int IntKind.i64 (1 : Int)], [])) (aa.leaf aj.normal ([mag A, mag B, int IntKind.i64 (IntKind.i64.wrap ((↑k : Int) - (1 : Int) - (1 : Int))), int IntKind.i64 (0 : Int)], [])))))) (aa.leaf (aj.exit 0) ([mag A, mag B, int IntKind.i64 ((↑k : Int) - (1 : Int)), int IntKind.i64 (0 : Int)], []))) := by kernel_rfl
theorem Xp {A B k : Nat} : cq T [] [] 30 mM (behind (ax mM) [1,1,0,1]) ⟨aC [0, 1, 5, 4] [.mag A, .mag B, .int .i64 ((k : Int) - 1), .int .i64 0], [], 0⟩ =
  some (aa.leaf aj.ret [int IntKind.i64 (0 : Int)]) := by kernel_rfl
theorem Pm {n : Nat} {z : Nat → Nat} : aI T [] [7] 30 [3, 4, 2] (before (ax nk) [1,1,1,0,1]) ⟨aL 0 [.ak 1 n (ah z)], [], 0⟩ =
  some (aa.fork ((↑n : Int) == (0 : Int)) (aa.leaf aj.ret ([tuple [], tuple [], int IntKind.i64 (0 : Int)], [])) (aa.ag [(0 : Int) ≤ IntKind.i64.wrap ((↑n : Int) - (1 : Int)) ∧ (IntKind.i64.wrap ((↑n : Int) - (1 : Int))).toNat < n] (aa.leaf aj.normal ([int IntKind.i64 (IntKind.i64.wrap ((32 : Int) * IntKind.i64.wrap ((↑n : Int) - (1 : Int)))), int IntKind.u32 (↑(z (IntKind.i64.wrap ((↑n : Int) - (1 : Int))).toNat) : Int), int IntKind.i64 (0 : Int)], [])))) := by kernel_rfl
theorem Oo {x y : Nat} : aI T [] [19] 30 [3, 4, 2] [part (ax nk) [1,1,1,0,1,0,0]] ⟨aC [3, 4, 2] [.int .i64 x, .int .u32 y, .int .i64 0], [], 0⟩ =
  some (aa.fork ((↑y : Int) != (0 : Int)) (aa.ag [(0 : Int) ≤ (1 : Int)] (aa.leaf aj.normal ([int IntKind.i64 (IntKind.i64.wrap ((↑x : Int) + (1 : Int))), int IntKind.u32 ((↑y : Int).fdiv ((2 : Int) ^ min (Int.toNat (1 : Int)) IntKind.u32.bits)), int IntKind.i64 (0 : Int)], []))) (aa.leaf (aj.exit 0) ([int IntKind.i64 (↑x : Int), int IntKind.u32 (↑y : Int), int IntKind.i64 (0 : Int)], []))) := by kernel_rfl
theorem VN {x y : Nat} : cq T [] [] 30 nk (behind (ax nk) [1,1,1,0,1]) ⟨aC [3, 4, 2] [.int .i64 x, .int .u32 y, .int .i64 0], [], 0⟩ =
  some (aa.leaf aj.ret [int IntKind.i64 (↑x : Int)]) := by kernel_rfl
theorem Tj {n : Nat} {z : Nat → Nat} (hz : ∀ i, i < n → z i < 2 ^ 32) (hn : n < 2 ^ 40) (K : Nat) : aA P kS K [.ak 1 n (ah z)] [] (aG (.mag (val n z)) []) := by
 refine gb hT WI rfl (of_decide_eq_true (by kernel_rfl)) rfl (fun _ c h0 => ?_) K []
 refine aq.hole [1,1,0] (by kernel_rfl) (aB.aX hT bn hm 30 [0, 3] Uw (by kernel_rfl) fun s' hv => bP ?_)
 refine aq.fq (i := 0) (y := part (ax jP) [1,1,0,0,0]) (by kernel_rfl) [0, 3] 0 (h0 _) (fun k : Nat => [.ak 1 n (ah z), .int .i64 k]) (fun _ => []) (fun _ => rfl) (fun _ => trivial)
  (fun k => k ≤ n ∧ ∀ i, k ≤ i → i < n → z i = 0) id n hv ⟨Nat.le_refl _, fun i h1 h2 => by omega⟩ ?_
 rintro j ⟨hj, hzj⟩
 refine aq.aX hT bn hm 30 [0, 3] Yo (by kernel_rfl) ?_
 have fin : (j = 0 ∨ z (j - 1) ≠ 0) → ∀ s', aU [0, 3] s' = some ([.ak 1 n (ah z), .int .i64 j], []) → aB P c jP.ntmps (behind (ax jP) [1,1,0]) s' (dc c (Fin T jP (.mag (val n z)))) := by
  intro hj0 s' hv
  refine aB.iC hT bn hm 30 hv (h0 0) rfl trivial ab2 (by kernel_rfl) (by kernel_rfl) ?_
  simp only [aa.all, ay, Int.toNat_natCast, Int.toNat_zero, Nat.zero_add, Nat.sub_zero, Nat.add_zero]
  have e : val n z = val j z := jY hj hzj
  refine ⟨⟨by omega, by omega, by omega⟩, jd (by rw [e, ya (fun i hi => hz i (by omega)) hj0]) fun i hi => ?_⟩
  rw [if_neg (by omega), e, mI (fun j hj => hz j (by omega)) hi]
  rfl
 have hw : 0 < j → IntKind.i64.wrap ((j : Int) - 1) = ((j - 1 : Nat) : Int) := fun h => by rw [wrap_i64 (by omega) (by omega)]; omega
 refine ⟨fun hb => ?_, fun hb => ?_⟩
 ·have h1 : 0 < j := by simpa using hb
  rw [hw h1]
  have hj1 : j - 1 < n := by omega
  refine ⟨⟨hb, by omega, by rw [Int.toNat_natCast]; exact hj1⟩, fun hc s' hv => ?_, fun hc s' hv => ?_⟩
  ·refine ⟨j - 1, hv, ⟨by omega, fun i h1 h2 => ?_⟩, by simp; omega⟩
   by_cases hi : i = j - 1
   ·subst hi; simpa using hc
   ·exact hzj i (by omega) h2
  ·exact dQ (fin (.inr (by simpa using hc)) s' hv)
 ·have h1 : j = 0 := by simpa using hb
  refine ⟨hb, fun hc => by simp at hc, fun hc s' hv => dQ (fin (.inl h1) s' hv)⟩
theorem vG : ∀ K args pre r, p7 K args pre = some r → aA P kS K args pre r :=
 bN (qu fun _ _ K hz need => Tj hz need K)
theorem dJ : bg P dx := aH vG bn
theorem UM {x : Nat} (hx : x < 2 ^ 64) (K : Nat) : aA P l7 K [.int .u64 x] [] (aG (.mag x) []) := by
 refine bH hT dJ hm S4 rfl (of_decide_eq_true (by kernel_rfl)) rfl 30 Wq (fun _ => ?_) K []
 simp only [aa.all, ay, jo]
 refine ⟨⟨by omega, by omega, fun i hi => ?_, by omega⟩, cI (congrArg AV.mag ?_)⟩
 ·match i, hi with
  | 0, _ => exact ⟨x % 2 ^ 32, by omega, by simp [nth, gZ]⟩
  | 1, _ => exact ⟨x / 4294967296, by omega, by simp [nth, jj]; omega⟩
 ·rw [val_two]
  simp [nth, numOf, jj]
  omega
def sI : Spec := bu fun l => match l with
 | [.int .u64 x] => some (aG (.mag x.toNat) [0 ≤ x ∧ x < 2 ^ 64])
 | _ => none
theorem yQ : ∀ K args pre r, sI K args pre = some r → aA P l7 K args pre r := by
 refine bN fun K args r hk hs _ => ?_
 split at hs
 ·simp only [Option.some.injEq] at hs
  subst hs
  intro need
  obtain ⟨h1, h2⟩ := need
  rename_i x
  obtain ⟨y, rfl⟩ := Int.eq_ofNat_of_zero_le h1
  exact UM (x := y) (by omega) K trivial
 ·simp at hs
def cN (A : Nat) : Bool := decide (A < 18446744073709551616)
theorem Rl {A : Nat} (K : Nat) : aA P pR K [.mag A] [] (aG (.tuple [.int .u64 (if cN A then A else 0 : Nat), .bool (cN A)]) []) := by
 refine bH hT dJ hm ZU rfl (of_decide_eq_true (by kernel_rfl)) rfl 30 ZP (fun _ => ?_) K []
 simp only [aa.all, ay, beq_iff_eq, beq_eq_false_iff_ne, ne_eq, Int.toNat_zero, show Int.toNat 1 = 1 from rfl]
 have hv := eC (N := A)
 have l0 := cH (N := A) (i := 0)
 have l1 := cH (N := A) (i := 1)
 have yes : ∀ {x : Int}, A < 2 ^ 64 → x = (A : Nat) → dg [.int .u64 x, .bool true] (.tuple [.int .u64 (if cN A then A else 0 : Nat), .bool (cN A)]) := fun h hx => by
  have : cN A = true := by unfold cN; simpa using h
  rw [this, if_pos rfl]
  exact ⟨bq hx, .refl _, trivial⟩
 refine ⟨fun hb => yes ?_ ?_, fun hb => ⟨fun h1 => ⟨by omega, yes ?_ ?_⟩, fun h1 => ⟨fun h2 => ⟨⟨by omega, by omega, by omega⟩, yes ?_ ?_⟩, fun h2 => ?_⟩⟩⟩
 ·have : A = 0 := gH.1 (by omega)
  omega
 ·have : A = 0 := gH.1 (by omega)
  rw [this]; rfl
 ·exact mE (by omega)
 ·rw [show nl A = 1 by omega, val, val] at hv
  rw [wrap_u64 (by omega) (by omega)]
  simp at hv; omega
 ·exact mE (by omega)
 ·rw [show nl A = 2 by omega, val, val, val] at hv
  have e1 : IntKind.u64.wrap (au A 0 : Int) = ((au A 0 : Nat) : Int) := wrap_u64 (by omega) (by omega)
  have e2 : IntKind.u64.wrap (au A 1 : Int) = ((au A 1 : Nat) : Int) := wrap_u64 (by omega) (by omega)
  have e3 : IntKind.u64.wrap ((au A 1 : Int) * 2 ^ min (Int.toNat 32) IntKind.u64.bits) = ((au A 1 * 4294967296 : Nat) : Int) := by
   rw [xp, wrap_u64 (by omega) (by omega)]; omega
  rw [e1, e2, e3, pJ (by omega) (by omega)]
  congr 1
  rw [Nat.or_comm, show 4294967296 = 2 ^ 32 from rfl, o6 l0]
  simp at hv; omega
 ·have : cN A = false := by
   unfold cN
   simp only [decide_eq_false_iff_not]
   intro h
   have : nl A ≤ 2 := cB.2 h
   omega
  rw [this]
  exact ⟨.refl _, .refl _, trivial⟩
def Dk : Spec := bu fun l => match l with
 | [a] => match gm a with
  | some A => some (aG (.tuple [.int .u64 (if cN A then A else 0 : Nat), .bool (cN A)]) [])
  | none => none
 | _ => none
theorem Eb : ∀ K args pre r, Dk K args pre = some r → aA P pR K args pre r := by
 refine bN fun K args r hk hs _ => ?_
 split at hs
 ·split at hs
  ·rename_i A hA
   simp only [Option.some.injEq] at hs
   subst hs
   exact fc (Rl K) hk ⟨jg hA, trivial⟩ []
  ·simp at hs
 ·simp at hs
theorem Lj {A B : Nat} (hA : nl A < 2 ^ 40) (hB : nl B < 2 ^ 40) (K : Nat) : aA P mo K [.mag A, .mag B] [] (aG (.int .i64 (bT A B)) []) := by
 refine gb hT Za rfl (of_decide_eq_true (by kernel_rfl)) rfl (fun _ c h0 => ?_) K []
 refine aq.hole [1,1,0,1] (by kernel_rfl) (aB.aX hT bn hm 30 [0, 1, 5, 4] SQ (by kernel_rfl) ?_)
 simp only [aa.all, ay, decide_eq_true_eq, decide_eq_false_iff_not, bne_iff_ne, ne_eq, Int.natCast_inj, bne_eq_false_iff_eq]
 refine ⟨fun hb => ⟨fun hb2 s' hv => dS (.inl ?_), fun hb2 s' hv => dS (.inl ?_)⟩, fun hb s' hv => bP ?_⟩
 ·have h1 : A < B := yb (by omega)
  exact eM (us := [.int .i64 (-1)]) (.inr rfl) hv (by kernel_rfl) (bq (by simp [bT, h1]))
 ·have h1 : B < A := yb (by omega)
  exact eM (us := [.int .i64 1]) (.inr rfl) hv (by kernel_rfl) (bq (by simp [bT, h1]; omega))
 refine aq.fq (i := 0) (y := part (ax mM) [1,1,0,1,0,0]) (by kernel_rfl) [0, 1, 5, 4] 0 (h0 _) (fun k : Nat => [.mag A, .mag B, .int .i64 ((k : Int) - 1), .int .i64 0]) (fun _ => []) (fun _ => rfl) (fun _ => trivial)
  (fun k => k ≤ nl A ∧ ∀ j, k ≤ j → j < nl A → au A j = au B j) id (nl A) (cJ hv (by rw [wrap_i64 (by omega) (by omega)]) rfl) ⟨by simp, fun j h1 h2 => by omega⟩ ?_
 rintro k ⟨hk, hlim⟩
 refine aq.aX hT bn hm 30 [0, 1, 5, 4] OD (by kernel_rfl) ?_
 simp only [aa.all, ay, decide_eq_true_eq, decide_eq_false_iff_not]
 refine ⟨fun hb2 => ?_, fun hb2 s' hv => dQ ?_⟩
 ·obtain ⟨j, rfl⟩ : ∃ j, k = j + 1 := ⟨k - 1, by omega⟩
  have e : (((j + 1 : Nat) : Int) - 1).toNat = j := by omega
  rw [e]
  refine ⟨⟨by omega, by omega⟩, fun hlt s' hv => FB (dS (.inl ?_)), fun hlt => ⟨⟨by omega, by omega⟩, fun hgt s' hv => FB (dS (.inl ?_)), fun hgt s' hv => ?_⟩⟩
  ·have h1 : A < B := yR hb (k := j) (by omega) (fun i h1 h2 => hlim i (by omega) h2) (by omega)
   exact eM (us := [.int .i64 (-1)]) (.inr rfl) hv (by kernel_rfl) (bq (by simp [bT, h1]))
  ·have h1 : B < A := yR hb.symm (k := j) (by omega) (fun i h1 h2 => (hlim i (by omega) (by omega)).symm) (by omega)
   exact eM (us := [.int .i64 1]) (.inr rfl) hv (by kernel_rfl) (bq (by simp [bT, h1]; omega))
  ·refine ⟨j, cJ hv (by rw [wrap_i64 (by omega) (by omega)]; congr 4; omega) rfl, ⟨by omega, fun i h1 h2 => ?_⟩, by simp⟩
   by_cases hi : i = j
   ·subst hi; omega
   ·exact hlim i (by omega) h2
 ·have hk0 : k = 0 := by omega
  have hAB : A = B := CV hb fun i hi => hlim i (by omega) hi
  exact bP (aB.iC hT bn hm 30 hv (h0 0) rfl trivial Xp (by kernel_rfl) (by kernel_rfl) (bq (by simp [bT, hAB])))
def kn (g : Nat → Nat → AV) (l : Nat → Nat → List Prop) : Spec := bu fun a => match a with
 | [x, y] => match gm x, gm y with
  | some A, some B => some (aG (g A B) (l A B))
  | _, _ => none
 | _ => none
theorem nh {f : FuncId} {g : Nat → Nat → AV} {l : Nat → Nat → List Prop} (h : ∀ {A B : Nat}, ay (l A B) → ∀ K, aA P f K [.mag A, .mag B] [] (aG (g A B) [])) : ∀ K args pre r, kn g l K args pre = some r → aA P f K args pre r := by
 refine bN fun K args r hk hs _ => ?_
 split at hs
 ·split at hs
  ·rename_i A B hA hB
   simp only [Option.some.injEq] at hs
   subst hs
   exact fun need => fc (h need K) hk ⟨jg hA, jg hB, trivial⟩ [] trivial
  ·simp at hs
 ·simp at hs
abbrev BX (A B : Nat) : List Prop := [nl A < 2 ^ 40, nl B < 2 ^ 40]
def s8 : Spec := kn (fun A B => .int .i64 (bT A B)) BX
theorem yg : ∀ K args pre r, s8 K args pre = some r → aA P mo K args pre r := nh fun h => Lj h.1 h.2
theorem Nd {n : Nat} {z : Nat → Nat} (hz : ∀ i, i < n → z i < 2 ^ 32) (hn : n < 2 ^ 40) (hnl : nl (val n z) = n) (K : Nat) : aA P xx K [.ak 1 n (ah z)] [] (aG (.int .i64 (aZ (val n z) : Nat)) []) := by
 refine gb hT Wr rfl (of_decide_eq_true (by kernel_rfl)) rfl (fun _ c h0 => ?_) K []
 refine aq.hole [1,1,1,0,1] (by kernel_rfl) (aB.aX hT bn hm 30 [3, 4, 2] Pm (by kernel_rfl) ?_)
 simp only [aa.all, ay, beq_iff_eq, beq_eq_false_iff_ne, ne_eq]
 refine ⟨fun hb s' hv => dS (.inl ?_), fun hb => ?_⟩
 ·have h1 : n = 0 := by omega
  have h2 : val n z = 0 := by rw [h1]; rfl
  exact eM (us := [.int .i64 0]) (.inr rfl) hv (by kernel_rfl) (bq (by rw [h2]; rfl))
 have w1 : IntKind.i64.wrap ((n : Int) - 1) = ((n - 1 : Nat) : Int) := dw (by omega) (by omega)
 have w2 : IntKind.i64.wrap (32 * ((n - 1 : Nat) : Int)) = ((32 * (n - 1) : Nat) : Int) := dw (by omega) (by omega)
 rw [w1, w2]
 simp only [Int.toNat_natCast]
 refine ⟨by omega, fun s' hv => bP ?_⟩
 have hzt := hz (n - 1) (by omega)
 have htot : aZ (val n z) = 32 * (n - 1) + aZ (z (n - 1)) := by
  have h0 : val n z ≠ 0 := eP.1 (by omega)
  rw [Iq h0, hnl, mI hz (by omega)]
 refine aq.fq (i := 0) (y := part (ax nk) [1,1,1,0,1,0,0]) (by kernel_rfl) [3, 4, 2] 0 (h0 _) (fun p : Nat × Nat => [.int .i64 (p.1 : Nat), .int .u32 (p.2 : Nat), .int .i64 0]) (fun _ => []) (fun _ => rfl) (fun _ => trivial)
  (fun p => p.1 + aZ p.2 = aZ (val n z) ∧ p.2 < 2 ^ 32) (fun p => p.2) (32 * (n - 1), z (n - 1)) hv ⟨htot.symm, hzt⟩ ?_
 rintro ⟨x, y⟩ ⟨hxy, hy⟩
 simp only at hxy hy
 have hb32 : aZ (z (n - 1)) ≤ 32 := gy.2 hzt
 refine aq.aX hT bn hm 30 [3, 4, 2] Oo (by kernel_rfl) ?_
 rw [tg (by decide) (by decide)]
 simp only [aa.all, ay, bne_iff_ne, ne_eq, bne_eq_false_iff_eq, show Int.toNat 1 = 1 from rfl]
 refine ⟨fun hc => ⟨by omega, fun s' hv => ?_⟩, fun hc s' hv => dQ (bP ?_)⟩
 ·have hy0 : 0 < y := by omega
  have e : aZ y = 1 + aZ (y / 2) := by
   by_cases h1 : y = 1
   ·rw [h1]; decide
   ·exact qB (k := 1) (by omega)
  have hd : y / 2 < y := by omega
  exact ⟨(x + 1, y / 2), cJ hv (by rw [dw (a := (x : Int) + 1) (n := x + 1) (by omega) (by omega)]) rfl, ⟨by simp only; omega, by simp only; omega⟩, by simp only; omega⟩
 ·have hy0 : y = 0 := by omega
  refine aB.iC hT bn hm 30 hv (h0 0) rfl trivial VN (by kernel_rfl) (by kernel_rfl) (bq ?_)
  rw [hy0] at hxy
  simp [aZ] at hxy
  rw [hxy]; simp [aZ]
def GO : Spec := bu (jr fun N n => aG (.int .i64 (aZ N : Nat)) [n < 2 ^ 40, nl N = n])
theorem LV : ∀ K args pre r, GO K args pre = some r → aA P xx K args pre r :=
 bN (qu fun _ _ K hz need => Nd hz need.1 need.2 K)
end Go.Am.B
