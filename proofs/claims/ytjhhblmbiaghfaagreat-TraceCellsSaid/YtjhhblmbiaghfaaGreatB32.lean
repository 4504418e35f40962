/- brepkernelmade: Mod, Light, Roll, Part, Next, number, Number, Point, Map. -/
import Derived.Test.YtjhhblmbiaghfaaGreatB31
import Derived.Test.YtjhhblmbiaghfaaGreatZ2
set_option linter.unusedVariables false
namespace Go.Am.B
open Go Go.Am.N AV
theorem VV : aO P wm r9 (ax r9) := aP ML (by kernel_rfl) (by kernel_rfl) (by kernel_rfl)
theorem JX : aO P xF rG (ax rG) := aP S7 (by kernel_rfl) (by kernel_rfl) (by kernel_rfl)
theorem LP : aO P xZ yh (ax yh) := aP Ze (by kernel_rfl) (by kernel_rfl) (by kernel_rfl)
theorem Wm : aO P k8 uk (ax uk) := aP Wy (by kernel_rfl) (by kernel_rfl) (by kernel_rfl)
abbrev gl (n : Nat) (f : Nat → AV) (a : Int) : aD := ⟨false, true, 2, 1, fun _ => .agg [.ah 1 n f, .int .i64 a]⟩
theorem Lx {x m : Int} : bF T [] [9] 60 r9 (ax r9) ⟨aN 0 [.int .i64 x, .int .i64 m], [], 0⟩ =
  some (af.ag [m ≠ (0 : Int)] (af.fork (decide (x.tmod m < (0 : Int))) (af.leaf ak.ret [int IntKind.i64 (IntKind.i64.wrap (x.tmod m + m))]) (af.leaf ak.ret [int IntKind.i64 (x.tmod m)]))) := by kernel_rfl
theorem Mr {n : Nat} {f : Nat → AV} : bF T [] [] 60 rG (ax rG) ⟨aN 0 [.ah 1 n f], [], 0⟩ =
  some (af.leaf ak.ret [AV.bool (decide ((↑n : Int) ≤ (500 : Int)))]) := by kernel_rfl
theorem Py {n : Nat} {f : Nat → AV} : aF T [] [] 60 [2] [ax yh] ⟨aN 0 [.ah 1 n f], [], 0⟩ = some (.leaf .ret ([.ptr 12288 0 2 0 []], [(12288, gl n f 0)])) := by kernel_rfl
theorem LM {x m : Int} (h1 : 0 < m) (h2 : m < 2 ^ 62) (K : Nat) : aC P wm K [.int .i64 x, .int .i64 m] [] (aK (.int .i64 (x % m)) []) := by
 refine bH hT aY hm VV rfl (of_decide_eq_true (by kernel_rfl)) rfl 60 Lx (fun _ => ?_) K []
 simp only [af.all, ay, decide_eq_true_eq, decide_eq_false_iff_not]
 have h3 := Int.tmod_lt_of_pos x h1
 have h4 := Int.lt_tmod_of_pos x h1
 have h5 := Int.emod_nonneg x (show m ≠ 0 by omega)
 have h6 := Int.emod_lt_of_pos x h1
 have h7 := Int.tmod_eq_emod (a := x) (b := m)
 have h8 : ∀ {v : Int}, v < 0 → v = x % m - ((if 0 ≤ x ∨ m ∣ x then 0 else m.natAbs : Nat) : Int) → v + m = x % m := fun {v} g1 g2 => by
  by_cases h : 0 ≤ x ∨ m ∣ x
  ·rw [if_pos h] at g2; omega
  ·rw [if_neg h] at g2; omega
 have h9 : ∀ {v : Int}, ¬ v < 0 → v = x % m - ((if 0 ≤ x ∨ m ∣ x then 0 else m.natAbs : Nat) : Int) → v = x % m := fun {v} g1 g2 => by
  by_cases h : 0 ≤ x ∨ m ∣ x
  ·rw [if_pos h] at g2; omega
  ·rw [if_neg h] at g2; omega
 refine ⟨by omega, fun hb => bm ?_, fun hb => bm (h9 hb h7)⟩
 rw [wrap_i64 (by omega) (by omega)]
 exact h8 hb h7
def CQ : Spec := bu fun l => match l with
 | [.int .i64 x, .int .i64 m] => some (aK (.int .i64 (x % m)) [0 < m, m < 2 ^ 62])
 | _ => none
def GM : aW := [(wm, CQ)]
theorem T4 : ∀ K args pre r, CQ K args pre = some r → aC P wm K args pre r := by
 refine bQ fun K args r hk hs _ => ?_
 split at hs
 ·simp only [Option.some.injEq] at hs
  subst hs
  exact fun need => LM need.1 need.2 K trivial
 ·simp at hs
theorem Rt : br P GM := aJ T4 aY
theorem M9 {n : Nat} {z : Nat → Int} {a m : Int} : vp T GM [14] 60 uk (ax uk) ⟨aN 0 [.ptr 0 0 2 0 [], .int .i64 m], [(0, gl n (fun i => .int .i64 (z i)) a)], 1⟩ =
  some (af.ag [(0 : Nat) < 1, (0 : Nat) < 1] (af.fork (decide (a ≥ (↑n : Int))) (af.leaf ak.ret ([int IntKind.i64 (0 : Int)], some ⟨false, true, 2, 1, fun (x : Nat) ↦ agg [ah 1 n fun (i : Nat) ↦ int IntKind.i64 (z i), int IntKind.i64 a]⟩)) (af.ag [(0 : Nat) < 1, (0 : Nat) < 1] (af.ag [(0 : Nat) < 1, (0 : Nat) < 1, (0 : Int) ≤ IntKind.i64.wrap (IntKind.i64.wrap (a + (1 : Int)) - (1 : Int)) ∧ (IntKind.i64.wrap (IntKind.i64.wrap (a + (1 : Int)) - (1 : Int))).toNat < n, (0 : Int) < m, m < (2 : Int) ^ 62] (af.leaf ak.ret ([int IntKind.i64 (z (IntKind.i64.wrap (IntKind.i64.wrap (a + (1 : Int)) - (1 : Int))).toNat % m)], some ⟨false, true, 2, 1, fun (j : Nat) ↦ if (j == 0) = true then agg ((agg [ah 1 n fun (i : Nat) ↦ int IntKind.i64 (z i), int IntKind.i64 a]).kids.set 1 (cJ (int IntKind.i64 (IntKind.i64.wrap (a + (1 : Int)))))) else agg [ah 1 n fun (i : Nat) ↦ int IntKind.i64 (z i), int IntKind.i64 a]⟩)))))) := by kernel_rfl
def intOf : AV → Int
 | .int _ n => n
 | _ => 0
def bC (n : Nat) (f : Nat → AV) (a m : Int) : Int := if (n : Int) ≤ a then 0 else intOf (f a.toNat) % m
def aZ (n : Nat) (a : Int) : Int := if (n : Int) ≤ a then a else a + 1
structure bG (n : Nat) (f : Nat → AV) (a : Int) : Prop where
 ints : ∀ i, f i = .int .i64 (intOf (f i))
 lo : 0 ≤ a
 hi : a ≤ n
 len : n < 2 ^ 62
theorem bG.next {n : Nat} {f : Nat → AV} {a : Int} (h : bG n f a) : bG n f (aZ n a) :=
 ⟨h.ints, by have := h.lo; unfold aZ; split <;> omega, by have := h.hi; unfold aZ; split <;> omega, h.len⟩
theorem kM {n : Nat} {f : Nat → AV} {a m : Int} (hm : 0 < m) : 0 ≤ bC n f a m := by
 unfold bC; split
 ·omega
 ·exact Int.emod_nonneg _ (by omega)
theorem ij {n : Nat} {f : Nat → AV} {a m : Int} (hm : 0 < m) : bC n f a m < m := by
 unfold bC; split
 ·omega
 ·exact Int.emod_lt_of_pos _ hm
theorem ni {ρ : Nat → Option Nat} {n : Nat} {f g : Nat → AV} {a b : Int} (h : f = g) (h2 : a = b) : ct ρ (gl n f a) (gl n g b) := by
 subst h h2
 exact ⟨rfl, rfl, rfl, rfl, fun i hi => aG rfl⟩
theorem Sh {k n : Nat} {z : Nat → Int} {a m : Int} {o : aD} (ho : ∀ ρ, ct ρ o (gl n (fun i => .int .i64 (z i)) a)) (h : bG n (fun i => .int .i64 (z i)) a) (h1 : 0 < m) (h2 : m < 2 ^ 62) (K : Nat) :
  aC P k8 K [.ptr k 0 2 0 [], .int .i64 m] [(k, o)] ⟨.int .i64 (bC n (fun i => .int .i64 (z i)) a m), [(k, gl n (fun i => .int .i64 (z i)) (aZ n a))], []⟩ := by
 refine zR hT Rt hm Wm rfl rfl (of_decide_eq_true (by kernel_rfl)) ho 60 M9 (fun _ => ?_) K
 have h3 := h.lo
 have h4 := h.hi
 have h5 := h.len
 simp only [af.all, ay, decide_eq_true_eq, decide_eq_false_iff_not]
 refine ⟨⟨by omega, by omega⟩, fun hb => ⟨bm ?_, _, rfl, rfl, ?_⟩, fun hb => ⟨⟨by omega, by omega⟩, ?_⟩⟩
 ·unfold bC; rw [if_pos (by omega)]
 ·exact ni rfl (by unfold aZ; rw [if_pos (by omega)])
 have e1 : IntKind.i64.wrap (a + 1) = a + 1 := wrap_i64 (by omega) (by omega)
 have e2 : IntKind.i64.wrap (a + 1 - 1) = a := by rw [wrap_i64 (by omega) (by omega)]; omega
 rw [e1, e2]
 refine ⟨⟨by omega, by omega, by omega, h1, h2⟩, bm ?_, _, rfl, rfl, ⟨rfl, rfl, rfl, rfl, fun i hi => ?_⟩⟩
 ·unfold bC; rw [if_neg (by omega)]; rfl
 ·rw [show i = 0 by have : i < 1 := hi; omega]
  show fG _ (.agg [.ah 1 n (fun i => .int .i64 (z i)), .int .i64 (a + 1)]) (.agg [.ah 1 n (fun i => .int .i64 (z i)), .int .i64 (aZ n a)])
  rw [show aZ n a = a + 1 by unfold aZ; rw [if_neg (by omega)]]
  exact aG rfl
def Bg (k : Nat) (pre : aB) : Option (Nat × (Nat → AV) × Int) := match pre with
 | [(k', o)] => if k == k' && !o.row && o.wr && o.es == 2 && o.len == 1 then match o.f 0 with
  | .agg [.ah 1 n f, .int .i64 a] => some (n, f, a)
  | _ => none
  else none
 | _ => none
def gB (g : Nat → (Nat → AV) → Int → List AV → Option (AV × Int × List Prop)) : Spec := fun _ args pre => match args with
 | .ptr k 0 2 0 [] :: l => match Bg k pre with
  | some (n, f, a) => match g n f a l with
   | some (v, b, q) => some ⟨v, [(k, gl n f b)], bG n f a :: q⟩
   | none => none
  | none => none
 | _ => none
theorem T0 {k : Nat} {pre : aB} {n : Nat} {f : Nat → AV} {a : Int} (h : Bg k pre = some (n, f, a)) : ∃ o, pre = [(k, o)] ∧ ∀ ρ, ct ρ o (gl n f a) := by
 unfold Bg at h
 split at h
 ·rename_i k' o
  split at h
  ·rename_i hc
   simp only [Bool.and_eq_true, beq_iff_eq, Bool.not_eq_true'] at hc
   obtain ⟨⟨⟨⟨rfl, h2⟩, h3⟩, h4⟩, h5⟩ := hc
   split at h
   ·rename_i n' f' a' hf
    simp only [Option.some.injEq, Prod.mk.injEq] at h
    obtain ⟨rfl, rfl, rfl⟩ := h
    refine ⟨o, rfl, fun ρ => ?_⟩
    obtain ⟨row, wr, es, len, g⟩ := o
    simp only at h2 h3 h4 h5 hf
    subst h2 h3 h4 h5
    refine g7 rfl fun i hi => ?_
    rw [show i = 0 by omega, hf]
    exact aG rfl
   ·simp at h
  ·simp at h
 ·simp at h
theorem tB {fid : FuncId} {g : Nat → (Nat → AV) → Int → List AV → Option (AV × Int × List Prop)}
  (h : ∀ {k n : Nat} {z : Nat → Int} {a : Int} {l : List AV} {v : AV} {b : Int} {q : List Prop} {o : aD} (K : Nat), g n (fun i => .int .i64 (z i)) a l = some (v, b, q) → (∀ ρ, ct ρ o (gl n (fun i => .int .i64 (z i)) a)) → bG n (fun i => .int .i64 (z i)) a → ay q → aC P fid K (.ptr k 0 2 0 [] :: l) [(k, o)] ⟨v, [(k, gl n (fun i => .int .i64 (z i)) b)], []⟩) : ∀ K args pre r, gB g K args pre = some r → aC P fid K args pre r := by
 intro K args pre r hs
 unfold gB at hs
 split at hs
 ·rename_i k l
  split at hs
  ·rename_i n f a hd
   split at hs
   ·rename_i v b q hv
    simp only [Option.some.injEq] at hs
    subst hs
    obtain ⟨o, rfl, ho⟩ := T0 hd
    intro need
    obtain ⟨hd, hq⟩ := (ep (a := [bG n f a]) (b := q)).1 need
    have hd : bG n f a := hd
    obtain ⟨z, rfl⟩ : ∃ z : Nat → Int, f = fun i => .int .i64 (z i) := ⟨fun i => intOf (f i), funext fun i => hd.ints i⟩
    exact h K hv ho hd hq trivial
   ·simp at hs
  ·simp at hs
 ·simp at hs
def oP (n : Nat) (f : Nat → AV) (a : Int) (l : List AV) : Option (AV × Int × List Prop) := match l with
 | [.int .i64 m] => some (.int .i64 (bC n f a m), aZ n a, [0 < m, m < 2 ^ 62])
 | _ => none
theorem x3 : ∀ K args pre r, gB oP K args pre = some r → aC P k8 K args pre r := by
 refine tB fun {k n z a l v b q o} K hg ho hd hq => ?_
 unfold oP at hg
 split at hg
 ·simp only [Option.some.injEq, Prod.mk.injEq] at hg
  obtain ⟨rfl, rfl, rfl⟩ := hg
  exact Sh ho hd hq.1 hq.2 K
 ·simp at hg
end Go.Am.B
