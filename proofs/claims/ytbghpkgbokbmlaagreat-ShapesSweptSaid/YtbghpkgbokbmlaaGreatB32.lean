/- brepkernelmade: Mod, Light, Roll, Part, Next, number, Number, Point, Map. -/
import Derived.Test.YtbghpkgbokbmlaaGreatB31
import Derived.Test.YtbghpkgbokbmlaaGreatZ2
set_option linter.unusedVariables false
namespace Go.Am.B
open Go Go.Am.N AV
theorem Rk : aP P qP rS (au rS) := aL MI (by kernel_rfl) (by kernel_rfl) (by kernel_rfl)
theorem OY : aP P yb sS (au sS) := aL Pp (by kernel_rfl) (by kernel_rfl) (by kernel_rfl)
theorem Qj : aP P yA zm (au zm) := aL acs (by kernel_rfl) (by kernel_rfl) (by kernel_rfl)
theorem MX : aP P mG uZ (au uZ) := aL abS (by kernel_rfl) (by kernel_rfl) (by kernel_rfl)
abbrev gN (n : Nat) (f : Nat → AV) (a : Int) : ay := ⟨false, true, 2, 1, fun _ => .agg [.aj 1 n f, .int .i64 a]⟩
theorem LR {x m : Int} : bA T [] [9] 60 rS (au rS) ⟨aM 0 [.int .i64 x, .int .i64 m], [], 0⟩ =
  some (aa.af [m ≠ (0 : Int)] (aa.fork (decide (x.tmod m < (0 : Int))) (aa.leaf ag.ret [int IntKind.i64 (IntKind.i64.wrap (x.tmod m + m))]) (aa.leaf ag.ret [int IntKind.i64 (x.tmod m)]))) := by kernel_rfl
theorem Ov {n : Nat} {f : Nat → AV} : bA T [] [] 60 sS (au sS) ⟨aM 0 [.aj 1 n f], [], 0⟩ =
  some (aa.leaf ag.ret [AV.bool (decide ((↑n : Int) ≤ (500 : Int)))]) := by kernel_rfl
theorem adA {n : Nat} {f : Nat → AV} : aH T [] [] 60 [2] [au zm] ⟨aM 0 [.aj 1 n f], [], 0⟩ = some (.leaf .ret ([.ptr 12288 0 2 0 []], [(12288, gN n f 0)])) := by kernel_rfl
theorem YP {x m : Int} (h1 : 0 < m) (h2 : m < 2 ^ 62) (K : Nat) : az P qP K [.int .i64 x, .int .i64 m] [] (aF (.int .i64 (x % m)) []) := by
 refine bD hT aT hm Rk rfl (of_decide_eq_true (by kernel_rfl)) rfl 60 LR (fun _ => ?_) K []
 simp only [aa.all, ax, decide_eq_true_eq, decide_eq_false_iff_not]
 have h3 := Int.tmod_lt_of_pos x h1
 have h4 := Int.lt_tmod_of_pos x h1
 have h5 := Int.emod_nonneg x (show m ≠ 0 by omega)
 have h6 := Int.emod_lt_of_pos x h1
 have h7 := Int.tmod_eq_emod (a := x) (b := m)
 have h8 : ∀ {v : Int}, v < 0 → v = x % m - ((if 0 ≤ x ∨ m ∣ x then 0 else m.natAbs : Nat) : Int) → v + m = x % m := fun {v} g1 g2 => by
  by_cases h : 0 ≤ x ∨ m ∣ x
  ·rw [if_pos h] at g2; omega
  ·rw [if_neg h] at g2; omega
 have h9 : ∀ {v : Int}, ¬ v < 0 → v = x % m - ((if 0 ≤ x ∨ m ∣ x then 0 else m.natAbs : Nat) : Int) → v = x % m := fun {v} g1 g2 => by
  by_cases h : 0 ≤ x ∨ m ∣ x
  ·rw [if_pos h] at g2; omega
  ·rw [if_neg h] at g2; omega
 refine ⟨by omega, fun hb => bq ?_, fun hb => bq (h9 hb h7)⟩
 rw [wrap_i64 (by omega) (by omega)]
 exact h8 hb h7
def AM : Spec := bt fun l => match l with
 | [.int .i64 x, .int .i64 m] => some (aF (.int .i64 (x % m)) [0 < m, m < 2 ^ 62])
 | _ => none
def GM : aQ := [(qP, AM)]
theorem EC : ∀ K args pre r, AM K args pre = some r → az P qP K args pre r := by
 refine bH fun K args r hk hs _ => ?_
 split at hs
 ·simp only [Option.some.injEq] at hs
  subst hs
  exact fun need => YP need.1 need.2 K trivial
 ·simp at hs
theorem abp : aW P GM := aC EC aT
theorem NP {n : Nat} {z : Nat → Int} {a m : Int} : pU T GM [14] 60 uZ (au uZ) ⟨aM 0 [.ptr 0 0 2 0 [], .int .i64 m], [(0, gN n (fun i => .int .i64 (z i)) a)], 1⟩ =
  some (aa.af [(0 : Nat) < 1, (0 : Nat) < 1] (aa.fork (decide (a ≥ (↑n : Int))) (aa.leaf ag.ret ([int IntKind.i64 (0 : Int)], some ⟨false, true, 2, 1, fun (x : Nat) ↦ agg [aj 1 n fun (i : Nat) ↦ int IntKind.i64 (z i), int IntKind.i64 a]⟩)) (aa.af [(0 : Nat) < 1, (0 : Nat) < 1] (aa.af [(0 : Nat) < 1, (0 : Nat) < 1, (0 : Int) ≤ IntKind.i64.wrap (IntKind.i64.wrap (a + (1 : Int)) - (1 : Int)) ∧ (IntKind.i64.wrap (IntKind.i64.wrap (a + (1 : Int)) - (1 : Int))).toNat < n, (0 : Int) < m, m < (2 : Int) ^ 62] (aa.leaf ag.ret ([int IntKind.i64 (z (IntKind.i64.wrap (IntKind.i64.wrap (a + (1 : Int)) - (1 : Int))).toNat % m)], some ⟨false, true, 2, 1, fun (j : Nat) ↦ if (j == 0) = true then agg ((agg [aj 1 n fun (i : Nat) ↦ int IntKind.i64 (z i), int IntKind.i64 a]).kids.set 1 (bk (int IntKind.i64 (IntKind.i64.wrap (a + (1 : Int)))))) else agg [aj 1 n fun (i : Nat) ↦ int IntKind.i64 (z i), int IntKind.i64 a]⟩)))))) := by kernel_rfl
def intOf : AV → Int
 | .int _ n => n
 | _ => 0
def bU (n : Nat) (f : Nat → AV) (a m : Int) : Int := if (n : Int) ≤ a then 0 else intOf (f a.toNat) % m
def bh (n : Nat) (a : Int) : Int := if (n : Int) ≤ a then a else a + 1
structure cm (n : Nat) (f : Nat → AV) (a : Int) : Prop where
 ints : ∀ i, f i = .int .i64 (intOf (f i))
 lo : 0 ≤ a
 hi : a ≤ n
 len : n < 2 ^ 62
theorem cm.next {n : Nat} {f : Nat → AV} {a : Int} (h : cm n f a) : cm n f (bh n a) :=
 ⟨h.ints, by have := h.lo; unfold bh; split <;> omega, by have := h.hi; unfold bh; split <;> omega, h.len⟩
theorem ic {n : Nat} {f : Nat → AV} {a m : Int} (hm : 0 < m) : 0 ≤ bU n f a m := by
 unfold bU; split
 ·omega
 ·exact Int.emod_nonneg _ (by omega)
theorem iu {n : Nat} {f : Nat → AV} {a m : Int} (hm : 0 < m) : bU n f a m < m := by
 unfold bU; split
 ·omega
 ·exact Int.emod_lt_of_pos _ hm
theorem kM {ρ : Nat → Option Nat} {n : Nat} {f g : Nat → AV} {a b : Int} (h : f = g) (h2 : a = b) : cF ρ (gN n f a) (gN n g b) := by
 subst h h2
 exact ⟨rfl, rfl, rfl, rfl, fun i hi => aG rfl⟩
theorem P1 {k n : Nat} {z : Nat → Int} {a m : Int} {o : ay} (ho : ∀ ρ, cF ρ o (gN n (fun i => .int .i64 (z i)) a)) (h : cm n (fun i => .int .i64 (z i)) a) (h1 : 0 < m) (h2 : m < 2 ^ 62) (K : Nat) :
  az P mG K [.ptr k 0 2 0 [], .int .i64 m] [(k, o)] ⟨.int .i64 (bU n (fun i => .int .i64 (z i)) a m), [(k, gN n (fun i => .int .i64 (z i)) (bh n a))], []⟩ := by
 refine zC hT abp hm MX rfl rfl (of_decide_eq_true (by kernel_rfl)) ho 60 NP (fun _ => ?_) K
 have h3 := h.lo
 have h4 := h.hi
 have h5 := h.len
 simp only [aa.all, ax, decide_eq_true_eq, decide_eq_false_iff_not]
 refine ⟨⟨by omega, by omega⟩, fun hb => ⟨bq ?_, _, rfl, rfl, ?_⟩, fun hb => ⟨⟨by omega, by omega⟩, ?_⟩⟩
 ·unfold bU; rw [if_pos (by omega)]
 ·exact kM rfl (by unfold bh; rw [if_pos (by omega)])
 have e1 : IntKind.i64.wrap (a + 1) = a + 1 := wrap_i64 (by omega) (by omega)
 have e2 : IntKind.i64.wrap (a + 1 - 1) = a := by rw [wrap_i64 (by omega) (by omega)]; omega
 rw [e1, e2]
 refine ⟨⟨by omega, by omega, by omega, h1, h2⟩, bq ?_, _, rfl, rfl, ⟨rfl, rfl, rfl, rfl, fun i hi => ?_⟩⟩
 ·unfold bU; rw [if_neg (by omega)]; rfl
 ·rw [show i = 0 by have : i < 1 := hi; omega]
  show fD _ (.agg [.aj 1 n (fun i => .int .i64 (z i)), .int .i64 (a + 1)]) (.agg [.aj 1 n (fun i => .int .i64 (z i)), .int .i64 (bh n a)])
  rw [show bh n a = a + 1 by unfold bh; rw [if_neg (by omega)]]
  exact aG rfl
def BV (k : Nat) (pre : aD) : Option (Nat × (Nat → AV) × Int) := match pre with
 | [(k', o)] => if k == k' && !o.row && o.wr && o.es == 2 && o.len == 1 then match o.f 0 with
  | .agg [.aj 1 n f, .int .i64 a] => some (n, f, a)
  | _ => none
  else none
 | _ => none
def fX (g : Nat → (Nat → AV) → Int → List AV → Option (AV × Int × List Prop)) : Spec := fun _ args pre => match args with
 | .ptr k 0 2 0 [] :: l => match BV k pre with
  | some (n, f, a) => match g n f a l with
   | some (v, b, q) => some ⟨v, [(k, gN n f b)], cm n f a :: q⟩
   | none => none
  | none => none
 | _ => none
theorem Ts {k : Nat} {pre : aD} {n : Nat} {f : Nat → AV} {a : Int} (h : BV k pre = some (n, f, a)) : ∃ o, pre = [(k, o)] ∧ ∀ ρ, cF ρ o (gN n f a) := by
 unfold BV at h
 split at h
 ·rename_i k' o
  split at h
  ·rename_i hc
   simp only [Bool.and_eq_true, beq_iff_eq, Bool.not_eq_true'] at hc
   obtain ⟨⟨⟨⟨rfl, h2⟩, h3⟩, h4⟩, h5⟩ := hc
   split at h
   ·rename_i n' f' a' hf
    simp only [Option.some.injEq, Prod.mk.injEq] at h
    obtain ⟨rfl, rfl, rfl⟩ := h
    refine ⟨o, rfl, fun ρ => ?_⟩
    obtain ⟨row, wr, es, len, g⟩ := o
    simp only at h2 h3 h4 h5 hf
    subst h2 h3 h4 h5
    refine g7 rfl fun i hi => ?_
    rw [show i = 0 by omega, hf]
    exact aG rfl
   ·simp at h
  ·simp at h
 ·simp at h
theorem pS {fid : FuncId} {g : Nat → (Nat → AV) → Int → List AV → Option (AV × Int × List Prop)}
  (h : ∀ {k n : Nat} {z : Nat → Int} {a : Int} {l : List AV} {v : AV} {b : Int} {q : List Prop} {o : ay} (K : Nat), g n (fun i => .int .i64 (z i)) a l = some (v, b, q) → (∀ ρ, cF ρ o (gN n (fun i => .int .i64 (z i)) a)) → cm n (fun i => .int .i64 (z i)) a → ax q → az P fid K (.ptr k 0 2 0 [] :: l) [(k, o)] ⟨v, [(k, gN n (fun i => .int .i64 (z i)) b)], []⟩) : ∀ K args pre r, fX g K args pre = some r → az P fid K args pre r := by
 intro K args pre r hs
 unfold fX at hs
 split at hs
 ·rename_i k l
  split at hs
  ·rename_i n f a hd
   split at hs
   ·rename_i v b q hv
    simp only [Option.some.injEq] at hs
    subst hs
    obtain ⟨o, rfl, ho⟩ := Ts hd
    intro need
    obtain ⟨hd, hq⟩ := (dA (a := [cm n f a]) (b := q)).1 need
    have hd : cm n f a := hd
    obtain ⟨z, rfl⟩ : ∃ z : Nat → Int, f = fun i => .int .i64 (z i) := ⟨fun i => intOf (f i), funext fun i => hd.ints i⟩
    exact h K hv ho hd hq trivial
   ·simp at hs
  ·simp at hs
 ·simp at hs
def qz (n : Nat) (f : Nat → AV) (a : Int) (l : List AV) : Option (AV × Int × List Prop) := match l with
 | [.int .i64 m] => some (.int .i64 (bU n f a m), bh n a, [0 < m, m < 2 ^ 62])
 | _ => none
theorem z7 : ∀ K args pre r, fX qz K args pre = some r → az P mG K args pre r := by
 refine pS fun {k n z a l v b q o} K hg ho hd hq => ?_
 unfold qz at hg
 split at hg
 ·simp only [Option.some.injEq, Prod.mk.injEq] at hg
  obtain ⟨rfl, rfl, rfl⟩ := hg
  exact P1 ho hd hq.1 hq.2 K
 ·simp at hg
end Go.Am.B
