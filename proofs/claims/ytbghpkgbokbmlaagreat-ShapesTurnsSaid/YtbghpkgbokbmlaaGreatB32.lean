/- brepkernelmade: Mod, Light, Roll, Part, Next, number, Number, Point, Map. -/
import Derived.Test.YtbghpkgbokbmlaaGreatB31
import Derived.Test.YtbghpkgbokbmlaaGreatZ2
set_option linter.unusedVariables false
namespace Go.Am.B
open Go Go.Am.N AV
theorem aa1 : aN P n8 ta (au ta) := aK W1 (by kernel_rfl) (by kernel_rfl) (by kernel_rfl)
theorem ZR : aN P yC uK (au uK) := aK TL (by kernel_rfl) (by kernel_rfl) (by kernel_rfl)
theorem aan : aN P wO x9 (au x9) := aK Ns (by kernel_rfl) (by kernel_rfl) (by kernel_rfl)
theorem PC : aN P lV rX (au rX) := aK Rx (by kernel_rfl) (by kernel_rfl) (by kernel_rfl)
abbrev ga (n : Nat) (f : Nat → AV) (a : Int) : aB := ⟨false, true, 2, 1, fun _ => .agg [.ag 1 n f, .int .i64 a]⟩
theorem Pq {x m : Int} : bA T [] [9] 60 ta (au ta) ⟨aL 0 [.int .i64 x, .int .i64 m], [], 0⟩ =
  some (aa.af [m ≠ (0 : Int)] (aa.fork (decide (x.tmod m < (0 : Int))) (aa.leaf aj.ret [int IntKind.i64 (IntKind.i64.wrap (x.tmod m + m))]) (aa.leaf aj.ret [int IntKind.i64 (x.tmod m)]))) := by kernel_rfl
theorem V0 {n : Nat} {f : Nat → AV} : bA T [] [] 60 uK (au uK) ⟨aL 0 [.ag 1 n f], [], 0⟩ =
  some (aa.leaf aj.ret [AV.bool (decide ((↑n : Int) ≤ (500 : Int)))]) := by kernel_rfl
theorem aaj {n : Nat} {f : Nat → AV} : aH T [] [] 60 [2] [au x9] ⟨aL 0 [.ag 1 n f], [], 0⟩ = some (.leaf .ret ([.ptr 12288 0 2 0 []], [(12288, ga n f 0)])) := by kernel_rfl
theorem W0 {x m : Int} (h1 : 0 < m) (h2 : m < 2 ^ 62) (K : Nat) : aA P n8 K [.int .i64 x, .int .i64 m] [] (aG (.int .i64 (x % m)) []) := by
 refine bD hT aU hm aa1 rfl (of_decide_eq_true (by kernel_rfl)) rfl 60 Pq (fun _ => ?_) K []
 simp only [aa.all, ax, decide_eq_true_eq, decide_eq_false_iff_not]
 have h3 := Int.tmod_lt_of_pos x h1
 have h4 := Int.lt_tmod_of_pos x h1
 have h5 := Int.emod_nonneg x (show m ≠ 0 by omega)
 have h6 := Int.emod_lt_of_pos x h1
 have h7 := Int.tmod_eq_emod (a := x) (b := m)
 have h8 : ∀ {v : Int}, v < 0 → v = x % m - ((if 0 ≤ x ∨ m ∣ x then 0 else m.natAbs : Nat) : Int) → v + m = x % m := fun {v} g1 g2 => by
  by_cases h : 0 ≤ x ∨ m ∣ x
  ·rw [if_pos h] at g2; omega
  ·rw [if_neg h] at g2; omega
 have h9 : ∀ {v : Int}, ¬ v < 0 → v = x % m - ((if 0 ≤ x ∨ m ∣ x then 0 else m.natAbs : Nat) : Int) → v = x % m := fun {v} g1 g2 => by
  by_cases h : 0 ≤ x ∨ m ∣ x
  ·rw [if_pos h] at g2; omega
  ·rw [if_neg h] at g2; omega
 refine ⟨by omega, fun hb => bn ?_, fun hb => bn (h9 hb h7)⟩
 rw [wrap_i64 (by omega) (by omega)]
 exact h8 hb h7
def yy : Spec := bp fun l => match l with
 | [.int .i64 x, .int .i64 m] => some (aG (.int .i64 (x % m)) [0 < m, m < 2 ^ 62])
 | _ => none
def GM : aO := [(n8, yy)]
theorem BP : ∀ K args pre r, yy K args pre = some r → aA P n8 K args pre r := by
 refine bF fun K args r hk hs _ => ?_
 split at hs
 ·simp only [Option.some.injEq] at hs
  subst hs
  exact fun need => W0 need.1 need.2 K trivial
 ·simp at hs
theorem Q7 : aV P GM := aD BP aU
theorem TN {n : Nat} {z : Nat → Int} {a m : Int} : oC T GM [14] 60 rX (au rX) ⟨aL 0 [.ptr 0 0 2 0 [], .int .i64 m], [(0, ga n (fun i => .int .i64 (z i)) a)], 1⟩ =
  some (aa.af [(0 : Nat) < 1, (0 : Nat) < 1] (aa.fork (decide (a ≥ (↑n : Int))) (aa.leaf aj.ret ([int IntKind.i64 (0 : Int)], some ⟨false, true, 2, 1, fun (x : Nat) ↦ agg [ag 1 n fun (i : Nat) ↦ int IntKind.i64 (z i), int IntKind.i64 a]⟩)) (aa.af [(0 : Nat) < 1, (0 : Nat) < 1] (aa.af [(0 : Nat) < 1, (0 : Nat) < 1, (0 : Int) ≤ IntKind.i64.wrap (IntKind.i64.wrap (a + (1 : Int)) - (1 : Int)) ∧ (IntKind.i64.wrap (IntKind.i64.wrap (a + (1 : Int)) - (1 : Int))).toNat < n, (0 : Int) < m, m < (2 : Int) ^ 62] (aa.leaf aj.ret ([int IntKind.i64 (z (IntKind.i64.wrap (IntKind.i64.wrap (a + (1 : Int)) - (1 : Int))).toNat % m)], some ⟨false, true, 2, 1, fun (j : Nat) ↦ if (j == 0) = true then agg ((agg [ag 1 n fun (i : Nat) ↦ int IntKind.i64 (z i), int IntKind.i64 a]).kids.set 1 (br (int IntKind.i64 (IntKind.i64.wrap (a + (1 : Int)))))) else agg [ag 1 n fun (i : Nat) ↦ int IntKind.i64 (z i), int IntKind.i64 a]⟩)))))) := by kernel_rfl
def intOf : AV → Int
 | .int _ n => n
 | _ => 0
def bO (n : Nat) (f : Nat → AV) (a m : Int) : Int := if (n : Int) ≤ a then 0 else intOf (f a.toNat) % m
def bh (n : Nat) (a : Int) : Int := if (n : Int) ≤ a then a else a + 1
structure bY (n : Nat) (f : Nat → AV) (a : Int) : Prop where
 ints : ∀ i, f i = .int .i64 (intOf (f i))
 lo : 0 ≤ a
 hi : a ≤ n
 len : n < 2 ^ 62
theorem bY.next {n : Nat} {f : Nat → AV} {a : Int} (h : bY n f a) : bY n f (bh n a) :=
 ⟨h.ints, by have := h.lo; unfold bh; split <;> omega, by have := h.hi; unfold bh; split <;> omega, h.len⟩
theorem gW {n : Nat} {f : Nat → AV} {a m : Int} (hm : 0 < m) : 0 ≤ bO n f a m := by
 unfold bO; split
 ·omega
 ·exact Int.emod_nonneg _ (by omega)
theorem gN {n : Nat} {f : Nat → AV} {a m : Int} (hm : 0 < m) : bO n f a m < m := by
 unfold bO; split
 ·omega
 ·exact Int.emod_lt_of_pos _ hm
theorem kK {ρ : Nat → Option Nat} {n : Nat} {f g : Nat → AV} {a b : Int} (h : f = g) (h2 : a = b) : cy ρ (ga n f a) (ga n g b) := by
 subst h h2
 exact ⟨rfl, rfl, rfl, rfl, fun i hi => aF rfl⟩
theorem Tp {k n : Nat} {z : Nat → Int} {a m : Int} {o : aB} (ho : ∀ ρ, cy ρ o (ga n (fun i => .int .i64 (z i)) a)) (h : bY n (fun i => .int .i64 (z i)) a) (h1 : 0 < m) (h2 : m < 2 ^ 62) (K : Nat) :
  aA P lV K [.ptr k 0 2 0 [], .int .i64 m] [(k, o)] ⟨.int .i64 (bO n (fun i => .int .i64 (z i)) a m), [(k, ga n (fun i => .int .i64 (z i)) (bh n a))], []⟩ := by
 refine xO hT Q7 hm PC rfl rfl (of_decide_eq_true (by kernel_rfl)) ho 60 TN (fun _ => ?_) K
 have h3 := h.lo
 have h4 := h.hi
 have h5 := h.len
 simp only [aa.all, ax, decide_eq_true_eq, decide_eq_false_iff_not]
 refine ⟨⟨by omega, by omega⟩, fun hb => ⟨bn ?_, _, rfl, rfl, ?_⟩, fun hb => ⟨⟨by omega, by omega⟩, ?_⟩⟩
 ·unfold bO; rw [if_pos (by omega)]
 ·exact kK rfl (by unfold bh; rw [if_pos (by omega)])
 have e1 : IntKind.i64.wrap (a + 1) = a + 1 := wrap_i64 (by omega) (by omega)
 have e2 : IntKind.i64.wrap (a + 1 - 1) = a := by rw [wrap_i64 (by omega) (by omega)]; omega
 rw [e1, e2]
 refine ⟨⟨by omega, by omega, by omega, h1, h2⟩, bn ?_, _, rfl, rfl, ⟨rfl, rfl, rfl, rfl, fun i hi => ?_⟩⟩
 ·unfold bO; rw [if_neg (by omega)]; rfl
 ·rw [show i = 0 by have : i < 1 := hi; omega]
  show fB _ (.agg [.ag 1 n (fun i => .int .i64 (z i)), .int .i64 (a + 1)]) (.agg [.ag 1 n (fun i => .int .i64 (z i)), .int .i64 (bh n a)])
  rw [show bh n a = a + 1 by unfold bh; rw [if_neg (by omega)]]
  exact aF rfl
def Ax (k : Nat) (pre : aC) : Option (Nat × (Nat → AV) × Int) := match pre with
 | [(k', o)] => if k == k' && !o.row && o.wr && o.es == 2 && o.len == 1 then match o.f 0 with
  | .agg [.ag 1 n f, .int .i64 a] => some (n, f, a)
  | _ => none
  else none
 | _ => none
def fO (g : Nat → (Nat → AV) → Int → List AV → Option (AV × Int × List Prop)) : Spec := fun _ args pre => match args with
 | .ptr k 0 2 0 [] :: l => match Ax k pre with
  | some (n, f, a) => match g n f a l with
   | some (v, b, q) => some ⟨v, [(k, ga n f b)], bY n f a :: q⟩
   | none => none
  | none => none
 | _ => none
theorem NW {k : Nat} {pre : aC} {n : Nat} {f : Nat → AV} {a : Int} (h : Ax k pre = some (n, f, a)) : ∃ o, pre = [(k, o)] ∧ ∀ ρ, cy ρ o (ga n f a) := by
 unfold Ax at h
 split at h
 ·rename_i k' o
  split at h
  ·rename_i hc
   simp only [Bool.and_eq_true, beq_iff_eq, Bool.not_eq_true'] at hc
   obtain ⟨⟨⟨⟨rfl, h2⟩, h3⟩, h4⟩, h5⟩ := hc
   split at h
   ·rename_i n' f' a' hf
    simp only [Option.some.injEq, Prod.mk.injEq] at h
    obtain ⟨rfl, rfl, rfl⟩ := h
    refine ⟨o, rfl, fun ρ => ?_⟩
    obtain ⟨row, wr, es, len, g⟩ := o
    simp only at h2 h3 h4 h5 hf
    subst h2 h3 h4 h5
    refine gM rfl fun i hi => ?_
    rw [show i = 0 by omega, hf]
    exact aF rfl
   ·simp at h
  ·simp at h
 ·simp at h
theorem pC {fid : FuncId} {g : Nat → (Nat → AV) → Int → List AV → Option (AV × Int × List Prop)}
  (h : ∀ {k n : Nat} {z : Nat → Int} {a : Int} {l : List AV} {v : AV} {b : Int} {q : List Prop} {o : aB} (K : Nat), g n (fun i => .int .i64 (z i)) a l = some (v, b, q) → (∀ ρ, cy ρ o (ga n (fun i => .int .i64 (z i)) a)) → bY n (fun i => .int .i64 (z i)) a → ax q → aA P fid K (.ptr k 0 2 0 [] :: l) [(k, o)] ⟨v, [(k, ga n (fun i => .int .i64 (z i)) b)], []⟩) : ∀ K args pre r, fO g K args pre = some r → aA P fid K args pre r := by
 intro K args pre r hs
 unfold fO at hs
 split at hs
 ·rename_i k l
  split at hs
  ·rename_i n f a hd
   split at hs
   ·rename_i v b q hv
    simp only [Option.some.injEq] at hs
    subst hs
    obtain ⟨o, rfl, ho⟩ := NW hd
    intro need
    obtain ⟨hd, hq⟩ := (dm (a := [bY n f a]) (b := q)).1 need
    have hd : bY n f a := hd
    obtain ⟨z, rfl⟩ : ∃ z : Nat → Int, f = fun i => .int .i64 (z i) := ⟨fun i => intOf (f i), funext fun i => hd.ints i⟩
    exact h K hv ho hd hq trivial
   ·simp at hs
  ·simp at hs
 ·simp at hs
def pA (n : Nat) (f : Nat → AV) (a : Int) (l : List AV) : Option (AV × Int × List Prop) := match l with
 | [.int .i64 m] => some (.int .i64 (bO n f a m), bh n a, [0 < m, m < 2 ^ 62])
 | _ => none
theorem vS : ∀ K args pre r, fO pA K args pre = some r → aA P lV K args pre r := by
 refine pC fun {k n z a l v b q o} K hg ho hd hq => ?_
 unfold pA at hg
 split at hg
 ·simp only [Option.some.injEq, Prod.mk.injEq] at hg
  obtain ⟨rfl, rfl, rfl⟩ := hg
  exact Tp ho hd hq.1 hq.2 K
 ·simp at hg
end Go.Am.B
