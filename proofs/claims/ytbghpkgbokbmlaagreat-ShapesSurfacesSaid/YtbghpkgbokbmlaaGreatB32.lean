/- brepkernelmade: Mod, Light, Roll, Part, Next, number, Number, Point, Map. -/
import Derived.Test.YtbghpkgbokbmlaaGreatB31
import Derived.Test.YtbghpkgbokbmlaaGreatZ2
set_option linter.unusedVariables false
namespace Go.Am.B
open Go Go.Am.N AV
theorem MZ : aP P oH q9 (au q9) := aL aaL (by kernel_rfl) (by kernel_rfl) (by kernel_rfl)
theorem RS : aP P xW rO (au rO) := aL XB (by kernel_rfl) (by kernel_rfl) (by kernel_rfl)
theorem Ww : aP P yd yz (au yz) := aL Vd (by kernel_rfl) (by kernel_rfl) (by kernel_rfl)
theorem UL : aP P lE sq (au sq) := aL SK (by kernel_rfl) (by kernel_rfl) (by kernel_rfl)
abbrev fZ (n : Nat) (f : Nat → AV) (a : Int) : aA := ⟨false, true, 2, 1, fun _ => .agg [.aj 1 n f, .int .i64 a]⟩
theorem Z9 {x m : Int} : bq T [] [9] 60 q9 (au q9) ⟨aK 0 [.int .i64 x, .int .i64 m], [], 0⟩ =
  some (aa.af [m ≠ (0 : Int)] (aa.fork (decide (x.tmod m < (0 : Int))) (aa.leaf ah.ret [int IntKind.i64 (IntKind.i64.wrap (x.tmod m + m))]) (aa.leaf ah.ret [int IntKind.i64 (x.tmod m)]))) := by kernel_rfl
theorem LO {n : Nat} {f : Nat → AV} : bq T [] [] 60 rO (au rO) ⟨aK 0 [.aj 1 n f], [], 0⟩ =
  some (aa.leaf ah.ret [AV.bool (decide ((↑n : Int) ≤ (500 : Int)))]) := by kernel_rfl
theorem Mh {n : Nat} {f : Nat → AV} : aI T [] [] 60 [2] [au yz] ⟨aK 0 [.aj 1 n f], [], 0⟩ = some (.leaf .ret ([.ptr 12288 0 2 0 []], [(12288, fZ n f 0)])) := by kernel_rfl
theorem QG {x m : Int} (h1 : 0 < m) (h2 : m < 2 ^ 62) (K : Nat) : ay P oH K [.int .i64 x, .int .i64 m] [] (aF (.int .i64 (x % m)) []) := by
 refine bt hT bg hm MZ rfl (of_decide_eq_true (by kernel_rfl)) rfl 60 Z9 (fun _ => ?_) K []
 simp only [aa.all, ax, decide_eq_true_eq, decide_eq_false_iff_not]
 have h3 := Int.tmod_lt_of_pos x h1
 have h4 := Int.lt_tmod_of_pos x h1
 have h5 := Int.emod_nonneg x (show m ≠ 0 by omega)
 have h6 := Int.emod_lt_of_pos x h1
 have h7 := Int.tmod_eq_emod (a := x) (b := m)
 have h8 : ∀ {v : Int}, v < 0 → v = x % m - ((if 0 ≤ x ∨ m ∣ x then 0 else m.natAbs : Nat) : Int) → v + m = x % m := fun {v} g1 g2 => by
  by_cases h : 0 ≤ x ∨ m ∣ x
  ·rw [if_pos h] at g2; omega
  ·rw [if_neg h] at g2; omega
 have h9 : ∀ {v : Int}, ¬ v < 0 → v = x % m - ((if 0 ≤ x ∨ m ∣ x then 0 else m.natAbs : Nat) : Int) → v = x % m := fun {v} g1 g2 => by
  by_cases h : 0 ≤ x ∨ m ∣ x
  ·rw [if_pos h] at g2; omega
  ·rw [if_neg h] at g2; omega
 refine ⟨by omega, fun hb => bB ?_, fun hb => bB (h9 hb h7)⟩
 rw [wrap_i64 (by omega) (by omega)]
 exact h8 hb h7
def BV : Spec := bA fun l => match l with
 | [.int .i64 x, .int .i64 m] => some (aF (.int .i64 (x % m)) [0 < m, m < 2 ^ 62])
 | _ => none
def GM : aO := [(oH, BV)]
theorem Gd : ∀ K args pre r, BV K args pre = some r → ay P oH K args pre r := by
 refine bQ fun K args r hk hs _ => ?_
 split at hs
 ·simp only [Option.some.injEq] at hs
  subst hs
  exact fun need => QG need.1 need.2 K trivial
 ·simp at hs
theorem Lh : aW P GM := aD Gd bg
theorem UF {n : Nat} {z : Nat → Int} {a m : Int} : nW T GM [14] 60 sq (au sq) ⟨aK 0 [.ptr 0 0 2 0 [], .int .i64 m], [(0, fZ n (fun i => .int .i64 (z i)) a)], 1⟩ =
  some (aa.af [(0 : Nat) < 1, (0 : Nat) < 1] (aa.fork (decide (a ≥ (↑n : Int))) (aa.leaf ah.ret ([int IntKind.i64 (0 : Int)], some ⟨false, true, 2, 1, fun (x : Nat) ↦ agg [aj 1 n fun (i : Nat) ↦ int IntKind.i64 (z i), int IntKind.i64 a]⟩)) (aa.af [(0 : Nat) < 1, (0 : Nat) < 1] (aa.af [(0 : Nat) < 1, (0 : Nat) < 1, (0 : Int) ≤ IntKind.i64.wrap (IntKind.i64.wrap (a + (1 : Int)) - (1 : Int)) ∧ (IntKind.i64.wrap (IntKind.i64.wrap (a + (1 : Int)) - (1 : Int))).toNat < n, (0 : Int) < m, m < (2 : Int) ^ 62] (aa.leaf ah.ret ([int IntKind.i64 (z (IntKind.i64.wrap (IntKind.i64.wrap (a + (1 : Int)) - (1 : Int))).toNat % m)], some ⟨false, true, 2, 1, fun (j : Nat) ↦ if (j == 0) = true then agg ((agg [aj 1 n fun (i : Nat) ↦ int IntKind.i64 (z i), int IntKind.i64 a]).kids.set 1 (bw (int IntKind.i64 (IntKind.i64.wrap (a + (1 : Int)))))) else agg [aj 1 n fun (i : Nat) ↦ int IntKind.i64 (z i), int IntKind.i64 a]⟩)))))) := by kernel_rfl
def intOf : AV → Int
 | .int _ n => n
 | _ => 0
def bY (n : Nat) (f : Nat → AV) (a m : Int) : Int := if (n : Int) ≤ a then 0 else intOf (f a.toNat) % m
def bm (n : Nat) (a : Int) : Int := if (n : Int) ≤ a then a else a + 1
structure bT (n : Nat) (f : Nat → AV) (a : Int) : Prop where
 ints : ∀ i, f i = .int .i64 (intOf (f i))
 lo : 0 ≤ a
 hi : a ≤ n
 len : n < 2 ^ 62
theorem bT.next {n : Nat} {f : Nat → AV} {a : Int} (h : bT n f a) : bT n f (bm n a) :=
 ⟨h.ints, by have := h.lo; unfold bm; split <;> omega, by have := h.hi; unfold bm; split <;> omega, h.len⟩
theorem gp {n : Nat} {f : Nat → AV} {a m : Int} (hm : 0 < m) : 0 ≤ bY n f a m := by
 unfold bY; split
 ·omega
 ·exact Int.emod_nonneg _ (by omega)
theorem g7 {n : Nat} {f : Nat → AV} {a m : Int} (hm : 0 < m) : bY n f a m < m := by
 unfold bY; split
 ·omega
 ·exact Int.emod_lt_of_pos _ hm
theorem jD {ρ : Nat → Option Nat} {n : Nat} {f g : Nat → AV} {a b : Int} (h : f = g) (h2 : a = b) : cH ρ (fZ n f a) (fZ n g b) := by
 subst h h2
 exact ⟨rfl, rfl, rfl, rfl, fun i hi => aG rfl⟩
theorem Ug {k n : Nat} {z : Nat → Int} {a m : Int} {o : aA} (ho : ∀ ρ, cH ρ o (fZ n (fun i => .int .i64 (z i)) a)) (h : bT n (fun i => .int .i64 (z i)) a) (h1 : 0 < m) (h2 : m < 2 ^ 62) (K : Nat) :
  ay P lE K [.ptr k 0 2 0 [], .int .i64 m] [(k, o)] ⟨.int .i64 (bY n (fun i => .int .i64 (z i)) a m), [(k, fZ n (fun i => .int .i64 (z i)) (bm n a))], []⟩ := by
 refine uI hT Lh hm UL rfl rfl (of_decide_eq_true (by kernel_rfl)) ho 60 UF (fun _ => ?_) K
 have h3 := h.lo
 have h4 := h.hi
 have h5 := h.len
 simp only [aa.all, ax, decide_eq_true_eq, decide_eq_false_iff_not]
 refine ⟨⟨by omega, by omega⟩, fun hb => ⟨bB ?_, _, rfl, rfl, ?_⟩, fun hb => ⟨⟨by omega, by omega⟩, ?_⟩⟩
 ·unfold bY; rw [if_pos (by omega)]
 ·exact jD rfl (by unfold bm; rw [if_pos (by omega)])
 have e1 : IntKind.i64.wrap (a + 1) = a + 1 := wrap_i64 (by omega) (by omega)
 have e2 : IntKind.i64.wrap (a + 1 - 1) = a := by rw [wrap_i64 (by omega) (by omega)]; omega
 rw [e1, e2]
 refine ⟨⟨by omega, by omega, by omega, h1, h2⟩, bB ?_, _, rfl, rfl, ⟨rfl, rfl, rfl, rfl, fun i hi => ?_⟩⟩
 ·unfold bY; rw [if_neg (by omega)]; rfl
 ·rw [show i = 0 by have : i < 1 := hi; omega]
  show fq _ (.agg [.aj 1 n (fun i => .int .i64 (z i)), .int .i64 (a + 1)]) (.agg [.aj 1 n (fun i => .int .i64 (z i)), .int .i64 (bm n a)])
  rw [show bm n a = a + 1 by unfold bm; rw [if_neg (by omega)]]
  exact aG rfl
def A7 (k : Nat) (pre : aC) : Option (Nat × (Nat → AV) × Int) := match pre with
 | [(k', o)] => if k == k' && !o.row && o.wr && o.es == 2 && o.len == 1 then match o.f 0 with
  | .agg [.aj 1 n f, .int .i64 a] => some (n, f, a)
  | _ => none
  else none
 | _ => none
def fe (g : Nat → (Nat → AV) → Int → List AV → Option (AV × Int × List Prop)) : Spec := fun _ args pre => match args with
 | .ptr k 0 2 0 [] :: l => match A7 k pre with
  | some (n, f, a) => match g n f a l with
   | some (v, b, q) => some ⟨v, [(k, fZ n f b)], bT n f a :: q⟩
   | none => none
  | none => none
 | _ => none
theorem Qp {k : Nat} {pre : aC} {n : Nat} {f : Nat → AV} {a : Int} (h : A7 k pre = some (n, f, a)) : ∃ o, pre = [(k, o)] ∧ ∀ ρ, cH ρ o (fZ n f a) := by
 unfold A7 at h
 split at h
 ·rename_i k' o
  split at h
  ·rename_i hc
   simp only [Bool.and_eq_true, beq_iff_eq, Bool.not_eq_true'] at hc
   obtain ⟨⟨⟨⟨rfl, h2⟩, h3⟩, h4⟩, h5⟩ := hc
   split at h
   ·rename_i n' f' a' hf
    simp only [Option.some.injEq, Prod.mk.injEq] at h
    obtain ⟨rfl, rfl, rfl⟩ := h
    refine ⟨o, rfl, fun ρ => ?_⟩
    obtain ⟨row, wr, es, len, g⟩ := o
    simp only at h2 h3 h4 h5 hf
    subst h2 h3 h4 h5
    refine g9 rfl fun i hi => ?_
    rw [show i = 0 by omega, hf]
    exact aG rfl
   ·simp at h
  ·simp at h
 ·simp at h
theorem nA {fid : FuncId} {g : Nat → (Nat → AV) → Int → List AV → Option (AV × Int × List Prop)}
  (h : ∀ {k n : Nat} {z : Nat → Int} {a : Int} {l : List AV} {v : AV} {b : Int} {q : List Prop} {o : aA} (K : Nat), g n (fun i => .int .i64 (z i)) a l = some (v, b, q) → (∀ ρ, cH ρ o (fZ n (fun i => .int .i64 (z i)) a)) → bT n (fun i => .int .i64 (z i)) a → ax q → ay P fid K (.ptr k 0 2 0 [] :: l) [(k, o)] ⟨v, [(k, fZ n (fun i => .int .i64 (z i)) b)], []⟩) : ∀ K args pre r, fe g K args pre = some r → ay P fid K args pre r := by
 intro K args pre r hs
 unfold fe at hs
 split at hs
 ·rename_i k l
  split at hs
  ·rename_i n f a hd
   split at hs
   ·rename_i v b q hv
    simp only [Option.some.injEq] at hs
    subst hs
    obtain ⟨o, rfl, ho⟩ := Qp hd
    intro need
    obtain ⟨hd, hq⟩ := (dn (a := [bT n f a]) (b := q)).1 need
    have hd : bT n f a := hd
    obtain ⟨z, rfl⟩ : ∃ z : Nat → Int, f = fun i => .int .i64 (z i) := ⟨fun i => intOf (f i), funext fun i => hd.ints i⟩
    exact h K hv ho hd hq trivial
   ·simp at hs
  ·simp at hs
 ·simp at hs
def pN (n : Nat) (f : Nat → AV) (a : Int) (l : List AV) : Option (AV × Int × List Prop) := match l with
 | [.int .i64 m] => some (.int .i64 (bY n f a m), bm n a, [0 < m, m < 2 ^ 62])
 | _ => none
theorem yt : ∀ K args pre r, fe pN K args pre = some r → ay P lE K args pre r := by
 refine nA fun {k n z a l v b q o} K hg ho hd hq => ?_
 unfold pN at hg
 split at hg
 ·simp only [Option.some.injEq, Prod.mk.injEq] at hg
  obtain ⟨rfl, rfl, rfl⟩ := hg
  exact Ug ho hd hq.1 hq.2 K
 ·simp at hg
end Go.Am.B
