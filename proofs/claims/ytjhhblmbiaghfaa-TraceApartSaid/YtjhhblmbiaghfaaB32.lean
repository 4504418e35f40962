/- brepkernelmade: Mod, Light, Roll, Part, Next, number, Number, Point, Map. -/
import Derived.Test.YtjhhblmbiaghfaaB31
import Derived.Test.YtjhhblmbiaghfaaZ2
set_option linter.unusedVariables false
namespace Go.Am.B
open Go Go.Am.N AV
theorem M0 : aO P qd rX (ax rX) := aS LO (by kernel_rfl) (by kernel_rfl) (by kernel_rfl)
theorem JU : aO P wP sk (ax sk) := aS HW (by kernel_rfl) (by kernel_rfl) (by kernel_rfl)
theorem IF : aO P tZ u9 (ax u9) := aS TY (by kernel_rfl) (by kernel_rfl) (by kernel_rfl)
theorem F8 : aO P nI rK (ax rK) := aS RE (by kernel_rfl) (by kernel_rfl) (by kernel_rfl)
abbrev fW (n : Nat) (f : Nat → AV) (a : Int) : aH := ⟨false, true, 2, 1, fun _ => .agg [.ah 1 n f, .int .i64 a]⟩
theorem TF {x m : Int} : bA T [] [9] 60 rX (ax rX) ⟨aM 0 [.int .i64 x, .int .i64 m], [], 0⟩ =
  some (aa.af [m ≠ (0 : Int)] (aa.fork (decide (x.tmod m < (0 : Int))) (aa.leaf aj.ret [int IntKind.i64 (IntKind.i64.wrap (x.tmod m + m))]) (aa.leaf aj.ret [int IntKind.i64 (x.tmod m)]))) := by kernel_rfl
theorem Pz {n : Nat} {f : Nat → AV} : bA T [] [] 60 sk (ax sk) ⟨aM 0 [.ah 1 n f], [], 0⟩ =
  some (aa.leaf aj.ret [AV.bool (decide ((↑n : Int) ≤ (500 : Int)))]) := by kernel_rfl
theorem MQ {n : Nat} {f : Nat → AV} : aG T [] [] 60 [2] [ax u9] ⟨aM 0 [.ah 1 n f], [], 0⟩ = some (.leaf .ret ([.ptr 12288 0 2 0 []], [(12288, fW n f 0)])) := by kernel_rfl
theorem Q7 {x m : Int} (h1 : 0 < m) (h2 : m < 2 ^ 62) (K : Nat) : aC P qd K [.int .i64 x, .int .i64 m] [] (aJ (.int .i64 (x % m)) []) := by
 refine bE hT aZ hm M0 rfl (of_decide_eq_true (by kernel_rfl)) rfl 60 TF (fun _ => ?_) K []
 simp only [aa.all, az, decide_eq_true_eq, decide_eq_false_iff_not]
 have h3 := Int.tmod_lt_of_pos x h1
 have h4 := Int.lt_tmod_of_pos x h1
 have h5 := Int.emod_nonneg x (show m ≠ 0 by omega)
 have h6 := Int.emod_lt_of_pos x h1
 have h7 := Int.tmod_eq_emod (a := x) (b := m)
 have h8 : ∀ {v : Int}, v < 0 → v = x % m - ((if 0 ≤ x ∨ m ∣ x then 0 else m.natAbs : Nat) : Int) → v + m = x % m := fun {v} g1 g2 => by
  by_cases h : 0 ≤ x ∨ m ∣ x
  ·rw [if_pos h] at g2; omega
  ·rw [if_neg h] at g2; omega
 have h9 : ∀ {v : Int}, ¬ v < 0 → v = x % m - ((if 0 ≤ x ∨ m ∣ x then 0 else m.natAbs : Nat) : Int) → v = x % m := fun {v} g1 g2 => by
  by_cases h : 0 ≤ x ∨ m ∣ x
  ·rw [if_pos h] at g2; omega
  ·rw [if_neg h] at g2; omega
 refine ⟨by omega, fun hb => bm ?_, fun hb => bm (h9 hb h7)⟩
 rw [wrap_i64 (by omega) (by omega)]
 exact h8 hb h7
def Bu : Spec := bp fun l => match l with
 | [.int .i64 x, .int .i64 m] => some (aJ (.int .i64 (x % m)) [0 < m, m < 2 ^ 62])
 | _ => none
def GM : bf := [(qd, Bu)]
theorem Qv : ∀ K args pre r, Bu K args pre = some r → aC P qd K args pre r := by
 refine bK fun K args r hk hs _ => ?_
 split at hs
 ·simp only [Option.some.injEq] at hs
  subst hs
  exact fun need => Q7 need.1 need.2 K trivial
 ·simp at hs
theorem P8 : bC P GM := aK Qv aZ
theorem M5 {n : Nat} {z : Nat → Int} {a m : Int} : r7 T GM [14] 60 rK (ax rK) ⟨aM 0 [.ptr 0 0 2 0 [], .int .i64 m], [(0, fW n (fun i => .int .i64 (z i)) a)], 1⟩ =
  some (aa.af [(0 : Nat) < 1, (0 : Nat) < 1] (aa.fork (decide (a ≥ (↑n : Int))) (aa.leaf aj.ret ([int IntKind.i64 (0 : Int)], some ⟨false, true, 2, 1, fun (x : Nat) ↦ agg [ah 1 n fun (i : Nat) ↦ int IntKind.i64 (z i), int IntKind.i64 a]⟩)) (aa.af [(0 : Nat) < 1, (0 : Nat) < 1] (aa.af [(0 : Nat) < 1, (0 : Nat) < 1, (0 : Int) ≤ IntKind.i64.wrap (IntKind.i64.wrap (a + (1 : Int)) - (1 : Int)) ∧ (IntKind.i64.wrap (IntKind.i64.wrap (a + (1 : Int)) - (1 : Int))).toNat < n, (0 : Int) < m, m < (2 : Int) ^ 62] (aa.leaf aj.ret ([int IntKind.i64 (z (IntKind.i64.wrap (IntKind.i64.wrap (a + (1 : Int)) - (1 : Int))).toNat % m)], some ⟨false, true, 2, 1, fun (j : Nat) ↦ if (j == 0) = true then agg ((agg [ah 1 n fun (i : Nat) ↦ int IntKind.i64 (z i), int IntKind.i64 a]).kids.set 1 (dg (int IntKind.i64 (IntKind.i64.wrap (a + (1 : Int)))))) else agg [ah 1 n fun (i : Nat) ↦ int IntKind.i64 (z i), int IntKind.i64 a]⟩)))))) := by kernel_rfl
def intOf : AV → Int
 | .int _ n => n
 | _ => 0
def bW (n : Nat) (f : Nat → AV) (a m : Int) : Int := if (n : Int) ≤ a then 0 else intOf (f a.toNat) % m
def br (n : Nat) (a : Int) : Int := if (n : Int) ≤ a then a else a + 1
structure cw (n : Nat) (f : Nat → AV) (a : Int) : Prop where
 ints : ∀ i, f i = .int .i64 (intOf (f i))
 lo : 0 ≤ a
 hi : a ≤ n
 len : n < 2 ^ 62
theorem cw.next {n : Nat} {f : Nat → AV} {a : Int} (h : cw n f a) : cw n f (br n a) :=
 ⟨h.ints, by have := h.lo; unfold br; split <;> omega, by have := h.hi; unfold br; split <;> omega, h.len⟩
theorem pN {n : Nat} {f : Nat → AV} {a m : Int} (hm : 0 < m) : 0 ≤ bW n f a m := by
 unfold bW; split
 ·omega
 ·exact Int.emod_nonneg _ (by omega)
theorem lE {n : Nat} {f : Nat → AV} {a m : Int} (hm : 0 < m) : bW n f a m < m := by
 unfold bW; split
 ·omega
 ·exact Int.emod_lt_of_pos _ hm
theorem nj {ρ : Nat → Option Nat} {n : Nat} {f g : Nat → AV} {a b : Int} (h : f = g) (h2 : a = b) : ck ρ (fW n f a) (fW n g b) := by
 subst h h2
 exact ⟨rfl, rfl, rfl, rfl, fun i hi => aE rfl⟩
theorem Ki {k n : Nat} {z : Nat → Int} {a m : Int} {o : aH} (ho : ∀ ρ, ck ρ o (fW n (fun i => .int .i64 (z i)) a)) (h : cw n (fun i => .int .i64 (z i)) a) (h1 : 0 < m) (h2 : m < 2 ^ 62) (K : Nat) :
  aC P nI K [.ptr k 0 2 0 [], .int .i64 m] [(k, o)] ⟨.int .i64 (bW n (fun i => .int .i64 (z i)) a m), [(k, fW n (fun i => .int .i64 (z i)) (br n a))], []⟩ := by
 refine z4 hT P8 hm F8 rfl rfl (of_decide_eq_true (by kernel_rfl)) ho 60 M5 (fun _ => ?_) K
 have h3 := h.lo
 have h4 := h.hi
 have h5 := h.len
 simp only [aa.all, az, decide_eq_true_eq, decide_eq_false_iff_not]
 refine ⟨⟨by omega, by omega⟩, fun hb => ⟨bm ?_, _, rfl, rfl, ?_⟩, fun hb => ⟨⟨by omega, by omega⟩, ?_⟩⟩
 ·unfold bW; rw [if_pos (by omega)]
 ·exact nj rfl (by unfold br; rw [if_pos (by omega)])
 have e1 : IntKind.i64.wrap (a + 1) = a + 1 := wrap_i64 (by omega) (by omega)
 have e2 : IntKind.i64.wrap (a + 1 - 1) = a := by rw [wrap_i64 (by omega) (by omega)]; omega
 rw [e1, e2]
 refine ⟨⟨by omega, by omega, by omega, h1, h2⟩, bm ?_, _, rfl, rfl, ⟨rfl, rfl, rfl, rfl, fun i hi => ?_⟩⟩
 ·unfold bW; rw [if_neg (by omega)]; rfl
 ·rw [show i = 0 by have : i < 1 := hi; omega]
  show e9 _ (.agg [.ah 1 n (fun i => .int .i64 (z i)), .int .i64 (a + 1)]) (.agg [.ah 1 n (fun i => .int .i64 (z i)), .int .i64 (br n a)])
  rw [show br n a = a + 1 by unfold br; rw [if_neg (by omega)]]
  exact aE rfl
def yd (k : Nat) (pre : aA) : Option (Nat × (Nat → AV) × Int) := match pre with
 | [(k', o)] => if k == k' && !o.row && o.wr && o.es == 2 && o.len == 1 then match o.f 0 with
  | .agg [.ah 1 n f, .int .i64 a] => some (n, f, a)
  | _ => none
  else none
 | _ => none
def iQ (g : Nat → (Nat → AV) → Int → List AV → Option (AV × Int × List Prop)) : Spec := fun _ args pre => match args with
 | .ptr k 0 2 0 [] :: l => match yd k pre with
  | some (n, f, a) => match g n f a l with
   | some (v, b, q) => some ⟨v, [(k, fW n f b)], cw n f a :: q⟩
   | none => none
  | none => none
 | _ => none
theorem J8 {k : Nat} {pre : aA} {n : Nat} {f : Nat → AV} {a : Int} (h : yd k pre = some (n, f, a)) : ∃ o, pre = [(k, o)] ∧ ∀ ρ, ck ρ o (fW n f a) := by
 unfold yd at h
 split at h
 ·rename_i k' o
  split at h
  ·rename_i hc
   simp only [Bool.and_eq_true, beq_iff_eq, Bool.not_eq_true'] at hc
   obtain ⟨⟨⟨⟨rfl, h2⟩, h3⟩, h4⟩, h5⟩ := hc
   split at h
   ·rename_i n' f' a' hf
    simp only [Option.some.injEq, Prod.mk.injEq] at h
    obtain ⟨rfl, rfl, rfl⟩ := h
    refine ⟨o, rfl, fun ρ => ?_⟩
    obtain ⟨row, wr, es, len, g⟩ := o
    simp only at h2 h3 h4 h5 hf
    subst h2 h3 h4 h5
    refine gV rfl fun i hi => ?_
    rw [show i = 0 by omega, hf]
    exact aE rfl
   ·simp at h
  ·simp at h
 ·simp at h
theorem vu {fid : FuncId} {g : Nat → (Nat → AV) → Int → List AV → Option (AV × Int × List Prop)}
  (h : ∀ {k n : Nat} {z : Nat → Int} {a : Int} {l : List AV} {v : AV} {b : Int} {q : List Prop} {o : aH} (K : Nat), g n (fun i => .int .i64 (z i)) a l = some (v, b, q) → (∀ ρ, ck ρ o (fW n (fun i => .int .i64 (z i)) a)) → cw n (fun i => .int .i64 (z i)) a → az q → aC P fid K (.ptr k 0 2 0 [] :: l) [(k, o)] ⟨v, [(k, fW n (fun i => .int .i64 (z i)) b)], []⟩) : ∀ K args pre r, iQ g K args pre = some r → aC P fid K args pre r := by
 intro K args pre r hs
 unfold iQ at hs
 split at hs
 ·rename_i k l
  split at hs
  ·rename_i n f a hd
   split at hs
   ·rename_i v b q hv
    simp only [Option.some.injEq] at hs
    subst hs
    obtain ⟨o, rfl, ho⟩ := J8 hd
    intro need
    obtain ⟨hd, hq⟩ := (dU (a := [cw n f a]) (b := q)).1 need
    have hd : cw n f a := hd
    obtain ⟨z, rfl⟩ : ∃ z : Nat → Int, f = fun i => .int .i64 (z i) := ⟨fun i => intOf (f i), funext fun i => hd.ints i⟩
    exact h K hv ho hd hq trivial
   ·simp at hs
  ·simp at hs
 ·simp at hs
def uu (n : Nat) (f : Nat → AV) (a : Int) (l : List AV) : Option (AV × Int × List Prop) := match l with
 | [.int .i64 m] => some (.int .i64 (bW n f a m), br n a, [0 < m, m < 2 ^ 62])
 | _ => none
theorem AN : ∀ K args pre r, iQ uu K args pre = some r → aC P nI K args pre r := by
 refine vu fun {k n z a l v b q o} K hg ho hd hq => ?_
 unfold uu at hg
 split at hg
 ·simp only [Option.some.injEq, Prod.mk.injEq] at hg
  obtain ⟨rfl, rfl, rfl⟩ := hg
  exact Ki ho hd hq.1 hq.2 K
 ·simp at hg
end Go.Am.B
