/- brepkernelmade: Mod, Light, Roll, Part, Next, number, Number, Point, Map. -/
import Derived.Test.YtnocdkaonpdmjaaB31
import Derived.Test.YtnocdkaonpdmjaaZ2
set_option linter.unusedVariables false
namespace Go.Am.B
open Go Go.Am.N AV
theorem is_mMod : FnIs P made_Mod fn_made_Mod (codeOf fn_made_Mod) := fnIs get_made_Mod (by kernel_rfl) (by kernel_rfl) (by kernel_rfl)
theorem is_mLight : FnIs P made_Light fn_made_Light (codeOf fn_made_Light) := fnIs get_made_Light (by kernel_rfl) (by kernel_rfl) (by kernel_rfl)
theorem is_mRoll : FnIs P made_Roll fn_made_Roll (codeOf fn_made_Roll) := fnIs get_made_Roll (by kernel_rfl) (by kernel_rfl) (by kernel_rfl)
theorem is_mNext : FnIs P made_Dice_Next fn_made_Dice_Next (codeOf fn_made_Dice_Next) := fnIs get_made_Dice_Next (by kernel_rfl) (by kernel_rfl) (by kernel_rfl)
abbrev diceO (n : Nat) (f : Nat → AV) (a : Int) : AObj := ⟨false, true, 2, 1, fun _ => .agg [.tab 1 n f, .int .i64 a]⟩
theorem mmod_end {x m : Int} : funT T [] [9] 60 fn_made_Mod (codeOf fn_made_Mod) ⟨zipSlots 0 [.int .i64 x, .int .i64 m], [], 0⟩ =
    some (ATree.must [m ≠ (0 : Int)] (ATree.fork (decide (x.tmod m < (0 : Int))) (ATree.leaf AEx.ret [int IntKind.i64 (IntKind.i64.wrap (x.tmod m + m))]) (ATree.leaf AEx.ret [int IntKind.i64 (x.tmod m)]))) := by kernel_rfl
theorem mlight_end {n : Nat} {f : Nat → AV} : funT T [] [] 60 fn_made_Light (codeOf fn_made_Light) ⟨zipSlots 0 [.tab 1 n f], [], 0⟩ =
    some (ATree.leaf AEx.ret [AV.bool (decide ((↑n : Int) ≤ (500 : Int)))]) := by kernel_rfl
theorem mroll {n : Nat} {f : Nat → AV} : seeL T [] [] 60 [2] [codeOf fn_made_Roll] ⟨zipSlots 0 [.tab 1 n f], [], 0⟩ = some (.leaf .ret ([.ptr 12288 0 2 0 []], [(12288, diceO n f 0)])) := by kernel_rfl
theorem mMod_ok {x m : Int} (h1 : 0 < m) (h2 : m < 2 ^ 62) (K : Nat) : FOK P made_Mod K [.int .i64 x, .int .i64 m] [] (pres (.int .i64 (x % m)) []) := by
  refine fok_tree hT gok_nil hm is_mMod rfl (of_decide_eq_true (by kernel_rfl)) rfl 60 mmod_end (fun _ => ?_) K []
  simp only [ATree.all, allP, decide_eq_true_eq, decide_eq_false_iff_not]
  have h3 := Int.tmod_lt_of_pos x h1
  have h4 := Int.lt_tmod_of_pos x h1
  have h5 := Int.emod_nonneg x (show m ≠ 0 by omega)
  have h6 := Int.emod_lt_of_pos x h1
  have h7 := Int.tmod_eq_emod (a := x) (b := m)
  have h8 : ∀ {v : Int}, v < 0 → v = x % m - ((if 0 ≤ x ∨ m ∣ x then 0 else m.natAbs : Nat) : Int) → v + m = x % m := fun {v} g1 g2 => by
    by_cases h : 0 ≤ x ∨ m ∣ x
    · rw [if_pos h] at g2; omega
    · rw [if_neg h] at g2; omega
  have h9 : ∀ {v : Int}, ¬ v < 0 → v = x % m - ((if 0 ≤ x ∨ m ∣ x then 0 else m.natAbs : Nat) : Int) → v = x % m := fun {v} g1 g2 => by
    by_cases h : 0 ≤ x ∨ m ∣ x
    · rw [if_pos h] at g2; omega
    · rw [if_neg h] at g2; omega
  refine ⟨by omega, fun hb => avLe0_int ?_, fun hb => avLe0_int (h9 hb h7)⟩
  rw [wrap_i64 (by omega) (by omega)]
  exact h8 hb h7
def s_mMod : Spec := pureSpec fun l => match l with
  | [.int .i64 x, .int .i64 m] => some (pres (.int .i64 (x % m)) [0 < m, m < 2 ^ 62])
  | _ => none
def GM : Contracts := [(made_Mod, s_mMod)]
theorem s_mMod_ok : ∀ K args pre r, s_mMod K args pre = some r → FOK P made_Mod K args pre r := by
  refine pureSpec_ok fun K args r hk hs _ => ?_
  split at hs
  · simp only [Option.some.injEq] at hs
    subst hs
    exact fun need => mMod_ok need.1 need.2 K trivial
  · simp at hs
theorem GM_ok : GOK P GM := gok_cons s_mMod_ok gok_nil
theorem mnext_end {n : Nat} {z : Nat → Int} {a m : Int} : funO T GM [14] 60 fn_made_Dice_Next (codeOf fn_made_Dice_Next) ⟨zipSlots 0 [.ptr 0 0 2 0 [], .int .i64 m], [(0, diceO n (fun i => .int .i64 (z i)) a)], 1⟩ =
    some (ATree.must [(0 : Nat) < 1, (0 : Nat) < 1] (ATree.fork (decide (a ≥ (↑n : Int))) (ATree.leaf AEx.ret ([int IntKind.i64 (0 : Int)], some { row := false, wr := true, es := 2, len := 1, f := fun (x : Nat) ↦ agg [tab 1 n fun (i : Nat) ↦ int IntKind.i64 (z i), int IntKind.i64 a] })) (ATree.must [(0 : Nat) < 1, (0 : Nat) < 1] (ATree.must [(0 : Nat) < 1, (0 : Nat) < 1, (0 : Int) ≤ IntKind.i64.wrap (IntKind.i64.wrap (a + (1 : Int)) - (1 : Int)) ∧ (IntKind.i64.wrap (IntKind.i64.wrap (a + (1 : Int)) - (1 : Int))).toNat < n, (0 : Int) < m, m < (2 : Int) ^ 62] (ATree.leaf AEx.ret ([int IntKind.i64 (z (IntKind.i64.wrap (IntKind.i64.wrap (a + (1 : Int)) - (1 : Int))).toNat % m)], some { row := false, wr := true, es := 2, len := 1, f := fun (j : Nat) ↦ if (j == 0) = true then agg ((agg [tab 1 n fun (i : Nat) ↦ int IntKind.i64 (z i), int IntKind.i64 a]).kids.set 1 (deN (int IntKind.i64 (IntKind.i64.wrap (a + (1 : Int)))))) else agg [tab 1 n fun (i : Nat) ↦ int IntKind.i64 (z i), int IntKind.i64 a] })))))) := by kernel_rfl
def intOf : AV → Int
  | .int _ n => n
  | _ => 0
def nextV (n : Nat) (f : Nat → AV) (a m : Int) : Int := if (n : Int) ≤ a then 0 else intOf (f a.toNat) % m
def nextA (n : Nat) (a : Int) : Int := if (n : Int) ≤ a then a else a + 1
structure DiceOK (n : Nat) (f : Nat → AV) (a : Int) : Prop where
  ints : ∀ i, f i = .int .i64 (intOf (f i))
  lo : 0 ≤ a
  hi : a ≤ n
  len : n < 2 ^ 62
theorem DiceOK.next {n : Nat} {f : Nat → AV} {a : Int} (h : DiceOK n f a) : DiceOK n f (nextA n a) :=
  ⟨h.ints, by have := h.lo; unfold nextA; split <;> omega, by have := h.hi; unfold nextA; split <;> omega, h.len⟩
theorem nextV_lo {n : Nat} {f : Nat → AV} {a m : Int} (hm : 0 < m) : 0 ≤ nextV n f a m := by
  unfold nextV; split
  · omega
  · exact Int.emod_nonneg _ (by omega)
theorem nextV_hi {n : Nat} {f : Nat → AV} {a m : Int} (hm : 0 < m) : nextV n f a m < m := by
  unfold nextV; split
  · omega
  · exact Int.emod_lt_of_pos _ hm
theorem diceLe {ρ : Nat → Option Nat} {n : Nat} {f g : Nat → AV} {a b : Int} (h : f = g) (h2 : a = b) : objLe ρ (diceO n f a) (diceO n g b) := by
  subst h h2
  exact ⟨rfl, rfl, rfl, rfl, fun i hi => avLe_pure rfl⟩
theorem mNext_ok {k n : Nat} {z : Nat → Int} {a m : Int} {o : AObj} (ho : ∀ ρ, objLe ρ o (diceO n (fun i => .int .i64 (z i)) a)) (h : DiceOK n (fun i => .int .i64 (z i)) a) (h1 : 0 < m) (h2 : m < 2 ^ 62) (K : Nat) :
    FOK P made_Dice_Next K [.ptr k 0 2 0 [], .int .i64 m] [(k, o)] ⟨.int .i64 (nextV n (fun i => .int .i64 (z i)) a m), [(k, diceO n (fun i => .int .i64 (z i)) (nextA n a))], []⟩ := by
  refine fok_obj hT GM_ok hm is_mNext rfl rfl (of_decide_eq_true (by kernel_rfl)) ho 60 mnext_end (fun _ => ?_) K
  have h3 := h.lo
  have h4 := h.hi
  have h5 := h.len
  simp only [ATree.all, allP, decide_eq_true_eq, decide_eq_false_iff_not]
  refine ⟨⟨by omega, by omega⟩, fun hb => ⟨avLe0_int ?_, _, rfl, rfl, ?_⟩, fun hb => ⟨⟨by omega, by omega⟩, ?_⟩⟩
  · unfold nextV; rw [if_pos (by omega)]
  · exact diceLe rfl (by unfold nextA; rw [if_pos (by omega)])
  have e1 : IntKind.i64.wrap (a + 1) = a + 1 := wrap_i64 (by omega) (by omega)
  have e2 : IntKind.i64.wrap (a + 1 - 1) = a := by rw [wrap_i64 (by omega) (by omega)]; omega
  rw [e1, e2]
  refine ⟨⟨by omega, by omega, by omega, h1, h2⟩, avLe0_int ?_, _, rfl, rfl, ⟨rfl, rfl, rfl, rfl, fun i hi => ?_⟩⟩
  · unfold nextV; rw [if_neg (by omega)]; rfl
  · rw [show i = 0 by have : i < 1 := hi; omega]
    show avLe _ (.agg [.tab 1 n (fun i => .int .i64 (z i)), .int .i64 (a + 1)]) (.agg [.tab 1 n (fun i => .int .i64 (z i)), .int .i64 (nextA n a)])
    rw [show nextA n a = a + 1 by unfold nextA; rw [if_neg (by omega)]]
    exact avLe_pure rfl
def diceOf (k : Nat) (pre : Store) : Option (Nat × (Nat → AV) × Int) := match pre with
  | [(k', o)] => if k == k' && !o.row && o.wr && o.es == 2 && o.len == 1 then match o.f 0 with
    | .agg [.tab 1 n f, .int .i64 a] => some (n, f, a)
    | _ => none
    else none
  | _ => none
def diceSpec (g : Nat → (Nat → AV) → Int → List AV → Option (AV × Int × List Prop)) : Spec := fun _ args pre => match args with
  | .ptr k 0 2 0 [] :: l => match diceOf k pre with
    | some (n, f, a) => match g n f a l with
      | some (v, b, q) => some ⟨v, [(k, diceO n f b)], DiceOK n f a :: q⟩
      | none => none
    | none => none
  | _ => none
theorem diceOf_ok {k : Nat} {pre : Store} {n : Nat} {f : Nat → AV} {a : Int} (h : diceOf k pre = some (n, f, a)) : ∃ o, pre = [(k, o)] ∧ ∀ ρ, objLe ρ o (diceO n f a) := by
  unfold diceOf at h
  split at h
  · rename_i k' o
    split at h
    · rename_i hc
      simp only [Bool.and_eq_true, beq_iff_eq, Bool.not_eq_true'] at hc
      obtain ⟨⟨⟨⟨rfl, h2⟩, h3⟩, h4⟩, h5⟩ := hc
      split at h
      · rename_i n' f' a' hf
        simp only [Option.some.injEq, Prod.mk.injEq] at h
        obtain ⟨rfl, rfl, rfl⟩ := h
        refine ⟨o, rfl, fun ρ => ?_⟩
        obtain ⟨row, wr, es, len, g⟩ := o
        simp only at h2 h3 h4 h5 hf
        subst h2 h3 h4 h5
        refine objLe_of rfl fun i hi => ?_
        rw [show i = 0 by omega, hf]
        exact avLe_pure rfl
      · simp at h
    · simp at h
  · simp at h
theorem diceSpec_ok {fid : FuncId} {g : Nat → (Nat → AV) → Int → List AV → Option (AV × Int × List Prop)}
    (h : ∀ {k n : Nat} {z : Nat → Int} {a : Int} {l : List AV} {v : AV} {b : Int} {q : List Prop} {o : AObj} (K : Nat), g n (fun i => .int .i64 (z i)) a l = some (v, b, q) → (∀ ρ, objLe ρ o (diceO n (fun i => .int .i64 (z i)) a)) → DiceOK n (fun i => .int .i64 (z i)) a → allP q → FOK P fid K (.ptr k 0 2 0 [] :: l) [(k, o)] ⟨v, [(k, diceO n (fun i => .int .i64 (z i)) b)], []⟩) : ∀ K args pre r, diceSpec g K args pre = some r → FOK P fid K args pre r := by
  intro K args pre r hs
  unfold diceSpec at hs
  split at hs
  · rename_i k l
    split at hs
    · rename_i n f a hd
      split at hs
      · rename_i v b q hv
        simp only [Option.some.injEq] at hs
        subst hs
        obtain ⟨o, rfl, ho⟩ := diceOf_ok hd
        intro need
        obtain ⟨hd, hq⟩ := (allP_append (a := [DiceOK n f a]) (b := q)).1 need
        have hd : DiceOK n f a := hd
        obtain ⟨z, rfl⟩ : ∃ z : Nat → Int, f = fun i => .int .i64 (z i) := ⟨fun i => intOf (f i), funext fun i => hd.ints i⟩
        exact h K hv ho hd hq trivial
      · simp at hs
    · simp at hs
  · simp at hs
def g_next (n : Nat) (f : Nat → AV) (a : Int) (l : List AV) : Option (AV × Int × List Prop) := match l with
  | [.int .i64 m] => some (.int .i64 (nextV n f a m), nextA n a, [0 < m, m < 2 ^ 62])
  | _ => none
theorem s_mNext_ok : ∀ K args pre r, diceSpec g_next K args pre = some r → FOK P made_Dice_Next K args pre r := by
  refine diceSpec_ok fun {k n z a l v b q o} K hg ho hd hq => ?_
  unfold g_next at hg
  split at hg
  · simp only [Option.some.injEq, Prod.mk.injEq] at hg
    obtain ⟨rfl, rfl, rfl⟩ := hg
    exact mNext_ok ho hd hq.1 hq.2 K
  · simp at hg
end Go.Am.B
