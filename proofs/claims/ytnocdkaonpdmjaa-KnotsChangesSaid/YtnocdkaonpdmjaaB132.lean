/- knots.Mirror: slices.Backward of numbers. -/
import Derived.Test.YtnocdkaonpdmjaaY48
import Derived.Test.YtnocdkaonpdmjaaZ2
set_option linter.unusedVariables false
namespace Go.Am.B
open Go Go.Am.N AV ATree AEx IntKind
abbrev bkF : FuncId := slices_Backward_api_Rat_api_Rat
abbrev bk1 : FuncId := slices_Backward_api_Rat_api_Rat_1
noncomputable abbrev bkX : Code := codeOf fn_slices_Backward_api_Rat_api_Rat_1
theorem is_bkF : FnIs P bkF fn_slices_Backward_api_Rat_api_Rat (codeOf fn_slices_Backward_api_Rat_api_Rat) := fnIs get_slices_Backward_api_Rat_api_Rat (by kernel_rfl) (by kernel_rfl) (by kernel_rfl)
theorem is_bk1 : FnIs P bk1 fn_slices_Backward_api_Rat_api_Rat_1 bkX := fnIs get_slices_Backward_api_Rat_api_Rat_1 (by kernel_rfl) (by kernel_rfl) (by kernel_rfl)
theorem is_kMi : FnIs P knots_Mirror fn_knots_Mirror (codeOf fn_knots_Mirror) := fnIs get_knots_Mirror (by kernel_rfl) (by kernel_rfl) (by kernel_rfl)
def loadT (o : Oper) : Nat := match o.op with
  | .load t _ => t
  | _ => 0
def binT (o : Oper) : Nat := match o.op with
  | .binOp _ t _ _ _ => t
  | _ => 0
noncomputable abbrev bkS : Nat := loadT (opAt bkX [0] 0)
noncomputable abbrev bkE : Nat := loadT (opAt bkX [1,0,0,1,0,0,0] 5)
noncomputable abbrev bkI : Nat := binT (opAt bkX [0] 2)
def callTs (o : Oper) : Array TypeId := match o.op with
  | .call c => c.argTypes
  | _ => #[]
def unT (o : Oper) : Nat := match o.op with
  | .unOp _ t _ => t
  | _ => 0
theorem bk_code : BackCode bkX bkS bkE bkI := ⟨by kernel_rfl, ⟨by kernel_rfl, by kernel_rfl, by kernel_rfl⟩, ⟨by kernel_rfl, by kernel_rfl, by kernel_rfl⟩, ⟨by kernel_rfl, by kernel_rfl, by kernel_rfl⟩, ⟨by kernel_rfl, by kernel_rfl, by kernel_rfl⟩, ⟨by kernel_rfl, by kernel_rfl, by kernel_rfl⟩, ⟨by kernel_rfl, by kernel_rfl, by kernel_rfl⟩, ⟨by kernel_rfl, by kernel_rfl, by kernel_rfl⟩, ⟨by kernel_rfl, by kernel_rfl, by kernel_rfl⟩, ⟨by kernel_rfl, by kernel_rfl, by kernel_rfl⟩, ⟨by kernel_rfl, by kernel_rfl, by kernel_rfl⟩, ⟨by kernel_rfl, by kernel_rfl, by kernel_rfl⟩, ⟨by kernel_rfl, by kernel_rfl, by kernel_rfl⟩,
  ⟨callTs (opAt bkX [1,0,0,1,0,0,0] 6), by kernel_rfl, by kernel_rfl, by kernel_rfl⟩, ⟨unT (opAt bkX [1,0,0,1,0,0,0] 7), by kernel_rfl, by kernel_rfl, by kernel_rfl⟩, ⟨by kernel_rfl, by kernel_rfl, by kernel_rfl⟩, ⟨by kernel_rfl, by kernel_rfl, by kernel_rfl⟩, ⟨by kernel_rfl, by kernel_rfl, by kernel_rfl⟩⟩
theorem bk_iter {n s : Nat} {k : Nat → Rat} (hn : n < 2 ^ 62) : Iter2 P bk1 [.cref (lsA k n s)] n (fun i => .int .i64 ((n : Int) - 1 - i)) (fun i => .rat (k (n - 1 - i)) s) :=
  back_iter hT (tiS := (look bkS T).getD ⟨.bool, 0, 0, .nil⟩) (tiE := (look bkE T).getD ⟨.bool, 0, 0, .nil⟩) (by kernel_rfl) (by kernel_rfl) (by kernel_rfl) (by kernel_rfl) is_bk1.get is_bk1.body (by kernel_rfl) (by kernel_rfl) bk_code (f := fun i => .rat (k i) s) hn (by kernel_rfl) fun i hi => ⟨rfl, rfl⟩
noncomputable def GMi : Contracts := nG :: (bkF, aSpec T [sG] [] 20 fn_slices_Backward_api_Rat_api_Rat) :: GR0
abbrev miL : List Nat := [1, 3, 7]
abbrev miV (n : Nat) (k : Nat → Rat) (s : Nat) : List AV := [.ptr 0 0 1 0 [], .ptr 1 0 1 0 [], .func bk1 [.cref (lsA k n s)]]
abbrev miO (n : Nat) (k : Nat → Rat) (s i : Nat) (x : Nat → Rat) (w : Nat) : Store := [(2, rowS1 i x w), (1, ⟨false, true, 1, 1, fun _ => .own 2 3 0 i⟩), (0, ⟨false, true, 1, 1, fun _ => lsA k n s⟩)]
abbrev miLA : List Nat := [1, 3, 7, 5]
abbrev miVA (n : Nat) (k : Nat → Rat) (s : Nat) : List AV := [.ptr 0 0 1 0 [], .ptr 1 0 1 0 [], .func bk1 [.cref (lsA k n s)], .ptr 3 0 3 0 []]
noncomputable abbrev miC : Code := codeOf fn_knots_Mirror
def rangeParts : Code → Code × Code
  | .block _ (.rangeFunc _ _ x y) => (x, y)
  | _ => (.skip, .skip)
noncomputable abbrev miA : Code := (rangeParts (part miC [1,1,0,1])).1
noncomputable abbrev miB : Code := (rangeParts (part miC [1,1,0,1])).2
theorem mi_pre {n s : Nat} {k : Nat → Rat} : seeL T GMi [] 60 miL (before miC [1,1,0,1]) ⟨zipSlots 0 [lsA k n s], [], 0⟩ =
    let c1 : AV := tab 3 n fun i ↦ rat (k i) s; some (must [(0 : Nat) < 1] (leaf normal ([ptr 0 0 (deN (lsA k n s)).size 0 [], ptr 8192 0 1 0 [], func slices_Backward_api_Rat_api_Rat_1 [c1.cref]], [((8192 : Nat), AObj.mk false true 1 1 fun x ↦ nil), ((0 : Nat), AObj.mk false true (deN (lsA k n s)).size 1 fun x ↦ c1)]))) := by kernel_rfl
theorem mi_a {n s w i : Nat} {k x : Nat → Rat} {u : Int} {v : Rat} : seeL T GMi [] 60 miLA [miA] ⟨zipL (miL ++ [8, 9]) (miV n k s ++ [.int .i64 u, .rat v s]), miO n k s i x w, 3⟩ =
    let c1 : AV := tab 3 n fun i ↦ rat (k i) s; some (must [(0 : Nat) < 1] (leaf normal ([ptr 0 0 1 0 [], ptr 1 0 1 0 [], func slices_Backward_api_Rat_api_Rat_1 [c1.cref], ptr 3 0 3 0 []], [((2 : Nat), AObj.mk true true 3 i fun i ↦ rat (x i) w), ((3 : Nat), AObj.mk false true 3 1 fun j ↦ if (j == 0) = true then deN (rat v s) else rat 0 1), ((1 : Nat), AObj.mk false true 1 1 fun x ↦ own 2 3 0 i), ((0 : Nat), AObj.mk false true 1 1 fun x ↦ c1)]))) := by kernel_rfl
theorem mi_b {n s w i : Nat} {k x : Nat → Rat} {v : Rat} : seeL T GMi [] 60 miL [miB] ⟨zipL miLA (miVA n k s), (3, tP v s) :: miO n k s i x w, 4⟩ =
    let c4 : AV := tab 3 n fun i ↦ rat (k i) s; let c3 : Nat := 2 ^ 42; let c2 : Int := (↑n : Int) - (1 : Int); let c1 : Prop := 0 < 1; some (must [c1, c1, (0 : Int) ≤ (0 : Int) ∧ Int.toNat (0 : Int) < n, c1, c1, -(2 : Int) ^ 63 ≤ c2 ∧ c2 < (2 : Int) ^ 63, (0 : Int) ≤ c2 ∧ c2.toNat < n, s < c3, s < c3, c1, s + s + 1 < c3, s < c3, (1 : Nat) * 3 ≤ 2 ^ 24, (i + 1) * ((56 : Nat) + 1) * 2 ≤ 2 ^ 47, c1] (leaf normal ([ptr 0 0 1 0 [], ptr 1 0 1 0 [], func slices_Backward_api_Rat_api_Rat_1 [c4.cref]], [((57348 : Nat), AObj.mk true true 3 (i + 1) fun i_1 ↦ if i_1 < i then rat (x i_1) w else nth [rat (k (Int.toNat (0 : Int)) + k c2.toNat - v) (s + s + 1 + s + 1)] (rat 0 1) (i_1 - i + 0)), ((1 : Nat), AObj.mk false true 1 1 fun j ↦ if (j == 0) = true then deN (own (nat_lit 57347 + 1) 3 0 (i + 1)) else own 2 3 0 i), ((0 : Nat), AObj.mk false true 1 1 fun x ↦ c4)]))) := by kernel_rfl
theorem mi_e {n s w i : Nat} {k x : Nat → Rat} : endL T GMi [] 60 fn_knots_Mirror [part miC [1,1,1]] ⟨zipL miL (miV n k s), miO n k s i x w, 3⟩ =
    some (must [(0 : Nat) < 1] (leaf ret [tab 3 i fun i ↦ rat (x (i + 0)) w])) := by kernel_rfl
theorem GMi_ok : GOK P GMi := gok_plain (gok_cons (aSpec_ok hT (gok_strict gok_nil) hm is_bkF _ _) GR0_ok)
theorem kMi_ok {n s w : Nat} {k : Nat → Rat} (h : 3 * s + 2 ≤ w) (hw : w < 2 ^ 40) (hn : n < 2 ^ 40) (K : Nat) : FOK P knots_Mirror K [lsA k n s] [] (pres (lsA (mirF n k) n w) []) := by
  refine fok_downR (r := pres (lsA (mirF n k) n w) []) hT is_kMi rfl (of_decide_eq_true (by kernel_rfl)) rfl (fun _ cx hro hk => ?_) K []
  refine AWp.rangeL hT GMi_ok hm (x := miC) (assign := miA) (body := miB) (g := 7) (p0 := 8) (p1 := 9) [1,1,0,1] (i := 0) (by kernel_rfl) (by kernel_rfl) is_kMi.dst hro hk is_bk1.enters (bk_iter (s := s) (k := k) (by omega)) (of_decide_eq_true (by kernel_rfl)) (of_decide_eq_true (by kernel_rfl)) (by decide) (f1 := []) (f2 := []) (f3 := [])
    60 miL miLA (miV n k s) (fun _ => rfl) rfl (fun i => miO n k s i (mirF n k) w) 3 4 (fun _ => miVA n k s) (fun i => (3, tP (k (n - 1 - i)) s) :: miO n k s i (mirF n k) w) [0, 1] ⟨_, mi_pre, ?_⟩ (fun i hi => ⟨_, mi_a, ?_⟩) (fun i hi => ⟨_, mi_b, ?_⟩) ?_
  · simp only [ATree.all, allP]
    exact ⟨by omega, trivial, [(0, 0), (1, 8192)], rfl, rfl, rfl, objsQ_new rfl (by omega) (by omega) (objsQ_one rfl rfl (.inl (.inl ⟨rfl, rfl⟩)) (objsQ_one rfl rfl (avQ_eq rfl rfl) trivial))⟩
  · simp only [ATree.all, allP]
    exact ⟨by omega, trivial, [(0, 0), (1, 1), (2, 2), (3, 3)], rfl, rfl, rfl, objsQ_one rfl rfl (avQ_eq rfl rfl) (objsQ_cons rfl rfl rfl (fun _ _ => avQ_eq rfl rfl) (objsQ_one rfl rfl (.inl (.inl ⟨rfl, rfl⟩)) (objsQ_one rfl rfl (avQ_eq rfl rfl) trivial)))⟩
  · simp only [ATree.all, allP, Int.toNat_zero]
    refine ⟨by omega, trivial, [(0, 0), (1, 1), (2, 57348)], rfl, rfl, rfl, objsQ_cons rfl rfl rfl (fun j hj => rowAdd (fun _ _ => rfl) ?_ (Nat.le_refl _) (by omega) hj) (objsQ_one rfl rfl (.inl (.inl ⟨rfl, rfl⟩)) (objsQ_one rfl rfl (avQ_eq rfl rfl) trivial))⟩
    rw [show ((n : Int) - 1).toNat = n - 1 by omega]; rfl
  · rw [show behind miC [1,1,0,1] = [part miC [1,1,1]] from by kernel_rfl]
    exact (AWpL.fin hT GMi_ok hm 60 mi_e (by kernel_rfl) (by simp only [ATree.all, allP]; exact ⟨by omega, .refl _⟩)).mono fun _ _ h => .inl h
theorem s_kMi_ok {s w : Nat} (h : 3 * s + 2 ≤ w) (hw : w < 2 ^ 40) : ∀ K args pre q, s_kMi s w K args pre = some q → FOK P knots_Mirror K args pre q := spL_ok fun ⟨⟨n, k⟩, _⟩ K hn => kMi_ok h hw hn K
end Go.Am.B
