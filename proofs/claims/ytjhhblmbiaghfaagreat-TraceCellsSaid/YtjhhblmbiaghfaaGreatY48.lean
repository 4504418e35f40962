/- slices.Sort of at most twelve numbers. -/
import Derived.Test.YtjhhblmbiaghfaaGreatB5
import Derived.Test.YtjhhblmbiaghfaaGreatZ2
import Derived.Test.YtjhhblmbiaghfaaGreatC11
import Derived.Test.YtjhhblmbiaghfaaGreatY45
set_option linter.unusedVariables false
namespace Go.Am.B
open Go Go.Am.N AV af ak IntKind
theorem Xo : aO P AZ xL (ax xL) := aP L7 (by kernel_rfl) (by kernel_rfl) (by kernel_rfl)
theorem YJ : aO P yE uG (ax uG) := aP SF (by kernel_rfl) (by kernel_rfl) (by kernel_rfl)
theorem Fj : aO P zc oG (ax oG) := aP Ri (by kernel_rfl) (by kernel_rfl) (by kernel_rfl)
theorem Vi : aO P yx zg (ax zg) := aP YT (by kernel_rfl) (by kernel_rfl) (by kernel_rfl)
theorem XI : aO P yc xm (ax xm) := aP Rd (by kernel_rfl) (by kernel_rfl) (by kernel_rfl)
theorem ZI : aO P s5 sF (ax sF) := aP Q5 (by kernel_rfl) (by kernel_rfl) (by kernel_rfl)
theorem Mt : aO P xq vH (ax vH) := aP MY (by kernel_rfl) (by kernel_rfl) (by kernel_rfl)
abbrev er (n : Nat) (g : Nat → Int) : aD := ⟨true, true, 1, n, fun i => .int .i64 (g i)⟩
def cu : AV → Int
 | .int _ n => n
 | _ => 0
def eA (f : Nat → AV) (n : Nat) : Prop := ∀ i, i < n → f i = .int .i64 (cu (f i))
noncomputable def ID : aW := [(AZ, mm T [] [] 60 xL)]
def Dm : Spec := bu fun l => match l with
 | [.int .i64 x, .int .i64 y] => some (aK (.bool (decide (x < y))) [])
 | _ => none
def pz : aW := zG :: (yE, Dm) :: []
noncomputable abbrev Az : Code := ax oG
noncomputable abbrev sX : Code := part Az [1,0,0]
noncomputable abbrev s4 : Code := part sX [1,0,0]
abbrev nO : List Nat := [0, 1, 2, 6]
abbrev xb (n i : Nat) : List AV := [.own 0 1 0 n, .int .i64 0, .int .i64 n, .int .i64 i]
abbrev we : List Nat := [0, 1, 2, 6, 7]
abbrev rK (n i j : Nat) : List AV := [.own 0 1 0 n, .int .i64 0, .int .i64 n, .int .i64 i, .int .i64 j]
def CK : Spec := fun _ args pre => match args, pre with
 | [.own k 1 0 n, .int .i64 a, .int .i64 b], [(k', ⟨true, true, 1, m, f⟩)] => match k' == k with
  | true => some ⟨.tuple [], [(k, er n (eP (fun i => cu (f i)) (n - 1)))], [m = n, a = 0, b = n, eA f n, n < 2 ^ 40]⟩
  | false => none
 | _, _ => none
def AG : Spec := fun _ args pre => match args, pre with
 | [.own k 1 0 n, .int .i64 a, .int .i64 b, .int .i64 _], [(k', ⟨true, true, 1, m, f⟩)] => match k' == k with
  | true => some ⟨.tuple [], [(k, er n (eP (fun i => cu (f i)) (n - 1)))], [m = n, a = 0, b = n, eA f n, n ≤ 12]⟩
  | false => none
 | _, _ => none
def zk : Spec := bu fun l => match l with
 | [.int .u64 x] => some (aK (.int .i64 (bf x.toNat : Nat)) [0 ≤ x, x < 256])
 | _ => none
def zQ : Spec := fun _ args pre => match args, pre with
 | [.own k 1 0 n], [(k', ⟨true, true, 1, m, f⟩)] => match k' == k with
  | true => some ⟨.tuple [], [(k, er n (eP (fun i => cu (f i)) (n - 1)))], [m = n, eA f n, n ≤ 12]⟩
  | false => none
 | _, _ => none
theorem SZ {x y : Int} : bF T ID [7, 12] 60 uG (ax uG) ⟨aN 0 [.int .i64 x, .int .i64 y], [], 0⟩ =
  let c2 : AV := AV.bool (bif false then true else decide (x < y)); let c1 : Bool := bif true then !y != y else false; some (fork (x != x) (fork c1 (ag [(x != x) = true, c1 = true] (leaf ret [AV.bool true])) (ag [(x != x) = true, c1 = false] (leaf ret [c2]))) (fork false (ag [(x != x) = false, false = true] (leaf ret [AV.bool true])) (ag [(x != x) = false, false = false] (leaf ret [c2])))) := by kernel_rfl
theorem VS {n : Nat} {g : Nat → Int} : aF T pz [] 60 nO (before Az [1]) ⟨aN 0 [.own 0 1 0 n, .int .i64 0, .int .i64 n], [(0, er n g)], 1⟩ =
  some (ag [-(2 : Int) ^ 63 ≤ (0 : Int) + (1 : Int) ∧ (0 : Int) + (1 : Int) < (2 : Int) ^ 63] (leaf normal ([own 0 1 0 n, int i64 (0 : Int), int i64 (↑n : Int), int i64 (1 : Int)], [((0 : Nat), aD.mk true true 1 n fun i ↦ int i64 (g i))]))) := by kernel_rfl
theorem LG {n i : Nat} {g : Nat → Int} : aF T pz [12] 60 nO (before sX [1,0]) ⟨az nO (xb n i), [(0, er n g)], 1⟩ =
  let c1 : List AV × aB := ([own 0 1 0 n, int i64 (0 : Int), int i64 (↑n : Int), int i64 (↑i : Int)], [((0 : Nat), aD.mk true true 1 n fun i ↦ int i64 (g i))]); some (fork (decide ((↑i : Int) < (↑n : Int))) (leaf normal c1) (leaf (exit 0) c1)) := by kernel_rfl
theorem LV {n i : Nat} {g : Nat → Int} : aF T pz [] 60 we (before s4 [1]) ⟨az nO (xb n i), [(0, er n g)], 1⟩ =
  some (leaf normal ([own 0 1 0 n, int i64 (0 : Int), int i64 (↑n : Int), int i64 (↑i : Int), int i64 (↑i : Int)], [((0 : Nat), aD.mk true true 1 n fun i ↦ int i64 (g i))])) := by kernel_rfl
theorem J6 {n i j : Nat} {g : Nat → Int} : aF T pz [19, 30] 60 we [part s4 [1,0,0]] ⟨az we (rK n i j), [(0, er n g)], 1⟩ =
  let c11 : AV := own 0 1 0 n; let c7 : Int := (↑j : Int); let c10 : Bool := decide (c7 > (0 : Int)); let c9 : Prop := (0 : Int) ≤ c7 ∧ c7.toNat < n; let c5 : Nat := c7.toNat + 0; let c3 : af (List AV × aB) := leaf (exit 2) ([c11, int i64 (0 : Int), int i64 (↑n : Int), int i64 (↑i : Int), int i64 c7], [((0 : Nat), aD.mk true true 1 n fun i ↦ int i64 (g i))]); let c2 : Int := c7 - (1 : Int); let c8 : Prop := (0 : Int) ≤ c2 ∧ c2.toNat < n; let c6 : Nat := c2.toNat + 0; let c4 : Prop := -(2 : Int) ^ 63 ≤ c2 ∧ c2 < (2 : Int) ^ 63; let c1 : af (List AV × aB) := ag [c4, c4, c8, c6 < n, c9, c5 < n, c9, c5 < n, c8, c6 < n] (ag [c4] (leaf normal ([c11, int i64 (0 : Int), int i64 (↑n : Int), int i64 (↑i : Int), int i64 c2], [((0 : Nat), aD.mk true true 1 n fun j ↦ int i64 (bif j == c6 then g c5 else bif j == c5 then g c6 else g j))]))); some (fork c10 (ag [c10 = true, c9, c5 < n, c4, c8, c6 < n] (fork (bif true then decide (g c5 < g c6) else false) c1 c3)) (ag [c10 = false] (fork false c1 c3))) := by kernel_rfl
theorem QL {n i j : Nat} {g : Nat → Int} : aF T pz [] 60 nO (behind s4 [1] ++ [part sX [1,1]]) ⟨az we (rK n i j), [(0, er n g)], 1⟩ =
  let c1 : Int := (↑i : Int) + (1 : Int); some (ag [-(2 : Int) ^ 63 ≤ c1 ∧ c1 < (2 : Int) ^ 63] (leaf normal ([own 0 1 0 n, int i64 (0 : Int), int i64 (↑n : Int), int i64 c1], [((0 : Nat), aD.mk true true 1 n fun i ↦ int i64 (g i))]))) := by kernel_rfl
theorem VE {n : Nat} {l : Int} {g : Nat → Int} : aF T (nG :: (zc, CK) :: []) [100023] 60 [0] [ax zg] ⟨aN 0 [.own 0 1 0 n, .int .i64 0, .int .i64 n, .int .i64 l], [(0, er n g)], 1⟩ =
  let c1 : Int := (↑n : Int) - (0 : Int); some (ag [-(2 : Int) ^ 63 ≤ c1 ∧ c1 < (2 : Int) ^ 63] (ag [decide (c1 ≤ (12 : Int)) = true] (ag [n = n, (0 : Int) = (0 : Int), (↑n : Int) = (↑n : Int), eA (fun i ↦ int i64 (g i)) n, n < 2 ^ 40] (leaf ret ([own 0 1 0 n], [((0 : Nat), aD.mk true true 1 n fun i ↦ int i64 (eP (fun i ↦ cu (int i64 (g i))) (n - 1) i))]))))) := by kernel_rfl
theorem T8 {x : Int} : bF T [] [200004, 200008, 200014] 60 sF (ax sF) ⟨aN 0 [.int .u64 x], [], 0⟩ =
  some (ag [decide (x ≥ 4294967296) = false] (ag [decide (x ≥ 65536) = false] (ag [decide (x ≥ 256) = false] (ag [0 ≤ u8.wrap x ∧ u8.wrap x < (gW.size : Int)] (leaf ret [int i64 (i64.wrap (0 + i64.wrap ((jo gW (u8.wrap x).toNat : Nat) : Int)))]))))) := by kernel_rfl
theorem YN {x : Int} : bF T [(s5, zk)] [] 60 vH (ax vH) ⟨aN 0 [.int .u64 x], [], 0⟩ =
  some (ag [(0 : Int) ≤ x, x < (256 : Int)] (leaf ret [int i64 (↑(bf x.toNat) : Int)])) := by kernel_rfl
theorem XD {n : Nat} {g : Nat → Int} : aF T ((yx, AG) :: (xq, zk) :: []) [] 60 [0] [ax xm] ⟨aN 0 [.own 0 1 0 n], [(0, er n g)], 1⟩ =
  let c1 : Int := (↑n : Int); some (ag [(0 : Int) ≤ u64.wrap c1, u64.wrap c1 < (256 : Int), n = n, (0 : Int) = (0 : Int), c1 = c1, eA (fun i ↦ int i64 (g i)) n, n ≤ 12] (leaf normal ([own 0 1 0 n], [((0 : Nat), aD.mk true true 1 n fun i ↦ int i64 (eP (fun i ↦ cu (int i64 (g i))) (n - 1) i))]))) := by kernel_rfl
theorem R6 : br P ID := aJ (mU hT aY hm Xo _ _) aY
theorem Ro : ∀ K args pre r, Dm K args pre = some r → aC P yE K args pre r := by
 refine bQ fun K args r hk hs _ => ?_
 split at hs
 ·simp only [Option.some.injEq] at hs
  subst hs
  refine bH hT R6 hm YJ rfl (of_decide_eq_true (by kernel_rfl)) rfl 60 SZ (fun _ => ?_) K []
  simp only [af.all, ay, bne_self_eq_false]
  exact ⟨fun h => by simp at h, fun _ => ⟨fun h => by simp at h, fun _ => ⟨⟨trivial, trivial⟩, .refl _⟩⟩⟩
 ·simp at hs
theorem Ls : br P pz := xC (aJ Ro aY)
theorem Kl {kk n : Nat} {g : Nat → Int} (hn : n < 2 ^ 40) (c : Ctx) (hk : Kept [0] c) : aq P c oG.ntmps Az ⟨aN 0 [.own 0 1 0 n, .int .i64 0, .int .i64 n], [(0, er n g)], 1⟩ (Cs oG kk [] (er n (eP g (n - 1)))) := by
 refine aq.down (aq.zf hT Ls hm [1] (i := 0) (y := sX) (by kernel_rfl) (by kernel_rfl) Fj.dst [1,0] (j := 1) (x1 := s4) (zb := part sX [1,1]) (by kernel_rfl) (by kernel_rfl) (by kernel_rfl) [1] (i2 := 2) (y2 := part s4 [1,0,0]) (by kernel_rfl) (by kernel_rfl) rfl hk
  (f1 := []) (f2 := [12]) (f3 := []) (f4 := [19, 30]) (f5 := []) 60 nO we 1 1 (fun i : Nat => xb n i) (fun i => [(0, er n (eP g (i - 1)))]) (fun i => 1 ≤ i ∧ (i ≤ n ∨ i = 1)) (fun i => 1 ≤ i ∧ n ≤ i ∧ (i ≤ n ∨ i = 1)) (fun i => n - i) (fun i => i < n) (fun _ => False) (fun _ => False)
  (fun i (b : Nat × (Nat → Int)) => rK n i b.1) (fun _ b => [(0, er n b.2)]) (fun i b => b.1 ≤ i ∧ iy b.2 b.1 = eP g i) (fun i b => b.2 = eP g i) (fun _ b => b.1)
  ⟨_, VS, ?_⟩ (fun i ⟨h1, h2⟩ => ⟨_, LG, ?_⟩) (fun i ⟨h1, h2⟩ h3 => ⟨_, LV, ?_⟩) (fun i ⟨h1, h2⟩ h3 ⟨j, h⟩ ⟨h4, h5⟩ => ⟨_, J6, ?_⟩) (fun i ⟨h1, h2⟩ h3 ⟨j, h⟩ h4 => ⟨_, QL, ?_⟩) (fun i s' ⟨h1, h2, h3⟩ hle => ?_) (fun _ _ h => h.elim) (fun _ _ h => h.elim))
 all_goals try simp only [af.all, ay, decide_eq_true_eq, decide_eq_false_iff_not, Int.toNat_natCast]
 ·exact ⟨by omega, 1, ⟨Nat.le_refl _, .inr rfl⟩, [(0, 0)], rfl, rfl, rfl, aT rfl rfl rfl (fun _ _ => aM rfl rfl) trivial⟩
 ·exact ⟨fun h => ⟨by omega, [(0, 0)], rfl, rfl, rfl, aT rfl rfl rfl (fun _ _ => aM rfl rfl) trivial⟩, fun h => ⟨rfl, i, ⟨h1, by omega, h2⟩, [(0, 0)], rfl, rfl, rfl, aT rfl rfl rfl (fun _ _ => aM rfl rfl) trivial⟩⟩
 ·refine ⟨(i, eP g (i - 1)), ⟨Nat.le_refl _, ?_⟩, [(0, 0)], rfl, rfl, rfl, aT rfl rfl rfl (fun _ _ => aM rfl rfl) trivial⟩
  obtain ⟨m, rfl⟩ : ∃ m, i = m + 1 := ⟨i - 1, by omega⟩
  rfl
 ·have h4 : j ≤ i := h4
  have h5 : iy h j = eP g i := h5
  have done : ∀ {e : Nat → Int}, (∀ x, e x = h x) → (j = 0 ∨ ¬ h j < h (j - 1)) → ∃ b : Nat × (Nat → Int), b.2 = eP g i ∧ cQ [0] ([.own 0 1 0 n, .int .i64 0, .int .i64 n, .int .i64 i, .int .i64 j], [(0, er n e)]) (rK n i b.1) [(0, er n b.2)] 1 := fun {e} he hj => by
   have he : e = h := funext he
   subst he
   refine ⟨(j, e), ?_, [(0, 0)], rfl, rfl, rfl, aT rfl rfl rfl (fun _ _ => aM rfl rfl) trivial⟩
   show e = eP g i
   rw [← h5]
   cases j with
   | zero => rfl
   | succ j =>
    unfold iy
    rw [if_neg (by rcases hj with hj | hj; omega; exact hj)]
  have e1 : ((j : Int) - 1).toNat = j - 1 := by omega
  simp only [e1, Nat.add_zero, cond_true]
  have w : -(2 : Int) ^ 63 ≤ (j : Int) - 1 ∧ (j : Int) - 1 < (2 : Int) ^ 63 := by omega
  refine ⟨fun hj => ⟨⟨by omega, by omega, by omega, w, by omega, by omega⟩, fun hlt => ⟨⟨w, w, by omega, by omega, by omega, by omega, by omega, by omega, by omega, by omega⟩, w, ?_⟩, fun hge => ⟨rfl, done (fun _ => rfl) (.inr (of_decide_eq_false hge))⟩⟩, fun hj => ⟨hj, fun h => by simp at h, fun _ => ⟨rfl, done (fun _ => rfl) (.inl (by omega))⟩⟩⟩
  refine ⟨(j - 1, fE h (j - 1)), ⟨by dsimp only; omega, ?_⟩, by dsimp only; omega, [(0, 0)], rfl, ?_, rfl, aT rfl rfl rfl (fun x _ => aM rfl ?_) trivial⟩
  ·obtain ⟨m, rfl⟩ : ∃ m, j = m + 1 := ⟨j - 1, by omega⟩
   show iy (fE h m) m = _
   rw [← h5]
   exact (if_pos (of_decide_eq_true hlt)).symm
  ·show _ = (rK n i (j - 1)).map _
   have : ((j - 1 : Nat) : Int) = (j : Int) - 1 := by omega
   show _ = [_, _, _, _, AV.int .i64 ((j - 1 : Nat) : Int)]
   rw [this]; rfl
  ·show AV.int i64 _ = AV.int i64 (fE h (j - 1) x)
   congr 1
   unfold fE
   rw [show j - 1 + 1 = j by omega]
   by_cases hx : x = j - 1
   ·subst hx; simp
   ·have hx' : (x == j - 1) = false := by simpa using hx
    rw [hx', if_neg hx, cond_false]
    by_cases hx2 : x = j
    ·subst hx2; simp
    ·have : (x == j) = false := by simpa using hx2
     rw [this, if_neg hx2, cond_false]
 ·have h4 : h = eP g i := h4
  subst h4
  exact ⟨by omega, i + 1, ⟨by omega, by omega⟩, by dsimp only; omega, [(0, 0)], rfl, rfl, rfl, aT rfl rfl rfl (fun _ _ => aM rfl rfl) trivial⟩
 ·refine .inr ⟨_, _, hle.choose_spec, .inl rfl, nO, xb n i, [], [(0, er n (eP g (i - 1)))], _, rfl, by kernel_rfl, trivial, rfl, rfl, rfl, rfl, rfl, fun x hx => ?_⟩
  have : i - 1 = n - 1 := by omega
  rw [this]
  exact aG rfl
theorem Ck {ρ : Nat → Option Nat} {n : Nat} {f : Nat → AV} (h : eA f n) : ct ρ ⟨true, true, 1, n, f⟩ (er n fun i => cu (f i)) := ⟨rfl, rfl, rfl, rfl, fun i hi => by
 show fG ρ (f i) (.int .i64 (cu (f i)))
 rw [h i hi]; exact aG rfl⟩
theorem UA : ∀ K args pre r, CK K args pre = some r → aC P zc K args pre r := by
 intro K args pre r h
 unfold CK at h
 split at h
 ·rename_i k n a b k' m f
  split at h
  ·rename_i hc
   have hc := eq_of_beq hc
   subst hc
   simp only [Option.some.injEq] at h
   subst h
   intro need
   have h0 := need
   obtain ⟨rfl, rfl, rfl, n1, n2⟩ := need
   exact BB hT Fj (rest := [.int .i64 0, .int .i64 m]) (ws := []) (o2 := ⟨true, true, 1, m, f⟩) (o := er m fun i => cu (f i)) rfl rfl (of_decide_eq_true (by kernel_rfl)) (fun ρ => Ck n1) (fun _ c hk => Kl n2 c hk) K h0
  ·simp at h
 ·simp at h
theorem RI : ∀ K args pre r, AG K args pre = some r → aC P yx K args pre r := by
 intro K args pre r h
 unfold AG at h
 split at h
 ·rename_i k n a b l k' m f
  split at h
  ·rename_i hc
   have hc := eq_of_beq hc
   subst hc
   simp only [Option.some.injEq] at h
   subst h
   intro need
   have h0 := need
   obtain ⟨rfl, rfl, rfl, n1, n2⟩ := need
   have n2 : m ≤ 12 := n2
   refine BB hT Vi (rest := [.int .i64 0, .int .i64 m, .int .i64 l]) (ws := []) (o2 := ⟨true, true, 1, m, f⟩) (o := er m fun i => cu (f i)) rfl rfl (of_decide_eq_true (by kernel_rfl)) (fun ρ => Ck n1) (fun _ c hk => aq.aS hT (eV (aJ UA aY)) hm 60 [0] VE (by kernel_rfl) ?_) K h0
   simp only [af.all, ay, decide_eq_true_eq]
   exact ⟨by omega, by omega, ⟨trivial, trivial, trivial, fun _ _ => rfl, by omega⟩, fun s' hs' => ⟨.inr rfl, [0], _, [], _, _, hs', by kernel_rfl, trivial, rfl, rfl, rfl, rfl, rfl, fun _ _ => aG rfl⟩⟩
  ·simp at h
 ·simp at h
theorem Q8 {x : Int} (h1 : 0 ≤ x) (h2 : x < 256) (K : Nat) : aC P s5 K [.int .u64 x] [] (aK (.int .i64 (bf x.toNat : Nat)) []) := by
 refine bH (r := aK (.int .i64 (bf x.toNat : Nat)) []) hT aY hm ZI rfl (of_decide_eq_true (by kernel_rfl)) rfl 60 T8 (fun _ => ?_) K []
 obtain ⟨n, rfl⟩ : ∃ n : Nat, x = n := ⟨x.toNat, by omega⟩
 rw [vf (by omega)]
 simp only [af.all, ay, decide_eq_false_iff_not, EP, Int.toNat_natCast, rU (show n < 256 by omega)]
 have h8 : bf n ≤ 8 := fX.2 (by omega)
 rw [wrap_i64 (show -2 ^ 63 ≤ ((bf n : Nat) : Int) by omega) (by omega), wrap_i64 (by omega) (by omega)]
 exact ⟨by omega, by omega, by omega, by omega, bm (by omega)⟩
theorem Yo : ∀ K args pre r, zk K args pre = some r → aC P s5 K args pre r := by
 refine bQ fun K args r hk hs _ => ?_
 split at hs
 ·simp only [Option.some.injEq] at hs
  subst hs
  exact fun need => Q8 need.1 need.2 K trivial
 ·simp at hs
theorem JC : ∀ K args pre r, zk K args pre = some r → aC P xq K args pre r := by
 refine bQ fun K args r hk hs _ => ?_
 split at hs
 ·rename_i x
  simp only [Option.some.injEq] at hs
  subst hs
  intro need
  refine (bH (r := aK (.int .i64 (bf x.toNat : Nat)) []) hT (aJ Yo aY) hm Mt rfl (of_decide_eq_true (by kernel_rfl)) rfl 60 YN (fun _ => ?_) K []) trivial
  simp only [af.all, ay]
  exact ⟨need, .refl _⟩
 ·simp at hs
theorem SO : ∀ K args pre r, zQ K args pre = some r → aC P yc K args pre r := by
 intro K args pre r h
 unfold zQ at h
 split at h
 ·rename_i k n k' m f
  split at h
  ·rename_i hc
   have hc := eq_of_beq hc
   subst hc
   simp only [Option.some.injEq] at h
   subst h
   intro need
   have h0 := need
   obtain ⟨rfl, n1, n2⟩ := need
   have n2 : m ≤ 12 := n2
   refine BB hT XI (rest := []) (ws := []) (o2 := ⟨true, true, 1, m, f⟩) (o := er m fun i => cu (f i)) rfl rfl (of_decide_eq_true (by kernel_rfl)) (fun ρ => Ck n1) (fun _ c hk => aq.aS hT (aJ RI (aJ JC aY)) hm 60 [0] XD (by kernel_rfl) ?_) K h0
   have e : u64.wrap (m : Int) = m := by
    simp [IntKind.wrap, IntKind.bits, IntKind.signed]; omega
   simp only [af.all, ay, e]
   exact ⟨⟨by omega, by omega, trivial, trivial, trivial, fun _ _ => rfl, n2⟩, fun s' hs' => ⟨.inl rfl, [0], _, [], _, _, hs', by kernel_rfl, trivial, rfl, rfl, rfl, rfl, rfl, fun _ _ => aG rfl⟩⟩
  ·simp at h
 ·simp at h
end Go.Am.B

/- trace.Components. -/
namespace Go.Am.B
open Go Go.Am.N AV af ak IntKind
theorem DX : aO P oO uy (ax uy) := aP Nw (by kernel_rfl) (by kernel_rfl) (by kernel_rfl)
def tT (x : Nat → Ce) (i k : Nat) : Bool := gM (x i) (x k)
abbrev hJ (C : List Nat) : Nat → AV := fun a => .int .i64 ((C.getD a 0 : Nat) : Int)
def dP (T : Nat → Nat → Bool) (n : Nat) (L : List Nat) (c : Nat) : AV := .ah 1 (dH T n n (L.getD c 0)).length (hJ (dH T n n (L.getD c 0)))
def uv (T : Nat → Nat → Bool) (n : Nat) : AV := .ah 1 (roots T n n).length (dP T n (roots T n n))
noncomputable def iQ : aW := zG :: (oD, nT) :: (yc, zQ) :: []
noncomputable abbrev zH : Code := ax uy
noncomputable abbrev lT : Code := part zH [1,1,1,0,1,0,0]
noncomputable abbrev xI : Code := part lT [1,1,0,0]
noncomputable abbrev pF : Code := part xI [1,1]
noncomputable abbrev uz : Code := part pF [1,1,0,1,0,0]
noncomputable abbrev zu : Code := part uz [1,0,0]
noncomputable abbrev Fa : Code := part zu [1,0,0]
abbrev jg : List Nat := [0, 3, 4, 13, 14]
abbrev ny (x : Nat → Ce) (n m i : Nat) : List AV := [cq x n 64, .own 1 1 0 m, .own 0 1 0 n, .int .i64 n, .int .i64 i]
abbrev IB (n : Nat) (sn : Nat → Bool) : aD := ⟨true, true, 1, n, fun j => .bool (sn j)⟩
abbrev jr (n m : Nat) (g : Nat → AV) (sn : Nat → Bool) : aB := [(1, ⟨true, true, 1, m, g⟩), (0, IB n sn)]
abbrev uq : List Nat := [0, 3, 4, 13, 14, 5]
abbrev xo (x : Nat → Ce) (n m i : Nat) : List AV := [cq x n 64, .own 1 1 0 m, .own 0 1 0 n, .int .i64 n, .int .i64 i, .int .i64 i]
abbrev nV : List Nat := [0, 3, 4, 13, 14, 5, 6, 7]
abbrev x6 (x : Nat → Ce) (n m i l k : Nat) : List AV := [cq x n 64, .own 1 1 0 m, .own 0 1 0 n, .int .i64 n, .int .i64 i, .int .i64 i, .own 2 1 0 l, .int .i64 k]
abbrev kL (n m : Nat) (g : Nat → AV) (sn : Nat → Bool) (C : List Nat) : aB := [(2, ⟨true, true, 1, C.length, hJ C⟩), (1, ⟨true, true, 1, m, g⟩), (0, IB n sn)]
abbrev tf : List Nat := [0, 3, 4, 13, 14, 5, 6, 7, 33, 34]
abbrev qo (x : Nat → Ce) (n m i l k j : Nat) : List AV := [cq x n 64, .own 1 1 0 m, .own 0 1 0 n, .int .i64 n, .int .i64 i, .int .i64 i, .own 2 1 0 l, .int .i64 k, .int .i64 n, .int .i64 j]
theorem SR {x : Nat → Ce} {n : Nat} : aF T iQ [] 60 jg (before zH [1,1,1,0,1]) ⟨aN 0 [cq x n 64], [], 0⟩ =
  let c1 : Int := (↑n : Int); some (ag [(0 : Int) ≤ c1 ∧ c1 ≤ c1 ∧ c1 ≤ (2 : Int) ^ 47 ∧ c1 * (↑(1 : Nat) : Int) ≤ (2 : Int) ^ 47] (leaf normal ([ah 4 n fun i ↦ agg [ah 6 (x i).na fun i_1 ↦ agg [rat ((x i).a i_1).lo 64, rat ((x i).a i_1).hi 64], ah 6 (x i).nb fun i_1 ↦ agg [rat ((x i).b i_1).lo 64, rat ((x i).b i_1).hi 64], int i64 (x i).k, int i64 (x i).j], nil, own 16384 1 0 c1.toNat, int i64 c1, int i64 (0 : Int)], [((16384 : Nat), aD.mk true true 1 c1.toNat fun x ↦ AV.bool false)]))) := by kernel_rfl
theorem LO {x : Nat → Ce} {n m i : Nat} {g : Nat → AV} {sn : Nat → Bool} : aF T iQ [15] 60 jg (before lT [1,1,0]) ⟨az jg (ny x n m i), jr n m g sn, 2⟩ =
  let c1 : List AV × aB := ([ah 4 n fun i ↦ agg [ah 6 (x i).na fun i_1 ↦ agg [rat ((x i).a i_1).lo 64, rat ((x i).a i_1).hi 64], ah 6 (x i).nb fun i_1 ↦ agg [rat ((x i).b i_1).lo 64, rat ((x i).b i_1).hi 64], int i64 (x i).k, int i64 (x i).j], own 1 1 0 m, own 0 1 0 n, int i64 (↑n : Int), int i64 (↑i : Int)], [((0 : Nat), aD.mk true true 1 n fun j ↦ AV.bool (sn j)), ((1 : Nat), aD.mk true true 1 m fun a ↦ g a)]); some (fork (decide ((↑i : Int) < (↑n : Int))) (leaf normal c1) (leaf (exit 0) c1)) := by kernel_rfl
theorem NY {x : Nat → Ce} {n m i : Nat} {g : Nat → AV} {sn : Nat → Bool} : aF T iQ [20] 60 uq (before xI [1,1]) ⟨az jg (ny x n m i), jr n m g sn, 2⟩ =
  let c2 : Int := (↑i : Int); let c1 : List AV × aB := ([ah 4 n fun i ↦ agg [ah 6 (x i).na fun i_1 ↦ agg [rat ((x i).a i_1).lo 64, rat ((x i).a i_1).hi 64], ah 6 (x i).nb fun i_1 ↦ agg [rat ((x i).b i_1).lo 64, rat ((x i).b i_1).hi 64], int i64 (x i).k, int i64 (x i).j], own 1 1 0 m, own 0 1 0 n, int i64 (↑n : Int), int i64 c2, int i64 c2], [((0 : Nat), aD.mk true true 1 n fun j ↦ AV.bool (sn j)), ((1 : Nat), aD.mk true true 1 m fun a ↦ g a)]); some (ag [(0 : Int) ≤ c2 ∧ c2.toNat < n, c2.toNat + 0 < n] (fork (sn (c2.toNat + 0)) (leaf (exit 1) c1) (leaf normal c1))) := by kernel_rfl
theorem RE {x : Nat → Ce} {n m i : Nat} {g : Nat → AV} {sn : Nat → Bool} : aF T iQ [] 60 nV (before pF [1,1,0,1]) ⟨az uq (xo x n m i), jr n m g sn, 2⟩ =
  let c1 : Int := (↑i : Int); some (ag [(0 : Int) ≤ c1 ∧ c1.toNat < n, c1.toNat + 0 < n] (ag [(1 : Nat) * 1 ≤ 2 ^ 24] (leaf normal ([ah 4 n fun i ↦ agg [ah 6 (x i).na fun i_1 ↦ agg [rat ((x i).a i_1).lo 64, rat ((x i).a i_1).hi 64], ah 6 (x i).nb fun i_1 ↦ agg [rat ((x i).b i_1).lo 64, rat ((x i).b i_1).hi 64], int i64 (x i).k, int i64 (x i).j], own 1 1 0 m, own 0 1 0 n, int i64 (↑n : Int), int i64 c1, int i64 c1, own 20482 1 0 1, int i64 (0 : Int)], [((20482 : Nat), aD.mk true true 1 1 fun i ↦ nth [int i64 c1] (int i64 (0 : Int)) i), ((0 : Nat), aD.mk true true 1 n fun j ↦ AV.bool (bif j == c1.toNat + 0 then true else sn j)), ((1 : Nat), aD.mk true true 1 m fun a ↦ g a)])))) := by kernel_rfl
theorem WB {x : Nat → Ce} {n m i k : Nat} {g : Nat → AV} {sn : Nat → Bool} {C : List Nat} : aF T iQ [29] 60 nV (before uz [1,0]) ⟨az nV (x6 x n m i C.length k), kL n m g sn C, 3⟩ =
  let c1 : List AV × aB := ([ah 4 n fun i ↦ agg [ah 6 (x i).na fun i_1 ↦ agg [rat ((x i).a i_1).lo 64, rat ((x i).a i_1).hi 64], ah 6 (x i).nb fun i_1 ↦ agg [rat ((x i).b i_1).lo 64, rat ((x i).b i_1).hi 64], int i64 (x i).k, int i64 (x i).j], own 1 1 0 m, own 0 1 0 n, int i64 (↑n : Int), int i64 (↑i : Int), int i64 (↑i : Int), own 2 1 0 C.length, int i64 (↑k : Int)], [((2 : Nat), aD.mk true true 1 C.length fun a ↦ int i64 (↑(C.getD a 0) : Int)), ((0 : Nat), aD.mk true true 1 n fun j ↦ AV.bool (sn j)), ((1 : Nat), aD.mk true true 1 m fun a ↦ g a)]); some (fork (decide ((↑k : Int) < (↑C.length : Int))) (leaf normal c1) (leaf (exit 2) c1)) := by kernel_rfl
theorem Ng {x : Nat → Ce} {n m i k : Nat} {g : Nat → AV} {sn : Nat → Bool} {C : List Nat} : aF T iQ [] 60 tf (before zu [1]) ⟨az nV (x6 x n m i C.length k), kL n m g sn C, 3⟩ =
  some (leaf normal ([ah 4 n fun i ↦ agg [ah 6 (x i).na fun i_1 ↦ agg [rat ((x i).a i_1).lo 64, rat ((x i).a i_1).hi 64], ah 6 (x i).nb fun i_1 ↦ agg [rat ((x i).b i_1).lo 64, rat ((x i).b i_1).hi 64], int i64 (x i).k, int i64 (x i).j], own 1 1 0 m, own 0 1 0 n, int i64 (↑n : Int), int i64 (↑i : Int), int i64 (↑i : Int), own 2 1 0 C.length, int i64 (↑k : Int), int i64 (↑n : Int), int i64 (0 : Int)], [((2 : Nat), aD.mk true true 1 C.length fun a ↦ int i64 (↑(C.getD a 0) : Int)), ((0 : Nat), aD.mk true true 1 n fun j ↦ AV.bool (sn j)), ((1 : Nat), aD.mk true true 1 m fun a ↦ g a)])) := by kernel_rfl
theorem OV {x : Nat → Ce} {n m i k j : Nat} {g : Nat → AV} {sn : Nat → Bool} {C : List Nat} : aF T iQ [35, 42, 55] 60 tf [Fa] ⟨az tf (qo x n m i C.length k j), kL n m g sn C, 3⟩ =
  let c20 : Int := (↑k : Int); let c18 : Nat × aD := ((1 : Nat), aD.mk true true 1 m fun a ↦ g a); let c16 : Nat := C.length; let c13 : AV := own 0 1 0 n; let c12 : AV := own 1 1 0 m; let c10 : AV := int i64 (↑n : Int); let c9 : AV := int i64 (↑i : Int); let c7 : Int := (↑j : Int); let c4 : AV := ah 4 n fun i ↦ agg [ah 6 (x i).na fun i_1 ↦ agg [rat ((x i).a i_1).lo 64, rat ((x i).a i_1).hi 64], ah 6 (x i).nb fun i_1 ↦ agg [rat ((x i).b i_1).lo 64, rat ((x i).b i_1).hi 64], int i64 (x i).k, int i64 (x i).j]; let c22 : Int := c7 + (1 : Int); let c21 : Nat := c16 + 1; let c19 : AV := own 2 1 0 c16; let c15 : Int := (↑(C.getD (c20.toNat + 0) 0) : Int); let c6 : List (Nat × aD) := [((2 : Nat), aD.mk true true 1 c16 fun a ↦ int i64 (↑(C.getD a 0) : Int)), ((0 : Nat), aD.mk true true 1 n fun j ↦ AV.bool (sn j)), c18]; let c5 : Nat := c7.toNat; let c17 : List AV := [int i64 c20, c10, int i64 c22]; let c14 : Prop := (0 : Int) ≤ c7 ∧ c5 < n; let c11 : Nat := c5 + 0; let c8 : Prop := -(2 : Int) ^ 63 ≤ c22 ∧ c22 < (2 : Int) ^ 63; let c3 : Nat := c15.toNat; let c2 : af (List AV × aB) := ag [c8] (leaf normal (c4 :: c12 :: c13 :: c10 :: c9 :: c9 :: c19 :: c17, c6)); let c1 : af (List AV × aB) := ag [c14, c11 < n] (ag [(1 : Nat) * 1 ≤ 2 ^ 24, c21 * ((8 : Nat) + 1) * 2 ≤ 2 ^ 47] (ag [c8] (leaf normal (c4 :: c12 :: c13 :: c10 :: c9 :: c9 :: own 118787 1 0 c21 :: c17, [((118787 : Nat), aD.mk true true 1 c21 fun i ↦ if i < c16 then hJ C i else nth [int i64 c7] (int i64 (0 : Int)) (i - c16 + 0)), ((0 : Nat), aD.mk true true 1 n fun j ↦ AV.bool (bif j == c11 then true else sn j)), c18])))); some (fork (decide (c7 < (↑n : Int))) (fork (!sn c11) (ag [c14, c11 < n, (!sn c11) = true, (0 : Int) ≤ c20 ∧ c20.toNat < c16, c20.toNat + 0 < c16, (0 : Int) ≤ c15 ∧ c3 < n, c14, bK (fun i ↦ sA ((x c3).a i) 64) (x c3).na 64, bK (fun i ↦ sA ((x c3).b i) 64) (x c3).nb 64, bK (fun i ↦ sA ((x c5).a i) 64) (x c5).na 64, bK (fun i ↦ sA ((x c5).b i) 64) (x c5).nb 64, (x c3).na + (x c3).nb < 2 ^ 30, (x c5).na + (x c5).nb < 2 ^ 30] (fork (bif true then gM (Ce.mk (x c3).na (fun i ↦ bR (sA ((x c3).a i) 64)) (x c3).nb (fun i ↦ bR (sA ((x c3).b i) 64)) (x c3).k (x c3).j) (Ce.mk (x c5).na (fun i ↦ bR (sA ((x c5).a i) 64)) (x c5).nb (fun i ↦ bR (sA ((x c5).b i) 64)) (x c5).k (x c5).j) else false) c1 c2)) (ag [c14, c11 < n, (!sn c11) = false] (fork false c1 c2))) (leaf (exit 4) ([c4, c12, c13, c10, c9, c9, c19, int i64 c20, c10, int i64 c7], c6))) := by kernel_rfl
theorem YH {x : Nat → Ce} {n m i k j : Nat} {g : Nat → AV} {sn : Nat → Bool} {C : List Nat} : aF T iQ [] 60 nV (behind zu [1] ++ [part uz [1,1]]) ⟨az tf (qo x n m i C.length k j), kL n m g sn C, 3⟩ =
  let c1 : Int := (↑k : Int) + (1 : Int); some (ag [-(2 : Int) ^ 63 ≤ c1 ∧ c1 < (2 : Int) ^ 63] (leaf normal ([ah 4 n fun i ↦ agg [ah 6 (x i).na fun i_1 ↦ agg [rat ((x i).a i_1).lo 64, rat ((x i).a i_1).hi 64], ah 6 (x i).nb fun i_1 ↦ agg [rat ((x i).b i_1).lo 64, rat ((x i).b i_1).hi 64], int i64 (x i).k, int i64 (x i).j], own 1 1 0 m, own 0 1 0 n, int i64 (↑n : Int), int i64 (↑i : Int), int i64 (↑i : Int), own 2 1 0 C.length, int i64 c1], [((2 : Nat), aD.mk true true 1 C.length fun a ↦ int i64 (↑(C.getD a 0) : Int)), ((0 : Nat), aD.mk true true 1 n fun j ↦ AV.bool (sn j)), ((1 : Nat), aD.mk true true 1 m fun a ↦ g a)]))) := by kernel_rfl
theorem Sj {x : Nat → Ce} {n m i k : Nat} {g : Nat → AV} {sn : Nat → Bool} {C : List Nat} : aF T iQ [] 60 jg [part pF [1,1,1], part lT [1,1,1]] ⟨az nV (x6 x n m i C.length k), kL n m g sn C, 3⟩ =
  let c2 : Nat := C.length; let c1 : Int := (↑i : Int) + (1 : Int); some (ag [c2 = c2, eA (hJ C) c2, c2 ≤ 12] (ag [(1 : Nat) * 1 ≤ 2 ^ 24, (m + 1) * ((24 : Nat) + 1) * 2 ≤ 2 ^ 47] (ag [-(2 : Int) ^ 63 ≤ c1 ∧ c1 < (2 : Int) ^ 63] (leaf normal ([ah 4 n fun i ↦ agg [ah 6 (x i).na fun i_1 ↦ agg [rat ((x i).a i_1).lo 64, rat ((x i).a i_1).hi 64], ah 6 (x i).nb fun i_1 ↦ agg [rat ((x i).b i_1).lo 64, rat ((x i).b i_1).hi 64], int i64 (x i).k, int i64 (x i).j], own 20483 1 0 (m + 1), own 0 1 0 n, int i64 (↑n : Int), int i64 c1], [((0 : Nat), aD.mk true true 1 n fun j ↦ AV.bool (sn j)), ((20483 : Nat), aD.mk true true 1 (m + 1) fun i ↦ if i < m then g i else nth [ah 1 c2 fun i ↦ int i64 (eP (fun i ↦ cu (hJ C i)) (c2 - 1) (i + 0))] nil (i - m + 0))]))))) := by kernel_rfl
theorem TL {x : Nat → Ce} {n m i : Nat} {g : Nat → AV} {sn : Nat → Bool} : aF T iQ [] 60 jg [part lT [1,1,1]] ⟨az uq (xo x n m i), jr n m g sn, 2⟩ =
  let c1 : Int := (↑i : Int) + (1 : Int); some (ag [-(2 : Int) ^ 63 ≤ c1 ∧ c1 < (2 : Int) ^ 63] (leaf normal ([ah 4 n fun i ↦ agg [ah 6 (x i).na fun i_1 ↦ agg [rat ((x i).a i_1).lo 64, rat ((x i).a i_1).hi 64], ah 6 (x i).nb fun i_1 ↦ agg [rat ((x i).b i_1).lo 64, rat ((x i).b i_1).hi 64], int i64 (x i).k, int i64 (x i).j], own 1 1 0 m, own 0 1 0 n, int i64 (↑n : Int), int i64 c1], [((0 : Nat), aD.mk true true 1 n fun j ↦ AV.bool (sn j)), ((1 : Nat), aD.mk true true 1 m fun a ↦ g a)]))) := by kernel_rfl
theorem KP {x : Nat → Ce} {n m i : Nat} {g : Nat → AV} {sn : Nat → Bool} : b9 T iQ [] 60 uy [part zH [1,1,1,1]] ⟨az jg (ny x n m i), jr n m g sn, 2⟩ =
  some (leaf ret [ah 1 m fun i ↦ g (i + 0)]) := by kernel_rfl
theorem nr : br P iQ := xC (aJ Ay (aJ SO aY))
theorem CL {x : Nat → Ce} (i j : Nat) : tT x i j = tT x j i := XT
theorem oL {es n m : Nat} {f g : Nat → AV} (h : n = m) (hh : ∀ i, i < n → bq (f i) (g i)) : bq (.ah es n f) (.ah es m g) := h ▸ gj hh
theorem nM {L M : List Nat} {c : Nat} (h : c < L.length) : (L ++ M).getD c 0 = L.getD c 0 := by
 rw [List.getD_eq_getElem?_getD, List.getD_eq_getElem?_getD, List.getElem?_append_left h]
theorem sK {L : List Nat} {a : Nat} : (L ++ [a]).getD L.length 0 = a := by
 rw [List.getD_eq_getElem?_getD, List.getElem?_append_right (Nat.le_refl _), Nat.sub_self]; rfl
theorem IW {L : List Nat} {c : Nat} (h : c < L.length) : L.getD c 0 ∈ L := by
 rw [List.getD_eq_getElem?_getD, List.getElem?_eq_getElem h]; exact List.getElem_mem h
structure CI (T : Nat → Nat → Bool) (n i : Nat) (C : List Nat) (sn : Nat → Bool) : Prop where
 nodup : C.Nodup
 bJ : ∀ j, j ∈ C → j < n ∧ Go.Am.bJ T n j = i
 self : i ∈ C
 seen : ∀ j, j < n → (sn j = true ↔ Go.Am.bJ T n j < i ∨ j ∈ C)
structure fB (T : Nat → Nat → Bool) (n i : Nat) (C : List Nat) (sn : Nat → Bool) (k : Nat) : Prop extends CI T n i C sn where
 done : ∀ a, a < k → ∀ j, j < n → T (C.getD a 0) j = true → sn j = true
theorem fB.add {T : Nat → Nat → Bool} (hs : ∀ i j, T i j = T j i) {n i : Nat} {C : List Nat} {sn : Nat → Bool} {k j : Nat} (h : fB T n i C sn k) (hk : k < C.length) (hj : j < n) (hn : sn j = false) (ht : T (C.getD k 0) j = true) : fB T n i (C ++ [j]) (fun x => bif x == j then true else sn x) k := by
 have hjC : j ∉ C := fun hm => by have := (h.seen j hj).2 (.inr hm); rw [hn] at this; simp at this
 have hCk := h.bJ _ (IW hk)
 refine ⟨⟨?_, fun a ha => ?_, List.mem_append_left _ h.self, fun a ha => ?_⟩, fun a ha b hb hab => ?_⟩
 ·rw [List.nodup_append]
  exact ⟨h.nodup, by simp, fun a ha b hb e => by simp only [List.mem_singleton] at hb; subst hb; subst e; exact hjC ha⟩
 ·rcases List.mem_append.1 ha with ha | ha
  ·exact h.bJ a ha
  ·simp only [List.mem_singleton] at ha
   subst ha
   exact ⟨hj, by rw [← Gu hs hCk.1 hj ht]; exact hCk.2⟩
 ·by_cases hja : a = j
  ·subst hja; simp
  ·have : (a == j) = false := by simpa using hja
   simp only [this, cond_false, h.seen a ha, List.mem_append, List.mem_singleton, hja, or_false]
 ·by_cases hbj : b = j
  ·subst hbj; simp
  ·have : (b == j) = false := by simpa using hbj
   simp only [this, cond_false]
   exact h.done a ha b hb (by rw [← nM (M := [j]) (by omega)]; exact hab)
theorem fB.all {T : Nat → Nat → Bool} (hs : ∀ i j, T i j = T j i) {n i : Nat} {C : List Nat} {sn : Nat → Bool} (h : fB T n i C sn C.length) (hi : i < n) (j : Nat) : j ∈ C ↔ j < n ∧ Go.Am.bJ T n j = i := by
 refine ⟨h.bJ j, fun ⟨hj, hl⟩ => ?_⟩
 have hii := (h.bJ i h.self).2
 refine PS (T := T) (n := n) (p := fun a => a ∈ C) hs hi h.self (fun a b ha hb hma hab => ?_) hj (by rw [hl, hii])
 obtain ⟨c, hc, rfl⟩ := List.getElem_of_mem hma
 have e : C.getD c 0 = C[c] := by rw [List.getD_eq_getElem?_getD, List.getElem?_eq_getElem hc]; rfl
 have hsb := h.done c hc b hb (by rw [e]; exact hab)
 rcases (h.seen b hb).1 hsb with h1 | h1
 ·have := Gu hs ha hb hab
  rw [(h.bJ _ (List.getElem_mem hc)).2] at this
  omega
 ·exact h1
theorem fB.len {T : Nat → Nat → Bool} {n i : Nat} {C : List Nat} {sn : Nat → Bool} {k : Nat} (h : fB T n i C sn k) : C.length ≤ n := FL h.nodup fun j hj => (h.bJ j hj).1
theorem fB.start {T : Nat → Nat → Bool} {n i : Nat} (hi : i < n) (hl : Go.Am.bJ T n i = i) : fB T n i [i] (fun x => bif x == i then true else decide (Go.Am.bJ T n x < i)) 0 := by
 refine ⟨⟨by simp, fun j hj => ?_, by simp, fun j hj => ?_⟩, fun a ha => by omega⟩
 ·simp only [List.mem_singleton] at hj; subst hj; exact ⟨hi, hl⟩
 ·by_cases h : j = i
  ·subst h; simp
  ·have : (j == i) = false := by simpa using h
   simp [this, h]
theorem QK {x : Nat → Ce} {n : Nat} (hn : n ≤ 12) (hx : ∀ i, i < n → (x i).na + (x i).nb < 2 ^ 30) (K : Nat) : aC P oO K [cq x n 64] [] (aK (uv (tT x) n) []) := by
 refine eW (r := aK (uv (tT x) n) []) hT DX rfl (of_decide_eq_true (by kernel_rfl)) rfl (fun _ cx h0 => ?_) K []
 have hk := kF h0
 have hs := CL (x := x)
 have hrl := fun i => B0 (T := tT x) (n := n) (m := i)
 refine aq.yo hT nr hm [1,1,1,0,1] (i := 0) (y := lT) (z := part zH [1,1,1,1]) (by kernel_rfl) (by kernel_rfl) (by kernel_rfl) DX.dst hk (f1 := []) 60 jg 2 (fun i : Nat => ny x n (roots (tT x) n i).length i)
  (fun i => jr n (roots (tT x) n i).length (dP (tT x) n (roots (tT x) n i)) (fun j => decide (bJ (tT x) n j < i))) (fun i => i ≤ n) (fun i => i = n) (fun i => n - i) (fun _ => False) ⟨_, SR, ?_⟩ (fun i hi => ?_) (fun i hi => ?_) (fun _ _ h => h.elim)
 ·simp only [af.all, ay, Int.toNat_natCast]
  exact ⟨⟨by omega, by omega, by omega, by omega⟩, 0, Nat.zero_le _, [(0, 16384)], rfl, rfl, rfl, jl rfl (by omega) (by omega) (aT rfl rfl rfl (fun j _ => aM rfl (by show AV.bool false = AV.bool (decide (bJ (tT x) n j < 0)); rw [decide_eq_false (Nat.not_lt_zero _)])) trivial)⟩
 ·obtain ⟨sn, hsn⟩ : ∃ sn : Nat → Bool, sn = fun j => decide (bJ (tT x) n j < i) := ⟨_, rfl⟩
  have hm1 := hrl i
  refine aq.vI hT nr hm (y := lT) (x1 := xI) (zb := part lT [1,1,1]) [1,1,0] (j := 1) (by kernel_rfl) (by kernel_rfl) (by kernel_rfl) (by kernel_rfl) hk (f1 := [15]) 60 jg 2 (fun _ : Unit => ny x n (roots (tT x) n i).length i) (fun _ => jr n (roots (tT x) n i).length (dP (tT x) n (roots (tT x) n i)) (fun j => decide (bJ (tT x) n j < i))) (fun _ => i < n) ⟨_, LO, ?_⟩ (fun _ hlt => ?_)
  ·simp only [af.all, ay, decide_eq_true_eq, decide_eq_false_iff_not]
   exact ⟨fun h => ⟨(), by omega, [(0, 0), (1, 1)], rfl, rfl, rfl, aT rfl rfl rfl (fun _ _ => aM rfl rfl) (aT rfl rfl rfl (fun _ _ => aM rfl rfl) trivial)⟩, fun h s' hs' => ⟨rfl, i, by omega, cQ.le ⟨[(0, 0), (1, 1)], rfl, rfl, rfl, aT rfl rfl rfl (fun _ _ => aM rfl rfl) (aT rfl rfl rfl (fun _ _ => aM rfl rfl) trivial)⟩ hs' hk⟩⟩
  rw [← hsn]
  refine aq.oY hT nr hm (x := xI) [1,1] (by kernel_rfl) (by kernel_rfl) (by kernel_rfl) hk (f1 := [20]) 60 uq 2 (fun _ : Unit => xo x n (roots (tT x) n i).length i) (fun _ => jr n (roots (tT x) n i).length (dP (tT x) n (roots (tT x) n i)) sn) (fun _ => bJ (tT x) n i = i) ⟨_, NY, ?_⟩ (fun _ hroot => ?_)
  ·simp only [af.all, ay, Int.toNat_natCast, Nat.add_zero]
   have hsi : sn i = decide (bJ (tT x) n i < i) := by rw [hsn]
   have hle := od (T := tT x) (n := n) (i := i)
   refine ⟨⟨by omega, by omega⟩, fun h s' hs' => ?_, fun h => ⟨(), ?_, [(0, 0), (1, 1)], rfl, rfl, rfl, aT rfl rfl rfl (fun _ _ => aM rfl rfl) (aT rfl rfl rfl (fun _ _ => aM rfl rfl) trivial)⟩⟩
   ·have hlt2 : bJ (tT x) n i < i := by rw [hsi] at h; exact of_decide_eq_true h
    refine pn ?_
    show aq P cx _ (part lT [1,1,1]) s' _
    refine aq.jB (s2 := ⟨az uq (xo x n (roots (tT x) n i).length i), jr n (roots (tT x) n i).length (dP (tT x) n (roots (tT x) n i)) sn, 2⟩) (cQ.le ⟨[(0, 0), (1, 1)], rfl, rfl, rfl, aT rfl rfl rfl (fun _ _ => aM rfl rfl) (aT rfl rfl rfl (fun _ _ => aM rfl rfl) trivial)⟩ hs' hk) (aq.aS hT nr hm 60 jg TL (by kernel_rfl) ?_)
    simp only [af.all, ay]
    have hr : roots (tT x) n (i + 1) = roots (tT x) n i := by rw [wJ, if_neg (by omega), List.append_nil]
    refine ⟨by omega, fun s' hs' => ⟨i + 1, by omega, by dsimp only; omega, cQ.le ⟨[(0, 0), (1, 1)], rfl, ?_, rfl, ?_⟩ hs' hk⟩⟩
    ·show _ = (ny x n (roots (tT x) n (i + 1)).length (i + 1)).map _
     rw [hr]; rfl
    ·show fI _ _ _ (jr n (roots (tT x) n (i + 1)).length (dP (tT x) n (roots (tT x) n (i + 1))) _)
     rw [hr]
     refine aT rfl rfl rfl (fun _ _ => aM rfl rfl) (aT rfl rfl rfl (fun j hj => aM rfl ?_) trivial)
     rw [hsn]
     congr 1
     rw [Bool.eq_iff_iff]
     simp only [decide_eq_true_eq]
     have hne : bJ (tT x) n j ≠ i := fun e => by
      have := Dk hs hj
      rw [e] at this; omega
     omega
   ·rw [hsi] at h
    have := of_decide_eq_false h
    omega
  ·refine aq.zf hT nr hm (x := pF) [1,1,0,1] (i := 2) (y := uz) (by kernel_rfl) (by kernel_rfl) (by kernel_rfl) [1,0] (j := 3) (x1 := zu) (zb := part uz [1,1]) (by kernel_rfl) (by kernel_rfl) (by kernel_rfl) [1] (i2 := 4) (y2 := Fa) (by kernel_rfl) (by kernel_rfl) rfl hk
    (f1 := []) (f2 := [29]) (f3 := []) (f4 := [35, 42, 55]) (f5 := []) 60 nV tf 3 3 (fun a : List Nat × (Nat → Bool) × Nat => x6 x n (roots (tT x) n i).length i a.1.length a.2.2) (fun a => kL n (roots (tT x) n i).length (dP (tT x) n (roots (tT x) n i)) a.2.1 a.1)
    (fun a => fB (tT x) n i a.1 a.2.1 a.2.2 ∧ a.2.2 ≤ a.1.length) (fun a => fB (tT x) n i a.1 a.2.1 a.2.2 ∧ a.2.2 = a.1.length) (fun a => n - a.2.2) (fun a => a.2.2 < a.1.length) (fun _ => False) (fun _ => False)
    (fun a (b : List Nat × (Nat → Bool) × Nat) => qo x n (roots (tT x) n i).length i b.1.length a.2.2 b.2.2) (fun _ b => kL n (roots (tT x) n i).length (dP (tT x) n (roots (tT x) n i)) b.2.1 b.1)
    (fun a b => fB (tT x) n i b.1 b.2.1 a.2.2 ∧ a.2.2 < b.1.length ∧ b.2.2 ≤ n ∧ ∀ j, j < b.2.2 → tT x (b.1.getD a.2.2 0) j = true → b.2.1 j = true) (fun a b => fB (tT x) n i b.1 b.2.1 a.2.2 ∧ a.2.2 < b.1.length ∧ b.2.2 = n ∧ ∀ j, j < n → tT x (b.1.getD a.2.2 0) j = true → b.2.1 j = true) (fun _ b => n - b.2.2)
    ⟨_, RE, ?_⟩ (fun ⟨C, s1, k⟩ ⟨h1, h2⟩ => ⟨_, WB, ?_⟩) (fun ⟨C, s1, k⟩ ⟨h1, h2⟩ h3 => ⟨_, Ng, ?_⟩) (fun ⟨C0, s0, k⟩ _ _ ⟨C, s1, j⟩ ⟨h1, h2, h3, h4⟩ => ⟨_, OV, ?_⟩) (fun ⟨C0, s0, k⟩ ⟨_, h0⟩ g0 ⟨C, s1, j⟩ ⟨h1, h2, h3, h4⟩ => ⟨_, YH, ?_⟩) (fun ⟨C, s1, k⟩ s' ⟨h1, h2⟩ hle => ?_) (fun _ _ h => h.elim) (fun _ _ h => h.elim)
   ·simp only [af.all, ay, Int.toNat_natCast, Nat.add_zero]
    refine ⟨⟨by omega, by omega⟩, by omega, ([i], fun y => bif y == i then true else sn y, 0), ⟨by rw [hsn]; exact fB.start hlt hroot, by simp⟩, [(0, 0), (1, 1), (2, 20482)], rfl, rfl, rfl, aT rfl rfl rfl (fun a ha => aM ?_ ?_) (aT rfl rfl rfl (fun _ _ => aM rfl rfl) (aT rfl rfl rfl (fun _ _ => aM rfl rfl) trivial))⟩
    all_goals
     have : a = 0 := by have : a < 1 := ha; omega
     subst this
     rfl
   ·simp only [af.all, ay, decide_eq_true_eq, decide_eq_false_iff_not]
    have h2 : k ≤ C.length := h2
    exact ⟨fun h => ⟨by dsimp only; omega, [(0, 0), (1, 1), (2, 2)], rfl, rfl, rfl, aT rfl rfl rfl (fun _ _ => aM rfl rfl) (aT rfl rfl rfl (fun _ _ => aM rfl rfl) (aT rfl rfl rfl (fun _ _ => aM rfl rfl) trivial))⟩,
     fun h => ⟨rfl, (C, s1, k), ⟨h1, by dsimp only; omega⟩, [(0, 0), (1, 1), (2, 2)], rfl, rfl, rfl, aT rfl rfl rfl (fun _ _ => aM rfl rfl) (aT rfl rfl rfl (fun _ _ => aM rfl rfl) (aT rfl rfl rfl (fun _ _ => aM rfl rfl) trivial))⟩⟩
   ·simp only [af.all, ay]
    exact ⟨(C, s1, 0), ⟨h1, h3, Nat.zero_le _, fun j hj => absurd hj (Nat.not_lt_zero _)⟩, [(0, 0), (1, 1), (2, 2)], rfl, rfl, rfl, aT rfl rfl rfl (fun _ _ => aM rfl rfl) (aT rfl rfl rfl (fun _ _ => aM rfl rfl) (aT rfl rfl rfl (fun _ _ => aM rfl rfl) trivial))⟩
   ·have h2 : k < C.length := h2
    have h3 : j ≤ n := h3
    have h1 : fB (tT x) n i C s1 k := h1
    have h4 : ∀ b, b < j → tT x (C.getD k 0) b = true → s1 b = true := h4
    have hl := h1.len
    have hCk := (h1.bJ _ (IW h2)).1
    have same : ∀ {w : List AV × aB}, (s1 j = true ∨ tT x (C.getD k 0) j = false) → j < n → cQ [] w (qo x n (roots (tT x) n i).length i C.length k (j + 1)) (kL n (roots (tT x) n i).length (dP (tT x) n (roots (tT x) n i)) s1 C) 3 → Round [] (fun b : List Nat × (Nat → Bool) × Nat => qo x n (roots (tT x) n i).length i b.1.length k b.2.2) (fun b => kL n (roots (tT x) n i).length (dP (tT x) n (roots (tT x) n i)) b.2.1 b.1) 3
      (fun b => fB (tT x) n i b.1 b.2.1 k ∧ k < b.1.length ∧ b.2.2 ≤ n ∧ ∀ j, j < b.2.2 → tT x (b.1.getD k 0) j = true → b.2.1 j = true) (fun b => fB (tT x) n i b.1 b.2.1 k ∧ k < b.1.length ∧ b.2.2 = n ∧ ∀ j, j < n → tT x (b.1.getD k 0) j = true → b.2.1 j = true) (fun b => n - b.2.2) 4 (fun _ => False) (C, s1, j) .normal w := fun hh hj hre =>
     ⟨(C, s1, j + 1), ⟨h1, h2, hj, fun b hb ht => by
      by_cases hbj : b = j
      ·subst hbj
       rcases hh with hh | hh
       ·exact hh
       ·rw [hh] at ht; simp at ht
      ·have hb : b < j + 1 := hb
       exact h4 b (by omega) ht⟩, by dsimp only; omega, hre⟩
    have et : gM (Ce.mk (x (C.getD k 0)).na (fun i ↦ bR (sA ((x (C.getD k 0)).a i) 64)) (x (C.getD k 0)).nb (fun i ↦ bR (sA ((x (C.getD k 0)).b i) 64)) (x (C.getD k 0)).k (x (C.getD k 0)).j) (Ce.mk (x j).na (fun i ↦ bR (sA ((x j).a i) 64)) (x j).nb (fun i ↦ bR (sA ((x j).b i) 64)) (x j).k (x j).j) = tT x (C.getD k 0) j := rfl
    simp only [af.all, ay, decide_eq_true_eq, decide_eq_false_iff_not, Int.toNat_natCast, Nat.add_zero, cond_true, et, Bool.not_eq_true', Bool.not_eq_false']
    refine ⟨fun hj => ⟨fun hf => ⟨⟨⟨by omega, by omega⟩, by omega, hf, by omega, h2, by omega, by omega, bD (Nat.le_refl _), bD (Nat.le_refl _), bD (Nat.le_refl _), bD (Nat.le_refl _), hx _ hCk, hx _ (by omega)⟩, fun ht => ⟨⟨by omega, by omega⟩, ⟨by omega, by omega⟩, by omega, ?_⟩, fun ht => ⟨by omega, same (.inr ht) (by omega) ⟨[(0, 0), (1, 1), (2, 2)], rfl, rfl, rfl, aT rfl rfl rfl (fun _ _ => aM rfl rfl) (aT rfl rfl rfl (fun _ _ => aM rfl rfl) (aT rfl rfl rfl (fun _ _ => aM rfl rfl) trivial))⟩⟩⟩,
      fun hf => ⟨⟨by omega, by omega, hf⟩, fun h => by simp at h, fun _ => ⟨by omega, same (.inl hf) (by omega) ⟨[(0, 0), (1, 1), (2, 2)], rfl, rfl, rfl, aT rfl rfl rfl (fun _ _ => aM rfl rfl) (aT rfl rfl rfl (fun _ _ => aM rfl rfl) (aT rfl rfl rfl (fun _ _ => aM rfl rfl) trivial))⟩⟩⟩⟩,
     fun hj => ⟨rfl, (C, s1, j), ⟨h1, h2, by dsimp only; omega, fun b hb => h4 b (by omega)⟩, [(0, 0), (1, 1), (2, 2)], rfl, rfl, rfl, aT rfl rfl rfl (fun _ _ => aM rfl rfl) (aT rfl rfl rfl (fun _ _ => aM rfl rfl) (aT rfl rfl rfl (fun _ _ => aM rfl rfl) trivial))⟩⟩
    have hlen : (C ++ [j]).length = C.length + 1 := by simp
    refine ⟨(C ++ [j], fun y => bif y == j then true else s1 y, j + 1), ⟨h1.add hs h2 (by omega) hf ht, by dsimp only; omega, by dsimp only; omega, fun b hb htb => ?_⟩, by dsimp only; omega, [(0, 0), (1, 1), (2, 118787)], rfl, ?_, rfl, aT rfl rfl hlen.symm (fun b hb => aM (vX rfl ?_) ?_) (aT rfl rfl rfl (fun _ _ => aM rfl rfl) (aT rfl rfl rfl (fun _ _ => aM rfl rfl) trivial))⟩
    ·have hb : b < j + 1 := hb
     show (bif b == j then true else s1 b) = true
     have htb : tT x ((C ++ [j]).getD k 0) b = true := htb
     rw [nM h2] at htb
     by_cases hbj : b = j
     ·subst hbj; simp
     ·have e : (b == j) = false := by simpa using hbj
      rw [e, cond_false]
      exact h4 b (by omega) htb
    ·show _ = (qo x n (roots (tT x) n i).length i (C ++ [j]).length k (j + 1)).map _
     rw [hlen]; rfl
    ·have hb : b < (C ++ [j]).length := hb
     by_cases h : b < C.length
     ·rw [show b - C.length = 0 by omega]; rfl
     ·rw [show b - C.length = 0 by omega]; rfl
    ·have hb : b < (C ++ [j]).length := hb
     show (if b < C.length then hJ C b else nth _ _ (b - C.length + 0)) = hJ (C ++ [j]) b
     by_cases h : b < C.length
     ·rw [if_pos h]
      show AV.int _ _ = AV.int _ _
      rw [nM h]
     ·have : b = C.length := by omega
      subst this
      rw [if_neg h, Nat.sub_self]
      show AV.int _ _ = AV.int _ _
      rw [sK]
   ·simp only [af.all, ay]
    have h2 : k < C.length := h2
    have hl := h1.len
    have hl0 : k < n := by have h1 : fB (tT x) n i C s1 k := h1; have := h1.len; omega
    refine ⟨by omega, (C, s1, k + 1), ⟨⟨h1.toCI, fun a ha b hb hab => ?_⟩, h2⟩, by dsimp only; omega, [(0, 0), (1, 1), (2, 2)], rfl, rfl, rfl, aT rfl rfl rfl (fun _ _ => aM rfl rfl) (aT rfl rfl rfl (fun _ _ => aM rfl rfl) (aT rfl rfl rfl (fun _ _ => aM rfl rfl) trivial))⟩
    have ha : a < k + 1 := ha
    by_cases hak : a = k
    ·subst hak; exact h4 b hb hab
    ·exact h1.done a (show a < k by omega) b hb hab
   ·have h2 : k = C.length := h2
    subst h2
    have h1 : fB (tT x) n i C s1 C.length := h1
    have hl := h1.len
    have hall := h1.all hs hlt
    have hsort := Q2 h1.nodup hall
    have hpos : 0 < C.length := List.length_pos_of_mem h1.self
    obtain ⟨g1, g2⟩ := Zl (C := C) (g := fun i => cu (hJ C i)) h1.nodup (fun _ _ => rfl) (m := C.length - 1) (by omega)
    rw [hsort] at g1 g2
    have hr : roots (tT x) n (i + 1) = roots (tT x) n i ++ [i] := by rw [wJ, if_pos hroot]
    have hrlen : (roots (tT x) n i ++ [i]).length = (roots (tT x) n i).length + 1 := by simp
    rw [show behind pF [1,1,0,1] = [part pF [1,1,1]] from by kernel_rfl]
    refine aA.weak rfl hle (aA.one (aq.tail (fun s' hh => by have := hh.1; omega) (aA.aS hT nr hm 60 jg Sj (by kernel_rfl) ?_)))
    simp only [af.all, ay]
    refine ⟨⟨trivial, fun _ _ => rfl, by omega⟩, ⟨by omega, by omega⟩, by omega, fun s' hs' => ⟨i + 1, by omega, by dsimp only; omega, cQ.le ⟨[(0, 0), (1, 20483)], rfl, ?_, rfl, ?_⟩ hs' hk⟩⟩
    ·show _ = (ny x n (roots (tT x) n (i + 1)).length (i + 1)).map _
     rw [hr, hrlen]; rfl
    ·show fI _ _ _ (jr n (roots (tT x) n (i + 1)).length (dP (tT x) n (roots (tT x) n (i + 1))) _)
     rw [hr]
     refine aT rfl rfl hrlen.symm (fun b hb => ?_) (aT rfl rfl rfl (fun j hj => aM rfl ?_) trivial)
     ·have hb : b < (roots (tT x) n i ++ [i]).length := hb
      by_cases h : b < (roots (tT x) n i).length
      ·rw [if_pos h]
       refine aM rfl ?_
       unfold dP
       rw [nM h]
      ·have : b = (roots (tT x) n i).length := by omega
       subst this
       rw [if_neg h, Nat.sub_self]
       refine .inr ⟨rfl, ?_⟩
       unfold dP
       rw [sK]
       refine oL g1.symm fun a ha => bm ?_
       exact g2 a ha
     ·congr 1
      rw [Bool.eq_iff_iff, h1.seen j hj, hall j]
      simp only [decide_eq_true_eq]
      omega
 ·subst hi
  refine aq.js ((aA.fin hT nr hm 60 KP (by kernel_rfl) ?_).mono fun _ _ h => .inl h)
  simp only [af.all, ay]
  exact .refl _
def vL : Spec := fh (kC (jM 64) kN) (fun a => uv (tT a.1.2) a.1.1) fun a => [a.1.1 ≤ 12, ∀ i, i < a.1.1 → (a.1.2 i).na + (a.1.2 i).nb < 2 ^ 30]
theorem Ev : ∀ K args pre r, vL K args pre = some r → aC P oO K args pre r := en fun _ K hn => QK hn.1 hn.2 K
end Go.Am.B

/- trace.check: closures handed to slices.ContainsFunc. -/
namespace Go.Am.B
open Go Go.Am.N AV af ak IntKind
abbrev wE : FuncId := Co
abbrev x8 : FuncId := Ct
theorem J4 : aO P kg sy (ax sy) := aP Vq (by kernel_rfl) (by kernel_rfl) (by kernel_rfl)
theorem Yd : aO P kP sr (ax sr) := aP Nd (by kernel_rfl) (by kernel_rfl) (by kernel_rfl)
theorem Jf : aO P Co pI (ax pI) := aP Ye (by kernel_rfl) (by kernel_rfl) (by kernel_rfl)
theorem I3 : aO P Ct oa (ax oa) := aP SM (by kernel_rfl) (by kernel_rfl) (by kernel_rfl)
theorem Tr : aO P vc wA (ax wA) := aP O9 (by kernel_rfl) (by kernel_rfl) (by kernel_rfl)
theorem yW {u v : AV} (h : bq u v) : bq (.bp u) (.bp v) := by
 refine ⟨rfl, fun M w cs hc => ?_⟩
 cases hc with
 | bp h1 h2 h3 => cases h3; exact .bp (h.2 _ _ _ h1) h2 .nil
theorem HO {f : FuncId} {us vs : List AV} (h : dX us vs) (hv : (vs.all fun v => !v.isAgg && !v.isTuple) = true) : bq (.func f us) (.func f vs) := by
 refine ⟨rfl, fun M w cs hc => ?_⟩
 cases hc with
 | func h1 h2 h3 => cases h3; exact .func (An h h1) hv .nil
abbrev cA (w : Nat → Int) (m : Nat) : AV := .ah 1 m fun i => .int .i64 (w i)
def Ak : AV → Option (Nat × (Nat → AV))
 | .ah 1 n f => some (n, f)
 | .nil => some (0, fun _ => .nil)
 | _ => none
def iT : Kind (Nat × (Nat → Int)) := ⟨fun v => match Ak v with
 | some (n, f) => some ((n, fun i => cu (f i)), [eA f n])
 | none => none, fun a => cA a.2 a.1, fun {v a q} h hq => by
  split at h
  ·rename_i h1
   simp only [Option.some.injEq, Prod.mk.injEq] at h
   obtain ⟨rfl, rfl⟩ := h
   unfold Ak at h1
   split at h1
   ·simp only [Option.some.injEq, Prod.mk.injEq] at h1
    obtain ⟨rfl, rfl⟩ := h1
    exact gj fun i hi => cV (hq i hi)
   ·simp only [Option.some.injEq, Prod.mk.injEq] at h1
    obtain ⟨rfl, rfl⟩ := h1
    exact fS (by omega)
   ·simp at h1
  ·simp at h⟩
def Cj {α : Type} (k : Kind α) : Kind α := ⟨fun v => match v with
 | .bp v => k.read v
 | _ => none, fun a => .bp (k.make a), fun {v a q} h hq => by
  split at h
  ·exact yW (k.ok h hq)
  ·simp at h⟩
def HG {α : Type} (g : FuncId) (k : Kind α) : Kind α := ⟨fun v => match v with
 | .func f [.bp v] => match Nat.beq f g with
  | true => k.read v
  | false => none
 | _ => none, fun a => .func g [.bp (k.make a)], fun {v a q} h hq => by
  split at h
  ·split at h
   ·rename_i hc
    have hc := Nat.eq_of_beq_eq_true hc
    subst hc
    exact HO ⟨yW (k.ok h hq), trivial⟩ rfl
   ·simp at h
  ·simp at h⟩
def Hp {α β : Type} (g : FuncId) (k : Kind α) (k2 : Kind β) : Kind (α × β) := ⟨fun v => match v with
 | .func f [.bp v, .bp w] => match Nat.beq f g with
  | true => match k.read v, k2.read w with
   | some (a, p), some (b, q) => some ((a, b), p ++ q)
   | _, _ => none
  | false => none
 | _ => none, fun a => .func g [.bp (k.make a.1), .bp (k2.make a.2)], fun {v a q} h hq => by
  split at h
  ·split at h
   ·rename_i hc
    have hc := Nat.eq_of_beq_eq_true hc
    subst hc
    split at h
    ·rename_i h1 h2
     simp only [Option.some.injEq, Prod.mk.injEq] at h
     obtain ⟨rfl, rfl⟩ := h
     obtain ⟨g1, g2⟩ := ep.1 hq
     exact HO ⟨yW (k.ok h1 g1), yW (k2.ok h2 g2), trivial⟩ rfl
    ·simp at h
   ·simp at h
  ·simp at h⟩
def ke (c d : Ce) : Bool := decide (c.na = d.na ∧ c.nb = d.nb)
def ek (x : Nat → Ce) (n : Nat) : Prop := ∀ i, i < n → (x i).na + (x i).nb < 2 ^ 30
def Ih : Spec := fh (kC kI (kC (Cj (jM 64)) kN)) (fun a => .bool (decide (a.1 < 0 ∨ (a.2.1.1 : Int) ≤ a.1))) fun _ => []
def E0 : Spec := fh (kC kI (kC (Cj (jM 64)) (kC (Cj iT) kN))) (fun a => .bool (!ke (a.2.1.2 a.1.toNat) (a.2.1.2 (a.2.2.1.2 0).toNat)))
 fun a => [0 ≤ a.1 ∧ a.1 < (a.2.1.1 : Int), 0 < a.2.2.1.1, 0 ≤ a.2.2.1.2 0 ∧ a.2.2.1.2 0 < (a.2.1.1 : Int), ek a.2.1.2 a.2.1.1]
def iL (n : Nat) (w : Nat → Int) (i : Nat) : Bool := decide (w i < 0 ∨ (n : Int) ≤ w i)
def gp (x : Nat → Ce) (w : Nat → Int) (v : Int) (i : Nat) : Bool := !ke (x (w i).toNat) (x v.toNat)
def iK (p : Nat → Bool) (m : Nat) : Int := if least p m < m then (least p m : Int) else -1
def iN (p : Nat → Bool) (m : Nat) : Bool := decide (least p m < m)
noncomputable def yI : aW := nG :: (kg, Ih) :: []
noncomputable def yX : aW := nG :: (kP, E0) :: []
noncomputable abbrev jJ : Code := ax pI
abbrev jS : List Nat := [4, 0, 1, 7, 8]
abbrev pO (w : Nat → Int) (m : Nat) (g : AV) (i : Nat) : List AV := [.int .i64 0, cA w m, g, .int .i64 m, .int .i64 i]
abbrev rW (x : Nat → Ce) (n : Nat) : AV := .func kg [.bp (cq x n 64)]
abbrev vw (x : Nat → Ce) (n : Nat) (v : Nat → Int) (k : Nat) : AV := .func kP [.bp (cq x n 64), .bp (cA v k)]
def Gx : Spec := fh (kC iT (kC (HG kg (jM 64)) kN)) (fun a => .int .i64 (iK (iL a.2.1.1 a.1.2) a.1.1)) fun a => [a.1.1 < 2 ^ 40]
def G9 : Spec := fh (kC iT (kC (Hp kP (jM 64) iT) kN)) (fun a => .int .i64 (iK (gp a.2.1.1.2 a.1.2 (a.2.1.2.2 0)) a.1.1))
 fun a => [a.1.1 < 2 ^ 40, ∀ i, i < a.1.1 → 0 ≤ a.1.2 i ∧ a.1.2 i < (a.2.1.1.1 : Int), 0 < a.2.1.2.1, 0 ≤ a.2.1.2.2 0 ∧ a.2.1.2.2 0 < (a.2.1.1.1 : Int), ek a.2.1.1.2 a.2.1.1.1]
def Ii : Spec := fh (kC iT (kC (HG kg (jM 64)) kN)) (fun a => .bool (iN (iL a.2.1.1 a.1.2) a.1.1)) fun a => [a.1.1 < 2 ^ 40]
def Et : Spec := fh (kC iT (kC (Hp kP (jM 64) iT) kN)) (fun a => .bool (iN (gp a.2.1.1.2 a.1.2 (a.2.1.2.2 0)) a.1.1))
 fun a => [a.1.1 < 2 ^ 40, ∀ i, i < a.1.1 → 0 ≤ a.1.2 i ∧ a.1.2 i < (a.2.1.1.1 : Int), 0 < a.2.1.2.1, 0 ≤ a.2.1.2.2 0 ∧ a.2.1.2.2 0 < (a.2.1.1.1 : Int), ek a.2.1.1.2 a.2.1.1.1]
def b6 (x : Nat → Ce) (n : Nat) (w : Nat → Int) (m : Nat) : Int := if m = 0 then 7 else if iN (iL n w) m = true then 7 else if iN (gp x w (w 0)) m = true then 1 else 0
def As : Spec := fun K args pre => match Ii K args pre with
 | some r => some r
 | none => Et K args pre
noncomputable def Es : aW := nG :: (x8, As) :: []
def pT : Spec := fh (kC (jM 64) (kC iT kN)) (fun a => .int .i64 (b6 a.1.2 a.1.1 a.2.1.2 a.2.1.1)) fun a => [a.2.1.1 < 2 ^ 40, a.1.1 < 2 ^ 40, ek a.1.2 a.1.1]
theorem Kj {i : Int} {x : Nat → Ce} {n : Nat} : bF T [] [6] 60 sy (ax sy) ⟨aN 0 [.int .i64 i, .bp (cq x n 64)], [], 0⟩ =
  let c1 : Bool := decide (i < (0 : Int)); some (fork c1 (ag [c1 = true] (leaf ret [AV.bool true])) (ag [c1 = false] (leaf ret [AV.bool (bif false then true else decide (i ≥ (↑n : Int)))]))) := by kernel_rfl
theorem Wz {i : Int} {x : Nat → Ce} {n m : Nat} {w : Nat → Int} : bF T [(pY, lf 64)] [] 60 sr (ax sr) ⟨aN 0 [.int .i64 i, .bp (cq x n 64), .bp (cA w m)], [], 0⟩ =
  let c4 : Nat := Int.toNat (0 : Int); let c3 : Nat := 2 ^ 30; let c2 : Ce := x i.toNat; let c1 : Nat := (w c4).toNat; let c6 : Nat := (x c1).na; let c5 : Nat := (x c1).nb; some (ag [(0 : Int) ≤ i ∧ i.toNat < n, (0 : Int) ≤ (0 : Int) ∧ c4 < m, (0 : Int) ≤ w c4 ∧ c1 < n, bK (fun i ↦ sA (c2.a i) 64) c2.na 64, bK (fun i ↦ sA (c2.b i) 64) c2.nb 64, bK (fun i ↦ sA ((x c1).a i) 64) c6 64, bK (fun i ↦ sA ((x c1).b i) 64) c5 64, c2.na < c3, c2.nb < c3, c6 < c3, c5 < c3] (leaf ret [AV.bool !decide (c2.na = c6 ∧ c2.nb = c5)])) := by kernel_rfl
theorem Yw {x : Nat → Ce} {w : Nat → Int} {n m : Nat} : aF T yI [] 60 jS (before jJ [1,0,1]) ⟨aN 0 [cA w m, rW x n], [], 0⟩ =
  some (leaf normal ([int i64 (0 : Int), ah 1 m fun i ↦ int i64 (w i), func kg [(ah 4 n fun i ↦ agg [ah 6 (x i).na fun i_1 ↦ agg [rat ((x i).a i_1).lo 64, rat ((x i).a i_1).hi 64], ah 6 (x i).nb fun i_1 ↦ agg [rat ((x i).b i_1).lo 64, rat ((x i).b i_1).hi 64], int i64 (x i).k, int i64 (x i).j]).bp], int i64 (↑m : Int), int i64 (0 : Int)], [])) := by kernel_rfl
theorem Oe {x : Nat → Ce} {w : Nat → Int} {n m i : Nat} : aF T yI [9, 16] 60 jS [part jJ [1,0,1,0,0]] ⟨az jS (pO w m (rW x n) i), [], 0⟩ =
  let c7 : Int := (↑m : Int); let c3 : AV := ah 1 m fun i ↦ int i64 (w i); let c2 : Int := (↑i : Int); let c1 : AV := func kg [(ah 4 n fun i ↦ agg [ah 6 (x i).na fun i_1 ↦ agg [rat ((x i).a i_1).lo 64, rat ((x i).a i_1).hi 64], ah 6 (x i).nb fun i_1 ↦ agg [rat ((x i).b i_1).lo 64, rat ((x i).b i_1).hi 64], int i64 (x i).k, int i64 (x i).j]).bp]; let c6 : Int := c2 + (1 : Int); let c5 : List AV := [c3, c1, int i64 c7, int i64 c2]; let c4 : Int := w c2.toNat; some (fork (decide (c2 < c7)) (ag [(0 : Int) ≤ c2 ∧ c2.toNat < m, fZ (fun i ↦ bk (x i) 64) n 64] (fork (decide (c4 < (0 : Int) ∨ (↑n : Int) ≤ c4)) (leaf ret (int i64 c2 :: c5, [])) (ag [-(2 : Int) ^ 63 ≤ c6 ∧ c6 < (2 : Int) ^ 63] (leaf normal ([int i64 (0 : Int), c3, c1, int i64 c7, int i64 c6], []))))) (leaf (exit 0) (int i64 (0 : Int) :: c5, []))) := by kernel_rfl
theorem PB {x : Nat → Ce} {w : Nat → Int} {n m i : Nat} : b9 T yI [] 60 pI [part jJ [1,1]] ⟨az jS (pO w m (rW x n) i), [], 0⟩ =
  some (leaf ret [int i64 (-1 : Int)]) := by kernel_rfl
theorem N9 {x : Nat → Ce} {w v : Nat → Int} {n m k : Nat} : aF T yX [] 60 jS (before jJ [1,0,1]) ⟨aN 0 [cA w m, vw x n v k], [], 0⟩ =
  some (leaf normal ([int i64 (0 : Int), ah 1 m fun i ↦ int i64 (w i), func kP [(ah 4 n fun i ↦ agg [ah 6 (x i).na fun i_1 ↦ agg [rat ((x i).a i_1).lo 64, rat ((x i).a i_1).hi 64], ah 6 (x i).nb fun i_1 ↦ agg [rat ((x i).b i_1).lo 64, rat ((x i).b i_1).hi 64], int i64 (x i).k, int i64 (x i).j]).bp, (ah 1 k fun i ↦ int i64 (v i)).bp], int i64 (↑m : Int), int i64 (0 : Int)], [])) := by kernel_rfl
theorem Qa {x : Nat → Ce} {w v : Nat → Int} {n m i k : Nat} : aF T yX [9, 16] 60 jS [part jJ [1,0,1,0,0]] ⟨az jS (pO w m (vw x n v k) i), [], 0⟩ =
  let c7 : Int := (↑m : Int); let c4 : Int := cu (int i64 (v 0)); let c3 : AV := ah 1 m fun i ↦ int i64 (w i); let c2 : Int := (↑i : Int); let c1 : AV := func kP [(ah 4 n fun i ↦ agg [ah 6 (x i).na fun i_1 ↦ agg [rat ((x i).a i_1).lo 64, rat ((x i).a i_1).hi 64], ah 6 (x i).nb fun i_1 ↦ agg [rat ((x i).b i_1).lo 64, rat ((x i).b i_1).hi 64], int i64 (x i).k, int i64 (x i).j]).bp, (ah 1 k fun i ↦ int i64 (v i)).bp]; let c6 : Int := c2 + (1 : Int); let c5 : List AV := [c3, c1, int i64 c7, int i64 c2]; some (fork (decide (c2 < c7)) (ag [(0 : Int) ≤ c2 ∧ c2.toNat < m, fZ (fun i ↦ bk (x i) 64) n 64, eA (fun i ↦ int i64 (v i)) k, (0 : Int) ≤ w c2.toNat ∧ w c2.toNat < (↑n : Int), (0 : Nat) < k, (0 : Int) ≤ c4 ∧ c4 < (↑n : Int), ek (fun i ↦ cL (bk (x i) 64)) n] (fork (!ke (cL (bk (x (w c2.toNat).toNat) 64)) (cL (bk (x c4.toNat) 64))) (leaf ret (int i64 c2 :: c5, [])) (ag [-(2 : Int) ^ 63 ≤ c6 ∧ c6 < (2 : Int) ^ 63] (leaf normal ([int i64 (0 : Int), c3, c1, int i64 c7, int i64 c6], []))))) (leaf (exit 0) (int i64 (0 : Int) :: c5, []))) := by kernel_rfl
theorem Ow {x : Nat → Ce} {w v : Nat → Int} {n m i k : Nat} : b9 T yX [] 60 pI [part jJ [1,1]] ⟨az jS (pO w m (vw x n v k) i), [], 0⟩ =
  some (leaf ret [int i64 (-1 : Int)]) := by kernel_rfl
theorem ND {x : Nat → Ce} {w : Nat → Int} {n m : Nat} : bF T [(wE, Gx)] [] 60 oa (ax oa) ⟨aN 0 [cA w m, rW x n], [], 0⟩ =
  let c1 : Int := iK (iL n fun i ↦ cu (int i64 (w i))) m; some (ag [eA (fun i ↦ int i64 (w i)) m, fZ (fun i ↦ bk (x i) 64) n 64, m < 2 ^ 40] (leaf ret [AV.bool (decide (c1 ≥ (0 : Int)))])) := by kernel_rfl
theorem V5 {x : Nat → Ce} {w v : Nat → Int} {n m k : Nat} : bF T [(wE, G9)] [] 60 oa (ax oa) ⟨aN 0 [cA w m, vw x n v k], [], 0⟩ =
  let c2 : Int := cu (int i64 (v 0)); let c1 : Int := iK (gp (fun i ↦ cL (bk (x i) 64)) (fun i ↦ cu (int i64 (w i))) c2) m; some (ag [eA (fun i ↦ int i64 (w i)) m, fZ (fun i ↦ bk (x i) 64) n 64, eA (fun i ↦ int i64 (v i)) k, m < 2 ^ 40, ∀ (i : Nat), i < m → (0 : Int) ≤ cu (int i64 (w i)) ∧ cu (int i64 (w i)) < (↑n : Int), (0 : Nat) < k, (0 : Int) ≤ c2 ∧ c2 < (↑n : Int), ek (fun i ↦ cL (bk (x i) 64)) n] (leaf ret [AV.bool (decide (c1 ≥ (0 : Int)))])) := by kernel_rfl
theorem MK {x : Nat → Ce} {w : Nat → Int} {n m : Nat} : bF T Es [8, 12, 15] 60 wA (ax wA) ⟨aN 0 [cq x n 64, cA w m], [], 0⟩ =
  let c7 : Prop := m < 2 ^ 40; let c6 : Bool := (↑m : Int) == (0 : Int); let c5 : Prop := fZ (fun i ↦ bk (x i) 64) n 64; let c4 : Int := cu (int i64 (w 0)); let c3 : Prop := 0 < 1; let c2 : Prop := eA (fun i ↦ int i64 (w i)) m; let c1 : af (List AV) := ag [c3, c2, c5, c2, c7, ∀ (i : Nat), i < m → (0 : Int) ≤ cu (int i64 (w i)) ∧ cu (int i64 (w i)) < (↑n : Int), (0 : Nat) < m, (0 : Int) ≤ c4 ∧ c4 < (↑n : Int), ek (fun i ↦ cL (bk (x i) 64)) n] (fork (iN (gp (fun i ↦ cL (bk (x i) 64)) (fun i ↦ cu (int i64 (w i))) c4) m) (leaf ret [int i64 (1 : Int)]) (leaf ret [int i64 (0 : Int)])); some (fork c6 (ag [c3, c6 = true] (fork true (leaf ret [int i64 (7 : Int)]) c1)) (ag [c3, c6 = false, c3, c2, c5, c7] (fork (bif false then true else iN (iL n fun i ↦ cu (int i64 (w i))) m) (leaf ret [int i64 (7 : Int)]) c1))) := by kernel_rfl
theorem mY {c : Ce} {s : Nat} : cL (bk c s) = c := rfl
theorem lM {k : IntKind} {z : Int} : cu (.int k z) = z := rfl
theorem Xi : ∀ K args pre r, Ih K args pre = some r → aC P kg K args pre r := by
 refine en fun a K _ => ?_
 obtain ⟨i, ⟨n, x⟩, _⟩ := a
 refine bH hT aY hm J4 rfl (of_decide_eq_true (by kernel_rfl)) rfl 60 (Kj (i := i) (x := x) (n := n)) (fun _ => ?_) K []
 simp only [af.all, ay, decide_eq_true_eq, decide_eq_false_iff_not, cond_false]
 refine ⟨fun h => ⟨h, cZ (decide_eq_true (.inl h)).symm⟩, fun h => ⟨h, cZ ?_⟩⟩
 rw [Bool.eq_iff_iff]
 simp only [decide_eq_true_eq]
 omega
theorem J3 : ∀ K args pre r, E0 K args pre = some r → aC P kP K args pre r := by
 refine en fun a K hn => ?_
 obtain ⟨i, ⟨n, x⟩, ⟨m, w⟩, _⟩ := a
 obtain ⟨n1, n2, n3, n4⟩ := hn
 have n1 : 0 ≤ i ∧ i < (n : Int) := n1
 have n2 : 0 < m := n2
 have n3 : 0 ≤ w 0 ∧ w 0 < (n : Int) := n3
 have n4 : ek x n := n4
 refine bH hT (aJ (Bz 64) aY) hm Yd rfl (of_decide_eq_true (by kernel_rfl)) rfl 60 (Wz (i := i) (x := x) (n := n) (m := m) (w := w)) (fun _ => ?_) K []
 have g1 := n4 i.toNat (by omega)
 have g2 := n4 (w 0).toNat (by omega)
 simp only [af.all, ay, show Int.toNat 0 = 0 from rfl]
 exact ⟨⟨by omega, by omega, by omega, bD (Nat.le_refl _), bD (Nat.le_refl _), bD (Nat.le_refl _), bD (Nat.le_refl _), by omega, by omega, by omega, by omega⟩, .refl _⟩
theorem UQ {p : Nat → Bool} {m i : Nat} (hi : i < m) (h : p i = true) (hb : ∀ j, j < i → p j = false) : least p m = i := by
 have h1 := y4 (n := m) h
 by_cases h2 : least p m < i
 ·have := za (p := p) (n := m) (by omega)
  rw [hb _ h2] at this; simp at this
 ·omega
theorem Gh {p : Nat → Bool} {m : Nat} (hb : ∀ j, j < m → p j = false) : least p m = m := by
 have h1 := least_le (p := p) m
 by_cases h2 : least p m < m
 ·have := za h2
  rw [hb _ h2] at this; simp at this
 ·omega
theorem HE {p : Nat → Bool} {m i : Nat} (hi : i < m) (h : p i = true) (hb : ∀ j, j < i → p j = false) : iK p m = i := by
 unfold iK; rw [UQ hi h hb, if_pos hi]
theorem D3 {p : Nat → Bool} {m : Nat} (hb : ∀ j, j < m → p j = false) : iK p m = -1 := by
 unfold iK; rw [Gh hb, if_neg (Nat.lt_irrefl _)]
theorem Hl {p : Nat → Bool} {m : Nat} : decide (iK p m ≥ 0) = iN p m := by
 unfold iN iK
 rw [Bool.eq_iff_iff]
 simp only [decide_eq_true_eq]
 split <;> omega
theorem yK {p : Nat → Bool} {m : Nat} (h : iN p m = false) {i : Nat} (hi : i < m) : p i = false := by
 have := of_decide_eq_false h
 exact x9 (n := m) (by omega)
theorem UH : br P yI := eV (aJ Xi aY)
theorem WZ : br P yX := eV (aJ J3 aY)
theorem LC : ∀ K args pre r, Gx K args pre = some r → aC P wE K args pre r := by
 refine en fun a K hn => ?_
 obtain ⟨⟨m, w⟩, ⟨n, x⟩, _⟩ := a
 have hn : m < 2 ^ 40 := hn
 refine lX (r := aK (.int .i64 (iK (iL n w) m)) []) hT UH hm Jf rfl (of_decide_eq_true (by kernel_rfl)) rfl [1,0,1] (i := 0) (y := part jJ [1,0,1,0,0]) (z := part jJ [1,1]) (by kernel_rfl) (by kernel_rfl) (by kernel_rfl) (f1 := []) (f2 := [9, 16]) (f3 := []) 60 jS 0
  (fun i : Nat => pO w m (rW x n) i) (fun _ => []) (fun i => i ≤ m ∧ ∀ j, j < i → iL n w j = false) (fun i => i = m ∧ ∀ j, j < i → iL n w j = false) (fun i => m - i) (fun _ => ⟨⟨_, Yw, ?_⟩, fun i ⟨h1, h2⟩ => ⟨_, Oe, ?_⟩, fun i ⟨h1, h2⟩ => ⟨_, PB, ?_⟩⟩) K []
 ·exact ⟨0, ⟨Nat.zero_le _, fun j hj => by omega⟩, .vals rfl⟩
 ·simp only [af.all, ay, decide_eq_true_eq, decide_eq_false_iff_not, Int.toNat_natCast]
  refine ⟨fun h => ⟨⟨⟨by omega, by omega⟩, jc (Nat.le_refl _)⟩, fun hb => ⟨[.int .i64 i], by kernel_rfl, bm (HE (by omega) (decide_eq_true hb) h2).symm⟩, fun hb => ⟨by omega, i + 1, ⟨by omega, fun j hj => ?_⟩, by dsimp only; omega, .vals rfl⟩⟩, fun h => ⟨rfl, i, ⟨by omega, h2⟩, .vals rfl⟩⟩
  by_cases hji : j = i
  ·subst hji; exact decide_eq_false hb
  ·exact h2 j (by omega)
 ·subst h1
  exact bm (D3 h2).symm
theorem SS : ∀ K args pre r, G9 K args pre = some r → aC P wE K args pre r := by
 refine en fun a K hn => ?_
 obtain ⟨⟨m, w⟩, ⟨⟨n, x⟩, ⟨k, v⟩⟩, _⟩ := a
 obtain ⟨n1, n2, n3, n4, n5⟩ := hn
 have n1 : m < 2 ^ 40 := n1
 have n2 : ∀ i, i < m → 0 ≤ w i ∧ w i < (n : Int) := n2
 have n3 : 0 < k := n3
 have n4 : 0 ≤ v 0 ∧ v 0 < (n : Int) := n4
 have n5 : ek x n := n5
 refine lX (r := aK (.int .i64 (iK (gp x w (v 0)) m)) []) hT WZ hm Jf rfl (of_decide_eq_true (by kernel_rfl)) rfl [1,0,1] (i := 0) (y := part jJ [1,0,1,0,0]) (z := part jJ [1,1]) (by kernel_rfl) (by kernel_rfl) (by kernel_rfl) (f1 := []) (f2 := [9, 16]) (f3 := []) 60 jS 0
  (fun i : Nat => pO w m (vw x n v k) i) (fun _ => []) (fun i => i ≤ m ∧ ∀ j, j < i → gp x w (v 0) j = false) (fun i => i = m ∧ ∀ j, j < i → gp x w (v 0) j = false) (fun i => m - i) (fun _ => ⟨⟨_, N9, ?_⟩, fun i ⟨h1, h2⟩ => ⟨_, Qa, ?_⟩, fun i ⟨h1, h2⟩ => ⟨_, Ow, ?_⟩⟩) K []
 ·exact ⟨0, ⟨Nat.zero_le _, fun j hj => by omega⟩, .vals rfl⟩
 ·simp only [af.all, ay, decide_eq_true_eq, decide_eq_false_iff_not, Int.toNat_natCast, mY, lM]
  refine ⟨fun h => ⟨⟨⟨by omega, by omega⟩, jc (Nat.le_refl _), fun _ _ => rfl, n2 i (by omega), n3, n4, n5⟩, fun hb => ⟨[.int .i64 i], by kernel_rfl, bm (HE (by omega) hb h2).symm⟩, fun hb => ⟨by omega, i + 1, ⟨by omega, fun j hj => ?_⟩, by dsimp only; omega, .vals rfl⟩⟩, fun h => ⟨rfl, i, ⟨by omega, h2⟩, .vals rfl⟩⟩
  by_cases hji : j = i
  ·subst hji; exact hb
  ·exact h2 j (by omega)
 ·subst h1
  exact bm (D3 h2).symm
theorem UN : ∀ K args pre r, Ii K args pre = some r → aC P x8 K args pre r := by
 refine en fun a K hn => ?_
 obtain ⟨⟨m, w⟩, ⟨n, x⟩, _⟩ := a
 refine bH hT (aJ LC aY) hm I3 rfl (of_decide_eq_true (by kernel_rfl)) rfl 60 (ND (x := x) (w := w) (n := n) (m := m)) (fun _ => ?_) K []
 simp only [af.all, ay, Hl]
 exact ⟨⟨fun _ _ => rfl, jc (Nat.le_refl _), hn⟩, .refl _⟩
theorem JA : ∀ K args pre r, Et K args pre = some r → aC P x8 K args pre r := by
 refine en fun a K hn => ?_
 obtain ⟨⟨m, w⟩, ⟨⟨n, x⟩, ⟨k, v⟩⟩, _⟩ := a
 refine bH hT (aJ SS aY) hm I3 rfl (of_decide_eq_true (by kernel_rfl)) rfl 60 (V5 (x := x) (w := w) (v := v) (n := n) (m := m) (k := k)) (fun _ => ?_) K []
 simp only [af.all, ay, mY, lM]
 exact ⟨⟨fun _ _ => rfl, jc (Nat.le_refl _), fun _ _ => rfl, hn.1, hn.2.1, hn.2.2.1, hn.2.2.2.1, hn.2.2.2.2⟩, cZ (Hl (p := gp x w (v 0)))⟩
theorem Zi : ∀ K args pre r, As K args pre = some r → aC P x8 K args pre r := by
 intro K args pre r h
 unfold As at h
 split at h
 ·rename_i r' h1
  simp only [Option.some.injEq] at h
  subst h
  exact UN K args pre r' h1
 ·exact JA K args pre r h
theorem Y4 : br P Es := eV (aJ Zi aY)
theorem D0 : ∀ K args pre r, pT K args pre = some r → aC P vc K args pre r := by
 refine en fun a K hn => ?_
 obtain ⟨⟨n, x⟩, ⟨m, w⟩, _⟩ := a
 obtain ⟨n1, n2, n3⟩ := hn
 have n1 : m < 2 ^ 40 := n1
 have n2 : n < 2 ^ 40 := n2
 have n3 : ek x n := n3
 refine bH hT Y4 hm Tr rfl (of_decide_eq_true (by kernel_rfl)) rfl 60 (MK (x := x) (w := w) (n := n) (m := m)) (fun _ => ?_) K []
 show af.all (fun _ us => ef us (.int .i64 (b6 x n w m))) _
 simp only [af.all, ay, mY, lM, beq_iff_eq, beq_eq_false_iff_ne, cond_false]
 refine ⟨fun h => ⟨⟨by omega, h⟩, fun _ => bm ?_, fun h => by simp at h⟩, fun h => ⟨⟨by omega, h, by omega, fun _ _ => rfl, jc (Nat.le_refl _), n1⟩, fun hb => bm ?_, fun hb => ⟨⟨by omega, fun _ _ => rfl, jc (Nat.le_refl _), fun _ _ => rfl, n1, fun i hi => ?_, by omega, ?_, n3⟩, fun ho => bm ?_, fun ho => bm ?_⟩⟩⟩
 ·unfold b6; rw [if_pos (by omega)]
 ·unfold b6; rw [if_neg (by omega), if_pos hb]
 ·have h : ¬ (w i < 0 ∨ (n : Int) ≤ w i) := of_decide_eq_false (yK hb hi)
  show 0 ≤ w i ∧ w i < (n : Int)
  omega
 ·have h : ¬ (w 0 < 0 ∨ (n : Int) ≤ w 0) := of_decide_eq_false (yK hb (i := 0) (by omega))
  show 0 ≤ w 0 ∧ w 0 < (n : Int)
  omega
 ·unfold b6; rw [if_neg (by omega), if_neg (by rw [hb]; decide), if_pos ho]
 ·unfold b6; rw [if_neg (by omega), if_neg (by rw [hb]; decide), if_neg (by rw [ho]; decide)]
end Go.Am.B

/- trace.Hull. -/
namespace Go.Am.B
open Go Go.Am.N AV af ak IntKind
theorem I8 : aO P pH n8 (ax n8) := aP Qp (by kernel_rfl) (by kernel_rfl) (by kernel_rfl)
def fN (s t : Sp) : Sp := ⟨cR s.lo t.lo, cW s.hi t.hi⟩
def fM (x : Nat → Ce) (w : Nat → Int) : Nat → Nat → Sp
 | 0, j => (x (w 0).toNat).sp j
 | k + 1, j => fN (fM x w k j) ((x (w (k + 1)).toNat).sp j)
def Ce.Zb (c : Ce) : Prop := ∀ i, i < c.na + c.nb → (c.sp i).lo ≤ (c.sp i).hi
def nv (x : Nat → Ce) (n : Nat) : Prop := ∀ i, i < n → (x i).Zb
def fK (x : Nat → Ce) (n : Nat) (w : Nat → Int) (m : Nat) : Ce :=
 if b6 x n w m = 0 then ⟨(x (w 0).toNat).na, fM x w (m - 1), (x (w 0).toNat).nb, fun j => fM x w (m - 1) (j + (x (w 0).toNat).na), 1, 0⟩ else ⟨0, fun _ => ⟨0, 0⟩, 0, fun _ => ⟨0, 0⟩, 0, 0⟩
noncomputable def j6 : aW := nG :: (vc, pT) :: (pV, oC 64) :: (Bm, mm T xK [] 60 yd) :: (BL, mm T xK [] 60 y5) :: []
noncomputable abbrev wM : Code := ax n8
noncomputable abbrev m0 : Code := part wM [1,1,1,0,1,0,0]
noncomputable abbrev yy : Code := part m0 [1,1,0,0]
noncomputable abbrev pW : Code := part yy [1,1,0,0]
noncomputable abbrev zh : Code := part pW [1,1,0,0]
abbrev kq : List Nat := [4, 5, 0, 1, 7, 20, 21, 22]
abbrev qC (x : Nat → Ce) (n : Nat) (w : Nat → Int) (m l k : Nat) : List AV := [.ptr 0 0 4 0 [], .int .i64 0, cq x n 64, cA w m, .own 1 6 0 l, cA w m, .int .i64 m, .int .i64 k]
abbrev y3 : aD := ⟨false, true, 4, 1, fun _ => .agg [.nil, .nil, .int .i64 0, .int .i64 0]⟩
abbrev iX (l : Nat) (g : Nat → Sp) : aB := [(1, ⟨true, true, 6, l, fun j => sA (g j) 64⟩), (0, y3)]
abbrev j0 : List Nat := [4, 5, 0, 1, 7, 20, 21, 22, 8, 31, 32, 33]
abbrev rM (x : Nat → Ce) (n : Nat) (w : Nat → Int) (m l k N : Nat) (f : Nat → Sp) (j : Nat) : List AV := [.ptr 0 0 4 0 [], .int .i64 0, cq x n 64, cA w m, .own 1 6 0 l, cA w m, .int .i64 m, .int .i64 k, .int .i64 k, de f N 64, .int .i64 N, .int .i64 j]
abbrev BZ : List Nat := [4, 5, 0, 1, 7, 20, 21, 22, 8, 31, 32, 33, 10, 11]
abbrev AE (x : Nat → Ce) (n : Nat) (w : Nat → Int) (m l k N : Nat) (f : Nat → Sp) (j : Nat) : List AV := [.ptr 0 0 4 0 [], .int .i64 0, cq x n 64, cA w m, .own 1 6 0 l, cA w m, .int .i64 m, .int .i64 k, .int .i64 k, de f N 64, .int .i64 N, .int .i64 j, .int .i64 j, .ptr 2 0 6 0 []]
abbrev CF (l : Nat) (g : Nat → Sp) (s : Sp) : aB := [(2, ⟨false, true, 6, 1, fun _ => sA s 64⟩), (1, ⟨true, true, 6, l, fun j => sA (g j) 64⟩), (0, y3)]
abbrev C6 : aD := ⟨false, true, 4, 1, fun j => if (j == (0 : Nat)) = true then cJ (.agg [.nil, .nil, .int .i64 0, .int .i64 0]) else .agg [.nil, .nil, .int .i64 0, .int .i64 0]⟩
theorem KA {x : Nat → Ce} {w : Nat → Int} {n m : Nat} : aF T j6 [17] 60 kq (before wM [1,1,1,0,1]) ⟨aN 0 [cq x n 64, cA w m], [], 0⟩ =
  let c6 : AV := int i64 (0 : Int); let c5 : AV := ptr 0 0 4 0 []; let c4 : AV := ah 1 m fun i ↦ int i64 (w i); let c3 : Int := b6 (fun i ↦ cL (bk (x i) 64)) n (fun i ↦ cu (int i64 (w i))) m; let c1 : AV := ah 4 n fun i ↦ agg [ah 6 (x i).na fun i_1 ↦ agg [rat ((x i).a i_1).lo 64, rat ((x i).a i_1).hi 64], ah 6 (x i).nb fun i_1 ↦ agg [rat ((x i).b i_1).lo 64, rat ((x i).b i_1).hi 64], int i64 (x i).k, int i64 (x i).j]; let c2 : AV := agg [nil, nil, c6, c6]; some (ag [fZ (fun i ↦ bk (x i) 64) n 64, eA (fun i ↦ int i64 (w i)) m, m < 2 ^ 40, n < 2 ^ 40, ek (fun i ↦ cL (bk (x i) 64)) n] (fork (c3 != (0 : Int)) (ag [(0 : Nat) < 1] (leaf ret ([c5, int i64 c3, c1, c4, tuple [], tuple [], tuple [], tuple []], [((0 : Nat), aD.mk false true 4 1 fun j ↦ if (j == 0) = true then cJ (agg c2.kids) else c2)]))) (leaf normal ([c5, c6, c1, c4, nil, c4, int i64 (↑m : Int), c6], [((0 : Nat), aD.mk false true 4 1 fun x ↦ c2)])))) := by kernel_rfl
theorem RU {e : Int} : iA T n8 .ret ⟨az [4, 5] [.ptr 0 0 4 0 [], .int .i64 e], [(0, C6)], 4⟩ =
  some (ag [(0 : Nat) < 1] (leaf ret [agg [nil, nil, int i64 (0 : Int), int i64 (0 : Int)], int i64 e])) := by kernel_rfl
theorem XV {x : Nat → Ce} {w : Nat → Int} {n m l k : Nat} {g : Nat → Sp} : aF T j6 [23] 60 kq (before m0 [1,1,0]) ⟨az kq (qC x n w m l k), iX l g, 2⟩ =
  let c3 : AV := int i64 (0 : Int); let c2 : AV := ah 1 m fun i ↦ int i64 (w i); let c1 : List AV × aB := ([ptr 0 0 4 0 [], c3, ah 4 n fun i ↦ agg [ah 6 (x i).na fun i_1 ↦ agg [rat ((x i).a i_1).lo 64, rat ((x i).a i_1).hi 64], ah 6 (x i).nb fun i_1 ↦ agg [rat ((x i).b i_1).lo 64, rat ((x i).b i_1).hi 64], int i64 (x i).k, int i64 (x i).j], c2, own 1 6 0 l, c2, int i64 (↑m : Int), int i64 (↑k : Int)], [((1 : Nat), aD.mk true true 6 l fun j ↦ agg [rat (g j).lo 64, rat (g j).hi 64]), ((0 : Nat), aD.mk false true 4 1 fun x ↦ agg [nil, nil, c3, c3])]); some (fork (decide ((↑k : Int) < (↑m : Int))) (leaf normal c1) (leaf (exit 0) c1)) := by kernel_rfl
theorem ZB {x : Nat → Ce} {w : Nat → Int} {n m l k : Nat} {g : Nat → Sp} : aF T j6 [] 60 j0 (before yy [1,1]) ⟨az kq (qC x n w m l k), iX l g, 2⟩ =
  let c5 : AV := ah 1 m fun i ↦ int i64 (w i); let c4 : Int := (↑k : Int); let c3 : AV := int i64 (0 : Int); let c1 : Ce := x (w c4.toNat).toNat; let c2 : Ce := Ce.mk c1.na (fun i ↦ bR (sA (c1.a i) 64)) c1.nb (fun i ↦ bR (sA (c1.b i) 64)) c1.k c1.j; some (ag [(0 : Int) ≤ c4 ∧ c4.toNat < m] (ag [(0 : Int) ≤ w c4.toNat ∧ (w c4.toNat).toNat < n, bK (fun i ↦ sA (c1.a i) 64) c1.na 64, bK (fun i ↦ sA (c1.b i) 64) c1.nb 64, c1.na + c1.nb < 2 ^ 30] (leaf normal ([ptr 0 0 4 0 [], c3, ah 4 n fun i ↦ agg [ah 6 (x i).na fun i_1 ↦ agg [rat ((x i).a i_1).lo 64, rat ((x i).a i_1).hi 64], ah 6 (x i).nb fun i_1 ↦ agg [rat ((x i).b i_1).lo 64, rat ((x i).b i_1).hi 64], int i64 (x i).k, int i64 (x i).j], c5, own 1 6 0 l, c5, int i64 (↑m : Int), int i64 c4, int i64 c4, ah 6 (c1.na + c1.nb) fun i ↦ agg [rat (c2.sp i).lo 64, rat (c2.sp i).hi 64], int i64 (↑(c1.na + c1.nb) : Int), c3], [((1 : Nat), aD.mk true true 6 l fun j ↦ agg [rat (g j).lo 64, rat (g j).hi 64]), ((0 : Nat), aD.mk false true 4 1 fun x ↦ agg [nil, nil, c3, c3])])))) := by kernel_rfl
theorem Kg {x : Nat → Ce} {w : Nat → Int} {n m l k N j : Nat} {f g : Nat → Sp} : aF T j6 [34] 60 j0 (before pW [1,1,0]) ⟨az j0 (rM x n w m l k N f j), iX l g, 2⟩ =
  let c3 : AV := int i64 (0 : Int); let c2 : AV := ah 1 m fun i ↦ int i64 (w i); let c1 : List AV × aB := ([ptr 0 0 4 0 [], c3, ah 4 n fun i ↦ agg [ah 6 (x i).na fun i_1 ↦ agg [rat ((x i).a i_1).lo 64, rat ((x i).a i_1).hi 64], ah 6 (x i).nb fun i_1 ↦ agg [rat ((x i).b i_1).lo 64, rat ((x i).b i_1).hi 64], int i64 (x i).k, int i64 (x i).j], c2, own 1 6 0 l, c2, int i64 (↑m : Int), int i64 (↑k : Int), int i64 (↑k : Int), ah 6 N fun i ↦ agg [rat (f i).lo 64, rat (f i).hi 64], int i64 (↑N : Int), int i64 (↑j : Int)], [((1 : Nat), aD.mk true true 6 l fun j ↦ agg [rat (g j).lo 64, rat (g j).hi 64]), ((0 : Nat), aD.mk false true 4 1 fun x ↦ agg [nil, nil, c3, c3])]); some (fork (decide ((↑j : Int) < (↑N : Int))) (leaf normal c1) (leaf (exit 2) c1)) := by kernel_rfl
theorem Va {x : Nat → Ce} {w : Nat → Int} {n m l k N j : Nat} {f g : Nat → Sp} : aF T j6 [39] 60 BZ (before zh [1,1]) ⟨az j0 (rM x n w m l k N f j), iX l g, 2⟩ =
  let c12 : Int := (↑j : Int); let c11 : Nat := Max.max 64 64; let c10 : AV := int i64 (0 : Int); let c9 : AV := ptr 0 0 4 0 []; let c8 : AV := rat 0 1; let c6 : AV := ah 1 m fun i ↦ int i64 (w i); let c4 : Prop := 0 < 1; let c1 : AV := ah 4 n fun i ↦ agg [ah 6 (x i).na fun i_1 ↦ agg [rat ((x i).a i_1).lo 64, rat ((x i).a i_1).hi 64], ah 6 (x i).nb fun i_1 ↦ agg [rat ((x i).b i_1).lo 64, rat ((x i).b i_1).hi 64], int i64 (x i).k, int i64 (x i).j]; let c7 : Nat := c12.toNat; let c5 : Nat × aD := ((0 : Nat), aD.mk false true 4 1 fun x ↦ agg [nil, nil, c10, c10]); let c2 : List AV := [c6, int i64 (↑m : Int), int i64 (↑k : Int), int i64 (↑k : Int), ah 6 N fun i ↦ agg [rat (f i).lo 64, rat (f i).hi 64], int i64 (↑N : Int), int i64 c12, int i64 c12, ptr 12290 0 6 0 []]; let c3 : Nat × aD := ((12290 : Nat), aD.mk false true 6 1 fun j ↦ if (j == 0) = true then cJ (sA (f c7) 64) else agg [c8, c8]); some (ag [(0 : Int) ≤ c12 ∧ c7 < N, c4] (fork ((↑k : Int) == (0 : Int)) (ag [c4, c4, c4, c4, c4, c4, c4, c4, (1 : Nat) * 6 ≤ 2 ^ 24, (l + 1) * ((112 : Nat) + 1) * 2 ≤ 2 ^ 47] (leaf normal (c9 :: c10 :: c1 :: c6 :: own 61442 6 0 (l + 1) :: c2, [c3, ((61442 : Nat), aD.mk true true 6 (l + 1) fun i ↦ if i < l then sA (g i) 64 else nth [agg [rat (cR (f c7).lo (f c7).hi) c11, rat (cW (f c7).lo (f c7).hi) c11]] (agg [c8, c8]) (i - l + 0)), c5]))) (leaf normal (c9 :: c10 :: c1 :: c6 :: own 1 6 0 l :: c2, [c3, ((1 : Nat), aD.mk true true 6 l fun j ↦ agg [rat (g j).lo 64, rat (g j).hi 64]), c5])))) := by kernel_rfl
theorem Qr {x : Nat → Ce} {w : Nat → Int} {n m l k N j : Nat} {f g : Nat → Sp} {s : Sp} : aF T j6 [] 60 j0 [part zh [1,1], part pW [1,1,1]] ⟨az BZ (AE x n w m l k N f j), CF l g s, 3⟩ =
  let c6 : Nat := Max.max 64 64; let c5 : AV := int i64 (0 : Int); let c4 : AV := ah 1 m fun i ↦ int i64 (w i); let c3 : Int := (↑j : Int); let c2 : Prop := 0 < 1; let c8 : Int := c3 + (1 : Int); let c7 : Prop := (0 : Int) ≤ c3 ∧ c3.toNat < l; let c1 : Nat := c3.toNat + 0; some (ag [c7, c1 < l, c2, c2, c2, c2, c2, c2, c2, c7, c1 < l] (ag [-(2 : Int) ^ 63 ≤ c8 ∧ c8 < (2 : Int) ^ 63] (leaf normal ([ptr 0 0 4 0 [], c5, ah 4 n fun i ↦ agg [ah 6 (x i).na fun i_1 ↦ agg [rat ((x i).a i_1).lo 64, rat ((x i).a i_1).hi 64], ah 6 (x i).nb fun i_1 ↦ agg [rat ((x i).b i_1).lo 64, rat ((x i).b i_1).hi 64], int i64 (x i).k, int i64 (x i).j], c4, own 1 6 0 l, c4, int i64 (↑m : Int), int i64 (↑k : Int), int i64 (↑k : Int), ah 6 N fun i ↦ agg [rat (f i).lo 64, rat (f i).hi 64], int i64 (↑N : Int), int i64 c8], [((1 : Nat), aD.mk true true 6 l fun j ↦ agg [rat (bif j == c1 then cR (g c1).lo s.lo else (g j).lo) (bif j == c1 then c6 else 64), rat (bif j == c1 then cW (g c1).hi s.hi else (g j).hi) (bif j == c1 then c6 else 64)]), ((0 : Nat), aD.mk false true 4 1 fun x ↦ agg [nil, nil, c5, c5])])))) := by kernel_rfl
theorem Xa {x : Nat → Ce} {w : Nat → Int} {n m l k N j : Nat} {f g : Nat → Sp} : aF T j6 [] 60 kq [part m0 [1,1,1]] ⟨az j0 (rM x n w m l k N f j), iX l g, 2⟩ =
  let c3 : AV := int i64 (0 : Int); let c2 : AV := ah 1 m fun i ↦ int i64 (w i); let c1 : Int := (↑k : Int) + (1 : Int); some (ag [-(2 : Int) ^ 63 ≤ c1 ∧ c1 < (2 : Int) ^ 63] (leaf normal ([ptr 0 0 4 0 [], c3, ah 4 n fun i ↦ agg [ah 6 (x i).na fun i_1 ↦ agg [rat ((x i).a i_1).lo 64, rat ((x i).a i_1).hi 64], ah 6 (x i).nb fun i_1 ↦ agg [rat ((x i).b i_1).lo 64, rat ((x i).b i_1).hi 64], int i64 (x i).k, int i64 (x i).j], c2, own 1 6 0 l, c2, int i64 (↑m : Int), int i64 c1], [((1 : Nat), aD.mk true true 6 l fun j ↦ agg [rat (g j).lo 64, rat (g j).hi 64]), ((0 : Nat), aD.mk false true 4 1 fun x ↦ agg [nil, nil, c3, c3])]))) := by kernel_rfl
theorem Oo {x : Nat → Ce} {w : Nat → Int} {n m l k : Nat} {g : Nat → Sp} : b9 T j6 [] 60 n8 [part wM [1,1,1,1]] ⟨az kq (qC x n w m l k), iX l g, 2⟩ =
  let c3 : Int := (↑l : Int); let c2 : Nat := Int.toNat (0 : Int); let c1 : Int := (↑(x (w c2).toNat).na : Int); some (ag [(0 : Int) ≤ (0 : Int) ∧ c2 < m, (0 : Int) ≤ w c2 ∧ (w c2).toNat < n] (ag [(0 : Int) ≤ (0 : Int) ∧ (0 : Int) ≤ c1 ∧ c1 ≤ c1 ∧ c1 ≤ c3, (0 : Int) ≤ c1 ∧ c1 ≤ c3 ∧ c3 ≤ c3 ∧ c3 ≤ c3, (0 : Nat) < 1] (ag [(0 : Nat) < 1] (leaf ret [agg [ah 6 (c1.toNat - c2) fun i ↦ agg [rat (g (i + ((0 : Nat) + c2))).lo 64, rat (g (i + ((0 : Nat) + c2))).hi 64], ah 6 (c3.toNat - c1.toNat) fun i ↦ agg [rat (g (i + ((0 : Nat) + c1.toNat))).lo 64, rat (g (i + ((0 : Nat) + c1.toNat))).hi 64], int i64 (1 : Int), int i64 (0 : Int)], int i64 (0 : Int)])))) := by kernel_rfl
theorem mD : br P j6 := eV (aJ D0 (aJ (B6 64) (aJ (mU hT z8 hm SX _ _) (aJ (mU hT z8 hm NC _ _) aY))))
theorem jE {x : Nat → Ce} {n m : Nat} {w : Nat → Int} (h : b6 x n w m = 0) : 0 < m ∧ (∀ i, i < m → 0 ≤ w i ∧ w i < (n : Int)) ∧ ∀ i, i < m → (x (w i).toNat).na = (x (w 0).toNat).na ∧ (x (w i).toNat).nb = (x (w 0).toNat).nb := by
 unfold b6 at h
 split at h
 ·omega
 ·split at h
  ·omega
  ·rename_i h1 h2
   split at h
   ·omega
   ·rename_i h3
    refine ⟨by omega, fun i hi => ?_, fun i hi => ?_⟩
    ·have h : ¬ (w i < 0 ∨ (n : Int) ≤ w i) := of_decide_eq_false (yK (by simpa using h2) hi)
     omega
    ·have := yK (p := gp x w (w 0)) (by simpa using h3) hi
     unfold gp at this
     rw [Bool.not_eq_false'] at this
     exact of_decide_eq_true this
theorem SQ {a b : Rat} (h : a ≤ b) : cR a b = a := by unfold cR; grind
theorem Ke {a b : Rat} (h : a ≤ b) : cW a b = b := by unfold cW; grind
theorem Jj {a : Rat} : cR a a = a := by unfold cR; split <;> rfl
theorem GK {a : Rat} : cW a a = a := by unfold cW; split <;> rfl
def fk (x : Nat → Ce) (w : Nat → Int) (k j b : Nat) : Sp := if b < j then fM x w k b else fM x w (k - 1) b
theorem SG {x : Nat → Ce} {w : Nat → Int} {k j : Nat} : fN (fk x w k j j) ((x (w k).toNat).sp j) = fk x w k (j + 1) j := by
 unfold fk
 rw [if_neg (Nat.lt_irrefl _), if_pos (by omega)]
 cases k with
 | zero =>
  show fN ((x (w 0).toNat).sp j) ((x (w 0).toNat).sp j) = (x (w 0).toNat).sp j
  unfold fN
  rw [Jj, GK]
 | succ k => rfl
theorem Ni {x : Nat → Ce} {w : Nat → Int} {k j b : Nat} (h : b ≠ j) : fk x w k j b = fk x w k (j + 1) b := by
 unfold fk
 by_cases hb : b < j
 ·rw [if_pos hb, if_pos (by omega)]
 ·rw [if_neg hb, if_neg (by omega)]
theorem Vh {x : Nat → Ce} {w : Nat → Int} {j b : Nat} : fk x w 0 j b = (x (w 0).toNat).sp b := by
 unfold fk; split <;> rfl
theorem N8 {x : Nat → Ce} {n m : Nat} {w : Nat → Int} (n1 : m < 2 ^ 40) (n2 : n < 2 ^ 40) (n3 : ek x n) (n4 : nv x n) (K : Nat) :
  aC P pH K [cq x n 64, cA w m] [] (aK (.tuple [bk (fK x n w m) 64, .int .i64 (b6 x n w m)]) []) := by
 refine eW (r := aK (.tuple [bk (fK x n w m) 64, .int .i64 (b6 x n w m)]) []) hT I8 rfl (of_decide_eq_true (by kernel_rfl)) rfl (fun _ cx h0 => ?_) K []
 have hk := kF h0
 obtain ⟨N, hN⟩ : ∃ N, N = (x (w 0).toNat).na + (x (w 0).toNat).nb := ⟨_, rfl⟩
 have hmp : ∀ {l : Nat} {g : Nat → Sp}, fI 2 [(0, 0), (1, 1)] [(1, ⟨true, true, 6, l, fun j => sA (g j) 64⟩), (0, y3)] (iX l g) := aT rfl rfl rfl (fun _ _ => aM rfl rfl) (cr rfl rfl (aM rfl rfl) trivial)
 refine aq.yo hT mD hm [1,1,1,0,1] (i := 0) (y := m0) (z := part wM [1,1,1,1]) (by kernel_rfl) (by kernel_rfl) (by kernel_rfl) I8.dst hk (f1 := [17]) 60 kq 2 (fun k : Nat => qC x n w m (if k = 0 then 0 else N) k) (fun k => iX (if k = 0 then 0 else N) (fM x w (k - 1)))
  (fun k => k ≤ m ∧ b6 x n w m = 0) (fun k => k = m ∧ b6 x n w m = 0) (fun k => m - k) (xp T n8 [4, 5] (.tuple [bk (fK x n w m) 64, .int .i64 (b6 x n w m)])) ⟨_, KA, ?_⟩ (fun k ⟨k1, k2⟩ => ?_) (fun k ⟨k1, k2⟩ => ?_) (fun v s' hv hs' => hv.fin (L1 := [0, 1, 7, 20, 21, 22]) hk hs')
 ·simp only [af.all, ay, mY, lM, bne_iff_ne, ne_eq, bne_eq_false_iff_eq]
  refine ⟨⟨jc (Nat.le_refl _), fun _ _ => rfl, n1, n2, n3⟩, fun h => ⟨by omega, [.ptr 0 0 4 0 [], .int .i64 (b6 x n w m)], _, 4, _, rfl, rfl, rfl, RU, rfl, ⟨⟨by omega, fun _ _ => vX rfl rfl⟩, trivial⟩, ⟨Nat.zero_lt_one, ?_⟩⟩,
   fun h => ⟨0, ⟨Nat.zero_le _, h⟩, [(0, 0)], rfl, rfl, rfl, jl rfl (by omega) (by omega) (cr rfl rfl (aM rfl rfl) trivial)⟩⟩
  unfold fK
  rw [if_neg h]
  exact ⟨eI ⟨fS (by omega), fS (by omega), .refl _, .refl _, trivial⟩, .refl _, trivial⟩
 ·obtain ⟨c1, c2, c3⟩ := jE k2
  refine aq.vI hT mD hm (y := m0) (x1 := yy) (zb := part m0 [1,1,1]) [1,1,0] (j := 1) (by kernel_rfl) (by kernel_rfl) (by kernel_rfl) (by kernel_rfl) hk (f1 := [23]) 60 kq 2 (fun _ : Unit => qC x n w m (if k = 0 then 0 else N) k) (fun _ => iX (if k = 0 then 0 else N) (fM x w (k - 1))) (fun _ => k < m) ⟨_, XV, ?_⟩ (fun _ hlt => ?_)
  ·simp only [af.all, ay, decide_eq_true_eq, decide_eq_false_iff_not]
   exact ⟨fun h => ⟨(), by omega, [(0, 0), (1, 1)], rfl, rfl, rfl, hmp⟩, fun h s' hs' => ⟨rfl, k, ⟨by omega, k2⟩, cQ.le ⟨[(0, 0), (1, 1)], rfl, rfl, rfl, hmp⟩ hs' hk⟩⟩
  have hwk := c2 k hlt
  have hfew := n3 (w k).toNat (by omega)
  have hok := n4 (w k).toNat (by omega)
  have hck := c3 k hlt
  obtain ⟨M, hM⟩ : ∃ M, M = (x (w k).toNat).na + (x (w k).toNat).nb := ⟨_, rfl⟩
  have hMN : M = N := by omega
  refine aq.Yk hT mD hm (x := yy) [1,1] (i := 2) (y := pW) (by kernel_rfl) (by kernel_rfl) (by kernel_rfl) hk (f1 := []) 60 j0 2 (fun j : Nat => rM x n w m (if k = 0 then j else N) k M (x (w k).toNat).sp j)
   (fun j => iX (if k = 0 then j else N) (fk x w k j)) (fun j => j ≤ M) (fun j => j = M) (fun j => M - j) (fun _ => False) ⟨_, ZB, ?_⟩ (fun j hj => ?_) (fun j s' hj hle => ?_) (fun _ _ h => h.elim)
  ·simp only [af.all, ay, Int.toNat_natCast]
   refine ⟨⟨by omega, by omega⟩, ⟨⟨by omega, by omega⟩, bD (Nat.le_refl _), bD (Nat.le_refl _), hfew⟩, 0, Nat.zero_le _, [(0, 0), (1, 1)], rfl, by rw [hM]; rfl, rfl, aT rfl rfl rfl (fun b _ => aM rfl ?_) (cr rfl rfl (aM rfl rfl) trivial)⟩
   show _ = sA (fk x w k 0 b) 64
   unfold fk
   rw [if_neg (Nat.not_lt_zero _)]
  ·refine aq.vI hT mD hm (y := pW) (x1 := zh) (zb := part pW [1,1,1]) [1,1,0] (j := 3) (by kernel_rfl) (by kernel_rfl) (by kernel_rfl) (by kernel_rfl) hk (f1 := [34]) 60 j0 2 (fun _ : Unit => rM x n w m (if k = 0 then j else N) k M (x (w k).toNat).sp j) (fun _ => iX (if k = 0 then j else N) (fk x w k j)) (fun _ => j < M) ⟨_, Kg, ?_⟩ (fun _ hjl => ?_)
   ·simp only [af.all, ay, decide_eq_true_eq, decide_eq_false_iff_not]
    exact ⟨fun h => ⟨(), by omega, [(0, 0), (1, 1)], rfl, rfl, rfl, hmp⟩, fun h s' hs' => ⟨rfl, j, by omega, cQ.le ⟨[(0, 0), (1, 1)], rfl, rfl, rfl, hmp⟩ hs' hk⟩⟩
   have hvj := hok j (by omega)
   refine aq.oY hT mD hm (x := zh) [1,1] (by kernel_rfl) (by kernel_rfl) (by kernel_rfl) hk (f1 := [39]) 60 BZ 3 (fun _ : Unit => AE x n w m (if k = 0 then j + 1 else N) k M (x (w k).toNat).sp j) (fun _ => CF (if k = 0 then j + 1 else N) (fk x w k j) ((x (w k).toNat).sp j)) (fun _ => True) ⟨_, Va, ?_⟩ (fun _ _ => ?_)
   ·simp only [af.all, ay, Int.toNat_natCast, beq_iff_eq, beq_eq_false_iff_ne]
    refine ⟨⟨⟨by omega, by omega⟩, by omega⟩, fun h => ?_, fun h => ?_⟩
    ·have hk0 : k = 0 := by omega
     subst hk0
     refine ⟨⟨by omega, by omega, by omega, by omega, by omega, by omega, by omega, by omega, by omega, ?_⟩, (), trivial, [(0, 0), (1, 61442), (2, 12290)], rfl, rfl, rfl, cr rfl rfl (aM rfl rfl) (aT rfl rfl rfl (fun b hb => ?_) (cr rfl rfl (aM rfl rfl) trivial))⟩
     ·show (j + 1) * (112 + 1) * 2 ≤ 2 ^ 47
      omega
     ·have hb : b < j + 1 := hb
      show ia _ (if b < j then sA (fk x w 0 j b) 64 else nth _ _ (b - j + 0)) (sA (fk x w 0 j b) 64)
      by_cases hbj : b < j
      ·rw [if_pos hbj]; exact aM rfl rfl
      ·have : b = j := by omega
       subst this
       rw [if_neg hbj, Nat.sub_self, Vh]
       exact .inr ⟨rfl, eI ⟨ic (SQ hvj) (by decide), ic (Ke hvj) (by decide), trivial⟩⟩
    ·have hk0 : k ≠ 0 := by omega
     refine ⟨(), trivial, [(0, 0), (1, 1), (2, 12290)], rfl, ?_, rfl, ?_⟩
     ·show _ = (AE x n w m (if k = 0 then j + 1 else N) k M (x (w k).toNat).sp j).map _
      rw [if_neg hk0, if_neg hk0]; rfl
     ·show fI _ _ _ (CF (if k = 0 then j + 1 else N) (fk x w k j) ((x (w k).toNat).sp j))
      rw [if_neg hk0, if_neg hk0]
      exact cr rfl rfl (aM rfl rfl) (aT rfl rfl rfl (fun b _ => aM rfl rfl) (cr rfl rfl (aM rfl rfl) trivial))
   ·refine aq.tail (fun s' hh => by have := hh.1; omega) (aA.aS hT mD hm 60 j0 Qr (by kernel_rfl) ?_)
    have hl : j < (if k = 0 then j + 1 else N) := by split <;> omega
    simp only [af.all, ay, Int.toNat_natCast, Nat.add_zero]
    refine ⟨⟨⟨by omega, hl⟩, hl, by omega, by omega, by omega, by omega, by omega, by omega, by omega, ⟨by omega, hl⟩, hl⟩, by omega, fun s' hs' => ⟨j + 1, by omega, by dsimp only; omega, cQ.le ⟨[(0, 0), (1, 1)], rfl, rfl, rfl, aT rfl rfl rfl (fun b _ => ?_) (cr rfl rfl (aM rfl rfl) trivial)⟩ hs' hk⟩⟩
    by_cases hbj : b = j
    ·subst hbj
     have e := SG (x := x) (w := w) (k := k) (j := b)
     refine .inr ⟨rfl, ?_⟩
     show bq _ (sA (fk x w k (b + 1) b) 64)
     rw [← e]
     simp only [beq_self_eq_true, cond_true]
     exact eI ⟨ic rfl (by decide), ic rfl (by decide), trivial⟩
    ·have e : (b == j) = false := by simpa using hbj
     simp only [e, cond_false]
     refine aM rfl ?_
     show _ = sA (fk x w k (j + 1) b) 64
     rw [← Ni hbj]
  ·have hj : j = M := hj
   subst hj
   show aq P cx _ (part m0 [1,1,1]) s' _
   have e : (if k = 0 then j else N) = N := by split <;> omega
   refine aq.jB hle (aq.aS hT mD hm 60 kq Xa (by kernel_rfl) ?_)
   simp only [af.all, ay]
   refine ⟨by omega, fun s' hs' => ⟨k + 1, ⟨by omega, k2⟩, by dsimp only; omega, cQ.le ⟨[(0, 0), (1, 1)], rfl, ?_, rfl, ?_⟩ hs' hk⟩⟩
   ·show _ = (qC x n w m (if k + 1 = 0 then 0 else N) (k + 1)).map _
    rw [e, if_neg (by omega)]; rfl
   ·show fI _ _ _ (iX (if k + 1 = 0 then 0 else N) (fM x w (k + 1 - 1)))
    rw [e, if_neg (by omega)]
    refine aT rfl rfl rfl (fun b hb => aM rfl ?_) (cr rfl rfl (aM rfl rfl) trivial)
    show sA (fk x w k j b) 64 = sA (fM x w k b) 64
    unfold fk
    rw [if_pos (by omega)]
 ·subst k1
  obtain ⟨c1, c2, c3⟩ := jE k2
  have w0 := c2 0 c1
  refine aq.js ((aA.fin hT mD hm 60 Oo (by kernel_rfl) ?_).mono fun _ _ h => .inl h)
  rw [if_neg (by omega : ¬ k = 0)]
  simp only [af.all, ay, Int.toNat_natCast, show Int.toNat 0 = 0 from rfl]
  refine ⟨⟨⟨by omega, c1⟩, by omega, by omega⟩, ⟨⟨by omega, by omega, by omega, by omega⟩, ⟨by omega, by omega, by omega, by omega⟩, by omega⟩, by omega, ?_⟩
  unfold fK
  rw [if_pos k2, k2]
  refine ⟨eI ⟨oL (by dsimp only; omega) fun i _ => lC rfl (Nat.le_refl _), oL (by dsimp only; omega) fun i _ => lC (by dsimp only; rw [Nat.zero_add]) (Nat.le_refl _), .refl _, .refl _, trivial⟩, .refl _, trivial⟩
def rC : Spec := fh (kC (jM 64) (kC iT kN)) (fun a => .tuple [bk (fK a.1.2 a.1.1 a.2.1.2 a.2.1.1) 64, .int .i64 (b6 a.1.2 a.1.1 a.2.1.2 a.2.1.1)]) fun a => [a.2.1.1 < 2 ^ 40, a.1.1 < 2 ^ 40, ek a.1.2 a.1.1, nv a.1.2 a.1.1]
theorem Fh : ∀ K args pre r, rC K args pre = some r → aC P pH K args pre r := en fun _ K hn => N8 hn.1 hn.2.1 hn.2.2.1 hn.2.2.2 K
end Go.Am.B

/- brepkernellaw22.awake. -/
namespace Go.Am.B
open Go Go.Am.N AV af ak IntKind
theorem Xe : aO P wI rT (ax rT) := aP Xp (by kernel_rfl) (by kernel_rfl) (by kernel_rfl)
theorem Tv : aO P tn rQ (ax rQ) := aP Uz (by kernel_rfl) (by kernel_rfl) (by kernel_rfl)
def Xj (lo hi : Int) : Ce := ⟨1, fun _ => ⟨lo, hi⟩, 0, fun _ => ⟨0, 0⟩, 0, 0⟩
def Hg : Spec := fh (kC kI (kC kI kN)) (fun a => bk (Xj a.1 a.2.1) 64) fun a => [-2 ^ 31 ≤ a.1 ∧ a.1 < 2 ^ 31, -2 ^ 31 ≤ a.2.1 ∧ a.2.1 < 2 ^ 31]
noncomputable def IV : aW := (wI, Hg) :: (oO, vL) :: (pH, rC) :: (oD, nT) :: []
def DW : Spec := bu fun l => match l with
 | [] => some (aK (.bool true) [])
 | _ => none
theorem ZP {a b : Int} : bF T [(oB, xV)] [] 60 rT (ax rT) ⟨aN 0 [.int .i64 a, .int .i64 b], [], 0⟩ =
  let c2 : AV := rat 0 1; let c1 : Int := (2 : Int) ^ 63; some (ag [-c1 ≤ a, a < c1, -c1 ≤ b, b < c1, (1 : Nat) * 6 ≤ 2 ^ 24, (0 : Nat) < 1] (ag [(0 : Nat) < 1] (leaf ret [agg [ah 6 1 fun i ↦ nth [agg [rat (↑a : Rat) (Max.max 1 (bf a.natAbs)), rat (↑b : Rat) (Max.max 1 (bf b.natAbs))]] (agg [c2, c2]) (i + 0), nil, int i64 (0 : Int), int i64 (0 : Int)]]))) := by kernel_rfl
theorem ZV : bF T IV [100016, 100023, 100031, 100038, 100042] 60 rQ (ax rQ) ⟨aN 0 [], [], 0⟩ =
  let c16 : Prop := 0 < 2 ^ 40; let c14 : Prop := 1 + 0 < 2 ^ 30; let c13 : AV := int i64 (0 : Int); let c12 : Nat := Int.toNat (1 : Int); let c10 : AV := sA (Sp.mk (↑(0 : Int) : Rat) (↑(1 : Int) : Rat)) 64; let c9 : AV := sA (Sp.mk (↑(1 : Int) : Rat) (↑(2 : Int) : Rat)) 64; let c8 : AV := sA (Sp.mk 0 0) 64; let c3 : Int := (2 : Int) ^ 31; let c18 : Prop := -c3 ≤ (0 : Int) ∧ (0 : Int) < c3; let c17 : Prop := -c3 ≤ (2 : Int) ∧ (2 : Int) < c3; let c15 : Prop := bK (fun i ↦ c8) 0 64; let c7 : Prop := -c3 ≤ (1 : Int) ∧ (1 : Int) < c3; let c6 : AV := agg [nil, nil, c13, c13]; let c5 : List AV := [ah 6 0 fun i ↦ c8, c13, c13]; let c1 : List AV := [agg ((ah 6 1 fun i ↦ c10) :: c5), agg ((ah 6 1 fun i ↦ sA (Sp.mk (↑(5 : Int) : Rat) (↑(6 : Int) : Rat)) 64) :: c5), agg ((ah 6 1 fun i ↦ c9) :: c5)]; let c2 : List Nat := roots (tT fun i ↦ cL (nth c1 c6 (i + 0))) 3 3; let c11 : Prop := (0 : Int) ≤ (0 : Int) ∧ Int.toNat (0 : Int) < c2.length; let c4 : List Nat := dH (tT fun i ↦ cL (nth c1 c6 (i + 0))) 3 3 (c2.getD (Int.toNat (0 : Int)) 0); some (ag [c18, c7, -c3 ≤ (5 : Int) ∧ (5 : Int) < c3, -c3 ≤ (6 : Int) ∧ (6 : Int) < c3, c7, c17, (3 : Nat) * 4 ≤ 2 ^ 24, fZ (fun i ↦ nth c1 c6 (i + 0)) 3 64, (3 : Nat) ≤ 12, ∀ (i : Nat), i < 3 → (cL (nth c1 c6 (i + 0))).na + (cL (nth c1 c6 (i + 0))).nb < 2 ^ 30] (ag [fZ (fun x ↦ nil) 0 64, eA (fun x ↦ nil) 0, c16, c16, ek (fun i ↦ cL nil) 0, nv (fun i ↦ cL nil) 0, (0 : Nat) < 1] (ag [((↑c2.length : Int) == (2 : Int)) = true, c11, (bif true then (↑c4.length : Int) == (2 : Int) else false) = true, c11, (0 : Int) ≤ (1 : Int) ∧ c12 < c4.length, (bif true then (↑(c4.getD c12 0) : Int) == (2 : Int) else false) = true, (0 : Int) ≤ (1 : Int) ∧ c12 < c2.length, (bif true then (↑(dH (tT fun i ↦ cL (nth c1 c6 (i + 0))) 3 3 (c2.getD c12 0)).length : Int) == (1 : Int) else false) = true, (bif true then b6 (fun i ↦ cL nil) 0 (fun i ↦ cu nil) 0 == (7 : Int) else false) = true, c18, c7, c7, c17, bK (fun i ↦ c10) 1 64, c15, bK (fun i ↦ c9) 1 64, c15, c14, c14] (leaf ret [AV.bool true])))) := by kernel_rfl
theorem UY : ∀ K args pre r, Hg K args pre = some r → aC P wI K args pre r := by
 refine en fun a K hn => ?_
 obtain ⟨a, b, _⟩ := a
 obtain ⟨h1, h2⟩ := hn
 have h1 : -2 ^ 31 ≤ a ∧ a < 2 ^ 31 := h1
 have h2 : -2 ^ 31 ≤ b ∧ b < 2 ^ 31 := h2
 refine bH hT (aJ zU aY) hm Xe rfl (of_decide_eq_true (by kernel_rfl)) rfl 60 (ZP (a := a) (b := b)) (fun _ => ?_) K []
 simp only [af.all, ay]
 refine ⟨⟨by omega, by omega, by omega, by omega, by omega, by omega⟩, by omega, eI ⟨gj fun i hi => ?_, fS (by omega), .refl _, .refl _, trivial⟩⟩
 have : i = 0 := by omega
 subst this
 have b1 : bf a.natAbs ≤ 32 := fX.2 (by omega)
 have b2 : bf b.natAbs ≤ 32 := fX.2 (by omega)
 exact eI ⟨ic rfl (by omega), ic rfl (by omega), trivial⟩
theorem QZ : br P IV := aJ UY (aJ Ev (aJ Fh (aJ Ay aY)))
theorem XE (K : Nat) : aC P tn K [] [] (aK (.bool true) []) := by
 refine bH (r := aK (.bool true) []) hT QZ hm Tv rfl (of_decide_eq_true (by kernel_rfl)) rfl 60 ZV (fun _ => ?_) K []
 simp only [af.all, ay]
 (repeat' with_reducible refine And.intro ?_ ?_)
 all_goals first | omega | kernel_rfl | exact bD (Nat.le_refl _) | skip
 ·intro i hi
  match i, hi with
  | 0, _ => exact .refl _
  | 1, _ => exact .refl _
  | 2, _ => exact .refl _
 ·intro i hi
  match i, hi with
  | 0, _ => exact of_decide_eq_true (by kernel_rfl)
  | 1, _ => exact of_decide_eq_true (by kernel_rfl)
  | 2, _ => exact of_decide_eq_true (by kernel_rfl)
 all_goals first | exact fun i hi => absurd hi (Nat.not_lt_zero _) | exact of_decide_eq_true (by kernel_rfl) | exact bq.refl _
theorem Me : ∀ K args pre r, DW K args pre = some r → aC P tn K args pre r := by
 refine bQ fun K args r hk hs _ => ?_
 split at hs
 ·simp only [Option.some.injEq] at hs
  subst hs
  exact XE K
 ·simp at hs
end Go.Am.B

/- ref03.Has, Inside. -/
namespace Go.Am.B
open Go Go.Am.N AV af ak IntKind
def El (s : Nat) : Kind Sp := ⟨fun v => match v with
 | .agg [x, y] => match (yC s).read x, (yC s).read y with
  | some (a, p), some (b, q) => some (⟨a, b⟩, p ++ q)
  | _, _ => none
 | _ => none, fun a => sA a s, fun {v a q} h hq => by
  split at h
  ·split at h
   ·rename_i h1 h2
    simp only [Option.some.injEq, Prod.mk.injEq] at h
    obtain ⟨rfl, rfl⟩ := h
    obtain ⟨g1, g2⟩ := ep.1 hq
    exact eI ⟨(yC s).ok h1 g1, (yC s).ok h2 g2, trivial⟩
   ·simp at h
  ·simp at h⟩
theorem KD {q r : Rat} : decide (cB q r ≤ (0 : Int)) = decide (q ≤ r) := by
 have := xj (q := q) (r := r)
 rw [Bool.eq_iff_iff] at this ⊢
 simp only [decide_eq_true_eq] at this ⊢
 constructor
 ·intro h
  have : ¬ r < q := fun h' => by have := this.2 h'; omega
  grind
 ·intro h
  have : ¬ cB q r > 0 := fun h' => by have := this.1 h'; grind
  omega
end Go.Am.B
