/- slices.Sort of at most twelve numbers. -/
import Derived.Test.YtjhhblmbiaghfaaB5
import Derived.Test.YtjhhblmbiaghfaaZ2
import Derived.Test.YtjhhblmbiaghfaaC11
import Derived.Test.YtjhhblmbiaghfaaY45
set_option linter.unusedVariables false
namespace Go.Am.B
open Go Go.Am.N AV aa aj IntKind
theorem Gr : aO P xo uW (ax uW) := aS Ka (by kernel_rfl) (by kernel_rfl) (by kernel_rfl)
theorem NH : aO P wA sC (ax sC) := aS Nh (by kernel_rfl) (by kernel_rfl) (by kernel_rfl)
theorem Dn : aO P uD oS (ax oS) := aS G3 (by kernel_rfl) (by kernel_rfl) (by kernel_rfl)
theorem LF : aO P v8 vR (ax vR) := aS IA (by kernel_rfl) (by kernel_rfl) (by kernel_rfl)
theorem JC : aO P uZ wJ (ax wJ) := aS JH (by kernel_rfl) (by kernel_rfl) (by kernel_rfl)
theorem Uy : aO P sK sS (ax sS) := aS SG (by kernel_rfl) (by kernel_rfl) (by kernel_rfl)
theorem Sg : aO P tV sN (ax sN) := aS MU (by kernel_rfl) (by kernel_rfl) (by kernel_rfl)
abbrev eg (n : Nat) (g : Nat → Int) : aH := ⟨true, true, 1, n, fun i => .int .i64 (g i)⟩
def dw : AV → Int
 | .int _ n => n
 | _ => 0
def fM (f : Nat → AV) (n : Nat) : Prop := ∀ i, i < n → f i = .int .i64 (dw (f i))
noncomputable def FD : bf := [(xo, s5 T [] [] 60 uW)]
def DM : Spec := bp fun l => match l with
 | [.int .i64 x, .int .i64 y] => some (aJ (.bool (decide (x < y))) [])
 | _ => none
def nZ : bf := zG :: (wA, DM) :: []
noncomputable abbrev x9 : Code := ax oS
noncomputable abbrev q8 : Code := part x9 [1,0,0]
noncomputable abbrev qg : Code := part q8 [1,0,0]
abbrev mu : List Nat := [0, 1, 2, 6]
abbrev vq (n i : Nat) : List AV := [.own 0 1 0 n, .int .i64 0, .int .i64 n, .int .i64 i]
abbrev sq : List Nat := [0, 1, 2, 6, 7]
abbrev qj (n i j : Nat) : List AV := [.own 0 1 0 n, .int .i64 0, .int .i64 n, .int .i64 i, .int .i64 j]
def yu : Spec := fun _ args pre => match args, pre with
 | [.own k 1 0 n, .int .i64 a, .int .i64 b], [(k', ⟨true, true, 1, m, f⟩)] => match k' == k with
  | true => some ⟨.tuple [], [(k, eg n (eB (fun i => dw (f i)) (n - 1)))], [m = n, a = 0, b = n, fM f n, n < 2 ^ 40]⟩
  | false => none
 | _, _ => none
def yZ : Spec := fun _ args pre => match args, pre with
 | [.own k 1 0 n, .int .i64 a, .int .i64 b, .int .i64 _], [(k', ⟨true, true, 1, m, f⟩)] => match k' == k with
  | true => some ⟨.tuple [], [(k, eg n (eB (fun i => dw (f i)) (n - 1)))], [m = n, a = 0, b = n, fM f n, n ≤ 12]⟩
  | false => none
 | _, _ => none
def um : Spec := bp fun l => match l with
 | [.int .u64 x] => some (aJ (.int .i64 (aY x.toNat : Nat)) [0 ≤ x, x < 256])
 | _ => none
def xd : Spec := fun _ args pre => match args, pre with
 | [.own k 1 0 n], [(k', ⟨true, true, 1, m, f⟩)] => match k' == k with
  | true => some ⟨.tuple [], [(k, eg n (eB (fun i => dw (f i)) (n - 1)))], [m = n, fM f n, n ≤ 12]⟩
  | false => none
 | _, _ => none
theorem LD {x y : Int} : bA T FD [7, 12] 60 sC (ax sC) ⟨aM 0 [.int .i64 x, .int .i64 y], [], 0⟩ =
  let c2 : AV := AV.bool (bif false then true else decide (x < y)); let c1 : Bool := bif true then !y != y else false; some (fork (x != x) (fork c1 (af [(x != x) = true, c1 = true] (leaf ret [AV.bool true])) (af [(x != x) = true, c1 = false] (leaf ret [c2]))) (fork false (af [(x != x) = false, false = true] (leaf ret [AV.bool true])) (af [(x != x) = false, false = false] (leaf ret [c2])))) := by kernel_rfl
theorem GJ {n : Nat} {g : Nat → Int} : aG T nZ [] 60 mu (before x9 [1]) ⟨aM 0 [.own 0 1 0 n, .int .i64 0, .int .i64 n], [(0, eg n g)], 1⟩ =
  some (af [-(2 : Int) ^ 63 ≤ (0 : Int) + (1 : Int) ∧ (0 : Int) + (1 : Int) < (2 : Int) ^ 63] (leaf normal ([own 0 1 0 n, int i64 (0 : Int), int i64 (↑n : Int), int i64 (1 : Int)], [((0 : Nat), aH.mk true true 1 n fun i ↦ int i64 (g i))]))) := by kernel_rfl
theorem GW {n i : Nat} {g : Nat → Int} : aG T nZ [12] 60 mu (before q8 [1,0]) ⟨aB mu (vq n i), [(0, eg n g)], 1⟩ =
  let c1 : List AV × aA := ([own 0 1 0 n, int i64 (0 : Int), int i64 (↑n : Int), int i64 (↑i : Int)], [((0 : Nat), aH.mk true true 1 n fun i ↦ int i64 (g i))]); some (fork (decide ((↑i : Int) < (↑n : Int))) (leaf normal c1) (leaf (exit 0) c1)) := by kernel_rfl
theorem Gv {n i : Nat} {g : Nat → Int} : aG T nZ [] 60 sq (before qg [1]) ⟨aB mu (vq n i), [(0, eg n g)], 1⟩ =
  some (leaf normal ([own 0 1 0 n, int i64 (0 : Int), int i64 (↑n : Int), int i64 (↑i : Int), int i64 (↑i : Int)], [((0 : Nat), aH.mk true true 1 n fun i ↦ int i64 (g i))])) := by kernel_rfl
theorem MJ {n i j : Nat} {g : Nat → Int} : aG T nZ [19, 30] 60 sq [part qg [1,0,0]] ⟨aB sq (qj n i j), [(0, eg n g)], 1⟩ =
  let c11 : AV := own 0 1 0 n; let c7 : Int := (↑j : Int); let c10 : Bool := decide (c7 > (0 : Int)); let c9 : Prop := (0 : Int) ≤ c7 ∧ c7.toNat < n; let c5 : Nat := c7.toNat + 0; let c3 : aa (List AV × aA) := leaf (exit 2) ([c11, int i64 (0 : Int), int i64 (↑n : Int), int i64 (↑i : Int), int i64 c7], [((0 : Nat), aH.mk true true 1 n fun i ↦ int i64 (g i))]); let c2 : Int := c7 - (1 : Int); let c8 : Prop := (0 : Int) ≤ c2 ∧ c2.toNat < n; let c6 : Nat := c2.toNat + 0; let c4 : Prop := -(2 : Int) ^ 63 ≤ c2 ∧ c2 < (2 : Int) ^ 63; let c1 : aa (List AV × aA) := af [c4, c4, c8, c6 < n, c9, c5 < n, c9, c5 < n, c8, c6 < n] (af [c4] (leaf normal ([c11, int i64 (0 : Int), int i64 (↑n : Int), int i64 (↑i : Int), int i64 c2], [((0 : Nat), aH.mk true true 1 n fun j ↦ int i64 (bif j == c6 then g c5 else bif j == c5 then g c6 else g j))]))); some (fork c10 (af [c10 = true, c9, c5 < n, c4, c8, c6 < n] (fork (bif true then decide (g c5 < g c6) else false) c1 c3)) (af [c10 = false] (fork false c1 c3))) := by kernel_rfl
theorem Tj {n i j : Nat} {g : Nat → Int} : aG T nZ [] 60 mu (behind qg [1] ++ [part q8 [1,1]]) ⟨aB sq (qj n i j), [(0, eg n g)], 1⟩ =
  let c1 : Int := (↑i : Int) + (1 : Int); some (af [-(2 : Int) ^ 63 ≤ c1 ∧ c1 < (2 : Int) ^ 63] (leaf normal ([own 0 1 0 n, int i64 (0 : Int), int i64 (↑n : Int), int i64 c1], [((0 : Nat), aH.mk true true 1 n fun i ↦ int i64 (g i))]))) := by kernel_rfl
theorem Ig {n : Nat} {l : Int} {g : Nat → Int} : aG T (nG :: (uD, yu) :: []) [100023] 60 [0] [ax vR] ⟨aM 0 [.own 0 1 0 n, .int .i64 0, .int .i64 n, .int .i64 l], [(0, eg n g)], 1⟩ =
  let c1 : Int := (↑n : Int) - (0 : Int); some (af [-(2 : Int) ^ 63 ≤ c1 ∧ c1 < (2 : Int) ^ 63] (af [decide (c1 ≤ (12 : Int)) = true] (af [n = n, (0 : Int) = (0 : Int), (↑n : Int) = (↑n : Int), fM (fun i ↦ int i64 (g i)) n, n < 2 ^ 40] (leaf ret ([own 0 1 0 n], [((0 : Nat), aH.mk true true 1 n fun i ↦ int i64 (eB (fun i ↦ dw (int i64 (g i))) (n - 1) i))]))))) := by kernel_rfl
theorem T6 {x : Int} : bA T [] [200004, 200008, 200014] 60 sS (ax sS) ⟨aM 0 [.int .u64 x], [], 0⟩ =
  some (af [decide (x ≥ 4294967296) = false] (af [decide (x ≥ 65536) = false] (af [decide (x ≥ 256) = false] (af [0 ≤ u8.wrap x ∧ u8.wrap x < (gr.size : Int)] (leaf ret [int i64 (i64.wrap (0 + i64.wrap ((iS gr (u8.wrap x).toNat : Nat) : Int)))]))))) := by kernel_rfl
theorem TG {x : Int} : bA T [(sK, um)] [] 60 sN (ax sN) ⟨aM 0 [.int .u64 x], [], 0⟩ =
  some (af [(0 : Int) ≤ x, x < (256 : Int)] (leaf ret [int i64 (↑(aY x.toNat) : Int)])) := by kernel_rfl
theorem Iv {n : Nat} {g : Nat → Int} : aG T ((v8, yZ) :: (tV, um) :: []) [] 60 [0] [ax wJ] ⟨aM 0 [.own 0 1 0 n], [(0, eg n g)], 1⟩ =
  let c1 : Int := (↑n : Int); some (af [(0 : Int) ≤ u64.wrap c1, u64.wrap c1 < (256 : Int), n = n, (0 : Int) = (0 : Int), c1 = c1, fM (fun i ↦ int i64 (g i)) n, n ≤ 12] (leaf normal ([own 0 1 0 n], [((0 : Nat), aH.mk true true 1 n fun i ↦ int i64 (eB (fun i ↦ dw (int i64 (g i))) (n - 1) i))]))) := by kernel_rfl
theorem Lc : bC P FD := aK (uS hT aZ hm Gr _ _) aZ
theorem LH : ∀ K args pre r, DM K args pre = some r → aC P wA K args pre r := by
 refine bK fun K args r hk hs _ => ?_
 split at hs
 ·simp only [Option.some.injEq] at hs
  subst hs
  refine bE hT Lc hm NH rfl (of_decide_eq_true (by kernel_rfl)) rfl 60 LD (fun _ => ?_) K []
  simp only [aa.all, az, bne_self_eq_false]
  exact ⟨fun h => by simp at h, fun _ => ⟨fun h => by simp at h, fun _ => ⟨⟨trivial, trivial⟩, .refl _⟩⟩⟩
 ·simp at hs
theorem PL : bC P nZ := xB (aK LH aZ)
theorem FW {kk n : Nat} {g : Nat → Int} (hn : n < 2 ^ 40) (c : Ctx) (hk : Kept [0] c) : aq P c oS.ntmps x9 ⟨aM 0 [.own 0 1 0 n, .int .i64 0, .int .i64 n], [(0, eg n g)], 1⟩ (zM oS kk [] (eg n (eB g (n - 1)))) := by
 refine aq.down (aq.u5 hT PL hm [1] (i := 0) (y := q8) (by kernel_rfl) (by kernel_rfl) Dn.dst [1,0] (j := 1) (x1 := qg) (zb := part q8 [1,1]) (by kernel_rfl) (by kernel_rfl) (by kernel_rfl) [1] (i2 := 2) (y2 := part qg [1,0,0]) (by kernel_rfl) (by kernel_rfl) rfl hk
  (f1 := []) (f2 := [12]) (f3 := []) (f4 := [19, 30]) (f5 := []) 60 mu sq 1 1 (fun i : Nat => vq n i) (fun i => [(0, eg n (eB g (i - 1)))]) (fun i => 1 ≤ i ∧ (i ≤ n ∨ i = 1)) (fun i => 1 ≤ i ∧ n ≤ i ∧ (i ≤ n ∨ i = 1)) (fun i => n - i) (fun i => i < n) (fun _ => False) (fun _ => False)
  (fun i (b : Nat × (Nat → Int)) => qj n i b.1) (fun _ b => [(0, eg n b.2)]) (fun i b => b.1 ≤ i ∧ gM b.2 b.1 = eB g i) (fun i b => b.2 = eB g i) (fun _ b => b.1)
  ⟨_, GJ, ?_⟩ (fun i ⟨h1, h2⟩ => ⟨_, GW, ?_⟩) (fun i ⟨h1, h2⟩ h3 => ⟨_, Gv, ?_⟩) (fun i ⟨h1, h2⟩ h3 ⟨j, h⟩ ⟨h4, h5⟩ => ⟨_, MJ, ?_⟩) (fun i ⟨h1, h2⟩ h3 ⟨j, h⟩ h4 => ⟨_, Tj, ?_⟩) (fun i s' ⟨h1, h2, h3⟩ hle => ?_) (fun _ _ h => h.elim) (fun _ _ h => h.elim))
 all_goals try simp only [aa.all, az, decide_eq_true_eq, decide_eq_false_iff_not, Int.toNat_natCast]
 ·exact ⟨by omega, 1, ⟨Nat.le_refl _, .inr rfl⟩, [(0, 0)], rfl, rfl, rfl, bh rfl rfl rfl (fun _ _ => aP rfl rfl) trivial⟩
 ·exact ⟨fun h => ⟨by omega, [(0, 0)], rfl, rfl, rfl, bh rfl rfl rfl (fun _ _ => aP rfl rfl) trivial⟩, fun h => ⟨rfl, i, ⟨h1, by omega, h2⟩, [(0, 0)], rfl, rfl, rfl, bh rfl rfl rfl (fun _ _ => aP rfl rfl) trivial⟩⟩
 ·refine ⟨(i, eB g (i - 1)), ⟨Nat.le_refl _, ?_⟩, [(0, 0)], rfl, rfl, rfl, bh rfl rfl rfl (fun _ _ => aP rfl rfl) trivial⟩
  obtain ⟨m, rfl⟩ : ∃ m, i = m + 1 := ⟨i - 1, by omega⟩
  rfl
 ·have h4 : j ≤ i := h4
  have h5 : gM h j = eB g i := h5
  have done : ∀ {e : Nat → Int}, (∀ x, e x = h x) → (j = 0 ∨ ¬ h j < h (j - 1)) → ∃ b : Nat × (Nat → Int), b.2 = eB g i ∧ dK [0] ([.own 0 1 0 n, .int .i64 0, .int .i64 n, .int .i64 i, .int .i64 j], [(0, eg n e)]) (qj n i b.1) [(0, eg n b.2)] 1 := fun {e} he hj => by
   have he : e = h := funext he
   subst he
   refine ⟨(j, e), ?_, [(0, 0)], rfl, rfl, rfl, bh rfl rfl rfl (fun _ _ => aP rfl rfl) trivial⟩
   show e = eB g i
   rw [← h5]
   cases j with
   | zero => rfl
   | succ j =>
    unfold gM
    rw [if_neg (by rcases hj with hj | hj; omega; exact hj)]
  have e1 : ((j : Int) - 1).toNat = j - 1 := by omega
  simp only [e1, Nat.add_zero, cond_true]
  have w : -(2 : Int) ^ 63 ≤ (j : Int) - 1 ∧ (j : Int) - 1 < (2 : Int) ^ 63 := by omega
  refine ⟨fun hj => ⟨⟨by omega, by omega, by omega, w, by omega, by omega⟩, fun hlt => ⟨⟨w, w, by omega, by omega, by omega, by omega, by omega, by omega, by omega, by omega⟩, w, ?_⟩, fun hge => ⟨rfl, done (fun _ => rfl) (.inr (of_decide_eq_false hge))⟩⟩, fun hj => ⟨hj, fun h => by simp at h, fun _ => ⟨rfl, done (fun _ => rfl) (.inl (by omega))⟩⟩⟩
  refine ⟨(j - 1, eZ h (j - 1)), ⟨by dsimp only; omega, ?_⟩, by dsimp only; omega, [(0, 0)], rfl, ?_, rfl, bh rfl rfl rfl (fun x _ => aP rfl ?_) trivial⟩
  ·obtain ⟨m, rfl⟩ : ∃ m, j = m + 1 := ⟨j - 1, by omega⟩
   show gM (eZ h m) m = _
   rw [← h5]
   exact (if_pos (of_decide_eq_true hlt)).symm
  ·show _ = (qj n i (j - 1)).map _
   have : ((j - 1 : Nat) : Int) = (j : Int) - 1 := by omega
   show _ = [_, _, _, _, AV.int .i64 ((j - 1 : Nat) : Int)]
   rw [this]; rfl
  ·show AV.int i64 _ = AV.int i64 (eZ h (j - 1) x)
   congr 1
   unfold eZ
   rw [show j - 1 + 1 = j by omega]
   by_cases hx : x = j - 1
   ·subst hx; simp
   ·have hx' : (x == j - 1) = false := by simpa using hx
    rw [hx', if_neg hx, cond_false]
    by_cases hx2 : x = j
    ·subst hx2; simp
    ·have : (x == j) = false := by simpa using hx2
     rw [this, if_neg hx2, cond_false]
 ·have h4 : h = eB g i := h4
  subst h4
  exact ⟨by omega, i + 1, ⟨by omega, by omega⟩, by dsimp only; omega, [(0, 0)], rfl, rfl, rfl, bh rfl rfl rfl (fun _ _ => aP rfl rfl) trivial⟩
 ·refine .inr ⟨_, _, hle.choose_spec, .inl rfl, mu, vq n i, [], [(0, eg n (eB g (i - 1)))], _, rfl, by kernel_rfl, trivial, rfl, rfl, rfl, rfl, rfl, fun x hx => ?_⟩
  have : i - 1 = n - 1 := by omega
  rw [this]
  exact aE rfl
theorem yg {ρ : Nat → Option Nat} {n : Nat} {f : Nat → AV} (h : fM f n) : ck ρ ⟨true, true, 1, n, f⟩ (eg n fun i => dw (f i)) := ⟨rfl, rfl, rfl, rfl, fun i hi => by
 show e9 ρ (f i) (.int .i64 (dw (f i)))
 rw [h i hi]; exact aE rfl⟩
theorem F4 : ∀ K args pre r, yu K args pre = some r → aC P uD K args pre r := by
 intro K args pre r h
 unfold yu at h
 split at h
 ·rename_i k n a b k' m f
  split at h
  ·rename_i hc
   have hc := eq_of_beq hc
   subst hc
   simp only [Option.some.injEq] at h
   subst h
   intro need
   have h0 := need
   obtain ⟨rfl, rfl, rfl, n1, n2⟩ := need
   exact yA hT Dn (rest := [.int .i64 0, .int .i64 m]) (ws := []) (o2 := ⟨true, true, 1, m, f⟩) (o := eg m fun i => dw (f i)) rfl rfl (of_decide_eq_true (by kernel_rfl)) (fun ρ => yg n1) (fun _ c hk => FW n2 c hk) K h0
  ·simp at h
 ·simp at h
theorem HY : ∀ K args pre r, yZ K args pre = some r → aC P v8 K args pre r := by
 intro K args pre r h
 unfold yZ at h
 split at h
 ·rename_i k n a b l k' m f
  split at h
  ·rename_i hc
   have hc := eq_of_beq hc
   subst hc
   simp only [Option.some.injEq] at h
   subst h
   intro need
   have h0 := need
   obtain ⟨rfl, rfl, rfl, n1, n2⟩ := need
   have n2 : m ≤ 12 := n2
   refine yA hT LF (rest := [.int .i64 0, .int .i64 m, .int .i64 l]) (ws := []) (o2 := ⟨true, true, 1, m, f⟩) (o := eg m fun i => dw (f i)) rfl rfl (of_decide_eq_true (by kernel_rfl)) (fun ρ => yg n1) (fun _ c hk => aq.aR hT (iH (aK F4 aZ)) hm 60 [0] Ig (by kernel_rfl) ?_) K h0
   simp only [aa.all, az, decide_eq_true_eq]
   exact ⟨by omega, by omega, ⟨trivial, trivial, trivial, fun _ _ => rfl, by omega⟩, fun s' hs' => ⟨.inr rfl, [0], _, [], _, _, hs', by kernel_rfl, trivial, rfl, rfl, rfl, rfl, rfl, fun _ _ => aE rfl⟩⟩
  ·simp at h
 ·simp at h
theorem K3 {x : Int} (h1 : 0 ≤ x) (h2 : x < 256) (K : Nat) : aC P sK K [.int .u64 x] [] (aJ (.int .i64 (aY x.toNat : Nat)) []) := by
 refine bE (r := aJ (.int .i64 (aY x.toNat : Nat)) []) hT aZ hm Uy rfl (of_decide_eq_true (by kernel_rfl)) rfl 60 T6 (fun _ => ?_) K []
 obtain ⟨n, rfl⟩ : ∃ n : Nat, x = n := ⟨x.toNat, by omega⟩
 rw [ru (by omega)]
 simp only [aa.all, az, decide_eq_false_iff_not, Cs, Int.toNat_natCast, qM (show n < 256 by omega)]
 have h8 : aY n ≤ 8 := fJ.2 (by omega)
 rw [wrap_i64 (show -2 ^ 63 ≤ ((aY n : Nat) : Int) by omega) (by omega), wrap_i64 (by omega) (by omega)]
 exact ⟨by omega, by omega, by omega, by omega, bm (by omega)⟩
theorem MB : ∀ K args pre r, um K args pre = some r → aC P sK K args pre r := by
 refine bK fun K args r hk hs _ => ?_
 split at hs
 ·simp only [Option.some.injEq] at hs
  subst hs
  exact fun need => K3 need.1 need.2 K trivial
 ·simp at hs
theorem Qg : ∀ K args pre r, um K args pre = some r → aC P tV K args pre r := by
 refine bK fun K args r hk hs _ => ?_
 split at hs
 ·rename_i x
  simp only [Option.some.injEq] at hs
  subst hs
  intro need
  refine (bE (r := aJ (.int .i64 (aY x.toNat : Nat)) []) hT (aK MB aZ) hm Sg rfl (of_decide_eq_true (by kernel_rfl)) rfl 60 TG (fun _ => ?_) K []) trivial
  simp only [aa.all, az]
  exact ⟨need, .refl _⟩
 ·simp at hs
theorem QW : ∀ K args pre r, xd K args pre = some r → aC P uZ K args pre r := by
 intro K args pre r h
 unfold xd at h
 split at h
 ·rename_i k n k' m f
  split at h
  ·rename_i hc
   have hc := eq_of_beq hc
   subst hc
   simp only [Option.some.injEq] at h
   subst h
   intro need
   have h0 := need
   obtain ⟨rfl, n1, n2⟩ := need
   have n2 : m ≤ 12 := n2
   refine yA hT JC (rest := []) (ws := []) (o2 := ⟨true, true, 1, m, f⟩) (o := eg m fun i => dw (f i)) rfl rfl (of_decide_eq_true (by kernel_rfl)) (fun ρ => yg n1) (fun _ c hk => aq.aR hT (aK HY (aK Qg aZ)) hm 60 [0] Iv (by kernel_rfl) ?_) K h0
   have e : u64.wrap (m : Int) = m := by
    simp [IntKind.wrap, IntKind.bits, IntKind.signed]; omega
   simp only [aa.all, az, e]
   exact ⟨⟨by omega, by omega, trivial, trivial, trivial, fun _ _ => rfl, n2⟩, fun s' hs' => ⟨.inl rfl, [0], _, [], _, _, hs', by kernel_rfl, trivial, rfl, rfl, rfl, rfl, rfl, fun _ _ => aE rfl⟩⟩
  ·simp at h
 ·simp at h
end Go.Am.B

/- trace.Components. -/
namespace Go.Am.B
open Go Go.Am.N AV aa aj IntKind
theorem E3 : aO P nY tF (ax tF) := aS Ob (by kernel_rfl) (by kernel_rfl) (by kernel_rfl)
def tT (x : Nat → Ce) (i k : Nat) : Bool := gY (x i) (x k)
abbrev iV (C : List Nat) : Nat → AV := fun a => .int .i64 ((C.getD a 0 : Nat) : Int)
def gN (T : Nat → Nat → Bool) (n : Nat) (L : List Nat) (c : Nat) : AV := .ah 1 (bV T n n (L.getD c 0)).length (iV (bV T n n (L.getD c 0)))
def mB (T : Nat → Nat → Bool) (n : Nat) : AV := .ah 1 (roots T n n).length (gN T n (roots T n n))
noncomputable def iz : bf := zG :: (l9, wq) :: (uZ, xd) :: []
noncomputable abbrev uR : Code := ax tF
noncomputable abbrev lf : Code := part uR [1,1,1,0,1,0,0]
noncomputable abbrev vh : Code := part lf [1,1,0,0]
noncomputable abbrev oz : Code := part vh [1,1]
noncomputable abbrev sR : Code := part oz [1,1,0,1,0,0]
noncomputable abbrev uO : Code := part sR [1,0,0]
noncomputable abbrev BH : Code := part uO [1,0,0]
abbrev jb : List Nat := [0, 3, 4, 13, 14]
abbrev mc (x : Nat → Ce) (n m i : Nat) : List AV := [eu x n 64, .own 1 1 0 m, .own 0 1 0 n, .int .i64 n, .int .i64 i]
abbrev AH (n : Nat) (sn : Nat → Bool) : aH := ⟨true, true, 1, n, fun j => .bool (sn j)⟩
abbrev ja (n m : Nat) (g : Nat → AV) (sn : Nat → Bool) : aA := [(1, ⟨true, true, 1, m, g⟩), (0, AH n sn)]
abbrev pZ : List Nat := [0, 3, 4, 13, 14, 5]
abbrev vY (x : Nat → Ce) (n m i : Nat) : List AV := [eu x n 64, .own 1 1 0 m, .own 0 1 0 n, .int .i64 n, .int .i64 i, .int .i64 i]
abbrev mO : List Nat := [0, 3, 4, 13, 14, 5, 6, 7]
abbrev wO (x : Nat → Ce) (n m i l k : Nat) : List AV := [eu x n 64, .own 1 1 0 m, .own 0 1 0 n, .int .i64 n, .int .i64 i, .int .i64 i, .own 2 1 0 l, .int .i64 k]
abbrev j8 (n m : Nat) (g : Nat → AV) (sn : Nat → Bool) (C : List Nat) : aA := [(2, ⟨true, true, 1, C.length, iV C⟩), (1, ⟨true, true, 1, m, g⟩), (0, AH n sn)]
abbrev rM : List Nat := [0, 3, 4, 13, 14, 5, 6, 7, 33, 34]
abbrev nO (x : Nat → Ce) (n m i l k j : Nat) : List AV := [eu x n 64, .own 1 1 0 m, .own 0 1 0 n, .int .i64 n, .int .i64 i, .int .i64 i, .own 2 1 0 l, .int .i64 k, .int .i64 n, .int .i64 j]
theorem Nq {x : Nat → Ce} {n : Nat} : aG T iz [] 60 jb (before uR [1,1,1,0,1]) ⟨aM 0 [eu x n 64], [], 0⟩ =
  let c1 : Int := (↑n : Int); some (af [(0 : Int) ≤ c1 ∧ c1 ≤ c1 ∧ c1 ≤ (2 : Int) ^ 47 ∧ c1 * (↑(1 : Nat) : Int) ≤ (2 : Int) ^ 47] (leaf normal ([ah 4 n fun i ↦ agg [ah 6 (x i).na fun i_1 ↦ agg [rat ((x i).a i_1).lo 64, rat ((x i).a i_1).hi 64], ah 6 (x i).nb fun i_1 ↦ agg [rat ((x i).b i_1).lo 64, rat ((x i).b i_1).hi 64], int i64 (x i).k, int i64 (x i).j], nil, own 16384 1 0 c1.toNat, int i64 c1, int i64 (0 : Int)], [((16384 : Nat), aH.mk true true 1 c1.toNat fun x ↦ AV.bool false)]))) := by kernel_rfl
theorem Qd {x : Nat → Ce} {n m i : Nat} {g : Nat → AV} {sn : Nat → Bool} : aG T iz [15] 60 jb (before lf [1,1,0]) ⟨aB jb (mc x n m i), ja n m g sn, 2⟩ =
  let c1 : List AV × aA := ([ah 4 n fun i ↦ agg [ah 6 (x i).na fun i_1 ↦ agg [rat ((x i).a i_1).lo 64, rat ((x i).a i_1).hi 64], ah 6 (x i).nb fun i_1 ↦ agg [rat ((x i).b i_1).lo 64, rat ((x i).b i_1).hi 64], int i64 (x i).k, int i64 (x i).j], own 1 1 0 m, own 0 1 0 n, int i64 (↑n : Int), int i64 (↑i : Int)], [((0 : Nat), aH.mk true true 1 n fun j ↦ AV.bool (sn j)), ((1 : Nat), aH.mk true true 1 m fun a ↦ g a)]); some (fork (decide ((↑i : Int) < (↑n : Int))) (leaf normal c1) (leaf (exit 0) c1)) := by kernel_rfl
theorem Rw {x : Nat → Ce} {n m i : Nat} {g : Nat → AV} {sn : Nat → Bool} : aG T iz [20] 60 pZ (before vh [1,1]) ⟨aB jb (mc x n m i), ja n m g sn, 2⟩ =
  let c2 : Int := (↑i : Int); let c1 : List AV × aA := ([ah 4 n fun i ↦ agg [ah 6 (x i).na fun i_1 ↦ agg [rat ((x i).a i_1).lo 64, rat ((x i).a i_1).hi 64], ah 6 (x i).nb fun i_1 ↦ agg [rat ((x i).b i_1).lo 64, rat ((x i).b i_1).hi 64], int i64 (x i).k, int i64 (x i).j], own 1 1 0 m, own 0 1 0 n, int i64 (↑n : Int), int i64 c2, int i64 c2], [((0 : Nat), aH.mk true true 1 n fun j ↦ AV.bool (sn j)), ((1 : Nat), aH.mk true true 1 m fun a ↦ g a)]); some (af [(0 : Int) ≤ c2 ∧ c2.toNat < n, c2.toNat + 0 < n] (fork (sn (c2.toNat + 0)) (leaf (exit 1) c1) (leaf normal c1))) := by kernel_rfl
theorem Ro {x : Nat → Ce} {n m i : Nat} {g : Nat → AV} {sn : Nat → Bool} : aG T iz [] 60 mO (before oz [1,1,0,1]) ⟨aB pZ (vY x n m i), ja n m g sn, 2⟩ =
  let c1 : Int := (↑i : Int); some (af [(0 : Int) ≤ c1 ∧ c1.toNat < n, c1.toNat + 0 < n] (af [(1 : Nat) * 1 ≤ 2 ^ 24] (leaf normal ([ah 4 n fun i ↦ agg [ah 6 (x i).na fun i_1 ↦ agg [rat ((x i).a i_1).lo 64, rat ((x i).a i_1).hi 64], ah 6 (x i).nb fun i_1 ↦ agg [rat ((x i).b i_1).lo 64, rat ((x i).b i_1).hi 64], int i64 (x i).k, int i64 (x i).j], own 1 1 0 m, own 0 1 0 n, int i64 (↑n : Int), int i64 c1, int i64 c1, own 20482 1 0 1, int i64 (0 : Int)], [((20482 : Nat), aH.mk true true 1 1 fun i ↦ nth [int i64 c1] (int i64 (0 : Int)) i), ((0 : Nat), aH.mk true true 1 n fun j ↦ AV.bool (bif j == c1.toNat + 0 then true else sn j)), ((1 : Nat), aH.mk true true 1 m fun a ↦ g a)])))) := by kernel_rfl
theorem HC {x : Nat → Ce} {n m i k : Nat} {g : Nat → AV} {sn : Nat → Bool} {C : List Nat} : aG T iz [29] 60 mO (before sR [1,0]) ⟨aB mO (wO x n m i C.length k), j8 n m g sn C, 3⟩ =
  let c1 : List AV × aA := ([ah 4 n fun i ↦ agg [ah 6 (x i).na fun i_1 ↦ agg [rat ((x i).a i_1).lo 64, rat ((x i).a i_1).hi 64], ah 6 (x i).nb fun i_1 ↦ agg [rat ((x i).b i_1).lo 64, rat ((x i).b i_1).hi 64], int i64 (x i).k, int i64 (x i).j], own 1 1 0 m, own 0 1 0 n, int i64 (↑n : Int), int i64 (↑i : Int), int i64 (↑i : Int), own 2 1 0 C.length, int i64 (↑k : Int)], [((2 : Nat), aH.mk true true 1 C.length fun a ↦ int i64 (↑(C.getD a 0) : Int)), ((0 : Nat), aH.mk true true 1 n fun j ↦ AV.bool (sn j)), ((1 : Nat), aH.mk true true 1 m fun a ↦ g a)]); some (fork (decide ((↑k : Int) < (↑C.length : Int))) (leaf normal c1) (leaf (exit 2) c1)) := by kernel_rfl
theorem LN {x : Nat → Ce} {n m i k : Nat} {g : Nat → AV} {sn : Nat → Bool} {C : List Nat} : aG T iz [] 60 rM (before uO [1]) ⟨aB mO (wO x n m i C.length k), j8 n m g sn C, 3⟩ =
  some (leaf normal ([ah 4 n fun i ↦ agg [ah 6 (x i).na fun i_1 ↦ agg [rat ((x i).a i_1).lo 64, rat ((x i).a i_1).hi 64], ah 6 (x i).nb fun i_1 ↦ agg [rat ((x i).b i_1).lo 64, rat ((x i).b i_1).hi 64], int i64 (x i).k, int i64 (x i).j], own 1 1 0 m, own 0 1 0 n, int i64 (↑n : Int), int i64 (↑i : Int), int i64 (↑i : Int), own 2 1 0 C.length, int i64 (↑k : Int), int i64 (↑n : Int), int i64 (0 : Int)], [((2 : Nat), aH.mk true true 1 C.length fun a ↦ int i64 (↑(C.getD a 0) : Int)), ((0 : Nat), aH.mk true true 1 n fun j ↦ AV.bool (sn j)), ((1 : Nat), aH.mk true true 1 m fun a ↦ g a)])) := by kernel_rfl
theorem Lp {x : Nat → Ce} {n m i k j : Nat} {g : Nat → AV} {sn : Nat → Bool} {C : List Nat} : aG T iz [35, 42, 55] 60 rM [BH] ⟨aB rM (nO x n m i C.length k j), j8 n m g sn C, 3⟩ =
  let c20 : Int := (↑k : Int); let c18 : Nat × aH := ((1 : Nat), aH.mk true true 1 m fun a ↦ g a); let c16 : Nat := C.length; let c13 : AV := own 0 1 0 n; let c12 : AV := own 1 1 0 m; let c10 : AV := int i64 (↑n : Int); let c9 : AV := int i64 (↑i : Int); let c7 : Int := (↑j : Int); let c4 : AV := ah 4 n fun i ↦ agg [ah 6 (x i).na fun i_1 ↦ agg [rat ((x i).a i_1).lo 64, rat ((x i).a i_1).hi 64], ah 6 (x i).nb fun i_1 ↦ agg [rat ((x i).b i_1).lo 64, rat ((x i).b i_1).hi 64], int i64 (x i).k, int i64 (x i).j]; let c22 : Int := c7 + (1 : Int); let c21 : Nat := c16 + 1; let c19 : AV := own 2 1 0 c16; let c15 : Int := (↑(C.getD (c20.toNat + 0) 0) : Int); let c6 : List (Nat × aH) := [((2 : Nat), aH.mk true true 1 c16 fun a ↦ int i64 (↑(C.getD a 0) : Int)), ((0 : Nat), aH.mk true true 1 n fun j ↦ AV.bool (sn j)), c18]; let c5 : Nat := c7.toNat; let c17 : List AV := [int i64 c20, c10, int i64 c22]; let c14 : Prop := (0 : Int) ≤ c7 ∧ c5 < n; let c11 : Nat := c5 + 0; let c8 : Prop := -(2 : Int) ^ 63 ≤ c22 ∧ c22 < (2 : Int) ^ 63; let c3 : Nat := c15.toNat; let c2 : aa (List AV × aA) := af [c8] (leaf normal (c4 :: c12 :: c13 :: c10 :: c9 :: c9 :: c19 :: c17, c6)); let c1 : aa (List AV × aA) := af [c14, c11 < n] (af [(1 : Nat) * 1 ≤ 2 ^ 24, c21 * ((8 : Nat) + 1) * 2 ≤ 2 ^ 47] (af [c8] (leaf normal (c4 :: c12 :: c13 :: c10 :: c9 :: c9 :: own 118787 1 0 c21 :: c17, [((118787 : Nat), aH.mk true true 1 c21 fun i ↦ if i < c16 then iV C i else nth [int i64 c7] (int i64 (0 : Int)) (i - c16 + 0)), ((0 : Nat), aH.mk true true 1 n fun j ↦ AV.bool (bif j == c11 then true else sn j)), c18])))); some (fork (decide (c7 < (↑n : Int))) (fork (!sn c11) (af [c14, c11 < n, (!sn c11) = true, (0 : Int) ≤ c20 ∧ c20.toNat < c16, c20.toNat + 0 < c16, (0 : Int) ≤ c15 ∧ c3 < n, c14, ek (fun i ↦ sA ((x c3).a i) 64) (x c3).na 64, ek (fun i ↦ sA ((x c3).b i) 64) (x c3).nb 64, ek (fun i ↦ sA ((x c5).a i) 64) (x c5).na 64, ek (fun i ↦ sA ((x c5).b i) 64) (x c5).nb 64, (x c3).na + (x c3).nb < 2 ^ 30, (x c5).na + (x c5).nb < 2 ^ 30] (fork (bif true then gY (Ce.mk (x c3).na (fun i ↦ dX (sA ((x c3).a i) 64)) (x c3).nb (fun i ↦ dX (sA ((x c3).b i) 64)) (x c3).k (x c3).j) (Ce.mk (x c5).na (fun i ↦ dX (sA ((x c5).a i) 64)) (x c5).nb (fun i ↦ dX (sA ((x c5).b i) 64)) (x c5).k (x c5).j) else false) c1 c2)) (af [c14, c11 < n, (!sn c11) = false] (fork false c1 c2))) (leaf (exit 4) ([c4, c12, c13, c10, c9, c9, c19, int i64 c20, c10, int i64 c7], c6))) := by kernel_rfl
theorem Hl {x : Nat → Ce} {n m i k j : Nat} {g : Nat → AV} {sn : Nat → Bool} {C : List Nat} : aG T iz [] 60 mO (behind uO [1] ++ [part sR [1,1]]) ⟨aB rM (nO x n m i C.length k j), j8 n m g sn C, 3⟩ =
  let c1 : Int := (↑k : Int) + (1 : Int); some (af [-(2 : Int) ^ 63 ≤ c1 ∧ c1 < (2 : Int) ^ 63] (leaf normal ([ah 4 n fun i ↦ agg [ah 6 (x i).na fun i_1 ↦ agg [rat ((x i).a i_1).lo 64, rat ((x i).a i_1).hi 64], ah 6 (x i).nb fun i_1 ↦ agg [rat ((x i).b i_1).lo 64, rat ((x i).b i_1).hi 64], int i64 (x i).k, int i64 (x i).j], own 1 1 0 m, own 0 1 0 n, int i64 (↑n : Int), int i64 (↑i : Int), int i64 (↑i : Int), own 2 1 0 C.length, int i64 c1], [((2 : Nat), aH.mk true true 1 C.length fun a ↦ int i64 (↑(C.getD a 0) : Int)), ((0 : Nat), aH.mk true true 1 n fun j ↦ AV.bool (sn j)), ((1 : Nat), aH.mk true true 1 m fun a ↦ g a)]))) := by kernel_rfl
theorem ID {x : Nat → Ce} {n m i k : Nat} {g : Nat → AV} {sn : Nat → Bool} {C : List Nat} : aG T iz [] 60 jb [part oz [1,1,1], part lf [1,1,1]] ⟨aB mO (wO x n m i C.length k), j8 n m g sn C, 3⟩ =
  let c2 : Nat := C.length; let c1 : Int := (↑i : Int) + (1 : Int); some (af [c2 = c2, fM (iV C) c2, c2 ≤ 12] (af [(1 : Nat) * 1 ≤ 2 ^ 24, (m + 1) * ((24 : Nat) + 1) * 2 ≤ 2 ^ 47] (af [-(2 : Int) ^ 63 ≤ c1 ∧ c1 < (2 : Int) ^ 63] (leaf normal ([ah 4 n fun i ↦ agg [ah 6 (x i).na fun i_1 ↦ agg [rat ((x i).a i_1).lo 64, rat ((x i).a i_1).hi 64], ah 6 (x i).nb fun i_1 ↦ agg [rat ((x i).b i_1).lo 64, rat ((x i).b i_1).hi 64], int i64 (x i).k, int i64 (x i).j], own 20483 1 0 (m + 1), own 0 1 0 n, int i64 (↑n : Int), int i64 c1], [((0 : Nat), aH.mk true true 1 n fun j ↦ AV.bool (sn j)), ((20483 : Nat), aH.mk true true 1 (m + 1) fun i ↦ if i < m then g i else nth [ah 1 c2 fun i ↦ int i64 (eB (fun i ↦ dw (iV C i)) (c2 - 1) (i + 0))] nil (i - m + 0))]))))) := by kernel_rfl
theorem RA {x : Nat → Ce} {n m i : Nat} {g : Nat → AV} {sn : Nat → Bool} : aG T iz [] 60 jb [part lf [1,1,1]] ⟨aB pZ (vY x n m i), ja n m g sn, 2⟩ =
  let c1 : Int := (↑i : Int) + (1 : Int); some (af [-(2 : Int) ^ 63 ≤ c1 ∧ c1 < (2 : Int) ^ 63] (leaf normal ([ah 4 n fun i ↦ agg [ah 6 (x i).na fun i_1 ↦ agg [rat ((x i).a i_1).lo 64, rat ((x i).a i_1).hi 64], ah 6 (x i).nb fun i_1 ↦ agg [rat ((x i).b i_1).lo 64, rat ((x i).b i_1).hi 64], int i64 (x i).k, int i64 (x i).j], own 1 1 0 m, own 0 1 0 n, int i64 (↑n : Int), int i64 c1], [((0 : Nat), aH.mk true true 1 n fun j ↦ AV.bool (sn j)), ((1 : Nat), aH.mk true true 1 m fun a ↦ g a)]))) := by kernel_rfl
theorem NB {x : Nat → Ce} {n m i : Nat} {g : Nat → AV} {sn : Nat → Bool} : cJ T iz [] 60 tF [part uR [1,1,1,1]] ⟨aB jb (mc x n m i), ja n m g sn, 2⟩ =
  some (leaf ret [ah 1 m fun i ↦ g (i + 0)]) := by kernel_rfl
theorem lW : bC P iz := xB (aK y5 (aK QW aZ))
theorem x8 {x : Nat → Ce} (i j : Nat) : tT x i j = tT x j i := IT
theorem y9 {es n m : Nat} {f g : Nat → AV} (h : n = m) (hh : ∀ i, i < n → bn (f i) (g i)) : bn (.ah es n f) (.ah es m g) := h ▸ ij hh
theorem v9 {L M : List Nat} {c : Nat} (h : c < L.length) : (L ++ M).getD c 0 = L.getD c 0 := by
 rw [List.getD_eq_getElem?_getD, List.getD_eq_getElem?_getD, List.getElem?_append_left h]
theorem D9 {L : List Nat} {a : Nat} : (L ++ [a]).getD L.length 0 = a := by
 rw [List.getD_eq_getElem?_getD, List.getElem?_append_right (Nat.le_refl _), Nat.sub_self]; rfl
theorem D0 {L : List Nat} {c : Nat} (h : c < L.length) : L.getD c 0 ∈ L := by
 rw [List.getD_eq_getElem?_getD, List.getElem?_eq_getElem h]; exact List.getElem_mem h
structure CI (T : Nat → Nat → Bool) (n i : Nat) (C : List Nat) (sn : Nat → Bool) : Prop where
 nodup : C.Nodup
 bH : ∀ j, j ∈ C → j < n ∧ Go.Am.bH T n j = i
 self : i ∈ C
 seen : ∀ j, j < n → (sn j = true ↔ Go.Am.bH T n j < i ∨ j ∈ C)
structure fk (T : Nat → Nat → Bool) (n i : Nat) (C : List Nat) (sn : Nat → Bool) (k : Nat) : Prop extends CI T n i C sn where
 done : ∀ a, a < k → ∀ j, j < n → T (C.getD a 0) j = true → sn j = true
theorem fk.add {T : Nat → Nat → Bool} (hs : ∀ i j, T i j = T j i) {n i : Nat} {C : List Nat} {sn : Nat → Bool} {k j : Nat} (h : fk T n i C sn k) (hk : k < C.length) (hj : j < n) (hn : sn j = false) (ht : T (C.getD k 0) j = true) : fk T n i (C ++ [j]) (fun x => bif x == j then true else sn x) k := by
 have hjC : j ∉ C := fun hm => by have := (h.seen j hj).2 (.inr hm); rw [hn] at this; simp at this
 have hCk := h.bH _ (D0 hk)
 refine ⟨⟨?_, fun a ha => ?_, List.mem_append_left _ h.self, fun a ha => ?_⟩, fun a ha b hb hab => ?_⟩
 ·rw [List.nodup_append]
  exact ⟨h.nodup, by simp, fun a ha b hb e => by simp only [List.mem_singleton] at hb; subst hb; subst e; exact hjC ha⟩
 ·rcases List.mem_append.1 ha with ha | ha
  ·exact h.bH a ha
  ·simp only [List.mem_singleton] at ha
   subst ha
   exact ⟨hj, by rw [← xl hs hCk.1 hj ht]; exact hCk.2⟩
 ·by_cases hja : a = j
  ·subst hja; simp
  ·have : (a == j) = false := by simpa using hja
   simp only [this, cond_false, h.seen a ha, List.mem_append, List.mem_singleton, hja, or_false]
 ·by_cases hbj : b = j
  ·subst hbj; simp
  ·have : (b == j) = false := by simpa using hbj
   simp only [this, cond_false]
   exact h.done a ha b hb (by rw [← v9 (M := [j]) (by omega)]; exact hab)
theorem fk.all {T : Nat → Nat → Bool} (hs : ∀ i j, T i j = T j i) {n i : Nat} {C : List Nat} {sn : Nat → Bool} (h : fk T n i C sn C.length) (hi : i < n) (j : Nat) : j ∈ C ↔ j < n ∧ Go.Am.bH T n j = i := by
 refine ⟨h.bH j, fun ⟨hj, hl⟩ => ?_⟩
 have hii := (h.bH i h.self).2
 refine Gq (T := T) (n := n) (p := fun a => a ∈ C) hs hi h.self (fun a b ha hb hma hab => ?_) hj (by rw [hl, hii])
 obtain ⟨c, hc, rfl⟩ := List.getElem_of_mem hma
 have e : C.getD c 0 = C[c] := by rw [List.getD_eq_getElem?_getD, List.getElem?_eq_getElem hc]; rfl
 have hsb := h.done c hc b hb (by rw [e]; exact hab)
 rcases (h.seen b hb).1 hsb with h1 | h1
 ·have := xl hs ha hb hab
  rw [(h.bH _ (List.getElem_mem hc)).2] at this
  omega
 ·exact h1
theorem fk.len {T : Nat → Nat → Bool} {n i : Nat} {C : List Nat} {sn : Nat → Bool} {k : Nat} (h : fk T n i C sn k) : C.length ≤ n := Ey h.nodup fun j hj => (h.bH j hj).1
theorem fk.start {T : Nat → Nat → Bool} {n i : Nat} (hi : i < n) (hl : Go.Am.bH T n i = i) : fk T n i [i] (fun x => bif x == i then true else decide (Go.Am.bH T n x < i)) 0 := by
 refine ⟨⟨by simp, fun j hj => ?_, by simp, fun j hj => ?_⟩, fun a ha => by omega⟩
 ·simp only [List.mem_singleton] at hj; subst hj; exact ⟨hi, hl⟩
 ·by_cases h : j = i
  ·subst h; simp
  ·have : (j == i) = false := by simpa using h
   simp [this, h]
theorem TB {x : Nat → Ce} {n : Nat} (hn : n ≤ 12) (hx : ∀ i, i < n → (x i).na + (x i).nb < 2 ^ 30) (K : Nat) : aC P nY K [eu x n 64] [] (aJ (mB (tT x) n) []) := by
 refine fX (r := aJ (mB (tT x) n) []) hT E3 rfl (of_decide_eq_true (by kernel_rfl)) rfl (fun _ cx h0 => ?_) K []
 have hk := vX h0
 have hs := x8 (x := x)
 have hrl := fun i => EE (T := tT x) (n := n) (m := i)
 refine aq.vE hT lW hm [1,1,1,0,1] (i := 0) (y := lf) (z := part uR [1,1,1,1]) (by kernel_rfl) (by kernel_rfl) (by kernel_rfl) E3.dst hk (f1 := []) 60 jb 2 (fun i : Nat => mc x n (roots (tT x) n i).length i)
  (fun i => ja n (roots (tT x) n i).length (gN (tT x) n (roots (tT x) n i)) (fun j => decide (bH (tT x) n j < i))) (fun i => i ≤ n) (fun i => i = n) (fun i => n - i) (fun _ => False) ⟨_, Nq, ?_⟩ (fun i hi => ?_) (fun i hi => ?_) (fun _ _ h => h.elim)
 ·simp only [aa.all, az, Int.toNat_natCast]
  exact ⟨⟨by omega, by omega, by omega, by omega⟩, 0, Nat.zero_le _, [(0, 16384)], rfl, rfl, rfl, sY rfl (by omega) (by omega) (bh rfl rfl rfl (fun j _ => aP rfl (by show AV.bool false = AV.bool (decide (bH (tT x) n j < 0)); rw [decide_eq_false (Nat.not_lt_zero _)])) trivial)⟩
 ·obtain ⟨sn, hsn⟩ : ∃ sn : Nat → Bool, sn = fun j => decide (bH (tT x) n j < i) := ⟨_, rfl⟩
  have hm1 := hrl i
  refine aq.nS hT lW hm (y := lf) (x1 := vh) (zb := part lf [1,1,1]) [1,1,0] (j := 1) (by kernel_rfl) (by kernel_rfl) (by kernel_rfl) (by kernel_rfl) hk (f1 := [15]) 60 jb 2 (fun _ : Unit => mc x n (roots (tT x) n i).length i) (fun _ => ja n (roots (tT x) n i).length (gN (tT x) n (roots (tT x) n i)) (fun j => decide (bH (tT x) n j < i))) (fun _ => i < n) ⟨_, Qd, ?_⟩ (fun _ hlt => ?_)
  ·simp only [aa.all, az, decide_eq_true_eq, decide_eq_false_iff_not]
   exact ⟨fun h => ⟨(), by omega, [(0, 0), (1, 1)], rfl, rfl, rfl, bh rfl rfl rfl (fun _ _ => aP rfl rfl) (bh rfl rfl rfl (fun _ _ => aP rfl rfl) trivial)⟩, fun h s' hs' => ⟨rfl, i, by omega, dK.le ⟨[(0, 0), (1, 1)], rfl, rfl, rfl, bh rfl rfl rfl (fun _ _ => aP rfl rfl) (bh rfl rfl rfl (fun _ _ => aP rfl rfl) trivial)⟩ hs' hk⟩⟩
  rw [← hsn]
  refine aq.tL hT lW hm (x := vh) [1,1] (by kernel_rfl) (by kernel_rfl) (by kernel_rfl) hk (f1 := [20]) 60 pZ 2 (fun _ : Unit => vY x n (roots (tT x) n i).length i) (fun _ => ja n (roots (tT x) n i).length (gN (tT x) n (roots (tT x) n i)) sn) (fun _ => bH (tT x) n i = i) ⟨_, Rw, ?_⟩ (fun _ hroot => ?_)
  ·simp only [aa.all, az, Int.toNat_natCast, Nat.add_zero]
   have hsi : sn i = decide (bH (tT x) n i < i) := by rw [hsn]
   have hle := qq (T := tT x) (n := n) (i := i)
   refine ⟨⟨by omega, by omega⟩, fun h s' hs' => ?_, fun h => ⟨(), ?_, [(0, 0), (1, 1)], rfl, rfl, rfl, bh rfl rfl rfl (fun _ _ => aP rfl rfl) (bh rfl rfl rfl (fun _ _ => aP rfl rfl) trivial)⟩⟩
   ·have hlt2 : bH (tT x) n i < i := by rw [hsi] at h; exact of_decide_eq_true h
    refine nR ?_
    show aq P cx _ (part lf [1,1,1]) s' _
    refine aq.iL (s2 := ⟨aB pZ (vY x n (roots (tT x) n i).length i), ja n (roots (tT x) n i).length (gN (tT x) n (roots (tT x) n i)) sn, 2⟩) (dK.le ⟨[(0, 0), (1, 1)], rfl, rfl, rfl, bh rfl rfl rfl (fun _ _ => aP rfl rfl) (bh rfl rfl rfl (fun _ _ => aP rfl rfl) trivial)⟩ hs' hk) (aq.aR hT lW hm 60 jb RA (by kernel_rfl) ?_)
    simp only [aa.all, az]
    have hr : roots (tT x) n (i + 1) = roots (tT x) n i := by rw [Ds, if_neg (by omega), List.append_nil]
    refine ⟨by omega, fun s' hs' => ⟨i + 1, by omega, by dsimp only; omega, dK.le ⟨[(0, 0), (1, 1)], rfl, ?_, rfl, ?_⟩ hs' hk⟩⟩
    ·show _ = (mc x n (roots (tT x) n (i + 1)).length (i + 1)).map _
     rw [hr]; rfl
    ·show gm _ _ _ (ja n (roots (tT x) n (i + 1)).length (gN (tT x) n (roots (tT x) n (i + 1))) _)
     rw [hr]
     refine bh rfl rfl rfl (fun _ _ => aP rfl rfl) (bh rfl rfl rfl (fun j hj => aP rfl ?_) trivial)
     rw [hsn]
     congr 1
     rw [Bool.eq_iff_iff]
     simp only [decide_eq_true_eq]
     have hne : bH (tT x) n j ≠ i := fun e => by
      have := Dz hs hj
      rw [e] at this; omega
     omega
   ·rw [hsi] at h
    have := of_decide_eq_false h
    omega
  ·refine aq.u5 hT lW hm (x := oz) [1,1,0,1] (i := 2) (y := sR) (by kernel_rfl) (by kernel_rfl) (by kernel_rfl) [1,0] (j := 3) (x1 := uO) (zb := part sR [1,1]) (by kernel_rfl) (by kernel_rfl) (by kernel_rfl) [1] (i2 := 4) (y2 := BH) (by kernel_rfl) (by kernel_rfl) rfl hk
    (f1 := []) (f2 := [29]) (f3 := []) (f4 := [35, 42, 55]) (f5 := []) 60 mO rM 3 3 (fun a : List Nat × (Nat → Bool) × Nat => wO x n (roots (tT x) n i).length i a.1.length a.2.2) (fun a => j8 n (roots (tT x) n i).length (gN (tT x) n (roots (tT x) n i)) a.2.1 a.1)
    (fun a => fk (tT x) n i a.1 a.2.1 a.2.2 ∧ a.2.2 ≤ a.1.length) (fun a => fk (tT x) n i a.1 a.2.1 a.2.2 ∧ a.2.2 = a.1.length) (fun a => n - a.2.2) (fun a => a.2.2 < a.1.length) (fun _ => False) (fun _ => False)
    (fun a (b : List Nat × (Nat → Bool) × Nat) => nO x n (roots (tT x) n i).length i b.1.length a.2.2 b.2.2) (fun _ b => j8 n (roots (tT x) n i).length (gN (tT x) n (roots (tT x) n i)) b.2.1 b.1)
    (fun a b => fk (tT x) n i b.1 b.2.1 a.2.2 ∧ a.2.2 < b.1.length ∧ b.2.2 ≤ n ∧ ∀ j, j < b.2.2 → tT x (b.1.getD a.2.2 0) j = true → b.2.1 j = true) (fun a b => fk (tT x) n i b.1 b.2.1 a.2.2 ∧ a.2.2 < b.1.length ∧ b.2.2 = n ∧ ∀ j, j < n → tT x (b.1.getD a.2.2 0) j = true → b.2.1 j = true) (fun _ b => n - b.2.2)
    ⟨_, Ro, ?_⟩ (fun ⟨C, s1, k⟩ ⟨h1, h2⟩ => ⟨_, HC, ?_⟩) (fun ⟨C, s1, k⟩ ⟨h1, h2⟩ h3 => ⟨_, LN, ?_⟩) (fun ⟨C0, s0, k⟩ _ _ ⟨C, s1, j⟩ ⟨h1, h2, h3, h4⟩ => ⟨_, Lp, ?_⟩) (fun ⟨C0, s0, k⟩ ⟨_, h0⟩ g0 ⟨C, s1, j⟩ ⟨h1, h2, h3, h4⟩ => ⟨_, Hl, ?_⟩) (fun ⟨C, s1, k⟩ s' ⟨h1, h2⟩ hle => ?_) (fun _ _ h => h.elim) (fun _ _ h => h.elim)
   ·simp only [aa.all, az, Int.toNat_natCast, Nat.add_zero]
    refine ⟨⟨by omega, by omega⟩, by omega, ([i], fun y => bif y == i then true else sn y, 0), ⟨by rw [hsn]; exact fk.start hlt hroot, by simp⟩, [(0, 0), (1, 1), (2, 20482)], rfl, rfl, rfl, bh rfl rfl rfl (fun a ha => aP ?_ ?_) (bh rfl rfl rfl (fun _ _ => aP rfl rfl) (bh rfl rfl rfl (fun _ _ => aP rfl rfl) trivial))⟩
    all_goals
     have : a = 0 := by have : a < 1 := ha; omega
     subst this
     rfl
   ·simp only [aa.all, az, decide_eq_true_eq, decide_eq_false_iff_not]
    have h2 : k ≤ C.length := h2
    exact ⟨fun h => ⟨by dsimp only; omega, [(0, 0), (1, 1), (2, 2)], rfl, rfl, rfl, bh rfl rfl rfl (fun _ _ => aP rfl rfl) (bh rfl rfl rfl (fun _ _ => aP rfl rfl) (bh rfl rfl rfl (fun _ _ => aP rfl rfl) trivial))⟩,
     fun h => ⟨rfl, (C, s1, k), ⟨h1, by dsimp only; omega⟩, [(0, 0), (1, 1), (2, 2)], rfl, rfl, rfl, bh rfl rfl rfl (fun _ _ => aP rfl rfl) (bh rfl rfl rfl (fun _ _ => aP rfl rfl) (bh rfl rfl rfl (fun _ _ => aP rfl rfl) trivial))⟩⟩
   ·simp only [aa.all, az]
    exact ⟨(C, s1, 0), ⟨h1, h3, Nat.zero_le _, fun j hj => absurd hj (Nat.not_lt_zero _)⟩, [(0, 0), (1, 1), (2, 2)], rfl, rfl, rfl, bh rfl rfl rfl (fun _ _ => aP rfl rfl) (bh rfl rfl rfl (fun _ _ => aP rfl rfl) (bh rfl rfl rfl (fun _ _ => aP rfl rfl) trivial))⟩
   ·have h2 : k < C.length := h2
    have h3 : j ≤ n := h3
    have h1 : fk (tT x) n i C s1 k := h1
    have h4 : ∀ b, b < j → tT x (C.getD k 0) b = true → s1 b = true := h4
    have hl := h1.len
    have hCk := (h1.bH _ (D0 h2)).1
    have same : ∀ {w : List AV × aA}, (s1 j = true ∨ tT x (C.getD k 0) j = false) → j < n → dK [] w (nO x n (roots (tT x) n i).length i C.length k (j + 1)) (j8 n (roots (tT x) n i).length (gN (tT x) n (roots (tT x) n i)) s1 C) 3 → Round [] (fun b : List Nat × (Nat → Bool) × Nat => nO x n (roots (tT x) n i).length i b.1.length k b.2.2) (fun b => j8 n (roots (tT x) n i).length (gN (tT x) n (roots (tT x) n i)) b.2.1 b.1) 3
      (fun b => fk (tT x) n i b.1 b.2.1 k ∧ k < b.1.length ∧ b.2.2 ≤ n ∧ ∀ j, j < b.2.2 → tT x (b.1.getD k 0) j = true → b.2.1 j = true) (fun b => fk (tT x) n i b.1 b.2.1 k ∧ k < b.1.length ∧ b.2.2 = n ∧ ∀ j, j < n → tT x (b.1.getD k 0) j = true → b.2.1 j = true) (fun b => n - b.2.2) 4 (fun _ => False) (C, s1, j) .normal w := fun hh hj hre =>
     ⟨(C, s1, j + 1), ⟨h1, h2, hj, fun b hb ht => by
      by_cases hbj : b = j
      ·subst hbj
       rcases hh with hh | hh
       ·exact hh
       ·rw [hh] at ht; simp at ht
      ·have hb : b < j + 1 := hb
       exact h4 b (by omega) ht⟩, by dsimp only; omega, hre⟩
    have et : gY (Ce.mk (x (C.getD k 0)).na (fun i ↦ dX (sA ((x (C.getD k 0)).a i) 64)) (x (C.getD k 0)).nb (fun i ↦ dX (sA ((x (C.getD k 0)).b i) 64)) (x (C.getD k 0)).k (x (C.getD k 0)).j) (Ce.mk (x j).na (fun i ↦ dX (sA ((x j).a i) 64)) (x j).nb (fun i ↦ dX (sA ((x j).b i) 64)) (x j).k (x j).j) = tT x (C.getD k 0) j := rfl
    simp only [aa.all, az, decide_eq_true_eq, decide_eq_false_iff_not, Int.toNat_natCast, Nat.add_zero, cond_true, et, Bool.not_eq_true', Bool.not_eq_false']
    refine ⟨fun hj => ⟨fun hf => ⟨⟨⟨by omega, by omega⟩, by omega, hf, by omega, h2, by omega, by omega, bS (Nat.le_refl _), bS (Nat.le_refl _), bS (Nat.le_refl _), bS (Nat.le_refl _), hx _ hCk, hx _ (by omega)⟩, fun ht => ⟨⟨by omega, by omega⟩, ⟨by omega, by omega⟩, by omega, ?_⟩, fun ht => ⟨by omega, same (.inr ht) (by omega) ⟨[(0, 0), (1, 1), (2, 2)], rfl, rfl, rfl, bh rfl rfl rfl (fun _ _ => aP rfl rfl) (bh rfl rfl rfl (fun _ _ => aP rfl rfl) (bh rfl rfl rfl (fun _ _ => aP rfl rfl) trivial))⟩⟩⟩,
      fun hf => ⟨⟨by omega, by omega, hf⟩, fun h => by simp at h, fun _ => ⟨by omega, same (.inl hf) (by omega) ⟨[(0, 0), (1, 1), (2, 2)], rfl, rfl, rfl, bh rfl rfl rfl (fun _ _ => aP rfl rfl) (bh rfl rfl rfl (fun _ _ => aP rfl rfl) (bh rfl rfl rfl (fun _ _ => aP rfl rfl) trivial))⟩⟩⟩⟩,
     fun hj => ⟨rfl, (C, s1, j), ⟨h1, h2, by dsimp only; omega, fun b hb => h4 b (by omega)⟩, [(0, 0), (1, 1), (2, 2)], rfl, rfl, rfl, bh rfl rfl rfl (fun _ _ => aP rfl rfl) (bh rfl rfl rfl (fun _ _ => aP rfl rfl) (bh rfl rfl rfl (fun _ _ => aP rfl rfl) trivial))⟩⟩
    have hlen : (C ++ [j]).length = C.length + 1 := by simp
    refine ⟨(C ++ [j], fun y => bif y == j then true else s1 y, j + 1), ⟨h1.add hs h2 (by omega) hf ht, by dsimp only; omega, by dsimp only; omega, fun b hb htb => ?_⟩, by dsimp only; omega, [(0, 0), (1, 1), (2, 118787)], rfl, ?_, rfl, bh rfl rfl hlen.symm (fun b hb => aP (xQ rfl ?_) ?_) (bh rfl rfl rfl (fun _ _ => aP rfl rfl) (bh rfl rfl rfl (fun _ _ => aP rfl rfl) trivial))⟩
    ·have hb : b < j + 1 := hb
     show (bif b == j then true else s1 b) = true
     have htb : tT x ((C ++ [j]).getD k 0) b = true := htb
     rw [v9 h2] at htb
     by_cases hbj : b = j
     ·subst hbj; simp
     ·have e : (b == j) = false := by simpa using hbj
      rw [e, cond_false]
      exact h4 b (by omega) htb
    ·show _ = (nO x n (roots (tT x) n i).length i (C ++ [j]).length k (j + 1)).map _
     rw [hlen]; rfl
    ·have hb : b < (C ++ [j]).length := hb
     by_cases h : b < C.length
     ·rw [show b - C.length = 0 by omega]; rfl
     ·rw [show b - C.length = 0 by omega]; rfl
    ·have hb : b < (C ++ [j]).length := hb
     show (if b < C.length then iV C b else nth _ _ (b - C.length + 0)) = iV (C ++ [j]) b
     by_cases h : b < C.length
     ·rw [if_pos h]
      show AV.int _ _ = AV.int _ _
      rw [v9 h]
     ·have : b = C.length := by omega
      subst this
      rw [if_neg h, Nat.sub_self]
      show AV.int _ _ = AV.int _ _
      rw [D9]
   ·simp only [aa.all, az]
    have h2 : k < C.length := h2
    have hl := h1.len
    have hl0 : k < n := by have h1 : fk (tT x) n i C s1 k := h1; have := h1.len; omega
    refine ⟨by omega, (C, s1, k + 1), ⟨⟨h1.toCI, fun a ha b hb hab => ?_⟩, h2⟩, by dsimp only; omega, [(0, 0), (1, 1), (2, 2)], rfl, rfl, rfl, bh rfl rfl rfl (fun _ _ => aP rfl rfl) (bh rfl rfl rfl (fun _ _ => aP rfl rfl) (bh rfl rfl rfl (fun _ _ => aP rfl rfl) trivial))⟩
    have ha : a < k + 1 := ha
    by_cases hak : a = k
    ·subst hak; exact h4 b hb hab
    ·exact h1.done a (show a < k by omega) b hb hab
   ·have h2 : k = C.length := h2
    subst h2
    have h1 : fk (tT x) n i C s1 C.length := h1
    have hl := h1.len
    have hall := h1.all hs hlt
    have hsort := Jz h1.nodup hall
    have hpos : 0 < C.length := List.length_pos_of_mem h1.self
    obtain ⟨g1, g2⟩ := OR (C := C) (g := fun i => dw (iV C i)) h1.nodup (fun _ _ => rfl) (m := C.length - 1) (by omega)
    rw [hsort] at g1 g2
    have hr : roots (tT x) n (i + 1) = roots (tT x) n i ++ [i] := by rw [Ds, if_pos hroot]
    have hrlen : (roots (tT x) n i ++ [i]).length = (roots (tT x) n i).length + 1 := by simp
    rw [show behind oz [1,1,0,1] = [part oz [1,1,1]] from by kernel_rfl]
    refine ay.weak rfl hle (ay.one (aq.tail (fun s' hh => by have := hh.1; omega) (ay.aR hT lW hm 60 jb ID (by kernel_rfl) ?_)))
    simp only [aa.all, az]
    refine ⟨⟨trivial, fun _ _ => rfl, by omega⟩, ⟨by omega, by omega⟩, by omega, fun s' hs' => ⟨i + 1, by omega, by dsimp only; omega, dK.le ⟨[(0, 0), (1, 20483)], rfl, ?_, rfl, ?_⟩ hs' hk⟩⟩
    ·show _ = (mc x n (roots (tT x) n (i + 1)).length (i + 1)).map _
     rw [hr, hrlen]; rfl
    ·show gm _ _ _ (ja n (roots (tT x) n (i + 1)).length (gN (tT x) n (roots (tT x) n (i + 1))) _)
     rw [hr]
     refine bh rfl rfl hrlen.symm (fun b hb => ?_) (bh rfl rfl rfl (fun j hj => aP rfl ?_) trivial)
     ·have hb : b < (roots (tT x) n i ++ [i]).length := hb
      by_cases h : b < (roots (tT x) n i).length
      ·rw [if_pos h]
       refine aP rfl ?_
       unfold gN
       rw [v9 h]
      ·have : b = (roots (tT x) n i).length := by omega
       subst this
       rw [if_neg h, Nat.sub_self]
       refine .inr ⟨rfl, ?_⟩
       unfold gN
       rw [D9]
       refine y9 g1.symm fun a ha => bm ?_
       exact g2 a ha
     ·congr 1
      rw [Bool.eq_iff_iff, h1.seen j hj, hall j]
      simp only [decide_eq_true_eq]
      omega
 ·subst hi
  refine aq.nE ((ay.fin hT lW hm 60 NB (by kernel_rfl) ?_).mono fun _ _ h => .inl h)
  simp only [aa.all, az]
  exact .refl _
def xx : Spec := fN (kC (jQ 64) kN) (fun a => mB (tT a.1.2) a.1.1) fun a => [a.1.1 ≤ 12, ∀ i, i < a.1.1 → (a.1.2 i).na + (a.1.2 i).nb < 2 ^ 30]
theorem Dy : ∀ K args pre r, xx K args pre = some r → aC P nY K args pre r := gj fun _ K hn => TB hn.1 hn.2 K
end Go.Am.B

/- trace.check: closures handed to slices.ContainsFunc. -/
namespace Go.Am.B
open Go Go.Am.N AV aa aj IntKind
abbrev vi : FuncId := z3
abbrev uc : FuncId := xm
theorem IM : aO P jR pP (ax pP) := aS NI (by kernel_rfl) (by kernel_rfl) (by kernel_rfl)
theorem SB : aO P jN pX (ax pX) := aS Oz (by kernel_rfl) (by kernel_rfl) (by kernel_rfl)
theorem AD : aO P z3 oo (ax oo) := aS P5 (by kernel_rfl) (by kernel_rfl) (by kernel_rfl)
theorem E7 : aO P xm lS (ax lS) := aS Q9 (by kernel_rfl) (by kernel_rfl) (by kernel_rfl)
theorem Jn : aO P wz pU (ax pU) := aS Kj (by kernel_rfl) (by kernel_rfl) (by kernel_rfl)
theorem uo {u v : AV} (h : bn u v) : bn (.bk u) (.bk v) := by
 refine ⟨rfl, fun M w cs hc => ?_⟩
 cases hc with
 | bk h1 h2 h3 => cases h3; exact .bk (h.2 _ _ _ h1) h2 .nil
theorem D8 {f : FuncId} {us vs : List AV} (h : dO us vs) (hv : (vs.all fun v => !v.isAgg && !v.isTuple) = true) : bn (.func f us) (.func f vs) := by
 refine ⟨rfl, fun M w cs hc => ?_⟩
 cases hc with
 | func h1 h2 h3 => cases h3; exact .func (yT h h1) hv .nil
abbrev fE (w : Nat → Int) (m : Nat) : AV := .ah 1 m fun i => .int .i64 (w i)
def DF : AV → Option (Nat × (Nat → AV))
 | .ah 1 n f => some (n, f)
 | .nil => some (0, fun _ => .nil)
 | _ => none
def j0 : Kind (Nat × (Nat → Int)) := ⟨fun v => match DF v with
 | some (n, f) => some ((n, fun i => dw (f i)), [fM f n])
 | none => none, fun a => fE a.2 a.1, fun {v a q} h hq => by
  split at h
  ·rename_i h1
   simp only [Option.some.injEq, Prod.mk.injEq] at h
   obtain ⟨rfl, rfl⟩ := h
   unfold DF at h1
   split at h1
   ·simp only [Option.some.injEq, Prod.mk.injEq] at h1
    obtain ⟨rfl, rfl⟩ := h1
    exact ij fun i hi => cF (hq i hi)
   ·simp only [Option.some.injEq, Prod.mk.injEq] at h1
    obtain ⟨rfl, rfl⟩ := h1
    exact gQ (by omega)
   ·simp at h1
  ·simp at h⟩
def xy {α : Type} (k : Kind α) : Kind α := ⟨fun v => match v with
 | .bk v => k.read v
 | _ => none, fun a => .bk (k.make a), fun {v a q} h hq => by
  split at h
  ·exact uo (k.ok h hq)
  ·simp at h⟩
def CV {α : Type} (g : FuncId) (k : Kind α) : Kind α := ⟨fun v => match v with
 | .func f [.bk v] => match Nat.beq f g with
  | true => k.read v
  | false => none
 | _ => none, fun a => .func g [.bk (k.make a)], fun {v a q} h hq => by
  split at h
  ·split at h
   ·rename_i hc
    have hc := Nat.eq_of_beq_eq_true hc
    subst hc
    exact D8 ⟨uo (k.ok h hq), trivial⟩ rfl
   ·simp at h
  ·simp at h⟩
def A0 {α β : Type} (g : FuncId) (k : Kind α) (k2 : Kind β) : Kind (α × β) := ⟨fun v => match v with
 | .func f [.bk v, .bk w] => match Nat.beq f g with
  | true => match k.read v, k2.read w with
   | some (a, p), some (b, q) => some ((a, b), p ++ q)
   | _, _ => none
  | false => none
 | _ => none, fun a => .func g [.bk (k.make a.1), .bk (k2.make a.2)], fun {v a q} h hq => by
  split at h
  ·split at h
   ·rename_i hc
    have hc := Nat.eq_of_beq_eq_true hc
    subst hc
    split at h
    ·rename_i h1 h2
     simp only [Option.some.injEq, Prod.mk.injEq] at h
     obtain ⟨rfl, rfl⟩ := h
     obtain ⟨g1, g2⟩ := dU.1 hq
     exact D8 ⟨uo (k.ok h1 g1), uo (k2.ok h2 g2), trivial⟩ rfl
    ·simp at h
   ·simp at h
  ·simp at h⟩
def wG (c d : Ce) : Bool := decide (c.na = d.na ∧ c.nb = d.nb)
def fO (x : Nat → Ce) (n : Nat) : Prop := ∀ i, i < n → (x i).na + (x i).nb < 2 ^ 30
def C6 : Spec := fN (kC kI (kC (xy (jQ 64)) kN)) (fun a => .bool (decide (a.1 < 0 ∨ (a.2.1.1 : Int) ≤ a.1))) fun _ => []
def Ak : Spec := fN (kC kI (kC (xy (jQ 64)) (kC (xy j0) kN))) (fun a => .bool (!wG (a.2.1.2 a.1.toNat) (a.2.1.2 (a.2.2.1.2 0).toNat)))
 fun a => [0 ≤ a.1 ∧ a.1 < (a.2.1.1 : Int), 0 < a.2.2.1.1, 0 ≤ a.2.2.1.2 0 ∧ a.2.2.1.2 0 < (a.2.1.1 : Int), fO a.2.1.2 a.2.1.1]
def jK (n : Nat) (w : Nat → Int) (i : Nat) : Bool := decide (w i < 0 ∨ (n : Int) ≤ w i)
def gH (x : Nat → Ce) (w : Nat → Int) (v : Int) (i : Nat) : Bool := !wG (x (w i).toNat) (x v.toNat)
def ic (p : Nat → Bool) (m : Nat) : Int := if least p m < m then (least p m : Int) else -1
def gT (p : Nat → Bool) (m : Nat) : Bool := decide (least p m < m)
noncomputable def vM : bf := nG :: (jR, C6) :: []
noncomputable def vm : bf := nG :: (jN, Ak) :: []
noncomputable abbrev jq : Code := ax oo
abbrev ju : List Nat := [4, 0, 1, 7, 8]
abbrev ny (w : Nat → Int) (m : Nat) (g : AV) (i : Nat) : List AV := [.int .i64 0, fE w m, g, .int .i64 m, .int .i64 i]
abbrev sw (x : Nat → Ce) (n : Nat) : AV := .func jR [.bk (eu x n 64)]
abbrev r4 (x : Nat → Ce) (n : Nat) (v : Nat → Int) (k : Nat) : AV := .func jN [.bk (eu x n 64), .bk (fE v k)]
def AU : Spec := fN (kC j0 (kC (CV jR (jQ 64)) kN)) (fun a => .int .i64 (ic (jK a.2.1.1 a.1.2) a.1.1)) fun a => [a.1.1 < 2 ^ 40]
def El : Spec := fN (kC j0 (kC (A0 jN (jQ 64) j0) kN)) (fun a => .int .i64 (ic (gH a.2.1.1.2 a.1.2 (a.2.1.2.2 0)) a.1.1))
 fun a => [a.1.1 < 2 ^ 40, ∀ i, i < a.1.1 → 0 ≤ a.1.2 i ∧ a.1.2 i < (a.2.1.1.1 : Int), 0 < a.2.1.2.1, 0 ≤ a.2.1.2.2 0 ∧ a.2.1.2.2 0 < (a.2.1.1.1 : Int), fO a.2.1.1.2 a.2.1.1.1]
def AI : Spec := fN (kC j0 (kC (CV jR (jQ 64)) kN)) (fun a => .bool (gT (jK a.2.1.1 a.1.2) a.1.1)) fun a => [a.1.1 < 2 ^ 40]
def CG : Spec := fN (kC j0 (kC (A0 jN (jQ 64) j0) kN)) (fun a => .bool (gT (gH a.2.1.1.2 a.1.2 (a.2.1.2.2 0)) a.1.1))
 fun a => [a.1.1 < 2 ^ 40, ∀ i, i < a.1.1 → 0 ≤ a.1.2 i ∧ a.1.2 i < (a.2.1.1.1 : Int), 0 < a.2.1.2.1, 0 ≤ a.2.1.2.2 0 ∧ a.2.1.2.2 0 < (a.2.1.1.1 : Int), fO a.2.1.1.2 a.2.1.1.1]
def eC (x : Nat → Ce) (n : Nat) (w : Nat → Int) (m : Nat) : Int := if m = 0 then 7 else if gT (jK n w) m = true then 7 else if gT (gH x w (w 0)) m = true then 1 else 0
def xu : Spec := fun K args pre => match AI K args pre with
 | some r => some r
 | none => CG K args pre
noncomputable def AW : bf := nG :: (uc, xu) :: []
def FG : Spec := fN (kC (jQ 64) (kC j0 kN)) (fun a => .int .i64 (eC a.1.2 a.1.1 a.2.1.2 a.2.1.1)) fun a => [a.2.1.1 < 2 ^ 40, a.1.1 < 2 ^ 40, fO a.1.2 a.1.1]
theorem SH {i : Int} {x : Nat → Ce} {n : Nat} : bA T [] [6] 60 pP (ax pP) ⟨aM 0 [.int .i64 i, .bk (eu x n 64)], [], 0⟩ =
  let c1 : Bool := decide (i < (0 : Int)); some (fork c1 (af [c1 = true] (leaf ret [AV.bool true])) (af [c1 = false] (leaf ret [AV.bool (bif false then true else decide (i ≥ (↑n : Int)))]))) := by kernel_rfl
theorem Gf {i : Int} {x : Nat → Ce} {n m : Nat} {w : Nat → Int} : bA T [(tc, yb 64)] [] 60 pX (ax pX) ⟨aM 0 [.int .i64 i, .bk (eu x n 64), .bk (fE w m)], [], 0⟩ =
  let c4 : Nat := Int.toNat (0 : Int); let c3 : Nat := 2 ^ 30; let c2 : Ce := x i.toNat; let c1 : Nat := (w c4).toNat; let c6 : Nat := (x c1).na; let c5 : Nat := (x c1).nb; some (af [(0 : Int) ≤ i ∧ i.toNat < n, (0 : Int) ≤ (0 : Int) ∧ c4 < m, (0 : Int) ≤ w c4 ∧ c1 < n, ek (fun i ↦ sA (c2.a i) 64) c2.na 64, ek (fun i ↦ sA (c2.b i) 64) c2.nb 64, ek (fun i ↦ sA ((x c1).a i) 64) c6 64, ek (fun i ↦ sA ((x c1).b i) 64) c5 64, c2.na < c3, c2.nb < c3, c6 < c3, c5 < c3] (leaf ret [AV.bool !decide (c2.na = c6 ∧ c2.nb = c5)])) := by kernel_rfl
theorem RP {x : Nat → Ce} {w : Nat → Int} {n m : Nat} : aG T vM [] 60 ju (before jq [1,0,1]) ⟨aM 0 [fE w m, sw x n], [], 0⟩ =
  some (leaf normal ([int i64 (0 : Int), ah 1 m fun i ↦ int i64 (w i), func jR [(ah 4 n fun i ↦ agg [ah 6 (x i).na fun i_1 ↦ agg [rat ((x i).a i_1).lo 64, rat ((x i).a i_1).hi 64], ah 6 (x i).nb fun i_1 ↦ agg [rat ((x i).b i_1).lo 64, rat ((x i).b i_1).hi 64], int i64 (x i).k, int i64 (x i).j]).bk], int i64 (↑m : Int), int i64 (0 : Int)], [])) := by kernel_rfl
theorem I4 {x : Nat → Ce} {w : Nat → Int} {n m i : Nat} : aG T vM [9, 16] 60 ju [part jq [1,0,1,0,0]] ⟨aB ju (ny w m (sw x n) i), [], 0⟩ =
  let c7 : Int := (↑m : Int); let c3 : AV := ah 1 m fun i ↦ int i64 (w i); let c2 : Int := (↑i : Int); let c1 : AV := func jR [(ah 4 n fun i ↦ agg [ah 6 (x i).na fun i_1 ↦ agg [rat ((x i).a i_1).lo 64, rat ((x i).a i_1).hi 64], ah 6 (x i).nb fun i_1 ↦ agg [rat ((x i).b i_1).lo 64, rat ((x i).b i_1).hi 64], int i64 (x i).k, int i64 (x i).j]).bk]; let c6 : Int := c2 + (1 : Int); let c5 : List AV := [c3, c1, int i64 c7, int i64 c2]; let c4 : Int := w c2.toNat; some (fork (decide (c2 < c7)) (af [(0 : Int) ≤ c2 ∧ c2.toNat < m, ir (fun i ↦ bO (x i) 64) n 64] (fork (decide (c4 < (0 : Int) ∨ (↑n : Int) ≤ c4)) (leaf ret (int i64 c2 :: c5, [])) (af [-(2 : Int) ^ 63 ≤ c6 ∧ c6 < (2 : Int) ^ 63] (leaf normal ([int i64 (0 : Int), c3, c1, int i64 c7, int i64 c6], []))))) (leaf (exit 0) (int i64 (0 : Int) :: c5, []))) := by kernel_rfl
theorem Rj {x : Nat → Ce} {w : Nat → Int} {n m i : Nat} : cJ T vM [] 60 oo [part jq [1,1]] ⟨aB ju (ny w m (sw x n) i), [], 0⟩ =
  some (leaf ret [int i64 (-1 : Int)]) := by kernel_rfl
theorem R7 {x : Nat → Ce} {w v : Nat → Int} {n m k : Nat} : aG T vm [] 60 ju (before jq [1,0,1]) ⟨aM 0 [fE w m, r4 x n v k], [], 0⟩ =
  some (leaf normal ([int i64 (0 : Int), ah 1 m fun i ↦ int i64 (w i), func jN [(ah 4 n fun i ↦ agg [ah 6 (x i).na fun i_1 ↦ agg [rat ((x i).a i_1).lo 64, rat ((x i).a i_1).hi 64], ah 6 (x i).nb fun i_1 ↦ agg [rat ((x i).b i_1).lo 64, rat ((x i).b i_1).hi 64], int i64 (x i).k, int i64 (x i).j]).bk, (ah 1 k fun i ↦ int i64 (v i)).bk], int i64 (↑m : Int), int i64 (0 : Int)], [])) := by kernel_rfl
theorem FJ {x : Nat → Ce} {w v : Nat → Int} {n m i k : Nat} : aG T vm [9, 16] 60 ju [part jq [1,0,1,0,0]] ⟨aB ju (ny w m (r4 x n v k) i), [], 0⟩ =
  let c7 : Int := (↑m : Int); let c4 : Int := dw (int i64 (v 0)); let c3 : AV := ah 1 m fun i ↦ int i64 (w i); let c2 : Int := (↑i : Int); let c1 : AV := func jN [(ah 4 n fun i ↦ agg [ah 6 (x i).na fun i_1 ↦ agg [rat ((x i).a i_1).lo 64, rat ((x i).a i_1).hi 64], ah 6 (x i).nb fun i_1 ↦ agg [rat ((x i).b i_1).lo 64, rat ((x i).b i_1).hi 64], int i64 (x i).k, int i64 (x i).j]).bk, (ah 1 k fun i ↦ int i64 (v i)).bk]; let c6 : Int := c2 + (1 : Int); let c5 : List AV := [c3, c1, int i64 c7, int i64 c2]; some (fork (decide (c2 < c7)) (af [(0 : Int) ≤ c2 ∧ c2.toNat < m, ir (fun i ↦ bO (x i) 64) n 64, fM (fun i ↦ int i64 (v i)) k, (0 : Int) ≤ w c2.toNat ∧ w c2.toNat < (↑n : Int), (0 : Nat) < k, (0 : Int) ≤ c4 ∧ c4 < (↑n : Int), fO (fun i ↦ dL (bO (x i) 64)) n] (fork (!wG (dL (bO (x (w c2.toNat).toNat) 64)) (dL (bO (x c4.toNat) 64))) (leaf ret (int i64 c2 :: c5, [])) (af [-(2 : Int) ^ 63 ≤ c6 ∧ c6 < (2 : Int) ^ 63] (leaf normal ([int i64 (0 : Int), c3, c1, int i64 c7, int i64 c6], []))))) (leaf (exit 0) (int i64 (0 : Int) :: c5, []))) := by kernel_rfl
theorem NL {x : Nat → Ce} {w v : Nat → Int} {n m i k : Nat} : cJ T vm [] 60 oo [part jq [1,1]] ⟨aB ju (ny w m (r4 x n v k) i), [], 0⟩ =
  some (leaf ret [int i64 (-1 : Int)]) := by kernel_rfl
theorem Nf {x : Nat → Ce} {w : Nat → Int} {n m : Nat} : bA T [(vi, AU)] [] 60 lS (ax lS) ⟨aM 0 [fE w m, sw x n], [], 0⟩ =
  let c1 : Int := ic (jK n fun i ↦ dw (int i64 (w i))) m; some (af [fM (fun i ↦ int i64 (w i)) m, ir (fun i ↦ bO (x i) 64) n 64, m < 2 ^ 40] (leaf ret [AV.bool (decide (c1 ≥ (0 : Int)))])) := by kernel_rfl
theorem Nv {x : Nat → Ce} {w v : Nat → Int} {n m k : Nat} : bA T [(vi, El)] [] 60 lS (ax lS) ⟨aM 0 [fE w m, r4 x n v k], [], 0⟩ =
  let c2 : Int := dw (int i64 (v 0)); let c1 : Int := ic (gH (fun i ↦ dL (bO (x i) 64)) (fun i ↦ dw (int i64 (w i))) c2) m; some (af [fM (fun i ↦ int i64 (w i)) m, ir (fun i ↦ bO (x i) 64) n 64, fM (fun i ↦ int i64 (v i)) k, m < 2 ^ 40, ∀ (i : Nat), i < m → (0 : Int) ≤ dw (int i64 (w i)) ∧ dw (int i64 (w i)) < (↑n : Int), (0 : Nat) < k, (0 : Int) ≤ c2 ∧ c2 < (↑n : Int), fO (fun i ↦ dL (bO (x i) 64)) n] (leaf ret [AV.bool (decide (c1 ≥ (0 : Int)))])) := by kernel_rfl
theorem Hz {x : Nat → Ce} {w : Nat → Int} {n m : Nat} : bA T AW [8, 12, 15] 60 pU (ax pU) ⟨aM 0 [eu x n 64, fE w m], [], 0⟩ =
  let c7 : Prop := m < 2 ^ 40; let c6 : Bool := (↑m : Int) == (0 : Int); let c5 : Prop := ir (fun i ↦ bO (x i) 64) n 64; let c4 : Int := dw (int i64 (w 0)); let c3 : Prop := 0 < 1; let c2 : Prop := fM (fun i ↦ int i64 (w i)) m; let c1 : aa (List AV) := af [c3, c2, c5, c2, c7, ∀ (i : Nat), i < m → (0 : Int) ≤ dw (int i64 (w i)) ∧ dw (int i64 (w i)) < (↑n : Int), (0 : Nat) < m, (0 : Int) ≤ c4 ∧ c4 < (↑n : Int), fO (fun i ↦ dL (bO (x i) 64)) n] (fork (gT (gH (fun i ↦ dL (bO (x i) 64)) (fun i ↦ dw (int i64 (w i))) c4) m) (leaf ret [int i64 (1 : Int)]) (leaf ret [int i64 (0 : Int)])); some (fork c6 (af [c3, c6 = true] (fork true (leaf ret [int i64 (7 : Int)]) c1)) (af [c3, c6 = false, c3, c2, c5, c7] (fork (bif false then true else gT (jK n fun i ↦ dw (int i64 (w i))) m) (leaf ret [int i64 (7 : Int)]) c1))) := by kernel_rfl
theorem uC {c : Ce} {s : Nat} : dL (bO c s) = c := rfl
theorem wm {k : IntKind} {z : Int} : dw (.int k z) = z := rfl
theorem GO : ∀ K args pre r, C6 K args pre = some r → aC P jR K args pre r := by
 refine gj fun a K _ => ?_
 obtain ⟨i, ⟨n, x⟩, _⟩ := a
 refine bE hT aZ hm IM rfl (of_decide_eq_true (by kernel_rfl)) rfl 60 (SH (i := i) (x := x) (n := n)) (fun _ => ?_) K []
 simp only [aa.all, az, decide_eq_true_eq, decide_eq_false_iff_not, cond_false]
 refine ⟨fun h => ⟨h, ep (decide_eq_true (.inl h)).symm⟩, fun h => ⟨h, ep ?_⟩⟩
 rw [Bool.eq_iff_iff]
 simp only [decide_eq_true_eq]
 omega
theorem TE : ∀ K args pre r, Ak K args pre = some r → aC P jN K args pre r := by
 refine gj fun a K hn => ?_
 obtain ⟨i, ⟨n, x⟩, ⟨m, w⟩, _⟩ := a
 obtain ⟨n1, n2, n3, n4⟩ := hn
 have n1 : 0 ≤ i ∧ i < (n : Int) := n1
 have n2 : 0 < m := n2
 have n3 : 0 ≤ w 0 ∧ w 0 < (n : Int) := n3
 have n4 : fO x n := n4
 refine bE hT (aK (Eu 64) aZ) hm SB rfl (of_decide_eq_true (by kernel_rfl)) rfl 60 (Gf (i := i) (x := x) (n := n) (m := m) (w := w)) (fun _ => ?_) K []
 have g1 := n4 i.toNat (by omega)
 have g2 := n4 (w 0).toNat (by omega)
 simp only [aa.all, az, show Int.toNat 0 = 0 from rfl]
 exact ⟨⟨by omega, by omega, by omega, bS (Nat.le_refl _), bS (Nat.le_refl _), bS (Nat.le_refl _), bS (Nat.le_refl _), by omega, by omega, by omega, by omega⟩, .refl _⟩
theorem Tx {p : Nat → Bool} {m i : Nat} (hi : i < m) (h : p i = true) (hb : ∀ j, j < i → p j = false) : least p m = i := by
 have h1 := zK (n := m) h
 by_cases h2 : least p m < i
 ·have := vg (p := p) (n := m) (by omega)
  rw [hb _ h2] at this; simp at this
 ·omega
theorem DY {p : Nat → Bool} {m : Nat} (hb : ∀ j, j < m → p j = false) : least p m = m := by
 have h1 := least_le (p := p) m
 by_cases h2 : least p m < m
 ·have := vg h2
  rw [hb _ h2] at this; simp at this
 ·omega
theorem AK {p : Nat → Bool} {m i : Nat} (hi : i < m) (h : p i = true) (hb : ∀ j, j < i → p j = false) : ic p m = i := by
 unfold ic; rw [Tx hi h hb, if_pos hi]
theorem FE {p : Nat → Bool} {m : Nat} (hb : ∀ j, j < m → p j = false) : ic p m = -1 := by
 unfold ic; rw [DY hb, if_neg (Nat.lt_irrefl _)]
theorem AL {p : Nat → Bool} {m : Nat} : decide (ic p m ≥ 0) = gT p m := by
 unfold gT ic
 rw [Bool.eq_iff_iff]
 simp only [decide_eq_true_eq]
 split <;> omega
theorem tN {p : Nat → Bool} {m : Nat} (h : gT p m = false) {i : Nat} (hi : i < m) : p i = false := by
 have := of_decide_eq_false h
 exact wL (n := m) (by omega)
theorem Oh : bC P vM := iH (aK GO aZ)
theorem IJ : bC P vm := iH (aK TE aZ)
theorem N8 : ∀ K args pre r, AU K args pre = some r → aC P vi K args pre r := by
 refine gj fun a K hn => ?_
 obtain ⟨⟨m, w⟩, ⟨n, x⟩, _⟩ := a
 have hn : m < 2 ^ 40 := hn
 refine zB (r := aJ (.int .i64 (ic (jK n w) m)) []) hT Oh hm AD rfl (of_decide_eq_true (by kernel_rfl)) rfl [1,0,1] (i := 0) (y := part jq [1,0,1,0,0]) (z := part jq [1,1]) (by kernel_rfl) (by kernel_rfl) (by kernel_rfl) (f1 := []) (f2 := [9, 16]) (f3 := []) 60 ju 0
  (fun i : Nat => ny w m (sw x n) i) (fun _ => []) (fun i => i ≤ m ∧ ∀ j, j < i → jK n w j = false) (fun i => i = m ∧ ∀ j, j < i → jK n w j = false) (fun i => m - i) (fun _ => ⟨⟨_, RP, ?_⟩, fun i ⟨h1, h2⟩ => ⟨_, I4, ?_⟩, fun i ⟨h1, h2⟩ => ⟨_, Rj, ?_⟩⟩) K []
 ·exact ⟨0, ⟨Nat.zero_le _, fun j hj => by omega⟩, .vals rfl⟩
 ·simp only [aa.all, az, decide_eq_true_eq, decide_eq_false_iff_not, Int.toNat_natCast]
  refine ⟨fun h => ⟨⟨⟨by omega, by omega⟩, jT (Nat.le_refl _)⟩, fun hb => ⟨[.int .i64 i], by kernel_rfl, bm (AK (by omega) (decide_eq_true hb) h2).symm⟩, fun hb => ⟨by omega, i + 1, ⟨by omega, fun j hj => ?_⟩, by dsimp only; omega, .vals rfl⟩⟩, fun h => ⟨rfl, i, ⟨by omega, h2⟩, .vals rfl⟩⟩
  by_cases hji : j = i
  ·subst hji; exact decide_eq_false hb
  ·exact h2 j (by omega)
 ·subst h1
  exact bm (FE h2).symm
theorem Ru : ∀ K args pre r, El K args pre = some r → aC P vi K args pre r := by
 refine gj fun a K hn => ?_
 obtain ⟨⟨m, w⟩, ⟨⟨n, x⟩, ⟨k, v⟩⟩, _⟩ := a
 obtain ⟨n1, n2, n3, n4, n5⟩ := hn
 have n1 : m < 2 ^ 40 := n1
 have n2 : ∀ i, i < m → 0 ≤ w i ∧ w i < (n : Int) := n2
 have n3 : 0 < k := n3
 have n4 : 0 ≤ v 0 ∧ v 0 < (n : Int) := n4
 have n5 : fO x n := n5
 refine zB (r := aJ (.int .i64 (ic (gH x w (v 0)) m)) []) hT IJ hm AD rfl (of_decide_eq_true (by kernel_rfl)) rfl [1,0,1] (i := 0) (y := part jq [1,0,1,0,0]) (z := part jq [1,1]) (by kernel_rfl) (by kernel_rfl) (by kernel_rfl) (f1 := []) (f2 := [9, 16]) (f3 := []) 60 ju 0
  (fun i : Nat => ny w m (r4 x n v k) i) (fun _ => []) (fun i => i ≤ m ∧ ∀ j, j < i → gH x w (v 0) j = false) (fun i => i = m ∧ ∀ j, j < i → gH x w (v 0) j = false) (fun i => m - i) (fun _ => ⟨⟨_, R7, ?_⟩, fun i ⟨h1, h2⟩ => ⟨_, FJ, ?_⟩, fun i ⟨h1, h2⟩ => ⟨_, NL, ?_⟩⟩) K []
 ·exact ⟨0, ⟨Nat.zero_le _, fun j hj => by omega⟩, .vals rfl⟩
 ·simp only [aa.all, az, decide_eq_true_eq, decide_eq_false_iff_not, Int.toNat_natCast, uC, wm]
  refine ⟨fun h => ⟨⟨⟨by omega, by omega⟩, jT (Nat.le_refl _), fun _ _ => rfl, n2 i (by omega), n3, n4, n5⟩, fun hb => ⟨[.int .i64 i], by kernel_rfl, bm (AK (by omega) hb h2).symm⟩, fun hb => ⟨by omega, i + 1, ⟨by omega, fun j hj => ?_⟩, by dsimp only; omega, .vals rfl⟩⟩, fun h => ⟨rfl, i, ⟨by omega, h2⟩, .vals rfl⟩⟩
  by_cases hji : j = i
  ·subst hji; exact hb
  ·exact h2 j (by omega)
 ·subst h1
  exact bm (FE h2).symm
theorem HR : ∀ K args pre r, AI K args pre = some r → aC P uc K args pre r := by
 refine gj fun a K hn => ?_
 obtain ⟨⟨m, w⟩, ⟨n, x⟩, _⟩ := a
 refine bE hT (aK N8 aZ) hm E7 rfl (of_decide_eq_true (by kernel_rfl)) rfl 60 (Nf (x := x) (w := w) (n := n) (m := m)) (fun _ => ?_) K []
 simp only [aa.all, az, AL]
 exact ⟨⟨fun _ _ => rfl, jT (Nat.le_refl _), hn⟩, .refl _⟩
theorem P1 : ∀ K args pre r, CG K args pre = some r → aC P uc K args pre r := by
 refine gj fun a K hn => ?_
 obtain ⟨⟨m, w⟩, ⟨⟨n, x⟩, ⟨k, v⟩⟩, _⟩ := a
 refine bE hT (aK Ru aZ) hm E7 rfl (of_decide_eq_true (by kernel_rfl)) rfl 60 (Nv (x := x) (w := w) (v := v) (n := n) (m := m) (k := k)) (fun _ => ?_) K []
 simp only [aa.all, az, uC, wm]
 exact ⟨⟨fun _ _ => rfl, jT (Nat.le_refl _), fun _ _ => rfl, hn.1, hn.2.1, hn.2.2.1, hn.2.2.2.1, hn.2.2.2.2⟩, ep (AL (p := gH x w (v 0)))⟩
theorem Qh : ∀ K args pre r, xu K args pre = some r → aC P uc K args pre r := by
 intro K args pre r h
 unfold xu at h
 split at h
 ·rename_i r' h1
  simp only [Option.some.injEq] at h
  subst h
  exact HR K args pre r' h1
 ·exact P1 K args pre r h
theorem Pj : bC P AW := iH (aK Qh aZ)
theorem JL : ∀ K args pre r, FG K args pre = some r → aC P wz K args pre r := by
 refine gj fun a K hn => ?_
 obtain ⟨⟨n, x⟩, ⟨m, w⟩, _⟩ := a
 obtain ⟨n1, n2, n3⟩ := hn
 have n1 : m < 2 ^ 40 := n1
 have n2 : n < 2 ^ 40 := n2
 have n3 : fO x n := n3
 refine bE hT Pj hm Jn rfl (of_decide_eq_true (by kernel_rfl)) rfl 60 (Hz (x := x) (w := w) (n := n) (m := m)) (fun _ => ?_) K []
 show aa.all (fun _ us => dQ us (.int .i64 (eC x n w m))) _
 simp only [aa.all, az, uC, wm, beq_iff_eq, beq_eq_false_iff_ne, cond_false]
 refine ⟨fun h => ⟨⟨by omega, h⟩, fun _ => bm ?_, fun h => by simp at h⟩, fun h => ⟨⟨by omega, h, by omega, fun _ _ => rfl, jT (Nat.le_refl _), n1⟩, fun hb => bm ?_, fun hb => ⟨⟨by omega, fun _ _ => rfl, jT (Nat.le_refl _), fun _ _ => rfl, n1, fun i hi => ?_, by omega, ?_, n3⟩, fun ho => bm ?_, fun ho => bm ?_⟩⟩⟩
 ·unfold eC; rw [if_pos (by omega)]
 ·unfold eC; rw [if_neg (by omega), if_pos hb]
 ·have h : ¬ (w i < 0 ∨ (n : Int) ≤ w i) := of_decide_eq_false (tN hb hi)
  show 0 ≤ w i ∧ w i < (n : Int)
  omega
 ·have h : ¬ (w 0 < 0 ∨ (n : Int) ≤ w 0) := of_decide_eq_false (tN hb (i := 0) (by omega))
  show 0 ≤ w 0 ∧ w 0 < (n : Int)
  omega
 ·unfold eC; rw [if_neg (by omega), if_neg (by rw [hb]; decide), if_pos ho]
 ·unfold eC; rw [if_neg (by omega), if_neg (by rw [hb]; decide), if_neg (by rw [ho]; decide)]
end Go.Am.B

/- trace.Hull. -/
namespace Go.Am.B
open Go Go.Am.N AV aa aj IntKind
theorem BQ : aO P nA mM (ax mM) := aS Kr (by kernel_rfl) (by kernel_rfl) (by kernel_rfl)
def r8 (s t : Sp) : Sp := ⟨cO s.lo t.lo, cQ s.hi t.hi⟩
def ga (x : Nat → Ce) (w : Nat → Int) : Nat → Nat → Sp
 | 0, j => (x (w 0).toNat).sp j
 | k + 1, j => r8 (ga x w k j) ((x (w (k + 1)).toNat).sp j)
def Ce.IL (c : Ce) : Prop := ∀ i, i < c.na + c.nb → (c.sp i).lo ≤ (c.sp i).hi
def sV (x : Nat → Ce) (n : Nat) : Prop := ∀ i, i < n → (x i).IL
def iO (x : Nat → Ce) (n : Nat) (w : Nat → Int) (m : Nat) : Ce :=
 if eC x n w m = 0 then ⟨(x (w 0).toNat).na, ga x w (m - 1), (x (w 0).toNat).nb, fun j => ga x w (m - 1) (j + (x (w 0).toNat).na), 1, 0⟩ else ⟨0, fun _ => ⟨0, 0⟩, 0, fun _ => ⟨0, 0⟩, 0, 0⟩
noncomputable def jB : bf := nG :: (wz, FG) :: (rB, yt 64) :: (x4, s5 T vQ [] 60 vK) :: (yz, s5 T vQ [] 60 vw) :: []
noncomputable abbrev wU : Code := ax mM
noncomputable abbrev m8 : Code := part wU [1,1,1,0,1,0,0]
noncomputable abbrev tY : Code := part m8 [1,1,0,0]
noncomputable abbrev nK : Code := part tY [1,1,0,0]
noncomputable abbrev tS : Code := part nK [1,1,0,0]
abbrev kf : List Nat := [4, 5, 0, 1, 7, 20, 21, 22]
abbrev nP (x : Nat → Ce) (n : Nat) (w : Nat → Int) (m l k : Nat) : List AV := [.ptr 0 0 4 0 [], .int .i64 0, eu x n 64, fE w m, .own 1 6 0 l, fE w m, .int .i64 m, .int .i64 k]
abbrev yD : aH := ⟨false, true, 4, 1, fun _ => .agg [.nil, .nil, .int .i64 0, .int .i64 0]⟩
abbrev gX (l : Nat) (g : Nat → Sp) : aA := [(1, ⟨true, true, 6, l, fun j => sA (g j) 64⟩), (0, yD)]
abbrev j4 : List Nat := [4, 5, 0, 1, 7, 20, 21, 22, 8, 31, 32, 33]
abbrev qm (x : Nat → Ce) (n : Nat) (w : Nat → Int) (m l k N : Nat) (f : Nat → Sp) (j : Nat) : List AV := [.ptr 0 0 4 0 [], .int .i64 0, eu x n 64, fE w m, .own 1 6 0 l, fE w m, .int .i64 m, .int .i64 k, .int .i64 k, iP f N 64, .int .i64 N, .int .i64 j]
abbrev wZ : List Nat := [4, 5, 0, 1, 7, 20, 21, 22, 8, 31, 32, 33, 10, 11]
abbrev zd (x : Nat → Ce) (n : Nat) (w : Nat → Int) (m l k N : Nat) (f : Nat → Sp) (j : Nat) : List AV := [.ptr 0 0 4 0 [], .int .i64 0, eu x n 64, fE w m, .own 1 6 0 l, fE w m, .int .i64 m, .int .i64 k, .int .i64 k, iP f N 64, .int .i64 N, .int .i64 j, .int .i64 j, .ptr 2 0 6 0 []]
abbrev zN (l : Nat) (g : Nat → Sp) (s : Sp) : aA := [(2, ⟨false, true, 6, 1, fun _ => sA s 64⟩), (1, ⟨true, true, 6, l, fun j => sA (g j) 64⟩), (0, yD)]
abbrev Uh : aH := ⟨false, true, 4, 1, fun j => if (j == (0 : Nat)) = true then dg (.agg [.nil, .nil, .int .i64 0, .int .i64 0]) else .agg [.nil, .nil, .int .i64 0, .int .i64 0]⟩
theorem Rd {x : Nat → Ce} {w : Nat → Int} {n m : Nat} : aG T jB [17] 60 kf (before wU [1,1,1,0,1]) ⟨aM 0 [eu x n 64, fE w m], [], 0⟩ =
  let c6 : AV := int i64 (0 : Int); let c5 : AV := ptr 0 0 4 0 []; let c4 : AV := ah 1 m fun i ↦ int i64 (w i); let c3 : Int := eC (fun i ↦ dL (bO (x i) 64)) n (fun i ↦ dw (int i64 (w i))) m; let c1 : AV := ah 4 n fun i ↦ agg [ah 6 (x i).na fun i_1 ↦ agg [rat ((x i).a i_1).lo 64, rat ((x i).a i_1).hi 64], ah 6 (x i).nb fun i_1 ↦ agg [rat ((x i).b i_1).lo 64, rat ((x i).b i_1).hi 64], int i64 (x i).k, int i64 (x i).j]; let c2 : AV := agg [nil, nil, c6, c6]; some (af [ir (fun i ↦ bO (x i) 64) n 64, fM (fun i ↦ int i64 (w i)) m, m < 2 ^ 40, n < 2 ^ 40, fO (fun i ↦ dL (bO (x i) 64)) n] (fork (c3 != (0 : Int)) (af [(0 : Nat) < 1] (leaf ret ([c5, int i64 c3, c1, c4, tuple [], tuple [], tuple [], tuple []], [((0 : Nat), aH.mk false true 4 1 fun j ↦ if (j == 0) = true then dg (agg c2.kids) else c2)]))) (leaf normal ([c5, c6, c1, c4, nil, c4, int i64 (↑m : Int), c6], [((0 : Nat), aH.mk false true 4 1 fun x ↦ c2)])))) := by kernel_rfl
theorem Md {e : Int} : iC T mM .ret ⟨aB [4, 5] [.ptr 0 0 4 0 [], .int .i64 e], [(0, Uh)], 4⟩ =
  some (af [(0 : Nat) < 1] (leaf ret [agg [nil, nil, int i64 (0 : Int), int i64 (0 : Int)], int i64 e])) := by kernel_rfl
theorem QS {x : Nat → Ce} {w : Nat → Int} {n m l k : Nat} {g : Nat → Sp} : aG T jB [23] 60 kf (before m8 [1,1,0]) ⟨aB kf (nP x n w m l k), gX l g, 2⟩ =
  let c3 : AV := int i64 (0 : Int); let c2 : AV := ah 1 m fun i ↦ int i64 (w i); let c1 : List AV × aA := ([ptr 0 0 4 0 [], c3, ah 4 n fun i ↦ agg [ah 6 (x i).na fun i_1 ↦ agg [rat ((x i).a i_1).lo 64, rat ((x i).a i_1).hi 64], ah 6 (x i).nb fun i_1 ↦ agg [rat ((x i).b i_1).lo 64, rat ((x i).b i_1).hi 64], int i64 (x i).k, int i64 (x i).j], c2, own 1 6 0 l, c2, int i64 (↑m : Int), int i64 (↑k : Int)], [((1 : Nat), aH.mk true true 6 l fun j ↦ agg [rat (g j).lo 64, rat (g j).hi 64]), ((0 : Nat), aH.mk false true 4 1 fun x ↦ agg [nil, nil, c3, c3])]); some (fork (decide ((↑k : Int) < (↑m : Int))) (leaf normal c1) (leaf (exit 0) c1)) := by kernel_rfl
theorem U0 {x : Nat → Ce} {w : Nat → Int} {n m l k : Nat} {g : Nat → Sp} : aG T jB [] 60 j4 (before tY [1,1]) ⟨aB kf (nP x n w m l k), gX l g, 2⟩ =
  let c5 : AV := ah 1 m fun i ↦ int i64 (w i); let c4 : Int := (↑k : Int); let c3 : AV := int i64 (0 : Int); let c1 : Ce := x (w c4.toNat).toNat; let c2 : Ce := Ce.mk c1.na (fun i ↦ dX (sA (c1.a i) 64)) c1.nb (fun i ↦ dX (sA (c1.b i) 64)) c1.k c1.j; some (af [(0 : Int) ≤ c4 ∧ c4.toNat < m] (af [(0 : Int) ≤ w c4.toNat ∧ (w c4.toNat).toNat < n, ek (fun i ↦ sA (c1.a i) 64) c1.na 64, ek (fun i ↦ sA (c1.b i) 64) c1.nb 64, c1.na + c1.nb < 2 ^ 30] (leaf normal ([ptr 0 0 4 0 [], c3, ah 4 n fun i ↦ agg [ah 6 (x i).na fun i_1 ↦ agg [rat ((x i).a i_1).lo 64, rat ((x i).a i_1).hi 64], ah 6 (x i).nb fun i_1 ↦ agg [rat ((x i).b i_1).lo 64, rat ((x i).b i_1).hi 64], int i64 (x i).k, int i64 (x i).j], c5, own 1 6 0 l, c5, int i64 (↑m : Int), int i64 c4, int i64 c4, ah 6 (c1.na + c1.nb) fun i ↦ agg [rat (c2.sp i).lo 64, rat (c2.sp i).hi 64], int i64 (↑(c1.na + c1.nb) : Int), c3], [((1 : Nat), aH.mk true true 6 l fun j ↦ agg [rat (g j).lo 64, rat (g j).hi 64]), ((0 : Nat), aH.mk false true 4 1 fun x ↦ agg [nil, nil, c3, c3])])))) := by kernel_rfl
theorem Uz {x : Nat → Ce} {w : Nat → Int} {n m l k N j : Nat} {f g : Nat → Sp} : aG T jB [34] 60 j4 (before nK [1,1,0]) ⟨aB j4 (qm x n w m l k N f j), gX l g, 2⟩ =
  let c3 : AV := int i64 (0 : Int); let c2 : AV := ah 1 m fun i ↦ int i64 (w i); let c1 : List AV × aA := ([ptr 0 0 4 0 [], c3, ah 4 n fun i ↦ agg [ah 6 (x i).na fun i_1 ↦ agg [rat ((x i).a i_1).lo 64, rat ((x i).a i_1).hi 64], ah 6 (x i).nb fun i_1 ↦ agg [rat ((x i).b i_1).lo 64, rat ((x i).b i_1).hi 64], int i64 (x i).k, int i64 (x i).j], c2, own 1 6 0 l, c2, int i64 (↑m : Int), int i64 (↑k : Int), int i64 (↑k : Int), ah 6 N fun i ↦ agg [rat (f i).lo 64, rat (f i).hi 64], int i64 (↑N : Int), int i64 (↑j : Int)], [((1 : Nat), aH.mk true true 6 l fun j ↦ agg [rat (g j).lo 64, rat (g j).hi 64]), ((0 : Nat), aH.mk false true 4 1 fun x ↦ agg [nil, nil, c3, c3])]); some (fork (decide ((↑j : Int) < (↑N : Int))) (leaf normal c1) (leaf (exit 2) c1)) := by kernel_rfl
theorem FT {x : Nat → Ce} {w : Nat → Int} {n m l k N j : Nat} {f g : Nat → Sp} : aG T jB [39] 60 wZ (before tS [1,1]) ⟨aB j4 (qm x n w m l k N f j), gX l g, 2⟩ =
  let c12 : Int := (↑j : Int); let c11 : Nat := Max.max 64 64; let c10 : AV := int i64 (0 : Int); let c9 : AV := ptr 0 0 4 0 []; let c8 : AV := rat 0 1; let c6 : AV := ah 1 m fun i ↦ int i64 (w i); let c4 : Prop := 0 < 1; let c1 : AV := ah 4 n fun i ↦ agg [ah 6 (x i).na fun i_1 ↦ agg [rat ((x i).a i_1).lo 64, rat ((x i).a i_1).hi 64], ah 6 (x i).nb fun i_1 ↦ agg [rat ((x i).b i_1).lo 64, rat ((x i).b i_1).hi 64], int i64 (x i).k, int i64 (x i).j]; let c7 : Nat := c12.toNat; let c5 : Nat × aH := ((0 : Nat), aH.mk false true 4 1 fun x ↦ agg [nil, nil, c10, c10]); let c2 : List AV := [c6, int i64 (↑m : Int), int i64 (↑k : Int), int i64 (↑k : Int), ah 6 N fun i ↦ agg [rat (f i).lo 64, rat (f i).hi 64], int i64 (↑N : Int), int i64 c12, int i64 c12, ptr 12290 0 6 0 []]; let c3 : Nat × aH := ((12290 : Nat), aH.mk false true 6 1 fun j ↦ if (j == 0) = true then dg (sA (f c7) 64) else agg [c8, c8]); some (af [(0 : Int) ≤ c12 ∧ c7 < N, c4] (fork ((↑k : Int) == (0 : Int)) (af [c4, c4, c4, c4, c4, c4, c4, c4, (1 : Nat) * 6 ≤ 2 ^ 24, (l + 1) * ((112 : Nat) + 1) * 2 ≤ 2 ^ 47] (leaf normal (c9 :: c10 :: c1 :: c6 :: own 61442 6 0 (l + 1) :: c2, [c3, ((61442 : Nat), aH.mk true true 6 (l + 1) fun i ↦ if i < l then sA (g i) 64 else nth [agg [rat (cO (f c7).lo (f c7).hi) c11, rat (cQ (f c7).lo (f c7).hi) c11]] (agg [c8, c8]) (i - l + 0)), c5]))) (leaf normal (c9 :: c10 :: c1 :: c6 :: own 1 6 0 l :: c2, [c3, ((1 : Nat), aH.mk true true 6 l fun j ↦ agg [rat (g j).lo 64, rat (g j).hi 64]), c5])))) := by kernel_rfl
theorem OP {x : Nat → Ce} {w : Nat → Int} {n m l k N j : Nat} {f g : Nat → Sp} {s : Sp} : aG T jB [] 60 j4 [part tS [1,1], part nK [1,1,1]] ⟨aB wZ (zd x n w m l k N f j), zN l g s, 3⟩ =
  let c6 : Nat := Max.max 64 64; let c5 : AV := int i64 (0 : Int); let c4 : AV := ah 1 m fun i ↦ int i64 (w i); let c3 : Int := (↑j : Int); let c2 : Prop := 0 < 1; let c8 : Int := c3 + (1 : Int); let c7 : Prop := (0 : Int) ≤ c3 ∧ c3.toNat < l; let c1 : Nat := c3.toNat + 0; some (af [c7, c1 < l, c2, c2, c2, c2, c2, c2, c2, c7, c1 < l] (af [-(2 : Int) ^ 63 ≤ c8 ∧ c8 < (2 : Int) ^ 63] (leaf normal ([ptr 0 0 4 0 [], c5, ah 4 n fun i ↦ agg [ah 6 (x i).na fun i_1 ↦ agg [rat ((x i).a i_1).lo 64, rat ((x i).a i_1).hi 64], ah 6 (x i).nb fun i_1 ↦ agg [rat ((x i).b i_1).lo 64, rat ((x i).b i_1).hi 64], int i64 (x i).k, int i64 (x i).j], c4, own 1 6 0 l, c4, int i64 (↑m : Int), int i64 (↑k : Int), int i64 (↑k : Int), ah 6 N fun i ↦ agg [rat (f i).lo 64, rat (f i).hi 64], int i64 (↑N : Int), int i64 c8], [((1 : Nat), aH.mk true true 6 l fun j ↦ agg [rat (bif j == c1 then cO (g c1).lo s.lo else (g j).lo) (bif j == c1 then c6 else 64), rat (bif j == c1 then cQ (g c1).hi s.hi else (g j).hi) (bif j == c1 then c6 else 64)]), ((0 : Nat), aH.mk false true 4 1 fun x ↦ agg [nil, nil, c5, c5])])))) := by kernel_rfl
theorem MK {x : Nat → Ce} {w : Nat → Int} {n m l k N j : Nat} {f g : Nat → Sp} : aG T jB [] 60 kf [part m8 [1,1,1]] ⟨aB j4 (qm x n w m l k N f j), gX l g, 2⟩ =
  let c3 : AV := int i64 (0 : Int); let c2 : AV := ah 1 m fun i ↦ int i64 (w i); let c1 : Int := (↑k : Int) + (1 : Int); some (af [-(2 : Int) ^ 63 ≤ c1 ∧ c1 < (2 : Int) ^ 63] (leaf normal ([ptr 0 0 4 0 [], c3, ah 4 n fun i ↦ agg [ah 6 (x i).na fun i_1 ↦ agg [rat ((x i).a i_1).lo 64, rat ((x i).a i_1).hi 64], ah 6 (x i).nb fun i_1 ↦ agg [rat ((x i).b i_1).lo 64, rat ((x i).b i_1).hi 64], int i64 (x i).k, int i64 (x i).j], c2, own 1 6 0 l, c2, int i64 (↑m : Int), int i64 c1], [((1 : Nat), aH.mk true true 6 l fun j ↦ agg [rat (g j).lo 64, rat (g j).hi 64]), ((0 : Nat), aH.mk false true 4 1 fun x ↦ agg [nil, nil, c3, c3])]))) := by kernel_rfl
theorem Jb {x : Nat → Ce} {w : Nat → Int} {n m l k : Nat} {g : Nat → Sp} : cJ T jB [] 60 mM [part wU [1,1,1,1]] ⟨aB kf (nP x n w m l k), gX l g, 2⟩ =
  let c3 : Int := (↑l : Int); let c2 : Nat := Int.toNat (0 : Int); let c1 : Int := (↑(x (w c2).toNat).na : Int); some (af [(0 : Int) ≤ (0 : Int) ∧ c2 < m, (0 : Int) ≤ w c2 ∧ (w c2).toNat < n] (af [(0 : Int) ≤ (0 : Int) ∧ (0 : Int) ≤ c1 ∧ c1 ≤ c1 ∧ c1 ≤ c3, (0 : Int) ≤ c1 ∧ c1 ≤ c3 ∧ c3 ≤ c3 ∧ c3 ≤ c3, (0 : Nat) < 1] (af [(0 : Nat) < 1] (leaf ret [agg [ah 6 (c1.toNat - c2) fun i ↦ agg [rat (g (i + ((0 : Nat) + c2))).lo 64, rat (g (i + ((0 : Nat) + c2))).hi 64], ah 6 (c3.toNat - c1.toNat) fun i ↦ agg [rat (g (i + ((0 : Nat) + c1.toNat))).lo 64, rat (g (i + ((0 : Nat) + c1.toNat))).hi 64], int i64 (1 : Int), int i64 (0 : Int)], int i64 (0 : Int)])))) := by kernel_rfl
theorem kW : bC P jB := iH (aK JL (aK (Av 64) (aK (uS hT w8 hm JV _ _) (aK (uS hT w8 hm NS _ _) aZ))))
theorem Aq {x : Nat → Ce} {n m : Nat} {w : Nat → Int} (h : eC x n w m = 0) : 0 < m ∧ (∀ i, i < m → 0 ≤ w i ∧ w i < (n : Int)) ∧ ∀ i, i < m → (x (w i).toNat).na = (x (w 0).toNat).na ∧ (x (w i).toNat).nb = (x (w 0).toNat).nb := by
 unfold eC at h
 split at h
 ·omega
 ·split at h
  ·omega
  ·rename_i h1 h2
   split at h
   ·omega
   ·rename_i h3
    refine ⟨by omega, fun i hi => ?_, fun i hi => ?_⟩
    ·have h : ¬ (w i < 0 ∨ (n : Int) ≤ w i) := of_decide_eq_false (tN (by simpa using h2) hi)
     omega
    ·have := tN (p := gH x w (w 0)) (by simpa using h3) hi
     unfold gH at this
     rw [Bool.not_eq_false'] at this
     exact of_decide_eq_true this
theorem OW {a b : Rat} (h : a ≤ b) : cO a b = a := by unfold cO; grind
theorem Ma {a b : Rat} (h : a ≤ b) : cQ a b = b := by unfold cQ; grind
theorem SN {a : Rat} : cO a a = a := by unfold cO; split <;> rfl
theorem HD {a : Rat} : cQ a a = a := by unfold cQ; split <;> rfl
def eO (x : Nat → Ce) (w : Nat → Int) (k j b : Nat) : Sp := if b < j then ga x w k b else ga x w (k - 1) b
theorem Ts {x : Nat → Ce} {w : Nat → Int} {k j : Nat} : r8 (eO x w k j j) ((x (w k).toNat).sp j) = eO x w k (j + 1) j := by
 unfold eO
 rw [if_neg (Nat.lt_irrefl _), if_pos (by omega)]
 cases k with
 | zero =>
  show r8 ((x (w 0).toNat).sp j) ((x (w 0).toNat).sp j) = (x (w 0).toNat).sp j
  unfold r8
  rw [SN, HD]
 | succ k => rfl
theorem Oj {x : Nat → Ce} {w : Nat → Int} {k j b : Nat} (h : b ≠ j) : eO x w k j b = eO x w k (j + 1) b := by
 unfold eO
 by_cases hb : b < j
 ·rw [if_pos hb, if_pos (by omega)]
 ·rw [if_neg hb, if_neg (by omega)]
theorem Sf {x : Nat → Ce} {w : Nat → Int} {j b : Nat} : eO x w 0 j b = (x (w 0).toNat).sp b := by
 unfold eO; split <;> rfl
theorem K7 {x : Nat → Ce} {n m : Nat} {w : Nat → Int} (n1 : m < 2 ^ 40) (n2 : n < 2 ^ 40) (n3 : fO x n) (n4 : sV x n) (K : Nat) :
  aC P nA K [eu x n 64, fE w m] [] (aJ (.tuple [bO (iO x n w m) 64, .int .i64 (eC x n w m)]) []) := by
 refine fX (r := aJ (.tuple [bO (iO x n w m) 64, .int .i64 (eC x n w m)]) []) hT BQ rfl (of_decide_eq_true (by kernel_rfl)) rfl (fun _ cx h0 => ?_) K []
 have hk := vX h0
 obtain ⟨N, hN⟩ : ∃ N, N = (x (w 0).toNat).na + (x (w 0).toNat).nb := ⟨_, rfl⟩
 have hmp : ∀ {l : Nat} {g : Nat → Sp}, gm 2 [(0, 0), (1, 1)] [(1, ⟨true, true, 6, l, fun j => sA (g j) 64⟩), (0, yD)] (gX l g) := bh rfl rfl rfl (fun _ _ => aP rfl rfl) (cV rfl rfl (aP rfl rfl) trivial)
 refine aq.vE hT kW hm [1,1,1,0,1] (i := 0) (y := m8) (z := part wU [1,1,1,1]) (by kernel_rfl) (by kernel_rfl) (by kernel_rfl) BQ.dst hk (f1 := [17]) 60 kf 2 (fun k : Nat => nP x n w m (if k = 0 then 0 else N) k) (fun k => gX (if k = 0 then 0 else N) (ga x w (k - 1)))
  (fun k => k ≤ m ∧ eC x n w m = 0) (fun k => k = m ∧ eC x n w m = 0) (fun k => m - k) (zu T mM [4, 5] (.tuple [bO (iO x n w m) 64, .int .i64 (eC x n w m)])) ⟨_, Rd, ?_⟩ (fun k ⟨k1, k2⟩ => ?_) (fun k ⟨k1, k2⟩ => ?_) (fun v s' hv hs' => hv.fin (L1 := [0, 1, 7, 20, 21, 22]) hk hs')
 ·simp only [aa.all, az, uC, wm, bne_iff_ne, ne_eq, bne_eq_false_iff_eq]
  refine ⟨⟨jT (Nat.le_refl _), fun _ _ => rfl, n1, n2, n3⟩, fun h => ⟨by omega, [.ptr 0 0 4 0 [], .int .i64 (eC x n w m)], _, 4, _, rfl, rfl, rfl, Md, rfl, ⟨⟨by omega, fun _ _ => xQ rfl rfl⟩, trivial⟩, ⟨Nat.zero_lt_one, ?_⟩⟩,
   fun h => ⟨0, ⟨Nat.zero_le _, h⟩, [(0, 0)], rfl, rfl, rfl, sY rfl (by omega) (by omega) (cV rfl rfl (aP rfl rfl) trivial)⟩⟩
  unfold iO
  rw [if_neg h]
  exact ⟨fC ⟨gQ (by omega), gQ (by omega), .refl _, .refl _, trivial⟩, .refl _, trivial⟩
 ·obtain ⟨c1, c2, c3⟩ := Aq k2
  refine aq.nS hT kW hm (y := m8) (x1 := tY) (zb := part m8 [1,1,1]) [1,1,0] (j := 1) (by kernel_rfl) (by kernel_rfl) (by kernel_rfl) (by kernel_rfl) hk (f1 := [23]) 60 kf 2 (fun _ : Unit => nP x n w m (if k = 0 then 0 else N) k) (fun _ => gX (if k = 0 then 0 else N) (ga x w (k - 1))) (fun _ => k < m) ⟨_, QS, ?_⟩ (fun _ hlt => ?_)
  ·simp only [aa.all, az, decide_eq_true_eq, decide_eq_false_iff_not]
   exact ⟨fun h => ⟨(), by omega, [(0, 0), (1, 1)], rfl, rfl, rfl, hmp⟩, fun h s' hs' => ⟨rfl, k, ⟨by omega, k2⟩, dK.le ⟨[(0, 0), (1, 1)], rfl, rfl, rfl, hmp⟩ hs' hk⟩⟩
  have hwk := c2 k hlt
  have hfew := n3 (w k).toNat (by omega)
  have hok := n4 (w k).toNat (by omega)
  have hck := c3 k hlt
  obtain ⟨M, hM⟩ : ∃ M, M = (x (w k).toNat).na + (x (w k).toNat).nb := ⟨_, rfl⟩
  have hMN : M = N := by omega
  refine aq.U2 hT kW hm (x := tY) [1,1] (i := 2) (y := nK) (by kernel_rfl) (by kernel_rfl) (by kernel_rfl) hk (f1 := []) 60 j4 2 (fun j : Nat => qm x n w m (if k = 0 then j else N) k M (x (w k).toNat).sp j)
   (fun j => gX (if k = 0 then j else N) (eO x w k j)) (fun j => j ≤ M) (fun j => j = M) (fun j => M - j) (fun _ => False) ⟨_, U0, ?_⟩ (fun j hj => ?_) (fun j s' hj hle => ?_) (fun _ _ h => h.elim)
  ·simp only [aa.all, az, Int.toNat_natCast]
   refine ⟨⟨by omega, by omega⟩, ⟨⟨by omega, by omega⟩, bS (Nat.le_refl _), bS (Nat.le_refl _), hfew⟩, 0, Nat.zero_le _, [(0, 0), (1, 1)], rfl, by rw [hM]; rfl, rfl, bh rfl rfl rfl (fun b _ => aP rfl ?_) (cV rfl rfl (aP rfl rfl) trivial)⟩
   show _ = sA (eO x w k 0 b) 64
   unfold eO
   rw [if_neg (Nat.not_lt_zero _)]
  ·refine aq.nS hT kW hm (y := nK) (x1 := tS) (zb := part nK [1,1,1]) [1,1,0] (j := 3) (by kernel_rfl) (by kernel_rfl) (by kernel_rfl) (by kernel_rfl) hk (f1 := [34]) 60 j4 2 (fun _ : Unit => qm x n w m (if k = 0 then j else N) k M (x (w k).toNat).sp j) (fun _ => gX (if k = 0 then j else N) (eO x w k j)) (fun _ => j < M) ⟨_, Uz, ?_⟩ (fun _ hjl => ?_)
   ·simp only [aa.all, az, decide_eq_true_eq, decide_eq_false_iff_not]
    exact ⟨fun h => ⟨(), by omega, [(0, 0), (1, 1)], rfl, rfl, rfl, hmp⟩, fun h s' hs' => ⟨rfl, j, by omega, dK.le ⟨[(0, 0), (1, 1)], rfl, rfl, rfl, hmp⟩ hs' hk⟩⟩
   have hvj := hok j (by omega)
   refine aq.tL hT kW hm (x := tS) [1,1] (by kernel_rfl) (by kernel_rfl) (by kernel_rfl) hk (f1 := [39]) 60 wZ 3 (fun _ : Unit => zd x n w m (if k = 0 then j + 1 else N) k M (x (w k).toNat).sp j) (fun _ => zN (if k = 0 then j + 1 else N) (eO x w k j) ((x (w k).toNat).sp j)) (fun _ => True) ⟨_, FT, ?_⟩ (fun _ _ => ?_)
   ·simp only [aa.all, az, Int.toNat_natCast, beq_iff_eq, beq_eq_false_iff_ne]
    refine ⟨⟨⟨by omega, by omega⟩, by omega⟩, fun h => ?_, fun h => ?_⟩
    ·have hk0 : k = 0 := by omega
     subst hk0
     refine ⟨⟨by omega, by omega, by omega, by omega, by omega, by omega, by omega, by omega, by omega, ?_⟩, (), trivial, [(0, 0), (1, 61442), (2, 12290)], rfl, rfl, rfl, cV rfl rfl (aP rfl rfl) (bh rfl rfl rfl (fun b hb => ?_) (cV rfl rfl (aP rfl rfl) trivial))⟩
     ·show (j + 1) * (112 + 1) * 2 ≤ 2 ^ 47
      omega
     ·have hb : b < j + 1 := hb
      show iE _ (if b < j then sA (eO x w 0 j b) 64 else nth _ _ (b - j + 0)) (sA (eO x w 0 j b) 64)
      by_cases hbj : b < j
      ·rw [if_pos hbj]; exact aP rfl rfl
      ·have : b = j := by omega
       subst this
       rw [if_neg hbj, Nat.sub_self, Sf]
       exact .inr ⟨rfl, fC ⟨iU (OW hvj) (by decide), iU (Ma hvj) (by decide), trivial⟩⟩
    ·have hk0 : k ≠ 0 := by omega
     refine ⟨(), trivial, [(0, 0), (1, 1), (2, 12290)], rfl, ?_, rfl, ?_⟩
     ·show _ = (zd x n w m (if k = 0 then j + 1 else N) k M (x (w k).toNat).sp j).map _
      rw [if_neg hk0, if_neg hk0]; rfl
     ·show gm _ _ _ (zN (if k = 0 then j + 1 else N) (eO x w k j) ((x (w k).toNat).sp j))
      rw [if_neg hk0, if_neg hk0]
      exact cV rfl rfl (aP rfl rfl) (bh rfl rfl rfl (fun b _ => aP rfl rfl) (cV rfl rfl (aP rfl rfl) trivial))
   ·refine aq.tail (fun s' hh => by have := hh.1; omega) (ay.aR hT kW hm 60 j4 OP (by kernel_rfl) ?_)
    have hl : j < (if k = 0 then j + 1 else N) := by split <;> omega
    simp only [aa.all, az, Int.toNat_natCast, Nat.add_zero]
    refine ⟨⟨⟨by omega, hl⟩, hl, by omega, by omega, by omega, by omega, by omega, by omega, by omega, ⟨by omega, hl⟩, hl⟩, by omega, fun s' hs' => ⟨j + 1, by omega, by dsimp only; omega, dK.le ⟨[(0, 0), (1, 1)], rfl, rfl, rfl, bh rfl rfl rfl (fun b _ => ?_) (cV rfl rfl (aP rfl rfl) trivial)⟩ hs' hk⟩⟩
    by_cases hbj : b = j
    ·subst hbj
     have e := Ts (x := x) (w := w) (k := k) (j := b)
     refine .inr ⟨rfl, ?_⟩
     show bn _ (sA (eO x w k (b + 1) b) 64)
     rw [← e]
     simp only [beq_self_eq_true, cond_true]
     exact fC ⟨iU rfl (by decide), iU rfl (by decide), trivial⟩
    ·have e : (b == j) = false := by simpa using hbj
     simp only [e, cond_false]
     refine aP rfl ?_
     show _ = sA (eO x w k (j + 1) b) 64
     rw [← Oj hbj]
  ·have hj : j = M := hj
   subst hj
   show aq P cx _ (part m8 [1,1,1]) s' _
   have e : (if k = 0 then j else N) = N := by split <;> omega
   refine aq.iL hle (aq.aR hT kW hm 60 kf MK (by kernel_rfl) ?_)
   simp only [aa.all, az]
   refine ⟨by omega, fun s' hs' => ⟨k + 1, ⟨by omega, k2⟩, by dsimp only; omega, dK.le ⟨[(0, 0), (1, 1)], rfl, ?_, rfl, ?_⟩ hs' hk⟩⟩
   ·show _ = (nP x n w m (if k + 1 = 0 then 0 else N) (k + 1)).map _
    rw [e, if_neg (by omega)]; rfl
   ·show gm _ _ _ (gX (if k + 1 = 0 then 0 else N) (ga x w (k + 1 - 1)))
    rw [e, if_neg (by omega)]
    refine bh rfl rfl rfl (fun b hb => aP rfl ?_) (cV rfl rfl (aP rfl rfl) trivial)
    show sA (eO x w k j b) 64 = sA (ga x w k b) 64
    unfold eO
    rw [if_pos (by omega)]
 ·subst k1
  obtain ⟨c1, c2, c3⟩ := Aq k2
  have w0 := c2 0 c1
  refine aq.nE ((ay.fin hT kW hm 60 Jb (by kernel_rfl) ?_).mono fun _ _ h => .inl h)
  rw [if_neg (by omega : ¬ k = 0)]
  simp only [aa.all, az, Int.toNat_natCast, show Int.toNat 0 = 0 from rfl]
  refine ⟨⟨⟨by omega, c1⟩, by omega, by omega⟩, ⟨⟨by omega, by omega, by omega, by omega⟩, ⟨by omega, by omega, by omega, by omega⟩, by omega⟩, by omega, ?_⟩
  unfold iO
  rw [if_pos k2, k2]
  refine ⟨fC ⟨y9 (by dsimp only; omega) fun i _ => vO rfl (Nat.le_refl _), y9 (by dsimp only; omega) fun i _ => vO (by dsimp only; rw [Nat.zero_add]) (Nat.le_refl _), .refl _, .refl _, trivial⟩, .refl _, trivial⟩
def xS : Spec := fN (kC (jQ 64) (kC j0 kN)) (fun a => .tuple [bO (iO a.1.2 a.1.1 a.2.1.2 a.2.1.1) 64, .int .i64 (eC a.1.2 a.1.1 a.2.1.2 a.2.1.1)]) fun a => [a.2.1.1 < 2 ^ 40, a.1.1 < 2 ^ 40, fO a.1.2 a.1.1, sV a.1.2 a.1.1]
theorem BV : ∀ K args pre r, xS K args pre = some r → aC P nA K args pre r := gj fun _ K hn => K7 hn.1 hn.2.1 hn.2.2.1 hn.2.2.2 K
end Go.Am.B

/- brepkernellaw22.awake. -/
namespace Go.Am.B
open Go Go.Am.N AV aa aj IntKind
theorem HH : aO P vT qn (ax qn) := aS Kh (by kernel_rfl) (by kernel_rfl) (by kernel_rfl)
theorem Uc : aO P pS rE (ax rE) := aS NG (by kernel_rfl) (by kernel_rfl) (by kernel_rfl)
def KA (lo hi : Int) : Ce := ⟨1, fun _ => ⟨lo, hi⟩, 0, fun _ => ⟨0, 0⟩, 0, 0⟩
def CE : Spec := fN (kC kI (kC kI kN)) (fun a => bO (KA a.1 a.2.1) 64) fun a => [-2 ^ 31 ≤ a.1 ∧ a.1 < 2 ^ 31, -2 ^ 31 ≤ a.2.1 ∧ a.2.1 < 2 ^ 31]
noncomputable def C7 : bf := (vT, CE) :: (nY, xx) :: (nA, xS) :: (l9, wq) :: []
def Cq : Spec := bp fun l => match l with
 | [] => some (aJ (.bool true) [])
 | _ => none
theorem RM {a b : Int} : bA T [(mW, vZ)] [] 60 qn (ax qn) ⟨aM 0 [.int .i64 a, .int .i64 b], [], 0⟩ =
  let c2 : AV := rat 0 1; let c1 : Int := (2 : Int) ^ 63; some (af [-c1 ≤ a, a < c1, -c1 ≤ b, b < c1, (1 : Nat) * 6 ≤ 2 ^ 24, (0 : Nat) < 1] (af [(0 : Nat) < 1] (leaf ret [agg [ah 6 1 fun i ↦ nth [agg [rat (↑a : Rat) (Max.max 1 (aY a.natAbs)), rat (↑b : Rat) (Max.max 1 (aY b.natAbs))]] (agg [c2, c2]) (i + 0), nil, int i64 (0 : Int), int i64 (0 : Int)]]))) := by kernel_rfl
theorem U5 : bA T C7 [100016, 100023, 100031, 100038, 100042] 60 rE (ax rE) ⟨aM 0 [], [], 0⟩ =
  let c16 : Prop := 0 < 2 ^ 40; let c14 : Prop := 1 + 0 < 2 ^ 30; let c13 : AV := int i64 (0 : Int); let c12 : Nat := Int.toNat (1 : Int); let c10 : AV := sA (Sp.mk (↑(0 : Int) : Rat) (↑(1 : Int) : Rat)) 64; let c9 : AV := sA (Sp.mk (↑(1 : Int) : Rat) (↑(2 : Int) : Rat)) 64; let c8 : AV := sA (Sp.mk 0 0) 64; let c3 : Int := (2 : Int) ^ 31; let c18 : Prop := -c3 ≤ (0 : Int) ∧ (0 : Int) < c3; let c17 : Prop := -c3 ≤ (2 : Int) ∧ (2 : Int) < c3; let c15 : Prop := ek (fun i ↦ c8) 0 64; let c7 : Prop := -c3 ≤ (1 : Int) ∧ (1 : Int) < c3; let c6 : AV := agg [nil, nil, c13, c13]; let c5 : List AV := [ah 6 0 fun i ↦ c8, c13, c13]; let c1 : List AV := [agg ((ah 6 1 fun i ↦ c10) :: c5), agg ((ah 6 1 fun i ↦ sA (Sp.mk (↑(5 : Int) : Rat) (↑(6 : Int) : Rat)) 64) :: c5), agg ((ah 6 1 fun i ↦ c9) :: c5)]; let c2 : List Nat := roots (tT fun i ↦ dL (nth c1 c6 (i + 0))) 3 3; let c11 : Prop := (0 : Int) ≤ (0 : Int) ∧ Int.toNat (0 : Int) < c2.length; let c4 : List Nat := bV (tT fun i ↦ dL (nth c1 c6 (i + 0))) 3 3 (c2.getD (Int.toNat (0 : Int)) 0); some (af [c18, c7, -c3 ≤ (5 : Int) ∧ (5 : Int) < c3, -c3 ≤ (6 : Int) ∧ (6 : Int) < c3, c7, c17, (3 : Nat) * 4 ≤ 2 ^ 24, ir (fun i ↦ nth c1 c6 (i + 0)) 3 64, (3 : Nat) ≤ 12, ∀ (i : Nat), i < 3 → (dL (nth c1 c6 (i + 0))).na + (dL (nth c1 c6 (i + 0))).nb < 2 ^ 30] (af [ir (fun x ↦ nil) 0 64, fM (fun x ↦ nil) 0, c16, c16, fO (fun i ↦ dL nil) 0, sV (fun i ↦ dL nil) 0, (0 : Nat) < 1] (af [((↑c2.length : Int) == (2 : Int)) = true, c11, (bif true then (↑c4.length : Int) == (2 : Int) else false) = true, c11, (0 : Int) ≤ (1 : Int) ∧ c12 < c4.length, (bif true then (↑(c4.getD c12 0) : Int) == (2 : Int) else false) = true, (0 : Int) ≤ (1 : Int) ∧ c12 < c2.length, (bif true then (↑(bV (tT fun i ↦ dL (nth c1 c6 (i + 0))) 3 3 (c2.getD c12 0)).length : Int) == (1 : Int) else false) = true, (bif true then eC (fun i ↦ dL nil) 0 (fun i ↦ dw nil) 0 == (7 : Int) else false) = true, c18, c7, c7, c17, ek (fun i ↦ c10) 1 64, c15, ek (fun i ↦ c9) 1 64, c15, c14, c14] (leaf ret [AV.bool true])))) := by kernel_rfl
theorem F3 : ∀ K args pre r, CE K args pre = some r → aC P vT K args pre r := by
 refine gj fun a K hn => ?_
 obtain ⟨a, b, _⟩ := a
 obtain ⟨h1, h2⟩ := hn
 have h1 : -2 ^ 31 ≤ a ∧ a < 2 ^ 31 := h1
 have h2 : -2 ^ 31 ≤ b ∧ b < 2 ^ 31 := h2
 refine bE hT (aK xY aZ) hm HH rfl (of_decide_eq_true (by kernel_rfl)) rfl 60 (RM (a := a) (b := b)) (fun _ => ?_) K []
 simp only [aa.all, az]
 refine ⟨⟨by omega, by omega, by omega, by omega, by omega, by omega⟩, by omega, fC ⟨ij fun i hi => ?_, gQ (by omega), .refl _, .refl _, trivial⟩⟩
 have : i = 0 := by omega
 subst this
 have b1 : aY a.natAbs ≤ 32 := fJ.2 (by omega)
 have b2 : aY b.natAbs ≤ 32 := fJ.2 (by omega)
 exact fC ⟨iU rfl (by omega), iU rfl (by omega), trivial⟩
theorem Ms : bC P C7 := aK F3 (aK Dy (aK BV (aK y5 aZ)))
theorem Rl (K : Nat) : aC P pS K [] [] (aJ (.bool true) []) := by
 refine bE (r := aJ (.bool true) []) hT Ms hm Uc rfl (of_decide_eq_true (by kernel_rfl)) rfl 60 U5 (fun _ => ?_) K []
 simp only [aa.all, az]
 (repeat' with_reducible refine And.intro ?_ ?_)
 all_goals first | omega | kernel_rfl | exact bS (Nat.le_refl _) | skip
 ·intro i hi
  match i, hi with
  | 0, _ => exact .refl _
  | 1, _ => exact .refl _
  | 2, _ => exact .refl _
 ·intro i hi
  match i, hi with
  | 0, _ => exact of_decide_eq_true (by kernel_rfl)
  | 1, _ => exact of_decide_eq_true (by kernel_rfl)
  | 2, _ => exact of_decide_eq_true (by kernel_rfl)
 all_goals first | exact fun i hi => absurd hi (Nat.not_lt_zero _) | exact of_decide_eq_true (by kernel_rfl) | exact bn.refl _
theorem Sb : ∀ K args pre r, Cq K args pre = some r → aC P pS K args pre r := by
 refine bK fun K args r hk hs _ => ?_
 split at hs
 ·simp only [Option.some.injEq] at hs
  subst hs
  exact Rl K
 ·simp at hs
end Go.Am.B

/- ref03.Has, Inside. -/
namespace Go.Am.B
open Go Go.Am.N AV aa aj IntKind
theorem Q5 : aO P wR qY (ax qY) := aS OK (by kernel_rfl) (by kernel_rfl) (by kernel_rfl)
theorem Pb : aO P wj pF (ax pF) := aS QG (by kernel_rfl) (by kernel_rfl) (by kernel_rfl)
def xJ (s : Nat) : Kind Sp := ⟨fun v => match v with
 | .agg [x, y] => match (qk s).read x, (qk s).read y with
  | some (a, p), some (b, q) => some (⟨a, b⟩, p ++ q)
  | _, _ => none
 | _ => none, fun a => sA a s, fun {v a q} h hq => by
  split at h
  ·split at h
   ·rename_i h1 h2
    simp only [Option.some.injEq, Prod.mk.injEq] at h
    obtain ⟨rfl, rfl⟩ := h
    obtain ⟨g1, g2⟩ := dU.1 hq
    exact fC ⟨(qk s).ok h1 g1, (qk s).ok h2 g2, trivial⟩
   ·simp at h
  ·simp at h⟩
def hasB (b : Sp) (r : Rat) : Bool := decide (b.lo ≤ r ∧ r ≤ b.hi)
def lU (a b : Sp) : Bool := decide (hasB b a.lo = true ∧ hasB b a.hi = true)
def AF : Spec := fN (kC (xJ 64) (kC (qk 64) kN)) (fun a => .bool (hasB a.1 a.2.1)) fun _ => []
def CF : Spec := fN (kC (xJ 64) (kC (xJ 64) kN)) (fun a => .bool (lU a.1 a.2.1)) fun _ => []
theorem Tp {b : Sp} {r : Rat} : bA T tX [10] 60 qY (ax qY) ⟨aM 0 [sA b 64, .rat r 64], [], 0⟩ =
  let c3 : Bool := decide (dJ b.lo r ≤ (0 : Int)); let c2 : Prop := 0 < 1; let c1 : Prop := 64 < 2 ^ 41; some (fork c3 (af [c2, c2, c1, c1, c3 = true, c2, c2, c1, c1] (leaf ret [AV.bool (bif true then decide (dJ r b.hi ≤ (0 : Int)) else false)])) (af [c2, c2, c1, c1, c3 = false] (leaf ret [AV.bool false]))) := by kernel_rfl
theorem PR {a b : Sp} : bA T [(wR, AF)] [9] 60 pF (ax pF) ⟨aM 0 [sA a 64, sA b 64], [], 0⟩ =
  let c3 : Bool := hasB (Sp.mk b.lo b.hi) a.lo; let c2 : Prop := 0 < 1; let c1 : Prop := 64 ≤ 64; some (fork c3 (af [c2, c2, c1, c1, c1, c3 = true, c2, c2, c1, c1, c1] (leaf ret [AV.bool (bif true then hasB (Sp.mk b.lo b.hi) a.hi else false)])) (af [c2, c2, c1, c1, c1, c3 = false] (leaf ret [AV.bool false]))) := by kernel_rfl
theorem LQ {q r : Rat} : decide (dJ q r ≤ (0 : Int)) = decide (q ≤ r) := by
 have := z6 (q := q) (r := r)
 rw [Bool.eq_iff_iff] at this ⊢
 simp only [decide_eq_true_eq] at this ⊢
 constructor
 ·intro h
  have : ¬ r < q := fun h' => by have := this.2 h'; omega
  grind
 ·intro h
  have : ¬ dJ q r > 0 := fun h' => by have := this.1 h'; grind
  omega
theorem Iz : ∀ K args pre r, AF K args pre = some r → aC P wR K args pre r := by
 refine gj fun a K _ => ?_
 obtain ⟨b, r, _⟩ := a
 refine bE hT x7 hm Q5 rfl (of_decide_eq_true (by kernel_rfl)) rfl 60 (Tp (b := b) (r := r)) (fun _ => ?_) K []
 simp only [aa.all, az, LQ, decide_eq_true_eq, decide_eq_false_iff_not, cond_true]
 refine ⟨fun h => ⟨⟨by omega, by omega, by omega, by omega, h, by omega, by omega, by omega, by omega⟩, ep ?_⟩, fun h => ⟨⟨by omega, by omega, by omega, by omega, h⟩, ep (decide_eq_false fun hh => h hh.1).symm⟩⟩
 show _ = hasB b r
 unfold hasB
 rw [Bool.eq_iff_iff]
 simp only [decide_eq_true_eq]
 exact ⟨fun h' => ⟨h, h'⟩, fun h' => h'.2⟩
theorem Qx : ∀ K args pre r, CF K args pre = some r → aC P wj K args pre r := by
 refine gj fun a K _ => ?_
 obtain ⟨a, b, _⟩ := a
 refine bE hT (aK Iz aZ) hm Pb rfl (of_decide_eq_true (by kernel_rfl)) rfl 60 (PR (a := a) (b := b)) (fun _ => ?_) K []
 have e : (Sp.mk b.lo b.hi) = b := rfl
 simp only [aa.all, az, cond_true, e]
 refine ⟨fun h => ⟨⟨by omega, by omega, by omega, by omega, by omega, h, by omega, by omega, by omega, by omega, by omega⟩, ep ?_⟩, fun h => ⟨⟨by omega, by omega, by omega, by omega, by omega, h⟩, ep (decide_eq_false fun hh => by rw [h] at hh; simp at hh).symm⟩⟩
 show _ = lU a b
 unfold lU
 rw [Bool.eq_iff_iff]
 simp only [decide_eq_true_eq]
 exact ⟨fun h' => ⟨h, h'⟩, fun h' => h'.2⟩
end Go.Am.B
