/- natural.trim and natural.raise, where the slice is written to afterwards. -/
import Derived.Test.YtjhhblmbiaghfaaGreatB6
import Derived.Test.YtjhhblmbiaghfaaGreatZ2
set_option linter.unusedVariables false
namespace Go.Am.B
open Go Go.Am.N AV
theorem Zc {n s i c : Nat} {z o : Nat → Nat} : aF T G1 [] 30 [4] (behind (ax jk) [1,1,1,0,1]) ⟨az [0, 1, 5, 6, 13, 14, 15] [.ah 1 n (aj z), .int .i64 s, .own 7 1 0 (n + 1), .int .u64 c, .ah 1 n (aj z), .int .i64 n, .int .i64 i], [(7, ⟨true, true, 1, n + 1, aj o⟩)], 8⟩ =
  some (af.ag [(0 : Int) ≤ (↑n : Int) ∧ (↑n : Int).toNat < n + 1, (↑n : Int).toNat + 0 < n + 1] (af.leaf ak.ret ([own 7 1 0 (n + 1)], [((7 : Nat), ⟨true, true, 1, n + 1, fun (j : Nat) ↦ if (j == (↑n : Int).toNat + 0) = true then int IntKind.u32 (IntKind.u32.wrap (↑c : Int)) else aj o j⟩)]))) := by kernel_rfl
theorem Ul {n : Nat} {z : Nat → Nat} : aF T [] [] 30 [0, 3] (before (ax fD) [1,1,0]) ⟨aN 0 [.own 0 1 0 n], [(0, ⟨true, true, 1, n, aj z⟩)], 1⟩ =
  some (af.leaf ak.normal ([own 0 1 0 n, int IntKind.i64 (↑n : Int)], [((0 : Nat), ⟨true, true, 1, n, aj z⟩)])) := by kernel_rfl
theorem YD {n k : Nat} {z : Nat → Nat} : aF T [] [8, 15] 30 [0, 3] [part (ax fD) [1,1,0,0,0]] ⟨az [0, 3] [.own 0 1 0 n, .int .i64 k], [(0, ⟨true, true, 1, n, aj z⟩)], 1⟩ =
  some (af.fork (decide ((↑k : Int) > (0 : Int))) (af.ag [decide ((↑k : Int) > (0 : Int)) = true, (0 : Int) ≤ IntKind.i64.wrap ((↑k : Int) - (1 : Int)) ∧ (IntKind.i64.wrap ((↑k : Int) - (1 : Int))).toNat < n, (IntKind.i64.wrap ((↑k : Int) - (1 : Int))).toNat + 0 < n] (af.fork (bif true then (↑(z ((IntKind.i64.wrap ((↑k : Int) - (1 : Int))).toNat + 0)) : Int) == (0 : Int) else false) (af.leaf ak.normal ([own 0 1 0 n, int IntKind.i64 (IntKind.i64.wrap ((↑k : Int) - (1 : Int)))], [((0 : Nat), ⟨true, true, 1, n, aj z⟩)])) (af.leaf (ak.exit 0) ([own 0 1 0 n, int IntKind.i64 (↑k : Int)], [((0 : Nat), ⟨true, true, 1, n, aj z⟩)])))) (af.ag [decide ((↑k : Int) > (0 : Int)) = false] (af.fork false (af.leaf ak.normal ([own 0 1 0 n, int IntKind.i64 (IntKind.i64.wrap ((↑k : Int) - (1 : Int)))], [((0 : Nat), ⟨true, true, 1, n, aj z⟩)])) (af.leaf (ak.exit 0) ([own 0 1 0 n, int IntKind.i64 (↑k : Int)], [((0 : Nat), ⟨true, true, 1, n, aj z⟩)]))))) := by kernel_rfl
theorem RC {n k : Nat} {z : Nat → Nat} : aF T [] [] 30 [2] (behind (ax fD) [1,1,0]) ⟨az [0, 3] [.own 0 1 0 n, .int .i64 k], [(0, ⟨true, true, 1, n, aj z⟩)], 1⟩ =
  some (af.ag [(0 : Int) ≤ (0 : Int) ∧ (0 : Int) ≤ (↑k : Int) ∧ (↑k : Int) ≤ (↑k : Int) ∧ (↑k : Int) ≤ (↑n : Int)] (af.leaf ak.ret ([own 0 1 0 ((↑k : Int).toNat - Int.toNat (0 : Int))], [((0 : Nat), ⟨true, true, 1, n, aj z⟩)]))) := by kernel_rfl
theorem Ue {n s : Nat} {z : Nat → Nat} (hz : ∀ i, i < n → z i < 2 ^ 32) (hn : n < 2 ^ 40) (hs : s < 32) (K : Nat) :
  aC P vN K [.ah 1 n (aj z), .int .i64 s] [] ⟨.own K 1 0 (n + 1), [(K, ⟨true, true, 1, n + 1, aj (au (val n z * 2 ^ s))⟩)], []⟩ := by
 refine lZ hT SK (args0 := [.ah 1 n (aj z), .int .i64 s]) (pre0 := []) (nx := 0) [] (of_decide_eq_true (by kernel_rfl)) rfl ⟨⟨rfl, aG rfl⟩, ⟨rfl, aG rfl⟩, trivial⟩ trivial (fun a k h => by simp [aU, look] at h) (fun k o h => ?_) (fun _ c h0 => ?_)
 ·simp only [look] at h
  split at h
  ·rename_i he
   have : K = k := by simpa using he
   subst this
   exact .inr ⟨Nat.le_refl _, by unfold bY; omega⟩
  ·simp at h
 have hk0 : c.k0 = aR := by
  funext k
  cases hk : c.k0 k with
  | none => rfl
  | some x => have := h0 k x hk; simp [aU, look] at this
 refine MZ hz hn hs hk0 fun c' o s' hc ho hval hv => ?_
 have h3 : 2 ^ s ≤ 2 ^ 31 := Nat.pow_le_pow_right (by omega) (by omega)
 refine aA.dB hT eM hm 30 (nx := 8) hv (gT hk0) rfl ⟨⟨by omega, fun _ _ => rfl⟩, trivial⟩ [4] Zc (by kernel_rfl) (by kernel_rfl) ?_
 simp only [af.all, ay, Nat.add_zero, beq_iff_eq, Int.toNat_natCast, Wr hs hc]
 refine ⟨by omega, fun s' hv => ⟨by simp, aU [(K, 7)], BI ⟨Nat.le_refl _, by unfold bY; omega⟩, .inr (o5 (us := [.own 7 1 0 (n + 1)]) (ws := [.own K 1 0 (n + 1)]) (ps := [(K, ⟨true, true, 1, n + 1, aj (au (val n z * 2 ^ s))⟩)]) hv (by kernel_rfl) ⟨⟨rfl, cH (by simp [aU, look]) rfl rfl⟩, trivial⟩ rfl rfl ⟨⟨7, _, by simp [aU, look], rfl, dU rfl fun j hj => ?_⟩, trivial⟩)⟩⟩
 have ho' : ∀ j, j < n + 1 → bI o n c' j < 2 ^ 32 := fA (by omega) ho
 rw [← hval, ← nL, aj, aj, lV ho' hj]
def GO : Spec := qY fun K l => match l with
 | [a, .int .i64 k] => match mV a with
  | some (N, n, q) => some ⟨.own K 1 0 (n + 1), [(K, ⟨true, true, 1, n + 1, aj (au (N * 2 ^ k.toNat))⟩)], q ++ [n < 2 ^ 40, 0 ≤ k, k < 32]⟩
  | none => none
 | _ => none
theorem Rc : ∀ K args pre r, GO K args pre = some r → aC P vN K args pre r := by
 refine BP fun K args r hk hs => ?_
 split at hs
 ·rename_i a k
  split at hs
  ·rename_i N n q hn
   simp only [Option.some.injEq] at hs
   subst hs
   intro need
   obtain ⟨n1, n2⟩ := ep.1 need
   obtain ⟨z, hz, rfl, hle⟩ := tM hn n1
   obtain ⟨h1, h2, h3⟩ : n < 2 ^ 40 ∧ 0 ≤ k ∧ k < 32 := n2
   obtain ⟨s, rfl⟩ := Int.eq_ofNat_of_zero_le h2
   exact fm (Ue hz h1 (by omega) K) hk ⟨hle, .refl _, trivial⟩ [] trivial
  ·simp at hs
 ·simp at hs
theorem Uc {n k : Nat} {z : Nat → Nat} (hz : ∀ i, i < n → z i < 2 ^ 32) (hn : n < 2 ^ 62) (K : Nat) {f : Nat → AV} (hf : ∀ i, i < n → f i = aj z i) :
  aC P oA K [.own k 1 0 n] [(k, ⟨true, true, 1, n, f⟩)] ⟨.own k 1 0 (nl (val n z)), [], []⟩ := by
 refine lZ hT Fe (args0 := [.own 0 1 0 n]) (pre0 := [(0, ⟨true, true, 1, n, aj z⟩)]) (nx := 1) [(0, k)] (of_decide_eq_true (by kernel_rfl)) (by simp [gU]) ⟨⟨rfl, cH rfl rfl rfl⟩, trivial⟩ ⟨⟨k, _, rfl, by simp [look], dU rfl hf⟩, trivial⟩
  (fun a x h => ?_) (fun x o h => by simp [look] at h) (fun _ c h0 => ?_)
 ·simp only [aU, look] at h
  split at h
  ·simp only [Option.some.injEq] at h; subst h; exact ⟨_, by simp [look]; rfl⟩
  ·simp at h
 have hk0 : ∀ k x, c.k0 k = some x → k < 1 := fun k x hk => by
  have := h0 k x hk
  simp only [aU, look] at this
  split at this
  ·rename_i h; simp at h; omega
  ·simp at this
 refine aq.hole [1,1,0] (by kernel_rfl) (aA.aS hT aY hm 30 [0, 3] Ul (by kernel_rfl) fun s' hv => ?_)
 refine aq.fl (i := 0) (y := part (ax fD) [1,1,0,0,0]) (by kernel_rfl) [0, 3] 1 hk0 (fun k : Nat => [.own 0 1 0 n, .int .i64 k]) (fun _ => [(0, ⟨true, true, 1, n, aj z⟩)]) (fun _ => rfl) (fun _ => ⟨⟨by omega, fun _ _ => rfl⟩, trivial⟩)
  (fun k => k ≤ n ∧ ∀ i, k ≤ i → i < n → z i = 0) id n hv ⟨Nat.le_refl _, fun i h1 h2 => by omega⟩ ?_
 rintro j ⟨hj, hzj⟩
 refine aq.aS hT aY hm 30 [0, 3] YD (by kernel_rfl) ?_
 have fin : (j = 0 ∨ z (j - 1) ≠ 0) → ∀ s', aQ [0, 3] s' = some ([.own 0 1 0 n, .int .i64 j], [(0, ⟨true, true, 1, n, aj z⟩)]) → aA P c fD.ntmps (behind (ax fD) [1,1,0]) s'
   (fun e s' => (e = .normal ∨ e = .ret) ∧ ∃ τ, tr [(0, k)] K [(k, ⟨true, true, 1, n, f⟩)] τ ∧ (AI T fD τ [(k, ⟨true, true, 1, n, f⟩)] ⟨.own k 1 0 (nl (val n z)), [], []⟩ s' ∨ zl T fD τ [(k, ⟨true, true, 1, n, f⟩)] ⟨.own k 1 0 (nl (val n z)), [], []⟩ s')) := by
  intro hj0 s' hv
  refine aA.dB hT aY hm 30 (nx := 1) hv hk0 rfl ⟨⟨by omega, fun _ _ => rfl⟩, trivial⟩ [2] RC (by kernel_rfl) (by kernel_rfl) ?_
  have e : val n z = val j z := jV hj hzj
  refine ⟨⟨by omega, by omega, by omega, by omega⟩, fun s' hv => ⟨.inr rfl, aU [(k, 0)], tV, .inr (o5 (us := [.own 0 1 0 ((j : Int).toNat - Int.toNat 0)]) (ws := [.own k 1 0 (nl (val n z))]) (os := [(0, ⟨true, true, 1, n, aj z⟩)]) (ps := [(k, ⟨true, true, 1, n, f⟩)]) hv (by kernel_rfl) ⟨⟨rfl, cH (by simp [aU, look]) rfl ?_⟩, trivial⟩ rfl rfl ⟨⟨0, _, by simp [aU, look], rfl, g7 rfl fun j hj => ?_⟩, trivial⟩)⟩⟩
  ·rw [e, yz (fun i hi => hz i (by omega)) hj0]; simp
  ·rw [hf j hj]; exact aG rfl
 have hw : 0 < j → IntKind.i64.wrap ((j : Int) - 1) = ((j - 1 : Nat) : Int) := fun h => by rw [wrap_i64 (by omega) (by omega)]; omega
 refine ⟨fun hb => ?_, fun hb => ?_⟩
 ·have h1 : 0 < j := by simpa using hb
  rw [hw h1]
  have hj1 : j - 1 < n := by omega
  refine ⟨⟨hb, ⟨by omega, by rw [Int.toNat_natCast]; exact hj1⟩, by rw [Int.toNat_natCast]; exact hj1⟩, fun hc s' hv => ?_, fun hc s' hv => ?_⟩
  ·refine ⟨j - 1, hv, ⟨by omega, fun i h1 h2 => ?_⟩, by simp; omega⟩
   by_cases hi : i = j - 1
   ·subst hi; simpa using hc
   ·exact hzj i (by omega) h2
  ·exact dI (fin (.inr (by simpa using hc)) s' hv)
 ·have h1 : j = 0 := by simpa using hb
  refine ⟨hb, fun hc => by simp at hc, fun hc s' hv => dI (fin (.inl h1) s' hv)⟩
def Cu : Spec := fun _ args pre => match args, pre with
 | [.own k es s n], [(k', o)] => if k == k' && es == 1 && s == 0 && o.row && o.wr && o.es == 1 then some ⟨.own k 1 0 (nl (val n fun i => numOf (o.f i))), [], [cN n o.f, o.len = n, n < 2 ^ 62]⟩ else none
 | _, _ => none
theorem Ln : ∀ K args pre r, Cu K args pre = some r → aC P oA K args pre r := by
 intro K args pre r hs
 unfold Cu at hs
 split at hs
 ·rename_i k es s n k' o
  split at hs
  ·rename_i hc
   simp only [Bool.and_eq_true, beq_iff_eq] at hc
   obtain ⟨⟨⟨⟨⟨rfl, rfl⟩, rfl⟩, h4⟩, h5⟩, h6⟩ := hc
   simp only [Option.some.injEq] at hs
   subst hs
   intro need
   obtain ⟨h1, h2, h3⟩ : cN n o.f ∧ o.len = n ∧ n < 2 ^ 62 := need
   obtain ⟨row, wr, es, len, f⟩ := o
   simp only at h1 h2 h4 h5 h6
   subst h2 h4 h5 h6
   refine Uc (z := fun i => numOf (f i)) (fun i hi => ?_) h3 K (fun i hi => ?_) trivial
   ·obtain ⟨z, g1, g2⟩ := h1 i hi
    simp only [g2, numOf]; omega
   ·obtain ⟨z, g1, g2⟩ := h1 i hi
    simp [g2, numOf, aj]
  ·simp at hs
 ·simp at hs
end Go.Am.B
