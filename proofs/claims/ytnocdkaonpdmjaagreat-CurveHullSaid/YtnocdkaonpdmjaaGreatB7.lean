/- natural.trim and natural.raise, where the slice is written to afterwards. -/
import Derived.Test.YtnocdkaonpdmjaaGreatB6
import Derived.Test.YtnocdkaonpdmjaaGreatZ2
set_option linter.unusedVariables false
namespace Go.Am.B
open Go Go.Am.N AV
theorem OE {n s i c : Nat} {z o : Nat → Nat} : aI T G1 [] 30 [4] (behind (ax jQ) [1,1,1,0,1]) ⟨aC [0, 1, 5, 6, 13, 14, 15] [.ak 1 n (ah z), .int .i64 s, .own 7 1 0 (n + 1), .int .u64 c, .ak 1 n (ah z), .int .i64 n, .int .i64 i], [(7, ⟨true, true, 1, n + 1, ah o⟩)], 8⟩ =
  some (aa.ag [(0 : Int) ≤ (↑n : Int) ∧ (↑n : Int).toNat < n + 1, (↑n : Int).toNat + 0 < n + 1] (aa.leaf aj.ret ([own 7 1 0 (n + 1)], [((7 : Nat), ⟨true, true, 1, n + 1, fun (j : Nat) ↦ if (j == (↑n : Int).toNat + 0) = true then int IntKind.u32 (IntKind.u32.wrap (↑c : Int)) else ah o j⟩)]))) := by kernel_rfl
theorem Xe {n : Nat} {z : Nat → Nat} : aI T [] [] 30 [0, 3] (before (ax fI) [1,1,0]) ⟨aL 0 [.own 0 1 0 n], [(0, ⟨true, true, 1, n, ah z⟩)], 1⟩ =
  some (aa.leaf aj.normal ([own 0 1 0 n, int IntKind.i64 (↑n : Int)], [((0 : Nat), ⟨true, true, 1, n, ah z⟩)])) := by kernel_rfl
theorem Vf {n k : Nat} {z : Nat → Nat} : aI T [] [8, 15] 30 [0, 3] [part (ax fI) [1,1,0,0,0]] ⟨aC [0, 3] [.own 0 1 0 n, .int .i64 k], [(0, ⟨true, true, 1, n, ah z⟩)], 1⟩ =
  some (aa.fork (decide ((↑k : Int) > (0 : Int))) (aa.ag [decide ((↑k : Int) > (0 : Int)) = true, (0 : Int) ≤ IntKind.i64.wrap ((↑k : Int) - (1 : Int)) ∧ (IntKind.i64.wrap ((↑k : Int) - (1 : Int))).toNat < n, (IntKind.i64.wrap ((↑k : Int) - (1 : Int))).toNat + 0 < n] (aa.fork (bif true then (↑(z ((IntKind.i64.wrap ((↑k : Int) - (1 : Int))).toNat + 0)) : Int) == (0 : Int) else false) (aa.leaf aj.normal ([own 0 1 0 n, int IntKind.i64 (IntKind.i64.wrap ((↑k : Int) - (1 : Int)))], [((0 : Nat), ⟨true, true, 1, n, ah z⟩)])) (aa.leaf (aj.exit 0) ([own 0 1 0 n, int IntKind.i64 (↑k : Int)], [((0 : Nat), ⟨true, true, 1, n, ah z⟩)])))) (aa.ag [decide ((↑k : Int) > (0 : Int)) = false] (aa.fork false (aa.leaf aj.normal ([own 0 1 0 n, int IntKind.i64 (IntKind.i64.wrap ((↑k : Int) - (1 : Int)))], [((0 : Nat), ⟨true, true, 1, n, ah z⟩)])) (aa.leaf (aj.exit 0) ([own 0 1 0 n, int IntKind.i64 (↑k : Int)], [((0 : Nat), ⟨true, true, 1, n, ah z⟩)]))))) := by kernel_rfl
theorem aak {n k : Nat} {z : Nat → Nat} : aI T [] [] 30 [2] (behind (ax fI) [1,1,0]) ⟨aC [0, 3] [.own 0 1 0 n, .int .i64 k], [(0, ⟨true, true, 1, n, ah z⟩)], 1⟩ =
  some (aa.ag [(0 : Int) ≤ (0 : Int) ∧ (0 : Int) ≤ (↑k : Int) ∧ (↑k : Int) ≤ (↑k : Int) ∧ (↑k : Int) ≤ (↑n : Int)] (aa.leaf aj.ret ([own 0 1 0 ((↑k : Int).toNat - Int.toNat (0 : Int))], [((0 : Nat), ⟨true, true, 1, n, ah z⟩)]))) := by kernel_rfl
theorem WM {n s : Nat} {z : Nat → Nat} (hz : ∀ i, i < n → z i < 2 ^ 32) (hn : n < 2 ^ 40) (hs : s < 32) (K : Nat) :
  aA P tB K [.ak 1 n (ah z), .int .i64 s] [] ⟨.own K 1 0 (n + 1), [(K, ⟨true, true, 1, n + 1, ah (au (val n z * 2 ^ s))⟩)], []⟩ := by
 refine k7 hT UC (args0 := [.ak 1 n (ah z), .int .i64 s]) (pre0 := []) (nx := 0) [] (of_decide_eq_true (by kernel_rfl)) rfl ⟨⟨rfl, aF rfl⟩, ⟨rfl, aF rfl⟩, trivial⟩ trivial (fun a k h => by simp [aS, look] at h) (fun k o h => ?_) (fun _ c h0 => ?_)
 ·simp only [look] at h
  split at h
  ·rename_i he
   have : K = k := by simpa using he
   subst this
   exact .inr ⟨Nat.le_refl _, by unfold bY; omega⟩
  ·simp at h
 have hk0 : c.k0 = aW := by
  funext k
  cases hk : c.k0 k with
  | none => rfl
  | some x => have := h0 k x hk; simp [aS, look] at this
 refine OX hz hn hs hk0 fun c' o s' hc ho hval hv => ?_
 have h3 : 2 ^ s ≤ 2 ^ 31 := Nat.pow_le_pow_right (by omega) (by omega)
 refine aB.dN hT e9 hm 30 (nx := 8) hv (ir hk0) rfl ⟨⟨by omega, fun _ _ => rfl⟩, trivial⟩ [4] OE (by kernel_rfl) (by kernel_rfl) ?_
 simp only [aa.all, ay, Nat.add_zero, beq_iff_eq, Int.toNat_natCast, M0 hs hc]
 refine ⟨by omega, fun s' hv => ⟨by simp, aS [(K, 7)], B5 ⟨Nat.le_refl _, by unfold bY; omega⟩, .inr (ry (us := [.own 7 1 0 (n + 1)]) (ws := [.own K 1 0 (n + 1)]) (ps := [(K, ⟨true, true, 1, n + 1, ah (au (val n z * 2 ^ s))⟩)]) hv (by kernel_rfl) ⟨⟨rfl, cF (by simp [aS, look]) rfl rfl⟩, trivial⟩ rfl rfl ⟨⟨7, _, by simp [aS, look], rfl, dZ rfl fun j hj => ?_⟩, trivial⟩)⟩⟩
 have ho' : ∀ j, j < n + 1 → bJ o n c' j < 2 ^ 32 := fQ (by omega) ho
 rw [← hval, ← nD, ah, ah, mI ho' hj]
def Fv : Spec := pS fun K l => match l with
 | [a, .int .i64 k] => match oz a with
  | some (N, n, q) => some ⟨.own K 1 0 (n + 1), [(K, ⟨true, true, 1, n + 1, ah (au (N * 2 ^ k.toNat))⟩)], q ++ [n < 2 ^ 40, 0 ≤ k, k < 32]⟩
  | none => none
 | _ => none
theorem XL : ∀ K args pre r, Fv K args pre = some r → aA P tB K args pre r := by
 refine yH fun K args r hk hs => ?_
 split at hs
 ·rename_i a k
  split at hs
  ·rename_i N n q hn
   simp only [Option.some.injEq] at hs
   subst hs
   intro need
   obtain ⟨n1, n2⟩ := dy.1 need
   obtain ⟨z, hz, rfl, hle⟩ := wO hn n1
   obtain ⟨h1, h2, h3⟩ : n < 2 ^ 40 ∧ 0 ≤ k ∧ k < 32 := n2
   obtain ⟨s, rfl⟩ := Int.eq_ofNat_of_zero_le h2
   exact fc (WM hz h1 (by omega) K) hk ⟨hle, .refl _, trivial⟩ [] trivial
  ·simp at hs
 ·simp at hs
theorem acD {n k : Nat} {z : Nat → Nat} (hz : ∀ i, i < n → z i < 2 ^ 32) (hn : n < 2 ^ 62) (K : Nat) {f : Nat → AV} (hf : ∀ i, i < n → f i = ah z i) :
  aA P oJ K [.own k 1 0 n] [(k, ⟨true, true, 1, n, f⟩)] ⟨.own k 1 0 (nl (val n z)), [], []⟩ := by
 refine k7 hT EZ (args0 := [.own 0 1 0 n]) (pre0 := [(0, ⟨true, true, 1, n, ah z⟩)]) (nx := 1) [(0, k)] (of_decide_eq_true (by kernel_rfl)) (by simp [gf]) ⟨⟨rfl, cF rfl rfl rfl⟩, trivial⟩ ⟨⟨k, _, rfl, by simp [look], dZ rfl hf⟩, trivial⟩
  (fun a x h => ?_) (fun x o h => by simp [look] at h) (fun _ c h0 => ?_)
 ·simp only [aS, look] at h
  split at h
  ·simp only [Option.some.injEq] at h; subst h; exact ⟨_, by simp [look]; rfl⟩
  ·simp at h
 have hk0 : ∀ k x, c.k0 k = some x → k < 1 := fun k x hk => by
  have := h0 k x hk
  simp only [aS, look] at this
  split at this
  ·rename_i h; simp at h; omega
  ·simp at this
 refine aq.hole [1,1,0] (by kernel_rfl) (aB.aX hT bn hm 30 [0, 3] Xe (by kernel_rfl) fun s' hv => ?_)
 refine aq.fq (i := 0) (y := part (ax fI) [1,1,0,0,0]) (by kernel_rfl) [0, 3] 1 hk0 (fun k : Nat => [.own 0 1 0 n, .int .i64 k]) (fun _ => [(0, ⟨true, true, 1, n, ah z⟩)]) (fun _ => rfl) (fun _ => ⟨⟨by omega, fun _ _ => rfl⟩, trivial⟩)
  (fun k => k ≤ n ∧ ∀ i, k ≤ i → i < n → z i = 0) id n hv ⟨Nat.le_refl _, fun i h1 h2 => by omega⟩ ?_
 rintro j ⟨hj, hzj⟩
 refine aq.aX hT bn hm 30 [0, 3] Vf (by kernel_rfl) ?_
 have fin : (j = 0 ∨ z (j - 1) ≠ 0) → ∀ s', aU [0, 3] s' = some ([.own 0 1 0 n, .int .i64 j], [(0, ⟨true, true, 1, n, ah z⟩)]) → aB P c fI.ntmps (behind (ax fI) [1,1,0]) s'
   (fun e s' => (e = .normal ∨ e = .ret) ∧ ∃ τ, qT [(0, k)] K [(k, ⟨true, true, 1, n, f⟩)] τ ∧ (zm T fI τ [(k, ⟨true, true, 1, n, f⟩)] ⟨.own k 1 0 (nl (val n z)), [], []⟩ s' ∨ xK T fI τ [(k, ⟨true, true, 1, n, f⟩)] ⟨.own k 1 0 (nl (val n z)), [], []⟩ s')) := by
  intro hj0 s' hv
  refine aB.dN hT bn hm 30 (nx := 1) hv hk0 rfl ⟨⟨by omega, fun _ _ => rfl⟩, trivial⟩ [2] aak (by kernel_rfl) (by kernel_rfl) ?_
  have e : val n z = val j z := jY hj hzj
  refine ⟨⟨by omega, by omega, by omega, by omega⟩, fun s' hv => ⟨.inr rfl, aS [(k, 0)], qW, .inr (ry (us := [.own 0 1 0 ((j : Int).toNat - Int.toNat 0)]) (ws := [.own k 1 0 (nl (val n z))]) (os := [(0, ⟨true, true, 1, n, ah z⟩)]) (ps := [(k, ⟨true, true, 1, n, f⟩)]) hv (by kernel_rfl) ⟨⟨rfl, cF (by simp [aS, look]) rfl ?_⟩, trivial⟩ rfl rfl ⟨⟨0, _, by simp [aS, look], rfl, gM rfl fun j hj => ?_⟩, trivial⟩)⟩⟩
  ·rw [e, ya (fun i hi => hz i (by omega)) hj0]; simp
  ·rw [hf j hj]; exact aF rfl
 have hw : 0 < j → IntKind.i64.wrap ((j : Int) - 1) = ((j - 1 : Nat) : Int) := fun h => by rw [wrap_i64 (by omega) (by omega)]; omega
 refine ⟨fun hb => ?_, fun hb => ?_⟩
 ·have h1 : 0 < j := by simpa using hb
  rw [hw h1]
  have hj1 : j - 1 < n := by omega
  refine ⟨⟨hb, ⟨by omega, by rw [Int.toNat_natCast]; exact hj1⟩, by rw [Int.toNat_natCast]; exact hj1⟩, fun hc s' hv => ?_, fun hc s' hv => ?_⟩
  ·refine ⟨j - 1, hv, ⟨by omega, fun i h1 h2 => ?_⟩, by simp; omega⟩
   by_cases hi : i = j - 1
   ·subst hi; simpa using hc
   ·exact hzj i (by omega) h2
  ·exact dQ (fin (.inr (by simpa using hc)) s' hv)
 ·have h1 : j = 0 := by simpa using hb
  refine ⟨hb, fun hc => by simp at hc, fun hc s' hv => dQ (fin (.inl h1) s' hv)⟩
def CN : Spec := fun _ args pre => match args, pre with
 | [.own k es s n], [(k', o)] => if k == k' && es == 1 && s == 0 && o.row && o.wr && o.es == 1 then some ⟨.own k 1 0 (nl (val n fun i => numOf (o.f i))), [], [cO n o.f, o.len = n, n < 2 ^ 62]⟩ else none
 | _, _ => none
theorem YX : ∀ K args pre r, CN K args pre = some r → aA P oJ K args pre r := by
 intro K args pre r hs
 unfold CN at hs
 split at hs
 ·rename_i k es s n k' o
  split at hs
  ·rename_i hc
   simp only [Bool.and_eq_true, beq_iff_eq] at hc
   obtain ⟨⟨⟨⟨⟨rfl, rfl⟩, rfl⟩, h4⟩, h5⟩, h6⟩ := hc
   simp only [Option.some.injEq] at hs
   subst hs
   intro need
   obtain ⟨h1, h2, h3⟩ : cO n o.f ∧ o.len = n ∧ n < 2 ^ 62 := need
   obtain ⟨row, wr, es, len, f⟩ := o
   simp only at h1 h2 h4 h5 h6
   subst h2 h4 h5 h6
   refine acD (z := fun i => numOf (f i)) (fun i hi => ?_) h3 K (fun i hi => ?_) trivial
   ·obtain ⟨z, g1, g2⟩ := h1 i hi
    simp only [g2, numOf]; omega
   ·obtain ⟨z, g1, g2⟩ := h1 i hi
    simp [g2, numOf, ah]
  ·simp at hs
 ·simp at hs
end Go.Am.B
