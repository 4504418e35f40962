/- Plain laws of limbs. -/
import Derived.Test.YtnocdkaonpdmjaaGreatZ1
import Derived.ProofKit
import Derived.ChangeSlices
set_option linter.unusedVariables false
namespace Go.Am
def val : Nat → (Nat → Nat) → Nat
 | 0, _ => 0
 | n + 1, z => val n z + z n * 2 ^ (32 * n)
theorem eo {z : Nat → Nat} : ∀ {n : Nat}, (∀ i, i < n → z i < 2 ^ 32) → val n z < 2 ^ (32 * n)
 | 0, _ => by simp [val]
 | n + 1, h => by
  have ih := eo (z := z) (n := n) fun i hi => h i (by omega)
  have h1 := h n (by omega)
  have : z n * 2 ^ (32 * n) + 2 ^ (32 * n) ≤ 2 ^ 32 * 2 ^ (32 * n) := by
   rw [← Nat.succ_mul]; exact Nat.mul_le_mul_right _ h1
  have e : 2 ^ (32 * (n + 1)) = 2 ^ 32 * 2 ^ (32 * n) := by rw [← Nat.pow_add]; congr 1; omega
  rw [e, val]; omega
theorem val_congr {z y : Nat → Nat} : ∀ {n : Nat}, (∀ i, i < n → z i = y i) → val n z = val n y
 | 0, _ => rfl
 | n + 1, h => by rw [val, val, val_congr fun i hi => h i (by omega), h n (by omega)]
theorem jY {z : Nat → Nat} {k : Nat} : ∀ {n : Nat}, k ≤ n → (∀ i, k ≤ i → i < n → z i = 0) → val n z = val k z
 | 0, h, _ => by
    have : k = 0 := by omega
    subst this; rfl
 | n + 1, h, hz => by
  by_cases hk : k = n + 1
  ·subst hk; rfl
  ·rw [val, jY (n := n) (by omega) fun i h1 h2 => hz i h1 (by omega), hz n (by omega) (by omega)]
   simp
theorem mI {z : Nat → Nat} : ∀ {n i : Nat}, (∀ j, j < n → z j < 2 ^ 32) → i < n → au (val n z) i = z i
 | 0, i, _, hi => by omega
 | n + 1, i, h, hi => by
  unfold au
  rw [val]
  by_cases he : i = n
  ·subst he
   have := eo (z := z) (n := i) fun j hj => h j (by omega)
   rw [Nat.add_mul_div_right _ _ (Nat.two_pow_pos _), Nat.div_eq_of_lt this, Nat.zero_add]
   exact Nat.mod_eq_of_lt (h i (by omega))
  ·have ih := mI (z := z) (n := n) (i := i) (fun j hj => h j (by omega)) (by omega)
   unfold au at ih
   have e : 2 ^ (32 * n) = 2 ^ 32 * 2 ^ (32 * (n - i - 1)) * 2 ^ (32 * i) := by
    rw [← Nat.pow_add, ← Nat.pow_add]; congr 1; omega
   rw [e, ← Nat.mul_assoc, Nat.add_mul_div_right _ _ (Nat.two_pow_pos _), ← ih]
   rw [show z n * (2 ^ 32 * 2 ^ (32 * (n - i - 1))) = 2 ^ 32 * (z n * 2 ^ (32 * (n - i - 1))) by
    rw [← Nat.mul_assoc, Nat.mul_comm (z n), Nat.mul_assoc]]
   rw [Nat.add_mul_mod_self_left]
theorem cH {N i : Nat} : au N i < 2 ^ 32 := Nat.mod_lt _ (by decide)
theorem Ig {N : Nat} : ∀ {n : Nat}, val n (au N) = N % 2 ^ (32 * n)
 | 0 => by simp [val, Nat.mod_one]
 | n + 1 => by
  rw [val, Ig, au]
  have e : 2 ^ (32 * (n + 1)) = 2 ^ (32 * n) * 2 ^ 32 := by rw [← Nat.pow_add]; congr 1
  rw [e, Nat.mod_mul, Nat.mul_comm (2 ^ (32 * n))]
theorem lW {N n : Nat} (h : N < 2 ^ (32 * n)) : val n (au N) = N := by rw [Ig, Nat.mod_eq_of_lt h]
theorem cB {N n : Nat} : nl N ≤ n ↔ N < 2 ^ (32 * n) := by
 unfold nl
 by_cases h : N = 0
 ·subst h; simp [Nat.two_pow_pos]
 ·rw [if_neg h]
  rw [← Nat.log2_lt h]
  omega
theorem j8 {N : Nat} : N < 2 ^ (32 * nl N) := cB.1 (Nat.le_refl _)
theorem eC {N : Nat} : val (nl N) (au N) = N := lW j8
theorem Pc {z : Nat → Nat} {n : Nat} (h0 : 0 < n) (h : z (n - 1) ≠ 0) : 2 ^ (32 * (n - 1)) ≤ val n z := by
 obtain ⟨m, rfl⟩ : ∃ m, n = m + 1 := ⟨n - 1, by omega⟩
 rw [val]
 simp only [Nat.add_sub_cancel] at h ⊢
 have : 1 * 2 ^ (32 * m) ≤ z m * 2 ^ (32 * m) := Nat.mul_le_mul_right _ (by omega)
 omega
theorem ya {z : Nat → Nat} {n : Nat} (hz : ∀ i, i < n → z i < 2 ^ 32) (h : n = 0 ∨ z (n - 1) ≠ 0) : nl (val n z) = n := by
 rcases Nat.eq_zero_or_pos n with rfl | h0
 ·simp [val, nl]
 ·have h1 : nl (val n z) ≤ n := cB.2 (eo hz)
  have h2 : ¬ nl (val n z) ≤ n - 1 := by
   rw [cB]
   have := Pc h0 (h.resolve_left (by omega))
   omega
  omega
theorem Af {N : Nat} (h : N ≠ 0) : au N (nl N - 1) ≠ 0 := by
 intro h0
 have hn : 0 < nl N := by unfold nl; rw [if_neg h]; omega
 have h1 : val (nl N) (au N) = val (nl N - 1) (au N) := jY (by omega) fun i h1 h2 => by
  have : i = nl N - 1 := by omega
  rw [this, h0]
 rw [eC] at h1
 have h3 : N < 2 ^ (32 * (nl N - 1)) := by
  exact Nat.lt_of_le_of_lt (Nat.le_of_eq h1) (eo (z := au N) (n := nl N - 1) fun i _ => cH)
 have h2 : nl N ≤ nl N - 1 := cB.2 h3
 omega
theorem eP {N : Nat} : 0 < nl N ↔ N ≠ 0 := by
 unfold nl
 split <;> simp_all
theorem fu {a b : Nat} (h : a ≤ b) : nl a ≤ nl b := cB.2 (Nat.lt_of_le_of_lt h j8)
theorem wrap_i64 {x : Int} (h1 : -2 ^ 63 ≤ x) (h2 : x < 2 ^ 63) : IntKind.i64.wrap x = x := by
 simp [IntKind.wrap, IntKind.bits, IntKind.signed]; omega
theorem wrap_u64 {x : Int} (h1 : 0 ≤ x) (h2 : x < 2 ^ 64) : IntKind.u64.wrap x = x := by
 simp [IntKind.wrap, IntKind.bits, IntKind.signed]; omega
theorem lO {x : Int} : IntKind.u64.wrap x = x % 2 ^ 64 := by
 simp [IntKind.wrap, IntKind.bits, IntKind.signed]
theorem jj {x : Int} : IntKind.u32.wrap x = x % 2 ^ 32 := by
 simp [IntKind.wrap, IntKind.bits, IntKind.signed]
theorem wrap_u32 {x : Int} (h1 : 0 ≤ x) (h2 : x < 2 ^ 32) : IntKind.u32.wrap x = x := by
 rw [jj]; omega
theorem wA {x : Nat} : IntKind.u64.wrap (x : Int) = (x % 2 ^ 64 : Nat) := by
 rw [lO]; omega
theorem gZ {x : Nat} : IntKind.u32.wrap (x : Int) = (x % 2 ^ 32 : Nat) := by
 rw [jj]; omega
theorem pJ {a b : Nat} (ha : a < 2 ^ 64) (hb : b < 2 ^ 64) :
  IntKind.u64.wrap ((BitVec.ofInt IntKind.u64.bits (a : Int) ||| BitVec.ofInt IntKind.u64.bits (b : Int)).toNat : Int) = ((a ||| b : Nat) : Int) := by
 have e : (BitVec.ofInt IntKind.u64.bits (a : Int) ||| BitVec.ofInt IntKind.u64.bits (b : Int)).toNat = a ||| b := by
  rw [BitVec.toNat_or, BitVec.ofInt_natCast, BitVec.ofInt_natCast, BitVec.toNat_ofNat, BitVec.toNat_ofNat]
  rw [show IntKind.u64.bits = 64 from rfl, Nat.mod_eq_of_lt ha, Nat.mod_eq_of_lt hb]
 rw [e]
 have : a ||| b < 2 ^ 64 := Nat.or_lt_two_pow ha hb
 exact wrap_u64 (by omega) (by omega)
theorem U4 {a b : Nat} (ha : a < 2 ^ 64) (hb : b < 2 ^ 64) :
  IntKind.u64.wrap ((BitVec.ofInt IntKind.u64.bits (a : Int) &&& BitVec.ofInt IntKind.u64.bits (b : Int)).toNat : Int) = ((a &&& b : Nat) : Int) := by
 have e : (BitVec.ofInt IntKind.u64.bits (a : Int) &&& BitVec.ofInt IntKind.u64.bits (b : Int)).toNat = a &&& b := by
  rw [BitVec.toNat_and, BitVec.ofInt_natCast, BitVec.ofInt_natCast, BitVec.toNat_ofNat, BitVec.toNat_ofNat]
  rw [show IntKind.u64.bits = 64 from rfl, Nat.mod_eq_of_lt ha, Nat.mod_eq_of_lt hb]
 rw [e]
 have : a &&& b < 2 ^ 64 := Nat.and_lt_two_pow a hb
 exact wrap_u64 (by omega) (by omega)
theorem o6 {a b i : Nat} (h : b < 2 ^ i) : a * 2 ^ i ||| b = a * 2 ^ i + b := by
 rw [← Nat.shiftLeft_eq, ← Nat.shiftLeft_add_eq_or_of_lt h]
theorem jo {x : Int} : x.fdiv (2 ^ min (Int.toNat 32) IntKind.u64.bits) = x / 4294967296 := by
 have : min (Int.toNat 32) IntKind.u64.bits = 32 := rfl
 rw [this, Int.fdiv_eq_ediv_of_nonneg _ (by decide)]
 rfl
theorem DC {x : Int} : x.fdiv (2 ^ min (Int.toNat 63) IntKind.u64.bits) = x / 9223372036854775808 := by
 have : min (Int.toNat 63) IntKind.u64.bits = 63 := rfl
 rw [this, Int.fdiv_eq_ediv_of_nonneg _ (by decide)]
 rfl
theorem xp {x : Int} : x * 2 ^ min (Int.toNat 32) IntKind.u64.bits = x * 4294967296 := by
 have : min (Int.toNat 32) IntKind.u64.bits = 32 := rfl
 rw [this]; rfl
theorem Dh {B c z y v t s : Nat} (hs : s = c + z + y) (h : v + c * B = t) : v + s % 4294967296 * B + s / 4294967296 * (4294967296 * B) = t + z * B + y * B := by
 have h1 := Nat.div_add_mod s 4294967296
 generalize s / 4294967296 = q at *
 generalize s % 4294967296 = r at *
 subst h1 h
 have : c * B + z * B + y * B = (4294967296 * q + r) * B := by rw [← Nat.add_mul, ← Nat.add_mul, hs]
 grind
theorem fB {i : Nat} : 2 ^ (32 * (i + 1)) = 4294967296 * 2 ^ (32 * i) := by
 rw [show 32 * (i + 1) = 32 + 32 * i by omega, Nat.pow_add]
end Go.Am

/- aQ over natural numbers. -/
namespace Go.Am
open AV
def numOf (v : AV) : Nat := match v with
 | .int _ z => z.toNat
 | _ => 0
def cO (n : Nat) (f : Nat → AV) : Prop := ∀ i, i < n → ∃ z : Nat, z < 2 ^ 32 ∧ f i = .int .u32 z
theorem BO {z : Nat → Nat} {i : Nat} : numOf (ah z i) = z i := by simp [numOf, ah]
theorem gX {n : Nat} {z : Nat → Nat} : (val n fun i => numOf (ah z i)) = val n z := val_congr fun _ _ => BO
theorem eI {n : Nat} {z : Nat → Nat} (h : ∀ i, i < n → z i < 2 ^ 32) : cO n (ah z) := fun i hi => ⟨z i, h i hi, rfl⟩
def oz : AV → Option (Nat × Nat × List Prop)
 | .mag N => some (N, nl N, [])
 | .nil => some (0, 0, [])
 | .ak es n f => if es == 1 then some (val n fun i => numOf (f i), n, [cO n f]) else none
 | _ => none
theorem wO {a : AV} {N n : Nat} {q : List Prop} (h : oz a = some (N, n, q)) (hq : ay q) : ∃ z : Nat → Nat, (∀ i, i < n → z i < 2 ^ 32) ∧ val n z = N ∧ bA a (.ak 1 n (ah z)) := by
 cases a <;> simp only [oz, reduceCtorEq, Option.some.injEq, Prod.mk.injEq] at h
 case mag M =>
  obtain ⟨rfl, rfl, rfl⟩ := h
  exact ⟨au M, fun i _ => cH, eC, Jb rfl fun i _ => rfl⟩
 case nil =>
  obtain ⟨rfl, rfl, rfl⟩ := h
  exact ⟨fun _ => 0, fun i hi => by omega, rfl, jf (by omega)⟩
 case ak es m f =>
  split at h
  ·rename_i he
   simp only [Option.some.injEq, Prod.mk.injEq] at h
   obtain ⟨rfl, rfl, rfl⟩ := h
   have hq : cO m f := hq
   have he : es = 1 := by simpa using he
   subst he
   refine ⟨fun i => numOf (f i), fun i hi => ?_, rfl, wD rfl fun i hi => ?_⟩
   ·obtain ⟨z, h1, h2⟩ := hq i hi
    simp only [h2, numOf]; omega
   ·obtain ⟨z, h1, h2⟩ := hq i hi
    simp [h2, numOf, ah]
  ·simp at h
def jr (g : Nat → Nat → cA) : List AV → Option cA
 | [a] => match oz a with
  | some (N, n, q) => some ⟨(g N n).res, [], q ++ (g N n).fL⟩
  | none => none
 | _ => none
def fM (g : Nat → Nat → Nat → Nat → cA) : List AV → Option cA
 | [a, b] => match oz a, oz b with
  | some (A, n, p), some (B, m, q) => some ⟨(g A n B m).res, [], p ++ (q ++ (g A n B m).fL)⟩
  | _, _ => none
 | _ => none
def zu (g : Nat → Nat → Int → cA) : List AV → Option cA
 | [a, .int .u32 k] => match oz a with
  | some (N, n, q) => some ⟨(g N n k).res, [], q ++ (g N n k).fL⟩
  | none => none
 | _ => none
abbrev aG (v : AV) (l : List Prop) : cA := ⟨v, [], l⟩
section oks
variable {P : Program} {f : FuncId}
theorem qu {g : Nat → Nat → cA} (h : ∀ z n K, (∀ i, i < n → z i < 2 ^ 32) → (g (val n z) n).need → aA P f K [.ak 1 n (ah z)] [] (aG (g (val n z) n).res [])) :
  ∀ K args r, aV args = [] → jr g args = some r → r.post = [] → aA P f K args [] r := by
 intro K args r hk hs _ need
 match args, hs with
 | [a], hs =>
  simp only [jr] at hs
  split at hs
  ·rename_i N n q hn
   simp only [Option.some.injEq] at hs
   subst hs
   obtain ⟨n1, n2⟩ := dy.1 need
   obtain ⟨z, hz, rfl, hle⟩ := wO hn n1
   exact fc (h z n K hz n2) hk ⟨hle, trivial⟩ [] trivial
  ·simp at hs
theorem LA {g : Nat → Nat → Int → cA} (h : ∀ z n i K, (∀ i, i < n → z i < 2 ^ 32) → (g (val n z) n i).need → aA P f K [.ak 1 n (ah z), .int .u32 i] [] (aG (g (val n z) n i).res [])) :
  ∀ K args r, aV args = [] → zu g args = some r → r.post = [] → aA P f K args [] r := by
 intro K args r hk hs _ need
 unfold zu at hs
 split at hs
 ·rename_i a i
  split at hs
  ·rename_i N n q hn
   simp only [Option.some.injEq] at hs
   subst hs
   obtain ⟨n1, n2⟩ := dy.1 need
   obtain ⟨z, hz, rfl, hle⟩ := wO hn n1
   exact fc (h z n i K hz n2) hk ⟨hle, .refl _, trivial⟩ [] trivial
  ·simp at hs
 ·simp at hs
theorem qo {g : Nat → Nat → Nat → Nat → cA} (h : ∀ z n y m K, (∀ i, i < n → z i < 2 ^ 32) → (∀ i, i < m → y i < 2 ^ 32) → (g (val n z) n (val m y) m).need →
   aA P f K [.ak 1 n (ah z), .ak 1 m (ah y)] [] (aG (g (val n z) n (val m y) m).res [])) :
  ∀ K args r, aV args = [] → fM g args = some r → r.post = [] → aA P f K args [] r := by
 intro K args r hk hs _ need
 match args, hs with
 | [a, b], hs =>
  simp only [fM] at hs
  split at hs
  ·rename_i N n q M m p hn hm
   simp only [Option.some.injEq] at hs
   subst hs
   obtain ⟨n1, n4⟩ := dy.1 need
   obtain ⟨n2, n3⟩ := dy.1 n4
   obtain ⟨z, hz, rfl, hle⟩ := wO hn n1
   obtain ⟨y, hy, rfl, hle2⟩ := wO hm n2
   exact fc (h z n y m K hz hy n3) hk ⟨hle, hle2, trivial⟩ [] trivial
  ·simp at hs
theorem bn {P : Program} : bg P [] := fun f s h => by simp [look] at h
theorem aH {f : FuncId} {s : Spec} {Γ : aQ} (h : ∀ K args pre r, s K args pre = some r → aA P f K args pre r) (hΓ : bg P Γ) : bg P ((f, s) :: Γ) := by
 intro f' s' hl
 simp only [look] at hl
 split at hl
 ·rename_i he
  have : f = f' := by simpa using he
  subst this
  simp only [Option.some.injEq] at hl
  subst hl
  exact h
 ·exact hΓ f' s' hl
end oks
def bT (a b : Nat) : Int := if a < b then -1 else if b < a then 1 else 0
def aZ (N : Nat) : Nat := if N = 0 then 0 else N.log2 + 1
end Go.Am

/- Results that are seen; slices that may be nil. -/
namespace Go.Am
open AV
def jt (sl : List (Nat × AV)) : List ResultVar → Option (List AV)
 | [] => some []
 | .tmp t :: l => match look t sl, jt sl l with
  | some v, some m => if v.isTuple then none else some (v :: m)
  | _, _ => none
 | _ => none
def Cw (fn : Func) (sl : List (Nat × AV)) : Option (List AV) :=
 match jt sl fn.results.toList with
 | some us => match aV us with
  | [] => dj [] us
  | _ => none
 | none => none
theorem Dz {s : aE} {t : Nat} {v : AV} (hv : v.isTuple = false) : ∀ {ls : List Nat}, look t (aC ls (iT s ls)) = some v → look t s.slots = some v
 | [], h => by simp [aC, look] at h
 | x :: ls, h => by
  simp only [iT, aC, look] at h
  split at h
  ·rename_i he
   have : x = t := by simpa using he
   subst this
   simp only [Option.some.injEq] at h
   subst h
   exact F8 hv
  ·exact Dz hv h
theorem Cv {T : Types} {s : aE} {ls : List Nat} : ∀ {l : List ResultVar} {us : List AV}, jt (aC ls (iT s ls)) l = some us → eE T s l = some (us, [])
 | [], us, h => by simp only [jt, Option.some.injEq] at h; subst h; rfl
 | .tmp t :: l, us, h => by
  simp only [jt] at h
  split at h
  ·rename_i v m hv hm
   split at h
   ·simp at h
   ·rename_i ht
    simp only [Option.some.injEq] at h
    subst h
    simp only [eE, tZ, Dz (by simpa using ht) hv, Cv hm]
    simp [ht]
  ·simp at h
 | .cell _ _ :: _, us, h => by simp [jt] at h
theorem eM {T : Types} {fn : Func} {ls : List Nat} {vs us : List AV} {os : aD} {e : aj} {s' : aE} {res : AV} (he : e = .normal ∨ e = .ret) (hv : aU ls s' = some (vs, os)) (hr : Cw fn (aC ls vs) = some us) (hres : dg us res) : Fin T fn res e s' := by
 unfold aU at hv
 simp only [Option.some.injEq, Prod.mk.injEq] at hv
 obtain ⟨rfl, _⟩ := hv
 unfold Cw at hr
 split at hr
 ·rename_i rs hrs
  split at hr
  ·rename_i hk
   refine ⟨he, rs, [], us, Cv hrs, trivial, ?_, hres⟩
   rw [hk]; exact hr
  ·simp at hr
 ·simp at hr
theorem Gn {P : Program} {f : FuncId} {K es n : Nat} {g : Nat → AV} {l : List AV} {r : cA} (h : ∀ b, (b = true → n = 0) → aA P f K (.cL b es n g :: l) [] r) : aA P f K (.ak es n g :: l) [] r := by
 intro need
 refine ⟨((h false fun h => by simp at h) need).1, fun c D D' β w vs hw0 hMw hrel hD hK hv => ?_⟩
 match vs, hv with
 | x :: xs, hv =>
  obtain ⟨⟨cs, h1, h2⟩, h3⟩ := hv
  have : ∃ b, (b = true → n = 0) ∧ aT (aK c [] β) w β (.cL b es n g) x := by
   cases h1 with
   | ak g1 g2 g3 g4 g5 g6 =>
    rename_i base cap cs' cf
    cases g6
    refine ⟨base.isNone, fun hb => ?_, _, .cL rfl g1 g2 g3 g4 g5 .nil, h2⟩
    rcases g1 with g1 | ⟨b, o, rfl, _⟩
    ·exact g1
    ·simp at hb
  obtain ⟨b, hb0, hb⟩ := this
  exact ((h b hb0) need).2 c D D' β w (x :: xs) hw0 hMw hrel hD hK ⟨hb, h3⟩
theorem Gk {z y : Nat → Nat} {k : Nat} : ∀ {n : Nat}, k < n → (∀ j, k < j → j < n → z j = y j) → z k < y k → (∀ i, i < n → z i < 2 ^ 32) → val n z < val n y
 | 0, h, _, _, _ => by omega
 | n + 1, h, he, hk, hz => by
  rw [val, val]
  by_cases hn : k = n
  ·subst hn
   have h1 := eo (z := z) (n := k) fun i hi => hz i (by omega)
   have h2 : (z k + 1) * 2 ^ (32 * k) ≤ y k * 2 ^ (32 * k) := Nat.mul_le_mul_right _ hk
   rw [Nat.add_mul, Nat.one_mul] at h2
   omega
  ·have := Gk (n := n) (by omega) (fun j h1 h2 => he j h1 (by omega)) hk fun i hi => hz i (by omega)
   rw [he n (by omega) (by omega)]
   omega
theorem CV {A B : Nat} (hn : nl A = nl B) (h : ∀ i, i < nl A → au A i = au B i) : A = B := by
 rw [← eC (N := A), ← eC (N := B), ← hn]
 exact val_congr h
theorem yR {A B k : Nat} (hn : nl A = nl B) (hk : k < nl A) (h : ∀ j, k < j → j < nl A → au A j = au B j) (hlt : au A k < au B k) : A < B := by
 have := Gk (z := au A) (y := au B) hk h hlt fun i _ => cH
 rw [eC, hn, eC] at this
 exact this
theorem yb {A B : Nat} (h : nl A < nl B) : A < B := by
 rcases Nat.lt_or_ge A B with h1 | h1
 ·exact h1
 ·have := fu h1; omega
theorem dZ {ρ : Nat → Option Nat} {r w : Bool} {n m : Nat} {f : Nat → AV} {o : Nat → Nat} (hn : m = n) (h : ∀ j, j < n → f j = ah o j) : ck ρ ⟨r, w, 1, n, f⟩ ⟨r, w, 1, m, ah o⟩ :=
 gM hn fun j hj => by rw [h j hj]; exact aF rfl
def bJ (o : Nat → Nat) (i x : Nat) : Nat → Nat := fun j => if j = i then x else o j
theorem ia {o : Nat → Nat} {i x : Nat} : bJ o i x i = x := if_pos rfl
theorem eg {o : Nat → Nat} {i x j : Nat} (h : j ≠ i) : bJ o i x j = o j := if_neg h
theorem fQ {o : Nat → Nat} {i x b : Nat} {n : Nat} (hx : x < b) (ho : ∀ j, j < n → o j < b) : ∀ j, j < n → bJ o i x j < b := fun j hj => by
 unfold bJ
 split
 ·exact hx
 ·exact ho j hj
theorem fe {o : Nat → Nat} {i x : Nat} {v : Int} (hv : v = (x : Nat)) (j : Nat) : (if j = i then AV.int .u32 v else ah o j) = ah (bJ o i x) j := by
 unfold ah bJ
 split
 ·rw [hv]
 ·rfl
theorem oH {o : Nat → Nat} {i x : Nat} : ∀ {n : Nat}, i < n → o i = 0 → val n (bJ o i x) = val n o + x * 2 ^ (32 * i)
 | 0, h, _ => by omega
 | n + 1, h, h0 => by
  rw [val, val]
  by_cases hn : i = n
  ·subst hn
   rw [ia, h0, val_congr (y := o) fun j hj => eg (by omega)]
   omega
  ·rw [oH (n := n) (by omega) h0, eg (by omega)]
   omega
theorem nD {o : Nat → Nat} {i x : Nat} : val (i + 1) (bJ o i x) = val i o + x * 2 ^ (32 * i) := by
 rw [val, ia, val_congr (y := o) fun j hj => eg (by omega)]
theorem qB {x k : Nat} (h : 2 ^ k ≤ x) : aZ x = k + aZ (x / 2 ^ k) := by
 have hk := Nat.two_pow_pos k
 have h0 : x ≠ 0 := by omega
 have h1 : x / 2 ^ k ≠ 0 := by
  have := (Nat.le_div_iff_mul_le hk (x := 1) (y := x)).2 (by omega)
  omega
 unfold aZ
 rw [if_neg h0, if_neg h1]
 have : x.log2 = k + (x / 2 ^ k).log2 := by
  obtain ⟨g1, g2⟩ := (Nat.log2_eq_iff h1).1 rfl
  rw [Nat.log2_eq_iff h0]
  refine ⟨?_, ?_⟩
  ·rw [Nat.pow_add, Nat.mul_comm]
   exact (Nat.le_div_iff_mul_le hk).1 g1
  ·rw [show k + (x / 2 ^ k).log2 + 1 = ((x / 2 ^ k).log2 + 1) + k by omega, Nat.pow_add]
   exact (Nat.div_lt_iff_lt_mul hk).1 g2
 omega
theorem gy {x k : Nat} : aZ x ≤ k ↔ x < 2 ^ k := by
 unfold aZ
 split
 ·rename_i h; subst h; simp [Nat.two_pow_pos]
 ·rename_i h; rw [← Nat.log2_lt h]; omega
theorem Iq {N : Nat} (h : N ≠ 0) : aZ N = 32 * (nl N - 1) + aZ (au N (nl N - 1)) := by
 have hp := eP.2 h
 have h1 : 2 ^ (32 * (nl N - 1)) ≤ N := by
  rcases Nat.lt_or_ge N (2 ^ (32 * (nl N - 1))) with h1 | h1
  ·have := cB.2 h1; omega
  ·exact h1
 have h2 : N / 2 ^ (32 * (nl N - 1)) < 2 ^ 32 := by
  rw [Nat.div_lt_iff_lt_mul (Nat.two_pow_pos _), ← Nat.pow_add]
  have := j8 (N := N)
  rw [show 32 + 32 * (nl N - 1) = 32 * nl N by omega]
  exact this
 rw [qB h1, au, Nat.mod_eq_of_lt h2]
theorem Bd {o : Nat → Nat} {i x : Nat} : ∀ {n : Nat}, i < n → val n (bJ o i x) + o i * 2 ^ (32 * i) = val n o + x * 2 ^ (32 * i)
 | 0, h => by omega
 | n + 1, h => by
  rw [val, val]
  by_cases hn : i = n
  ·subst hn
   rw [ia, val_congr (y := o) fun j hj => eg (by omega)]
   omega
  ·have := Bd (o := o) (x := x) (n := n) (i := i) (by omega)
   rw [eg (show n ≠ i by omega)]
   omega
theorem aq.m9 {P : Program} {c : Ctx} {nt : Nat} {s : aE} {Q : aj → aE → Prop} {x y : Code} {i : Nat} (hx : x = .block i y) (h : aq P c nt y s (inBlock i Q)) : aq P c nt x s Q := hx ▸ .Iw h
theorem HF {c x y o : Nat} (hc : c < 2 ^ 32) (hx : x < 2 ^ 32) (hy : y < 2 ^ 32) (ho : o < 2 ^ 32) :
  IntKind.u64.wrap ((c : Int) + IntKind.u64.wrap (IntKind.u64.wrap (IntKind.u64.wrap (x : Int) * IntKind.u64.wrap (y : Int)) + IntKind.u64.wrap (o : Int))) = ((c + x * y + o : Nat) : Int) ∧
   c + x * y + o < 2 ^ 64 ∧ (c + x * y + o) / 4294967296 < 2 ^ 32 := by
 have h1 : x * y ≤ (2 ^ 32 - 1) * (2 ^ 32 - 1) := Nat.mul_le_mul (by omega) (by omega)
 have e : (x : Int) * (y : Int) = ((x * y : Nat) : Int) := by simp
 rw [wrap_u64 (x := (x : Int)) (by omega) (by omega), wrap_u64 (x := (y : Int)) (by omega) (by omega), wrap_u64 (x := (o : Int)) (by omega) (by omega), e]
 generalize x * y = p at *
 refine ⟨?_, by omega, by omega⟩
 rw [wrap_u64 (x := (p : Int)) (by omega) (by omega), wrap_u64 (x := (p : Int) + o) (by omega) (by omega), wrap_u64 (by omega) (by omega)]
 omega
theorem HS {vo vo' oi c x yj B s q r v Bi Bj vy : Nat} (hs : s = c + x * yj + oi) (hq : 4294967296 * q + r = s) (hset : vo' + oi * B = vo + r * B) (hB : B = Bi * Bj) (h : vo + c * B = v + x * vy * Bi) :
  vo' + q * (4294967296 * B) = v + x * (vy + yj * Bj) * Bi := by
 subst hB
 have e : (4294967296 * q + r) * (Bi * Bj) = (c + x * yj + oi) * (Bi * Bj) := by rw [hq, hs]
 grind
theorem I0 {P : Program} {f : FuncId} {K : Nat} {args : List AV} {u v : AV} {l l' : List Prop} (hf : aA P f K args [] ⟨u, [], l⟩) (hl : ay l' → ay l) (hk : keys u = []) (ht : u.isTuple = false) (hle : bA u v) : aA P f K args [] ⟨v, [], l'⟩ := by
 intro need
 obtain ⟨h1, h2⟩ := hf (hl need)
 refine ⟨fun k o ho => by simp [look] at ho, fun c D D' β w vs hw0 hMw hrel hD hK hv => (h2 c D D' β w vs hw0 hMw hrel hD hK hv).mono ?_⟩
 rintro x w' ⟨β', g1, g2, g3⟩
 refine ⟨β', g1, g2, ?_⟩
 have h3 : bO _ w' β' [u] [x] := ⟨bf.one g3 ht, trivial⟩
 have h4 := yZ (us := [u]) (vs := [v]) ⟨hle, trivial⟩ (h3.aW (by rw [CW]; exact hk))
 have h5 := h4.mono (fun b o h1 h2 => ⟨h2, h1⟩) (β' := β') fun k x hx => by simp [aW] at hx
 exact aT.bt h5.1
theorem Bq {i : Nat} {Q : aj → aE → Prop} {s : aE} (h : Q .normal s) : inBlock i Q (.exit i) s := by
 simp only [inBlock, if_true]; exact h
theorem dQ {i : Nat} {k : aE → Prop} {Q : aj → aE → Prop} {s : aE} (h : Q .normal s) : cP k (inBlock i Q) (.exit i) s := by
 show inBlock i Q (.exit i) s
 exact Bq h
theorem nE {i : Nat} {k : aE → Prop} {Q : aj → aE → Prop} {s : aE} (h : Q (.exit i) s) : cP k Q (.exit i) s := h
theorem FB {i : Nat} {k : aE → Prop} {Q : aj → aE → Prop} {s : aE} (h : Q .ret s) : cP k (inBlock i Q) .ret s := h
theorem dS {k : aE → Prop} {Q : aj → aE → Prop} {s : aE} (h : Q .ret s) : cP k Q .ret s := h
theorem AN {s : aE} : ∀ {a b : List Nat}, iT s (a ++ b) = iT s a ++ iT s b
 | [], _ => rfl
 | x :: a, b => by simp only [List.cons_append, iT, AN]
theorem CR {s : aE} : ∀ {a : List Nat}, (iT s a).length = a.length
 | [] => rfl
 | x :: a => by simp only [iT, List.length_cons, CR]
theorem EY {a b : List AV} : aV (a ++ b) = aV a ++ aV b := by
 induction a with
 | nil => rfl
 | cons x a ih => simp only [List.cons_append, aV, ih, List.append_assoc]
theorem fV {s : aE} {ls l : List Nat} {vs us : List AV} {os : aD} (hv : aU (ls ++ l) s = some (vs ++ us, os)) (hl : vs.length = ls.length) (hk : aV us = []) : aU ls s = some (vs, os) := by
 unfold aU at hv ⊢
 simp only [Option.some.injEq, Prod.mk.injEq, AN] at hv ⊢
 obtain ⟨h1, h2⟩ := hv
 obtain ⟨h3, h4⟩ := List.append_inj h1 (by rw [CR, hl])
 subst h3
 refine ⟨rfl, ?_⟩
 rw [← h2, h4, EY, hk, List.append_nil]
end Go.Am

/- Tables of types: what has to be shown of an entry. -/
namespace Go.Am
open AV
mutual
/-- The cells of a zero value. -/
def zeroCells : AV → Option (List Value)
 | .bool b => some [.bool b]
 | .int k n => some [.int k n]
 | .nil => some [.slice none 0 0]
 | .rat q n => if q = 0 ∧ n = 1 then some [.bool false, .slice none 0 0, .slice none 0 0] else none
 | .agg l => qb l
 | _ => none
def qb : List AV → Option (List Value)
 | [] => some []
 | a :: l => match zeroCells a, qb l with
  | some c, some d => some (c ++ d)
  | _, _ => none
end
mutual
theorem Dl {M : Nat → Prop} {w : World} {β : aN} : ∀ {v : AV} {cs : List Value}, zeroCells v = some cs → aJ M w β [v] cs
 | .bool b, cs, h => by simp only [zeroCells, Option.some.injEq] at h; subst h; exact .bool .nil
 | .int k n, cs, h => by simp only [zeroCells, Option.some.injEq] at h; subst h; exact .int .nil
 | .nil, cs, h => by simp only [zeroCells, Option.some.injEq] at h; subst h; exact .vnil .nil
 | .rat q n, cs, h => by
  simp only [zeroCells] at h
  split at h
  ·rename_i hq
   obtain ⟨rfl, rfl⟩ := hq
   simp only [Option.some.injEq] at h
   subst h
   have h0 : aJ M w aW [.mag 0] [.slice none 0 0] := by
    have := aJ.mag (M := M) (w := w) (β := aW) (N := 0) (base := none) (cap := 0) (.inl rfl) (by simp [qE]) .nil
    simpa [qE] using this
   have := aJ.rat (M := M) (w := w) (β := β) (q := 0) (n := 1) (x := .slice none 0 0) (y := .slice none 0 0) (l := []) (cs := []) ⟨by decide, by decide⟩ (by simpa using h0) (by simpa using h0) .nil
   simpa using this
  ·simp at h
 | .agg l, cs, h => by
  simp only [zeroCells] at h
  simpa using aJ.agg (Ep h) .nil
 | .mag _, cs, h => by simp [zeroCells] at h
 | .ak _ _ _, cs, h => by simp [zeroCells] at h
 | .cL _ _ _ _, cs, h => by simp [zeroCells] at h
 | .bV _, cs, h => by simp [zeroCells] at h
 | .ptr _ _ _ _ _, cs, h => by simp [zeroCells] at h
 | .own _ _ _ _, cs, h => by simp [zeroCells] at h
 | .func _ _, cs, h => by simp [zeroCells] at h
 | .tuple _, cs, h => by simp [zeroCells] at h
 | .bw _ _, cs, h => by simp [zeroCells] at h
theorem Ep {M : Nat → Prop} {w : World} {β : aN} : ∀ {l : List AV} {cs : List Value}, qb l = some cs → aJ M w β l cs
 | [], cs, h => by simp only [qb, Option.some.injEq] at h; subst h; exact .nil
 | a :: l, cs, h => by
  simp only [qb] at h
  cases ha : zeroCells a with
  | none => rw [ha] at h; simp at h
  | some c =>
   cases hl : qb l with
   | none => rw [ha, hl] at h; simp at h
   | some d =>
    rw [ha, hl] at h
    simp only [Option.some.injEq] at h
    subst h
    exact (Dl ha).cons (Ep hl)
end
def Ck (v : AV) : Option Value :=
 match zeroCells v with
 | some cs => if v.isAgg then some (.agg cs.toArray) else match cs with
  | [x] => some x
  | _ => none
 | none => none
theorem cw {P : Program} {t : TypeId} {ti : TI} (h1 : P.underlying t = some ti.desc) (h2 : (P.info? t).map (fun i => (i.size, i.bytes, i.zero)) = some (ti.size, ti.bytes, Ck ti.zero))
  (h3 : (Ck ti.zero).isSome = true) : bE P t ti := by
 cases hi : P.info? t with
 | none => rw [hi] at h2; simp at h2
 | some i =>
  rw [hi] at h2
  simp only [Option.map_some, Option.some.injEq, Prod.mk.injEq] at h2
  refine ⟨h1, ⟨i, hi, h2.1, h2.2.1⟩, fun _ => ?_⟩
  obtain ⟨z, hz⟩ := Option.isSome_iff_exists.1 h3
  refine ⟨i, z, hi, by rw [h2.2.2, hz], fun M w β => ?_⟩
  unfold Ck at hz
  cases hc : zeroCells ti.zero with
  | none => rw [hc] at hz; simp at hz
  | some cs =>
   rw [hc] at hz
   simp only at hz
   split at hz
   ·rename_i ha
    simp only [Option.some.injEq] at hz
    subst hz
    exact .yd (Dl hc) ha
   ·rename_i ha
    split at hz
    ·simp only [Option.some.injEq] at hz
     subst hz
     exact .bL (Dl hc) (by simpa using ha)
    ·simp at hz
theorem gF {P : Program} {t : TypeId} {ti : TI} (h1 : P.underlying t = some ti.desc) (h2 : (P.info? t).map (fun i => (i.size, i.bytes)) = some (ti.size, ti.bytes)) (h3 : ti.zero = .tuple []) : bE P t ti := by
 cases hi : P.info? t with
 | none => rw [hi] at h2; simp at h2
 | some i =>
  rw [hi] at h2
  simp only [Option.map_some, Option.some.injEq, Prod.mk.injEq] at h2
  exact ⟨h1, ⟨i, hi, h2.1, h2.2⟩, fun h => by rw [h3] at h; simp [isTuple] at h⟩
theorem WE {P : Program} : dr P [] := fun t ti h => by simp [look] at h
theorem bM {P : Program} {t : TypeId} {ti : TI} {T : Types} (h : bE P t ti) (hT : dr P T) : dr P ((t, ti) :: T) := by
 intro t' ti' ht
 simp only [look] at ht
 split at ht
 ·rename_i he
  have : t = t' := by simpa using he
  subst this
  simp only [Option.some.injEq] at ht
  subst ht
  exact h
 ·exact hT t' ti' ht
end Go.Am

/- aQ of functions that are handed objects to write to, or give back such; loops by what is seen. -/
namespace Go.Am
open AV
theorem bO.length {M : Nat → Prop} {w : World} {β : aN} : ∀ {us : List AV} {xs : List Value}, bO M w β us xs → us.length = xs.length
 | [], [], _ => rfl
 | _ :: _, _ :: _, h => by simp [bO.length h.2]
 | [], _ :: _, h => h.elim
 | _ :: _, [], h => h.elim
theorem bO.weak {c c' : Ctx} {β β2 : aN} {w : World} {ρ : Nat → Option Nat} {M M' : Nat → Prop} (hM : ∀ b, M' b → M b) (hβ : ∀ k2 k1, ρ k2 = some k1 → β2 k2 = β k1) : ∀ {us vs : List AV} {xs : List Value}, ep ρ us vs → bO M w β us xs → bO M' w β2 vs xs
 | [], [], [], _, _ => trivial
 | u :: us, v :: vs, x :: xs, h, hv => ⟨hv.1.weak hM hβ h.1.2, bO.weak (c := c) (c' := c') hM hβ h.2 hv.2⟩
 | [], _ :: _, _, h, _ => h.elim
 | _ :: _, [], _, h, _ => h.elim
 | _ :: _, _ :: _, [], _, h => h.elim
 | [], [], _ :: _, _, h => h.elim
theorem ab6 {nx : Nat} {rl : List (Nat × Nat)} (hr : gf nx rl = true) : ∀ a b k, aS rl a = some k → aS rl b = some k → a = b := by
 intro a b k ha hb
 have := List.all_eq_true.1 hr _ (nL ha)
 simp only [Bool.and_eq_true, decide_eq_true_eq] at this
 simpa using List.all_eq_true.1 this.2 _ (nL hb)
theorem Hz {nx : Nat} {rl : List (Nat × Nat)} (hr : gf nx rl = true) {a k : Nat} (ha : aS rl a = some k) : a < nx := by
 have := List.all_eq_true.1 hr _ (nL ha)
 simp only [Bool.and_eq_true, decide_eq_true_eq] at this
 exact this.1
theorem Vo {M : Nat → Prop} {w : World} {β : aN} {us : List AV} {xs : List Value} (h : bO M w β us xs) : bf M w β (jn us) (if h : xs.length = 1 then xs.toArray[0]'(by simpa using (show 0 < xs.length by omega)) else .tuple xs.toArray) := by
 have hl := h.length
 match us, xs, h, hl with
 | [], [], _, _ => exact ⟨[], rfl, trivial⟩
 | [u], [x], h, _ => exact h.1.bt
 | u :: u' :: us, x :: x' :: xs, h, _ => simp only [List.length_cons, Nat.add_eq_right, Nat.add_eq_zero_iff, Nat.succ_ne_zero, and_false, dite_false]; exact ⟨_, rfl, h⟩
section core
variable {P : Program} {T : Types}
structure zm (T : Types) (fn : Func) (τ : Nat → Option Nat) (pre : aD) (r : cA) (s : aE) : Prop where
 ends : Ends T fn r.res s
 A8 : ∀ k o, look k (bW (dO r.post) pre) = some o → ∃ k1 o1, τ k = some k1 ∧ look k1 s.store = some o1 ∧ o1.row = false ∧ ck τ o1 o
structure xK (T : Types) (fn : Func) (τ : Nat → Option Nat) (pre : aD) (r : cA) (s : aE) : Prop where
 ends : ∃ vs q us, eE T s fn.results.toList = some (vs, q) ∧ ay q ∧ ep τ vs us ∧ r.res = jn us
 A8 : ∀ k o, look k (bW (dO r.post) pre) = some o → ∃ k1 o1, τ k = some k1 ∧ look k1 s.store = some o1 ∧ ck τ o1 o
structure qT (rl : List (Nat × Nat)) (K : Nat) (pre : aD) (τ : Nat → Option Nat) : Prop where
 inj : ∀ a b k, τ a = some k → τ b = some k → a = b
 dom : ∀ k a, τ k = some a → aS rl a = some k ∨ (K ≤ k ∧ k < K + bY)
theorem M9 (hT : dr P T) {f : FuncId} {fn : Func} {x : Code} (hf : aO P f fn x) {args args0 : List AV} {pre pre0 : aD} {r : cA} {K nx : Nat} (rl : List (Nat × Nat)) (hlen : args0.length ≤ fn.ntmps) (hr : gf nx rl = true)
  (ha : ep (aS rl) args args0) (hp : lz (aS rl) pre pre0) (hrl : ∀ a k, aS rl a = some k → ∃ o, look k pre = some o)
  (hpost : ∀ k o, look k r.post = some o → (∃ o', look k pre = some o') ∨ (K ≤ k ∧ k < K + bY))
  (h : r.need → ∀ c : Ctx, c.ro = none → (∀ k x, c.k0 k = some x → (aS rl k).isSome = true) → aq P c fn.ntmps x ⟨aL 0 args0, pre0, nx⟩ fun e s' => (e = .normal ∨ e = .ret) ∧ ∃ τ, qT rl K pre τ ∧ (zm T fn τ pre r s' ∨ xK T fn τ pre r s')) : aA P f K args pre r := by
 intro need
 refine ⟨hpost, fun c D D' β w vs hw0 hMw hrel hD hK hv => .inl ⟨fn, hf.get, hf.name, by simp [hf.body], ?_⟩⟩
 have hobj0 := AO hp
 have hβ0 : ∀ k2 k1, aS rl k2 = some k1 → (fun a => (aS rl a).bind β) k2 = β k1 := fun k2 k1 h => by simp [h]
 have hW : aY { c with k0 := fun a => (aS rl a).bind β, ro := none } pre0 (fun k => k < nx) (fun a => (aS rl a).bind β) w := by
  refine hrel.weak (c' := { c with k0 := fun a => (aS rl a).bind β, ro := none }) (ρ := aS rl) rfl rfl rfl (ab6 hr) (fun k o h => .inl (hobj0 k o h)) hβ0 (fun k2 k1 h => Hz hr h) (fun k2 x hk => ?_) (fun k2 b N hk => ?_) (fun k x hk => hk)
  ·cases h1 : aS rl k2 with
   | none => simp [h1] at hk
   | some k1 => exact Hz hr h1
  ·cases h1 : aS rl k2 with
   | none => simp [h1] at hk
   | some k1 => simp [h1] at hk; exact hrel.lt k1 b N hk
 have hv0 : bO (aK { c with k0 := fun a => (aS rl a).bind β, ro := none } pre0 (fun a => (aS rl a).bind β)) w (fun a => (aS rl a).bind β) args0 vs :=
  hv.weak (c := c) (c' := c) (ρ := aS rl) (yu rfl (fun k o h => .inl (hobj0 k o h)) hβ0) hβ0 ha
 have hl0 := hv0.length
 have hstart : Rel { c with k0 := fun a => (aS rl a).bind β, ro := none } fn.ntmps (fun k => k < nx) (aL 0 args0) pre0 { tmps := vs.toArray ++ Array.replicate (fn.ntmps - vs.toArray.size) undef, defers := [] } w := by
  refine ⟨.nil, by simp; omega, _, hW, ?_⟩
  have := C6 (pre := #[]) (post := Array.replicate (fn.ntmps - vs.toArray.size) undef) hv0 rfl
  simpa using this
 refine callsIn_wide.1 (callsIn_of_wp_marks (F := Fence.wide) (n := 3) hf.get hf.body trivial (wpIn_mono (h need { c with k0 := fun a => (aS rl a).bind β, ro := none } rfl (fun k x hk => by
  cases h1 : aS rl k with
  | none => simp [h1] at hk
  | some k1 => rfl) _ w hstart) ?_))
 rintro e a' w9 ⟨ae, s', rfl, hr9, hex, τ, hτ, hends⟩
 obtain ⟨w', hr', hleave⟩ := Rel.leave (P := P) (fn := fn) (R := fun e w' => ∃ x, e = .returned x ∧ dz c pre D' β w (dO r.post) r.res x w') hr9
 -- what the end gives, in the function's own keys
 have hfin : ∃ x β1 st1, (results fn a'.tmps).run P w' = .ok x w' ∧ aY { c with k0 := fun a => (aS rl a).bind β, ro := none } st1 (fun k => k < s'.next) β1 w' ∧
   (∀ k o, look k (bW (dO r.post) pre) = some o → ∃ k1 o1, τ k = some k1 ∧ look k1 st1 = some o1 ∧ ck τ o1 o) ∧
   bf (aK { c with k0 := fun a => (aS rl a).bind β, ro := none } st1 β1) w' (fun k => (τ k).bind β1) r.res x := by
  rcases hends with hends | hends
  ·obtain ⟨hdef, x, β1, st1, hrun, hw1, hvx, hrow⟩ := Iv hT hends.ends hr'
   refine ⟨x, β1, st1, hrun, hw1, fun k o hk => ?_, hvx.mono (fun b o h1 h2 => ⟨h2, h1⟩) fun k x hk => by simp [aW] at hk⟩
   obtain ⟨k1, o1, g1, g2, g3, g4⟩ := hends.A8 k o hk
   exact ⟨k1, o1, g1, hrow k1 o1 g2 g3, g4⟩
  ·obtain ⟨a1, a2, β1, a3, a4⟩ := hr'
   obtain ⟨vs1, q, us, h1, hq, h2, h3⟩ := hends.ends
   obtain ⟨xs, hxs, hv, hlen⟩ := DN hT a3 a4 (g := fun x => match x with
    | ResultVar.tmp t => pure (a'.tmps.getD t undef)
    | ResultVar.cell r t => do let y ← asAddr (a'.tmps.getD r undef); loadVar t y) (fun _ => rfl) (fun _ _ => rfl) h1 hq
   refine ⟨if h : xs.length = 1 then xs.toArray[0]'(by simpa using (show 0 < xs.length by omega)) else .tuple xs.toArray, β1, s'.store, ?_, a3, hends.A8, ?_⟩
   ·have key : results fn a'.tmps = (do
      let vs ← fn.results.mapM fun x => match x with
       | ResultVar.tmp t => pure (a'.tmps.getD t undef)
       | ResultVar.cell r t => do let y ← asAddr (a'.tmps.getD r undef); loadVar t y
      pure (if h : vs.size = 1 then vs[0] else Value.tuple vs)) := rfl
    rw [key, Sem.run_bind, Array.mapM_eq_mapM_toList, Sem.run_map, hxs]
    simp only [Result.andThen_ok, Sem.run_pure]
    congr 1
   ·rw [h3]
    exact Vo (hv.weak (c := c) (c' := c) (ρ := τ) (fun _ h => h) (fun k2 k1 h => by simp [h]) h2)
 obtain ⟨x, β1, st1, hrun, hw1, hobj1, hvx⟩ := hfin
 have hkeep1 : ∀ k a, τ k = some a → ∀ y, β k = some y → β1 a = some y := by
  intro k a hka y hy
  rcases hτ.dom k a hka with h1 | ⟨h1, h2⟩
  ·exact hw1.keep a y (by simp only [h1, Option.bind_some]; exact hy)
  ·exact absurd (hrel.dom k y hy) (hK k h1 h2).1
 have hβ2 : ∀ k2 k1, τ k2 = some k1 → (fun k => match τ k with
   | some a => β1 a
   | none => β k) k2 = β1 k1 := fun k2 k1 h => by simp [h]
 have hW2 : aY c (bW (dO r.post) pre) D' (fun k => match τ k with
   | some a => β1 a
   | none => β k) w' := by
  have hd2 : ∀ k2 a, τ k2 = some a → D' k2 := fun k2 a ha => by
   rcases hτ.dom k2 a ha with h1 | ⟨h1, h2⟩
   ·obtain ⟨o, ho⟩ := hrl a k2 h1
    cases hb : β k2 with
    | some x => exact hD _ (hrel.dom k2 _ hb)
    | none => exact hD _ (hrel.cQ k2 o ho hb).2
   ·exact (hK k2 h1 h2).2
  refine hw1.weak (c' := c) (ρ := τ) rfl rfl rfl hτ.inj (fun k o h => .inl (hobj1 k o h)) hβ2 hd2 (fun k2 y hk => ?_) (fun k2 b N hk => ?_) (fun k y hk => ?_)
  ·split at hk
   ·rename_i a ha
    exact hd2 k2 a ha
   ·exact hD _ (hrel.dom k2 y hk)
  ·split at hk
   ·exact hw1.lt _ b N hk
   ·exact Nat.lt_of_lt_of_le (hrel.lt k2 b N hk) (by have := hw1.size; rw [← hw0]; exact this)
  ·have hy := hrel.keep k y hk
   split
   ·rename_i a ha
    exact hkeep1 k a ha y hy
   ·exact hy
 have hO : dz c pre D' β w (dO r.post) r.res x w' := by
  refine ⟨_, hW2, ⟨fun b o hb ho => ?_, fun k y hk => ?_⟩, ?_⟩
  ·have hlt : b < c.w0.heap.size := by rw [hw0]; exact z4 ho
   have hmw : ¬ c.Mw b := fun hm => hb (hMw b hm)
   refine ⟨?_, ?_⟩
   ·rw [hw1.block b hlt hmw]
    show c.w0.heap[b]? = _
    rw [hw0]; exact ho
   ·rintro (hm | ⟨k, o', N, h1, h2, h3⟩)
    ·exact hb (.inl hm)
    ·rcases hW2.new k o' b N h1 h2 h3 with h4 | h4
     ·omega
     ·exact hmw h4
  ·split
   ·rename_i a ha
    exact hkeep1 k a ha y hk
   ·exact hk
  ·refine hvx.mono (fun b o h1 h2 => ⟨h2, fun h3 => h1 (yu (c := { c with k0 := fun a => (aS rl a).bind β, ro := none }) rfl (fun k o h => .inl (hobj1 k o h)) hβ2 b h3)⟩) (fun k y hk => ?_)
   cases h1 : τ k with
   | none => simp [h1] at hk
   | some a => simpa [h1] using hk
 rcases hex with rfl | rfl
 ·exact hleave x hrun ⟨x, rfl, hO⟩
 ·exact hleave x hrun ⟨x, rfl, hO⟩
theorem k7 (hT : dr P T) {f : FuncId} {fn : Func} {x : Code} (hf : aO P f fn x) {args args0 : List AV} {pre pre0 : aD} {r : cA} {K nx : Nat} (rl : List (Nat × Nat)) (hlen : args0.length ≤ fn.ntmps) (hr : gf nx rl = true)
  (ha : ep (aS rl) args args0) (hp : lz (aS rl) pre pre0) (hrl : ∀ a k, aS rl a = some k → ∃ o, look k pre = some o)
  (hpost : ∀ k o, look k r.post = some o → (∃ o', look k pre = some o') ∨ (K ≤ k ∧ k < K + bY))
  (h : r.need → ∀ c : Ctx, (∀ k x, c.k0 k = some x → (aS rl k).isSome = true) → aq P c fn.ntmps x ⟨aL 0 args0, pre0, nx⟩ fun e s' => (e = .normal ∨ e = .ret) ∧ ∃ τ, qT rl K pre τ ∧ (zm T fn τ pre r s' ∨ xK T fn τ pre r s')) : aA P f K args pre r :=
 M9 hT hf rl hlen hr ha hp hrl hpost fun need c _ => h need c
end core
def gC (nx : Nat) (vs : List AV) : Bool := (vs.all fun v => !v.isTuple) && (aV vs).all fun k => decide (k < nx)
def fk (nx : Nat) : aD → Prop
 | [] => True
 | (k, o) :: l => (k < nx ∧ ∀ i, i < o.len → keys (o.f i) = []) ∧ fk nx l
theorem Iz {nx : Nat} : ∀ {os : aD}, fk nx os → ∀ {k : Nat} {o : az}, look k os = some o → k < nx ∧ ∀ i, i < o.len → keys (o.f i) = []
 | [], _, k, o, h => by simp [look] at h
 | (j, b) :: l, h, k, o, hk => by
  simp only [look] at hk
  split at hk
  ·rename_i he
   have : j = k := by simpa using he
   subst this
   simp only [Option.some.injEq] at hk
   subst hk
   exact h.1
  ·exact Iz h.2 hk
theorem Fj {nx : Nat} {u : AV} (hk : ∀ k ∈ keys u, k < nx) : fo (fun k => if k < nx then some k else none) u u := by
 refine ⟨rfl, fun M w β cs hc => ?_⟩
 have gen : ∀ {l : List AV} {cs : List Value}, aJ M w β l cs → (∀ k ∈ aV l, k < nx) → aJ M w (fun k => (if k < nx then some k else none).bind β) l cs := by
  intro l cs h
  generalize hβ : β = β' at h
  induction h with
  | nil => exact fun _ => .nil
  | bool _ ih => exact fun h => .bool (ih hβ (by simpa [aV, keys] using h))
  | int _ ih => exact fun h => .int (ih hβ (by simpa [aV, keys] using h))
  | rat hs h1 h2 _ _ _ ih => exact fun h => .rat hs h1 h2 (ih hβ (by simpa [aV, keys] using h))
  | mag h1 h2 _ ih => exact fun h => .mag h1 h2 (ih hβ (by simpa [aV, keys] using h))
  | agg _ _ ih1 ih2 => exact fun h => .agg (ih1 hβ fun k hk => h k (by simp only [aV, keys]; exact List.mem_append_left _ hk)) (ih2 hβ fun k hk => h k (by simp only [aV]; exact List.mem_append_right _ hk))
  | ak h1 h2 h3 h4 h5 _ _ ih => exact fun h => .ak h1 h2 h3 h4 h5 (ih hβ (by simpa [aV, keys] using h))
  | cL hq h1 h2 h3 h4 h5 _ _ ih => exact fun h => .cL hq h1 h2 h3 h4 h5 (ih hβ (by simpa [aV, keys] using h))
  | vnil _ ih => exact fun h => .vnil (ih hβ (by simpa [aV, keys] using h))
  | void hx _ ih => exact fun h => .void hx (ih hβ (by simpa [aV, keys] using h))
  | str _ ih => exact fun h => .str (ih hβ (by simpa [aV, keys] using h))
  | bV h1 h2 _ _ ih => exact fun h => .bV h1 h2 (ih hβ (by simpa [aV, keys] using h))
  | @ptr _ k _ _ _ _ _ _ _ _ hk _ ih =>
   intro h
   have : k < nx := h k (by simp [aV, keys])
   exact .ptr (by simp only [this, if_true, Option.bind_some]; rw [← hβ] at hk ⊢; exact hk) (ih hβ fun k hk => h k (by simp only [aV]; exact List.mem_append_right _ hk))
  | @own _ k _ _ _ _ _ _ _ _ _ hk h1 h2 h4 h3 _ ih =>
   intro h
   have : k < nx := h k (by simp [aV, keys])
   exact .own (by simp only [this, if_true, Option.bind_some]; rw [← hβ] at hk ⊢; exact hk) h1 h2 h4 h3 (ih hβ fun k hk => h k (by simp only [aV]; exact List.mem_append_right _ hk))
  | own0 h3 _ ih => exact fun h => .own0 h3 (ih hβ fun k hk => h k (by simp only [aV]; exact List.mem_append_right _ hk))
  | bw ha _ _ ih1 ih2 => exact fun h => .bw ha (ih1 hβ fun k hk => h k (by simp only [aV, keys, List.append_nil] at hk ⊢; exact List.mem_append_left _ hk)) (ih2 hβ fun k hk => h k (by simp only [aV]; exact List.mem_append_right _ hk))
  | func _ hc _ ih1 ih2 => exact fun h => .func (ih1 hβ fun k hk => h k (by simp only [aV, keys]; exact List.mem_append_left _ hk)) hc (ih2 hβ fun k hk => h k (by simp only [aV]; exact List.mem_append_right _ hk))
 exact gen hc fun k h => hk k (by rw [CW] at h; exact h)
theorem EU {nx : Nat} : ∀ {vs : List AV}, gC nx vs = true → ep (fun k => if k < nx then some k else none) vs vs
 | [], _ => trivial
 | v :: vs, h => by
  simp only [gC, List.all_cons, aV, List.all_append, Bool.and_eq_true, Bool.not_eq_true'] at h
  obtain ⟨⟨h1, h2⟩, h3, h4⟩ := h
  refine ⟨⟨h1, Fj fun k hk => by simpa using List.all_eq_true.1 h3 k hk⟩, EU ?_⟩
  simp only [gC, Bool.and_eq_true]
  exact ⟨h2, h4⟩
theorem jW {c : Ctx} {s' : aE} {ls : List Nat} {vs : List AV} {os : aD} {nx : Nat} (hv : aU ls s' = some (vs, os)) (h0 : ∀ k x, c.k0 k = some x → k < nx) (hok : gC nx vs = true) (ho : fk nx os) : ∃ ρ, Le c ρ s' ⟨aC ls vs, os, nx⟩ := by
 unfold aU at hv
 simp only [Option.some.injEq, Prod.mk.injEq] at hv
 obtain ⟨rfl, rfl⟩ := hv
 refine ⟨fun k => if k < nx then some k else none, ?_, AM (EU hok), fun k2 o2 hk => ?_, fun k2 k1 hk => ?_, fun k x hk => by simp [h0 k x hk]⟩
 ·intro a b k ha hb
  split at ha <;> split at hb <;> simp_all
 ·obtain ⟨h1, h2⟩ := Iz ho hk
  refine .inl ⟨k2, o2, by simp [h1], ?_, ⟨rfl, rfl, rfl, rfl, fun i hi => Fj fun k hk => by rw [h2 i hi] at hk; simp at hk⟩⟩
  rw [kM] at hk
  split at hk
  ·exact hk
  ·simp at hk
 ·split at hk
  ·assumption
  ·simp at hk
section rules
variable {P : Program} {c : Ctx} {nt : Nat} {s : aE} {Q : aj → aE → Prop} {T : Types} {Γ : aQ}
theorem aq.fq {x y : Code} {i : Nat} (hx : x = .block i (.loop y)) (ls : List Nat) (nx : Nat) (h0 : ∀ k x, c.k0 k = some x → k < nx) {α : Type} (vs : α → List AV) (os : α → aD) (hok : ∀ a, gC nx (vs a) = true) (ho : ∀ a, fk nx (os a)) (I : α → Prop) (μ : α → Nat) (j : α)
  (hv : aU ls s = some (vs j, os j)) (hI : I j)
  (round : ∀ j, I j → aq P c nt y ⟨aC ls (vs j), os j, nx⟩ (cP (fun s' => ∃ k, aU ls s' = some (vs k, os k) ∧ I k ∧ μ k < μ j) (inBlock i Q))) : aq P c nt x s Q :=
 aq.gp hx (fun a => ⟨aC ls (vs a), os a, nx⟩) I μ j (jW hv h0 (hok j) (ho j)) hI fun j hj => (round j hj).mono fun e s' h => by
  cases e with
  | normal =>
   obtain ⟨k, h1, h2, h3⟩ := h
   exact ⟨k, jW h1 h0 (hok k) (ho k), h2, h3⟩
  | exit i => exact h
  | ret => exact h
theorem aq.hG {x : Code} {ls : List Nat} {nx : Nat} {vs : List AV} {os : aD} (hv : aU ls s = some (vs, os)) (h0 : ∀ k x, c.k0 k = some x → k < nx) (hok : gC nx vs = true) (ho : fk nx os) (h : aq P c nt x ⟨aC ls vs, os, nx⟩ Q) : aq P c nt x s Q :=
 .jK (jW hv h0 hok ho) h
theorem aB.hG {l : List Code} {ls : List Nat} {nx : Nat} {vs : List AV} {os : aD} (hv : aU ls s = some (vs, os)) (h0 : ∀ k x, c.k0 k = some x → k < nx) (hl : l.isEmpty = false) (hok : gC nx vs = true) (ho : fk nx os) (h : aB P c nt l ⟨aC ls vs, os, nx⟩ Q) : aB P c nt l s Q :=
 .weak hl (jW hv h0 hok ho) h
theorem aB.ze (hT : dr P T) (hΓ : bg P Γ) (hm : P.follows .mixedOrders = true) {fn : Func} {forks : List Nat} (n : Nat) {l : List Code} {ls : List Nat} {nx : Nat} {vs : List AV} {os : aD} (hv : aU ls s = some (vs, os)) (h0 : ∀ k x, c.k0 k = some x → k < nx)
  (hok : gC nx vs = true) (ho : fk nx os) {t : aa (List AV)} (hc : cq T Γ forks n fn l ⟨aC ls vs, os, nx⟩ = some t) (hd : (l.all fun x => b6 nt x) = true) (hl : l.isEmpty = false) {res : AV} (h : t.all fun _ us => dg us res) : aB P c nt l s (Fin T fn res) :=
 .hG hv h0 hl hok ho (.fin hT hΓ hm n hc hd h)
theorem aB.dN (hT : dr P T) (hΓ : bg P Γ) (hm : P.follows .mixedOrders = true) {forks : List Nat} (n : Nat) {l : List Code} {ls : List Nat} {nx : Nat} {vs : List AV} {os : aD} (hv : aU ls s = some (vs, os)) (h0 : ∀ k x, c.k0 k = some x → k < nx)
  (hok : gC nx vs = true) (ho : fk nx os) (ls2 : List Nat) {t : aa (List AV × aD)} (hc : aI T Γ forks n ls2 l ⟨aC ls vs, os, nx⟩ = some t) (hd : (l.all fun x => b6 nt x) = true) (hl : l.isEmpty = false) (h : t.all fun e v => ∀ s', aU ls2 s' = some v → Q e s') : aB P c nt l s Q :=
 .hG hv h0 hl hok ho (.aX hT hΓ hm n ls2 hc hd h)
theorem aq.dN (hT : dr P T) (hΓ : bg P Γ) (hm : P.follows .mixedOrders = true) {x : Code} {forks : List Nat} (n : Nat) {ls : List Nat} {nx : Nat} {vs : List AV} {os : aD} (hv : aU ls s = some (vs, os)) (h0 : ∀ k x, c.k0 k = some x → k < nx)
  (hok : gC nx vs = true) (ho : fk nx os) (ls2 : List Nat) {t : aa (List AV × aD)} (hc : aI T Γ forks n ls2 [x] ⟨aC ls vs, os, nx⟩ = some t) (hd : b6 nt x = true) (h : t.all fun e v => ∀ s', aU ls2 s' = some v → Q e s') : aq P c nt x s Q :=
 .hG hv h0 hok ho (.aX hT hΓ hm n ls2 hc hd h)
end rules
theorem ry {T : Types} {fn : Func} {ls : List Nat} {vs us ws : List AV} {os ps pre : aD} {s' : aE} {τ : Nat → Option Nat} {r : cA} (hv : aU ls s' = some (vs, os)) (hr : jt (aC ls vs) fn.results.toList = some us) (hle : ep τ us ws) (hres : r.res = jn ws)
  (he : bW (dO r.post) pre = ps) (ho : lz τ os ps) : xK T fn τ pre r s' := by
 unfold aU at hv
 simp only [Option.some.injEq, Prod.mk.injEq] at hv
 obtain ⟨rfl, rfl⟩ := hv
 refine ⟨⟨us, [], ws, Cv hr, trivial, hle, hres⟩, fun k o hk => ?_⟩
 rw [he] at hk
 obtain ⟨k1, o1, g1, g2, g3⟩ := AO ho k o hk
 refine ⟨k1, o1, g1, ?_, g3⟩
 rw [kM] at g2
 split at g2
 ·exact g2
 ·simp at g2
def pS (g : Nat → List AV → Option cA) : Spec := fun K args pre => match dj pre args with
 | some as => g K as
 | none => none
theorem yH {P : Program} {f : FuncId} {g : Nat → List AV → Option cA} (h : ∀ K args r, aV args = [] → g K args = some r → aA P f K args [] r) :
  ∀ K args pre r, pS g K args pre = some r → aA P f K args pre r := by
 intro K args pre r hg
 unfold pS at hg
 split at hg
 ·rename_i as has
  have hf := h K as r (uq has) hg
  intro need
  obtain ⟨h1, h2⟩ := hf need
  refine ⟨fun k o ho => .inr ((h1 k o ho).resolve_left fun ⟨o', h⟩ => by simp [look] at h), fun c D D' β w vs hw0 hMw hrel hD hK hv => ?_⟩
  have hv' : bO (aK c pre β) w aW as vs := xQ hrel (fun _ _ h => h) has hv
  exact (hf.frame (pre' := pre) (fun k o hk => by simp [look] at hk)).use need hrel (fun _ _ h => h) hD hK (hv'.mono (fun b o h1 h2 => ⟨h2, h1⟩) fun k x hx => by simp [aW] at hx)
 ·simp at hg
theorem B5 {K k a : Nat} {pre : aD} (h : K ≤ k ∧ k < K + bY) : qT [] K pre (aS [(k, a)]) :=
 ⟨fun x y z hx hy => by
  simp only [aS, look] at hx hy
  split at hx <;> split at hy <;> simp_all, fun x y hx => by
  simp only [aS, look] at hx
  split at hx
  ·rename_i he
   have : k = x := by simpa using he
   subst this
   exact .inr h
  ·simp at hx⟩
theorem qW {K k a : Nat} {pre : aD} : qT [(a, k)] K pre (aS [(k, a)]) :=
 ⟨fun x y z hx hy => by
  simp only [aS, look] at hx hy
  split at hx <;> split at hy <;> simp_all, fun x y hx => by
  simp only [aS, look] at hx ⊢
  split at hx
  ·rename_i he
   have : k = x := by simpa using he
   subst this
   simp only [Option.some.injEq] at hx
   subst hx
   exact .inl (by simp)
  ·simp at hx⟩
theorem ir {c : Ctx} (h : c.k0 = aW) {nx : Nat} : ∀ k x, c.k0 k = some x → k < nx := fun k x hk => by rw [h] at hk; simp [aW] at hk
theorem cJ {ls : List Nat} {s' : aE} {vs us : List AV} {os ps : aD} (hv : aU ls s' = some (vs, os)) (h1 : vs = us) (h2 : os = ps) : aU ls s' = some (us, ps) := by rw [hv, h1, h2]
end Go.Am

/- Rational numbers: signs, sizes, quotients of natural numbers. -/
namespace Go.Am
open AV
def er (b : Bool) (n : Nat) : Int := if b then -(n : Int) else n
def sQ (b : Bool) (n d : Nat) : Rat := mkRat (er b n) d
def bS (q : Rat) : Nat := max (aZ q.num.natAbs) (aZ q.den)
theorem zD {b : Bool} {n : Nat} : (er b n).natAbs = n := by unfold er; split <;> simp
theorem Qx {b : Bool} : er b 0 = 0 := by unfold er; split <;> simp
theorem Xg {b : Bool} {n g : Nat} (h : g ∣ n) : er b n / (g : Int) = er b (n / g) := by
 unfold er
 split
 ·rw [Int.neg_ediv_of_dvd (Int.natCast_dvd_natCast.2 h)]; simp
 ·simp
theorem gq {q : Rat} : q < 0 ↔ q.num < 0 := by rw [Rat.lt_iff]; simp
theorem zk {b : Bool} {n d : Nat} (hd : d ≠ 0) : (sQ b n d).num = er b (n / Nat.gcd n d) := by
 unfold sQ
 rw [Rat.num_mkRat, if_neg hd, zD, Nat.gcd_comm, Xg (Nat.gcd_dvd_left n d)]
theorem FG {b : Bool} {n d : Nat} (hd : d ≠ 0) : (sQ b n d).den = d / Nat.gcd n d := by
 unfold sQ
 rw [Rat.den_mkRat, if_neg hd, zD, Nat.gcd_comm]
theorem A6 {b : Bool} {d : Nat} : sQ b 0 d = 0 := by unfold sQ; rw [Qx]; simp
theorem PD {b : Bool} {n d : Nat} (hn : n ≠ 0) (hd : d ≠ 0) : decide (sQ b n d < 0) = b := by
 have h1 : 0 < n / Nat.gcd n d := Nat.div_pos (Nat.le_of_dvd (by omega) (Nat.gcd_dvd_left n d)) (Nat.gcd_pos_of_pos_left _ (by omega))
 cases b
 ·simp only [decide_eq_false_iff_not, gq, zk hd, er]; simp; omega
 ·simp only [decide_eq_true_eq, gq, zk hd, er]; simp; omega
theorem sO {q : Rat} : Sz q (bS q) :=
 ⟨Nat.lt_of_lt_of_le (gy.1 (Nat.le_refl _)) (Nat.pow_le_pow_right (by omega) (Nat.le_max_left _ _)), Nat.lt_of_lt_of_le (gy.1 (Nat.le_refl _)) (Nat.pow_le_pow_right (by omega) (Nat.le_max_right _ _))⟩
theorem Pb {q : Rat} {n : Nat} : Sz q n ↔ bS q ≤ n := by
 unfold Sz bS
 rw [← gy, ← gy]; omega
theorem eU {q r : Rat} {n k : Nat} (h : q = r) (hs : Sz r k) : bA (.rat q n) (.rat r k) := by
 subst h
 refine ⟨rfl, fun M w cs hc => ?_⟩
 cases hc with
 | rat _ h1 h2 h3 => cases h3; exact .rat hs h1 h2 .nil
theorem BS {b : Bool} {n d k : Nat} (hd : d ≠ 0) (hn : n < 2 ^ k) (hdk : d < 2 ^ k) : Sz (sQ b n d) k := by
 refine ⟨?_, ?_⟩
 ·rw [zk hd, zD]; exact Nat.lt_of_le_of_lt (Nat.div_le_self _ _) hn
 ·rw [FG hd]; exact Nat.lt_of_le_of_lt (Nat.div_le_self _ _) hdk
theorem iL (q : Rat) : sQ (decide (q < 0)) q.num.natAbs q.den = q := by
 unfold sQ
 have : er (decide (q < 0)) q.num.natAbs = q.num := by
  unfold er
  by_cases h : q < 0
  ·have := gq.1 h; simp [h]; omega
  ·have : ¬ q.num < 0 := fun h' => h (gq.2 h')
   simp [h]; omega
 rw [this, Rat.mkRat_self]
theorem pU {b : Bool} {x y n d k : Nat} (hn : n ≠ 0) (hd : d ≠ 0) (hx : x = n / Nat.gcd n d) (hy : y = if d / Nat.gcd n d = 1 then 0 else d / Nat.gcd n d) (hs : Sz (sQ b n d) k) : bA (.agg [.bool b, .mag x, .mag y]) (.rat (sQ b n d) k) :=
 oc hs (PD hn hd).symm (by rw [zk hd, zD, hx]) (by rw [FG hd, hy])
theorem kz {k : Nat} : bA (.agg [.bool false, .mag 0, .mag 0]) (.rat 0 (k + 1)) :=
 oc ⟨by simp [Nat.two_pow_pos], by simp⟩ (by decide) rfl rfl
section down
variable {P : Program} {c : Ctx} {nt : Nat} {s : aE} {Q : aj → aE → Prop} {T : Types}
def dc (c : Ctx) (Q : aj → aE → Prop) (e : aj) (s' : aE) : Prop := Q e s' ∨ ∃ s2 ρ, Le c ρ s' s2 ∧ Q e s2
theorem aq.down {x : Code} (h : aq P c nt x s (dc c Q)) : aq P c nt x s Q := by
 intro a w hr
 refine wpIn_mono (h a w hr) ?_
 rintro e a' w' ⟨ae, s', h1, h2, hq | ⟨s2, ρ, hle, hq⟩⟩
 ·exact ⟨ae, s', h1, h2, hq⟩
 ·exact ⟨ae, s2, h1, hle.rel h2, hq⟩
theorem xI {fn : Func} {ls : List Nat} {vs : List AV} {os : aD} {nx : Nat} {s' : aE} {e : aj} {t : aa (List AV)} {res : AV} (he : iZ T fn e ⟨aC ls vs, os, nx⟩ = some t) (hv : aU ls s' = some (vs, os)) (h0 : ∀ k x, c.k0 k = some x → k < nx) (hok : gC nx vs = true) (ho : fk nx os)
  (h : t.all fun _ us => dg us res) : dc c (Fin T fn res) e s' := by
 obtain ⟨ρ, hle⟩ := jW hv h0 hok ho
 exact .inr ⟨_, ρ, hle, Ak he h⟩
theorem aB.iC (hT : dr P T) {Γ : aQ} (hΓ : bg P Γ) (hm : P.follows .mixedOrders = true) {fn : Func} {forks : List Nat} (n : Nat) {l : List Code} {ls : List Nat} {nx : Nat} {vs : List AV} {os : aD} (hv : aU ls s = some (vs, os)) (h0 : ∀ k x, c.k0 k = some x → k < nx)
  (hok : gC nx vs = true) (ho : fk nx os) {t : aa (List AV)} (hc : cq T Γ forks n fn l ⟨aC ls vs, os, nx⟩ = some t) (hd : (l.all fun x => b6 nt x) = true) (hl : l.isEmpty = false) {res : AV} (h : t.all fun _ us => dg us res) : aB P c nt l s (dc c (Fin T fn res)) :=
 (aB.ze hT hΓ hm n hv h0 hok ho hc hd hl h).mono fun _ _ h => .inl h
end down
theorem gb {P : Program} {T : Types} (hT : dr P T) {f : FuncId} {fn : Func} {x : Code} (hf : aO P f fn x) {args : List AV} {r : cA} (hk : aV args = []) (hlen : args.length ≤ fn.ntmps) (hpost : r.post = [])
  (h : r.need → ∀ c : Ctx, (∀ nx k x, c.k0 k = some x → k < nx) → aq P c fn.ntmps x ⟨aL 0 args, [], 0⟩ (dc c (Fin T fn r.res))) (K : Nat) (pre : aD) : aA P f K args pre r :=
 gQ hT hf hk hlen hpost (fun need c h0 => .down (h need c fun _ => ir h0)) K pre
mutual
/-- What is known of the sizes of numbers in values. -/
def S3 : AV → Prop
 | .rat q n => Sz q n
 | .agg l => rG l
 | _ => True
def rG : List AV → Prop
 | [] => True
 | a :: l => S3 a ∧ rG l
end
theorem aJ.sz {M : Nat → Prop} {w : World} {β : aN} {l : List AV} {cs : List Value} (h : aJ M w β l cs) : rG l := by
 induction h with
 | nil => trivial
 | rat hs _ _ _ _ _ ih => exact ⟨hs, ih⟩
 | agg _ _ ih1 ih2 => exact ⟨ih1, ih2⟩
 | ak _ _ _ _ _ _ _ ih => exact ⟨trivial, ih⟩
 | cL _ _ _ _ _ _ _ _ ih => exact ⟨trivial, ih⟩
 | bV _ _ _ _ ih => exact ⟨trivial, ih⟩
 | func _ _ _ _ ih => exact ⟨trivial, ih⟩
 | bw _ _ _ _ ih => exact ⟨trivial, ih⟩
 | _ => rename_i ih; exact ⟨trivial, ih⟩
theorem bO.sz {M : Nat → Prop} {w : World} {β : aN} : ∀ {l : List AV} {xs : List Value}, bO M w β l xs → rG l
 | [], [], _ => trivial
 | a :: l, x :: xs, h => by
  obtain ⟨⟨cs, h1, _⟩, h2⟩ := h
  exact ⟨h1.sz.1, h2.sz⟩
 | [], _ :: _, h => h.elim
 | _ :: _, [], h => h.elim
theorem abq {P : Program} {f : FuncId} {K : Nat} {args : List AV} {pre : aD} {r : cA} (hp : ∀ k o, look k r.post = some o → (∃ o', look k pre = some o') ∨ (K ≤ k ∧ k < K + bY)) (h : rG args → aA P f K args pre r) : aA P f K args pre r :=
 fun need => ⟨hp, fun c D D' β w vs h1 h2 h3 h4 h5 hv => (h hv.sz need).2 c D D' β w vs h1 h2 h3 h4 h5 hv⟩
theorem gL {P : Program} {f : FuncId} {K : Nat} {args : List AV} {pre : aD} {v : AV} {l : List Prop} (h : rG args → aA P f K args pre ⟨v, [], l⟩) : aA P f K args pre ⟨v, [], l⟩ :=
 abq (fun k o hk => by simp [look] at hk) h
theorem iw {N n : Nat} (h : N < 2 ^ n) (hn : n < 2 ^ 44) : nl N < 2 ^ 40 := by
 have h1 : N < 2 ^ (32 * (n / 32 + 1)) := Nat.lt_of_lt_of_le h (Nat.pow_le_pow_right (by omega) (by omega))
 have := cB.2 h1
 omega
theorem O0 {q : Rat} : (if q.den = 1 then 0 else q.den) ≤ q.den := by split <;> omega
theorem Sz.gr {q : Rat} {n : Nat} (h : Sz q n) (hn : n < 2 ^ 44) : nl q.num.natAbs < 2 ^ 40 ∧ nl q.den < 2 ^ 40 ∧ nl (if q.den = 1 then 0 else q.den) < 2 ^ 40 :=
 ⟨iw h.1 hn, iw h.2 hn, Nat.lt_of_le_of_lt (fu O0) (iw h.2 hn)⟩
theorem Sz.pos {q : Rat} {n : Nat} (h : Sz q n) : 0 < n := by
 rcases Nat.eq_zero_or_pos n with h1 | h1
 ·subst h1; have := h.2; have := q.den_nz; omega
 ·exact h1
theorem Sz.more {q : Rat} {n m : Nat} (h : Sz q n) (hm : n ≤ m) : Sz q m :=
 ⟨Nat.lt_of_lt_of_le h.1 (Nat.pow_le_pow_right (by omega) hm), Nat.lt_of_lt_of_le h.2 (Nat.pow_le_pow_right (by omega) hm)⟩
theorem EE {a : Int} {d : Nat} : (mkRat a d).num.natAbs ≤ a.natAbs := by
 rw [Rat.num_mkRat]
 split
 ·simp
 ·rw [Int.natAbs_ediv_of_dvd]
  ·exact Nat.div_le_self _ _
  ·exact Int.ofNat_dvd_left.2 (Nat.gcd_dvd_right _ _)
theorem Eo {a : Int} {d : Nat} (h : d ≠ 0) : (mkRat a d).den ≤ d := by
 rw [Rat.den_mkRat, if_neg h]
 exact Nat.div_le_self _ _
theorem Sz.add {q r : Rat} {n m : Nat} (h : Sz q n) (h' : Sz r m) : Sz (q + r) (n + m + 1) := by
 rw [Rat.add_def']
 have d0 : q.den * r.den ≠ 0 := Nat.mul_ne_zero q.den_nz r.den_nz
 have e : 2 ^ (n + m + 1) = 2 ^ n * 2 ^ m + 2 ^ n * 2 ^ m := by rw [Nat.pow_succ, Nat.pow_add]; omega
 have b1 : q.num.natAbs * r.den ≤ 2 ^ n * 2 ^ m := Nat.mul_le_mul (Nat.le_of_lt h.1) (Nat.le_of_lt h'.2)
 have b2 : r.num.natAbs * q.den < 2 ^ m * 2 ^ n := Nat.mul_lt_mul'' h'.1 h.2
 have b3 : q.den * r.den ≤ 2 ^ n * 2 ^ m := Nat.mul_le_mul (Nat.le_of_lt h.2) (Nat.le_of_lt h'.2)
 have b4 : 0 < 2 ^ n * 2 ^ m := Nat.mul_pos (Nat.two_pow_pos _) (Nat.two_pow_pos _)
 rw [Nat.mul_comm (2 ^ m)] at b2
 refine ⟨Nat.lt_of_le_of_lt EE ?_, Nat.lt_of_le_of_lt (Eo d0) (by omega)⟩
 have b5 := Int.natAbs_add_le (q.num * r.den) (r.num * q.den)
 rw [Int.natAbs_mul, Int.natAbs_mul, Int.natAbs_natCast, Int.natAbs_natCast] at b5
 omega
theorem Sz.neg {q : Rat} {n : Nat} (h : Sz q n) : Sz (-q) n := by
 refine ⟨?_, ?_⟩
 ·rw [Rat.neg_num, Int.natAbs_neg]; exact h.1
 ·rw [Rat.neg_den]; exact h.2
theorem Sz.sub {q r : Rat} {n m : Nat} (h : Sz q n) (h' : Sz r m) : Sz (q - r) (n + m + 1) := by
 rw [Rat.sub_eq_add_neg]; exact h.add h'.neg
theorem Sz.mul {q r : Rat} {n m : Nat} (h : Sz q n) (h' : Sz r m) : Sz (q * r) (n + m) := by
 rw [Rat.mul_def']
 have d0 : q.den * r.den ≠ 0 := Nat.mul_ne_zero q.den_nz r.den_nz
 refine ⟨Nat.lt_of_le_of_lt EE ?_, Nat.lt_of_le_of_lt (Eo d0) ?_⟩
 ·rw [Int.natAbs_mul, Nat.pow_add]; exact Nat.mul_lt_mul'' h.1 h'.1
 ·rw [Nat.pow_add]; exact Nat.mul_lt_mul'' h.2 h'.2
theorem Sz.inv {q : Rat} {n : Nat} (h : Sz q n) : Sz q⁻¹ n := by
 by_cases h0 : q = 0
 ·subst h0
  rw [Rat.inv_zero]
  exact h
 ·have hn : q.num ≠ 0 := fun h => h0 (Rat.num_eq_zero.1 h)
  refine ⟨?_, ?_⟩
  ·rw [Rat.num_inv, Int.natAbs_mul, Int.natAbs_natCast, Int.natAbs_sign_of_ne_zero hn, Nat.one_mul]; exact h.2
  ·rw [Rat.den_inv, if_neg hn]; exact h.1
theorem Sz.div {q r : Rat} {n m : Nat} (h : Sz q n) (h' : Sz r m) : Sz (q / r) (n + m) := by
 rw [Rat.div_def]; exact h.mul h'.inv
def bK (q : Rat) : Int := if q < 0 then -1 else if 0 < q then 1 else 0
def ef (q r : Rat) : Int := if q < r then -1 else if r < q then 1 else 0
end Go.Am

/- aQ of functions that are handed a pointer to an object and leave it changed. -/
namespace Go.Am
open AV
def x3 (T : Types) (fn : Func) (e : aj) (s : aE) : Option (aa (List AV × Option az)) :=
 match iZ T fn e s with
 | some t => t.bind fun e us => some (.leaf e (us, look 0 s.store))
 | none => none
def o4 (T : Types) (Γ : aQ) (forks : List Nat) (n : Nat) (fn : Func) (x : Code) (s : aE) : Option (aa (List AV × Option az)) :=
 match cU T Γ forks n x s with
 | some t => t.bind (x3 T fn)
 | none => none
theorem xD {P : Program} {T : Types} (hT : dr P T) {Γ : aQ} (hΓ : bg P Γ) (hm : P.follows .mixedOrders = true) {f : FuncId} {fn : Func} {x : Code} (hf : aO P f fn x) {k idx es off : Nat} {p : List Nat} {rest : List AV} {o2 o o' : az} {res : AV} {l : List Prop}
  (hkr : aV rest = []) (hrt : (rest.all fun v => !v.isTuple) = true) (hlen : rest.length + 1 ≤ fn.ntmps) (ho : ∀ ρ, ck ρ o2 o) {forks : List Nat} (n : Nat) {t : aa (List AV × Option az)}
  (hc : o4 T Γ forks n fn x ⟨aL 0 (.ptr 0 idx es off p :: rest), [(0, o)], 1⟩ = some t)
  (h : ay l → t.all fun _ v => dg v.1 res ∧ ∃ o1, v.2 = some o1 ∧ o1.row = false ∧ ck (aS [(k, 0)]) o1 o') (K : Nat) :
  aA P f K (.ptr k idx es off p :: rest) [(k, o2)] ⟨res, [(k, o')], l⟩ := by
 have hrest : ∀ {rest : List AV}, aV rest = [] → (rest.all fun v => !v.isTuple) = true → ep (aS [(0, k)]) rest rest := by
  intro rest
  induction rest with
  | nil => intro _ _; trivial
  | cons v r ih =>
   intro h1 h2
   simp only [aV, List.append_eq_nil_iff] at h1
   simp only [List.all_cons, Bool.and_eq_true, Bool.not_eq_true'] at h2
   exact ⟨⟨h2.1, aF h1.1⟩, ih h1.2 h2.2⟩
 refine k7 hT hf (args0 := .ptr 0 idx es off p :: rest) (pre0 := [(0, o)]) (nx := 1) [(0, k)] (by simpa using hlen) (by simp [gf]) ⟨⟨rfl, ke rfl⟩, hrest hkr hrt⟩ ⟨⟨k, o2, rfl, by simp [look], ho _⟩, trivial⟩
  (fun a x h => ?_) (fun x o h => .inl ?_) (fun need c h0 => ?_)
 ·simp only [aS, look] at h
  split at h
  ·simp only [Option.some.injEq] at h; subst h; exact ⟨_, by simp [look]; rfl⟩
  ·simp at h
 ·simp only [look] at h
  split at h
  ·rename_i he
   exact ⟨_, by simp only [look, he, if_true]; rfl⟩
  ·simp at h
 have h := h need
 unfold o4 at hc
 cases hx : cU T Γ forks n x ⟨aL 0 (.ptr 0 idx es off p :: rest), [(0, o)], 1⟩ with
 | none => rw [hx] at hc; simp at hc
 | some u =>
  rw [hx] at hc
  refine iV hT hΓ hm n hf.dst hx (aa.eu ?_ (aa.gO hc h))
  rintro e s' ⟨v, h1, h2⟩
  unfold x3 at h1
  split at h1
  ·rename_i v' hv'
   have h3 := aa.gO h1 h2
   have h4 : v'.all fun _ us => dg us res ∧ ∃ o1, look 0 s'.store = some o1 ∧ o1.row = false ∧ ck (aS [(k, 0)]) o1 o' := by
    refine aa.eu ?_ h3
    rintro e us ⟨w, g1, g2⟩
    simp only [Option.some.injEq] at g1
    subst g1
    exact g2
   have h5 : Fin T fn res e s' := Ak hv' (aa.eu (fun _ _ h => h.1) h4)
   have h6 : ∃ o1, look 0 s'.store = some o1 ∧ o1.row = false ∧ ck (aS [(k, 0)]) o1 o' := by
    have : ∀ {t : aa (List AV)}, (t.all fun _ us => dg us res ∧ ∃ o1, look 0 s'.store = some o1 ∧ o1.row = false ∧ ck (aS [(k, 0)]) o1 o') → ∃ o1, look 0 s'.store = some o1 ∧ o1.row = false ∧ ck (aS [(k, 0)]) o1 o' := by
     intro t
     induction t with
     | leaf e us => exact fun h => h.2
     | ag ps t ih => exact fun h => ih h.2
     | fork b t1 t2 ih1 ih2 =>
      intro h
      cases b with
      | true => exact ih1 (h.1 rfl)
      | false => exact ih2 (h.2 rfl)
    exact this h4
   refine ⟨h5.1, aS [(k, 0)], qW, .inl ⟨h5.2, fun x ox hx => ?_⟩⟩
   obtain ⟨o1, g1, g2, g3⟩ := h6
   have he : bW (dO [(k, o')]) [(k, o2)] = [(k, o')] := by simp [bW, dO, put]
   rw [he] at hx
   simp only [look] at hx
   split at hx
   ·rename_i hk
    have : k = x := by simpa using hk
    subst this
    simp only [Option.some.injEq] at hx
    subst hx
    exact ⟨0, o1, by simp [aS, look], g1, g2, g3⟩
   ·simp at hx
  ·simp at h1
theorem aap {P : Program} {T : Types} (hT : dr P T) {Γ : aQ} (hΓ : bg P Γ) (hm : P.follows .mixedOrders = true) {f : FuncId} {fn : Func} {x : Code} (hf : aO P f fn x) {args : List AV} {o o' : az} {a idx es off ls : Nat} {p : List Nat} {l : List Prop}
  (hka : aV args = []) (hrt : (args.all fun v => !v.isTuple) = true) (hlen : args.length ≤ fn.ntmps) (hres : fn.results.toList = [.tmp ls]) {forks : List Nat} (n : Nat) {e : aj} {q : List Prop}
  (hc : aI T Γ forks n [ls] [x] ⟨aL 0 args, [], 0⟩ = some (.leaf e ([.ptr a idx es off p], [(a, o)])))
  (he : e = .normal ∨ e = .ret) (h : ∀ ρ, ck ρ o o') (K : Nat) : aA P f K args [] ⟨.ptr K idx es off p, [(K, o')], l⟩ := by
 have hrest : ∀ {rest : List AV}, aV rest = [] → (rest.all fun v => !v.isTuple) = true → ep (aS []) rest rest := by
  intro rest
  induction rest with
  | nil => intro _ _; trivial
  | cons v r ih =>
   intro h1 h2
   simp only [aV, List.append_eq_nil_iff] at h1
   simp only [List.all_cons, Bool.and_eq_true, Bool.not_eq_true'] at h2
   exact ⟨⟨h2.1, aF h1.1⟩, ih h1.2 h2.2⟩
 refine k7 hT hf (args0 := args) (pre0 := []) (nx := 0) [] hlen rfl (hrest hka hrt) trivial (fun a k h => by simp [aS, look] at h) (fun k o h => ?_) (fun _ c h0 => ?_)
 ·simp only [look] at h
  split at h
  ·rename_i he
   have : K = k := by simpa using he
   subst this
   exact .inr ⟨Nat.le_refl _, by unfold bY; omega⟩
  ·simp at h
 refine aq.aX hT hΓ hm n [ls] hc hf.dst fun s' hv => ⟨he, aS [(K, a)], B5 ⟨Nat.le_refl _, by unfold bY; omega⟩, .inr ?_⟩
 refine ry (us := [.ptr a idx es off p]) (ws := [.ptr K idx es off p]) (ps := [(K, o')]) hv ?_ ⟨⟨rfl, ke (by simp [aS, look])⟩, trivial⟩ rfl rfl ⟨⟨a, _, by simp [aS, look], by simp [look], h _⟩, trivial⟩
 rw [hres]
 simp only [jt, aC, look, beq_self_eq_true, if_true]
 rfl
end Go.Am

/- aQ that the evaluator itself writes: of functions that only read, without a loop of unknown length. -/
namespace Go.Am
open AV
mutual
/-- One of two values, by a condition that is not known. -/
def de (b : Bool) : AV → AV → Option AV
 | .rat q n, .rat r m => some (.rat (cond b q r) (max n m))
 | .int k x, .int j y => match isKind k j with
  | true => some (.int k (cond b x y))
  | false => none
 | .bool x, .bool y => some (.bool (cond b x y))
 | .ak e n f, .ak e' m g => match e == e' with
  | true => some (.ak e (cond b n m) fun i => cond b (f i) (g i))
  | false => none
 | .nil, .nil => some .nil
 | .nil, .ak e n f => match Nat.blt 0 e with
  | true => some (.ak e (cond b 0 n) f)
  | false => none
 | .ak e n f, .nil => match Nat.blt 0 e with
  | true => some (.ak e (cond b n 0) f)
  | false => none
 | .agg l, .agg m => match lp b l m with
  | some x => some (.agg x)
  | none => none
 | _, _ => none
def lp (b : Bool) : List AV → List AV → Option (List AV)
 | [], [] => some []
 | u :: l, v :: m => match de b u v, lp b l m with
  | some x, some y => some (x :: y)
  | _, _ => none
 | _, _ => none
end
mutual
theorem XN : ∀ {u v x : AV}, de true u v = some x → bA u x
 | .rat q n, v, x, h => by
  cases v <;> simp only [de, Option.some.injEq, reduceCtorEq] at h
  subst h; exact ew (Nat.le_max_left ..)
 | .int k a, v, x, h => by
  cases v <;> simp only [de, reduceCtorEq] at h
  split at h
  ·simp only [Option.some.injEq] at h; subst h; exact .refl _
  ·simp at h
 | .bool a, v, x, h => by
  cases v <;> simp only [de, Option.some.injEq, reduceCtorEq] at h
  subst h; exact .refl _
 | .ak e n f, v, x, h => by
  cases v <;> simp only [de, reduceCtorEq] at h
  ·split at h
   ·simp only [Option.some.injEq] at h; subst h; exact .refl _
   ·simp at h
  ·split at h
   ·simp only [Option.some.injEq] at h; subst h; exact .refl _
   ·simp at h
 | .nil, v, x, h => by
  cases v <;> simp only [de, Option.some.injEq, reduceCtorEq] at h
  ·split at h
   ·rename_i he
    simp only [Option.some.injEq] at h; subst h
    exact jf (by rw [Nat.blt_eq] at he; exact he)
   ·simp at h
  ·subst h; exact .refl _
 | .agg l, v, x, h => by
  cases v <;> simp only [de, reduceCtorEq] at h
  split at h
  ·rename_i hl
   simp only [Option.some.injEq] at h; subst h; exact ee (AE hl)
  ·simp at h
 | .mag _, v, x, h => by simp [de] at h
 | .cL _ _ _ _, v, x, h => by simp [de] at h
 | .void, v, x, h => by simp [de] at h
 | .str _, v, x, h => by simp [de] at h
 | .bV _, v, x, h => by simp [de] at h
 | .ptr _ _ _ _ _, v, x, h => by simp [de] at h
 | .own _ _ _ _, v, x, h => by simp [de] at h
 | .func _ _, v, x, h => by simp [de] at h
 | .tuple _, v, x, h => by simp [de] at h
 | .bw _ _, v, x, h => by simp [de] at h
theorem AE : ∀ {u v x : List AV}, lp true u v = some x → dP u x
 | [], v, x, h => by
  cases v <;> simp only [lp, Option.some.injEq, reduceCtorEq] at h
  subst h; trivial
 | a :: l, v, x, h => by
  cases v <;> simp only [lp, reduceCtorEq] at h
  split at h
  ·rename_i h1 h2
   simp only [Option.some.injEq] at h; subst h; exact ⟨XN h1, AE h2⟩
  ·simp at h
end
mutual
theorem UO : ∀ {u v x : AV}, de false u v = some x → bA v x
 | .rat q n, v, x, h => by
  cases v <;> simp only [de, Option.some.injEq, reduceCtorEq] at h
  subst h; exact ew (Nat.le_max_right ..)
 | .int k a, v, x, h => by
  cases v <;> simp only [de, reduceCtorEq] at h
  split at h
  ·rename_i hk
   have := yp hk
   subst this
   simp only [Option.some.injEq] at h; subst h; exact .refl _
  ·simp at h
 | .bool a, v, x, h => by
  cases v <;> simp only [de, Option.some.injEq, reduceCtorEq] at h
  subst h; exact .refl _
 | .ak e n f, v, x, h => by
  cases v <;> simp only [de, reduceCtorEq] at h
  ·split at h
   ·rename_i hk
    have := eq_of_beq hk
    subst this
    simp only [Option.some.injEq] at h; subst h; exact .refl _
   ·simp at h
  ·split at h
   ·rename_i he
    simp only [Option.some.injEq] at h; subst h
    exact jf (by rw [Nat.blt_eq] at he; exact he)
   ·simp at h
 | .nil, v, x, h => by
  cases v <;> simp only [de, Option.some.injEq, reduceCtorEq] at h
  ·split at h
   ·simp only [Option.some.injEq] at h; subst h; exact .refl _
   ·simp at h
  ·subst h; exact .refl _
 | .agg l, v, x, h => by
  cases v <;> simp only [de, reduceCtorEq] at h
  split at h
  ·rename_i hl
   simp only [Option.some.injEq] at h; subst h; exact ee (DD hl)
  ·simp at h
 | .mag _, v, x, h => by simp [de] at h
 | .cL _ _ _ _, v, x, h => by simp [de] at h
 | .void, v, x, h => by simp [de] at h
 | .str _, v, x, h => by simp [de] at h
 | .bV _, v, x, h => by simp [de] at h
 | .ptr _ _ _ _ _, v, x, h => by simp [de] at h
 | .own _ _ _ _, v, x, h => by simp [de] at h
 | .func _ _, v, x, h => by simp [de] at h
 | .tuple _, v, x, h => by simp [de] at h
 | .bw _ _, v, x, h => by simp [de] at h
theorem DD : ∀ {u v x : List AV}, lp false u v = some x → dP v x
 | [], v, x, h => by
  cases v <;> simp only [lp, Option.some.injEq, reduceCtorEq] at h
  subst h; trivial
 | a :: l, v, x, h => by
  cases v <;> simp only [lp, reduceCtorEq] at h
  split at h
  ·rename_i h1 h2
   simp only [Option.some.injEq] at h; subst h; exact ⟨UO h1, DD h2⟩
  ·simp at h
end
theorem dP.trans : ∀ {a b c : List AV}, dP a b → dP b c → dP a c
 | [], [], [], _, _ => trivial
 | _ :: _, _ :: _, _ :: _, h, h' => ⟨h.1.trans h'.1, h.2.trans h'.2⟩
 | [], [], _ :: _, _, h => h.elim
 | [], _ :: _, _, h, _ => h.elim
 | _ :: _, [], _, h, _ => h.elim
 | _ :: _, _ :: _, [], _, h => h.elim
def nj : aa (List AV) → Option (List AV × List Prop)
 | .leaf _ us => some (us, [])
 | .ag ps t => match nj t with
  | some (us, qs) => some (us, ps ++ qs)
  | none => none
 | .fork b t u => match nj t, nj u with
  | some (x, p), some (y, q) => match lp b x y with
   | some z => match p, q with
    | [], [] => some (z, [])
    | p, q => some (z, [b = true → ay p, b = false → ay q])
   | none => none
  | _, _ => none
theorem v8 : ∀ {t : aa (List AV)} {us : List AV} {ps : List Prop}, nj t = some (us, ps) → ay ps → t.all fun _ vs => dP vs us
 | .leaf e vs, us, ps, h, _ => by
  simp only [nj, Option.some.injEq, Prod.mk.injEq] at h
  obtain ⟨rfl, rfl⟩ := h
  exact .refl _
 | .ag l t, us, ps, h, hp => by
  simp only [nj] at h
  split at h
  ·rename_i h1
   simp only [Option.some.injEq, Prod.mk.injEq] at h
   obtain ⟨rfl, rfl⟩ := h
   obtain ⟨p1, p2⟩ := dy.1 hp
   exact ⟨p1, v8 h1 p2⟩
  ·simp at h
 | .fork b t u, us, ps, h, hp => by
  simp only [nj] at h
  split at h
  ·rename_i x p y q h1 h2
   split at h
   ·rename_i z hz
    have key : us = z ∧ (b = true → ay p) ∧ (b = false → ay q) := by
     split at h
     ·simp only [Option.some.injEq, Prod.mk.injEq] at h
      exact ⟨h.1.symm, fun _ => trivial, fun _ => trivial⟩
     ·simp only [Option.some.injEq, Prod.mk.injEq] at h
      obtain ⟨rfl, rfl⟩ := h
      exact ⟨rfl, hp⟩
    obtain ⟨rfl, p1, p2⟩ := key
    refine ⟨fun hb => ?_, fun hb => ?_⟩
    ·subst hb
     exact aa.eu (fun _ vs hv => hv.trans (AE hz)) (v8 h1 (p1 rfl))
    ·subst hb
     exact aa.eu (fun _ vs hv => hv.trans (DD hz)) (v8 h2 (p2 rfl))
   ·simp at h
  ·simp at h
def mq (T : Types) (Γ : aQ) (forks : List Nat) (fuel : Nat) (fn : Func) : Spec := bu fun args =>
 match Nat.ble args.length fn.ntmps with
 | true => match bB T Γ forks fuel fn (ax fn) ⟨aL 0 args, [], 0⟩ with
  | some t => match nj t with
   | some (us, ps) => match us with
    | [u] => some ⟨u, [], ps⟩
    | us => some ⟨.tuple us, [], ps⟩
   | none => none
  | none => none
 | false => none
theorem aau {us : List AV} {v : AV} (h : dP us [v]) : dg us v := by
 match us, h with
 | [u], h => exact h.1
theorem VD {us vs : List AV} (hv : ∀ u, vs ≠ [u]) (h : dP us vs) : dg us (.tuple vs) := by
 match us, vs, h with
 | [], [], h => exact h
 | [u], [v], h => exact absurd rfl (hv v)
 | a :: b :: l, _ :: _ :: _, h => exact h
 | [u], _ :: _ :: _, h => exact absurd h.2 (by simp [dP])
 | a :: b :: l, [v], h => exact absurd h.2 (by simp [dP])
 | [], _ :: _, h => exact h.elim
 | _ :: _, [], h => exact h.elim
theorem oN {P : Program} {T : Types} (hT : dr P T) {Γ : aQ} (hΓ : bg P Γ) (hm : P.follows .mixedOrders = true) {f : FuncId} {fn : Func} (hf : aO P f fn (ax fn)) (forks : List Nat) (fuel : Nat) :
  ∀ K args pre r, mq T Γ forks fuel fn K args pre = some r → aA P f K args pre r := by
 refine bN fun K args r hk hs hp => ?_
 split at hs
 ·rename_i hlen
  have hlen := Nat.le_of_ble_eq_true hlen
  split at hs
  ·rename_i t ht
   split at hs
   ·rename_i us ps hc
    split at hs
    ·simp only [Option.some.injEq] at hs
     subst hs
     exact bH (r := ⟨_, [], ps⟩) hT hΓ hm hf hk hlen rfl fuel ht (fun hn => aa.eu (fun _ vs hv => aau hv) (v8 hc hn)) K []
    ·rename_i hne
     simp only [Option.some.injEq] at hs
     subst hs
     exact bH (r := ⟨_, [], ps⟩) hT hΓ hm hf hk hlen rfl fuel ht (fun hn => aa.eu (fun _ vs hv => VD hne hv) (v8 hc hn)) K []
   ·simp at hs
  ·simp at hs
 ·simp at hs
theorem mT {P : Program} {Γ : aQ} (h : bg P Γ) : bg P (sG :: Γ) := aH (fun K args pre r hs => by simp at hs) h
theorem dM {P : Program} {Γ : aQ} (h : bg P Γ) : bg P (nG :: Γ) := aH (fun K args pre r hs => by simp at hs) h
end Go.Am

/- Loops whose objects get other keys in each round: states up to the names of objects. -/
namespace Go.Am
open AV
def jX (rl : List (Nat × Nat)) : AV → AV
 | .ptr k i e o p => match look k rl with
  | some j => .ptr j i e o p
  | none => .void
 | .own k e s n => match look k rl with
  | some j => .own j e s n
  | none => match s, n, e with
   | 0, 0, _ + 1 => .nil
   | _, _, _ => .void
 | .bw c (.own k e s n) => match look k rl with
  | some j => .bw c (.own j e s n)
  | none => .void
 | v => v
def jS (rl : List (Nat × Nat)) : AV → Bool
 | .ptr k _ _ _ _ => (look k rl).isSome
 | .own k e s n => (look k rl).isSome || match s, n, e with
  | 0, 0, _ + 1 => true
  | _, _, _ => false
 | .tuple _ => false
 | .bw _ (.own k _ _ _) => (look k rl).isSome
 | v => (keys v).isEmpty
theorem XM {ρ : Nat → Option Nat} {c c2 : Nat} {u v : AV} (hc : c = c2) (hv : v.isAgg = false) (h : fo ρ u v) : fo ρ (.bw c u) (.bw c2 v) := by
 subst hc
 refine ⟨rfl, fun M w β cs hcs => ?_⟩
 cases hcs with
 | bw _ h1 h2 => cases h2; exact .bw hv (h.2 _ _ _ _ h1) .nil
theorem JH {rl : List (Nat × Nat)} {u v : AV} (hu : u = jX rl v) (hv : jS rl v = true) : u.isTuple = false ∧ fo (aS rl) u v := by
 subst hu
 cases v with
 | ptr k i e o p =>
  simp only [jS, Option.isSome_iff_exists] at hv
  obtain ⟨j, hj⟩ := hv
  simp only [jX, hj]
  exact ⟨rfl, ke hj⟩
 | own k e s n =>
  simp only [jS] at hv
  cases hj : look k rl with
  | some j =>
   simp only [jX, hj]
   exact ⟨rfl, cF hj rfl rfl⟩
  | none =>
   rw [hj] at hv
   simp only [Option.isSome_none, Bool.false_or] at hv
   split at hv
   ·simp only [jX, hj]
    exact ⟨rfl, s9 (by omega)⟩
   ·simp at hv
 | tuple l => simp [jS] at hv
 | bw c v =>
  cases v with
  | own k e s n =>
   simp only [jS, Option.isSome_iff_exists] at hv
   obtain ⟨j, hj⟩ := hv
   simp only [jX, hj]
   exact ⟨rfl, XM rfl rfl (cF hj rfl rfl)⟩
  | _ =>
   simp only [jS, List.isEmpty_iff] at hv
   exact ⟨rfl, aF hv⟩
 | _ =>
  simp only [jS, List.isEmpty_iff] at hv
  exact ⟨rfl, aF hv⟩
theorem GH {rl : List (Nat × Nat)} : ∀ {vs us : List AV}, us = vs.map (jX rl) → vs.all (jS rl) = true → ep (aS rl) us vs
 | [], _, h, _ => by subst h; trivial
 | v :: vs, _, h, hv => by
  subst h
  simp only [List.all_cons, Bool.and_eq_true] at hv
  exact ⟨JH rfl hv.1, GH rfl hv.2⟩
def nQ : AV → Bool
 | .tuple _ => false
 | v => (keys v).isEmpty
theorem abo {rl : List (Nat × Nat)} {v : AV} (h : nQ v = true) : jX rl v = v := by
 cases v with
 | bw c v => cases v <;> first | rfl | simp [nQ, keys] at h
 | _ => first | rfl | simp [nQ, keys] at h
theorem O6 {rl : List (Nat × Nat)} {v : AV} (h : nQ v = true) : jS rl v = true := by
 cases v with
 | bw c v => cases v <;> first | exact h | simp [nQ, keys] at h
 | _ => first | exact h | simp [nQ, keys] at h
end Go.Am

/- Functions with one loop, by what the evaluator says of its parts. -/
namespace Go.Am
open AV
def fN (rl : List (Nat × Nat)) (u v : AV) : Prop := ((jS rl v = true ∧ u = jX rl v) ∨ ∃ us vs, u = .agg us ∧ v = .agg vs ∧ ep (aS rl) us vs) ∨ (keys u = [] ∧ bA u v)
theorem FY {ρ : Nat → Option Nat} {M : Nat → Prop} {w : World} {β : aN} : ∀ {us vs : List AV} {cs : List Value}, ep ρ us vs → aJ M w β us cs → aJ M w (fun k => (ρ k).bind β) vs cs
 | [], [], _, _, h => by cases h; exact .nil
 | u :: us, v :: vs, cs, hl, h => by
  obtain ⟨c1, c2, rfl, h1, h2⟩ := h.split
  exact (hl.1.2.2 M w β c1 h1).cons (FY hl.2 h2)
 | [], _ :: _, _, h, _ => h.elim
 | _ :: _, [], _, h, _ => h.elim
theorem acB {ρ : Nat → Option Nat} {us vs : List AV} (h : ep ρ us vs) : fo ρ (.agg us) (.agg vs) := by
 refine ⟨rfl, fun M w β cs hc => ?_⟩
 cases hc with
 | agg h1 h2 => cases h2; exact .agg (FY h h1) .nil
theorem pN {rl : List (Nat × Nat)} {us vs : List AV} (h : ep (aS rl) us vs) : fN rl (.agg us) (.agg vs) := .inl (.inr ⟨_, _, rfl, rfl, h⟩)
theorem fN.le {rl : List (Nat × Nat)} {u v : AV} (h : fN rl u v) : fo (aS rl) u v := by
 rcases h with (h | ⟨us, vs, rfl, rfl, h⟩) | h
 ·exact (JH h.2 h.1).2
 ·exact acB h
 ·exact kJ h.1 h.2
def kG (nx : Nat) (rl : List (Nat × Nat)) (os : aD) : aD → Prop
 | [] => True
 | (k2, o2) :: ps => ((look k2 rl = none ∧ qS o2 ∧ k2 < nx) ∨ ∃ k1 o1, look k2 rl = some k1 ∧ look k1 os = some o1 ∧ o1.row = o2.row ∧ o1.wr = o2.wr ∧ o1.es = o2.es ∧ o1.len = o2.len ∧ ∀ i, i < o2.len → fN rl (o1.f i) (o2.f i)) ∧ kG nx rl os ps
theorem Cg {nx : Nat} {rl : List (Nat × Nat)} {os : aD} : ∀ {ps : aD}, kG nx rl os ps → u9 nx (aS rl) os ps
 | [], _ => trivial
 | (k2, o2) :: ps, h => by
  obtain ⟨h | ⟨k1, o1, h1, h2, h3, h4, h5, h6, h7⟩, h8⟩ := h
  ·exact ⟨.inr h, Cg h8⟩
  ·exact ⟨.inl ⟨k1, o1, h1, h2, ⟨h3.symm ▸ rfl, h4.symm ▸ rfl, h5.symm ▸ rfl, h6.symm ▸ rfl, fun i hi => (h7 i (h6 ▸ hi)).le⟩⟩, Cg h8⟩
theorem aM {rl : List (Nat × Nat)} {u v : AV} (hk : keys u = []) (h : u = v) : fN rl u v := .inr ⟨hk, h ▸ .refl _⟩
theorem bG {nx : Nat} {rl : List (Nat × Nat)} {os ps : aD} {k2 k1 : Nat} {r w : Bool} {es n m : Nat} {f g : Nat → AV} (hk : look k2 rl = some k1) (ho : look k1 os = some ⟨r, w, es, n, f⟩) (hn : n = m) (h : ∀ i, i < m → fN rl (f i) (g i))
  (hs : kG nx rl os ps) : kG nx rl os ((k2, ⟨r, w, es, m, g⟩) :: ps) := ⟨.inr ⟨k1, _, hk, ho, rfl, rfl, rfl, hn, h⟩, hs⟩
theorem aR {nx : Nat} {rl : List (Nat × Nat)} {os ps : aD} {k2 k1 : Nat} {r w : Bool} {es : Nat} {f g : Nat → AV} (hk : look k2 rl = some k1) (ho : look k1 os = some ⟨r, w, es, 1, f⟩) (h : fN rl (f 0) (g 0))
  (hs : kG nx rl os ps) : kG nx rl os ((k2, ⟨r, w, es, 1, g⟩) :: ps) := bG hk ho rfl (fun i hi => by rw [Nat.lt_one_iff.1 hi]; exact h) hs
theorem x4 {nx : Nat} {rl : List (Nat × Nat)} {os ps : aD} {k2 es : Nat} {w : Bool} {f : Nat → AV} (hk : look k2 rl = none) (hes : 0 < es) (hn : k2 < nx) (hs : kG nx rl os ps) : kG nx rl os ((k2, ⟨true, w, es, 0, f⟩) :: ps) := ⟨.inl ⟨hk, ⟨rfl, rfl, hes⟩, hn⟩, hs⟩
theorem y5 {α : Type} {k : Nat} {a : α} {l : List (Nat × α)} : look k ((k, a) :: l) = some a := by simp [look]
theorem Jy {α : Type} {j k : Nat} {b : α} {l : List (Nat × α)} (h : (j == k) = false) : look k ((j, b) :: l) = look k l := by simp [look, h]
theorem D0 {α : Type} {k : Nat} {b : List (Nat × α)} : ∀ {a : List (Nat × α)}, look k (a ++ b) = match look k a with
  | some x => some x
  | none => look k b
 | [] => rfl
 | (j, x) :: a => by
  simp only [List.cons_append, look]
  split
  ·rfl
  ·exact D0
theorem IK {P : Program} {a b : aQ} (ha : bg P a) (hb : bg P b) : bg P (a ++ b) := by
 intro f s hl
 have hl : look f (a ++ b) = some s := hl
 rw [D0] at hl
 split at hl
 ·rename_i h
  simp only [Option.some.injEq] at hl
  subst hl
  exact ha f _ h
 ·exact hb f s hl
def Kept (kp : List Nat) (c : Ctx) : Prop := ∀ k x, c.k0 k = some x → k ∈ kp
theorem sX {c : Ctx} (h0 : ∀ nx k x, c.k0 k = some x → k < nx) : Kept [] c := fun k x hk => absurd (h0 0 k x hk) (by omega)
def eB (kp : List Nat) (v : List AV × aD) (vs : List AV) (os : aD) (nx : Nat) : Prop :=
 ∃ rl, (gf nx rl && kp.all fun k => look k rl == some k) = true ∧ v.1 = vs.map (jX rl) ∧ vs.all (jS rl) = true ∧ kG nx rl v.2 os
theorem eB.le {kp : List Nat} {c : Ctx} {s' : aE} {ls : List Nat} {v : List AV × aD} {vs : List AV} {os : aD} {nx : Nat} (h : eB kp v vs os nx) (hv : aU ls s' = some v) (h0 : Kept kp c) : ∃ ρ, Le c ρ s' ⟨aC ls vs, os, nx⟩ := by
 obtain ⟨rl, h1, h2, h3, h4⟩ := h
 simp only [Bool.and_eq_true] at h1
 exact FP rl hv (fun k x hk => by simpa using List.all_eq_true.1 h1.2 k (h0 k x hk)) h1.1 (GH h2 h3) (Cg h4)
theorem eB.vals {vs : List AV} {nx : Nat} (h : vs.all nQ = true) : eB [] (vs, []) vs [] nx := by
 simp only [List.all_eq_true] at h
 refine ⟨[], rfl, ?_, List.all_eq_true.2 fun v hv => O6 (h v hv), trivial⟩
 have : vs.map (jX []) = vs.map id := List.map_congr_left fun v hv => abo (h v hv)
 rw [this, List.map_id]
theorem nC {nt : Nat} : ∀ {x : Code} {p : List Nat}, b6 nt x = true → (before x p).all (fun x => b6 nt x) = true
 | .seq x y, 0 :: p, h => by
  simp only [b6, Bool.and_eq_true] at h
  exact nC (x := x) h.1
 | .seq x y, (n + 1) :: p, h => by
  simp only [b6, Bool.and_eq_true] at h
  simp only [before, List.all_cons, Bool.and_eq_true]
  exact ⟨h.1, nC (x := y) h.2⟩
 | .seq _ _, [], _ | .cond _ _ _, _, _ | .block _ _, _, _ | .loop _, _, _ | .region _ _ _, _, _ | .skip, _, _ | .label _, _, _ | .exit _, _, _ | .ret, _, _ | .scope _, _, _ | .goto _, _, _ | .refuse _, _, _ | .rangeFunc _ _ _ _, _, _ => by simp [before]
theorem C9 {nt : Nat} : ∀ {x : Code} {p : List Nat}, b6 nt x = true → (behind x p).all (fun x => b6 nt x) = true
 | .seq x y, 0 :: p, h => by
  simp only [b6, Bool.and_eq_true] at h
  simp only [behind, List.all_append, List.all_cons, List.all_nil, Bool.and_true, Bool.and_eq_true]
  exact ⟨C9 (x := x) h.1, h.2⟩
 | .seq x y, (n + 1) :: p, h => by
  simp only [b6, Bool.and_eq_true] at h
  exact C9 (x := y) (p := p) h.2
 | .seq _ _, [], _ | .cond _ _ _, _, _ | .block _ _, _, _ | .loop _, _, _ | .region _ _ _, _, _ | .skip, _, _ | .label _, _, _ | .exit _, _, _ | .ret, _, _ | .scope _, _, _ | .goto _, _, _ | .refuse _, _, _ | .rangeFunc _ _ _ _, _, _ => by simp [behind]
theorem AG {nt : Nat} : ∀ {x : Code} {p : List Nat}, chain x p = true → b6 nt x = true → b6 nt (part x p) = true
 | x, [], _, h => by cases x <;> exact h
 | .seq x y, 0 :: p, hc, h => by
  simp only [b6, Bool.and_eq_true] at h
  exact AG (x := x) hc h.1
 | .seq x y, (n + 1) :: p, hc, h => by
  simp only [b6, Bool.and_eq_true] at h
  exact AG (x := y) hc h.2
 | .cond _ _ _, _ :: _, hc, _ | .block _ _, _ :: _, hc, _ | .loop _, _ :: _, hc, _ | .region _ _ _, _ :: _, hc, _ | .skip, _ :: _, hc, _ | .label _, _ :: _, hc, _ | .exit _, _ :: _, hc, _ | .ret, _ :: _, hc, _ | .scope _, _ :: _, hc, _ | .goto _, _ :: _, hc, _ | .refuse _, _ :: _, hc, _ | .rangeFunc _ _ _ _, _ :: _, hc, _ => by simp [chain] at hc
section rules
variable {P : Program} {c : Ctx} {nt : Nat} {s : aE} {Q : aj → aE → Prop} {T : Types} (hT : dr P T) {Γ : aQ} (hΓ : bg P Γ) (hm : P.follows .mixedOrders = true)
def Round (kp : List Nat) {α : Type} (V : α → List AV) (O : α → aD) (nx : Nat) (I D : α → Prop) (μ : α → Nat) (i : Nat) (R : List AV × aD → Prop) (a : α) : aj → List AV × aD → Prop
 | .normal, v => ∃ b, I b ∧ μ b < μ a ∧ eB kp v (V b) (O b) nx
 | .exit k, v => k = i ∧ ∃ b, D b ∧ eB kp v (V b) (O b) nx
 | .ret, v => R v
include hT hΓ hm in
theorem aq.QG {x y : Code} {i : Nat} (hx : x = .block i (.loop y)) {kp : List Nat} (h0 : Kept kp c) {forks : List Nat} (n : Nat) (L : List Nat) (nx : Nat) {α : Type} (V : α → List AV) (O : α → aD) (I D : α → Prop) (μ : α → Nat) (R : List AV × aD → Prop)
  (a0 : α) (hI : I a0) (hs : ∃ ρ, Le c ρ s ⟨aC L (V a0), O a0, nx⟩) (hd : b6 nt y = true)
  (hb : ∀ a, I a → ∃ t, aI T Γ forks n L [y] ⟨aC L (V a), O a, nx⟩ = some t ∧ t.all (Round kp V O nx I D μ i R a))
  (hD : ∀ b s', D b → (∃ ρ, Le c ρ s' ⟨aC L (V b), O b, nx⟩) → Q .normal s') (hR : ∀ v s', R v → aU L s' = some v → Q .ret s') : aq P c nt x s Q := by
 refine aq.gp hx (fun a => ⟨aC L (V a), O a, nx⟩) I μ a0 hs hI fun a ha => ?_
 obtain ⟨t, h1, h2⟩ := hb a ha
 refine aq.aX hT hΓ hm n L h1 hd (aa.eu ?_ h2)
 rintro e v hv s' hs'
 cases e with
 | normal =>
  obtain ⟨b, g1, g2, g3⟩ := hv
  exact ⟨b, g3.le hs' h0, g1, g2⟩
 | exit k =>
  obtain ⟨rfl, b, g1, g2⟩ := hv
  exact Bq (hD b s' g1 (g2.le hs' h0))
 | ret => exact hR v s' hv hs'
theorem aB.one {x : Code} (h : aq P c nt x s Q) : aB P c nt [x] s Q := h.mono fun e s' h => by cases e <;> exact h
theorem aq.nq {x : Code} (h : aB P c nt [x] s Q) : aq P c nt x s Q := aq.mono h fun e s' h => by cases e <;> exact h
def Start (kp : List Nat) {α : Type} (V : α → List AV) (O : α → aD) (nx : Nat) (I : α → Prop) (R : List AV × aD → Prop) : aj → List AV × aD → Prop
 | .normal, v => ∃ a, I a ∧ eB kp v (V a) (O a) nx
 | .ret, v => R v
 | .exit _, _ => False
include hT hΓ hm in
theorem aq.zK {x y : Code} (p : List Nat) {i : Nat} (hc : chain x p = true) (hx : part x p = .block i (.loop y)) (hd : b6 nt x = true) {kp : List Nat} (h0 : Kept kp c) {f1 f2 : List Nat} (n : Nat) (L : List Nat) (nx : Nat) {α : Type} (V : α → List AV) (O : α → aD) (I D : α → Prop) (μ : α → Nat) (R : List AV × aD → Prop)
  (hp : ∃ t, aI T Γ f1 n L (before x p) s = some t ∧ t.all (Start kp V O nx I R))
  (hb : ∀ a, I a → ∃ t, aI T Γ f2 n L [y] ⟨aC L (V a), O a, nx⟩ = some t ∧ t.all (Round kp V O nx I D μ i R a))
  (hD : ∀ b s', D b → (∃ ρ, Le c ρ s' ⟨aC L (V b), O b, nx⟩) → aB P c nt (behind x p) s' Q) (hR : ∀ v s', R v → aU L s' = some v → Q .ret s') : aq P c nt x s Q := by
 obtain ⟨t, h1, h2⟩ := hp
 refine aq.hole p hc (aB.aX hT hΓ hm n L h1 (nC hd) (aa.eu ?_ h2))
 rintro e v hv s' hs'
 cases e with
 | normal =>
  obtain ⟨a, hI, hre⟩ := hv
  refine (show aq P c nt (part x p) s' _ from aq.QG hT hΓ hm hx h0 n L nx V O I D μ R a hI (hre.le hs' h0) ?_ hb (fun b s' hD' hle => hD b s' hD' hle) fun v s' hv hs' => hR v s' hv hs')
  have := AG (nt := nt) hc hd
  rw [hx] at this
  exact this
 | ret => exact hR v s' hv hs'
 | exit k => exact hv.elim
include hT hΓ hm in
theorem aq.lP {x y z : Code} (p : List Nat) {i : Nat} (hc : chain x p = true) (hx : part x p = .block i (.loop y)) (hz : behind x p = [z]) (hd : b6 nt x = true) {kp : List Nat} (h0 : Kept kp c) {f1 f2 : List Nat} (n : Nat) (L : List Nat) (nx : Nat) {α : Type} (V : α → List AV) (O : α → aD) (I D : α → Prop) (μ : α → Nat) (R : List AV × aD → Prop)
  (hp : ∃ t, aI T Γ f1 n L (before x p) s = some t ∧ t.all (Start kp V O nx I R))
  (hb : ∀ a, I a → ∃ t, aI T Γ f2 n L [y] ⟨aC L (V a), O a, nx⟩ = some t ∧ t.all (Round kp V O nx I D μ i R a))
  (hD : ∀ b, D b → aq P c nt z ⟨aC L (V b), O b, nx⟩ Q) (hR : ∀ v s', R v → aU L s' = some v → Q .ret s') : aq P c nt x s Q :=
 aq.zK hT hΓ hm p hc hx hd h0 n L nx V O I D μ R hp hb (fun b s' hD' hle => by rw [hz]; exact aB.weak rfl hle (aB.one (hD b hD'))) hR
def ER (c : Ctx) (L : List Nat) {α : Type} (V : α → List AV) (O : α → aD) (nx : Nat) (I D : α → Prop) (μ : α → Nat) (i : Nat) (R : aE → Prop) (a : α) : aj → aE → Prop
 | .normal, s' => ∃ b, I b ∧ μ b < μ a ∧ ∃ ρ, Le c ρ s' ⟨aC L (V b), O b, nx⟩
 | .exit k, s' => k = i ∧ ∃ b, D b ∧ ∃ ρ, Le c ρ s' ⟨aC L (V b), O b, nx⟩
 | .ret, s' => R s'
include hT hΓ hm in
theorem aq.zZ {x y z : Code} (p : List Nat) {i : Nat} (hc : chain x p = true) (hx : part x p = .block i (.loop y)) (hz : behind x p = [z]) (hd : b6 nt x = true) {kp : List Nat} (h0 : Kept kp c) {f1 : List Nat} (n : Nat) (L : List Nat) (nx : Nat) {α : Type} (V : α → List AV) (O : α → aD) (I D : α → Prop) (μ : α → Nat) (R : List AV × aD → Prop)
  (hp : ∃ t, aI T Γ f1 n L (before x p) s = some t ∧ t.all (Start kp V O nx I R))
  (hb : ∀ a, I a → aq P c nt y ⟨aC L (V a), O a, nx⟩ (ER c L V O nx I D μ i (fun s' => ∃ v, R v ∧ aU L s' = some v) a))
  (hD : ∀ b, D b → aq P c nt z ⟨aC L (V b), O b, nx⟩ Q) (hR : ∀ v s', R v → aU L s' = some v → Q .ret s') : aq P c nt x s Q := by
 obtain ⟨t, h1, h2⟩ := hp
 refine aq.hole p hc (aB.aX hT hΓ hm n L h1 (nC hd) (aa.eu ?_ h2))
 rintro e v hv s' hs'
 cases e with
 | normal =>
  obtain ⟨a, hI, hre⟩ := hv
  refine aq.gp hx (fun a => ⟨aC L (V a), O a, nx⟩) I μ a (hre.le hs' h0) hI fun a ha => (hb a ha).mono fun e s' h => ?_
  cases e with
  | normal =>
   obtain ⟨b, g1, g2, g3⟩ := h
   exact ⟨b, g3, g1, g2⟩
  | exit k =>
   obtain ⟨rfl, b, g1, g2⟩ := h
   refine Bq ?_
   show aB P c nt (behind x p) s' _
   rw [hz]
   exact aB.weak rfl g2 (aB.one (hD b g1))
  | ret =>
   obtain ⟨v, g1, g2⟩ := h
   exact hR v s' g1 g2
 | ret => exact hR v s' hv hs'
 | exit k => exact hv.elim
include hT hΓ hm in
theorem aq.uL {y x1 zb : Code} (p : List Nat) {j : Nat} (hc : chain y p = true) (hx : part y p = .block j x1) (hz : behind y p = [zb]) (hd : b6 nt y = true) {kp : List Nat} (h0 : Kept kp c) {f1 : List Nat} (n : Nat) (L : List Nat) (nx : Nat) {α : Type} (V : α → List AV) (O : α → aD) (I : α → Prop)
  (hp : ∃ t, aI T Γ f1 n L (before y p) s = some t ∧ t.all fun e v => match e with
   | .normal => ∃ a, I a ∧ eB kp v (V a) (O a) nx
   | e => ∀ s', aU L s' = some v → Q e s')
  (hb : ∀ a, I a → aq P c nt x1 ⟨aC L (V a), O a, nx⟩ (inBlock j (cP (fun s' => aq P c nt zb s' Q) Q))) : aq P c nt y s Q := by
 obtain ⟨t, h1, h2⟩ := hp
 refine aq.hole p hc (aB.aX hT hΓ hm n L h1 (nC hd) (aa.eu ?_ h2))
 rintro e v hv s' hs'
 cases e with
 | normal =>
  obtain ⟨a, hI, hre⟩ := hv
  refine aq.jK (hre.le hs' h0) (aq.m9 hx ((hb a hI).mono fun e s' h => ?_))
  have key : ∀ {e s'}, cP (fun s' => aq P c nt zb s' Q) Q e s' → cP (fun s'' => aB P c nt (behind y p) s'' Q) Q e s' := fun {e s'} h => by
   cases e with
   | normal => show aB P c nt (behind y p) s' Q; rw [hz]; exact aB.one h
   | exit k => exact h
   | ret => exact h
  cases e with
  | normal => exact key (e := .normal) h
  | exit k =>
   simp only [inBlock] at h ⊢
   split
   ·rename_i hk; rw [if_pos hk] at h; exact key (e := .normal) h
   ·rename_i hk; rw [if_neg hk] at h; exact key (e := .exit k) h
  | ret => exact key (e := .ret) h
 | ret => exact hv s' hs'
 | exit k => exact hv s' hs'
theorem aq.tail {z zb : Code} {j : Nat} (hne : ∀ s', Q (.exit j) s' → False) (h : aB P c nt [z, zb] s Q) : aq P c nt z s (inBlock j (cP (fun s' => aq P c nt zb s' Q) Q)) :=
 aq.mono h fun e s' h => by
  cases e with
  | normal => exact aq.mono h fun e s' h => by cases e <;> exact h
  | exit k =>
   simp only [inBlock]
   split
   ·rename_i hk; subst hk; exact (hne _ h).elim
   ·exact h
  | ret => exact h
def lT (fn : Func) (L : List Nat) (res : AV) (v : List AV × aD) : Prop := ∃ us, Cw fn (aC L v.1) = some us ∧ dg us res
theorem lT.fin {fn : Func} {L : List Nat} {res : AV} {v : List AV × aD} {s' : aE} (h : lT fn L res v) (hs' : aU L s' = some v) : dc c (Fin T fn res) .ret s' := by
 obtain ⟨us, g1, g2⟩ := h
 exact .inl (eM (.inr rfl) hs' g1 g2)
theorem Cb {c : Prop} [Decidable c] {u v : AV} (hu : keys u = []) (hv : keys v = []) : keys (if c then u else v) = [] := by split <;> assumption
def CA (T : Types) (fn : Func) (L : List Nat) (res : AV) (v : List AV × aD) : Prop :=
 ∃ vs us nx t, v.1 = vs ++ us ∧ vs.length = L.length ∧ aV us = [] ∧ iZ T fn .ret ⟨aC L vs, v.2, nx⟩ = some t ∧ gC nx vs = true ∧ fk nx v.2 ∧ t.all fun _ us => dg us res
theorem CA.fin {fn : Func} {L L1 : List Nat} {res : AV} {v : List AV × aD} {s' : aE} (h0 : Kept [] c) (h : CA T fn L res v) (hs' : aU (L ++ L1) s' = some v) : dc c (Fin T fn res) .ret s' := by
 obtain ⟨vs, us, nx, t, h1, h2, h3, h4, h5, h6, h7⟩ := h
 obtain ⟨v1, v2⟩ := v
 simp only at h1
 subst h1
 exact xI h4 (fV hs' h2 h3) (fun k x hk => by simpa using h0 k x hk) h5 h6 h7
include hT hΓ hm in
theorem gV {f : FuncId} {fn : Func} (hf : aO P f fn (ax fn)) {args : List AV} {r : cA} (hk : aV args = []) (hlen : args.length ≤ fn.ntmps) (hpost : r.post = []) (p : List Nat) {i : Nat} {y z : Code} (hc : chain (ax fn) p = true) (hx : part (ax fn) p = .block i (.loop y)) (hz : behind (ax fn) p = [z])
  {f1 f2 f3 : List Nat} (n : Nat) (L : List Nat) (nx : Nat) {α : Type} (V : α → List AV) (O : α → aD) (I D : α → Prop) (μ : α → Nat)
  (h : r.need → (∃ t, aI T Γ f1 n L (before (ax fn) p) ⟨aL 0 args, [], 0⟩ = some t ∧ t.all (Start [] V O nx I (lT fn L r.res))) ∧
   (∀ a, I a → ∃ t, aI T Γ f2 n L [y] ⟨aC L (V a), O a, nx⟩ = some t ∧ t.all (Round [] V O nx I D μ i (lT fn L r.res) a)) ∧
   ∀ a, D a → ∃ t, cq T Γ f3 n fn [z] ⟨aC L (V a), O a, nx⟩ = some t ∧ t.all fun _ us => dg us r.res) (K : Nat) (pre : aD) : aA P f K args pre r := by
 refine gb hT hf hk hlen hpost (fun need c h0 => ?_) K pre
 obtain ⟨hp, hb, he⟩ := h need
 refine aq.lP hT hΓ hm p hc hx hz hf.dst (sX h0) n L nx V O I D μ (lT fn L r.res) hp hb (fun a ha => ?_) fun v s' hv hs' => hv.fin hs'
 obtain ⟨t, g1, g2⟩ := he a ha
 have := C9 (x := ax fn) (p := p) hf.dst
 rw [hz] at this
 exact aq.nq ((aB.fin hT hΓ hm n g1 this g2).mono fun _ _ h => .inl h)
def Ky (T : Types) (fn : Func) (k : Nat) (res : AV) (o' : az) (e : aj) (s' : aE) : Prop :=
 (e = .normal ∨ e = .ret) ∧ Ends T fn res s' ∧ ∃ o1, look 0 s'.store = some o1 ∧ o1.row = false ∧ ck (aS [(k, 0)]) o1 o'
def zP (T : Types) (Γ : aQ) (forks : List Nat) (n : Nat) (fn : Func) (l : List Code) (s : aE) : Option (aa (List AV × Option az)) :=
 match mV T Γ forks n l s with
 | some t => t.bind (x3 T fn)
 | none => none
include hT hΓ hm in
theorem aB.HN {fn : Func} {forks : List Nat} (n : Nat) {l : List Code} {s : aE} {t : aa (List AV × Option az)} (hc : zP T Γ forks n fn l s = some t) (hd : (l.all fun x => b6 nt x) = true) {k : Nat} {res : AV} {o' : az}
  (h : t.all fun _ v => dg v.1 res ∧ ∃ o1, v.2 = some o1 ∧ o1.row = false ∧ ck (aS [(k, 0)]) o1 o') : aB P c nt l s (Ky T fn k res o') := by
 unfold zP at hc
 split at hc
 ·rename_i u hx
  refine wV hT hΓ hm hd hx (aa.eu ?_ (aa.gO hc h))
  rintro e s' ⟨v, h1, h2⟩
  unfold x3 at h1
  split at h1
  ·rename_i v' hv'
   have h4 : v'.all fun _ us => dg us res ∧ ∃ o1, look 0 s'.store = some o1 ∧ o1.row = false ∧ ck (aS [(k, 0)]) o1 o' := by
    refine aa.eu ?_ (aa.gO h1 h2)
    rintro e us ⟨w, g1, g2⟩
    simp only [Option.some.injEq] at g1
    subst g1
    exact g2
   have h5 : Fin T fn res e s' := Ak hv' (aa.eu (fun _ _ h => h.1) h4)
   refine ⟨h5.1, h5.2, ?_⟩
   have : ∀ {t : aa (List AV)}, (t.all fun _ us => dg us res ∧ ∃ o1, look 0 s'.store = some o1 ∧ o1.row = false ∧ ck (aS [(k, 0)]) o1 o') → ∃ o1, look 0 s'.store = some o1 ∧ o1.row = false ∧ ck (aS [(k, 0)]) o1 o' := by
    intro t
    induction t with
    | leaf e us => exact fun h => h.2
    | ag ps t ih => exact fun h => ih h.2
    | fork b t1 t2 ih1 ih2 =>
     intro h
     cases b with
     | true => exact ih1 (h.1 rfl)
     | false => exact ih2 (h.2 rfl)
   exact this h4
  ·simp at h1
 ·simp at hc
theorem CG {rl : List (Nat × Nat)} : ∀ {rest : List AV}, aV rest = [] → (rest.all fun v => !v.isTuple) = true → ep (aS rl) rest rest
 | [], _, _ => trivial
 | v :: r, h1, h2 => by
  simp only [aV, List.append_eq_nil_iff] at h1
  simp only [List.all_cons, Bool.and_eq_true, Bool.not_eq_true'] at h2
  exact ⟨⟨h2.1, aF h1.1⟩, CG h1.2 h2.2⟩
include hT in
theorem Hj {f : FuncId} {fn : Func} {x : Code} (hf : aO P f fn x) {k idx es off : Nat} {p : List Nat} {rest : List AV} {o2 o o' : az} {res : AV} {l : List Prop}
  (hkr : aV rest = []) (hrt : (rest.all fun v => !v.isTuple) = true) (hlen : rest.length + 1 ≤ fn.ntmps) (ho : ∀ ρ, ck ρ o2 o)
  (h : ay l → ∀ c : Ctx, Kept [0] c → aq P c fn.ntmps x ⟨aL 0 (.ptr 0 idx es off p :: rest), [(0, o)], 1⟩ (Ky T fn k res o')) (K : Nat) :
  aA P f K (.ptr k idx es off p :: rest) [(k, o2)] ⟨res, [(k, o')], l⟩ := by
 refine k7 hT hf (args0 := .ptr 0 idx es off p :: rest) (pre0 := [(0, o)]) (nx := 1) [(0, k)] (by simpa using hlen) (by simp [gf]) ⟨⟨rfl, ke rfl⟩, CG hkr hrt⟩ ⟨⟨k, o2, rfl, by simp [look], ho _⟩, trivial⟩
  (fun a x h => ?_) (fun x o h => .inl ?_) (fun need c h0 => ?_)
 ·simp only [aS, look] at h
  split at h
  ·simp only [Option.some.injEq] at h; subst h; exact ⟨_, by simp [look]; rfl⟩
  ·simp at h
 ·simp only [look] at h
  split at h
  ·rename_i he
   exact ⟨_, by simp only [look, he, if_true]; rfl⟩
  ·simp at h
 have hk : Kept [0] c := fun a y hy => by
  have := h0 a y hy
  simp only [aS, look] at this
  split at this
  ·rename_i he; have := eq_of_beq he; subst this; exact List.mem_singleton_self _
  ·simp at this
 refine (h need c hk).mono fun e s' ⟨h1, h2, o1, g1, g2, g3⟩ => ⟨h1, aS [(k, 0)], qW, .inl ⟨h2, fun x ox hx => ?_⟩⟩
 have he : bW (dO [(k, o')]) [(k, o2)] = [(k, o')] := by simp [bW, dO, put]
 rw [he] at hx
 simp only [look] at hx
 split at hx
 ·rename_i hk
  have : k = x := by simpa using hk
  subst this
  simp only [Option.some.injEq] at hx
  subst hx
  exact ⟨0, o1, by simp [aS, look], g1, g2, g3⟩
 ·simp at hx
end rules
end Go.Am

/- Functions that are handed two lists that may still be written to, and leave them as they are. -/
namespace Go.Am
open AV
theorem C3 {ρ : Nat → Option Nat} : ∀ {us vs : List AV}, aV us = [] → (us.all fun v => !v.isTuple) = true → dP us vs → ep ρ us vs
 | [], [], _, _, _ => trivial
 | u :: us, v :: vs, h1, h2, h => by
  simp only [aV, List.append_eq_nil_iff] at h1
  simp only [List.all_cons, Bool.and_eq_true, Bool.not_eq_true'] at h2
  exact ⟨⟨h2.1, kJ h1.1 h.1⟩, C3 h1.2 h2.2 h.2⟩
 | [], _ :: _, _, _, h => h.elim
 | _ :: _, [], _, _, h => h.elim
def BZ (T : Types) (fn : Func) (e : aj) (s : aE) : Option (aa (List AV × Option az × Option az)) := match e with
 | .exit _ => none
 | e => match eE T s fn.results.toList with
  | some (vs, q) => some (.need q (.leaf e (vs, look 0 s.store, look 1 s.store)))
  | none => none
def D9 (us : List AV) (o p : az) (v : List AV × Option az × Option az) : Prop :=
 aV v.1 = [] ∧ (v.1.all fun v => !v.isTuple) = true ∧ dP v.1 us ∧ (∃ o1, v.2.1 = some o1 ∧ ∀ ρ, ck ρ o1 o) ∧ ∃ p1, v.2.2 = some p1 ∧ ∀ ρ, ck ρ p1 p
def IV (T : Types) (fn : Func) (us : List AV) (o p : az) (e : aj) (s : aE) : Prop :=
 (e = .normal ∨ e = .ret) ∧ (∃ vs q, eE T s fn.results.toList = some (vs, q) ∧ ay q ∧ aV vs = [] ∧ (vs.all fun v => !v.isTuple) = true ∧ dP vs us) ∧ (∃ o1, look 0 s.store = some o1 ∧ ∀ ρ, ck ρ o1 o) ∧ ∃ p1, look 1 s.store = some p1 ∧ ∀ ρ, ck ρ p1 p
theorem abx {T : Types} {fn : Func} {e : aj} {s : aE} {t : aa (List AV × Option az × Option az)} {us : List AV} {o p : az} (h1 : BZ T fn e s = some t) (h2 : t.all fun _ v => D9 us o p v) : IV T fn us o p e s := by
 unfold BZ at h1
 have key : ∀ {e' : aj}, (match eE T s fn.results.toList with
   | some (vs, q) => some (aa.need q (.leaf e' (vs, look 0 s.store, look 1 s.store)))
   | none => none) = some t → (∃ vs q, eE T s fn.results.toList = some (vs, q) ∧ ay q ∧ aV vs = [] ∧ (vs.all fun v => !v.isTuple) = true ∧ dP vs us) ∧ (∃ o1, look 0 s.store = some o1 ∧ ∀ ρ, ck ρ o1 o) ∧ ∃ p1, look 1 s.store = some p1 ∧ ∀ ρ, ck ρ p1 p := by
  intro e' h1
  cases hr : eE T s fn.results.toList with
  | none => rw [hr] at h1; simp at h1
  | some r =>
   obtain ⟨vs, q⟩ := r
   rw [hr] at h1
   simp only [Option.some.injEq] at h1
   subst h1
   obtain ⟨g1, g2, g3, g4, g5, g6⟩ := aa.wK.1 h2
   exact ⟨⟨vs, q, rfl, g1, g2, g3, g4⟩, g5, g6⟩
 cases e with
 | normal => exact ⟨.inl rfl, key h1⟩
 | ret => exact ⟨.inr rfl, key h1⟩
 | exit i => simp at h1
section rules
variable {P : Program} {c : Ctx} {nt : Nat} {s : aE} {Q : aj → aE → Prop} {T : Types} (hT : dr P T) {Γ : aQ} (hΓ : bg P Γ) (hm : P.follows .mixedOrders = true)
def Jx (T : Types) (fn : Func) (L : List Nat) (us : List AV) (o p : az) (v : List AV × aD) : Prop :=
 ∃ vs ws nx t, v.1 = vs ++ ws ∧ vs.length = L.length ∧ aV ws = [] ∧ BZ T fn .ret ⟨aC L vs, v.2, nx⟩ = some t ∧ gC nx vs = true ∧ fk nx v.2 ∧ 2 ≤ nx ∧ t.all fun _ v => D9 us o p v
theorem Jx.fin {fn : Func} {L L1 : List Nat} {us : List AV} {o p : az} {v : List AV × aD} {s' : aE} (h0 : Kept [0, 1] c) (h : Jx T fn L us o p v) (hs' : aU (L ++ L1) s' = some v) : dc c (IV T fn us o p) .ret s' := by
 obtain ⟨vs, ws, nx, t, h1, h2, h3, h4, h5, h6, hn, h7⟩ := h
 obtain ⟨v1, v2⟩ := v
 simp only at h1
 subst h1
 obtain ⟨ρ, hle⟩ := jW (fV hs' h2 h3) (fun k x hk => by
  have := h0 k x hk
  simp only [List.mem_cons, List.not_mem_nil, or_false] at this
  omega) h5 h6
 exact .inr ⟨_, ρ, hle, abx h4 h7⟩
end rules
end Go.Am

/- Functions that are handed a list to write to, and give back a part of it. -/
namespace Go.Am
open AV
def BY (fn : Func) (k : Nat) (ws : List AV) (o' : az) (e : aj) (s' : aE) : Prop :=
 (e = .normal ∨ e = .ret) ∧ ∃ ls vs us os o1, aU ls s' = some (vs, os) ∧ jt (aC ls vs) fn.results.toList = some us ∧ ep (aS [(k, 0)]) us ws ∧ look 0 os = some o1 ∧ ck (aS [(k, 0)]) o1 o'
def zy (fn : Func) (k : Nat) (ws : List AV) (o' : az) (L : List Nat) (v : List AV × aD) : Prop := ∃ us o1, jt (aC L v.1) fn.results.toList = some us ∧ ep (aS [(k, 0)]) us ws ∧ look 0 v.2 = some o1 ∧ ck (aS [(k, 0)]) o1 o'
theorem zy.fin {fn : Func} {k : Nat} {ws : List AV} {o' : az} {L : List Nat} {v : List AV × aD} {s' : aE} (h : zy fn k ws o' L v) (hs' : aU L s' = some v) : BY fn k ws o' .ret s' := by
 obtain ⟨us, o1, h1, h2, h3, h4⟩ := h
 exact ⟨.inr rfl, L, v.1, us, v.2, o1, hs', h1, h2, h3, h4⟩
section rules
variable {P : Program} {c : Ctx} {nt : Nat} {s : aE} {Q : aj → aE → Prop} {T : Types} (hT : dr P T) {Γ : aQ} (hΓ : bg P Γ) (hm : P.follows .mixedOrders = true)
include hT hΓ hm in
theorem aq.branch {x u v : Code} {b : Operand} (p : List Nat) (hc : chain x p = true) (hx : part x p = .cond b u v) (hz : behind x p = []) (hd : b6 nt x = true) {kp : List Nat} (h0 : Kept kp c) {f1 : List Nat} (n : Nat) (L : List Nat) (nx : Nat) {α : Type} (V : α → List AV) (O : α → aD) (I : α → Prop)
  (hp : ∃ t, aI T Γ f1 n L (before x p) s = some t ∧ t.all fun e v => match e with
   | .normal => ∃ a, I a ∧ eB kp v (V a) (O a) nx
   | e => ∀ s', aU L s' = some v → Q e s')
  (hb : ∀ a, I a → ∃ t, (⟨aC L (V a), O a, nx⟩ : aE).eR b = some (.bool t) ∧ (t = true → aq P c nt u ⟨aC L (V a), O a, nx⟩ Q) ∧ (t = false → aq P c nt v ⟨aC L (V a), O a, nx⟩ Q)) : aq P c nt x s Q := by
 obtain ⟨t, h1, h2⟩ := hp
 refine aq.hole p hc (aB.aX hT hΓ hm n L h1 (nC hd) (aa.eu ?_ h2))
 rintro e v hv s' hs'
 cases e with
 | normal =>
  obtain ⟨a, hI, hre⟩ := hv
  obtain ⟨t, g1, g2, g3⟩ := hb a hI
  show aq P c nt (part x p) s' _
  rw [hx, hz]
  have key : ∀ {y : Code} {s : aE}, aq P c nt y s Q → aq P c nt y s (cP (fun s'' => aB P c nt [] s'' Q) Q) := fun h => h.mono fun e s' h => by cases e <;> exact h
  exact aq.jK (hre.le hs' h0) (aq.cond g1 (fun ht => key (g2 ht)) fun ht => key (g3 ht))
 | ret => exact hv s' hs'
 | exit k => exact hv s' hs'
include hT in
theorem RM {f : FuncId} {fn : Func} {x : Code} (hf : aO P f fn x) {k es st n : Nat} {rest ws : List AV} {o2 o o' : az} {l : List Prop}
  (hkr : aV rest = []) (hrt : (rest.all fun v => !v.isTuple) = true) (hlen : rest.length + 1 ≤ fn.ntmps) (ho : ∀ ρ, ck ρ o2 o)
  (h : ay l → ∀ c : Ctx, Kept [0] c → aq P c fn.ntmps x ⟨aL 0 (.own 0 es st n :: rest), [(0, o)], 1⟩ (BY fn k ws o')) (K : Nat) :
  aA P f K (.own k es st n :: rest) [(k, o2)] ⟨jn ws, [(k, o')], l⟩ := by
 refine k7 hT hf (args0 := .own 0 es st n :: rest) (pre0 := [(0, o)]) (nx := 1) [(0, k)] (by simpa using hlen) (by simp [gf]) ⟨⟨rfl, cF rfl rfl rfl⟩, CG hkr hrt⟩ ⟨⟨k, o2, rfl, by simp [look], ho _⟩, trivial⟩
  (fun a x h => ?_) (fun x o h => .inl ?_) (fun need c h0 => ?_)
 ·simp only [aS, look] at h
  split at h
  ·simp only [Option.some.injEq] at h; subst h; exact ⟨_, by simp [look]; rfl⟩
  ·simp at h
 ·simp only [look] at h
  split at h
  ·rename_i he
   exact ⟨_, by simp only [look, he, if_true]; rfl⟩
  ·simp at h
 have hk : Kept [0] c := fun a y hy => by
  have := h0 a y hy
  simp only [aS, look] at this
  split at this
  ·rename_i he; have := eq_of_beq he; subst this; exact List.mem_singleton_self _
  ·simp at this
 refine (h need c hk).mono fun e s' ⟨h1, ls, vs, us, os, o1, g1, g2, g3, g4, g5⟩ => ⟨h1, aS [(k, 0)], qW, .inr (ry (ws := ws) (ps := [(k, o')]) g1 g2 g3 rfl (by simp [bW, dO, put]) ⟨⟨0, o1, by simp [aS, look], g4, g5⟩, trivial⟩)⟩
include hT in
theorem FE {f : FuncId} {fn : Func} {x : Code} (hf : aO P f fn x) {args args0 ws : List AV} {o' : az} {K : Nat} {l : List Prop} (ha : ay l → ep (aS []) args args0) (hlen : args0.length ≤ fn.ntmps)
  (h : ay l → ∀ c : Ctx, Kept [] c → aq P c fn.ntmps x ⟨aL 0 args0, [], 0⟩ fun e s' => (e = .normal ∨ e = .ret) ∧ ∃ ls vs us os a o, aU ls s' = some (vs, os) ∧ jt (aC ls vs) fn.results.toList = some us ∧ ep (aS [(K, a)]) us ws ∧ look a os = some o ∧ ck (aS [(K, a)]) o o') :
  aA P f K args [] ⟨jn ws, [(K, o')], l⟩ := by
 intro need
 refine (k7 hT hf (args0 := args0) (pre0 := []) (nx := 0) [] hlen rfl (ha need) trivial (fun a k h => by simp [aS, look] at h) (fun k o h => ?_) (fun need c h0 => ?_) : aA P f K args [] ⟨jn ws, [(K, o')], l⟩) need
 ·simp only [look] at h
  split at h
  ·rename_i he
   have : K = k := by simpa using he
   subst this
   exact .inr ⟨Nat.le_refl _, by unfold bY; omega⟩
  ·simp at h
 ·refine (h need c fun k x hk => by simpa [aS, look] using h0 k x hk).mono ?_
  rintro e s' ⟨h1, ls, vs, us, os, a, o, h2, h3, h4, h5, h6⟩
  exact ⟨h1, aS [(K, a)], B5 ⟨Nat.le_refl _, by unfold bY; omega⟩, .inr (ry (ws := ws) (ps := [(K, o')]) h2 h3 h4 rfl rfl ⟨⟨a, o, by simp [aS, look], h5, h6⟩, trivial⟩)⟩
end rules
end Go.Am

/- A loop in a loop. -/
namespace Go.Am
open AV
section rules
variable {P : Program} {c : Ctx} {nt : Nat} {s : aE} {Q : aj → aE → Prop} {T : Types} (hT : dr P T) {Γ : aQ} (hΓ : bg P Γ) (hm : P.follows .mixedOrders = true)
end rules
end Go.Am

/- Functions that are handed one list that may still be written to, and leave it as it is. -/
namespace Go.Am
open AV
def vI (T : Types) (fn : Func) (e : aj) (s : aE) : Option (aa (List AV × Option az)) := match e with
 | .exit _ => none
 | e => match eE T s fn.results.toList with
  | some (vs, q) => some (.need q (.leaf e (vs, look 0 s.store)))
  | none => none
def AH (T : Types) (Γ : aQ) (forks : List Nat) (n : Nat) (fn : Func) (l : List Code) (s : aE) : Option (aa (List AV × Option az)) :=
 match mV T Γ forks n l s with
 | some t => t.bind (vI T fn)
 | none => none
def B4 (us : List AV) (o : az) (v : List AV × Option az) : Prop :=
 aV v.1 = [] ∧ (v.1.all fun v => !v.isTuple) = true ∧ dP v.1 us ∧ ∃ o1, v.2 = some o1 ∧ ∀ ρ, ck ρ o1 o
def uR (T : Types) (fn : Func) (us : List AV) (o : az) (e : aj) (s : aE) : Prop :=
 (e = .normal ∨ e = .ret) ∧ (∃ vs q, eE T s fn.results.toList = some (vs, q) ∧ ay q ∧ aV vs = [] ∧ (vs.all fun v => !v.isTuple) = true ∧ dP vs us) ∧ ∃ o1, look 0 s.store = some o1 ∧ ∀ ρ, ck ρ o1 o
theorem IL {T : Types} {fn : Func} {e : aj} {s : aE} {t : aa (List AV × Option az)} {us : List AV} {o : az} (h1 : vI T fn e s = some t) (h2 : t.all fun _ v => B4 us o v) : uR T fn us o e s := by
 unfold vI at h1
 have key : ∀ {e' : aj}, (match eE T s fn.results.toList with
   | some (vs, q) => some (aa.need q (.leaf e' (vs, look 0 s.store)))
   | none => none) = some t → (∃ vs q, eE T s fn.results.toList = some (vs, q) ∧ ay q ∧ aV vs = [] ∧ (vs.all fun v => !v.isTuple) = true ∧ dP vs us) ∧ ∃ o1, look 0 s.store = some o1 ∧ ∀ ρ, ck ρ o1 o := by
  intro e' h1
  cases hr : eE T s fn.results.toList with
  | none => rw [hr] at h1; simp at h1
  | some r =>
   obtain ⟨vs, q⟩ := r
   rw [hr] at h1
   simp only [Option.some.injEq] at h1
   subst h1
   obtain ⟨g1, g2, g3, g4, g5⟩ := aa.wK.1 h2
   exact ⟨⟨vs, q, rfl, g1, g2, g3, g4⟩, g5⟩
 cases e with
 | normal => exact ⟨.inl rfl, key h1⟩
 | ret => exact ⟨.inr rfl, key h1⟩
 | exit i => simp at h1
section rules
variable {P : Program} {c : Ctx} {nt : Nat} {s : aE} {Q : aj → aE → Prop} {T : Types} (hT : dr P T) {Γ : aQ} (hΓ : bg P Γ) (hm : P.follows .mixedOrders = true)
include hT hΓ hm in
theorem aB.Tf {fn : Func} {forks : List Nat} (n : Nat) {l : List Code} {t : aa (List AV × Option az)} (hc : AH T Γ forks n fn l s = some t) (hd : (l.all fun x => b6 nt x) = true) {us : List AV} {o : az}
  (h : t.all fun _ v => B4 us o v) : aB P c nt l s (uR T fn us o) := by
 unfold AH at hc
 split at hc
 ·rename_i u hx
  refine wV hT hΓ hm hd hx (aa.eu ?_ (aa.gO hc h))
  rintro e s' ⟨v, h1, h2⟩
  exact IL h1 h2
 ·simp at hc
def zF (T : Types) (fn : Func) (L : List Nat) (us : List AV) (o : az) (v : List AV × aD) : Prop :=
 ∃ vs ws nx t, v.1 = vs ++ ws ∧ vs.length = L.length ∧ aV ws = [] ∧ vI T fn .ret ⟨aC L vs, v.2, nx⟩ = some t ∧ gC nx vs = true ∧ fk nx v.2 ∧ 1 ≤ nx ∧ t.all fun _ v => B4 us o v
theorem zF.fin {fn : Func} {L L1 : List Nat} {us : List AV} {o : az} {v : List AV × aD} {s' : aE} (h0 : Kept [0] c) (h : zF T fn L us o v) (hs' : aU (L ++ L1) s' = some v) : dc c (uR T fn us o) .ret s' := by
 obtain ⟨vs, ws, nx, t, h1, h2, h3, h4, h5, h6, hn, h7⟩ := h
 obtain ⟨v1, v2⟩ := v
 simp only at h1
 subst h1
 obtain ⟨ρ, hle⟩ := jW (fV hs' h2 h3) (fun k x hk => by
  have := h0 k x hk
  simp only [List.mem_cons, List.not_mem_nil, or_false] at this
  omega) h5 h6
 exact .inr ⟨_, ρ, hle, IL h4 h7⟩
include hT in
theorem P4 {f : FuncId} {fn : Func} {x : Code} (hf : aO P f fn x) {args args0 us : List AV} {a : Nat} {oa oa0 : az} {l : List Prop} (hlen : args0.length ≤ fn.ntmps)
  (ha : ep (aS [(0, a)]) args args0) (hoa : ay l → ∀ ρ, ck ρ oa oa0)
  (h : ay l → ∀ c : Ctx, Kept [0] c → aq P c fn.ntmps x ⟨aL 0 args0, [(0, oa0)], 1⟩ (dc c (uR T fn us oa0))) (K : Nat) : aA P f K args [(a, oa)] ⟨jn us, [(a, oa0)], l⟩ := by
 intro need
 refine (k7 hT hf (args0 := args0) (pre0 := [(0, oa0)]) (nx := 1) [(0, a)] hlen (by simp [gf]) ha ⟨⟨a, oa, rfl, y5, hoa need _⟩, trivial⟩
  (fun x k h => ?_) (fun x o h => .inl ?_) (fun need c h0 => ?_) : aA P f K args [(a, oa)] ⟨jn us, [(a, oa0)], l⟩) need
 ·simp only [aS, look] at h
  split at h
  ·simp only [Option.some.injEq] at h; subst h; exact ⟨_, y5⟩
  ·simp at h
 ·simp only [look] at h ⊢
  split at h
  ·rename_i he; exact ⟨oa, by rw [if_pos he]⟩
  ·simp at h
 have hk : Kept [0] c := fun x y hy => by
  have := h0 x y hy
  simp only [aS, look] at this
  split at this
  ·rename_i he; have := eq_of_beq he; subst this; simp
  ·simp at this
 refine (h need c hk).down.mono ?_
 rintro e s' ⟨h1, ⟨vs, q, g1, g2, g3, g4, g5⟩, o1, g6, g7⟩
 refine ⟨h1, aS [(a, 0)], qW, .inr ⟨⟨vs, q, us, g1, g2, C3 g3 g4 g5, rfl⟩, fun k o hk => ?_⟩⟩
 have he : bW (dO [(a, oa0)]) [(a, oa)] = [(a, oa0)] := by simp [bW, dO, put]
 rw [he] at hk
 simp only [look] at hk
 split at hk
 ·rename_i hx
  have := eq_of_beq hx
  simp only [Option.some.injEq] at hk
  subst hk this
  exact ⟨0, o1, by simp [aS, look], g6, g7 _⟩
 ·simp at hk
end rules
end Go.Am

/- The call of a law, from its contract: whatever the arguments. -/
namespace Go.Am
open Go Go.ChangeShapes Go.WideShapes Go.ChangeAt Go.RowKit AV
inductive PK where
 | list
 | int (k : IntKind)
 | bool
def JY (P : Program) : PK → TypeId → Prop
 | .list, t => ∃ e, P.underlying t = some (.slice e) ∧ P.underlying e = some (.int .i64) ∧ P.cellsOf e = 1
 | .int k, t => P.underlying t = some (.int k)
 | .bool, t => P.underlying t = some .bool
def vU (P : Program) : List PK → List TypeId → Prop
 | [], [] => True
 | k :: ks, t :: ts => (JY P k t ∧ P.readableRec t = true ∧ t < P.types.size) ∧ vU P ks ts
 | _, _ => False
def KI : PK → AV → Prop
 | .list, a => ∃ (n : Nat) (z : Nat → Int), a = .ak 1 n (fun i => .int .i64 (z i))
 | .int k, a => ∃ n, a = .int k n
 | .bool, a => ∃ b, a = .bool b
def BN : List PK → List AV → Prop
 | [], as => as = []
 | k :: ks, as => ∃ a l, as = a :: l ∧ KI k a ∧ BN ks l
section
variable {P : Program} {H : Type} {enc : TypeId × Value → H} {W : World} {base : Nat}
theorem SK {k : PK} {t : TypeId} {v : Value} {d : DataW H} {p : List MemPlace} (hk : JY P k t) (h : DataW.Trod enc P W 0 (fun _ => true) true t v d p) (hv : Value.okWide P W .any base t v) : ∃ a, KI k a ∧ aT (fun _ => False) W aW a v := by
 cases k with
 | int k =>
  obtain ⟨n, rfl⟩ := okWide_int hk hv
  exact ⟨_, ⟨n, rfl⟩, .bL (.int .nil) rfl⟩
 | bool =>
  obtain ⟨b, rfl⟩ := okWide_bool hk hv
  exact ⟨_, ⟨b, rfl⟩, .bL (.bool .nil) rfl⟩
 | list =>
  obtain ⟨e, h1, h2, h3⟩ := hk
  obtain ⟨a0, len, cap, rfl⟩ := okWide_slice h1 hv
  obtain ⟨fuel, hf⟩ := h
  have key : ∀ {z : Nat → Int}, len ≤ cap → (len = 0 ∨ ∃ b o, a0 = some ⟨b, o, none⟩ ∧ ∀ i, i < len → W.cell? ⟨b, o + i, none⟩ = some (.int .i64 (z i))) → aT (fun _ => False) W aW (.ak 1 len (fun i => .int .i64 (z i))) (.slice a0 len cap) := fun {z} hcap hr => by
   refine .bL (.ak (cf := fun i => [.int .i64 (z i)]) ?_ (by omega) hcap (fun _ _ => rfl) (fun _ _ => .int .nil) .nil) rfl
   rcases hr with hr | ⟨b, o, rfl, hr⟩
   ·exact .inl hr
   ·refine .inr ⟨b, o, rfl, fun i hi => ?_⟩
    have hc := hr i hi
    simp only [World.cell?] at hc
    split at hc
    ·rename_i cs ty fr hh
     simp only [Option.isSome_none, Bool.false_eq_true, if_false] at hc
     refine ⟨cs, ty, fr, hh, id, fun j v hj => ?_⟩
     have hj0 : j = 0 := by have := (List.getElem?_eq_some_iff.1 hj).1; simp at this; exact this
     subst hj0
     simp only [List.getElem?_cons_zero, Option.some.injEq] at hj
     subst hj
     simpa using hc
    ·simp at hc
  rcases open_ints h1 h2 h3 hf with ⟨hcs, hx⟩ | ⟨a, len', cap', zs, hcs, _, hl, hm, hz, hx, hcell, hwz⟩
  ·simp only [Value.cells, List.cons.injEq, Value.slice.injEq, and_true] at hcs
   obtain ⟨rfl, rfl, rfl⟩ := hcs
   exact ⟨_, ⟨0, fun _ => 0, rfl⟩, key (z := fun _ => 0) (Nat.le_refl _) (.inl rfl)⟩
  ·simp only [Value.cells, List.cons.injEq, Value.slice.injEq, and_true] at hcs
   obtain ⟨rfl, rfl, rfl⟩ := hcs
   simp only [if_true] at hz
   refine ⟨_, ⟨len, fun i => zs.getD i 0, rfl⟩, key hl ?_⟩
   rcases Nat.eq_zero_or_pos len with h0 | h0
   ·exact .inl h0
   ·obtain ⟨b, o, m⟩ := a
    have h1 := hcell 0 (by omega)
    have : m = none := by
     cases m with
     | none => rfl
     | some y => exfalso; simp only [Addr.add, World.cell?] at h1; split at h1 <;> simp at h1
    subst this
    exact .inr ⟨b, o, rfl, fun i hi => by
     have h2 := hcell i (by omega)
     rcases Nat.eq_zero_or_pos i with hi | hi
     ·subst hi; simpa [Addr.add] using h2
     ·simpa [Addr.add, Nat.pos_iff_ne_zero.1 hi] using h2⟩
theorem JJ : ∀ {ks : List PK} {ts : List TypeId} {vs : List Value} {ds : List (DataW H)} {p : List MemPlace}, vU P ks ts → DataW.TrodAll enc P W 0 (fun _ => true) true ts vs ds p → (∀ (j : Nat) t v, ts[j]? = some t → vs[j]? = some v → Value.okWide P W .any base t v) →
  ∃ as, BN ks as ∧ bO (fun _ => False) W aW as vs
 | [], [], vs, ds, p, _, h, _ => by
  obtain ⟨rfl, _, _⟩ := trodAll_nil h
  exact ⟨[], rfl, trivial⟩
 | k :: ks, t :: ts, vs, ds, p, hk, h, hv => by
  obtain ⟨v, vs', d, ds', p1, q, rfl, rfl, rfl, hd, hrest⟩ := trodAll_cons h
  obtain ⟨a, h1, h2⟩ := SK hk.1.1 hd (hv 0 t v rfl rfl)
  obtain ⟨as, h3, h4⟩ := JJ hk.2 hrest fun j t v h1 h2 => hv (j + 1) t v h1 h2
  exact ⟨a :: as, ⟨a, as, rfl, h1, h3⟩, h2, h4⟩
 | [], _ :: _, _, _, _, h, _, _ => h.elim
 | _ :: _, [], _, _, _, h, _, _ => h.elim
theorem Ir {b : Nat} {sp : Nat → Bool} {held : Bool} : ∀ {ts : List TypeId} {vs : List Value} {ds : List (DataW H)} {p : List MemPlace}, DataW.TrodAll enc P W b sp held ts vs ds p → ds.length = ts.length
 | [], vs, ds, p, h => by
  obtain ⟨_, rfl, _⟩ := trodAll_nil h
  rfl
 | t :: ts, vs, ds, p, h => by
  obtain ⟨v, vs', d, ds', p1, q, rfl, rfl, rfl, hd, hrest⟩ := trodAll_cons h
  simp [Ir hrest]
theorem En (hl : laidOutB P = true) {W' : World} (hb : Below W.heap.size W W') : ∀ {ks : List PK} {ts : List TypeId} {vs : List Value} {ds : List (DataW H)} {p : List MemPlace}, vU P ks ts → DataW.TrodAll enc P W 0 (fun _ => true) true ts vs ds p → (∀ x ∈ p, x.block < W.heap.size) →
  DataW.TrodAll enc P W' 0 (fun b => decide (b < W.heap.size)) true ts vs ds p
 | [], [], vs, ds, p, _, h, _ => by
  obtain ⟨rfl, rfl, rfl⟩ := trodAll_nil h
  exact trodAll_mk0
 | k :: ks, t :: ts, vs, ds, p, hk, h, hlt => by
  obtain ⟨v, vs', d, ds', p1, q, rfl, rfl, rfl, hd, hrest⟩ := trodAll_cons h
  exact ⟨_, _, Below.trod hl hk.1.2.1 hk.1.2.2 hd hb fun x hx => hlt x (List.mem_append_left _ hx), En hl hb hk.2 hrest fun x hx => hlt x (List.mem_append_right _ hx), rfl⟩
 | [], _ :: _, _, _, _, h, _, _ => h.elim
 | _ :: _, [], _, _, _, h, _, _ => h.elim
theorem Uc (hl : laidOutB P = true) {f : FuncId} {fn : Func} (hf : P.funcs[f]? = some fn) (hb : fn.body.isNone = false) {ks : List PK} {ts : List TypeId} (hk : vU P ks ts) {args : Array Value} {ds : List (DataW H)} {p : List MemPlace}
  (hA : DataW.TrodAll enc P W 0 (fun _ => true) true ts args.toList ds p) (hv : ∀ (j : Nat) t v, ts[j]? = some t → args[j]? = some v → Value.okWide P W .any base t v) (hlt : ∀ x ∈ p, x.block < W.heap.size) (hF : ∀ as, BN ks as → aA P f 0 as [] ⟨.bool true, [], []⟩) :
  Calls P f args W fun e W' => e = .returned (.bool true) ∧ Below W.heap.size W W' ∧ DataW.TrodAll enc P W' 0 (fun b => decide (b < W.heap.size)) true ts args.toList ds p := by
 obtain ⟨as, h1, h2⟩ := JJ hk hA fun j t v h1 h2 => hv j t v h1 (by simpa using h2)
 obtain ⟨_, hF⟩ := hF as h1 trivial
 have hrel : aY ⟨fun _ => False, W, fun _ => False, aW, none⟩ [] (fun _ => False) aW W :=
  { obj := fun k o h => by simp [look] at h, cQ := fun k o h => by simp [look] at h, inj := fun k k' o o' b N N' h => by simp [look] at h, dom := fun k x h => by simp [aW] at h, keep := fun k x h => h, lt := fun k b N h => by simp [aW] at h, os := rfl, tape := rfl, output := rfl, size := Nat.le_refl _, block := fun _ _ _ => rfl, fG := fun b h => h.elim, new := fun k o b N h => by simp [look] at h }
 have hM : aK ⟨fun _ => False, W, fun _ => False, aW, none⟩ [] aW = fun _ => False := by
  funext b
  simp [aK, look]
 have hinv := hF ⟨fun _ => False, W, fun _ => False, aW, none⟩ (fun _ => False) (fun _ => True) aW W _ rfl (fun b h => h.elim) hrel (fun k h => h.elim) (fun k _ _ => ⟨id, trivial⟩) (by rw [hM]; exact h2)
 rcases hinv with ⟨fn', g1, g2, g3, g4⟩ | ⟨x, g1, _⟩
 ·have g5 := g4
  rw [show args.toList.toArray = args from by simp] at g5
  refine g5.mono fun e W' ⟨x, he, hx⟩ => ?_
  obtain ⟨β', q1, q2, q3⟩ := hx
  have := q3.bool
  subst this
  have hbl : Below W.heap.size W W' := ⟨q1.os, q1.tape, q1.output, q1.size, fun k hk => q1.block k hk id⟩
  exact ⟨he, hbl, En hl hbl hk hA hlt⟩
 ·exfalso
  simp only [callFunc, Sem.run_bind, run_program, Result.andThen_ok, hf, hb, Bool.false_eq_true, if_false] at g1
  split at g1 <;> simp at g1
end
end Go.Am
