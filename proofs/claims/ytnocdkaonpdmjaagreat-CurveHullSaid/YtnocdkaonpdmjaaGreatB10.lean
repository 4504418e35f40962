/- natural.Div: its loops. -/
import Derived.Test.YtnocdkaonpdmjaaGreatB9
set_option linter.unusedVariables false
namespace Go.Am.B
open Go Go.Am.N AV
theorem gE : bg P GD := aH B8 (aH CY (aH Vr (aH L8 (aH XL e9))))
theorem uy : bg P GT := aH YX bn
section pieces
variable {c : Ctx} (h0 : ∀ k x, c.k0 k = some x → k < 9) {Q : aj → aE → Prop} {lq s lu V j : Nat} {q u : Nat → Nat} {s' : aE}
theorem gi {lq lu : Nat} {q u : Nat → Nat} : fk 9 (cj lq lu q u) := ⟨⟨by omega, fun _ _ => rfl⟩, ⟨by omega, fun _ _ => rfl⟩, trivial⟩
theorem dw {a : Int} {n : Nat} (h : a = n) (hn : n < 2 ^ 63) : IntKind.i64.wrap a = (n : Int) := by rw [h, wrap_i64 (by omega) (by omega)]
theorem fJ {a b v : Bool} (h : (bif false then a else b) = v) : b = v := h
theorem GB {a b : Nat} (h : (a : Int) > (b : Int)) : b < a := by omega
theorem abl {a b : Nat} (h : ¬ (a : Int) > (b : Int)) : a ≤ b := by omega
abbrev lC : List Nat := cy ++ [15, 16]
abbrev rH (lq s lu V : Nat) (j x : Int) (rest : Nat) : List AV := dH lq s lu V j ++ [.int .u64 x, .int .u64 (rest : Nat)]
include h0 in
theorem NM {top qt v1 v2 u3 x0 r0 : Nat} (hlu : lu < 2 ^ 41) (hn : 2 ≤ nl V) (hj : j + nl V < lu) (e1 : au V (nl V - 1) = v1) (e2 : au V (nl V - 2) = v2) (e3 : u (j + nl V - 2) = u3) (hu3 : u3 < 4294967296)
  (hx0 : x0 * v1 + r0 = top) (hr0 : r0 < 4294967296) (hq0 : qt ≤ x0) (hx33 : x0 < 2 ^ 34)
  (hbig : qt < 4294967296) (hstep : ∀ x rest, x * v1 + rest = top → rest * 4294967296 + u3 < x * v2 → qt < x) (hsmall : ∀ x rest, x * v1 + rest = top → 4294967296 ≤ rest → x < 4294967296)
  (hv : aU lC s' = some (rH lq s lu V j x0 r0, cj lq lu q u))
  (fin : ∀ x rest s', x < 4294967296 → x * v1 + rest = top → qt ≤ x → x * v2 ≤ rest * 4294967296 + u3 → aU lC s' = some (rH lq s lu V j x rest, cj lq lu q u) → Q .normal s') :
  aq P c cT.ntmps (part mK [1,1,0]) s' Q := by
 refine aq.fq (i := 3) (y := part mK [1,1,0,0,0]) (by kernel_rfl) lC 9 h0 (fun p : Nat × Nat => rH lq s lu V j p.1 p.2) (fun _ => cj lq lu q u) (fun _ => rfl) (fun _ => gi)
  (fun p => p.1 * v1 + p.2 = top ∧ p.2 < 4294967296 ∧ qt ≤ p.1 ∧ p.1 < 2 ^ 34) (fun p => p.1) (x0, r0) hv ⟨hx0, hr0, hq0, hx33⟩ ?_
 rintro ⟨x, rest⟩ ⟨ht, hr, hq, hx⟩
 simp only at ht hr hq hx
 show aq P c cT.ntmps _ ⟨aC lC (rH lq s lu V j (x : Int) rest), cj lq lu q u, 9⟩ _
 obtain ⟨X, hX⟩ : ∃ X : Int, X = (x : Int) := ⟨_, rfl⟩
 rw [← hX]
 refine aq.aX hT gE hm 60 lC (Zh (x := X)) (by kernel_rfl) ?_
 rw [hX]
 have w1 : IntKind.i64.wrap ((nl V : Int) - 1) = ((nl V - 1 : Nat) : Int) := dw (by omega) (by omega)
 have w2 : IntKind.i64.wrap ((nl V : Int) - 2) = ((nl V - 2 : Nat) : Int) := dw (by omega) (by omega)
 have w3 : IntKind.i64.wrap ((j : Int) + (nl V : Int)) = ((j + nl V : Nat) : Int) := dw (by omega) (by omega)
 have w4 : IntKind.i64.wrap (((j + nl V : Nat) : Int) - 2) = ((j + nl V - 2 : Nat) : Int) := dw (by omega) (by omega)
 have hv1 : au V (nl V - 1) < 4294967296 := cH
 have hv2 : au V (nl V - 2) < 4294967296 := cH
 have w5 : IntKind.u64.wrap ((rest : Int) + IntKind.u64.wrap (au V (nl V - 1) : Int)) = ((rest + v1 : Nat) : Int) := by
  rw [wrap_u64 (x := (au V (nl V - 1) : Int)) (by omega) (by omega), wrap_u64 (by omega) (by omega), e1]; omega
 rw [w1, w2, w3, w4]
 simp only [aa.all, ay, Int.toNat_natCast, Nat.add_zero, w5, e3]
 rw [rj hr hu3]
 have next : ∀ {s' : aE}, qt < x → rest + v1 < 4294967296 → aU lC s' = some ([.own 8 1 0 lq, .int .i64 s, .own 7 1 0 lu, .mag V, .int .i64 (nl V), .int .i64 j, .int .u64 (IntKind.u64.wrap ((x : Int) - 1)), .int .u64 ((rest + v1 : Nat) : Int)], cj lq lu q u) →
   ∃ k : Nat × Nat, aU lC s' = some (rH lq s lu V j k.1 k.2, cj lq lu q u) ∧ (k.1 * v1 + k.2 = top ∧ k.2 < 4294967296 ∧ qt ≤ k.1 ∧ k.1 < 2 ^ 34) ∧ k.1 < x := by
  intro s' h1 h2 hv
  refine ⟨(x - 1, rest + v1), ?_, ⟨?_, h2, by simp only; omega, by simp only; omega⟩, by simp only; omega⟩
  ·refine cJ hv ?_ rfl
   rw [wrap_u64 (x := (x : Int) - 1) (by omega) (by omega), show (x : Int) - 1 = ((x - 1 : Nat) : Int) by omega]
   rfl
  ·simp only
   obtain ⟨y, rfl⟩ : ∃ y, x = y + 1 := ⟨x - 1, by omega⟩
   rw [Nat.add_mul] at ht
   simp only [Nat.add_sub_cancel]; omega
 have last : ∀ {s' : aE}, qt < x → 4294967296 ≤ rest + v1 → aU lC s' = some ([.own 8 1 0 lq, .int .i64 s, .own 7 1 0 lu, .mag V, .int .i64 (nl V), .int .i64 j, .int .u64 (IntKind.u64.wrap ((x : Int) - 1)), .int .u64 ((rest + v1 : Nat) : Int)], cj lq lu q u) → Q .normal s' := by
  intro s' h1 h2 hv
  have ht' : (x - 1) * v1 + (rest + v1) = top := by
   obtain ⟨y, rfl⟩ : ∃ y, x = y + 1 := ⟨x - 1, by omega⟩
   rw [Nat.add_mul] at ht
   simp only [Nat.add_sub_cancel]; omega
  have hsm := hsmall _ _ ht' h2
  refine fin (x - 1) (rest + v1) s' hsm ht' (by omega) ?_ (cJ hv ?_ rfl)
  ·have a1 : (x - 1) * v2 ≤ 4294967295 * 4294967295 := Nat.mul_le_mul (by omega) (by omega)
   omega
  ·rw [wrap_u64 (x := (x : Int) - 1) (by omega) (by omega), show (x : Int) - 1 = ((x - 1 : Nat) : Int) by omega]
   rfl
 refine ⟨fun hb => ⟨hb, fun _ => ⟨by omega, fun h1 s' hv => ?_, fun h1 s' hv => ?_⟩, fun h => by simp at h⟩, fun hb => ⟨⟨hb, by omega, by omega, by omega, by omega⟩, ?_⟩⟩
 ·simp only [decide_eq_true_eq] at hb h1
  exact dQ (last (by omega) (by omega) hv)
 ·simp only [decide_eq_true_eq, decide_eq_false_iff_not] at hb h1
  exact next (by omega) (by omega) hv
 ·simp only [decide_eq_false_iff_not] at hb
  have hxB : x < 4294967296 := by omega
  have m1 : x * au V (nl V - 2) ≤ (2 ^ 32 - 1) * (2 ^ 32 - 1) := Nat.mul_le_mul (by omega) (by omega)
  have w6 : IntKind.u64.wrap ((x : Int) * IntKind.u64.wrap (au V (nl V - 2) : Int)) = ((x * v2 : Nat) : Int) := by
   rw [wrap_u64 (x := (au V (nl V - 2) : Int)) (by omega) (by omega), e2]
   have : (x : Int) * (v2 : Int) = ((x * v2 : Nat) : Int) := by simp
   rw [this, wrap_u64 (by omega) (by rw [e2] at m1; omega)]
  rw [w6]
  refine ⟨fun h1 => ⟨by omega, fun h2 s' hv => ?_, fun h2 s' hv => ?_⟩, fun h1 s' hv => ?_⟩
  ·simp only [decide_eq_true_eq] at h2
   exact dQ (last (hstep x rest ht (GB (of_decide_eq_true (fJ h1)))) (by clear h1 w6 m1; omega) hv)
  ·simp only [decide_eq_false_iff_not] at h2
   exact next (hstep x rest ht (GB (of_decide_eq_true (fJ h1)))) (by clear h1 w6 m1; omega) hv
  ·skip
   exact dQ (fin x rest s' hxB ht hq (abl (of_decide_eq_false (fJ h1))) hv)
abbrev s7 : List Nat := cy ++ [15, 17, 18, 154, 155, 156]
abbrev xN (lq s lu V : Nat) (j : Int) (x b c i : Nat) : List AV := dH lq s lu V j ++ [.int .u64 (x : Nat), .int .u64 (b : Nat), .int .u64 (c : Nat), .mag V, .int .i64 (nl V), .int .i64 (i : Nat)]
include h0 in
theorem Xi {x : Nat} (hlu : lu < 2 ^ 41) (hj : j + nl V < lu) (hx : x < 4294967296) (hu : ∀ i, i < lu → u i < 2 ^ 32)
  (hv : aU s7 s' = some (xN lq s lu V j x 0 0 0, cj lq lu q u))
  (fin : ∀ b c u' s', b ≤ 1 → c < 4294967296 → (∀ i, i < lu → u' i < 2 ^ 32) → (∀ i, i < j ∨ j + nl V ≤ i → u' i = u i) →
   val (nl V) (fun i => u' (j + i)) + x * V = val (nl V) (fun i => u (j + i)) + (c + b) * 2 ^ (32 * nl V) → aU s7 s' = some (xN lq s lu V j x b c (nl V), cj lq lu q u') → Q .normal s') :
  aq P c cT.ntmps (part qP [1,0,1]) s' Q := by
 refine aq.fq (i := 5) (y := part qP [1,0,1,0,0]) (by kernel_rfl) s7 9 h0 (fun p : Nat × Nat × Nat × (Nat → Nat) => xN lq s lu V j x p.2.1 p.2.2.1 p.1) (fun p => cj lq lu q p.2.2.2) (fun _ => rfl) (fun _ => gi)
  (fun p => p.1 ≤ nl V ∧ p.2.1 ≤ 1 ∧ p.2.2.1 < 4294967296 ∧ (∀ i, i < lu → p.2.2.2 i < 2 ^ 32) ∧ (∀ i, i < j ∨ j + p.1 ≤ i → p.2.2.2 i = u i) ∧
   val p.1 (fun i => p.2.2.2 (j + i)) + x * val p.1 (au V) = val p.1 (fun i => u (j + i)) + (p.2.2.1 + p.2.1) * 2 ^ (32 * p.1)) (fun p => nl V - p.1) (0, 0, 0, u) hv
  ⟨by simp, by simp, by simp, hu, fun i _ => rfl, by simp [val]⟩ ?_
 rintro ⟨i, b, cc, u'⟩ ⟨hi, hb, hc, hu', hout, hval⟩
 simp only at hi hb hc hu' hout hval
 refine aq.aX hT gE hm 60 s7 div_mul (by kernel_rfl) ?_
 simp only [aa.all, ay, decide_eq_true_eq, decide_eq_false_iff_not, beq_iff_eq]
 refine ⟨fun h1 => ?_, fun h1 s' hv => ?_⟩
 ·have hin : i < nl V := by omega
  have w1 : IntKind.i64.wrap ((i : Int) + (j : Int)) = ((j + i : Nat) : Int) := dw (by omega) (by omega)
  rw [w1]
  simp only [Int.toNat_natCast, Nat.add_zero]
  obtain ⟨m1, m2, m3⟩ := Ov hc hx (cH (N := V) (i := i))
  have hui := hu' (j + i) (by omega)
  obtain ⟨g1, g2⟩ := El (u := u' (j + i)) (c := (cc + x * au V i) % 4294967296) hui (by omega) hb
  rw [m1, Yr m2, g1, g2, jo]
  refine ⟨by omega, by omega, by omega, by omega, by omega, fun s' hv => ⟨(i + 1, (if (cc + x * au V i) % 4294967296 + b ≤ u' (j + i) then 0 else 1), (cc + x * au V i) / 4294967296, bJ u' (j + i) ((u' (j + i) + 4294967296 - (cc + x * au V i) % 4294967296 - b) % 4294967296)), cJ hv ?_ ?_, ⟨by simp only; omega, by simp only; split <;> omega, m3, fQ (by omega) hu', fun k hk => ?_, ?_⟩, by simp only; omega⟩⟩
  ·rw [dw (a := (i : Int) + 1) (n := i + 1) (by omega) (by omega)]
   simp only [xN, dH, List.cons_append, List.nil_append, List.cons.injEq, AV.int.injEq, and_true, true_and]
   omega
  ·simp only [cj]
   congr 4
   funext k
   exact fe rfl k
  ·simp only at hk ⊢
   rw [eg (by omega)]
   exact hout k (by omega)
  ·simp only
   rw [val, val, val, ia, val_congr (y := fun i => u' (j + i)) fun k hk => eg (by omega), fB, ← hout (j + i) (by omega)]
   exact Sh (by omega) hb hui rfl hval
 ·have hin : i = nl V := by omega
  subst hin
  rw [eC] at hval
  exact dQ (fin b cc u' s' hb hc hu' hout hval hv)
abbrev rX : List Nat := cy ++ [15, 18, 214, 215, 216]
abbrev zV (lq s lu V : Nat) (j : Int) (x c i : Nat) : List AV := dH lq s lu V j ++ [.int .u64 (x : Nat), .int .u64 (c : Nat), .mag V, .int .i64 (nl V), .int .i64 (i : Nat)]
include h0 in
theorem Qc {x : Nat} (hlu : lu < 2 ^ 41) (hj : j + nl V < lu) (hu : ∀ i, i < lu → u i < 2 ^ 32)
  (hv : aU rX s' = some (zV lq s lu V j x 0 0, cj lq lu q u))
  (fin : ∀ c u' s', c ≤ 1 → (∀ i, i < lu → u' i < 2 ^ 32) → (∀ i, i < j ∨ j + nl V ≤ i → u' i = u i) →
   val (nl V) (fun i => u' (j + i)) + c * 2 ^ (32 * nl V) = val (nl V) (fun i => u (j + i)) + V → aU rX s' = some (zV lq s lu V j x c (nl V), cj lq lu q u') → Q .normal s') :
  aq P c cT.ntmps (part nW [1,1,0,1]) s' Q := by
 refine aq.fq (i := 7) (y := part nW [1,1,0,1,0,0]) (by kernel_rfl) rX 9 h0 (fun p : Nat × Nat × (Nat → Nat) => zV lq s lu V j x p.2.1 p.1) (fun p => cj lq lu q p.2.2) (fun _ => rfl) (fun _ => gi)
  (fun p => p.1 ≤ nl V ∧ p.2.1 ≤ 1 ∧ (∀ i, i < lu → p.2.2 i < 2 ^ 32) ∧ (∀ i, i < j ∨ j + p.1 ≤ i → p.2.2 i = u i) ∧
   val p.1 (fun i => p.2.2 (j + i)) + p.2.1 * 2 ^ (32 * p.1) = val p.1 (fun i => u (j + i)) + val p.1 (au V)) (fun p => nl V - p.1) (0, 0, u) hv
  ⟨by simp, by simp, hu, fun i _ => rfl, by simp [val]⟩ ?_
 rintro ⟨i, cc, u'⟩ ⟨hi, hc, hu', hout, hval⟩
 simp only at hi hc hu' hout hval
 refine aq.aX hT gE hm 60 rX div_add (by kernel_rfl) ?_
 simp only [aa.all, ay, decide_eq_true_eq, decide_eq_false_iff_not, beq_iff_eq]
 refine ⟨fun h1 => ?_, fun h1 s' hv => ?_⟩
 ·have hin : i < nl V := by omega
  have w1 : IntKind.i64.wrap ((i : Int) + (j : Int)) = ((j + i : Nat) : Int) := dw (by omega) (by omega)
  rw [w1]
  simp only [Int.toNat_natCast, Nat.add_zero]
  have hui := hu' (j + i) (by omega)
  have hvi := cH (N := V) (i := i)
  have m1 : IntKind.u64.wrap ((cc : Int) + IntKind.u64.wrap (IntKind.u64.wrap (u' (j + i) : Int) + IntKind.u64.wrap (au V i : Int))) = ((cc + u' (j + i) + au V i : Nat) : Int) := by
   rw [wrap_u64 (x := (u' (j + i) : Int)) (by omega) (by omega), wrap_u64 (x := (au V i : Int)) (by omega) (by omega), wrap_u64 (x := (u' (j + i) : Int) + _) (by omega) (by omega), wrap_u64 (by omega) (by omega)]
   omega
  rw [m1, jo]
  refine ⟨by omega, by omega, by omega, by omega, fun s' hv => ⟨(i + 1, (cc + u' (j + i) + au V i) / 4294967296, bJ u' (j + i) ((cc + u' (j + i) + au V i) % 4294967296)), cJ hv ?_ ?_, ⟨by simp only; omega, by simp only; omega, fQ (by omega) hu', fun k hk => ?_, ?_⟩, by simp only; omega⟩⟩
  ·rw [dw (a := (i : Int) + 1) (n := i + 1) (by omega) (by omega)]
   simp only [zV, dH, List.cons_append, List.nil_append, List.cons.injEq, AV.int.injEq, and_true, true_and]
   omega
  ·simp only [cj]
   congr 4
   funext k
   exact fe (by rw [gZ]) k
  ·simp only at hk ⊢
   rw [eg (by omega)]
   exact hout k (by omega)
  ·simp only
   rw [val, val, val, ia, val_congr (y := fun i => u' (j + i)) fun k hk => eg (by omega), fB, ← hout (j + i) (by omega)]
   have := Dh (B := 2 ^ (32 * i)) (c := cc) (z := u' (j + i)) (y := au V i) rfl hval
   omega
 ·have hin : i = nl V := by omega
  subst hin
  rw [eC] at hval
  exact dQ (fin cc u' s' hc hu' hout hval hv)
end pieces
end Go.Am.B
