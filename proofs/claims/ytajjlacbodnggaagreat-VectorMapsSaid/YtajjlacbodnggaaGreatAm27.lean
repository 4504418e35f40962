/- Rational numbers: signs, sizes, quotients of natural numbers. -/
import Derived.Test.YtajjlacbodnggaaGreatAm26
set_option linter.unusedVariables false
namespace Go.Am
open AV

/-- A natural number with a sign; a quotient with a sign; how many bits a number has; the denominator as it is kept. -/
def sgn (b : Bool) (n : Nat) : Int := if b then -(n : Int) else n
def sQ (b : Bool) (n d : Nat) : Rat := mkRat (sgn b n) d
def rsz (q : Rat) : Nat := max (bitsN q.num.natAbs) (bitsN q.den)
def denN (q : Rat) : Nat := if q.den = 1 then 0 else q.den

theorem sgn_natAbs {b : Bool} {n : Nat} : (sgn b n).natAbs = n := by unfold sgn; split <;> simp
theorem sgn_zero {b : Bool} : sgn b 0 = 0 := by unfold sgn; split <;> simp
theorem sgn_div {b : Bool} {n g : Nat} (h : g ∣ n) : sgn b n / (g : Int) = sgn b (n / g) := by
  unfold sgn
  split
  · rw [Int.neg_ediv_of_dvd (Int.natCast_dvd_natCast.2 h)]; simp
  · simp

theorem rat_lt_zero {q : Rat} : q < 0 ↔ q.num < 0 := by rw [Rat.lt_iff]; simp
theorem rat_le_zero {q : Rat} : 0 ≤ q ↔ 0 ≤ q.num := Rat.num_nonneg.symm

theorem sQ_num {b : Bool} {n d : Nat} (hd : d ≠ 0) : (sQ b n d).num = sgn b (n / Nat.gcd n d) := by
  unfold sQ
  rw [Rat.num_mkRat, if_neg hd, sgn_natAbs, Nat.gcd_comm, sgn_div (Nat.gcd_dvd_left n d)]
theorem sQ_den {b : Bool} {n d : Nat} (hd : d ≠ 0) : (sQ b n d).den = d / Nat.gcd n d := by
  unfold sQ
  rw [Rat.den_mkRat, if_neg hd, sgn_natAbs, Nat.gcd_comm]
theorem sQ_zero {b : Bool} {d : Nat} : sQ b 0 d = 0 := by unfold sQ; rw [sgn_zero]; simp
theorem sQ_neg {b : Bool} {n d : Nat} (hn : n ≠ 0) (hd : d ≠ 0) : decide (sQ b n d < 0) = b := by
  have h1 : 0 < n / Nat.gcd n d := Nat.div_pos (Nat.le_of_dvd (by omega) (Nat.gcd_dvd_left n d)) (Nat.gcd_pos_of_pos_left _ (by omega))
  cases b
  · simp only [decide_eq_false_iff_not, rat_lt_zero, sQ_num hd, sgn]; simp; omega
  · simp only [decide_eq_true_eq, rat_lt_zero, sQ_num hd, sgn]; simp; omega

theorem Sz_rsz {q : Rat} : Sz q (rsz q) :=
  ⟨Nat.lt_of_lt_of_le (bitsN_le.1 (Nat.le_refl _)) (Nat.pow_le_pow_right (by omega) (Nat.le_max_left _ _)), Nat.lt_of_lt_of_le (bitsN_le.1 (Nat.le_refl _)) (Nat.pow_le_pow_right (by omega) (Nat.le_max_right _ _))⟩
theorem Sz_iff {q : Rat} {n : Nat} : Sz q n ↔ rsz q ≤ n := by
  unfold Sz rsz
  rw [← bitsN_le, ← bitsN_le]; omega

theorem avLe0_rat_eq {q r : Rat} {n k : Nat} (h : q = r) (hs : Sz r k) : avLe0 (.rat q n) (.rat r k) := by
  subst h
  refine ⟨rfl, fun M w cs hc => ?_⟩
  cases hc with
  | rat _ h1 h2 h3 => cases h3; exact .rat hs h1 h2 .nil

/-- What a value is known to be may be used. -/
theorem avLe0_use {u v : AV} (h : ∀ M w cs, CReps M w noKeys [u] cs → avLe0 u v) (hv : v.isAgg = u.isAgg) : avLe0 u v := ⟨hv, fun M w cs hc => (h M w cs hc).2 M w cs hc⟩

theorem Sz_sQ {b : Bool} {n d k : Nat} (hd : d ≠ 0) (hn : n < 2 ^ k) (hdk : d < 2 ^ k) : Sz (sQ b n d) k := by
  refine ⟨?_, ?_⟩
  · rw [sQ_num hd, sgn_natAbs]; exact Nat.lt_of_le_of_lt (Nat.div_le_self _ _) hn
  · rw [sQ_den hd]; exact Nat.lt_of_le_of_lt (Nat.div_le_self _ _) hdk

theorem rat_sQ (q : Rat) : sQ (decide (q < 0)) q.num.natAbs q.den = q := by
  unfold sQ
  have : sgn (decide (q < 0)) q.num.natAbs = q.num := by
    unfold sgn
    by_cases h : q < 0
    · have := rat_lt_zero.1 h; simp [h]; omega
    · have : ¬ q.num < 0 := fun h' => h (rat_lt_zero.2 h')
      simp [h]; omega
  rw [this, Rat.mkRat_self]

theorem sgn_dec (q : Rat) : sgn (decide (q < 0)) q.num.natAbs = q.num := by
  unfold sgn
  by_cases h : q < 0
  · have := rat_lt_zero.1 h; simp [h]; omega
  · have : ¬ q.num < 0 := fun h' => h (rat_lt_zero.2 h')
    simp [h]; omega

/-- The parts of a valid number make it up. -/
theorem avLe0_sQ {b : Bool} {x y n d k : Nat} (hn : n ≠ 0) (hd : d ≠ 0) (hx : x = n / Nat.gcd n d) (hy : y = if d / Nat.gcd n d = 1 then 0 else d / Nat.gcd n d) (hs : Sz (sQ b n d) k) : avLe0 (.agg [.bool b, .mag x, .mag y]) (.rat (sQ b n d) k) :=
  avLe0_rat hs (sQ_neg hn hd).symm (by rw [sQ_num hd, sgn_natAbs, hx]) (by rw [sQ_den hd, hy])

theorem avLe0_zero {k : Nat} : avLe0 (.agg [.bool false, .mag 0, .mag 0]) (.rat 0 (k + 1)) :=
  avLe0_rat ⟨by simp [Nat.two_pow_pos], by simp⟩ (by decide) rfl rfl

theorem denN_pos {q : Rat} : q.den ≠ 0 := q.den_nz

theorem gcd_num_den (q : Rat) : Nat.gcd q.num.natAbs q.den = 1 := q.reduced


section down
variable {P : Program} {c : Ctx} {nt : Nat} {s : AState} {Q : AEx → AState → Prop} {T : Types}

/-- What holds of a weaker state. -/
def Lower (c : Ctx) (Q : AEx → AState → Prop) (e : AEx) (s' : AState) : Prop := Q e s' ∨ ∃ s2 ρ, Le c ρ s' s2 ∧ Q e s2

theorem AWp.down {x : Code} (h : AWp P c nt x s (Lower c Q)) : AWp P c nt x s Q := by
  intro a w hr
  refine wp_mono (h a w hr) ?_
  rintro e a' w' ⟨ae, s', h1, h2, hq | ⟨s2, ρ, hle, hq⟩⟩
  · exact ⟨ae, s', h1, h2, hq⟩
  · exact ⟨ae, s2, h1, hle.rel h2, hq⟩

/-- The end of a function, from what is seen. -/
theorem finD {fn : Func} {ls : List Nat} {vs : List AV} {os : Store} {nx : Nat} {s' : AState} {e : AEx} {t : ATree (List AV)} {res : AV} (he : endT T fn e ⟨zipL ls vs, os, nx⟩ = some t) (hv : viewAV ls s' = some (vs, os)) (h0 : ∀ k x, c.k0 k = some x → k < nx) (hok : okV nx vs = true) (ho : okO nx os)
    (h : t.all fun _ us => resOK us res) : Lower c (Fin T fn res) e s' := by
  obtain ⟨ρ, hle⟩ := le_same hv h0 hok ho
  exact .inr ⟨_, ρ, hle, endT_ok he h⟩

theorem AWpL.finDV (hT : TOK P T) {Γ : Contracts} (hΓ : GOK P Γ) (hm : P.follows .mixedOrders = true) {fn : Func} {forks : List Nat} (n : Nat) {l : List Code} {ls : List Nat} {nx : Nat} {vs : List AV} {os : Store} (hv : viewAV ls s = some (vs, os)) (h0 : ∀ k x, c.k0 k = some x → k < nx)
    (hok : okV nx vs = true) (ho : okO nx os) {t : ATree (List AV)} (hc : endL T Γ forks n fn l ⟨zipL ls vs, os, nx⟩ = some t) (hd : (l.all fun x => dstOK nt x) = true) (hl : l.isEmpty = false) {res : AV} (h : t.all fun _ us => resOK us res) : AWpL P c nt l s (Lower c (Fin T fn res)) :=
  (AWpL.finV hT hΓ hm n hv h0 hok ho hc hd hl h).mono fun _ _ h => .inl h
end down

/-- A contract of a function that is handed no object. -/
theorem fok_down {P : Program} {T : Types} (hT : TOK P T) {f : FuncId} {fn : Func} {x : Code} (hf : FnIs P f fn x) {args : List AV} {r : CRes} (hk : keysL args = []) (hlen : args.length ≤ fn.ntmps) (hpost : r.post = [])
    (h : r.need → ∀ c : Ctx, (∀ nx k x, c.k0 k = some x → k < nx) → AWp P c fn.ntmps x ⟨zipSlots 0 args, [], 0⟩ (Lower c (Fin T fn r.res))) (K : Nat) (pre : Store) : FOK P f K args pre r :=
  fok_pure hT hf hk hlen hpost (fun need c h0 => .down (h need c fun _ => k0_none h0)) K pre


mutual
/-- What is known of the sizes of numbers in values. -/
def szA : AV → Prop
  | .rat q n => Sz q n
  | .agg l => szL l
  | _ => True
def szL : List AV → Prop
  | [] => True
  | a :: l => szA a ∧ szL l
end

theorem CReps.sz {M : Nat → Prop} {w : World} {β : KMap} {l : List AV} {cs : List Value} (h : CReps M w β l cs) : szL l := by
  induction h with
  | nil => trivial
  | rat hs _ _ _ _ _ ih => exact ⟨hs, ih⟩
  | agg _ _ ih1 ih2 => exact ⟨ih1, ih2⟩
  | tab _ _ _ _ _ _ _ ih => exact ⟨trivial, ih⟩
  | ntab _ _ _ _ _ _ _ _ ih => exact ⟨trivial, ih⟩
  | cref _ _ _ _ ih => exact ⟨trivial, ih⟩
  | func _ _ _ _ ih => exact ⟨trivial, ih⟩
  | _ => rename_i ih; exact ⟨trivial, ih⟩
theorem VReps.sz {M : Nat → Prop} {w : World} {β : KMap} : ∀ {l : List AV} {xs : List Value}, VReps M w β l xs → szL l
  | [], [], _ => trivial
  | a :: l, x :: xs, h => by
    obtain ⟨⟨cs, h1, _⟩, h2⟩ := h
    exact ⟨h1.sz.1, h2.sz⟩
  | [], _ :: _, h => h.elim
  | _ :: _, [], h => h.elim

/-- The sizes of the arguments may be used. -/
theorem fok_sz {P : Program} {f : FuncId} {K : Nat} {args : List AV} {pre : Store} {r : CRes} (hp : ∀ k o, look k r.post = some o → (∃ o', look k pre = some o') ∨ (K ≤ k ∧ k < K + stride)) (h : szL args → FOK P f K args pre r) : FOK P f K args pre r :=
  fun need => ⟨hp, fun c D D' β w vs h1 h2 h3 h4 h5 hv => (h hv.sz need).2 c D D' β w vs h1 h2 h3 h4 h5 hv⟩
theorem fok_szp {P : Program} {f : FuncId} {K : Nat} {args : List AV} {pre : Store} {v : AV} {l : List Prop} (h : szL args → FOK P f K args pre ⟨v, [], l⟩) : FOK P f K args pre ⟨v, [], l⟩ :=
  fok_sz (fun k o hk => by simp [look] at hk) h

theorem nl_lt_of {N n : Nat} (h : N < 2 ^ n) (hn : n < 2 ^ 44) : nl N < 2 ^ 40 := by
  have h1 : N < 2 ^ (32 * (n / 32 + 1)) := Nat.lt_of_lt_of_le h (Nat.pow_le_pow_right (by omega) (by omega))
  have := nl_spec.2 h1
  omega
theorem denN_le {q : Rat} : (if q.den = 1 then 0 else q.den) ≤ q.den := by split <;> omega
theorem Sz.nls {q : Rat} {n : Nat} (h : Sz q n) (hn : n < 2 ^ 44) : nl q.num.natAbs < 2 ^ 40 ∧ nl q.den < 2 ^ 40 ∧ nl (if q.den = 1 then 0 else q.den) < 2 ^ 40 :=
  ⟨nl_lt_of h.1 hn, nl_lt_of h.2 hn, Nat.lt_of_le_of_lt (nl_mono denN_le) (nl_lt_of h.2 hn)⟩
theorem Sz.pos {q : Rat} {n : Nat} (h : Sz q n) : 0 < n := by
  rcases Nat.eq_zero_or_pos n with h1 | h1
  · subst h1; have := h.2; have := q.den_nz; omega
  · exact h1
theorem Sz.more {q : Rat} {n m : Nat} (h : Sz q n) (hm : n ≤ m) : Sz q m :=
  ⟨Nat.lt_of_lt_of_le h.1 (Nat.pow_le_pow_right (by omega) hm), Nat.lt_of_lt_of_le h.2 (Nat.pow_le_pow_right (by omega) hm)⟩

theorem mkRat_natAbs {a : Int} {d : Nat} : (mkRat a d).num.natAbs ≤ a.natAbs := by
  rw [Rat.num_mkRat]
  split
  · simp
  · rw [Int.natAbs_ediv_of_dvd]
    · exact Nat.div_le_self _ _
    · exact Int.ofNat_dvd_left.2 (Nat.gcd_dvd_right _ _)
theorem mkRat_den_le {a : Int} {d : Nat} (h : d ≠ 0) : (mkRat a d).den ≤ d := by
  rw [Rat.den_mkRat, if_neg h]
  exact Nat.div_le_self _ _

theorem Sz.add {q r : Rat} {n m : Nat} (h : Sz q n) (h' : Sz r m) : Sz (q + r) (n + m + 1) := by
  rw [Rat.add_def']
  have d0 : q.den * r.den ≠ 0 := Nat.mul_ne_zero q.den_nz r.den_nz
  have e : 2 ^ (n + m + 1) = 2 ^ n * 2 ^ m + 2 ^ n * 2 ^ m := by rw [Nat.pow_succ, Nat.pow_add]; omega
  have b1 : q.num.natAbs * r.den ≤ 2 ^ n * 2 ^ m := Nat.mul_le_mul (Nat.le_of_lt h.1) (Nat.le_of_lt h'.2)
  have b2 : r.num.natAbs * q.den < 2 ^ m * 2 ^ n := Nat.mul_lt_mul'' h'.1 h.2
  have b3 : q.den * r.den ≤ 2 ^ n * 2 ^ m := Nat.mul_le_mul (Nat.le_of_lt h.2) (Nat.le_of_lt h'.2)
  have b4 : 0 < 2 ^ n * 2 ^ m := Nat.mul_pos (Nat.two_pow_pos _) (Nat.two_pow_pos _)
  rw [Nat.mul_comm (2 ^ m)] at b2
  refine ⟨Nat.lt_of_le_of_lt mkRat_natAbs ?_, Nat.lt_of_le_of_lt (mkRat_den_le d0) (by omega)⟩
  have b5 := Int.natAbs_add_le (q.num * r.den) (r.num * q.den)
  rw [Int.natAbs_mul, Int.natAbs_mul, Int.natAbs_natCast, Int.natAbs_natCast] at b5
  omega
theorem Sz.neg {q : Rat} {n : Nat} (h : Sz q n) : Sz (-q) n := by
  refine ⟨?_, ?_⟩
  · rw [Rat.neg_num, Int.natAbs_neg]; exact h.1
  · rw [Rat.neg_den]; exact h.2
theorem Sz.sub {q r : Rat} {n m : Nat} (h : Sz q n) (h' : Sz r m) : Sz (q - r) (n + m + 1) := by
  rw [Rat.sub_eq_add_neg]; exact h.add h'.neg
theorem Sz.mul {q r : Rat} {n m : Nat} (h : Sz q n) (h' : Sz r m) : Sz (q * r) (n + m) := by
  rw [Rat.mul_def']
  have d0 : q.den * r.den ≠ 0 := Nat.mul_ne_zero q.den_nz r.den_nz
  refine ⟨Nat.lt_of_le_of_lt mkRat_natAbs ?_, Nat.lt_of_le_of_lt (mkRat_den_le d0) ?_⟩
  · rw [Int.natAbs_mul, Nat.pow_add]; exact Nat.mul_lt_mul'' h.1 h'.1
  · rw [Nat.pow_add]; exact Nat.mul_lt_mul'' h.2 h'.2
theorem Sz.inv {q : Rat} {n : Nat} (h : Sz q n) : Sz q⁻¹ n := by
  by_cases h0 : q = 0
  · subst h0
    rw [Rat.inv_zero]
    exact h
  · have hn : q.num ≠ 0 := fun h => h0 (Rat.num_eq_zero.1 h)
    refine ⟨?_, ?_⟩
    · rw [Rat.num_inv, Int.natAbs_mul, Int.natAbs_natCast, Int.natAbs_sign_of_ne_zero hn, Nat.one_mul]; exact h.2
    · rw [Rat.den_inv, if_neg hn]; exact h.1
theorem Sz.div {q r : Rat} {n m : Nat} (h : Sz q n) (h' : Sz r m) : Sz (q / r) (n + m) := by
  rw [Rat.div_def]; exact h.mul h'.inv

/-- Signs and comparisons of numbers. -/
def sgnR (q : Rat) : Int := if q < 0 then -1 else if 0 < q then 1 else 0
def cmpR (q r : Rat) : Int := if q < r then -1 else if r < q then 1 else 0

end Go.Am
