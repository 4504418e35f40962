/- brepkernellaw22.TraceCells. -/
import Derived.Test.YtjhhblmbiaghfaaGreatY45
import Derived.Test.YtjhhblmbiaghfaaGreatY48
import Derived.Test.YtjhhblmbiaghfaaGreatY51
set_option linter.unusedVariables false
namespace Go.Am.B
open Go Go.Am.N AV af ak IntKind
theorem EY : aO P zO kB (ax kB) := aP Zd (by kernel_rfl) (by kernel_rfl) (by kernel_rfl)
theorem V4 : aO P A8 xU (ax xU) := aP UD (by kernel_rfl) (by kernel_rfl) (by kernel_rfl)
abbrev bN (z : Nat → Int) : Nat → AV := fun i => .int .i64 (z i)
noncomputable def I4 : aW := (yR, EM) :: []
noncomputable def rR : aW := nG :: (xF, Ip) :: (tn, DW) :: (xZ, Ir) :: (tE, gB Ah) :: (sB, gB BV) :: (k8, gB oP) :: (oD, nT) :: (qD, nT) :: (pH, rC) :: (wg, rC) :: (r7, xA) :: (sE, xA) :: (oO, vL) :: (qS, vL) :: (x5, Fw) :: (wo, B9) :: (A8, mm T I4 [200028, 200041, 200055, 200068] 100 xU) :: []
noncomputable abbrev uY : Code := ax kB
noncomputable abbrev rN : Code := part uY [1,1,1,1,1,1,0,1,0]
noncomputable abbrev pe : Code := part uY [1,1,1,1,1,1,1]
abbrev x4 : List Nat := [2, 3, 4, 5, 6, 31]
abbrev DL (x : Nat → Ce) (m : Nat) (w : Nat → Int) (k : Nat) (b : Bool) : List AV := [.bool false, .ptr 1 0 2 0 [], cq x m 64, cA w k, .ptr 0 0 4 0 [], .bool b]
abbrev EJ (n : Nat) (z : Nat → Int) (p : Int) (d : Ce) : aB := [(1, iI n z p), (0, ⟨false, true, 4, 1, fun _ => bk d 64⟩)]
abbrev yU : List Nat := [2, 4, 5, 6, 7]
abbrev IG (x : Nat → Ce) (m : Nat) (w : Nat → Int) (k i : Nat) : List AV := [.bool false, cq x m 64, cA w k, .ptr 0 0 4 0 [], .int .i64 i]
abbrev nD (d : Ce) : aB := [(0, ⟨false, true, 4, 1, fun _ => bk d 64⟩)]
abbrev tP : List Nat := [2, 4, 5, 6]
abbrev rZ (x : Nat → Ce) (m : Nat) (w : Nat → Int) (k : Nat) : List AV := [.bool false, cq x m 64, cA w k, .ptr 0 0 4 0 []]
theorem Uv {n : Nat} {z : Nat → Int} : aF T rR [18] 60 x4 (before uY [1,1,1,1,1,1,0,1]) ⟨aN 0 [.ah 1 n (bN z)], [], 0⟩ =
  let c8 : AV := tuple []; let c7 : Nat := jQ n (bN z) (0 : Int); let c6 : AV := int i64 (0 : Int); let c5 : Int := pL n (bN z) (0 : Int); let c4 : Int := iC n (0 : Int); let c2 : Nat := iW n (bN z) (0 : Int); let c1 : Nat := iJ n (bN z) (0 : Int); let c3 : Int := (↑c7 : Int); some (fork (!decide ((↑n : Int) ≤ (500 : Int))) (leaf ret ([AV.bool true, c8, c8, c8, c8, c8], [])) (ag [bG n (bN z) (0 : Int)] (ag [bG n (bN z) c5, (0 : Int) ≤ c3, c3 < (2 : Int) ^ 40] (ag [(0 : Nat) < 1] (leaf normal ([AV.bool false, ptr 20480 0 2 0 [], ah 4 c7 fun i ↦ agg [ah 6 (c1 + if bC n (bN z) (gu n (bN z) (ey n (bN z) c4 c1 c2 i) c1 c2) (12 : Int) = (11 : Int) then 1 else 0) fun i_1 ↦ agg [rat (if i_1 < c1 then gE n (bN z) (dZ n (bN z) (ey n (bN z) c4 c1 c2 i) i_1) else gE n (bN z) (aZ n (gu n (bN z) (ey n (bN z) c4 c1 c2 i) c1 c2))).lo 64, rat (if i_1 < c1 then gE n (bN z) (dZ n (bN z) (ey n (bN z) c4 c1 c2 i) i_1) else gE n (bN z) (aZ n (gu n (bN z) (ey n (bN z) c4 c1 c2 i) c1 c2))).hi 64], ah 6 c2 fun i_1 ↦ agg [rat (cR (fH n (bN z) (dZ n (bN z) (dZ n (bN z) (ey n (bN z) c4 c1 c2 i) c1) i_1)) (fH n (bN z) (gn n (bN z) (dZ n (bN z) (dZ n (bN z) (ey n (bN z) c4 c1 c2 i) c1) i_1)))) 64, rat (cW (fH n (bN z) (dZ n (bN z) (dZ n (bN z) (ey n (bN z) c4 c1 c2 i) c1) i_1)) (fH n (bN z) (gn n (bN z) (dZ n (bN z) (dZ n (bN z) (ey n (bN z) c4 c1 c2 i) c1) i_1)))) 64], c6, c6], ah 1 (jf n (bN z) c5) fun i ↦ int i64 (gN (rB n (bN z) (aZ n c5) c3) c3 (iO n (bN z) c5).fst i), ptr 65536 0 4 0 [], AV.bool (decide (c3 > (0 : Int)))], [((65536 : Nat), aD.mk false true 4 1 fun j ↦ if (j == 0) = true then cJ (agg (agg [nil, nil, c6, c6]).kids) else agg [nil, nil, c6, c6]), ((20480 : Nat), aD.mk false true 2 1 fun x ↦ agg [ah 1 n fun a ↦ int i64 (z a), int i64 (iO n (bN z) c5).snd])])))))) := by kernel_rfl
theorem Uy {n m k : Nat} {z w : Nat → Int} {x : Nat → Ce} {p : Int} {d : Ce} : aF T rR [] 60 yU (before rN [1,1]) ⟨az x4 (DL x m w k true), EJ n z p d, 2⟩ =
  let c1 : Int := bC n (fun i ↦ int i64 (z i)) p (↑m : Int); some (ag [bG n (fun i ↦ int i64 (z i)) p, (0 : Int) < (↑m : Int), (↑m : Int) < (2 : Int) ^ 62, (0 : Int) ≤ c1 ∧ c1.toNat < m, (0 : Nat) < 1] (leaf normal ([AV.bool false, ah 4 m fun i ↦ agg [ah 6 (x i).na fun i_1 ↦ agg [rat ((x i).a i_1).lo 64, rat ((x i).a i_1).hi 64], ah 6 (x i).nb fun i_1 ↦ agg [rat ((x i).b i_1).lo 64, rat ((x i).b i_1).hi 64], int i64 (x i).k, int i64 (x i).j], ah 1 k fun i ↦ int i64 (w i), ptr 0 0 4 0 [], int i64 (1 : Int)], [((0 : Nat), aD.mk false true 4 1 fun j ↦ if (j == 0) = true then cJ (bk (x c1.toNat) 64) else bk d 64)]))) := by kernel_rfl
theorem NW {m k i : Nat} {w : Nat → Int} {x : Nat → Ce} {d : Ce} : aF T rR [42, 200065] 60 yU [part rN [1,1,0,0]] ⟨az yU (IG x m w k i), nD d, 1⟩ =
  let c15 : AV := ah 1 k fun i ↦ int i64 (w i); let c14 : AV := ptr 0 0 4 0 []; let c11 : Nat := 2 ^ 30; let c7 : Int := (2 : Int) ^ 63; let c6 : Int := (↑i : Int); let c4 : List (Nat × aD) := [((0 : Nat), aD.mk false true 4 1 fun x ↦ agg [ah 6 d.na fun i ↦ agg [rat (d.a i).lo 64, rat (d.a i).hi 64], ah 6 d.nb fun i ↦ agg [rat (d.b i).lo 64, rat (d.b i).hi 64], int i64 d.k, int i64 d.j])]; let c3 : AV := ah 4 m fun i ↦ agg [ah 6 (x i).na fun i_1 ↦ agg [rat ((x i).a i_1).lo 64, rat ((x i).a i_1).hi 64], ah 6 (x i).nb fun i_1 ↦ agg [rat ((x i).b i_1).lo 64, rat ((x i).b i_1).hi 64], int i64 (x i).k, int i64 (x i).j]; let c18 : Int := c6 + (1 : Int); let c16 : Prop := (0 : Int) ≤ c6 ∧ c6.toNat < m; let c8 : Int := c6 - (1 : Int); let c5 : Ce := x c6.toNat; let c13 : Prop := bK (fun i ↦ sA (c5.b i) 64) c5.nb 64; let c12 : Prop := bK (fun i ↦ sA (c5.a i) 64) c5.na 64; let c1 : Nat := c8.toNat; let c17 : Prop := (x c1).na + (x c1).nb < c11; let c10 : Prop := bK (fun i ↦ sA ((x c1).a i) 64) (x c1).na 64; let c9 : Prop := bK (fun i ↦ sA ((x c1).b i) 64) (x c1).nb 64; let c2 : Bool := gM (Ce.mk (x c1).na (fun i ↦ bR (sA ((x c1).a i) 64)) (x c1).nb (fun i ↦ bR (sA ((x c1).b i) 64)) (x c1).k (x c1).j) (Ce.mk c5.na (fun i ↦ bR (sA (c5.a i) 64)) c5.nb (fun i ↦ bR (sA (c5.b i) 64)) c5.k c5.j); some (fork (decide (c6 < (↑m : Int))) (ag [-c7 ≤ c8 ∧ c8 < c7, (0 : Int) ≤ c8 ∧ c1 < m, c16, c10, c9, c12, c13, c17, c5.na + c5.nb < c11, -c7 ≤ c8 ∧ c8 < c7, (0 : Int) ≤ c8 ∧ c1 < m, c16, c10, c9, c12, c13, c17, c5.na + c5.nb < c11] (ag [(c2 != c2) = false] (ag [-c7 ≤ c18 ∧ c18 < c7] (leaf normal ([AV.bool false, c3, c15, c14, int i64 c18], c4))))) (leaf (exit 0) ([AV.bool false, c3, c15, c14, int i64 c6], c4))) := by kernel_rfl
theorem S5 {m k : Nat} {w : Nat → Int} {x : Nat → Ce} {d : Ce} : b9 T rR [100097, 100102, 100109, 100114, 100119] 60 kB [pe] ⟨az tP (rZ x m w k), nD d, 1⟩ =
  let c22 : Prop := eA (fun i ↦ int i64 (w i)) k; let c20 : Prop := ek (fun i ↦ cL (bk (x i) 64)) m; let c19 : Prop := 1 * 4 ≤ 2 ^ 24; let c15 : Prop := 0 < 1; let c13 : Int := b6 (fun i ↦ cL (bk (x i) 64)) m (fun i ↦ cu (int i64 (w i))) k; let c10 : Prop := fZ (fun i ↦ bk (x i) 64) m 64; let c9 : Nat := 2 ^ 40; let c5 : Prop := (0 : Int) ≤ (0 : Int) ∧ Int.toNat (0 : Int) < 1; let c3 : List Nat := roots (tT fun i ↦ cL (bk (x i) 64)) m m; let c2 : Ce := Ce.mk d.na (fun i ↦ bR (sA (d.a i) 64)) d.nb (fun i ↦ bR (sA (d.b i) 64)) d.k d.j; let c1 : Ce := fK (fun i ↦ cL (bk (x i) 64)) m (fun i ↦ cu (int i64 (w i))) k; let c21 : Nat := c3.length; let c17 : Prop := bK (fun i ↦ sA (c1.b i) 64) c1.nb 64; let c16 : Prop := bK (fun i ↦ sA (c1.a i) 64) c1.na 64; let c12 : Int := jm (fun i ↦ cL (bk (x i) 64)) m (fun i ↦ cu (int i64 (w i))) k c2; let c8 : List Nat := dK (fun i ↦ cL (bk (x i) 64)) (fun i ↦ cu (int i64 (w i))) c2 k; let c7 : List Prop := [c10, c22, k < c9, m < c9, c20, nv (fun i ↦ cL (bk (x i) 64)) m, c15]; let c6 : List Prop := [c15, c10, c22, bK (fun i ↦ sA (d.a i) 64) d.na 64, bK (fun i ↦ sA (d.b i) 64) d.nb 64, k < 2 ^ 30, m < c9, c20, d.na + d.nb < 2 ^ 30]; let c4 : Nat := jK (fun i ↦ cL (bk (x i) 64)) m (fun i ↦ cu (int i64 (w i))) k c2; let c18 : Prop := eA (iq (fun i ↦ cu (int i64 (w i))) c8) c4; let c14 : Prop := AY (dP (tT fun i ↦ cL (bk (x i) 64)) m c3) c21; let c11 : Prop := pE (fun i ↦ ov (dP (tT fun i ↦ cL (bk (x i) 64)) m c3 i)) c21; some (ag c7 (ag c7 (ag c6 (ag c6 (ag [c10, m ≤ 12, ∀ (i : Nat), i < m → (x i).na + (x i).nb < 2 ^ 30, c10, m ≤ 12, ∀ (i : Nat), i < m → (x i).na + (x i).nb < 2 ^ 30, c14, c14, c21 < c9, c21 < c9, c11, c11, (wZ c21 (fun i ↦ ov (dP (tT fun i ↦ cL (bk (x i) 64)) m c3 i)) c21 fun i ↦ ov (dP (tT fun i ↦ cL (bk (x i) 64)) m c3 i)) = true, (bif true then c13 == c13 else false) = true, c15, c19, c15, c19, c5, c5, (c1.k != c1.k) = false, c5, c5, (bif false then true else c1.j != c1.j) = false, c5, c5, c16, c16, c1.na < c9, c1.na < c9, (bif false then true else !nH c1.na (fun i ↦ bR (sA (c1.a i) 64)) c1.na fun i ↦ bR (sA (c1.a i) 64)) = false, c5, c5, c17, c17, c1.nb < c9, c1.nb < c9, (bif false then true else !nH c1.nb (fun i ↦ bR (sA (c1.b i) 64)) c1.nb fun i ↦ bR (sA (c1.b i) 64)) = false, (bif true then true else false) = true, (bif true then c12 == c12 else false) = true, c18, c18, c4 < c9, c4 < c9, (bif true then mH c4 (fun i ↦ cu (iq (fun i ↦ cu (int i64 (w i))) c8 i)) c4 fun i ↦ cu (iq (fun i ↦ cu (int i64 (w i))) c8 i) else false) = true] (leaf ret [AV.bool true])))))) := by kernel_rfl
section
variable {P : Program} {c : Ctx} {nt : Nat} {s : aE} {Q : ak → aE → Prop} {T : Types} (hT : dn P T) {Γ : aW} (hΓ : br P Γ) (hm : P.follows .mixedOrders = true)
include hT hΓ hm in
theorem aq.mid {x : Code} (p : List Nat) (hc : chain x p = true) (hd : bE nt x = true) {kp : List Nat} (h0 : Kept kp c) {f1 : List Nat} (n : Nat) (L : List Nat) (nx : Nat) {α : Type} (V : α → List AV) (O : α → aB) (I : α → Prop)
  (hp : ∃ t, aF T Γ f1 n L (before x p) s = some t ∧ t.all fun e v => match e with
   | .normal => ∃ a, I a ∧ cQ kp v (V a) (O a) nx
   | e => ∀ s', aQ L s' = some v → Q e s')
  (hb : ∀ a, I a → aq P c nt (part x p) ⟨az L (V a), O a, nx⟩ (cS (fun s' => aA P c nt (behind x p) s' Q) Q)) : aq P c nt x s Q := by
 obtain ⟨t, h1, h2⟩ := hp
 refine aq.hole p hc (aA.aS hT hΓ hm n L h1 (kD hd) (af.dM ?_ h2))
 rintro e v hv s' hs'
 cases e with
 | normal =>
  obtain ⟨a, hI, hre⟩ := hv
  exact aq.jB (hre.le hs' h0) (hb a hI)
 | ret => exact hv s' hs'
 | exit k => exact hv s' hs'
end
theorem Vf : br P I4 := aJ X0 aY
theorem Al : br P rR := eV (aJ YE (aJ Me (aJ YO (aJ SC (aJ Zz (aJ x3 (aJ Ay (aJ Jg (aJ Fh (aJ Zy (aJ YL (aJ RV (aJ Ev (aJ Kq (aJ VT (aJ IC (aJ (mU hT Vf hm V4 _ _) aY)))))))))))))))))
theorem GW {n : Nat} {f : Nat → Int} : mH n f n f = true := decide_eq_true ⟨rfl, fun _ _ => rfl⟩
theorem Mx {n : Nat} {f : Nat → Nat × (Nat → Int)} : wZ n f n f = true := decide_eq_true ⟨rfl, fun _ _ => GW⟩
theorem Dy {n : Nat} {f : Nat → Sp} : nH n f n f = true := decide_eq_true ⟨rfl, fun _ _ => decide_eq_true ⟨rfl, rfl⟩⟩
theorem Xv {x : Nat → Ce} {n : Nat} {w : Nat → Int} {m : Nat} {d : Ce} : jK x n w m d ≤ m := by
 unfold jK
 split
 ·exact Bv
 ·exact Nat.zero_le _
theorem W2 {x : Nat → Ce} {n : Nat} {w : Nat → Int} {m b : Nat} (h : ∀ i, (x i).na + (x i).nb ≤ b) : (fK x n w m).na + (fK x n w m).nb ≤ b := by
 unfold fK
 split
 ·exact h _
 ·exact Nat.zero_le _
theorem Kw {x : Nat → Ce} {m k : Nat} {w : Nat → Int} {d : Ce} (h1 : m ≤ 8) (h2 : k ≤ 4) (hl : ∀ i, (x i).na + (x i).nb ≤ 5) (hok : nv x m) (hd : d.na + d.nb ≤ 5) (cx : Ctx) : aA P cx kB.ntmps [pe] ⟨az tP (rZ x m w k), nD d, 1⟩ (Fin T kB (.bool true)) := by
 refine aA.fin hT Al hm 60 S5 (by kernel_rfl) ?_
 have hfew : ek x m := fun i _ => by have := hl i; omega
 have hR := B0 (T := tT x) (n := m) (m := m)
 have hC := fun r => Ef (T := tT x) (n := m) (m := m) (r := r)
 have hE := Xv (x := x) (n := m) (w := w) (m := k) (d := d)
 have hH := W2 (n := m) (w := w) (m := k) hl
 have hc : fZ (fun i => bk (x i) 64) m 64 := jc (Nat.le_refl _)
 have hi : eA (fun i => AV.int i64 (w i)) k := fun _ _ => rfl
 have hil : AY (dP (tT x) m (roots (tT x) m m)) (roots (tT x) m m).length := fun _ _ => .refl _
 have hfl : pE (fun i => ov (dP (tT x) m (roots (tT x) m m) i)) (roots (tT x) m m).length := fun i _ => by
  have := hC ((roots (tT x) m m).getD i 0)
  show (dH (tT x) m m ((roots (tT x) m m).getD i 0)).length < 2 ^ 40
  omega
 have hda := bD (f := d.a) (n := d.na) (Nat.le_refl 64)
 have hdb := bD (f := d.b) (n := d.nb) (Nat.le_refl 64)
 have c7 : ay [fZ (fun i => bk (x i) 64) m 64, eA (fun i => AV.int i64 (w i)) k, k < 2 ^ 40, m < 2 ^ 40, ek x m, nv x m, 0 < 1] := ⟨hc, hi, by omega, by omega, hfew, hok, Nat.zero_lt_one⟩
 have c6 : ay [0 < 1, fZ (fun i => bk (x i) 64) m 64, eA (fun i => AV.int i64 (w i)) k, bK (fun i => sA (d.a i) 64) d.na 64, bK (fun i => sA (d.b i) 64) d.nb 64, k < 2 ^ 30, m < 2 ^ 40, ek x m, d.na + d.nb < 2 ^ 30] := ⟨Nat.zero_lt_one, hc, hi, hda, hdb, by omega, by omega, hfew, (show d.na + d.nb < 2 ^ 30 by omega)⟩
 refine ⟨c7, c7, c6, c6, ⟨hc, by omega, fun i _ => hfew i ‹_›, hc, by omega, fun i _ => hfew i ‹_›, hil, hil, (show (roots (tT x) m m).length < 2 ^ 40 by omega), (show (roots (tT x) m m).length < 2 ^ 40 by omega), hfl, hfl, Mx, beq_self_eq_true _, Nat.zero_lt_one, by omega, Nat.zero_lt_one, by omega, ⟨by decide, by decide⟩, ⟨by decide, by decide⟩, bne_self_eq_false _, ⟨by decide, by decide⟩, ⟨by decide, by decide⟩, bne_self_eq_false _, ⟨by decide, by decide⟩, ⟨by decide, by decide⟩, bD (Nat.le_refl _), bD (Nat.le_refl _), ?_, ?_, ?_, ⟨by decide, by decide⟩, ⟨by decide, by decide⟩, bD (Nat.le_refl _), bD (Nat.le_refl _), ?_, ?_, ?_, rfl, beq_self_eq_true _, fun _ _ => rfl, fun _ _ => rfl, ?_, ?_, ?_⟩, .refl _⟩
 ·show (fK x m w k).na < 2 ^ 40
  omega
 ·show (fK x m w k).na < 2 ^ 40
  omega
 ·show (!nH _ _ _ _) = false
  rw [Dy]; rfl
 ·show (fK x m w k).nb < 2 ^ 40
  omega
 ·show (fK x m w k).nb < 2 ^ 40
  omega
 ·show (!nH _ _ _ _) = false
  rw [Dy]; rfl
 ·show jK x m w k d < 2 ^ 40
  omega
 ·show jK x m w k d < 2 ^ 40
  omega
 ·exact GW
theorem Y0 {n : Nat} {z : Nat → Int} (K : Nat) : aC P zO K [.ah 1 n (fun i => .int .i64 (z i))] [] (aK (.bool true) []) := by
 refine eW (r := aK (.bool true) []) hT EY rfl (of_decide_eq_true (by kernel_rfl)) rfl (fun _ cx h0 => ?_) K []
 have hk := kF h0
 obtain ⟨x, hx⟩ : ∃ x, x = lO n (bN z) 0 := ⟨_, rfl⟩
 obtain ⟨m, hm2⟩ : ∃ m, m = jQ n (bN z) 0 := ⟨_, rfl⟩
 obtain ⟨a, ha⟩ : ∃ a, a = pL n (bN z) 0 := ⟨_, rfl⟩
 have hm8 : m ≤ 8 := by rw [hm2]; exact OR
 have hlen : ∀ i, (x i).na + (x i).nb ≤ 5 := fun i => by rw [hx]; exact Xn
 have hokx : ∀ i, (x i).ok := fun i => by rw [hx]; exact Vr
 have hok' : nv x m := fun i _ j _ => by
  unfold Ce.sp
  split
  ·exact (hokx i).1 _
  ·exact (hokx i).2 _
 obtain ⟨w, hw⟩ : ∃ w, w = gN (rB n (bN z) (aZ n a) m) m (iO n (bN z) a).1 := ⟨_, rfl⟩
 obtain ⟨k, hk2⟩ : ∃ k, k = jf n (bN z) a := ⟨_, rfl⟩
 obtain ⟨p, hp⟩ : ∃ p, p = (iO n (bN z) a).2 := ⟨_, rfl⟩
 have hk4 : k ≤ 4 := by rw [hk2]; exact QX
 have hfew : ∀ i, (x i).na + (x i).nb < 2 ^ 30 := fun i => by have := hlen i; omega
 obtain ⟨z0, hz0⟩ : ∃ z0 : Ce, z0 = ⟨0, fun _ => ⟨0, 0⟩, 0, fun _ => ⟨0, 0⟩, 0, 0⟩ := ⟨_, rfl⟩
 refine aq.mid hT Al hm [1,1,1,1,1,1,0,1] (by kernel_rfl) EY.dst hk (f1 := [18]) 60 x4 2 (fun _ : Unit => DL x m w k (decide ((m : Int) > 0))) (fun _ => EJ n z p z0) (fun _ => bG n (bN z) p) ⟨_, Uv, ?_⟩ (fun _ hdp => ?_)
 ·simp only [af.all, ay]
  refine ⟨fun h s' hs' => je.fin (L := x4) (res := .bool true) ⟨[.bool true], by kernel_rfl, bq.refl _⟩ hs', fun h => ?_⟩
  have hn : n ≤ 500 := by simp only [Bool.not_eq_false', decide_eq_true_eq] at h; omega
  have hd : bG n (bN z) 0 := ⟨fun i => rfl, by omega, by omega, by omega⟩
  have hda : bG n (bN z) a := by rw [ha]; exact hd.cells
  refine ⟨hd, ⟨by rw [← ha]; exact hda, by omega, by rw [← hm2]; omega⟩, by omega, (), by rw [hp]; exact hda.iO, [(1, 20480), (0, 65536)], rfl, ?_, rfl, cr rfl rfl (aM rfl ?_) (cr rfl rfl (.inr ⟨rfl, ?_⟩) trivial)⟩
  ·rw [hx, hm2, hw, hk2, ha, hm2]; rfl
  ·rw [hp, ha]
  ·rw [hz0]; exact eI ⟨fS (by omega), fS (by omega), .refl _, .refl _, trivial⟩
 ·rw [show behind uY [1,1,1,1,1,1,0,1] = [pe] from by kernel_rfl, show part uY [1,1,1,1,1,1,0,1] = .cond (.tmp 31) rN .skip from by kernel_rfl]
  have fin : ∀ {d : Ce} {s' : aE}, d.na + d.nb ≤ 5 → (∃ ρ, Le cx ρ s' ⟨az tP (rZ x m w k), nD d, 1⟩) → aA P cx kB.ntmps [pe] s' (dy cx (Fin T kB (.bool true))) := fun hd hle =>
   aA.weak rfl hle ((Kw hm8 hk4 hlen hok' hd cx).mono fun _ _ h => .inl h)
  refine aq.cond (t := decide ((m : Int) > 0)) rfl (fun ht => ?_) (fun hf => aq.skip ?_)
  ·have hmp : 0 < m := by have := of_decide_eq_true ht; omega
   rw [ht]
   have e1 := kM (n := n) (f := bN z) (a := p) (m := (m : Int)) (by omega)
   have e2 := ij (n := n) (f := bN z) (a := p) (m := (m : Int)) (by omega)
   refine aq.uP hT Al hm (x := rN) [1,1] (i := 0) (y := part rN [1,1,0,0]) (by kernel_rfl) (by kernel_rfl) (by kernel_rfl) hk (f1 := []) (f2 := [42, 200065]) 60 yU 1 (fun i : Nat => IG x m w k i) (fun _ => nD (x (bC n (bN z) p m).toNat)) (fun i => 1 ≤ i ∧ i ≤ m) (fun i => i = m) (fun i => m - i) (fun _ => False) ⟨_, Uy, ?_⟩ (fun i ⟨i1, i2⟩ => ⟨_, NW, ?_⟩) (fun i s' hi hle => ?_) (fun _ _ h => h.elim)
   ·simp only [af.all, ay]
    exact ⟨⟨hdp, by omega, by omega, ⟨e1, by show (bC n (bN z) p m).toNat < m; omega⟩, by omega⟩, 1, ⟨Nat.le_refl _, hmp⟩, [(0, 0)], rfl, rfl, rfl, cr rfl rfl (aM rfl rfl) trivial⟩
   ·simp only [af.all, ay, decide_eq_true_eq, decide_eq_false_iff_not, Int.toNat_natCast]
    have sp : ∀ {f : Nat → Sp} {n : Nat}, bK (fun i => sA (f i) 64) n 64 := bD (Nat.le_refl _)
    exact ⟨fun h => ⟨⟨by omega, ⟨by omega, by omega⟩, ⟨by omega, by omega⟩, sp, sp, sp, sp, hfew _, hfew _, by omega, ⟨by omega, by omega⟩, ⟨by omega, by omega⟩, sp, sp, sp, sp, hfew _, hfew _⟩, bne_self_eq_false _, by omega, i + 1, ⟨by omega, by omega⟩, by dsimp only; omega, [(0, 0)], rfl, rfl, rfl, cr rfl rfl (aM rfl rfl) trivial⟩, fun h => ⟨rfl, i, by omega, [(0, 0)], rfl, rfl, rfl, cr rfl rfl (aM rfl rfl) trivial⟩⟩
   ·show aA P cx _ [pe] s' _
    refine aA.weak rfl hle (fin (hlen _) (cQ.le (ls := tP) (v := (rZ x m w k, nD (x (bC n (bN z) p m).toNat))) ⟨[(0, 0)], rfl, rfl, rfl, cr rfl rfl (aM rfl rfl) trivial⟩ rfl hk))
  ·rw [hf]
   show aA P cx _ [pe] _ _
   exact fin (d := z0) (by rw [hz0]; exact Nat.zero_le _) (cQ.le (ls := tP) (v := (rZ x m w k, nD z0)) ⟨[(0, 0)], rfl, rfl, rfl, cr rfl rfl (aM rfl rfl) trivial⟩ rfl hk)
end Go.Am.B
