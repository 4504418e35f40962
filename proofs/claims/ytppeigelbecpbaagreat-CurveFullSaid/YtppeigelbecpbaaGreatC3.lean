/- Plain laws of knots: the interval of a parameter; what a list of knots is made of. -/
import Derived.Test.YtppeigelbecpbaaGreatC2
set_option linter.unusedVariables false
namespace Go.Am.B
def iW (g:Nat→Bool):Nat→Nat
 |0=>0
 |m+1=>if g m then m else iW g m
theorem F1 {g:Nat→Bool} {i:Nat} (hi:g i=true):∀{m:Nat},i<m→(∀j,i<j→j<m→g j=false)→iW g m=i
 |0,h,_=>by omega
 |m+1,h,hn=>by
  unfold iW
  by_cases he:i=m
  ·subst he;rw[if_pos hi]
  ·rw[if_neg (by rw[hn m (by omega) (by omega)];decide),F1 hi (m:=m) (by omega) fun j h1 h2=>hn j h1 (by omega)]
def cy (n:Nat) (k:Nat→Rat) (t:Rat):Nat:=iW (fun i=>decide (k i<k (i+1))&&decide (k i≤t)) (n-1)
structure ER (n:Nat) (k:Nat→Rat) (t:Rat) (i:Nat):Prop where
 at_:At n k i
 lo:k i≤t
 hi:t≤k (i+1)
 Jc:t<k (i+1)∨k (i+1)=k (n-1)
theorem KE {n:Nat} {k:Nat→Rat} {t:Rat} {i:Nat} (h:ER n k t i):cy n k t=i:=by
 have hw:=h.at_.wide
 have hlo:=h.lo
 refine F1 (by simp[hw,hlo]) (by have:=h.at_.lt;omega) fun j h1 h2=>?_
 rcases h.Jc with h3|h3
 ·have:=mF h.at_.sorted (show i+1≤j by omega) (show j<n by omega)
  have:¬k j≤t:=by grind
  simp[this]
 ·have a1:=mF h.at_.sorted (show i+1≤j by omega) (show j<n by omega)
  have a2:=mF h.at_.sorted (show j+1≤n-1 by omega) (show n-1<n by omega)
  have:¬k j<k (j+1):=by grind
  simp[this]
theorem HW {g:Nat→Bool}:∀{m:Nat},(∃i,i<m∧g i=true)→g (iW g m)=true∧iW g m<m∧∀j,iW g m<j→j<m→g j=false
 |0,⟨i,h,_⟩=>by omega
 |m+1,⟨i,h,hi⟩=>by
  unfold iW
  by_cases hm:g m=true
  ·rw[if_pos hm];exact⟨hm,by omega,fun j h1 h2=>by omega⟩
  ·rw[if_neg hm]
   have hi':i<m:=by
    by_cases he:i=m
    ·subst he;exact absurd hi hm
    ·omega
   obtain⟨a1,a2,a3⟩:=HW (g:=g) (m:=m) ⟨i,hi',hi⟩
   refine⟨a1,by omega,fun j h1 h2=>?_⟩
   by_cases he:j=m
   ·subst he;simpa using hm
   ·exact a3 j h1 (by omega)
theorem Kn.Gj {n p:Nat} {k:Nat→Rat} (h:Kn n p k) {t:Rat} (h0:k 0≤t) (h1:t≤k (n-1)):ER n k t (cy n k t)∧p≤cy n k t∧cy n k t+p+1<n:=by
 have hp:=h.p1
 have hl:=h.len
 have hw:k p<k (p+1):=by
  have:=h.mult 1 (by omega) (by omega)
  rw[h.first 1 (by omega),show 1+p=p+1 by omega]at this
  rw[h.first p (by omega)];exact this
 obtain⟨a1,a2,a3⟩:=HW (g:=fun i=>decide (k i<k (i+1))&&decide (k i≤t)) (m:=n-1) ⟨p,by omega,by rw[h.first p (by omega)]at*;simp[hw,h0]⟩
 have e:cy n k t=iW (fun i=>decide (k i<k (i+1))&&decide (k i≤t)) (n-1):=rfl
 rw[←e]at a1 a2 a3
 generalize cy n k t=i at*
 simp only[Bool.and_eq_true,decide_eq_true_eq]at a1
 have hat:At n k i:=⟨by omega,h.sorted,a1.1⟩
 -- from the next knot on
 have key:t<k (i+1)∨k (i+1)=k (n-1):=by
  by_cases ht:t<k (i+1)
  ·exact .inl ht
  ·refine .inr ?_
   have step:∀j,i+1≤j→j≤n-1→k j=k (i+1):=by
    intro j hj1 hj2
    induction j with
    |zero=>omega
    |succ j ih=>
     by_cases hji:j+1=i+1
     ·rw[hji]
     ·have e1:=ih (by omega) (by omega)
      have:=a3 j (by omega) (by omega)
      have hs:=h.sorted j (by omega)
      by_cases hlt:k j<k (j+1)
      ·simp[hlt]at this
       grind
      ·grind
   exact(step (n-1) (by omega) (by omega)).symm
 have hi2:t≤k (i+1):=by rcases key with h2|h2<;>grind
 refine⟨⟨hat,a1.2,hi2,key⟩,?_,?_⟩
 ·by_cases hge:p≤i
  ·exact hge
  ·exfalso
   have:=h.first i (by omega)
   have:=h.first (i+1) (by omega)
   have:=a1.1
   grind
 ·by_cases hge:i+p+1<n
  ·exact hge
  ·exfalso
   have:=h.last i (by omega) (by omega)
   have:=h.last (i+1) (by omega) (by omega)
   have:=a1.1
   grind
end Go.Am.B
