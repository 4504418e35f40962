/- Plain laws of knots: multiplicities, different knots, which lists are valid. -/
import Derived.Test.YtppeigelbecpbaaGreatC4
set_option linter.unusedVariables false
namespace Go.Am.B
def de (k:Nat→Rat) (t:Rat):Nat→Nat
 |0=>0
 |i+1=>de k t i+if k i=t then 1 else 0
def fe (k:Nat→Rat) (i:Nat):Prop:=i=0∨k i≠k (i-1)
instance {k:Nat→Rat} {i:Nat}:Decidable (fe k i):=inferInstanceAs (Decidable (i=0∨k i≠k (i-1)))
def bB (k:Nat→Rat):Nat→Nat
 |0=>0
 |i+1=>bB k i+if fe k i then 1 else 0
def cL (k:Nat→Rat):Nat→Nat→Rat
 |0=>fun _=>0
 |i+1=>if fe k i then ov (cL k i) (bB k i) (k i)else cL k i
theorem Dd {k:Nat→Rat} {t:Rat}:∀{n:Nat},de k t n≤n
 |0=>Nat.le_refl _
 |n+1=>by
  have:=Dd (k:=k) (t:=t) (n:=n)
  unfold de;split<;>omega
theorem ny {k:Nat→Rat}:∀{n:Nat},bB k n≤n
 |0=>Nat.le_refl _
 |n+1=>by
  have:=ny (k:=k) (n:=n)
  unfold bB;split<;>omega
theorem zP {k:Nat→Rat}:∀{n j:Nat},j<bB k n→∃i,i<n∧cL k n j=k i
 |0,j,h=>by simp[bB]at h
 |n+1,j,h=>by
  rw[cL]
  rw[bB]at h
  by_cases hn:fe k n
  ·rw[if_pos hn]at h ⊢
   by_cases he:j=bB k n
   ·subst he;exact⟨n,by omega,uV⟩
   ·obtain⟨i,h1,h2⟩:=zP (k:=k) (n:=n) (j:=j) (by omega)
    exact⟨i,by omega,by rw[jI he];exact h2⟩
  ·rw[if_neg hn]at h ⊢
   obtain⟨i,h1,h2⟩:=zP (k:=k) (n:=n) (j:=j) (by omega)
   exact⟨i,by omega,h2⟩
def nc (n:Nat) (k:Nat→Rat):Prop:=∀i,i+1<n→k i≤k (i+1)
def iD (n:Nat) (k:Nat→Rat) (p:Nat) (t:Rat):Prop:=((t=k 0∨t=k (n-1))∧de k t n≠p+1)∨(¬(t=k 0∨t=k (n-1))∧p<de k t n)
instance {n:Nat} {k:Nat→Rat} {p:Nat} {t:Rat}:Decidable (iD n k p t):=inferInstanceAs (Decidable (((t=k 0∨t=k (n-1))∧de k t n≠p+1)∨(¬(t=k 0∨t=k (n-1))∧p<de k t n)))
def nO (n:Nat) (k:Nat→Rat) (p:Nat):Prop:=nc n k∧k 0≠k (n-1)∧∀j,j<bB k n→¬iD n k p (cL k n j)
open Classical in
noncomputable def fc (n:Nat) (k:Nat→Rat) (p:Int):Int:=
 if p<1∨6<p then 1 else if(n:Int)<2*p+2 then 5 else if 40<(n:Int)-p-1 then 2 else if nO n k p.toNat then 0 else 5
theorem Ib {k:Nat→Rat} {t:Rat} {a b:Nat} (hab:a≤b):∀{n:Nat},(∀i,i<n→k i=t→a≤i∧i<b)→de k t n≤min n b-min n a
 |0,_=>by simp[de]
 |n+1,h=>by
  have ih:=Ib (k:=k) (t:=t) hab (n:=n) fun i hi=>h i (by omega)
  rw[de]
  split
  ·rename_i e
   have:=h n (by omega) e
   omega
  ·omega
theorem zf {k:Nat→Rat} {t:Rat} {a b:Nat} (hab:a≤b):∀{n:Nat},(∀i,i<n→(k i=t↔a≤i∧i<b))→de k t n=min n b-min n a
 |0,_=>by simp[de]
 |n+1,h=>by
  have ih:=zf (k:=k) (t:=t) hab (n:=n) fun i hi=>h i (by omega)
  rw[de]
  have:=h n (by omega)
  split
  ·rename_i e
   have:=this.1 e
   omega
  ·rename_i e
   have:¬(a≤n∧n<b):=fun h=>e (this.2 h)
   omega
theorem least {q:Nat→Prop} [DecidablePred q]:∀{n:Nat},q n→∃a,a≤n∧q a∧∀i,i<a→¬q i
 |0,h=>⟨0,Nat.le_refl _,h,fun i hi=>by omega⟩
 |n+1,h=>by
  by_cases h2:∃i,i<n+1∧q i
  ·obtain⟨i,hi,hq⟩:=h2
   obtain⟨a,h3,h4,h5⟩:=least_lt hi hq
   exact⟨a,by omega,h4,h5⟩
  ·exact⟨n+1,Nat.le_refl _,h,fun i hi hq=>h2 ⟨i,hi,hq⟩⟩
where
 least_lt {q:Nat→Prop} [DecidablePred q]:∀{n i:Nat},i<n→q i→∃a,a<n∧q a∧∀i,i<a→¬q i
 |0,i,h,_=>by omega
 |n+1,i,h,hq=>by
  by_cases h2:∃j,j<n∧q j
  ·obtain⟨j,hj,hq⟩:=h2
   obtain⟨a,h3,h4,h5⟩:=least_lt hj hq
   exact⟨a,by omega,h4,h5⟩
  ·have:i=n:=by
    by_cases e:i=n
    ·exact e
    ·exact absurd ⟨i,by omega,hq⟩ h2
   subst this
   exact⟨i,h,hq,fun j hj hq=>h2 ⟨j,hj,hq⟩⟩
theorem Kn.nO {n p:Nat} {k:Nat→Rat} (h:Kn n p k):nO n k p:=by
 have hp:=h.p1
 have hl:=h.len
 have hw:k p<k (p+1):=by
  have:=h.mult 1 (by omega) (by omega)
  rw[h.first 1 (by omega),show 1+p=p+1 by omega]at this
  rw[h.first p (by omega)];exact this
 have hw2:k (n-p-2)<k (n-p-1):=by
  by_cases he:n=2*p+2
  ·have e1:n-p-2=p:=by omega
   have e2:n-p-1=p+1:=by omega
   rw[e1,e2];exact hw
  ·have:=h.mult (n-p-2) (by omega) (by omega)
   rw[h.last (n-p-2+p) (by omega) (by omega),←h.last (n-p-1) (by omega) (by omega)]at this
   exact this
 have m:∀{i j},i≤j→j<n→k i≤k j:=fun hi hj=>mF h.sorted hi hj
 have h0l:k 0<k (n-1):=by
  have a:=m (i:=p+1) (j:=n-1) (by omega) (by omega)
  have b:=h.first p (Nat.le_refl _)
  grind
 refine⟨h.sorted,by grind,fun j hj=>?_⟩
 obtain⟨i,hi,e⟩:=zP hj
 rw[e]
 unfold iD
 by_cases h0:k i=k 0
 ·have:de k (k i) n=p+1:=by
   rw[zf (a:=0) (b:=p+1) (by omega) (n:=n) fun x hx=>?_]
   ·omega
   ·rw[h0]
    constructor
    ·intro ex
     refine⟨by omega,?_⟩
     by_cases hx2:x<p+1
     ·exact hx2
     ·have:=m (i:=p+1) (j:=x) (by omega) hx
      have b:=h.first p (Nat.le_refl _)
      grind
    ·intro hx2;exact h.first x (by omega)
  rw[this]
  simp[h0]
 ·by_cases h1:k i=k (n-1)
  ·have:de k (k i) n=p+1:=by
    rw[zf (a:=n-p-1) (b:=n) (by omega) (n:=n) fun x hx=>?_]
    ·omega
    ·rw[h1]
     constructor
     ·intro ex
      refine⟨?_,hx⟩
      by_cases hx2:n-p-1≤x
      ·exact hx2
      ·have:=m (i:=x) (j:=n-p-2) (by omega) (by omega)
       have b:=h.last (n-p-1) (by omega) (by omega)
       grind
     ·intro hx2;exact h.last x (by omega) hx
   rw[this]
   simp[h1]
  ·obtain⟨a,ha,e,hlt⟩:=least (q:=fun x=>k x=k i) (n:=i) rfl
   have ha0:p<a:=by
    by_cases hx:p<a
    ·exact hx
    ·have:=h.first a (by omega)
     rw[this]at e;exact absurd e.symm h0
   have hal:a+p+1<n:=by
    by_cases hx:a+p+1<n
    ·exact hx
    ·have:=h.last a (by omega) (by omega)
     rw[this]at e;exact absurd e.symm h1
   have hm:=h.mult a (by omega) hal
   have:de k (k i) n≤min n (a+p)-min n a:=by
    refine Ib (by omega) fun x hx ex=>⟨?_,?_⟩
    ·by_cases hx2:a≤x
     ·exact hx2
     ·exact absurd ex (hlt x (by omega))
    ·by_cases hx2:x<a+p
     ·exact hx2
     ·have:=m (i:=a+p) (j:=x) (by omega) hx
      grind
   intro hb
   rcases hb with⟨h2,_⟩|⟨_,h2⟩
   ·exact h2.elim h0 h1
   ·omega
theorem Kn.ET {n p:Nat} {k:Nat→Rat} (h:Kn n p k) (hp6:p≤6) (hn:n≤p+41):fc n k p=0:=by
 have hp:=h.p1
 have hl:=h.len
 unfold fc
 rw[if_neg (by omega),if_neg (by omega),if_neg (by omega),if_pos (by rw[Int.toNat_natCast];exact h.nO)]
end Go.Am.B
