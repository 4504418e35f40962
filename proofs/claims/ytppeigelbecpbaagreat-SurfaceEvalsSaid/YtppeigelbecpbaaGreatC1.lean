/- Plain laws of fG and B-spline functions: no program in sight. -/
import Init
set_option linter.unusedVariables false
namespace Go.Am.B
def bU (n:Nat) (f:Nat→Rat):Rat:=match n with
 |0=>0
 |n+1=>bU n f+f n
theorem rW {f g:Nat→Rat}:∀{n:Nat},(∀i,i<n→f i=g i)→bU n f=bU n g
 |0,_=>rfl
 |n+1,h=>by rw[bU,bU,rW fun i hi=>h i (by omega),h n (by omega)]
theorem EZ {f g:Nat→Rat}:∀{n:Nat},bU n (fun i=>f i+g i)=bU n f+bU n g
 |0=>by simp only[bU];grind
 |n+1=>by rw[bU,bU,bU,EZ];grind
theorem Cw {f:Nat→Rat}:∀{n:Nat},bU (n+1) f=f 0+bU n fun i=>f (i+1)
 |0=>by simp only[bU];grind
 |n+1=>by rw[bU,Cw,bU];grind
structure Kn (n p:Nat) (k:Nat→Rat):Prop where
 p1:1≤p
 len:2*p+2≤n
 sorted:∀i,i+1<n→k i≤k (i+1)
 first:∀i,i≤p→k i=k 0
 last:∀i,n≤i+p+1→i<n→k i=k (n-1)
 mult:∀i,1≤i→i+p+1<n→k i<k (i+p)
theorem j6 {n:Nat} {k:Nat→Rat} (h:∀i,i+1<n→k i≤k (i+1)) {i:Nat}:∀{j:Nat},i≤j→j<n→k i≤k j
 |0,hij,_=>by
    have:i=0:=by omega
    subst this;exact Rat.le_refl
 |j+1,hij,hj=>by
  by_cases he:i=j+1
  ·subst he;exact Rat.le_refl
  ·exact Rat.le_trans (j6 h (j:=j) (by omega) (by omega)) (h j hj)
theorem Kn.mono {n p:Nat} {k:Nat→Rat} (h:Kn n p k) {i j:Nat} (hij:i≤j) (hj:j<n):k i≤k j:=j6 h.sorted hij hj
def fr (a b t:Rat):Rat:=(t-a)/(b-a)
theorem Fp {a b t:Rat} (h:a<b):fr a b t*(b-a)=t-a:=by
 unfold fr;rw[Rat.div_mul_cancel];intro e;grind
theorem PU {a b t:Rat} (h:a<b) (h0:a≤t):0≤fr a b t:=by
 have e:=Fp (t:=t) h
 rcases Rat.le_total (a:=0) (b:=fr a b t)with h1|h1
 ·exact h1
 ·by_cases h2:fr a b t=0
  ·rw[h2];exact Rat.le_refl
  ·have:=Rat.mul_pos (a:=-fr a b t) (b:=b-a) (by grind) (by grind)
   grind
theorem aaK {a b t:Rat} (h:a<b) (h0:t≤b):fr a b t≤1:=by
 have e:=Fp (t:=t) h
 rcases Rat.le_total (a:=fr a b t) (b:=1)with h1|h1
 ·exact h1
 ·by_cases h2:fr a b t=1
  ·rw[h2];exact Rat.le_refl
  ·have:=Rat.mul_pos (a:=fr a b t-1) (b:=b-a) (by grind) (by grind)
   grind
theorem Hu {a b t:Rat} (h:a<b):1-fr a b t=(b-t)/(b-a):=by
 have hne:b-a≠0:=by intro e;grind
 have e:=Fp (t:=t) h
 have e2:(b-t)/(b-a)*(b-a)=b-t:=Rat.div_mul_cancel hne
 generalize (b-t)/(b-a)=q at*
 generalize fr a b t=f at*
 have:(1-f-q)*(b-a)=0:=by grind
 rcases Rat.mul_eq_zero.1 this with h1|h1
 ·grind
 ·exact absurd h1 hne
def vB (k:Nat→Rat) (i:Nat) (t:Rat):Nat→Nat→Rat
 |0,j=>if j=0 then 1 else 0
 |d+1,j=>(if j=0 then 0 else fr (k (i-d+(j-1))) (k (i-d+(j-1)+(d+1))) t*vB k i t d (j-1))+
   (if j≤d then(1-fr (k (i-d+j)) (k (i-d+j+(d+1))) t)*vB k i t d j else 0)
theorem qD {k:Nat→Rat} {i:Nat} {t:Rat}:∀{d j:Nat},d<j→vB k i t d j=0
 |0,j,h=>by unfold vB;rw[if_neg (by omega)]
 |d+1,j,h=>by
  unfold vB
  rw[if_neg (by omega),if_neg (by omega),qD (d:=d) (j:=j-1) (by omega)];grind
theorem D0 {k:Nat→Rat} {i:Nat} {t:Rat} {d j:Nat}:vB k i t (d+1) (j+1)=fr (k (i-d+j)) (k (i-d+j+(d+1))) t*vB k i t d j+(1-fr (k (i-d+(j+1))) (k (i-d+(j+1)+(d+1))) t)*vB k i t d (j+1):=by
 rw[vB,if_neg (by omega),Nat.add_sub_cancel]
 by_cases h:j+1≤d
 ·rw[if_pos h]
 ·rw[if_neg h,qD (d:=d) (j:=j+1) (by omega)];grind
theorem Dx {k:Nat→Rat} {i:Nat} {t:Rat} {d:Nat}:vB k i t (d+1) 0=(1-fr (k (i-d)) (k (i-d+(d+1))) t)*vB k i t d 0:=by
 rw[vB,if_pos rfl,if_pos (by omega)];simp only[Nat.add_zero];grind
theorem SS {k:Nat→Rat} {i:Nat} {t:Rat} {d:Nat} {c:Nat→Rat}:
  bU (d+2) (fun j=>c j*vB k i t (d+1) j)=
   bU (d+1) fun j=>(c (j+1)*fr (k (i-d+j)) (k (i-d+j+(d+1))) t+c j*(1-fr (k (i-d+j)) (k (i-d+j+(d+1))) t))*vB k i t d j:=by
 rw[Cw,Dx]
 have h1:bU (d+1) (fun j=>c (j+1)*vB k i t (d+1) (j+1))=
   bU (d+1) (fun j=>c (j+1)*(fr (k (i-d+j)) (k (i-d+j+(d+1))) t*vB k i t d j))+bU (d+1) (fun j=>c (j+1)*((1-fr (k (i-d+(j+1))) (k (i-d+(j+1)+(d+1))) t)*vB k i t d (j+1))):=by
  rw[←EZ]
  refine rW fun j _=>?_
  rw[D0];grind
 have h2:bU (d+2) (fun j=>c j*((1-fr (k (i-d+j)) (k (i-d+j+(d+1))) t)*vB k i t d j))=
   c 0*((1-fr (k (i-d)) (k (i-d+(d+1))) t)*vB k i t d 0)+bU (d+1) (fun j=>c (j+1)*((1-fr (k (i-d+(j+1))) (k (i-d+(j+1)+(d+1))) t)*vB k i t d (j+1))):=by
  rw[Cw];rfl
 have h3:bU (d+2) (fun j=>c j*((1-fr (k (i-d+j)) (k (i-d+j+(d+1))) t)*vB k i t d j))=
   bU (d+1) (fun j=>c j*((1-fr (k (i-d+j)) (k (i-d+j+(d+1))) t)*vB k i t d j)):=by
  rw[bU,qD (d:=d) (j:=d+1) (by omega)];grind
 have h4:bU (d+1) (fun j=>(c (j+1)*fr (k (i-d+j)) (k (i-d+j+(d+1))) t+c j*(1-fr (k (i-d+j)) (k (i-d+j+(d+1))) t))*vB k i t d j)=
   bU (d+1) (fun j=>c (j+1)*(fr (k (i-d+j)) (k (i-d+j+(d+1))) t*vB k i t d j))+bU (d+1) (fun j=>c j*((1-fr (k (i-d+j)) (k (i-d+j+(d+1))) t)*vB k i t d j)):=by
  rw[←EZ]
  exact rW fun j _=>by grind
 rw[h1,h4,←h3,h2];grind
theorem FR {k:Nat→Rat} {i:Nat} {t:Rat}:∀{d:Nat},bU (d+1) (vB k i t d)=1
 |0=>by simp only[bU,vB,if_true];grind
 |d+1=>by
  have h:=SS (k:=k) (i:=i) (t:=t) (d:=d) (c:=fun _=>1)
  have h1:bU (d+2) (vB k i t (d+1))=bU (d+2) (fun j=>1*vB k i t (d+1) j):=rW fun j _=>by grind
  have e:∀f x:Rat,(1*f+1*(1-f))*x=x:=fun f x=>by grind
  rw[h1,h]
  exact(rW fun j _=>e _ _).trans (FR (k:=k) (i:=i) (t:=t) (d:=d))
structure At (n:Nat) (k:Nat→Rat) (i:Nat):Prop where
 lt:i+1<n
 sorted:∀i,i+1<n→k i≤k (i+1)
 wide:k i<k (i+1)
theorem At.around {n:Nat} {k:Nat→Rat} {i:Nat} (h:At n k i) {a b:Nat} (ha:a≤i) (hb:i<b) (hn:b<n):k a<k b:=by
 have h1:=j6 h.sorted ha (show i<n by have:=h.lt;omega)
 have h2:=j6 h.sorted (show i+1≤b by omega) hn
 have h3:=h.wide
 grind
theorem IB {n:Nat} {k:Nat→Rat} {i:Nat} (h:At n k i) {t:Rat} (h0:k i≤t) (h1:t≤k (i+1)):∀{d:Nat},d≤i→i+d<n→∀j,0≤vB k i t d j
 |0,_,_,j=>by unfold vB;split<;>decide
 |d+1,hd,hn,j=>by
  have ih:=IB h h0 h1 (d:=d) (by omega) (by omega)
  have key:∀j,j≤d→0≤fr (k (i-d+j)) (k (i-d+j+(d+1))) t∧fr (k (i-d+j)) (k (i-d+j+(d+1))) t≤1:=fun j hj=>by
   have hlt:=h.around (a:=i-d+j) (b:=i-d+j+(d+1)) (by omega) (by omega) (by omega)
   have g1:=j6 h.sorted (show i-d+j≤i by omega) (show i<n by omega)
   have g2:=j6 h.sorted (show i+1≤i-d+j+(d+1) by omega) (by omega)
   exact⟨PU hlt (Rat.le_trans g1 h0),aaK hlt (Rat.le_trans h1 g2)⟩
  cases j with
  |zero=>
   rw[Dx]
   have:=key 0 (by omega)
   simp only[Nat.add_zero]at this
   exact Rat.mul_nonneg (by grind) (ih 0)
  |succ j=>
   rw[D0]
   have a1:0≤fr (k (i-d+j)) (k (i-d+j+(d+1))) t*vB k i t d j:=by
    by_cases hj:j≤d
    ·exact Rat.mul_nonneg (key j hj).1 (ih j)
    ·rw[qD (d:=d) (j:=j) (by omega),Rat.mul_zero];exact Rat.le_refl
   have a2:0≤(1-fr (k (i-d+(j+1))) (k (i-d+(j+1)+(d+1))) t)*vB k i t d (j+1):=by
    by_cases hj:j+1≤d
    ·have:=(key (j+1) hj).2
     exact Rat.mul_nonneg (by grind) (ih (j+1))
    ·rw[qD (d:=d) (j:=j+1) (by omega),Rat.mul_zero];exact Rat.le_refl
   grind
def nC (k:Nat→Rat) (at_:Nat) (t:Rat):Nat→Nat→Rat
 |0,i=>if i=at_ then 1 else 0
 |d+1,i=>if at_<i∨i+(d+1)<at_ then 0 else
   (t-k i)/(k (i+(d+1))-k i)*nC k at_ t d i+(k (i+(d+2))-t)/(k (i+(d+2))-k (i+1))*nC k at_ t d (i+1)
theorem LH {k:Nat→Rat} {a:Nat} {t:Rat} {d i:Nat} (h:a<i∨i+d<a):nC k a t d i=0:=by
 cases d with
 |zero=>unfold nC;rw[if_neg (by omega)]
 |succ d=>unfold nC;rw[if_pos h]
theorem MY {n:Nat} {k:Nat→Rat} {i:Nat} (h:At n k i) {t:Rat}:∀{d:Nat},d≤i→i+d<n→∀j,j≤d→vB k i t d j=nC k i t d (i-d+j)
 |0,_,_,j,hj=>by
  have:j=0:=by omega
  subst this;simp[vB,nC]
 |d+1,hd,hn,j,hj=>by
  have ih:=MY h (t:=t) (d:=d) (by omega) (by omega)
  rw[nC,if_neg (by omega)]
  cases j with
  |zero=>
   rw[Dx,LH (d:=d) (i:=i-(d+1)+0) (by omega)]
   have hlt:=h.around (a:=i-d) (b:=i-d+(d+1)) (by omega) (by omega) (by omega)
   have e0:=ih 0 (by omega)
   simp only[Nat.add_zero]at e0
   rw[Hu hlt,e0]
   have e1:i-(d+1)+0+1=i-d:=by omega
   have e2:i-(d+1)+0+(d+2)=i-d+(d+1):=by omega
   rw[e1,e2];grind
  |succ j=>
   rw[D0]
   have e1:i-(d+1)+(j+1)=i-d+j:=by omega
   have e2:i-d+j+1=i-d+(j+1):=by omega
   have e3:i-d+j+(d+2)=i-d+(j+1)+(d+1):=by omega
   rw[e1,e2,e3,ih j (by omega)]
   by_cases hj1:j+1≤d
   ·have hlt:=h.around (a:=i-d+(j+1)) (b:=i-d+(j+1)+(d+1)) (by omega) (by omega) (by omega)
    rw[Hu hlt,ih (j+1) hj1];rfl
   ·rw[qD (d:=d) (j:=j+1) (by omega),LH (d:=d) (i:=i-d+(j+1)) (by omega)]
    unfold fr;grind
end Go.Am.B
