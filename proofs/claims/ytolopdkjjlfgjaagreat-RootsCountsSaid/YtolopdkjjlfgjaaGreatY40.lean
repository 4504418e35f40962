/- How long the numbers are: polynomials with a common denominator. -/
import Derived.Test.YtolopdkjjlfgjaaGreatY39
import Derived.Test.YtolopdkjjlfgjaaGreatY37
import Derived.Test.YtolopdkjjlfgjaaGreatY38
import Derived.Test.YtolopdkjjlfgjaaGreatZ2
import Derived.Test.YtolopdkjjlfgjaaGreatB33
set_option linter.unusedVariables false
noncomputable section
namespace Go.Am
open Go
def bX (D:Int) (s:Nat) (x:Rat):Prop:=∃z:Int,(z:Rat)=x*(D:Rat)/\z.natAbs<=2^s
theorem ud {D:Int} (h:D≠0):(D:Rat)≠0:=fun h0=>by
 have h0:(D:Rat)=((0:Int):Rat):=h0
 exact h (Rat.intCast_inj.1 h0)
theorem bX.more {D:Int} {s t:Nat} {x:Rat} (h:bX D s x) (ht:s<=t):bX D t x:=h.imp fun z hz=>⟨hz.1,Nat.le_trans hz.2 (Nat.pow_le_pow_right (by decide) ht)⟩
theorem bX.sz {D:Int} {s e:Nat} {x:Rat} (hD:D≠0) (hd:D.natAbs<=2^e) (h:bX D s x):Sz x (s+e+2):=by
 obtain⟨z,hz,b⟩:=h
 have hx:x=(z:Rat)/(D:Rat):=by rw[hz,Rat.div_def,Rat.mul_assoc,Rat.mul_inv_cancel _ (ud hD),Rat.mul_one]
 rw[hx]
 have s1:Sz (z:Rat) (s+1):=B.IG (Nat.lt_of_le_of_lt b (Nat.pow_lt_pow_right (by decide) aa)) aa
 have s2:Sz (D:Rat) (e+1):=B.IG (Nat.lt_of_le_of_lt hd (Nat.pow_lt_pow_right (by decide) aa)) aa
 exact(s1.div s2).more aa
theorem bX.zero {D:Int} {s:Nat}:bX D s 0:=⟨0,by rw[Rat.zero_mul];rfl,Nat.zero_le _⟩
theorem bX.int {z:Int} {s:Nat} (h:z.natAbs<=2^s):bX 1 s (z:Rat):=⟨z,by rw[show((1:Int):Rat)=1 from rfl,Rat.mul_one],h⟩
theorem bX.mul {D E:Int} {s t:Nat} {x y:Rat} (h:bX D s x) (h':bX E t y):bX (D*E) (s+t) (x*y):=by
 obtain⟨z,hz,b⟩:=h
 obtain⟨w,hw,c⟩:=h'
 refine⟨z*w,by rw[Rat.intCast_mul,hz,hw,Rat.intCast_mul];grind,?_⟩
 rw[Int.natAbs_mul,Nat.pow_add];exact Nat.mul_le_mul b c
theorem bX.add {D:Int} {s:Nat} {x y:Rat} (h:bX D s x) (h':bX D s y):bX D (s+1) (x+y):=by
 obtain⟨z,hz,b⟩:=h
 obtain⟨w,hw,c⟩:=h'
 refine⟨z+w,by rw[Rat.intCast_add,hz,hw];grind,?_⟩
 have:=Int.natAbs_add_le z w
 rw[Nat.pow_succ];omega
theorem bX.up {D E:Int} {s e:Nat} {x:Rat} (h:bX D s x) (hE:E.natAbs<=2^e):bX (D*E) (s+e) x:=by
 obtain⟨z,hz,b⟩:=h
 refine⟨z*E,by rw[Rat.intCast_mul,hz,Rat.intCast_mul];grind,?_⟩
 rw[Int.natAbs_mul,Nat.pow_add];exact Nat.mul_le_mul b hE
theorem bX.vh {D:Int} {s e:Nat} {x:Rat} (h:bX D s x) {n:Int} (hn:n.natAbs<=2^e):bX D (e+s) ((n:Rat)*x):=by
 obtain⟨z,hz,b⟩:=h
 refine⟨n*z,by rw[Rat.intCast_mul,hz];grind,?_⟩
 rw[Int.natAbs_mul,Nat.pow_add];exact Nat.mul_le_mul hn b
theorem Ab {w:Int} {t:Nat} (h:w.natAbs<=2^t) (j:Nat):(w^j).natAbs<=2^(j*t):=by
 rw[Int.natAbs_pow,Nat.mul_comm,Nat.pow_mul];exact Nat.pow_le_pow_left h j
theorem kT {v w:Int} {s t:Nat} (h:v.natAbs<=2^s) (h':w.natAbs<=2^t):(v*w).natAbs<=2^(s+t):=by
 rw[Int.natAbs_mul,Nat.pow_add];exact Nat.mul_le_mul h h'
def dh (n:Nat) (k:Nat->Rat) (s:Nat):Prop:=∃D:Int,D≠0/\D.natAbs<=2^s/\∀i,i<n->bX D s (k i)
def Bd (a:PP) (s:Nat):Prop:=dh a.1 a.2 s
theorem dh.sz {n s:Nat} {k:Nat->Rat} (h:dh n k s) {i:Nat} (hi:i<n):Sz (k i) (2*s+2):=by
 obtain⟨D,h1,h2,h3⟩:=h
 exact((h3 i hi).sz h1 h2).more aa
theorem dh.more {n s t:Nat} {k:Nat->Rat} (h:dh n k s) (ht:s<=t):dh n k t:=by
 obtain⟨D,h1,h2,h3⟩:=h
 exact⟨D,h1,Nat.le_trans h2 (Nat.pow_le_pow_right (by decide) ht),fun i hi=>(h3 i hi).more ht⟩
theorem dh.short {n m s:Nat} {k:Nat->Rat} (h:dh n k s) (hm:m<=n):dh m k s:=by
 obtain⟨D,h1,h2,h3⟩:=h
 exact⟨D,h1,h2,fun i hi=>h3 i aa⟩
theorem dh.congr {n s:Nat} {k l:Nat->Rat} (h:dh n k s) (e:∀i,i<n->k i=l i):dh n l s:=by
 obtain⟨D,h1,h2,h3⟩:=h
 exact⟨D,h1,h2,fun i hi=>by rw[<-e i hi];exact h3 i hi⟩
theorem Bd.peq {a b:PP} {s:Nat} (h:Bd a s) (e:fS a b):Bd b s:=by
 show dh b.1 b.2 s
 rw[<-e.1];exact dh.congr h e.2
theorem SE {n e s t:Nat} {d a:Nat->Rat} (ha:dh n a s) (hd:dh (e+1) d t) (h0:d e≠0):
  ∃D w:Int,D≠0/\w≠0/\D.natAbs<=2^s/\w.natAbs<=2^t/\(∀j,j<=n-e->∀i,i<n->bX (D*w^j) (s+j*(t+1)) (bP e d a (n-e) j i))/\∀k,k<n-e->bX (D*w^(n-e)) (s+(n-e)*(t+1)) (cS e d a (n-e) k):=by
 obtain⟨D,d1,d2,d3⟩:=ha
 obtain⟨E,e1,e2,e3⟩:=hd
 obtain⟨w,w1,w2⟩:=e3 e aa
 have hw:w≠0:=fun h=>by
  rw[h]at w1
  have w1:(0:Rat)=d e*(E:Rat):=w1
  exact(Rat.mul_eq_zero.1 w1.symm).elim h0 (ud e1)
 have key:∀j,j<=n-e->∀i,i<n->bX (D*w^j) (s+j*(t+1)) (bP e d a (n-e) j i):=by
  intro j
  induction j with
  |zero=>exact fun _ i hi=>by rw[Int.pow_zero,Int.mul_one,Nat.zero_mul];exact d3 i hi
  |succ j ih=>
   intro hj i hi
   have ih:=ih aa
   show bX _ _ (fI e d (n-e-1-j) (bP e d a (n-e) j) i)
   have hs:s+(j+1)*(t+1)=s+j*(t+1)+t+1:=by rw[Nat.add_mul];omega
   have hD:D*w^(j+1)=D*w^j*w:=by rw[Int.pow_succ,Int.mul_assoc]
   rw[hs,hD]
   unfold fI
   by_cases h:n-e-1-j<=i/\i<n-e-1-j+e+1
   ·rw[if_pos h]
    obtain⟨z,z1,z2⟩:=ih i hi
    obtain⟨y,y1,y2⟩:=ih (n-e-1-j+e) aa
    obtain⟨m,m1,m2⟩:=e3 (i-(n-e-1-j)) aa
    refine⟨z*w-y*m,?_,?_⟩
    ·rw[Rat.intCast_sub,Rat.intCast_mul,Rat.intCast_mul,Rat.intCast_mul,z1,m1]
     generalize ((D*w^j:Int):Rat)=Q at*
     rw[y1,w1,Rat.div_def]
     have:d e*(d e)⁻¹=1:=Rat.mul_inv_cancel _ h0
     generalize (d e)⁻¹=v at*
     generalize d (i-(n-e-1-j))=u
     generalize bP e d a (n-e) j i=x
     generalize bP e d a (n-e) j (n-e-1-j+e)=r
     generalize d e=g at*
     have h3:r*v*u*(Q*(g*(E:Rat)))=r*u*Q*(E:Rat)*(g*v):=by grind
     rw[Rat.sub_eq_add_neg,Rat.sub_eq_add_neg,Rat.add_mul,Rat.neg_mul,h3,this];grind
    ·have b1:=kT z2 w2
     have b2:=kT y2 m2
     have:=Int.natAbs_sub_le (z*w) (y*m)
     rw[Nat.pow_succ];omega
   ·rw[if_neg h]
    exact((ih i hi).up w2).more aa
 refine⟨D,w,d1,hw,d2,w2,key,fun k hk=>?_⟩
 -- the quotient
 obtain⟨z,z1,z2⟩:=key (n-e-1-k) aa (k+e) aa
 have h1:bX (D*w^(n-e-1-k)*w) (s+(n-e-1-k)*(t+1)+t) (cS e d a (n-e) k):=by
  refine⟨z*E,?_,kT z2 e2⟩
  unfold cS
  rw[Rat.intCast_mul,Rat.intCast_mul (D*w^(n-e-1-k)),z1,w1,Rat.div_def]
  have:d e*(d e)⁻¹=1:=Rat.mul_inv_cancel _ h0
  generalize (d e)⁻¹=v at*
  generalize bP e d a (n-e) (n-e-1-k) (k+e)=r
  generalize d e=g at*
  generalize ((D*w^(n-e-1-k):Int):Rat)=Q
  have h3:r*v*(Q*(g*(E:Rat)))=r*Q*(E:Rat)*(g*v):=by grind
  rw[h3,this,Rat.mul_one]
 have h2:=h1.up (Ab w2 k)
 rw[show D*w^(n-e-1-k)*w*w^k=D*w^(n-e) by rw[Int.mul_assoc,Int.mul_assoc,<-Int.pow_succ',<-Int.pow_add,show n-e-1-k+(k+1)=n-e by omega]]at h2
 refine h2.more ?_
 have:(n-e)*(t+1)=(n-e-1-k)*(t+1)+(k+1)*(t+1):=by rw[<-Nat.add_mul,show n-e-1-k+(k+1)=n-e by omega]
 rw[this,Nat.add_mul k 1,Nat.mul_add k t 1];omega
theorem Bd.rem {a d:PP} {s t:Nat} (ha:Bd a s) (hd:Bd d t) (h0:0<d.1) (td:Trim d):Bd (cQ a d) (s+(a.1-(d.1-1))*(t+1))/\Bd (gA a d) (s+(a.1-(d.1-1))*(t+1))/\(∀j,j<=a.1-(d.1-1)->∀i,i<a.1->Sz (bP (d.1-1) d.2 a.2 (a.1-(d.1-1)) j i) (2*(s+(a.1-(d.1-1))*(t+1))+2))/\∀k,k<a.1-(d.1-1)->Sz (cS (d.1-1) d.2 a.2 (a.1-(d.1-1)) k) (2*(s+(a.1-(d.1-1))*(t+1))+2):=by
 have hd':dh (d.1-1+1) d.2 t:=by rw[show d.1-1+1=d.1 by omega];exact hd
 obtain⟨D,w,d1,w1,d2,w2,h1,h2⟩:=SE ha hd' (td.resolve_left aa)
 obtain⟨R,hR⟩:∃R,R=a.1-(d.1-1):=⟨_,rfl⟩
 unfold cQ gA
 rw[<-hR]at h1 h2 ⊢
 have hne:∀j,D*w^j≠0:=fun j=>Int.mul_ne_zero d1 (Int.pow_ne_zero w1)
 have hjR:∀{j},j<=R->j*(t+1)<=R*(t+1):=fun h=>Nat.mul_le_mul_right _ h
 have hab:∀j,j<=R->(D*w^j).natAbs<=2^(s+R*(t+1)):=fun j hj=>Nat.le_trans (kT d2 (Ab w2 j)) (Nat.pow_le_pow_right (by decide) (by have:=hjR hj;have:=Nat.mul_le_mul_left j (show t<=t+1 by omega);omega))
 refine⟨⟨D*w^R,hne R,hab R aP,fun i hi=>h1 R aP i (Nat.lt_of_lt_of_le hi fk)⟩,⟨D*w^R,hne R,hab R aP,fun k hk=>h2 k (Nat.lt_of_lt_of_le hk fk)⟩,fun j hj i hi=>?_,fun k hk=>?_⟩
 ·exact((h1 j hj i hi).sz (hne j) (hab j hj)).more (by have:=hjR hj;omega)
 ·exact((h2 k hk).sz (hne R) (hab R aP)).more aa
theorem Bd.cE {a:PP} {s:Nat} (h:Bd a s) (ta:Trim a):Bd (dM a) s:=by
 obtain⟨D,h1,h2,h3⟩:=h
 rcases Nat.eq_zero_or_pos a.1 with h0|h0
 ·exact⟨1,by decide,Nat.one_le_two_pow,fun i hi=>absurd hi (by show¬i<a.1;omega)⟩
 have ht:a.2 (a.1-1)≠0:=ta.resolve_left aa
 obtain⟨w,w1,w2⟩:=h3 (a.1-1) aa
 have hw:w≠0:=fun h=>by
  rw[h]at w1
  have w1:(0:Rat)=a.2 (a.1-1)*(D:Rat):=w1
  exact(Rat.mul_eq_zero.1 w1.symm).elim ht (ud h1)
 refine⟨w,hw,w2,fun i hi=>?_⟩
 obtain⟨z,z1,z2⟩:=h3 i hi
 refine⟨z,?_,z2⟩
 show _=Go.Am.cE a.1 a.2 i*_
 unfold Go.Am.cE
 rw[z1,w1,Rat.div_def]
 have:a.2 (a.1-1)*(a.2 (a.1-1))⁻¹=1:=Rat.mul_inv_cancel _ ht
 generalize (a.2 (a.1-1))⁻¹=v at*
 generalize a.2 (a.1-1)=g at*
 have h4:a.2 i*v*(g*(D:Rat))=a.2 i*(D:Rat)*(g*v):=by grind
 rw[h4,this,Rat.mul_one]
theorem Aw {n s:Nat} {k:Nat->Rat} (h:dh n k s) (hn:n<=41):dh (n-1) (cM k) (s+6):=by
 obtain⟨D,h1,h2,h3⟩:=h
 refine⟨D,h1,Nat.le_trans h2 (Nat.pow_le_pow_right (by decide) aa),fun i hi=>?_⟩
 unfold cM
 exact((h3 (i+1) aa).vh (e:=6) aa).more aa
theorem Bd.cM {a:PP} {s:Nat} (h:Bd a s) (ha:a.1<=41):Bd (bQ a) (s+6):=(Aw h ha).short fk
theorem Bd.neg {a:PP} {s:Nat} (h:Bd a s):Bd (a.1,fun i=>((-1:Int):Rat)*a.2 i) s:=by
 obtain⟨D,h1,h2,h3⟩:=h
 exact⟨D,h1,h2,fun i hi=>((h3 i hi).vh (e:=0) (n:=-1) (by decide)).more aa⟩
theorem Jv {n s τ:Nat} {k:Nat->Rat} {D T:Int} {t:Rat} (h:∀i,i<n->bX D s (k i)) (ht:bX T τ t) (hT:T.natAbs<=2^τ):∀m,m<=n->bX (D*T^m) (s+m*(τ+1)) (eL n k t m)
 |0,_=>bX.zero
 |m+1,hm=>by
  have ih:=Jv h ht hT m aa
  have e1:=ih.mul ht
  have e2:=(h (n-1-m) aa).up (Ab hT (m+1))
  have hD:D*T^m*T=D*T^(m+1):=by rw[Int.pow_succ,Int.mul_assoc]
  rw[hD]at e1
  have hs:s+(m+1)*(τ+1)=s+m*(τ+1)+τ+1:=by rw[Nat.add_mul];omega
  rw[hs]
  refine(e1.more aP).add (e2.more ?_)
  rw[Nat.add_mul,Nat.one_mul]
  have:=Nat.mul_le_mul_left m (show τ<=τ+1 by omega)
  omega
theorem DR:∀δ:Nat,1<=δ->δ+2<=3^δ
 |1,_=>by decide
 |δ+2,_=>by
  have:=DR (δ+1) aa
  rw[Nat.pow_succ];omega
theorem zQ (n:Nat):0<3^n:=Nat.pow_pos (by decide)
theorem xe {m n:Nat} (h:m<=n):3^m<=3^n:=Nat.pow_le_pow_right (by decide) h
theorem Bd.more {a:PP} {s t:Nat} (h:Bd a s) (ht:s<=t):Bd a t:=dh.more h ht
theorem KT {B W M l l':Nat} (hB:B+1<=W*3^(M-l)) (hl:l'<l) (hM:l<=M):B+(l-(l'-1))*(B+1)+1<=W*3^(M-l')\/l'=0:=by
 rcases Nat.eq_zero_or_pos l' with h|h
 ·exact .inr h
 left
 have h1:l-(l'-1)=l-l'+1:=aa
 have h2:=DR (l-l') aa
 have h3:M-l'=M-l+(l-l'):=aa
 rw[h1,h3,Nat.pow_add,<-Nat.mul_assoc]
 have h4:(B+1)*(l-l'+2)<=W*3^(M-l)*3^(l-l'):=Nat.mul_le_mul hB h2
 have h5:(B+1)*(l-l'+2)=B+(l-l'+1)*(B+1)+1:=by
  rw[Nat.mul_comm,show l-l'+2=l-l'+1+1 by omega,Nat.add_mul (l-l'+1)];omega
 omega
theorem YC {u M l l':Nat} (hl:l<=M) (hl':l'<=M) (h0:0<l'):u+(l-(l'-1))*(u+1)+1<=2*(u+1)*3^(M-l'):=by
 have h1:(l-(l'-1))<=l-l'+1:=aa
 have h2:l-l'+2<=2*3^(l-l'):=by
  rcases Nat.eq_zero_or_pos (l-l')with h|h
  ·rw[h];decide
  ·have:=DR (l-l') h
   have:=zQ (l-l');omega
 have h3:3^(l-l')<=3^(M-l'):=xe aa
 have h4:(u+1)*(l-l'+2)<=(u+1)*(2*3^(M-l')):=Nat.mul_le_mul_left _ aa
 have h5:(u+1)*(l-l'+2)=u+(l-l'+1)*(u+1)+1:=by
  rw[Nat.mul_comm,show l-l'+2=l-l'+1+1 by omega,Nat.add_mul (l-l'+1)];omega
 have h6:(l-(l'-1))*(u+1)<=(l-l'+1)*(u+1):=Nat.mul_le_mul_right _ h1
 have h7:(u+1)*(2*3^(M-l'))=2*(u+1)*3^(M-l'):=by rw[<-Nat.mul_assoc,Nat.mul_comm (u+1) 2]
 omega
theorem CO {a b:PP} {u M:Nat} (ta:Trim a) (tb:Trim b) (la:a.1<=M) (lb:b.1<=M) (ha:Bd a u) (hb:Bd b u):∀j,∃B,B+1<=2*(u+1)*3^(M-(bK (a,b) j).1.1)/\Bd (bK (a,b) j).1 B/\Bd (bK (a,b) j).2 B/\(bK (a,b) j).1.1<=M/\(bK (a,b) j).2.1<=M/\((bK (a,b) j).2.1<(bK (a,b) j).1.1\/j=0/\B=u\/(bK (a,b) j).2.1=0)
 |0=>by
  have:=zQ (M-a.1)
  refine⟨u,?_,ha,hb,la,lb,.inr (.inl ⟨rfl,rfl⟩)⟩
  show u+1<=2*(u+1)*3^(M-a.1)
  have:=Nat.mul_le_mul_left (2*(u+1)) this
  omega
 |j+1=>by
  obtain⟨B,h1,h2,h3,h4,h5,h6⟩:=CO ta tb la lb ha hb j
  have ht:=l8 (s:=(a,b)) ta tb j
  show∃B,B+1<=2*(u+1)*3^(M-(e9 (bK (a,b) j)).1.1)/\Bd (e9 (bK (a,b) j)).1 B/\Bd (e9 (bK (a,b) j)).2 B/\(e9 (bK (a,b) j)).1.1<=M/\(e9 (bK (a,b) j)).2.1<=M/\((e9 (bK (a,b) j)).2.1<(e9 (bK (a,b) j)).1.1\/j+1=0/\B=u\/(e9 (bK (a,b) j)).2.1=0)
  generalize bK (a,b) j=s at*
  unfold e9
  by_cases h0:s.2.1=0
  ·rw[if_pos h0];exact⟨B,h1,h2,h3,h4,h5,.inr (.inr h0)⟩
  ·rw[if_neg h0]
   have hr:=nv (a:=s.1) (d:=s.2) aa ht.2
   have hb:=(Bd.rem h2 h3 aa ht.2).1.cE qV
   refine⟨B+(s.1.1-(s.2.1-1))*(B+1),?_,h3.more (Nat.le_add_right _ _),hb,h5,?_,.inl hr⟩
   ·rcases h6 with h6|⟨_,rfl⟩|h6
    ·exact(KT h1 h6 h4).resolve_right h0
    ·exact YC h4 h5 aa
    ·exact absurd h6 h0
   ·show(cQ s.1 s.2).1<=M;omega
theorem Fy {a b:PP} {u M:Nat} (ta:Trim a) (tb:Trim b) (la:a.1<=M) (lb:b.1<=M) (ha:Bd a u) (hb:Bd b u):∃B,B+1<=2*(u+1)*3^(M-(cm a b).1)/\Bd (cm a b) B:=by
 obtain⟨B,h1,h2,_⟩:=CO ta tb la lb ha hb b.1
 exact⟨B,h1,h2.cE (l8 (s:=(a,b)) ta tb _).1⟩
theorem Lm {a b:PP} {u M:Nat} (ta:Trim a) (tb:Trim b) (la:a.1<=M) (lb:b.1<a.1) (ha:Bd a u) (hb:Bd b u):∀j,j<=eM (a,b)->∃B,B+1<=2*(u+1)*3^(M-(bF (a,b) j).1.1)/\Bd (bF (a,b) j).1 B/\Bd (bF (a,b) j).2 B/\(bF (a,b) j).1.1<=M/\(bF (a,b) j).2.1<(bF (a,b) j).1.1
 |0,_=>by
  have:=zQ (M-a.1)
  refine⟨u,?_,ha,hb,la,lb⟩
  show u+1<=2*(u+1)*3^(M-a.1)
  have:=Nat.mul_le_mul_left (2*(u+1)) this
  omega
 |j+1,hj=>by
  obtain⟨B,h1,h2,h3,h4,h5⟩:=Lm ta tb la lb ha hb j aa
  have ht:=qc (s:=(a,b)) ta tb j
  have h0:=(sM (s:=(a,b)) ta tb).2.2 j aa
  show∃B,B+1<=2*(u+1)*3^(M-(qy (bF (a,b) j)).1.1)/\Bd (qy (bF (a,b) j)).1 B/\Bd (qy (bF (a,b) j)).2 B/\(qy (bF (a,b) j)).1.1<=M/\(qy (bF (a,b) j)).2.1<(qy (bF (a,b) j)).1.1
  generalize bF (a,b) j=s at*
  have hr:=nv (a:=s.1) (d:=s.2) aa ht.2
  refine⟨B+(s.1.1-(s.2.1-1))*(B+1),(KT h1 h5 h4).resolve_right h0,h3.more (Nat.le_add_right _ _),(Bd.rem h2 h3 aa ht.2).1.neg,?_,hr⟩
  show s.2.1<=M;omega
theorem VD {a d:PP} {B M:Nat} (ha:Bd a B) (hd:Bd d B) (h0:0<d.1) (td:Trim d) (hM:a.1-(d.1-1)<=M):
  (∀j,j<=a.1-(d.1-1)->∀i,i<a.1->Sz (bP (d.1-1) d.2 a.2 (a.1-(d.1-1)) j i) (2*((M+1)*(B+1))+2))/\∀k,k<a.1-(d.1-1)->Sz (cS (d.1-1) d.2 a.2 (a.1-(d.1-1)) k) (2*((M+1)*(B+1))+2):=by
 obtain⟨_,_,h1,h2⟩:=ha.rem hd h0 td
 have:B+(a.1-(d.1-1))*(B+1)<=(M+1)*(B+1):=by
  have:=Nat.mul_le_mul_right (B+1) hM
  rw[Nat.add_mul];omega
 exact⟨fun j hj i hi=>(h1 j hj i hi).more aa,fun k hk=>(h2 k hk).more aa⟩
theorem bX.sum {D:Int} {s b:Nat} {f:Nat->Rat} {n:Nat} (hn:n<=2^b) (h:∀i,i<n->bX D s (f i)):bX D (s+b) (sg f n):=by
 have key:∀m,m<=n->∃z:Int,(z:Rat)=sg f m*(D:Rat)/\z.natAbs<=m*2^s:=by
  intro m
  induction m with
  |zero=>exact fun _=>⟨0,by show _=0*_;rw[Rat.zero_mul];rfl,Nat.zero_le _⟩
  |succ m ih=>
   intro hm
   obtain⟨z,z1,z2⟩:=ih aa
   obtain⟨w,w1,w2⟩:=h m aa
   refine⟨z+w,?_,?_⟩
   ·show _=(sg f m+f m)*_
    rw[Rat.intCast_add,z1,w1];grind
   ·have:=Int.natAbs_add_le z w
    rw[Nat.add_mul,Nat.one_mul];omega
 obtain⟨z,z1,z2⟩:=key n aP
 refine⟨z,z1,Nat.le_trans z2 ?_⟩
 rw[Nat.pow_add,Nat.mul_comm]
 exact Nat.mul_le_mul_left _ hn
theorem bX.ite {D:Int} {s:Nat} {x:Rat} {p:Prop} [Decidable p] (h:bX D s x):bX D s (if p then x else 0):=by
 split
 ·exact h
 ·exact .zero
theorem Gi {m n s t:Nat} {D E:Int} {U V:Nat->Rat} (hm:m+1<=64) (hn:n+1<=64) (hU:∀i,bX D s (U i)) (hV:∀j,bX E t (V j)) {i j k:Nat} (hi:i<=m+1) (hj:j<=n+1):
  bX (D*E) (s+t+13) (sg (fun i=>sg (fun j=>if i+j=k then U i*V j else 0) (n+1)) i+sg (fun j=>if i+j=k then U i*V j else 0) j):=by
 have h1:∀i,∀j,j<=n+1->bX (D*E) (s+t+6) (sg (fun j=>if i+j=k then U i*V j else 0) j):=fun i j hj=>bX.sum aa fun j _=>((hU i).mul (hV j)).ite
 have h2:bX (D*E) (s+t+6+6) (sg (fun i=>sg (fun j=>if i+j=k then U i*V j else 0) (n+1)) i):=bX.sum aa fun i _=>h1 i _ aP
 exact h2.add ((h1 i j hj).more aa)
theorem Hz {m n s t:Nat} {D E:Int} {U V:Nat->Rat} (hm:m+1<=64) (hn:n+1<=64) (hU:∀i,bX D s (U i)) (hV:∀j,bX E t (V j)) (k:Nat):bX (D*E) (s+t+13) (je m n U V k):=by
 have:=Gi hm hn hU hV (k:=k) (Nat.le_refl (m+1)) (Nat.zero_le (n+1))
 unfold je
 rw[show sg (fun j=>if m+1+j=k then U (m+1)*V j else 0) 0=0 from rfl,Rat.add_zero]at this
 exact this
def iI (N:Nat):Nat->Nat
 |0=>1
 |k+1=>iI N k*(if k<=N then bn N k else 1)
theorem yA {N:Nat}:∀k,0<iI N k
 |0=>Nat.one_pos
 |k+1=>by
  unfold iI
  refine Nat.mul_pos (yA k) ?_
  split
  ·rename_i h;exact zw h
  ·exact Nat.one_pos
theorem uG {N:Nat}:∀k,iI N k<=2^(k*N)
 |0=>by rw[Nat.zero_mul];exact Nat.le_refl _
 |k+1=>by
  unfold iI
  rw[Nat.add_mul,Nat.one_mul,Nat.pow_add]
  refine Nat.mul_le_mul (uG k) ?_
  split
  ·exact pg N k
  ·exact Nat.one_le_two_pow
theorem GF {N i:Nat} (hi:i<=N):∀k,i<k->∃w,iI N k=bn N i*w/\w<=iI N k
 |0,h=>absurd h (Nat.not_lt_zero _)
 |k+1,h=>by
  rcases Nat.eq_or_lt_of_le (Nat.le_of_lt_succ h)with h1|h1
  ·subst h1
   refine⟨iI N i,?_,?_⟩
   ·show iI N i*(if i<=N then bn N i else 1)=_
    rw[if_pos hi,Nat.mul_comm]
   ·show _<=iI N i*(if i<=N then bn N i else 1)
    rw[if_pos hi]
    exact Nat.le_mul_of_pos_right _ (zw hi)
  ·obtain⟨w,w1,w2⟩:=GF hi k h1
   refine⟨w*(if k<=N then bn N k else 1),?_,?_⟩
   ·show iI N k*_=_
    rw[w1,Nat.mul_assoc]
   ·show _<=iI N k*_
    exact Nat.mul_le_mul_right _ w2
theorem bX.EJ {D:Int} {s N i:Nat} {x:Rat} (h:bX D s x) (hi:i<=N):bX (D*(iI N (N+1):Nat)) (s+(N+1)*N) (x/bq N i):=by
 obtain⟨z,z1,z2⟩:=h
 obtain⟨w,w1,w2⟩:=GF hi (N+1) aa
 refine⟨z*(w:Int),?_,?_⟩
 ·have hb:=Jx hi
  rw[w1,Rat.intCast_mul,z1,Rat.intCast_mul,Int.natCast_mul,Rat.intCast_mul,Rat.div_def]
  have:bq N i*(bq N i)⁻¹=1:=Rat.mul_inv_cancel _ hb
  show x*(D:Rat)*((w:Int):Rat)=x*(bq N i)⁻¹*((D:Rat)*(bq N i*((w:Int):Rat)))
  generalize (bq N i)⁻¹=v at*
  generalize bq N i=g at*
  generalize ((w:Int):Rat)=y
  have h4:x*v*((D:Rat)*(g*y))=x*(D:Rat)*y*(g*v):=by grind
  rw[h4,this,Rat.mul_one]
 ·rw[Int.natAbs_mul,Nat.pow_add,Int.natAbs_natCast]
  exact Nat.mul_le_mul z2 (Nat.le_trans w2 (uG _))
theorem yY {D:Int} {m s:Nat} {p:Nat->Rat} (h:∀i,i<m+1->bX D s (p i)) (i:Nat):bX D (s+m) (bq m i*p i):=by
 by_cases hi:i<m+1
 ·have:=(h i hi).vh (e:=m) (n:=(bn m i:Nat)) (by rw[Int.natAbs_natCast];exact pg m i)
  exact this.more aa
 ·rw[Bg aa,Rat.zero_mul];exact .zero
theorem Kv {m n s t:Nat} {p q:Nat->Rat} (hm:m+n<=40) (hp:dh (m+1) p s) (hq:dh (n+1) q t):dh (m+n+1) (jb m n p q) (s+t+(m+n)+13+(m+n+1)*(m+n)):=by
 obtain⟨D,d1,d2,d3⟩:=hp
 obtain⟨E,e1,e2,e3⟩:=hq
 refine⟨D*E*(iI (m+n) (m+n+1):Nat),?_,?_,fun k hk=>?_⟩
 ·have:=yA (N:=m+n) (m+n+1)
  exact Int.mul_ne_zero (Int.mul_ne_zero d1 e1) aa
 ·have h1:=kT (kT d2 e2) (show((iI (m+n) (m+n+1):Nat):Int).natAbs<=2^((m+n+1)*(m+n)) by rw[Int.natAbs_natCast];exact uG _)
  exact Nat.le_trans h1 (Nat.pow_le_pow_right (by decide) aa)
 ·unfold jb
  exact((Hz aa aa (yY d3) (yY e3) k).EJ aa).more aa
theorem Tu {m n s t:Nat} {p q:Nat->Rat} (hm:m+n<=40) (hp:dh (m+1) p s) (hq:dh (n+1) q t) {i j k:Nat} (hi:i<=m+1) (hj:j<=n+1):
  Sz (sg (fun i=>sg (fun j=>if i+j=k then bq m i*p i*(bq n j*q j)else 0) (n+1)) i+sg (fun j=>if i+j=k then bq m i*p i*(bq n j*q j)else 0) j) (2*(s+t+(m+n)+13)+2):=by
 obtain⟨D,d1,d2,d3⟩:=hp
 obtain⟨E,e1,e2,e3⟩:=hq
 have:=Gi (k:=k) aa aa (yY d3) (yY e3) hi hj
 exact(this.sz (Int.mul_ne_zero d1 e1) (Nat.le_trans (kT d2 e2) aP)).more aa
theorem xq {D:Int} {s n:Nat} {p:Nat->Rat} (h:∀i,i<n->bX D s (p i)):∀k i,k+i<n->bX D (s+k) (eW p k i)
 |0,i,hi=>h i aa
 |k+1,i,hi=>by
  obtain⟨z,z1,z2⟩:=xq h k (i+1) aa
  obtain⟨w,w1,w2⟩:=xq h k i aa
  refine⟨z-w,?_,?_⟩
  ·show _=(eW p k (i+1)-eW p k i)*_
   rw[Rat.intCast_sub,z1,w1];grind
  ·have:=Int.natAbs_sub_le z w
   rw[show s+(k+1)=s+k+1 by omega,Nat.pow_succ];omega
theorem CU {n s:Nat} {p:Nat->Rat} (h:dh n p s):dh n (fy n p) (s+2*n):=by
 obtain⟨D,d1,d2,d3⟩:=h
 refine⟨D,d1,Nat.le_trans d2 (Nat.pow_le_pow_right (by decide) aa),fun k hk=>?_⟩
 unfold fy
 have:=(xq d3 k 0 aa).vh (e:=n-1) (n:=(bn (n-1) k:Nat)) (by rw[Int.natAbs_natCast];exact pg _ k)
 exact this.more aa
theorem Bd.cf {a:PP} {s:Nat} (h:Bd a s):∃D:Int,D≠0/\D.natAbs<=2^s/\∀i,bX D s (dR a i):=by
 obtain⟨D,d1,d2,d3⟩:=h
 refine⟨D,d1,d2,fun i=>?_⟩
 unfold dR
 split
 ·rename_i hi;exact d3 i hi
 ·exact .zero
theorem GK {a b:PP} {s t:Nat} (ha:Bd a s) (hb:Bd b t) (la:a.1<=60) (lb:b.1<=60):Bd (ff a b) (s+t+13):=by
 obtain⟨D,d1,d2,d3⟩:=ha.cf
 obtain⟨E,e1,e2,e3⟩:=hb.cf
 exact⟨D*E,Int.mul_ne_zero d1 e1,Nat.le_trans (kT d2 e2) (Nat.pow_le_pow_right (by decide) aa),fun k _=>Hz aa aa d3 e3 k⟩
theorem U2 {a b:PP}:(gM (ff a b)).1=0\/(gM (ff a b)).1+1<=(gM a).1+(gM b).1:=by
 rcases Nat.eq_zero_or_pos (gM (ff a b)).1 with h|h
 ·exact .inl h
 ·right
  have:=Bm (c:=gM (ff a b)) (a:=gM a) (b:=gM b) (fun t=>by rw[nD,nD,nD,jf]) h nY nY nY
  omega
theorem ym {a:PP}:(gM a).1<=a.1:=fk
theorem jK.of_eq {c d h f:PP} (s:jK c h f) (e:∀t,bO c t=bO d t):jK d h f:=
 ⟨fun t=>by rw[<-e,s.eq],s.dv.of_eq fun t=>by rw[ot,ot,F3 e]⟩
def sA (p q:PP):PP:=(p.1-1+(q.1-1)+1,jb (p.1-1) (q.1-1) p.2 q.2)
def iu (p q:PP):Nat->PP
 |0=>p
 |j+1=>sA (iu p q j) q
def iD (q:PP):PP:=(q.1,fy q.1 q.2)
def oZ (p:PP) (t:Rat):Rat:=cs (p.1-1) p.2 t
theorem Ef {q:PP} (h:1<=q.1) (t:Rat):bO (iD q) t=oZ q t:=by
 obtain⟨n,k⟩:=q
 obtain⟨m,rfl⟩:∃m,n=m+1:=⟨n-1,by have h:1<=n:=h;omega⟩
 exact Ng
theorem Ed {p q:PP} (t:Rat):oZ (sA p q) t=oZ p t*oZ q t:=by
 unfold oZ sA
 rw[Nat.add_sub_cancel]
 exact Z6
structure qQ (q:PP):Prop where
 lo:1<=q.1
 hi:q.1<=3
 bd:Bd q 7
theorem qQ.pw {q:PP} (h:qQ q):Bd (iD q) 13:=by
 have h1:dh q.1 (fy q.1 q.2) (7+2*q.1):=CU h.bd
 exact h1.more (by have:=h.hi;omega)
structure mY (i:Nat) (p:PP):Prop where
 lo:1<=p.1
 hi:p.1<=4*i+1
 bd:Bd p (400*i)
 pw:∃c h f:PP,(∀t,bO c t=oZ p t)/\Bd c (52*i)/\c.1<=8*i+1/\jK c h f/\(gM f).1<=2*i+1
theorem mY.one:mY 0 (1,fun _=>1) where
 lo:=aP
 hi:=aP
 bd:=⟨1,by decide,aP,fun i _=>⟨1,(Rat.one_mul _).symm,aP⟩⟩
 pw:=⟨kD,kD,kD,fun t=>by rw[oz];rfl,⟨1,by decide,aP,fun i _=>⟨1,(Rat.one_mul _).symm,aP⟩⟩,aP,jK.one,ym⟩
theorem Af {p q:PP} (hp:1<=p.1) (hq:qQ q):∀j,1<=(iu p q j).1/\(iu p q j).1<=p.1+2*j
 |0=>⟨hp,aP⟩
 |j+1=>by
  have:=Af hp hq j
  have h2:=hq.hi
  show 1<=(iu p q j).1-1+(q.1-1)+1/\(iu p q j).1-1+(q.1-1)+1<=_
  omega
theorem C3 {p q:PP} {s:Nat} (hp:1<=p.1) (hq:qQ q) (hb:Bd p s):∀j,p.1+2*j<=13->Bd (iu p q j) (s+200*j)
 |0,_=>hb
 |j+1,h=>by
  have ih:=C3 hp hq hb j aa
  have hl:=Af hp hq j
  have h1:=hq.lo
  have h2:=hq.hi
  have hb2:dh ((iu p q j).1-1+1) (iu p q j).2 (s+200*j):=by rw[show(iu p q j).1-1+1=(iu p q j).1 by omega];exact ih
  have hb3:dh (q.1-1+1) q.2 7:=by rw[show q.1-1+1=q.1 by omega];exact hq.bd
  have:=Kv aa hb2 hb3
  refine dh.more this ?_
  have h5:(iu p q j).1-1+(q.1-1)<=12:=aa
  have h6:((iu p q j).1-1+(q.1-1)+1)*((iu p q j).1-1+(q.1-1))<=13*12:=Nat.mul_le_mul aa h5
  omega
theorem mY.step {i r:Nat} {p q:PP} (h:mY i p) (hq:qQ q) (hi:i<=2) (hr:1<=r/\r<=2):mY (i+1) (iu p q r):=by
 have hl:=Af h.lo hq r
 have h1:=h.hi
 obtain⟨c,hh,f,c1,c2,c3,c4,c5⟩:=h.pw
 have hq1:=hq.lo
 have hq2:=hq.hi
 have hcq:(iD q).1=q.1:=rfl
 have hcu:(gM (iD q)).1<=3:=Nat.le_trans ym hq2
 have hf:(gM (ff f (iD q))).1<=2*(i+1)+1:=by
  rcases U2 (a:=f) (b:=iD q)with h0|h0<;>omega
 have e1:∀t,bO (ff c (iD q)) t=bO c t*bO (iD q) t:=fun t=>jf
 have l1:(ff c (iD q)).1=c.1+q.1+1:=rfl
 have b1:=GK c2 hq.pw aa aa
 refine⟨hl.1,aa,(C3 h.lo hq h.bd r aa).more aa,?_⟩
 rcases(show r=1\/r=2 by omega)with rfl|rfl
 ·refine⟨ff c (iD q),hh,ff f (iD q),fun t=>?_,b1.more aa,aa,c4.WL e1,hf⟩
  show _=oZ (sA p q) t
  rw[Ed,e1,c1,Ef hq1]
 ·have b2:=GK b1 hq.pw aa aa
  have l2:(ff (ff c (iD q)) (iD q)).1=(ff c (iD q)).1+q.1+1:=rfl
  refine⟨ff (ff c (iD q)) (iD q),ff hh (iD q),ff f (iD q),fun t=>?_,b2.more aa,aa,c4.NF fun t=>by rw[jf,e1],hf⟩
  show _=oZ (sA (sA p q) q) t
  rw[Ed,Ed,jf,e1,c1,Ef hq1]
structure iS (c:PP):Prop where
 tr:Trim c
 len:c.1<=13
 bd:Bd c 156
 sq:∃h f:PP,jK c h f/\(gM f).1<=7
theorem mY.gd {i:Nat} {p:PP} (h:mY i p) (hi:i<=3):iS (bu (fy p.1 p.2) p.1,fy p.1 p.2):=by
 obtain⟨c,hh,f,c1,c2,c3,c4,c5⟩:=h.pw
 have h1:=h.hi
 have e:∀t,bO (gM c) t=bO (bu (fy p.1 p.2) p.1,fy p.1 p.2) t:=fun t=>by
  rw[nD,c1,<-Ef h.lo]
  exact vH.symm
 have hb:Bd (gM c) (52*i):=dh.short c2 ym
 refine⟨lQ,?_,(hb.peq (aak nY lQ e)).more aa,hh,f,c4.of_eq fun t=>by rw[<-e,nD],aa⟩
 have:bu (fy p.1 p.2) p.1<=p.1:=fk
 show bu _ _<=13
 omega
theorem C5 {n s:Nat} {c:Nat->Rat} {D:Int} (h:∀i,i<n->bX D s (c i)) {i:Nat} (hi:i<n):∀k,k<=n->bX (D*(iI (n-1) (n-1+1):Nat)) (s+(n-1+1)*(n-1)+n+k) (jm n c i k)
 |0,_=>.zero
 |k+1,hk=>by
  have ih:=C5 h hi k aa
  have h1:=((h k aa).EJ (N:=n-1) (i:=k) aa).vh (e:=n) (n:=(bn i k:Nat)) (by rw[Int.natAbs_natCast];exact Nat.le_trans (pg i k) (Nat.pow_le_pow_right (by decide) aa))
  have h2:=ih.add (h1.more (t:=s+(n-1+1)*(n-1)+n+k) aa)
  have e:jm n c i (k+1)=jm n c i k+((bn i k:Nat):Int)*(c k/bq (n-1) k):=by
   show jm n c i k+((bn i k:Int):Rat)/bq (n-1) k*c k=_
   rw[Rat.div_def,Rat.div_def];grind
  rw[e];exact h2
theorem Jb {n s:Nat} {c:Nat->Rat} (hb:dh n c s) {i k:Nat} (hi:i<n) (hk:k<=n):Sz (jm n c i k) (2*(s+n*n+2*n)+2):=by
 obtain⟨D,d1,d2,d3⟩:=hb
 have h1:=C5 d3 hi k hk
 have h2:=yA (N:=n-1) (n-1+1)
 have h3:(n-1+1)*(n-1)<=n*n:=Nat.mul_le_mul aa aa
 have h4:=kT d2 (show((iI (n-1) (n-1+1):Nat):Int).natAbs<=2^((n-1+1)*(n-1)) by rw[Int.natAbs_natCast];exact uG _)
 exact(h1.sz (Int.mul_ne_zero d1 aa) h4).more aa
end Go.Am
namespace Go.Am.B
open Go Go.Am.N AV af aq IntKind Proofs.Tryz
theorem oX {n s:Nat} {k:Nat->Rat} (h:dh n k s) (hs:2*s+2<=ag):cB n k:=fun i hi=>(h.sz hi).more hs
theorem AE {a d:PP} {B M:Nat} (ha:Bd a B) (hd:Bd d B) (h0:0<d.1) (td:Trim d) (hM:a.1-(d.1-1)<=M) (hB:2*((M+1)*(B+1))+2<=ag):lH a d:=by
 obtain⟨h1,h2⟩:=VD ha hd h0 td hM
 exact⟨fun j hj i hi=>(h1 j hj i hi).more hB,fun k hk=>(h2 k hk).more hB⟩
theorem Dn {a d:PP} {B M:Nat} (ha:Bd a B) (hd:Bd d B) (h0:0<d.1) (td:Trim d) (hM:a.1-(d.1-1)<=M):Bd (cQ a d) ((M+1)*(B+1))/\Bd (gA a d) ((M+1)*(B+1)):=by
 obtain⟨h1,h2,_⟩:=ha.rem hd h0 td
 have:B+(a.1-(d.1-1))*(B+1)<=(M+1)*(B+1):=by
  have:=Nat.mul_le_mul_right (B+1) hM
  rw[Nat.add_mul];omega
 exact⟨h1.more this,h2.more this⟩
theorem E9 {a b:PP} {u M:Nat} (ta:Trim a) (tb:Trim b) (la:a.1<=M) (lb:b.1<=M) (h1M:1<=M) (ha:Bd a u) (hb:Bd b u) (hX:2*((M+1)*(2*(u+1)*3^(M-1)))+2<=ag):m8 (a,b):=by
 have hle:∀{B l:Nat},B+1<=2*(u+1)*3^(M-l)->1<=l->B+1<=2*(u+1)*3^(M-1):=fun h1 h2=>Nat.le_trans h1 (Nat.mul_le_mul_left _ (xe aa))
 have hX2:∀{B:Nat},B+1<=2*(u+1)*3^(M-1)->2*((M+1)*(B+1))+2<=ag:=fun h=>by
  have:=Nat.mul_le_mul_left (M+1) h
  omega
 refine⟨fun j hj=>?_,fun i hi=>?_⟩
 ·obtain⟨B,b1,b2,b3,b4,b5,b6⟩:=CO ta tb la lb ha hb j
  have ht:=l8 (s:=(a,b)) ta tb j
  have hB:B+1<=2*(u+1)*3^(M-1):=by
   rcases b6 with h|⟨_,rfl⟩|h
   ·exact hle b1 aa
   ·have h3:=zQ (M-1)
    have:=Nat.mul_le_mul_left (2*(B+1)) h3
    omega
   ·exact absurd h hj
  refine⟨AE b2 b3 aa ht.2 aa (hX2 hB),?_⟩
  have hm:=(Dn b2 b3 aa ht.2 (show _<=M by omega)).1.cE qV
  exact oX hm (hX2 hB)
 ·obtain⟨B,b1,b2⟩:=Fy ta tb la lb ha hb
  have hi:i<(cm a b).1:=hi
  have hB:=hle b1 aa
  have:=hX2 hB
  have h1:B+1<=(M+1)*(B+1):=Nat.le_mul_of_pos_left _ aa
  exact(dh.sz b2 hi).more aa
theorem yZ {c:PP} (h:iS c):Bd (bQ c) 162:=Bd.more (h.bd.cM (by have:=h.len;omega)) aa
theorem Ly {c:PP}:(bQ c).1<=c.1-1:=fk
theorem DT {c:PP} (h:iS c) (h0:0<c.1):Bd (cm c (bQ c)) 237653/\c.1-(cm c (bQ c)).1<=6/\0<(cm c (bQ c)).1/\(cm c (bQ c)).1<=c.1:=by
 obtain⟨hh,f,s1,s2⟩:=h.sq
 have hl:=h.len
 obtain⟨l1,l2,l3⟩:=Bm (a:=gM hh) (b:=gM f) (fun t=>by rw[s1.eq,nD,nD]) h0 h.tr nY nY
 have hd:Dv hh c:=⟨f,s1.eq⟩
 have hg:Dv (gM hh) (cm c (bQ c)):=(RY hd s1.dv).imp fun w hw t=>by rw[hw,nD]
 have hl2:=hg.len (yC h0) (nj h.tr fH) nY
 have hd2:c.1-(cm c (bQ c)).1<=6:=aa
 obtain⟨B,b1,b2⟩:=Fy (M:=c.1) h.tr fH aP (Nat.le_trans Ly aa) (h.bd.more (show 156<=162 by omega)) (yZ h)
 have h3:3^(c.1-(cm c (bQ c)).1)<=3^6:=xe hd2
 have h4:2*(162+1)*3^(c.1-(cm c (bQ c)).1)<=2*(162+1)*3^6:=Nat.mul_le_mul_left _ h3
 exact⟨b2.more aa,hd2,yC h0,xG h.tr⟩
theorem zH {c:PP} (h:iS c) (h0:0<c.1):Bd (cw c) 1901232/\(cw c).1<=7:=by
 obtain⟨g1,g2,g3,g4⟩:=DT h h0
 have hq:=(Dn (M:=7) (h.bd.more (show 156<=237653 by omega)) g1 g3 (nj h.tr fH) aa).2.cE DZ
 unfold cw
 rw[if_neg aa]
 refine⟨Bd.more hq aa,?_⟩
 show bu _ _<=7
 exact Nat.le_trans fk aa
theorem zx {c:PP} (h:iS c) (h0:0<c.1):Cs c/\uf c:=by
 have hW:=dw
 have hl:=h.len
 obtain⟨g1,g2,g3,g4⟩:=DT h h0
 obtain⟨f1,f2⟩:=zH h h0
 have hd:=AE (M:=7) (h.bd.more (show 156<=237653 by omega)) g1 g3 (nj h.tr fH) aa aa
 have hf:cB (cw c).1 (cw c).2:=oX f1 aa
 have hder:cB (c.1-1) (cM c.2):=oX (Aw h.bd aa) aa
 have h13:2*((13+1)*(2*(162+1)*3^(13-1)))+2<=ag:=by rw[hW];decide
 have b1:=h.bd.more (show 156<=162 by omega)
 have hdl:(bQ c).1<=13:=Nat.le_trans Ly aa
 refine⟨⟨aa,h.tr,hder,fun _=>⟨E9 h.tr fH hl hdl aa b1 (yZ h) h13,hd,hf⟩⟩,⟨aa,aa,h.tr,hder,fun _=>⟨⟨oX (b1.cE h.tr) aa,oX ((yZ h).cE fH) aa,E9 (qe h.tr) (qe fH) hl hdl aa (b1.cE h.tr) ((yZ h).cE fH) h13⟩,hd,hf⟩⟩⟩
theorem Lr {c:PP} (h:iS c) (h0:0<c.1):∀j,j<=eM (gu c)->∃B,B+1<=2772006462/\Bd (bF (gu c) j).1 B/\Bd (bF (gu c) j).2 B/\(bF (gu c) j).1.1<=7/\(bF (gu c) j).2.1<(bF (gu c) j).1.1:=fun j hj=>by
 obtain⟨f1,f2⟩:=zH h h0
 have hfp:0<(cw c).1:=by
  obtain⟨g1,g2,g3,g4⟩:=DT h h0
  rcases Nat.eq_zero_or_pos (cw c).1 with h9|h9
  ·exfalso
   unfold cw at h9
   rw[if_neg aa]at h9
   have h9:(gA c (cm c (bQ c))).1=0:=h9
   have h10:=fun t=>D8 (a:=c) (d:=cm c (bQ c)) g3 t
   have:=zS h.tr (b:=cQ c (cm c (bQ c))) (wV fun t=>by rw[h10,qE h9,Rat.zero_mul,Rat.zero_add])
   have:=nv (a:=c) g3 (nj h.tr fH)
   omega
  ·exact h9
 have hfd:Bd (bQ (cw c)) 1901238:=f1.cM aa
 have hdl:(bQ (cw c)).1<=(cw c).1-1:=fk
 obtain⟨B,b1,b2,b3,b4,b5⟩:=Lm (a:=cw c) (b:=bQ (cw c)) sn fH f2 aa (f1.more (show 1901232<=1901238 by omega)) hfd j hj
 have h3:3^(7-(bF (cw c,bQ (cw c)) j).1.1)<=3^6:=xe aa
 have h4:=Nat.mul_le_mul_left (2*(1901238+1)) h3
 exact⟨B,aa,b2,b3,b4,b5⟩
theorem Kl {c:PP} (h:iS c) (h0:0<c.1):ya (gu c):=fun j hj=>by
 have hW:=dw
 obtain⟨B,b1,b2,b3,b4,b5⟩:=Lr h h0 j aa
 have ht:=qc (s:=gu c) sn fH j
 have hn:=(sM (s:=gu c) sn fH).2.2 j hj
 refine⟨AE (M:=7) b2 b3 aa ht.2 aa aa,?_⟩
 have hr:=(Dn (M:=7) b2 b3 aa ht.2 aa).1.neg
 exact oX hr aa
theorem xN {c:PP} (h:iS c) (h0:0<c.1):oy c/\uQ c:=by
 have hW:=dw
 obtain⟨f1,f2⟩:=zH h h0
 have hder:cB ((cw c).1-1) (cM (cw c).2):=oX (Aw f1 aa) aa
 exact⟨⟨(zx h h0).1,hder,Kl h h0⟩,⟨(zx h h0).2,hder,Kl h h0⟩⟩
theorem xW {c:PP} (h:iS c) (h0:0<c.1):cP c<=8:=by
 obtain⟨f1,f2⟩:=zH h h0
 have:=(sM (s:=gu c) sn fH).1
 have h2:(gu c).2.1<=(cw c).1-1:=fk
 show eM (gu c)+1<=8
 omega
theorem XW {c:PP} (h:iS c) (h0:0<c.1) {i:Nat} (hi:i<cP c):Bd (cR c i) 2772006461/\(cR c i).1<=7:=by
 obtain⟨B,b1,b2,b3,b4,b5⟩:=Lr h h0 i (by have hi:i<eM (gu c)+1:=hi;omega)
 exact⟨b2.more aa,b4⟩
theorem Wg {a:PP} {s τ:Nat} {T:Int} {t:Rat} (h:Bd a s) (ht:bX T τ t) (hT:T.natAbs<=2^τ) (hT0:T≠0) (hl:a.1<=7) (hs:2*(s+7*(τ+1))+2<=ag):jC a t:=by
 obtain⟨D,d1,d2,d3⟩:=h
 intro m hm
 have h1:=Jv d3 ht hT m hm
 have h2:=kT d2 (Ab hT m)
 have h3:m*(τ+1)<=7*(τ+1):=Nat.mul_le_mul_right _ aa
 have h4:m*τ<=7*(τ+1):=Nat.mul_le_mul aa aa
 exact((h1.more (show s+m*(τ+1)<=s+7*(τ+1) by omega)).sz (Int.mul_ne_zero d1 (Int.pow_ne_zero hT0)) (Nat.le_trans h2 (Nat.pow_le_pow_right (by decide) (show s+m*τ<=s+7*(τ+1) by omega)))).more aa
theorem rU {c:PP} (h:iS c) (h0:0<c.1) {τ:Nat} {T:Int} {t:Rat} (ht:bX T τ t) (hT:T.natAbs<=2^τ) (hT0:T≠0) (hs:τ<=2^31):dc (cP c) (cR c) t:=fun i hi=>by
 have hW:=dw
 obtain⟨b1,b2⟩:=XW h h0 hi
 exact⟨aa,Wg b1 ht hT hT0 b2 aa⟩
abbrev mP (n:Nat) (z:Nat->Int) (a:Int):ax:=ju n (fun i=>.int .i64 (z i)) a
structure r7 where
 k:Nat->Rat
 t:Rat
 a:Int
def DA (n:Nat) (f:Nat->AV) (t:Rat) (a:Int):Rat:=t+((1+ct n f a 3:Int):Rat)/((1+ct n f (bC n a) 2:Int):Rat)
def Ju (n:Nat) (f:Nat->AV) (p j:Nat) (s:r7):r7:=
 if j=0\/0<ct n f s.a 3\/s.t=s.k (j+1)then
  ⟨ur s.k (p+1+j) (DA n f s.t (if j=0 then s.a else bC n s.a)),DA n f s.t (if j=0 then s.a else bC n s.a),bC n (bC n (if j=0 then s.a else bC n s.a))⟩
 else⟨ur s.k (p+1+j) s.t,s.t,if j=0 then s.a else bC n s.a⟩
def qK (n:Nat) (f:Nat->AV) (p:Nat) (s0:r7):Nat->r7
 |0=>s0
 |j+1=>Ju n f p j (qK n f p s0 j)
def uO (n:Nat) (f:Nat->AV) (a:Int):r7:=⟨fun _=>((ct n f a 4-2:Int):Rat),((ct n f a 4-2:Int):Rat),bC n (bC n a)⟩
def RP (n:Nat) (f:Nat->AV) (a:Int) (m:Nat):Nat:=(ct n f (bC n a) (m+1)).toNat
def knE (n:Nat) (f:Nat->AV) (a:Int) (p m:Nat):r7:=qK n f p (uO n f a) (RP n f a m)
def UC (n:Nat) (f:Nat->AV) (a:Int) (p m:Nat):Int:=(knE n f a p m).a
theorem GX {n:Nat} {f:Nat->AV} {a:Int} {p:Nat} (hd:cY n f a) (hp:1<=p):∀j,KG p j (qK n f p (uO n f a) j).k (qK n f p (uO n f a) j).t/\cY n f (qK n f p (uO n f a) j).a
 |0=>by
  have h1:=iO (n:=n) (f:=f) (a:=a) (m:=4) aa
  have h2:=iP (n:=n) (f:=f) (a:=a) (m:=4) aa
  exact⟨KG.start hp aa aa,hd.next.next⟩
 |j+1=>by
  obtain⟨h1,h2⟩:=GX hd hp j
  unfold qK Ju DA
  generalize qK n f p (uO n f a) j=s at*
  obtain⟨k,t,b⟩:=s
  simp only at h1 h2 ⊢
  have hb:cY n f (if j=0 then b else bC n b):=by split;exact h2;exact h2.next
  generalize (if j=0 then b else bC n b)=a1 at*
  split
  ·have x1:=iO (n:=n) (f:=f) (a:=a1) (m:=3) aa
   have x2:=iP (n:=n) (f:=f) (a:=a1) (m:=3) aa
   have y1:=iO (n:=n) (f:=f) (a:=bC n a1) (m:=2) aa
   have y2:=iP (n:=n) (f:=f) (a:=bC n a1) (m:=2) aa
   refine⟨h1.next (.inl ?_),hb.next.next⟩
   generalize ct n f a1 3=x at*
   generalize ct n f (bC n a1) 2=y at*
   have key:∃z:Int,((1+x:Int):Rat)/((1+y:Int):Rat)=(z:Rat)/2/\1<=z/\z<=6:=by
    rcases(show y=0\/y=1 by omega)with h|h
    ·subst h
     refine⟨2*(1+x),?_,aa,aa⟩
     have:((2*(1+x):Int):Rat)=2*((1+x:Int):Rat):=by simp
     rw[this]
     generalize ((1+x:Int):Rat)=w
     simp;grind
    ·subst h
     exact⟨1+x,by simp,aa,aa⟩
   obtain⟨z,e,z1,z2⟩:=key
   rw[e]
   refine⟨?_,z,rfl,z2⟩
   have:(1:Rat)<=(z:Rat):=by exact_mod_cast z1
   grind
  ·rename_i hc
   have hc1:¬j=0:=fun h=>hc (.inl h)
   have hc2:¬t=k (j+1):=fun h=>hc (.inr (.inr h))
   exact⟨h1.next (.inr ⟨rfl,aa,hc2⟩),hb⟩
theorem MU {z:Int} (h1:-2^63<=z) (h2:z<2^63):Sz ((z:Rat)/2) 64:=by
 have:=JQ h1 h2 (y:=2) aa aa aa
 simpa using this
theorem KG.sz {p j:Nat} {k:Nat->Rat} {t:Rat} (h:KG p j k t) (hj:j<2^50):Sz t 64:=by
 obtain⟨z,e,h1,h2⟩:=h.half (p+j) aP
 rw[h.top]at e
 rw[e]
 exact MU aa aa
def Ol (n:Nat) (f:Nat->AV) (a:Int):Int:=bC n (JU n f a)
def IL (n:Nat) (f:Nat->AV) (a:Int):Nat->Int
 |0=>a
 |j+1=>Ol n f (IL n f a j)
theorem cY.Es {n:Nat} {f:Nat->AV} {a:Int} (h:cY n f a):∀j,cY n f (IL n f a j)
 |0=>h
 |j+1=>(h.Es j).My.next
theorem cY.nL {n:Nat} {f:Nat->AV} {a:Int} {p m:Nat} (h:cY n f a) (hp:1<=p):cY n f (UC n f a p m):=(GX h hp _).2
def nE:bp:=zG::(91,xZ)::(93,g8 kR kR uz mc)::ic
abbrev zT:Code:=aG f31
abbrev uH:Code:=part zT [1,1,1,1,0,1,0,0]
abbrev wM:Code:=part uH [1,0,0]
abbrev pq:Code:=part zT [1,1,1,1,1]
abbrev qg:List Nat:=[0,1,6,7,8,9]
abbrev Ac (m n:Nat) (p q:Nat->Rat) (i:Nat):List AV:=[aV p (m+1) ag,aV q (n+1) ag,.int .i64 m,.int .i64 n,.own 0 3 0 (m+n+1),.int .i64 i]
abbrev u6:List Nat:=[0,1,6,7,8,9,10]
abbrev Dp (m n:Nat) (p q:Nat->Rat) (i j:Nat):List AV:=[aV p (m+1) ag,aV q (n+1) ag,.int .i64 m,.int .i64 n,.own 0 3 0 (m+n+1),.int .i64 i,.int .i64 j]
abbrev tT:List Nat:=[6,7,8,12]
abbrev BQ (m n k:Nat):List AV:=[.int .i64 m,.int .i64 n,.own 0 3 0 (m+n+1),.int .i64 k]
abbrev lR (m n:Nat) (x:Nat->Rat):aD:=[(0,bS (m+n+1) x ag)]
theorem Mh:aZ 31 f31:=bf func31
theorem MB {m n:Nat} {p q:Nat->Rat}:aF T nE [200022] 60 qg (before zT [1,1,1,1,0,1]) ⟨aQ 0 [aV p (m+1) ag,aV q (n+1) ag],[],0⟩=
  let c4:Int:=(↑(m+1):Int)-1;let c3:Int:=(↑(n+1):Int)-1;let c2:Int:=(2:Int)^63;let c1:Int:=c4+c3;let c5:Int:=c1+1;some (aj [-c2<=c4/\c4<c2,-c2<=c3/\c3<c2] (aj [-c2<=c1/\c1<c2] (aj [decide (c1>40)=false] (aj [-c2<=c1/\c1<c2,-c2<=c5/\c5<c2,(0:Int)<=c5/\c5<=c5/\c5<=2^47/\c5*(↑(56:Nat):Int)<=2^47] (leaf normal ([ak 3 (m+1) fun i=>rat (p i) ag,ak 3 (n+1) fun i=>rat (q i) ag,int i64 c4,int i64 c3,own 73728 3 0 c5.toNat,int i64 0],[(73728,ax.mk true true 3 c5.toNat fun x=>rat 0 1)])))))):=ah
theorem QH {m n i:Nat} {p q x:Nat->Rat}:aF T nE [30] 60 qg (before uH [1,0]) ⟨aC qg (Ac m n p q i),lR m n x,1⟩=
  let c1:List AV×aD:=([ak 3 (m+1) fun i=>rat (p i) ag,ak 3 (n+1) fun i=>rat (q i) ag,int i64 (↑m:Int),int i64 (↑n:Int),own 0 3 0 (m+n+1),int i64 (↑i:Int)],[(0,ax.mk true true 3 (m+n+1) fun i=>rat (x i) ag)]);some (fork (decide ((↑i:Int)<=(↑m:Int))) (leaf normal c1) (leaf (exit 0) c1)):=ah
theorem RS {m n i:Nat} {p q x:Nat->Rat}:aF T nE [] 60 u6 (before wM [1]) ⟨aC qg (Ac m n p q i),lR m n x,1⟩=
  some (leaf normal ([ak 3 (m+1) fun i=>rat (p i) ag,ak 3 (n+1) fun i=>rat (q i) ag,int i64 (↑m:Int),int i64 (↑n:Int),own 0 3 0 (m+n+1),int i64 (↑i:Int),int i64 0],[(0,ax.mk true true 3 (m+n+1) fun i=>rat (x i) ag)])):=ah
theorem S0 {m n i j:Nat} {p q x:Nat->Rat}:aF T nE [35] 60 u6 [part wM [1,0,0]] ⟨aC u6 (Dp m n p q i j),lR m n x,1⟩=
  let c13:Int:=(↑m:Int);let c11:Nat:=64+64;let c10:Int:=(↑n:Int);let c9:Int:=(↑i:Int);let c8:AV:=ak 3 (n+1) fun i=>rat (q i) ag;let c7:AV:=ak 3 (m+1) fun i=>rat (p i) ag;let c5:Int:=(↑j:Int);let c4:Int:=(2:Int)^63;let c3:Nat:=m+n+1;let c2:Nat:=2^41;let c15:Int:=c5+1;let c12:AV:=own 0 3 0 c3;let c1:Int:=c9+c5;let c14:Prop:=(0:Int)<=c1/\c1.toNat<c3;let c6:Nat:=c1.toNat+0;some (fork (decide (c5<=c10)) (aj [(0:Int)<=c9,c9<=c13,c13<=40,(0:Int)<=c5,c5<=c10,c10<=40,(64:Nat)<c2,(64:Nat)<c2,(0:Nat)<1] (aj [-c4<=c1/\c1<c4,-c4<=c1/\c1<c4,c14,c6<c3,(0:Nat)<1,(0:Int)<=c9/\c9.toNat<m+1,(0:Int)<=c5/\c5.toNat<n+1,ag<c2,ag<c2,c11<c2,ag+ag<c2,ag<c2,c11+(ag+ag)<c2,c14,c6<c3] (aj [-c4<=c15/\c15<c4] (leaf normal ([c7,c8,int i64 c13,int i64 c10,c12,int i64 c9,int i64 c15],[(0,ax.mk true true 3 c3 fun j=>rat (bif j==c6 then x c6+(↑(↑(bn c13.toNat c9.toNat):Int):Rat)*(↑(↑(bn c10.toNat c5.toNat):Int):Rat)*(p c9.toNat*q c5.toNat)else x j) (bif j==c6 then ag+(c11+(ag+ag))+1 else ag))]))))) (leaf (exit 2) ([c7,c8,int i64 c13,int i64 c10,c12,int i64 c9,int i64 c5],[(0,ax.mk true true 3 c3 fun i=>rat (x i) ag)]))):=ah
theorem Vd {m n i j:Nat} {p q x:Nat->Rat}:aF T nE [] 60 qg (behind wM [1]++[part uH [1,1]]) ⟨aC u6 (Dp m n p q i j),lR m n x,1⟩=
  let c1:Int:=(↑i:Int)+1;some (aj [-(2:Int)^63<=c1/\c1<2^63] (leaf normal ([ak 3 (m+1) fun i=>rat (p i) ag,ak 3 (n+1) fun i=>rat (q i) ag,int i64 (↑m:Int),int i64 (↑n:Int),own 0 3 0 (m+n+1),int i64 c1],[(0,ax.mk true true 3 (m+n+1) fun i=>rat (x i) ag)]))):=ah
theorem OV {m n i:Nat} {p q x:Nat->Rat}:aF T nE [] 60 tT (before pq [0,1]) ⟨aC qg (Ac m n p q i),lR m n x,1⟩=
  some (leaf normal ([int i64 (↑m:Int),int i64 (↑n:Int),own 0 3 0 (m+n+1),int i64 0],[(0,ax.mk true true 3 (m+n+1) fun i=>rat (x i) ag)])):=ah
theorem adu {m n k:Nat} {x:Nat->Rat}:aF T nE [72] 60 tT [part pq [0,1,0,0]] ⟨aC tT (BQ m n k),lR m n x,1⟩=
  let c4:Int:=(2:Int)^63;let c3:Nat:=m+n+1;let c2:Int:=(↑k:Int);let c1:Int:=(↑m:Int)+(↑n:Int);let c8:Int:=c2+1;let c7:Prop:=(0:Int)<=c2/\c2.toNat<c3;let c6:AV:=own 0 3 0 c3;let c5:Nat:=c2.toNat+0;some (aj [-c4<=c1/\c1<c4] (fork (decide (c2<=c1)) (aj [c7,c5<c3,-c4<=c1/\c1<c4,(0:Int)<=c2,c2<=c1,c1<=40,ag<2^41,(64:Nat)<2^41,c7,c5<c3] (aj [-c4<=c8/\c8<c4] (leaf normal ([int i64 (↑m:Int),int i64 (↑n:Int),c6,int i64 c8],[(0,ax.mk true true 3 c3 fun j=>rat (bif j==c5 then x c5/(↑(↑(bn c1.toNat c2.toNat):Int):Rat)else x j) (bif j==c5 then ag+64 else ag))])))) (leaf (exit 4) ([int i64 (↑m:Int),int i64 (↑n:Int),c6,int i64 c2],[(0,ax.mk true true 3 c3 fun i=>rat (x i) ag)])))):=ah
theorem acC {m n k:Nat} {x:Nat->Rat}:cG T nE [] 60 f31 [part pq [1]] ⟨aC tT (BQ m n k),lR m n x,1⟩=
  some (leaf ret [ak 3 (m+n+1) fun i=>rat (x (i+0)) ag,int i64 0]):=ah
theorem Dh:bI P nE:=fu (aI Ba (aI (iG fun _ _ K hn=>xK hn.1 hn.2 K) iE))
def jQ (m n:Nat) (p q:Nat->Rat) (i j k:Nat):Rat:=sg (fun i=>sg (fun j=>if i+j=k then bq m i*p i*(bq n j*q j)else 0) (n+1)) i+sg (fun j=>if i+j=k then bq m i*p i*(bq n j*q j)else 0) j
theorem Rm {m n i k:Nat} {p q:Nat->Rat}:jQ m n p q i (n+1) k=jQ m n p q (i+1) 0 k:=(Rat.add_zero _).symm
theorem R8 {m n i j:Nat} {p q:Nat->Rat}:jQ m n p q i j (i+j)+bq m i*bq n j*(p i*q j)=jQ m n p q i (j+1) (i+j):=by
 unfold jQ
 show _=_+(sg _ j+(if i+j=i+j then bq m i*p i*(bq n j*q j)else 0))
 rw[if_pos rfl];grind
theorem ac7 {m n i j k:Nat} {p q:Nat->Rat} (h:k≠i+j):jQ m n p q i j k=jQ m n p q i (j+1) k:=by
 unfold jQ
 show _=_+(sg _ j+(if i+j=k then bq m i*p i*(bq n j*q j)else 0))
 rw[if_neg (fun e=>h e.symm),Rat.add_zero]
theorem NZ {m n k:Nat} {p q:Nat->Rat}:jQ m n p q (m+1) 0 k/bq (m+n) k=jb m n p q k:=by
 unfold jb
 rw[show jQ m n p q (m+1) 0 k=je m n (fun i=>bq m i*p i) (fun j=>bq n j*q j) k from Rat.add_zero _]
def nw (m n:Nat) (p q:Nat->Rat) (k t:Nat):Rat:=if t<k then jb m n p q t else jQ m n p q (m+1) 0 t
theorem CI {m n k t:Nat} {p q:Nat->Rat} (h:t<k):nw m n p q k t=jb m n p q t:=if_pos h
theorem YM {m n k:Nat} {p q:Nat->Rat}:nw m n p q k k/bq (m+n) k=nw m n p q (k+1) k:=by
 rw[CI (Nat.lt_succ_self _)];unfold nw;rw[if_neg (Nat.lt_irrefl _)];exact NZ
theorem UE {m n k t:Nat} {p q:Nat->Rat} (h:t≠k):nw m n p q k t=nw m n p q (k+1) t:=by
 unfold nw
 by_cases h3:t<k
 ·rw[if_pos h3,if_pos aa]
 ·rw[if_neg h3,if_neg aa]
def yg (m n:Nat) (p q:Nat->Rat):Prop:=(∀i j k,i<=m+1->j<=n+1->k<m+n+1->Sz (jQ m n p q i j k) ag)/\∀k,k<m+n+1->Sz (jb m n p q k) ag
theorem abp {m n:Nat} {p q:Nat->Rat} (hmn:m+n<=40) (hz:yg m n p q) (K:Nat):aO P 31 K [aV p (m+1) ag,aV q (n+1) ag] [] (aJ (.tuple [aV (jb m n p q) (m+n+1) ag,.int .i64 0]) []):=by
 refine gB (r:=aJ (.tuple [aV (jb m n p q) (m+n+1) ag,.int .i64 0]) []) hT Mh rfl aX rfl (fun _ cx h0=>?_) K []
 have hk:=j9 h0
 have hW:=dw
 refine au.ov hT Dh hm (x:=zT) [1,1,1,1,0,1] (i:=0) (y:=uH) (z:=pq) ah ah ah Mh.dst [1,0] (j:=1) (x1:=wM) (zb:=part uH [1,1]) ah ah ah [1] (i2:=2) (y2:=part wM [1,0,0]) ah ah rfl hk
  (f1:=[200022]) (f2:=[30]) (f3:=[]) (f4:=[35]) (f5:=[]) 60 qg u6 1 1 (fun i:Nat=>Ac m n p q i) (fun i=>lR m n (jQ m n p q i 0)) (fun i=>i<=m+1) (fun i=>i=m+1) (fun i=>m+1-i) (fun i=>i<m+1) (fun _=>False) (fun _=>False)
  (fun i (j:Nat)=>Dp m n p q i j) (fun i j=>lR m n (jQ m n p q i j)) (fun _ j=>j<=n+1) (fun _ j=>j=n+1) (fun _ j=>n+1-j)
  ⟨_,MB,?_⟩ (fun i hi=>⟨_,QH,?_⟩) (fun i hi hG=>⟨_,RS,?_⟩) (fun i hi hG j hj=>⟨_,S0,?_⟩) (fun i hi hG j hj=>⟨_,Vd,?_⟩) (fun i hi=>?_) (fun _ _ h=>h.elim) (fun _ _ h=>h.elim)
 ·have e1:((m+1:Nat):Int)-1=(m:Nat):=aa
  have e2:((n+1:Nat):Int)-1=(n:Nat):=aa
  have e3:((m:Int)+(n:Int)+1).toNat=m+n+1:=aa
  simp only[af.all,az,e1,e2,e3,bB]
  exact⟨aa,aa,aa,aa,0,Nat.zero_le _,[(0,73728)],rfl,rfl,rfl,bg rfl rfl rfl (fun k hk=>.inr ⟨rfl,dj (by show(0:Rat)=0+0;rw[Rat.add_zero]) aa⟩) trivial⟩
 ·simp only[af.all,az,bz,bB]
  exact⟨fun h=>⟨aa,[(0,0)],rfl,rfl,rfl,bg rfl rfl rfl (fun i hi=>bH rfl rfl) trivial⟩,fun h=>⟨rfl,i,aa,[(0,0)],rfl,rfl,rfl,bg rfl rfl rfl (fun i hi=>bH rfl rfl) trivial⟩⟩
 ·simp only[af.all,az]
  exact⟨0,Nat.zero_le _,[(0,0)],rfl,rfl,rfl,bg rfl rfl rfl (fun i hi=>bH rfl rfl) trivial⟩
 ·have e1:((i:Int)+(j:Int)).toNat=i+j:=aa
  simp only[af.all,az,e1,bz,bB,bw,Nat.add_zero]
  refine⟨fun h=>⟨⟨aa,aa,aa,aa,aa,aa,aa,aa,aa⟩,⟨aa,aa,aa,aa,aa,aa,aa,aa,aa,aa,aa,aa,aa,aa,aa⟩,aa,j+1,aa,by dsimp only;omega,[(0,0)],rfl,by rw[show(j:Int)+1=((j+1:Nat):Int) by omega];rfl,rfl,bg rfl rfl rfl (fun k hk=>kM (dF R8 (hz.1 i (j+1) _ aa aa aa)) fun hne=>dj (ac7 hne) aP) trivial⟩,
   fun h=>⟨rfl,j,aa,[(0,0)],rfl,rfl,rfl,bg rfl rfl rfl (fun i hi=>bH rfl rfl) trivial⟩⟩
 ·subst hj
  simp only[af.all,az]
  exact⟨aa,i+1,aa,by dsimp only;omega,[(0,0)],rfl,by rw[show(i:Int)+1=((i+1:Nat):Int) by omega];rfl,rfl,bg rfl rfl rfl (fun k hk=>bH rfl (by rw[Rm])) trivial⟩
 ·subst hi
  refine au.nP hT Dh hm (x:=pq) [0,1] (i:=4) (y:=part pq [0,1,0,0]) (z:=part pq [1]) ah ah ah ah hk (f1:=[]) (f2:=[72]) 60 tT 1 (fun k:Nat=>BQ m n k) (fun k=>lR m n (nw m n p q k))
   (fun k=>k<=m+n+1) (fun k=>k=m+n+1) (fun k=>m+n+1-k) (fun _=>False) ⟨_,OV,?_⟩ (fun k hk=>⟨_,adu,?_⟩) (fun k hk=>?_) (fun _ _ h=>h.elim)
  ·simp only[af.all,az]
   exact⟨0,Nat.zero_le _,[(0,0)],rfl,rfl,rfl,bg rfl rfl rfl (fun i hi=>bH rfl rfl) trivial⟩
  ·have e1:((m:Int)+(n:Int)).toNat=m+n:=aa
   simp only[af.all,az,e1,bz,bB,bw,Nat.add_zero]
   refine⟨aa,fun h=>⟨⟨aa,aa,aa,aa,aa,aa,aa,aa,aa,aa⟩,aa,k+1,aa,by dsimp only;omega,[(0,0)],rfl,by rw[show(k:Int)+1=((k+1:Nat):Int) by omega];rfl,rfl,bg rfl rfl rfl (fun t ht=>kM (y:=nw m n p q (k+1)) (dF YM (by rw[CI (Nat.lt_succ_self _)];exact hz.2 k aa)) fun hne=>dj (UE hne) aP) trivial⟩,
    fun h=>⟨rfl,k,aa,[(0,0)],rfl,rfl,rfl,bg rfl rfl rfl (fun i hi=>bH rfl rfl) trivial⟩⟩
  ·subst hk
   refine au.kG ((aE.fin hT Dh hm 60 acC ah ?_).mono fun _ _ h=>.inl h)
   exact⟨gk fun i hi=>dj (by rw[Nat.add_zero];exact CI hi) aP,.refl _,trivial⟩
def LY:Spec:=dU (kC (kL ag) (kC (kL ag) kN)) (fun a=>.tuple [aV (jb (a.1.1-1) (a.2.1.1-1) a.1.2 a.2.1.2) (a.1.1-1+(a.2.1.1-1)+1) ag,.int .i64 0]) fun a=>[1<=a.1.1,1<=a.2.1.1,a.1.1+a.2.1.1<=42,yg (a.1.1-1) (a.2.1.1-1) a.1.2 a.2.1.2]
theorem UM:aY P LY 31:=dD fun⟨⟨m,p⟩,⟨n,q⟩,_⟩ K hn=>by
 obtain⟨h1,h2,h3,h4⟩:=hn
 have h1:1<=m:=h1
 have h2:1<=n:=h2
 have h3:m+n<=42:=h3
 obtain⟨m,rfl⟩:∃x,m=x+1:=⟨m-1,aa⟩
 obtain⟨n,rfl⟩:∃x,n=x+1:=⟨n-1,aa⟩
 exact abp aa h4 K
def yP:bp:=nG::(44,kn wm)::(87,kn Em)::[]
abbrev ua:Code:=aG f28
abbrev tJ:List Nat:=[0,5,6]
abbrev xO (j:Nat) (t:Int):List AV:=[.ptr 0 0 2 0 [],.own 1 3 0 j,.int .i64 t]
abbrev Ax (n:Nat) (z:Nat->Int) (a:Int) (k:Nat->Rat) (j:Nat):aD:=[(1,bS j k 64),(0,mP n z a)]
def zk:bp:=nG::(96,Ct)::ic
abbrev uF:Code:=aG f55
abbrev vS:List Nat:=[0,3,4]
abbrev CS (n:Nat) (z:Nat->Int) (i:Nat):List AV:=[.ak 1 n fun i=>.int .i64 (z i),.own 0 3 0 i,.int .i64 i]
theorem EW:aZ 28 f28:=bf func28
theorem WE:aZ 55 f55:=bf func55
theorem Ut {n:Nat} {z:Nat->Int} {a d:Int}:aF T yP [] 60 tJ (before ua [1,1,0,1]) ⟨aQ 0 [.ptr 0 0 2 0 [],.int .i64 d],[(0,mP n z a)],1⟩=
  let c1:Int:=d+1;some (aj [-(2:Int)^63<=c1/\c1<2^63,cY n (fun i=>int i64 (z i)) a,(0:Int)<c1,c1<2^62] (leaf normal ([ptr 0 0 2 0 [],nil,int i64 (ct n (fun i=>int i64 (z i)) a c1)],[(0,ax.mk false true 2 1 fun x=>agg [ak 1 n fun i=>int i64 (z i),int i64 (bC n a)])]))):=ah
theorem Qs {n j:Nat} {z:Nat->Int} {a t:Int} {k:Nat->Rat}:aF T yP [12] 60 tJ [part ua [1,1,0,1,0,0]] ⟨aC tJ (xO j t),Ax n z a k j,2⟩=
  let c2:AV:=ak 1 n fun i=>int i64 (z i);let c1:AV:=ptr 0 0 2 0 [];some (fork (decide (t>=0)) (aj [cY n (fun i=>int i64 (z i)) a,(1:Nat)*3<=2^24,(j+1)*((56:Nat)+1)*2<=2^47] (aj [-(2:Int)^63<=t-1/\t-1<(2:Int)^63] (leaf normal ([c1,own 24578 3 0 (j+1),int i64 (t-1)],[(24578,ax.mk true true 3 (j+1) fun i=>if i<j then rat (k i) 64 else nth [rat (pS n (fun i=>int i64 (z i)) a) 64] (rat 0 1) (i-j+0)),(0,ax.mk false true 2 1 fun x=>agg [c2,int i64 (mu n (fun i=>int i64 (z i)) a)])])))) (leaf (exit 0) ([c1,own 1 3 0 j,int i64 t],[(1,ax.mk true true 3 j fun i=>rat (k i) 64),(0,ax.mk false true 2 1 fun x=>agg [c2,int i64 a])]))):=ah
theorem RN {n j:Nat} {z:Nat->Int} {a t:Int} {k:Nat->Rat}:zu T yP [] 60 f28 [part ua [1,1,1]] ⟨aC tJ (xO j t),Ax n z a k j,2⟩=
  some (leaf ret ([ak 3 j fun i=>rat (k (i+0)) 64],some (ax.mk false true 2 1 fun x=>agg [ak 1 n fun i=>int i64 (z i),int i64 a]))):=ah
theorem ab6 {n:Nat} {z:Nat->Int}:aF T zk [] 60 vS (before uF [1,1,0,1]) ⟨aQ 0 [.ak 1 n fun i=>.int .i64 (z i)],[],0⟩=
  some (leaf normal ([ak 1 n fun i=>int i64 (z i),nil,int i64 0],[])):=ah
theorem Xd {n i:Nat} {z:Nat->Int} {k:Nat->Rat}:aF T zk [10] 60 vS [part uF [1,1,0,1,0,0]] ⟨aC vS (CS n z i),[(0,bS i k 64)],1⟩=
  let c3:AV:=ak 1 n fun i=>int i64 (z i);let c2:Int:=(2:Int)^63;let c1:Int:=(↑i:Int);let c5:Int:=z c1.toNat;let c4:Int:=c1+1;some (fork (decide (c1<(↑n:Int))) (aj [(0:Int)<=c1/\c1.toNat<n,-c2<=c5,c5<c2,(1:Nat)*3<=2^24,(i+1)*((56:Nat)+1)*2<=2^47] (aj [-c2<=c4/\c4<c2] (leaf normal ([c3,own 45057 3 0 (i+1),int i64 c4],[(45057,ax.mk true true 3 (i+1) fun i_1=>if i_1<i then rat (k i_1) 64 else nth [rat (↑c5:Rat) (Max.max 1 (bJ c5.natAbs))] (rat 0 1) (i_1-i+0))])))) (leaf (exit 0) ([c3,own 0 3 0 i,int i64 c1],[(0,ax.mk true true 3 i fun i=>rat (k i) 64)]))):=ah
theorem TD {n i:Nat} {z:Nat->Int} {k:Nat->Rat}:cG T zk [] 60 f55 [part uF [1,1,1]] ⟨aC vS (CS n z i),[(0,bS i k 64)],1⟩=
  some (aj [cV (fun i=>.rat (k (i+0)) 64) i ag,(1:Nat)<=i,i<=41,iy i fun i=>aT (.rat (k (i+0)) 64)] (leaf ret [aV (eR i fun i=>aT (.rat (k (i+0)) 64)) i ag])):=ah
theorem FZ {rl:List (Nat×Nat)} {l i s s' s2:Nat} {x y:Nat->Rat} {t:Rat} {z:AV} (hx:∀i,i<l->x i=y i) (ht:bA (.rat t s') (.rat (y l) s2)) (h1:s<=s2) (hi:i<l+1):nS rl (if i<l then .rat (x i) s else nth [.rat t s'] z (i-l+0)) (.rat (y i) s2):=by
 by_cases h:i<l
 ·rw[if_pos h,hx i h];exact .inr ⟨rfl,dj rfl h1⟩
 ·obtain rfl:i=l:=aa
  rw[if_neg h,Nat.sub_self]
  exact .inr ⟨rfl,ht⟩
def wH (n:Nat) (f:Nat->AV) (a:Int):Nat->Int
 |0=>a
 |j+1=>mu n f (wH n f a j)
theorem cY.numbers {n:Nat} {f:Nat->AV} {a:Int} (h:cY n f a):∀j,cY n f (wH n f a j)
 |0=>h
 |j+1=>(h.numbers j).number
def o9 (n:Nat) (f:Nat->AV) (a d:Int):Nat:=(ct n f a (d+1)).toNat+1
def qR (n:Nat) (f:Nat->AV) (a:Int) (i:Nat):Rat:=pS n f (wH n f (bC n a) i)
def qz (n:Nat) (f:Nat->AV) (a d:Int):Int:=wH n f (bC n a) (o9 n f a d)
def DD (n:Nat) (f:Nat->AV) (a:Int) (l:List AV):Option (AV×Int×List Prop):=match l with
 |[.int .i64 d]=>some (aV (qR n f a) (o9 n f a d) 64,qz n f a d,[0<=d,d<900])
 |_=>none
theorem Lu:bI P yP:=jr (aI Dg (aI Ta bY))
theorem ac9 {k n:Nat} {z:Nat->Int} {a d:Int} {o:ax} (ho:∀ρ,de ρ o (mP n z a)) (h:cY n (fun i=>.int .i64 (z i)) a) (hd1:0<=d) (hd2:d<900) (K:Nat):
  aO P 28 K [.ptr k 0 2 0 [],.int .i64 d] [(k,o)] ⟨aV (qR n (fun i=>.int .i64 (z i)) a) (o9 n (fun i=>.int .i64 (z i)) a d) 64,[(k,mP n z (qz n (fun i=>.int .i64 (z i)) a d))],[]⟩:=by
 refine Hy hT EW rfl rfl aX ho (fun _ c hk=>?_) K
 have a1:=iO (n:=n) (f:=fun i=>.int .i64 (z i)) (a:=a) (m:=d+1) aa
 have a2:=iP (n:=n) (f:=fun i=>.int .i64 (z i)) (a:=a) (m:=d+1) aa
 unfold qz
 obtain⟨N,hN⟩:∃N,N=o9 n (fun i=>.int .i64 (z i)) a d:=⟨_,rfl⟩
 have hN2:ct n (fun i=>.int .i64 (z i)) a (d+1)=(N:Int)-1:=by rw[hN];unfold o9;omega
 rw[<-hN]
 refine au.nP hT Lu hm [1,1,0,1] (i:=0) (y:=part ua [1,1,0,1,0,0]) (z:=part ua [1,1,1]) ah ah ah EW.dst hk (f1:=[]) (f2:=[12]) 60 tJ 2 (fun j:Nat=>xO j ((N:Int)-1-j))
  (fun j=>Ax n z (wH n (fun i=>.int .i64 (z i)) (bC n a) j) (qR n (fun i=>.int .i64 (z i)) a) j) (fun j=>j<=N) (fun j=>j=N) (fun j=>N-j) (fun _=>False) ⟨_,Ut,?_⟩ (fun j hj=>⟨_,Qs,?_⟩) (fun j hj=>?_) (fun _ _ h=>h.elim)
 ·simp only[af.all,az,hN2]
  exact⟨⟨aa,h,aa,aa⟩,0,Nat.zero_le _,[(0,0)],rfl,by show _=List.map (jG [(0,0)]) (xO 0 ((N:Int)-1-((0:Nat):Int)));rw[show(N:Int)-1-((0:Nat):Int)=N-1 by omega];rfl,rfl,kP rfl aa aa (cZ trivial)⟩
 ·simp only[af.all,az,bz,bB]
  refine⟨fun h2=>⟨⟨h.next.numbers j,aa,aa⟩,aa,j+1,aa,by dsimp only;omega,[(0,0),(1,24578)],rfl,by rw[show(N:Int)-1-(j:Int)-1=(N:Int)-1-((j+1:Nat):Int) by omega];rfl,rfl,
   bg rfl rfl rfl (fun i hi=>FZ (fun _ _=>rfl) (.refl _) aP hi) (cZ trivial)⟩,
   fun h2=>⟨rfl,j,aa,[(0,0),(1,1)],rfl,rfl,rfl,k8 (cZ trivial)⟩⟩
 ·subst hj
  refine au.kG (aE.Ev hT Lu hm 60 RN ah ?_)
  simp only[af.all,az]
  exact⟨.refl _,_,rfl,rfl,sN rfl rfl⟩
theorem RE:aY P (kn DD) 28:=by
 refine y9 fun {k n z a l v b q o} K hg ho hd hq=>?_
 unfold DD at hg
 split at hg
 ·rename_i d
  simp only[ay,Prod.mk.injEq]at hg
  obtain⟨rfl,rfl,rfl⟩:=hg
  exact ac9 ho hd hq.1 hq.2 K
 ·simp at hg
theorem abe:bI P zk:=jr (aI JD iE)
def dN (z:Nat->Int) (i:Nat):Rat:=(z i:Int)
theorem Ap {n:Nat} {z:Nat->Int} (h1:1<=n) (h2:n<=41) (hz:∀i,i<n->-2^62<=z i/\z i<2^62) (hf:iy n (dN z)) (K:Nat):aO P 55 K [.ak 1 n fun i=>.int .i64 (z i)] [] (aJ (aV (eR n (dN z)) n ag) []):=by
 have hW:=dw
 refine iZ (r:=aJ (aV (eR n (dN z)) n ag) []) hT abe hm WE rfl aX rfl [1,1,0,1] (i:=0) (y:=part uF [1,1,0,1,0,0]) (z:=part uF [1,1,1]) ah ah ah (f1:=[]) (f2:=[10]) (f3:=[]) 60 vS 1
  (fun i:Nat=>CS n z i) (fun i=>[(0,bS i (dN z) 64)]) (fun i=>i<=n) (fun i=>i=n) (fun i=>n-i) (fun _=>⟨⟨_,ab6,?_⟩,fun i hi=>⟨_,Xd,?_⟩,fun i hi=>⟨_,TD,?_⟩⟩) K []
 ·simp only[af.all,az]
  exact⟨0,Nat.zero_le _,[],rfl,rfl,rfl,kP rfl aa aa trivial⟩
 ·simp only[af.all,az,bz,bB,bw]
  refine⟨fun h=>⟨⟨aa,by have:=hz i aa;omega,by have:=hz i aa;omega,aa,aa⟩,aa,i+1,aa,by dsimp only;omega,[(0,45057)],rfl,by rw[show(i:Int)+1=((i+1:Nat):Int) by omega];rfl,rfl,bg rfl rfl rfl (fun j hj=>FZ (fun _ _=>rfl) (dF rfl (zI (y:=0) (by have:=hz i aa;omega) (by have:=hz i aa;omega))) aP hj) trivial⟩,
   fun h=>⟨rfl,i,aa,[(0,0)],rfl,rfl,rfl,k8 trivial⟩⟩
 ·subst hi
  simp only[af.all,az]
  exact⟨⟨dg aa,h1,h2,hf⟩,.refl _⟩
def Fg:Spec:=bR fun l=>match l with
 |[.ak 1 n f]=>some (aJ (aV (eR n (dN fun i=>intOf (f i))) n ag) [1<=n,n<=41,∀i,i<n->f i=.int .i64 (intOf (f i)),∀i,i<n->-2^62<=intOf (f i)/\intOf (f i)<2^62,iy n (dN fun i=>intOf (f i))])
 |_=>none
def nJ:bp:=nG::(44,kn wm)::(28,kn DD)::(55,Fg)::(51,Gn)::(52,v5)::(31,LY)::ic
abbrev pE:Code:=aG f13
abbrev oG:Code:=part pE [1,1,0,1,0,0]
abbrev o8:Code:=part oG [1,0,0]
abbrev j7:List Nat:=[0,3,4]
abbrev oI (p:PP) (t:Int):List AV:=[.ptr 0 0 2 0 [],aK p,.int .i64 t]
abbrev ia (n:Nat) (z:Nat->Int) (a:Int):aD:=[(0,mP n z a)]
abbrev l7:List Nat:=[0,3,4,5,7]
abbrev mS (p q:PP) (t r:Int):List AV:=[.ptr 0 0 2 0 [],aK p,.int .i64 t,aK q,.int .i64 r]
def fh (n:Nat) (f:Nat->AV) (b:Int) (i:Nat):Int:=if i=0 then-ct n f b 4 else if i=1 then 0 else 1+ct n f (bC n b) 5
def qC (n:Nat) (f:Nat->AV) (a:Int):PP:=if ct n f a 4=0 then(o9 n f (bC n a) 2,qR n f (bC n a))else if ct n f a 4=1 then(3,eR 3 (dN (fh n f (bC n a))))else
 (2,fun i=>if i=0 then-j6 (ct n f (bC n a) 400)else 1-j6 (ct n f (bC n a) 400))
def iL (n:Nat) (f:Nat->AV) (a:Int):Int:=if ct n f a 4=0 then qz n f (bC n a) 2 else if ct n f a 4=1 then bC n (bC n (bC n a))else bC n (bC n a)
def oe (n:Nat) (f:Nat->AV) (a:Int):Nat:=1+(ct n f (iL n f a) 3).toNat/2
def nI (n:Nat) (f:Nat->AV) (a:Int):Int:=bC n (iL n f a)
def eE (n:Nat) (f:Nat->AV) (a:Int):Nat->PP×Int
 |0=>((1,fun _=>1),bC n a)
 |i+1=>(iu (eE n f a i).1 (qC n f (eE n f a i).2) (oe n f (eE n f a i).2),nI n f (eE n f a i).2)
def oP (n:Nat) (f:Nat->AV) (a:Int):Nat:=(ct n f a 4).toNat
def v9 (n:Nat) (f:Nat->AV) (a:Int):PP:=(eE n f a (oP n f a)).1
def Aq (n:Nat) (f:Nat->AV) (a:Int):Int:=(eE n f a (oP n f a)).2
def L6 (p q:PP):Prop:=1<=p.1/\1<=q.1/\p.1+q.1<=42/\yg (p.1-1) (q.1-1) p.2 q.2
def x9 (n:Nat) (f:Nat->AV) (a:Int):Prop:=∀i,i<oP n f a->(ct n f (eE n f a i).2 4=1->iy 3 (dN (fh n f (bC n (eE n f a i).2))))/\∀j,j<oe n f (eE n f a i).2->L6 (iu (eE n f a i).1 (qC n f (eE n f a i).2) j) (qC n f (eE n f a i).2)
def Bx (n:Nat) (f:Nat->AV) (a:Int) (l:List AV):Option (AV×Int×List Prop):=match l with
 |[]=>some (aK (v9 n f a),Aq n f a,[x9 n f a])
 |_=>none
theorem Lx:aZ 13 f13:=bf func13
theorem Ym {n:Nat} {z:Nat->Int} {a:Int}:aF T nJ [] 60 [0,3] (before pE [1,1]) ⟨aQ 0 [.ptr 0 0 2 0 []],ia n z a,1⟩=
  some (aj [-(2:Int)^63<=(1:Int),(1:Int)<2^63,(1:Nat)*3<=2^24] (leaf normal ([ptr 0 0 2 0 [],own 8193 3 0 1],[(8193,ax.mk true true 3 1 fun i=>nth [rat (↑(1:Int):Rat) (Max.max 1 (bJ (Int.natAbs (1:Int))))] (rat 0 1) i),(0,ax.mk false true 2 1 fun x=>agg [ak 1 n fun i=>int i64 (z i),int i64 a])]))):=ah
theorem aaQ {n:Nat} {z:Nat->Int} {a t r:Int} {p q:PP}:aF T nJ [] 60 l7 (before (part o8 [1,1,1]) []) ⟨aC l7 (mS p q t r),ia n z a,1⟩=
  some (leaf normal ([ptr 0 0 2 0 [],ak 3 p.fst fun i=>rat (p.snd i) ag,int i64 t,ak 3 q.fst fun i=>rat (q.snd i) ag,int i64 r],[(0,ax.mk false true 2 1 fun x=>agg [ak 1 n fun i=>int i64 (z i),int i64 a])])):=ah
theorem OT {n:Nat} {z:Nat->Int} {a:Int} {p:PP}:aF T nJ [] 60 j7 (before (part pE [1,1]) [0,1]) ⟨aC [0,3] [.ptr 0 0 2 0 [],aK p],ia n z a,1⟩=
  some (aj [cY n (fun i=>int i64 (z i)) a,(0:Int)<4,(4:Int)<2^62] (leaf normal ([ptr 0 0 2 0 [],ak 3 p.fst fun i=>rat (p.snd i) ag,int i64 (ct n (fun i=>int i64 (z i)) a (4:Int))],[(0,ax.mk false true 2 1 fun x=>agg [ak 1 n fun i=>int i64 (z i),int i64 (bC n a)])]))):=ah
theorem Ts {n:Nat} {z:Nat->Int} {a t:Int} {p:PP}:aF T nJ [13] 60 j7 (before oG [1,0]) ⟨aC j7 (oI p t),ia n z a,1⟩=
  let c1:List AV×aD:=([ptr 0 0 2 0 [],ak 3 p.fst fun i=>rat (p.snd i) ag,int i64 t],[(0,ax.mk false true 2 1 fun x=>agg [ak 1 n fun i=>int i64 (z i),int i64 a])]);some (fork (decide (t>0)) (leaf normal c1) (leaf (exit 0) c1)):=ah
theorem UQ {n:Nat} {z:Nat->Int} {a t:Int} {p:PP}:aF T nJ [27,31] 60 l7 (before o8 [1,1,1]) ⟨aC j7 (oI p t),ia n z a,1⟩=
  let c22:AV:=int i64 0;let c20:Prop:=(0:Int)<3;let c19:Prop:=0<1;let c18:Prop:=(2:Int)≠(0:Int);let c17:Int:=bC n a;let c16:Int:=ct n (fun i=>int i64 (z i)) a (4:Int);let c15:Nat:=Max.max 1 (bJ (Int.natAbs (1:Int)));let c13:AV:=ak 1 n fun i=>int i64 (z i);let c11:AV:=ptr 0 0 2 0 [];let c8:Int:=(2:Int)^62;let c7:AV:=ak 3 p.fst fun i=>rat (p.snd i) ag;let c4:Int:=(2:Int)^63;let c24:Prop:=(3:Int)<c8;let c14:Rat:=j6 (ct n (fun i=>int i64 (z i)) c17 (400:Int));let c12:Prop:=cY n (fun i=>int i64 (z i)) c17;let c10:Int:=qz n (fun i=>int i64 (z i)) c17 (2:Int);let c2:Int:=bC n c17;let c23:Int:=bC n c2;let c21:Prop:=cY n (fun i=>int i64 (z i)) c2;let c9:Int:=(1:Int)+ct n (fun i=>int i64 (z i)) c2 (5:Int);let c6:Int:=(1:Int)+i64.wrap ((ct n (fun i=>int i64 (z i)) c2 (3:Int)).tdiv (2:Int));let c1:Int:=(1:Int)+i64.wrap ((ct n (fun i=>int i64 (z i)) c10 (3:Int)).tdiv (2:Int));let c5:List AV:=[int i64 (i64.wrap ((0:Int)-ct n (fun i=>int i64 (z i)) c17 (4:Int))),c22,int i64 c9];let c3:Int:=(1:Int)+i64.wrap ((ct n (fun i=>int i64 (z i)) c23 (3:Int)).tdiv (2:Int));some (aj [cY n (fun i=>int i64 (z i)) a,(0:Int)<4,(4:Int)<c8] (fork (c16==0) (aj [c12,(0:Int)<=2,(2:Int)<900] (aj [cY n (fun i=>int i64 (z i)) c10,c20,c24,c18,-c4<=c1/\c1<c4] (leaf normal ([c11,c7,int i64 t,ak 3 (o9 n (fun i=>int i64 (z i)) c17 (2:Int)) fun i=>rat (qR n (fun i=>int i64 (z i)) c17 i) 64,int i64 c1],[(0,ax.mk false true 2 1 fun x=>agg [c13,int i64 (bC n c10)])])))) (fork (c16==1) (aj [c12,(0:Int)<4,(4:Int)<c8,c21,(0:Int)<5,(5:Int)<c8,-c4<=c9/\c9<c4,(3:Nat)*1<=2^24,(1:Nat)<=3,(3:Nat)<=41,∀(i:Nat),i<3->nth c5 c22 (i+0)=int i64 (intOf (nth c5 c22 (i+0))),∀(i:Nat),i<3->-c8<=intOf (nth c5 c22 (i+0))/\intOf (nth c5 c22 (i+0))<c8,iy 3 (dN fun i=>intOf (nth c5 c22 (i+0)))] (aj [cY n (fun i=>int i64 (z i)) c23,c20,c24,c18,-c4<=c3/\c3<c4] (leaf normal ([c11,c7,int i64 t,ak 3 3 fun i=>rat (eR 3 (dN fun i=>intOf (nth c5 c22 (i+0))) i) ag,int i64 c3],[(0,ax.mk false true 2 1 fun x=>agg [c13,int i64 (bC n c23)])])))) (aj [c12,(0:Int)<400,(400:Int)<c8,c19] (aj [c19,-c4<=1,(1:Int)<c4,c19,c15<2^41,(64:Nat)<2^41,(2:Nat)*3<=2^24] (aj [c21,c20,c24,c18,-c4<=c6/\c6<c4] (leaf normal ([c11,c7,int i64 t,own 69633 3 0 2,int i64 c6],[(69633,ax.mk true true 3 2 fun i=>nth [rat (-c14) 64,rat ((↑(1:Int):Rat)-c14) (c15+64+1)] (rat 0 1) i),(0,ax.mk false true 2 1 fun x=>agg [c13,int i64 c23])])))))))):=ah
theorem abj {n:Nat} {z:Nat->Int} {a t r:Int} {p q:PP}:aF T nJ [46] 60 l7 [part o8 [1,1,1,0,0]] ⟨aC l7 (mS p q t r),ia n z a,1⟩=
  let c5:Nat:=q.fst-1;let c4:Nat:=p.fst-1;let c3:AV:=ptr 0 0 2 0 [];let c2:AV:=ak 3 q.fst fun i=>rat (q.snd i) ag;let c1:Nat×ax:=(0,ax.mk false true 2 1 fun x=>agg [ak 1 n fun i=>int i64 (z i),int i64 a]);some (fork (decide (r>0)) (aj [cV (fun i=>rat (p.snd i) ag) p.fst ag,cV (fun i=>rat (q.snd i) ag) q.fst ag,(1:Nat)<=p.fst,(1:Nat)<=q.fst,p.fst+q.fst<=42,yg c4 c5 (fun i=>aT (rat (p.snd i) ag)) fun i=>aT (rat (q.snd i) ag)] (aj [-(2:Int)^63<=r-1/\r-1<(2:Int)^63] (leaf normal ([c3,ak 3 (c4+c5+1) fun i=>rat (jb c4 c5 (fun i=>aT (rat (p.snd i) ag)) (fun i=>aT (rat (q.snd i) ag)) i) ag,int i64 t,c2,int i64 (r-1)],[c1])))) (leaf (exit 3) ([c3,ak 3 p.fst fun i=>rat (p.snd i) ag,int i64 t,c2,int i64 r],[c1]))):=ah
theorem P1 {n:Nat} {z:Nat->Int} {a t r:Int} {p q:PP}:aF T nJ [] 60 j7 [part oG [1,1]] ⟨aC l7 (mS p q t r),ia n z a,1⟩=
  some (aj [-(2:Int)^63<=t-1/\t-1<(2:Int)^63] (leaf normal ([ptr 0 0 2 0 [],ak 3 p.fst fun i=>rat (p.snd i) ag,int i64 (t-1)],[(0,ax.mk false true 2 1 fun x=>agg [ak 1 n fun i=>int i64 (z i),int i64 a])]))):=ah
theorem aam {n:Nat} {z:Nat->Int} {a t:Int} {p:PP}:zu T nJ [] 60 f13 [part pE [1,1,1]] ⟨aC j7 (oI p t),ia n z a,1⟩=
  some (leaf ret ([ak 3 p.fst fun i=>rat (p.snd i) ag],some (ax.mk false true 2 1 fun x=>agg [ak 1 n fun i=>int i64 (z i),int i64 a]))):=ah
theorem adj:aY P Fg 55:=by
 refine cD fun K args r hk hs _=>?_
 split at hs
 ·rename_i n f
  simp only[ay]at hs
  subst hs
  intro need
  obtain⟨h1,h2,h3,h4,h5⟩:=need
  exact gz (Ap h1 h2 h4 h5 K) hk ⟨s4 rfl h3,trivial⟩ [] trivial
 ·simp at hs
theorem qB:bI P nJ:=jr (aI Dg (aI RE (aI adj (aI Sg (aI x8 (aI UM iE))))))
theorem cY.poly {n:Nat} {f:Nat->AV} {a d:Int} (h:cY n f a):cY n f (qz n f a d):=h.next.numbers _
theorem cY.iL {n:Nat} {f:Nat->AV} {a:Int} (h:cY n f a):cY n f (iL n f a):=by
 unfold Go.Am.B.iL
 split
 ·exact h.next.poly
 ·split
  ·exact h.next.next.next
  ·exact h.next.next
theorem cY.eE {n:Nat} {f:Nat->AV} {a:Int} (h:cY n f a):∀i,cY n f (eE n f a i).2
 |0=>h.next
 |i+1=>(h.eE i).iL.next
theorem Ec {n i:Nat} {c d:Nat->Rat}:∀{k:Nat},(∀j,j<k->c j=d j)->jm n c i k=jm n d i k
 |0,_=>rfl
 |k+1,h=>by
  show jm n c i k+_*c k=jm n d i k+_*d k
  rw[Ec fun j hj=>h j aa,h k aa]
theorem VP {n i:Nat} {c d:Nat->Rat} (hi:i<n) (h:∀j,j<n->c j=d j):eR n c i=eR n d i:=Ec fun j hj=>h j aa
theorem iy.congr {n:Nat} {c d:Nat->Rat} (hz:iy n c) (h:∀j,j<n->c j=d j):iy n d:=fun i k hi hk=>by rw[<-Ec (c:=c) fun j hj=>h j aa];exact hz i k hi hk
theorem Ee {x:Int} (h1:0<=x) (h2:x<3):i64.wrap (x.tdiv 2)=x/2:=by
 rw[Int.tdiv_eq_ediv_of_nonneg h1]
 exact wrap_i64 aa aa
theorem ac3 {k n:Nat} {z:Nat->Int} {a:Int} {o:ax} (ho:∀ρ,de ρ o (mP n z a)) (h:cY n (fun i=>.int .i64 (z i)) a) (hz:x9 n (fun i=>.int .i64 (z i)) a) (K:Nat):
  aO P 13 K [.ptr k 0 2 0 []] [(k,o)] ⟨aK (v9 n (fun i=>.int .i64 (z i)) a),[(k,mP n z (Aq n (fun i=>.int .i64 (z i)) a))],[]⟩:=by
 have hW:=dw
 refine Hy hT Lx rfl rfl aX ho (fun _ c hk=>?_) K
 obtain⟨f,hf⟩:∃f:Nat->AV,f=fun i=>.int .i64 (z i):=⟨_,rfl⟩
 rw[<-hf]at h hz ⊢
 refine au.GW hT qB hm (x:=pE) [1,1] ah ah Lx.dst (f1:=[]) 60 [0,3] ⟨_,Ym,?_⟩
 simp only[af.all,az]
 refine⟨aa,fun s1 hv1=>?_⟩
 refine au.rQ (kp:=[0]) hk (vs:=[.ptr 0 0 2 0 [],.own 1 3 0 1]) (ps:=[(1,⟨true,true,3,1,fun _=>.rat ((1:Int):Rat) (max 1 (bJ (Int.natAbs 1)))⟩),(0,mP n z a)]) (nx:=2) [(0,0),(1,8193)] hv1 rfl ⟨⟨rfl,gq rfl⟩,⟨rfl,dB rfl rfl rfl⟩,trivial⟩ (bg rfl rfl rfl (fun i hi=>by obtain rfl:i=0:=aa;exact bH rfl rfl) (cZ trivial)) ?_
 refine au.cK (t:=3) (k:=1) rfl rfl rfl rfl ?_
 refine au.rQ (kp:=[0]) hk (L:=[0,3]) (vs:=[.ptr 0 0 2 0 [],aK (eE n f a 0).1]) (ps:=ia n z a) (nx:=1) [(0,0)] rfl rfl ⟨⟨rfl,gq rfl⟩,⟨rfl,gT rfl (gk fun i hi=>dj rfl (by rw[hW];decide))⟩,trivial⟩ (cZ trivial) ?_
 obtain⟨N,hN⟩:∃N,N=oP n f a:=⟨_,rfl⟩
 have a1:=iO (n:=n) (f:=f) (a:=a) (m:=4) aa
 have a2:=iP (n:=n) (f:=f) (a:=a) (m:=4) aa
 have hN2:ct n f a 4=(N:Int)-((0:Nat):Int):=by rw[hN];unfold oP;omega
 have hN3:N<=3:=aa
 refine au.Vi hT qB hm (x:=part pE [1,1]) [0,1] (i:=0) (y:=oG) (z:=part pE [1,1,1]) ah ah ah ah hk (f1:=[]) 60 j7 1 (fun i:Nat=>oI (eE n f a i).1 ((N:Int)-i)) (fun i=>ia n z (eE n f a i).2) (fun i=>i<=N) (fun i=>i=N) (fun i=>N-i) (fun _=>False)
  ⟨_,OT,?_⟩ (fun i hi=>?_) (fun i hi=>?_) (fun _ _ h=>h.elim)
 ·have hN4:ct n (fun i=>.int .i64 (z i)) a 4=(N:Int)-((0:Nat):Int):=by rw[<-hf];exact hN2
  simp only[af.all,az,hN4]
  exact⟨⟨hf▸h,aa,aa⟩,0,Nat.zero_le _,[(0,0)],rfl,rfl,rfl,cZ trivial⟩
 ·have hS:=h.eE i
  obtain⟨b,hb⟩:∃b,b=(eE n f a i).2:=⟨_,rfl⟩
  obtain⟨p,hp⟩:∃p,p=(eE n f a i).1:=⟨_,rfl⟩
  rw[<-hb]at hS
  refine au.AT hT qB hm (y:=oG) [1,0] (j:=1) (x1:=o8) (zb:=part oG [1,1]) ah ah ah ah hk (f1:=[13]) 60 j7 1 (fun _:Unit=>oI p ((N:Int)-i)) (fun _=>ia n z b) (fun _=>i<N) ⟨_,Ts,?_⟩ (fun _ hG=>?_)
  ·simp only[af.all,bz,bB]
   rw[hp,hb]
   refine⟨fun h2=>⟨(),aa,[(0,0)],rfl,rfl,rfl,cZ trivial⟩,fun h2 s' hv=>⟨rfl,i,aa,dr.le ⟨[(0,0)],rfl,rfl,rfl,cZ trivial⟩ hv hk⟩⟩
  ·obtain⟨z1,z2⟩:=hz i aa
   rw[<-hb,<-hp]at z2
   rw[<-hb]at z1
   obtain⟨q,hq⟩:∃q,q=qC n f b:=⟨_,rfl⟩
   obtain⟨r,hr⟩:∃r,r=oe n f b:=⟨_,rfl⟩
   rw[<-hq,<-hr]at z2
   have b1:=iO (n:=n) (f:=f) (a:=iL n f b) (m:=3) aa
   have b2:=iP (n:=n) (f:=f) (a:=iL n f b) (m:=3) aa
   have hr2:(r:Int)=1+ct n f (iL n f b) 3/2:=by rw[hr];unfold oe;omega
   have key:au P c f13.ntmps (part o8 [1,1,1]) ⟨aC l7 (mS p q ((N:Int)-i) r),ia n z (nI n f b),1⟩ (inBlock 1 (ew (fun s'=>au P c f13.ntmps (part oG [1,1]) s' (lP c j7 (fun i:Nat=>oI (eE n f a i).1 ((N:Int)-i)) (fun i=>ia n z (eE n f a i).2) 1 (fun i=>i<=N) (fun i=>i=N) (fun i=>N-i) 0 (fun s'=>∃v,False/\bh j7 s'=some v) i)) (lP c j7 (fun i:Nat=>oI (eE n f a i).1 ((N:Int)-i)) (fun i=>ia n z (eE n f a i).2) 1 (fun i=>i<=N) (fun i=>i=N) (fun i=>N-i) 0 (fun s'=>∃v,False/\bh j7 s'=some v) i))):=by
    refine au.tZ hT qB hm (x:=part o8 [1,1,1]) [] (i:=3) (y:=part o8 [1,1,1,0,0]) ah ah ah hk (f1:=[]) (f2:=[46]) 60 l7 1 (fun j:Nat=>mS (iu p q j) q ((N:Int)-i) ((r:Int)-j)) (fun _=>ia n z (nI n f b)) (fun j=>j<=r) (fun j=>j=r) (fun j=>r-j) (fun _=>False) ⟨_,aaQ,?_⟩ (fun j hj=>⟨_,abj,?_⟩) (fun j s' hj hle=>?_) (fun _ _ h=>h.elim)
    ·simp only[af.all]
     exact⟨0,Nat.zero_le _,[(0,0)],rfl,by show _=List.map (jG [(0,0)]) (mS p q ((N:Int)-i) ((r:Int)-((0:Nat):Int)));rw[show(r:Int)-((0:Nat):Int)=r by omega];rfl,rfl,cZ trivial⟩
    ·simp only[af.all,az,bz,bB]
     refine⟨fun h2=>⟨⟨dg aP,dg aP,z2 j aa⟩,aa,j+1,aa,by dsimp only;omega,[(0,0)],rfl,?_,rfl,cZ trivial⟩,fun h2=>⟨rfl,j,aa,[(0,0)],rfl,rfl,rfl,cZ trivial⟩⟩
     rw[show(r:Int)-(j:Int)-1=(r:Int)-((j+1:Nat):Int) by omega];rfl
    ·subst hj
     show au P c _ (part oG [1,1]) s' _
     refine au.lf hle (au.bD hT qB hm 60 j7 P1 ah ?_)
     have e1:(eE n f a (i+1)).1=iu p q j:=by show iu (eE n f a i).1 (qC n f (eE n f a i).2) (oe n f (eE n f a i).2)=_;rw[<-hb,<-hp,<-hq,<-hr]
     have e2:(eE n f a (i+1)).2=nI n f b:=by show nI n f (eE n f a i).2=_;rw[<-hb]
     simp only[af.all,az]
     refine⟨aa,fun s'' hv=>⟨i+1,hG,by dsimp only;omega,dr.le ⟨[(0,0)],rfl,?_,rfl,?_⟩ hv hk⟩⟩
     ·show _=List.map (jG [(0,0)]) (oI (eE n f a (i+1)).1 ((N:Int)-((i+1:Nat):Int)))
      rw[e1,show(N:Int)-(i:Int)-1=(N:Int)-((i+1:Nat):Int) by omega];rfl
     ·show iN 1 [(0,0)] _ (ia n z (eE n f a (i+1)).2)
      rw[e2];exact cZ trivial
   subst hf
   refine au.GW hT qB hm (x:=o8) [1,1,1] ah ah ah (f1:=[27,31]) 60 l7 ⟨_,UQ,?_⟩
   simp only[af.all,az,beq_iff_eq,beq_eq_false_iff_ne,ne_eq]
   refine⟨⟨hS,aa,aa⟩,fun k0=>?_,fun k0=>⟨fun k1=>?_,fun k1=>?_⟩⟩
   ·have eB:qz n (fun i=>.int .i64 (z i)) (bC n b) 2=iL n (fun i=>.int .i64 (z i)) b:=(if_pos k0).symm
    have eq:q=(o9 n (fun i=>.int .i64 (z i)) (bC n b) 2,qR n (fun i=>.int .i64 (z i)) (bC n b)):=by rw[hq];exact if_pos k0
    simp only[eB,Ee b1 b2,<-hr2]
    refine⟨⟨hS.next,aa,aa⟩,⟨hS.iL,aa,aa,aa,aa⟩,fun s' hv=>?_⟩
    refine au.rQ (kp:=[0]) hk (vs:=mS p q ((N:Int)-i) r) (ps:=ia n z (nI n (fun i=>.int .i64 (z i)) b)) (nx:=1) [(0,0)] hv rfl ⟨⟨rfl,gq rfl⟩,aN,aN,⟨rfl,gT rfl ?_⟩,aN,trivial⟩ (cZ trivial) key
    rw[eq];exact gk fun i hi=>dj rfl aa
   ·have eB:bC n (bC n (bC n b))=iL n (fun i=>.int .i64 (z i)) b:=((if_neg k0).trans (if_pos k1)).symm
    have eq:q=(3,eR 3 (dN (fh n (fun i=>.int .i64 (z i)) (bC n b)))):=by rw[hq];exact(if_neg k0).trans (if_pos k1)
    have u1:=iO (n:=n) (f:=fun i=>.int .i64 (z i)) (a:=bC n b) (m:=4) aa
    have u2:=iP (n:=n) (f:=fun i=>.int .i64 (z i)) (a:=bC n b) (m:=4) aa
    have v1:=iO (n:=n) (f:=fun i=>.int .i64 (z i)) (a:=bC n (bC n b)) (m:=5) aa
    have v2:=iP (n:=n) (f:=fun i=>.int .i64 (z i)) (a:=bC n (bC n b)) (m:=5) aa
    have zz:∀j,j<3->intOf (nth [.int .i64 (0-ct n (fun i=>.int .i64 (z i)) (bC n b) 4),.int .i64 0,.int .i64 (1+ct n (fun i=>.int .i64 (z i)) (bC n (bC n b)) 5)] (.int .i64 0) (j+0))=fh n (fun i=>.int .i64 (z i)) (bC n b) j:=fun j hj=>by
     rcases(show j=0\/j=1\/j=2 by omega)with rfl|rfl|rfl
     ·show 0-_=-_;omega
     ·rfl
     ·rfl
    have zb:∀j,-2^62<=fh n (fun i=>.int .i64 (z i)) (bC n b) j/\fh n (fun i=>.int .i64 (z i)) (bC n b) j<2^62:=fun j=>by
     unfold fh;split
     ·omega
     ·split<;>omega
    have zc:∀j,j<3->dN (fh n (fun i=>.int .i64 (z i)) (bC n b)) j=dN (fun j=>intOf (nth [.int .i64 (0-ct n (fun i=>.int .i64 (z i)) (bC n b) 4),.int .i64 0,.int .i64 (1+ct n (fun i=>.int .i64 (z i)) (bC n (bC n b)) 5)] (.int .i64 0) (j+0))) j:=fun j hj=>by
     show((fh n _ (bC n b) j:Int):Rat)=((intOf _:Int):Rat)
     rw[zz j hj]
    simp only[eB,Ee b1 b2,<-hr2,wrap_i64 (show-2^63<=0-ct n (fun i=>.int .i64 (z i)) (bC n b) 4 by omega) aa]
    refine⟨⟨hS.next,aa,aa,hS.next.next,aa,aa,aa,aa,aa,aa,fun j hj=>?_,fun j hj=>by rw[zz j hj];exact zb j,(z1 k1).congr zc⟩,⟨hS.iL,aa,aa,aa,aa⟩,fun s' hv=>?_⟩
    ·rcases(show j=0\/j=1\/j=2 by omega)with rfl|rfl|rfl<;>rfl
    ·refine au.rQ (kp:=[0]) hk (vs:=mS p q ((N:Int)-i) r) (ps:=ia n z (nI n (fun i=>.int .i64 (z i)) b)) (nx:=1) [(0,0)] hv rfl ⟨⟨rfl,gq rfl⟩,aN,aN,⟨rfl,gT rfl ?_⟩,aN,trivial⟩ (cZ trivial) key
     rw[eq];exact gk fun j hj=>dj (VP hj zc).symm aP
   ·have eB:bC n (bC n b)=iL n (fun i=>.int .i64 (z i)) b:=((if_neg k0).trans (if_neg k1)).symm
    have eq:q=(2,fun i=>if i=0 then-j6 (ct n (fun i=>.int .i64 (z i)) (bC n b) 400)else 1-j6 (ct n (fun i=>.int .i64 (z i)) (bC n b) 400)):=by rw[hq];exact(if_neg k0).trans (if_neg k1)
    have hb1:bJ (Int.natAbs 1)=1:=by decide
    simp only[eB,Ee b1 b2,<-hr2]
    refine⟨⟨hS.next,aa,aa,aa⟩,⟨aa,aa,aa,aa,by rw[hb1];omega,aa,aa⟩,⟨hS.iL,aa,aa,aa,aa⟩,fun s' hv=>?_⟩
    refine au.rQ (kp:=[0]) hk (vs:=[.ptr 0 0 2 0 [],aK p,.int .i64 ((N:Int)-i),.own 1 3 0 2,.int .i64 r]) (ps:=[(1,⟨true,true,3,2,fun j=>.rat (q.2 j) ag⟩),(0,mP n z (nI n (fun i=>.int .i64 (z i)) b))]) (nx:=2) [(0,0),(1,69633)] hv rfl ⟨⟨rfl,gq rfl⟩,aN,aN,⟨rfl,dB rfl rfl rfl⟩,aN,trivial⟩ (bg rfl rfl rfl (fun j hj=>?_) (cZ trivial)) ?_
    ·rw[eq]
     rcases(show j=0\/j=1 by omega)with rfl|rfl
     ·exact .inr ⟨rfl,dj rfl aa⟩
     ·exact .inr ⟨rfl,dj rfl (by rw[hb1,hW];decide)⟩
    ·refine au.cK (t:=5) (k:=1) rfl rfl rfl rfl ?_
     refine au.rQ (kp:=[0]) hk (L:=l7) (vs:=mS p q ((N:Int)-i) r) (ps:=ia n z (nI n (fun i=>.int .i64 (z i)) b)) (nx:=1) [(0,0)] rfl rfl ⟨⟨rfl,gq rfl⟩,aN,aN,⟨rfl,gT rfl ?_⟩,aN,trivial⟩ (cZ trivial) key
     have e1:q.1=2:=by rw[eq]
     show bA (.ak 3 2 fun j=>.rat (q.2 (j+0)) ag) (.ak 3 q.1 fun j=>.rat (q.2 j) ag)
     rw[e1];exact gk fun j hj=>.refl _
 ·subst hi
  refine au.kG (aE.Ev hT qB hm 60 aam ah ?_)
  simp only[af.all,az]
  exact⟨by unfold v9;rw[<-hN];exact .refl _,_,rfl,rfl,sN rfl (by unfold Aq;rw[<-hN])⟩
theorem Vw:aY P (kn Bx) 13:=by
 refine y9 fun {k n z a l v b q o} K hg ho hd hq=>?_
 unfold Bx at hg
 split at hg
 ·simp only[ay,Prod.mk.injEq]at hg
  obtain⟨rfl,rfl,rfl⟩:=hg
  exact ac3 ho hd hq K
 ·simp at hg
theorem Ww {n:Nat} {f:Nat->AV} {a:Int}:bX 12 7 (pS n f a):=by
 have x1:=iO (n:=n) (f:=f) (a:=a) (m:=13) aa
 have x2:=iP (n:=n) (f:=f) (a:=a) (m:=13) aa
 unfold pS
 generalize ct n f a 13=x at*
 split
 ·have w1:=iO (n:=n) (f:=f) (a:=bC n (bC n a)) (m:=4) aa
  have w2:=iP (n:=n) (f:=f) (a:=bC n (bC n a)) (m:=4) aa
  generalize ct n f (bC n (bC n a)) 4=w at*
  rcases(show w=0\/w=1\/w=2\/w=3 by omega)with rfl|rfl|rfl|rfl
  ·refine⟨(x-6)*12,?_,aa⟩
   rw[Rat.intCast_mul,Rat.div_def,Rat.mul_assoc,show(((1+0:Int):Rat)⁻¹*((12:Int):Rat))=((12:Int):Rat) by decide+kernel]
  ·refine⟨(x-6)*6,?_,aa⟩
   rw[Rat.intCast_mul,Rat.div_def,Rat.mul_assoc,show(((1+1:Int):Rat)⁻¹*((12:Int):Rat))=((6:Int):Rat) by decide+kernel]
  ·refine⟨(x-6)*4,?_,aa⟩
   rw[Rat.intCast_mul,Rat.div_def,Rat.mul_assoc,show(((1+2:Int):Rat)⁻¹*((12:Int):Rat))=((4:Int):Rat) by decide+kernel]
  ·refine⟨(x-6)*3,?_,aa⟩
   rw[Rat.intCast_mul,Rat.div_def,Rat.mul_assoc,show(((1+3:Int):Rat)⁻¹*((12:Int):Rat))=((3:Int):Rat) by decide+kernel]
 ·exact⟨(x-6)*12,by rw[Rat.intCast_mul],aa⟩
theorem VW {n:Nat} {f:Nat->AV} {a:Int} {m:Nat}:dh m (qR n f a) 7:=⟨12,by decide,by decide,fun _ _=>Ww⟩
theorem Du {n:Nat} {f:Nat->AV} {b:Int} (i:Nat):-5<=fh n f b i/\fh n f b i<=5:=by
 have u1:=iO (n:=n) (f:=f) (a:=b) (m:=4) aa
 have u2:=iP (n:=n) (f:=f) (a:=b) (m:=4) aa
 have v1:=iO (n:=n) (f:=f) (a:=bC n b) (m:=5) aa
 have v2:=iP (n:=n) (f:=f) (a:=bC n b) (m:=5) aa
 unfold fh
 split
 ·omega
 ·split<;>omega
theorem Rp {n:Nat} {f:Nat->AV} {b:Int} {m:Nat}:dh m (dN (fh n f b)) 3:=⟨1,by decide,by decide,fun i _=>bX.int (by have:=Du (n:=n) (f:=f) (b:=b) i;omega)⟩
theorem RF {n:Nat} {f:Nat->AV} {b:Int}:iy 3 (dN (fh n f b)):=fun i k hi hk=>(Jb Rp hi aa).more (by have:=dw;omega)
theorem acd {n:Nat} {f:Nat->AV} {b:Int}:dh 3 (eR 3 (dN (fh n f b))) 7:=by
 have h1:fh n f b 1=0:=rfl
 have e0:eR 3 (dN (fh n f b)) 0=((fh n f b 0:Int):Rat):=by
  show 0+bq 0 0/bq 2 0*dN (fh n f b) 0=_
  rw[show bq 0 0/bq 2 0=1 by decide+kernel];unfold dN;grind
 have e1:eR 3 (dN (fh n f b)) 1=((fh n f b 0:Int):Rat):=by
  show 0+bq 1 0/bq 2 0*dN (fh n f b) 0+bq 1 1/bq 2 1*dN (fh n f b) 1=_
  rw[show bq 1 0/bq 2 0=1 by decide+kernel,show dN (fh n f b) 1=0 from by unfold dN;rw[h1];rfl];unfold dN;grind
 have e2:eR 3 (dN (fh n f b)) 2=((fh n f b 0+fh n f b 2:Int):Rat):=by
  show 0+bq 2 0/bq 2 0*dN (fh n f b) 0+bq 2 1/bq 2 1*dN (fh n f b) 1+bq 2 2/bq 2 2*dN (fh n f b) 2=_
  rw[show bq 2 0/bq 2 0=1 by decide+kernel,show bq 2 2/bq 2 2=1 by decide+kernel,show dN (fh n f b) 1=0 from by unfold dN;rw[h1];rfl,Rat.intCast_add];unfold dN;grind
 have z0:=Du (n:=n) (f:=f) (b:=b) 0
 have z2:=Du (n:=n) (f:=f) (b:=b) 2
 refine⟨1,by decide,by decide,fun i hi=>?_⟩
 rcases(show i=0\/i=1\/i=2 by omega)with rfl|rfl|rfl
 ·rw[e0];exact bX.int aa
 ·rw[e1];exact bX.int aa
 ·rw[e2];exact bX.int aa
theorem Q9 {d:Int}:1<=gX d/\gX d<=12/\0<=d%(gX d+1)/\d%(gX d+1)<=gX d:=by
 have h1:0<=i64.wrap (d.tdiv 17)%12:=Int.emod_nonneg _ aa
 have h2:i64.wrap (d.tdiv 17)%12<12:=Int.emod_lt_of_pos _ aa
 have hM:gX d=1+i64.wrap (d.tdiv 17)%12:=rfl
 have h3:0<=d%(gX d+1):=Int.emod_nonneg _ aa
 have h4:d%(gX d+1)<gX d+1:=Int.emod_lt_of_pos _ aa
 omega
theorem abF {d:Int}:dh 2 (fun i=>if i=0 then-j6 d else 1-j6 d) 7:=by
 obtain⟨p1,p2,p3,p4⟩:=Q9 (d:=d)
 have hne:((gX d:Int):Rat)≠0:=ud aa
 have e:j6 d*((gX d:Int):Rat)=((d%(gX d+1):Int):Rat):=by
  unfold j6
  rw[Rat.div_def,Rat.mul_assoc,Rat.mul_comm _ ((gX d:Int):Rat),Rat.mul_inv_cancel _ hne,Rat.mul_one]
 refine⟨gX d,aa,aa,fun i hi=>?_⟩
 rcases(show i=0\/i=1 by omega)with rfl|rfl
 ·refine⟨-(d%(gX d+1)),?_,aa⟩
  show _=-j6 d*_
  rw[Rat.intCast_neg,Rat.neg_mul,e]
 ·refine⟨gX d-d%(gX d+1),?_,aa⟩
  show _=(1-j6 d)*_
  rw[Rat.intCast_sub,Rat.sub_eq_add_neg,Rat.sub_eq_add_neg,Rat.add_mul,Rat.one_mul,Rat.neg_mul,e]
theorem zV {n:Nat} {f:Nat->AV} {a:Int}:qQ (qC n f a):=by
 unfold qC
 split
 ·have u1:=iO (n:=n) (f:=f) (a:=bC n a) (m:=2+1) aa
  have u2:=iP (n:=n) (f:=f) (a:=bC n a) (m:=2+1) aa
  exact⟨Nat.succ_pos _,by show(ct n f (bC n a) (2+1)).toNat+1<=3;omega,VW⟩
 ·split
  ·exact⟨by show 1<=3;omega,aP,acd⟩
  ·exact⟨by show 1<=2;omega,by show 2<=3;omega,abF⟩
theorem II {n:Nat} {f:Nat->AV} {a:Int}:1<=oe n f a/\oe n f a<=2:=by
 have u1:=iO (n:=n) (f:=f) (a:=iL n f a) (m:=3) aa
 have u2:=iP (n:=n) (f:=f) (a:=iL n f a) (m:=3) aa
 unfold oe
 omega
theorem Dx {n:Nat} {f:Nat->AV} {a:Int}:∀i,i<=3->mY i (eE n f a i).1
 |0,_=>mY.one
 |i+1,h=>(Dx i aa).step zV aa II
theorem LV {n:Nat} {f:Nat->AV} {a:Int}:oP n f a<=3:=by
 have u1:=iO (n:=n) (f:=f) (a:=a) (m:=4) aa
 have u2:=iP (n:=n) (f:=f) (a:=a) (m:=4) aa
 unfold oP;omega
theorem Ub {p q:PP} {s:Nat} (hp:1<=p.1) (lp:p.1<=11) (hb:Bd p s) (hs:s<=1400) (hq:qQ q):L6 p q:=by
 have hW:=dw
 have h1:=hq.lo
 have h2:=hq.hi
 have hb2:dh (p.1-1+1) p.2 s:=by rw[show p.1-1+1=p.1 by omega];exact hb
 have hb3:dh (q.1-1+1) q.2 7:=by rw[show q.1-1+1=q.1 by omega];exact hq.bd
 have h5:p.1-1+(q.1-1)<=12:=aa
 have h6:(p.1-1+(q.1-1)+1)*(p.1-1+(q.1-1))<=13*12:=Nat.mul_le_mul aa h5
 exact⟨hp,h1,aa,fun i j k hi hj hk=>(Tu aa hb2 hb3 hi hj).more aa,fun k hk=>((Kv aa hb2 hb3).sz hk).more aa⟩
theorem Wc {n:Nat} {f:Nat->AV} {a:Int}:x9 n f a:=fun i hi=>by
 have hN:=LV (n:=n) (f:=f) (a:=a)
 refine⟨fun _=>RF,fun j hj=>?_⟩
 have h:=Dx (n:=n) (f:=f) (a:=a) i aa
 have hr:=II (n:=n) (f:=f) (a:=(eE n f a i).2)
 have h1:=h.hi
 have hl:=Af h.lo (zV (n:=n) (f:=f) (a:=(eE n f a i).2)) j
 exact Ub hl.1 aa (C3 h.lo zV h.bd j aa) aa zV
structure mB (p:PP):Prop where
 lo:1<=p.1
 hi:p.1<=13
 bd:Bd p 1200
 gd:iS (aS p)
theorem Vp {n:Nat} {f:Nat->AV} {a:Int}:mB (v9 n f a):=by
 have hN:=LV (n:=n) (f:=f) (a:=a)
 have h:=Dx (n:=n) (f:=f) (a:=a) (oP n f a) hN
 have h1:=h.hi
 exact⟨h.lo,Nat.le_trans h1 aa,Bd.more h.bd aa,h.gd hN⟩
theorem mB.of {p:PP} (h:mB p):mK p:=by
 have hW:=dw
 have h1:=h.hi
 refine⟨h.lo,aa,fun k i hi=>?_,oX (CU h.bd) aa⟩
 obtain⟨D,d1,d2,d3⟩:=h.bd
 exact((xq d3 k i hi).sz d1 d2).more aa
theorem mB.pos {p:PP} (_h:mB p) (h0:(aS p).1≠0):0<(aS p).1:=Nat.pos_of_ne_zero h0
theorem mB.cnt {p:PP} (h:mB p) {a b:Rat} {A B:Int} (ha:bX A 63 a) (hA:A.natAbs<=2^63) (hA0:A≠0) (hb:bX B 63 b) (hB:B.natAbs<=2^63) (hB0:B≠0):wE p a b/\x6 p a b:=by
 refine⟨⟨h.of,fun h0=>?_⟩,⟨h.of,fun h0=>?_⟩⟩
 ·have hp:=h.pos h0
  have hl:=xW h.gd hp
  exact⟨(xN h.gd hp).1,aa,rU h.gd hp ha hA hA0 aa,rU h.gd hp hb hB hB0 aa⟩
 ·have hp:=h.pos h0
  have hl:=xW h.gd hp
  exact⟨(xN h.gd hp).2,aa,rU h.gd hp ha hA hA0 aa,rU h.gd hp hb hB hB0 aa⟩
theorem FN {x y:Int}:∃A:Int,A≠0/\A.natAbs<=2^63/\bX A 63 (kJ x y):=by
 have h1:0<=y%8:=Int.emod_nonneg _ aa
 have h2:y%8<8:=Int.emod_lt_of_pos _ aa
 have h3:0<=x%41:=Int.emod_nonneg _ aa
 have h4:x%41<41:=Int.emod_lt_of_pos _ aa
 have hne:((y%8+1:Int):Rat)≠0:=ud aa
 refine⟨y%8+1,aa,aa,x%41-20,?_,aa⟩
 unfold kJ
 rw[Rat.div_def,Rat.mul_assoc,Rat.mul_comm _ ((y%8+1:Int):Rat),Rat.mul_inv_cancel _ hne,Rat.mul_one]
def xC:bp:=[sG,(156,Ch)]
theorem Yr:bI P xC:=ze (aI Fv bY)
theorem Kn.congr {n p:Nat} {k k':Nat->Rat} (h:Kn n p k) (e:∀i,i<n->k i=k' i):Kn n p k':=by
 have hp:=h.p1
 have hl:=h.len
 refine⟨h.p1,h.len,fun i hi=>?_,fun i hi=>?_,fun i h1 h2=>?_,fun i h1 h2=>?_⟩
 ·rw[<-e i aa,<-e (i+1) hi];exact h.sorted i hi
 ·rw[<-e i aa,<-e 0 aa];exact h.first i hi
 ·rw[<-e i h2,<-e (n-1) aa];exact h.last i h1 h2
 ·rw[<-e i aa,<-e (i+p) aa];exact h.mult i h1 h2
def zA (i:Nat):Int:=if i=1 then 1 else if i=2 then-4 else if i=3 then 4 else 0
def pA:PP:=(4,eR 4 (dN zA))
def uu (i:Nat):Int:=if i=0 then-2 else if i=2 then 1 else 0
def pB:PP:=(3,eR 3 (dN uu))
def F5:Spec:=bR fun l=>match l with
 |[.mag 0]=>some (aJ (.str [48]) [])
 |[.mag 1]=>some (aJ (.str [49]) [])
 |_=>none
def yJ:bp:=[sG,(113,F5)]
def Fq (q:Rat):List UInt8:=if q=0 then [48]else [49]
def H6:Spec:=bR fun l=>match l with
 |[.rat q _]=>some (aJ (.str (Fq q)) [q=0\/q=1])
 |_=>none
def As:Spec:=dU (kC (kL ag) (kC (fq ag) (kC (fq ag) kN))) (fun a=>.tuple [.int .i64 (jY a.1 a.2.1 a.2.2.1),.int .i64 (ir a.1 a.2.1 a.2.2.1)]) fun a=>[wE a.1 a.2.1 a.2.2.1]
def Ln:Spec:=bR fun l=>match l with
 |[.ak 1 4 f]=>some (aJ (aK pA) [f 0=.int .i64 0,f 1=.int .i64 1,f 2=.int .i64 (-4),f 3=.int .i64 4])
 |[.ak 1 3 f]=>some (aJ (aK pB) [f 0=.int .i64 (-2),f 1=.int .i64 0,f 2=.int .i64 1])
 |_=>none
def Jp:bp:=nG::(55,Ln)::(18,LG 1)::(16,As)::(56,H6)::ic
theorem acj:aZ 12 f12:=bf func12
theorem XS:bT T xC [] 60 f113 (aG f113) ⟨aQ 0 [.mag 0],[],0⟩=
  some (leaf ret [str [(48:UInt8)]]):=ah
theorem MO:bT T xC [] 60 f113 (aG f113) ⟨aQ 0 [.mag 1],[],0⟩=
  let c1:Int:=(↑(1:Nat):Int);some (aj [nl 1<2^40,(0:Int)<1000000000,(1000000000:Int)<2^32] (aj [(10:Int)≠(0:Int),(0:Nat)<1/\1*((1:Nat)+1)*2<=2^47] (aj [(10:Int)≠(0:Int)] (aj [(0:Int)<=c1/\c1<=c1/\c1<=2^47/\c1*c1<=2^47] (leaf ret [str [UInt8.ofNat (u8.wrap (u32.wrap ((48:Int)+(↑((1:Nat)%Int.toNat (1000000000:Int)):Int).tmod (10:Int)))).toNat]]))))):=ah
theorem abt:bT T yJ [] 60 f56 (aG f56) ⟨aQ 0 [.agg [.bool false,.mag 0,.mag 0]],[],0⟩=
  some (leaf ret [str [(48:UInt8)]]):=ah
theorem TQ:bT T yJ [] 60 f56 (aG f56) ⟨aQ 0 [.agg [.bool false,.mag 1,.mag 0]],[],0⟩=
  some (leaf ret [str [(49:UInt8)]]):=ah
theorem Vg:bT T Jp [100021,100025,100029,100034,100041,100048,100057] 200 f12 (aG f12) ⟨aQ 0 [],[],0⟩=
  let c14:Rat:=iV 0 1;let c13:Rat:=(↑(2:Int):Rat);let c12:Rat:=iU 0 1;let c11:AV:=int i64 1;let c9:Int:=(-2:Int);let c8:Int:=(2:Int)^63;let c7:Nat:=bu (fy 4 fun i=>aT (rat (eR 4 (dN zA) i) ag)) 4;let c5:Nat×(Nat->Rat):=((3:Nat),fun i=>aT (rat (eR 3 (dN uu) i) ag));let c3:AV:=int i64 0;let c1:Nat×(Nat->Rat):=((4:Nat),fun i=>aT (rat (eR 4 (dN zA) i) ag));let c10:Nat:=(iM 1 c1).length;let c6:List AV:=[int i64 c9,c3,c11];let c2:List AV:=[c3,c11,int i64 (-4:Int),int i64 4];let c4:Prop:=(0:Int)<=1/\Int.toNat (1:Int)<c10;some (aj [(4:Nat)*1<=2^24,nth c2 c3 ((0:Nat)+0)=c3,nth c2 c3 ((1:Nat)+0)=c11,nth c2 c3 ((2:Nat)+0)=int i64 (-4:Int),nth c2 c3 ((3:Nat)+0)=int i64 4,cV (fun i=>rat (eR 4 (dN zA) i) ag) 4 ag,xu 1 c1] (aj [(3:Nat)*1<=2^24,nth c6 c3 ((0:Nat)+0)=int i64 c9,nth c6 c3 ((1:Nat)+0)=c3,nth c6 c3 ((2:Nat)+0)=c11,-c8<=c9,c9<c8,-c8<=2,(2:Int)<c8,cV (fun i=>rat (eR 3 (dN uu) i) ag) 3 ag,Max.max 1 (bJ c9.natAbs)<=ag,Max.max 1 (bJ (Int.natAbs (2:Int)))<=ag,wE c5 (↑c9:Rat) c13] (aj [((if c7=0 then(3:Int)else(0:Int))==0)=true,(bif true then ir c5 (↑c9:Rat) c13==0 else false)=true,(bif true then jY c5 (↑c9:Rat) c13==2 else false)=true,(bif true then(↑c10:Int)==2 else false)=true,(0:Int)<=0/\Int.toNat (0:Int)<c10,(bif true then(↑(nN 1 c1 (Int.toNat (0:Int))):Int)==1 else false)=true,c4,(bif true then(↑(nN 1 c1 (Int.toNat (1:Int))):Int)==2 else false)=true,c4,c12=0\/c12=1,(bif true then Fq c12==[(48:UInt8)]else false)=true,c4,c14=0\/c14=1] (leaf ret [AV.bool true])))):=ah
theorem Uv:aY P F5 113:=by
 refine cD fun K args r hk hs _=>?_
 have fin:∀{N:Nat} {t:af (List AV)} {l:List UInt8},bT T xC [] 60 f113 (aG f113) ⟨aQ 0 [.mag N],[],0⟩=some t->(t.all fun _ us=>fQ us (.str l))->aO P 113 K [.mag N] [] (aJ (.str l) []):=fun h1 h2=>
  cj (r:=aJ _ []) hT Yr hm Xs rfl aX rfl 60 h1 (fun _=>h2) K []
 split at hs<;>simp only[ay,reduceCtorEq]at hs
 all_goals subst hs
 ·exact fin XS (.refl _)
 ·exact fin MO (by simp only[af.all,az];exact⟨by decide,by decide,by decide,by decide,.refl _⟩)
theorem PT:bI P yJ:=ze (aI Uv bY)
theorem Ui:aY P H6 56:=by
 refine cD fun K args r hk hs _=>?_
 have fin:∀{q:Rat} {n a b:Nat} {t:af (List AV)} {l:List UInt8},kids (.rat q n)=[.bool false,.mag a,.mag b]->bT T yJ [] 60 f56 (aG f56) ⟨aQ 0 [.agg [.bool false,.mag a,.mag b]],[],0⟩=some t->(t.all fun _ us=>fQ us (.str l))->aO P 56 K [.rat q n] [] (aJ (.str l) []):=fun h0 h1 h2=>
  gz (cj (r:=aJ _ []) hT PT hm Qd rfl aX rfl 60 h1 (fun _=>h2) K []) rfl (show fV [_] [_]from⟨by rw[<-h0];exact IE,trivial⟩) []
 split at hs
 ·rename_i q n
  simp only[ay]at hs
  subst hs
  intro need
  have need:q=0\/q=1:=need
  rcases need with rfl|rfl
  ·exact fin (l:=[48]) ah abt (.refl _) trivial
  ·exact fin (l:=[49]) ah TQ (.refl _) trivial
 ·simp at hs
theorem Iq:aY P As 16:=dD fun⟨_,_,_,_⟩ K hn=>Uw hn K
theorem FG {n s:Nat} {c:Nat->Rat} (h:dh n c s):dh n (eR n c) (s+n*n+2*n):=by
 obtain⟨D,d1,d2,d3⟩:=h
 have h2:=yA (N:=n-1) (n-1+1)
 rcases Nat.eq_zero_or_pos n with h0|h0
 ·exact⟨1,by decide,Nat.one_le_two_pow,fun i hi=>aa⟩
 have h3:(n-1+1)*(n-1)<=n*n:=Nat.mul_le_mul aa aa
 have h4:=kT d2 (show((iI (n-1) (n-1+1):Nat):Int).natAbs<=2^((n-1+1)*(n-1)) by rw[Int.natAbs_natCast];exact uG _)
 exact⟨_,Int.mul_ne_zero d1 aa,Nat.le_trans h4 (Nat.pow_le_pow_right (by decide) aa),fun i hi=>(C5 d3 hi (i+1) aa).more aa⟩
theorem Fp {c:PP} (t:Trim c) (hl:c.1<=7) (hb:Bd c 156):iS c:=⟨t,aa,hb,kD,c,⟨fun t=>by rw[oz,Rat.one_mul],⟨bQ c,fun t=>by rw[oz,Rat.one_mul]⟩⟩,Nat.le_trans ym hl⟩
theorem KO {p:PP} (h1:1<=p.1) (h2:p.1<=7) (hb:Bd p 100):mB p:=
 ⟨h1,aa,hb.more aa,Fp lQ (Nat.le_trans fk h2) (dh.short ((CU hb).more aa) fk)⟩
theorem Ft:dh 4 (dN zA) 3:=⟨1,by decide,by decide,fun i hi=>bX.int (by
 rcases(show i=0\/i=1\/i=2\/i=3 by omega)with rfl|rfl|rfl|rfl<;>decide)⟩
theorem LQ:dh 3 (dN uu) 3:=⟨1,by decide,by decide,fun i hi=>bX.int (by
 rcases(show i=0\/i=1\/i=2 by omega)with rfl|rfl|rfl<;>decide)⟩
theorem DK:mB pA:=KO (by show 1<=4;omega) (by show 4<=7;omega) (dh.more (n:=4) (FG Ft) (by decide))
theorem abA:mB pB:=KO (by show 1<=3;omega) (by show 3<=7;omega) (dh.more (n:=3) (FG LQ) (by decide))
theorem JT {n s:Nat} {c:Nat->Rat} (h:dh n c s) (hs:2*(s+n*n+2*n)+2<=ag):iy n c:=fun i k hi hk=>(Jb h hi aa).more hs
theorem acQ:aY P Ln 55:=by
 have hW:=dw
 refine cD fun K args r hk hs _=>?_
 split at hs
 ·rename_i f
  simp only[ay]at hs
  subst hs
  intro need
  obtain⟨n0,n1,n2,n3⟩:=need
  refine gz (Ap (z:=zA) aa aa (fun i hi=>?_) (JT Ft aa) K) hk ⟨s4 rfl fun i hi=>?_,trivial⟩ [] trivial
  ·rcases(show i=0\/i=1\/i=2\/i=3 by omega)with rfl|rfl|rfl|rfl<;>decide
  ·rcases(show i=0\/i=1\/i=2\/i=3 by omega)with rfl|rfl|rfl|rfl
   ·exact n0
   ·exact n1
   ·exact n2
   ·exact n3
 ·rename_i f
  simp only[ay]at hs
  subst hs
  intro need
  obtain⟨n0,n1,n2⟩:=need
  refine gz (Ap (z:=uu) aa aa (fun i hi=>?_) (JT LQ aa) K) hk ⟨s4 rfl fun i hi=>?_,trivial⟩ [] trivial
  ·rcases(show i=0\/i=1\/i=2 by omega)with rfl|rfl|rfl<;>decide
  ·rcases(show i=0\/i=1\/i=2 by omega)with rfl|rfl|rfl
   ·exact n0
   ·exact n1
   ·exact n2
 ·simp at hs
theorem Xz {τ:Nat}:bX 1 τ 0:=.zero
theorem Ty {τ:Nat}:bX 1 τ 1:=⟨1,by decide+kernel,Nat.one_le_two_pow⟩
theorem uy {c:PP} (h:iS c) (h0:0<c.1):dc (cP c) (cR c) 0:=rU h h0 (τ:=1) Xz (by decide) (by decide) aa
theorem Dk {c:PP} (h:iS c) (h0:0<c.1):dc (cP c) (cR c) 1:=rU h h0 (τ:=1) Ty (by decide) (by decide) aa
theorem JO {c:PP} (h:iS c) (h0:0<c.1):Ar c:=⟨(zx h h0).1.2.2.1,((zx h h0).1.2.2.2 aa).1⟩
theorem S9:xu 1 pA:=by
 refine⟨DK.of,fun h0=>?_⟩
 have hp:=DK.pos h0
 have hg:=DK.gd
 have hl:iM 1 pA=[(0,0),(0,1)]:=by decide+kernel
 have hb:gG (cP (aS pA)) (cR (aS pA)) 0 1=1:=by decide+kernel
 have hs:=xW hg hp
 refine⟨(xN hg hp).1,aa,uy hg hp,Dk hg hp,⟨uy hg hp,Dk hg hp,fun _ h1=>absurd hb h1⟩,by rw[hl];decide,JO hg hp,fun j hj=>?_⟩
 have h1:∀j,(eV (aS pA) (j+1)).1<=1:=by
  intro j
  induction j with
  |zero=>decide+kernel
  |succ j ih=>exact Nat.le_trans (xG (rm lQ _)) ih
 cases j with
 |succ j=>exact absurd (h1 j) aa
 |zero=>
  have hgd:iS (eV (aS pA) 0):=Fp (rm lQ 0) (by decide+kernel) ⟨2,by decide,by decide,fun i hi=>by
   have hi:i<2:=Nat.lt_of_lt_of_le hi (by decide+kernel)
   rcases(show i=0\/i=1 by omega)with rfl|rfl
   ·exact⟨-1,by decide+kernel,by decide⟩
   ·exact⟨2,by decide+kernel,by decide⟩⟩
  have hp2:0<(eV (aS pA) 0).1:=aa
  have hs2:=xW hgd hp2
  refine⟨JO hgd hp2,(xN hgd hp2).1,aa,fun i hi=>?_⟩
  rw[hl]at hi ⊢
  have hi:i<2:=hi
  rcases(show i=0\/i=1 by omega)with rfl|rfl
  ·exact⟨uy hgd hp2,uy hgd hp2⟩
  ·exact⟨uy hgd hp2,Dk hgd hp2⟩
theorem Yj:bI P Jp:=jr (aI acQ (aI (Zu 1) (aI Iq (aI Ui iE))))
theorem Nl (K:Nat):aO P 12 K [] [] (aJ (.bool true) []):=by
 have hW:=dw
 refine cj (r:=aJ (.bool true) []) hT Yj hm acj rfl aX rfl 200 Vg (fun _=>?_) K []
 simp only[af.all,az]
 refine⟨⟨aa,rfl,rfl,rfl,rfl,dg aP,S9⟩,⟨aa,rfl,rfl,rfl,aa,aa,aa,aa,dg aP,by rw[hW];decide,by rw[hW];decide,?_⟩,⟨by decide+kernel,by decide+kernel,by decide+kernel,by decide+kernel,by decide+kernel,by decide+kernel,by decide+kernel,by decide+kernel,by decide+kernel,by decide+kernel,by decide+kernel,by decide+kernel,by decide+kernel⟩,.refl _⟩
 exact(abA.cnt (A:=1) (B:=1) ⟨-2,by decide+kernel,by decide⟩ (by decide) (by decide) ⟨2,by decide+kernel,by decide⟩ (by decide) (by decide)).1
def GV:Spec:=bR fun l=>match l with
 |[]=>some (aJ (.bool true) [])
 |_=>none
theorem W8:aY P GV 12:=by
 refine cD fun K args r hk hs _=>?_
 split at hs
 ·simp only[ay]at hs
  subst hs
  exact Nl K
 ·simp at hs
end Go.Am.B
