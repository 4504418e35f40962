/- How long the numbers are: polynomials with a common denominator. -/
import Derived.Test.YtolopdkjjlfgjaaGreatY39
import Derived.Test.YtolopdkjjlfgjaaGreatY37
import Derived.Test.YtolopdkjjlfgjaaGreatY38
import Derived.Test.YtolopdkjjlfgjaaGreatZ2
import Derived.Test.YtolopdkjjlfgjaaGreatB33
set_option linter.unusedVariables false
noncomputable section
namespace Go.Am
open Go
def b7 (D:Int) (s:Nat) (x:Rat):Prop:=∃z:Int,(z:Rat)=x*(D:Rat)/\z.natAbs<=2^s
theorem Ab {D:Int} (h:D≠0):(D:Rat)≠0:=fun h0=>by
 have h0:(D:Rat)=((0:Int):Rat):=h0
 exact h (Rat.intCast_inj.1 h0)
theorem b7.more {D:Int} {s t:Nat} {x:Rat} (h:b7 D s x) (ht:s<=t):b7 D t x:=h.imp fun z hz=>⟨hz.1,Nat.le_trans hz.2 (Nat.pow_le_pow_right (by decide) ht)⟩
theorem b7.sz {D:Int} {s e:Nat} {x:Rat} (hD:D≠0) (hd:D.natAbs<=2^e) (h:b7 D s x):Sz x (s+e+2):=by
 obtain⟨z,hz,b⟩:=h
 have hx:x=(z:Rat)/(D:Rat):=by rw[hz,Rat.div_def,Rat.mul_assoc,Rat.mul_inv_cancel _ (Ab hD),Rat.mul_one]
 rw[hx]
 have s1:Sz (z:Rat) (s+1):=B.MI (Nat.lt_of_le_of_lt b (Nat.pow_lt_pow_right (by decide) aa)) aa
 have s2:Sz (D:Rat) (e+1):=B.MI (Nat.lt_of_le_of_lt hd (Nat.pow_lt_pow_right (by decide) aa)) aa
 exact(s1.div s2).more aa
theorem b7.zero {D:Int} {s:Nat}:b7 D s 0:=⟨0,by rw[Rat.zero_mul];rfl,Nat.zero_le _⟩
theorem b7.int {z:Int} {s:Nat} (h:z.natAbs<=2^s):b7 1 s (z:Rat):=⟨z,by rw[show((1:Int):Rat)=1 from rfl,Rat.mul_one],h⟩
theorem b7.mul {D E:Int} {s t:Nat} {x y:Rat} (h:b7 D s x) (h':b7 E t y):b7 (D*E) (s+t) (x*y):=by
 obtain⟨z,hz,b⟩:=h
 obtain⟨w,hw,c⟩:=h'
 refine⟨z*w,by rw[Rat.intCast_mul,hz,hw,Rat.intCast_mul];grind,?_⟩
 rw[Int.natAbs_mul,Nat.pow_add];exact Nat.mul_le_mul b c
theorem b7.add {D:Int} {s:Nat} {x y:Rat} (h:b7 D s x) (h':b7 D s y):b7 D (s+1) (x+y):=by
 obtain⟨z,hz,b⟩:=h
 obtain⟨w,hw,c⟩:=h'
 refine⟨z+w,by rw[Rat.intCast_add,hz,hw];grind,?_⟩
 have:=Int.natAbs_add_le z w
 rw[Nat.pow_succ];omega
theorem b7.up {D E:Int} {s e:Nat} {x:Rat} (h:b7 D s x) (hE:E.natAbs<=2^e):b7 (D*E) (s+e) x:=by
 obtain⟨z,hz,b⟩:=h
 refine⟨z*E,by rw[Rat.intCast_mul,hz,Rat.intCast_mul];grind,?_⟩
 rw[Int.natAbs_mul,Nat.pow_add];exact Nat.mul_le_mul b hE
theorem b7.xK {D:Int} {s e:Nat} {x:Rat} (h:b7 D s x) {n:Int} (hn:n.natAbs<=2^e):b7 D (e+s) ((n:Rat)*x):=by
 obtain⟨z,hz,b⟩:=h
 refine⟨n*z,by rw[Rat.intCast_mul,hz];grind,?_⟩
 rw[Int.natAbs_mul,Nat.pow_add];exact Nat.mul_le_mul hn b
theorem yZ {w:Int} {t:Nat} (h:w.natAbs<=2^t) (j:Nat):(w^j).natAbs<=2^(j*t):=by
 rw[Int.natAbs_pow,Nat.mul_comm,Nat.pow_mul];exact Nat.pow_le_pow_left h j
theorem kZ {v w:Int} {s t:Nat} (h:v.natAbs<=2^s) (h':w.natAbs<=2^t):(v*w).natAbs<=2^(s+t):=by
 rw[Int.natAbs_mul,Nat.pow_add];exact Nat.mul_le_mul h h'
def dj (n:Nat) (k:Nat->Rat) (s:Nat):Prop:=∃D:Int,D≠0/\D.natAbs<=2^s/\∀i,i<n->b7 D s (k i)
def Bd (a:PP) (s:Nat):Prop:=dj a.1 a.2 s
theorem dj.sz {n s:Nat} {k:Nat->Rat} (h:dj n k s) {i:Nat} (hi:i<n):Sz (k i) (2*s+2):=by
 obtain⟨D,h1,h2,h3⟩:=h
 exact((h3 i hi).sz h1 h2).more aa
theorem dj.more {n s t:Nat} {k:Nat->Rat} (h:dj n k s) (ht:s<=t):dj n k t:=by
 obtain⟨D,h1,h2,h3⟩:=h
 exact⟨D,h1,Nat.le_trans h2 (Nat.pow_le_pow_right (by decide) ht),fun i hi=>(h3 i hi).more ht⟩
theorem dj.short {n m s:Nat} {k:Nat->Rat} (h:dj n k s) (hm:m<=n):dj m k s:=by
 obtain⟨D,h1,h2,h3⟩:=h
 exact⟨D,h1,h2,fun i hi=>h3 i aa⟩
theorem dj.congr {n s:Nat} {k l:Nat->Rat} (h:dj n k s) (e:∀i,i<n->k i=l i):dj n l s:=by
 obtain⟨D,h1,h2,h3⟩:=h
 exact⟨D,h1,h2,fun i hi=>by rw[<-e i hi];exact h3 i hi⟩
theorem Bd.peq {a b:PP} {s:Nat} (h:Bd a s) (e:fU a b):Bd b s:=by
 show dj b.1 b.2 s
 rw[<-e.1];exact dj.congr h e.2
theorem NA {n e s t:Nat} {d a:Nat->Rat} (ha:dj n a s) (hd:dj (e+1) d t) (h0:d e≠0):
  ∃D w:Int,D≠0/\w≠0/\D.natAbs<=2^s/\w.natAbs<=2^t/\(∀j,j<=n-e->∀i,i<n->b7 (D*w^j) (s+j*(t+1)) (bP e d a (n-e) j i))/\∀k,k<n-e->b7 (D*w^(n-e)) (s+(n-e)*(t+1)) (cY e d a (n-e) k):=by
 obtain⟨D,d1,d2,d3⟩:=ha
 obtain⟨E,e1,e2,e3⟩:=hd
 obtain⟨w,w1,w2⟩:=e3 e aa
 have hw:w≠0:=fun h=>by
  rw[h]at w1
  have w1:(0:Rat)=d e*(E:Rat):=w1
  exact(Rat.mul_eq_zero.1 w1.symm).elim h0 (Ab e1)
 have key:∀j,j<=n-e->∀i,i<n->b7 (D*w^j) (s+j*(t+1)) (bP e d a (n-e) j i):=by
  intro j
  induction j with
  |zero=>exact fun _ i hi=>by rw[Int.pow_zero,Int.mul_one,Nat.zero_mul];exact d3 i hi
  |succ j ih=>
   intro hj i hi
   have ih:=ih aa
   show b7 _ _ (fJ e d (n-e-1-j) (bP e d a (n-e) j) i)
   have hs:s+(j+1)*(t+1)=s+j*(t+1)+t+1:=by rw[Nat.add_mul];omega
   have hD:D*w^(j+1)=D*w^j*w:=by rw[Int.pow_succ,Int.mul_assoc]
   rw[hs,hD]
   unfold fJ
   by_cases h:n-e-1-j<=i/\i<n-e-1-j+e+1
   ·rw[if_pos h]
    obtain⟨z,z1,z2⟩:=ih i hi
    obtain⟨y,y1,y2⟩:=ih (n-e-1-j+e) aa
    obtain⟨m,m1,m2⟩:=e3 (i-(n-e-1-j)) aa
    refine⟨z*w-y*m,?_,?_⟩
    ·rw[Rat.intCast_sub,Rat.intCast_mul,Rat.intCast_mul,Rat.intCast_mul,z1,m1]
     generalize ((D*w^j:Int):Rat)=Q at*
     rw[y1,w1,Rat.div_def]
     have:d e*(d e)⁻¹=1:=Rat.mul_inv_cancel _ h0
     generalize (d e)⁻¹=v at*
     generalize d (i-(n-e-1-j))=u
     generalize bP e d a (n-e) j i=x
     generalize bP e d a (n-e) j (n-e-1-j+e)=r
     generalize d e=g at*
     have h3:r*v*u*(Q*(g*(E:Rat)))=r*u*Q*(E:Rat)*(g*v):=by grind
     rw[Rat.sub_eq_add_neg,Rat.sub_eq_add_neg,Rat.add_mul,Rat.neg_mul,h3,this];grind
    ·have b1:=kZ z2 w2
     have b2:=kZ y2 m2
     have:=Int.natAbs_sub_le (z*w) (y*m)
     rw[Nat.pow_succ];omega
   ·rw[if_neg h]
    exact((ih i hi).up w2).more aa
 refine⟨D,w,d1,hw,d2,w2,key,fun k hk=>?_⟩
 -- the quotient
 obtain⟨z,z1,z2⟩:=key (n-e-1-k) aa (k+e) aa
 have h1:b7 (D*w^(n-e-1-k)*w) (s+(n-e-1-k)*(t+1)+t) (cY e d a (n-e) k):=by
  refine⟨z*E,?_,kZ z2 e2⟩
  unfold cY
  rw[Rat.intCast_mul,Rat.intCast_mul (D*w^(n-e-1-k)),z1,w1,Rat.div_def]
  have:d e*(d e)⁻¹=1:=Rat.mul_inv_cancel _ h0
  generalize (d e)⁻¹=v at*
  generalize bP e d a (n-e) (n-e-1-k) (k+e)=r
  generalize d e=g at*
  generalize ((D*w^(n-e-1-k):Int):Rat)=Q
  have h3:r*v*(Q*(g*(E:Rat)))=r*Q*(E:Rat)*(g*v):=by grind
  rw[h3,this,Rat.mul_one]
 have h2:=h1.up (yZ w2 k)
 rw[show D*w^(n-e-1-k)*w*w^k=D*w^(n-e) by rw[Int.mul_assoc,Int.mul_assoc,<-Int.pow_succ',<-Int.pow_add,show n-e-1-k+(k+1)=n-e by omega]]at h2
 refine h2.more ?_
 have:(n-e)*(t+1)=(n-e-1-k)*(t+1)+(k+1)*(t+1):=by rw[<-Nat.add_mul,show n-e-1-k+(k+1)=n-e by omega]
 rw[this,Nat.add_mul k 1,Nat.mul_add k t 1];omega
theorem Bd.rem {a d:PP} {s t:Nat} (ha:Bd a s) (hd:Bd d t) (h0:0<d.1) (td:Trim d):Bd (cw a d) (s+(a.1-(d.1-1))*(t+1))/\Bd (eZ a d) (s+(a.1-(d.1-1))*(t+1))/\(∀j,j<=a.1-(d.1-1)->∀i,i<a.1->Sz (bP (d.1-1) d.2 a.2 (a.1-(d.1-1)) j i) (2*(s+(a.1-(d.1-1))*(t+1))+2))/\∀k,k<a.1-(d.1-1)->Sz (cY (d.1-1) d.2 a.2 (a.1-(d.1-1)) k) (2*(s+(a.1-(d.1-1))*(t+1))+2):=by
 have hd':dj (d.1-1+1) d.2 t:=by rw[show d.1-1+1=d.1 by omega];exact hd
 obtain⟨D,w,d1,w1,d2,w2,h1,h2⟩:=NA ha hd' (td.resolve_left aa)
 obtain⟨R,hR⟩:∃R,R=a.1-(d.1-1):=⟨_,rfl⟩
 unfold cw eZ
 rw[<-hR]at h1 h2 ⊢
 have hne:∀j,D*w^j≠0:=fun j=>Int.mul_ne_zero d1 (Int.pow_ne_zero w1)
 have hjR:∀{j},j<=R->j*(t+1)<=R*(t+1):=fun h=>Nat.mul_le_mul_right _ h
 have hab:∀j,j<=R->(D*w^j).natAbs<=2^(s+R*(t+1)):=fun j hj=>Nat.le_trans (kZ d2 (yZ w2 j)) (Nat.pow_le_pow_right (by decide) (by have:=hjR hj;have:=Nat.mul_le_mul_left j (show t<=t+1 by omega);omega))
 refine⟨⟨D*w^R,hne R,hab R aQ,fun i hi=>h1 R aQ i (Nat.lt_of_lt_of_le hi eI)⟩,⟨D*w^R,hne R,hab R aQ,fun k hk=>h2 k (Nat.lt_of_lt_of_le hk eI)⟩,fun j hj i hi=>?_,fun k hk=>?_⟩
 ·exact((h1 j hj i hi).sz (hne j) (hab j hj)).more (by have:=hjR hj;omega)
 ·exact((h2 k hk).sz (hne R) (hab R aQ)).more aa
theorem Bd.cu {a:PP} {s:Nat} (h:Bd a s) (ta:Trim a):Bd (dO a) s:=by
 obtain⟨D,h1,h2,h3⟩:=h
 rcases Nat.eq_zero_or_pos a.1 with h0|h0
 ·exact⟨1,by decide,Nat.one_le_two_pow,fun i hi=>absurd hi (by show¬i<a.1;omega)⟩
 have ht:a.2 (a.1-1)≠0:=ta.resolve_left aa
 obtain⟨w,w1,w2⟩:=h3 (a.1-1) aa
 have hw:w≠0:=fun h=>by
  rw[h]at w1
  have w1:(0:Rat)=a.2 (a.1-1)*(D:Rat):=w1
  exact(Rat.mul_eq_zero.1 w1.symm).elim ht (Ab h1)
 refine⟨w,hw,w2,fun i hi=>?_⟩
 obtain⟨z,z1,z2⟩:=h3 i hi
 refine⟨z,?_,z2⟩
 show _=Go.Am.cu a.1 a.2 i*_
 unfold Go.Am.cu
 rw[z1,w1,Rat.div_def]
 have:a.2 (a.1-1)*(a.2 (a.1-1))⁻¹=1:=Rat.mul_inv_cancel _ ht
 generalize (a.2 (a.1-1))⁻¹=v at*
 generalize a.2 (a.1-1)=g at*
 have h4:a.2 i*v*(g*(D:Rat))=a.2 i*(D:Rat)*(g*v):=by grind
 rw[h4,this,Rat.mul_one]
theorem BN {n s:Nat} {k:Nat->Rat} (h:dj n k s) (hn:n<=41):dj (n-1) (cT k) (s+6):=by
 obtain⟨D,h1,h2,h3⟩:=h
 refine⟨D,h1,Nat.le_trans h2 (Nat.pow_le_pow_right (by decide) aa),fun i hi=>?_⟩
 unfold cT
 exact((h3 (i+1) aa).xK (e:=6) aa).more aa
theorem Bd.cT {a:PP} {s:Nat} (h:Bd a s) (ha:a.1<=41):Bd (bQ a) (s+6):=(BN h ha).short eI
theorem Bd.neg {a:PP} {s:Nat} (h:Bd a s):Bd (a.1,fun i=>((-1:Int):Rat)*a.2 i) s:=by
 obtain⟨D,h1,h2,h3⟩:=h
 exact⟨D,h1,h2,fun i hi=>((h3 i hi).xK (e:=0) (n:=-1) (by decide)).more aa⟩
theorem F5 {n s τ:Nat} {k:Nat->Rat} {D T:Int} {t:Rat} (h:∀i,i<n->b7 D s (k i)) (ht:b7 T τ t) (hT:T.natAbs<=2^τ):∀m,m<=n->b7 (D*T^m) (s+m*(τ+1)) (eR n k t m)
 |0,_=>b7.zero
 |m+1,hm=>by
  have ih:=F5 h ht hT m aa
  have e1:=ih.mul ht
  have e2:=(h (n-1-m) aa).up (yZ hT (m+1))
  have hD:D*T^m*T=D*T^(m+1):=by rw[Int.pow_succ,Int.mul_assoc]
  rw[hD]at e1
  have hs:s+(m+1)*(τ+1)=s+m*(τ+1)+τ+1:=by rw[Nat.add_mul];omega
  rw[hs]
  refine(e1.more aQ).add (e2.more ?_)
  rw[Nat.add_mul,Nat.one_mul]
  have:=Nat.mul_le_mul_left m (show τ<=τ+1 by omega)
  omega
theorem BH:∀δ:Nat,1<=δ->δ+2<=3^δ
 |1,_=>by decide
 |δ+2,_=>by
  have:=BH (δ+1) aa
  rw[Nat.pow_succ];omega
theorem yq (n:Nat):0<3^n:=Nat.pow_pos (by decide)
theorem wH {m n:Nat} (h:m<=n):3^m<=3^n:=Nat.pow_le_pow_right (by decide) h
theorem Bd.more {a:PP} {s t:Nat} (h:Bd a s) (ht:s<=t):Bd a t:=dj.more h ht
theorem Jy {B W M l l':Nat} (hB:B+1<=W*3^(M-l)) (hl:l'<l) (hM:l<=M):B+(l-(l'-1))*(B+1)+1<=W*3^(M-l')\/l'=0:=by
 rcases Nat.eq_zero_or_pos l' with h|h
 ·exact .inr h
 left
 have h1:l-(l'-1)=l-l'+1:=aa
 have h2:=BH (l-l') aa
 have h3:M-l'=M-l+(l-l'):=aa
 rw[h1,h3,Nat.pow_add,<-Nat.mul_assoc]
 have h4:(B+1)*(l-l'+2)<=W*3^(M-l)*3^(l-l'):=Nat.mul_le_mul hB h2
 have h5:(B+1)*(l-l'+2)=B+(l-l'+1)*(B+1)+1:=by
  rw[Nat.mul_comm,show l-l'+2=l-l'+1+1 by omega,Nat.add_mul (l-l'+1)];omega
 omega
theorem TC {u M l l':Nat} (hl:l<=M) (hl':l'<=M) (h0:0<l'):u+(l-(l'-1))*(u+1)+1<=2*(u+1)*3^(M-l'):=by
 have h1:(l-(l'-1))<=l-l'+1:=aa
 have h2:l-l'+2<=2*3^(l-l'):=by
  rcases Nat.eq_zero_or_pos (l-l')with h|h
  ·rw[h];decide
  ·have:=BH (l-l') h
   have:=yq (l-l');omega
 have h3:3^(l-l')<=3^(M-l'):=wH aa
 have h4:(u+1)*(l-l'+2)<=(u+1)*(2*3^(M-l')):=Nat.mul_le_mul_left _ aa
 have h5:(u+1)*(l-l'+2)=u+(l-l'+1)*(u+1)+1:=by
  rw[Nat.mul_comm,show l-l'+2=l-l'+1+1 by omega,Nat.add_mul (l-l'+1)];omega
 have h6:(l-(l'-1))*(u+1)<=(l-l'+1)*(u+1):=Nat.mul_le_mul_right _ h1
 have h7:(u+1)*(2*3^(M-l'))=2*(u+1)*3^(M-l'):=by rw[<-Nat.mul_assoc,Nat.mul_comm (u+1) 2]
 omega
theorem C5 {a b:PP} {u M:Nat} (ta:Trim a) (tb:Trim b) (la:a.1<=M) (lb:b.1<=M) (ha:Bd a u) (hb:Bd b u):∀j,∃B,B+1<=2*(u+1)*3^(M-(bJ (a,b) j).1.1)/\Bd (bJ (a,b) j).1 B/\Bd (bJ (a,b) j).2 B/\(bJ (a,b) j).1.1<=M/\(bJ (a,b) j).2.1<=M/\((bJ (a,b) j).2.1<(bJ (a,b) j).1.1\/j=0/\B=u\/(bJ (a,b) j).2.1=0)
 |0=>by
  have:=yq (M-a.1)
  refine⟨u,?_,ha,hb,la,lb,.inr (.inl ⟨rfl,rfl⟩)⟩
  show u+1<=2*(u+1)*3^(M-a.1)
  have:=Nat.mul_le_mul_left (2*(u+1)) this
  omega
 |j+1=>by
  obtain⟨B,h1,h2,h3,h4,h5,h6⟩:=C5 ta tb la lb ha hb j
  have ht:=mI (s:=(a,b)) ta tb j
  show∃B,B+1<=2*(u+1)*3^(M-(fo (bJ (a,b) j)).1.1)/\Bd (fo (bJ (a,b) j)).1 B/\Bd (fo (bJ (a,b) j)).2 B/\(fo (bJ (a,b) j)).1.1<=M/\(fo (bJ (a,b) j)).2.1<=M/\((fo (bJ (a,b) j)).2.1<(fo (bJ (a,b) j)).1.1\/j+1=0/\B=u\/(fo (bJ (a,b) j)).2.1=0)
  generalize bJ (a,b) j=s at*
  unfold fo
  by_cases h0:s.2.1=0
  ·rw[if_pos h0];exact⟨B,h1,h2,h3,h4,h5,.inr (.inr h0)⟩
  ·rw[if_neg h0]
   have hr:=nD (a:=s.1) (d:=s.2) aa ht.2
   have hb:=(Bd.rem h2 h3 aa ht.2).1.cu oN
   refine⟨B+(s.1.1-(s.2.1-1))*(B+1),?_,h3.more (Nat.le_add_right _ _),hb,h5,?_,.inl hr⟩
   ·rcases h6 with h6|⟨_,rfl⟩|h6
    ·exact(Jy h1 h6 h4).resolve_right h0
    ·exact TC h4 h5 aa
    ·exact absurd h6 h0
   ·show(cw s.1 s.2).1<=M;omega
theorem BR {a b:PP} {u M:Nat} (ta:Trim a) (tb:Trim b) (la:a.1<=M) (lb:b.1<=M) (ha:Bd a u) (hb:Bd b u):∃B,B+1<=2*(u+1)*3^(M-(bS a b).1)/\Bd (bS a b) B:=by
 obtain⟨B,h1,h2,_⟩:=C5 ta tb la lb ha hb b.1
 exact⟨B,h1,h2.cu (mI (s:=(a,b)) ta tb _).1⟩
theorem HT {a b:PP} {u M:Nat} (ta:Trim a) (tb:Trim b) (la:a.1<=M) (lb:b.1<a.1) (ha:Bd a u) (hb:Bd b u):∀j,j<=eU (a,b)->∃B,B+1<=2*(u+1)*3^(M-(bG (a,b) j).1.1)/\Bd (bG (a,b) j).1 B/\Bd (bG (a,b) j).2 B/\(bG (a,b) j).1.1<=M/\(bG (a,b) j).2.1<(bG (a,b) j).1.1
 |0,_=>by
  have:=yq (M-a.1)
  refine⟨u,?_,ha,hb,la,lb⟩
  show u+1<=2*(u+1)*3^(M-a.1)
  have:=Nat.mul_le_mul_left (2*(u+1)) this
  omega
 |j+1,hj=>by
  obtain⟨B,h1,h2,h3,h4,h5⟩:=HT ta tb la lb ha hb j aa
  have ht:=oE (s:=(a,b)) ta tb j
  have h0:=(rN (s:=(a,b)) ta tb).2.2 j aa
  show∃B,B+1<=2*(u+1)*3^(M-(qL (bG (a,b) j)).1.1)/\Bd (qL (bG (a,b) j)).1 B/\Bd (qL (bG (a,b) j)).2 B/\(qL (bG (a,b) j)).1.1<=M/\(qL (bG (a,b) j)).2.1<(qL (bG (a,b) j)).1.1
  generalize bG (a,b) j=s at*
  have hr:=nD (a:=s.1) (d:=s.2) aa ht.2
  refine⟨B+(s.1.1-(s.2.1-1))*(B+1),(Jy h1 h5 h4).resolve_right h0,h3.more (Nat.le_add_right _ _),(Bd.rem h2 h3 aa ht.2).1.neg,?_,hr⟩
  show s.2.1<=M;omega
theorem Yy {a d:PP} {B M:Nat} (ha:Bd a B) (hd:Bd d B) (h0:0<d.1) (td:Trim d) (hM:a.1-(d.1-1)<=M):
  (∀j,j<=a.1-(d.1-1)->∀i,i<a.1->Sz (bP (d.1-1) d.2 a.2 (a.1-(d.1-1)) j i) (2*((M+1)*(B+1))+2))/\∀k,k<a.1-(d.1-1)->Sz (cY (d.1-1) d.2 a.2 (a.1-(d.1-1)) k) (2*((M+1)*(B+1))+2):=by
 obtain⟨_,_,h1,h2⟩:=ha.rem hd h0 td
 have:B+(a.1-(d.1-1))*(B+1)<=(M+1)*(B+1):=by
  have:=Nat.mul_le_mul_right (B+1) hM
  rw[Nat.add_mul];omega
 exact⟨fun j hj i hi=>(h1 j hj i hi).more aa,fun k hk=>(h2 k hk).more aa⟩
theorem b7.sum {D:Int} {s b:Nat} {f:Nat->Rat} {n:Nat} (hn:n<=2^b) (h:∀i,i<n->b7 D s (f i)):b7 D (s+b) (sg f n):=by
 have key:∀m,m<=n->∃z:Int,(z:Rat)=sg f m*(D:Rat)/\z.natAbs<=m*2^s:=by
  intro m
  induction m with
  |zero=>exact fun _=>⟨0,by show _=0*_;rw[Rat.zero_mul];rfl,Nat.zero_le _⟩
  |succ m ih=>
   intro hm
   obtain⟨z,z1,z2⟩:=ih aa
   obtain⟨w,w1,w2⟩:=h m aa
   refine⟨z+w,?_,?_⟩
   ·show _=(sg f m+f m)*_
    rw[Rat.intCast_add,z1,w1];grind
   ·have:=Int.natAbs_add_le z w
    rw[Nat.add_mul,Nat.one_mul];omega
 obtain⟨z,z1,z2⟩:=key n aQ
 refine⟨z,z1,Nat.le_trans z2 ?_⟩
 rw[Nat.pow_add,Nat.mul_comm]
 exact Nat.mul_le_mul_left _ hn
theorem b7.ite {D:Int} {s:Nat} {x:Rat} {p:Prop} [Decidable p] (h:b7 D s x):b7 D s (if p then x else 0):=by
 split
 ·exact h
 ·exact .zero
theorem Fk {m n s t:Nat} {D E:Int} {U V:Nat->Rat} (hm:m+1<=64) (hn:n+1<=64) (hU:∀i,b7 D s (U i)) (hV:∀j,b7 E t (V j)) {i j k:Nat} (hi:i<=m+1) (hj:j<=n+1):
  b7 (D*E) (s+t+13) (sg (fun i=>sg (fun j=>if i+j=k then U i*V j else 0) (n+1)) i+sg (fun j=>if i+j=k then U i*V j else 0) j):=by
 have h1:∀i,∀j,j<=n+1->b7 (D*E) (s+t+6) (sg (fun j=>if i+j=k then U i*V j else 0) j):=fun i j hj=>b7.sum aa fun j _=>((hU i).mul (hV j)).ite
 have h2:b7 (D*E) (s+t+6+6) (sg (fun i=>sg (fun j=>if i+j=k then U i*V j else 0) (n+1)) i):=b7.sum aa fun i _=>h1 i _ aQ
 exact h2.add ((h1 i j hj).more aa)
theorem MX {m n s t:Nat} {D E:Int} {U V:Nat->Rat} (hm:m+1<=64) (hn:n+1<=64) (hU:∀i,b7 D s (U i)) (hV:∀j,b7 E t (V j)) (k:Nat):b7 (D*E) (s+t+13) (jb m n U V k):=by
 have:=Fk hm hn hU hV (k:=k) (Nat.le_refl (m+1)) (Nat.zero_le (n+1))
 unfold jb
 rw[show sg (fun j=>if m+1+j=k then U (m+1)*V j else 0) 0=0 from rfl,Rat.add_zero]at this
 exact this
def iK (N:Nat):Nat->Nat
 |0=>1
 |k+1=>iK N k*(if k<=N then bn N k else 1)
theorem zT {N:Nat}:∀k,0<iK N k
 |0=>Nat.one_pos
 |k+1=>by
  unfold iK
  refine Nat.mul_pos (zT k) ?_
  split
  ·rename_i h;exact AL h
  ·exact Nat.one_pos
theorem vZ {N:Nat}:∀k,iK N k<=2^(k*N)
 |0=>by rw[Nat.zero_mul];exact Nat.le_refl _
 |k+1=>by
  unfold iK
  rw[Nat.add_mul,Nat.one_mul,Nat.pow_add]
  refine Nat.mul_le_mul (vZ k) ?_
  split
  ·exact rC N k
  ·exact Nat.one_le_two_pow
theorem FN {N i:Nat} (hi:i<=N):∀k,i<k->∃w,iK N k=bn N i*w/\w<=iK N k
 |0,h=>absurd h (Nat.not_lt_zero _)
 |k+1,h=>by
  rcases Nat.eq_or_lt_of_le (Nat.le_of_lt_succ h)with h1|h1
  ·subst h1
   refine⟨iK N i,?_,?_⟩
   ·show iK N i*(if i<=N then bn N i else 1)=_
    rw[if_pos hi,Nat.mul_comm]
   ·show _<=iK N i*(if i<=N then bn N i else 1)
    rw[if_pos hi]
    exact Nat.le_mul_of_pos_right _ (AL hi)
  ·obtain⟨w,w1,w2⟩:=FN hi k h1
   refine⟨w*(if k<=N then bn N k else 1),?_,?_⟩
   ·show iK N k*_=_
    rw[w1,Nat.mul_assoc]
   ·show _<=iK N k*_
    exact Nat.mul_le_mul_right _ w2
theorem b7.Gf {D:Int} {s N i:Nat} {x:Rat} (h:b7 D s x) (hi:i<=N):b7 (D*(iK N (N+1):Nat)) (s+(N+1)*N) (x/bq N i):=by
 obtain⟨z,z1,z2⟩:=h
 obtain⟨w,w1,w2⟩:=FN hi (N+1) aa
 refine⟨z*(w:Int),?_,?_⟩
 ·have hb:=LU hi
  rw[w1,Rat.intCast_mul,z1,Rat.intCast_mul,Int.natCast_mul,Rat.intCast_mul,Rat.div_def]
  have:bq N i*(bq N i)⁻¹=1:=Rat.mul_inv_cancel _ hb
  show x*(D:Rat)*((w:Int):Rat)=x*(bq N i)⁻¹*((D:Rat)*(bq N i*((w:Int):Rat)))
  generalize (bq N i)⁻¹=v at*
  generalize bq N i=g at*
  generalize ((w:Int):Rat)=y
  have h4:x*v*((D:Rat)*(g*y))=x*(D:Rat)*y*(g*v):=by grind
  rw[h4,this,Rat.mul_one]
 ·rw[Int.natAbs_mul,Nat.pow_add,Int.natAbs_natCast]
  exact Nat.mul_le_mul z2 (Nat.le_trans w2 (vZ _))
theorem yG {D:Int} {m s:Nat} {p:Nat->Rat} (h:∀i,i<m+1->b7 D s (p i)) (i:Nat):b7 D (s+m) (bq m i*p i):=by
 by_cases hi:i<m+1
 ·have:=(h i hi).xK (e:=m) (n:=(bn m i:Nat)) (by rw[Int.natAbs_natCast];exact rC m i)
  exact this.more aa
 ·rw[DX aa,Rat.zero_mul];exact .zero
theorem KC {m n s t:Nat} {p q:Nat->Rat} (hm:m+n<=40) (hp:dj (m+1) p s) (hq:dj (n+1) q t):dj (m+n+1) (jc m n p q) (s+t+(m+n)+13+(m+n+1)*(m+n)):=by
 obtain⟨D,d1,d2,d3⟩:=hp
 obtain⟨E,e1,e2,e3⟩:=hq
 refine⟨D*E*(iK (m+n) (m+n+1):Nat),?_,?_,fun k hk=>?_⟩
 ·have:=zT (N:=m+n) (m+n+1)
  exact Int.mul_ne_zero (Int.mul_ne_zero d1 e1) aa
 ·have h1:=kZ (kZ d2 e2) (show((iK (m+n) (m+n+1):Nat):Int).natAbs<=2^((m+n+1)*(m+n)) by rw[Int.natAbs_natCast];exact vZ _)
  exact Nat.le_trans h1 (Nat.pow_le_pow_right (by decide) aa)
 ·unfold jc
  exact((MX aa aa (yG d3) (yG e3) k).Gf aa).more aa
theorem acy {m n s t:Nat} {p q:Nat->Rat} (hm:m+n<=40) (hp:dj (m+1) p s) (hq:dj (n+1) q t) {i j k:Nat} (hi:i<=m+1) (hj:j<=n+1):
  Sz (sg (fun i=>sg (fun j=>if i+j=k then bq m i*p i*(bq n j*q j)else 0) (n+1)) i+sg (fun j=>if i+j=k then bq m i*p i*(bq n j*q j)else 0) j) (2*(s+t+(m+n)+13)+2):=by
 obtain⟨D,d1,d2,d3⟩:=hp
 obtain⟨E,e1,e2,e3⟩:=hq
 have:=Fk (k:=k) aa aa (yG d3) (yG e3) hi hj
 exact(this.sz (Int.mul_ne_zero d1 e1) (Nat.le_trans (kZ d2 e2) aQ)).more aa
theorem xP {D:Int} {s n:Nat} {p:Nat->Rat} (h:∀i,i<n->b7 D s (p i)):∀k i,k+i<n->b7 D (s+k) (fe p k i)
 |0,i,hi=>h i aa
 |k+1,i,hi=>by
  obtain⟨z,z1,z2⟩:=xP h k (i+1) aa
  obtain⟨w,w1,w2⟩:=xP h k i aa
  refine⟨z-w,?_,?_⟩
  ·show _=(fe p k (i+1)-fe p k i)*_
   rw[Rat.intCast_sub,z1,w1];grind
  ·have:=Int.natAbs_sub_le z w
   rw[show s+(k+1)=s+k+1 by omega,Nat.pow_succ];omega
theorem BU {n s:Nat} {p:Nat->Rat} (h:dj n p s):dj n (fk n p) (s+2*n):=by
 obtain⟨D,d1,d2,d3⟩:=h
 refine⟨D,d1,Nat.le_trans d2 (Nat.pow_le_pow_right (by decide) aa),fun k hk=>?_⟩
 unfold fk
 have:=(xP d3 k 0 aa).xK (e:=n-1) (n:=(bn (n-1) k:Nat)) (by rw[Int.natAbs_natCast];exact rC _ k)
 exact this.more aa
theorem Bd.cf {a:PP} {s:Nat} (h:Bd a s):∃D:Int,D≠0/\D.natAbs<=2^s/\∀i,b7 D s (dZ a i):=by
 obtain⟨D,d1,d2,d3⟩:=h
 refine⟨D,d1,d2,fun i=>?_⟩
 unfold dZ
 split
 ·rename_i hi;exact d3 i hi
 ·exact .zero
theorem LL {a b:PP} {s t:Nat} (ha:Bd a s) (hb:Bd b t) (la:a.1<=60) (lb:b.1<=60):Bd (fl a b) (s+t+13):=by
 obtain⟨D,d1,d2,d3⟩:=ha.cf
 obtain⟨E,e1,e2,e3⟩:=hb.cf
 exact⟨D*E,Int.mul_ne_zero d1 e1,Nat.le_trans (kZ d2 e2) (Nat.pow_le_pow_right (by decide) aa),fun k _=>MX aa aa d3 e3 k⟩
theorem Tj {a b:PP}:(gU (fl a b)).1=0\/(gU (fl a b)).1+1<=(gU a).1+(gU b).1:=by
 rcases Nat.eq_zero_or_pos (gU (fl a b)).1 with h|h
 ·exact .inl h
 ·right
  have:=CR (c:=gU (fl a b)) (a:=gU a) (b:=gU b) (fun t=>by rw[nE,nE,nE,jj]) h oC oC oC
  omega
theorem Ay {a:PP}:(gU a).1<=a.1:=eI
theorem jD.of_eq {c d h f:PP} (s:jD c h f) (e:∀t,bO c t=bO d t):jD d h f:=
 ⟨fun t=>by rw[<-e,s.eq],s.dv.of_eq fun t=>by rw[oV,oV,Jq e]⟩
def sw (p q:PP):PP:=(p.1-1+(q.1-1)+1,jc (p.1-1) (q.1-1) p.2 q.2)
def iw (p q:PP):Nat->PP
 |0=>p
 |j+1=>sw (iw p q j) q
def iM (q:PP):PP:=(q.1,fk q.1 q.2)
def oA (p:PP) (t:Rat):Rat:=cs (p.1-1) p.2 t
theorem DW {q:PP} (h:1<=q.1) (t:Rat):bO (iM q) t=oA q t:=by
 obtain⟨n,k⟩:=q
 obtain⟨m,rfl⟩:∃m,n=m+1:=⟨n-1,by have h:1<=n:=h;omega⟩
 exact Z5
theorem BI {p q:PP} (t:Rat):oA (sw p q) t=oA p t*oA q t:=by
 unfold oA sw
 rw[Nat.add_sub_cancel]
 exact Sj
structure qy (q:PP):Prop where
 lo:1<=q.1
 hi:q.1<=3
 bd:Bd q 7
theorem qy.pw {q:PP} (h:qy q):Bd (iM q) 13:=by
 have h1:dj q.1 (fk q.1 q.2) (7+2*q.1):=BU h.bd
 exact h1.more (by have:=h.hi;omega)
structure nY (i:Nat) (p:PP):Prop where
 lo:1<=p.1
 hi:p.1<=4*i+1
 bd:Bd p (400*i)
 pw:∃c h f:PP,(∀t,bO c t=oA p t)/\Bd c (52*i)/\c.1<=8*i+1/\jD c h f/\(gU f).1<=2*i+1
theorem nY.one:nY 0 (1,fun _=>1) where
 lo:=aQ
 hi:=aQ
 bd:=⟨1,by decide,aQ,fun i _=>⟨1,(Rat.one_mul _).symm,aQ⟩⟩
 pw:=⟨kP,kP,kP,fun t=>by rw[pE];rfl,⟨1,by decide,aQ,fun i _=>⟨1,(Rat.one_mul _).symm,aQ⟩⟩,aQ,jD.one,Ay⟩
theorem yo {p q:PP} (hp:1<=p.1) (hq:qy q):∀j,1<=(iw p q j).1/\(iw p q j).1<=p.1+2*j
 |0=>⟨hp,aQ⟩
 |j+1=>by
  have:=yo hp hq j
  have h2:=hq.hi
  show 1<=(iw p q j).1-1+(q.1-1)+1/\(iw p q j).1-1+(q.1-1)+1<=_
  omega
theorem DG {p q:PP} {s:Nat} (hp:1<=p.1) (hq:qy q) (hb:Bd p s):∀j,p.1+2*j<=13->Bd (iw p q j) (s+200*j)
 |0,_=>hb
 |j+1,h=>by
  have ih:=DG hp hq hb j aa
  have hl:=yo hp hq j
  have h1:=hq.lo
  have h2:=hq.hi
  have hb2:dj ((iw p q j).1-1+1) (iw p q j).2 (s+200*j):=by rw[show(iw p q j).1-1+1=(iw p q j).1 by omega];exact ih
  have hb3:dj (q.1-1+1) q.2 7:=by rw[show q.1-1+1=q.1 by omega];exact hq.bd
  have:=KC aa hb2 hb3
  refine dj.more this ?_
  have h5:(iw p q j).1-1+(q.1-1)<=12:=aa
  have h6:((iw p q j).1-1+(q.1-1)+1)*((iw p q j).1-1+(q.1-1))<=13*12:=Nat.mul_le_mul aa h5
  omega
theorem nY.step {i r:Nat} {p q:PP} (h:nY i p) (hq:qy q) (hi:i<=2) (hr:1<=r/\r<=2):nY (i+1) (iw p q r):=by
 have hl:=yo h.lo hq r
 have h1:=h.hi
 obtain⟨c,hh,f,c1,c2,c3,c4,c5⟩:=h.pw
 have hq1:=hq.lo
 have hq2:=hq.hi
 have hcq:(iM q).1=q.1:=rfl
 have hcu:(gU (iM q)).1<=3:=Nat.le_trans Ay hq2
 have hf:(gU (fl f (iM q))).1<=2*(i+1)+1:=by
  rcases Tj (a:=f) (b:=iM q)with h0|h0<;>omega
 have e1:∀t,bO (fl c (iM q)) t=bO c t*bO (iM q) t:=fun t=>jj
 have l1:(fl c (iM q)).1=c.1+q.1+1:=rfl
 have b1:=LL c2 hq.pw aa aa
 refine⟨hl.1,aa,(DG h.lo hq h.bd r aa).more aa,?_⟩
 rcases(show r=1\/r=2 by omega)with rfl|rfl
 ·refine⟨fl c (iM q),hh,fl f (iM q),fun t=>?_,b1.more aa,aa,c4.US e1,hf⟩
  show _=oA (sw p q) t
  rw[BI,e1,c1,DW hq1]
 ·have b2:=LL b1 hq.pw aa aa
  have l2:(fl (fl c (iM q)) (iM q)).1=(fl c (iM q)).1+q.1+1:=rfl
  refine⟨fl (fl c (iM q)) (iM q),fl hh (iM q),fl f (iM q),fun t=>?_,b2.more aa,aa,c4.acq fun t=>by rw[jj,e1],hf⟩
  show _=oA (sw (sw p q) q) t
  rw[BI,BI,jj,e1,c1,DW hq1]
structure iF (c:PP):Prop where
 tr:Trim c
 len:c.1<=13
 bd:Bd c 156
 sq:∃h f:PP,jD c h f/\(gU f).1<=7
theorem nY.gd {i:Nat} {p:PP} (h:nY i p) (hi:i<=3):iF (br (fk p.1 p.2) p.1,fk p.1 p.2):=by
 obtain⟨c,hh,f,c1,c2,c3,c4,c5⟩:=h.pw
 have h1:=h.hi
 have e:∀t,bO (gU c) t=bO (br (fk p.1 p.2) p.1,fk p.1 p.2) t:=fun t=>by
  rw[nE,c1,<-DW h.lo]
  exact wU.symm
 have hb:Bd (gU c) (52*i):=dj.short c2 Ay
 refine⟨lK,?_,(hb.peq (ab3 oC lK e)).more aa,hh,f,c4.of_eq fun t=>by rw[<-e,nE],aa⟩
 have:br (fk p.1 p.2) p.1<=p.1:=eI
 show br _ _<=13
 omega
theorem BO {n s:Nat} {c:Nat->Rat} {D:Int} (h:∀i,i<n->b7 D s (c i)) {i:Nat} (hi:i<n):∀k,k<=n->b7 (D*(iK (n-1) (n-1+1):Nat)) (s+(n-1+1)*(n-1)+n+k) (ju n c i k)
 |0,_=>.zero
 |k+1,hk=>by
  have ih:=BO h hi k aa
  have h1:=((h k aa).Gf (N:=n-1) (i:=k) aa).xK (e:=n) (n:=(bn i k:Nat)) (by rw[Int.natAbs_natCast];exact Nat.le_trans (rC i k) (Nat.pow_le_pow_right (by decide) aa))
  have h2:=ih.add (h1.more (t:=s+(n-1+1)*(n-1)+n+k) aa)
  have e:ju n c i (k+1)=ju n c i k+((bn i k:Nat):Int)*(c k/bq (n-1) k):=by
   show ju n c i k+((bn i k:Int):Rat)/bq (n-1) k*c k=_
   rw[Rat.div_def,Rat.div_def];grind
  rw[e];exact h2
theorem CC {n s:Nat} {c:Nat->Rat} (hb:dj n c s) {i k:Nat} (hi:i<n) (hk:k<=n):Sz (ju n c i k) (2*(s+n*n+2*n)+2):=by
 obtain⟨D,d1,d2,d3⟩:=hb
 have h1:=BO d3 hi k hk
 have h2:=zT (N:=n-1) (n-1+1)
 have h3:(n-1+1)*(n-1)<=n*n:=Nat.mul_le_mul aa aa
 have h4:=kZ d2 (show((iK (n-1) (n-1+1):Nat):Int).natAbs<=2^((n-1+1)*(n-1)) by rw[Int.natAbs_natCast];exact vZ _)
 exact(h1.sz (Int.mul_ne_zero d1 aa) h4).more aa
end Go.Am
namespace Go.Am.B
open Go Go.Am.N AV af aq IntKind Proofs.Tryz
theorem mK {n s:Nat} {k:Nat->Rat} (h:dj n k s) (hs:2*s+2<=ag):cG n k:=fun i hi=>(h.sz hi).more hs
theorem AS {a d:PP} {B M:Nat} (ha:Bd a B) (hd:Bd d B) (h0:0<d.1) (td:Trim d) (hM:a.1-(d.1-1)<=M) (hB:2*((M+1)*(B+1))+2<=ag):j4 a d:=by
 obtain⟨h1,h2⟩:=Yy ha hd h0 td hM
 exact⟨fun j hj i hi=>(h1 j hj i hi).more hB,fun k hk=>(h2 k hk).more hB⟩
theorem yx {a d:PP} {B M:Nat} (ha:Bd a B) (hd:Bd d B) (h0:0<d.1) (td:Trim d) (hM:a.1-(d.1-1)<=M):Bd (cw a d) ((M+1)*(B+1))/\Bd (eZ a d) ((M+1)*(B+1)):=by
 obtain⟨h1,h2,_⟩:=ha.rem hd h0 td
 have:B+(a.1-(d.1-1))*(B+1)<=(M+1)*(B+1):=by
  have:=Nat.mul_le_mul_right (B+1) hM
  rw[Nat.add_mul];omega
 exact⟨h1.more this,h2.more this⟩
theorem yt {a b:PP} {u M:Nat} (ta:Trim a) (tb:Trim b) (la:a.1<=M) (lb:b.1<=M) (h1M:1<=M) (ha:Bd a u) (hb:Bd b u) (hX:2*((M+1)*(2*(u+1)*3^(M-1)))+2<=ag):jQ (a,b):=by
 have hle:∀{B l:Nat},B+1<=2*(u+1)*3^(M-l)->1<=l->B+1<=2*(u+1)*3^(M-1):=fun h1 h2=>Nat.le_trans h1 (Nat.mul_le_mul_left _ (wH aa))
 have hX2:∀{B:Nat},B+1<=2*(u+1)*3^(M-1)->2*((M+1)*(B+1))+2<=ag:=fun h=>by
  have:=Nat.mul_le_mul_left (M+1) h
  omega
 refine⟨fun j hj=>?_,fun i hi=>?_⟩
 ·obtain⟨B,b1,b2,b3,b4,b5,b6⟩:=C5 ta tb la lb ha hb j
  have ht:=mI (s:=(a,b)) ta tb j
  have hB:B+1<=2*(u+1)*3^(M-1):=by
   rcases b6 with h|⟨_,rfl⟩|h
   ·exact hle b1 aa
   ·have h3:=yq (M-1)
    have:=Nat.mul_le_mul_left (2*(B+1)) h3
    omega
   ·exact absurd h hj
  refine⟨AS b2 b3 aa ht.2 aa (hX2 hB),?_⟩
  have hm:=(yx b2 b3 aa ht.2 (show _<=M by omega)).1.cu oN
  exact mK hm (hX2 hB)
 ·obtain⟨B,b1,b2⟩:=BR ta tb la lb ha hb
  have hi:i<(bS a b).1:=hi
  have hB:=hle b1 aa
  have:=hX2 hB
  have h1:B+1<=(M+1)*(B+1):=Nat.le_mul_of_pos_left _ aa
  exact(dj.sz b2 hi).more aa
theorem AW {c:PP} (h:iF c):Bd (bQ c) 162:=Bd.more (h.bd.cT (by have:=h.len;omega)) aa
theorem HB {c:PP}:(bQ c).1<=c.1-1:=eI
theorem Ev {c:PP} (h:iF c) (h0:0<c.1):Bd (bS c (bQ c)) 237653/\c.1-(bS c (bQ c)).1<=6/\0<(bS c (bQ c)).1/\(bS c (bQ c)).1<=c.1:=by
 obtain⟨hh,f,s1,s2⟩:=h.sq
 have hl:=h.len
 obtain⟨l1,l2,l3⟩:=CR (a:=gU hh) (b:=gU f) (fun t=>by rw[s1.eq,nE,nE]) h0 h.tr oC oC
 have hd:Dv hh c:=⟨f,s1.eq⟩
 have hg:Dv (gU hh) (bS c (bQ c)):=(Pj hd s1.dv).imp fun w hw t=>by rw[hw,nE]
 have hl2:=hg.len (As h0) (mu h.tr fA) oC
 have hd2:c.1-(bS c (bQ c)).1<=6:=aa
 obtain⟨B,b1,b2⟩:=BR (M:=c.1) h.tr fA aQ (Nat.le_trans HB aa) (h.bd.more (show 156<=162 by omega)) (AW h)
 have h3:3^(c.1-(bS c (bQ c)).1)<=3^6:=wH hd2
 have h4:2*(162+1)*3^(c.1-(bS c (bQ c)).1)<=2*(162+1)*3^6:=Nat.mul_le_mul_left _ h3
 exact⟨b2.more aa,hd2,As h0,zn h.tr⟩
theorem r9 {c:PP} (h:iF c) (h0:0<c.1):Bd (bX c) 1901232/\(bX c).1<=7:=by
 obtain⟨g1,g2,g3,g4⟩:=Ev h h0
 have hq:=(yx (M:=7) (h.bd.more (show 156<=237653 by omega)) g1 g3 (mu h.tr fA) aa).2.cu xV
 unfold bX
 rw[if_neg aa]
 refine⟨Bd.more hq aa,?_⟩
 show br _ _<=7
 exact Nat.le_trans eI aa
theorem tV {c:PP} (h:iF c) (h0:0<c.1):wQ c/\qZ c:=by
 have hW:=cW
 have hl:=h.len
 obtain⟨g1,g2,g3,g4⟩:=Ev h h0
 obtain⟨f1,f2⟩:=r9 h h0
 have hd:=AS (M:=7) (h.bd.more (show 156<=237653 by omega)) g1 g3 (mu h.tr fA) aa aa
 have hf:cG (bX c).1 (bX c).2:=mK f1 aa
 have hder:cG (c.1-1) (cT c.2):=mK (BN h.bd aa) aa
 have h13:2*((13+1)*(2*(162+1)*3^(13-1)))+2<=ag:=by rw[hW];decide
 have b1:=h.bd.more (show 156<=162 by omega)
 have hdl:(bQ c).1<=13:=Nat.le_trans HB aa
 refine⟨⟨aa,h.tr,hder,fun _=>⟨yt h.tr fA hl hdl aa b1 (AW h) h13,hd,hf⟩⟩,⟨aa,aa,h.tr,hder,fun _=>⟨⟨mK (b1.cu h.tr) aa,mK ((AW h).cu fA) aa,yt (m8 h.tr) (m8 fA) hl hdl aa (b1.cu h.tr) ((AW h).cu fA) h13⟩,hd,hf⟩⟩⟩
theorem ME {c:PP} (h:iF c) (h0:0<c.1):∀j,j<=eU (gj c)->∃B,B+1<=2772006462/\Bd (bG (gj c) j).1 B/\Bd (bG (gj c) j).2 B/\(bG (gj c) j).1.1<=7/\(bG (gj c) j).2.1<(bG (gj c) j).1.1:=fun j hj=>by
 obtain⟨f1,f2⟩:=r9 h h0
 have hfp:0<(bX c).1:=by
  obtain⟨g1,g2,g3,g4⟩:=Ev h h0
  rcases Nat.eq_zero_or_pos (bX c).1 with h9|h9
  ·exfalso
   unfold bX at h9
   rw[if_neg aa]at h9
   have h9:(eZ c (bS c (bQ c))).1=0:=h9
   have h10:=fun t=>Dw (a:=c) (d:=bS c (bQ c)) g3 t
   have:=ya h.tr (b:=cw c (bS c (bQ c))) (wW fun t=>by rw[h10,qD h9,Rat.zero_mul,Rat.zero_add])
   have:=nD (a:=c) g3 (mu h.tr fA)
   omega
  ·exact h9
 have hfd:Bd (bQ (bX c)) 1901238:=f1.cT aa
 have hdl:(bQ (bX c)).1<=(bX c).1-1:=eI
 obtain⟨B,b1,b2,b3,b4,b5⟩:=HT (a:=bX c) (b:=bQ (bX c)) pI fA f2 aa (f1.more (show 1901232<=1901238 by omega)) hfd j hj
 have h3:3^(7-(bG (bX c,bQ (bX c)) j).1.1)<=3^6:=wH aa
 have h4:=Nat.mul_le_mul_left (2*(1901238+1)) h3
 exact⟨B,aa,b2,b3,b4,b5⟩
theorem Fa {c:PP} (h:iF c) (h0:0<c.1):ye (gj c):=fun j hj=>by
 have hW:=cW
 obtain⟨B,b1,b2,b3,b4,b5⟩:=ME h h0 j aa
 have ht:=oE (s:=gj c) pI fA j
 have hn:=(rN (s:=gj c) pI fA).2.2 j hj
 refine⟨AS (M:=7) b2 b3 aa ht.2 aa aa,?_⟩
 have hr:=(yx (M:=7) b2 b3 aa ht.2 aa).1.neg
 exact mK hr aa
theorem tX {c:PP} (h:iF c) (h0:0<c.1):lW c/\tM c:=by
 have hW:=cW
 obtain⟨f1,f2⟩:=r9 h h0
 have hder:cG ((bX c).1-1) (cT (bX c).2):=mK (BN f1 aa) aa
 exact⟨⟨(tV h h0).1,hder,Fa h h0⟩,⟨(tV h h0).2,hder,Fa h h0⟩⟩
theorem sU {c:PP} (h:iF c) (h0:0<c.1):cq c<=8:=by
 obtain⟨f1,f2⟩:=r9 h h0
 have:=(rN (s:=gj c) pI fA).1
 have h2:(gj c).2.1<=(bX c).1-1:=eI
 show eU (gj c)+1<=8
 omega
theorem CJ {c:PP} (h:iF c) (h0:0<c.1) {i:Nat} (hi:i<cq c):Bd (cH c i) 2772006461/\(cH c i).1<=7:=by
 obtain⟨B,b1,b2,b3,b4,b5⟩:=ME h h0 i (by have hi:i<eU (gj c)+1:=hi;omega)
 exact⟨b2.more aa,b4⟩
theorem wP {a:PP} {s:Nat} (h:Bd a s) (hl:a.1<=41) (hs:2*(s+a.1*a.1+2*a.1)+2<=ag):fO a:=⟨hl,fun i k hi hk=>(CC h hi aa).more hs⟩
theorem Gx {c:PP} (h:iF c) (h0:0<c.1) {i:Nat} (hi:i<cq c):fO (cH c i):=by
 have hW:=cW
 obtain⟨b1,b2⟩:=CJ h h0 hi
 have:=Nat.mul_le_mul b2 b2
 exact wP b1 aa aa
theorem WW {a:PP} {s τ:Nat} {T:Int} {t:Rat} (h:Bd a s) (ht:b7 T τ t) (hT:T.natAbs<=2^τ) (hT0:T≠0) (hl:a.1<=7) (hs:2*(s+7*(τ+1))+2<=ag):jL a t:=by
 obtain⟨D,d1,d2,d3⟩:=h
 intro m hm
 have h1:=F5 d3 ht hT m hm
 have h2:=kZ d2 (yZ hT m)
 have h3:m*(τ+1)<=7*(τ+1):=Nat.mul_le_mul_right _ aa
 have h4:m*τ<=7*(τ+1):=Nat.mul_le_mul aa aa
 exact((h1.more (show s+m*(τ+1)<=s+7*(τ+1) by omega)).sz (Int.mul_ne_zero d1 (Int.pow_ne_zero hT0)) (Nat.le_trans h2 (Nat.pow_le_pow_right (by decide) (show s+m*τ<=s+7*(τ+1) by omega)))).more aa
theorem sP {c:PP} (h:iF c) (h0:0<c.1) {τ:Nat} {T:Int} {t:Rat} (ht:b7 T τ t) (hT:T.natAbs<=2^τ) (hT0:T≠0) (hs:τ<=2^31):dz (cq c) (cH c) t:=fun i hi=>by
 have hW:=cW
 obtain⟨b1,b2⟩:=CJ h h0 hi
 exact⟨aa,WW b1 ht hT hT0 b2 aa⟩
abbrev nL (n:Nat) (z:Nat->Int) (a:Int):ax:=js n (fun i=>.int .i64 (z i)) a
structure tq where
 k:Nat->Rat
 t:Rat
 a:Int
def Dz (n:Nat) (f:Nat->AV) (t:Rat) (a:Int):Rat:=t+((1+cC n f a 3:Int):Rat)/((1+cC n f (bC n a) 2:Int):Rat)
def Hh (n:Nat) (f:Nat->AV) (p j:Nat) (s:tq):tq:=
 if j=0\/0<cC n f s.a 3\/s.t=s.k (j+1)then
  ⟨uM s.k (p+1+j) (Dz n f s.t (if j=0 then s.a else bC n s.a)),Dz n f s.t (if j=0 then s.a else bC n s.a),bC n (bC n (if j=0 then s.a else bC n s.a))⟩
 else⟨uM s.k (p+1+j) s.t,s.t,if j=0 then s.a else bC n s.a⟩
def pX (n:Nat) (f:Nat->AV) (p:Nat) (s0:tq):Nat->tq
 |0=>s0
 |j+1=>Hh n f p j (pX n f p s0 j)
def wg (n:Nat) (f:Nat->AV) (a:Int):tq:=⟨fun _=>((cC n f a 4-2:Int):Rat),((cC n f a 4-2:Int):Rat),bC n (bC n a)⟩
def VL (n:Nat) (f:Nat->AV) (a:Int) (m:Nat):Nat:=(cC n f (bC n a) (m+1)).toNat
def knE (n:Nat) (f:Nat->AV) (a:Int) (p m:Nat):tq:=pX n f p (wg n f a) (VL n f a m)
def knA (n:Nat) (f:Nat->AV) (a:Int) (p m:Nat):Int:=(knE n f a p m).a
theorem K0 {n:Nat} {f:Nat->AV} {a:Int} {p:Nat} (hd:cU n f a) (hp:1<=p):∀j,KG p j (pX n f p (wg n f a) j).k (pX n f p (wg n f a) j).t/\cU n f (pX n f p (wg n f a) j).a
 |0=>by
  have h1:=iS (n:=n) (f:=f) (a:=a) (m:=4) aa
  have h2:=iP (n:=n) (f:=f) (a:=a) (m:=4) aa
  exact⟨KG.start hp aa aa,hd.next.next⟩
 |j+1=>by
  obtain⟨h1,h2⟩:=K0 hd hp j
  unfold pX Hh Dz
  generalize pX n f p (wg n f a) j=s at*
  obtain⟨k,t,b⟩:=s
  simp only at h1 h2 ⊢
  have hb:cU n f (if j=0 then b else bC n b):=by split;exact h2;exact h2.next
  generalize (if j=0 then b else bC n b)=a1 at*
  split
  ·have x1:=iS (n:=n) (f:=f) (a:=a1) (m:=3) aa
   have x2:=iP (n:=n) (f:=f) (a:=a1) (m:=3) aa
   have y1:=iS (n:=n) (f:=f) (a:=bC n a1) (m:=2) aa
   have y2:=iP (n:=n) (f:=f) (a:=bC n a1) (m:=2) aa
   refine⟨h1.next (.inl ?_),hb.next.next⟩
   generalize cC n f a1 3=x at*
   generalize cC n f (bC n a1) 2=y at*
   have key:∃z:Int,((1+x:Int):Rat)/((1+y:Int):Rat)=(z:Rat)/2/\1<=z/\z<=6:=by
    rcases(show y=0\/y=1 by omega)with h|h
    ·subst h
     refine⟨2*(1+x),?_,aa,aa⟩
     have:((2*(1+x):Int):Rat)=2*((1+x:Int):Rat):=by simp
     rw[this]
     generalize ((1+x:Int):Rat)=w
     simp;grind
    ·subst h
     exact⟨1+x,by simp,aa,aa⟩
   obtain⟨z,e,z1,z2⟩:=key
   rw[e]
   refine⟨?_,z,rfl,z2⟩
   have:(1:Rat)<=(z:Rat):=by exact_mod_cast z1
   grind
  ·rename_i hc
   have hc1:¬j=0:=fun h=>hc (.inl h)
   have hc2:¬t=k (j+1):=fun h=>hc (.inr (.inr h))
   exact⟨h1.next (.inr ⟨rfl,aa,hc2⟩),hb⟩
theorem aaP {z:Int} (h1:-2^63<=z) (h2:z<2^63):Sz ((z:Rat)/2) 64:=by
 have:=FI h1 h2 (y:=2) aa aa aa
 simpa using this
theorem KG.sz {p j:Nat} {k:Nat->Rat} {t:Rat} (h:KG p j k t) (hj:j<2^50):Sz t 64:=by
 obtain⟨z,e,h1,h2⟩:=h.half (p+j) aQ
 rw[h.top]at e
 rw[e]
 exact aaP aa aa
def UB (n:Nat) (f:Nat->AV) (a:Int):Int:=bC n (Je n f a)
def H8 (n:Nat) (f:Nat->AV) (a:Int):Nat->Int
 |0=>a
 |j+1=>UB n f (H8 n f a j)
theorem cU.Ft {n:Nat} {f:Nat->AV} {a:Int} (h:cU n f a):∀j,cU n f (H8 n f a j)
 |0=>h
 |j+1=>(h.Ft j).Zr.next
theorem cU.pJ {n:Nat} {f:Nat->AV} {a:Int} {p m:Nat} (h:cU n f a) (hp:1<=p):cU n f (knA n f a p m):=(K0 h hp _).2
def nZ:bh:=zG::(91,yb)::(93,ir kR kR xH mS)::gV
abbrev yU:Code:=aH f31
abbrev xx:Code:=part yU [1,1,1,1,0,1,0,0]
abbrev uW:Code:=part xx [1,0,0]
abbrev pY:Code:=part yU [1,1,1,1,1]
abbrev qv:List Nat:=[0,1,6,7,8,9]
abbrev zV (m n:Nat) (p q:Nat->Rat) (i:Nat):List AV:=[aV p (m+1) ag,aV q (n+1) ag,.int .i64 m,.int .i64 n,.own 0 3 0 (m+n+1),.int .i64 i]
abbrev uR:List Nat:=[0,1,6,7,8,9,10]
abbrev BC (m n:Nat) (p q:Nat->Rat) (i j:Nat):List AV:=[aV p (m+1) ag,aV q (n+1) ag,.int .i64 m,.int .i64 n,.own 0 3 0 (m+n+1),.int .i64 i,.int .i64 j]
abbrev wA:List Nat:=[6,7,8,12]
abbrev EH (m n k:Nat):List AV:=[.int .i64 m,.int .i64 n,.own 0 3 0 (m+n+1),.int .i64 k]
abbrev mb (m n:Nat) (x:Nat->Rat):aE:=[(0,bT (m+n+1) x ag)]
theorem G3:aX 31 f31:=aZ func31
theorem XF {m n:Nat} {p q:Nat->Rat}:aG T nZ [200022] 60 qv (before yU [1,1,1,1,0,1]) ⟨aT 0 [aV p (m+1) ag,aV q (n+1) ag],[],0⟩=
  let c4:Int:=(↑(m+1):Int)-1;let c3:Int:=(↑(n+1):Int)-1;let c2:Int:=(2:Int)^63;let c1:Int:=c4+c3;let c5:Int:=c1+1;some (aj [-c2<=c4/\c4<c2,-c2<=c3/\c3<c2] (aj [-c2<=c1/\c1<c2] (aj [decide (c1>40)=false] (aj [-c2<=c1/\c1<c2,-c2<=c5/\c5<c2,(0:Int)<=c5/\c5<=c5/\c5<=2^47/\c5*(↑(56:Nat):Int)<=2^47] (leaf normal ([ak 3 (m+1) fun i=>rat (p i) ag,ak 3 (n+1) fun i=>rat (q i) ag,int i64 c4,int i64 c3,own 73728 3 0 c5.toNat,int i64 0],[(73728,ax.mk true true 3 c5.toNat fun x=>rat 0 1)])))))):=ah
theorem PD {m n i:Nat} {p q x:Nat->Rat}:aG T nZ [30] 60 qv (before xx [1,0]) ⟨aC qv (zV m n p q i),mb m n x,1⟩=
  let c1:List AV×aE:=([ak 3 (m+1) fun i=>rat (p i) ag,ak 3 (n+1) fun i=>rat (q i) ag,int i64 (↑m:Int),int i64 (↑n:Int),own 0 3 0 (m+n+1),int i64 (↑i:Int)],[(0,ax.mk true true 3 (m+n+1) fun i=>rat (x i) ag)]);some (fork (decide ((↑i:Int)<=(↑m:Int))) (leaf normal c1) (leaf (exit 0) c1)):=ah
theorem U0 {m n i:Nat} {p q x:Nat->Rat}:aG T nZ [] 60 uR (before uW [1]) ⟨aC qv (zV m n p q i),mb m n x,1⟩=
  some (leaf normal ([ak 3 (m+1) fun i=>rat (p i) ag,ak 3 (n+1) fun i=>rat (q i) ag,int i64 (↑m:Int),int i64 (↑n:Int),own 0 3 0 (m+n+1),int i64 (↑i:Int),int i64 0],[(0,ax.mk true true 3 (m+n+1) fun i=>rat (x i) ag)])):=ah
theorem ZS {m n i j:Nat} {p q x:Nat->Rat}:aG T nZ [35] 60 uR [part uW [1,0,0]] ⟨aC uR (BC m n p q i j),mb m n x,1⟩=
  let c13:Int:=(↑m:Int);let c11:Nat:=64+64;let c10:Int:=(↑n:Int);let c9:Int:=(↑i:Int);let c8:AV:=ak 3 (n+1) fun i=>rat (q i) ag;let c7:AV:=ak 3 (m+1) fun i=>rat (p i) ag;let c5:Int:=(↑j:Int);let c4:Int:=(2:Int)^63;let c3:Nat:=m+n+1;let c2:Nat:=2^41;let c15:Int:=c5+1;let c12:AV:=own 0 3 0 c3;let c1:Int:=c9+c5;let c14:Prop:=(0:Int)<=c1/\c1.toNat<c3;let c6:Nat:=c1.toNat+0;some (fork (decide (c5<=c10)) (aj [(0:Int)<=c9,c9<=c13,c13<=40,(0:Int)<=c5,c5<=c10,c10<=40,(64:Nat)<c2,(64:Nat)<c2,(0:Nat)<1] (aj [-c4<=c1/\c1<c4,-c4<=c1/\c1<c4,c14,c6<c3,(0:Nat)<1,(0:Int)<=c9/\c9.toNat<m+1,(0:Int)<=c5/\c5.toNat<n+1,ag<c2,ag<c2,c11<c2,ag+ag<c2,ag<c2,c11+(ag+ag)<c2,c14,c6<c3] (aj [-c4<=c15/\c15<c4] (leaf normal ([c7,c8,int i64 c13,int i64 c10,c12,int i64 c9,int i64 c15],[(0,ax.mk true true 3 c3 fun j=>rat (bif j==c6 then x c6+(↑(↑(bn c13.toNat c9.toNat):Int):Rat)*(↑(↑(bn c10.toNat c5.toNat):Int):Rat)*(p c9.toNat*q c5.toNat)else x j) (bif j==c6 then ag+(c11+(ag+ag))+1 else ag))]))))) (leaf (exit 2) ([c7,c8,int i64 c13,int i64 c10,c12,int i64 c9,int i64 c5],[(0,ax.mk true true 3 c3 fun i=>rat (x i) ag)]))):=ah
theorem Z3 {m n i j:Nat} {p q x:Nat->Rat}:aG T nZ [] 60 qv (behind uW [1]++[part xx [1,1]]) ⟨aC uR (BC m n p q i j),mb m n x,1⟩=
  let c1:Int:=(↑i:Int)+1;some (aj [-(2:Int)^63<=c1/\c1<2^63] (leaf normal ([ak 3 (m+1) fun i=>rat (p i) ag,ak 3 (n+1) fun i=>rat (q i) ag,int i64 (↑m:Int),int i64 (↑n:Int),own 0 3 0 (m+n+1),int i64 c1],[(0,ax.mk true true 3 (m+n+1) fun i=>rat (x i) ag)]))):=ah
theorem adT {m n i:Nat} {p q x:Nat->Rat}:aG T nZ [] 60 wA (before pY [0,1]) ⟨aC qv (zV m n p q i),mb m n x,1⟩=
  some (leaf normal ([int i64 (↑m:Int),int i64 (↑n:Int),own 0 3 0 (m+n+1),int i64 0],[(0,ax.mk true true 3 (m+n+1) fun i=>rat (x i) ag)])):=ah
theorem adh {m n k:Nat} {x:Nat->Rat}:aG T nZ [72] 60 wA [part pY [0,1,0,0]] ⟨aC wA (EH m n k),mb m n x,1⟩=
  let c4:Int:=(2:Int)^63;let c3:Nat:=m+n+1;let c2:Int:=(↑k:Int);let c1:Int:=(↑m:Int)+(↑n:Int);let c8:Int:=c2+1;let c7:Prop:=(0:Int)<=c2/\c2.toNat<c3;let c6:AV:=own 0 3 0 c3;let c5:Nat:=c2.toNat+0;some (aj [-c4<=c1/\c1<c4] (fork (decide (c2<=c1)) (aj [c7,c5<c3,-c4<=c1/\c1<c4,(0:Int)<=c2,c2<=c1,c1<=40,ag<2^41,(64:Nat)<2^41,c7,c5<c3] (aj [-c4<=c8/\c8<c4] (leaf normal ([int i64 (↑m:Int),int i64 (↑n:Int),c6,int i64 c8],[(0,ax.mk true true 3 c3 fun j=>rat (bif j==c5 then x c5/(↑(↑(bn c1.toNat c2.toNat):Int):Rat)else x j) (bif j==c5 then ag+64 else ag))])))) (leaf (exit 4) ([int i64 (↑m:Int),int i64 (↑n:Int),c6,int i64 c2],[(0,ax.mk true true 3 c3 fun i=>rat (x i) ag)])))):=ah
theorem Ol {m n k:Nat} {x:Nat->Rat}:cA T nZ [] 60 f31 [part pY [1]] ⟨aC wA (EH m n k),mb m n x,1⟩=
  some (leaf ret [ak 3 (m+n+1) fun i=>rat (x (i+0)) ag,int i64 0]):=ah
theorem EJ:bI P nZ:=fD (aL BM (aL (iL fun _ _ K hn=>AP hn.1 hn.2 K) iu))
def jN (m n:Nat) (p q:Nat->Rat) (i j k:Nat):Rat:=sg (fun i=>sg (fun j=>if i+j=k then bq m i*p i*(bq n j*q j)else 0) (n+1)) i+sg (fun j=>if i+j=k then bq m i*p i*(bq n j*q j)else 0) j
theorem Ws {m n i k:Nat} {p q:Nat->Rat}:jN m n p q i (n+1) k=jN m n p q (i+1) 0 k:=(Rat.add_zero _).symm
theorem Vv {m n i j:Nat} {p q:Nat->Rat}:jN m n p q i j (i+j)+bq m i*bq n j*(p i*q j)=jN m n p q i (j+1) (i+j):=by
 unfold jN
 show _=_+(sg _ j+(if i+j=i+j then bq m i*p i*(bq n j*q j)else 0))
 rw[if_pos rfl];grind
theorem adP {m n i j k:Nat} {p q:Nat->Rat} (h:k≠i+j):jN m n p q i j k=jN m n p q i (j+1) k:=by
 unfold jN
 show _=_+(sg _ j+(if i+j=k then bq m i*p i*(bq n j*q j)else 0))
 rw[if_neg (fun e=>h e.symm),Rat.add_zero]
theorem aaE {m n k:Nat} {p q:Nat->Rat}:jN m n p q (m+1) 0 k/bq (m+n) k=jc m n p q k:=by
 unfold jc
 rw[show jN m n p q (m+1) 0 k=jb m n (fun i=>bq m i*p i) (fun j=>bq n j*q j) k from Rat.add_zero _]
def nQ (m n:Nat) (p q:Nat->Rat) (k t:Nat):Rat:=if t<k then jc m n p q t else jN m n p q (m+1) 0 t
theorem BF {m n k t:Nat} {p q:Nat->Rat} (h:t<k):nQ m n p q k t=jc m n p q t:=if_pos h
theorem Rp {m n k:Nat} {p q:Nat->Rat}:nQ m n p q k k/bq (m+n) k=nQ m n p q (k+1) k:=by
 rw[BF (Nat.lt_succ_self _)];unfold nQ;rw[if_neg (Nat.lt_irrefl _)];exact aaE
theorem Zn {m n k t:Nat} {p q:Nat->Rat} (h:t≠k):nQ m n p q k t=nQ m n p q (k+1) t:=by
 unfold nQ
 by_cases h3:t<k
 ·rw[if_pos h3,if_pos aa]
 ·rw[if_neg h3,if_neg aa]
def ym (m n:Nat) (p q:Nat->Rat):Prop:=(∀i j k,i<=m+1->j<=n+1->k<m+n+1->Sz (jN m n p q i j k) ag)/\∀k,k<m+n+1->Sz (jc m n p q k) ag
theorem RH {m n:Nat} {p q:Nat->Rat} (hmn:m+n<=40) (hz:ym m n p q) (K:Nat):aP P 31 K [aV p (m+1) ag,aV q (n+1) ag] [] (aK (.tuple [aV (jc m n p q) (m+n+1) ag,.int .i64 0]) []):=by
 refine gm (r:=aK (.tuple [aV (jc m n p q) (m+n+1) ag,.int .i64 0]) []) hT G3 rfl aW rfl (fun _ cx h0=>?_) K []
 have hk:=jZ h0
 have hW:=cW
 refine au.oX hT EJ hm (x:=yU) [1,1,1,1,0,1] (i:=0) (y:=xx) (z:=pY) ah ah ah G3.dst [1,0] (j:=1) (x1:=uW) (zb:=part xx [1,1]) ah ah ah [1] (i2:=2) (y2:=part uW [1,0,0]) ah ah rfl hk
  (f1:=[200022]) (f2:=[30]) (f3:=[]) (f4:=[35]) (f5:=[]) 60 qv uR 1 1 (fun i:Nat=>zV m n p q i) (fun i=>mb m n (jN m n p q i 0)) (fun i=>i<=m+1) (fun i=>i=m+1) (fun i=>m+1-i) (fun i=>i<m+1) (fun _=>False) (fun _=>False)
  (fun i (j:Nat)=>BC m n p q i j) (fun i j=>mb m n (jN m n p q i j)) (fun _ j=>j<=n+1) (fun _ j=>j=n+1) (fun _ j=>n+1-j)
  ⟨_,XF,?_⟩ (fun i hi=>⟨_,PD,?_⟩) (fun i hi hG=>⟨_,U0,?_⟩) (fun i hi hG j hj=>⟨_,ZS,?_⟩) (fun i hi hG j hj=>⟨_,Z3,?_⟩) (fun i hi=>?_) (fun _ _ h=>h.elim) (fun _ _ h=>h.elim)
 ·have e1:((m+1:Nat):Int)-1=(m:Nat):=aa
  have e2:((n+1:Nat):Int)-1=(n:Nat):=aa
  have e3:((m:Int)+(n:Int)+1).toNat=m+n+1:=aa
  simp only[af.all,aA,e1,e2,e3,bB]
  exact⟨aa,aa,aa,aa,0,Nat.zero_le _,[(0,73728)],rfl,rfl,rfl,bg rfl rfl rfl (fun k hk=>.inr ⟨rfl,dy (by show(0:Rat)=0+0;rw[Rat.add_zero]) aa⟩) trivial⟩
 ·simp only[af.all,aA,bw,bB]
  exact⟨fun h=>⟨aa,[(0,0)],rfl,rfl,rfl,bg rfl rfl rfl (fun i hi=>bE rfl rfl) trivial⟩,fun h=>⟨rfl,i,aa,[(0,0)],rfl,rfl,rfl,bg rfl rfl rfl (fun i hi=>bE rfl rfl) trivial⟩⟩
 ·simp only[af.all,aA]
  exact⟨0,Nat.zero_le _,[(0,0)],rfl,rfl,rfl,bg rfl rfl rfl (fun i hi=>bE rfl rfl) trivial⟩
 ·have e1:((i:Int)+(j:Int)).toNat=i+j:=aa
  simp only[af.all,aA,e1,bw,bB,bu,Nat.add_zero]
  refine⟨fun h=>⟨⟨aa,aa,aa,aa,aa,aa,aa,aa,aa⟩,⟨aa,aa,aa,aa,aa,aa,aa,aa,aa,aa,aa,aa,aa,aa,aa⟩,aa,j+1,aa,by dsimp only;omega,[(0,0)],rfl,by rw[show(j:Int)+1=((j+1:Nat):Int) by omega];rfl,rfl,bg rfl rfl rfl (fun k hk=>kI (dK Vv (hz.1 i (j+1) _ aa aa aa)) fun hne=>dy (adP hne) aQ) trivial⟩,
   fun h=>⟨rfl,j,aa,[(0,0)],rfl,rfl,rfl,bg rfl rfl rfl (fun i hi=>bE rfl rfl) trivial⟩⟩
 ·subst hj
  simp only[af.all,aA]
  exact⟨aa,i+1,aa,by dsimp only;omega,[(0,0)],rfl,by rw[show(i:Int)+1=((i+1:Nat):Int) by omega];rfl,rfl,bg rfl rfl rfl (fun k hk=>bE rfl (by rw[Ws])) trivial⟩
 ·subst hi
  refine au.l5 hT EJ hm (x:=pY) [0,1] (i:=4) (y:=part pY [0,1,0,0]) (z:=part pY [1]) ah ah ah ah hk (f1:=[]) (f2:=[72]) 60 wA 1 (fun k:Nat=>EH m n k) (fun k=>mb m n (nQ m n p q k))
   (fun k=>k<=m+n+1) (fun k=>k=m+n+1) (fun k=>m+n+1-k) (fun _=>False) ⟨_,adT,?_⟩ (fun k hk=>⟨_,adh,?_⟩) (fun k hk=>?_) (fun _ _ h=>h.elim)
  ·simp only[af.all,aA]
   exact⟨0,Nat.zero_le _,[(0,0)],rfl,rfl,rfl,bg rfl rfl rfl (fun i hi=>bE rfl rfl) trivial⟩
  ·have e1:((m:Int)+(n:Int)).toNat=m+n:=aa
   simp only[af.all,aA,e1,bw,bB,bu,Nat.add_zero]
   refine⟨aa,fun h=>⟨⟨aa,aa,aa,aa,aa,aa,aa,aa,aa,aa⟩,aa,k+1,aa,by dsimp only;omega,[(0,0)],rfl,by rw[show(k:Int)+1=((k+1:Nat):Int) by omega];rfl,rfl,bg rfl rfl rfl (fun t ht=>kI (y:=nQ m n p q (k+1)) (dK Rp (by rw[BF (Nat.lt_succ_self _)];exact hz.2 k aa)) fun hne=>dy (Zn hne) aQ) trivial⟩,
    fun h=>⟨rfl,k,aa,[(0,0)],rfl,rfl,rfl,bg rfl rfl rfl (fun i hi=>bE rfl rfl) trivial⟩⟩
  ·subst hk
   refine au.jV ((aF.fin hT EJ hm 60 Ol ah ?_).mono fun _ _ h=>.inl h)
   exact⟨gr fun i hi=>dy (by rw[Nat.add_zero];exact BF hi) aQ,.refl _,trivial⟩
def MD:Spec:=dA (kC (kL ag) (kC (kL ag) kN)) (fun a=>.tuple [aV (jc (a.1.1-1) (a.2.1.1-1) a.1.2 a.2.1.2) (a.1.1-1+(a.2.1.1-1)+1) ag,.int .i64 0]) fun a=>[1<=a.1.1,1<=a.2.1.1,a.1.1+a.2.1.1<=42,ym (a.1.1-1) (a.2.1.1-1) a.1.2 a.2.1.2]
theorem ac3:bf P MD 31:=cR fun⟨⟨m,p⟩,⟨n,q⟩,_⟩ K hn=>by
 obtain⟨h1,h2,h3,h4⟩:=hn
 have h1:1<=m:=h1
 have h2:1<=n:=h2
 have h3:m+n<=42:=h3
 obtain⟨m,rfl⟩:∃x,m=x+1:=⟨m-1,aa⟩
 obtain⟨n,rfl⟩:∃x,n=x+1:=⟨n-1,aa⟩
 exact RH aa h4 K
def zH:bh:=nG::(44,kS vY)::(87,kS E1)::[]
abbrev wK:Code:=aH f28
abbrev uI:List Nat:=[0,5,6]
abbrev y9 (j:Nat) (t:Int):List AV:=[.ptr 0 0 2 0 [],.own 1 3 0 j,.int .i64 t]
abbrev CN (n:Nat) (z:Nat->Int) (a:Int) (k:Nat->Rat) (j:Nat):aE:=[(1,bT j k 64),(0,nL n z a)]
def Ae:bh:=nG::(96,E2)::gV
abbrev wo:Code:=aH f55
abbrev vj:List Nat:=[0,3,4]
abbrev A2 (n:Nat) (z:Nat->Int) (i:Nat):List AV:=[.ak 1 n fun i=>.int .i64 (z i),.own 0 3 0 i,.int .i64 i]
theorem FV:aX 28 f28:=aZ func28
theorem acP:aX 55 f55:=aZ func55
theorem aa3 {n:Nat} {z:Nat->Int} {a d:Int}:aG T zH [] 60 uI (before wK [1,1,0,1]) ⟨aT 0 [.ptr 0 0 2 0 [],.int .i64 d],[(0,nL n z a)],1⟩=
  let c1:Int:=d+1;some (aj [-(2:Int)^63<=c1/\c1<2^63,cU n (fun i=>int i64 (z i)) a,(0:Int)<c1,c1<2^62] (leaf normal ([ptr 0 0 2 0 [],nil,int i64 (cC n (fun i=>int i64 (z i)) a c1)],[(0,ax.mk false true 2 1 fun x=>agg [ak 1 n fun i=>int i64 (z i),int i64 (bC n a)])]))):=ah
theorem QT {n j:Nat} {z:Nat->Int} {a t:Int} {k:Nat->Rat}:aG T zH [12] 60 uI [part wK [1,1,0,1,0,0]] ⟨aC uI (y9 j t),CN n z a k j,2⟩=
  let c2:AV:=ak 1 n fun i=>int i64 (z i);let c1:AV:=ptr 0 0 2 0 [];some (fork (decide (t>=0)) (aj [cU n (fun i=>int i64 (z i)) a,(1:Nat)*3<=2^24,(j+1)*((56:Nat)+1)*2<=2^47] (aj [-(2:Int)^63<=t-1/\t-1<(2:Int)^63] (leaf normal ([c1,own 24578 3 0 (j+1),int i64 (t-1)],[(24578,ax.mk true true 3 (j+1) fun i=>if i<j then rat (k i) 64 else nth [rat (qC n (fun i=>int i64 (z i)) a) 64] (rat 0 1) (i-j+0)),(0,ax.mk false true 2 1 fun x=>agg [c2,int i64 (me n (fun i=>int i64 (z i)) a)])])))) (leaf (exit 0) ([c1,own 1 3 0 j,int i64 t],[(1,ax.mk true true 3 j fun i=>rat (k i) 64),(0,ax.mk false true 2 1 fun x=>agg [c2,int i64 a])]))):=ah
theorem UE {n j:Nat} {z:Nat->Int} {a t:Int} {k:Nat->Rat}:ze T zH [] 60 f28 [part wK [1,1,1]] ⟨aC uI (y9 j t),CN n z a k j,2⟩=
  some (leaf ret ([ak 3 j fun i=>rat (k (i+0)) 64],some (ax.mk false true 2 1 fun x=>agg [ak 1 n fun i=>int i64 (z i),int i64 a]))):=ah
theorem VO {n:Nat} {z:Nat->Int}:aG T Ae [] 60 vj (before wo [1,1,0,1]) ⟨aT 0 [.ak 1 n fun i=>.int .i64 (z i)],[],0⟩=
  some (leaf normal ([ak 1 n fun i=>int i64 (z i),nil,int i64 0],[])):=ah
theorem Qx {n i:Nat} {z:Nat->Int} {k:Nat->Rat}:aG T Ae [10] 60 vj [part wo [1,1,0,1,0,0]] ⟨aC vj (A2 n z i),[(0,bT i k 64)],1⟩=
  let c3:AV:=ak 1 n fun i=>int i64 (z i);let c2:Int:=(2:Int)^63;let c1:Int:=(↑i:Int);let c5:Int:=z c1.toNat;let c4:Int:=c1+1;some (fork (decide (c1<(↑n:Int))) (aj [(0:Int)<=c1/\c1.toNat<n,-c2<=c5,c5<c2,(1:Nat)*3<=2^24,(i+1)*((56:Nat)+1)*2<=2^47] (aj [-c2<=c4/\c4<c2] (leaf normal ([c3,own 45057 3 0 (i+1),int i64 c4],[(45057,ax.mk true true 3 (i+1) fun i_1=>if i_1<i then rat (k i_1) 64 else nth [rat (↑c5:Rat) (Max.max 1 (bK c5.natAbs))] (rat 0 1) (i_1-i+0))])))) (leaf (exit 0) ([c3,own 0 3 0 i,int i64 c1],[(0,ax.mk true true 3 i fun i=>rat (k i) 64)]))):=ah
theorem acF {n i:Nat} {z:Nat->Int} {k:Nat->Rat}:cA T Ae [] 60 f55 [part wo [1,1,1]] ⟨aC vj (A2 n z i),[(0,bT i k 64)],1⟩=
  some (aj [cF (fun i=>.rat (k (i+0)) 64) i ag,(1:Nat)<=i,i<=41,iD i fun i=>aS (.rat (k (i+0)) 64)] (leaf ret [aV (eW i fun i=>aS (.rat (k (i+0)) 64)) i ag])):=ah
theorem F6 {rl:List (Nat×Nat)} {l i s s' s2:Nat} {x y:Nat->Rat} {t:Rat} {z:AV} (hx:∀i,i<l->x i=y i) (ht:bA (.rat t s') (.rat (y l) s2)) (h1:s<=s2) (hi:i<l+1):pP rl (if i<l then .rat (x i) s else nth [.rat t s'] z (i-l+0)) (.rat (y i) s2):=by
 by_cases h:i<l
 ·rw[if_pos h,hx i h];exact .inr ⟨rfl,dy rfl h1⟩
 ·obtain rfl:i=l:=aa
  rw[if_neg h,Nat.sub_self]
  exact .inr ⟨rfl,ht⟩
def uK (n:Nat) (f:Nat->AV) (a:Int):Nat->Int
 |0=>a
 |j+1=>me n f (uK n f a j)
theorem cU.numbers {n:Nat} {f:Nat->AV} {a:Int} (h:cU n f a):∀j,cU n f (uK n f a j)
 |0=>h
 |j+1=>(h.numbers j).number
def oF (n:Nat) (f:Nat->AV) (a d:Int):Nat:=(cC n f a (d+1)).toNat+1
def qB (n:Nat) (f:Nat->AV) (a:Int) (i:Nat):Rat:=qC n f (uK n f (bC n a) i)
def qa (n:Nat) (f:Nat->AV) (a d:Int):Int:=uK n f (bC n a) (oF n f a d)
def Bf (n:Nat) (f:Nat->AV) (a:Int) (l:List AV):Option (AV×Int×List Prop):=match l with
 |[.int .i64 d]=>some (aV (qB n f a) (oF n f a d) 64,qa n f a d,[0<=d,d<900])
 |_=>none
theorem GK:bI P zH:=iQ (aL Cf (aL Tu b9))
theorem OY {k n:Nat} {z:Nat->Int} {a d:Int} {o:ax} (ho:∀ρ,dr ρ o (nL n z a)) (h:cU n (fun i=>.int .i64 (z i)) a) (hd1:0<=d) (hd2:d<900) (K:Nat):
  aP P 28 K [.ptr k 0 2 0 [],.int .i64 d] [(k,o)] ⟨aV (qB n (fun i=>.int .i64 (z i)) a) (oF n (fun i=>.int .i64 (z i)) a d) 64,[(k,nL n z (qa n (fun i=>.int .i64 (z i)) a d))],[]⟩:=by
 refine HF hT FV rfl rfl aW ho (fun _ c hk=>?_) K
 have a1:=iS (n:=n) (f:=fun i=>.int .i64 (z i)) (a:=a) (m:=d+1) aa
 have a2:=iP (n:=n) (f:=fun i=>.int .i64 (z i)) (a:=a) (m:=d+1) aa
 unfold qa
 obtain⟨N,hN⟩:∃N,N=oF n (fun i=>.int .i64 (z i)) a d:=⟨_,rfl⟩
 have hN2:cC n (fun i=>.int .i64 (z i)) a (d+1)=(N:Int)-1:=by rw[hN];unfold oF;omega
 rw[<-hN]
 refine au.l5 hT GK hm [1,1,0,1] (i:=0) (y:=part wK [1,1,0,1,0,0]) (z:=part wK [1,1,1]) ah ah ah FV.dst hk (f1:=[]) (f2:=[12]) 60 uI 2 (fun j:Nat=>y9 j ((N:Int)-1-j))
  (fun j=>CN n z (uK n (fun i=>.int .i64 (z i)) (bC n a) j) (qB n (fun i=>.int .i64 (z i)) a) j) (fun j=>j<=N) (fun j=>j=N) (fun j=>N-j) (fun _=>False) ⟨_,aa3,?_⟩ (fun j hj=>⟨_,QT,?_⟩) (fun j hj=>?_) (fun _ _ h=>h.elim)
 ·simp only[af.all,aA,hN2]
  exact⟨⟨aa,h,aa,aa⟩,0,Nat.zero_le _,[(0,0)],rfl,by show _=List.map (jF [(0,0)]) (y9 0 ((N:Int)-1-((0:Nat):Int)));rw[show(N:Int)-1-((0:Nat):Int)=N-1 by omega];rfl,rfl,kA rfl aa aa (dh trivial)⟩
 ·simp only[af.all,aA,bw,bB]
  refine⟨fun h2=>⟨⟨h.next.numbers j,aa,aa⟩,aa,j+1,aa,by dsimp only;omega,[(0,0),(1,24578)],rfl,by rw[show(N:Int)-1-(j:Int)-1=(N:Int)-1-((j+1:Nat):Int) by omega];rfl,rfl,
   bg rfl rfl rfl (fun i hi=>F6 (fun _ _=>rfl) (.refl _) aQ hi) (dh trivial)⟩,
   fun h2=>⟨rfl,j,aa,[(0,0),(1,1)],rfl,rfl,rfl,lf (dh trivial)⟩⟩
 ·subst hj
  refine au.jV (aF.Gu hT GK hm 60 UE ah ?_)
  simp only[af.all,aA]
  exact⟨.refl _,_,rfl,rfl,rS rfl rfl⟩
theorem Qp:bf P (kS Bf) 28:=by
 refine yJ fun {k n z a l v b q o} K hg ho hd hq=>?_
 unfold Bf at hg
 split at hg
 ·rename_i d
  simp only[ay,Prod.mk.injEq]at hg
  obtain⟨rfl,rfl,rfl⟩:=hg
  exact OY ho hd hq.1 hq.2 K
 ·simp at hg
theorem SU:bI P Ae:=iQ (aL FZ iu)
def dR (z:Nat->Int) (i:Nat):Rat:=(z i:Int)
theorem B3 {n:Nat} {z:Nat->Int} (h1:1<=n) (h2:n<=41) (hz:∀i,i<n->-2^62<=z i/\z i<2^62) (hf:iD n (dR z)) (K:Nat):aP P 55 K [.ak 1 n fun i=>.int .i64 (z i)] [] (aK (aV (eW n (dR z)) n ag) []):=by
 have hW:=cW
 refine iG (r:=aK (aV (eW n (dR z)) n ag) []) hT SU hm acP rfl aW rfl [1,1,0,1] (i:=0) (y:=part wo [1,1,0,1,0,0]) (z:=part wo [1,1,1]) ah ah ah (f1:=[]) (f2:=[10]) (f3:=[]) 60 vj 1
  (fun i:Nat=>A2 n z i) (fun i=>[(0,bT i (dR z) 64)]) (fun i=>i<=n) (fun i=>i=n) (fun i=>n-i) (fun _=>⟨⟨_,VO,?_⟩,fun i hi=>⟨_,Qx,?_⟩,fun i hi=>⟨_,acF,?_⟩⟩) K []
 ·simp only[af.all,aA]
  exact⟨0,Nat.zero_le _,[],rfl,rfl,rfl,kA rfl aa aa trivial⟩
 ·simp only[af.all,aA,bw,bB,bu]
  refine⟨fun h=>⟨⟨aa,by have:=hz i aa;omega,by have:=hz i aa;omega,aa,aa⟩,aa,i+1,aa,by dsimp only;omega,[(0,45057)],rfl,by rw[show(i:Int)+1=((i+1:Nat):Int) by omega];rfl,rfl,bg rfl rfl rfl (fun j hj=>F6 (fun _ _=>rfl) (dK rfl (yg (y:=0) (by have:=hz i aa;omega) (by have:=hz i aa;omega))) aQ hj) trivial⟩,
   fun h=>⟨rfl,i,aa,[(0,0)],rfl,rfl,rfl,lf trivial⟩⟩
 ·subst hi
  simp only[af.all,aA]
  exact⟨⟨cZ aa,h1,h2,hf⟩,.refl _⟩
def GL:Spec:=bU fun l=>match l with
 |[.ak 1 n f]=>some (aK (aV (eW n (dR fun i=>intOf (f i))) n ag) [1<=n,n<=41,∀i,i<n->f i=.int .i64 (intOf (f i)),∀i,i<n->-2^62<=intOf (f i)/\intOf (f i)<2^62,iD n (dR fun i=>intOf (f i))])
 |_=>none
def og:bh:=nG::(44,kS vY)::(28,kS Bf)::(55,GL)::(51,Mp)::(52,wD)::(31,MD)::gV
abbrev rE:Code:=aH f13
abbrev pq:Code:=part rE [1,1,0,1,0,0]
abbrev pM:Code:=part pq [1,0,0]
abbrev j8:List Nat:=[0,3,4]
abbrev pD (p:PP) (t:Int):List AV:=[.ptr 0 0 2 0 [],aI p,.int .i64 t]
abbrev ia (n:Nat) (z:Nat->Int) (a:Int):aE:=[(0,nL n z a)]
abbrev lS:List Nat:=[0,3,4,5,7]
abbrev nh (p q:PP) (t r:Int):List AV:=[.ptr 0 0 2 0 [],aI p,.int .i64 t,aI q,.int .i64 r]
def fq (n:Nat) (f:Nat->AV) (b:Int) (i:Nat):Int:=if i=0 then-cC n f b 4 else if i=1 then 0 else 1+cC n f (bC n b) 5
def rH (n:Nat) (f:Nat->AV) (a:Int):PP:=if cC n f a 4=0 then(oF n f (bC n a) 2,qB n f (bC n a))else if cC n f a 4=1 then(3,eW 3 (dR (fq n f (bC n a))))else
 (2,fun i=>if i=0 then-kr (cC n f (bC n a) 400)else 1-kr (cC n f (bC n a) 400))
def iR (n:Nat) (f:Nat->AV) (a:Int):Int:=if cC n f a 4=0 then qa n f (bC n a) 2 else if cC n f a 4=1 then bC n (bC n (bC n a))else bC n (bC n a)
def oW (n:Nat) (f:Nat->AV) (a:Int):Nat:=1+(cC n f (iR n f a) 3).toNat/2
def nw (n:Nat) (f:Nat->AV) (a:Int):Int:=bC n (iR n f a)
def eC (n:Nat) (f:Nat->AV) (a:Int):Nat->PP×Int
 |0=>((1,fun _=>1),bC n a)
 |i+1=>(iw (eC n f a i).1 (rH n f (eC n f a i).2) (oW n f (eC n f a i).2),nw n f (eC n f a i).2)
def pG (n:Nat) (f:Nat->AV) (a:Int):Nat:=(cC n f a 4).toNat
def oK (n:Nat) (f:Nat->AV) (a:Int):PP:=(eC n f a (pG n f a)).1
def qM (n:Nat) (f:Nat->AV) (a:Int):Int:=(eC n f a (pG n f a)).2
def K1 (p q:PP):Prop:=1<=p.1/\1<=q.1/\p.1+q.1<=42/\ym (p.1-1) (q.1-1) p.2 q.2
def xe (n:Nat) (f:Nat->AV) (a:Int):Prop:=∀i,i<pG n f a->(cC n f (eC n f a i).2 4=1->iD 3 (dR (fq n f (bC n (eC n f a i).2))))/\∀j,j<oW n f (eC n f a i).2->K1 (iw (eC n f a i).1 (rH n f (eC n f a i).2) j) (rH n f (eC n f a i).2)
def Cs (n:Nat) (f:Nat->AV) (a:Int) (l:List AV):Option (AV×Int×List Prop):=match l with
 |[]=>some (aI (oK n f a),qM n f a,[xe n f a])
 |_=>none
theorem MK:aX 13 f13:=aZ func13
theorem T2 {n:Nat} {z:Nat->Int} {a:Int}:aG T og [] 60 [0,3] (before rE [1,1]) ⟨aT 0 [.ptr 0 0 2 0 []],ia n z a,1⟩=
  some (aj [-(2:Int)^63<=(1:Int),(1:Int)<2^63,(1:Nat)*3<=2^24] (leaf normal ([ptr 0 0 2 0 [],own 8193 3 0 1],[(8193,ax.mk true true 3 1 fun i=>nth [rat (↑(1:Int):Rat) (Max.max 1 (bK (Int.natAbs (1:Int))))] (rat 0 1) i),(0,ax.mk false true 2 1 fun x=>agg [ak 1 n fun i=>int i64 (z i),int i64 a])]))):=ah
theorem Yd {n:Nat} {z:Nat->Int} {a t r:Int} {p q:PP}:aG T og [] 60 lS (before (part pM [1,1,1]) []) ⟨aC lS (nh p q t r),ia n z a,1⟩=
  some (leaf normal ([ptr 0 0 2 0 [],ak 3 p.fst fun i=>rat (p.snd i) ag,int i64 t,ak 3 q.fst fun i=>rat (q.snd i) ag,int i64 r],[(0,ax.mk false true 2 1 fun x=>agg [ak 1 n fun i=>int i64 (z i),int i64 a])])):=ah
theorem Qw {n:Nat} {z:Nat->Int} {a:Int} {p:PP}:aG T og [] 60 j8 (before (part rE [1,1]) [0,1]) ⟨aC [0,3] [.ptr 0 0 2 0 [],aI p],ia n z a,1⟩=
  some (aj [cU n (fun i=>int i64 (z i)) a,(0:Int)<4,(4:Int)<2^62] (leaf normal ([ptr 0 0 2 0 [],ak 3 p.fst fun i=>rat (p.snd i) ag,int i64 (cC n (fun i=>int i64 (z i)) a (4:Int))],[(0,ax.mk false true 2 1 fun x=>agg [ak 1 n fun i=>int i64 (z i),int i64 (bC n a)])]))):=ah
theorem QM {n:Nat} {z:Nat->Int} {a t:Int} {p:PP}:aG T og [13] 60 j8 (before pq [1,0]) ⟨aC j8 (pD p t),ia n z a,1⟩=
  let c1:List AV×aE:=([ptr 0 0 2 0 [],ak 3 p.fst fun i=>rat (p.snd i) ag,int i64 t],[(0,ax.mk false true 2 1 fun x=>agg [ak 1 n fun i=>int i64 (z i),int i64 a])]);some (fork (decide (t>0)) (leaf normal c1) (leaf (exit 0) c1)):=ah
theorem UN {n:Nat} {z:Nat->Int} {a t:Int} {p:PP}:aG T og [27,31] 60 lS (before pM [1,1,1]) ⟨aC j8 (pD p t),ia n z a,1⟩=
  let c22:AV:=int i64 0;let c20:Prop:=(0:Int)<3;let c19:Prop:=0<1;let c18:Prop:=(2:Int)≠(0:Int);let c17:Int:=bC n a;let c16:Int:=cC n (fun i=>int i64 (z i)) a (4:Int);let c15:Nat:=Max.max 1 (bK (Int.natAbs (1:Int)));let c13:AV:=ak 1 n fun i=>int i64 (z i);let c11:AV:=ptr 0 0 2 0 [];let c8:Int:=(2:Int)^62;let c7:AV:=ak 3 p.fst fun i=>rat (p.snd i) ag;let c4:Int:=(2:Int)^63;let c24:Prop:=(3:Int)<c8;let c14:Rat:=kr (cC n (fun i=>int i64 (z i)) c17 (400:Int));let c12:Prop:=cU n (fun i=>int i64 (z i)) c17;let c10:Int:=qa n (fun i=>int i64 (z i)) c17 (2:Int);let c2:Int:=bC n c17;let c23:Int:=bC n c2;let c21:Prop:=cU n (fun i=>int i64 (z i)) c2;let c9:Int:=(1:Int)+cC n (fun i=>int i64 (z i)) c2 (5:Int);let c6:Int:=(1:Int)+i64.wrap ((cC n (fun i=>int i64 (z i)) c2 (3:Int)).tdiv (2:Int));let c1:Int:=(1:Int)+i64.wrap ((cC n (fun i=>int i64 (z i)) c10 (3:Int)).tdiv (2:Int));let c5:List AV:=[int i64 (i64.wrap ((0:Int)-cC n (fun i=>int i64 (z i)) c17 (4:Int))),c22,int i64 c9];let c3:Int:=(1:Int)+i64.wrap ((cC n (fun i=>int i64 (z i)) c23 (3:Int)).tdiv (2:Int));some (aj [cU n (fun i=>int i64 (z i)) a,(0:Int)<4,(4:Int)<c8] (fork (c16==0) (aj [c12,(0:Int)<=2,(2:Int)<900] (aj [cU n (fun i=>int i64 (z i)) c10,c20,c24,c18,-c4<=c1/\c1<c4] (leaf normal ([c11,c7,int i64 t,ak 3 (oF n (fun i=>int i64 (z i)) c17 (2:Int)) fun i=>rat (qB n (fun i=>int i64 (z i)) c17 i) 64,int i64 c1],[(0,ax.mk false true 2 1 fun x=>agg [c13,int i64 (bC n c10)])])))) (fork (c16==1) (aj [c12,(0:Int)<4,(4:Int)<c8,c21,(0:Int)<5,(5:Int)<c8,-c4<=c9/\c9<c4,(3:Nat)*1<=2^24,(1:Nat)<=3,(3:Nat)<=41,∀(i:Nat),i<3->nth c5 c22 (i+0)=int i64 (intOf (nth c5 c22 (i+0))),∀(i:Nat),i<3->-c8<=intOf (nth c5 c22 (i+0))/\intOf (nth c5 c22 (i+0))<c8,iD 3 (dR fun i=>intOf (nth c5 c22 (i+0)))] (aj [cU n (fun i=>int i64 (z i)) c23,c20,c24,c18,-c4<=c3/\c3<c4] (leaf normal ([c11,c7,int i64 t,ak 3 3 fun i=>rat (eW 3 (dR fun i=>intOf (nth c5 c22 (i+0))) i) ag,int i64 c3],[(0,ax.mk false true 2 1 fun x=>agg [c13,int i64 (bC n c23)])])))) (aj [c12,(0:Int)<400,(400:Int)<c8,c19] (aj [c19,-c4<=1,(1:Int)<c4,c19,c15<2^41,(64:Nat)<2^41,(2:Nat)*3<=2^24] (aj [c21,c20,c24,c18,-c4<=c6/\c6<c4] (leaf normal ([c11,c7,int i64 t,own 69633 3 0 2,int i64 c6],[(69633,ax.mk true true 3 2 fun i=>nth [rat (-c14) 64,rat ((↑(1:Int):Rat)-c14) (c15+64+1)] (rat 0 1) i),(0,ax.mk false true 2 1 fun x=>agg [c13,int i64 c23])])))))))):=ah
theorem Vm {n:Nat} {z:Nat->Int} {a t r:Int} {p q:PP}:aG T og [46] 60 lS [part pM [1,1,1,0,0]] ⟨aC lS (nh p q t r),ia n z a,1⟩=
  let c5:Nat:=q.fst-1;let c4:Nat:=p.fst-1;let c3:AV:=ptr 0 0 2 0 [];let c2:AV:=ak 3 q.fst fun i=>rat (q.snd i) ag;let c1:Nat×ax:=(0,ax.mk false true 2 1 fun x=>agg [ak 1 n fun i=>int i64 (z i),int i64 a]);some (fork (decide (r>0)) (aj [cF (fun i=>rat (p.snd i) ag) p.fst ag,cF (fun i=>rat (q.snd i) ag) q.fst ag,(1:Nat)<=p.fst,(1:Nat)<=q.fst,p.fst+q.fst<=42,ym c4 c5 (fun i=>aS (rat (p.snd i) ag)) fun i=>aS (rat (q.snd i) ag)] (aj [-(2:Int)^63<=r-1/\r-1<(2:Int)^63] (leaf normal ([c3,ak 3 (c4+c5+1) fun i=>rat (jc c4 c5 (fun i=>aS (rat (p.snd i) ag)) (fun i=>aS (rat (q.snd i) ag)) i) ag,int i64 t,c2,int i64 (r-1)],[c1])))) (leaf (exit 3) ([c3,ak 3 p.fst fun i=>rat (p.snd i) ag,int i64 t,c2,int i64 r],[c1]))):=ah
theorem Pm {n:Nat} {z:Nat->Int} {a t r:Int} {p q:PP}:aG T og [] 60 j8 [part pq [1,1]] ⟨aC lS (nh p q t r),ia n z a,1⟩=
  some (aj [-(2:Int)^63<=t-1/\t-1<(2:Int)^63] (leaf normal ([ptr 0 0 2 0 [],ak 3 p.fst fun i=>rat (p.snd i) ag,int i64 (t-1)],[(0,ax.mk false true 2 1 fun x=>agg [ak 1 n fun i=>int i64 (z i),int i64 a])]))):=ah
theorem Nz {n:Nat} {z:Nat->Int} {a t:Int} {p:PP}:ze T og [] 60 f13 [part rE [1,1,1]] ⟨aC j8 (pD p t),ia n z a,1⟩=
  some (leaf ret ([ak 3 p.fst fun i=>rat (p.snd i) ag],some (ax.mk false true 2 1 fun x=>agg [ak 1 n fun i=>int i64 (z i),int i64 a]))):=ah
theorem ac6:bf P GL 55:=by
 refine cJ fun K args r hk hs _=>?_
 split at hs
 ·rename_i n f
  simp only[ay]at hs
  subst hs
  intro need
  obtain⟨h1,h2,h3,h4,h5⟩:=need
  exact gD (B3 h1 h2 h4 h5 K) hk ⟨tH rfl h3,trivial⟩ [] trivial
 ·simp at hs
theorem pW:bI P og:=iQ (aL Cf (aL Qp (aL ac6 (aL Xe (aL zk (aL ac3 iu))))))
theorem cU.poly {n:Nat} {f:Nat->AV} {a d:Int} (h:cU n f a):cU n f (qa n f a d):=h.next.numbers _
theorem cU.iR {n:Nat} {f:Nat->AV} {a:Int} (h:cU n f a):cU n f (iR n f a):=by
 unfold Go.Am.B.iR
 split
 ·exact h.next.poly
 ·split
  ·exact h.next.next.next
  ·exact h.next.next
theorem cU.eC {n:Nat} {f:Nat->AV} {a:Int} (h:cU n f a):∀i,cU n f (eC n f a i).2
 |0=>h.next
 |i+1=>(h.eC i).iR.next
theorem Et {n i:Nat} {c d:Nat->Rat}:∀{k:Nat},(∀j,j<k->c j=d j)->ju n c i k=ju n d i k
 |0,_=>rfl
 |k+1,h=>by
  show ju n c i k+_*c k=ju n d i k+_*d k
  rw[Et fun j hj=>h j aa,h k aa]
theorem aak {n i:Nat} {c d:Nat->Rat} (hi:i<n) (h:∀j,j<n->c j=d j):eW n c i=eW n d i:=Et fun j hj=>h j aa
theorem iD.congr {n:Nat} {c d:Nat->Rat} (hz:iD n c) (h:∀j,j<n->c j=d j):iD n d:=fun i k hi hk=>by rw[<-Et (c:=c) fun j hj=>h j aa];exact hz i k hi hk
theorem Cg {x:Int} (h1:0<=x) (h2:x<3):i64.wrap (x.tdiv 2)=x/2:=by
 rw[Int.tdiv_eq_ediv_of_nonneg h1]
 exact wrap_i64 aa aa
theorem Qg {k n:Nat} {z:Nat->Int} {a:Int} {o:ax} (ho:∀ρ,dr ρ o (nL n z a)) (h:cU n (fun i=>.int .i64 (z i)) a) (hz:xe n (fun i=>.int .i64 (z i)) a) (K:Nat):
  aP P 13 K [.ptr k 0 2 0 []] [(k,o)] ⟨aI (oK n (fun i=>.int .i64 (z i)) a),[(k,nL n z (qM n (fun i=>.int .i64 (z i)) a))],[]⟩:=by
 have hW:=cW
 refine HF hT MK rfl rfl aW ho (fun _ c hk=>?_) K
 obtain⟨f,hf⟩:∃f:Nat->AV,f=fun i=>.int .i64 (z i):=⟨_,rfl⟩
 rw[<-hf]at h hz ⊢
 refine au.MU hT pW hm (x:=rE) [1,1] ah ah MK.dst (f1:=[]) 60 [0,3] ⟨_,T2,?_⟩
 simp only[af.all,aA]
 refine⟨aa,fun s1 hv1=>?_⟩
 refine au.s8 (kp:=[0]) hk (vs:=[.ptr 0 0 2 0 [],.own 1 3 0 1]) (ps:=[(1,⟨true,true,3,1,fun _=>.rat ((1:Int):Rat) (max 1 (bK (Int.natAbs 1)))⟩),(0,nL n z a)]) (nx:=2) [(0,0),(1,8193)] hv1 rfl ⟨⟨rfl,gx rfl⟩,⟨rfl,dH rfl rfl rfl⟩,trivial⟩ (bg rfl rfl rfl (fun i hi=>by obtain rfl:i=0:=aa;exact bE rfl rfl) (dh trivial)) ?_
 refine au.cP (t:=3) (k:=1) rfl rfl rfl rfl ?_
 refine au.s8 (kp:=[0]) hk (L:=[0,3]) (vs:=[.ptr 0 0 2 0 [],aI (eC n f a 0).1]) (ps:=ia n z a) (nx:=1) [(0,0)] rfl rfl ⟨⟨rfl,gx rfl⟩,⟨rfl,gO rfl (gr fun i hi=>dy rfl (by rw[hW];decide))⟩,trivial⟩ (dh trivial) ?_
 obtain⟨N,hN⟩:∃N,N=pG n f a:=⟨_,rfl⟩
 have a1:=iS (n:=n) (f:=f) (a:=a) (m:=4) aa
 have a2:=iP (n:=n) (f:=f) (a:=a) (m:=4) aa
 have hN2:cC n f a 4=(N:Int)-((0:Nat):Int):=by rw[hN];unfold pG;omega
 have hN3:N<=3:=aa
 refine au.TG hT pW hm (x:=part rE [1,1]) [0,1] (i:=0) (y:=pq) (z:=part rE [1,1,1]) ah ah ah ah hk (f1:=[]) 60 j8 1 (fun i:Nat=>pD (eC n f a i).1 ((N:Int)-i)) (fun i=>ia n z (eC n f a i).2) (fun i=>i<=N) (fun i=>i=N) (fun i=>N-i) (fun _=>False)
  ⟨_,Qw,?_⟩ (fun i hi=>?_) (fun i hi=>?_) (fun _ _ h=>h.elim)
 ·have hN4:cC n (fun i=>.int .i64 (z i)) a 4=(N:Int)-((0:Nat):Int):=by rw[<-hf];exact hN2
  simp only[af.all,aA,hN4]
  exact⟨⟨hf▸h,aa,aa⟩,0,Nat.zero_le _,[(0,0)],rfl,rfl,rfl,dh trivial⟩
 ·have hS:=h.eC i
  obtain⟨b,hb⟩:∃b,b=(eC n f a i).2:=⟨_,rfl⟩
  obtain⟨p,hp⟩:∃p,p=(eC n f a i).1:=⟨_,rfl⟩
  rw[<-hb]at hS
  refine au.Ec hT pW hm (y:=pq) [1,0] (j:=1) (x1:=pM) (zb:=part pq [1,1]) ah ah ah ah hk (f1:=[13]) 60 j8 1 (fun _:Unit=>pD p ((N:Int)-i)) (fun _=>ia n z b) (fun _=>i<N) ⟨_,QM,?_⟩ (fun _ hG=>?_)
  ·simp only[af.all,bw,bB]
   rw[hp,hb]
   refine⟨fun h2=>⟨(),aa,[(0,0)],rfl,rfl,rfl,dh trivial⟩,fun h2 s' hv=>⟨rfl,i,aa,dx.le ⟨[(0,0)],rfl,rfl,rfl,dh trivial⟩ hv hk⟩⟩
  ·obtain⟨z1,z2⟩:=hz i aa
   rw[<-hb,<-hp]at z2
   rw[<-hb]at z1
   obtain⟨q,hq⟩:∃q,q=rH n f b:=⟨_,rfl⟩
   obtain⟨r,hr⟩:∃r,r=oW n f b:=⟨_,rfl⟩
   rw[<-hq,<-hr]at z2
   have b1:=iS (n:=n) (f:=f) (a:=iR n f b) (m:=3) aa
   have b2:=iP (n:=n) (f:=f) (a:=iR n f b) (m:=3) aa
   have hr2:(r:Int)=1+cC n f (iR n f b) 3/2:=by rw[hr];unfold oW;omega
   have key:au P c f13.ntmps (part pM [1,1,1]) ⟨aC lS (nh p q ((N:Int)-i) r),ia n z (nw n f b),1⟩ (inBlock 1 (eG (fun s'=>au P c f13.ntmps (part pq [1,1]) s' (mN c j8 (fun i:Nat=>pD (eC n f a i).1 ((N:Int)-i)) (fun i=>ia n z (eC n f a i).2) 1 (fun i=>i<=N) (fun i=>i=N) (fun i=>N-i) 0 (fun s'=>∃v,False/\bk j8 s'=some v) i)) (mN c j8 (fun i:Nat=>pD (eC n f a i).1 ((N:Int)-i)) (fun i=>ia n z (eC n f a i).2) 1 (fun i=>i<=N) (fun i=>i=N) (fun i=>N-i) 0 (fun s'=>∃v,False/\bk j8 s'=some v) i))):=by
    refine au.uu hT pW hm (x:=part pM [1,1,1]) [] (i:=3) (y:=part pM [1,1,1,0,0]) ah ah ah hk (f1:=[]) (f2:=[46]) 60 lS 1 (fun j:Nat=>nh (iw p q j) q ((N:Int)-i) ((r:Int)-j)) (fun _=>ia n z (nw n f b)) (fun j=>j<=r) (fun j=>j=r) (fun j=>r-j) (fun _=>False) ⟨_,Yd,?_⟩ (fun j hj=>⟨_,Vm,?_⟩) (fun j s' hj hle=>?_) (fun _ _ h=>h.elim)
    ·simp only[af.all]
     exact⟨0,Nat.zero_le _,[(0,0)],rfl,by show _=List.map (jF [(0,0)]) (nh p q ((N:Int)-i) ((r:Int)-((0:Nat):Int)));rw[show(r:Int)-((0:Nat):Int)=r by omega];rfl,rfl,dh trivial⟩
    ·simp only[af.all,aA,bw,bB]
     refine⟨fun h2=>⟨⟨cZ aQ,cZ aQ,z2 j aa⟩,aa,j+1,aa,by dsimp only;omega,[(0,0)],rfl,?_,rfl,dh trivial⟩,fun h2=>⟨rfl,j,aa,[(0,0)],rfl,rfl,rfl,dh trivial⟩⟩
     rw[show(r:Int)-(j:Int)-1=(r:Int)-((j+1:Nat):Int) by omega];rfl
    ·subst hj
     show au P c _ (part pq [1,1]) s' _
     refine au.kY hle (au.bD hT pW hm 60 j8 Pm ah ?_)
     have e1:(eC n f a (i+1)).1=iw p q j:=by show iw (eC n f a i).1 (rH n f (eC n f a i).2) (oW n f (eC n f a i).2)=_;rw[<-hb,<-hp,<-hq,<-hr]
     have e2:(eC n f a (i+1)).2=nw n f b:=by show nw n f (eC n f a i).2=_;rw[<-hb]
     simp only[af.all,aA]
     refine⟨aa,fun s'' hv=>⟨i+1,hG,by dsimp only;omega,dx.le ⟨[(0,0)],rfl,?_,rfl,?_⟩ hv hk⟩⟩
     ·show _=List.map (jF [(0,0)]) (pD (eC n f a (i+1)).1 ((N:Int)-((i+1:Nat):Int)))
      rw[e1,show(N:Int)-(i:Int)-1=(N:Int)-((i+1:Nat):Int) by omega];rfl
     ·show iU 1 [(0,0)] _ (ia n z (eC n f a (i+1)).2)
      rw[e2];exact dh trivial
   subst hf
   refine au.MU hT pW hm (x:=pM) [1,1,1] ah ah ah (f1:=[27,31]) 60 lS ⟨_,UN,?_⟩
   simp only[af.all,aA,beq_iff_eq,beq_eq_false_iff_ne,ne_eq]
   refine⟨⟨hS,aa,aa⟩,fun k0=>?_,fun k0=>⟨fun k1=>?_,fun k1=>?_⟩⟩
   ·have eB:qa n (fun i=>.int .i64 (z i)) (bC n b) 2=iR n (fun i=>.int .i64 (z i)) b:=(if_pos k0).symm
    have eq:q=(oF n (fun i=>.int .i64 (z i)) (bC n b) 2,qB n (fun i=>.int .i64 (z i)) (bC n b)):=by rw[hq];exact if_pos k0
    simp only[eB,Cg b1 b2,<-hr2]
    refine⟨⟨hS.next,aa,aa⟩,⟨hS.iR,aa,aa,aa,aa⟩,fun s' hv=>?_⟩
    refine au.s8 (kp:=[0]) hk (vs:=nh p q ((N:Int)-i) r) (ps:=ia n z (nw n (fun i=>.int .i64 (z i)) b)) (nx:=1) [(0,0)] hv rfl ⟨⟨rfl,gx rfl⟩,aO,aO,⟨rfl,gO rfl ?_⟩,aO,trivial⟩ (dh trivial) key
    rw[eq];exact gr fun i hi=>dy rfl aa
   ·have eB:bC n (bC n (bC n b))=iR n (fun i=>.int .i64 (z i)) b:=((if_neg k0).trans (if_pos k1)).symm
    have eq:q=(3,eW 3 (dR (fq n (fun i=>.int .i64 (z i)) (bC n b)))):=by rw[hq];exact(if_neg k0).trans (if_pos k1)
    have u1:=iS (n:=n) (f:=fun i=>.int .i64 (z i)) (a:=bC n b) (m:=4) aa
    have u2:=iP (n:=n) (f:=fun i=>.int .i64 (z i)) (a:=bC n b) (m:=4) aa
    have v1:=iS (n:=n) (f:=fun i=>.int .i64 (z i)) (a:=bC n (bC n b)) (m:=5) aa
    have v2:=iP (n:=n) (f:=fun i=>.int .i64 (z i)) (a:=bC n (bC n b)) (m:=5) aa
    have zz:∀j,j<3->intOf (nth [.int .i64 (0-cC n (fun i=>.int .i64 (z i)) (bC n b) 4),.int .i64 0,.int .i64 (1+cC n (fun i=>.int .i64 (z i)) (bC n (bC n b)) 5)] (.int .i64 0) (j+0))=fq n (fun i=>.int .i64 (z i)) (bC n b) j:=fun j hj=>by
     rcases(show j=0\/j=1\/j=2 by omega)with rfl|rfl|rfl
     ·show 0-_=-_;omega
     ·rfl
     ·rfl
    have zb:∀j,-2^62<=fq n (fun i=>.int .i64 (z i)) (bC n b) j/\fq n (fun i=>.int .i64 (z i)) (bC n b) j<2^62:=fun j=>by
     unfold fq;split
     ·omega
     ·split<;>omega
    have zc:∀j,j<3->dR (fq n (fun i=>.int .i64 (z i)) (bC n b)) j=dR (fun j=>intOf (nth [.int .i64 (0-cC n (fun i=>.int .i64 (z i)) (bC n b) 4),.int .i64 0,.int .i64 (1+cC n (fun i=>.int .i64 (z i)) (bC n (bC n b)) 5)] (.int .i64 0) (j+0))) j:=fun j hj=>by
     show((fq n _ (bC n b) j:Int):Rat)=((intOf _:Int):Rat)
     rw[zz j hj]
    simp only[eB,Cg b1 b2,<-hr2,wrap_i64 (show-2^63<=0-cC n (fun i=>.int .i64 (z i)) (bC n b) 4 by omega) aa]
    refine⟨⟨hS.next,aa,aa,hS.next.next,aa,aa,aa,aa,aa,aa,fun j hj=>?_,fun j hj=>by rw[zz j hj];exact zb j,(z1 k1).congr zc⟩,⟨hS.iR,aa,aa,aa,aa⟩,fun s' hv=>?_⟩
    ·rcases(show j=0\/j=1\/j=2 by omega)with rfl|rfl|rfl<;>rfl
    ·refine au.s8 (kp:=[0]) hk (vs:=nh p q ((N:Int)-i) r) (ps:=ia n z (nw n (fun i=>.int .i64 (z i)) b)) (nx:=1) [(0,0)] hv rfl ⟨⟨rfl,gx rfl⟩,aO,aO,⟨rfl,gO rfl ?_⟩,aO,trivial⟩ (dh trivial) key
     rw[eq];exact gr fun j hj=>dy (aak hj zc).symm aQ
   ·have eB:bC n (bC n b)=iR n (fun i=>.int .i64 (z i)) b:=((if_neg k0).trans (if_neg k1)).symm
    have eq:q=(2,fun i=>if i=0 then-kr (cC n (fun i=>.int .i64 (z i)) (bC n b) 400)else 1-kr (cC n (fun i=>.int .i64 (z i)) (bC n b) 400)):=by rw[hq];exact(if_neg k0).trans (if_neg k1)
    have hb1:bK (Int.natAbs 1)=1:=by decide
    simp only[eB,Cg b1 b2,<-hr2]
    refine⟨⟨hS.next,aa,aa,aa⟩,⟨aa,aa,aa,aa,by rw[hb1];omega,aa,aa⟩,⟨hS.iR,aa,aa,aa,aa⟩,fun s' hv=>?_⟩
    refine au.s8 (kp:=[0]) hk (vs:=[.ptr 0 0 2 0 [],aI p,.int .i64 ((N:Int)-i),.own 1 3 0 2,.int .i64 r]) (ps:=[(1,⟨true,true,3,2,fun j=>.rat (q.2 j) ag⟩),(0,nL n z (nw n (fun i=>.int .i64 (z i)) b))]) (nx:=2) [(0,0),(1,69633)] hv rfl ⟨⟨rfl,gx rfl⟩,aO,aO,⟨rfl,dH rfl rfl rfl⟩,aO,trivial⟩ (bg rfl rfl rfl (fun j hj=>?_) (dh trivial)) ?_
    ·rw[eq]
     rcases(show j=0\/j=1 by omega)with rfl|rfl
     ·exact .inr ⟨rfl,dy rfl aa⟩
     ·exact .inr ⟨rfl,dy rfl (by rw[hb1,hW];decide)⟩
    ·refine au.cP (t:=5) (k:=1) rfl rfl rfl rfl ?_
     refine au.s8 (kp:=[0]) hk (L:=lS) (vs:=nh p q ((N:Int)-i) r) (ps:=ia n z (nw n (fun i=>.int .i64 (z i)) b)) (nx:=1) [(0,0)] rfl rfl ⟨⟨rfl,gx rfl⟩,aO,aO,⟨rfl,gO rfl ?_⟩,aO,trivial⟩ (dh trivial) key
     have e1:q.1=2:=by rw[eq]
     show bA (.ak 3 2 fun j=>.rat (q.2 (j+0)) ag) (.ak 3 q.1 fun j=>.rat (q.2 j) ag)
     rw[e1];exact gr fun j hj=>.refl _
 ·subst hi
  refine au.jV (aF.Gu hT pW hm 60 Nz ah ?_)
  simp only[af.all,aA]
  exact⟨by unfold oK;rw[<-hN];exact .refl _,_,rfl,rfl,rS rfl (by unfold qM;rw[<-hN])⟩
theorem Uq:bf P (kS Cs) 13:=by
 refine yJ fun {k n z a l v b q o} K hg ho hd hq=>?_
 unfold Cs at hg
 split at hg
 ·simp only[ay,Prod.mk.injEq]at hg
  obtain⟨rfl,rfl,rfl⟩:=hg
  exact Qg ho hd hq K
 ·simp at hg
theorem Rb {n:Nat} {f:Nat->AV} {a:Int}:b7 12 7 (qC n f a):=by
 have x1:=iS (n:=n) (f:=f) (a:=a) (m:=13) aa
 have x2:=iP (n:=n) (f:=f) (a:=a) (m:=13) aa
 unfold qC
 generalize cC n f a 13=x at*
 split
 ·have w1:=iS (n:=n) (f:=f) (a:=bC n (bC n a)) (m:=4) aa
  have w2:=iP (n:=n) (f:=f) (a:=bC n (bC n a)) (m:=4) aa
  generalize cC n f (bC n (bC n a)) 4=w at*
  rcases(show w=0\/w=1\/w=2\/w=3 by omega)with rfl|rfl|rfl|rfl
  ·refine⟨(x-6)*12,?_,aa⟩
   rw[Rat.intCast_mul,Rat.div_def,Rat.mul_assoc,show(((1+0:Int):Rat)⁻¹*((12:Int):Rat))=((12:Int):Rat) by decide+kernel]
  ·refine⟨(x-6)*6,?_,aa⟩
   rw[Rat.intCast_mul,Rat.div_def,Rat.mul_assoc,show(((1+1:Int):Rat)⁻¹*((12:Int):Rat))=((6:Int):Rat) by decide+kernel]
  ·refine⟨(x-6)*4,?_,aa⟩
   rw[Rat.intCast_mul,Rat.div_def,Rat.mul_assoc,show(((1+2:Int):Rat)⁻¹*((12:Int):Rat))=((4:Int):Rat) by decide+kernel]
  ·refine⟨(x-6)*3,?_,aa⟩
   rw[Rat.intCast_mul,Rat.div_def,Rat.mul_assoc,show(((1+3:Int):Rat)⁻¹*((12:Int):Rat))=((3:Int):Rat) by decide+kernel]
 ·exact⟨(x-6)*12,by rw[Rat.intCast_mul],aa⟩
theorem aaN {n:Nat} {f:Nat->AV} {a:Int} {m:Nat}:dj m (qB n f a) 7:=⟨12,by decide,by decide,fun _ _=>Rb⟩
theorem Be {n:Nat} {f:Nat->AV} {b:Int} (i:Nat):-5<=fq n f b i/\fq n f b i<=5:=by
 have u1:=iS (n:=n) (f:=f) (a:=b) (m:=4) aa
 have u2:=iP (n:=n) (f:=f) (a:=b) (m:=4) aa
 have v1:=iS (n:=n) (f:=f) (a:=bC n b) (m:=5) aa
 have v2:=iP (n:=n) (f:=f) (a:=bC n b) (m:=5) aa
 unfold fq
 split
 ·omega
 ·split<;>omega
theorem RR {n:Nat} {f:Nat->AV} {b:Int} {m:Nat}:dj m (dR (fq n f b)) 3:=⟨1,by decide,by decide,fun i _=>b7.int (by have:=Be (n:=n) (f:=f) (b:=b) i;omega)⟩
theorem Wu {n:Nat} {f:Nat->AV} {b:Int}:iD 3 (dR (fq n f b)):=fun i k hi hk=>(CC RR hi aa).more (by have:=cW;omega)
theorem ace {n:Nat} {f:Nat->AV} {b:Int}:dj 3 (eW 3 (dR (fq n f b))) 7:=by
 have h1:fq n f b 1=0:=rfl
 have e0:eW 3 (dR (fq n f b)) 0=((fq n f b 0:Int):Rat):=by
  show 0+bq 0 0/bq 2 0*dR (fq n f b) 0=_
  rw[show bq 0 0/bq 2 0=1 by decide+kernel];unfold dR;grind
 have e1:eW 3 (dR (fq n f b)) 1=((fq n f b 0:Int):Rat):=by
  show 0+bq 1 0/bq 2 0*dR (fq n f b) 0+bq 1 1/bq 2 1*dR (fq n f b) 1=_
  rw[show bq 1 0/bq 2 0=1 by decide+kernel,show dR (fq n f b) 1=0 from by unfold dR;rw[h1];rfl];unfold dR;grind
 have e2:eW 3 (dR (fq n f b)) 2=((fq n f b 0+fq n f b 2:Int):Rat):=by
  show 0+bq 2 0/bq 2 0*dR (fq n f b) 0+bq 2 1/bq 2 1*dR (fq n f b) 1+bq 2 2/bq 2 2*dR (fq n f b) 2=_
  rw[show bq 2 0/bq 2 0=1 by decide+kernel,show bq 2 2/bq 2 2=1 by decide+kernel,show dR (fq n f b) 1=0 from by unfold dR;rw[h1];rfl,Rat.intCast_add];unfold dR;grind
 have z0:=Be (n:=n) (f:=f) (b:=b) 0
 have z2:=Be (n:=n) (f:=f) (b:=b) 2
 refine⟨1,by decide,by decide,fun i hi=>?_⟩
 rcases(show i=0\/i=1\/i=2 by omega)with rfl|rfl|rfl
 ·rw[e0];exact b7.int aa
 ·rw[e1];exact b7.int aa
 ·rw[e2];exact b7.int aa
theorem ab7 {d:Int}:1<=gZ d/\gZ d<=12/\0<=d%(gZ d+1)/\d%(gZ d+1)<=gZ d:=by
 have h1:0<=i64.wrap (d.tdiv 17)%12:=Int.emod_nonneg _ aa
 have h2:i64.wrap (d.tdiv 17)%12<12:=Int.emod_lt_of_pos _ aa
 have hM:gZ d=1+i64.wrap (d.tdiv 17)%12:=rfl
 have h3:0<=d%(gZ d+1):=Int.emod_nonneg _ aa
 have h4:d%(gZ d+1)<gZ d+1:=Int.emod_lt_of_pos _ aa
 omega
theorem adU {d:Int}:dj 2 (fun i=>if i=0 then-kr d else 1-kr d) 7:=by
 obtain⟨p1,p2,p3,p4⟩:=ab7 (d:=d)
 have hne:((gZ d:Int):Rat)≠0:=Ab aa
 have e:kr d*((gZ d:Int):Rat)=((d%(gZ d+1):Int):Rat):=by
  unfold kr
  rw[Rat.div_def,Rat.mul_assoc,Rat.mul_comm _ ((gZ d:Int):Rat),Rat.mul_inv_cancel _ hne,Rat.mul_one]
 refine⟨gZ d,aa,aa,fun i hi=>?_⟩
 rcases(show i=0\/i=1 by omega)with rfl|rfl
 ·refine⟨-(d%(gZ d+1)),?_,aa⟩
  show _=-kr d*_
  rw[Rat.intCast_neg,Rat.neg_mul,e]
 ·refine⟨gZ d-d%(gZ d+1),?_,aa⟩
  show _=(1-kr d)*_
  rw[Rat.intCast_sub,Rat.sub_eq_add_neg,Rat.sub_eq_add_neg,Rat.add_mul,Rat.one_mul,Rat.neg_mul,e]
theorem xY {n:Nat} {f:Nat->AV} {a:Int}:qy (rH n f a):=by
 unfold rH
 split
 ·have u1:=iS (n:=n) (f:=f) (a:=bC n a) (m:=2+1) aa
  have u2:=iP (n:=n) (f:=f) (a:=bC n a) (m:=2+1) aa
  exact⟨Nat.succ_pos _,by show(cC n f (bC n a) (2+1)).toNat+1<=3;omega,aaN⟩
 ·split
  ·exact⟨by show 1<=3;omega,aQ,ace⟩
  ·exact⟨by show 1<=2;omega,by show 2<=3;omega,adU⟩
theorem IB {n:Nat} {f:Nat->AV} {a:Int}:1<=oW n f a/\oW n f a<=2:=by
 have u1:=iS (n:=n) (f:=f) (a:=iR n f a) (m:=3) aa
 have u2:=iP (n:=n) (f:=f) (a:=iR n f a) (m:=3) aa
 unfold oW
 omega
theorem EO {n:Nat} {f:Nat->AV} {a:Int}:∀i,i<=3->nY i (eC n f a i).1
 |0,_=>nY.one
 |i+1,h=>(EO i aa).step xY aa IB
theorem MQ {n:Nat} {f:Nat->AV} {a:Int}:pG n f a<=3:=by
 have u1:=iS (n:=n) (f:=f) (a:=a) (m:=4) aa
 have u2:=iP (n:=n) (f:=f) (a:=a) (m:=4) aa
 unfold pG;omega
theorem P0 {p q:PP} {s:Nat} (hp:1<=p.1) (lp:p.1<=11) (hb:Bd p s) (hs:s<=1400) (hq:qy q):K1 p q:=by
 have hW:=cW
 have h1:=hq.lo
 have h2:=hq.hi
 have hb2:dj (p.1-1+1) p.2 s:=by rw[show p.1-1+1=p.1 by omega];exact hb
 have hb3:dj (q.1-1+1) q.2 7:=by rw[show q.1-1+1=q.1 by omega];exact hq.bd
 have h5:p.1-1+(q.1-1)<=12:=aa
 have h6:(p.1-1+(q.1-1)+1)*(p.1-1+(q.1-1))<=13*12:=Nat.mul_le_mul aa h5
 exact⟨hp,h1,aa,fun i j k hi hj hk=>(acy aa hb2 hb3 hi hj).more aa,fun k hk=>((KC aa hb2 hb3).sz hk).more aa⟩
theorem F0 {n:Nat} {f:Nat->AV} {a:Int}:xe n f a:=fun i hi=>by
 have hN:=MQ (n:=n) (f:=f) (a:=a)
 refine⟨fun _=>Wu,fun j hj=>?_⟩
 have h:=EO (n:=n) (f:=f) (a:=a) i aa
 have hr:=IB (n:=n) (f:=f) (a:=(eC n f a i).2)
 have h1:=h.hi
 have hl:=yo h.lo (xY (n:=n) (f:=f) (a:=(eC n f a i).2)) j
 exact P0 hl.1 aa (DG h.lo xY h.bd j aa) aa xY
structure gI (p:PP):Prop where
 lo:1<=p.1
 hi:p.1<=13
 bd:Bd p 1200
 gd:iF (az p)
theorem Lb {n:Nat} {f:Nat->AV} {a:Int}:gI (oK n f a):=by
 have hN:=MQ (n:=n) (f:=f) (a:=a)
 have h:=EO (n:=n) (f:=f) (a:=a) (pG n f a) hN
 have h1:=h.hi
 exact⟨h.lo,Nat.le_trans h1 aa,Bd.more h.bd aa,h.gd hN⟩
theorem gI.of {p:PP} (h:gI p):dm p:=by
 have hW:=cW
 have h1:=h.hi
 refine⟨h.lo,aa,fun k i hi=>?_,mK (BU h.bd) aa⟩
 obtain⟨D,d1,d2,d3⟩:=h.bd
 exact((xP d3 k i hi).sz d1 d2).more aa
theorem gI.pos {p:PP} (_h:gI p) (h0:(az p).1≠0):0<(az p).1:=Nat.pos_of_ne_zero h0
theorem gI.cnt {p:PP} (h:gI p) {a b:Rat} {A B:Int} (ha:b7 A 63 a) (hA:A.natAbs<=2^63) (hA0:A≠0) (hb:b7 B 63 b) (hB:B.natAbs<=2^63) (hB0:B≠0):zY p a b/\RF p a b:=by
 refine⟨⟨h.of,fun h0=>?_⟩,⟨h.of,fun h0=>?_⟩⟩
 ·have hp:=h.pos h0
  have hl:=sU h.gd hp
  exact⟨(tX h.gd hp).1,aa,sP h.gd hp ha hA hA0 aa,sP h.gd hp hb hB hB0 aa⟩
 ·have hp:=h.pos h0
  have hl:=sU h.gd hp
  exact⟨(tX h.gd hp).2,aa,sP h.gd hp ha hA hA0 aa,sP h.gd hp hb hB hB0 aa⟩
def Ag:bh:=[sG,(156,BL)]
theorem ad0:bI P Ag:=yW (aL Mh b9)
theorem Kn.congr {n p:Nat} {k k':Nat->Rat} (h:Kn n p k) (e:∀i,i<n->k i=k' i):Kn n p k':=by
 have hp:=h.p1
 have hl:=h.len
 refine⟨h.p1,h.len,fun i hi=>?_,fun i hi=>?_,fun i h1 h2=>?_,fun i h1 h2=>?_⟩
 ·rw[<-e i aa,<-e (i+1) hi];exact h.sorted i hi
 ·rw[<-e i aa,<-e 0 aa];exact h.first i hi
 ·rw[<-e i h2,<-e (n-1) aa];exact h.last i h1 h2
 ·rw[<-e i aa,<-e (i+p) aa];exact h.mult i h1 h2
def zA (i:Nat):Int:=if i=1 then 1 else if i=2 then-4 else if i=3 then 4 else 0
def pA:PP:=(4,eW 4 (dR zA))
def wE (i:Nat):Int:=if i=0 then-2 else if i=2 then 1 else 0
def pB:PP:=(3,eW 3 (dR wE))
def Ic:Spec:=bU fun l=>match l with
 |[.mag 0]=>some (aK (.str [48]) [])
 |[.mag 1]=>some (aK (.str [49]) [])
 |_=>none
def AG:bh:=[sG,(113,Ic)]
def Ld (q:Rat):List UInt8:=if q=0 then [48]else [49]
def MY:Spec:=bU fun l=>match l with
 |[.rat q _]=>some (aK (.str (Ld q)) [q=0\/q=1])
 |_=>none
def Ki:Spec:=dA (kC (kL ag) (kC (fP ag) (kC (fP ag) kN))) (fun a=>.tuple [.int .i64 (tF a.1 a.2.1 a.2.2.1),.int .i64 (nV a.1 a.2.1 a.2.2.1)]) fun a=>[zY a.1 a.2.1 a.2.2.1]
def HA:Spec:=bU fun l=>match l with
 |[.ak 1 4 f]=>some (aK (aI pA) [f 0=.int .i64 0,f 1=.int .i64 1,f 2=.int .i64 (-4),f 3=.int .i64 4])
 |[.ak 1 3 f]=>some (aK (aI pB) [f 0=.int .i64 (-2),f 1=.int .i64 0,f 2=.int .i64 1])
 |_=>none
def K4:bh:=nG::(55,HA)::(18,LV 1)::(16,Ki)::(56,MY)::gV
theorem acG:aX 12 f12:=aZ func12
theorem PU:bR T Ag [] 60 f113 (aH f113) ⟨aT 0 [.mag 0],[],0⟩=
  some (leaf ret [str [(48:UInt8)]]):=ah
theorem Zy:bR T Ag [] 60 f113 (aH f113) ⟨aT 0 [.mag 1],[],0⟩=
  let c1:Int:=(↑(1:Nat):Int);some (aj [nl 1<2^40,(0:Int)<1000000000,(1000000000:Int)<2^32] (aj [(10:Int)≠(0:Int),(0:Nat)<1/\1*((1:Nat)+1)*2<=2^47] (aj [(10:Int)≠(0:Int)] (aj [(0:Int)<=c1/\c1<=c1/\c1<=2^47/\c1*c1<=2^47] (leaf ret [str [UInt8.ofNat (u8.wrap (u32.wrap ((48:Int)+(↑((1:Nat)%Int.toNat (1000000000:Int)):Int).tmod (10:Int)))).toNat]]))))):=ah
theorem aam:bR T AG [] 60 f56 (aH f56) ⟨aT 0 [.agg [.bool false,.mag 0,.mag 0]],[],0⟩=
  some (leaf ret [str [(48:UInt8)]]):=ah
theorem NY:bR T AG [] 60 f56 (aH f56) ⟨aT 0 [.agg [.bool false,.mag 1,.mag 0]],[],0⟩=
  some (leaf ret [str [(49:UInt8)]]):=ah
theorem ac8:bR T K4 [100021,100025,100029,100034,100041,100048,100057] 200 f12 (aH f12) ⟨aT 0 [],[],0⟩=
  let c14:Rat:=je 0 1;let c13:Rat:=(↑(2:Int):Rat);let c12:Rat:=jm 0 1;let c11:AV:=int i64 1;let c9:Int:=(-2:Int);let c8:Int:=(2:Int)^63;let c7:Nat:=br (fk 4 fun i=>aS (rat (eW 4 (dR zA) i) ag)) 4;let c5:Nat×(Nat->Rat):=((3:Nat),fun i=>aS (rat (eW 3 (dR wE) i) ag));let c3:AV:=int i64 0;let c1:Nat×(Nat->Rat):=((4:Nat),fun i=>aS (rat (eW 4 (dR zA) i) ag));let c10:Nat:=(iT 1 c1).length;let c6:List AV:=[int i64 c9,c3,c11];let c2:List AV:=[c3,c11,int i64 (-4:Int),int i64 4];let c4:Prop:=(0:Int)<=1/\Int.toNat (1:Int)<c10;some (aj [(4:Nat)*1<=2^24,nth c2 c3 ((0:Nat)+0)=c3,nth c2 c3 ((1:Nat)+0)=c11,nth c2 c3 ((2:Nat)+0)=int i64 (-4:Int),nth c2 c3 ((3:Nat)+0)=int i64 4,cF (fun i=>rat (eW 4 (dR zA) i) ag) 4 ag,Ac 1 c1] (aj [(3:Nat)*1<=2^24,nth c6 c3 ((0:Nat)+0)=int i64 c9,nth c6 c3 ((1:Nat)+0)=c3,nth c6 c3 ((2:Nat)+0)=c11,-c8<=c9,c9<c8,-c8<=2,(2:Int)<c8,cF (fun i=>rat (eW 3 (dR wE) i) ag) 3 ag,Max.max 1 (bK c9.natAbs)<=ag,Max.max 1 (bK (Int.natAbs (2:Int)))<=ag,zY c5 (↑c9:Rat) c13] (aj [((if c7=0 then(3:Int)else(0:Int))==0)=true,(bif true then nV c5 (↑c9:Rat) c13==0 else false)=true,(bif true then tF c5 (↑c9:Rat) c13==2 else false)=true,(bif true then(↑c10:Int)==2 else false)=true,(0:Int)<=0/\Int.toNat (0:Int)<c10,(bif true then(↑(o8 1 c1 (Int.toNat (0:Int))):Int)==1 else false)=true,c4,(bif true then(↑(o8 1 c1 (Int.toNat (1:Int))):Int)==2 else false)=true,c4,c12=0\/c12=1,(bif true then Ld c12==[(48:UInt8)]else false)=true,c4,c14=0\/c14=1] (leaf ret [AV.bool true])))):=ah
theorem N9:bf P Ic 113:=by
 refine cJ fun K args r hk hs _=>?_
 have fin:∀{N:Nat} {t:af (List AV)} {l:List UInt8},bR T Ag [] 60 f113 (aH f113) ⟨aT 0 [.mag N],[],0⟩=some t->(t.all fun _ us=>fX us (.str l))->aP P 113 K [.mag N] [] (aK (.str l) []):=fun h1 h2=>
  bZ (r:=aK _ []) hT ad0 hm QE rfl aW rfl 60 h1 (fun _=>h2) K []
 split at hs<;>simp only[ay,reduceCtorEq]at hs
 all_goals subst hs
 ·exact fin PU (.refl _)
 ·exact fin Zy (by simp only[af.all,aA];exact⟨by decide,by decide,by decide,by decide,.refl _⟩)
theorem Uj:bI P AG:=yW (aL N9 b9)
theorem acu:bf P MY 56:=by
 refine cJ fun K args r hk hs _=>?_
 have fin:∀{q:Rat} {n a b:Nat} {t:af (List AV)} {l:List UInt8},kids (.rat q n)=[.bool false,.mag a,.mag b]->bR T AG [] 60 f56 (aH f56) ⟨aT 0 [.agg [.bool false,.mag a,.mag b]],[],0⟩=some t->(t.all fun _ us=>fX us (.str l))->aP P 56 K [.rat q n] [] (aK (.str l) []):=fun h0 h1 h2=>
  gD (bZ (r:=aK _ []) hT Uj hm Pg rfl aW rfl 60 h1 (fun _=>h2) K []) rfl (show fY [_] [_]from⟨by rw[<-h0];exact LI,trivial⟩) []
 split at hs
 ·rename_i q n
  simp only[ay]at hs
  subst hs
  intro need
  have need:q=0\/q=1:=need
  rcases need with rfl|rfl
  ·exact fin (l:=[48]) ah aam (.refl _) trivial
  ·exact fin (l:=[49]) ah NY (.refl _) trivial
 ·simp at hs
theorem Nk:bf P Ki 16:=cR fun⟨_,_,_,_⟩ K hn=>So hn K
theorem Lh {n s:Nat} {c:Nat->Rat} (h:dj n c s):dj n (eW n c) (s+n*n+2*n):=by
 obtain⟨D,d1,d2,d3⟩:=h
 have h2:=zT (N:=n-1) (n-1+1)
 rcases Nat.eq_zero_or_pos n with h0|h0
 ·exact⟨1,by decide,Nat.one_le_two_pow,fun i hi=>aa⟩
 have h3:(n-1+1)*(n-1)<=n*n:=Nat.mul_le_mul aa aa
 have h4:=kZ d2 (show((iK (n-1) (n-1+1):Nat):Int).natAbs<=2^((n-1+1)*(n-1)) by rw[Int.natAbs_natCast];exact vZ _)
 exact⟨_,Int.mul_ne_zero d1 aa,Nat.le_trans h4 (Nat.pow_le_pow_right (by decide) aa),fun i hi=>(BO d3 hi (i+1) aa).more aa⟩
theorem KL {c:PP} (t:Trim c) (hl:c.1<=7) (hb:Bd c 156):iF c:=⟨t,aa,hb,kP,c,⟨fun t=>by rw[pE,Rat.one_mul],⟨bQ c,fun t=>by rw[pE,Rat.one_mul]⟩⟩,Nat.le_trans Ay hl⟩
theorem FO {p:PP} (h1:1<=p.1) (h2:p.1<=7) (hb:Bd p 100):gI p:=
 ⟨h1,aa,hb.more aa,KL lK (Nat.le_trans eI h2) (dj.short ((BU hb).more aa) eI)⟩
theorem Ls:dj 4 (dR zA) 3:=⟨1,by decide,by decide,fun i hi=>b7.int (by
 rcases(show i=0\/i=1\/i=2\/i=3 by omega)with rfl|rfl|rfl|rfl<;>decide)⟩
theorem Fm:dj 3 (dR wE) 3:=⟨1,by decide,by decide,fun i hi=>b7.int (by
 rcases(show i=0\/i=1\/i=2 by omega)with rfl|rfl|rfl<;>decide)⟩
theorem Ch:gI pA:=FO (by show 1<=4;omega) (by show 4<=7;omega) (dj.more (n:=4) (Lh Ls) (by decide))
theorem aet:gI pB:=FO (by show 1<=3;omega) (by show 3<=7;omega) (dj.more (n:=3) (Lh Fm) (by decide))
theorem HZ {n s:Nat} {c:Nat->Rat} (h:dj n c s) (hs:2*(s+n*n+2*n)+2<=ag):iD n c:=fun i k hi hk=>(CC h hi aa).more hs
theorem Zb:bf P HA 55:=by
 have hW:=cW
 refine cJ fun K args r hk hs _=>?_
 split at hs
 ·rename_i f
  simp only[ay]at hs
  subst hs
  intro need
  obtain⟨n0,n1,n2,n3⟩:=need
  refine gD (B3 (z:=zA) aa aa (fun i hi=>?_) (HZ Ls aa) K) hk ⟨tH rfl fun i hi=>?_,trivial⟩ [] trivial
  ·rcases(show i=0\/i=1\/i=2\/i=3 by omega)with rfl|rfl|rfl|rfl<;>decide
  ·rcases(show i=0\/i=1\/i=2\/i=3 by omega)with rfl|rfl|rfl|rfl
   ·exact n0
   ·exact n1
   ·exact n2
   ·exact n3
 ·rename_i f
  simp only[ay]at hs
  subst hs
  intro need
  obtain⟨n0,n1,n2⟩:=need
  refine gD (B3 (z:=wE) aa aa (fun i hi=>?_) (HZ Fm aa) K) hk ⟨tH rfl fun i hi=>?_,trivial⟩ [] trivial
  ·rcases(show i=0\/i=1\/i=2 by omega)with rfl|rfl|rfl<;>decide
  ·rcases(show i=0\/i=1\/i=2 by omega)with rfl|rfl|rfl
   ·exact n0
   ·exact n1
   ·exact n2
 ·simp at hs
theorem acZ {τ:Nat}:b7 1 τ 0:=.zero
theorem Wf {τ:Nat}:b7 1 τ 1:=⟨1,by decide+kernel,Nat.one_le_two_pow⟩
theorem uC {c:PP} (h:iF c) (h0:0<c.1):dz (cq c) (cH c) 0:=sP h h0 (τ:=1) acZ (by decide) (by decide) aa
theorem E0 {c:PP} (h:iF c) (h0:0<c.1):dz (cq c) (cH c) 1:=sP h h0 (τ:=1) Wf (by decide) (by decide) aa
theorem FJ {c:PP} (h:iF c) (h0:0<c.1):DM c:=⟨(tV h h0).1.2.2.1,((tV h h0).1.2.2.2 aa).1⟩
theorem adi:Ac 1 pA:=by
 refine⟨Ch.of,fun h0=>?_⟩
 have hp:=Ch.pos h0
 have hg:=Ch.gd
 have hl:iT 1 pA=[(0,0),(0,1)]:=by decide+kernel
 have hb:g9 (cq (az pA)) (cH (az pA)) 0 1=1:=by decide+kernel
 have hs:=sU hg hp
 refine⟨(tX hg hp).1,aa,uC hg hp,E0 hg hp,⟨uC hg hp,E0 hg hp,fun _ h1=>absurd hb h1⟩,by rw[hl];decide,FJ hg hp,fun j hj=>?_⟩
 have h1:∀j,(fc (az pA) (j+1)).1<=1:=by
  intro j
  induction j with
  |zero=>decide+kernel
  |succ j ih=>exact Nat.le_trans (zn (tL lK _)) ih
 cases j with
 |succ j=>exact absurd (h1 j) aa
 |zero=>
  have hgd:iF (fc (az pA) 0):=KL (tL lK 0) (by decide+kernel) ⟨2,by decide,by decide,fun i hi=>by
   have hi:i<2:=Nat.lt_of_lt_of_le hi (by decide+kernel)
   rcases(show i=0\/i=1 by omega)with rfl|rfl
   ·exact⟨-1,by decide+kernel,by decide⟩
   ·exact⟨2,by decide+kernel,by decide⟩⟩
  have hp2:0<(fc (az pA) 0).1:=aa
  have hs2:=sU hgd hp2
  refine⟨FJ hgd hp2,(tX hgd hp2).1,aa,fun i hi=>?_⟩
  rw[hl]at hi ⊢
  have hi:i<2:=hi
  rcases(show i=0\/i=1 by omega)with rfl|rfl
  ·exact⟨uC hgd hp2,uC hgd hp2⟩
  ·exact⟨uC hgd hp2,E0 hgd hp2⟩
theorem Rf:bI P K4:=iQ (aL Zb (aL (V0 1) (aL Nk (aL acu iu))))
theorem UW (K:Nat):aP P 12 K [] [] (aK (.bool true) []):=by
 have hW:=cW
 refine bZ (r:=aK (.bool true) []) hT Rf hm acG rfl aW rfl 200 ac8 (fun _=>?_) K []
 simp only[af.all,aA]
 refine⟨⟨aa,rfl,rfl,rfl,rfl,cZ aQ,adi⟩,⟨aa,rfl,rfl,rfl,aa,aa,aa,aa,cZ aQ,by rw[hW];decide,by rw[hW];decide,?_⟩,⟨by decide+kernel,by decide+kernel,by decide+kernel,by decide+kernel,by decide+kernel,by decide+kernel,by decide+kernel,by decide+kernel,by decide+kernel,by decide+kernel,by decide+kernel,by decide+kernel,by decide+kernel⟩,.refl _⟩
 exact(aet.cnt (A:=1) (B:=1) ⟨-2,by decide+kernel,by decide⟩ (by decide) (by decide) ⟨2,by decide+kernel,by decide⟩ (by decide) (by decide)).1
def FB:Spec:=bU fun l=>match l with
 |[]=>some (aK (.bool true) [])
 |_=>none
theorem SZ:bf P FB 12:=by
 refine cJ fun K args r hk hs _=>?_
 split at hs
 ·simp only[ay]at hs
  subst hs
  exact UW K
 ·simp at hs
theorem Qs:aX 41 f41:=aZ func41
abbrev mw:List Nat:=[0,1,4,5]
abbrev EN (n m:Nat) (f g:Nat->Rat) (i:Nat):List AV:=[aV f n ag,aV g m ag,.bool false,.int .i64 i]
abbrev C2 (n m:Nat) (c d:Nat->PP) (i:Nat):List AV:=[ec n c,ec m d,.bool false,.int .i64 i]
abbrev xg:Code:=aH f41
def zR:bh:=nG::gV
def D8:Spec:=dA (kC (kL ag) (kC (kL ag) kN)) (fun a=>.bool (ku a.1.1 a.1.2 a.2.1.1 a.2.1.2)) fun a=>[a.1.1<2^40,a.2.1.1<2^40]
def x9:bh:=nG::(40,D8)::[]
theorem Xq {n m:Nat} {f g:Nat->Rat}:aG T zR [10] 60 mw (before xj [1,1,0,1]) ⟨aT 0 [aV f n ag,aV g m ag],[],0⟩=
  let c2:AV:=ak 3 n fun i=>rat (f i) ag;let c1:AV:=ak 3 m fun i=>rat (g i) ag;some (fork ((↑n:Int)!=(↑m:Int)) (leaf ret ([c2,c1,AV.bool false,tuple []],[])) (leaf normal ([c2,c1,AV.bool false,int i64 0],[]))):=ah
theorem SG {n m i:Nat} {f g:Nat->Rat}:aG T zR [14,26] 60 mw [part xj [1,1,0,1,0,0]] ⟨aC mw (EN n m f g i),[],0⟩=
  let c5:Prop:=ag<2^41;let c4:AV:=ak 3 n fun i=>rat (f i) ag;let c3:AV:=ak 3 m fun i=>rat (g i) ag;let c2:Int:=(↑i:Int);let c6:Int:=c2+1;let c1:List AV×aE:=([c4,c3,AV.bool false,int i64 c2],[]);some (fork (decide (c2<(↑n:Int))) (aj [(0:Int)<=c2/\c2.toNat<n,(0:Int)<=c2/\c2.toNat<m,c5,c5] (fork (!decide (f c2.toNat=g c2.toNat)) (leaf ret c1) (aj [-(2:Int)^63<=c6/\c6<2^63] (leaf normal ([c4,c3,AV.bool false,int i64 c6],[]))))) (leaf (exit 0) c1)):=ah
theorem abm {n m i:Nat} {f g:Nat->Rat}:cA T zR [] 60 f40 [part xj [1,1,1]] ⟨aC mw (EN n m f g i),[],0⟩=
  some (leaf ret [AV.bool true]):=ah
theorem Vf {n m:Nat} {c d:Nat->PP}:aG T x9 [10] 60 mw (before xg [1,1,0,1]) ⟨aT 0 [ec n c,ec m d],[],0⟩=
  let c2:AV:=ak 1 m fun i=>ak 3 (d i).fst fun i_1=>rat ((d i).snd i_1) ag;let c1:AV:=ak 1 n fun i=>ak 3 (c i).fst fun i_1=>rat ((c i).snd i_1) ag;some (fork ((↑n:Int)!=(↑m:Int)) (leaf ret ([c1,c2,AV.bool false,tuple []],[])) (leaf normal ([c1,c2,AV.bool false,int i64 0],[]))):=ah
theorem WH {n m i:Nat} {c d:Nat->PP}:aG T x9 [14,26] 60 mw [part xg [1,1,0,1,0,0]] ⟨aC mw (C2 n m c d i),[],0⟩=
  let c5:Int:=(↑i:Int);let c4:AV:=ak 1 n fun i=>ak 3 (c i).fst fun i_1=>rat ((c i).snd i_1) ag;let c3:AV:=ak 1 m fun i=>ak 3 (d i).fst fun i_1=>rat ((d i).snd i_1) ag;let c6:Int:=c5+1;let c2:Nat:=c5.toNat;let c1:List AV×aE:=([c4,c3,AV.bool false,int i64 c5],[]);some (fork (decide (c5<(↑n:Int))) (aj [(0:Int)<=c5/\c2<n,(0:Int)<=c5/\c2<m,cF (fun i=>rat ((c c2).snd i) ag) (c c2).fst ag,cF (fun i=>rat ((d c2).snd i) ag) (d c2).fst ag,(c c2).fst<2^40,(d c2).fst<2^40] (fork (!ku (c c2).fst (fun i=>aS (rat ((c c2).snd i) ag)) (d c2).fst fun i=>aS (rat ((d c2).snd i) ag)) (leaf ret c1) (aj [-(2:Int)^63<=c6/\c6<2^63] (leaf normal ([c4,c3,AV.bool false,int i64 c6],[]))))) (leaf (exit 0) c1)):=ah
theorem ON {n m i:Nat} {c d:Nat->PP}:cA T x9 [] 60 f41 [part xg [1,1,1]] ⟨aC mw (C2 n m c d i),[],0⟩=
  some (leaf ret [AV.bool true]):=ah
theorem RQ:bI P zR:=iQ iu
theorem ack {n m:Nat} {f g:Nat->Rat} (hn:n<2^40) (hm2:m<2^40) (K:Nat):aP P 40 K [aV f n ag,aV g m ag] [] (aK (.bool (ku n f m g)) []):=by
 have hW:=cW
 refine iG (r:=aK (.bool (ku n f m g)) []) hT RQ hm VK rfl aW rfl [1,1,0,1] (i:=0) (y:=part xj [1,1,0,1,0,0]) (z:=part xj [1,1,1]) ah ah ah (f1:=[10]) (f2:=[14,26]) (f3:=[]) 60 mw 0
  (fun i:Nat=>EN n m f g i) (fun _=>[]) (fun i=>i<=n/\n=m/\∀j,j<i->f j=g j) (fun i=>i=n/\n=m/\∀j,j<i->f j=g j) (fun i=>n-i) (fun _=>⟨⟨_,Xq,?_⟩,fun i ⟨h1,h2,h3⟩=>⟨_,SG,?_⟩,fun i ⟨h1,h2,h3⟩=>⟨_,abm,?_⟩⟩) K []
 ·simp only[af.all,bne_iff_ne,ne_eq,bne_eq_false_iff_eq]
  exact⟨fun h=>⟨[.bool false],ah,iB (decide_eq_false (fun hh=>h aa)).symm⟩,fun h=>⟨0,⟨aa,aa,fun j hj=>aa⟩,.vals rfl⟩⟩
 ·simp only[af.all,aA,bw,bB,Bool.not_eq_true',Bool.not_eq_false',bu]
  refine⟨fun h=>⟨⟨aa,aa,aa,aa⟩,fun hb=>⟨[.bool false],ah,iB (decide_eq_false (fun hh=>hb (hh.2 i aa))).symm⟩,fun hb=>⟨aa,i+1,⟨aa,h2,fun j hj=>?_⟩,by dsimp only;omega,.vals rfl⟩⟩,fun h=>⟨rfl,i,⟨aa,h2,h3⟩,.vals rfl⟩⟩
  by_cases hj2:j=i
  ·subst hj2;exact hb
  ·exact h3 j aa
 ·subst h1
  exact iB (decide_eq_true ⟨h2,h3⟩).symm
theorem Ir:bf P D8 40:=cR fun _ K hn=>ack hn.1 hn.2 K
theorem aeE:bI P x9:=iQ (aL Ir b9)
def uE (n:Nat) (c:Nat->PP) (m:Nat) (d:Nat->PP):Bool:=decide (n=m/\∀i,i<n->ku (c i).1 (c i).2 (d i).1 (d i).2=true)
theorem M5 {n m:Nat} {c d:Nat->PP} (hn:n<2^40) (hm2:m<2^40) (hc:∀i,i<n->(c i).1<2^40) (hd:∀i,i<m->(d i).1<2^40) (K:Nat):aP P 41 K [ec n c,ec m d] [] (aK (.bool (uE n c m d)) []):=by
 refine iG (r:=aK (.bool (uE n c m d)) []) hT aeE hm Qs rfl aW rfl [1,1,0,1] (i:=0) (y:=part xg [1,1,0,1,0,0]) (z:=part xg [1,1,1]) ah ah ah (f1:=[10]) (f2:=[14,26]) (f3:=[]) 60 mw 0
  (fun i:Nat=>C2 n m c d i) (fun _=>[]) (fun i=>i<=n/\n=m/\∀j,j<i->ku (c j).1 (c j).2 (d j).1 (d j).2=true) (fun i=>i=n/\n=m/\∀j,j<i->ku (c j).1 (c j).2 (d j).1 (d j).2=true) (fun i=>n-i) (fun _=>⟨⟨_,Vf,?_⟩,fun i ⟨h1,h2,h3⟩=>⟨_,WH,?_⟩,fun i ⟨h1,h2,h3⟩=>⟨_,ON,?_⟩⟩) K []
 ·simp only[af.all,bne_iff_ne,ne_eq,bne_eq_false_iff_eq]
  exact⟨fun h=>⟨[.bool false],ah,iB (decide_eq_false (fun hh=>h aa)).symm⟩,fun h=>⟨0,⟨aa,aa,fun j hj=>aa⟩,.vals rfl⟩⟩
 ·simp only[af.all,aA,bw,bB,Bool.not_eq_true',Bool.not_eq_false',bu]
  refine⟨fun h=>⟨⟨aa,aa,cZ aQ,cZ aQ,hc i aa,hd i aa⟩,fun hb=>⟨[.bool false],ah,iB (decide_eq_false (fun hh=>?_)).symm⟩,fun hb=>⟨aa,i+1,⟨aa,h2,fun j hj=>?_⟩,by dsimp only;omega,.vals rfl⟩⟩,fun h=>⟨rfl,i,⟨aa,h2,h3⟩,.vals rfl⟩⟩
  ·have hb:ku (c i).1 (c i).2 (d i).1 (d i).2=false:=hb
   rw[hh.2 i aa]at hb;simp at hb
  ·by_cases hj2:j=i
   ·subst hj2;exact hb
   ·exact h3 j aa
 ·subst h1
  exact iB (decide_eq_true ⟨h2,h3⟩).symm
def G6:Spec:=dA (kC mz (kC mz kN)) (fun a=>.bool (uE a.1.1 a.1.2 a.2.1.1 a.2.1.2)) fun a=>[a.1.1<2^40,a.2.1.1<2^40,∀i,i<a.1.1->(a.1.2 i).1<2^40,∀i,i<a.2.1.1->(a.2.1.2 i).1<2^40]
theorem Vw:bf P G6 41:=cR fun⟨⟨_,_⟩,⟨_,_⟩,_⟩ K hn=>M5 hn.1 hn.2.1 hn.2.2.1 hn.2.2.2 K
end Go.Am.B
