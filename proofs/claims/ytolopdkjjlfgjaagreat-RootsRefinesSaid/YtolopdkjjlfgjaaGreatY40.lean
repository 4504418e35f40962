/- How long the numbers of Euclid's and Sturm's sequences are. -/
import Derived.Test.YtolopdkjjlfgjaaGreatY39
import Derived.Test.YtolopdkjjlfgjaaGreatY37
import Derived.Test.YtolopdkjjlfgjaaGreatY38
import Derived.Test.YtolopdkjjlfgjaaGreatZ2
import Derived.Test.YtolopdkjjlfgjaaGreatB33
set_option linter.unusedVariables false
noncomputable section
namespace Go.Am
open Go
theorem FY:∀δ:Nat,1<=δ->δ+2<=3^δ
 |1,_=>by decide
 |δ+2,_=>by
  have:=FY (δ+1) aa
  rw[Nat.pow_succ];omega
theorem Bo (n:Nat):0<3^n:=Nat.pow_pos (by decide)
theorem y9 {m n:Nat} (h:m<=n):3^m<=3^n:=Nat.pow_le_pow_right (by decide) h
theorem Bd.more {a:PP} {s t:Nat} (h:Bd a s) (ht:s<=t):Bd a t:=dr.more h ht
theorem PD {B W M l l':Nat} (hB:B+1<=W*3^(M-l)) (hl:l'<l) (hM:l<=M):B+(l-(l'-1))*(B+1)+1<=W*3^(M-l')\/l'=0:=by
 rcases Nat.eq_zero_or_pos l' with h|h
 ·exact .inr h
 left
 have h1:l-(l'-1)=l-l'+1:=aa
 have h2:=FY (l-l') aa
 have h3:M-l'=M-l+(l-l'):=aa
 rw[h1,h3,Nat.pow_add,<-Nat.mul_assoc]
 have h4:(B+1)*(l-l'+2)<=W*3^(M-l)*3^(l-l'):=Nat.mul_le_mul hB h2
 have h5:(B+1)*(l-l'+2)=B+(l-l'+1)*(B+1)+1:=by
  rw[Nat.mul_comm,show l-l'+2=l-l'+1+1 by omega,Nat.add_mul (l-l'+1)];omega
 omega
theorem aiW {u M l l':Nat} (hl:l<=M) (hl':l'<=M) (h0:0<l'):u+(l-(l'-1))*(u+1)+1<=2*(u+1)*3^(M-l'):=by
 have h1:(l-(l'-1))<=l-l'+1:=aa
 have h2:l-l'+2<=2*3^(l-l'):=by
  rcases Nat.eq_zero_or_pos (l-l')with h|h
  ·rw[h];decide
  ·have:=FY (l-l') h
   have:=Bo (l-l');omega
 have h3:3^(l-l')<=3^(M-l'):=y9 aa
 have h4:(u+1)*(l-l'+2)<=(u+1)*(2*3^(M-l')):=Nat.mul_le_mul_left _ aa
 have h5:(u+1)*(l-l'+2)=u+(l-l'+1)*(u+1)+1:=by
  rw[Nat.mul_comm,show l-l'+2=l-l'+1+1 by omega,Nat.add_mul (l-l'+1)];omega
 have h6:(l-(l'-1))*(u+1)<=(l-l'+1)*(u+1):=Nat.mul_le_mul_right _ h1
 have h7:(u+1)*(2*3^(M-l'))=2*(u+1)*3^(M-l'):=by rw[<-Nat.mul_assoc,Nat.mul_comm (u+1) 2]
 omega
theorem HK {a b:PP} {u M:Nat} (ta:Trim a) (tb:Trim b) (la:a.1<=M) (lb:b.1<=M) (ha:Bd a u) (hb:Bd b u):∀j,∃B,B+1<=2*(u+1)*3^(M-(bT (a,b) j).1.1)/\Bd (bT (a,b) j).1 B/\Bd (bT (a,b) j).2 B/\(bT (a,b) j).1.1<=M/\(bT (a,b) j).2.1<=M/\((bT (a,b) j).2.1<(bT (a,b) j).1.1\/j=0/\B=u\/(bT (a,b) j).2.1=0)
 |0=>by
  have:=Bo (M-a.1)
  refine⟨u,?_,ha,hb,la,lb,.inr (.inl ⟨rfl,rfl⟩)⟩
  show u+1<=2*(u+1)*3^(M-a.1)
  have:=Nat.mul_le_mul_left (2*(u+1)) this
  omega
 |j+1=>by
  obtain⟨B,h1,h2,h3,h4,h5,h6⟩:=HK ta tb la lb ha hb j
  have ht:=mI (s:=(a,b)) ta tb j
  show∃B,B+1<=2*(u+1)*3^(M-(fL (bT (a,b) j)).1.1)/\Bd (fL (bT (a,b) j)).1 B/\Bd (fL (bT (a,b) j)).2 B/\(fL (bT (a,b) j)).1.1<=M/\(fL (bT (a,b) j)).2.1<=M/\((fL (bT (a,b) j)).2.1<(fL (bT (a,b) j)).1.1\/j+1=0/\B=u\/(fL (bT (a,b) j)).2.1=0)
  generalize bT (a,b) j=s at*
  unfold fL
  by_cases h0:s.2.1=0
  ·rw[if_pos h0];exact⟨B,h1,h2,h3,h4,h5,.inr (.inr h0)⟩
  ·rw[if_neg h0]
   have hr:=oM (a:=s.1) (d:=s.2) aa ht.2
   have hb:=(Bd.rem h2 h3 aa ht.2).1.cL qq
   refine⟨B+(s.1.1-(s.2.1-1))*(B+1),?_,h3.more (Nat.le_add_right _ _),hb,h5,?_,.inl hr⟩
   ·rcases h6 with h6|⟨_,rfl⟩|h6
    ·exact(PD h1 h6 h4).resolve_right h0
    ·exact aiW h4 h5 aa
    ·exact absurd h6 h0
   ·show(dx s.1 s.2).1<=M;omega
theorem MO {a b:PP} {u M:Nat} (ta:Trim a) (tb:Trim b) (la:a.1<=M) (lb:b.1<=M) (ha:Bd a u) (hb:Bd b u):∃B,B+1<=2*(u+1)*3^(M-(bW a b).1)/\Bd (bW a b) B:=by
 obtain⟨B,h1,h2,_⟩:=HK ta tb la lb ha hb b.1
 exact⟨B,h1,h2.cL (mI (s:=(a,b)) ta tb _).1⟩
theorem HV {a b:PP} {u M:Nat} (ta:Trim a) (tb:Trim b) (la:a.1<=M) (lb:b.1<a.1) (ha:Bd a u) (hb:Bd b u):∀j,j<=fo (a,b)->∃B,B+1<=2*(u+1)*3^(M-(bM (a,b) j).1.1)/\Bd (bM (a,b) j).1 B/\Bd (bM (a,b) j).2 B/\(bM (a,b) j).1.1<=M/\(bM (a,b) j).2.1<(bM (a,b) j).1.1
 |0,_=>by
  have:=Bo (M-a.1)
  refine⟨u,?_,ha,hb,la,lb⟩
  show u+1<=2*(u+1)*3^(M-a.1)
  have:=Nat.mul_le_mul_left (2*(u+1)) this
  omega
 |j+1,hj=>by
  obtain⟨B,h1,h2,h3,h4,h5⟩:=HV ta tb la lb ha hb j aa
  have ht:=oO (s:=(a,b)) ta tb j
  have h0:=(oS (s:=(a,b)) ta tb).2.2 j aa
  show∃B,B+1<=2*(u+1)*3^(M-(tX (bM (a,b) j)).1.1)/\Bd (tX (bM (a,b) j)).1 B/\Bd (tX (bM (a,b) j)).2 B/\(tX (bM (a,b) j)).1.1<=M/\(tX (bM (a,b) j)).2.1<(tX (bM (a,b) j)).1.1
  generalize bM (a,b) j=s at*
  have hr:=oM (a:=s.1) (d:=s.2) aa ht.2
  refine⟨B+(s.1.1-(s.2.1-1))*(B+1),(PD h1 h5 h4).resolve_right h0,h3.more (Nat.le_add_right _ _),(Bd.rem h2 h3 aa ht.2).1.neg,?_,hr⟩
  show s.2.1<=M;omega
theorem W8 {a d:PP} {B M:Nat} (ha:Bd a B) (hd:Bd d B) (h0:0<d.1) (td:Trim d) (hM:a.1-(d.1-1)<=M):
  (∀j,j<=a.1-(d.1-1)->∀i,i<a.1->Sz (ct (d.1-1) d.2 a.2 (a.1-(d.1-1)) j i) (2*((M+1)*(B+1))+2))/\∀k,k<a.1-(d.1-1)->Sz (dM (d.1-1) d.2 a.2 (a.1-(d.1-1)) k) (2*((M+1)*(B+1))+2):=by
 obtain⟨_,_,h1,h2⟩:=ha.rem hd h0 td
 have:B+(a.1-(d.1-1))*(B+1)<=(M+1)*(B+1):=by
  have:=Nat.mul_le_mul_right (B+1) hM
  rw[Nat.add_mul];omega
 exact⟨fun j hj i hi=>(h1 j hj i hi).more aa,fun k hk=>(h2 k hk).more aa⟩
theorem bZ.sum {D:Int} {s b:Nat} {f:Nat->Rat} {n:Nat} (hn:n<=2^b) (h:∀i,i<n->bZ D s (f i)):bZ D (s+b) (sg f n):=by
 have key:∀m,m<=n->∃z:Int,(z:Rat)=sg f m*(D:Rat)/\z.natAbs<=m*2^s:=by
  intro m
  induction m with
  |zero=>exact fun _=>⟨0,by show _=0*_;rw[Rat.zero_mul];rfl,Nat.zero_le _⟩
  |succ m ih=>
   intro hm
   obtain⟨z,z1,z2⟩:=ih aa
   obtain⟨w,w1,w2⟩:=h m aa
   refine⟨z+w,?_,?_⟩
   ·show _=(sg f m+f m)*_
    rw[Rat.intCast_add,z1,w1];grind
   ·have:=Int.natAbs_add_le z w
    rw[Nat.add_mul,Nat.one_mul];omega
 obtain⟨z,z1,z2⟩:=key n aT
 refine⟨z,z1,Nat.le_trans z2 ?_⟩
 rw[Nat.pow_add,Nat.mul_comm]
 exact Nat.mul_le_mul_left _ hn
theorem bZ.ite {D:Int} {s:Nat} {x:Rat} {p:Prop} [Decidable p] (h:bZ D s x):bZ D s (if p then x else 0):=by
 split
 ·exact h
 ·exact .zero
theorem Mr {m n s t:Nat} {D E:Int} {U V:Nat->Rat} (hm:m+1<=64) (hn:n+1<=64) (hU:∀i,bZ D s (U i)) (hV:∀j,bZ E t (V j)) {i j k:Nat} (hi:i<=m+1) (hj:j<=n+1):
  bZ (D*E) (s+t+13) (sg (fun i=>sg (fun j=>if i+j=k then U i*V j else 0) (n+1)) i+sg (fun j=>if i+j=k then U i*V j else 0) j):=by
 have h1:∀i,∀j,j<=n+1->bZ (D*E) (s+t+6) (sg (fun j=>if i+j=k then U i*V j else 0) j):=fun i j hj=>bZ.sum aa fun j _=>((hU i).mul (hV j)).ite
 have h2:bZ (D*E) (s+t+6+6) (sg (fun i=>sg (fun j=>if i+j=k then U i*V j else 0) (n+1)) i):=bZ.sum aa fun i _=>h1 i _ aT
 exact h2.add ((h1 i j hj).more aa)
theorem Mn {m n s t:Nat} {D E:Int} {U V:Nat->Rat} (hm:m+1<=64) (hn:n+1<=64) (hU:∀i,bZ D s (U i)) (hV:∀j,bZ E t (V j)) (k:Nat):bZ (D*E) (s+t+13) (kB m n U V k):=by
 have:=Mr hm hn hU hV (k:=k) (Nat.le_refl (m+1)) (Nat.zero_le (n+1))
 unfold kB
 rw[show sg (fun j=>if m+1+j=k then U (m+1)*V j else 0) 0=0 from rfl,Rat.add_zero]at this
 exact this
def jz (N:Nat):Nat->Nat
 |0=>1
 |k+1=>jz N k*(if k<=N then bn N k else 1)
theorem BD {N:Nat}:∀k,0<jz N k
 |0=>Nat.one_pos
 |k+1=>by
  unfold jz
  refine Nat.mul_pos (BD k) ?_
  split
  ·rename_i h;exact DF h
  ·exact Nat.one_pos
theorem Az {N:Nat}:∀k,jz N k<=2^(k*N)
 |0=>by rw[Nat.zero_mul];exact Nat.le_refl _
 |k+1=>by
  unfold jz
  rw[Nat.add_mul,Nat.one_mul,Nat.pow_add]
  refine Nat.mul_le_mul (Az k) ?_
  split
  ·exact tv N k
  ·exact Nat.one_le_two_pow
theorem P2 {N i:Nat} (hi:i<=N):∀k,i<k->∃w,jz N k=bn N i*w/\w<=jz N k
 |0,h=>absurd h (Nat.not_lt_zero _)
 |k+1,h=>by
  rcases Nat.eq_or_lt_of_le (Nat.le_of_lt_succ h)with h1|h1
  ·subst h1
   refine⟨jz N i,?_,?_⟩
   ·show jz N i*(if i<=N then bn N i else 1)=_
    rw[if_pos hi,Nat.mul_comm]
   ·show _<=jz N i*(if i<=N then bn N i else 1)
    rw[if_pos hi]
    exact Nat.le_mul_of_pos_right _ (DF hi)
  ·obtain⟨w,w1,w2⟩:=P2 hi k h1
   refine⟨w*(if k<=N then bn N k else 1),?_,?_⟩
   ·show jz N k*_=_
    rw[w1,Nat.mul_assoc]
   ·show _<=jz N k*_
    exact Nat.mul_le_mul_right _ w2
theorem bZ.JZ {D:Int} {s N i:Nat} {x:Rat} (h:bZ D s x) (hi:i<=N):bZ (D*(jz N (N+1):Nat)) (s+(N+1)*N) (x/bq N i):=by
 obtain⟨z,z1,z2⟩:=h
 obtain⟨w,w1,w2⟩:=P2 hi (N+1) aa
 refine⟨z*(w:Int),?_,?_⟩
 ·have hb:=Ng hi
  rw[w1,Rat.intCast_mul,z1,Rat.intCast_mul,Int.natCast_mul,Rat.intCast_mul,Rat.div_def]
  have:bq N i*(bq N i)⁻¹=1:=Rat.mul_inv_cancel _ hb
  show x*(D:Rat)*((w:Int):Rat)=x*(bq N i)⁻¹*((D:Rat)*(bq N i*((w:Int):Rat)))
  generalize (bq N i)⁻¹=v at*
  generalize bq N i=g at*
  generalize ((w:Int):Rat)=y
  have h4:x*v*((D:Rat)*(g*y))=x*(D:Rat)*y*(g*v):=by grind
  rw[h4,this,Rat.mul_one]
 ·rw[Int.natAbs_mul,Nat.pow_add,Int.natAbs_natCast]
  exact Nat.mul_le_mul z2 (Nat.le_trans w2 (Az _))
theorem Bg {D:Int} {m s:Nat} {p:Nat->Rat} (h:∀i,i<m+1->bZ D s (p i)) (i:Nat):bZ D (s+m) (bq m i*p i):=by
 by_cases hi:i<m+1
 ·have:=(h i hi).xy (e:=m) (n:=(bn m i:Nat)) (by rw[Int.natAbs_natCast];exact tv m i)
  exact this.more aa
 ·rw[It aa,Rat.zero_mul];exact .zero
theorem Nl {m n s t:Nat} {p q:Nat->Rat} (hm:m+n<=40) (hp:dr (m+1) p s) (hq:dr (n+1) q t):dr (m+n+1) (j7 m n p q) (s+t+(m+n)+13+(m+n+1)*(m+n)):=by
 obtain⟨D,d1,d2,d3⟩:=hp
 obtain⟨E,e1,e2,e3⟩:=hq
 refine⟨D*E*(jz (m+n) (m+n+1):Nat),?_,?_,fun k hk=>?_⟩
 ·have:=BD (N:=m+n) (m+n+1)
  exact Int.mul_ne_zero (Int.mul_ne_zero d1 e1) aa
 ·have h1:=mW (mW d2 e2) (show((jz (m+n) (m+n+1):Nat):Int).natAbs<=2^((m+n+1)*(m+n)) by rw[Int.natAbs_natCast];exact Az _)
  exact Nat.le_trans h1 (Nat.pow_le_pow_right (by decide) aa)
 ·unfold j7
  exact((Mn aa aa (Bg d3) (Bg e3) k).JZ aa).more aa
theorem ZU {m n s t:Nat} {p q:Nat->Rat} (hm:m+n<=40) (hp:dr (m+1) p s) (hq:dr (n+1) q t) {i j k:Nat} (hi:i<=m+1) (hj:j<=n+1):
  Sz (sg (fun i=>sg (fun j=>if i+j=k then bq m i*p i*(bq n j*q j)else 0) (n+1)) i+sg (fun j=>if i+j=k then bq m i*p i*(bq n j*q j)else 0) j) (2*(s+t+(m+n)+13)+2):=by
 obtain⟨D,d1,d2,d3⟩:=hp
 obtain⟨E,e1,e2,e3⟩:=hq
 have:=Mr (k:=k) aa aa (Bg d3) (Bg e3) hi hj
 exact(this.sz (Int.mul_ne_zero d1 e1) (Nat.le_trans (mW d2 e2) aT)).more aa
theorem B5 {D:Int} {s n:Nat} {p:Nat->Rat} (h:∀i,i<n->bZ D s (p i)):∀k i,k+i<n->bZ D (s+k) (fT p k i)
 |0,i,hi=>h i aa
 |k+1,i,hi=>by
  obtain⟨z,z1,z2⟩:=B5 h k (i+1) aa
  obtain⟨w,w1,w2⟩:=B5 h k i aa
  refine⟨z-w,?_,?_⟩
  ·show _=(fT p k (i+1)-fT p k i)*_
   rw[Rat.intCast_sub,z1,w1];grind
  ·have:=Int.natAbs_sub_le z w
   rw[show s+(k+1)=s+k+1 by omega,Nat.pow_succ];omega
theorem FP {n s:Nat} {p:Nat->Rat} (h:dr n p s):dr n (fG n p) (s+2*n):=by
 obtain⟨D,d1,d2,d3⟩:=h
 refine⟨D,d1,Nat.le_trans d2 (Nat.pow_le_pow_right (by decide) aa),fun k hk=>?_⟩
 unfold fG
 have:=(B5 d3 k 0 aa).xy (e:=n-1) (n:=(bn (n-1) k:Nat)) (by rw[Int.natAbs_natCast];exact tv _ k)
 exact this.more aa
theorem Bd.cf {a:PP} {s:Nat} (h:Bd a s):∃D:Int,D≠0/\D.natAbs<=2^s/\∀i,bZ D s (eF a i):=by
 obtain⟨D,d1,d2,d3⟩:=h
 refine⟨D,d1,d2,fun i=>?_⟩
 unfold eF
 split
 ·rename_i hi;exact d3 i hi
 ·exact .zero
theorem wC {a b:PP} {s t:Nat} (ha:Bd a s) (hb:Bd b t) (la:a.1<=60) (lb:b.1<=60):Bd (cB a b) (s+t+13):=by
 obtain⟨D,d1,d2,d3⟩:=ha.cf
 obtain⟨E,e1,e2,e3⟩:=hb.cf
 exact⟨D*E,Int.mul_ne_zero d1 e1,Nat.le_trans (mW d2 e2) (Nat.pow_le_pow_right (by decide) aa),fun k _=>Mn aa aa d3 e3 k⟩
theorem Cv {a b:PP}:(cA (cB a b)).1=0\/(cA (cB a b)).1+1<=(cA a).1+(cA b).1:=by
 rcases Nat.eq_zero_or_pos (cA (cB a b)).1 with h|h
 ·exact .inl h
 ·right
  have:=qZ (c:=cA (cB a b)) (a:=cA a) (b:=cA b) (fun t=>by rw[fj,fj,fj,cS]) h gk gk gk
  omega
theorem lN {a:PP}:(cA a).1<=a.1:=fN
theorem jA.of_eq {c d h f:PP} (s:jA c h f) (e:∀t,aK c t=aK d t):jA d h f:=
 ⟨fun t=>by rw[<-e,s.eq],s.dv.of_eq fun t=>by rw[jS,jS,O7 e]⟩
def rB (p q:PP):PP:=(p.1-1+(q.1-1)+1,j7 (p.1-1) (q.1-1) p.2 q.2)
def ij (p q:PP):Nat->PP
 |0=>p
 |j+1=>rB (ij p q j) q
def gU (q:PP):PP:=(q.1,fG q.1 q.2)
def ji (p:PP) (t:Rat):Rat:=cs (p.1-1) p.2 t
theorem mz {q:PP} (h:1<=q.1) (t:Rat):aK (gU q) t=ji q t:=by
 obtain⟨n,k⟩:=q
 obtain⟨m,rfl⟩:∃m,n=m+1:=⟨n-1,by have h:1<=n:=h;omega⟩
 exact Vo
theorem uE {p q:PP} (t:Rat):ji (rB p q) t=ji p t*ji q t:=by
 unfold ji rB
 rw[Nat.add_sub_cancel]
 exact age
structure rE (q:PP):Prop where
 lo:1<=q.1
 hi:q.1<=3
 bd:Bd q 7
theorem rE.pw {q:PP} (h:rE q):Bd (gU q) 13:=by
 have h1:dr q.1 (fG q.1 q.2) (7+2*q.1):=FP h.bd
 exact h1.more (by have:=h.hi;omega)
structure pP (i:Nat) (p:PP):Prop where
 lo:1<=p.1
 hi:p.1<=4*i+1
 bd:Bd p (400*i)
 pw:∃c h f:PP,(∀t,aK c t=ji p t)/\Bd c (52*i)/\c.1<=8*i+1/\jA c h f/\(cA f).1<=2*i+1
theorem pP.one:pP 0 (1,fun _=>1) where
 lo:=aT
 hi:=aT
 bd:=⟨1,by decide,aT,fun i _=>⟨1,(Rat.one_mul _).symm,aT⟩⟩
 pw:=⟨ic,ic,ic,fun t=>by rw[jn];rfl,⟨1,by decide,aT,fun i _=>⟨1,(Rat.one_mul _).symm,aT⟩⟩,aT,jA.one,lN⟩
theorem AD {p q:PP} (hp:1<=p.1) (hq:rE q):∀j,1<=(ij p q j).1/\(ij p q j).1<=p.1+2*j
 |0=>⟨hp,aT⟩
 |j+1=>by
  have:=AD hp hq j
  have h2:=hq.hi
  show 1<=(ij p q j).1-1+(q.1-1)+1/\(ij p q j).1-1+(q.1-1)+1<=_
  omega
theorem Ga {p q:PP} {s:Nat} (hp:1<=p.1) (hq:rE q) (hb:Bd p s):∀j,p.1+2*j<=13->Bd (ij p q j) (s+200*j)
 |0,_=>hb
 |j+1,h=>by
  have ih:=Ga hp hq hb j aa
  have hl:=AD hp hq j
  have h1:=hq.lo
  have h2:=hq.hi
  have hb2:dr ((ij p q j).1-1+1) (ij p q j).2 (s+200*j):=by rw[show(ij p q j).1-1+1=(ij p q j).1 by omega];exact ih
  have hb3:dr (q.1-1+1) q.2 7:=by rw[show q.1-1+1=q.1 by omega];exact hq.bd
  have:=Nl aa hb2 hb3
  refine dr.more this ?_
  have h5:(ij p q j).1-1+(q.1-1)<=12:=aa
  have h6:((ij p q j).1-1+(q.1-1)+1)*((ij p q j).1-1+(q.1-1))<=13*12:=Nat.mul_le_mul aa h5
  omega
theorem pP.step {i r:Nat} {p q:PP} (h:pP i p) (hq:rE q) (hi:i<=2) (hr:1<=r/\r<=2):pP (i+1) (ij p q r):=by
 have hl:=AD h.lo hq r
 have h1:=h.hi
 obtain⟨c,hh,f,c1,c2,c3,c4,c5⟩:=h.pw
 have hq1:=hq.lo
 have hq2:=hq.hi
 have hcq:(gU q).1=q.1:=rfl
 have hcu:(cA (gU q)).1<=3:=Nat.le_trans lN hq2
 have hf:(cA (cB f (gU q))).1<=2*(i+1)+1:=by
  rcases Cv (a:=f) (b:=gU q)with h0|h0<;>omega
 have e1:∀t,aK (cB c (gU q)) t=aK c t*aK (gU q) t:=fun t=>cS
 have l1:(cB c (gU q)).1=c.1+q.1+1:=rfl
 have b1:=wC c2 hq.pw aa aa
 refine⟨hl.1,aa,(Ga h.lo hq h.bd r aa).more aa,?_⟩
 rcases(show r=1\/r=2 by omega)with rfl|rfl
 ·refine⟨cB c (gU q),hh,cB f (gU q),fun t=>?_,b1.more aa,aa,c4.F2 e1,hf⟩
  show _=ji (rB p q) t
  rw[uE,e1,c1,mz hq1]
 ·have b2:=wC b1 hq.pw aa aa
  have l2:(cB (cB c (gU q)) (gU q)).1=(cB c (gU q)).1+q.1+1:=rfl
  refine⟨cB (cB c (gU q)) (gU q),cB hh (gU q),cB f (gU q),fun t=>?_,b2.more aa,aa,c4.KC fun t=>by rw[cS,e1],hf⟩
  show _=ji (rB (rB p q) q) t
  rw[uE,uE,cS,e1,c1,mz hq1]
structure jP (c:PP):Prop where
 tr:Trim c
 len:c.1<=13
 bd:Bd c 156
 sq:∃h f:PP,jA c h f/\(cA f).1<=7
theorem pP.gd {i:Nat} {p:PP} (h:pP i p) (hi:i<=3):jP (bK (fG p.1 p.2) p.1,fG p.1 p.2):=by
 obtain⟨c,hh,f,c1,c2,c3,c4,c5⟩:=h.pw
 have h1:=h.hi
 have e:∀t,aK (cA c) t=aK (bK (fG p.1 p.2) p.1,fG p.1 p.2) t:=fun t=>by
  rw[fj,c1,<-mz h.lo]
  exact uD.symm
 have hb:Bd (cA c) (52*i):=dr.short c2 lN
 refine⟨mU,?_,(hb.Dk (B8 gk mU e)).more aa,hh,f,c4.of_eq fun t=>by rw[<-e,fj],aa⟩
 have:bK (fG p.1 p.2) p.1<=p.1:=fN
 show bK _ _<=13
 omega
theorem Fj {n s:Nat} {c:Nat->Rat} {D:Int} (h:∀i,i<n->bZ D s (c i)) {i:Nat} (hi:i<n):∀k,k<=n->bZ (D*(jz (n-1) (n-1+1):Nat)) (s+(n-1+1)*(n-1)+n+k) (kJ n c i k)
 |0,_=>.zero
 |k+1,hk=>by
  have ih:=Fj h hi k aa
  have h1:=((h k aa).JZ (N:=n-1) (i:=k) aa).xy (e:=n) (n:=(bn i k:Nat)) (by rw[Int.natAbs_natCast];exact Nat.le_trans (tv i k) (Nat.pow_le_pow_right (by decide) aa))
  have h2:=ih.add (h1.more (t:=s+(n-1+1)*(n-1)+n+k) aa)
  have e:kJ n c i (k+1)=kJ n c i k+((bn i k:Nat):Int)*(c k/bq (n-1) k):=by
   show kJ n c i k+((bn i k:Int):Rat)/bq (n-1) k*c k=_
   rw[Rat.div_def,Rat.div_def];grind
  rw[e];exact h2
theorem Ni {n s:Nat} {c:Nat->Rat} (hb:dr n c s) {i k:Nat} (hi:i<n) (hk:k<=n):Sz (kJ n c i k) (2*(s+n*n+2*n)+2):=by
 obtain⟨D,d1,d2,d3⟩:=hb
 have h1:=Fj d3 hi k hk
 have h2:=BD (N:=n-1) (n-1+1)
 have h3:(n-1+1)*(n-1)<=n*n:=Nat.mul_le_mul aa aa
 have h4:=mW d2 (show((jz (n-1) (n-1+1):Nat):Int).natAbs<=2^((n-1+1)*(n-1)) by rw[Int.natAbs_natCast];exact Az _)
 exact(h1.sz (Int.mul_ne_zero d1 aa) h4).more aa
end Go.Am
namespace Go.Am.B
open Go Go.Am.N AV ag aq IntKind Proofs.Tryz
theorem lF {n s:Nat} {k:Nat->Rat} (h:dr n k s) (hs:2*s+2<=af):cN n k:=fun i hi=>(h.sz hi).more hs
theorem yM {a d:PP} {B M:Nat} (ha:Bd a B) (hd:Bd d B) (h0:0<d.1) (td:Trim d) (hM:a.1-(d.1-1)<=M) (hB:2*((M+1)*(B+1))+2<=af):mQ a d:=by
 obtain⟨h1,h2⟩:=W8 ha hd h0 td hM
 exact⟨fun j hj i hi=>(h1 j hj i hi).more hB,fun k hk=>(h2 k hk).more hB⟩
theorem B7 {a d:PP} {B M:Nat} (ha:Bd a B) (hd:Bd d B) (h0:0<d.1) (td:Trim d) (hM:a.1-(d.1-1)<=M):Bd (dx a d) ((M+1)*(B+1))/\Bd (fF a d) ((M+1)*(B+1)):=by
 obtain⟨h1,h2,_⟩:=ha.rem hd h0 td
 have:B+(a.1-(d.1-1))*(B+1)<=(M+1)*(B+1):=by
  have:=Nat.mul_le_mul_right (B+1) hM
  rw[Nat.add_mul];omega
 exact⟨h1.more this,h2.more this⟩
theorem BH {a b:PP} {u M:Nat} (ta:Trim a) (tb:Trim b) (la:a.1<=M) (lb:b.1<=M) (h1M:1<=M) (ha:Bd a u) (hb:Bd b u) (hX:2*((M+1)*(2*(u+1)*3^(M-1)))+2<=af):pK (a,b):=by
 have hle:∀{B l:Nat},B+1<=2*(u+1)*3^(M-l)->1<=l->B+1<=2*(u+1)*3^(M-1):=fun h1 h2=>Nat.le_trans h1 (Nat.mul_le_mul_left _ (y9 aa))
 have hX2:∀{B:Nat},B+1<=2*(u+1)*3^(M-1)->2*((M+1)*(B+1))+2<=af:=fun h=>by
  have:=Nat.mul_le_mul_left (M+1) h
  omega
 refine⟨fun j hj=>?_,fun i hi=>?_⟩
 ·obtain⟨B,b1,b2,b3,b4,b5,b6⟩:=HK ta tb la lb ha hb j
  have ht:=mI (s:=(a,b)) ta tb j
  have hB:B+1<=2*(u+1)*3^(M-1):=by
   rcases b6 with h|⟨_,rfl⟩|h
   ·exact hle b1 aa
   ·have h3:=Bo (M-1)
    have:=Nat.mul_le_mul_left (2*(B+1)) h3
    omega
   ·exact absurd h hj
  refine⟨yM b2 b3 aa ht.2 aa (hX2 hB),?_⟩
  have hm:=(B7 b2 b3 aa ht.2 (show _<=M by omega)).1.cL qq
  exact lF hm (hX2 hB)
 ·obtain⟨B,b1,b2⟩:=MO ta tb la lb ha hb
  have hi:i<(bW a b).1:=hi
  have hB:=hle b1 aa
  have:=hX2 hB
  have h1:B+1<=(M+1)*(B+1):=Nat.le_mul_of_pos_left _ aa
  exact(dr.sz b2 hi).more aa
theorem Cg {c:PP} (h:jP c):Bd (bC c) 162:=Bd.more (h.bd.cR (by have:=h.len;omega)) aa
theorem Ck {c:PP}:(bC c).1<=c.1-1:=fN
theorem HM {c:PP} (h:jP c) (h0:0<c.1):Bd (bW c (bC c)) 237653/\c.1-(bW c (bC c)).1<=6/\0<(bW c (bC c)).1/\(bW c (bC c)).1<=c.1:=by
 obtain⟨hh,f,s1,s2⟩:=h.sq
 have hl:=h.len
 obtain⟨l1,l2,l3⟩:=qZ (a:=cA hh) (b:=cA f) (fun t=>by rw[s1.eq,fj,fj]) h0 h.tr gk gk
 have hd:Dv hh c:=⟨f,s1.eq⟩
 have hg:Dv (cA hh) (bW c (bC c)):=(Hh hd s1.dv).imp fun w hw t=>by rw[hw,fj]
 have hl2:=hg.len (nF h0) (kH h.tr dZ) gk
 have hd2:c.1-(bW c (bC c)).1<=6:=aa
 obtain⟨B,b1,b2⟩:=MO (M:=c.1) h.tr dZ aT (Nat.le_trans Ck aa) (h.bd.more (show 156<=162 by omega)) (Cg h)
 have h3:3^(c.1-(bW c (bC c)).1)<=3^6:=y9 hd2
 have h4:2*(162+1)*3^(c.1-(bW c (bC c)).1)<=2*(162+1)*3^6:=Nat.mul_le_mul_left _ h3
 exact⟨b2.more aa,hd2,nF h0,CH h.tr⟩
theorem Bl {c:PP} (h:jP c) (h0:0<c.1):Bd (bQ c) 1901232/\(bQ c).1<=7:=by
 obtain⟨g1,g2,g3,g4⟩:=HM h h0
 have hq:=(B7 (M:=7) (h.bd.more (show 156<=237653 by omega)) g1 g3 (kH h.tr dZ) aa).2.cL yl
 unfold bQ
 rw[if_neg aa]
 refine⟨Bd.more hq aa,?_⟩
 show bK _ _<=7
 exact Nat.le_trans fN aa
theorem CS {c:PP} (h:jP c) (h0:0<c.1):Cf c/\wU c:=by
 have hW:=cF
 have hl:=h.len
 obtain⟨g1,g2,g3,g4⟩:=HM h h0
 obtain⟨f1,f2⟩:=Bl h h0
 have hd:=yM (M:=7) (h.bd.more (show 156<=237653 by omega)) g1 g3 (kH h.tr dZ) aa aa
 have hf:cN (bQ c).1 (bQ c).2:=lF f1 aa
 have hder:cN (c.1-1) (cR c.2):=lF (AO h.bd aa) aa
 have h13:2*((13+1)*(2*(162+1)*3^(13-1)))+2<=af:=by rw[hW];decide
 have b1:=h.bd.more (show 156<=162 by omega)
 have hdl:(bC c).1<=13:=Nat.le_trans Ck aa
 refine⟨⟨aa,h.tr,hder,fun _=>⟨BH h.tr dZ hl hdl aa b1 (Cg h) h13,hd,hf⟩⟩,⟨aa,aa,h.tr,hder,fun _=>⟨⟨lF (b1.cL h.tr) aa,lF ((Cg h).cL dZ) aa,BH (oU h.tr) (oU dZ) hl hdl aa (b1.cL h.tr) ((Cg h).cL dZ) h13⟩,hd,hf⟩⟩⟩
theorem PG {c:PP} (h:jP c) (h0:0<c.1):∀j,j<=fo (en c)->∃B,B+1<=2772006462/\Bd (bM (en c) j).1 B/\Bd (bM (en c) j).2 B/\(bM (en c) j).1.1<=7/\(bM (en c) j).2.1<(bM (en c) j).1.1:=fun j hj=>by
 obtain⟨f1,f2⟩:=Bl h h0
 have hfp:0<(bQ c).1:=by
  obtain⟨g1,g2,g3,g4⟩:=HM h h0
  rcases Nat.eq_zero_or_pos (bQ c).1 with h9|h9
  ·exfalso
   unfold bQ at h9
   rw[if_neg aa]at h9
   have h9:(fF c (bW c (bC c))).1=0:=h9
   have h10:=fun t=>vY (a:=c) (d:=bW c (bC c)) g3 t
   have:=x5 h.tr (b:=dx c (bW c (bC c))) (sO fun t=>by rw[h10,jU h9,Rat.zero_mul,Rat.zero_add])
   have:=oM (a:=c) g3 (kH h.tr dZ)
   omega
  ·exact h9
 have hfd:Bd (bC (bQ c)) 1901238:=f1.cR aa
 have hdl:(bC (bQ c)).1<=(bQ c).1-1:=fN
 obtain⟨B,b1,b2,b3,b4,b5⟩:=HV (a:=bQ c) (b:=bC (bQ c)) mM dZ f2 aa (f1.more (show 1901232<=1901238 by omega)) hfd j hj
 have h3:3^(7-(bM (bQ c,bC (bQ c)) j).1.1)<=3^6:=y9 aa
 have h4:=Nat.mul_le_mul_left (2*(1901238+1)) h3
 exact⟨B,aa,b2,b3,b4,b5⟩
theorem Kv {c:PP} (h:jP c) (h0:0<c.1):xU (en c):=fun j hj=>by
 have hW:=cF
 obtain⟨B,b1,b2,b3,b4,b5⟩:=PG h h0 j aa
 have ht:=oO (s:=en c) mM dZ j
 have hn:=(oS (s:=en c) mM dZ).2.2 j hj
 refine⟨yM (M:=7) b2 b3 aa ht.2 aa aa,?_⟩
 have hr:=(B7 (M:=7) b2 b3 aa ht.2 aa).1.neg
 exact lF hr aa
theorem Bp {c:PP} (h:jP c) (h0:0<c.1):nO c/\lM c:=by
 have hW:=cF
 obtain⟨f1,f2⟩:=Bl h h0
 have hder:cN ((bQ c).1-1) (cR (bQ c).2):=lF (AO f1 aa) aa
 exact⟨⟨(CS h h0).1,hder,Kv h h0⟩,⟨(CS h h0).2,hder,Kv h h0⟩⟩
theorem DD {c:PP} (h:jP c) (h0:0<c.1):bA c<=8:=by
 obtain⟨f1,f2⟩:=Bl h h0
 have:=(oS (s:=en c) mM dZ).1
 have h2:(en c).2.1<=(bQ c).1-1:=fN
 show fo (en c)+1<=8
 omega
theorem aj5 {c:PP} (h:jP c) (h0:0<c.1) {i:Nat} (hi:i<bA c):Bd (bh c i) 2772006461/\(bh c i).1<=7:=by
 obtain⟨B,b1,b2,b3,b4,b5⟩:=PG h h0 i (by have hi:i<fo (en c)+1:=hi;omega)
 exact⟨b2.more aa,b4⟩
theorem JR {a:PP} {s τ:Nat} {T:Int} {t:Rat} (h:Bd a s) (ht:bZ T τ t) (hT:T.natAbs<=2^τ) (hT0:T≠0) (hl:a.1<=7) (hs:2*(s+7*(τ+1))+2<=af):gb a t:=by
 obtain⟨D,d1,d2,d3⟩:=h
 intro m hm
 have h1:=HD d3 ht hT m hm
 have h2:=mW d2 (zH hT m)
 have h3:m*(τ+1)<=7*(τ+1):=Nat.mul_le_mul_right _ aa
 have h4:m*τ<=7*(τ+1):=Nat.mul_le_mul aa aa
 exact((h1.more (show s+m*(τ+1)<=s+7*(τ+1) by omega)).sz (Int.mul_ne_zero d1 (Int.pow_ne_zero hT0)) (Nat.le_trans h2 (Nat.pow_le_pow_right (by decide) (show s+m*τ<=s+7*(τ+1) by omega)))).more aa
theorem v8 {c:PP} (h:jP c) (h0:0<c.1) {τ:Nat} {T:Int} {t:Rat} (ht:bZ T τ t) (hT:T.natAbs<=2^τ) (hT0:T≠0) (hs:τ<=2^31):cq (bA c) (bh c) t:=fun i hi=>by
 have hW:=cF
 obtain⟨b1,b2⟩:=aj5 h h0 hi
 exact⟨aa,JR b1 ht hT hT0 b2 aa⟩
abbrev qo (n:Nat) (z:Nat->Int) (a:Int):au:=j9 n (fun i=>.int .i64 (z i)) a
structure vi where
 k:Nat->Rat
 t:Rat
 a:Int
def Ge (n:Nat) (f:Nat->AV) (t:Rat) (a:Int):Rat:=t+((1+cT n f a 3:Int):Rat)/((1+cT n f (bP n a) 2:Int):Rat)
def Qt (n:Nat) (f:Nat->AV) (p j:Nat) (s:vi):vi:=
 if j=0\/0<cT n f s.a 3\/s.t=s.k (j+1)then
  ⟨yb s.k (p+1+j) (Ge n f s.t (if j=0 then s.a else bP n s.a)),Ge n f s.t (if j=0 then s.a else bP n s.a),bP n (bP n (if j=0 then s.a else bP n s.a))⟩
 else⟨yb s.k (p+1+j) s.t,s.t,if j=0 then s.a else bP n s.a⟩
def sk (n:Nat) (f:Nat->AV) (p:Nat) (s0:vi):Nat->vi
 |0=>s0
 |j+1=>Qt n f p j (sk n f p s0 j)
def yK (n:Nat) (f:Nat->AV) (a:Int):vi:=⟨fun _=>((cT n f a 4-2:Int):Rat),((cT n f a 4-2:Int):Rat),bP n (bP n a)⟩
def knJ (n:Nat) (f:Nat->AV) (a:Int) (m:Nat):Nat:=(cT n f (bP n a) (m+1)).toNat
def knE (n:Nat) (f:Nat->AV) (a:Int) (p m:Nat):vi:=sk n f p (yK n f a) (knJ n f a m)
def UB (n:Nat) (f:Nat->AV) (a:Int) (p m:Nat):Int:=(knE n f a p m).a
theorem P9 {n:Nat} {f:Nat->AV} {a:Int} {p:Nat} (hd:dh n f a) (hp:1<=p):∀j,KG p j (sk n f p (yK n f a) j).k (sk n f p (yK n f a) j).t/\dh n f (sk n f p (yK n f a) j).a
 |0=>by
  have h1:=jI (n:=n) (f:=f) (a:=a) (m:=4) aa
  have h2:=jW (n:=n) (f:=f) (a:=a) (m:=4) aa
  exact⟨KG.start hp aa aa,hd.next.next⟩
 |j+1=>by
  obtain⟨h1,h2⟩:=P9 hd hp j
  unfold sk Qt Ge
  generalize sk n f p (yK n f a) j=s at*
  obtain⟨k,t,b⟩:=s
  simp only at h1 h2 ⊢
  have hb:dh n f (if j=0 then b else bP n b):=by split;exact h2;exact h2.next
  generalize (if j=0 then b else bP n b)=a1 at*
  split
  ·have x1:=jI (n:=n) (f:=f) (a:=a1) (m:=3) aa
   have x2:=jW (n:=n) (f:=f) (a:=a1) (m:=3) aa
   have y1:=jI (n:=n) (f:=f) (a:=bP n a1) (m:=2) aa
   have y2:=jW (n:=n) (f:=f) (a:=bP n a1) (m:=2) aa
   refine⟨h1.next (.inl ?_),hb.next.next⟩
   generalize cT n f a1 3=x at*
   generalize cT n f (bP n a1) 2=y at*
   have key:∃z:Int,((1+x:Int):Rat)/((1+y:Int):Rat)=(z:Rat)/2/\1<=z/\z<=6:=by
    rcases(show y=0\/y=1 by omega)with h|h
    ·subst h
     refine⟨2*(1+x),?_,aa,aa⟩
     have:((2*(1+x):Int):Rat)=2*((1+x:Int):Rat):=by simp
     rw[this]
     generalize ((1+x:Int):Rat)=w
     simp;grind
    ·subst h
     exact⟨1+x,by simp,aa,aa⟩
   obtain⟨z,e,z1,z2⟩:=key
   rw[e]
   refine⟨?_,z,rfl,z2⟩
   have:(1:Rat)<=(z:Rat):=by exact_mod_cast z1
   grind
  ·rename_i hc
   have hc1:¬j=0:=fun h=>hc (.inl h)
   have hc2:¬t=k (j+1):=fun h=>hc (.inr (.inr h))
   exact⟨h1.next (.inr ⟨rfl,aa,hc2⟩),hb⟩
theorem acQ {z:Int} (h1:-2^63<=z) (h2:z<2^63):Sz ((z:Rat)/2) 64:=by
 have:=JI h1 h2 (y:=2) aa aa aa
 simpa using this
theorem KG.sz {p j:Nat} {k:Nat->Rat} {t:Rat} (h:KG p j k t) (hj:j<2^50):Sz t 64:=by
 obtain⟨z,e,h1,h2⟩:=h.half (p+j) aT
 rw[h.top]at e
 rw[e]
 exact acQ aa aa
open Go Go.Am.N AV Proofs.Tryz
structure Cu where
 p:Int
 n:Nat
 k:Nat->Rat
 m:Nat
 f:Nat->Pl
open Go Go.Am.N AV ag aq IntKind Proofs.Tryz
def Sa (n:Nat) (f:Nat->AV) (a:Int):Int:=bP n (Nx n f a)
def P8 (n:Nat) (f:Nat->AV) (a:Int):Nat->Int
 |0=>a
 |j+1=>Sa n f (P8 n f a j)
theorem dh.Ig {n:Nat} {f:Nat->AV} {a:Int} (h:dh n f a):∀j,dh n f (P8 n f a j)
 |0=>h
 |j+1=>(h.Ig j).abf.next
theorem dh.oZ {n:Nat} {f:Nat->AV} {a:Int} {p m:Nat} (h:dh n f a) (hp:1<=p):dh n f (UB n f a p m):=(P9 h hp _).2
def qp:bk:=zG::(91,A7)::(93,ju kR kR zn pq)::gN
abbrev BL:Code:=aH f31
abbrev yd:Code:=part BL [1,1,1,1,0,1,0,0]
abbrev z9:Code:=part yd [1,0,0]
abbrev sW:Code:=part BL [1,1,1,1,1]
abbrev s5:List Nat:=[0,1,6,7,8,9]
abbrev CI (m n:Nat) (p q:Nat->Rat) (i:Nat):List AV:=[bz p (m+1) af,bz q (n+1) af,.int .i64 m,.int .i64 n,.own 0 3 0 (m+n+1),.int .i64 i]
abbrev xT:List Nat:=[0,1,6,7,8,9,10]
abbrev FB (m n:Nat) (p q:Nat->Rat) (i j:Nat):List AV:=[bz p (m+1) af,bz q (n+1) af,.int .i64 m,.int .i64 n,.own 0 3 0 (m+n+1),.int .i64 i,.int .i64 j]
abbrev xV:List Nat:=[6,7,8,12]
abbrev Ev (m n k:Nat):List AV:=[.int .i64 m,.int .i64 n,.own 0 3 0 (m+n+1),.int .i64 k]
abbrev oq (m n:Nat) (x:Nat->Rat):aE:=[(0,cC (m+n+1) x af)]
theorem KY:bf 31 f31:=bg func31
theorem Sb {m n:Nat} {p q:Nat->Rat}:aI T qp [200022] 60 s5 (before BL [1,1,1,1,0,1]) ⟨aU 0 [bz p (m+1) af,bz q (n+1) af],[],0⟩=
  let c4:Int:=(↑(m+1):Int)-1;let c3:Int:=(↑(n+1):Int)-1;let c2:Int:=(2:Int)^63;let c1:Int:=c4+c3;let c5:Int:=c1+1;some (aj [-c2<=c4/\c4<c2,-c2<=c3/\c3<c2] (aj [-c2<=c1/\c1<c2] (aj [decide (c1>40)=false] (aj [-c2<=c1/\c1<c2,-c2<=c5/\c5<c2,(0:Int)<=c5/\c5<=c5/\c5<=2^47/\c5*(↑(56:Nat):Int)<=2^47] (leaf normal ([ak 3 (m+1) fun i=>rat (p i) af,ak 3 (n+1) fun i=>rat (q i) af,int i64 c4,int i64 c3,own 73728 3 0 c5.toNat,int i64 0],[(73728,au.mk true true 3 c5.toNat fun x=>rat 0 1)])))))):=ah
theorem adX {m n i:Nat} {p q x:Nat->Rat}:aI T qp [30] 60 s5 (before yd [1,0]) ⟨aC s5 (CI m n p q i),oq m n x,1⟩=
  let c1:List AV×aE:=([ak 3 (m+1) fun i=>rat (p i) af,ak 3 (n+1) fun i=>rat (q i) af,int i64 (↑m:Int),int i64 (↑n:Int),own 0 3 0 (m+n+1),int i64 (↑i:Int)],[(0,au.mk true true 3 (m+n+1) fun i=>rat (x i) af)]);some (fork (decide ((↑i:Int)<=(↑m:Int))) (leaf normal c1) (leaf (exit 0) c1)):=ah
theorem abL {m n i:Nat} {p q x:Nat->Rat}:aI T qp [] 60 xT (before z9 [1]) ⟨aC s5 (CI m n p q i),oq m n x,1⟩=
  some (leaf normal ([ak 3 (m+1) fun i=>rat (p i) af,ak 3 (n+1) fun i=>rat (q i) af,int i64 (↑m:Int),int i64 (↑n:Int),own 0 3 0 (m+n+1),int i64 (↑i:Int),int i64 0],[(0,au.mk true true 3 (m+n+1) fun i=>rat (x i) af)])):=ah
theorem abW {m n i j:Nat} {p q x:Nat->Rat}:aI T qp [35] 60 xT [part z9 [1,0,0]] ⟨aC xT (FB m n p q i j),oq m n x,1⟩=
  let c13:Int:=(↑m:Int);let c11:Nat:=64+64;let c10:Int:=(↑n:Int);let c9:Int:=(↑i:Int);let c8:AV:=ak 3 (n+1) fun i=>rat (q i) af;let c7:AV:=ak 3 (m+1) fun i=>rat (p i) af;let c5:Int:=(↑j:Int);let c4:Int:=(2:Int)^63;let c3:Nat:=m+n+1;let c2:Nat:=2^41;let c15:Int:=c5+1;let c12:AV:=own 0 3 0 c3;let c1:Int:=c9+c5;let c14:Prop:=(0:Int)<=c1/\c1.toNat<c3;let c6:Nat:=c1.toNat+0;some (fork (decide (c5<=c10)) (aj [(0:Int)<=c9,c9<=c13,c13<=40,(0:Int)<=c5,c5<=c10,c10<=40,(64:Nat)<c2,(64:Nat)<c2,(0:Nat)<1] (aj [-c4<=c1/\c1<c4,-c4<=c1/\c1<c4,c14,c6<c3,(0:Nat)<1,(0:Int)<=c9/\c9.toNat<m+1,(0:Int)<=c5/\c5.toNat<n+1,af<c2,af<c2,c11<c2,af+af<c2,af<c2,c11+(af+af)<c2,c14,c6<c3] (aj [-c4<=c15/\c15<c4] (leaf normal ([c7,c8,int i64 c13,int i64 c10,c12,int i64 c9,int i64 c15],[(0,au.mk true true 3 c3 fun j=>rat (bif j==c6 then x c6+(↑(↑(bn c13.toNat c9.toNat):Int):Rat)*(↑(↑(bn c10.toNat c5.toNat):Int):Rat)*(p c9.toNat*q c5.toNat)else x j) (bif j==c6 then af+(c11+(af+af))+1 else af))]))))) (leaf (exit 2) ([c7,c8,int i64 c13,int i64 c10,c12,int i64 c9,int i64 c5],[(0,au.mk true true 3 c3 fun i=>rat (x i) af)]))):=ah
theorem agU {m n i j:Nat} {p q x:Nat->Rat}:aI T qp [] 60 s5 (behind z9 [1]++[part yd [1,1]]) ⟨aC xT (FB m n p q i j),oq m n x,1⟩=
  let c1:Int:=(↑i:Int)+1;some (aj [-(2:Int)^63<=c1/\c1<2^63] (leaf normal ([ak 3 (m+1) fun i=>rat (p i) af,ak 3 (n+1) fun i=>rat (q i) af,int i64 (↑m:Int),int i64 (↑n:Int),own 0 3 0 (m+n+1),int i64 c1],[(0,au.mk true true 3 (m+n+1) fun i=>rat (x i) af)]))):=ah
theorem ZT {m n i:Nat} {p q x:Nat->Rat}:aI T qp [] 60 xV (before sW [0,1]) ⟨aC s5 (CI m n p q i),oq m n x,1⟩=
  some (leaf normal ([int i64 (↑m:Int),int i64 (↑n:Int),own 0 3 0 (m+n+1),int i64 0],[(0,au.mk true true 3 (m+n+1) fun i=>rat (x i) af)])):=ah
theorem aiy {m n k:Nat} {x:Nat->Rat}:aI T qp [72] 60 xV [part sW [0,1,0,0]] ⟨aC xV (Ev m n k),oq m n x,1⟩=
  let c4:Int:=(2:Int)^63;let c3:Nat:=m+n+1;let c2:Int:=(↑k:Int);let c1:Int:=(↑m:Int)+(↑n:Int);let c8:Int:=c2+1;let c7:Prop:=(0:Int)<=c2/\c2.toNat<c3;let c6:AV:=own 0 3 0 c3;let c5:Nat:=c2.toNat+0;some (aj [-c4<=c1/\c1<c4] (fork (decide (c2<=c1)) (aj [c7,c5<c3,-c4<=c1/\c1<c4,(0:Int)<=c2,c2<=c1,c1<=40,af<2^41,(64:Nat)<2^41,c7,c5<c3] (aj [-c4<=c8/\c8<c4] (leaf normal ([int i64 (↑m:Int),int i64 (↑n:Int),c6,int i64 c8],[(0,au.mk true true 3 c3 fun j=>rat (bif j==c5 then x c5/(↑(↑(bn c1.toNat c2.toNat):Int):Rat)else x j) (bif j==c5 then af+64 else af))])))) (leaf (exit 4) ([int i64 (↑m:Int),int i64 (↑n:Int),c6,int i64 c2],[(0,au.mk true true 3 c3 fun i=>rat (x i) af)])))):=ah
theorem aft {m n k:Nat} {x:Nat->Rat}:cQ T qp [] 60 f31 [part sW [1]] ⟨aC xV (Ev m n k),oq m n x,1⟩=
  some (leaf ret [ak 3 (m+n+1) fun i=>rat (x (i+0)) af,int i64 0]):=ah
theorem Gc:bR P qp:=gY (aJ F4 (aJ (jG fun _ _ K hn=>CX hn.1 hn.2 K) gM))
def lP (m n:Nat) (p q:Nat->Rat) (i j k:Nat):Rat:=sg (fun i=>sg (fun j=>if i+j=k then bq m i*p i*(bq n j*q j)else 0) (n+1)) i+sg (fun j=>if i+j=k then bq m i*p i*(bq n j*q j)else 0) j
theorem ahR {m n i k:Nat} {p q:Nat->Rat}:lP m n p q i (n+1) k=lP m n p q (i+1) 0 k:=(Rat.add_zero _).symm
theorem Z0 {m n i j:Nat} {p q:Nat->Rat}:lP m n p q i j (i+j)+bq m i*bq n j*(p i*q j)=lP m n p q i (j+1) (i+j):=by
 unfold lP
 show _=_+(sg _ j+(if i+j=i+j then bq m i*p i*(bq n j*q j)else 0))
 rw[if_pos rfl];grind
theorem ZW {m n i j k:Nat} {p q:Nat->Rat} (h:k≠i+j):lP m n p q i j k=lP m n p q i (j+1) k:=by
 unfold lP
 show _=_+(sg _ j+(if i+j=k then bq m i*p i*(bq n j*q j)else 0))
 rw[if_neg (fun e=>h e.symm),Rat.add_zero]
theorem afY {m n k:Nat} {p q:Nat->Rat}:lP m n p q (m+1) 0 k/bq (m+n) k=j7 m n p q k:=by
 unfold j7
 rw[show lP m n p q (m+1) 0 k=kB m n (fun i=>bq m i*p i) (fun j=>bq n j*q j) k from Rat.add_zero _]
def pW (m n:Nat) (p q:Nat->Rat) (k t:Nat):Rat:=if t<k then j7 m n p q t else lP m n p q (m+1) 0 t
theorem Ic {m n k t:Nat} {p q:Nat->Rat} (h:t<k):pW m n p q k t=j7 m n p q t:=if_pos h
theorem Tr {m n k:Nat} {p q:Nat->Rat}:pW m n p q k k/bq (m+n) k=pW m n p q (k+1) k:=by
 rw[Ic (Nat.lt_succ_self _)];unfold pW;rw[if_neg (Nat.lt_irrefl _)];exact afY
theorem aai {m n k t:Nat} {p q:Nat->Rat} (h:t≠k):pW m n p q k t=pW m n p q (k+1) t:=by
 unfold pW
 by_cases h3:t<k
 ·rw[if_pos h3,if_pos aa]
 ·rw[if_neg h3,if_neg aa]
def DG (m n:Nat) (p q:Nat->Rat):Prop:=(∀i j k,i<=m+1->j<=n+1->k<m+n+1->Sz (lP m n p q i j k) af)/\∀k,k<m+n+1->Sz (j7 m n p q k) af
theorem U9 {m n:Nat} {p q:Nat->Rat} (hmn:m+n<=40) (hz:DG m n p q) (K:Nat):aQ P 31 K [bz p (m+1) af,bz q (n+1) af] [] (aL (.tuple [bz (j7 m n p q) (m+n+1) af,.int .i64 0]) []):=by
 refine iw (r:=aL (.tuple [bz (j7 m n p q) (m+n+1) af,.int .i64 0]) []) hT KY rfl aX rfl (fun _ cx h0=>?_) K []
 have hk:=lX h0
 have hW:=cF
 refine ax.qH hT Gc hm (x:=BL) [1,1,1,1,0,1] (i:=0) (y:=yd) (z:=sW) ah ah ah KY.dst [1,0] (j:=1) (x1:=z9) (zb:=part yd [1,1]) ah ah ah [1] (i2:=2) (y2:=part z9 [1,0,0]) ah ah rfl hk
  (f1:=[200022]) (f2:=[30]) (f3:=[]) (f4:=[35]) (f5:=[]) 60 s5 xT 1 1 (fun i:Nat=>CI m n p q i) (fun i=>oq m n (lP m n p q i 0)) (fun i=>i<=m+1) (fun i=>i=m+1) (fun i=>m+1-i) (fun i=>i<m+1) (fun _=>False) (fun _=>False)
  (fun i (j:Nat)=>FB m n p q i j) (fun i j=>oq m n (lP m n p q i j)) (fun _ j=>j<=n+1) (fun _ j=>j=n+1) (fun _ j=>n+1-j)
  ⟨_,Sb,?_⟩ (fun i hi=>⟨_,adX,?_⟩) (fun i hi hG=>⟨_,abL,?_⟩) (fun i hi hG j hj=>⟨_,abW,?_⟩) (fun i hi hG j hj=>⟨_,agU,?_⟩) (fun i hi=>?_) (fun _ _ h=>h.elim) (fun _ _ h=>h.elim)
 ·have e1:((m+1:Nat):Int)-1=(m:Nat):=aa
  have e2:((n+1:Nat):Int)-1=(n:Nat):=aa
  have e3:((m:Int)+(n:Int)+1).toNat=m+n+1:=aa
  simp only[ag.all,az,e1,e2,e3,bD]
  exact⟨aa,aa,aa,aa,0,Nat.zero_le _,[(0,73728)],rfl,rfl,rfl,br rfl rfl rfl (fun k hk=>.inr ⟨rfl,dy (by show(0:Rat)=0+0;rw[Rat.add_zero]) aa⟩) trivial⟩
 ·simp only[ag.all,az,bB,bD]
  exact⟨fun h=>⟨aa,[(0,0)],rfl,rfl,rfl,br rfl rfl rfl (fun i hi=>bN rfl rfl) trivial⟩,fun h=>⟨rfl,i,aa,[(0,0)],rfl,rfl,rfl,br rfl rfl rfl (fun i hi=>bN rfl rfl) trivial⟩⟩
 ·simp only[ag.all,az]
  exact⟨0,Nat.zero_le _,[(0,0)],rfl,rfl,rfl,br rfl rfl rfl (fun i hi=>bN rfl rfl) trivial⟩
 ·have e1:((i:Int)+(j:Int)).toNat=i+j:=aa
  simp only[ag.all,az,e1,bB,bD,bJ,Nat.add_zero]
  refine⟨fun h=>⟨⟨aa,aa,aa,aa,aa,aa,aa,aa,aa⟩,⟨aa,aa,aa,aa,aa,aa,aa,aa,aa,aa,aa,aa,aa,aa,aa⟩,aa,j+1,aa,by dsimp only;omega,[(0,0)],rfl,by rw[show(j:Int)+1=((j+1:Nat):Int) by omega];rfl,rfl,br rfl rfl rfl (fun k hk=>nh (ej Z0 (hz.1 i (j+1) _ aa aa aa)) fun hne=>dy (ZW hne) aT) trivial⟩,
   fun h=>⟨rfl,j,aa,[(0,0)],rfl,rfl,rfl,br rfl rfl rfl (fun i hi=>bN rfl rfl) trivial⟩⟩
 ·subst hj
  simp only[ag.all,az]
  exact⟨aa,i+1,aa,by dsimp only;omega,[(0,0)],rfl,by rw[show(i:Int)+1=((i+1:Nat):Int) by omega];rfl,rfl,br rfl rfl rfl (fun k hk=>bN rfl (by rw[ahR])) trivial⟩
 ·subst hi
  refine ax.oD hT Gc hm (x:=sW) [0,1] (i:=4) (y:=part sW [0,1,0,0]) (z:=part sW [1]) ah ah ah ah hk (f1:=[]) (f2:=[72]) 60 xV 1 (fun k:Nat=>Ev m n k) (fun k=>oq m n (pW m n p q k))
   (fun k=>k<=m+n+1) (fun k=>k=m+n+1) (fun k=>m+n+1-k) (fun _=>False) ⟨_,ZT,?_⟩ (fun k hk=>⟨_,aiy,?_⟩) (fun k hk=>?_) (fun _ _ h=>h.elim)
  ·simp only[ag.all,az]
   exact⟨0,Nat.zero_le _,[(0,0)],rfl,rfl,rfl,br rfl rfl rfl (fun i hi=>bN rfl rfl) trivial⟩
  ·have e1:((m:Int)+(n:Int)).toNat=m+n:=aa
   simp only[ag.all,az,e1,bB,bD,bJ,Nat.add_zero]
   refine⟨aa,fun h=>⟨⟨aa,aa,aa,aa,aa,aa,aa,aa,aa,aa⟩,aa,k+1,aa,by dsimp only;omega,[(0,0)],rfl,by rw[show(k:Int)+1=((k+1:Nat):Int) by omega];rfl,rfl,br rfl rfl rfl (fun t ht=>nh (y:=pW m n p q (k+1)) (ej Tr (by rw[Ic (Nat.lt_succ_self _)];exact hz.2 k aa)) fun hne=>dy (aai hne) aT) trivial⟩,
    fun h=>⟨rfl,k,aa,[(0,0)],rfl,rfl,rfl,br rfl rfl rfl (fun i hi=>bN rfl rfl) trivial⟩⟩
  ·subst hk
   refine ax.lH ((aG.fin hT Gc hm 60 aft ah ?_).mono fun _ _ h=>.inl h)
   exact⟨iH fun i hi=>dy (by rw[Nat.add_zero];exact Ic hi) aT,.refl _,trivial⟩
def PT:Spec:=dD (kC (kL af) (kC (kL af) kN)) (fun a=>.tuple [bz (j7 (a.1.1-1) (a.2.1.1-1) a.1.2 a.2.1.2) (a.1.1-1+(a.2.1.1-1)+1) af,.int .i64 0]) fun a=>[1<=a.1.1,1<=a.2.1.1,a.1.1+a.2.1.1<=42,DG (a.1.1-1) (a.2.1.1-1) a.1.2 a.2.1.2]
theorem ab9:aY P PT 31:=cO fun⟨⟨m,p⟩,⟨n,q⟩,_⟩ K hn=>by
 obtain⟨h1,h2,h3,h4⟩:=hn
 have h1:1<=m:=h1
 have h2:1<=n:=h2
 have h3:m+n<=42:=h3
 obtain⟨m,rfl⟩:∃x,m=x+1:=⟨m-1,aa⟩
 obtain⟨n,rfl⟩:∃x,n=x+1:=⟨n-1,aa⟩
 exact U9 aa h4 K
def C7:bk:=nG::(44,kj vW)::(87,kj Bt)::[]
abbrev xG:Code:=aH f28
abbrev yU:List Nat:=[0,5,6]
abbrev Bb (j:Nat) (t:Int):List AV:=[.ptr 0 0 2 0 [],.own 1 3 0 j,.int .i64 t]
abbrev GX (n:Nat) (z:Nat->Int) (a:Int) (k:Nat->Rat) (j:Nat):aE:=[(1,cC j k 64),(0,qo n z a)]
def Bx:bk:=nG::(96,L6)::gN
abbrev zl:Code:=aH f55
abbrev zf:List Nat:=[0,3,4]
abbrev Ek (n:Nat) (z:Nat->Int) (i:Nat):List AV:=[.ak 1 n fun i=>.int .i64 (z i),.own 0 3 0 i,.int .i64 i]
theorem MY:bf 28 f28:=bg func28
theorem Zj:bf 55 f55:=bg func55
theorem aby {n:Nat} {z:Nat->Int} {a d:Int}:aI T C7 [] 60 yU (before xG [1,1,0,1]) ⟨aU 0 [.ptr 0 0 2 0 [],.int .i64 d],[(0,qo n z a)],1⟩=
  let c1:Int:=d+1;some (aj [-(2:Int)^63<=c1/\c1<2^63,dh n (fun i=>int i64 (z i)) a,(0:Int)<c1,c1<2^62] (leaf normal ([ptr 0 0 2 0 [],nil,int i64 (cT n (fun i=>int i64 (z i)) a c1)],[(0,au.mk false true 2 1 fun x=>agg [ak 1 n fun i=>int i64 (z i),int i64 (bP n a)])]))):=ah
theorem afs {n j:Nat} {z:Nat->Int} {a t:Int} {k:Nat->Rat}:aI T C7 [12] 60 yU [part xG [1,1,0,1,0,0]] ⟨aC yU (Bb j t),GX n z a k j,2⟩=
  let c2:AV:=ak 1 n fun i=>int i64 (z i);let c1:AV:=ptr 0 0 2 0 [];some (fork (decide (t>=0)) (aj [dh n (fun i=>int i64 (z i)) a,(1:Nat)*3<=2^24,(j+1)*((56:Nat)+1)*2<=2^47] (aj [-(2:Int)^63<=t-1/\t-1<(2:Int)^63] (leaf normal ([c1,own 24578 3 0 (j+1),int i64 (t-1)],[(24578,au.mk true true 3 (j+1) fun i=>if i<j then rat (k i) 64 else nth [rat (kM n (fun i=>int i64 (z i)) a) 64] (rat 0 1) (i-j+0)),(0,au.mk false true 2 1 fun x=>agg [c2,int i64 (jX n (fun i=>int i64 (z i)) a)])])))) (leaf (exit 0) ([c1,own 1 3 0 j,int i64 t],[(1,au.mk true true 3 j fun i=>rat (k i) 64),(0,au.mk false true 2 1 fun x=>agg [c2,int i64 a])]))):=ah
theorem R3 {n j:Nat} {z:Nat->Int} {a t:Int} {k:Nat->Rat}:Ci T C7 [] 60 f28 [part xG [1,1,1]] ⟨aC yU (Bb j t),GX n z a k j,2⟩=
  some (leaf ret ([ak 3 j fun i=>rat (k (i+0)) 64],some (au.mk false true 2 1 fun x=>agg [ak 1 n fun i=>int i64 (z i),int i64 a]))):=ah
theorem aen {n:Nat} {z:Nat->Int}:aI T Bx [] 60 zf (before zl [1,1,0,1]) ⟨aU 0 [.ak 1 n fun i=>.int .i64 (z i)],[],0⟩=
  some (leaf normal ([ak 1 n fun i=>int i64 (z i),nil,int i64 0],[])):=ah
theorem Zc {n i:Nat} {z:Nat->Int} {k:Nat->Rat}:aI T Bx [10] 60 zf [part zl [1,1,0,1,0,0]] ⟨aC zf (Ek n z i),[(0,cC i k 64)],1⟩=
  let c3:AV:=ak 1 n fun i=>int i64 (z i);let c2:Int:=(2:Int)^63;let c1:Int:=(↑i:Int);let c5:Int:=z c1.toNat;let c4:Int:=c1+1;some (fork (decide (c1<(↑n:Int))) (aj [(0:Int)<=c1/\c1.toNat<n,-c2<=c5,c5<c2,(1:Nat)*3<=2^24,(i+1)*((56:Nat)+1)*2<=2^47] (aj [-c2<=c4/\c4<c2] (leaf normal ([c3,own 45057 3 0 (i+1),int i64 c4],[(45057,au.mk true true 3 (i+1) fun i_1=>if i_1<i then rat (k i_1) 64 else nth [rat (↑c5:Rat) (Max.max 1 (bV c5.natAbs))] (rat 0 1) (i_1-i+0))])))) (leaf (exit 0) ([c3,own 0 3 0 i,int i64 c1],[(0,au.mk true true 3 i fun i=>rat (k i) 64)]))):=ah
theorem YG {n i:Nat} {z:Nat->Int} {k:Nat->Rat}:cQ T Bx [] 60 f55 [part zl [1,1,1]] ⟨aC zf (Ek n z i),[(0,cC i k 64)],1⟩=
  some (aj [cP (fun i=>.rat (k (i+0)) 64) i af,(1:Nat)<=i,i<=41,jR i fun i=>aM (.rat (k (i+0)) 64)] (leaf ret [bz (ga i fun i=>aM (.rat (k (i+0)) 64)) i af])):=ah
theorem Je {rl:List (Nat×Nat)} {l i s s' s2:Nat} {x y:Nat->Rat} {t:Rat} {z:AV} (hx:∀i,i<l->x i=y i) (ht:aW (.rat t s') (.rat (y l) s2)) (h1:s<=s2) (hi:i<l+1):nS rl (if i<l then .rat (x i) s else nth [.rat t s'] z (i-l+0)) (.rat (y i) s2):=by
 by_cases h:i<l
 ·rw[if_pos h,hx i h];exact .inr ⟨rfl,dy rfl h1⟩
 ·obtain rfl:i=l:=aa
  rw[if_neg h,Nat.sub_self]
  exact .inr ⟨rfl,ht⟩
def ym (n:Nat) (f:Nat->AV) (a:Int):Nat->Int
 |0=>a
 |j+1=>jX n f (ym n f a j)
theorem dh.numbers {n:Nat} {f:Nat->AV} {a:Int} (h:dh n f a):∀j,dh n f (ym n f a j)
 |0=>h
 |j+1=>(h.numbers j).number
def qA (n:Nat) (f:Nat->AV) (a d:Int):Nat:=(cT n f a (d+1)).toNat+1
def sx (n:Nat) (f:Nat->AV) (a:Int) (i:Nat):Rat:=kM n f (ym n f (bP n a) i)
def tZ (n:Nat) (f:Nat->AV) (a d:Int):Int:=ym n f (bP n a) (qA n f a d)
def Fg (n:Nat) (f:Nat->AV) (a:Int) (l:List AV):Option (AV×Int×List Prop):=match l with
 |[.int .i64 d]=>some (bz (sx n f a) (qA n f a d) 64,tZ n f a d,[0<=d,d<900])
 |_=>none
theorem MA:bR P C7:=gi (aJ Bk (aJ MX cz))
theorem SR {k n:Nat} {z:Nat->Int} {a d:Int} {o:au} (ho:∀ρ,dU ρ o (qo n z a)) (h:dh n (fun i=>.int .i64 (z i)) a) (hd1:0<=d) (hd2:d<900) (K:Nat):
  aQ P 28 K [.ptr k 0 2 0 [],.int .i64 d] [(k,o)] ⟨bz (sx n (fun i=>.int .i64 (z i)) a) (qA n (fun i=>.int .i64 (z i)) a d) 64,[(k,qo n z (tZ n (fun i=>.int .i64 (z i)) a d))],[]⟩:=by
 refine KH hT MY rfl rfl aX ho (fun _ c hk=>?_) K
 have a1:=jI (n:=n) (f:=fun i=>.int .i64 (z i)) (a:=a) (m:=d+1) aa
 have a2:=jW (n:=n) (f:=fun i=>.int .i64 (z i)) (a:=a) (m:=d+1) aa
 unfold tZ
 obtain⟨N,hN⟩:∃N,N=qA n (fun i=>.int .i64 (z i)) a d:=⟨_,rfl⟩
 have hN2:cT n (fun i=>.int .i64 (z i)) a (d+1)=(N:Int)-1:=by rw[hN];unfold qA;omega
 rw[<-hN]
 refine ax.oD hT MA hm [1,1,0,1] (i:=0) (y:=part xG [1,1,0,1,0,0]) (z:=part xG [1,1,1]) ah ah ah MY.dst hk (f1:=[]) (f2:=[12]) 60 yU 2 (fun j:Nat=>Bb j ((N:Int)-1-j))
  (fun j=>GX n z (ym n (fun i=>.int .i64 (z i)) (bP n a) j) (sx n (fun i=>.int .i64 (z i)) a) j) (fun j=>j<=N) (fun j=>j=N) (fun j=>N-j) (fun _=>False) ⟨_,aby,?_⟩ (fun j hj=>⟨_,afs,?_⟩) (fun j hj=>?_) (fun _ _ h=>h.elim)
 ·simp only[ag.all,az,hN2]
  exact⟨⟨aa,h,aa,aa⟩,0,Nat.zero_le _,[(0,0)],rfl,by show _=List.map (lV [(0,0)]) (Bb 0 ((N:Int)-1-((0:Nat):Int)));rw[show(N:Int)-1-((0:Nat):Int)=N-1 by omega];rfl,rfl,kZ rfl aa aa (cG trivial)⟩
 ·simp only[ag.all,az,bB,bD]
  refine⟨fun h2=>⟨⟨h.next.numbers j,aa,aa⟩,aa,j+1,aa,by dsimp only;omega,[(0,0),(1,24578)],rfl,by rw[show(N:Int)-1-(j:Int)-1=(N:Int)-1-((j+1:Nat):Int) by omega];rfl,rfl,
   br rfl rfl rfl (fun i hi=>Je (fun _ _=>rfl) (.refl _) aT hi) (cG trivial)⟩,
   fun h2=>⟨rfl,j,aa,[(0,0),(1,1)],rfl,rfl,rfl,nJ (cG trivial)⟩⟩
 ·subst hj
  refine ax.lH (aG.Mu hT MA hm 60 R3 ah ?_)
  simp only[ag.all,az]
  exact⟨.refl _,_,rfl,rfl,tA rfl rfl⟩
theorem Xi:aY P (kj Fg) 28:=by
 refine yZ fun {k n z a l v b q o} K hg ho hd hq=>?_
 unfold Fg at hg
 split at hg
 ·rename_i d
  simp only[ay,Prod.mk.injEq]at hg
  obtain⟨rfl,rfl,rfl⟩:=hg
  exact SR ho hd hq.1 hq.2 K
 ·simp at hg
theorem YK:bR P Bx:=gi (aJ aeI gM)
def fc (z:Nat->Int) (i:Nat):Rat:=(z i:Int)
theorem EN {n:Nat} {z:Nat->Int} (h1:1<=n) (h2:n<=41) (hz:∀i,i<n->-2^62<=z i/\z i<2^62) (hf:jR n (fc z)) (K:Nat):aQ P 55 K [.ak 1 n fun i=>.int .i64 (z i)] [] (aL (bz (ga n (fc z)) n af) []):=by
 have hW:=cF
 refine jc (r:=aL (bz (ga n (fc z)) n af) []) hT YK hm Zj rfl aX rfl [1,1,0,1] (i:=0) (y:=part zl [1,1,0,1,0,0]) (z:=part zl [1,1,1]) ah ah ah (f1:=[]) (f2:=[10]) (f3:=[]) 60 zf 1
  (fun i:Nat=>Ek n z i) (fun i=>[(0,cC i (fc z) 64)]) (fun i=>i<=n) (fun i=>i=n) (fun i=>n-i) (fun _=>⟨⟨_,aen,?_⟩,fun i hi=>⟨_,Zc,?_⟩,fun i hi=>⟨_,YG,?_⟩⟩) K []
 ·simp only[ag.all,az]
  exact⟨0,Nat.zero_le _,[],rfl,rfl,rfl,kZ rfl aa aa trivial⟩
 ·simp only[ag.all,az,bB,bD,bJ]
  refine⟨fun h=>⟨⟨aa,by have:=hz i aa;omega,by have:=hz i aa;omega,aa,aa⟩,aa,i+1,aa,by dsimp only;omega,[(0,45057)],rfl,by rw[show(i:Int)+1=((i+1:Nat):Int) by omega];rfl,rfl,br rfl rfl rfl (fun j hj=>Je (fun _ _=>rfl) (ej rfl (AK (y:=0) (by have:=hz i aa;omega) (by have:=hz i aa;omega))) aT hj) trivial⟩,
   fun h=>⟨rfl,i,aa,[(0,0)],rfl,rfl,rfl,nJ trivial⟩⟩
 ·subst hi
  simp only[ag.all,az]
  exact⟨⟨ek aa,h1,h2,hf⟩,.refl _⟩
def QV:Spec:=cu fun l=>match l with
 |[.ak 1 n f]=>some (aL (bz (ga n (fc fun i=>intOf (f i))) n af) [1<=n,n<=41,∀i,i<n->f i=.int .i64 (intOf (f i)),∀i,i<n->-2^62<=intOf (f i)/\intOf (f i)<2^62,jR n (fc fun i=>intOf (f i))])
 |_=>none
def qc:bk:=nG::(44,kj vW)::(28,kj Fg)::(55,QV)::(51,Qb)::(52,zF)::(31,PT)::gN
abbrev sr:Code:=aH f13
abbrev qO:Code:=part sr [1,1,0,1,0,0]
abbrev qy:Code:=part qO [1,0,0]
abbrev mq:List Nat:=[0,3,4]
abbrev rq (p:PP) (t:Int):List AV:=[.ptr 0 0 2 0 [],aA p,.int .i64 t]
abbrev jr (n:Nat) (z:Nat->Int) (a:Int):aE:=[(0,qo n z a)]
abbrev nV:List Nat:=[0,3,4,5,7]
abbrev pZ (p q:PP) (t r:Int):List AV:=[.ptr 0 0 2 0 [],aA p,.int .i64 t,aA q,.int .i64 r]
def gr (n:Nat) (f:Nat->AV) (b:Int) (i:Nat):Int:=if i=0 then-cT n f b 4 else if i=1 then 0 else 1+cT n f (bP n b) 5
def sB (n:Nat) (f:Nat->AV) (a:Int):PP:=if cT n f a 4=0 then(qA n f (bP n a) 2,sx n f (bP n a))else if cT n f a 4=1 then(3,ga 3 (fc (gr n f (bP n a))))else
 (2,fun i=>if i=0 then-mu (cT n f (bP n a) 400)else 1-mu (cT n f (bP n a) 400))
def jM (n:Nat) (f:Nat->AV) (a:Int):Int:=if cT n f a 4=0 then tZ n f (bP n a) 2 else if cT n f a 4=1 then bP n (bP n (bP n a))else bP n (bP n a)
def qN (n:Nat) (f:Nat->AV) (a:Int):Nat:=1+(cT n f (jM n f a) 3).toNat/2
def qe (n:Nat) (f:Nat->AV) (a:Int):Int:=bP n (jM n f a)
def fl (n:Nat) (f:Nat->AV) (a:Int):Nat->PP×Int
 |0=>((1,fun _=>1),bP n a)
 |i+1=>(ij (fl n f a i).1 (sB n f (fl n f a i).2) (qN n f (fl n f a i).2),qe n f (fl n f a i).2)
def pH (n:Nat) (f:Nat->AV) (a:Int):Nat:=(cT n f a 4).toNat
def ki (n:Nat) (f:Nat->AV) (a:Int):PP:=(fl n f a (pH n f a)).1
def oJ (n:Nat) (f:Nat->AV) (a:Int):Int:=(fl n f a (pH n f a)).2
def Lv (p q:PP):Prop:=1<=p.1/\1<=q.1/\p.1+q.1<=42/\DG (p.1-1) (q.1-1) p.2 q.2
def CQ (n:Nat) (f:Nat->AV) (a:Int):Prop:=∀i,i<pH n f a->(cT n f (fl n f a i).2 4=1->jR 3 (fc (gr n f (bP n (fl n f a i).2))))/\∀j,j<qN n f (fl n f a i).2->Lv (ij (fl n f a i).1 (sB n f (fl n f a i).2) j) (sB n f (fl n f a i).2)
def Hp (n:Nat) (f:Nat->AV) (a:Int) (l:List AV):Option (AV×Int×List Prop):=match l with
 |[]=>some (aA (ki n f a),oJ n f a,[CQ n f a])
 |_=>none
theorem MS:bf 13 f13:=bg func13
theorem Tf {n:Nat} {z:Nat->Int} {a:Int}:aI T qc [] 60 [0,3] (before sr [1,1]) ⟨aU 0 [.ptr 0 0 2 0 []],jr n z a,1⟩=
  some (aj [-(2:Int)^63<=(1:Int),(1:Int)<2^63,(1:Nat)*3<=2^24] (leaf normal ([ptr 0 0 2 0 [],own 8193 3 0 1],[(8193,au.mk true true 3 1 fun i=>nth [rat (↑(1:Int):Rat) (Max.max 1 (bV (Int.natAbs (1:Int))))] (rat 0 1) i),(0,au.mk false true 2 1 fun x=>agg [ak 1 n fun i=>int i64 (z i),int i64 a])]))):=ah
theorem WW {n:Nat} {z:Nat->Int} {a t r:Int} {p q:PP}:aI T qc [] 60 nV (before (part qy [1,1,1]) []) ⟨aC nV (pZ p q t r),jr n z a,1⟩=
  some (leaf normal ([ptr 0 0 2 0 [],ak 3 p.fst fun i=>rat (p.snd i) af,int i64 t,ak 3 q.fst fun i=>rat (q.snd i) af,int i64 r],[(0,au.mk false true 2 1 fun x=>agg [ak 1 n fun i=>int i64 (z i),int i64 a])])):=ah
theorem RZ {n:Nat} {z:Nat->Int} {a:Int} {p:PP}:aI T qc [] 60 mq (before (part sr [1,1]) [0,1]) ⟨aC [0,3] [.ptr 0 0 2 0 [],aA p],jr n z a,1⟩=
  some (aj [dh n (fun i=>int i64 (z i)) a,(0:Int)<4,(4:Int)<2^62] (leaf normal ([ptr 0 0 2 0 [],ak 3 p.fst fun i=>rat (p.snd i) af,int i64 (cT n (fun i=>int i64 (z i)) a (4:Int))],[(0,au.mk false true 2 1 fun x=>agg [ak 1 n fun i=>int i64 (z i),int i64 (bP n a)])]))):=ah
theorem Y1 {n:Nat} {z:Nat->Int} {a t:Int} {p:PP}:aI T qc [13] 60 mq (before qO [1,0]) ⟨aC mq (rq p t),jr n z a,1⟩=
  let c1:List AV×aE:=([ptr 0 0 2 0 [],ak 3 p.fst fun i=>rat (p.snd i) af,int i64 t],[(0,au.mk false true 2 1 fun x=>agg [ak 1 n fun i=>int i64 (z i),int i64 a])]);some (fork (decide (t>0)) (leaf normal c1) (leaf (exit 0) c1)):=ah
theorem aa0 {n:Nat} {z:Nat->Int} {a t:Int} {p:PP}:aI T qc [27,31] 60 nV (before qy [1,1,1]) ⟨aC mq (rq p t),jr n z a,1⟩=
  let c22:AV:=int i64 0;let c20:Prop:=(0:Int)<3;let c19:Prop:=0<1;let c18:Prop:=(2:Int)≠(0:Int);let c17:Int:=bP n a;let c16:Int:=cT n (fun i=>int i64 (z i)) a (4:Int);let c15:Nat:=Max.max 1 (bV (Int.natAbs (1:Int)));let c13:AV:=ak 1 n fun i=>int i64 (z i);let c11:AV:=ptr 0 0 2 0 [];let c8:Int:=(2:Int)^62;let c7:AV:=ak 3 p.fst fun i=>rat (p.snd i) af;let c4:Int:=(2:Int)^63;let c24:Prop:=(3:Int)<c8;let c14:Rat:=mu (cT n (fun i=>int i64 (z i)) c17 (400:Int));let c12:Prop:=dh n (fun i=>int i64 (z i)) c17;let c10:Int:=tZ n (fun i=>int i64 (z i)) c17 (2:Int);let c2:Int:=bP n c17;let c23:Int:=bP n c2;let c21:Prop:=dh n (fun i=>int i64 (z i)) c2;let c9:Int:=(1:Int)+cT n (fun i=>int i64 (z i)) c2 (5:Int);let c6:Int:=(1:Int)+i64.wrap ((cT n (fun i=>int i64 (z i)) c2 (3:Int)).tdiv (2:Int));let c1:Int:=(1:Int)+i64.wrap ((cT n (fun i=>int i64 (z i)) c10 (3:Int)).tdiv (2:Int));let c5:List AV:=[int i64 (i64.wrap ((0:Int)-cT n (fun i=>int i64 (z i)) c17 (4:Int))),c22,int i64 c9];let c3:Int:=(1:Int)+i64.wrap ((cT n (fun i=>int i64 (z i)) c23 (3:Int)).tdiv (2:Int));some (aj [dh n (fun i=>int i64 (z i)) a,(0:Int)<4,(4:Int)<c8] (fork (c16==0) (aj [c12,(0:Int)<=2,(2:Int)<900] (aj [dh n (fun i=>int i64 (z i)) c10,c20,c24,c18,-c4<=c1/\c1<c4] (leaf normal ([c11,c7,int i64 t,ak 3 (qA n (fun i=>int i64 (z i)) c17 (2:Int)) fun i=>rat (sx n (fun i=>int i64 (z i)) c17 i) 64,int i64 c1],[(0,au.mk false true 2 1 fun x=>agg [c13,int i64 (bP n c10)])])))) (fork (c16==1) (aj [c12,(0:Int)<4,(4:Int)<c8,c21,(0:Int)<5,(5:Int)<c8,-c4<=c9/\c9<c4,(3:Nat)*1<=2^24,(1:Nat)<=3,(3:Nat)<=41,∀(i:Nat),i<3->nth c5 c22 (i+0)=int i64 (intOf (nth c5 c22 (i+0))),∀(i:Nat),i<3->-c8<=intOf (nth c5 c22 (i+0))/\intOf (nth c5 c22 (i+0))<c8,jR 3 (fc fun i=>intOf (nth c5 c22 (i+0)))] (aj [dh n (fun i=>int i64 (z i)) c23,c20,c24,c18,-c4<=c3/\c3<c4] (leaf normal ([c11,c7,int i64 t,ak 3 3 fun i=>rat (ga 3 (fc fun i=>intOf (nth c5 c22 (i+0))) i) af,int i64 c3],[(0,au.mk false true 2 1 fun x=>agg [c13,int i64 (bP n c23)])])))) (aj [c12,(0:Int)<400,(400:Int)<c8,c19] (aj [c19,-c4<=1,(1:Int)<c4,c19,c15<2^41,(64:Nat)<2^41,(2:Nat)*3<=2^24] (aj [c21,c20,c24,c18,-c4<=c6/\c6<c4] (leaf normal ([c11,c7,int i64 t,own 69633 3 0 2,int i64 c6],[(69633,au.mk true true 3 2 fun i=>nth [rat (-c14) 64,rat ((↑(1:Int):Rat)-c14) (c15+64+1)] (rat 0 1) i),(0,au.mk false true 2 1 fun x=>agg [c13,int i64 c23])])))))))):=ah
theorem R4 {n:Nat} {z:Nat->Int} {a t r:Int} {p q:PP}:aI T qc [46] 60 nV [part qy [1,1,1,0,0]] ⟨aC nV (pZ p q t r),jr n z a,1⟩=
  let c5:Nat:=q.fst-1;let c4:Nat:=p.fst-1;let c3:AV:=ptr 0 0 2 0 [];let c2:AV:=ak 3 q.fst fun i=>rat (q.snd i) af;let c1:Nat×au:=(0,au.mk false true 2 1 fun x=>agg [ak 1 n fun i=>int i64 (z i),int i64 a]);some (fork (decide (r>0)) (aj [cP (fun i=>rat (p.snd i) af) p.fst af,cP (fun i=>rat (q.snd i) af) q.fst af,(1:Nat)<=p.fst,(1:Nat)<=q.fst,p.fst+q.fst<=42,DG c4 c5 (fun i=>aM (rat (p.snd i) af)) fun i=>aM (rat (q.snd i) af)] (aj [-(2:Int)^63<=r-1/\r-1<(2:Int)^63] (leaf normal ([c3,ak 3 (c4+c5+1) fun i=>rat (j7 c4 c5 (fun i=>aM (rat (p.snd i) af)) (fun i=>aM (rat (q.snd i) af)) i) af,int i64 t,c2,int i64 (r-1)],[c1])))) (leaf (exit 3) ([c3,ak 3 p.fst fun i=>rat (p.snd i) af,int i64 t,c2,int i64 r],[c1]))):=ah
theorem afp {n:Nat} {z:Nat->Int} {a t r:Int} {p q:PP}:aI T qc [] 60 mq [part qO [1,1]] ⟨aC nV (pZ p q t r),jr n z a,1⟩=
  some (aj [-(2:Int)^63<=t-1/\t-1<(2:Int)^63] (leaf normal ([ptr 0 0 2 0 [],ak 3 p.fst fun i=>rat (p.snd i) af,int i64 (t-1)],[(0,au.mk false true 2 1 fun x=>agg [ak 1 n fun i=>int i64 (z i),int i64 a])]))):=ah
theorem ahP {n:Nat} {z:Nat->Int} {a t:Int} {p:PP}:Ci T qc [] 60 f13 [part sr [1,1,1]] ⟨aC mq (rq p t),jr n z a,1⟩=
  some (leaf ret ([ak 3 p.fst fun i=>rat (p.snd i) af],some (au.mk false true 2 1 fun x=>agg [ak 1 n fun i=>int i64 (z i),int i64 a]))):=ah
theorem acT:aY P QV 55:=by
 refine cW fun K args r hk hs _=>?_
 split at hs
 ·rename_i n f
  simp only[ay]at hs
  subst hs
  intro need
  obtain⟨h1,h2,h3,h4,h5⟩:=need
  exact gW (EN h1 h2 h4 h5 K) hk ⟨wg rfl h3,trivial⟩ [] trivial
 ·simp at hs
theorem tG:bR P qc:=gi (aJ Bk (aJ Xi (aJ acT (aJ UP (aJ C6 (aJ ab9 gM))))))
theorem dh.poly {n:Nat} {f:Nat->AV} {a d:Int} (h:dh n f a):dh n f (tZ n f a d):=h.next.numbers _
theorem dh.jM {n:Nat} {f:Nat->AV} {a:Int} (h:dh n f a):dh n f (jM n f a):=by
 unfold Go.Am.B.jM
 split
 ·exact h.next.poly
 ·split
  ·exact h.next.next.next
  ·exact h.next.next
theorem dh.fl {n:Nat} {f:Nat->AV} {a:Int} (h:dh n f a):∀i,dh n f (fl n f a i).2
 |0=>h.next
 |i+1=>(h.fl i).jM.next
theorem GJ {n i:Nat} {c d:Nat->Rat}:∀{k:Nat},(∀j,j<k->c j=d j)->kJ n c i k=kJ n d i k
 |0,_=>rfl
 |k+1,h=>by
  show kJ n c i k+_*c k=kJ n d i k+_*d k
  rw[GJ fun j hj=>h j aa,h k aa]
theorem agz {n i:Nat} {c d:Nat->Rat} (hi:i<n) (h:∀j,j<n->c j=d j):ga n c i=ga n d i:=GJ fun j hj=>h j aa
theorem jR.congr {n:Nat} {c d:Nat->Rat} (hz:jR n c) (h:∀j,j<n->c j=d j):jR n d:=fun i k hi hk=>by rw[<-GJ (c:=c) fun j hj=>h j aa];exact hz i k hi hk
theorem HO {x:Int} (h1:0<=x) (h2:x<3):i64.wrap (x.tdiv 2)=x/2:=by
 rw[Int.tdiv_eq_ediv_of_nonneg h1]
 exact wrap_i64 aa aa
theorem Va {k n:Nat} {z:Nat->Int} {a:Int} {o:au} (ho:∀ρ,dU ρ o (qo n z a)) (h:dh n (fun i=>.int .i64 (z i)) a) (hz:CQ n (fun i=>.int .i64 (z i)) a) (K:Nat):
  aQ P 13 K [.ptr k 0 2 0 []] [(k,o)] ⟨aA (ki n (fun i=>.int .i64 (z i)) a),[(k,qo n z (oJ n (fun i=>.int .i64 (z i)) a))],[]⟩:=by
 have hW:=cF
 refine KH hT MS rfl rfl aX ho (fun _ c hk=>?_) K
 obtain⟨f,hf⟩:∃f:Nat->AV,f=fun i=>.int .i64 (z i):=⟨_,rfl⟩
 rw[<-hf]at h hz ⊢
 refine ax.Mm hT tG hm (x:=sr) [1,1] ah ah MS.dst (f1:=[]) 60 [0,3] ⟨_,Tf,?_⟩
 simp only[ag.all,az]
 refine⟨aa,fun s1 hv1=>?_⟩
 refine ax.vt (kp:=[0]) hk (vs:=[.ptr 0 0 2 0 [],.own 1 3 0 1]) (ps:=[(1,⟨true,true,3,1,fun _=>.rat ((1:Int):Rat) (max 1 (bV (Int.natAbs 1)))⟩),(0,qo n z a)]) (nx:=2) [(0,0),(1,8193)] hv1 rfl ⟨⟨rfl,iL rfl⟩,⟨rfl,eE rfl rfl rfl⟩,trivial⟩ (br rfl rfl rfl (fun i hi=>by obtain rfl:i=0:=aa;exact bN rfl rfl) (cG trivial)) ?_
 refine ax.dJ (t:=3) (k:=1) rfl rfl rfl rfl ?_
 refine ax.vt (kp:=[0]) hk (L:=[0,3]) (vs:=[.ptr 0 0 2 0 [],aA (fl n f a 0).1]) (ps:=jr n z a) (nx:=1) [(0,0)] rfl rfl ⟨⟨rfl,iL rfl⟩,⟨rfl,iV rfl (iH fun i hi=>dy rfl (by rw[hW];decide))⟩,trivial⟩ (cG trivial) ?_
 obtain⟨N,hN⟩:∃N,N=pH n f a:=⟨_,rfl⟩
 have a1:=jI (n:=n) (f:=f) (a:=a) (m:=4) aa
 have a2:=jW (n:=n) (f:=f) (a:=a) (m:=4) aa
 have hN2:cT n f a 4=(N:Int)-((0:Nat):Int):=by rw[hN];unfold pH;omega
 have hN3:N<=3:=aa
 refine ax.adI hT tG hm (x:=part sr [1,1]) [0,1] (i:=0) (y:=qO) (z:=part sr [1,1,1]) ah ah ah ah hk (f1:=[]) 60 mq 1 (fun i:Nat=>rq (fl n f a i).1 ((N:Int)-i)) (fun i=>jr n z (fl n f a i).2) (fun i=>i<=N) (fun i=>i=N) (fun i=>N-i) (fun _=>False)
  ⟨_,RZ,?_⟩ (fun i hi=>?_) (fun i hi=>?_) (fun _ _ h=>h.elim)
 ·have hN4:cT n (fun i=>.int .i64 (z i)) a 4=(N:Int)-((0:Nat):Int):=by rw[<-hf];exact hN2
  simp only[ag.all,az,hN4]
  exact⟨⟨hf▸h,aa,aa⟩,0,Nat.zero_le _,[(0,0)],rfl,rfl,rfl,cG trivial⟩
 ·have hS:=h.fl i
  obtain⟨b,hb⟩:∃b,b=(fl n f a i).2:=⟨_,rfl⟩
  obtain⟨p,hp⟩:∃p,p=(fl n f a i).1:=⟨_,rfl⟩
  rw[<-hb]at hS
  refine ax.HR hT tG hm (y:=qO) [1,0] (j:=1) (x1:=qy) (zb:=part qO [1,1]) ah ah ah ah hk (f1:=[13]) 60 mq 1 (fun _:Unit=>rq p ((N:Int)-i)) (fun _=>jr n z b) (fun _=>i<N) ⟨_,Y1,?_⟩ (fun _ hG=>?_)
  ·simp only[ag.all,bB,bD]
   rw[hp,hb]
   refine⟨fun h2=>⟨(),aa,[(0,0)],rfl,rfl,rfl,cG trivial⟩,fun h2 s' hv=>⟨rfl,i,aa,dS.le ⟨[(0,0)],rfl,rfl,rfl,cG trivial⟩ hv hk⟩⟩
  ·obtain⟨z1,z2⟩:=hz i aa
   rw[<-hb,<-hp]at z2
   rw[<-hb]at z1
   obtain⟨q,hq⟩:∃q,q=sB n f b:=⟨_,rfl⟩
   obtain⟨r,hr⟩:∃r,r=qN n f b:=⟨_,rfl⟩
   rw[<-hq,<-hr]at z2
   have b1:=jI (n:=n) (f:=f) (a:=jM n f b) (m:=3) aa
   have b2:=jW (n:=n) (f:=f) (a:=jM n f b) (m:=3) aa
   have hr2:(r:Int)=1+cT n f (jM n f b) 3/2:=by rw[hr];unfold qN;omega
   have key:ax P c f13.ntmps (part qy [1,1,1]) ⟨aC nV (pZ p q ((N:Int)-i) r),jr n z (qe n f b),1⟩ (inBlock 1 (fI (fun s'=>ax P c f13.ntmps (part qO [1,1]) s' (oR c mq (fun i:Nat=>rq (fl n f a i).1 ((N:Int)-i)) (fun i=>jr n z (fl n f a i).2) 1 (fun i=>i<=N) (fun i=>i=N) (fun i=>N-i) 0 (fun s'=>∃v,False/\bE mq s'=some v) i)) (oR c mq (fun i:Nat=>rq (fl n f a i).1 ((N:Int)-i)) (fun i=>jr n z (fl n f a i).2) 1 (fun i=>i<=N) (fun i=>i=N) (fun i=>N-i) 0 (fun s'=>∃v,False/\bE mq s'=some v) i))):=by
    refine ax.yg hT tG hm (x:=part qy [1,1,1]) [] (i:=3) (y:=part qy [1,1,1,0,0]) ah ah ah hk (f1:=[]) (f2:=[46]) 60 nV 1 (fun j:Nat=>pZ (ij p q j) q ((N:Int)-i) ((r:Int)-j)) (fun _=>jr n z (qe n f b)) (fun j=>j<=r) (fun j=>j=r) (fun j=>r-j) (fun _=>False) ⟨_,WW,?_⟩ (fun j hj=>⟨_,R4,?_⟩) (fun j s' hj hle=>?_) (fun _ _ h=>h.elim)
    ·simp only[ag.all]
     exact⟨0,Nat.zero_le _,[(0,0)],rfl,by show _=List.map (lV [(0,0)]) (pZ p q ((N:Int)-i) ((r:Int)-((0:Nat):Int)));rw[show(r:Int)-((0:Nat):Int)=r by omega];rfl,rfl,cG trivial⟩
    ·simp only[ag.all,az,bB,bD]
     refine⟨fun h2=>⟨⟨ek aT,ek aT,z2 j aa⟩,aa,j+1,aa,by dsimp only;omega,[(0,0)],rfl,?_,rfl,cG trivial⟩,fun h2=>⟨rfl,j,aa,[(0,0)],rfl,rfl,rfl,cG trivial⟩⟩
     rw[show(r:Int)-(j:Int)-1=(r:Int)-((j+1:Nat):Int) by omega];rfl
    ·subst hj
     show ax P c _ (part qO [1,1]) s' _
     refine ax.nT hle (ax.bO hT tG hm 60 mq afp ah ?_)
     have e1:(fl n f a (i+1)).1=ij p q j:=by show ij (fl n f a i).1 (sB n f (fl n f a i).2) (qN n f (fl n f a i).2)=_;rw[<-hb,<-hp,<-hq,<-hr]
     have e2:(fl n f a (i+1)).2=qe n f b:=by show qe n f (fl n f a i).2=_;rw[<-hb]
     simp only[ag.all,az]
     refine⟨aa,fun s'' hv=>⟨i+1,hG,by dsimp only;omega,dS.le ⟨[(0,0)],rfl,?_,rfl,?_⟩ hv hk⟩⟩
     ·show _=List.map (lV [(0,0)]) (rq (fl n f a (i+1)).1 ((N:Int)-((i+1:Nat):Int)))
      rw[e1,show(N:Int)-(i:Int)-1=(N:Int)-((i+1:Nat):Int) by omega];rfl
     ·show jT 1 [(0,0)] _ (jr n z (fl n f a (i+1)).2)
      rw[e2];exact cG trivial
   subst hf
   refine ax.Mm hT tG hm (x:=qy) [1,1,1] ah ah ah (f1:=[27,31]) 60 nV ⟨_,aa0,?_⟩
   simp only[ag.all,az,beq_iff_eq,beq_eq_false_iff_ne,ne_eq]
   refine⟨⟨hS,aa,aa⟩,fun k0=>?_,fun k0=>⟨fun k1=>?_,fun k1=>?_⟩⟩
   ·have eB:tZ n (fun i=>.int .i64 (z i)) (bP n b) 2=jM n (fun i=>.int .i64 (z i)) b:=(if_pos k0).symm
    have eq:q=(qA n (fun i=>.int .i64 (z i)) (bP n b) 2,sx n (fun i=>.int .i64 (z i)) (bP n b)):=by rw[hq];exact if_pos k0
    simp only[eB,HO b1 b2,<-hr2]
    refine⟨⟨hS.next,aa,aa⟩,⟨hS.jM,aa,aa,aa,aa⟩,fun s' hv=>?_⟩
    refine ax.vt (kp:=[0]) hk (vs:=pZ p q ((N:Int)-i) r) (ps:=jr n z (qe n (fun i=>.int .i64 (z i)) b)) (nx:=1) [(0,0)] hv rfl ⟨⟨rfl,iL rfl⟩,aS,aS,⟨rfl,iV rfl ?_⟩,aS,trivial⟩ (cG trivial) key
    rw[eq];exact iH fun i hi=>dy rfl aa
   ·have eB:bP n (bP n (bP n b))=jM n (fun i=>.int .i64 (z i)) b:=((if_neg k0).trans (if_pos k1)).symm
    have eq:q=(3,ga 3 (fc (gr n (fun i=>.int .i64 (z i)) (bP n b)))):=by rw[hq];exact(if_neg k0).trans (if_pos k1)
    have u1:=jI (n:=n) (f:=fun i=>.int .i64 (z i)) (a:=bP n b) (m:=4) aa
    have u2:=jW (n:=n) (f:=fun i=>.int .i64 (z i)) (a:=bP n b) (m:=4) aa
    have v1:=jI (n:=n) (f:=fun i=>.int .i64 (z i)) (a:=bP n (bP n b)) (m:=5) aa
    have v2:=jW (n:=n) (f:=fun i=>.int .i64 (z i)) (a:=bP n (bP n b)) (m:=5) aa
    have zz:∀j,j<3->intOf (nth [.int .i64 (0-cT n (fun i=>.int .i64 (z i)) (bP n b) 4),.int .i64 0,.int .i64 (1+cT n (fun i=>.int .i64 (z i)) (bP n (bP n b)) 5)] (.int .i64 0) (j+0))=gr n (fun i=>.int .i64 (z i)) (bP n b) j:=fun j hj=>by
     rcases(show j=0\/j=1\/j=2 by omega)with rfl|rfl|rfl
     ·show 0-_=-_;omega
     ·rfl
     ·rfl
    have zb:∀j,-2^62<=gr n (fun i=>.int .i64 (z i)) (bP n b) j/\gr n (fun i=>.int .i64 (z i)) (bP n b) j<2^62:=fun j=>by
     unfold gr;split
     ·omega
     ·split<;>omega
    have zc:∀j,j<3->fc (gr n (fun i=>.int .i64 (z i)) (bP n b)) j=fc (fun j=>intOf (nth [.int .i64 (0-cT n (fun i=>.int .i64 (z i)) (bP n b) 4),.int .i64 0,.int .i64 (1+cT n (fun i=>.int .i64 (z i)) (bP n (bP n b)) 5)] (.int .i64 0) (j+0))) j:=fun j hj=>by
     show((gr n _ (bP n b) j:Int):Rat)=((intOf _:Int):Rat)
     rw[zz j hj]
    simp only[eB,HO b1 b2,<-hr2,wrap_i64 (show-2^63<=0-cT n (fun i=>.int .i64 (z i)) (bP n b) 4 by omega) aa]
    refine⟨⟨hS.next,aa,aa,hS.next.next,aa,aa,aa,aa,aa,aa,fun j hj=>?_,fun j hj=>by rw[zz j hj];exact zb j,(z1 k1).congr zc⟩,⟨hS.jM,aa,aa,aa,aa⟩,fun s' hv=>?_⟩
    ·rcases(show j=0\/j=1\/j=2 by omega)with rfl|rfl|rfl<;>rfl
    ·refine ax.vt (kp:=[0]) hk (vs:=pZ p q ((N:Int)-i) r) (ps:=jr n z (qe n (fun i=>.int .i64 (z i)) b)) (nx:=1) [(0,0)] hv rfl ⟨⟨rfl,iL rfl⟩,aS,aS,⟨rfl,iV rfl ?_⟩,aS,trivial⟩ (cG trivial) key
     rw[eq];exact iH fun j hj=>dy (agz hj zc).symm aT
   ·have eB:bP n (bP n b)=jM n (fun i=>.int .i64 (z i)) b:=((if_neg k0).trans (if_neg k1)).symm
    have eq:q=(2,fun i=>if i=0 then-mu (cT n (fun i=>.int .i64 (z i)) (bP n b) 400)else 1-mu (cT n (fun i=>.int .i64 (z i)) (bP n b) 400)):=by rw[hq];exact(if_neg k0).trans (if_neg k1)
    have hb1:bV (Int.natAbs 1)=1:=by decide
    simp only[eB,HO b1 b2,<-hr2]
    refine⟨⟨hS.next,aa,aa,aa⟩,⟨aa,aa,aa,aa,by rw[hb1];omega,aa,aa⟩,⟨hS.jM,aa,aa,aa,aa⟩,fun s' hv=>?_⟩
    refine ax.vt (kp:=[0]) hk (vs:=[.ptr 0 0 2 0 [],aA p,.int .i64 ((N:Int)-i),.own 1 3 0 2,.int .i64 r]) (ps:=[(1,⟨true,true,3,2,fun j=>.rat (q.2 j) af⟩),(0,qo n z (qe n (fun i=>.int .i64 (z i)) b))]) (nx:=2) [(0,0),(1,69633)] hv rfl ⟨⟨rfl,iL rfl⟩,aS,aS,⟨rfl,eE rfl rfl rfl⟩,aS,trivial⟩ (br rfl rfl rfl (fun j hj=>?_) (cG trivial)) ?_
    ·rw[eq]
     rcases(show j=0\/j=1 by omega)with rfl|rfl
     ·exact .inr ⟨rfl,dy rfl aa⟩
     ·exact .inr ⟨rfl,dy rfl (by rw[hb1,hW];decide)⟩
    ·refine ax.dJ (t:=5) (k:=1) rfl rfl rfl rfl ?_
     refine ax.vt (kp:=[0]) hk (L:=nV) (vs:=pZ p q ((N:Int)-i) r) (ps:=jr n z (qe n (fun i=>.int .i64 (z i)) b)) (nx:=1) [(0,0)] rfl rfl ⟨⟨rfl,iL rfl⟩,aS,aS,⟨rfl,iV rfl ?_⟩,aS,trivial⟩ (cG trivial) key
     have e1:q.1=2:=by rw[eq]
     show aW (.ak 3 2 fun j=>.rat (q.2 (j+0)) af) (.ak 3 q.1 fun j=>.rat (q.2 j) af)
     rw[e1];exact iH fun j hj=>.refl _
 ·subst hi
  refine ax.lH (aG.Mu hT tG hm 60 ahP ah ?_)
  simp only[ag.all,az]
  exact⟨by unfold ki;rw[<-hN];exact .refl _,_,rfl,rfl,tA rfl (by unfold oJ;rw[<-hN])⟩
theorem Se:aY P (kj Hp) 13:=by
 refine yZ fun {k n z a l v b q o} K hg ho hd hq=>?_
 unfold Hp at hg
 split at hg
 ·simp only[ay,Prod.mk.injEq]at hg
  obtain⟨rfl,rfl,rfl⟩:=hg
  exact Va ho hd hq K
 ·simp at hg
theorem FA {n:Nat} {f:Nat->AV} {a:Int}:bZ 12 7 (kM n f a):=by
 have x1:=jI (n:=n) (f:=f) (a:=a) (m:=13) aa
 have x2:=jW (n:=n) (f:=f) (a:=a) (m:=13) aa
 unfold kM
 generalize cT n f a 13=x at*
 split
 ·have w1:=jI (n:=n) (f:=f) (a:=bP n (bP n a)) (m:=4) aa
  have w2:=jW (n:=n) (f:=f) (a:=bP n (bP n a)) (m:=4) aa
  generalize cT n f (bP n (bP n a)) 4=w at*
  rcases(show w=0\/w=1\/w=2\/w=3 by omega)with rfl|rfl|rfl|rfl
  ·refine⟨(x-6)*12,?_,aa⟩
   rw[Rat.intCast_mul,Rat.div_def,Rat.mul_assoc,show(((1+0:Int):Rat)⁻¹*((12:Int):Rat))=((12:Int):Rat) by decide+kernel]
  ·refine⟨(x-6)*6,?_,aa⟩
   rw[Rat.intCast_mul,Rat.div_def,Rat.mul_assoc,show(((1+1:Int):Rat)⁻¹*((12:Int):Rat))=((6:Int):Rat) by decide+kernel]
  ·refine⟨(x-6)*4,?_,aa⟩
   rw[Rat.intCast_mul,Rat.div_def,Rat.mul_assoc,show(((1+2:Int):Rat)⁻¹*((12:Int):Rat))=((4:Int):Rat) by decide+kernel]
  ·refine⟨(x-6)*3,?_,aa⟩
   rw[Rat.intCast_mul,Rat.div_def,Rat.mul_assoc,show(((1+3:Int):Rat)⁻¹*((12:Int):Rat))=((3:Int):Rat) by decide+kernel]
 ·exact⟨(x-6)*12,by rw[Rat.intCast_mul],aa⟩
theorem adk {n:Nat} {f:Nat->AV} {a:Int} {m:Nat}:dr m (sx n f a) 7:=⟨12,by decide,by decide,fun _ _=>FA⟩
theorem FR {n:Nat} {f:Nat->AV} {b:Int} (i:Nat):-5<=gr n f b i/\gr n f b i<=5:=by
 have u1:=jI (n:=n) (f:=f) (a:=b) (m:=4) aa
 have u2:=jW (n:=n) (f:=f) (a:=b) (m:=4) aa
 have v1:=jI (n:=n) (f:=f) (a:=bP n b) (m:=5) aa
 have v2:=jW (n:=n) (f:=f) (a:=bP n b) (m:=5) aa
 unfold gr
 split
 ·omega
 ·split<;>omega
theorem Y0 {n:Nat} {f:Nat->AV} {b:Int} {m:Nat}:dr m (fc (gr n f b)) 3:=⟨1,by decide,by decide,fun i _=>bZ.int (by have:=FR (n:=n) (f:=f) (b:=b) i;omega)⟩
theorem akp {n:Nat} {f:Nat->AV} {b:Int}:jR 3 (fc (gr n f b)):=fun i k hi hk=>(Ni Y0 hi aa).more (by have:=cF;omega)
theorem X6 {n:Nat} {f:Nat->AV} {b:Int}:dr 3 (ga 3 (fc (gr n f b))) 7:=by
 have h1:gr n f b 1=0:=rfl
 have e0:ga 3 (fc (gr n f b)) 0=((gr n f b 0:Int):Rat):=by
  show 0+bq 0 0/bq 2 0*fc (gr n f b) 0=_
  rw[show bq 0 0/bq 2 0=1 by decide+kernel];unfold fc;grind
 have e1:ga 3 (fc (gr n f b)) 1=((gr n f b 0:Int):Rat):=by
  show 0+bq 1 0/bq 2 0*fc (gr n f b) 0+bq 1 1/bq 2 1*fc (gr n f b) 1=_
  rw[show bq 1 0/bq 2 0=1 by decide+kernel,show fc (gr n f b) 1=0 from by unfold fc;rw[h1];rfl];unfold fc;grind
 have e2:ga 3 (fc (gr n f b)) 2=((gr n f b 0+gr n f b 2:Int):Rat):=by
  show 0+bq 2 0/bq 2 0*fc (gr n f b) 0+bq 2 1/bq 2 1*fc (gr n f b) 1+bq 2 2/bq 2 2*fc (gr n f b) 2=_
  rw[show bq 2 0/bq 2 0=1 by decide+kernel,show bq 2 2/bq 2 2=1 by decide+kernel,show fc (gr n f b) 1=0 from by unfold fc;rw[h1];rfl,Rat.intCast_add];unfold fc;grind
 have z0:=FR (n:=n) (f:=f) (b:=b) 0
 have z2:=FR (n:=n) (f:=f) (b:=b) 2
 refine⟨1,by decide,by decide,fun i hi=>?_⟩
 rcases(show i=0\/i=1\/i=2 by omega)with rfl|rfl|rfl
 ·rw[e0];exact bZ.int aa
 ·rw[e1];exact bZ.int aa
 ·rw[e2];exact bZ.int aa
theorem aaQ {d:Int}:1<=jh d/\jh d<=12/\0<=d%(jh d+1)/\d%(jh d+1)<=jh d:=by
 have h1:0<=i64.wrap (d.tdiv 17)%12:=Int.emod_nonneg _ aa
 have h2:i64.wrap (d.tdiv 17)%12<12:=Int.emod_lt_of_pos _ aa
 have hM:jh d=1+i64.wrap (d.tdiv 17)%12:=rfl
 have h3:0<=d%(jh d+1):=Int.emod_nonneg _ aa
 have h4:d%(jh d+1)<jh d+1:=Int.emod_lt_of_pos _ aa
 omega
theorem af5 {d:Int}:dr 2 (fun i=>if i=0 then-mu d else 1-mu d) 7:=by
 obtain⟨p1,p2,p3,p4⟩:=aaQ (d:=d)
 have hne:((jh d:Int):Rat)≠0:=qw aa
 have e:mu d*((jh d:Int):Rat)=((d%(jh d+1):Int):Rat):=by
  unfold mu
  rw[Rat.div_def,Rat.mul_assoc,Rat.mul_comm _ ((jh d:Int):Rat),Rat.mul_inv_cancel _ hne,Rat.mul_one]
 refine⟨jh d,aa,aa,fun i hi=>?_⟩
 rcases(show i=0\/i=1 by omega)with rfl|rfl
 ·refine⟨-(d%(jh d+1)),?_,aa⟩
  show _=-mu d*_
  rw[Rat.intCast_neg,Rat.neg_mul,e]
 ·refine⟨jh d-d%(jh d+1),?_,aa⟩
  show _=(1-mu d)*_
  rw[Rat.intCast_sub,Rat.sub_eq_add_neg,Rat.sub_eq_add_neg,Rat.add_mul,Rat.one_mul,Rat.neg_mul,e]
theorem Ap {n:Nat} {f:Nat->AV} {a:Int}:rE (sB n f a):=by
 unfold sB
 split
 ·have u1:=jI (n:=n) (f:=f) (a:=bP n a) (m:=2+1) aa
  have u2:=jW (n:=n) (f:=f) (a:=bP n a) (m:=2+1) aa
  exact⟨Nat.succ_pos _,by show(cT n f (bP n a) (2+1)).toNat+1<=3;omega,adk⟩
 ·split
  ·exact⟨by show 1<=3;omega,aT,X6⟩
  ·exact⟨by show 1<=2;omega,by show 2<=3;omega,af5⟩
theorem D6 {n:Nat} {f:Nat->AV} {a:Int}:1<=qN n f a/\qN n f a<=2:=by
 have u1:=jI (n:=n) (f:=f) (a:=jM n f a) (m:=3) aa
 have u2:=jW (n:=n) (f:=f) (a:=jM n f a) (m:=3) aa
 unfold qN
 omega
theorem zD {n:Nat} {f:Nat->AV} {a:Int}:∀i,i<=3->pP i (fl n f a i).1
 |0,_=>pP.one
 |i+1,h=>(zD i aa).step Ap aa D6
theorem FC {n:Nat} {f:Nat->AV} {a:Int}:pH n f a<=3:=by
 have u1:=jI (n:=n) (f:=f) (a:=a) (m:=4) aa
 have u2:=jW (n:=n) (f:=f) (a:=a) (m:=4) aa
 unfold pH;omega
theorem Zb {p q:PP} {s:Nat} (hp:1<=p.1) (lp:p.1<=11) (hb:Bd p s) (hs:s<=1400) (hq:rE q):Lv p q:=by
 have hW:=cF
 have h1:=hq.lo
 have h2:=hq.hi
 have hb2:dr (p.1-1+1) p.2 s:=by rw[show p.1-1+1=p.1 by omega];exact hb
 have hb3:dr (q.1-1+1) q.2 7:=by rw[show q.1-1+1=q.1 by omega];exact hq.bd
 have h5:p.1-1+(q.1-1)<=12:=aa
 have h6:(p.1-1+(q.1-1)+1)*(p.1-1+(q.1-1))<=13*12:=Nat.mul_le_mul aa h5
 exact⟨hp,h1,aa,fun i j k hi hj hk=>(ZU aa hb2 hb3 hi hj).more aa,fun k hk=>((Nl aa hb2 hb3).sz hk).more aa⟩
theorem afa {n:Nat} {f:Nat->AV} {a:Int}:CQ n f a:=fun i hi=>by
 have hN:=FC (n:=n) (f:=f) (a:=a)
 refine⟨fun _=>akp,fun j hj=>?_⟩
 have h:=zD (n:=n) (f:=f) (a:=a) i aa
 have hr:=D6 (n:=n) (f:=f) (a:=(fl n f a i).2)
 have h1:=h.hi
 have hl:=AD h.lo (Ap (n:=n) (f:=f) (a:=(fl n f a i).2)) j
 exact Zb hl.1 aa (Ga h.lo Ap h.bd j aa) aa Ap
structure oe (p:PP):Prop where
 lo:1<=p.1
 hi:p.1<=13
 bd:Bd p 1200
 gd:jP (aF p)
theorem QT {n:Nat} {f:Nat->AV} {a:Int}:oe (ki n f a):=by
 have hN:=FC (n:=n) (f:=f) (a:=a)
 have h:=zD (n:=n) (f:=f) (a:=a) (pH n f a) hN
 have h1:=h.hi
 exact⟨h.lo,Nat.le_trans h1 aa,Bd.more h.bd aa,h.gd hN⟩
theorem oe.of {p:PP} (h:oe p):kD p:=by
 have hW:=cF
 have h1:=h.hi
 refine⟨h.lo,aa,fun k i hi=>?_,lF (FP h.bd) aa⟩
 obtain⟨D,d1,d2,d3⟩:=h.bd
 exact((B5 d3 k i hi).sz d1 d2).more aa
theorem oe.pos {p:PP} (_h:oe p) (h0:(aF p).1≠0):0<(aF p).1:=Nat.pos_of_ne_zero h0
theorem oe.cnt {p:PP} (h:oe p) {a b:Rat} {A B:Int} (ha:bZ A 63 a) (hA:A.natAbs<=2^63) (hA0:A≠0) (hb:bZ B 63 b) (hB:B.natAbs<=2^63) (hB0:B≠0):Bs p a b/\R8 p a b:=by
 refine⟨⟨h.of,fun h0=>?_⟩,⟨h.of,fun h0=>?_⟩⟩
 ·have hp:=h.pos h0
  have hl:=DD h.gd hp
  exact⟨(Bp h.gd hp).1,aa,v8 h.gd hp ha hA hA0 aa,v8 h.gd hp hb hB hB0 aa⟩
 ·have hp:=h.pos h0
  have hl:=DD h.gd hp
  exact⟨(Bp h.gd hp).2,aa,v8 h.gd hp ha hA hA0 aa,v8 h.gd hp hb hB hB0 aa⟩
def BN:bk:=[sG,(156,EE)]
theorem agc:bR P BN:=BT (aJ O4 cz)
theorem Kn.congr {n p:Nat} {k k':Nat->Rat} (h:Kn n p k) (e:∀i,i<n->k i=k' i):Kn n p k':=by
 have hp:=h.p1
 have hl:=h.len
 refine⟨h.p1,h.len,fun i hi=>?_,fun i hi=>?_,fun i h1 h2=>?_,fun i h1 h2=>?_⟩
 ·rw[<-e i aa,<-e (i+1) hi];exact h.sorted i hi
 ·rw[<-e i aa,<-e 0 aa];exact h.first i hi
 ·rw[<-e i h2,<-e (n-1) aa];exact h.last i h1 h2
 ·rw[<-e i aa,<-e (i+p) aa];exact h.mult i h1 h2
def zA (i:Nat):Int:=if i=1 then 1 else if i=2 then-4 else if i=3 then 4 else 0
def pA:PP:=(4,ga 4 (fc zA))
def yo (i:Nat):Int:=if i=0 then-2 else if i=2 then 1 else 0
def pB:PP:=(3,ga 3 (fc yo))
def Nd:Spec:=cu fun l=>match l with
 |[.mag 0]=>some (aL (.str [48]) [])
 |[.mag 1]=>some (aL (.str [49]) [])
 |_=>none
def B3:bk:=[sG,(113,Nd)]
def NV (q:Rat):List UInt8:=if q=0 then [48]else [49]
def J4:Spec:=cu fun l=>match l with
 |[.rat q _]=>some (aL (.str (NV q)) [q=0\/q=1])
 |_=>none
def Ju:Spec:=dD (kC (kL af) (kC (eU af) (kC (eU af) kN))) (fun a=>.tuple [.int .i64 (uK a.1 a.2.1 a.2.2.1),.int .i64 (pG a.1 a.2.1 a.2.2.1)]) fun a=>[Bs a.1 a.2.1 a.2.2.1]
def Ok:Spec:=cu fun l=>match l with
 |[.ak 1 4 f]=>some (aL (aA pA) [f 0=.int .i64 0,f 1=.int .i64 1,f 2=.int .i64 (-4),f 3=.int .i64 4])
 |[.ak 1 3 f]=>some (aL (aA pB) [f 0=.int .i64 (-2),f 1=.int .i64 0,f 2=.int .i64 1])
 |_=>none
def MV:bk:=nG::(55,Ok)::(18,Lk 1)::(16,Ju)::(56,J4)::gN
theorem ahZ:bf 12 f12:=bg func12
theorem ahO:b9 T BN [] 60 f113 (aH f113) ⟨aU 0 [.mag 0],[],0⟩=
  some (leaf ret [str [(48:UInt8)]]):=ah
theorem agY:b9 T BN [] 60 f113 (aH f113) ⟨aU 0 [.mag 1],[],0⟩=
  let c1:Int:=(↑(1:Nat):Int);some (aj [nl 1<2^40,(0:Int)<1000000000,(1000000000:Int)<2^32] (aj [(10:Int)≠(0:Int),(0:Nat)<1/\1*((1:Nat)+1)*2<=2^47] (aj [(10:Int)≠(0:Int)] (aj [(0:Int)<=c1/\c1<=c1/\c1<=2^47/\c1*c1<=2^47] (leaf ret [str [UInt8.ofNat (u8.wrap (u32.wrap ((48:Int)+(↑((1:Nat)%Int.toNat (1000000000:Int)):Int).tmod (10:Int)))).toNat]]))))):=ah
theorem UY:b9 T B3 [] 60 f56 (aH f56) ⟨aU 0 [.agg [.bool false,.mag 0,.mag 0]],[],0⟩=
  some (leaf ret [str [(48:UInt8)]]):=ah
theorem ac3:b9 T B3 [] 60 f56 (aH f56) ⟨aU 0 [.agg [.bool false,.mag 1,.mag 0]],[],0⟩=
  some (leaf ret [str [(49:UInt8)]]):=ah
theorem ag2:b9 T MV [100021,100025,100029,100034,100041,100048,100057] 200 f12 (aH f12) ⟨aU 0 [],[],0⟩=
  let c14:Rat:=eI 0 1;let c13:Rat:=(↑(2:Int):Rat);let c12:Rat:=eJ 0 1;let c11:AV:=int i64 1;let c9:Int:=(-2:Int);let c8:Int:=(2:Int)^63;let c7:Nat:=bK (fG 4 fun i=>aM (rat (ga 4 (fc zA) i) af)) 4;let c5:Nat×(Nat->Rat):=((3:Nat),fun i=>aM (rat (ga 3 (fc yo) i) af));let c3:AV:=int i64 0;let c1:Nat×(Nat->Rat):=((4:Nat),fun i=>aM (rat (ga 4 (fc zA) i) af));let c10:Nat:=(iG 1 c1).length;let c6:List AV:=[int i64 c9,c3,c11];let c2:List AV:=[c3,c11,int i64 (-4:Int),int i64 4];let c4:Prop:=(0:Int)<=1/\Int.toNat (1:Int)<c10;some (aj [(4:Nat)*1<=2^24,nth c2 c3 ((0:Nat)+0)=c3,nth c2 c3 ((1:Nat)+0)=c11,nth c2 c3 ((2:Nat)+0)=int i64 (-4:Int),nth c2 c3 ((3:Nat)+0)=int i64 4,cP (fun i=>rat (ga 4 (fc zA) i) af) 4 af,CA 1 c1] (aj [(3:Nat)*1<=2^24,nth c6 c3 ((0:Nat)+0)=int i64 c9,nth c6 c3 ((1:Nat)+0)=c3,nth c6 c3 ((2:Nat)+0)=c11,-c8<=c9,c9<c8,-c8<=2,(2:Int)<c8,cP (fun i=>rat (ga 3 (fc yo) i) af) 3 af,Max.max 1 (bV c9.natAbs)<=af,Max.max 1 (bV (Int.natAbs (2:Int)))<=af,Bs c5 (↑c9:Rat) c13] (aj [((if c7=0 then(3:Int)else(0:Int))==0)=true,(bif true then pG c5 (↑c9:Rat) c13==0 else false)=true,(bif true then uK c5 (↑c9:Rat) c13==2 else false)=true,(bif true then(↑c10:Int)==2 else false)=true,(0:Int)<=0/\Int.toNat (0:Int)<c10,(bif true then(↑(qL 1 c1 (Int.toNat (0:Int))):Int)==1 else false)=true,c4,(bif true then(↑(qL 1 c1 (Int.toNat (1:Int))):Int)==2 else false)=true,c4,c12=0\/c12=1,(bif true then NV c12==[(48:UInt8)]else false)=true,c4,c14=0\/c14=1] (leaf ret [AV.bool true])))):=ah
theorem Xj:aY P Nd 113:=by
 refine cW fun K args r hk hs _=>?_
 have fin:∀{N:Nat} {t:ag (List AV)} {l:List UInt8},b9 T BN [] 60 f113 (aH f113) ⟨aU 0 [.mag N],[],0⟩=some t->(t.all fun _ us=>gx us (.str l))->aQ P 113 K [.mag N] [] (aL (.str l) []):=fun h1 h2=>
  ck (r:=aL _ []) hT agc hm aaO rfl aX rfl 60 h1 (fun _=>h2) K []
 split at hs<;>simp only[ay,reduceCtorEq]at hs
 all_goals subst hs
 ·exact fin ahO (.refl _)
 ·exact fin agY (by simp only[ag.all,az];exact⟨by decide,by decide,by decide,by decide,.refl _⟩)
theorem Ve:bR P B3:=BT (aJ Xj cz)
theorem ajh:aY P J4 56:=by
 refine cW fun K args r hk hs _=>?_
 have fin:∀{q:Rat} {n a b:Nat} {t:ag (List AV)} {l:List UInt8},kids (.rat q n)=[.bool false,.mag a,.mag b]->b9 T B3 [] 60 f56 (aH f56) ⟨aU 0 [.agg [.bool false,.mag a,.mag b]],[],0⟩=some t->(t.all fun _ us=>gx us (.str l))->aQ P 56 K [.rat q n] [] (aL (.str l) []):=fun h0 h1 h2=>
  gW (ck (r:=aL _ []) hT Ve hm We rfl aX rfl 60 h1 (fun _=>h2) K []) rfl (show ir [_] [_]from⟨by rw[<-h0];exact Jo,trivial⟩) []
 split at hs
 ·rename_i q n
  simp only[ay]at hs
  subst hs
  intro need
  have need:q=0\/q=1:=need
  rcases need with rfl|rfl
  ·exact fin (l:=[48]) ah UY (.refl _) trivial
  ·exact fin (l:=[49]) ah ac3 (.refl _) trivial
 ·simp at hs
theorem aaH:aY P Ju 16:=cO fun⟨_,_,_,_⟩ K hn=>ab7 hn K
theorem OE {n s:Nat} {c:Nat->Rat} (h:dr n c s):dr n (ga n c) (s+n*n+2*n):=by
 obtain⟨D,d1,d2,d3⟩:=h
 have h2:=BD (N:=n-1) (n-1+1)
 rcases Nat.eq_zero_or_pos n with h0|h0
 ·exact⟨1,by decide,Nat.one_le_two_pow,fun i hi=>aa⟩
 have h3:(n-1+1)*(n-1)<=n*n:=Nat.mul_le_mul aa aa
 have h4:=mW d2 (show((jz (n-1) (n-1+1):Nat):Int).natAbs<=2^((n-1+1)*(n-1)) by rw[Int.natAbs_natCast];exact Az _)
 exact⟨_,Int.mul_ne_zero d1 aa,Nat.le_trans h4 (Nat.pow_le_pow_right (by decide) aa),fun i hi=>(Fj d3 hi (i+1) aa).more aa⟩
theorem Qi {c:PP} (t:Trim c) (hl:c.1<=7) (hb:Bd c 156):jP c:=⟨t,aa,hb,ic,c,⟨fun t=>by rw[jn,Rat.one_mul],⟨bC c,fun t=>by rw[jn,Rat.one_mul]⟩⟩,Nat.le_trans lN hl⟩
theorem OW {p:PP} (h1:1<=p.1) (h2:p.1<=7) (hb:Bd p 100):oe p:=
 ⟨h1,aa,hb.more aa,Qi mU (Nat.le_trans fN h2) (dr.short ((FP hb).more aa) fN)⟩
theorem Kc:dr 4 (fc zA) 3:=⟨1,by decide,by decide,fun i hi=>bZ.int (by
 rcases(show i=0\/i=1\/i=2\/i=3 by omega)with rfl|rfl|rfl|rfl<;>decide)⟩
theorem IN:dr 3 (fc yo) 3:=⟨1,by decide,by decide,fun i hi=>bZ.int (by
 rcases(show i=0\/i=1\/i=2 by omega)with rfl|rfl|rfl<;>decide)⟩
theorem Fw:oe pA:=OW (by show 1<=4;omega) (by show 4<=7;omega) (dr.more (n:=4) (OE Kc) (by decide))
theorem ah3:oe pB:=OW (by show 1<=3;omega) (by show 3<=7;omega) (dr.more (n:=3) (OE IN) (by decide))
theorem M7 {n s:Nat} {c:Nat->Rat} (h:dr n c s) (hs:2*(s+n*n+2*n)+2<=af):jR n c:=fun i k hi hk=>(Ni h hi aa).more hs
theorem Wh:aY P Ok 55:=by
 have hW:=cF
 refine cW fun K args r hk hs _=>?_
 split at hs
 ·rename_i f
  simp only[ay]at hs
  subst hs
  intro need
  obtain⟨n0,n1,n2,n3⟩:=need
  refine gW (EN (z:=zA) aa aa (fun i hi=>?_) (M7 Kc aa) K) hk ⟨wg rfl fun i hi=>?_,trivial⟩ [] trivial
  ·rcases(show i=0\/i=1\/i=2\/i=3 by omega)with rfl|rfl|rfl|rfl<;>decide
  ·rcases(show i=0\/i=1\/i=2\/i=3 by omega)with rfl|rfl|rfl|rfl
   ·exact n0
   ·exact n1
   ·exact n2
   ·exact n3
 ·rename_i f
  simp only[ay]at hs
  subst hs
  intro need
  obtain⟨n0,n1,n2⟩:=need
  refine gW (EN (z:=yo) aa aa (fun i hi=>?_) (M7 IN aa) K) hk ⟨wg rfl fun i hi=>?_,trivial⟩ [] trivial
  ·rcases(show i=0\/i=1\/i=2 by omega)with rfl|rfl|rfl<;>decide
  ·rcases(show i=0\/i=1\/i=2 by omega)with rfl|rfl|rfl
   ·exact n0
   ·exact n1
   ·exact n2
 ·simp at hs
theorem Wx {τ:Nat}:bZ 1 τ 0:=.zero
theorem af2 {τ:Nat}:bZ 1 τ 1:=⟨1,by decide+kernel,Nat.one_le_two_pow⟩
theorem yJ {c:PP} (h:jP c) (h0:0<c.1):cq (bA c) (bh c) 0:=v8 h h0 (τ:=1) Wx (by decide) (by decide) aa
theorem HE {c:PP} (h:jP c) (h0:0<c.1):cq (bA c) (bh c) 1:=v8 h h0 (τ:=1) af2 (by decide) (by decide) aa
theorem Ly {c:PP} (h:jP c) (h0:0<c.1):Ht c:=⟨(CS h h0).1.2.2.1,((CS h h0).1.2.2.2 aa).1⟩
theorem ahv:CA 1 pA:=by
 refine⟨Fw.of,fun h0=>?_⟩
 have hp:=Fw.pos h0
 have hg:=Fw.gd
 have hl:iG 1 pA=[(0,0),(0,1)]:=by decide+kernel
 have hb:dG (bA (aF pA)) (bh (aF pA)) 0 1=1:=by decide+kernel
 have hs:=DD hg hp
 refine⟨(Bp hg hp).1,aa,yJ hg hp,HE hg hp,⟨yJ hg hp,HE hg hp,fun _ h1=>absurd hb h1⟩,by rw[hl];decide,Ly hg hp,fun j hj=>?_⟩
 have h1:∀j,(fX (aF pA) (j+1)).1<=1:=by
  intro j
  induction j with
  |zero=>decide+kernel
  |succ j ih=>exact Nat.le_trans (CH (vk mU _)) ih
 cases j with
 |succ j=>exact absurd (h1 j) aa
 |zero=>
  have hgd:jP (fX (aF pA) 0):=Qi (vk mU 0) (by decide+kernel) ⟨2,by decide,by decide,fun i hi=>by
   have hi:i<2:=Nat.lt_of_lt_of_le hi (by decide+kernel)
   rcases(show i=0\/i=1 by omega)with rfl|rfl
   ·exact⟨-1,by decide+kernel,by decide⟩
   ·exact⟨2,by decide+kernel,by decide⟩⟩
  have hp2:0<(fX (aF pA) 0).1:=aa
  have hs2:=DD hgd hp2
  refine⟨Ly hgd hp2,(Bp hgd hp2).1,aa,fun i hi=>?_⟩
  rw[hl]at hi ⊢
  have hi:i<2:=hi
  rcases(show i=0\/i=1 by omega)with rfl|rfl
  ·exact⟨yJ hgd hp2,yJ hgd hp2⟩
  ·exact⟨yJ hgd hp2,HE hgd hp2⟩
theorem afS:bR P MV:=gi (aJ Wh (aJ (Ym 1) (aJ aaH (aJ ajh gM))))
theorem ahU (K:Nat):aQ P 12 K [] [] (aL (.bool true) []):=by
 have hW:=cF
 refine ck (r:=aL (.bool true) []) hT afS hm ahZ rfl aX rfl 200 ag2 (fun _=>?_) K []
 simp only[ag.all,az]
 refine⟨⟨aa,rfl,rfl,rfl,rfl,ek aT,ahv⟩,⟨aa,rfl,rfl,rfl,aa,aa,aa,aa,ek aT,by rw[hW];decide,by rw[hW];decide,?_⟩,⟨by decide+kernel,by decide+kernel,by decide+kernel,by decide+kernel,by decide+kernel,by decide+kernel,by decide+kernel,by decide+kernel,by decide+kernel,by decide+kernel,by decide+kernel,by decide+kernel,by decide+kernel⟩,.refl _⟩
 exact(ah3.cnt (A:=1) (B:=1) ⟨-2,by decide+kernel,by decide⟩ (by decide) (by decide) ⟨2,by decide+kernel,by decide⟩ (by decide) (by decide)).1
def Qj:Spec:=cu fun l=>match l with
 |[]=>some (aL (.bool true) [])
 |_=>none
theorem abX:aY P Qj 12:=by
 refine cW fun K args r hk hs _=>?_
 split at hs
 ·simp only[ay]at hs
  subst hs
  exact ahU K
 ·simp at hs
end Go.Am.B
namespace Go.Am
def Bz (g a b:PP):Prop:=∃u v:PP,∀t,aK g t=aK u t*aK a t+aK v t*aK b t
def sy:PP:=(0,fun _=>0)
theorem By {t:Rat}:aK sy t=0:=rfl
theorem Bz.left (a b:PP):Bz a a b:=⟨ic,sy,fun t=>by rw[jn,By];grind⟩
theorem Bz.right (a b:PP):Bz b a b:=⟨sy,ic,fun t=>by rw[jn,By];grind⟩
theorem Bz.rem {x y a b:PP} (hx:Bz x a b) (hy:Bz y a b) (h0:0<y.1):Bz (dx x y) a b:=by
 obtain⟨u,v,h1⟩:=hx
 obtain⟨w,z,h2⟩:=hy
 refine⟨jE u (iA (-1) (cB (fF x y) w)),jE v (iA (-1) (cB (fF x y) z)),fun t=>?_⟩
 have h3:=vY (a:=x) (d:=y) h0 t
 rw[kz,kz,gT,gT,cS,cS]
 rw[h1,h2]at h3
 grind
theorem Bz.sC {x y a b:PP} (hx:Bz x a b) {r:Rat} (e:∀t,aK y t=r*aK x t):Bz y a b:=by
 obtain⟨u,v,h1⟩:=hx
 exact⟨iA r u,iA r v,fun t=>by rw[e,gT,gT,h1];grind⟩
theorem Q4 {a b:PP}:∀j,Bz (bT (a,b) j).1 a b/\Bz (bT (a,b) j).2 a b
 |0=>⟨.left a b,.right a b⟩
 |j+1=>by
  obtain⟨i1,i2⟩:=Q4 (a:=a) (b:=b) j
  show Bz (fL _).1 a b/\Bz (fL _).2 a b
  unfold fL
  by_cases h0:(bT (a,b) j).2.1=0
  ·rw[if_pos h0];exact⟨i1,i2⟩
  ·rw[if_neg h0];exact⟨i2,(i1.rem i2 (by omega)).sC fun _=>yQ⟩
theorem K1 (a b:PP):Bz (bW a b) a b:=(Q4 (a:=a) (b:=b) _).1.sC fun _=>yQ
def kr (a b:PP):Prop:=∃u v:PP,∀t,aK u t*aK a t+aK v t*aK b t=1
theorem kr.symm {a b:PP} (h:kr a b):kr b a:=by
 obtain⟨u,v,h⟩:=h
 exact⟨v,u,fun t=>by rw[Rat.add_comm];exact h t⟩
theorem kr.dv {a b c w:PP} (h:kr a b) (hd:∀t,aK b t*aK c t=aK a t*aK w t):Dv a c:=by
 obtain⟨u,v,h⟩:=h
 refine⟨jE (cB c u) (cB v w),fun t=>?_⟩
 have h1:=h t
 have h2:=hd t
 rw[kz,cS,cS]
 grind
theorem kr.BO {a b d:PP} (h:kr a b) (hd:Dv d a):kr d b:=by
 obtain⟨u,v,h⟩:=h
 obtain⟨w,hw⟩:=hd
 exact⟨cB u w,v,fun t=>by rw[cS,<-h t,hw];grind⟩
theorem tK {a:PP} (ha:Trim a) (h:∀t,aK a t=0):a.1=0:=by
 have h1:=x5 (b:=sy) ha (sO fun t=>by rw[h];rfl)
 exact Nat.le_zero.1 h1
theorem PS {g d:PP} (h0:0<g.1) (tg:Trim g) (h:∀t,aK g t*aK d t=0) (t:Rat):aK d t=0:=by
 rw[<-fj]
 rcases Nat.eq_zero_or_pos (cA d).1 with h1|h1
 ·exact jU h1 t
 ·have h2:=M0 h0 h1 tg gk
  refine absurd ?_ h2
  rw[sO (b:=sy) fun t=>by rw[cS,fj,h];rfl];rfl
theorem CU {g a b:PP} (h0:0<g.1) (tg:Trim g) (h:∀t,aK g t*aK a t=aK g t*aK b t) (t:Rat):aK a t=aK b t:=by
 have h1:=PS (d:=jE a (iA (-1) b)) h0 tg (fun t=>by rw[kz,gT];have:=h t;grind) t
 rw[kz,gT]at h1;grind
theorem PU {a b:PP} (ta:Trim a) (tb:Trim b) (h0:0<a.1):∃a1 b1:PP,(∀t,aK a t=aK (bW a b) t*aK a1 t)/\(∀t,aK b t=aK (bW a b) t*aK b1 t)/\kr a1 b1:=by
 obtain⟨⟨a1,h1⟩,⟨b1,h2⟩⟩:=An ta tb
 obtain⟨u,v,h3⟩:=K1 a b
 refine⟨a1,b1,h1,h2,u,v,fun t=>?_⟩
 have:=CU (g:=bW a b) (a:=jE (cB u a1) (cB v b1)) (b:=ic) (nF h0) (kH ta tb) (fun t=>by
  rw[kz,cS,cS,jn,Rat.mul_one]
  have e1:=h1 t
  have e2:=h2 t
  have e3:=h3 t
  generalize aK (bW a b) t=G at*
  rw[e1,e2]at e3
  grind) t
 rw[kz,cS,cS,jn]at this
 exact this
theorem OL {c:PP} (tc:Trim c) (h0:0<c.1):∃(f e:PP) (l:Rat),l≠0/\(∀t,aK c t=aK (bW c (bC c)) t*aK f t)/\(∀t,eM c t=aK (bW c (bC c)) t*aK e t)/\kr f e/\∀t,aK (bQ c) t=l*aK f t:=by
 obtain⟨f,e,h1,h2,h3⟩:=PU tc dZ h0
 have hg:=nF (b:=bC c) h0
 have tg:=kH tc (dZ (a:=c))
 have hr:∀t,aK (dx c (bW c (bC c))) t=0:=fun t=>by
  have h4:=oM (a:=c) hg tg
  have h5:=(An tc (dZ (a:=c))).1.rem hg (Dv.refl _)
  rcases Nat.eq_zero_or_pos (dx c (bW c (bC c))).1 with h6|h6
  ·exact jU h6 t
  ·have:=h5.len h6 qq tg;omega
 have hq:∀t,aK (fF c (bW c (bC c))) t=aK f t:=CU hg tg fun t=>by
  have:=vY (a:=c) hg t
  rw[hr,Rat.add_zero]at this
  rw[<-h1,this,Rat.mul_comm]
 have tq:Trim (fF c (bW c (bC c))):=yl
 have hq0:0<(fF c (bW c (bC c))).1:=by
  rcases Nat.eq_zero_or_pos (fF c (bW c (bC c))).1 with h6|h6
  ·have:=tK tc fun t=>by rw[h1,<-hq,jU h6,Rat.mul_zero]
   omega
  ·exact h6
 refine⟨f,e,_,?_,h1,fun t=>by rw[<-jS];exact h2 t,h3,fun t=>by
  unfold bQ
  rw[if_neg (by omega),yQ,hq]⟩
 rcases tq with h|h
 ·omega
 ·intro hi
  have:((fF c (bW c (bC c))).2 ((fF c (bW c (bC c))).1-1))⁻¹⁻¹=0:=by rw[hi,Rat.inv_zero]
  rw[Rat.inv_inv]at this
  exact h this
def iJ (d:PP):Nat->PP
 |0=>ic
 |k+1=>cB d (iJ d k)
theorem qT {d:PP} {t:Rat}:∀k,aK (iJ d k) t=aK d t^k
 |0=>by rw[Rat.pow_zero];exact jn
 |k+1=>by rw[iJ,cS,qT k,Rat.pow_succ,Rat.mul_comm]
theorem abK {t:Rat}:eM ic t=0:=by
 show 0+1*(((0:Nat):Int)*t^(0-1):Rat)=0
 rw[show(((0:Nat):Int):Rat)=0 from rfl];grind
theorem IA {d:PP} {t:Rat}:∀k:Nat,aK d t*eM (iJ d k) t=((k:Int):Rat)*(eM d t*aK d t^k)
 |0=>by rw[iJ,abK,show(((0:Nat):Int):Rat)=0 from rfl];grind
 |k+1=>by
  have h1:=IA (d:=d) (t:=t) k
  have h2:=nu (a:=d) (b:=iJ d k) (c:=iJ d (k+1)) (fun t=>cS) t
  rw[h2,qT,Rat.pow_succ,show(((k+1:Nat):Int):Rat)=((k:Int):Rat)+1 by rw[Int.natCast_add,Rat.intCast_add];rfl]
  generalize eM (iJ d k) t=x at*
  generalize aK d t^k=y at*
  generalize ((k:Int):Rat)=K at*
  grind
theorem Fk {d:PP} (h0:0<d.1) (td:Trim d):∀k,(cA (iJ d k)).1=k*(d.1-1)+1
 |0=>by
  show bK (fun _=>(1:Rat)) 1=_
  rw[pS (.inr (by decide))];omega
 |k+1=>by
  have ih:=Fk h0 td k
  have hp:0<(cA (iJ d (k+1))).1:=by
   rcases Nat.eq_zero_or_pos (cA (iJ d (k+1))).1 with h|h
   ·have h1:∀t,aK (cA (iJ d k)) t=0:=PS h0 td fun t=>by
     rw[fj,<-cS,show aK (cB d (iJ d k)) t=aK (cA (iJ d (k+1))) t from(fj t).symm,jU h]
    have:=tK gk h1
    omega
   ·exact h
  have:=(qZ (a:=d) (b:=cA (iJ d k)) (c:=cA (iJ d (k+1))) (fun t=>by rw[fj,fj];exact cS) hp gk td gk).2.2
  rw[Nat.add_mul];omega
theorem LG {g d:PP} (hg:0<g.1) (tg:Trim g) (td:Trim d) (h1:1<d.1) (h:∀k:Nat,∃m:PP,∀t,aK g t=aK d t^k*aK m t):False:=by
 obtain⟨m,hm⟩:=h g.1
 have hd:Dv (cA (iJ d g.1)) g:=⟨m,fun t=>by rw[hm,fj,qT]⟩
 have:=hd.len hg tg gk
 rw[Fk (by omega) td]at this
 have:=Nat.le_mul_of_pos_right g.1 (show 0<d.1-1 by omega)
 omega
theorem Jz {d a b:PP} (h0:0<d.1) (td:Trim d) (k:Nat) (h:∀t,aK d t^k*aK a t=aK d t^k*aK b t) (t:Rat):aK a t=aK b t:=
 CU (g:=cA (iJ d k)) (by rw[Fk h0 td];omega) gk (fun t=>by rw[fj,qT];exact h t) t
theorem zx {a:PP} (h0:0<a.1) (ta:Trim a):(dI a).2 (a.1-1)=1:=by
 show a.2 (a.1-1)/a.2 (a.1-1)=1
 have:a.2 (a.1-1)≠0:=by rcases ta with h|h;omega;exact h
 rw[Rat.div_def,Rat.mul_inv_cancel _ this]
theorem gcd_one {a b:PP} (ta:Trim a) (tb:Trim b) (h0:0<a.1) (h1:(bW a b).1=1) (t:Rat):aK (bW a b) t=1:=by
 have h2:=zx (a:=(bT (a,b) b.1).1) (xB (s:=(a,b)) h0 _) (mI (s:=(a,b)) ta tb _).1
 have h3:(bT (a,b) b.1).1.1=1:=h1
 rw[h3]at h2
 show ev (bW a b).1 (bW a b).2 t=1
 rw[h1]
 show 0+(bW a b).2 0*t^0=1
 rw[show(bW a b).2 0=1 from h2,Rat.pow_zero];grind
theorem A6 {c:PP} (tc:Trim c) (h0:0<c.1):0<(bQ c).1:=by
 obtain⟨f,e,l,hl,h1,h2,h3,h4⟩:=OL tc h0
 rcases Nat.eq_zero_or_pos (bQ c).1 with h|h
 ·have:=tK tc fun t=>by
   have h5:=h4 t
   rw[jU h]at h5
   rcases Rat.mul_eq_zero.1 h5.symm with h7|h7
   ·exact absurd h7 hl
   ·rw[h1,h7,Rat.mul_zero]
  omega
 ·exact h
theorem AR {c:PP} (tc:Trim c) (h0:0<c.1):∃G e:PP,0<G.1/\Trim G/\(∀t,aK c t=aK G t*aK (bQ c) t)/\(∀t,eM c t=aK G t*aK e t)/\kr (bQ c) e/\(∀t,aK G t=0->aK (bW c (bC c)) t=0)/\∀t,aK (bW c (bC c)) t=0->aK G t=0:=by
 obtain⟨f,e,l,hl,h1,h2,⟨u,v,h3⟩,h4⟩:=OL tc h0
 have hl2:l⁻¹*l=1:=Rat.inv_mul_cancel _ hl
 have hli:l⁻¹≠0:=fun h=>by rw[h,Rat.zero_mul]at hl2;exact absurd hl2 (by decide)
 refine⟨iA l⁻¹ (bW c (bC c)),iA l e,nF h0,yH (kH tc dZ) hli,fun t=>?_,fun t=>?_,⟨iA l⁻¹ u,iA l⁻¹ v,fun t=>?_⟩,fun t h=>?_,fun t h=>?_⟩
 ·rw[gT,h4,h1];grind
 ·rw[gT,gT,h2];grind
 ·have:=h3 t
  rw[gT,gT,gT,h4];grind
 ·rw[gT]at h
  rcases Rat.mul_eq_zero.1 h with h|h
  ·exact absurd h hli
  ·exact h
 ·rw[gT,h,Rat.mul_zero]
theorem Up {c:PP} (tc:Trim c) (h0:0<c.1):kr (bQ c) (bC (bQ c)):=by
 obtain⟨g,e,hg,tg,h1,h2,h3,_⟩:=AR tc h0
 have tF:Trim (bQ c):=mM
 have hF:=A6 tc h0
 generalize bQ c=F at*
 have td:Trim (bW F (bC F)):=kH tF dZ
 have hd0:0<(bW F (bC F)).1:=nF hF
 obtain⟨⟨f1,e1⟩,⟨f2,e2⟩⟩:=An tF (dZ (a:=F))
 rcases Nat.lt_or_ge 1 (bW F (bC F)).1 with hd1|hd1
 ·have hcop:=h3.BO (d:=bW F (bC F)) ⟨f1,e1⟩
  generalize bW F (bC F)=d at*
  refine(LG hg tg td hd1 fun k=>?_).elim
  induction k with
  |zero=>exact⟨g,fun t=>by rw[Rat.pow_zero,Rat.one_mul]⟩
  |succ k ih=>
   obtain⟨m,hm⟩:=ih
   have k1:∀t,eM c t=eM g t*aK F t+aK g t*eM F t:=fun t=>nu h1 t
   have k2:∀t,eM g t=eM (iJ d k) t*aK m t+aK (iJ d k) t*eM m t:=fun t=>nu (fun t=>by rw[hm,qT]) t
   have k3:∀t,eM F t=eM d t*aK f1 t+aK d t*eM f1 t:=fun t=>nu e1 t
   have key:=Jz hd0 td k (a:=cB e m) (b:=cB d (jE (iA ((k:Int):Rat) (cB m (jE f2 (iA (-1) (bC f1))))) (jE (cB (bC m) f1) (cB m f2)))) fun t=>by
    rw[cS,cS,kz,gT,cS,kz,gT,kz,cS,cS,jS,jS]
    have a1:=k1 t
    have a2:=k2 t
    have a3:=k3 t
    have a4:=IA (d:=d) (t:=t) k
    have a5:=h2 t
    have a6:=hm t
    have a8:=e1 t
    have a9:=e2 t
    rw[jS]at a9
    rw[qT]at a2
    generalize eM (iJ d k) t=P at*
    generalize aK d t^k=D at*
    generalize ((k:Int):Rat)=K at*
    generalize aK d t=dd at*
    generalize eM d t=d' at*
    generalize aK f1 t=x1 at*
    generalize eM f1 t=y1 at*
    generalize aK f2 t=x2 at*
    generalize aK m t=mm at*
    generalize eM m t=m' at*
    generalize aK e t=ee at*
    rw[a5,a6,a2,a9,a8]at a1
    have s2:d'*x1=dd*x2-dd*y1:=by rw[a9]at a3;grind
    calc D*(ee*mm)=D*mm*ee:=by grind
     _=mm*x1*(dd*P)+D*dd*(m'*x1+mm*x2):=by rw[a1];grind
     _=mm*x1*(K*(d'*D))+D*dd*(m'*x1+mm*x2):=by rw[a4]
     _=K*mm*D*(d'*x1)+D*dd*(m'*x1+mm*x2):=by grind
     _=K*mm*D*(dd*x2-dd*y1)+D*dd*(m'*x1+mm*x2):=by rw[s2]
     _=_:=by grind
   obtain⟨w,hw⟩:=hcop.dv (c:=m) (w:=jE (iA ((k:Int):Rat) (cB m (jE f2 (iA (-1) (bC f1))))) (jE (cB (bC m) f1) (cB m f2))) fun t=>by rw[<-cS,key t,cS]
   exact⟨w,fun t=>by rw[hm,hw,Rat.pow_succ];grind⟩
 ·obtain⟨u,v,h5⟩:=K1 F (bC F)
  exact⟨u,v,fun t=>by rw[<-h5,gcd_one tF dZ hF (by omega)]⟩
def mo (x:Rat):PP:=(2,fun i=>if i=0 then-x else 1)
theorem B1 {x t:Rat}:aK (mo x) t=t-x:=by
 show 0+(if(0:Nat)=0 then-x else 1)*t^0+(if(1:Nat)=0 then-x else 1)*t^1=_
 rw[if_pos rfl,if_neg (by decide),Rat.pow_zero,Rat.pow_succ,Rat.pow_zero];grind
theorem Jc {x t:Rat}:eM (mo x) t=1:=by
 show 0+(if(0:Nat)=0 then-x else 1)*(((0:Nat):Int)*t^(0-1):Rat)+(if(1:Nat)=0 then-x else 1)*(((1:Nat):Int)*t^(1-1):Rat)=1
 rw[if_pos rfl,if_neg (by decide),show(((0:Nat):Int):Rat)=0 from rfl,show(((1:Nat):Int):Rat)=1 from rfl,show 1-1=0 from rfl,Rat.pow_zero];grind
theorem MU {x:Rat}:Trim (mo x):=.inr (by show(if(1:Nat)=0 then-x else(1:Rat))≠0;rw[if_neg (by decide)];decide)
theorem acq {m:PP} {x:Rat} (h:aK m x=0):Dv (mo x) m:=by
 rcases Nat.eq_zero_or_pos m.1 with h0|h0
 ·exact⟨sy,fun t=>by rw[jU h0,By,Rat.mul_zero]⟩
 ·obtain⟨n,hn⟩:∃n,m.1=n+1:=⟨m.1-1,by omega⟩
  refine⟨(n,jL (n+1) m.2 x),fun t=>?_⟩
  have h1:=wo (k:=m.2) (c:=x) (t:=t) n
  have h2:ev (n+1) m.2 x=0:=by rw[<-hn];exact h
  rw[B1]
  show ev m.1 m.2 t=_
  rw[hn,h1,h2,Rat.add_zero];rfl
theorem WR {c:PP} (tc:Trim c) (h0:0<c.1) {x:Rat} (hx:aK c x=0):aK (bQ c) x=0:=by
 obtain⟨g,e,hg,tg,h1,h2,h3,_⟩:=AR tc h0
 generalize bQ c=F at*
 refine Decidable.byContradiction fun hF=>?_
 refine LG hg tg (MU (x:=x)) (show 1<2 by decide) fun k=>?_
 induction k with
 |zero=>exact⟨g,fun t=>by rw[Rat.pow_zero,Rat.one_mul]⟩
 |succ k ih=>
  obtain⟨m,hm⟩:=ih
  have hmx:aK m x=0:=by
   rcases Nat.eq_zero_or_pos k with hk|hk
   ·subst hk
    have:=hm x
    rw[Rat.pow_zero,Rat.one_mul]at this
    rw[h1,this]at hx
    rcases Rat.mul_eq_zero.1 hx with h|h
    ·exact h
    ·exact absurd h hF
   ·have k1:∀t,eM c t=eM g t*aK F t+aK g t*eM F t:=fun t=>nu h1 t
    have k2:∀t,eM g t=eM (iJ (mo x) k) t*aK m t+aK (iJ (mo x) k) t*eM m t:=fun t=>nu (fun t=>by rw[hm,qT]) t
    have key:=Jz (show 0<2 by decide) (MU (x:=x)) k (a:=iA ((k:Int):Rat) (cB m F)) (b:=cB (mo x) (jE (cB e m) (iA (-1) (jE (cB (bC m) F) (cB m (bC F)))))) fun t=>by
     rw[gT,cS,cS,kz,cS,gT,kz,cS,cS,jS,jS]
     have a1:=k1 t
     have a2:=k2 t
     have a4:=IA (d:=mo x) (t:=t) k
     have a5:=h2 t
     have a6:=hm t
     rw[qT]at a2
     rw[Jc]at a4
     generalize eM (iJ (mo x) k) t=P at*
     generalize aK (mo x) t^k=D at*
     generalize ((k:Int):Rat)=K at*
     generalize aK (mo x) t=dd at*
     generalize aK F t=ff at*
     generalize eM F t=f' at*
     generalize aK m t=mm at*
     generalize eM m t=m' at*
     generalize aK e t=ee at*
     rw[a5,a6,a2]at a1
     calc D*(K*(mm*ff))=mm*ff*(K*(1*D)):=by grind
      _=mm*ff*(dd*P):=by rw[a4]
      _=dd*(P*mm*ff):=by grind
      _=dd*(D*mm*ee-D*m'*ff-D*mm*f'):=by rw[a1];grind
      _=_:=by grind
    have h5:=key x
    rw[cS,B1,show x-x=0 by grind,Rat.zero_mul,gT,cS]at h5
    rcases Rat.mul_eq_zero.1 h5 with h|h
    ·have:((k:Int):Rat)=((0:Nat):Int):=h
     have:=JQ this
     omega
    ·rcases Rat.mul_eq_zero.1 h with h|h
     ·exact h
     ·exact absurd h hF
  obtain⟨w,hw⟩:=acq hmx
  exact⟨w,fun t=>by rw[hm,hw,Rat.pow_succ];grind⟩
end Go.Am
