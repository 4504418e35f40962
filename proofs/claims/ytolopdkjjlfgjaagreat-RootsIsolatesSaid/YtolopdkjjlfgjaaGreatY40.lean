/- How long the numbers of Euclid's and Sturm's sequences are. -/
import Derived.Test.YtolopdkjjlfgjaaGreatY39
import Derived.Test.YtolopdkjjlfgjaaGreatY37
import Derived.Test.YtolopdkjjlfgjaaGreatY38
import Derived.Test.YtolopdkjjlfgjaaGreatZ2
import Derived.Test.YtolopdkjjlfgjaaGreatB33
set_option linter.unusedVariables false
noncomputable section
namespace Go.Am
open Go
theorem HJ:∀δ:Nat,1<=δ->δ+2<=3^δ
 |1,_=>by decide
 |δ+2,_=>by
  have:=HJ (δ+1) aa
  rw[Nat.pow_succ];omega
theorem Cw (n:Nat):0<3^n:=Nat.pow_pos (by decide)
theorem yF {m n:Nat} (h:m<=n):3^m<=3^n:=Nat.pow_le_pow_right (by decide) h
theorem Bd.more {a:PP} {s t:Nat} (h:Bd a s) (ht:s<=t):Bd a t:=dn.more h ht
theorem Ph {B W M l l':Nat} (hB:B+1<=W*3^(M-l)) (hl:l'<l) (hM:l<=M):B+(l-(l'-1))*(B+1)+1<=W*3^(M-l')\/l'=0:=by
 rcases Nat.eq_zero_or_pos l' with h|h
 ·exact .inr h
 left
 have h1:l-(l'-1)=l-l'+1:=aa
 have h2:=HJ (l-l') aa
 have h3:M-l'=M-l+(l-l'):=aa
 rw[h1,h3,Nat.pow_add,<-Nat.mul_assoc]
 have h4:(B+1)*(l-l'+2)<=W*3^(M-l)*3^(l-l'):=Nat.mul_le_mul hB h2
 have h5:(B+1)*(l-l'+2)=B+(l-l'+1)*(B+1)+1:=by
  rw[Nat.mul_comm,show l-l'+2=l-l'+1+1 by omega,Nat.add_mul (l-l'+1)];omega
 omega
theorem acg {u M l l':Nat} (hl:l<=M) (hl':l'<=M) (h0:0<l'):u+(l-(l'-1))*(u+1)+1<=2*(u+1)*3^(M-l'):=by
 have h1:(l-(l'-1))<=l-l'+1:=aa
 have h2:l-l'+2<=2*3^(l-l'):=by
  rcases Nat.eq_zero_or_pos (l-l')with h|h
  ·rw[h];decide
  ·have:=HJ (l-l') h
   have:=Cw (l-l');omega
 have h3:3^(l-l')<=3^(M-l'):=yF aa
 have h4:(u+1)*(l-l'+2)<=(u+1)*(2*3^(M-l')):=Nat.mul_le_mul_left _ aa
 have h5:(u+1)*(l-l'+2)=u+(l-l'+1)*(u+1)+1:=by
  rw[Nat.mul_comm,show l-l'+2=l-l'+1+1 by omega,Nat.add_mul (l-l'+1)];omega
 have h6:(l-(l'-1))*(u+1)<=(l-l'+1)*(u+1):=Nat.mul_le_mul_right _ h1
 have h7:(u+1)*(2*3^(M-l'))=2*(u+1)*3^(M-l'):=by rw[<-Nat.mul_assoc,Nat.mul_comm (u+1) 2]
 omega
theorem Ht {a b:PP} {u M:Nat} (ta:Trim a) (tb:Trim b) (la:a.1<=M) (lb:b.1<=M) (ha:Bd a u) (hb:Bd b u):∀j,∃B,B+1<=2*(u+1)*3^(M-(bQ (a,b) j).1.1)/\Bd (bQ (a,b) j).1 B/\Bd (bQ (a,b) j).2 B/\(bQ (a,b) j).1.1<=M/\(bQ (a,b) j).2.1<=M/\((bQ (a,b) j).2.1<(bQ (a,b) j).1.1\/j=0/\B=u\/(bQ (a,b) j).2.1=0)
 |0=>by
  have:=Cw (M-a.1)
  refine⟨u,?_,ha,hb,la,lb,.inr (.inl ⟨rfl,rfl⟩)⟩
  show u+1<=2*(u+1)*3^(M-a.1)
  have:=Nat.mul_le_mul_left (2*(u+1)) this
  omega
 |j+1=>by
  obtain⟨B,h1,h2,h3,h4,h5,h6⟩:=Ht ta tb la lb ha hb j
  have ht:=lW (s:=(a,b)) ta tb j
  show∃B,B+1<=2*(u+1)*3^(M-(fL (bQ (a,b) j)).1.1)/\Bd (fL (bQ (a,b) j)).1 B/\Bd (fL (bQ (a,b) j)).2 B/\(fL (bQ (a,b) j)).1.1<=M/\(fL (bQ (a,b) j)).2.1<=M/\((fL (bQ (a,b) j)).2.1<(fL (bQ (a,b) j)).1.1\/j+1=0/\B=u\/(fL (bQ (a,b) j)).2.1=0)
  generalize bQ (a,b) j=s at*
  unfold fL
  by_cases h0:s.2.1=0
  ·rw[if_pos h0];exact⟨B,h1,h2,h3,h4,h5,.inr (.inr h0)⟩
  ·rw[if_neg h0]
   have hr:=nY (a:=s.1) (d:=s.2) aa ht.2
   have hb:=(Bd.rem h2 h3 aa ht.2).1.cM rD
   refine⟨B+(s.1.1-(s.2.1-1))*(B+1),?_,h3.more (Nat.le_add_right _ _),hb,h5,?_,.inl hr⟩
   ·rcases h6 with h6|⟨_,rfl⟩|h6
    ·exact(Ph h1 h6 h4).resolve_right h0
    ·exact acg h4 h5 aa
    ·exact absurd h6 h0
   ·show(dj s.1 s.2).1<=M;omega
theorem MD {a b:PP} {u M:Nat} (ta:Trim a) (tb:Trim b) (la:a.1<=M) (lb:b.1<=M) (ha:Bd a u) (hb:Bd b u):∃B,B+1<=2*(u+1)*3^(M-(bR a b).1)/\Bd (bR a b) B:=by
 obtain⟨B,h1,h2,_⟩:=Ht ta tb la lb ha hb b.1
 exact⟨B,h1,h2.cM (lW (s:=(a,b)) ta tb _).1⟩
theorem Gc {a b:PP} {u M:Nat} (ta:Trim a) (tb:Trim b) (la:a.1<=M) (lb:b.1<a.1) (ha:Bd a u) (hb:Bd b u):∀j,j<=eV (a,b)->∃B,B+1<=2*(u+1)*3^(M-(bJ (a,b) j).1.1)/\Bd (bJ (a,b) j).1 B/\Bd (bJ (a,b) j).2 B/\(bJ (a,b) j).1.1<=M/\(bJ (a,b) j).2.1<(bJ (a,b) j).1.1
 |0,_=>by
  have:=Cw (M-a.1)
  refine⟨u,?_,ha,hb,la,lb⟩
  show u+1<=2*(u+1)*3^(M-a.1)
  have:=Nat.mul_le_mul_left (2*(u+1)) this
  omega
 |j+1,hj=>by
  obtain⟨B,h1,h2,h3,h4,h5⟩:=Gc ta tb la lb ha hb j aa
  have ht:=ot (s:=(a,b)) ta tb j
  have h0:=(mY (s:=(a,b)) ta tb).2.2 j aa
  show∃B,B+1<=2*(u+1)*3^(M-(tv (bJ (a,b) j)).1.1)/\Bd (tv (bJ (a,b) j)).1 B/\Bd (tv (bJ (a,b) j)).2 B/\(tv (bJ (a,b) j)).1.1<=M/\(tv (bJ (a,b) j)).2.1<(tv (bJ (a,b) j)).1.1
  generalize bJ (a,b) j=s at*
  have hr:=nY (a:=s.1) (d:=s.2) aa ht.2
  refine⟨B+(s.1.1-(s.2.1-1))*(B+1),(Ph h1 h5 h4).resolve_right h0,h3.more (Nat.le_add_right _ _),(Bd.rem h2 h3 aa ht.2).1.neg,?_,hr⟩
  show s.2.1<=M;omega
theorem acX {a d:PP} {B M:Nat} (ha:Bd a B) (hd:Bd d B) (h0:0<d.1) (td:Trim d) (hM:a.1-(d.1-1)<=M):
  (∀j,j<=a.1-(d.1-1)->∀i,i<a.1->Sz (ck (d.1-1) d.2 a.2 (a.1-(d.1-1)) j i) (2*((M+1)*(B+1))+2))/\∀k,k<a.1-(d.1-1)->Sz (dG (d.1-1) d.2 a.2 (a.1-(d.1-1)) k) (2*((M+1)*(B+1))+2):=by
 obtain⟨_,_,h1,h2⟩:=ha.rem hd h0 td
 have:B+(a.1-(d.1-1))*(B+1)<=(M+1)*(B+1):=by
  have:=Nat.mul_le_mul_right (B+1) hM
  rw[Nat.add_mul];omega
 exact⟨fun j hj i hi=>(h1 j hj i hi).more aa,fun k hk=>(h2 k hk).more aa⟩
theorem cj.sum {D:Int} {s b:Nat} {f:Nat->Rat} {n:Nat} (hn:n<=2^b) (h:∀i,i<n->cj D s (f i)):cj D (s+b) (sg f n):=by
 have key:∀m,m<=n->∃z:Int,(z:Rat)=sg f m*(D:Rat)/\z.natAbs<=m*2^s:=by
  intro m
  induction m with
  |zero=>exact fun _=>⟨0,by show _=0*_;rw[Rat.zero_mul];rfl,Nat.zero_le _⟩
  |succ m ih=>
   intro hm
   obtain⟨z,z1,z2⟩:=ih aa
   obtain⟨w,w1,w2⟩:=h m aa
   refine⟨z+w,?_,?_⟩
   ·show _=(sg f m+f m)*_
    rw[Rat.intCast_add,z1,w1];grind
   ·have:=Int.natAbs_add_le z w
    rw[Nat.add_mul,Nat.one_mul];omega
 obtain⟨z,z1,z2⟩:=key n aT
 refine⟨z,z1,Nat.le_trans z2 ?_⟩
 rw[Nat.pow_add,Nat.mul_comm]
 exact Nat.mul_le_mul_left _ hn
theorem cj.ite {D:Int} {s:Nat} {x:Rat} {p:Prop} [Decidable p] (h:cj D s x):cj D s (if p then x else 0):=by
 split
 ·exact h
 ·exact .zero
theorem Ki {m n s t:Nat} {D E:Int} {U V:Nat->Rat} (hm:m+1<=64) (hn:n+1<=64) (hU:∀i,cj D s (U i)) (hV:∀j,cj E t (V j)) {i j k:Nat} (hi:i<=m+1) (hj:j<=n+1):
  cj (D*E) (s+t+13) (sg (fun i=>sg (fun j=>if i+j=k then U i*V j else 0) (n+1)) i+sg (fun j=>if i+j=k then U i*V j else 0) j):=by
 have h1:∀i,∀j,j<=n+1->cj (D*E) (s+t+6) (sg (fun j=>if i+j=k then U i*V j else 0) j):=fun i j hj=>cj.sum aa fun j _=>((hU i).mul (hV j)).ite
 have h2:cj (D*E) (s+t+6+6) (sg (fun i=>sg (fun j=>if i+j=k then U i*V j else 0) (n+1)) i):=cj.sum aa fun i _=>h1 i _ aT
 exact h2.add ((h1 i j hj).more aa)
theorem Nb {m n s t:Nat} {D E:Int} {U V:Nat->Rat} (hm:m+1<=64) (hn:n+1<=64) (hU:∀i,cj D s (U i)) (hV:∀j,cj E t (V j)) (k:Nat):cj (D*E) (s+t+13) (jZ m n U V k):=by
 have:=Ki hm hn hU hV (k:=k) (Nat.le_refl (m+1)) (Nat.zero_le (n+1))
 unfold jZ
 rw[show sg (fun j=>if m+1+j=k then U (m+1)*V j else 0) 0=0 from rfl,Rat.add_zero]at this
 exact this
def jz (N:Nat):Nat->Nat
 |0=>1
 |k+1=>jz N k*(if k<=N then bn N k else 1)
theorem A4 {N:Nat}:∀k,0<jz N k
 |0=>Nat.one_pos
 |k+1=>by
  unfold jz
  refine Nat.mul_pos (A4 k) ?_
  split
  ·rename_i h;exact AX h
  ·exact Nat.one_pos
theorem zC {N:Nat}:∀k,jz N k<=2^(k*N)
 |0=>by rw[Nat.zero_mul];exact Nat.le_refl _
 |k+1=>by
  unfold jz
  rw[Nat.add_mul,Nat.one_mul,Nat.pow_add]
  refine Nat.mul_le_mul (zC k) ?_
  split
  ·exact rL N k
  ·exact Nat.one_le_two_pow
theorem Kk {N i:Nat} (hi:i<=N):∀k,i<k->∃w,jz N k=bn N i*w/\w<=jz N k
 |0,h=>absurd h (Nat.not_lt_zero _)
 |k+1,h=>by
  rcases Nat.eq_or_lt_of_le (Nat.le_of_lt_succ h)with h1|h1
  ·subst h1
   refine⟨jz N i,?_,?_⟩
   ·show jz N i*(if i<=N then bn N i else 1)=_
    rw[if_pos hi,Nat.mul_comm]
   ·show _<=jz N i*(if i<=N then bn N i else 1)
    rw[if_pos hi]
    exact Nat.le_mul_of_pos_right _ (AX hi)
  ·obtain⟨w,w1,w2⟩:=Kk hi k h1
   refine⟨w*(if k<=N then bn N k else 1),?_,?_⟩
   ·show jz N k*_=_
    rw[w1,Nat.mul_assoc]
   ·show _<=jz N k*_
    exact Nat.mul_le_mul_right _ w2
theorem cj.L4 {D:Int} {s N i:Nat} {x:Rat} (h:cj D s x) (hi:i<=N):cj (D*(jz N (N+1):Nat)) (s+(N+1)*N) (x/bq N i):=by
 obtain⟨z,z1,z2⟩:=h
 obtain⟨w,w1,w2⟩:=Kk hi (N+1) aa
 refine⟨z*(w:Int),?_,?_⟩
 ·have hb:=NR hi
  rw[w1,Rat.intCast_mul,z1,Rat.intCast_mul,Int.natCast_mul,Rat.intCast_mul,Rat.div_def]
  have:bq N i*(bq N i)⁻¹=1:=Rat.mul_inv_cancel _ hb
  show x*(D:Rat)*((w:Int):Rat)=x*(bq N i)⁻¹*((D:Rat)*(bq N i*((w:Int):Rat)))
  generalize (bq N i)⁻¹=v at*
  generalize bq N i=g at*
  generalize ((w:Int):Rat)=y
  have h4:x*v*((D:Rat)*(g*y))=x*(D:Rat)*y*(g*v):=by grind
  rw[h4,this,Rat.mul_one]
 ·rw[Int.natAbs_mul,Nat.pow_add,Int.natAbs_natCast]
  exact Nat.mul_le_mul z2 (Nat.le_trans w2 (zC _))
theorem BW {D:Int} {m s:Nat} {p:Nat->Rat} (h:∀i,i<m+1->cj D s (p i)) (i:Nat):cj D (s+m) (bq m i*p i):=by
 by_cases hi:i<m+1
 ·have:=(h i hi).yX (e:=m) (n:=(bn m i:Nat)) (by rw[Int.natAbs_natCast];exact rL m i)
  exact this.more aa
 ·rw[Ga aa,Rat.zero_mul];exact .zero
theorem Lb {m n s t:Nat} {p q:Nat->Rat} (hm:m+n<=40) (hp:dn (m+1) p s) (hq:dn (n+1) q t):dn (m+n+1) (j7 m n p q) (s+t+(m+n)+13+(m+n+1)*(m+n)):=by
 obtain⟨D,d1,d2,d3⟩:=hp
 obtain⟨E,e1,e2,e3⟩:=hq
 refine⟨D*E*(jz (m+n) (m+n+1):Nat),?_,?_,fun k hk=>?_⟩
 ·have:=A4 (N:=m+n) (m+n+1)
  exact Int.mul_ne_zero (Int.mul_ne_zero d1 e1) aa
 ·have h1:=mI (mI d2 e2) (show((jz (m+n) (m+n+1):Nat):Int).natAbs<=2^((m+n+1)*(m+n)) by rw[Int.natAbs_natCast];exact zC _)
  exact Nat.le_trans h1 (Nat.pow_le_pow_right (by decide) aa)
 ·unfold j7
  exact((Nb aa aa (BW d3) (BW e3) k).L4 aa).more aa
theorem acn {m n s t:Nat} {p q:Nat->Rat} (hm:m+n<=40) (hp:dn (m+1) p s) (hq:dn (n+1) q t) {i j k:Nat} (hi:i<=m+1) (hj:j<=n+1):
  Sz (sg (fun i=>sg (fun j=>if i+j=k then bq m i*p i*(bq n j*q j)else 0) (n+1)) i+sg (fun j=>if i+j=k then bq m i*p i*(bq n j*q j)else 0) j) (2*(s+t+(m+n)+13)+2):=by
 obtain⟨D,d1,d2,d3⟩:=hp
 obtain⟨E,e1,e2,e3⟩:=hq
 have:=Ki (k:=k) aa aa (BW d3) (BW e3) hi hj
 exact(this.sz (Int.mul_ne_zero d1 e1) (Nat.le_trans (mI d2 e2) aT)).more aa
theorem Bv {D:Int} {s n:Nat} {p:Nat->Rat} (h:∀i,i<n->cj D s (p i)):∀k i,k+i<n->cj D (s+k) (fU p k i)
 |0,i,hi=>h i aa
 |k+1,i,hi=>by
  obtain⟨z,z1,z2⟩:=Bv h k (i+1) aa
  obtain⟨w,w1,w2⟩:=Bv h k i aa
  refine⟨z-w,?_,?_⟩
  ·show _=(fU p k (i+1)-fU p k i)*_
   rw[Rat.intCast_sub,z1,w1];grind
  ·have:=Int.natAbs_sub_le z w
   rw[show s+(k+1)=s+k+1 by omega,Nat.pow_succ];omega
theorem E8 {n s:Nat} {p:Nat->Rat} (h:dn n p s):dn n (gk n p) (s+2*n):=by
 obtain⟨D,d1,d2,d3⟩:=h
 refine⟨D,d1,Nat.le_trans d2 (Nat.pow_le_pow_right (by decide) aa),fun k hk=>?_⟩
 unfold gk
 have:=(Bv d3 k 0 aa).yX (e:=n-1) (n:=(bn (n-1) k:Nat)) (by rw[Int.natAbs_natCast];exact rL _ k)
 exact this.more aa
theorem Bd.cf {a:PP} {s:Nat} (h:Bd a s):∃D:Int,D≠0/\D.natAbs<=2^s/\∀i,cj D s (ep a i):=by
 obtain⟨D,d1,d2,d3⟩:=h
 refine⟨D,d1,d2,fun i=>?_⟩
 unfold ep
 split
 ·rename_i hi;exact d3 i hi
 ·exact .zero
theorem vC {a b:PP} {s t:Nat} (ha:Bd a s) (hb:Bd b t) (la:a.1<=60) (lb:b.1<=60):Bd (bZ a b) (s+t+13):=by
 obtain⟨D,d1,d2,d3⟩:=ha.cf
 obtain⟨E,e1,e2,e3⟩:=hb.cf
 exact⟨D*E,Int.mul_ne_zero d1 e1,Nat.le_trans (mI d2 e2) (Nat.pow_le_pow_right (by decide) aa),fun k _=>Nb aa aa d3 e3 k⟩
theorem Ax {a b:PP}:(ct (bZ a b)).1=0\/(ct (bZ a b)).1+1<=(ct a).1+(ct b).1:=by
 rcases Nat.eq_zero_or_pos (ct (bZ a b)).1 with h|h
 ·exact .inl h
 ·right
  have:=qx (c:=ct (bZ a b)) (a:=ct a) (b:=ct b) (fun t=>by rw[eu,eu,eu,cr]) h fO fO fO
  omega
theorem k9 {a:PP}:(ct a).1<=a.1:=fE
theorem jC.of_eq {c d h f:PP} (s:jC c h f) (e:∀t,aC c t=aC d t):jC d h f:=
 ⟨fun t=>by rw[<-e,s.eq],s.dv.of_eq fun t=>by rw[gM,gM,Ln e]⟩
def qB (p q:PP):PP:=(p.1-1+(q.1-1)+1,j7 (p.1-1) (q.1-1) p.2 q.2)
def gY (p q:PP):Nat->PP
 |0=>p
 |j+1=>qB (gY p q j) q
def gE (q:PP):PP:=(q.1,gk q.1 q.2)
def iY (p:PP) (t:Rat):Rat:=cs (p.1-1) p.2 t
theorem lN {q:PP} (h:1<=q.1) (t:Rat):aC (gE q) t=iY q t:=by
 obtain⟨n,k⟩:=q
 obtain⟨m,rfl⟩:∃m,n=m+1:=⟨n-1,by have h:1<=n:=h;omega⟩
 exact ahG
theorem vj {p q:PP} (t:Rat):iY (qB p q) t=iY p t*iY q t:=by
 unfold iY qB
 rw[Nat.add_sub_cancel]
 exact aeC
structure qY (q:PP):Prop where
 lo:1<=q.1
 hi:q.1<=3
 bd:Bd q 7
theorem qY.pw {q:PP} (h:qY q):Bd (gE q) 13:=by
 have h1:dn q.1 (gk q.1 q.2) (7+2*q.1):=E8 h.bd
 exact h1.more (by have:=h.hi;omega)
structure oZ (i:Nat) (p:PP):Prop where
 lo:1<=p.1
 hi:p.1<=4*i+1
 bd:Bd p (400*i)
 pw:∃c h f:PP,(∀t,aC c t=iY p t)/\Bd c (52*i)/\c.1<=8*i+1/\jC c h f/\(ct f).1<=2*i+1
theorem oZ.one:oZ 0 (1,fun _=>1) where
 lo:=aT
 hi:=aT
 bd:=⟨1,by decide,aT,fun i _=>⟨1,(Rat.one_mul _).symm,aT⟩⟩
 pw:=⟨gW,gW,gW,fun t=>by rw[jm];rfl,⟨1,by decide,aT,fun i _=>⟨1,(Rat.one_mul _).symm,aT⟩⟩,aT,jC.one,k9⟩
theorem Ah {p q:PP} (hp:1<=p.1) (hq:qY q):∀j,1<=(gY p q j).1/\(gY p q j).1<=p.1+2*j
 |0=>⟨hp,aT⟩
 |j+1=>by
  have:=Ah hp hq j
  have h2:=hq.hi
  show 1<=(gY p q j).1-1+(q.1-1)+1/\(gY p q j).1-1+(q.1-1)+1<=_
  omega
theorem F4 {p q:PP} {s:Nat} (hp:1<=p.1) (hq:qY q) (hb:Bd p s):∀j,p.1+2*j<=13->Bd (gY p q j) (s+200*j)
 |0,_=>hb
 |j+1,h=>by
  have ih:=F4 hp hq hb j aa
  have hl:=Ah hp hq j
  have h1:=hq.lo
  have h2:=hq.hi
  have hb2:dn ((gY p q j).1-1+1) (gY p q j).2 (s+200*j):=by rw[show(gY p q j).1-1+1=(gY p q j).1 by omega];exact ih
  have hb3:dn (q.1-1+1) q.2 7:=by rw[show q.1-1+1=q.1 by omega];exact hq.bd
  have:=Lb aa hb2 hb3
  refine dn.more this ?_
  have h5:(gY p q j).1-1+(q.1-1)<=12:=aa
  have h6:((gY p q j).1-1+(q.1-1)+1)*((gY p q j).1-1+(q.1-1))<=13*12:=Nat.mul_le_mul aa h5
  omega
theorem oZ.step {i r:Nat} {p q:PP} (h:oZ i p) (hq:qY q) (hi:i<=2) (hr:1<=r/\r<=2):oZ (i+1) (gY p q r):=by
 have hl:=Ah h.lo hq r
 have h1:=h.hi
 obtain⟨c,hh,f,c1,c2,c3,c4,c5⟩:=h.pw
 have hq1:=hq.lo
 have hq2:=hq.hi
 have hcq:(gE q).1=q.1:=rfl
 have hcu:(ct (gE q)).1<=3:=Nat.le_trans k9 hq2
 have hf:(ct (bZ f (gE q))).1<=2*(i+1)+1:=by
  rcases Ax (a:=f) (b:=gE q)with h0|h0<;>omega
 have e1:∀t,aC (bZ c (gE q)) t=aC c t*aC (gE q) t:=fun t=>cr
 have l1:(bZ c (gE q)).1=c.1+q.1+1:=rfl
 have b1:=vC c2 hq.pw aa aa
 refine⟨hl.1,aa,(F4 h.lo hq h.bd r aa).more aa,?_⟩
 rcases(show r=1\/r=2 by omega)with rfl|rfl
 ·refine⟨bZ c (gE q),hh,bZ f (gE q),fun t=>?_,b1.more aa,aa,c4.Dw e1,hf⟩
  show _=iY (qB p q) t
  rw[vj,e1,c1,lN hq1]
 ·have b2:=vC b1 hq.pw aa aa
  have l2:(bZ (bZ c (gE q)) (gE q)).1=(bZ c (gE q)).1+q.1+1:=rfl
  refine⟨bZ (bZ c (gE q)) (gE q),bZ hh (gE q),bZ f (gE q),fun t=>?_,b2.more aa,aa,c4.P9 fun t=>by rw[cr,e1],hf⟩
  show _=iY (qB (qB p q) q) t
  rw[vj,vj,cr,e1,c1,lN hq1]
structure jN (c:PP):Prop where
 tr:Trim c
 len:c.1<=13
 bd:Bd c 156
 sq:∃h f:PP,jC c h f/\(ct f).1<=7
theorem oZ.gd {i:Nat} {p:PP} (h:oZ i p) (hi:i<=3):jN (bH (gk p.1 p.2) p.1,gk p.1 p.2):=by
 obtain⟨c,hh,f,c1,c2,c3,c4,c5⟩:=h.pw
 have h1:=h.hi
 have e:∀t,aC (ct c) t=aC (bH (gk p.1 p.2) p.1,gk p.1 p.2) t:=fun t=>by
  rw[eu,c1,<-lN h.lo]
  exact vI.symm
 have hb:Bd (ct c) (52*i):=dn.short c2 k9
 refine⟨mu,?_,(hb.Cb (B2 fO mu e)).more aa,hh,f,c4.of_eq fun t=>by rw[<-e,eu],aa⟩
 have:bH (gk p.1 p.2) p.1<=p.1:=fE
 show bH _ _<=13
 omega
theorem HB {n s:Nat} {c:Nat->Rat} {D:Int} (h:∀i,i<n->cj D s (c i)) {i:Nat} (hi:i<n):∀k,k<=n->cj (D*(jz (n-1) (n-1+1):Nat)) (s+(n-1+1)*(n-1)+n+k) (kA n c i k)
 |0,_=>.zero
 |k+1,hk=>by
  have ih:=HB h hi k aa
  have h1:=((h k aa).L4 (N:=n-1) (i:=k) aa).yX (e:=n) (n:=(bn i k:Nat)) (by rw[Int.natAbs_natCast];exact Nat.le_trans (rL i k) (Nat.pow_le_pow_right (by decide) aa))
  have h2:=ih.add (h1.more (t:=s+(n-1+1)*(n-1)+n+k) aa)
  have e:kA n c i (k+1)=kA n c i k+((bn i k:Nat):Int)*(c k/bq (n-1) k):=by
   show kA n c i k+((bn i k:Int):Rat)/bq (n-1) k*c k=_
   rw[Rat.div_def,Rat.div_def];grind
  rw[e];exact h2
theorem M5 {n s:Nat} {c:Nat->Rat} (hb:dn n c s) {i k:Nat} (hi:i<n) (hk:k<=n):Sz (kA n c i k) (2*(s+n*n+2*n)+2):=by
 obtain⟨D,d1,d2,d3⟩:=hb
 have h1:=HB d3 hi k hk
 have h2:=A4 (N:=n-1) (n-1+1)
 have h3:(n-1+1)*(n-1)<=n*n:=Nat.mul_le_mul aa aa
 have h4:=mI d2 (show((jz (n-1) (n-1+1):Nat):Int).natAbs<=2^((n-1+1)*(n-1)) by rw[Int.natAbs_natCast];exact zC _)
 exact(h1.sz (Int.mul_ne_zero d1 aa) h4).more aa
end Go.Am
namespace Go.Am.B
open Go Go.Am.N AV af aq IntKind Proofs.Tryz
theorem kT {n s:Nat} {k:Nat->Rat} (h:dn n k s) (hs:2*s+2<=ag):cN n k:=fun i hi=>(h.sz hi).more hs
theorem yB {a d:PP} {B M:Nat} (ha:Bd a B) (hd:Bd d B) (h0:0<d.1) (td:Trim d) (hM:a.1-(d.1-1)<=M) (hB:2*((M+1)*(B+1))+2<=ag):mw a d:=by
 obtain⟨h1,h2⟩:=acX ha hd h0 td hM
 exact⟨fun j hj i hi=>(h1 j hj i hi).more hB,fun k hk=>(h2 k hk).more hB⟩
theorem Az {a d:PP} {B M:Nat} (ha:Bd a B) (hd:Bd d B) (h0:0<d.1) (td:Trim d) (hM:a.1-(d.1-1)<=M):Bd (dj a d) ((M+1)*(B+1))/\Bd (fA a d) ((M+1)*(B+1)):=by
 obtain⟨h1,h2,_⟩:=ha.rem hd h0 td
 have:B+(a.1-(d.1-1))*(B+1)<=(M+1)*(B+1):=by
  have:=Nat.mul_le_mul_right (B+1) hM
  rw[Nat.add_mul];omega
 exact⟨h1.more this,h2.more this⟩
theorem BR {a b:PP} {u M:Nat} (ta:Trim a) (tb:Trim b) (la:a.1<=M) (lb:b.1<=M) (h1M:1<=M) (ha:Bd a u) (hb:Bd b u) (hX:2*((M+1)*(2*(u+1)*3^(M-1)))+2<=ag):p7 (a,b):=by
 have hle:∀{B l:Nat},B+1<=2*(u+1)*3^(M-l)->1<=l->B+1<=2*(u+1)*3^(M-1):=fun h1 h2=>Nat.le_trans h1 (Nat.mul_le_mul_left _ (yF aa))
 have hX2:∀{B:Nat},B+1<=2*(u+1)*3^(M-1)->2*((M+1)*(B+1))+2<=ag:=fun h=>by
  have:=Nat.mul_le_mul_left (M+1) h
  omega
 refine⟨fun j hj=>?_,fun i hi=>?_⟩
 ·obtain⟨B,b1,b2,b3,b4,b5,b6⟩:=Ht ta tb la lb ha hb j
  have ht:=lW (s:=(a,b)) ta tb j
  have hB:B+1<=2*(u+1)*3^(M-1):=by
   rcases b6 with h|⟨_,rfl⟩|h
   ·exact hle b1 aa
   ·have h3:=Cw (M-1)
    have:=Nat.mul_le_mul_left (2*(B+1)) h3
    omega
   ·exact absurd h hj
  refine⟨yB b2 b3 aa ht.2 aa (hX2 hB),?_⟩
  have hm:=(Az b2 b3 aa ht.2 (show _<=M by omega)).1.cM rD
  exact kT hm (hX2 hB)
 ·obtain⟨B,b1,b2⟩:=MD ta tb la lb ha hb
  have hi:i<(bR a b).1:=hi
  have hB:=hle b1 aa
  have:=hX2 hB
  have h1:B+1<=(M+1)*(B+1):=Nat.le_mul_of_pos_left _ aa
  exact(dn.sz b2 hi).more aa
theorem Ce {c:PP} (h:jN c):Bd (aW c) 162:=Bd.more (h.bd.cO (by have:=h.len;omega)) aa
theorem AO {c:PP}:(aW c).1<=c.1-1:=fE
theorem Eo {c:PP} (h:jN c) (h0:0<c.1):Bd (bR c (aW c)) 237653/\c.1-(bR c (aW c)).1<=6/\0<(bR c (aW c)).1/\(bR c (aW c)).1<=c.1:=by
 obtain⟨hh,f,s1,s2⟩:=h.sq
 have hl:=h.len
 obtain⟨l1,l2,l3⟩:=qx (a:=ct hh) (b:=ct f) (fun t=>by rw[s1.eq,eu,eu]) h0 h.tr fO fO
 have hd:Dv hh c:=⟨f,s1.eq⟩
 have hg:Dv (ct hh) (bR c (aW c)):=(EN hd s1.dv).imp fun w hw t=>by rw[hw,eu]
 have hl2:=hg.len (mM h0) (j8 h.tr dI) fO
 have hd2:c.1-(bR c (aW c)).1<=6:=aa
 obtain⟨B,b1,b2⟩:=MD (M:=c.1) h.tr dI aT (Nat.le_trans AO aa) (h.bd.more (show 156<=162 by omega)) (Ce h)
 have h3:3^(c.1-(bR c (aW c)).1)<=3^6:=yF hd2
 have h4:2*(162+1)*3^(c.1-(bR c (aW c)).1)<=2*(162+1)*3^6:=Nat.mul_le_mul_left _ h3
 exact⟨b2.more aa,hd2,mM h0,ya h.tr⟩
theorem AI {c:PP} (h:jN c) (h0:0<c.1):Bd (bh c) 1901232/\(bh c).1<=7:=by
 obtain⟨g1,g2,g3,g4⟩:=Eo h h0
 have hq:=(Az (M:=7) (h.bd.more (show 156<=237653 by omega)) g1 g3 (j8 h.tr dI) aa).2.cM yM
 unfold bh
 rw[if_neg aa]
 refine⟨Bd.more hq aa,?_⟩
 show bH _ _<=7
 exact Nat.le_trans fE aa
theorem Bp {c:PP} (h:jN c) (h0:0<c.1):AD c/\wF c:=by
 have hW:=cY
 have hl:=h.len
 obtain⟨g1,g2,g3,g4⟩:=Eo h h0
 obtain⟨f1,f2⟩:=AI h h0
 have hd:=yB (M:=7) (h.bd.more (show 156<=237653 by omega)) g1 g3 (j8 h.tr dI) aa aa
 have hf:cN (bh c).1 (bh c).2:=kT f1 aa
 have hder:cN (c.1-1) (cO c.2):=kT (yy h.bd aa) aa
 have h13:2*((13+1)*(2*(162+1)*3^(13-1)))+2<=ag:=by rw[hW];decide
 have b1:=h.bd.more (show 156<=162 by omega)
 have hdl:(aW c).1<=13:=Nat.le_trans AO aa
 refine⟨⟨aa,h.tr,hder,fun _=>⟨BR h.tr dI hl hdl aa b1 (Ce h) h13,hd,hf⟩⟩,⟨aa,aa,h.tr,hder,fun _=>⟨⟨kT (b1.cM h.tr) aa,kT ((Ce h).cM dI) aa,BR (ov h.tr) (ov dI) hl hdl aa (b1.cM h.tr) ((Ce h).cM dI) h13⟩,hd,hf⟩⟩⟩
theorem Nm {c:PP} (h:jN c) (h0:0<c.1):∀j,j<=eV (dQ c)->∃B,B+1<=2772006462/\Bd (bJ (dQ c) j).1 B/\Bd (bJ (dQ c) j).2 B/\(bJ (dQ c) j).1.1<=7/\(bJ (dQ c) j).2.1<(bJ (dQ c) j).1.1:=fun j hj=>by
 obtain⟨f1,f2⟩:=AI h h0
 have hfp:0<(bh c).1:=by
  obtain⟨g1,g2,g3,g4⟩:=Eo h h0
  rcases Nat.eq_zero_or_pos (bh c).1 with h9|h9
  ·exfalso
   unfold bh at h9
   rw[if_neg aa]at h9
   have h9:(fA c (bR c (aW c))).1=0:=h9
   have h10:=fun t=>v9 (a:=c) (d:=bR c (aW c)) g3 t
   have:=zJ h.tr (b:=dj c (bR c (aW c))) (tD fun t=>by rw[h10,jx h9,Rat.zero_mul,Rat.zero_add])
   have:=nY (a:=c) g3 (j8 h.tr dI)
   omega
  ·exact h9
 have hfd:Bd (aW (bh c)) 1901238:=f1.cO aa
 have hdl:(aW (bh c)).1<=(bh c).1-1:=fE
 obtain⟨B,b1,b2,b3,b4,b5⟩:=Gc (a:=bh c) (b:=aW (bh c)) kn dI f2 aa (f1.more (show 1901232<=1901238 by omega)) hfd j hj
 have h3:3^(7-(bJ (bh c,aW (bh c)) j).1.1)<=3^6:=yF aa
 have h4:=Nat.mul_le_mul_left (2*(1901238+1)) h3
 exact⟨B,aa,b2,b3,b4,b5⟩
theorem I7 {c:PP} (h:jN c) (h0:0<c.1):wT (dQ c):=fun j hj=>by
 have hW:=cY
 obtain⟨B,b1,b2,b3,b4,b5⟩:=Nm h h0 j aa
 have ht:=ot (s:=dQ c) kn dI j
 have hn:=(mY (s:=dQ c) kn dI).2.2 j hj
 refine⟨yB (M:=7) b2 b3 aa ht.2 aa aa,?_⟩
 have hr:=(Az (M:=7) b2 b3 aa ht.2 aa).1.neg
 exact kT hr aa
theorem Cr {c:PP} (h:jN c) (h0:0<c.1):pY c/\og c:=by
 have hW:=cY
 obtain⟨f1,f2⟩:=AI h h0
 have hder:cN ((bh c).1-1) (cO (bh c).2):=kT (yy f1 aa) aa
 exact⟨⟨(Bp h h0).1,hder,I7 h h0⟩,⟨(Bp h h0).2,hder,I7 h h0⟩⟩
theorem Bo {c:PP} (h:jN c) (h0:0<c.1):b7 c<=8:=by
 obtain⟨f1,f2⟩:=AI h h0
 have:=(mY (s:=dQ c) kn dI).1
 have h2:(dQ c).2.1<=(bh c).1-1:=fE
 show eV (dQ c)+1<=8
 omega
theorem S1 {c:PP} (h:jN c) (h0:0<c.1) {i:Nat} (hi:i<b7 c):Bd (bS c i) 2772006461/\(bS c i).1<=7:=by
 obtain⟨B,b1,b2,b3,b4,b5⟩:=Nm h h0 i (by have hi:i<eV (dQ c)+1:=hi;omega)
 exact⟨b2.more aa,b4⟩
theorem Jt {a:PP} {s τ:Nat} {T:Int} {t:Rat} (h:Bd a s) (ht:cj T τ t) (hT:T.natAbs<=2^τ) (hT0:T≠0) (hl:a.1<=7) (hs:2*(s+7*(τ+1))+2<=ag):g9 a t:=by
 obtain⟨D,d1,d2,d3⟩:=h
 intro m hm
 have h1:=Gd d3 ht hT m hm
 have h2:=mI d2 (yw hT m)
 have h3:m*(τ+1)<=7*(τ+1):=Nat.mul_le_mul_right _ aa
 have h4:m*τ<=7*(τ+1):=Nat.mul_le_mul aa aa
 exact((h1.more (show s+m*(τ+1)<=s+7*(τ+1) by omega)).sz (Int.mul_ne_zero d1 (Int.pow_ne_zero hT0)) (Nat.le_trans h2 (Nat.pow_le_pow_right (by decide) (show s+m*τ<=s+7*(τ+1) by omega)))).more aa
theorem uU {c:PP} (h:jN c) (h0:0<c.1) {τ:Nat} {T:Int} {t:Rat} (ht:cj T τ t) (hT:T.natAbs<=2^τ) (hT0:T≠0) (hs:τ<=2^31):cL (b7 c) (bS c) t:=fun i hi=>by
 have hW:=cY
 obtain⟨b1,b2⟩:=S1 h h0 hi
 exact⟨aa,Jt b1 ht hT hT0 b2 aa⟩
abbrev pJ (n:Nat) (z:Nat->Int) (a:Int):ax:=ko n (fun i=>.int .i64 (z i)) a
structure uk where
 k:Nat->Rat
 t:Rat
 a:Int
def E3 (n:Nat) (f:Nat->AV) (t:Rat) (a:Int):Rat:=t+((1+cU n f a 3:Int):Rat)/((1+cU n f (bM n a) 2:Int):Rat)
def IC (n:Nat) (f:Nat->AV) (p j:Nat) (s:uk):uk:=
 if j=0\/0<cU n f s.a 3\/s.t=s.k (j+1)then
  ⟨zP s.k (p+1+j) (E3 n f s.t (if j=0 then s.a else bM n s.a)),E3 n f s.t (if j=0 then s.a else bM n s.a),bM n (bM n (if j=0 then s.a else bM n s.a))⟩
 else⟨zP s.k (p+1+j) s.t,s.t,if j=0 then s.a else bM n s.a⟩
def tW (n:Nat) (f:Nat->AV) (p:Nat) (s0:uk):Nat->uk
 |0=>s0
 |j+1=>IC n f p j (tW n f p s0 j)
def xW (n:Nat) (f:Nat->AV) (a:Int):uk:=⟨fun _=>((cU n f a 4-2:Int):Rat),((cU n f a 4-2:Int):Rat),bM n (bM n a)⟩
def ZA (n:Nat) (f:Nat->AV) (a:Int) (m:Nat):Nat:=(cU n f (bM n a) (m+1)).toNat
def Sg (n:Nat) (f:Nat->AV) (a:Int) (p m:Nat):uk:=tW n f p (xW n f a) (ZA n f a m)
def XS (n:Nat) (f:Nat->AV) (a:Int) (p m:Nat):Int:=(Sg n f a p m).a
theorem LL {n:Nat} {f:Nat->AV} {a:Int} {p:Nat} (hd:dN n f a) (hp:1<=p):∀j,KG p j (tW n f p (xW n f a) j).k (tW n f p (xW n f a) j).t/\dN n f (tW n f p (xW n f a) j).a
 |0=>by
  have h1:=jM (n:=n) (f:=f) (a:=a) (m:=4) aa
  have h2:=jL (n:=n) (f:=f) (a:=a) (m:=4) aa
  exact⟨KG.start hp aa aa,hd.next.next⟩
 |j+1=>by
  obtain⟨h1,h2⟩:=LL hd hp j
  unfold tW IC E3
  generalize tW n f p (xW n f a) j=s at*
  obtain⟨k,t,b⟩:=s
  simp only at h1 h2 ⊢
  have hb:dN n f (if j=0 then b else bM n b):=by split;exact h2;exact h2.next
  generalize (if j=0 then b else bM n b)=a1 at*
  split
  ·have x1:=jM (n:=n) (f:=f) (a:=a1) (m:=3) aa
   have x2:=jL (n:=n) (f:=f) (a:=a1) (m:=3) aa
   have y1:=jM (n:=n) (f:=f) (a:=bM n a1) (m:=2) aa
   have y2:=jL (n:=n) (f:=f) (a:=bM n a1) (m:=2) aa
   refine⟨h1.next (.inl ?_),hb.next.next⟩
   generalize cU n f a1 3=x at*
   generalize cU n f (bM n a1) 2=y at*
   have key:∃z:Int,((1+x:Int):Rat)/((1+y:Int):Rat)=(z:Rat)/2/\1<=z/\z<=6:=by
    rcases(show y=0\/y=1 by omega)with h|h
    ·subst h
     refine⟨2*(1+x),?_,aa,aa⟩
     have:((2*(1+x):Int):Rat)=2*((1+x:Int):Rat):=by simp
     rw[this]
     generalize ((1+x:Int):Rat)=w
     simp;grind
    ·subst h
     exact⟨1+x,by simp,aa,aa⟩
   obtain⟨z,e,z1,z2⟩:=key
   rw[e]
   refine⟨?_,z,rfl,z2⟩
   have:(1:Rat)<=(z:Rat):=by exact_mod_cast z1
   grind
  ·rename_i hc
   have hc1:¬j=0:=fun h=>hc (.inl h)
   have hc2:¬t=k (j+1):=fun h=>hc (.inr (.inr h))
   exact⟨h1.next (.inr ⟨rfl,aa,hc2⟩),hb⟩
theorem afS {z:Int} (h1:-2^63<=z) (h2:z<2^63):Sz ((z:Rat)/2) 64:=by
 have:=MN h1 h2 (y:=2) aa aa aa
 simpa using this
theorem KG.sz {p j:Nat} {k:Nat->Rat} {t:Rat} (h:KG p j k t) (hj:j<2^50):Sz t 64:=by
 obtain⟨z,e,h1,h2⟩:=h.half (p+j) aT
 rw[h.top]at e
 rw[e]
 exact afS aa aa
def ac4 (n:Nat) (f:Nat->AV) (a:Int):Int:=bM n (KL n f a)
def NO (n:Nat) (f:Nat->AV) (a:Int):Nat->Int
 |0=>a
 |j+1=>ac4 n f (NO n f a j)
theorem dN.PR {n:Nat} {f:Nat->AV} {a:Int} (h:dN n f a):∀j,dN n f (NO n f a j)
 |0=>h
 |j+1=>(h.PR j).ad2.next
theorem dN.qL {n:Nat} {f:Nat->AV} {a:Int} {p m:Nat} (h:dN n f a) (hp:1<=p):dN n f (XS n f a p m):=(LL h hp _).2
def pW:bz:=zG::(91,Cs)::(93,jo kR kR x7 oF)::iK
abbrev AN:Code:=aI f31
abbrev zy:Code:=part AN [1,1,1,1,0,1,0,0]
abbrev wM:Code:=part zy [1,0,0]
abbrev ue:Code:=part AN [1,1,1,1,1]
abbrev rX:List Nat:=[0,1,6,7,8,9]
abbrev Ay (m n:Nat) (p q:Nat->Rat) (i:Nat):List AV:=[bp p (m+1) ag,bp q (n+1) ag,.int .i64 m,.int .i64 n,.own 0 3 0 (m+n+1),.int .i64 i]
abbrev yl:List Nat:=[0,1,6,7,8,9,10]
abbrev En (m n:Nat) (p q:Nat->Rat) (i j:Nat):List AV:=[bp p (m+1) ag,bp q (n+1) ag,.int .i64 m,.int .i64 n,.own 0 3 0 (m+n+1),.int .i64 i,.int .i64 j]
abbrev wR:List Nat:=[6,7,8,12]
abbrev GX (m n k:Nat):List AV:=[.int .i64 m,.int .i64 n,.own 0 3 0 (m+n+1),.int .i64 k]
abbrev oK (m n:Nat) (x:Nat->Rat):aE:=[(0,cy (m+n+1) x ag)]
theorem Lv:br 31 f31:=bu func31
theorem Tm {m n:Nat} {p q:Nat->Rat}:aH T pW [200022] 60 rX (before AN [1,1,1,1,0,1]) ⟨aU 0 [bp p (m+1) ag,bp q (n+1) ag],[],0⟩=
  let c4:Int:=(↑(m+1):Int)-1;let c3:Int:=(↑(n+1):Int)-1;let c2:Int:=(2:Int)^63;let c1:Int:=c4+c3;let c5:Int:=c1+1;some (aj [-c2<=c4/\c4<c2,-c2<=c3/\c3<c2] (aj [-c2<=c1/\c1<c2] (aj [decide (c1>40)=false] (aj [-c2<=c1/\c1<c2,-c2<=c5/\c5<c2,(0:Int)<=c5/\c5<=c5/\c5<=2^47/\c5*(↑(56:Nat):Int)<=2^47] (leaf normal ([ak 3 (m+1) fun i=>rat (p i) ag,ak 3 (n+1) fun i=>rat (q i) ag,int i64 c4,int i64 c3,own 73728 3 0 c5.toNat,int i64 0],[(73728,ax.mk true true 3 c5.toNat fun x=>rat 0 1)])))))):=ah
theorem SW {m n i:Nat} {p q x:Nat->Rat}:aH T pW [30] 60 rX (before zy [1,0]) ⟨aB rX (Ay m n p q i),oK m n x,1⟩=
  let c1:List AV×aE:=([ak 3 (m+1) fun i=>rat (p i) ag,ak 3 (n+1) fun i=>rat (q i) ag,int i64 (↑m:Int),int i64 (↑n:Int),own 0 3 0 (m+n+1),int i64 (↑i:Int)],[(0,ax.mk true true 3 (m+n+1) fun i=>rat (x i) ag)]);some (fork (decide ((↑i:Int)<=(↑m:Int))) (leaf normal c1) (leaf (exit 0) c1)):=ah
theorem aeZ {m n i:Nat} {p q x:Nat->Rat}:aH T pW [] 60 yl (before wM [1]) ⟨aB rX (Ay m n p q i),oK m n x,1⟩=
  some (leaf normal ([ak 3 (m+1) fun i=>rat (p i) ag,ak 3 (n+1) fun i=>rat (q i) ag,int i64 (↑m:Int),int i64 (↑n:Int),own 0 3 0 (m+n+1),int i64 (↑i:Int),int i64 0],[(0,ax.mk true true 3 (m+n+1) fun i=>rat (x i) ag)])):=ah
theorem acy {m n i j:Nat} {p q x:Nat->Rat}:aH T pW [35] 60 yl [part wM [1,0,0]] ⟨aB yl (En m n p q i j),oK m n x,1⟩=
  let c13:Int:=(↑m:Int);let c11:Nat:=64+64;let c10:Int:=(↑n:Int);let c9:Int:=(↑i:Int);let c8:AV:=ak 3 (n+1) fun i=>rat (q i) ag;let c7:AV:=ak 3 (m+1) fun i=>rat (p i) ag;let c5:Int:=(↑j:Int);let c4:Int:=(2:Int)^63;let c3:Nat:=m+n+1;let c2:Nat:=2^41;let c15:Int:=c5+1;let c12:AV:=own 0 3 0 c3;let c1:Int:=c9+c5;let c14:Prop:=(0:Int)<=c1/\c1.toNat<c3;let c6:Nat:=c1.toNat+0;some (fork (decide (c5<=c10)) (aj [(0:Int)<=c9,c9<=c13,c13<=40,(0:Int)<=c5,c5<=c10,c10<=40,(64:Nat)<c2,(64:Nat)<c2,(0:Nat)<1] (aj [-c4<=c1/\c1<c4,-c4<=c1/\c1<c4,c14,c6<c3,(0:Nat)<1,(0:Int)<=c9/\c9.toNat<m+1,(0:Int)<=c5/\c5.toNat<n+1,ag<c2,ag<c2,c11<c2,ag+ag<c2,ag<c2,c11+(ag+ag)<c2,c14,c6<c3] (aj [-c4<=c15/\c15<c4] (leaf normal ([c7,c8,int i64 c13,int i64 c10,c12,int i64 c9,int i64 c15],[(0,ax.mk true true 3 c3 fun j=>rat (bif j==c6 then x c6+(↑(↑(bn c13.toNat c9.toNat):Int):Rat)*(↑(↑(bn c10.toNat c5.toNat):Int):Rat)*(p c9.toNat*q c5.toNat)else x j) (bif j==c6 then ag+(c11+(ag+ag))+1 else ag))]))))) (leaf (exit 2) ([c7,c8,int i64 c13,int i64 c10,c12,int i64 c9,int i64 c5],[(0,ax.mk true true 3 c3 fun i=>rat (x i) ag)]))):=ah
theorem RA {m n i j:Nat} {p q x:Nat->Rat}:aH T pW [] 60 rX (behind wM [1]++[part zy [1,1]]) ⟨aB yl (En m n p q i j),oK m n x,1⟩=
  let c1:Int:=(↑i:Int)+1;some (aj [-(2:Int)^63<=c1/\c1<2^63] (leaf normal ([ak 3 (m+1) fun i=>rat (p i) ag,ak 3 (n+1) fun i=>rat (q i) ag,int i64 (↑m:Int),int i64 (↑n:Int),own 0 3 0 (m+n+1),int i64 c1],[(0,ax.mk true true 3 (m+n+1) fun i=>rat (x i) ag)]))):=ah
theorem aeM {m n i:Nat} {p q x:Nat->Rat}:aH T pW [] 60 wR (before ue [0,1]) ⟨aB rX (Ay m n p q i),oK m n x,1⟩=
  some (leaf normal ([int i64 (↑m:Int),int i64 (↑n:Int),own 0 3 0 (m+n+1),int i64 0],[(0,ax.mk true true 3 (m+n+1) fun i=>rat (x i) ag)])):=ah
theorem WJ {m n k:Nat} {x:Nat->Rat}:aH T pW [72] 60 wR [part ue [0,1,0,0]] ⟨aB wR (GX m n k),oK m n x,1⟩=
  let c4:Int:=(2:Int)^63;let c3:Nat:=m+n+1;let c2:Int:=(↑k:Int);let c1:Int:=(↑m:Int)+(↑n:Int);let c8:Int:=c2+1;let c7:Prop:=(0:Int)<=c2/\c2.toNat<c3;let c6:AV:=own 0 3 0 c3;let c5:Nat:=c2.toNat+0;some (aj [-c4<=c1/\c1<c4] (fork (decide (c2<=c1)) (aj [c7,c5<c3,-c4<=c1/\c1<c4,(0:Int)<=c2,c2<=c1,c1<=40,ag<2^41,(64:Nat)<2^41,c7,c5<c3] (aj [-c4<=c8/\c8<c4] (leaf normal ([int i64 (↑m:Int),int i64 (↑n:Int),c6,int i64 c8],[(0,ax.mk true true 3 c3 fun j=>rat (bif j==c5 then x c5/(↑(↑(bn c1.toNat c2.toNat):Int):Rat)else x j) (bif j==c5 then ag+64 else ag))])))) (leaf (exit 4) ([int i64 (↑m:Int),int i64 (↑n:Int),c6,int i64 c2],[(0,ax.mk true true 3 c3 fun i=>rat (x i) ag)])))):=ah
theorem Qu {m n k:Nat} {x:Nat->Rat}:cR T pW [] 60 f31 [part ue [1]] ⟨aB wR (GX m n k),oK m n x,1⟩=
  some (leaf ret [ak 3 (m+n+1) fun i=>rat (x (i+0)) ag,int i64 0]):=ah
theorem GC:bU P pW:=gH (aL EY (aL (jB fun _ _ K hn=>BU hn.1 hn.2 K) iP))
def lJ (m n:Nat) (p q:Nat->Rat) (i j k:Nat):Rat:=sg (fun i=>sg (fun j=>if i+j=k then bq m i*p i*(bq n j*q j)else 0) (n+1)) i+sg (fun j=>if i+j=k then bq m i*p i*(bq n j*q j)else 0) j
theorem ae0 {m n i k:Nat} {p q:Nat->Rat}:lJ m n p q i (n+1) k=lJ m n p q (i+1) 0 k:=(Rat.add_zero _).symm
theorem aeE {m n i j:Nat} {p q:Nat->Rat}:lJ m n p q i j (i+j)+bq m i*bq n j*(p i*q j)=lJ m n p q i (j+1) (i+j):=by
 unfold lJ
 show _=_+(sg _ j+(if i+j=i+j then bq m i*p i*(bq n j*q j)else 0))
 rw[if_pos rfl];grind
theorem acO {m n i j k:Nat} {p q:Nat->Rat} (h:k≠i+j):lJ m n p q i j k=lJ m n p q i (j+1) k:=by
 unfold lJ
 show _=_+(sg _ j+(if i+j=k then bq m i*p i*(bq n j*q j)else 0))
 rw[if_neg (fun e=>h e.symm),Rat.add_zero]
theorem St {m n k:Nat} {p q:Nat->Rat}:lJ m n p q (m+1) 0 k/bq (m+n) k=j7 m n p q k:=by
 unfold j7
 rw[show lJ m n p q (m+1) 0 k=jZ m n (fun i=>bq m i*p i) (fun j=>bq n j*q j) k from Rat.add_zero _]
def pM (m n:Nat) (p q:Nat->Rat) (k t:Nat):Rat:=if t<k then j7 m n p q t else lJ m n p q (m+1) 0 t
theorem EV {m n k t:Nat} {p q:Nat->Rat} (h:t<k):pM m n p q k t=j7 m n p q t:=if_pos h
theorem Y0 {m n k:Nat} {p q:Nat->Rat}:pM m n p q k k/bq (m+n) k=pM m n p q (k+1) k:=by
 rw[EV (Nat.lt_succ_self _)];unfold pM;rw[if_neg (Nat.lt_irrefl _)];exact St
theorem agL {m n k t:Nat} {p q:Nat->Rat} (h:t≠k):pM m n p q k t=pM m n p q (k+1) t:=by
 unfold pM
 by_cases h3:t<k
 ·rw[if_pos h3,if_pos aa]
 ·rw[if_neg h3,if_neg aa]
def B7 (m n:Nat) (p q:Nat->Rat):Prop:=(∀i j k,i<=m+1->j<=n+1->k<m+n+1->Sz (lJ m n p q i j k) ag)/\∀k,k<m+n+1->Sz (j7 m n p q k) ag
theorem abf {m n:Nat} {p q:Nat->Rat} (hmn:m+n<=40) (hz:B7 m n p q) (K:Nat):aS P 31 K [bp p (m+1) ag,bp q (n+1) ag] [] (aM (.tuple [bp (j7 m n p q) (m+n+1) ag,.int .i64 0]) []):=by
 refine iE (r:=aM (.tuple [bp (j7 m n p q) (m+n+1) ag,.int .i64 0]) []) hT Lv rfl aZ rfl (fun _ cx h0=>?_) K []
 have hk:=mR h0
 have hW:=cY
 refine au.qp hT GC hm (x:=AN) [1,1,1,1,0,1] (i:=0) (y:=zy) (z:=ue) ah ah ah Lv.dst [1,0] (j:=1) (x1:=wM) (zb:=part zy [1,1]) ah ah ah [1] (i2:=2) (y2:=part wM [1,0,0]) ah ah rfl hk
  (f1:=[200022]) (f2:=[30]) (f3:=[]) (f4:=[35]) (f5:=[]) 60 rX yl 1 1 (fun i:Nat=>Ay m n p q i) (fun i=>oK m n (lJ m n p q i 0)) (fun i=>i<=m+1) (fun i=>i=m+1) (fun i=>m+1-i) (fun i=>i<m+1) (fun _=>False) (fun _=>False)
  (fun i (j:Nat)=>En m n p q i j) (fun i j=>oK m n (lJ m n p q i j)) (fun _ j=>j<=n+1) (fun _ j=>j=n+1) (fun _ j=>n+1-j)
  ⟨_,Tm,?_⟩ (fun i hi=>⟨_,SW,?_⟩) (fun i hi hG=>⟨_,aeZ,?_⟩) (fun i hi hG j hj=>⟨_,acy,?_⟩) (fun i hi hG j hj=>⟨_,RA,?_⟩) (fun i hi=>?_) (fun _ _ h=>h.elim) (fun _ _ h=>h.elim)
 ·have e1:((m+1:Nat):Int)-1=(m:Nat):=aa
  have e2:((n+1:Nat):Int)-1=(n:Nat):=aa
  have e3:((m:Int)+(n:Int)+1).toNat=m+n+1:=aa
  simp only[af.all,az,e1,e2,e3,bI]
  exact⟨aa,aa,aa,aa,0,Nat.zero_le _,[(0,73728)],rfl,rfl,rfl,bk rfl rfl rfl (fun k hk=>.inr ⟨rfl,dM (by show(0:Rat)=0+0;rw[Rat.add_zero]) aa⟩) trivial⟩
 ·simp only[af.all,az,bD,bI]
  exact⟨fun h=>⟨aa,[(0,0)],rfl,rfl,rfl,bk rfl rfl rfl (fun i hi=>bK rfl rfl) trivial⟩,fun h=>⟨rfl,i,aa,[(0,0)],rfl,rfl,rfl,bk rfl rfl rfl (fun i hi=>bK rfl rfl) trivial⟩⟩
 ·simp only[af.all,az]
  exact⟨0,Nat.zero_le _,[(0,0)],rfl,rfl,rfl,bk rfl rfl rfl (fun i hi=>bK rfl rfl) trivial⟩
 ·have e1:((i:Int)+(j:Int)).toNat=i+j:=aa
  simp only[af.all,az,e1,bD,bI,bG,Nat.add_zero]
  refine⟨fun h=>⟨⟨aa,aa,aa,aa,aa,aa,aa,aa,aa⟩,⟨aa,aa,aa,aa,aa,aa,aa,aa,aa,aa,aa,aa,aa,aa,aa⟩,aa,j+1,aa,by dsimp only;omega,[(0,0)],rfl,by rw[show(j:Int)+1=((j+1:Nat):Int) by omega];rfl,rfl,bk rfl rfl rfl (fun k hk=>mC (dY aeE (hz.1 i (j+1) _ aa aa aa)) fun hne=>dM (acO hne) aT) trivial⟩,
   fun h=>⟨rfl,j,aa,[(0,0)],rfl,rfl,rfl,bk rfl rfl rfl (fun i hi=>bK rfl rfl) trivial⟩⟩
 ·subst hj
  simp only[af.all,az]
  exact⟨aa,i+1,aa,by dsimp only;omega,[(0,0)],rfl,by rw[show(i:Int)+1=((i+1:Nat):Int) by omega];rfl,rfl,bk rfl rfl rfl (fun k hk=>bK rfl (by rw[ae0])) trivial⟩
 ·subst hi
  refine au.rz hT GC hm (x:=ue) [0,1] (i:=4) (y:=part ue [0,1,0,0]) (z:=part ue [1]) ah ah ah ah hk (f1:=[]) (f2:=[72]) 60 wR 1 (fun k:Nat=>GX m n k) (fun k=>oK m n (pM m n p q k))
   (fun k=>k<=m+n+1) (fun k=>k=m+n+1) (fun k=>m+n+1-k) (fun _=>False) ⟨_,aeM,?_⟩ (fun k hk=>⟨_,WJ,?_⟩) (fun k hk=>?_) (fun _ _ h=>h.elim)
  ·simp only[af.all,az]
   exact⟨0,Nat.zero_le _,[(0,0)],rfl,rfl,rfl,bk rfl rfl rfl (fun i hi=>bK rfl rfl) trivial⟩
  ·have e1:((m:Int)+(n:Int)).toNat=m+n:=aa
   simp only[af.all,az,e1,bD,bI,bG,Nat.add_zero]
   refine⟨aa,fun h=>⟨⟨aa,aa,aa,aa,aa,aa,aa,aa,aa,aa⟩,aa,k+1,aa,by dsimp only;omega,[(0,0)],rfl,by rw[show(k:Int)+1=((k+1:Nat):Int) by omega];rfl,rfl,bk rfl rfl rfl (fun t ht=>mC (y:=pM m n p q (k+1)) (dY Y0 (by rw[EV (Nat.lt_succ_self _)];exact hz.2 k aa)) fun hne=>dM (agL hne) aT) trivial⟩,
    fun h=>⟨rfl,k,aa,[(0,0)],rfl,rfl,rfl,bk rfl rfl rfl (fun i hi=>bK rfl rfl) trivial⟩⟩
  ·subst hk
   refine au.mQ ((aF.fin hT GC hm 60 Qu ah ?_).mono fun _ _ h=>.inl h)
   exact⟨ir fun i hi=>dM (by rw[Nat.add_zero];exact EV hi) aT,.refl _,trivial⟩
def Ko:Spec:=en (kC (kL ag) (kC (kL ag) kN)) (fun a=>.tuple [bp (j7 (a.1.1-1) (a.2.1.1-1) a.1.2 a.2.1.2) (a.1.1-1+(a.2.1.1-1)+1) ag,.int .i64 0]) fun a=>[1<=a.1.1,1<=a.2.1.1,a.1.1+a.2.1.1<=42,B7 (a.1.1-1) (a.2.1.1-1) a.1.2 a.2.1.2]
theorem aas:bf P Ko 31:=dO fun⟨⟨m,p⟩,⟨n,q⟩,_⟩ K hn=>by
 obtain⟨h1,h2,h3,h4⟩:=hn
 have h1:1<=m:=h1
 have h2:1<=n:=h2
 have h3:m+n<=42:=h3
 obtain⟨m,rfl⟩:∃x,m=x+1:=⟨m-1,aa⟩
 obtain⟨n,rfl⟩:∃x,n=x+1:=⟨n-1,aa⟩
 exact abf aa h4 K
def A7:bz:=nG::(44,mH yo)::(87,mH Gs)::[]
abbrev yc:Code:=aI f28
abbrev w8:List Nat:=[0,5,6]
abbrev CB (j:Nat) (t:Int):List AV:=[.ptr 0 0 2 0 [],.own 1 3 0 j,.int .i64 t]
abbrev FO (n:Nat) (z:Nat->Int) (a:Int) (k:Nat->Rat) (j:Nat):aE:=[(1,cy j k 64),(0,pJ n z a)]
def AT:bz:=nG::(96,L9)::iK
abbrev Aa:Code:=aI f55
abbrev zW:List Nat:=[0,3,4]
abbrev F5 (n:Nat) (z:Nat->Int) (i:Nat):List AV:=[.ak 1 n fun i=>.int .i64 (z i),.own 0 3 0 i,.int .i64 i]
theorem K7:br 28 f28:=bu func28
theorem abi:br 55 f55:=bu func55
theorem aaX {n:Nat} {z:Nat->Int} {a d:Int}:aH T A7 [] 60 w8 (before yc [1,1,0,1]) ⟨aU 0 [.ptr 0 0 2 0 [],.int .i64 d],[(0,pJ n z a)],1⟩=
  let c1:Int:=d+1;some (aj [-(2:Int)^63<=c1/\c1<2^63,dN n (fun i=>int i64 (z i)) a,(0:Int)<c1,c1<2^62] (leaf normal ([ptr 0 0 2 0 [],nil,int i64 (cU n (fun i=>int i64 (z i)) a c1)],[(0,ax.mk false true 2 1 fun x=>agg [ak 1 n fun i=>int i64 (z i),int i64 (bM n a)])]))):=ah
theorem RT {n j:Nat} {z:Nat->Int} {a t:Int} {k:Nat->Rat}:aH T A7 [12] 60 w8 [part yc [1,1,0,1,0,0]] ⟨aB w8 (CB j t),FO n z a k j,2⟩=
  let c2:AV:=ak 1 n fun i=>int i64 (z i);let c1:AV:=ptr 0 0 2 0 [];some (fork (decide (t>=0)) (aj [dN n (fun i=>int i64 (z i)) a,(1:Nat)*3<=2^24,(j+1)*((56:Nat)+1)*2<=2^47] (aj [-(2:Int)^63<=t-1/\t-1<(2:Int)^63] (leaf normal ([c1,own 24578 3 0 (j+1),int i64 (t-1)],[(24578,ax.mk true true 3 (j+1) fun i=>if i<j then rat (k i) 64 else nth [rat (r9 n (fun i=>int i64 (z i)) a) 64] (rat 0 1) (i-j+0)),(0,ax.mk false true 2 1 fun x=>agg [c2,int i64 (oo n (fun i=>int i64 (z i)) a)])])))) (leaf (exit 0) ([c1,own 1 3 0 j,int i64 t],[(1,ax.mk true true 3 j fun i=>rat (k i) 64),(0,ax.mk false true 2 1 fun x=>agg [c2,int i64 a])]))):=ah
theorem aaW {n j:Nat} {z:Nat->Int} {a t:Int} {k:Nat->Rat}:Bm T A7 [] 60 f28 [part yc [1,1,1]] ⟨aB w8 (CB j t),FO n z a k j,2⟩=
  some (leaf ret ([ak 3 j fun i=>rat (k (i+0)) 64],some (ax.mk false true 2 1 fun x=>agg [ak 1 n fun i=>int i64 (z i),int i64 a]))):=ah
theorem ahm {n:Nat} {z:Nat->Int}:aH T AT [] 60 zW (before Aa [1,1,0,1]) ⟨aU 0 [.ak 1 n fun i=>.int .i64 (z i)],[],0⟩=
  some (leaf normal ([ak 1 n fun i=>int i64 (z i),nil,int i64 0],[])):=ah
theorem aaM {n i:Nat} {z:Nat->Int} {k:Nat->Rat}:aH T AT [10] 60 zW [part Aa [1,1,0,1,0,0]] ⟨aB zW (F5 n z i),[(0,cy i k 64)],1⟩=
  let c3:AV:=ak 1 n fun i=>int i64 (z i);let c2:Int:=(2:Int)^63;let c1:Int:=(↑i:Int);let c5:Int:=z c1.toNat;let c4:Int:=c1+1;some (fork (decide (c1<(↑n:Int))) (aj [(0:Int)<=c1/\c1.toNat<n,-c2<=c5,c5<c2,(1:Nat)*3<=2^24,(i+1)*((56:Nat)+1)*2<=2^47] (aj [-c2<=c4/\c4<c2] (leaf normal ([c3,own 45057 3 0 (i+1),int i64 c4],[(45057,ax.mk true true 3 (i+1) fun i_1=>if i_1<i then rat (k i_1) 64 else nth [rat (↑c5:Rat) (Max.max 1 (bX c5.natAbs))] (rat 0 1) (i_1-i+0))])))) (leaf (exit 0) ([c3,own 0 3 0 i,int i64 c1],[(0,ax.mk true true 3 i fun i=>rat (k i) 64)]))):=ah
theorem Rl {n i:Nat} {z:Nat->Int} {k:Nat->Rat}:cR T AT [] 60 f55 [part Aa [1,1,1]] ⟨aB zW (F5 n z i),[(0,cy i k 64)],1⟩=
  some (aj [cZ (fun i=>.rat (k (i+0)) 64) i ag,(1:Nat)<=i,i<=41,jU i fun i=>aQ (.rat (k (i+0)) 64)] (leaf ret [bp (fY i fun i=>aQ (.rat (k (i+0)) 64)) i ag])):=ah
theorem Oj {rl:List (Nat×Nat)} {l i s s' s2:Nat} {x y:Nat->Rat} {t:Rat} {z:AV} (hx:∀i,i<l->x i=y i) (ht:bg (.rat t s') (.rat (y l) s2)) (h1:s<=s2) (hi:i<l+1):ng rl (if i<l then .rat (x i) s else nth [.rat t s'] z (i-l+0)) (.rat (y i) s2):=by
 by_cases h:i<l
 ·rw[if_pos h,hx i h];exact .inr ⟨rfl,dM rfl h1⟩
 ·obtain rfl:i=l:=aa
  rw[if_neg h,Nat.sub_self]
  exact .inr ⟨rfl,ht⟩
def x9 (n:Nat) (f:Nat->AV) (a:Int):Nat->Int
 |0=>a
 |j+1=>oo n f (x9 n f a j)
theorem dN.numbers {n:Nat} {f:Nat->AV} {a:Int} (h:dN n f a):∀j,dN n f (x9 n f a j)
 |0=>h
 |j+1=>(h.numbers j).number
def ru (n:Nat) (f:Nat->AV) (a d:Int):Nat:=(cU n f a (d+1)).toNat+1
def sN (n:Nat) (f:Nat->AV) (a:Int) (i:Nat):Rat:=r9 n f (x9 n f (bM n a) i)
def tH (n:Nat) (f:Nat->AV) (a d:Int):Int:=x9 n f (bM n a) (ru n f a d)
def Gp (n:Nat) (f:Nat->AV) (a:Int) (l:List AV):Option (AV×Int×List Prop):=match l with
 |[.int .i64 d]=>some (bp (sN n f a) (ru n f a d) 64,tH n f a d,[0<=d,d<900])
 |_=>none
theorem Lc:bU P A7:=jq (aL Ey (aL agy cG))
theorem aau {k n:Nat} {z:Nat->Int} {a d:Int} {o:ax} (ho:∀ρ,dL ρ o (pJ n z a)) (h:dN n (fun i=>.int .i64 (z i)) a) (hd1:0<=d) (hd2:d<900) (K:Nat):
  aS P 28 K [.ptr k 0 2 0 [],.int .i64 d] [(k,o)] ⟨bp (sN n (fun i=>.int .i64 (z i)) a) (ru n (fun i=>.int .i64 (z i)) a d) 64,[(k,pJ n z (tH n (fun i=>.int .i64 (z i)) a d))],[]⟩:=by
 refine LV hT K7 rfl rfl aZ ho (fun _ c hk=>?_) K
 have a1:=jM (n:=n) (f:=fun i=>.int .i64 (z i)) (a:=a) (m:=d+1) aa
 have a2:=jL (n:=n) (f:=fun i=>.int .i64 (z i)) (a:=a) (m:=d+1) aa
 unfold tH
 obtain⟨N,hN⟩:∃N,N=ru n (fun i=>.int .i64 (z i)) a d:=⟨_,rfl⟩
 have hN2:cU n (fun i=>.int .i64 (z i)) a (d+1)=(N:Int)-1:=by rw[hN];unfold ru;omega
 rw[<-hN]
 refine au.rz hT Lc hm [1,1,0,1] (i:=0) (y:=part yc [1,1,0,1,0,0]) (z:=part yc [1,1,1]) ah ah ah K7.dst hk (f1:=[]) (f2:=[12]) 60 w8 2 (fun j:Nat=>CB j ((N:Int)-1-j))
  (fun j=>FO n z (x9 n (fun i=>.int .i64 (z i)) (bM n a) j) (sN n (fun i=>.int .i64 (z i)) a) j) (fun j=>j<=N) (fun j=>j=N) (fun j=>N-j) (fun _=>False) ⟨_,aaX,?_⟩ (fun j hj=>⟨_,RT,?_⟩) (fun j hj=>?_) (fun _ _ h=>h.elim)
 ·simp only[af.all,az,hN2]
  exact⟨⟨aa,h,aa,aa⟩,0,Nat.zero_le _,[(0,0)],rfl,by show _=List.map (kO [(0,0)]) (CB 0 ((N:Int)-1-((0:Nat):Int)));rw[show(N:Int)-1-((0:Nat):Int)=N-1 by omega];rfl,rfl,lF rfl aa aa (dx trivial)⟩
 ·simp only[af.all,az,bD,bI]
  refine⟨fun h2=>⟨⟨h.next.numbers j,aa,aa⟩,aa,j+1,aa,by dsimp only;omega,[(0,0),(1,24578)],rfl,by rw[show(N:Int)-1-(j:Int)-1=(N:Int)-1-((j+1:Nat):Int) by omega];rfl,rfl,
   bk rfl rfl rfl (fun i hi=>Oj (fun _ _=>rfl) (.refl _) aT hi) (dx trivial)⟩,
   fun h2=>⟨rfl,j,aa,[(0,0),(1,1)],rfl,rfl,rfl,nD (dx trivial)⟩⟩
 ·subst hj
  refine au.mQ (aF.N3 hT Lc hm 60 aaW ah ?_)
  simp only[af.all,az]
  exact⟨.refl _,_,rfl,rfl,wB rfl rfl⟩
theorem ab1:bf P (mH Gp) 28:=by
 refine C4 fun {k n z a l v b q o} K hg ho hd hq=>?_
 unfold Gp at hg
 split at hg
 ·rename_i d
  simp only[ay,Prod.mk.injEq]at hg
  obtain⟨rfl,rfl,rfl⟩:=hg
  exact aau ho hd hq.1 hq.2 K
 ·simp at hg
theorem QX:bU P AT:=jq (aL aaj iP)
def eI (z:Nat->Int) (i:Nat):Rat:=(z i:Int)
theorem DG {n:Nat} {z:Nat->Int} (h1:1<=n) (h2:n<=41) (hz:∀i,i<n->-2^62<=z i/\z i<2^62) (hf:jU n (eI z)) (K:Nat):aS P 55 K [.ak 1 n fun i=>.int .i64 (z i)] [] (aM (bp (fY n (eI z)) n ag) []):=by
 have hW:=cY
 refine iW (r:=aM (bp (fY n (eI z)) n ag) []) hT QX hm abi rfl aZ rfl [1,1,0,1] (i:=0) (y:=part Aa [1,1,0,1,0,0]) (z:=part Aa [1,1,1]) ah ah ah (f1:=[]) (f2:=[10]) (f3:=[]) 60 zW 1
  (fun i:Nat=>F5 n z i) (fun i=>[(0,cy i (eI z) 64)]) (fun i=>i<=n) (fun i=>i=n) (fun i=>n-i) (fun _=>⟨⟨_,ahm,?_⟩,fun i hi=>⟨_,aaM,?_⟩,fun i hi=>⟨_,Rl,?_⟩⟩) K []
 ·simp only[af.all,az]
  exact⟨0,Nat.zero_le _,[],rfl,rfl,rfl,lF rfl aa aa trivial⟩
 ·simp only[af.all,az,bD,bI,bG]
  refine⟨fun h=>⟨⟨aa,by have:=hz i aa;omega,by have:=hz i aa;omega,aa,aa⟩,aa,i+1,aa,by dsimp only;omega,[(0,45057)],rfl,by rw[show(i:Int)+1=((i+1:Nat):Int) by omega];rfl,rfl,bk rfl rfl rfl (fun j hj=>Oj (fun _ _=>rfl) (dY rfl (ze (y:=0) (by have:=hz i aa;omega) (by have:=hz i aa;omega))) aT hj) trivial⟩,
   fun h=>⟨rfl,i,aa,[(0,0)],rfl,rfl,rfl,nD trivial⟩⟩
 ·subst hi
  simp only[af.all,az]
  exact⟨⟨dU aa,h1,h2,hf⟩,.refl _⟩
def Iz:Spec:=cw fun l=>match l with
 |[.ak 1 n f]=>some (aM (bp (fY n (eI fun i=>intOf (f i))) n ag) [1<=n,n<=41,∀i,i<n->f i=.int .i64 (intOf (f i)),∀i,i<n->-2^62<=intOf (f i)/\intOf (f i)<2^62,jU n (eI fun i=>intOf (f i))])
 |_=>none
def pS:bz:=nG::(44,mH yo)::(28,mH Gp)::(55,Iz)::(51,Ig)::(52,Ac)::(31,Ko)::iK
abbrev tC:Code:=aI f13
abbrev qn:Code:=part tC [1,1,0,1,0,0]
abbrev qR:Code:=part qn [1,0,0]
abbrev me:List Nat:=[0,3,4]
abbrev qO (p:PP) (t:Int):List AV:=[.ptr 0 0 2 0 [],aG p,.int .i64 t]
abbrev jl (n:Nat) (z:Nat->Int) (a:Int):aE:=[(0,pJ n z a)]
abbrev oD:List Nat:=[0,3,4,5,7]
abbrev oR (p q:PP) (t r:Int):List AV:=[.ptr 0 0 2 0 [],aG p,.int .i64 t,aG q,.int .i64 r]
def gb (n:Nat) (f:Nat->AV) (b:Int) (i:Nat):Int:=if i=0 then-cU n f b 4 else if i=1 then 0 else 1+cU n f (bM n b) 5
def r6 (n:Nat) (f:Nat->AV) (a:Int):PP:=if cU n f a 4=0 then(ru n f (bM n a) 2,sN n f (bM n a))else if cU n f a 4=1 then(3,fY 3 (eI (gb n f (bM n a))))else
 (2,fun i=>if i=0 then-lY (cU n f (bM n a) 400)else 1-lY (cU n f (bM n a) 400))
def jT (n:Nat) (f:Nat->AV) (a:Int):Int:=if cU n f a 4=0 then tH n f (bM n a) 2 else if cU n f a 4=1 then bM n (bM n (bM n a))else bM n (bM n a)
def qv (n:Nat) (f:Nat->AV) (a:Int):Nat:=1+(cU n f (jT n f a) 3).toNat/2
def oU (n:Nat) (f:Nat->AV) (a:Int):Int:=bM n (jT n f a)
def fc (n:Nat) (f:Nat->AV) (a:Int):Nat->PP×Int
 |0=>((1,fun _=>1),bM n a)
 |i+1=>(gY (fc n f a i).1 (r6 n f (fc n f a i).2) (qv n f (fc n f a i).2),oU n f (fc n f a i).2)
def pI (n:Nat) (f:Nat->AV) (a:Int):Nat:=(cU n f a 4).toNat
def lD (n:Nat) (f:Nat->AV) (a:Int):PP:=(fc n f a (pI n f a)).1
def EI (n:Nat) (f:Nat->AV) (a:Int):Int:=(fc n f a (pI n f a)).2
def JE (p q:PP):Prop:=1<=p.1/\1<=q.1/\p.1+q.1<=42/\B7 (p.1-1) (q.1-1) p.2 q.2
def CV (n:Nat) (f:Nat->AV) (a:Int):Prop:=∀i,i<pI n f a->(cU n f (fc n f a i).2 4=1->jU 3 (eI (gb n f (bM n (fc n f a i).2))))/\∀j,j<qv n f (fc n f a i).2->JE (gY (fc n f a i).1 (r6 n f (fc n f a i).2) j) (r6 n f (fc n f a i).2)
def DW (n:Nat) (f:Nat->AV) (a:Int) (l:List AV):Option (AV×Int×List Prop):=match l with
 |[]=>some (aG (lD n f a),EI n f a,[CV n f a])
 |_=>none
theorem Ny:br 13 f13:=bu func13
theorem Xh {n:Nat} {z:Nat->Int} {a:Int}:aH T pS [] 60 [0,3] (before tC [1,1]) ⟨aU 0 [.ptr 0 0 2 0 []],jl n z a,1⟩=
  some (aj [-(2:Int)^63<=(1:Int),(1:Int)<2^63,(1:Nat)*3<=2^24] (leaf normal ([ptr 0 0 2 0 [],own 8193 3 0 1],[(8193,ax.mk true true 3 1 fun i=>nth [rat (↑(1:Int):Rat) (Max.max 1 (bX (Int.natAbs (1:Int))))] (rat 0 1) i),(0,ax.mk false true 2 1 fun x=>agg [ak 1 n fun i=>int i64 (z i),int i64 a])]))):=ah
theorem ac6 {n:Nat} {z:Nat->Int} {a t r:Int} {p q:PP}:aH T pS [] 60 oD (before (part qR [1,1,1]) []) ⟨aB oD (oR p q t r),jl n z a,1⟩=
  some (leaf normal ([ptr 0 0 2 0 [],ak 3 p.fst fun i=>rat (p.snd i) ag,int i64 t,ak 3 q.fst fun i=>rat (q.snd i) ag,int i64 r],[(0,ax.mk false true 2 1 fun x=>agg [ak 1 n fun i=>int i64 (z i),int i64 a])])):=ah
theorem Uf {n:Nat} {z:Nat->Int} {a:Int} {p:PP}:aH T pS [] 60 me (before (part tC [1,1]) [0,1]) ⟨aB [0,3] [.ptr 0 0 2 0 [],aG p],jl n z a,1⟩=
  some (aj [dN n (fun i=>int i64 (z i)) a,(0:Int)<4,(4:Int)<2^62] (leaf normal ([ptr 0 0 2 0 [],ak 3 p.fst fun i=>rat (p.snd i) ag,int i64 (cU n (fun i=>int i64 (z i)) a (4:Int))],[(0,ax.mk false true 2 1 fun x=>agg [ak 1 n fun i=>int i64 (z i),int i64 (bM n a)])]))):=ah
theorem ac1 {n:Nat} {z:Nat->Int} {a t:Int} {p:PP}:aH T pS [13] 60 me (before qn [1,0]) ⟨aB me (qO p t),jl n z a,1⟩=
  let c1:List AV×aE:=([ptr 0 0 2 0 [],ak 3 p.fst fun i=>rat (p.snd i) ag,int i64 t],[(0,ax.mk false true 2 1 fun x=>agg [ak 1 n fun i=>int i64 (z i),int i64 a])]);some (fork (decide (t>0)) (leaf normal c1) (leaf (exit 0) c1)):=ah
theorem TX {n:Nat} {z:Nat->Int} {a t:Int} {p:PP}:aH T pS [27,31] 60 oD (before qR [1,1,1]) ⟨aB me (qO p t),jl n z a,1⟩=
  let c22:AV:=int i64 0;let c20:Prop:=(0:Int)<3;let c19:Prop:=0<1;let c18:Prop:=(2:Int)≠(0:Int);let c17:Int:=bM n a;let c16:Int:=cU n (fun i=>int i64 (z i)) a (4:Int);let c15:Nat:=Max.max 1 (bX (Int.natAbs (1:Int)));let c13:AV:=ak 1 n fun i=>int i64 (z i);let c11:AV:=ptr 0 0 2 0 [];let c8:Int:=(2:Int)^62;let c7:AV:=ak 3 p.fst fun i=>rat (p.snd i) ag;let c4:Int:=(2:Int)^63;let c24:Prop:=(3:Int)<c8;let c14:Rat:=lY (cU n (fun i=>int i64 (z i)) c17 (400:Int));let c12:Prop:=dN n (fun i=>int i64 (z i)) c17;let c10:Int:=tH n (fun i=>int i64 (z i)) c17 (2:Int);let c2:Int:=bM n c17;let c23:Int:=bM n c2;let c21:Prop:=dN n (fun i=>int i64 (z i)) c2;let c9:Int:=(1:Int)+cU n (fun i=>int i64 (z i)) c2 (5:Int);let c6:Int:=(1:Int)+i64.wrap ((cU n (fun i=>int i64 (z i)) c2 (3:Int)).tdiv (2:Int));let c1:Int:=(1:Int)+i64.wrap ((cU n (fun i=>int i64 (z i)) c10 (3:Int)).tdiv (2:Int));let c5:List AV:=[int i64 (i64.wrap ((0:Int)-cU n (fun i=>int i64 (z i)) c17 (4:Int))),c22,int i64 c9];let c3:Int:=(1:Int)+i64.wrap ((cU n (fun i=>int i64 (z i)) c23 (3:Int)).tdiv (2:Int));some (aj [dN n (fun i=>int i64 (z i)) a,(0:Int)<4,(4:Int)<c8] (fork (c16==0) (aj [c12,(0:Int)<=2,(2:Int)<900] (aj [dN n (fun i=>int i64 (z i)) c10,c20,c24,c18,-c4<=c1/\c1<c4] (leaf normal ([c11,c7,int i64 t,ak 3 (ru n (fun i=>int i64 (z i)) c17 (2:Int)) fun i=>rat (sN n (fun i=>int i64 (z i)) c17 i) 64,int i64 c1],[(0,ax.mk false true 2 1 fun x=>agg [c13,int i64 (bM n c10)])])))) (fork (c16==1) (aj [c12,(0:Int)<4,(4:Int)<c8,c21,(0:Int)<5,(5:Int)<c8,-c4<=c9/\c9<c4,(3:Nat)*1<=2^24,(1:Nat)<=3,(3:Nat)<=41,∀(i:Nat),i<3->nth c5 c22 (i+0)=int i64 (intOf (nth c5 c22 (i+0))),∀(i:Nat),i<3->-c8<=intOf (nth c5 c22 (i+0))/\intOf (nth c5 c22 (i+0))<c8,jU 3 (eI fun i=>intOf (nth c5 c22 (i+0)))] (aj [dN n (fun i=>int i64 (z i)) c23,c20,c24,c18,-c4<=c3/\c3<c4] (leaf normal ([c11,c7,int i64 t,ak 3 3 fun i=>rat (fY 3 (eI fun i=>intOf (nth c5 c22 (i+0))) i) ag,int i64 c3],[(0,ax.mk false true 2 1 fun x=>agg [c13,int i64 (bM n c23)])])))) (aj [c12,(0:Int)<400,(400:Int)<c8,c19] (aj [c19,-c4<=1,(1:Int)<c4,c19,c15<2^41,(64:Nat)<2^41,(2:Nat)*3<=2^24] (aj [c21,c20,c24,c18,-c4<=c6/\c6<c4] (leaf normal ([c11,c7,int i64 t,own 69633 3 0 2,int i64 c6],[(69633,ax.mk true true 3 2 fun i=>nth [rat (-c14) 64,rat ((↑(1:Int):Rat)-c14) (c15+64+1)] (rat 0 1) i),(0,ax.mk false true 2 1 fun x=>agg [c13,int i64 c23])])))))))):=ah
theorem Uy {n:Nat} {z:Nat->Int} {a t r:Int} {p q:PP}:aH T pS [46] 60 oD [part qR [1,1,1,0,0]] ⟨aB oD (oR p q t r),jl n z a,1⟩=
  let c5:Nat:=q.fst-1;let c4:Nat:=p.fst-1;let c3:AV:=ptr 0 0 2 0 [];let c2:AV:=ak 3 q.fst fun i=>rat (q.snd i) ag;let c1:Nat×ax:=(0,ax.mk false true 2 1 fun x=>agg [ak 1 n fun i=>int i64 (z i),int i64 a]);some (fork (decide (r>0)) (aj [cZ (fun i=>rat (p.snd i) ag) p.fst ag,cZ (fun i=>rat (q.snd i) ag) q.fst ag,(1:Nat)<=p.fst,(1:Nat)<=q.fst,p.fst+q.fst<=42,B7 c4 c5 (fun i=>aQ (rat (p.snd i) ag)) fun i=>aQ (rat (q.snd i) ag)] (aj [-(2:Int)^63<=r-1/\r-1<(2:Int)^63] (leaf normal ([c3,ak 3 (c4+c5+1) fun i=>rat (j7 c4 c5 (fun i=>aQ (rat (p.snd i) ag)) (fun i=>aQ (rat (q.snd i) ag)) i) ag,int i64 t,c2,int i64 (r-1)],[c1])))) (leaf (exit 3) ([c3,ak 3 p.fst fun i=>rat (p.snd i) ag,int i64 t,c2,int i64 r],[c1]))):=ah
theorem abg {n:Nat} {z:Nat->Int} {a t r:Int} {p q:PP}:aH T pS [] 60 me [part qn [1,1]] ⟨aB oD (oR p q t r),jl n z a,1⟩=
  some (aj [-(2:Int)^63<=t-1/\t-1<(2:Int)^63] (leaf normal ([ptr 0 0 2 0 [],ak 3 p.fst fun i=>rat (p.snd i) ag,int i64 (t-1)],[(0,ax.mk false true 2 1 fun x=>agg [ak 1 n fun i=>int i64 (z i),int i64 a])]))):=ah
theorem UX {n:Nat} {z:Nat->Int} {a t:Int} {p:PP}:Bm T pS [] 60 f13 [part tC [1,1,1]] ⟨aB me (qO p t),jl n z a,1⟩=
  some (leaf ret ([ak 3 p.fst fun i=>rat (p.snd i) ag],some (ax.mk false true 2 1 fun x=>agg [ak 1 n fun i=>int i64 (z i),int i64 a]))):=ah
theorem ae2:bf P Iz 55:=by
 refine dc fun K args r hk hs _=>?_
 split at hs
 ·rename_i n f
  simp only[ay]at hs
  subst hs
  intro need
  obtain⟨h1,h2,h3,h4,h5⟩:=need
  exact gT (DG h1 h2 h4 h5 K) hk ⟨uZ rfl h3,trivial⟩ [] trivial
 ·simp at hs
theorem sD:bU P pS:=jq (aL Ey (aL ab1 (aL ae2 (aL adN (aL BT (aL aas iP))))))
theorem dN.poly {n:Nat} {f:Nat->AV} {a d:Int} (h:dN n f a):dN n f (tH n f a d):=h.next.numbers _
theorem dN.jT {n:Nat} {f:Nat->AV} {a:Int} (h:dN n f a):dN n f (jT n f a):=by
 unfold Go.Am.B.jT
 split
 ·exact h.next.poly
 ·split
  ·exact h.next.next.next
  ·exact h.next.next
theorem dN.fc {n:Nat} {f:Nat->AV} {a:Int} (h:dN n f a):∀i,dN n f (fc n f a i).2
 |0=>h.next
 |i+1=>(h.fc i).jT.next
theorem FJ {n i:Nat} {c d:Nat->Rat}:∀{k:Nat},(∀j,j<k->c j=d j)->kA n c i k=kA n d i k
 |0,_=>rfl
 |k+1,h=>by
  show kA n c i k+_*c k=kA n d i k+_*d k
  rw[FJ fun j hj=>h j aa,h k aa]
theorem abl {n i:Nat} {c d:Nat->Rat} (hi:i<n) (h:∀j,j<n->c j=d j):fY n c i=fY n d i:=FJ fun j hj=>h j aa
theorem jU.congr {n:Nat} {c d:Nat->Rat} (hz:jU n c) (h:∀j,j<n->c j=d j):jU n d:=fun i k hi hk=>by rw[<-FJ (c:=c) fun j hj=>h j aa];exact hz i k hi hk
theorem Er {x:Int} (h1:0<=x) (h2:x<3):i64.wrap (x.tdiv 2)=x/2:=by
 rw[Int.tdiv_eq_ediv_of_nonneg h1]
 exact wrap_i64 aa aa
theorem acE {k n:Nat} {z:Nat->Int} {a:Int} {o:ax} (ho:∀ρ,dL ρ o (pJ n z a)) (h:dN n (fun i=>.int .i64 (z i)) a) (hz:CV n (fun i=>.int .i64 (z i)) a) (K:Nat):
  aS P 13 K [.ptr k 0 2 0 []] [(k,o)] ⟨aG (lD n (fun i=>.int .i64 (z i)) a),[(k,pJ n z (EI n (fun i=>.int .i64 (z i)) a))],[]⟩:=by
 have hW:=cY
 refine LV hT Ny rfl rfl aZ ho (fun _ c hk=>?_) K
 obtain⟨f,hf⟩:∃f:Nat->AV,f=fun i=>.int .i64 (z i):=⟨_,rfl⟩
 rw[<-hf]at h hz ⊢
 refine au.Jm hT sD hm (x:=tC) [1,1] ah ah Ny.dst (f1:=[]) 60 [0,3] ⟨_,Xh,?_⟩
 simp only[af.all,az]
 refine⟨aa,fun s1 hv1=>?_⟩
 refine au.vg (kp:=[0]) hk (vs:=[.ptr 0 0 2 0 [],.own 1 3 0 1]) (ps:=[(1,⟨true,true,3,1,fun _=>.rat ((1:Int):Rat) (max 1 (bX (Int.natAbs 1)))⟩),(0,pJ n z a)]) (nx:=2) [(0,0),(1,8193)] hv1 rfl ⟨⟨rfl,iw rfl⟩,⟨rfl,ec rfl rfl rfl⟩,trivial⟩ (bk rfl rfl rfl (fun i hi=>by obtain rfl:i=0:=aa;exact bK rfl rfl) (dx trivial)) ?_
 refine au.dF (t:=3) (k:=1) rfl rfl rfl rfl ?_
 refine au.vg (kp:=[0]) hk (L:=[0,3]) (vs:=[.ptr 0 0 2 0 [],aG (fc n f a 0).1]) (ps:=jl n z a) (nx:=1) [(0,0)] rfl rfl ⟨⟨rfl,iw rfl⟩,⟨rfl,iS rfl (ir fun i hi=>dM rfl (by rw[hW];decide))⟩,trivial⟩ (dx trivial) ?_
 obtain⟨N,hN⟩:∃N,N=pI n f a:=⟨_,rfl⟩
 have a1:=jM (n:=n) (f:=f) (a:=a) (m:=4) aa
 have a2:=jL (n:=n) (f:=f) (a:=a) (m:=4) aa
 have hN2:cU n f a 4=(N:Int)-((0:Nat):Int):=by rw[hN];unfold pI;omega
 have hN3:N<=3:=aa
 refine au.Zf hT sD hm (x:=part tC [1,1]) [0,1] (i:=0) (y:=qn) (z:=part tC [1,1,1]) ah ah ah ah hk (f1:=[]) 60 me 1 (fun i:Nat=>qO (fc n f a i).1 ((N:Int)-i)) (fun i=>jl n z (fc n f a i).2) (fun i=>i<=N) (fun i=>i=N) (fun i=>N-i) (fun _=>False)
  ⟨_,Uf,?_⟩ (fun i hi=>?_) (fun i hi=>?_) (fun _ _ h=>h.elim)
 ·have hN4:cU n (fun i=>.int .i64 (z i)) a 4=(N:Int)-((0:Nat):Int):=by rw[<-hf];exact hN2
  simp only[af.all,az,hN4]
  exact⟨⟨hf▸h,aa,aa⟩,0,Nat.zero_le _,[(0,0)],rfl,rfl,rfl,dx trivial⟩
 ·have hS:=h.fc i
  obtain⟨b,hb⟩:∃b,b=(fc n f a i).2:=⟨_,rfl⟩
  obtain⟨p,hp⟩:∃p,p=(fc n f a i).1:=⟨_,rfl⟩
  rw[<-hb]at hS
  refine au.DA hT sD hm (y:=qn) [1,0] (j:=1) (x1:=qR) (zb:=part qn [1,1]) ah ah ah ah hk (f1:=[13]) 60 me 1 (fun _:Unit=>qO p ((N:Int)-i)) (fun _=>jl n z b) (fun _=>i<N) ⟨_,ac1,?_⟩ (fun _ hG=>?_)
  ·simp only[af.all,bD,bI]
   rw[hp,hb]
   refine⟨fun h2=>⟨(),aa,[(0,0)],rfl,rfl,rfl,dx trivial⟩,fun h2 s' hv=>⟨rfl,i,aa,dP.le ⟨[(0,0)],rfl,rfl,rfl,dx trivial⟩ hv hk⟩⟩
  ·obtain⟨z1,z2⟩:=hz i aa
   rw[<-hb,<-hp]at z2
   rw[<-hb]at z1
   obtain⟨q,hq⟩:∃q,q=r6 n f b:=⟨_,rfl⟩
   obtain⟨r,hr⟩:∃r,r=qv n f b:=⟨_,rfl⟩
   rw[<-hq,<-hr]at z2
   have b1:=jM (n:=n) (f:=f) (a:=jT n f b) (m:=3) aa
   have b2:=jL (n:=n) (f:=f) (a:=jT n f b) (m:=3) aa
   have hr2:(r:Int)=1+cU n f (jT n f b) 3/2:=by rw[hr];unfold qv;omega
   have key:au P c f13.ntmps (part qR [1,1,1]) ⟨aB oD (oR p q ((N:Int)-i) r),jl n z (oU n f b),1⟩ (inBlock 1 (fF (fun s'=>au P c f13.ntmps (part qn [1,1]) s' (nM c me (fun i:Nat=>qO (fc n f a i).1 ((N:Int)-i)) (fun i=>jl n z (fc n f a i).2) 1 (fun i=>i<=N) (fun i=>i=N) (fun i=>N-i) 0 (fun s'=>∃v,False/\bA me s'=some v) i)) (nM c me (fun i:Nat=>qO (fc n f a i).1 ((N:Int)-i)) (fun i=>jl n z (fc n f a i).2) 1 (fun i=>i<=N) (fun i=>i=N) (fun i=>N-i) 0 (fun s'=>∃v,False/\bA me s'=some v) i))):=by
    refine au.yS hT sD hm (x:=part qR [1,1,1]) [] (i:=3) (y:=part qR [1,1,1,0,0]) ah ah ah hk (f1:=[]) (f2:=[46]) 60 oD 1 (fun j:Nat=>oR (gY p q j) q ((N:Int)-i) ((r:Int)-j)) (fun _=>jl n z (oU n f b)) (fun j=>j<=r) (fun j=>j=r) (fun j=>r-j) (fun _=>False) ⟨_,ac6,?_⟩ (fun j hj=>⟨_,Uy,?_⟩) (fun j s' hj hle=>?_) (fun _ _ h=>h.elim)
    ·simp only[af.all]
     exact⟨0,Nat.zero_le _,[(0,0)],rfl,by show _=List.map (kO [(0,0)]) (oR p q ((N:Int)-i) ((r:Int)-((0:Nat):Int)));rw[show(r:Int)-((0:Nat):Int)=r by omega];rfl,rfl,dx trivial⟩
    ·simp only[af.all,az,bD,bI]
     refine⟨fun h2=>⟨⟨dU aT,dU aT,z2 j aa⟩,aa,j+1,aa,by dsimp only;omega,[(0,0)],rfl,?_,rfl,dx trivial⟩,fun h2=>⟨rfl,j,aa,[(0,0)],rfl,rfl,rfl,dx trivial⟩⟩
     rw[show(r:Int)-(j:Int)-1=(r:Int)-((j+1:Nat):Int) by omega];rfl
    ·subst hj
     show au P c _ (part qn [1,1]) s' _
     refine au.nB hle (au.bL hT sD hm 60 me abg ah ?_)
     have e1:(fc n f a (i+1)).1=gY p q j:=by show gY (fc n f a i).1 (r6 n f (fc n f a i).2) (qv n f (fc n f a i).2)=_;rw[<-hb,<-hp,<-hq,<-hr]
     have e2:(fc n f a (i+1)).2=oU n f b:=by show oU n f (fc n f a i).2=_;rw[<-hb]
     simp only[af.all,az]
     refine⟨aa,fun s'' hv=>⟨i+1,hG,by dsimp only;omega,dP.le ⟨[(0,0)],rfl,?_,rfl,?_⟩ hv hk⟩⟩
     ·show _=List.map (kO [(0,0)]) (qO (fc n f a (i+1)).1 ((N:Int)-((i+1:Nat):Int)))
      rw[e1,show(N:Int)-(i:Int)-1=(N:Int)-((i+1:Nat):Int) by omega];rfl
     ·show jG 1 [(0,0)] _ (jl n z (fc n f a (i+1)).2)
      rw[e2];exact dx trivial
   subst hf
   refine au.Jm hT sD hm (x:=qR) [1,1,1] ah ah ah (f1:=[27,31]) 60 oD ⟨_,TX,?_⟩
   simp only[af.all,az,beq_iff_eq,beq_eq_false_iff_ne,ne_eq]
   refine⟨⟨hS,aa,aa⟩,fun k0=>?_,fun k0=>⟨fun k1=>?_,fun k1=>?_⟩⟩
   ·have eB:tH n (fun i=>.int .i64 (z i)) (bM n b) 2=jT n (fun i=>.int .i64 (z i)) b:=(if_pos k0).symm
    have eq:q=(ru n (fun i=>.int .i64 (z i)) (bM n b) 2,sN n (fun i=>.int .i64 (z i)) (bM n b)):=by rw[hq];exact if_pos k0
    simp only[eB,Er b1 b2,<-hr2]
    refine⟨⟨hS.next,aa,aa⟩,⟨hS.jT,aa,aa,aa,aa⟩,fun s' hv=>?_⟩
    refine au.vg (kp:=[0]) hk (vs:=oR p q ((N:Int)-i) r) (ps:=jl n z (oU n (fun i=>.int .i64 (z i)) b)) (nx:=1) [(0,0)] hv rfl ⟨⟨rfl,iw rfl⟩,aP,aP,⟨rfl,iS rfl ?_⟩,aP,trivial⟩ (dx trivial) key
    rw[eq];exact ir fun i hi=>dM rfl aa
   ·have eB:bM n (bM n (bM n b))=jT n (fun i=>.int .i64 (z i)) b:=((if_neg k0).trans (if_pos k1)).symm
    have eq:q=(3,fY 3 (eI (gb n (fun i=>.int .i64 (z i)) (bM n b)))):=by rw[hq];exact(if_neg k0).trans (if_pos k1)
    have u1:=jM (n:=n) (f:=fun i=>.int .i64 (z i)) (a:=bM n b) (m:=4) aa
    have u2:=jL (n:=n) (f:=fun i=>.int .i64 (z i)) (a:=bM n b) (m:=4) aa
    have v1:=jM (n:=n) (f:=fun i=>.int .i64 (z i)) (a:=bM n (bM n b)) (m:=5) aa
    have v2:=jL (n:=n) (f:=fun i=>.int .i64 (z i)) (a:=bM n (bM n b)) (m:=5) aa
    have zz:∀j,j<3->intOf (nth [.int .i64 (0-cU n (fun i=>.int .i64 (z i)) (bM n b) 4),.int .i64 0,.int .i64 (1+cU n (fun i=>.int .i64 (z i)) (bM n (bM n b)) 5)] (.int .i64 0) (j+0))=gb n (fun i=>.int .i64 (z i)) (bM n b) j:=fun j hj=>by
     rcases(show j=0\/j=1\/j=2 by omega)with rfl|rfl|rfl
     ·show 0-_=-_;omega
     ·rfl
     ·rfl
    have zb:∀j,-2^62<=gb n (fun i=>.int .i64 (z i)) (bM n b) j/\gb n (fun i=>.int .i64 (z i)) (bM n b) j<2^62:=fun j=>by
     unfold gb;split
     ·omega
     ·split<;>omega
    have zc:∀j,j<3->eI (gb n (fun i=>.int .i64 (z i)) (bM n b)) j=eI (fun j=>intOf (nth [.int .i64 (0-cU n (fun i=>.int .i64 (z i)) (bM n b) 4),.int .i64 0,.int .i64 (1+cU n (fun i=>.int .i64 (z i)) (bM n (bM n b)) 5)] (.int .i64 0) (j+0))) j:=fun j hj=>by
     show((gb n _ (bM n b) j:Int):Rat)=((intOf _:Int):Rat)
     rw[zz j hj]
    simp only[eB,Er b1 b2,<-hr2,wrap_i64 (show-2^63<=0-cU n (fun i=>.int .i64 (z i)) (bM n b) 4 by omega) aa]
    refine⟨⟨hS.next,aa,aa,hS.next.next,aa,aa,aa,aa,aa,aa,fun j hj=>?_,fun j hj=>by rw[zz j hj];exact zb j,(z1 k1).congr zc⟩,⟨hS.jT,aa,aa,aa,aa⟩,fun s' hv=>?_⟩
    ·rcases(show j=0\/j=1\/j=2 by omega)with rfl|rfl|rfl<;>rfl
    ·refine au.vg (kp:=[0]) hk (vs:=oR p q ((N:Int)-i) r) (ps:=jl n z (oU n (fun i=>.int .i64 (z i)) b)) (nx:=1) [(0,0)] hv rfl ⟨⟨rfl,iw rfl⟩,aP,aP,⟨rfl,iS rfl ?_⟩,aP,trivial⟩ (dx trivial) key
     rw[eq];exact ir fun j hj=>dM (abl hj zc).symm aT
   ·have eB:bM n (bM n b)=jT n (fun i=>.int .i64 (z i)) b:=((if_neg k0).trans (if_neg k1)).symm
    have eq:q=(2,fun i=>if i=0 then-lY (cU n (fun i=>.int .i64 (z i)) (bM n b) 400)else 1-lY (cU n (fun i=>.int .i64 (z i)) (bM n b) 400)):=by rw[hq];exact(if_neg k0).trans (if_neg k1)
    have hb1:bX (Int.natAbs 1)=1:=by decide
    simp only[eB,Er b1 b2,<-hr2]
    refine⟨⟨hS.next,aa,aa,aa⟩,⟨aa,aa,aa,aa,by rw[hb1];omega,aa,aa⟩,⟨hS.jT,aa,aa,aa,aa⟩,fun s' hv=>?_⟩
    refine au.vg (kp:=[0]) hk (vs:=[.ptr 0 0 2 0 [],aG p,.int .i64 ((N:Int)-i),.own 1 3 0 2,.int .i64 r]) (ps:=[(1,⟨true,true,3,2,fun j=>.rat (q.2 j) ag⟩),(0,pJ n z (oU n (fun i=>.int .i64 (z i)) b))]) (nx:=2) [(0,0),(1,69633)] hv rfl ⟨⟨rfl,iw rfl⟩,aP,aP,⟨rfl,ec rfl rfl rfl⟩,aP,trivial⟩ (bk rfl rfl rfl (fun j hj=>?_) (dx trivial)) ?_
    ·rw[eq]
     rcases(show j=0\/j=1 by omega)with rfl|rfl
     ·exact .inr ⟨rfl,dM rfl aa⟩
     ·exact .inr ⟨rfl,dM rfl (by rw[hb1,hW];decide)⟩
    ·refine au.dF (t:=5) (k:=1) rfl rfl rfl rfl ?_
     refine au.vg (kp:=[0]) hk (L:=oD) (vs:=oR p q ((N:Int)-i) r) (ps:=jl n z (oU n (fun i=>.int .i64 (z i)) b)) (nx:=1) [(0,0)] rfl rfl ⟨⟨rfl,iw rfl⟩,aP,aP,⟨rfl,iS rfl ?_⟩,aP,trivial⟩ (dx trivial) key
     have e1:q.1=2:=by rw[eq]
     show bg (.ak 3 2 fun j=>.rat (q.2 (j+0)) ag) (.ak 3 q.1 fun j=>.rat (q.2 j) ag)
     rw[e1];exact ir fun j hj=>.refl _
 ·subst hi
  refine au.mQ (aF.N3 hT sD hm 60 UX ah ?_)
  simp only[af.all,az]
  exact⟨by unfold lD;rw[<-hN];exact .refl _,_,rfl,rfl,wB rfl (by unfold EI;rw[<-hN])⟩
theorem ahr:bf P (mH DW) 13:=by
 refine C4 fun {k n z a l v b q o} K hg ho hd hq=>?_
 unfold DW at hg
 split at hg
 ·simp only[ay,Prod.mk.injEq]at hg
  obtain⟨rfl,rfl,rfl⟩:=hg
  exact acE ho hd hq K
 ·simp at hg
theorem afi {n:Nat} {f:Nat->AV} {a:Int}:cj 12 7 (r9 n f a):=by
 have x1:=jM (n:=n) (f:=f) (a:=a) (m:=13) aa
 have x2:=jL (n:=n) (f:=f) (a:=a) (m:=13) aa
 unfold r9
 generalize cU n f a 13=x at*
 split
 ·have w1:=jM (n:=n) (f:=f) (a:=bM n (bM n a)) (m:=4) aa
  have w2:=jL (n:=n) (f:=f) (a:=bM n (bM n a)) (m:=4) aa
  generalize cU n f (bM n (bM n a)) 4=w at*
  rcases(show w=0\/w=1\/w=2\/w=3 by omega)with rfl|rfl|rfl|rfl
  ·refine⟨(x-6)*12,?_,aa⟩
   rw[Rat.intCast_mul,Rat.div_def,Rat.mul_assoc,show(((1+0:Int):Rat)⁻¹*((12:Int):Rat))=((12:Int):Rat) by decide+kernel]
  ·refine⟨(x-6)*6,?_,aa⟩
   rw[Rat.intCast_mul,Rat.div_def,Rat.mul_assoc,show(((1+1:Int):Rat)⁻¹*((12:Int):Rat))=((6:Int):Rat) by decide+kernel]
  ·refine⟨(x-6)*4,?_,aa⟩
   rw[Rat.intCast_mul,Rat.div_def,Rat.mul_assoc,show(((1+2:Int):Rat)⁻¹*((12:Int):Rat))=((4:Int):Rat) by decide+kernel]
  ·refine⟨(x-6)*3,?_,aa⟩
   rw[Rat.intCast_mul,Rat.div_def,Rat.mul_assoc,show(((1+3:Int):Rat)⁻¹*((12:Int):Rat))=((3:Int):Rat) by decide+kernel]
 ·exact⟨(x-6)*12,by rw[Rat.intCast_mul],aa⟩
theorem afo {n:Nat} {f:Nat->AV} {a:Int} {m:Nat}:dn m (sN n f a) 7:=⟨12,by decide,by decide,fun _ _=>afi⟩
theorem GF {n:Nat} {f:Nat->AV} {b:Int} (i:Nat):-5<=gb n f b i/\gb n f b i<=5:=by
 have u1:=jM (n:=n) (f:=f) (a:=b) (m:=4) aa
 have u2:=jL (n:=n) (f:=f) (a:=b) (m:=4) aa
 have v1:=jM (n:=n) (f:=f) (a:=bM n b) (m:=5) aa
 have v2:=jL (n:=n) (f:=f) (a:=bM n b) (m:=5) aa
 unfold gb
 split
 ·omega
 ·split<;>omega
theorem Wz {n:Nat} {f:Nat->AV} {b:Int} {m:Nat}:dn m (eI (gb n f b)) 3:=⟨1,by decide,by decide,fun i _=>cj.int (by have:=GF (n:=n) (f:=f) (b:=b) i;omega)⟩
theorem acY {n:Nat} {f:Nat->AV} {b:Int}:jU 3 (eI (gb n f b)):=fun i k hi hk=>(M5 Wz hi aa).more (by have:=cY;omega)
theorem agf {n:Nat} {f:Nat->AV} {b:Int}:dn 3 (fY 3 (eI (gb n f b))) 7:=by
 have h1:gb n f b 1=0:=rfl
 have e0:fY 3 (eI (gb n f b)) 0=((gb n f b 0:Int):Rat):=by
  show 0+bq 0 0/bq 2 0*eI (gb n f b) 0=_
  rw[show bq 0 0/bq 2 0=1 by decide+kernel];unfold eI;grind
 have e1:fY 3 (eI (gb n f b)) 1=((gb n f b 0:Int):Rat):=by
  show 0+bq 1 0/bq 2 0*eI (gb n f b) 0+bq 1 1/bq 2 1*eI (gb n f b) 1=_
  rw[show bq 1 0/bq 2 0=1 by decide+kernel,show eI (gb n f b) 1=0 from by unfold eI;rw[h1];rfl];unfold eI;grind
 have e2:fY 3 (eI (gb n f b)) 2=((gb n f b 0+gb n f b 2:Int):Rat):=by
  show 0+bq 2 0/bq 2 0*eI (gb n f b) 0+bq 2 1/bq 2 1*eI (gb n f b) 1+bq 2 2/bq 2 2*eI (gb n f b) 2=_
  rw[show bq 2 0/bq 2 0=1 by decide+kernel,show bq 2 2/bq 2 2=1 by decide+kernel,show eI (gb n f b) 1=0 from by unfold eI;rw[h1];rfl,Rat.intCast_add];unfold eI;grind
 have z0:=GF (n:=n) (f:=f) (b:=b) 0
 have z2:=GF (n:=n) (f:=f) (b:=b) 2
 refine⟨1,by decide,by decide,fun i hi=>?_⟩
 rcases(show i=0\/i=1\/i=2 by omega)with rfl|rfl|rfl
 ·rw[e0];exact cj.int aa
 ·rw[e1];exact cj.int aa
 ·rw[e2];exact cj.int aa
theorem acv {d:Int}:1<=jg d/\jg d<=12/\0<=d%(jg d+1)/\d%(jg d+1)<=jg d:=by
 have h1:0<=i64.wrap (d.tdiv 17)%12:=Int.emod_nonneg _ aa
 have h2:i64.wrap (d.tdiv 17)%12<12:=Int.emod_lt_of_pos _ aa
 have hM:jg d=1+i64.wrap (d.tdiv 17)%12:=rfl
 have h3:0<=d%(jg d+1):=Int.emod_nonneg _ aa
 have h4:d%(jg d+1)<jg d+1:=Int.emod_lt_of_pos _ aa
 omega
theorem adu {d:Int}:dn 2 (fun i=>if i=0 then-lY d else 1-lY d) 7:=by
 obtain⟨p1,p2,p3,p4⟩:=acv (d:=d)
 have hne:((jg d:Int):Rat)≠0:=pO aa
 have e:lY d*((jg d:Int):Rat)=((d%(jg d+1):Int):Rat):=by
  unfold lY
  rw[Rat.div_def,Rat.mul_assoc,Rat.mul_comm _ ((jg d:Int):Rat),Rat.mul_inv_cancel _ hne,Rat.mul_one]
 refine⟨jg d,aa,aa,fun i hi=>?_⟩
 rcases(show i=0\/i=1 by omega)with rfl|rfl
 ·refine⟨-(d%(jg d+1)),?_,aa⟩
  show _=-lY d*_
  rw[Rat.intCast_neg,Rat.neg_mul,e]
 ·refine⟨jg d-d%(jg d+1),?_,aa⟩
  show _=(1-lY d)*_
  rw[Rat.intCast_sub,Rat.sub_eq_add_neg,Rat.sub_eq_add_neg,Rat.add_mul,Rat.one_mul,Rat.neg_mul,e]
theorem yp {n:Nat} {f:Nat->AV} {a:Int}:qY (r6 n f a):=by
 unfold r6
 split
 ·have u1:=jM (n:=n) (f:=f) (a:=bM n a) (m:=2+1) aa
  have u2:=jL (n:=n) (f:=f) (a:=bM n a) (m:=2+1) aa
  exact⟨Nat.succ_pos _,by show(cU n f (bM n a) (2+1)).toNat+1<=3;omega,afo⟩
 ·split
  ·exact⟨by show 1<=3;omega,aT,agf⟩
  ·exact⟨by show 1<=2;omega,by show 2<=3;omega,adu⟩
theorem G9 {n:Nat} {f:Nat->AV} {a:Int}:1<=qv n f a/\qv n f a<=2:=by
 have u1:=jM (n:=n) (f:=f) (a:=jT n f a) (m:=3) aa
 have u2:=jL (n:=n) (f:=f) (a:=jT n f a) (m:=3) aa
 unfold qv
 omega
theorem xA {n:Nat} {f:Nat->AV} {a:Int}:∀i,i<=3->oZ i (fc n f a i).1
 |0,_=>oZ.one
 |i+1,h=>(xA i aa).step yp aa G9
theorem DH {n:Nat} {f:Nat->AV} {a:Int}:pI n f a<=3:=by
 have u1:=jM (n:=n) (f:=f) (a:=a) (m:=4) aa
 have u2:=jL (n:=n) (f:=f) (a:=a) (m:=4) aa
 unfold pI;omega
theorem U6 {p q:PP} {s:Nat} (hp:1<=p.1) (lp:p.1<=11) (hb:Bd p s) (hs:s<=1400) (hq:qY q):JE p q:=by
 have hW:=cY
 have h1:=hq.lo
 have h2:=hq.hi
 have hb2:dn (p.1-1+1) p.2 s:=by rw[show p.1-1+1=p.1 by omega];exact hb
 have hb3:dn (q.1-1+1) q.2 7:=by rw[show q.1-1+1=q.1 by omega];exact hq.bd
 have h5:p.1-1+(q.1-1)<=12:=aa
 have h6:(p.1-1+(q.1-1)+1)*(p.1-1+(q.1-1))<=13*12:=Nat.mul_le_mul aa h5
 exact⟨hp,h1,aa,fun i j k hi hj hk=>(acn aa hb2 hb3 hi hj).more aa,fun k hk=>((Lb aa hb2 hb3).sz hk).more aa⟩
theorem W6 {n:Nat} {f:Nat->AV} {a:Int}:CV n f a:=fun i hi=>by
 have hN:=DH (n:=n) (f:=f) (a:=a)
 refine⟨fun _=>acY,fun j hj=>?_⟩
 have h:=xA (n:=n) (f:=f) (a:=a) i aa
 have hr:=G9 (n:=n) (f:=f) (a:=(fc n f a i).2)
 have h1:=h.hi
 have hl:=Ah h.lo (yp (n:=n) (f:=f) (a:=(fc n f a i).2)) j
 exact U6 hl.1 aa (F4 h.lo yp h.bd j aa) aa yp
structure nW (p:PP):Prop where
 lo:1<=p.1
 hi:p.1<=13
 bd:Bd p 1200
 gd:jN (aJ p)
theorem Iu {n:Nat} {f:Nat->AV} {a:Int}:nW (lD n f a):=by
 have hN:=DH (n:=n) (f:=f) (a:=a)
 have h:=xA (n:=n) (f:=f) (a:=a) (pI n f a) hN
 have h1:=h.hi
 exact⟨h.lo,Nat.le_trans h1 aa,Bd.more h.bd aa,h.gd hN⟩
theorem nW.of {p:PP} (h:nW p):mJ p:=by
 have hW:=cY
 have h1:=h.hi
 refine⟨h.lo,aa,fun k i hi=>?_,kT (E8 h.bd) aa⟩
 obtain⟨D,d1,d2,d3⟩:=h.bd
 exact((Bv d3 k i hi).sz d1 d2).more aa
theorem nW.pos {p:PP} (_h:nW p) (h0:(aJ p).1≠0):0<(aJ p).1:=Nat.pos_of_ne_zero h0
theorem nW.cnt {p:PP} (h:nW p) {a b:Rat} {A B:Int} (ha:cj A 63 a) (hA:A.natAbs<=2^63) (hA0:A≠0) (hb:cj B 63 b) (hB:B.natAbs<=2^63) (hB0:B≠0):A8 p a b/\VJ p a b:=by
 refine⟨⟨h.of,fun h0=>?_⟩,⟨h.of,fun h0=>?_⟩⟩
 ·have hp:=h.pos h0
  have hl:=Bo h.gd hp
  exact⟨(Cr h.gd hp).1,aa,uU h.gd hp ha hA hA0 aa,uU h.gd hp hb hB hB0 aa⟩
 ·have hp:=h.pos h0
  have hl:=Bo h.gd hp
  exact⟨(Cr h.gd hp).2,aa,uU h.gd hp ha hA hA0 aa,uU h.gd hp hb hB hB0 aa⟩
def BH:bz:=[sG,(156,Fh)]
theorem WO:bU P BH:=Aw (aL Ja cG)
theorem Kn.congr {n p:Nat} {k k':Nat->Rat} (h:Kn n p k) (e:∀i,i<n->k i=k' i):Kn n p k':=by
 have hp:=h.p1
 have hl:=h.len
 refine⟨h.p1,h.len,fun i hi=>?_,fun i hi=>?_,fun i h1 h2=>?_,fun i h1 h2=>?_⟩
 ·rw[<-e i aa,<-e (i+1) hi];exact h.sorted i hi
 ·rw[<-e i aa,<-e 0 aa];exact h.first i hi
 ·rw[<-e i h2,<-e (n-1) aa];exact h.last i h1 h2
 ·rw[<-e i aa,<-e (i+p) aa];exact h.mult i h1 h2
def zA (i:Nat):Int:=if i=1 then 1 else if i=2 then-4 else if i=3 then 4 else 0
def pA:PP:=(4,fY 4 (eI zA))
def yT (i:Nat):Int:=if i=0 then-2 else if i=2 then 1 else 0
def pB:PP:=(3,fY 3 (eI yT))
def LY:Spec:=cw fun l=>match l with
 |[.mag 0]=>some (aM (.str [48]) [])
 |[.mag 1]=>some (aM (.str [49]) [])
 |_=>none
def A2:bz:=[sG,(113,LY)]
def Py (q:Rat):List UInt8:=if q=0 then [48]else [49]
def PZ:Spec:=cw fun l=>match l with
 |[.rat q _]=>some (aM (.str (Py q)) [q=0\/q=1])
 |_=>none
def Ip:Spec:=en (kC (kL ag) (kC (eZ ag) (kC (eZ ag) kN))) (fun a=>.tuple [.int .i64 (uj a.1 a.2.1 a.2.2.1),.int .i64 (p6 a.1 a.2.1 a.2.2.1)]) fun a=>[A8 a.1 a.2.1 a.2.2.1]
def Lw:Spec:=cw fun l=>match l with
 |[.ak 1 4 f]=>some (aM (aG pA) [f 0=.int .i64 0,f 1=.int .i64 1,f 2=.int .i64 (-4),f 3=.int .i64 4])
 |[.ak 1 3 f]=>some (aM (aG pB) [f 0=.int .i64 (-2),f 1=.int .i64 0,f 2=.int .i64 1])
 |_=>none
def M0:bz:=nG::(55,Lw)::(18,FZ 1)::(16,Ip)::(56,PZ)::iK
theorem UF:br 12 f12:=bu func12
theorem UY:cB T BH [] 60 f113 (aI f113) ⟨aU 0 [.mag 0],[],0⟩=
  some (leaf ret [str [(48:UInt8)]]):=ah
theorem ago:cB T BH [] 60 f113 (aI f113) ⟨aU 0 [.mag 1],[],0⟩=
  let c1:Int:=(↑(1:Nat):Int);some (aj [nl 1<2^40,(0:Int)<1000000000,(1000000000:Int)<2^32] (aj [(10:Int)≠(0:Int),(0:Nat)<1/\1*((1:Nat)+1)*2<=2^47] (aj [(10:Int)≠(0:Int)] (aj [(0:Int)<=c1/\c1<=c1/\c1<=2^47/\c1*c1<=2^47] (leaf ret [str [UInt8.ofNat (u8.wrap (u32.wrap ((48:Int)+(↑((1:Nat)%Int.toNat (1000000000:Int)):Int).tmod (10:Int)))).toNat]]))))):=ah
theorem QZ:cB T A2 [] 60 f56 (aI f56) ⟨aU 0 [.agg [.bool false,.mag 0,.mag 0]],[],0⟩=
  some (leaf ret [str [(48:UInt8)]]):=ah
theorem RS:cB T A2 [] 60 f56 (aI f56) ⟨aU 0 [.agg [.bool false,.mag 1,.mag 0]],[],0⟩=
  some (leaf ret [str [(49:UInt8)]]):=ah
theorem ahF:cB T M0 [100021,100025,100029,100034,100041,100048,100057] 200 f12 (aI f12) ⟨aU 0 [],[],0⟩=
  let c14:Rat:=jf 0 1;let c13:Rat:=(↑(2:Int):Rat);let c12:Rat:=jc 0 1;let c11:AV:=int i64 1;let c9:Int:=(-2:Int);let c8:Int:=(2:Int)^63;let c7:Nat:=bH (gk 4 fun i=>aQ (rat (fY 4 (eI zA) i) ag)) 4;let c5:Nat×(Nat->Rat):=((3:Nat),fun i=>aQ (rat (fY 3 (eI yT) i) ag));let c3:AV:=int i64 0;let c1:Nat×(Nat->Rat):=((4:Nat),fun i=>aQ (rat (fY 4 (eI zA) i) ag));let c10:Nat:=(fk 1 c1).length;let c6:List AV:=[int i64 c9,c3,c11];let c2:List AV:=[c3,c11,int i64 (-4:Int),int i64 4];let c4:Prop:=(0:Int)<=1/\Int.toNat (1:Int)<c10;some (aj [(4:Nat)*1<=2^24,nth c2 c3 ((0:Nat)+0)=c3,nth c2 c3 ((1:Nat)+0)=c11,nth c2 c3 ((2:Nat)+0)=int i64 (-4:Int),nth c2 c3 ((3:Nat)+0)=int i64 4,cZ (fun i=>rat (fY 4 (eI zA) i) ag) 4 ag,wA 1 c1] (aj [(3:Nat)*1<=2^24,nth c6 c3 ((0:Nat)+0)=int i64 c9,nth c6 c3 ((1:Nat)+0)=c3,nth c6 c3 ((2:Nat)+0)=c11,-c8<=c9,c9<c8,-c8<=2,(2:Int)<c8,cZ (fun i=>rat (fY 3 (eI yT) i) ag) 3 ag,Max.max 1 (bX c9.natAbs)<=ag,Max.max 1 (bX (Int.natAbs (2:Int)))<=ag,A8 c5 (↑c9:Rat) c13] (aj [((if c7=0 then(3:Int)else(0:Int))==0)=true,(bif true then p6 c5 (↑c9:Rat) c13==0 else false)=true,(bif true then uj c5 (↑c9:Rat) c13==2 else false)=true,(bif true then(↑c10:Int)==2 else false)=true,(0:Int)<=0/\Int.toNat (0:Int)<c10,(bif true then(↑(kJ 1 c1 (Int.toNat (0:Int))):Int)==1 else false)=true,c4,(bif true then(↑(kJ 1 c1 (Int.toNat (1:Int))):Int)==2 else false)=true,c4,c12=0\/c12=1,(bif true then Py c12==[(48:UInt8)]else false)=true,c4,c14=0\/c14=1] (leaf ret [AV.bool true])))):=ah
theorem aeY:bf P LY 113:=by
 refine dc fun K args r hk hs _=>?_
 have fin:∀{N:Nat} {t:af (List AV)} {l:List UInt8},cB T BH [] 60 f113 (aI f113) ⟨aU 0 [.mag N],[],0⟩=some t->(t.all fun _ us=>gJ us (.str l))->aS P 113 K [.mag N] [] (aM (.str l) []):=fun h1 h2=>
  cF (r:=aM _ []) hT WO hm aeX rfl aZ rfl 60 h1 (fun _=>h2) K []
 split at hs<;>simp only[ay,reduceCtorEq]at hs
 all_goals subst hs
 ·exact fin UY (.refl _)
 ·exact fin ago (by simp only[af.all,az];exact⟨by decide,by decide,by decide,by decide,.refl _⟩)
theorem abQ:bU P A2:=Aw (aL aeY cG)
theorem Wo:bf P PZ 56:=by
 refine dc fun K args r hk hs _=>?_
 have fin:∀{q:Rat} {n a b:Nat} {t:af (List AV)} {l:List UInt8},kids (.rat q n)=[.bool false,.mag a,.mag b]->cB T A2 [] 60 f56 (aI f56) ⟨aU 0 [.agg [.bool false,.mag a,.mag b]],[],0⟩=some t->(t.all fun _ us=>gJ us (.str l))->aS P 56 K [.rat q n] [] (aM (.str l) []):=fun h0 h1 h2=>
  gT (cF (r:=aM _ []) hT abQ hm Wg rfl aZ rfl 60 h1 (fun _=>h2) K []) rfl (show g7 [_] [_]from⟨by rw[<-h0];exact Ox,trivial⟩) []
 split at hs
 ·rename_i q n
  simp only[ay]at hs
  subst hs
  intro need
  have need:q=0\/q=1:=need
  rcases need with rfl|rfl
  ·exact fin (l:=[48]) ah QZ (.refl _) trivial
  ·exact fin (l:=[49]) ah RS (.refl _) trivial
 ·simp at hs
theorem Xd:bf P Ip 16:=dO fun⟨_,_,_,_⟩ K hn=>TO hn K
theorem JR {n s:Nat} {c:Nat->Rat} (h:dn n c s):dn n (fY n c) (s+n*n+2*n):=by
 obtain⟨D,d1,d2,d3⟩:=h
 have h2:=A4 (N:=n-1) (n-1+1)
 rcases Nat.eq_zero_or_pos n with h0|h0
 ·exact⟨1,by decide,Nat.one_le_two_pow,fun i hi=>aa⟩
 have h3:(n-1+1)*(n-1)<=n*n:=Nat.mul_le_mul aa aa
 have h4:=mI d2 (show((jz (n-1) (n-1+1):Nat):Int).natAbs<=2^((n-1+1)*(n-1)) by rw[Int.natAbs_natCast];exact zC _)
 exact⟨_,Int.mul_ne_zero d1 aa,Nat.le_trans h4 (Nat.pow_le_pow_right (by decide) aa),fun i hi=>(HB d3 hi (i+1) aa).more aa⟩
theorem I9 {c:PP} (t:Trim c) (hl:c.1<=7) (hb:Bd c 156):jN c:=⟨t,aa,hb,gW,c,⟨fun t=>by rw[jm,Rat.one_mul],⟨aW c,fun t=>by rw[jm,Rat.one_mul]⟩⟩,Nat.le_trans k9 hl⟩
theorem Kp {p:PP} (h1:1<=p.1) (h2:p.1<=7) (hb:Bd p 100):nW p:=
 ⟨h1,aa,hb.more aa,I9 mu (Nat.le_trans fE h2) (dn.short ((E8 hb).more aa) fE)⟩
theorem Jq:dn 4 (eI zA) 3:=⟨1,by decide,by decide,fun i hi=>cj.int (by
 rcases(show i=0\/i=1\/i=2\/i=3 by omega)with rfl|rfl|rfl|rfl<;>decide)⟩
theorem Jw:dn 3 (eI yT) 3:=⟨1,by decide,by decide,fun i hi=>cj.int (by
 rcases(show i=0\/i=1\/i=2 by omega)with rfl|rfl|rfl<;>decide)⟩
theorem HP:nW pA:=Kp (by show 1<=4;omega) (by show 4<=7;omega) (dn.more (n:=4) (JR Jq) (by decide))
theorem acK:nW pB:=Kp (by show 1<=3;omega) (by show 3<=7;omega) (dn.more (n:=3) (JR Jw) (by decide))
theorem O7 {n s:Nat} {c:Nat->Rat} (h:dn n c s) (hs:2*(s+n*n+2*n)+2<=ag):jU n c:=fun i k hi hk=>(M5 h hi aa).more hs
theorem YY:bf P Lw 55:=by
 have hW:=cY
 refine dc fun K args r hk hs _=>?_
 split at hs
 ·rename_i f
  simp only[ay]at hs
  subst hs
  intro need
  obtain⟨n0,n1,n2,n3⟩:=need
  refine gT (DG (z:=zA) aa aa (fun i hi=>?_) (O7 Jq aa) K) hk ⟨uZ rfl fun i hi=>?_,trivial⟩ [] trivial
  ·rcases(show i=0\/i=1\/i=2\/i=3 by omega)with rfl|rfl|rfl|rfl<;>decide
  ·rcases(show i=0\/i=1\/i=2\/i=3 by omega)with rfl|rfl|rfl|rfl
   ·exact n0
   ·exact n1
   ·exact n2
   ·exact n3
 ·rename_i f
  simp only[ay]at hs
  subst hs
  intro need
  obtain⟨n0,n1,n2⟩:=need
  refine gT (DG (z:=yT) aa aa (fun i hi=>?_) (O7 Jw aa) K) hk ⟨uZ rfl fun i hi=>?_,trivial⟩ [] trivial
  ·rcases(show i=0\/i=1\/i=2 by omega)with rfl|rfl|rfl<;>decide
  ·rcases(show i=0\/i=1\/i=2 by omega)with rfl|rfl|rfl
   ·exact n0
   ·exact n1
   ·exact n2
 ·simp at hs
theorem aea {τ:Nat}:cj 1 τ 0:=.zero
theorem agJ {τ:Nat}:cj 1 τ 1:=⟨1,by decide+kernel,Nat.one_le_two_pow⟩
theorem xX {c:PP} (h:jN c) (h0:0<c.1):cL (b7 c) (bS c) 0:=uU h h0 (τ:=1) aea (by decide) (by decide) aa
theorem Gg {c:PP} (h:jN c) (h0:0<c.1):cL (b7 c) (bS c) 1:=uU h h0 (τ:=1) agJ (by decide) (by decide) aa
theorem OT {c:PP} (h:jN c) (h0:0<c.1):C7 c:=⟨(Bp h h0).1.2.2.1,((Bp h h0).1.2.2.2 aa).1⟩
theorem agk:wA 1 pA:=by
 refine⟨HP.of,fun h0=>?_⟩
 have hp:=HP.pos h0
 have hg:=HP.gd
 have hl:fk 1 pA=[(0,0),(0,1)]:=by decide+kernel
 have hb:eW (b7 (aJ pA)) (bS (aJ pA)) 0 1=1:=by decide+kernel
 have hs:=Bo hg hp
 refine⟨(Cr hg hp).1,aa,xX hg hp,Gg hg hp,⟨xX hg hp,Gg hg hp,fun _ h1=>absurd hb h1⟩,by rw[hl];decide,OT hg hp,fun j hj=>?_⟩
 have h1:∀j,(eH (aJ pA) (j+1)).1<=1:=by
  intro j
  induction j with
  |zero=>decide+kernel
  |succ j ih=>exact Nat.le_trans (ya (s9 mu _)) ih
 cases j with
 |succ j=>exact absurd (h1 j) aa
 |zero=>
  have hgd:jN (eH (aJ pA) 0):=I9 (s9 mu 0) (by decide+kernel) ⟨2,by decide,by decide,fun i hi=>by
   have hi:i<2:=Nat.lt_of_lt_of_le hi (by decide+kernel)
   rcases(show i=0\/i=1 by omega)with rfl|rfl
   ·exact⟨-1,by decide+kernel,by decide⟩
   ·exact⟨2,by decide+kernel,by decide⟩⟩
  have hp2:0<(eH (aJ pA) 0).1:=aa
  have hs2:=Bo hgd hp2
  refine⟨OT hgd hp2,(Cr hgd hp2).1,aa,fun i hi=>?_⟩
  rw[hl]at hi ⊢
  have hi:i<2:=hi
  rcases(show i=0\/i=1 by omega)with rfl|rfl
  ·exact⟨xX hgd hp2,xX hgd hp2⟩
  ·exact⟨xX hgd hp2,Gg hgd hp2⟩
theorem ahk:bU P M0:=jq (aL YY (aL (N8 1) (aL Xd (aL Wo iP))))
theorem acZ (K:Nat):aS P 12 K [] [] (aM (.bool true) []):=by
 have hW:=cY
 refine cF (r:=aM (.bool true) []) hT ahk hm UF rfl aZ rfl 200 ahF (fun _=>?_) K []
 simp only[af.all,az]
 refine⟨⟨aa,rfl,rfl,rfl,rfl,dU aT,agk⟩,⟨aa,rfl,rfl,rfl,aa,aa,aa,aa,dU aT,by rw[hW];decide,by rw[hW];decide,?_⟩,⟨by decide+kernel,by decide+kernel,by decide+kernel,by decide+kernel,by decide+kernel,by decide+kernel,by decide+kernel,by decide+kernel,by decide+kernel,by decide+kernel,by decide+kernel,by decide+kernel,by decide+kernel⟩,.refl _⟩
 exact(acK.cnt (A:=1) (B:=1) ⟨-2,by decide+kernel,by decide⟩ (by decide) (by decide) ⟨2,by decide+kernel,by decide⟩ (by decide) (by decide)).1
def Mb:Spec:=cw fun l=>match l with
 |[]=>some (aM (.bool true) [])
 |_=>none
theorem S7:bf P Mb 12:=by
 refine dc fun K args r hk hs _=>?_
 split at hs
 ·simp only[ay]at hs
  subst hs
  exact acZ K
 ·simp at hs
end Go.Am.B
namespace Go.Am
def Bz (g a b:PP):Prop:=∃u v:PP,∀t,aC g t=aC u t*aC a t+aC v t*aC b t
def tZ:PP:=(0,fun _=>0)
theorem Ba {t:Rat}:aC tZ t=0:=rfl
theorem Bz.left (a b:PP):Bz a a b:=⟨gW,tZ,fun t=>by rw[jm,Ba];grind⟩
theorem Bz.right (a b:PP):Bz b a b:=⟨tZ,gW,fun t=>by rw[jm,Ba];grind⟩
theorem Bz.rem {x y a b:PP} (hx:Bz x a b) (hy:Bz y a b) (h0:0<y.1):Bz (dj x y) a b:=by
 obtain⟨u,v,h1⟩:=hx
 obtain⟨w,z,h2⟩:=hy
 refine⟨g8 u (gi (-1) (bZ (fA x y) w)),g8 v (gi (-1) (bZ (fA x y) z)),fun t=>?_⟩
 have h3:=v9 (a:=x) (d:=y) h0 t
 rw[ja,ja,fV,fV,cr,cr]
 rw[h1,h2]at h3
 grind
theorem Bz.sC {x y a b:PP} (hx:Bz x a b) {r:Rat} (e:∀t,aC y t=r*aC x t):Bz y a b:=by
 obtain⟨u,v,h1⟩:=hx
 exact⟨gi r u,gi r v,fun t=>by rw[e,fV,fV,h1];grind⟩
theorem Kw {a b:PP}:∀j,Bz (bQ (a,b) j).1 a b/\Bz (bQ (a,b) j).2 a b
 |0=>⟨.left a b,.right a b⟩
 |j+1=>by
  obtain⟨i1,i2⟩:=Kw (a:=a) (b:=b) j
  show Bz (fL _).1 a b/\Bz (fL _).2 a b
  unfold fL
  by_cases h0:(bQ (a,b) j).2.1=0
  ·rw[if_pos h0];exact⟨i1,i2⟩
  ·rw[if_neg h0];exact⟨i2,(i1.rem i2 (by omega)).sC fun _=>wU⟩
theorem HX (a b:PP):Bz (bR a b) a b:=(Kw (a:=a) (b:=b) _).1.sC fun _=>wU
def iZ (a b:PP):Prop:=∃u v:PP,∀t,aC u t*aC a t+aC v t*aC b t=1
theorem iZ.symm {a b:PP} (h:iZ a b):iZ b a:=by
 obtain⟨u,v,h⟩:=h
 exact⟨v,u,fun t=>by rw[Rat.add_comm];exact h t⟩
theorem iZ.dv {a b c w:PP} (h:iZ a b) (hd:∀t,aC b t*aC c t=aC a t*aC w t):Dv a c:=by
 obtain⟨u,v,h⟩:=h
 refine⟨g8 (bZ c u) (bZ v w),fun t=>?_⟩
 have h1:=h t
 have h2:=hd t
 rw[ja,cr,cr]
 grind
theorem iZ.CH {a b d:PP} (h:iZ a b) (hd:Dv d a):iZ d b:=by
 obtain⟨u,v,h⟩:=h
 obtain⟨w,hw⟩:=hd
 exact⟨bZ u w,v,fun t=>by rw[cr,<-h t,hw];grind⟩
theorem pK {a:PP} (ha:Trim a) (h:∀t,aC a t=0):a.1=0:=by
 have h1:=zJ (b:=tZ) ha (tD fun t=>by rw[h];rfl)
 exact Nat.le_zero.1 h1
theorem Oz {g d:PP} (h0:0<g.1) (tg:Trim g) (h:∀t,aC g t*aC d t=0) (t:Rat):aC d t=0:=by
 rw[<-eu]
 rcases Nat.eq_zero_or_pos (ct d).1 with h1|h1
 ·exact jx h1 t
 ·have h2:=JY h0 h1 tg fO
  refine absurd ?_ h2
  rw[tD (b:=tZ) fun t=>by rw[cr,eu,h];rfl];rfl
theorem C0 {g a b:PP} (h0:0<g.1) (tg:Trim g) (h:∀t,aC g t*aC a t=aC g t*aC b t) (t:Rat):aC a t=aC b t:=by
 have h1:=Oz (d:=g8 a (gi (-1) b)) h0 tg (fun t=>by rw[ja,fV];have:=h t;grind) t
 rw[ja,fV]at h1;grind
theorem DT {a b:PP} (ta:Trim a) (tb:Trim b) (h0:0<a.1):∃a1 b1:PP,(∀t,aC a t=aC (bR a b) t*aC a1 t)/\(∀t,aC b t=aC (bR a b) t*aC b1 t)/\iZ a1 b1:=by
 obtain⟨⟨a1,h1⟩,⟨b1,h2⟩⟩:=rR ta tb
 obtain⟨u,v,h3⟩:=HX a b
 refine⟨a1,b1,h1,h2,u,v,fun t=>?_⟩
 have:=C0 (g:=bR a b) (a:=g8 (bZ u a1) (bZ v b1)) (b:=gW) (mM h0) (j8 ta tb) (fun t=>by
  rw[ja,cr,cr,jm,Rat.mul_one]
  have e1:=h1 t
  have e2:=h2 t
  have e3:=h3 t
  generalize aC (bR a b) t=G at*
  rw[e1,e2]at e3
  grind) t
 rw[ja,cr,cr,jm]at this
 exact this
theorem Pa {c:PP} (tc:Trim c) (h0:0<c.1):∃(f e:PP) (l:Rat),l≠0/\(∀t,aC c t=aC (bR c (aW c)) t*aC f t)/\(∀t,dz c t=aC (bR c (aW c)) t*aC e t)/\iZ f e/\∀t,aC (bh c) t=l*aC f t:=by
 obtain⟨f,e,h1,h2,h3⟩:=DT tc dI h0
 have hg:=mM (b:=aW c) h0
 have tg:=j8 tc (dI (a:=c))
 have hr:∀t,aC (dj c (bR c (aW c))) t=0:=fun t=>by
  have h4:=nY (a:=c) hg tg
  have h5:=(rR tc (dI (a:=c))).1.rem hg (Dv.refl _)
  rcases Nat.eq_zero_or_pos (dj c (bR c (aW c))).1 with h6|h6
  ·exact jx h6 t
  ·have:=h5.len h6 rD tg;omega
 have hq:∀t,aC (fA c (bR c (aW c))) t=aC f t:=C0 hg tg fun t=>by
  have:=v9 (a:=c) hg t
  rw[hr,Rat.add_zero]at this
  rw[<-h1,this,Rat.mul_comm]
 have tq:Trim (fA c (bR c (aW c))):=yM
 have hq0:0<(fA c (bR c (aW c))).1:=by
  rcases Nat.eq_zero_or_pos (fA c (bR c (aW c))).1 with h6|h6
  ·have:=pK tc fun t=>by rw[h1,<-hq,jx h6,Rat.mul_zero]
   omega
  ·exact h6
 refine⟨f,e,_,?_,h1,fun t=>by rw[<-gM];exact h2 t,h3,fun t=>by
  unfold bh
  rw[if_neg (by omega),wU,hq]⟩
 rcases tq with h|h
 ·omega
 ·intro hi
  have:((fA c (bR c (aW c))).2 ((fA c (bR c (aW c))).1-1))⁻¹⁻¹=0:=by rw[hi,Rat.inv_zero]
  rw[Rat.inv_inv]at this
  exact h this
def gU (d:PP):Nat->PP
 |0=>gW
 |k+1=>bZ d (gU d k)
theorem ou {d:PP} {t:Rat}:∀k,aC (gU d k) t=aC d t^k
 |0=>by rw[Rat.pow_zero];exact jm
 |k+1=>by rw[gU,cr,ou k,Rat.pow_succ,Rat.mul_comm]
theorem ZR {t:Rat}:dz gW t=0:=by
 show 0+1*(((0:Nat):Int)*t^(0-1):Rat)=0
 rw[show(((0:Nat):Int):Rat)=0 from rfl];grind
theorem C3 {d:PP} {t:Rat}:∀k:Nat,aC d t*dz (gU d k) t=((k:Int):Rat)*(dz d t*aC d t^k)
 |0=>by rw[gU,ZR,show(((0:Nat):Int):Rat)=0 from rfl];grind
 |k+1=>by
  have h1:=C3 (d:=d) (t:=t) k
  have h2:=kM (a:=d) (b:=gU d k) (c:=gU d (k+1)) (fun t=>cr) t
  rw[h2,ou,Rat.pow_succ,show(((k+1:Nat):Int):Rat)=((k:Int):Rat)+1 by rw[Int.natCast_add,Rat.intCast_add];rfl]
  generalize dz (gU d k) t=x at*
  generalize aC d t^k=y at*
  generalize ((k:Int):Rat)=K at*
  grind
theorem Fu {d:PP} (h0:0<d.1) (td:Trim d):∀k,(ct (gU d k)).1=k*(d.1-1)+1
 |0=>by
  show bH (fun _=>(1:Rat)) 1=_
  rw[qb (.inr (by decide))];omega
 |k+1=>by
  have ih:=Fu h0 td k
  have hp:0<(ct (gU d (k+1))).1:=by
   rcases Nat.eq_zero_or_pos (ct (gU d (k+1))).1 with h|h
   ·have h1:∀t,aC (ct (gU d k)) t=0:=Oz h0 td fun t=>by
     rw[eu,<-cr,show aC (bZ d (gU d k)) t=aC (ct (gU d (k+1))) t from(eu t).symm,jx h]
    have:=pK fO h1
    omega
   ·exact h
  have:=(qx (a:=d) (b:=ct (gU d k)) (c:=ct (gU d (k+1))) (fun t=>by rw[eu,eu];exact cr) hp fO td fO).2.2
  rw[Nat.add_mul];omega
theorem Ef {g d:PP} (hg:0<g.1) (tg:Trim g) (td:Trim d) (h1:1<d.1) (h:∀k:Nat,∃m:PP,∀t,aC g t=aC d t^k*aC m t):False:=by
 obtain⟨m,hm⟩:=h g.1
 have hd:Dv (ct (gU d g.1)) g:=⟨m,fun t=>by rw[hm,eu,ou]⟩
 have:=hd.len hg tg fO
 rw[Fu (by omega) td]at this
 have:=Nat.le_mul_of_pos_right g.1 (show 0<d.1-1 by omega)
 omega
theorem Du {d a b:PP} (h0:0<d.1) (td:Trim d) (k:Nat) (h:∀t,aC d t^k*aC a t=aC d t^k*aC b t) (t:Rat):aC a t=aC b t:=
 C0 (g:=ct (gU d k)) (by rw[Fu h0 td];omega) fO (fun t=>by rw[eu,ou];exact h t) t
theorem yH {a:PP} (h0:0<a.1) (ta:Trim a):(dy a).2 (a.1-1)=1:=by
 show a.2 (a.1-1)/a.2 (a.1-1)=1
 have:a.2 (a.1-1)≠0:=by rcases ta with h|h;omega;exact h
 rw[Rat.div_def,Rat.mul_inv_cancel _ this]
theorem gcd_one {a b:PP} (ta:Trim a) (tb:Trim b) (h0:0<a.1) (h1:(bR a b).1=1) (t:Rat):aC (bR a b) t=1:=by
 have h2:=yH (a:=(bQ (a,b) b.1).1) (zB (s:=(a,b)) h0 _) (lW (s:=(a,b)) ta tb _).1
 have h3:(bQ (a,b) b.1).1.1=1:=h1
 rw[h3]at h2
 show ev (bR a b).1 (bR a b).2 t=1
 rw[h1]
 show 0+(bR a b).2 0*t^0=1
 rw[show(bR a b).2 0=1 from h2,Rat.pow_zero];grind
theorem z8 {c:PP} (tc:Trim c) (h0:0<c.1):0<(bh c).1:=by
 obtain⟨f,e,l,hl,h1,h2,h3,h4⟩:=Pa tc h0
 rcases Nat.eq_zero_or_pos (bh c).1 with h|h
 ·have:=pK tc fun t=>by
   have h5:=h4 t
   rw[jx h]at h5
   rcases Rat.mul_eq_zero.1 h5.symm with h7|h7
   ·exact absurd h7 hl
   ·rw[h1,h7,Rat.mul_zero]
  omega
 ·exact h
theorem rH {c:PP} (tc:Trim c) (h0:0<c.1):∃G e:PP,0<G.1/\Trim G/\(∀t,aC c t=aC G t*aC (bh c) t)/\(∀t,dz c t=aC G t*aC e t)/\iZ (bh c) e/\(∀t,aC G t=0->aC (bR c (aW c)) t=0)/\∀t,aC (bR c (aW c)) t=0->aC G t=0:=by
 obtain⟨f,e,l,hl,h1,h2,⟨u,v,h3⟩,h4⟩:=Pa tc h0
 have hl2:l⁻¹*l=1:=Rat.inv_mul_cancel _ hl
 have hli:l⁻¹≠0:=fun h=>by rw[h,Rat.zero_mul]at hl2;exact absurd hl2 (by decide)
 refine⟨gi l⁻¹ (bR c (aW c)),gi l e,mM h0,xw (j8 tc dI) hli,fun t=>?_,fun t=>?_,⟨gi l⁻¹ u,gi l⁻¹ v,fun t=>?_⟩,fun t h=>?_,fun t h=>?_⟩
 ·rw[fV,h4,h1];grind
 ·rw[fV,fV,h2];grind
 ·have:=h3 t
  rw[fV,fV,fV,h4];grind
 ·rw[fV]at h
  rcases Rat.mul_eq_zero.1 h with h|h
  ·exact absurd h hli
  ·exact h
 ·rw[fV,h,Rat.mul_zero]
theorem DQ {c:PP} (tc:Trim c) (h0:0<c.1):iZ (bh c) (aW (bh c)):=by
 obtain⟨g,e,hg,tg,h1,h2,h3,_⟩:=rH tc h0
 have tF:Trim (bh c):=kn
 have hF:=z8 tc h0
 generalize bh c=F at*
 have td:Trim (bR F (aW F)):=j8 tF dI
 have hd0:0<(bR F (aW F)).1:=mM hF
 obtain⟨⟨f1,e1⟩,⟨f2,e2⟩⟩:=rR tF (dI (a:=F))
 rcases Nat.lt_or_ge 1 (bR F (aW F)).1 with hd1|hd1
 ·have hcop:=h3.CH (d:=bR F (aW F)) ⟨f1,e1⟩
  generalize bR F (aW F)=d at*
  refine(Ef hg tg td hd1 fun k=>?_).elim
  induction k with
  |zero=>exact⟨g,fun t=>by rw[Rat.pow_zero,Rat.one_mul]⟩
  |succ k ih=>
   obtain⟨m,hm⟩:=ih
   have k1:∀t,dz c t=dz g t*aC F t+aC g t*dz F t:=fun t=>kM h1 t
   have k2:∀t,dz g t=dz (gU d k) t*aC m t+aC (gU d k) t*dz m t:=fun t=>kM (fun t=>by rw[hm,ou]) t
   have k3:∀t,dz F t=dz d t*aC f1 t+aC d t*dz f1 t:=fun t=>kM e1 t
   have key:=Du hd0 td k (a:=bZ e m) (b:=bZ d (g8 (gi ((k:Int):Rat) (bZ m (g8 f2 (gi (-1) (aW f1))))) (g8 (bZ (aW m) f1) (bZ m f2)))) fun t=>by
    rw[cr,cr,ja,fV,cr,ja,fV,ja,cr,cr,gM,gM]
    have a1:=k1 t
    have a2:=k2 t
    have a3:=k3 t
    have a4:=C3 (d:=d) (t:=t) k
    have a5:=h2 t
    have a6:=hm t
    have a8:=e1 t
    have a9:=e2 t
    rw[gM]at a9
    rw[ou]at a2
    generalize dz (gU d k) t=P at*
    generalize aC d t^k=D at*
    generalize ((k:Int):Rat)=K at*
    generalize aC d t=dd at*
    generalize dz d t=d' at*
    generalize aC f1 t=x1 at*
    generalize dz f1 t=y1 at*
    generalize aC f2 t=x2 at*
    generalize aC m t=mm at*
    generalize dz m t=m' at*
    generalize aC e t=ee at*
    rw[a5,a6,a2,a9,a8]at a1
    have s2:d'*x1=dd*x2-dd*y1:=by rw[a9]at a3;grind
    calc D*(ee*mm)=D*mm*ee:=by grind
     _=mm*x1*(dd*P)+D*dd*(m'*x1+mm*x2):=by rw[a1];grind
     _=mm*x1*(K*(d'*D))+D*dd*(m'*x1+mm*x2):=by rw[a4]
     _=K*mm*D*(d'*x1)+D*dd*(m'*x1+mm*x2):=by grind
     _=K*mm*D*(dd*x2-dd*y1)+D*dd*(m'*x1+mm*x2):=by rw[s2]
     _=_:=by grind
   obtain⟨w,hw⟩:=hcop.dv (c:=m) (w:=g8 (gi ((k:Int):Rat) (bZ m (g8 f2 (gi (-1) (aW f1))))) (g8 (bZ (aW m) f1) (bZ m f2))) fun t=>by rw[<-cr,key t,cr]
   exact⟨w,fun t=>by rw[hm,hw,Rat.pow_succ];grind⟩
 ·obtain⟨u,v,h5⟩:=HX F (aW F)
  exact⟨u,v,fun t=>by rw[<-h5,gcd_one tF dI hF (by omega)]⟩
def l9 (x:Rat):PP:=(2,fun i=>if i=0 then-x else 1)
theorem Bw {x t:Rat}:aC (l9 x) t=t-x:=by
 show 0+(if(0:Nat)=0 then-x else 1)*t^0+(if(1:Nat)=0 then-x else 1)*t^1=_
 rw[if_pos rfl,if_neg (by decide),Rat.pow_zero,Rat.pow_succ,Rat.pow_zero];grind
theorem IA {x t:Rat}:dz (l9 x) t=1:=by
 show 0+(if(0:Nat)=0 then-x else 1)*(((0:Nat):Int)*t^(0-1):Rat)+(if(1:Nat)=0 then-x else 1)*(((1:Nat):Int)*t^(1-1):Rat)=1
 rw[if_pos rfl,if_neg (by decide),show(((0:Nat):Int):Rat)=0 from rfl,show(((1:Nat):Int):Rat)=1 from rfl,show 1-1=0 from rfl,Rat.pow_zero];grind
theorem J8 {x:Rat}:Trim (l9 x):=.inr (by show(if(1:Nat)=0 then-x else(1:Rat))≠0;rw[if_neg (by decide)];decide)
theorem Wp {m:PP} {x:Rat} (h:aC m x=0):Dv (l9 x) m:=by
 rcases Nat.eq_zero_or_pos m.1 with h0|h0
 ·exact⟨tZ,fun t=>by rw[jx h0,Ba,Rat.mul_zero]⟩
 ·obtain⟨n,hn⟩:∃n,m.1=n+1:=⟨m.1-1,by omega⟩
  refine⟨(n,jI (n+1) m.2 x),fun t=>?_⟩
  have h1:=u6 (k:=m.2) (c:=x) (t:=t) n
  have h2:ev (n+1) m.2 x=0:=by rw[<-hn];exact h
  rw[Bw]
  show ev m.1 m.2 t=_
  rw[hn,h1,h2,Rat.add_zero];rfl
theorem abP {c:PP} (tc:Trim c) (h0:0<c.1) {x:Rat} (hx:aC c x=0):aC (bh c) x=0:=by
 obtain⟨g,e,hg,tg,h1,h2,h3,_⟩:=rH tc h0
 generalize bh c=F at*
 refine Decidable.byContradiction fun hF=>?_
 refine Ef hg tg (J8 (x:=x)) (show 1<2 by decide) fun k=>?_
 induction k with
 |zero=>exact⟨g,fun t=>by rw[Rat.pow_zero,Rat.one_mul]⟩
 |succ k ih=>
  obtain⟨m,hm⟩:=ih
  have hmx:aC m x=0:=by
   rcases Nat.eq_zero_or_pos k with hk|hk
   ·subst hk
    have:=hm x
    rw[Rat.pow_zero,Rat.one_mul]at this
    rw[h1,this]at hx
    rcases Rat.mul_eq_zero.1 hx with h|h
    ·exact h
    ·exact absurd h hF
   ·have k1:∀t,dz c t=dz g t*aC F t+aC g t*dz F t:=fun t=>kM h1 t
    have k2:∀t,dz g t=dz (gU (l9 x) k) t*aC m t+aC (gU (l9 x) k) t*dz m t:=fun t=>kM (fun t=>by rw[hm,ou]) t
    have key:=Du (show 0<2 by decide) (J8 (x:=x)) k (a:=gi ((k:Int):Rat) (bZ m F)) (b:=bZ (l9 x) (g8 (bZ e m) (gi (-1) (g8 (bZ (aW m) F) (bZ m (aW F)))))) fun t=>by
     rw[fV,cr,cr,ja,cr,fV,ja,cr,cr,gM,gM]
     have a1:=k1 t
     have a2:=k2 t
     have a4:=C3 (d:=l9 x) (t:=t) k
     have a5:=h2 t
     have a6:=hm t
     rw[ou]at a2
     rw[IA]at a4
     generalize dz (gU (l9 x) k) t=P at*
     generalize aC (l9 x) t^k=D at*
     generalize ((k:Int):Rat)=K at*
     generalize aC (l9 x) t=dd at*
     generalize aC F t=ff at*
     generalize dz F t=f' at*
     generalize aC m t=mm at*
     generalize dz m t=m' at*
     generalize aC e t=ee at*
     rw[a5,a6,a2]at a1
     calc D*(K*(mm*ff))=mm*ff*(K*(1*D)):=by grind
      _=mm*ff*(dd*P):=by rw[a4]
      _=dd*(P*mm*ff):=by grind
      _=dd*(D*mm*ee-D*m'*ff-D*mm*f'):=by rw[a1];grind
      _=_:=by grind
    have h5:=key x
    rw[cr,Bw,show x-x=0 by grind,Rat.zero_mul,fV,cr]at h5
    rcases Rat.mul_eq_zero.1 h5 with h|h
    ·have:((k:Int):Rat)=((0:Nat):Int):=h
     have:=Ml this
     omega
    ·rcases Rat.mul_eq_zero.1 h with h|h
     ·exact h
     ·exact absurd h hF
  obtain⟨w,hw⟩:=Wp hmx
  exact⟨w,fun t=>by rw[hm,hw,Rat.pow_succ];grind⟩
end Go.Am
