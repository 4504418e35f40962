/- ref02: Valid, Valids, Bits; ref04.Valid; ref10: Short, shortPoles. -/
import Derived.Test.YtolopdkjjlfgjaaGreatY38
import Derived.Test.YtolopdkjjlfgjaaGreatZ2
import Derived.Test.YtolopdkjjlfgjaaGreatY37
import Derived.Test.YtolopdkjjlfgjaaGreatY39
set_option linter.unusedVariables false
noncomputable section
namespace Go.Am.B
open Go Go.Am.N AV af aq IntKind Proofs.Tryz
theorem Q3:aX 172 f172:=aY func172
theorem NI:aX 144 f144:=aY func144
def H6:Spec:=bR fun l=>match l with
 |[.mag N]=>some (aJ (.bool true) [nl N<2^40])
 |_=>none
def Pu:bg:=[(172,H6),(86,Da),(173,CW)]
abbrev xj:List Nat:=[2,0,3]
theorem ZH {N:Nat}:bT T [] [6] 60 f172 (aG f172) ⟨aS 0 [.mag N],[],0⟩=
  let c2:Bool:=(↑(nl N):Int)==0;let c1:Int:=i64.wrap ((↑(nl N):Int)-1);some (fork c2 (aj [c2=true] (leaf ret [AV.bool true])) (aj [c2=false,(0:Int)<=c1/\c1.toNat<nl N] (leaf ret [AV.bool (bif false then true else(↑(aB N c1.toNat):Int)!=0)]))):=ag
theorem V4 {q:Rat} {n:Nat}:bT T Pu [19,27,32,35,42,51] 60 f144 (aG f144) ⟨aS 0 [.rat q n],[],0⟩=
  let c19:Bool:=bif !true then true else !true;let c17:Nat:=Int.toNat (0:Int);let c13:Bool:=decide (q<0);let c11:Nat:=q.num.natAbs;let c8:af (List AV):=leaf ret [AV.bool false];let c5:Nat:=2^40;let c3:Prop:=0<1;let c2:Nat:=if q.den=1 then 0 else q.den;let c20:Int:=(↑(nl c2):Int);let c16:Prop:=nl c2<c5;let c15:Prop:=nl c11<c5;let c14:Bool:=(↑(nl (c11.gcd q.den)):Int)==1;let c10:Prop:=(0:Int)<=0/\c17<nl c2;let c9:Bool:=bif c19 then true else false;let c6:Bool:=(↑(nl c11):Int)==0;let c4:Bool:=bif c19 then true else bif true then(↑(aB c2 c17):Int)==1 else false;let c22:List Prop:=[c3,c6=true,c3,c13=true];let c18:List Prop:=[c3,c6=true,c3,c13=false,c3];let c7:Bool:=c20==1;let c1:af (List AV):=aj [c3,c3,nl c11<2^38,nl q.den<2^38] (fork c14 (aj [c14=true,(0:Int)<=0/\c17<nl (c11.gcd q.den)] (leaf ret [AV.bool (bif true then(↑(aB (c11.gcd q.den) c17):Int)==1 else false)])) (aj [c14=false] c8));let c21:af (List AV):=fork true c8 c1;let c12:af (List AV):=fork (bif false then true else bif true then bif false then true else decide (c20>0)else false) c8 c1;some (fork c7 (fork c4 (aj [c3,c15,c3,c16,c3,c7=true,c3,c10,c4=true] c21) (fork c6 (fork c13 (aj (c3::c15::c3::c16::c3::(c7=true)::c3::c10::(c4=false)::c22) c21) (aj (c3::c15::c3::c16::c3::(c7=true)::c3::c10::(c4=false)::c18) c12)) (aj [c3,c15,c3,c16,c3,c7=true,c3,c10,c4=false,c3,c6=false] (fork false c8 c1)))) (fork false (aj [c3,c15,c3,c16,c3,c7=false,c9=true] c21) (fork c6 (fork c13 (aj (c3::c15::c3::c16::c3::(c7=false)::(c9=false)::c22) c21) (aj (c3::c15::c3::c16::c3::(c7=false)::(c9=false)::c18) c12)) (aj [c3,c15,c3,c16,c3,c7=false,c9=false,c3,c6=false] (fork false c8 c1))))):=ag
theorem abF:bf P H6 172:=by
 refine cE fun K args r hk hs _=>?_
 split at hs
 ·rename_i N
  simp only[ax]at hs
  subst hs
  refine bW (r:=aJ (.bool true) [nl N<2^40]) hT bU hm Q3 rfl aW rfl 60 ZH (fun need=>?_) K []
  have need:nl N<2^40:=need
  have e:nl N≠0->i64.wrap ((nl N:Int)-1)=(nl N:Int)-1:=fun h=>wrap_i64 aa aa
  simp only[af.all,az,beq_iff_eq,beq_eq_false_iff_ne,ne_eq]
  refine⟨fun h=>⟨h,.refl _⟩,fun h=>?_⟩
  have h0:nl N≠0:=aa
  have hN:N≠0:=fun h2=>h0 (by rw[h2];rfl)
  rw[e h0,show((nl N:Int)-1).toNat=nl N-1 by omega]
  refine⟨⟨h,⟨aa,aa⟩⟩,jR ?_⟩
  rw[cond_false,bne_iff_ne]
  have:=xT hN
  omega
 ·simp at hs
theorem T2 {q:Rat} {n:Nat} (hn:n<=2^36) (K:Nat):aO P 144 K [.rat q n] [] (aJ (.bool true) []):=by
 refine kE fun⟨hq,_⟩=>?_
 have hq:Sz q n:=hq
 refine bW (r:=aJ (.bool true) []) hT (aK abF (aK Fh (aK KT bU))) hm NI rfl aW rfl 60 V4 (fun _=>?_) K []
 have hg:Nat.gcd q.num.natAbs q.den=1:=q.reduced
 obtain⟨d,hd⟩:∃d,d=if q.den=1 then 0 else q.den:=⟨_,rfl⟩
 have k1:=fG (n:=n) hq.1 aa
 have k2:=fG (n:=n) hq.2 aa
 have k3:nl d<=nl q.den:=by rw[hd];exact hH JV
 have k4:nl d=1->¬(aB d 0:Int)=1:=fun h1 h2=>by
  have h3:d<2^32:=by have:=dB.1 (show nl d<=1 by omega);simpa using this
  have h4:aB d 0=d:=by unfold aB;simp;omega
  rw[h4]at h2
  have h5:d=1:=aa
  rw[hd]at h5
  split at h5<;>omega
 have k5:nl q.num.natAbs=0->¬q<0/\nl d=0:=fun h1=>by
  have h2:q.num.natAbs=0:=by
   by_cases h:q.num.natAbs=0
   ·exact h
   ·unfold nl at h1;rw[if_neg h]at h1;omega
  have h3:q=0:=Rat.num_eq_zero.1 aa
  subst h3
  rw[hd]
  exact⟨by decide,by decide⟩
 simp only[af.all,az,hg,<-hd,show nl 1=1 from by decide,show aB 1 0=1 from by decide,Int.toNat_zero]
 by_cases h7:nl d=1
 ·have h4:=k4 h7
  have h6:nl q.num.natAbs≠0:=fun h=>by have:=(k5 h).2;omega
  simp[h7,h4,h6]
  exact⟨aa,⟨aa,aa⟩,.refl _⟩
 ·by_cases h6:nl q.num.natAbs=0
  ·obtain⟨h8,h9⟩:=k5 h6
   simp[h9,h6,h8]
   exact⟨aa,.refl _⟩
  ·simp[h7,h6]
   exact⟨fun h=>absurd h aa,fun h=>⟨⟨aa,aa,h⟩,⟨aa,aa⟩,.refl _⟩⟩
end Go.Am.B
namespace Go.Am
def gO (m:Nat) (p:Nat->Rat) (i:Nat):Rat:=if i=0 then p 0 else if i=m then p (m-1)else p i+(p (i-1)-p i)*(((i:Int):Rat)/((m:Int):Rat))
theorem TR {m k:Nat} (h:k<=m):(k+1)*bn (m+1) (k+1)=(m+1)*bn m k:=by
 rw[mM,Nat.mul_add,uT,<-Nat.add_mul,show k+1+(m-k)=m+1 by omega]
theorem Yb {m k:Nat} (h:k<=m):bq (m+1) (k+1)*(((k+1:Nat):Int):Rat)=bq m k*(((m+1:Nat):Int):Rat):=by
 show(((bn (m+1) (k+1):Nat):Int):Rat)*_=((bn m k:Int):Rat)*_
 rw[<-Rat.intCast_mul,<-Rat.intCast_mul,<-Int.natCast_mul,<-Int.natCast_mul,Nat.mul_comm,TR h,Nat.mul_comm]
theorem Iq {m:Nat} (h:0<m):(((m:Nat):Int):Rat)≠0:=wH aa
theorem WU {m:Nat} {p:Nat->Rat} {i:Nat} (hi:i<=m+1):bq (m+1) i*gO (m+1) p i=bq m i*p i+(if i=0 then 0 else bq m (i-1)*p (i-1)):=by
 unfold gO
 by_cases h0:i=0
 ·rw[if_pos h0,if_pos h0,h0,lY,lY,Rat.add_zero]
 ·obtain⟨k,rfl⟩:∃k,i=k+1:=⟨i-1,aa⟩
  rw[if_neg h0,if_neg h0,Nat.add_sub_cancel,Nat.add_sub_cancel]
  by_cases h1:k+1=m+1
  ·obtain rfl:k=m:=aa
   rw[if_pos rfl,wM,qH (Nat.lt_succ_self _)];grind
  ·rw[if_neg h1]
   have e:=Yb (m:=m) (k:=k) aa
   have e2:=wM m k
   have hm:=Iq (m:=m+1) aa
   have e3:bq (m+1) (k+1)*((((k+1:Nat):Int):Rat)/(((m+1:Nat):Int):Rat))=bq m k:=by
    rw[Rat.div_def,<-Rat.mul_assoc,e,Rat.mul_assoc,Rat.mul_inv_cancel _ hm,Rat.mul_one]
   generalize (((k+1:Nat):Int):Rat)/(((m+1:Nat):Int):Rat)=x at*
   generalize bq (m+1) (k+1)=b at*
   generalize bq m (k+1)=b2 at*
   generalize bq m k=b1 at*
   have:b*(p (k+1)+(p k-p (k+1))*x)=b*p (k+1)+(p k-p (k+1))*(b*x):=by grind
   rw[this,e3,e2];grind
theorem Se {m:Nat} {p:Nat->Rat} {t:Rat}:cs (m+1) (gO (m+1) p) t=cs m p t:=by
 rw[<-oZ,<-oZ]
 unfold hv
 rw[fN (n:=m+1+1) (g:=fun i=>bq m i*p i*(t^i*(1-t)^(m+1-i))+(if i=0 then 0 else bq m (i-1)*p (i-1))*(t^i*(1-t)^(m+1-i))) fun i hi=>by dsimp only;rw[WU aa];grind]
 rw[oE,pQ (f:=fun i=>(if i=0 then 0 else bq m (i-1)*p (i-1))*(t^i*(1-t)^(m+1-i)))]
 dsimp only
 rw[if_pos rfl,sg,qH (Nat.lt_succ_self m)]
 rw[fN (n:=m+1) (f:=fun i=>bq m i*p i*(t^i*(1-t)^(m+1-i))) (g:=fun i=>(1-t)*(bq m i*p i*(t^i*(1-t)^(m-i)))) fun i hi=>by rw[show m+1-i=m-i+1 by omega,Rat.pow_succ];grind]
 rw[fN (n:=m+1) (f:=fun i=>(if i+1=0 then 0 else bq m (i+1-1)*p (i+1-1))*(t^(i+1)*(1-t)^(m+1-(i+1)))) (g:=fun i=>t*(bq m i*p i*(t^i*(1-t)^(m-i)))) fun i hi=>by rw[if_neg (Nat.succ_ne_zero i),show m+1-(i+1)=m-i by omega,Nat.add_sub_cancel,Rat.pow_succ];grind]
 rw[j3,j3]
 grind
def jF (m:Nat) (p:Nat->Rat):Nat->Nat->Rat
 |0=>p
 |k+1=>gO (m+k) (jF m p k)
theorem Ic {m:Nat} {p:Nat->Rat} {t:Rat}:∀k,cs (m+k) (jF (m+1) p k) t=cs m p t
 |0=>rfl
 |k+1=>by
  show cs (m+k+1) (gO (m+1+k) (jF (m+1) p k)) t=_
  rw[show m+1+k=m+k+1 by omega,Se,Ic k]
theorem EX {p q:Nat->Rat} {t:Rat}:∀m,∀p q:Nat->Rat,cs m (fun i=>p i+q i) t=cs m p t+cs m q t
 |0,_,_=>rfl
 |m+1,p,q=>by
  rw[cs,cs,cs,EX (p:=p) (q:=q) m p q,EX (p:=p) (q:=q) m (fun i=>p (i+1)) (fun i=>q (i+1))];grind
theorem DE {r t:Rat}:∀m,∀p:Nat->Rat,cs m (fun i=>r*p i) t=r*cs m p t
 |0,_=>rfl
 |m+1,p=>by rw[cs,cs,DE m p,DE m (fun i=>p (i+1))];grind
def nr (q:PP) (n:Nat):PP:=(n,jF q.1 q.2 (n-q.1))
theorem Hy {q:PP} {n:Nat} (h1:1<=q.1) (hn:q.1<=n) (t:Rat):dN (nr q n) t=dN q t:=by
 obtain⟨m,p⟩:=q
 obtain⟨m,rfl⟩:∃x,m=x+1:=⟨m-1,by have h1:1<=m:=h1;omega⟩
 have hn:m+1<=n:=hn
 show cs (n-1) (jF (m+1) p (n-(m+1))) t=cs (m+1-1) p t
 rw[show n-1=m+(n-(m+1)) by omega,Ic];rfl
def g9 (p q:PP):PP:=(max p.1 q.1,fun i=>(nr p (max p.1 q.1)).2 i+(nr q (max p.1 q.1)).2 i)
theorem E8 {p q:PP} (hp:1<=p.1) (hq:1<=q.1) (t:Rat):dN (g9 p q) t=dN p t+dN q t:=by
 rw[<-Hy hp (Nat.le_max_left p.1 q.1) t,<-Hy hq (Nat.le_max_right p.1 q.1) t]
 exact EX (p:=p.2) (q:=q.2) _ _ _
def jI (r:Rat) (p:PP):PP:=(p.1,fun i=>r*p.2 i)
theorem Sh {r:Rat} {p:PP} (t:Rat):dN (jI r p) t=r*dN p t:=DE _ _
def jK (p q:PP):PP:=g9 p (jI ((-1:Int):Rat) q)
theorem Yc {p q:PP} (hp:1<=p.1) (hq:1<=q.1) (t:Rat):dN (jK p q) t=dN p t-dN q t:=by
 unfold jK
 rw[E8 hp (q:=jI _ q) hq,Sh,show((-1:Int):Rat)=-1 from rfl];grind
def G8 (p:PP):Prop:=∀i,i<p.1->p.2 i=0
theorem Ce {p:Nat->Rat} {m:Nat} (h:∀k,k<=m->dH p k 0=0):∀i k,k+i<=m->dH p k i=0
 |0,k,hk=>h k hk
 |i+1,k,hk=>by
  have h1:=Ce h i (k+1) aa
  have h2:=Ce h i k aa
  rw[dH]at h1;grind
theorem KI {p:PP} (h:∀t,dN p t=0):G8 p:=by
 obtain⟨m,p⟩:=p
 intro i hi
 have hi:i<m:=hi
 obtain⟨m,rfl⟩:∃x,m=x+1:=⟨m-1,aa⟩
 have h1:∀k,k<=m->dH p k 0=0:=fun k hk=>by
  have e:fy (m+1) p k=0:=KQ (n:=m+1) (l:=fun _=>0) (fun t=>by
   rw[Bx]
   rw[show cs m p t=0 from h t]
   exact(lE fun i _=>Rat.zero_mul _).symm) k aa
  unfold fy at e
  rw[Nat.add_sub_cancel]at e
  rcases Rat.mul_eq_zero.mp e with e|e
  ·exact absurd e (xW hk)
  ·exact e
 exact Ce h1 i 0 aa
theorem Va {p:PP} (h1:1<=p.1) (h:G8 p) (t:Rat):dN p t=0:=by
 unfold dN
 rw[<-oZ]
 exact lE fun i hi=>by dsimp only;rw[h i aa,Rat.mul_zero,Rat.zero_mul]
theorem aaX {m s:Nat} {p:Nat->Rat} (h1:1<=m) (hm:m<=63) (h:cq m p s):cq (m+1) (gO m p) (s+6):=by
 obtain⟨D,hD,hs,hp⟩:=h
 have e6:2^6=64:=by decide
 refine⟨D*(m:Int),Int.mul_ne_zero hD aa,kM hs aa,fun i hi=>?_⟩
 have up:∀j,j<m->bX (D*(m:Int)) (s+6) (p j):=fun j hj=>(hp j hj).up aa
 unfold gO
 by_cases h0:i=0
 ·rw[if_pos h0];exact up 0 aa
 ·rw[if_neg h0]
  by_cases hm2:i=m
  ·rw[if_pos hm2];exact up (m-1) aa
  ·rw[if_neg hm2]
   obtain⟨x,x1,x2⟩:=hp i aa
   obtain⟨y,y1,y2⟩:=hp (i-1) aa
   refine⟨x*((m:Int)-i)+y*i,?_,?_⟩
   ·have hmm:=Iq (m:=m) aa
    rw[Rat.intCast_add,Rat.intCast_mul,Rat.intCast_mul,Rat.intCast_mul,Rat.intCast_sub,x1,y1]
    have:(((i:Int):Rat)/((m:Int):Rat))*((m:Int):Rat)=((i:Int):Rat):=Rat.div_mul_cancel hmm
    generalize ((i:Int):Rat)/((m:Int):Rat)=z at*
    generalize ((m:Int):Rat)=M at*
    generalize ((i:Int):Rat)=I at*
    generalize (D:Rat)=d at*
    subst this
    grind
   ·have a1:(x*((m:Int)-i)).natAbs=x.natAbs*(m-i):=by rw[Int.natAbs_mul];congr 1;omega
    have a2:(y*(i:Int)).natAbs=y.natAbs*i:=by rw[Int.natAbs_mul];rfl
    have a3:=Int.natAbs_add_le (x*((m:Int)-i)) (y*i)
    have a4:x.natAbs*(m-i)<=2^s*(m-i):=Nat.mul_le_mul_right _ x2
    have a5:y.natAbs*i<=2^s*i:=Nat.mul_le_mul_right _ y2
    have a6:2^s*(m-i)+2^s*i=2^s*m:=by rw[<-Nat.mul_add];congr 1;omega
    have a7:2^s*m<=2^s*64:=Nat.mul_le_mul_left _ aa
    rw[Nat.pow_add]
    omega
theorem DJ {m s:Nat} {p:Nat->Rat} (h1:1<=m) (h:cq m p s):∀k,m+k<=63->cq (m+k) (jF m p k) (s+6*k)
 |0,_=>h
 |k+1,hk=>aaX (m:=m+k) aa aa (DJ h1 h k aa)
theorem aad {n s t:Nat} {p q:Nat->Rat} (h:cq n p s) (h':cq n q t):cq n (fun i=>p i+q i) (s+t+1):=by
 obtain⟨D,hD,hs,hp⟩:=h
 obtain⟨E,hE,ht,hq⟩:=h'
 refine⟨D*E,Int.mul_ne_zero hD hE,Nat.le_trans (kM hs ht) (Nat.pow_le_pow_right (by decide) aa),fun i hi=>?_⟩
 have h1:=(hp i hi).up ht
 have h2:=(hq i hi).up hs
 rw[Int.mul_comm,Nat.add_comm]at h2
 exact h1.add h2
theorem RP {n s:Nat} {q:Nat->Rat} (h:cq n q s):cq n (fun i=>((-1:Int):Rat)*q i) s:=by
 obtain⟨D,hD,hs,hp⟩:=h
 refine⟨D,hD,hs,fun i hi=>?_⟩
 have:=(hp i hi).tV (n:=-1) (e:=0) (by decide)
 rwa [Nat.zero_add]at this
end Go.Am
namespace Go.Am.B
open Go Go.Am.N AV af aq IntKind Proofs.Tryz
def KR (a b t:Rat×Nat):AV:=.rat (a.1+(b.1-a.1)*t.1) (a.2+((b.2+a.2+1)+t.2)+1)
def Qt (a b t:Rat×Nat):List Prop:=[a.2<2^40,b.2+a.2+1<2^40,b.2+a.2+1+t.2<2^40]
def Ae:bg:=nG::(139,Gg kR kR kR KR Qt)::(46,wZ)::[]
abbrev xq:Code:=aG f150
abbrev xg:List Nat:=[0,3,4,5]
abbrev Ec (m:Nat) (p:Nat->Rat) (i:Nat):List AV:=[aZ p m ah,.int .i64 m,.own 0 3 0 (m+1),.int .i64 i]
def GP:Spec:=dL (kC (kL ah) kN) (fun a=>aZ (gO a.1.1 a.1.2) (a.1.1+1) ah) fun a=>[1<=a.1.1,a.1.1<=40,cu (a.1.1+1) (gO a.1.1 a.1.2)]
def yQ:bg:=nG::(150,GP)::[]
abbrev s8:Code:=aG f95
abbrev FW (m:Nat) (p:Nat->Rat) (n k:Nat):List AV:=[aZ (jF m p k) (m+k) ah,.int .i64 n]
def iQ (m:Nat) (p:Nat->Rat) (k:Nat):Prop:=∀j,j<=k->cu (m+j) (jF m p j)
def LF:Spec:=qu fun K l=>match l with
 |[v,.int .i64 n]=>match(kL ah).read v with
  |some ((m,p),q)=>some ⟨.tuple [.own K 3 0 (n+1).toNat,.int .i64 0],[(K,cF (n+1).toNat (jF m p ((n+1).toNat-m)) ah)],q++[1<=m,m<=(n+1).toNat,0<=n,n<=40,iQ m p ((n+1).toNat-m)]⟩
  |none=>none
 |_=>none
def zq:bg:=nG::(95,LF)::ki
abbrev uH:Code:=aG f33
abbrev wX:List Nat:=[6,8,10]
abbrev Ba (n i:Nat):List AV:=[.own 0 3 0 n,.own 1 3 0 n,.int .i64 i]
abbrev BE (n:Nat) (a b:Nat->Rat):aE:=[(1,cF n b ah),(0,cF n a ah)]
abbrev uh:Code:=aG f149
abbrev v5:List Nat:=[1,2,5,6]
abbrev AT (m:Nat) (p:Nat->Rat) (i:Nat):List AV:=[aZ p m ah,.ptr 0 0 3 0 [],.own 1 3 0 m,.int .i64 i]
abbrev A6 (m:Nat) (r:Rat) (x:Nat->Rat):aE:=[(1,cF m x ah),(0,tR r ah)]
abbrev uQ:Code:=aG f21
abbrev wP:List Nat:=[0,2,3]
abbrev CO (m:Nat) (p:Nat->Rat) (i:Nat):List AV:=[aZ p m ah,.bool false,.int .i64 i]
def A7:Spec:=dL (kC (kL ah) (kC (kL ah) kN)) (fun a=>aP (g9 a.1 a.2.1)) fun a=>[1<=a.1.1,1<=a.2.1.1,a.1.1<=41,a.2.1.1<=41,iQ a.1.1 a.1.2 (max a.1.1 a.2.1.1-a.1.1),iQ a.2.1.1 a.2.1.2 (max a.1.1 a.2.1.1-a.2.1.1),cu (max a.1.1 a.2.1.1) (g9 a.1 a.2.1).2]
def Lt:Spec:=dL (kC (gb ah) (kC (kL ah) kN)) (fun a=>aP (jI a.1 a.2.1)) fun a=>[a.2.1.1<2^40,cu a.2.1.1 (jI a.1 a.2.1).2]
def Jj:bg:=nG::(33,A7)::(149,Lt)::ki
def gL (p:PP):Bool:=decide (∀i,i<p.1->p.2 i=0)
def EK:Spec:=dL (kC (kL ah) kN) (fun a=>.bool (gL a.1)) fun a=>[a.1.1<2^40]
def ov (p q:PP):Prop:=1<=p.1/\1<=q.1/\p.1<=41/\q.1<=41/\cu q.1 (jI ((-1:Int):Rat) q).2/\iQ p.1 p.2 (max p.1 q.1-p.1)/\iQ q.1 (jI ((-1:Int):Rat) q).2 (max p.1 q.1-q.1)/\cu (max p.1 q.1) (jK p q).2
def GC:Spec:=dL (kC (kL ah) (kC (kL ah) kN)) (fun a=>aP (jK a.1 a.2.1)) fun a=>[ov a.1 a.2.1]
def Mh:bg:=nG::(94,GC)::(21,EK)::[]
def IK:Spec:=dL (kC (kL ah) (kC (kL ah) kN)) (fun a=>.bool (gL (jK a.1 a.2.1))) fun a=>[ov a.1 a.2.1]
def FV:Spec:=bR fun l=>match l with
 |[.rat q n]=>match Nat.ble n (2^36)with
  |true=>some (aJ (.bool true) [])
  |false=>none
 |_=>none
def An:bg:=[nG,(144,FV)]
abbrev B4 (n:Nat) (k:Nat->Rat) (i:Nat):List AV:=[.bool false,aZ k n ah,.int .i64 i]
abbrev v8:Code:=aG f89
def Mz:Spec:=dL (kC (kL ah) kN) (fun _=>.bool true) fun a=>[a.1.1<2^40]
def Sd:bg:=nG::(89,Mz)::[]
def Gi:Spec:=dL (kC (kL ah) kN) (fun _=>.bool true) fun a=>[1<=a.1.1,a.1.1<=41]
def Nd:bg:=nG::(61,uE)::(96,Cn)::ki
def Ia:Spec:=dL (kC (kL ah) kN) (fun a=>aP (fF (aC a.1))) fun a=>[ej a.1,jq (aC a.1)]
theorem PL:aX 139 f139:=aY func139
theorem aap {a b t:Rat} {n m r:Nat}:bT T ki [] 60 f139 (aG f139) ⟨aS 0 [.rat a n,.rat b m,.rat t r],[],0⟩=
  let c3:Nat:=m+n+1;let c2:Prop:=0<1;let c1:Nat:=2^41;some (aj [c2,c2,c2,m<c1,n<c1,c2,c3<c1,r<c1,n<c1,c3+r<c1,c2] (aj [c2] (leaf ret [rat (a+(b-a)*t) (n+(c3+r)+1)]))):=ag
theorem ZL:aX 150 f150:=aY func150
theorem OJ {m:Nat} {p:Nat->Rat}:aH T Ae [] 60 xg (before xq [1,1,1,1,0,1]) ⟨aS 0 [aZ p m ah],[],0⟩=
  let c4:Int:=(2:Int)^63;let c3:Int:=(↑m:Int);let c2:Nat:=Int.toNat (0:Int);let c7:Nat:=c2+0;let c6:Nat:=c3.toNat+0;let c5:Int:=c3-1;let c1:Int:=c3+1;some (aj [-c4<=c1/\c1<c4,(0:Int)<=c1/\c1<=c1/\c1<=2^47/\c1*(↑(56:Nat):Int)<=2^47] (aj [(0:Int)<=0/\c2<m,-c4<=c5/\c5<c4,(0:Int)<=c5/\c5.toNat<m,(0:Int)<=0/\c2<c1.toNat,c7<c1.toNat,(0:Int)<=c3/\c3.toNat<c1.toNat,c6<c1.toNat] (leaf normal ([ak 3 m fun i=>rat (p i) ah,int i64 c3,own 24576 3 0 c1.toNat,int i64 1],[(24576,ay.mk true true 3 c1.toNat fun j=>rat (bif j==c6 then p c5.toNat else bif j==c7 then p c2 else 0) (bif j==c6 then ah else bif j==c7 then ah else 1))])))):=ag
theorem Y0 {m i:Nat} {p x:Nat->Rat}:aH T Ae [26] 60 xg [part xq [1,1,1,1,0,1,0,0]] ⟨aD xg (Ec m p i),[(0,cF (m+1) x ah)],1⟩=
  let c8:Nat:=ah+ah+1;let c7:Nat:=2^40;let c6:Int:=(↑m:Int);let c4:Nat:=m+1;let c3:AV:=ak 3 m fun i=>rat (p i) ah;let c2:Int:=(2:Int)^63;let c1:Int:=(↑i:Int);let c11:Int:=c1+1;let c10:AV:=own 0 3 0 c4;let c9:Nat:=c1.toNat+0;let c5:Int:=c1-1;some (fork (decide (c1<c6)) (aj [(0:Int)<=c1/\c1.toNat<m,-c2<=c5/\c5<c2,(0:Int)<=c5/\c5.toNat<m,-c2<=c1,c1<c2,-c2<=c6,c6<c2,ah<c7,c8<c7,c8+64<c7,(0:Int)<=c1/\c1.toNat<c4,c9<c4] (aj [-c2<=c11/\c11<c2] (leaf normal ([c3,int i64 c6,c10,int i64 c11],[(0,ay.mk true true 3 c4 fun j=>rat (bif j==c9 then p c1.toNat+(p c5.toNat-p c1.toNat)*((↑c1:Rat)/(↑c6:Rat))else x j) (bif j==c9 then ah+(c8+64)+1 else ah))])))) (leaf (exit 0) ([c3,int i64 c6,c10,int i64 c1],[(0,ay.mk true true 3 c4 fun i=>rat (x i) ah)]))):=ag
theorem Ty {m i:Nat} {p x:Nat->Rat}:cN T Ae [] 60 f150 [part xq [1,1,1,1,1]] ⟨aD xg (Ec m p i),[(0,cF (m+1) x ah)],1⟩=
  some (leaf ret [ak 3 (m+1) fun i=>rat (x (i+0)) ah]):=ag
theorem Hw:aX 95 f95:=aY func95
theorem QA {m n:Nat} {p:Nat->Rat}:aH T yQ [200011,200014] 60 [0,1] (before s8 [1,1,0]) ⟨aS 0 [aZ p m ah,.int .i64 n],[],0⟩=
  let c2:Int:=(↑n:Int);let c1:Int:=(↑m:Int)-1;some (aj [-(2:Int)^63<=c1/\c1<2^63,decide (c2<c1)=false] (aj [(bif false then true else decide (c2>40))=false] (leaf normal ([ak 3 m fun i=>rat (p i) ah,int i64 c2],[])))):=ag
theorem Tf {m n k:Nat} {p:Nat->Rat}:aH T yQ [18] 60 [0,1] [part s8 [1,1,0,0,0]] ⟨aD [0,1] (FW m p n k),[],0⟩=
  let c1:Int:=(↑n:Int);some (fork (decide ((↑(m+k):Int)<=c1)) (aj [dc (fun i=>rat (jF m p k i) ah) (m+k) ah,(1:Nat)<=m+k,m+k<=40,cu (m+k+1) (gO (m+k) fun i=>aU (rat (jF m p k i) ah))] (leaf normal ([ak 3 (m+k+1) fun i=>rat (gO (m+k) (fun i=>aU (rat (jF m p k i) ah)) i) ah,int i64 c1],[]))) (leaf (exit 0) ([ak 3 (m+k) fun i=>rat (jF m p k i) ah,int i64 c1],[]))):=ag
theorem VO {m:Nat} {x:Nat->Rat} {a:AV}:aH T yQ [] 60 [4,5] [part s8 [1,1,1]] ⟨aD [0,1] [aZ x m ah,a],[],0⟩=
  some (aj [(0:Nat)*3<=2^24,((0:Nat)+m)*((56:Nat)+1)*2<=2^47] (leaf ret ([own 8192 3 0 ((0:Nat)+m),int i64 0],[(8192,ay.mk true true 3 ((0:Nat)+m) fun i=>rat (x (i-0)) ah)]))):=ag
theorem Rr:aX 33 f33:=aY func33
theorem Xh {m n:Nat} {p q:Nat->Rat}:aH T zq [] 60 wX (before uH [1,1,1,1,0,1]) ⟨aS 0 [aZ p m ah,aZ q n ah],[],0⟩=
  let c1:Int:=(if(↑m:Int)<(↑n:Int)then(↑n:Int)else(↑m:Int))-1;let c2:Nat:=(c1+1).toNat;some (aj [-(2:Int)^63<=c1/\c1<2^63] (aj [dc (fun i=>rat (p i) ah) m ah,(1:Nat)<=m,m<=c2,(0:Int)<=c1,c1<=40,iQ m (fun i=>aU (rat (p i) ah)) (c2-m)] (aj [dc (fun i=>rat (q i) ah) n ah,(1:Nat)<=n,n<=c2,(0:Int)<=c1,c1<=40,iQ n (fun i=>aU (rat (q i) ah)) (c2-n)] (leaf normal ([own 40960 3 0 c2,own 73728 3 0 c2,int i64 0],[(73728,ay.mk true true 3 c2 fun i=>rat (jF n (fun i=>aU (rat (q i) ah)) (c2-n) i) ah),(40960,ay.mk true true 3 c2 fun i=>rat (jF m (fun i=>aU (rat (p i) ah)) (c2-m) i) ah)]))))):=ag
theorem QS {n i:Nat} {a b:Nat->Rat}:aH T zq [32] 60 wX [part uH [1,1,1,1,0,1,0,0]] ⟨aD wX (Ba n i),BE n a b,2⟩=
  let c7:Prop:=ah<2^41;let c6:AV:=own 1 3 0 n;let c5:AV:=own 0 3 0 n;let c3:Nat×ay:=(1,ay.mk true true 3 n fun i=>rat (b i) ah);let c2:Int:=(↑i:Int);let c8:Int:=c2+1;let c4:Prop:=(0:Int)<=c2/\c2.toNat<n;let c1:Nat:=c2.toNat+0;some (fork (decide (c2<(↑n:Int))) (aj [c4,c1<n,c4,c1<n,c7,c7,c4,c1<n] (aj [-(2:Int)^63<=c8/\c8<2^63] (leaf normal ([c5,c6,int i64 c8],[c3,(0,ay.mk true true 3 n fun j=>rat (bif j==c1 then a c1+b c1 else a j) (bif j==c1 then ah+ah+1 else ah))])))) (leaf (exit 0) ([c5,c6,int i64 c2],[c3,(0,ay.mk true true 3 n fun i=>rat (a i) ah)]))):=ag
theorem ab9 {n i:Nat} {a b:Nat->Rat}:cN T zq [] 60 f33 [part uH [1,1,1,1,1]] ⟨aD wX (Ba n i),BE n a b,2⟩=
  some (leaf ret [ak 3 n fun i=>rat (a (i+0)) ah]):=ag
theorem acE:aX 149 f149:=aY func149
theorem W4 {m:Nat} {p:Nat->Rat} {r:Rat}:aH T qy [] 60 v5 (before uh [1,1,0,1]) ⟨aS 0 [.rat r ah,aZ p m ah],[],0⟩=
  let c1:Int:=(↑m:Int);some (aj [(0:Int)<=c1/\c1<=c1/\c1<=2^47/\c1*(↑(56:Nat):Int)<=2^47] (leaf normal ([ak 3 m fun i=>rat (p i) ah,ptr 0 0 (eC (rat r ah)).size 0 [],own 16384 3 0 c1.toNat,int i64 0],[(16384,ay.mk true true 3 c1.toNat fun x=>rat 0 1),(0,ay.mk false true (eC (rat r ah)).size 1 fun x=>rat r ah)]))):=ag
theorem N5 {m i:Nat} {p x:Nat->Rat} {r:Rat}:aH T qy [13] 60 v5 [part uh [1,1,0,1,0,0]] ⟨aD v5 (AT m p i),A6 m r x,2⟩=
  let c8:Prop:=ah<2^41;let c6:AV:=own 1 3 0 m;let c4:AV:=ptr 0 0 3 0 [];let c3:AV:=ak 3 m fun i=>rat (p i) ah;let c2:Nat×ay:=((0:Nat),g8 fun x=>rat r ah);let c1:Int:=(↑i:Int);let c9:Int:=c1+1;let c7:Prop:=(0:Int)<=c1/\c1.toNat<m;let c5:Nat:=c1.toNat+0;some (fork (decide (c1<(↑m:Int))) (aj [(0:Nat)<1,c7,c8,c8,c7,c5<m] (aj [-(2:Int)^63<=c9/\c9<2^63] (leaf normal ([c3,c4,c6,int i64 c9],[(1,ay.mk true true 3 m fun j=>rat (bif j==c5 then r*p c1.toNat else x j) (bif j==c5 then ah+ah else ah)),c2])))) (leaf (exit 0) ([c3,c4,c6,int i64 c1],[(1,ay.mk true true 3 m fun i=>rat (x i) ah),c2]))):=ag
theorem Y9 {m i:Nat} {p x:Nat->Rat} {r:Rat}:cN T qy [] 60 f149 [part uh [1,1,1]] ⟨aD v5 (AT m p i),A6 m r x,2⟩=
  some (leaf ret [ak 3 m fun i=>rat (x (i+0)) ah]):=ag
theorem X5:aX 21 f21:=aY func21
theorem RU {m:Nat} {p:Nat->Rat}:aH T qy [] 60 wP (before uQ [1,0,1]) ⟨aS 0 [aZ p m ah],[],0⟩=
  some (leaf normal ([ak 3 m fun i=>rat (p i) ah,AV.bool false,int i64 0],[])):=ag
theorem SN {m i:Nat} {p:Nat->Rat}:aH T qy [7,15] 60 wP [part uQ [1,0,1,0,0]] ⟨aD wP (CO m p i),[],0⟩=
  let c2:Int:=(↑i:Int);let c1:AV:=ak 3 m fun i=>rat (p i) ah;let c4:Int:=c2+1;let c3:List AV:=[c1,AV.bool false,int i64 c2];some (fork (decide (c2<(↑m:Int))) (aj [(0:Int)<=c2/\c2.toNat<m,ah<2^41] (fork (dJ (p c2.toNat)!=0) (leaf ret (c3,[])) (aj [-(2:Int)^63<=c4/\c4<2^63] (leaf normal ([c1,AV.bool false,int i64 c4],[]))))) (leaf (exit 0) (c3,[]))):=ag
theorem acF {m i:Nat} {p:Nat->Rat}:cN T qy [] 60 f21 [part uQ [1,1]] ⟨aD wP (CO m p i),[],0⟩=
  some (leaf ret [AV.bool true]):=ag
theorem Qe:aX 94 f94:=aY func94
theorem abh {p q:PP}:bT T Jj [] 60 f94 (aG f94) ⟨aS 0 [aP p,aP q],[],0⟩=
  some (aj [-(2:Int)^63<=-1,(-1:Int)<2^63,Max.max 1 (bI (-1:Int).natAbs)<=ah,aR q,q.1<2^40,cu q.1 (jI ((-1:Int):Rat) q).2,aR p,aR (jI ((-1:Int):Rat) q),1<=p.1,1<=q.1,p.1<=41,q.1<=41,iQ p.1 p.2 (max p.1 q.1-p.1),iQ q.1 (jI ((-1:Int):Rat) q).2 (max p.1 q.1-q.1),cu (max p.1 q.1) (jK p q).2] (leaf ret [aP (jK p q)])):=ag
theorem VL:aX 32 f32:=aY func32
theorem Oy {p q:PP}:bT T Mh [] 60 f32 (aG f32) ⟨aS 0 [aP p,aP q],[],0⟩=
  some (aj [aR p,aR q,ov p q,aR (jK p q),max p.1 q.1<2^40] (leaf ret [AV.bool (gL (jK p q))])):=ag
theorem WK:aX 89 f89:=aY func89
theorem Z4 {n:Nat} {k:Nat->Rat}:aH T An [] 60 xj (before v8 [1,0,1]) ⟨aS 0 [aZ k n ah],[],0⟩=
  some (leaf normal ([AV.bool false,ak 3 n fun i=>rat (k i) ah,int i64 0],[])):=ag
theorem U1 {n i:Nat} {k:Nat->Rat}:aH T An [7] 60 xj [part v8 [1,0,1,0,0]] ⟨aD xj (B4 n k i),[],1⟩=
  let c2:Int:=(↑i:Int);let c1:AV:=ak 3 n fun i=>rat (k i) ah;let c3:Int:=c2+1;some (fork (decide (c2<(↑n:Int))) (aj [(0:Int)<=c2/\c2.toNat<n] (aj [-(2:Int)^63<=c3/\c3<2^63] (leaf normal ([AV.bool false,c1,int i64 c3],[])))) (leaf (exit 0) ([AV.bool false,c1,int i64 c2],[]))):=ag
theorem WG {n i:Nat} {k:Nat->Rat}:cN T An [] 60 f89 [part v8 [1,1]] ⟨aD xj (B4 n k i),[],1⟩=
  some (leaf ret [AV.bool true]):=ag
theorem Qg:aX 30 f30:=aY func30
theorem Xb {p:PP}:bT T Sd [100006,100011] 60 f30 (aG f30) ⟨aS 0 [aP p],[],0⟩=
  let c1:Int:=(↑p.fst:Int);some (aj [decide (c1>=1)=true,(bif true then decide (c1<=41)else false)=true,dc (fun i=>rat (p.snd i) ah) p.fst ah,p.fst<2^40] (leaf ret [AV.bool true])):=ag
theorem Oc:aX 34 f34:=aY func34
theorem XL {p:PP}:bT T Nd [10] 60 f34 (aG f34) ⟨aS 0 [aP p],[],0⟩=
  some (aj [aR p,ej p] (fork (((aC p).1:Int)==0) (aj [(1:Nat)*3<=2^24] (leaf ret [ak 3 1 fun i=>nth [agg [AV.bool (decide ((0:Rat)<0)),mag (0:Int).natAbs,mag (if 1=1 then 0 else 1)]] (rat 0 1) (i+0)])) (aj [aR (aC p),1<=(aC p).1,(aC p).1<=41,iT (aC p).1 (aC p).2] (leaf ret [aZ (ec (aC p).1 (aC p).2) (aC p).1 ah])))):=ag
theorem OS:bK P Ae:=gW (aK (Z3 fun a b t K hn=>bW (r:=aJ (KR a b t) []) hT kO hm PL rfl aW rfl 60 aap (fun _=>by
 obtain⟨h1,h2,h3⟩:=hn
 have h3:b.2+a.2+1+t.2<2^40:=h3
 have e1:(2:Nat)^40<2^41:=by decide
 simp only[af.all,az]
 exact⟨⟨aa,aa,aa,aa,aa,aa,aa,aa,aa,aa,aa⟩,aa,.refl _⟩) K []) (aK Al bU))
def vL (m:Nat) (p:Nat->Rat) (i j:Nat):Rat:=if j<i\/j=m then gO m p j else 0
theorem adl {m:Nat} {p:Nat->Rat} (h1:1<=m) (h2:m<=40) (hz:cu (m+1) (gO m p)) (K:Nat):aO P 150 K [aZ p m ah] [] (aJ (aZ (gO m p) (m+1) ah) []):=by
 have hW:=dg
 refine kg (r:=aJ (aZ (gO m p) (m+1) ah) []) hT OS hm ZL rfl aW rfl [1,1,1,1,0,1] (i:=0) (y:=part xq [1,1,1,1,0,1,0,0]) (z:=part xq [1,1,1,1,1]) ag ag ag (f1:=[]) (f2:=[26]) (f3:=[]) 60 xg 1
  (fun i:Nat=>Ec m p i) (fun i=>[(0,cF (m+1) (vL m p i) ah)]) (fun i=>1<=i/\i<=m) (fun i=>i=m) (fun i=>m-i) (fun _=>⟨⟨_,OJ,?_⟩,fun i ⟨i1,i2⟩=>⟨_,Y0,?_⟩,fun i hi=>⟨_,Ty,?_⟩⟩) K []
 ·have e1:((m:Int)+1).toNat=m+1:=aa
  have e2:((m:Int)-1).toNat=m-1:=aa
  have e3:(0:Int).toNat=0:=rfl
  simp only[af.all,az,e1,e2,e3,bu,Nat.add_zero]
  refine⟨⟨aa,aa⟩,⟨aa,aa,aa,aa,aa,aa,aa⟩,1,⟨aa,aa⟩,[(0,24576)],rfl,rfl,rfl,bw rfl rfl rfl (fun j hj=>.inr ⟨rfl,?_⟩) trivial⟩
  by_cases j1:j=m
  ·subst j1
   rw[beq_self_eq_true]
   exact cY (by show p (j-1)=if _ then gO j p j else 0;rw[if_pos (.inr rfl)];unfold gO;rw[if_neg aa,if_pos rfl]) aQ
  ·rw[show(j==m)=false by simpa using j1]
   by_cases j2:j=0
   ·subst j2
    exact cY (by show p 0=if _ then gO m p 0 else 0;rw[if_pos (.inl aa)];unfold gO;rw[if_pos rfl]) aQ
   ·rw[show(j==0)=false by simpa using j2]
    exact cY (by show 0=if _ then gO m p j else 0;rw[if_neg aa]) (by show 1<=ah;omega)
 ·have e2:((i:Int)-1).toNat=i-1:=aa
  simp only[af.all,az,bz,bE,e2,bu,Nat.add_zero]
  refine⟨fun h=>⟨⟨aa,aa,aa,aa,aa,aa,aa,aa,aa,aa,aa,aa⟩,aa,i+1,⟨aa,aa⟩,by dsimp only;omega,[(0,0)],rfl,by rw[show(i:Int)+1=((i+1:Nat):Int) by omega];rfl,rfl,bw rfl rfl rfl (fun j hj=>?_) trivial⟩,fun h=>⟨rfl,i,aa,[(0,0)],rfl,rfl,rfl,bw rfl rfl rfl (fun i hi=>bP rfl rfl) trivial⟩⟩
  have e3:vL m p (i+1) i=gO m p i:=if_pos (.inl (Nat.lt_succ_self i))
  refine lf (x:=vL m p i) (y:=vL m p (i+1)) (ee ?_ (by rw[e3];exact hz i aa)) fun hne=>cY ?_ aQ
  ·rw[e3];unfold gO;rw[if_neg aa,if_neg aa]
  ·unfold vL
   by_cases j1:j<i\/j=m
   ·rw[if_pos j1,if_pos aa]
   ·rw[if_neg j1,if_neg aa]
 ·subst hi
  simp only[af.all,az]
  exact gi fun j hj=>cY (if_pos aa) aQ
theorem PV:bf P GP 150:=dF fun⟨⟨_,_⟩,_⟩ K hn=>adl hn.1 hn.2.1 hn.2.2 K
theorem H9:bK P yQ:=gW (aK PV bU)
theorem OW {args:List AV} {m n:Nat} {p:Nat->Rat} {l:List Prop} (ha:az l->gj (aV []) args [aZ p m ah,.int .i64 n]) (hn:az l->1<=m/\m<=n+1/\n<=40/\iQ m p (n+1-m)) (K:Nat):aO P 95 K args [] ⟨m9 [.own K 3 0 (n+1),.int .i64 0],[(K,cF (n+1) (jF m p (n+1-m)) ah)],l⟩:=by
 refine Cw hT Hw ha aW fun need c hk=>?_
 obtain⟨h1,h2,h3,hz⟩:=hn need
 have hW:=dg
 refine au.oN hT H9 hm (x:=s8) [1,1,0] (i:=0) (y:=part s8 [1,1,0,0,0]) (z:=part s8 [1,1,1]) ag ag ag Hw.dst hk (f1:=[200011,200014]) (f2:=[18]) 60 [0,1] 0 (fun k:Nat=>FW m p n k) (fun _=>[])
  (fun k=>m+k<=n+1) (fun k=>m+k=n+1) (fun k=>n+1-(m+k)) (fun _=>False) ⟨_,QA,?_⟩ (fun k hk=>⟨_,Tf,?_⟩) (fun k hk=>?_) (fun _ _ h=>h.elim)
 ·simp only[af.all,az,cond_false,bE]
  exact⟨⟨aa,aa⟩,aa,0,aa,.vals rfl⟩
 ·simp only[af.all,az,bz,bE]
  refine⟨fun h=>⟨⟨cZ aQ,aa,aa,?_⟩,k+1,aa,by dsimp only;omega,.vals rfl⟩,fun h=>⟨rfl,k,aa,.vals rfl⟩⟩
  exact hz (k+1) aa
 ·have e1:n+1-m=k:=aa
  rw[e1,<-hk]
  refine au.bF hT H9 hm 60 [4,5] VO ag ?_
  simp only[af.all,az]
  exact⟨⟨aa,aa⟩,fun s' hs'=>⟨.inr trivial,[4,5],_,[.own 8192 3 0 (0+(m+k)),.int .i64 0],_,8192,_,hs',ag,⟨⟨rfl,dK (by simp[aV,look]) rfl aa⟩,aN,trivial⟩,rfl,gM aa fun i hi=>gy rfl⟩⟩
theorem On:bf P LF 95:=by
 refine wI fun K args r hk hs=>?_
 split at hs
 ·rename_i v n
  split at hs
  ·rename_i m p q hv
   simp only[ax]at hs
   subst hs
   by_cases h0:0<=n
   ·obtain⟨n,rfl⟩:∃k:Nat,n=(k:Int):=⟨n.toNat,aa⟩
    have e1:((n:Int)+1).toNat=n+1:=aa
    rw[e1]
    refine OW (fun hn=>Dw hk (by cases v<;>first|rfl|simp[kL,rX]at hv) ⟨(kL ah).ok hv (fo.1 hn).1,.refl _,trivial⟩) (fun hn=>?_) K
    obtain⟨a1,a2,_,a4,a5⟩:=(fo (a:=q)).1 hn|>.2
    exact⟨a1,a2,aa,a5⟩
   ·intro need
    have:=((fo (a:=q)).1 need).2.2.2.1
    exact absurd this h0
  ·simp at hs
 ·simp at hs
theorem acO:bK P zq:=gW (aK On kO)
theorem Ns {p q:PP} (hp:1<=p.1) (hq:1<=q.1) (lp:p.1<=41) (lq:q.1<=41) (h1:iQ p.1 p.2 (max p.1 q.1-p.1)) (h2:iQ q.1 q.2 (max p.1 q.1-q.1)) (hz:cu (max p.1 q.1) (g9 p q).2) (K:Nat):aO P 33 K [aP p,aP q] [] (aJ (aP (g9 p q)) []):=by
 have hW:=dg
 have mm:max p.1 q.1<=41:=Nat.max_le.2 ⟨lp,lq⟩
 have m1:=Nat.le_max_left p.1 q.1
 have m2:=Nat.le_max_right p.1 q.1
 refine kg (r:=aJ (aP (g9 p q)) []) hT acO hm Rr rfl aW rfl [1,1,1,1,0,1] (i:=0) (y:=part uH [1,1,1,1,0,1,0,0]) (z:=part uH [1,1,1,1,1]) ag ag ag (f1:=[]) (f2:=[32]) (f3:=[]) 60 wX 2
  (fun i:Nat=>Ba (max p.1 q.1) i) (fun i=>BE (max p.1 q.1) (fun j=>if j<i then(g9 p q).2 j else(nr p (max p.1 q.1)).2 j) (nr q (max p.1 q.1)).2) (fun i=>i<=max p.1 q.1) (fun i=>i=max p.1 q.1) (fun i=>max p.1 q.1-i) (fun _=>⟨⟨_,Xh,?_⟩,fun i hi=>⟨_,QS,?_⟩,fun i hi=>⟨_,ab9,?_⟩⟩) K []
 ·have e0:(if(p.1:Int)<(q.1:Int)then(q.1:Int)else(p.1:Int))=((max p.1 q.1:Nat):Int):=by split<;>omega
  have e1:(((max p.1 q.1:Nat):Int)-1+1).toNat=max p.1 q.1:=aa
  simp only[af.all,az,e0,e1]
  generalize max p.1 q.1=N at*
  exact⟨aa,⟨cZ aQ,aa,aa,aa,aa,h1⟩,⟨cZ aQ,aa,aa,aa,aa,h2⟩,0,Nat.zero_le _,[(0,40960),(1,73728)],rfl,rfl,rfl,bw rfl rfl rfl (fun j hj=>bP rfl rfl) (bw rfl rfl rfl (fun j hj=>bP rfl (by show _=AV.rat (if j<0 then _ else _) _;rw[if_neg (Nat.not_lt_zero j)];rfl)) trivial)⟩
 ·simp only[af.all,az,bz,bE,bu,Nat.add_zero]
  refine⟨fun h=>⟨⟨aa,aa,aa,aa,aa,aa,aa,aa⟩,aa,i+1,aa,by dsimp only;omega,[(0,0),(1,1)],rfl,by rw[show(i:Int)+1=((i+1:Nat):Int) by omega];rfl,rfl,bw rfl rfl rfl (fun j hj=>bP rfl rfl) (bw rfl rfl rfl (fun j hj=>?_) trivial)⟩,fun h=>⟨rfl,i,aa,[(0,0),(1,1)],rfl,rfl,rfl,bw rfl rfl rfl (fun j hj=>bP rfl rfl) (bw rfl rfl rfl (fun i hi=>bP rfl rfl) trivial)⟩⟩
  have e3:(if i<i+1 then(g9 p q).2 i else(nr p (max p.1 q.1)).2 i)=(g9 p q).2 i:=if_pos (Nat.lt_succ_self i)
  refine lf (x:=fun j=>if j<i then(g9 p q).2 j else(nr p (max p.1 q.1)).2 j) (y:=fun j=>if j<i+1 then(g9 p q).2 j else(nr p (max p.1 q.1)).2 j) (ee ?_ (by rw[e3];exact hz i aa)) fun hne=>cY (x8 hne).symm aQ
  rw[e3,if_neg (Nat.lt_irrefl i)];rfl
 ·subst hi
  simp only[af.all,az]
  exact gi fun j hj=>cY (if_pos hj) aQ
theorem Jm:bf P A7 33:=dF fun⟨_,_,_⟩ K hn=>Ns hn.1 hn.2.1 hn.2.2.1 hn.2.2.2.1 hn.2.2.2.2.1 hn.2.2.2.2.2.1 hn.2.2.2.2.2.2 K
theorem Yy {r:Rat} {p:PP} (h1:p.1<2^40) (hz:cu p.1 (jI r p).2) (K:Nat):aO P 149 K [.rat r ah,aP p] [] (aJ (aP (jI r p)) []):=by
 have hW:=dg
 refine kg (r:=aJ (aP (jI r p)) []) hT J1 hm acE rfl aW rfl [1,1,0,1] (i:=0) (y:=part uh [1,1,0,1,0,0]) (z:=part uh [1,1,1]) ag ag ag (f1:=[]) (f2:=[13]) (f3:=[]) 60 v5 2
  (fun i:Nat=>AT p.1 p.2 i) (fun i=>A6 p.1 r (fun j=>if j<i then r*p.2 j else 0)) (fun i=>i<=p.1) (fun i=>i=p.1) (fun i=>p.1-i) (fun _=>⟨⟨_,W4,?_⟩,fun i hi=>⟨_,N5,?_⟩,fun i hi=>⟨_,Y9,?_⟩⟩) K []
 ·simp only[af.all,az,bu]
  exact⟨aa,0,Nat.zero_le _,[(0,0),(1,16384)],rfl,rfl,rfl,bw rfl rfl rfl (fun j hj=>.inr ⟨rfl,cY (if_neg (Nat.not_lt_zero j)).symm aa⟩) (dU trivial)⟩
 ·simp only[af.all,az,bz,bE,bu,Nat.add_zero]
  refine⟨fun h=>⟨⟨aa,aa,aa,aa,aa,aa⟩,aa,i+1,aa,by dsimp only;omega,[(0,0),(1,1)],rfl,by rw[show(i:Int)+1=((i+1:Nat):Int) by omega];rfl,rfl,bw rfl rfl rfl (fun j hj=>?_) (dU trivial)⟩,fun h=>⟨rfl,i,aa,[(0,0),(1,1)],rfl,rfl,rfl,bw rfl rfl rfl (fun j hj=>bP rfl rfl) (dU trivial)⟩⟩
  exact lf (x:=fun j=>if j<i then r*p.2 j else 0) (y:=fun j=>if j<i+1 then r*p.2 j else 0) (ee (if_pos (Nat.lt_succ_self i)).symm (by show Sz (if i<i+1 then _ else _) _;rw[if_pos (Nat.lt_succ_self i)];exact hz i aa)) fun hne=>cY (x8 hne).symm aQ
 ·subst hi
  simp only[af.all,az]
  exact gi fun j hj=>cY (if_pos hj) aQ
theorem Xl:bf P Lt 149:=dF fun⟨_,_,_⟩ K hn=>Yy hn.1 hn.2 K
theorem O6 {p:PP} (h1:p.1<2^40) (K:Nat):aO P 21 K [aP p] [] (aJ (.bool (gL p)) []):=by
 have hW:=dg
 refine kg (r:=aJ (.bool (gL p)) []) hT J1 hm X5 rfl aW rfl [1,0,1] (i:=0) (y:=part uQ [1,0,1,0,0]) (z:=part uQ [1,1]) ag ag ag (f1:=[]) (f2:=[7,15]) (f3:=[]) 60 wP 0
  (fun i:Nat=>CO p.1 p.2 i) (fun _=>[]) (fun i=>i<=p.1/\∀j,j<i->p.2 j=0) (fun i=>i=p.1/\∀j,j<i->p.2 j=0) (fun i=>p.1-i) (fun _=>⟨⟨_,RU,?_⟩,fun i ⟨i1,i2⟩=>⟨_,SN,?_⟩,fun i hi=>⟨_,acF,?_⟩⟩) K []
 ·simp only[af.all,az]
  exact⟨0,⟨Nat.zero_le _,fun j hj=>absurd hj (Nat.not_lt_zero j)⟩,.vals rfl⟩
 ·simp only[af.all,az,bz,bE,bu,bne_iff_ne,ne_eq,bne_eq_false_iff_eq]
  refine⟨fun h=>⟨⟨aa,aa⟩,fun hb=>⟨[.bool false],ag,jR (decide_eq_false fun hh=>hb (by rw[hh i aa];rfl)).symm⟩,fun hb=>⟨aa,i+1,⟨aa,fun j hj=>?_⟩,by dsimp only;omega,.vals rfl⟩⟩,fun h=>⟨rfl,i,⟨aa,i2⟩,.vals rfl⟩⟩
  by_cases hj2:j=i
  ·subst hj2;exact of_decide_eq_true (rM.symm.trans (by rw[hb];rfl))
  ·exact i2 j aa
 ·simp only[af.all,az]
  exact jR (decide_eq_true fun j hj=>hi.2 j aa).symm
theorem JX:bf P EK 21:=dF fun⟨_,_⟩ K hn=>O6 hn K
theorem Z8:bK P Jj:=gW (aK Jm (aK Xl kO))
theorem XQ {p q:PP} (h:ov p q) (K:Nat):aO P 94 K [aP p,aP q] [] (aJ (aP (jK p q)) []):=by
 have hW:=dg
 obtain⟨h1,h2,h3,h4,h5,h6,h7,h8⟩:=h
 refine bW hT Z8 hm Qe rfl aW rfl 60 abh (fun _=>?_) K []
 simp only[af.all,az]
 exact⟨⟨aa,aa,by rw[hW];decide,cR,aa,h5,cR,cR,h1,h2,h3,h4,h6,h7,h8⟩,.refl _⟩
theorem ZQ:bf P GC 94:=dF fun⟨_,_,_⟩ K hn=>XQ hn K
theorem OD:bK P Mh:=gW (aK ZQ (aK JX bU))
theorem Xy {p q:PP} (h:ov p q) (K:Nat):aO P 32 K [aP p,aP q] [] (aJ (.bool (gL (jK p q))) []):=by
 refine bW hT OD hm VL rfl aW rfl 60 Oy (fun _=>?_) K []
 have mm:max p.1 q.1<=41:=Nat.max_le.2 ⟨h.2.2.1,h.2.2.2.1⟩
 simp only[af.all,az]
 exact⟨⟨cR,cR,h,cR,aa⟩,.refl _⟩
theorem PO:bf P IK 32:=dF fun⟨_,_,_⟩ K hn=>Xy hn K
theorem adq:bf P FV 144:=by
 refine cE fun K args r hk hs _=>?_
 split at hs
 ·split at hs
  ·rename_i hb
   simp only[ax]at hs
   subst hs
   exact T2 (Nat.le_of_ble_eq_true hb) K
  ·simp at hs
 ·simp at hs
theorem acG:bK P An:=gW (aK adq bU)
theorem Wv {n:Nat} {k:Nat->Rat} (hn:n<2^40) (K:Nat):aO P 89 K [aZ k n ah] [] (aJ (.bool true) []):=by
 refine kg (r:=aJ (.bool true) []) hT acG hm WK rfl aW rfl [1,0,1] (i:=0) (y:=part v8 [1,0,1,0,0]) (z:=part v8 [1,1]) ag ag ag (f1:=[]) (f2:=[7]) (f3:=[]) 60 xj 1
  (fun i:Nat=>B4 n k i) (fun _=>[]) (fun i=>i<=n) (fun _=>True) (fun i=>n-i) (fun _=>⟨⟨_,Z4,?_⟩,fun i hi=>⟨_,U1,?_⟩,fun i hi=>⟨_,WG,?_⟩⟩) K []
 ·simp only[af.all,az]
  exact⟨0,Nat.zero_le _,eW.vals rfl⟩
 ·simp only[af.all,az,bz,bE]
  exact⟨fun h=>⟨aa,aa,i+1,aa,by dsimp only;omega,eW.vals rfl⟩,fun h=>⟨rfl,i,trivial,eW.vals rfl⟩⟩
 ·simp only[af.all,az]
  exact .refl _
theorem Tt:bf P Mz 89:=dF fun⟨⟨n,k⟩,_⟩ K hn=>Wv hn K
theorem ZE {p:PP} (h1:1<=p.1) (h2:p.1<=41) (K:Nat):aO P 30 K [aP p] [] (aJ (.bool true) []):=by
 refine bW hT (gW (aK Tt bU)) hm Qg rfl aW rfl 60 Xb (fun _=>?_) K []
 simp only[af.all,az,bz,cond_true]
 exact⟨⟨aa,aa,cR,aa⟩,.refl _⟩
theorem VN:bf P Gi 30:=dF fun⟨_,_⟩ K hn=>ZE hn.1 hn.2 K
theorem Nl:bK P Nd:=gW (aK acH (aK GO kO))
theorem So {p:PP} (hp:ej p) (hz:jq (aC p)) (K:Nat):aO P 34 K [aP p] [] (aJ (aP (fF (aC p))) []):=by
 refine bW hT Nl hm Oc rfl aW rfl 60 XL (fun _=>?_) K []
 generalize aC p=a at*
 simp only[af.all,az,beq_iff_eq,beq_eq_false_iff_ne]
 refine⟨⟨cR,hp⟩,fun h=>⟨aa,?_⟩,fun h=>⟨⟨cR,aa,hz.1,hz.2⟩,?_⟩⟩
 ·have h0:a.1=0:=aa
  show bB _ (aZ (mJ a.1 a.2) (fP a.1) ah)
  rw[h0]
  refine gi (n:=1) fun i hi=>?_
  obtain rfl:i=0:=aa
  exact mK
 ·have e1:fP a.1=a.1:=if_neg aa
  show bB _ (aZ (mJ a.1 a.2) (fP a.1) ah)
  rw[e1]
  exact gi fun i hi=>cY (if_neg (show¬a.1=0 by omega)).symm aQ
theorem Uz:bf P Ia 34:=dF fun⟨_,_⟩ K hn=>So hn.1 hn.2 K
end Go.Am.B
