/- ref02: Valid, Valids, Bits; ref04.Valid; ref10: Short, shortPoles. -/
import Derived.Test.YtolopdkjjlfgjaaGreatY8
import Derived.Test.YtolopdkjjlfgjaaGreatZ2
import Derived.Test.YtolopdkjjlfgjaaGreatY11
import Derived.Test.YtolopdkjjlfgjaaGreatY12
import Derived.Test.YtolopdkjjlfgjaaGreatY7
set_option linter.unusedVariables false
noncomputable section
namespace Go.Am.B
open Go Go.Am.N AV ag au IntKind Proofs.Tryz
theorem UC:bu 172 f172:=bC func172
theorem aeT:bu 144 f144:=bC func144
def ND:Spec:=cD fun l=>match l with
 |[.mag N]=>some (aO (.bool true) [nl N<2^40])
 |_=>none
def VD:bE:=[(172,ND),(86,FO),(173,G5)]
theorem aik {N:Nat}:cy T [] [6] 60 f172 (aK f172) ⟨aZ 0 [.mag N],[],0⟩=
  let b:=(↑(nl N):Int)==0;let a:=i64.wrap ((↑(nl N):Int)-1);some (fork b (aj [b=true] (leaf ret [AV.bool true])) (aj [b=false,(0:Int)<=a/\a.toNat<nl N] (leaf ret [AV.bool (bif false then true else(↑(aG N a.toNat):Int)!=0)]))):=ah
theorem UF {q:Rat} {n:Nat}:cy T VD [19,27,32,35,42,51] 60 f144 (aK f144) ⟨aZ 0 [.rat q n],[],0⟩=
  let p:=bif !true then true else !true;let h:=Int.toNat (0:Int);let g:=decide (q<0);let e:=q.num.natAbs;let u:ag (List AV):=leaf ret [AV.bool false];let y:=2^40;let a:=0<1;let w:=if q.den=1 then 0 else q.den;let r:=(↑(nl w):Int);let d:=nl w<y;let b:=nl e<y;let k:=(↑(nl (e.gcd q.den)):Int)==1;let f:=(0:Int)<=0/\h<nl w;let x:=bif p then true else false;let l:=(↑(nl e):Int)==0;let t:=bif p then true else bif true then(↑(aG w h):Int)==1 else false;let s:=[a,l=true,a,g=true];let o:=[a,l=true,a,g=false,a];let j:=r==1;let v:ag (List AV):=aj [a,a,nl e<2^38,nl q.den<2^38] (fork k (aj [k=true,(0:Int)<=0/\h<nl (e.gcd q.den)] (leaf ret [AV.bool (bif true then(↑(aG (e.gcd q.den) h):Int)==1 else false)])) (aj [k=false] u));let i:ag (List AV):=fork true u v;let m:ag (List AV):=fork (bif false then true else bif true then bif false then true else decide (r>0)else false) u v;some (fork j (fork t (aj [a,b,a,d,a,j=true,a,f,t=true] i) (fork l (fork g (aj (a::b::a::d::a::(j=true)::a::f::(t=false)::s) i) (aj (a::b::a::d::a::(j=true)::a::f::(t=false)::o) m)) (aj [a,b,a,d,a,j=true,a,f,t=false,a,l=false] (fork false u v)))) (fork false (aj [a,b,a,d,a,j=false,x=true] i) (fork l (fork g (aj (a::b::a::d::a::(j=false)::(x=false)::s) i) (aj (a::b::a::d::a::(j=false)::(x=false)::o) m)) (aj [a,b,a,d,a,j=false,x=false,a,l=false] (fork false u v))))):=ah
theorem agD:bp P ND 172:=by
 refine cZ fun K args r hk hs _=>?_
 split at hs
 ·rename_i N
  simp only[aB]at hs
  subst hs
  refine cB (r:=aO (.bool true) [nl N<2^40]) hT cJ hm UC rfl bh rfl 60 aik (fun need=>?_) K []
  have need:nl N<2^40:=need
  have e:nl N≠0->i64.wrap ((nl N:Int)-1)=(nl N:Int)-1:=fun h=>wrap_i64 aa aa
  simp only[ag.all,aC,beq_iff_eq,beq_eq_false_iff_ne,ne_eq]
  refine⟨fun h=>⟨h,.refl _⟩,fun h=>?_⟩
  have h0:nl N≠0:=aa
  have hN:N≠0:=fun h2=>h0 (by rw[h2];rfl)
  rw[e h0,show((nl N:Int)-1).toNat=nl N-1 by omega]
  refine⟨⟨h,⟨aa,aa⟩⟩,jh ?_⟩
  rw[cond_false,bne_iff_ne]
  have:=AH hN
  omega
 ·simp at hs
theorem ac6 {q:Rat} {n:Nat} (hn:n<=2^36) (K:Nat):aW P 144 K [.rat q n] [] (aO (.bool true) []):=by
 refine lJ fun⟨hq,_⟩=>?_
 have hq:Sz q n:=hq
 refine cB (r:=aO (.bool true) []) hT (aM agD (aM NR (aM Nk cJ))) hm aeT rfl bh rfl 60 UF (fun _=>?_) K []
 have hg:Nat.gcd q.num.natAbs q.den=1:=q.reduced
 obtain⟨d,hd⟩:∃d,d=if q.den=1 then 0 else q.den:=⟨_,rfl⟩
 have k1:=gW (n:=n) hq.1 aa
 have k2:=gW (n:=n) hq.2 aa
 have k3:nl d<=nl q.den:=by rw[hd];exact jz OF
 have k4:nl d=1->¬(aG d 0:Int)=1:=fun h1 h2=>by
  have h3:d<2^32:=by have:=eP.1 (show nl d<=1 by omega);simpa using this
  have h4:aG d 0=d:=by unfold aG;simp;omega
  rw[h4]at h2
  have h5:d=1:=aa
  rw[hd]at h5
  split at h5<;>omega
 have k5:nl q.num.natAbs=0->¬q<0/\nl d=0:=fun h1=>by
  have h2:q.num.natAbs=0:=by
   by_cases h:q.num.natAbs=0
   ·exact h
   ·unfold nl at h1;rw[if_neg h]at h1;omega
  have h3:q=0:=Rat.num_eq_zero.1 aa
  subst h3
  rw[hd]
  exact⟨by decide,by decide⟩
 simp only[ag.all,aC,hg,<-hd,show nl 1=1 from by decide,show aG 1 0=1 from by decide,Int.toNat_zero]
 by_cases h7:nl d=1
 ·have h4:=k4 h7
  have h6:nl q.num.natAbs≠0:=fun h=>by have:=(k5 h).2;omega
  simp[h7,h4,h6]
  exact⟨aa,⟨aa,aa⟩,.refl _⟩
 ·by_cases h6:nl q.num.natAbs=0
  ·obtain⟨h8,h9⟩:=k5 h6
   simp[h9,h6,h8]
   exact⟨aa,.refl _⟩
  ·simp[h7,h6]
   exact⟨fun h=>absurd h aa,fun h=>⟨⟨aa,aa,h⟩,⟨aa,aa⟩,.refl _⟩⟩
def aj3 (h:Pl):V3:=⟨((1:Int):Rat)/h.d*h.n.x,((1:Int):Rat)/h.d*h.n.y,((1:Int):Rat)/h.d*h.n.z⟩
def aaL (c:Cu) (x:Nat->Rat) (b j:Nat):Pl:=
 ⟨⟨zx j fun j=>x j*((c.f (b+j)).d*(c.f (b+j)).n.x),zx j fun j=>x j*((c.f (b+j)).d*(c.f (b+j)).n.y),zx j fun j=>x j*((c.f (b+j)).d*(c.f (b+j)).n.z)⟩,zx j fun j=>x j*(c.f (b+j)).d⟩
def aiG (c:Cu) (t:Rat):Pl:=aaL c (vB c.k (Rt c.n c.k t) t c.p.toNat) (Rt c.n c.k t-c.p.toNat) (c.p.toNat+1)
def aE (c:Cu) (t:Rat):V3:=if Qa c.n c.k t then⟨0,0,0⟩else aj3 (aiG c t)
theorem div_one {a b:Rat}:a/b=((1:Int):Rat)/b*a:=by
 rw[Rat.div_def,Rat.div_def,show((1:Int):Rat)=1 from rfl,Rat.one_mul,Rat.mul_comm]
theorem ZO:bu 192 f192:=bC func192
theorem We:bu 176 f176:=bC func176
def Ln:Spec:=cD fun l=>match l with
 |[.mag N]=>some (aO (.bool true) [nl N<2^40])
 |_=>none
def NS:bE:=nG::(192,Ln)::(126,cD (ni F4))::(167,cD (jM HB))::(120,Gt)::[]
def MD:Spec:=cD fun l=>match l with
 |[.rat q n]=>some (aO (.bool true) [n<2^44])
 |_=>none
theorem ahK {N:Nat}:cy T [nG] [6] 60 f192 (aK f192) ⟨aZ 0 [.mag N],[],0⟩=
  let b:=(↑(nl N):Int)==0;let a:=(↑(nl N):Int)-1;some (fork b (aj [b=true] (leaf ret [AV.bool true])) (aj [b=false,-(2:Int)^63<=a/\a<2^63,(0:Int)<=a/\a.toNat<nl N] (leaf ret [AV.bool (bif false then true else(↑(aG N a.toNat):Int)!=0)]))):=ah
theorem agl {q:Rat} {n:Nat}:cy T NS [18,25,29,33,43] 60 f176 (aK f176) ⟨aZ 0 [.rat q n],[],0⟩=
  let i:ag (List AV):=leaf ret [AV.bool false];let h:=!decide (q<0);let f:=q.num.natAbs;let e:=2^40;let a:=0<1;let b:=if q.den=1 then 0 else q.den;let k:=(↑(nl b):Int);let d:=k==1;let g:=k==0;let j:ag (List AV):=aj [a] (fork ((↑(nl f):Int)==0) (fork h (aj [a,h=true,a] (leaf ret [AV.bool (bif true then g else false)])) (aj [a,h=false] i)) (fork g (aj [a,g=true] (leaf ret [AV.bool true])) (aj [a,g=false,a,a,nl f<e,nl b<e,nl (f.gcd b)<e] (leaf ret [AV.bool (bif false then true else(↑(ck (f.gcd b)):Int)==1)]))));some (fork d (aj [a,nl f<e,a,nl b<e,a,d=true,a,(0:Int)<=0/\Int.toNat (0:Int)<nl b] (fork (bif bif !true then true else !true then true else bif true then(↑(aG b (Int.toNat (0:Int))):Int)==1 else false) i j)) (aj [a,nl f<e,a,nl b<e,a,d=false] (fork false i j))):=ah
theorem aiI {N:Nat} (hn:nl N<2^40) (K:Nat):aW P 192 K [.mag N] [] (aO (.bool true) []):=by
 refine cB hT (gM cJ) hm ZO rfl bh rfl 60 ahK (fun _=>?_) K []
 simp only[ag.all,aC]
 refine⟨fun h=>⟨h,.refl _⟩,fun h=>?_⟩
 have h0:nl N≠0:=fun he=>by rw[he]at h;exact absurd h (by decide)
 have h1:N≠0:=fun he=>h0 (lz.2 he)
 have e1:((nl N:Int)-1).toNat=nl N-1:=aa
 have h2:=AH h1
 rw[e1]
 refine⟨⟨h,aa,aa⟩,jh ?_⟩
 rw[cond_false]
 exact bne_iff_ne.2 aa
theorem YL:bp P Ln 192:=by
 refine cZ fun K args r hk hs _=>?_
 split at hs
 ·simp only[aB]at hs
  subst hs
  exact fun need=>aiI need K trivial
 ·simp at hs
theorem aj0:bY P NS:=gM (aM YL (aM La (aM Oo (aM J5 cJ))))
theorem aeI {N:Nat} (h:nl N=1) (h1:aG N 0=1):N=1:=by
 have h2:N<2^(32*1):=eP.1 aa
 unfold aG at h1
 omega
theorem Yp {q:Rat} {n:Nat} (hn:n<2^44) (K:Nat):aW P 176 K [.rat q n] [] (aO (.bool true) []):=by
 refine lJ fun⟨hs1,_⟩=>?_
 obtain⟨a1,a2,a3⟩:=Sz.lM hs1 hn
 refine cB hT aj0 hm We rfl bh rfl 60 agl (fun _=>?_) K []
 obtain⟨D,hD⟩:∃D,D=if q.den=1 then 0 else q.den:=⟨_,rfl⟩
 have hD1:D≠1:=by rw[hD];split<;>omega
 have hg:D≠0->q.num.natAbs.gcd D=1:=fun h=>by
  have:D=q.den:=by rw[hD]at h ⊢;split<;>simp_all
  rw[this];exact q.reduced
 have hz:q.num.natAbs=0->¬q<0/\D=0:=fun h=>by
  have h0:=pR.1 h
  subst h0
  exact⟨by decide,by rw[hD];rfl⟩
 rw[<-hD]at a3 ⊢
 have nneg:((nl q.num.natAbs:Int)==0)=true->(!decide (q<0))=true/\((nl D:Int)==0)=true:=fun h=>by
  obtain⟨z1,z2⟩:=hz (lz.1 (by have:=beq_iff_eq.1 h;omega))
  rw[decide_eq_false z1,z2];exact⟨rfl,rfl⟩
 have last:((nl D:Int)==0)=false->D≠0:=fun h he=>by rw[he]at h;exact absurd h (by decide)
 simp only[ag.all,aC,cond_true,cond_false,Bool.not_true]
 refine⟨fun h=>⟨⟨aa,a1,aa,a3,aa,h,aa,aa,?_⟩,fun h2=>?_,fun h2=>⟨aa,fun h3=>⟨fun h4=>⟨⟨aa,h4,aa⟩,jh (nneg h3).2⟩,fun h4=>absurd (h4.symm.trans (nneg h3).1) (by decide)⟩,fun h3=>⟨fun h4=>⟨⟨aa,h4⟩,.refl _⟩,fun h4=>?_⟩⟩⟩,
  fun h=>⟨⟨aa,a1,aa,a3,aa,h⟩,fun h=>absurd h (by decide),fun _=>⟨aa,fun h3=>⟨fun h4=>⟨⟨aa,h4,aa⟩,jh (nneg h3).2⟩,fun h4=>absurd (h4.symm.trans (nneg h3).1) (by decide)⟩,fun h3=>⟨fun h4=>⟨⟨aa,h4⟩,.refl _⟩,fun h4=>?_⟩⟩⟩⟩
 ·have:=beq_iff_eq.1 h
  rw[Int.toNat_zero];omega
 ·have e1:=beq_iff_eq.1 h
  have e2:=beq_iff_eq.1 h2
  exact absurd (aeI aa (by rw[Int.toNat_zero]at e2;omega)) hD1
 ·rw[hg (last h4)]
  exact⟨⟨aa,h4,aa,aa,a1,a3,by decide⟩,jh (by decide)⟩
 ·rw[hg (last h4)]
  exact⟨⟨aa,h4,aa,aa,a1,a3,by decide⟩,jh (by decide)⟩
theorem U6:bp P MD 176:=by
 refine cZ fun K args r hk hs _=>?_
 split at hs
 ·simp only[aB]at hs
  subst hs
  exact fun need=>Yp need K trivial
 ·simp at hs
def GSv:bE:=nG::(176,MD)::iC
def NU:Spec:=cD fun l=>match l with
 |[.rat q n]=>some (aO (.bool true) [n<=2^36])
 |_=>none
def UX:bE:=nG::(144,NU)::iH
def iP (x y:Rat):Bool:=decide (g7 x y<=0)
def Cp:Spec:=ef (kC (xh af) kN) (fun a=>.bool (iP a.1.1 a.1.2)) fun _=>[]
def sU:Spec:=ef (kC (xh af) kN) (fun a=>.rat (aU a.1.1 a.1.2) af) fun a=>[Sz (aU a.1.1 a.1.2) af]
def U7:bE:=nG::(69,E1)::[]
def LQ:Spec:=ef (kC (fu af) (kC (fu af) kN)) (fun a=>.rat (aU a.1 a.2.1) af) fun a=>[Sz (aU a.1 a.2.1) af]
def VT:bE:=nG::(136,LQ)::[]
def ahS:bE:=nG::(111,sU)::(68,Cm)::[]
def Kx:Spec:=ef (kC (xh af) kN) (fun a=>.tuple [dH (fk a.1.1 (aU a.1.1 a.1.2)) (fl a.1.1 (aU a.1.1 a.1.2)) af,dH (fk (aU a.1.1 a.1.2) a.1.2) (fl (aU a.1.1 a.1.2) a.1.2) af]) fun a=>[Sz (aU a.1.1 a.1.2) af]
def iV (n:Nat) (c:Nat->PP) (s:Rat×Rat):Rat×Rat:=if b9 (c 0) (aU s.1 s.2)=0 then(aU s.1 s.2,aU s.1 s.2)else if dn n c s.1 (aU s.1 s.2)=1 then(s.1,aU s.1 s.2)else(aU s.1 s.2,s.2)
def sM (n:Nat) (c:Nat->PP) (s:Rat×Rat):Prop:=0<n/\n<2^30/\s.1<s.2/\cj n c s.1/\cj n c (aU s.1 s.2)/\Sz (aU s.1 s.2) af
def En:Spec:=ef (kC mW (kC (xh af) kN)) (fun a=>dH (iV a.1.1 a.1.2 a.2.1).1 (iV a.1.1 a.1.2 a.2.1).2 af) fun a=>[sM a.1.1 a.1.2 a.2.1]
def GHf:bE:=nG::(111,sU)::(70,BW)::(154,Kx)::(66,lT)::(60,tX)::iC
def Rd:Spec:=ef (kC (fu af) kN) (fun a=>dH a.1 a.1 af) fun _=>[]
def Uq:bE:=nG::(112,sU)::(77,Rd)::(76,lT)::(62,xD)::iH
theorem ZR:bu 153 f153:=bC func153
theorem adX {x y:Rat}:cy T GSv [] 60 f153 (aK f153) ⟨aZ 0 [dH x y af],[],0⟩=
  let d:=af<2^42;let b:=af<2^44;let a:=0<1;some (aj [a,b,a,b,a,a,d,d] (leaf ret [AV.bool (bif bif true then true else false then decide (g7 x y<=0)else false)])):=ah
theorem YS:bu 155 f155:=bC func155
theorem Wv {x y:Rat}:cy T UX [] 60 f155 (aK f155) ⟨aZ 0 [dH x y af],[],0⟩=
  let d:=af<=2^36;let b:=af<2^41;let a:=0<1;some (aj [a,d,a,d,a,a,b,b] (leaf ret [AV.bool (bif bif true then true else false then decide (g7 x y<=0)else false)])):=ah
theorem abW:bu 111 f111:=bC func111
theorem agk {x y:Rat}:cy T U7 [] 60 f111 (aK f111) ⟨aZ 0 [dH x y af],[],0⟩=
  let a:=0<1;some (aj [a,a,af<=af,af<=af,Sz (aU x y) af,a] (aj [a] (leaf ret [rat (aU x y) af]))):=ah
theorem af5:bu 112 f112:=bC func112
theorem aaO {x y:Rat}:cy T VT [] 60 f112 (aK f112) ⟨aZ 0 [dH x y af],[],0⟩=
  let a:=0<1;some (aj [a,a,af<=af,af<=af,Sz (aU x y) af,a] (aj [a] (leaf ret [rat (aU x y) af]))):=ah
theorem ajK:bu 154 f154:=bC func154
theorem agv {x y:Rat}:cy T ahS [] 60 f154 (aK f154) ⟨aZ 0 [dH x y af],[],0⟩=
  let b:=aU (aN (rat x af)) (aN (rat y af));let a:=0<1;some (aj [a,bf (rat x af) (rat (aN (rat x af)) af),bf (rat y af) (rat (aN (rat y af)) af),Sz b af,a] (aj [a,a,af<=af,af<=af,a,a,af<=af,af<=af,a,a] (aj [a,a] (leaf ret [agg [rat (fk x b) af,rat (fl x b) af],agg [rat (fk b y) af,rat (fl b y) af]])))):=ah
theorem aeF:bu 106 f106:=bC func106
theorem ZB {n:Nat} {c:Nat->PP} {x y:Rat}:cy T GHf [16,30] 60 f106 (aK f106) ⟨aZ 0 [eH n c,dH x y af],[],0⟩=
  let f:=aN (rat y af);let d:=aN (rat x af);let e:PP:=c (Int.toNat (0:Int));let a:=0<1;let j:=bf (rat x af) (rat d af);let h:Nat×(Nat->Rat):=(e.fst,fun i=>aN (rat (e.snd i) af));let g:=bf (rat y af) (rat f af);let b:=aU d f;let k:=rat b af;some (aj [a,j,g,Sz b af,a] (aj [(0:Int)<=0/\Int.toNat (0:Int)<n,a,cL (fun i=>rat (e.snd i) af) e.fst af,af<=af,e.fst<2^40,fF h b,af<2^42] (fork (bK (b9 h b)==0) (aj [a,af<=af,a] (aj [a] (leaf ret [agg [k,k]]))) (aj [a,j,g,Sz b af,a,a] (aj [a,a,∀(i:Nat),i<n->bf (aD (c i)) (aD (br (aD (c i)))),af<=af,af<=af,(0:Nat)<n,n<2^40,cj n (fun i=>br (aD (c i))) (fk d b),cj n (fun i=>br (aD (c i))) (fl d b)] (fork (dn n (fun i=>br (aD (c i))) (fk d b) (fl d b)==1) (aj [a,a] (aj [a] (leaf ret [agg [rat (fk d b) af,rat (fl d b) af]]))) (aj [a,a] (aj [a] (leaf ret [agg [rat (fk b f) af,rat (fl b f) af]]))))))))):=ah
theorem Vw:bu 109 f109:=bC func109
theorem afG {n:Nat} {c:Nat->PP} {x y:Rat}:cy T Uq [14,22] 60 f109 (aK f109) ⟨aZ 0 [eH n c,dH x y af],[],0⟩=
  let d:PP:=c (Int.toNat (0:Int));let a:=0<1;let b:=aU (aN (rat x af)) (aN (rat y af));let f:Nat×(Nat->Rat):=(d.fst,fun i=>aN (rat (d.snd i) af));let e:=rat b af;some (aj [a,bf (rat x af) (rat (aN (rat x af)) af),bf (rat y af) (rat (aN (rat y af)) af),Sz b af,a] (aj [(0:Int)<=0/\Int.toNat (0:Int)<n,a,cL (fun i=>rat (d.snd i) af) d.fst af,af<=af,d.fst<2^40,fF f b,af<2^41] (fork (bK (b9 f b)==0) (aj [a,af<=af,a] (aj [a] (leaf ret [agg [e,e]]))) (aj [a,a,∀(i:Nat),i<n->bf (aD (c i)) (aD (br (aD (c i)))),af<=af,af<=af,(0:Nat)<n,n<2^30,x<b,cj n (fun i=>br (aD (c i))) x,cj n (fun i=>br (aD (c i))) b] (fork (dn n (fun i=>br (aD (c i))) x b==1) (aj [a,a,a] (aj [a] (leaf ret [agg [rat x af,e]]))) (aj [a,a,a] (aj [a] (leaf ret [agg [e,rat y af]])))))))):=ah
theorem ahE:bp P NU 144:=by
 refine cZ fun K args r hk hs _=>?_
 split at hs
 ·simp only[aB]at hs
  subst hs
  intro hn
  exact ac6 hn K trivial
 ·simp at hs
theorem ahw:bp P Cp 153:=dy fun⟨⟨x,y⟩,_⟩ K _=>by
 have hW:=cP
 refine cB hT (gM (aM U6 iG)) hm ZR rfl bh rfl 60 adX (fun _=>?_) K []
 simp only[ag.all,aC,cond_true]
 exact⟨⟨aa,aa,aa,aa,aa,aa,aa,aa⟩,.refl _⟩
theorem S6:bp P Cp 155:=dy fun⟨⟨x,y⟩,_⟩ K _=>by
 have hW:=cP
 refine cB hT (gM (aM ahE iE)) hm YS rfl bh rfl 60 Wv (fun _=>?_) K []
 simp only[ag.all,aC,cond_true]
 exact⟨⟨aa,aa,aa,aa,aa,aa,aa,aa⟩,.refl _⟩
theorem FA:bp P sU 111:=dy fun⟨⟨x,y⟩,_⟩ K hn=>by
 refine cB hT (gM (aM Ke cJ)) hm abW rfl bh rfl 60 agk (fun _=>?_) K []
 simp only[ag.all,aC]
 exact⟨⟨aa,aa,aX,aX,hn,aa⟩,aa,.refl _⟩
theorem akb:bp P LQ 136:=dy fun⟨x,y,_⟩ K hn=>by
 have hW:=cP
 refine cB hT H9 hm JE rfl bh rfl 60 Kb (fun _=>?_) K []
 simp only[ag.all,aC]
 exact⟨⟨aa,aa,aa,aa,aa,aa,aa,aa,aa,aa,aa⟩,aa,eM (LO x y) (show Sz (aU x y) af from hn)⟩
theorem Ov:bp P sU 112:=dy fun⟨⟨x,y⟩,_⟩ K hn=>by
 refine cB hT (gM (aM akb cJ)) hm af5 rfl bh rfl 60 aaO (fun _=>?_) K []
 simp only[ag.all,aC]
 exact⟨⟨aa,aa,aX,aX,hn,aa⟩,aa,.refl _⟩
theorem afK:bp P Kx 154:=dy fun⟨⟨x,y⟩,_⟩ K hn=>by
 refine cB hT (gM (aM FA (aM Iz cJ))) hm ajK rfl bh rfl 60 agv (fun _=>?_) K []
 simp only[ag.all,aC]
 exact⟨⟨aa,.refl _,.refl _,hn,aa⟩,⟨aa,aa,aX,aX,aa,aa,aX,aX,aa,aa⟩,⟨aa,aa⟩,.refl _,.refl _,trivial⟩
theorem X6 {n:Nat} {c:Nat->PP} {x y:Rat} (h:sM n c (x,y)) (K:Nat):aW P 106 K [eH n c,dH x y af] [] (aO (dH (iV n c (x,y)).1 (iV n c (x,y)).2 af) []):=by
 have hW:=cP
 obtain⟨h1,h2,h3,h4,h5,h6⟩:=h
 have h3:x<y:=h3
 obtain⟨m1,m2,_⟩:=uP h3
 obtain⟨v1,v2⟩:=h5 0 h1
 have hrd:∀i,i<n->bf (aD (c i)) (aD (br (aD (c i)))):=fun i _=>.refl _
 have e1:fk x (aU x y)=x:=if_neg (by grind)
 have e2:fl x (aU x y)=aU x y:=if_pos m1
 have e3:fk (aU x y) y=aU x y:=if_neg (by grind)
 have e4:fl (aU x y) y=y:=if_pos m2
 refine cB hT (gM (aM FA (aM HA (aM afK (aM xA (aM xG iG)))))) hm aeF rfl bh rfl 60 ZB (fun _=>?_) K []
 simp only[ag.all,aC,beq_iff_eq,beq_eq_false_iff_ne,ne_eq]
 simp only[show aN (rat x af)=x from rfl,show aN (rat y af)=y from rfl,e1,e2,e3,e4]
 unfold iV
 refine⟨⟨aa,.refl _,.refl _,h6,aa⟩,⟨⟨aa,h1⟩,aa,cK (a:=c 0),aa,v1,v2,aa⟩,fun hb=>⟨⟨aa,aa,aa⟩,aa,?_⟩,fun hb=>⟨⟨aa,.refl _,.refl _,h6,aa,aa⟩,⟨aa,aa,hrd,aa,aa,h1,aa,h4,h5⟩,fun hc=>⟨⟨aa,aa⟩,aa,?_⟩,fun hc=>⟨⟨aa,aa⟩,aa,?_⟩⟩⟩
 ·rw[if_pos (show b9 (c 0) (aU x y)=0 from pD.1 hb)];exact .refl _
 ·rw[if_neg (show¬b9 (c 0) (aU x y)=0 from fun h=>hb (pD.2 h)),if_pos (show dn n c x (aU x y)=1 from hc)];exact .refl _
 ·rw[if_neg (show¬b9 (c 0) (aU x y)=0 from fun h=>hb (pD.2 h)),if_neg (show¬dn n c x (aU x y)=1 from hc)];exact .refl _
theorem WW:bp P En 106:=dy fun⟨⟨_,_⟩,⟨_,_⟩,_⟩ K hn=>X6 hn K
theorem Wu:bp P Rd 77:=dy fun⟨x,_⟩ K _=>by
 refine cB hT iE hm PN rfl bh rfl 60 Ly (fun _=>?_) K []
 simp only[ag.all,aC]
 exact⟨⟨aa,aa,aa⟩,aa,.refl _⟩
theorem aiM {n:Nat} {c:Nat->PP} {x y:Rat} (h:sM n c (x,y)) (K:Nat):aW P 109 K [eH n c,dH x y af] [] (aO (dH (iV n c (x,y)).1 (iV n c (x,y)).2 af) []):=by
 have hW:=cP
 obtain⟨h1,h2,h3,h4,h5,h6⟩:=h
 have h3:x<y:=h3
 obtain⟨m1,m2,_⟩:=uP h3
 obtain⟨v1,v2⟩:=h5 0 h1
 have hrd:∀i,i<n->bf (aD (c i)) (aD (br (aD (c i)))):=fun i _=>.refl _
 refine cB hT (gM (aM Ov (aM Wu (aM sY (aM zB iE))))) hm Vw rfl bh rfl 60 afG (fun _=>?_) K []
 simp only[ag.all,aC,beq_iff_eq,beq_eq_false_iff_ne,ne_eq]
 unfold iV
 refine⟨⟨aa,.refl _,.refl _,h6,aa⟩,⟨⟨aa,h1⟩,aa,cK (a:=c 0),aa,v1,v2,aa⟩,fun hb=>⟨⟨aa,aa,aa⟩,aa,?_⟩,fun hb=>⟨⟨aa,aa,hrd,aa,aa,h1,h2,m1,h4,h5⟩,fun hc=>⟨⟨aa,aa,aa⟩,aa,?_⟩,fun hc=>⟨⟨aa,aa,aa⟩,aa,?_⟩⟩⟩
 ·rw[if_pos (show b9 (c 0) (aU x y)=0 from pD.1 hb)];exact .refl _
 ·rw[if_neg (show¬b9 (c 0) (aU x y)=0 from fun h=>hb (pD.2 h)),if_pos (show dn n c x (aU x y)=1 from hc)];exact .refl _
 ·rw[if_neg (show¬b9 (c 0) (aU x y)=0 from fun h=>hb (pD.2 h)),if_neg (show¬dn n c x (aU x y)=1 from hc)];exact .refl _
theorem aev:bp P En 109:=dy fun⟨⟨_,_⟩,⟨_,_⟩,_⟩ K hn=>aiM hn K
def Hr:Kind ((Rat×Rat)×Int):=⟨fun v=>match v with
 |.agg [.agg [x,y],.int .i64 t]=>some (((aN x,aN y),t),[bf x (.rat (aN x) af),bf y (.rat (aN y) af)])
 |_=>none,fun a=>uT a,fun {v a q} h hq=>by
  split at h
  ·simp only[aB,Prod.mk.injEq]at h
   obtain⟨rfl,rfl⟩:=h
   exact oe ⟨oe ⟨hq.1,hq.2,trivial⟩,.refl _,trivial⟩
  ·simp at h⟩
def xI (n:Nat) (c:Nat->PP) (s:Rat×Rat):Bool:=iP s.1 s.2&&(if s.1=s.2 then decide (b9 (c 0) s.1=0)else decide (dn n c s.1 s.2=1))
def j5 (c:PP) (s:Rat×Rat):Bool:=iP s.1 s.2&&(if s.1=s.2 then decide (b9 c s.1=0)else decide (dn (aS c) (aQ c) s.1 s.2=1))
def Px:Spec:=ef (kC mW (kC Hr kN)) (fun a=>.bool (xI a.1.1 a.1.2 a.2.1.1)) fun a=>[0<a.1.1,a.1.1<2^40,iP a.2.1.1.1 a.2.1.1.2=true->cj a.1.1 a.1.2 a.2.1.1.1/\cj a.1.1 a.1.2 a.2.1.1.2]
def Qz:bE:=nG::(153,Cp)::(74,BZ)::(60,tX)::iC
def OZ (c:PP) (s:Rat×Rat):Prop:=c.1<2^40/\(iP s.1 s.2=true->fF c s.1/\jJ c/\aS c<2^30/\cj (aS c) (aQ c) s.1/\cj (aS c) (aQ c) s.2)
def J3:Spec:=ef (kC (kL af) (kC Hr kN)) (fun a=>.bool (j5 a.1 a.2.1.1)) fun a=>[OZ a.1 a.2.1.1]
def M0:bE:=nG::(155,Cp)::(76,lT)::(63,yO)::(62,xD)::iH
theorem af6:bu 104 f104:=bC func104
theorem aag {n:Nat} {c:Nat->PP} {x y:Rat} {t:Int}:cy T Qz [8,15] 60 f104 (aK f104) ⟨aZ 0 [eH n c,uT ((x,y),t)],[],0⟩=
  let h:=n<2^40;let g:=af<2^42;let d:=aN (rat x af);let b:=aN (rat y af);let a:=0<1;let f:=bf (rat x af) (rat d af);let e:=bf (rat y af) (rat b af);some (aj [a,f,e] (fork (!iP d b) (leaf ret [AV.bool false]) (aj [a,a,g,g] (fork (decide (x=y)) (aj [a,∀(i:Nat),i<n->bf (aD (c i)) (aD (br (aD (c i)))),f,e,(0:Nat)<n,h,cj n (fun i=>br (aD (c i))) d,cj n (fun i=>br (aD (c i))) b] (leaf ret [AV.bool (lI n (fun i=>br (aD (c i))) d b)])) (aj [a,a,∀(i:Nat),i<n->bf (aD (c i)) (aD (br (aD (c i)))),af<=af,af<=af,(0:Nat)<n,h,cj n (fun i=>br (aD (c i))) x,cj n (fun i=>br (aD (c i))) y] (leaf ret [AV.bool (dn n (fun i=>br (aD (c i))) x y==1)])))))):=ah
theorem Yk:bu 107 f107:=bC func107
theorem aaH {c:PP} {x y:Rat} {t:Int}:cy T M0 [8,15] 60 f107 (aK f107) ⟨aZ 0 [aD c,uT ((x,y),t)],[],0⟩=
  let e:=cL (fun i=>rat (c.snd i) af) c.fst af;let d:=af<2^41;let b:=0<1;let a:Nat×(Nat->Rat):=(c.fst,fun i=>aN (rat (c.snd i) af));some (aj [b,bf (rat x af) (rat (aN (rat x af)) af),bf (rat y af) (rat (aN (rat y af)) af)] (fork (!iP (aN (rat x af)) (aN (rat y af))) (leaf ret [AV.bool false]) (aj [b,b,d,d] (fork (decide (x=y)) (aj [b,e,af<=af,c.fst<2^40,fF a x,d] (leaf ret [AV.bool (bK (b9 a x)==0)])) (aj [e,jJ a,b,b,∀(i:Nat),i<aS a->bf (aD (aQ a i)) (aD (br (aD (aQ a i)))),af<=af,af<=af,(0:Nat)<aS a,aS a<2^30,x<y,cj (aS a) (fun i=>br (aD (aQ a i))) x,cj (aS a) (fun i=>br (aD (aQ a i))) y] (leaf ret [AV.bool (dn (aS a) (fun i=>br (aD (aQ a i))) x y==1)])))))):=ah
theorem EV {x y:Rat}:iP x y=true↔x<=y:=by
 unfold iP g7
 rw[decide_eq_true_iff]
 by_cases h1:x<y
 ·rw[if_pos h1];exact⟨fun _=>Rat.le_of_lt h1,fun _=>by decide⟩
 ·rw[if_neg h1]
  by_cases h2:y<x
  ·rw[if_pos h2];exact⟨fun h=>absurd h (by decide),fun h=>by grind⟩
  ·rw[if_neg h2];exact⟨fun _=>by grind,fun _=>by decide⟩
theorem Sb:bY P Qz:=gM (aM ahw (aM Jr (aM xG iG)))
theorem WI:bp P Px 104:=dy fun⟨⟨n,c⟩,⟨⟨x,y⟩,t⟩,_⟩ K hn=>by
 have hW:=cP
 obtain⟨h1,h2,h3⟩:=hn
 have h1:0<n:=h1
 have h2:n<2^40:=h2
 have hrd:∀i,i<n->bf (aD (c i)) (aD (br (aD (c i)))):=fun i _=>.refl _
 refine cB hT Sb hm af6 rfl bh rfl 60 aag (fun _=>?_) K []
 simp only[ag.all,aC,Bool.not_eq_true',Bool.not_eq_false',bI,bR]
 refine⟨⟨aa,.refl _,.refl _⟩,fun hb=>jh ?_,fun hb=>?_⟩
 ·show false=(iP x y&&_)
  rw[show iP x y=false from hb];rfl
 ·obtain⟨k1,k2⟩:=h3 hb
  refine⟨⟨aa,aa,aa,aa⟩,fun he=>⟨⟨aa,hrd,.refl _,.refl _,h1,h2,k1,k2⟩,jh ?_⟩,fun he=>⟨⟨aa,aa,hrd,aa,aa,h1,h2,k1,k2⟩,jh ?_⟩⟩
  ·show lI n c x y=(iP x y&&(if x=y then _ else _))
   rw[show iP x y=true from hb,if_pos he]
   unfold lI
   rw[if_pos he];rfl
  ·show(dn n c x y==1)=(iP x y&&(if x=y then _ else _))
   rw[show iP x y=true from hb,if_neg he,Bool.true_and]
   by_cases h:dn n c x y=1
   ·rw[decide_eq_true h];exact beq_iff_eq.2 h
   ·rw[decide_eq_false h];exact beq_eq_false_iff_ne.2 h
theorem aeU:bY P M0:=gM (aM S6 (aM sY (aM Eo (aM zB iE))))
theorem ajd:bp P J3 107:=dy fun⟨c,⟨⟨x,y⟩,t⟩,_⟩ K hn=>by
 have hW:=cP
 obtain⟨h1,h3⟩:=hn
 have h1:c.1<2^40:=h1
 have hrd:∀i,i<aS c->bf (aD (aQ c i)) (aD (br (aD (aQ c i)))):=fun i _=>.refl _
 refine cB hT aeU hm Yk rfl bh rfl 60 aaH (fun _=>?_) K []
 simp only[ag.all,aC,Bool.not_eq_true',Bool.not_eq_false',bI,bR]
 refine⟨⟨aa,.refl _,.refl _⟩,fun hb=>jh ?_,fun hb=>?_⟩
 ·show false=(iP x y&&_)
  rw[show iP x y=false from hb];rfl
 ·obtain⟨k1,k2,k3,k4,k5⟩:=h3 hb
  refine⟨⟨aa,aa,aa,aa⟩,fun he=>⟨⟨aa,cK,aa,h1,k1,aa⟩,jh ?_⟩,fun he=>⟨⟨cK,k2,aa,aa,hrd,aa,aa,Nat.succ_pos _,k3,?_,k4,k5⟩,jh ?_⟩⟩
  ·show(bK (b9 c x)==0)=(iP x y&&(if x=y then _ else _))
   rw[show iP x y=true from hb,if_pos he,pS,Bool.true_and]
  ·have:=EV.1 (show iP x y=true from hb);grind
  ·show(dn (aS c) (aQ c) x y==1)=(iP x y&&(if x=y then _ else _))
   rw[show iP x y=true from hb,if_neg he,Bool.true_and]
   by_cases h:dn (aS c) (aQ c) x y=1
   ·rw[decide_eq_true h];exact beq_iff_eq.2 h
   ·rw[decide_eq_false h];exact beq_eq_false_iff_ne.2 h
def e9 (n:Nat) (c:Nat->PP) (s:Rat×Rat):Nat->Rat×Rat
 |0=>s
 |j+1=>iV n c (e9 n c s j)
theorem adh:bu 101 f101:=bC func101
theorem XW:bu 102 f102:=bC func102
theorem Z5 {q r:Rat} {n m:Nat}:cy T iH [8] 60 f101 (aK f101) ⟨aZ 0 [.rat q n,.rat r m],[],0⟩=
  let a:=0<1;some (aj [a,a,m<2^41,n<2^41] (fork (decide (g7 r q<0)) (aj [a,a] (aj [a] (leaf ret [rat r m]))) (aj [a,a] (aj [a] (leaf ret [rat q n]))))):=ah
theorem ajc {q r:Rat} {n m:Nat}:cy T iH [8] 60 f102 (aK f102) ⟨aZ 0 [.rat q n,.rat r m],[],0⟩=
  let a:=0<1;some (aj [a,a,m<2^41,n<2^41] (fork (decide (g7 r q>0)) (aj [a,a] (aj [a] (leaf ret [rat r m]))) (aj [a,a] (aj [a] (leaf ret [rat q n]))))):=ah
theorem agW {q r:Rat}:decide (g7 q r<0)=decide (q<r):=by unfold g7;by_cases h:q<r<;>by_cases h':r<q<;>simp[h,h']
theorem akm {q r:Rat}:decide (g7 q r>0)=decide (r<q):=by
 unfold g7
 by_cases h:q<r
 ·have:¬r<q:=by grind
  simp[h,this]
 ·by_cases h':r<q<;>simp[h,h']
theorem SP {q r:Rat} {n m:Nat} (hn:n<2^41) (hm':m<2^41) (K:Nat):aW P 101 K [.rat q n,.rat r m] [] (aO (.rat (fk q r) (max n m)) []):=by
 refine cB hT iE hm adh rfl bh rfl 60 Z5 (fun _=>?_) K []
 rw[agW]
 simp only[ag.all,aC,bI,bR]
 (repeat' with_reducible first|refine And.intro ?_ ?_|intro _)
 all_goals first|omega|skip
 ·rename_i h;unfold fk;rw[if_pos h];exact mB (Nat.le_max_right _ _)
 ·rename_i h;unfold fk;rw[if_neg h];exact mB (Nat.le_max_left _ _)
theorem ZY {q r:Rat} {n m:Nat} (hn:n<2^41) (hm':m<2^41) (K:Nat):aW P 102 K [.rat q n,.rat r m] [] (aO (.rat (fl q r) (max n m)) []):=by
 refine cB hT iE hm XW rfl bh rfl 60 ajc (fun _=>?_) K []
 rw[akm]
 simp only[ag.all,aC,bI,bR]
 (repeat' with_reducible first|refine And.intro ?_ ?_|intro _)
 all_goals first|omega|skip
 ·rename_i h;unfold fl;rw[if_pos h];exact mB (Nat.le_max_right _ _)
 ·rename_i h;unfold fl;rw[if_neg h];exact mB (Nat.le_max_left _ _)
def JA:bE:=[(101,HO dR dR aie (b2 41)),(102,HO dR dR Yz (b2 41))]
theorem ahm:bY P JA:=aM (NC fun _ _ K hn=>SP (CC hn).1 (CC hn).2 K) (aM (NC fun _ _ K hn=>ZY (CC hn).1 (CC hn).2 K) cJ)
theorem afe:bu 43 f43:=bC func43
def Mm:bE:=(87,lH DC)::JA
def rP (n:Nat) (f:Nat->AV) (a:Int):Rat×Rat:=(fk (ku n f a) (ku n f (jO n f a)),fl (ku n f a) (ku n f (jO n f a)))
def aeN (n:Nat) (f:Nat->AV) (a:Int):Int:=jO n f (jO n f a)
def EE (n:Nat) (f:Nat->AV) (a:Int) (l:List AV):Option (AV×Int×List Prop):=match l with
 |[]=>some (dH (rP n f a).1 (rP n f a).2 64,aeN n f a,[])
 |_=>none
theorem Vb {n:Nat} {z:Nat->Int} {a:Int}:zf T Mm [] 60 f43 (aK f43) ⟨aZ 0 [.ptr 0 0 2 0 []],[(0,kZ n (fun i=>.int .i64 (z i)) a)],1⟩=
  let f:=ku n (fun i=>int i64 (z i)) a;let d:=jO n (fun i=>int i64 (z i)) a;let b:=0<1;let e:=ku n (fun i=>int i64 (z i)) d;some (aj [dL n (fun i=>int i64 (z i)) a,dL n (fun i=>int i64 (z i)) d,b,b] (aj [b,b,b,b,b] (aj [b] (leaf ret ([agg [rat (fk f e) 64,rat (fl f e) 64]],some (aA.mk false true 2 1 fun x=>agg [aq 1 n fun i=>int i64 (z i),int i64 (jO n (fun i=>int i64 (z i)) d)])))))):=ah
theorem acZ:bY P Mm:=aM MR ahm
theorem abA:bp P (lH EE) 43:=by
 refine Az fun {k n z a l v b q o} K hg ho hd hq=>?_
 unfold EE at hg
 split at hg
 ·simp only[aB,Prod.mk.injEq]at hg
  obtain⟨rfl,rfl,rfl⟩:=hg
  refine H8 hT acZ hm afe rfl rfl bh ho 60 Vb (fun _=>?_) K
  simp only[ag.all,aC]
  (repeat' with_reducible refine And.intro ?_ ?_)
  all_goals first|omega|exact hd|exact hd.number|skip
  ·exact bf.refl _
  ·exact⟨_,rfl,rfl,uo rfl rfl⟩
 ·simp at hg
def Dz (j:Nat) (z:Rat):Prop:=ct ((12*2^j:Nat):Int) (j+12) z
theorem Dz.up {j:Nat} {z:Rat} (h:Dz j z):Dz (j+1) z:=by
 have:=ct.up (E:=2) (e:=1) h (by decide)
 unfold Dz
 rw[Nat.pow_succ,<-Nat.mul_assoc,Int.natCast_mul,show j+1+12=j+12+1 by omega]
 exact this
theorem Dz.mid {j:Nat} {x y:Rat} (hx:Dz j x) (hy:Dz j y):Dz (j+1) (aU x y):=by
 obtain⟨z,h1,h2⟩:=ct.add hx hy
 refine⟨z,?_,by rw[show j+1+12=j+12+1 by omega];exact h2⟩
 have e:((12*2^(j+1):Nat):Int)=((12*2^j:Nat):Int)*2:=by rw[Nat.pow_succ];omega
 rw[h1,e,Rat.intCast_mul]
 unfold aU
 generalize (((12*2^j:Nat):Int):Rat)=D
 rw[show((2:Int):Rat)=2 from rfl];grind
theorem nF (j:Nat):((12*2^j:Nat):Int)≠0/\((12*2^j:Nat):Int).natAbs<=2^(j+12):=by
 have:=Nat.pow_pos (n:=j) (show 0<2 by decide)
 refine⟨aa,?_⟩
 rw[Int.natAbs_natCast,Nat.pow_add,Nat.mul_comm]
 exact Nat.mul_le_mul_left _ (by decide)
theorem Dz.sz {j:Nat} {z:Rat} (h:Dz j z) (hj:j<=dY+1000):Sz z af:=by
 have hD:=nC
 have hW:=cP
 exact(ct.sz (nF j).1 (nF j).2 h).more aa
theorem Dz.ch {c:PP} (hc:cW c) {j:Nat} {z:Rat} (h:Dz j z) (hj:j<=dY+1000):cj (aS c) (aQ c) z:=by
 have hD:=nC
 exact F6 hc h (nF j).2 (nF j).1 aa
theorem Dz.va {c:PP} (hc:cW c) {j:Nat} {z:Rat} (h:Dz j z) (hj:j<=dY+1000):fF c z:=by
 have hD:=nC
 have hW:=cP
 exact Fq hc.bd h (nF j).2 (nF j).1 hc.len aa
theorem Dy.dz {z:Rat} (h:Dy z):∃j,j<=dY/\Dz j z:=by
 obtain⟨j,h1,h2⟩:=h
 refine⟨j,h1,?_⟩
 have:=h2.up (E:=12) (e:=4) (by decide)
 unfold Dz
 rw[Int.natCast_mul,Int.mul_comm]
 exact this.more aa
theorem Dz.Iu {j:Nat} {z:Rat} (h:Dz j z):∀m,Dz (j+m) z
 |0=>h
 |m+1=>(Dz.Iu h m).up
theorem aau {n:Nat} {c:Nat->PP} {s:Rat×Rat} (h:s.1<=s.2):(iV n c s).1<=(iV n c s).2/\(iV n c s).2-(iV n c s).1<=(s.2-s.1)*(1/2):=by
 unfold iV aU
 split
 ·exact⟨by grind,by grind⟩
 ·split
  ·exact⟨by grind,by grind⟩
  ·exact⟨by grind,by grind⟩
theorem ZV {n:Nat} {c:Nat->PP} {s:Rat×Rat} {j:Nat} (h1:Dz j s.1) (h2:Dz j s.2):Dz (j+1) (iV n c s).1/\Dz (j+1) (iV n c s).2:=by
 unfold iV
 split
 ·exact⟨h1.mid h2,h1.mid h2⟩
 ·split
  ·exact⟨h1.up,h1.mid h2⟩
  ·exact⟨h1.mid h2,h2.up⟩
theorem CH {n:Nat} {c:Nat->PP} {s:Rat×Rat} {J:Nat} (h:s.1<=s.2) (h1:Dz J s.1) (h2:Dz J s.2):∀j,Dz (J+j) (e9 n c s j).1/\Dz (J+j) (e9 n c s j).2/\(e9 n c s j).1<=(e9 n c s j).2/\((e9 n c s j).2-(e9 n c s j).1)*T2 j<=s.2-s.1
 |0=>⟨h1,h2,h,by unfold T2;rw[Rat.pow_zero,Rat.mul_one];exact Rat.le_refl⟩
 |j+1=>by
  obtain⟨a,b,d,e⟩:=CH (n:=n) (c:=c) h h1 h2 j
  obtain⟨k1,k2⟩:=aau (n:=n) (c:=c) d
  obtain⟨k3,k4⟩:=ZV (n:=n) (c:=c) a b
  refine⟨k3,k4,k1,?_⟩
  show((iV n c (e9 n c s j)).2-(iV n c (e9 n c s j)).1)*T2 (j+1)<=_
  rw[nK]
  have hT:=j8 j
  have:=Rat.mul_nonneg (a:=((e9 n c s j).2-(e9 n c s j).1)*(1/2)-((iV n c (e9 n c s j)).2-(iV n c (e9 n c s j)).1)) (b:=T2 j) (by grind) (by grind)
  grind
theorem LX {n:Nat} {f:Nat->AV} {a:Int}:Dz 0 (ku n f a):=ct.more (D:=12) FK (by decide)
theorem BA {n:Nat} {f:Nat->AV} {a:Int}:Ab (ku n f a) 128:=by
 have:=FK (n:=n) (f:=f) (a:=a)
 have h:=this.ab (by decide)
 rwa [show T2 7=128 by unfold T2;decide+kernel]at h
theorem Yc {n:Nat} {f:Nat->AV} {a:Int}:Dz 0 (rP n f a).1/\Dz 0 (rP n f a).2/\(rP n f a).2-(rP n f a).1<=4096:=by
 have h1:=BA (n:=n) (f:=f) (a:=a)
 have h2:=BA (n:=n) (f:=f) (a:=jO n f a)
 refine⟨?_,?_,?_⟩
 ·show Dz 0 (fk _ _);unfold fk;split<;>exact LX
 ·show Dz 0 (fl _ _);unfold fl;split<;>exact LX
 ·show fl _ _-fk _ _<=4096
  unfold Ab at h1 h2
  unfold fl fk
  split<;>split<;>grind
theorem TQ {c:PP} (hc:cW c) {s:Rat×Rat} (hs:s∈mq dY (aS c) (aQ c)):0<=s.1/\s.2<=1:=by
 unfold mq at hs
 rcases List.mem_append.1 hs with hs|hs
 ·rcases List.mem_append.1 hs with hs|hs
  ·split at hs
   ·rw[List.mem_singleton]at hs;subst hs;exact⟨Rat.le_refl,by decide⟩
   ·cases hs
  ·have:=Ai hc dY (show(0:Rat)<1 by decide) s hs
   exact⟨this.2.2.1,this.2.2.2⟩
 ·split at hs
  ·rw[List.mem_singleton]at hs;subst hs;exact⟨by decide,Rat.le_refl⟩
  ·cases hs
def oN (d:PP) (s:Rat×Rat):Prop:=s.1≠s.2/\0<dn (aS d) (aQ d) s.1 s.2
def vW (c d:PP) (s:Rat×Rat) (j:Nat):Prop:=¬oN d (e9 (aS c) (aQ c) s j)/\∀i,i<j->oN d (e9 (aS c) (aQ c) s i)
def sH (c d:PP) (s:Rat×Rat):Nat:=Classical.epsilon (vW c d s)
def gD (p:PP) (s:Rat×Rat):Int:=if(ak p).1=0 then 3 else if j5 (ak p) s=true then 0 else 1
def nV (p q:PP):PP:=bN (aQ (ak p) 0) (ak q)
def gP (p q:PP) (s:Rat×Rat):Bool:=decide ((ak q).1=0)||(decide (1<(nV p q).1)&&lI (aS (nV p q)) (aQ (nV p q)) s.1 s.2)
def AP (p q:PP) (s:Rat×Rat):Rat×Rat:=e9 (aS (ak p)) (aQ (ak p)) s (sH (ak p) (ak q) s)
def iU (p:PP) (s:Rat×Rat) (q:PP):Int:=if gD p s=0 then if gP p q s=true then 0 else bK (b9 (ak q) (aU (AP p q s).1 (AP p q s).2))else 0
def C8:bE:=nG::(57,vp)::(59,BS)::(104,Px)::(72,yI)::(74,BZ)::(60,tX)::(106,En)::(111,sU)::(66,lT)::iC
abbrev zN:Code:=aK f49
abbrev ry:List Nat:=[6,7,9,10,12,13]
abbrev xY (n:Nat) (c:Nat->PP) (d:PP) (m:Nat) (e:Nat->PP):List AV:=[.int .i64 0,.int .i64 0,eH n c,aD d,.ptr 0 0 6 0 [],eH m e]
abbrev nB (s:Rat×Rat):aI:=[(0,⟨false,true,6,1,fun _=>dH s.1 s.2 af⟩)]
def C7:bE:=nG::(61,vp)::(63,yO)::(107,J3)::(100,Cj)::(62,xD)::(109,En)::(112,sU)::(76,lT)::iH
abbrev zo:Code:=aK f50
abbrev rR:List Nat:=[6,7,9,10,12,13]
abbrev x5 (n:Nat) (c:Nat->PP) (d:PP) (m:Nat) (e:Nat->PP):List AV:=[.int .i64 0,.int .i64 0,aD d,.ptr 0 0 6 0 [],eH n c,eH m e]
theorem acq:bu 49 f49:=bC func49
theorem af8 {p q:PP} {s:Rat×Rat} {t:Int}:aL T C8 [18,24,35,39,46] 60 ry (before zN [1,1,1,1,1,1,1,1,0]) ⟨aZ 0 [aD p,uT (s,t),aD q],[],0⟩=
  let z:=rat 0 1;let a:=tuple [];let k:=0<1;let f:=aN (rat s.fst af);let e:=aN (rat s.snd af);let d:=int i64 0;let m:=bO (fj p.fst fun i=>aN (rat (p.snd i) af)) p.fst;let u:=bO (fj q.fst fun i=>aN (rat (q.snd i) af)) q.fst;let y:=bf (rat s.snd af) (rat e af);let x:=bf (rat s.fst af) (rat f af);let h:=(↑u:Int)==0;let w:=cL (fun i=>rat (fj q.fst (fun i=>aN (rat (q.snd i) af)) i) af) u af;let v:=aq 3 u fun i=>rat (fj q.fst (fun i=>aN (rat (q.snd i) af)) i) af;let r:Nat×(Nat->Rat):=(u,fun i=>aN (rat (fj q.fst (fun i=>aN (rat (q.snd i) af)) i) af));let b:Nat×(Nat->Rat):=(m,fun i=>aN (rat (fj p.fst (fun i=>aN (rat (p.snd i) af)) i) af));let A:PP:=aQ b (Int.toNat (0:Int));let D:=aq 1 (aS b) fun i=>aq 3 (aQ b i).fst fun i_1=>rat ((aQ b i).snd i_1) af;let n:Nat×(Nat->Rat):=(A.fst,fun i=>aN (rat (A.snd i) af));let C:ag (List AV×aI):=leaf ret ([d,d,D,v,a,a],[]);let B:ag (List AV×aI):=aj [k,w,kX r,k] (leaf normal ([d,d,D,v,ptr 180224 0 6 0 [],aq 1 (aS r) fun i=>aq 3 (aQ r i).fst fun i_1=>rat ((aQ r i).snd i_1) af],[(180224,aA.mk false true 6 1 fun j=>if(j==0)=true then eE (dH s.fst s.snd af)else agg [z,z])]));let l:PP:=(bW (n,r) u).fst;let o:=decide ((↑l.fst:Int)>1);let g:Nat×(Nat->Rat):=(l.fst,fun i=>aN (rat (cN l.fst l.snd i) af));some (aj [cL (fun i=>rat (p.snd i) af) p.fst af,jx (p.fst,fun i=>aN (rat (p.snd i) af))] (fork ((↑m:Int)==0) (leaf ret ([d,int i64 3,a,a,a,a],[])) (aj [cL (fun i=>rat (fj p.fst (fun i=>aN (rat (p.snd i) af)) i) af) m af,kX b] (aj [k,∀(i:Nat),i<aS b->bf (aD (aQ b i)) (aD (br (aD (aQ b i)))),x,y,(0:Nat)<aS b,aS b<2^40,iP f e=true->cj (aS b) (fun i=>br (aD (aQ b i))) f/\cj (aS b) (fun i=>br (aD (aQ b i))) e] (fork (!xI (aS b) (fun i=>br (aD (aQ b i))) (f,e)) (leaf ret ([d,int i64 1,D,a,a,a],[])) (aj [cL (fun i=>rat (q.snd i) af) q.fst af,jx (q.fst,fun i=>aN (rat (q.snd i) af))] (aj [(0:Int)<=0/\Int.toNat (0:Int)<aS b,cL (fun i=>rat (A.snd i) af) A.fst af,w,A.fst<2^30,u<2^30,Trim n,Trim r,oB (n,r)] (fork h (aj [h=true] (fork true C B)) (fork o (aj [h=false,o=true,cL (fun i=>rat (cN l.fst l.snd i) af) l.fst af,kX g,k,∀(i:Nat),i<aS g->bf (aD (aQ g i)) (aD (br (aD (aQ g i)))),x,y,(0:Nat)<aS g,aS g<2^40,cj (aS g) (fun i=>br (aD (aQ g i))) f,cj (aS g) (fun i=>br (aD (aQ g i))) e] (fork (bif false then true else bif true then lI (aS g) (fun i=>br (aD (aQ g i))) f e else false) C B)) (aj [h=false,o=false] (fork false C B))))))))))):=ah
theorem afu {n m:Nat} {c e:Nat->PP} {d:PP} {s:Rat×Rat}:aL T C8 [57,65] 60 ry [part zN [1,1,1,1,1,1,1,1,0,0,0]] ⟨aH ry (xY n c d m e),nB s,1⟩=
  let f:=rat s.snd af;let b:=rat s.fst af;let h:=!decide (s.fst=s.snd);let r:=dn m (fun i=>br (aD (e i))) s.fst s.snd;let g:=af<2^42;let a:=0<1;let l:=[int i64 0,int i64 0,aq 1 n fun i=>aq 3 (c i).fst fun i_1=>rat ((c i).snd i_1) af,aq 3 d.fst fun i=>rat (d.snd i) af,ptr 0 0 6 0 [],aq 1 m fun i=>aq 3 (e i).fst fun i_1=>rat ((e i).snd i_1) af];let p:Rat×Rat:=(aN b,aN f);let o:ag (List AV×aI):=leaf (exit 0) (l,[(0,aA.mk false true 6 1 fun x=>agg [rat s.fst af,rat s.snd af])]);let q:Rat×Rat:=iV n (fun i=>br (aD (c i))) p;let k:ag (List AV×aI):=aj [a,∀(i:Nat),i<n->bf (aD (c i)) (aD (br (aD (c i)))),bf b (rat (aN b) af),bf f (rat (aN f) af),sM n (fun i=>br (aD (c i))) p,a] (leaf normal (l,[(0,aA.mk false true 6 1 fun j=>if(j==0)=true then eE (dH q.fst q.snd af)else dH s.fst s.snd af)]));some (fork h (aj [a,a,g,g,h=true,a,a,∀(i:Nat),i<m->bf (aD (e i)) (aD (br (aD (e i)))),af<=af,af<=af,(0:Nat)<m,m<2^40,cj m (fun i=>br (aD (e i))) s.fst,cj m (fun i=>br (aD (e i))) s.snd] (fork (bif true then decide (r>0)else false) k o)) (aj [a,a,g,g,h=false] (fork false k o))):=ah
theorem afH {n m:Nat} {c e:Nat->PP} {d:PP} {s:Rat×Rat}:dc T C8 [] 60 f49 [part zN [1,1,1,1,1,1,1,1,1]] ⟨aH ry (xY n c d m e),nB s,1⟩=
  let f:=rat s.fst af;let b:=rat s.snd af;let g:Nat×(Nat->Rat):=(d.fst,fun i=>aN (rat (d.snd i) af));let a:=aU (aN f) (aN b);some (aj [(0:Nat)<1,bf f (rat (aN f) af),bf b (rat (aN b) af),Sz a af,cL (fun i=>rat (d.snd i) af) d.fst af,af<=af,d.fst<2^40,fF g a,af<2^42] (leaf ret [int i64 (bK (b9 g a)),int i64 0])):=ah
theorem ab5:bu 50 f50:=bC func50
theorem Z6 {p q:PP} {s:Rat×Rat} {t:Int}:aL T C7 [18,22,27,37,49,58] 60 rR (before zo [1,1,1,1,1,1,1,0]) ⟨aZ 0 [aD p,uT (s,t),aD q],[],0⟩=
  let e:=tuple [];let w:=rat s.fst af;let A:=rat 0 1;let v:=rat s.snd af;let u:=2^30;let y:=ptr 98304 0 6 0 [];let r:=af<2^41;let a:=int i64 0;let b:=0<1;let f:=bO (fj p.fst fun i=>aN (rat (p.snd i) af)) p.fst;let x:=bO (fj q.fst fun i=>aN (rat (q.snd i) af)) q.fst;let z:Rat×Rat:=(aN w,aN v);let m:=cL (fun i=>rat (fj q.fst (fun i=>aN (rat (q.snd i) af)) i) af) x af;let D:=cL (fun i=>rat (fj p.fst (fun i=>aN (rat (p.snd i) af)) i) af) f af;let C:=aq 3 x fun i=>rat (fj q.fst (fun i=>aN (rat (q.snd i) af)) i) af;let B:List (Nat×aA):=[(98304,aA.mk false true 6 1 fun j=>if(j==0)=true then eE (dH s.fst s.snd af)else agg [A,A])];let h:Nat×(Nat->Rat):=(x,fun i=>aN (rat (fj q.fst (fun i=>aN (rat (q.snd i) af)) i) af));let g:Nat×(Nat->Rat):=(f,fun i=>aN (rat (fj p.fst (fun i=>aN (rat (p.snd i) af)) i) af));let o:=[C,e,e,e];let l:=[a,C,y,e,e];let E:ag (List AV×aI):=aj [D,jJ g,m,jJ h] (leaf normal ([a,a,C,y,aq 1 (aS g) fun i=>aq 3 (aQ g i).fst fun i_1=>rat ((aQ g i).snd i_1) af,aq 1 (aS h) fun i=>aq 3 (aQ h i).fst fun i_1=>rat ((aQ h i).snd i_1) af],B));let k:PP:=(bW (g,h) x).fst;let n:=decide ((↑k.fst:Int)>1);let d:Nat×(Nat->Rat):=(k.fst,fun i=>aN (rat (cN k.fst k.snd i) af));some (aj [cL (fun i=>rat (p.snd i) af) p.fst af,jx (p.fst,fun i=>aN (rat (p.snd i) af)),cL (fun i=>rat (q.snd i) af) q.fst af,jx (q.fst,fun i=>aN (rat (q.snd i) af))] (fork ((↑f:Int)==0) (leaf ret (a::int i64 3::o,[])) (aj [b,D,bf w (rat (aN w) af),bf v (rat (aN v) af),OZ g z] (fork (!j5 g z) (leaf ret (a::int i64 1::o,[])) (fork ((↑x:Int)==0) (leaf ret (a::a::o,[])) (aj [b,b] (aj [b,b,r,r] (fork (decide (s.fst=s.snd)) (aj [b,m,af<=af,x<2^40,fF h s.fst,r] (leaf ret (int i64 (bK (b9 h s.fst))::l,B))) (aj [D,m,f<u,x<u,Trim g,Trim h,qw g h] (fork n (aj [n=true,cL (fun i=>rat (cN k.fst k.snd i) af) k.fst af,jJ d,b,b,∀(i:Nat),i<aS d->bf (aD (aQ d i)) (aD (br (aD (aQ d i)))),af<=af,af<=af,(0:Nat)<aS d,aS d<u,s.fst<s.snd,cj (aS d) (fun i=>br (aD (aQ d i))) s.fst,cj (aS d) (fun i=>br (aD (aQ d i))) s.snd] (fork (bif true then dn (aS d) (fun i=>br (aD (aQ d i))) s.fst s.snd==1 else false) (leaf ret (a::l,B)) E)) (aj [n=false] (fork false (leaf ret (a::l,B)) E)))))))))))):=ah
theorem UQ {n m:Nat} {c e:Nat->PP} {d:PP} {s:Rat×Rat}:aL T C7 [69,77,85] 60 rR [part zo [1,1,1,1,1,1,1,0,0,0]] ⟨aH rR (x5 n c d m e),nB s,1⟩=
  let u:=m<2^30;let b:=af<=af;let t:Nat×(Nat->Rat):=(d.fst,fun i=>aN (rat (d.snd i) af));let o:=cj m (fun i=>br (aD (e i))) s.snd;let l:=cj m (fun i=>br (aD (e i))) s.fst;let v:=!decide (s.fst=s.snd);let k:=aN (rat s.snd af);let h:=aN (rat s.fst af);let g:=af<2^41;let A:=dn m (fun i=>br (aD (e i))) s.fst s.snd;let a:=0<1;let z:=[int i64 0,int i64 0,aq 3 d.fst fun i=>rat (d.snd i) af,ptr 0 0 6 0 [],aq 1 n fun i=>aq 3 (c i).fst fun i_1=>rat ((c i).snd i_1) af,aq 1 m fun i=>aq 3 (e i).fst fun i_1=>rat ((e i).snd i_1) af];let r:=bf (rat s.fst af) (rat h af);let q:=bf (rat s.snd af) (rat k af);let p:Rat×Rat:=iV n (fun i=>br (aD (c i))) (h,k);let f:=decide (A>0);let y:ag (List AV×aI):=leaf (exit 1) (z,[(0,aA.mk false true 6 1 fun x=>agg [rat s.fst af,rat s.snd af])]);let w:ag (List AV×aI):=aj [a,∀(i:Nat),i<n->bf (aD (c i)) (aD (br (aD (c i)))),r,q,sM n (fun i=>br (aD (c i))) (h,k),a] (leaf normal (z,[(0,aA.mk false true 6 1 fun j=>if(j==0)=true then eE (dH p.fst p.snd af)else dH s.fst s.snd af)]));some (fork v (fork f (aj [a,a,g,g,v=true,a,a,∀(i:Nat),i<m->bf (aD (e i)) (aD (br (aD (e i)))),b,b,(0:Nat)<m,u,s.fst<s.snd,l,o,f=true] (fork true w y)) (aj [a,a,g,g,v=true,a,a,∀(i:Nat),i<m->bf (aD (e i)) (aD (br (aD (e i)))),b,b,(0:Nat)<m,u,s.fst<s.snd,l,o,f=false,a,r,q,Sz (aU h k) af,cL (fun i=>rat (d.snd i) af) d.fst af,b,d.fst<2^40,fF t (aU h k),g] (fork (bif true then bif false then true else bK (b9 t (aU h k))==0 else false) w y))) (aj [a,a,g,g,v=false] (fork false w y))):=ah
theorem ajW {n m:Nat} {c e:Nat->PP} {d:PP} {s:Rat×Rat}:dc T C7 [] 60 f50 [part zo [1,1,1,1,1,1,1,1]] ⟨aH rR (x5 n c d m e),nB s,1⟩=
  let f:=rat s.snd af;let b:=rat s.fst af;let g:Nat×(Nat->Rat):=(d.fst,fun i=>aN (rat (d.snd i) af));let a:=aU (aN b) (aN f);some (aj [(0:Nat)<1,bf b (rat (aN b) af),bf f (rat (aN f) af),Sz a af,cL (fun i=>rat (d.snd i) af) d.fst af,af<=af,d.fst<2^40,fF g a,af<2^41] (leaf ret [int i64 (bK (b9 g a)),int i64 0])):=ah
def Eh (g:PP) (s:Rat×Rat):Prop:=kX g/\jJ g/\aS g<2^30/\cj (aS g) (aQ g) s.1/\cj (aS g) (aQ g) s.2
def afh (c d:PP) (u:Rat×Rat):Prop:=u.1<=u.2/\(oN d u->sM (aS c) (aQ c) u)/\cj (aS d) (aQ d) u.1/\cj (aS d) (aQ d) u.2/\Sz (aU u.1 u.2) af/\fF d (aU u.1 u.2)/\(u.1≠u.2->b9 d (aU u.1 u.2)=0->0<dn (aS d) (aQ d) u.1 u.2)
structure Tn (p q:PP) (s:Rat×Rat):Prop where
 f1:(aQ (ak p) 0).1<2^30
 c1:(ak p).1<2^30
 d1:(ak q).1<2^30
 tf:Trim (aQ (ak p) 0)
 tc:Trim (ak p)
 td:Trim (ak q)
 gf:oB (aQ (ak p) 0,ak q)
 ge:qw (ak p) (ak q)
 cg:Eh (nV p q) s
 ch:Eh (bN (ak p) (ak q)) s
 cd:(ak q).1≠0->Eh (ak q) s/\fF (ak q) s.1
 e1:(ak q).1≠0->s.1=s.2->gP p q s=true->b9 (ak q) s.1=0
 e2:(ak q).1≠0->s.1≠s.2->(gP p q s=true↔1<(bN (ak p) (ak q)).1/\dn (aS (bN (ak p) (ak q))) (aQ (bN (ak p) (ak q))) s.1 s.2=1)
 lp:gP p q s=false->vW (ak p) (ak q) s (sH (ak p) (ak q) s)/\∀j,j<=sH (ak p) (ak q) s->afh (ak p) (ak q) (e9 (aS (ak p)) (aQ (ak p)) s j)
def uY (p:PP) (s:Rat×Rat) (q:PP):Prop:=jx p/\jx q/\((ak p).1≠0->kX (ak p)/\jJ (ak p)/\aS (ak p)<2^30/\(ak p).1<2^40/\xI (aS (ak p)) (aQ (ak p)) s=j5 (ak p) s/\(iP s.1 s.2=true->fF (ak p) s.1/\cj (aS (ak p)) (aQ (ak p)) s.1/\cj (aS (ak p)) (aQ (ak p)) s.2)/\(j5 (ak p) s=true->Tn p q s))
theorem S7:bY P C8:=gM (aM Fm (aM Gu (aM WI (aM Dw (aM Jr (aM xG (aM WW (aM FA (aM xA iG)))))))))
theorem agx:bY P C7:=gM (aM Oz (aM Eo (aM ajd (aM IN (aM zB (aM aev (aM Ov (aM sY iE))))))))
theorem vW.at {c d:PP} {s:Rat×Rat} {J j:Nat} (h:vW c d s J) (hj:j<=J):oN d (e9 (aS c) (aQ c) s j)↔j<J:=by
 constructor
 ·intro h1
  refine Decidable.byContradiction fun hn=>?_
  have:j=J:=aa
  subst this
  exact h.1 h1
 ·exact h.2 j
theorem Sg {p q:PP} {s:Rat×Rat} {t:Int} (h:uY p s q) (K:Nat):aW P 49 K [aD p,uT (s,t),aD q] [] (aO (.tuple [.int .i64 (iU p s q),.int .i64 (gD p s)]) []):=by
 have hW:=cP
 obtain⟨ho1,ho2,hall⟩:=h
 obtain⟨J,hJ⟩:∃J,J=sH (ak p) (ak q) s:=⟨_,rfl⟩
 have hrd:∀g:PP,∀i,i<aS g->bf (aD (aQ g i)) (aD (br (aD (aQ g i)))):=fun _ i _=>.refl _
 have rOK:∀{e v:Int},gD p s=e->iU p s q=v->∀us:List AV,∀o,nc f49 ry (.tuple [.int .i64 (iU p s q),.int .i64 (gD p s)]) (.int .i64 v::.int .i64 e::us,o):=fun {e v} h1 h2 us o=>⟨[.int .i64 v,.int .i64 e],rfl,by rw[h1,h2];exact⟨.refl _,.refl _,trivial⟩⟩
 refine jA (r:=aO (.tuple [.int .i64 (iU p s q),.int .i64 (gD p s)]) []) hT S7 hm acq rfl bh rfl [1,1,1,1,1,1,1,1,0] (i:=0) (y:=part zN [1,1,1,1,1,1,1,1,0,0,0]) (z:=part zN [1,1,1,1,1,1,1,1,1]) ah ah ah (f1:=[18,24,35,39,46]) (f2:=[57,65]) (f3:=[]) 60 ry 1
  (fun _:Nat=>xY (aS (ak p)) (aQ (ak p)) (ak q) (aS (ak q)) (aQ (ak q))) (fun j=>nB (e9 (aS (ak p)) (aQ (ak p)) s j)) (fun j=>((ak p).1≠0/\j5 (ak p) s=true/\gP p q s=false)/\j<=J) (fun j=>((ak p).1≠0/\j5 (ak p) s=true/\gP p q s=false)/\j=J) (fun j=>J-j) (fun _=>⟨⟨_,af8,?_⟩,fun j ⟨⟨g1,g2,g3⟩,hj⟩=>⟨_,afu,?_⟩,fun j ⟨⟨g1,g2,g3⟩,hj⟩=>⟨_,afH,?_⟩⟩) K []
 ·simp only[ag.all,aC,Bool.not_eq_true',Bool.not_eq_false',cond_false,cond_true]
  refine⟨⟨cK,ho1⟩,fun hz=>?_,fun hz=>?_⟩
  ·have hz':(ak p).1=0:=by have hz:((ak p).1:Int)=0:=eq_of_beq hz;omega
   have he:gD p s=3:=if_pos hz'
   exact rOK he (if_neg (by rw[he];decide)) _ _
  ·have hz':(ak p).1≠0:=fun h0=>beq_eq_false_iff_ne.1 hz (show((ak p).1:Int)=0 by omega)
   obtain⟨k1,k1e,k2,k3,k4,k5,k6⟩:=hall hz'
   refine⟨⟨cK (a:=ak p),k1⟩,⟨aa,hrd _,.refl _,.refl _,Nat.succ_pos _,by show aS (ak p)<_;omega,fun hl=>⟨(k5 hl).2.1,(k5 hl).2.2⟩⟩,fun hf=>?_,fun hf=>?_⟩
   ·have hf:xI (aS (ak p)) (aQ (ak p)) s=false:=hf
    rw[k4]at hf
    have he:gD p s=1:=by unfold gD;rw[if_neg hz',hf];rfl
    exact rOK he (if_neg (by rw[he];decide)) _ _
   ·have hf:xI (aS (ak p)) (aQ (ak p)) s=true:=hf
    rw[k4]at hf
    have he:gD p s=0:=by unfold gD;rw[if_neg hz',hf];rfl
    have L:=k6 hf
    have early:gP p q s=true->∀us o,nc f49 ry (.tuple [.int .i64 (iU p s q),.int .i64 (gD p s)]) (.int .i64 0::.int .i64 0::us,o):=fun h us o=>rOK he (by unfold iU;rw[if_pos he,if_pos h]) us o
    have start:gP p q s=false->kX (ak q)->aC [0<1,aR (ak q),kX (ak q),0<1]/\Start [] (fun _:Nat=>xY (aS (ak p)) (aQ (ak p)) (ak q) (aS (ak q)) (aQ (ak q))) (fun j=>nB (e9 (aS (ak p)) (aQ (ak p)) s j)) 1 (fun j=>((ak p).1≠0/\j5 (ak p) s=true/\gP p q s=false)/\j<=J) (nc f49 ry (.tuple [.int .i64 (iU p s q),.int .i64 (gD p s)])) .normal ([.int .i64 0,.int .i64 0,eH (aS (ak p)) (aQ (ak p)),aD (ak q),ptr 180224 0 6 0 [],eH (aS (ak q)) (aQ (ak q))],[(180224,aA.mk false true 6 1 fun j=>if(j==0)=true then eE (dH s.fst s.snd af)else agg [rat 0 1,rat 0 1])]):=fun h hs=>
     ⟨⟨Nat.zero_lt_one,cK,hs,Nat.zero_lt_one⟩,0,⟨⟨hz',hf,h⟩,Nat.zero_le _⟩,[(0,180224)],rfl,rfl,rfl,kg rfl rfl (.inr ⟨rfl,.refl _⟩) trivial⟩
    refine⟨⟨cK,ho2⟩,⟨⟨Int.le_refl _,Nat.succ_pos _⟩,cK,cK (a:=ak q),L.f1,L.d1,L.tf,L.td,L.gf⟩,fun hq=>?_,fun hq=>⟨fun hg=>?_,fun hg=>?_⟩⟩
    ·have hq':(ak q).1=0:=by have hq:((ak q).1:Int)=0:=eq_of_beq hq;omega
     exact⟨hq,fun _=>early (by unfold gP;rw[decide_eq_true hq',Bool.true_or]) _ _,fun h=>Bool.noConfusion h⟩
    ·have hq':(ak q).1≠0:=fun h0=>beq_eq_false_iff_ne.1 hq (show((ak q).1:Int)=0 by omega)
     have hg':1<(nV p q).1:=by have hg:((nV p q).1:Int)>1:=of_decide_eq_true hg;omega
     have ee:gP p q s=lI (aS (nV p q)) (aQ (nV p q)) s.1 s.2:=by unfold gP;rw[decide_eq_false hq',Bool.false_or,decide_eq_true hg',Bool.true_and]
     obtain⟨⟨m1,m2,m3,m4,m5⟩,m6⟩:=L.cd hq'
     obtain⟨w1,w2,w3,w4,w5⟩:=L.cg
     exact⟨⟨hq,hg,cK (a:=nV p q),w1,aa,hrd _,.refl _,.refl _,Nat.succ_pos _,by show aS (nV p q)<_;omega,w4,w5⟩,fun hh=>early (ee.trans hh) _ _,fun hh=>start (ee.trans hh) m1⟩
    ·have hq':(ak q).1≠0:=fun h0=>beq_eq_false_iff_ne.1 hq (show((ak q).1:Int)=0 by omega)
     have hg':¬1<(nV p q).1:=by have hg:¬((nV p q).1:Int)>1:=of_decide_eq_false hg;omega
     exact⟨⟨hq,hg⟩,fun h=>Bool.noConfusion h,fun _=>start (by unfold gP;rw[decide_eq_false hq',Bool.false_or,decide_eq_false hg',Bool.false_and]) (L.cd hq').1.1⟩
 ·obtain⟨k1,k1e,k2,k3,k4,k5,k6⟩:=hall g1
  have L:=k6 g2
  obtain⟨l1,l2⟩:=L.lp g3
  rw[<-hJ]at l1 l2
  have hd:(ak q).1≠0:=fun h0=>by unfold gP at g3;rw[decide_eq_true h0,Bool.true_or]at g3;cases g3
  obtain⟨⟨m1,m2,m3,m4,m5⟩,m6⟩:=L.cd hd
  obtain⟨v1,v2,v3,v4,v5,v6,v7⟩:=l2 j hj
  have hat:=l1.at hj
  have next:oN (ak q) (e9 (aS (ak p)) (aQ (ak p)) s j)->sM (aS (ak p)) (aQ (ak p)) (e9 (aS (ak p)) (aQ (ak p)) s j)/\((((ak p).1≠0/\j5 (ak p) s=true/\gP p q s=false)/\j+1<=J)/\J-(j+1)<J-j):=fun h=>⟨v2 h,⟨⟨g1,g2,g3⟩,hat.1 h⟩,by have:=hat.1 h;omega⟩
  have stop:¬oN (ak q) (e9 (aS (ak p)) (aQ (ak p)) s j)->((ak p).1≠0/\j5 (ak p) s=true/\gP p q s=false)/\j=J:=fun h=>⟨⟨g1,g2,g3⟩,by have:¬j<J:=fun h2=>h (hat.2 h2);omega⟩
  have fin:∀b,b=j->en [] (xY (aS (ak p)) (aQ (ak p)) (ak q) (aS (ak q)) (aQ (ak q)),nB (e9 (aS (ak p)) (aQ (ak p)) s j)) (xY (aS (ak p)) (aQ (ak p)) (ak q) (aS (ak q)) (aQ (ak q))) (nB (e9 (aS (ak p)) (aQ (ak p)) s b)) 1:=fun b hb=>by
   subst hb;exact⟨[(0,0)],rfl,rfl,rfl,dD trivial⟩
  simp only[ag.all,aC,bI,bR,Bool.not_eq_true',Bool.not_eq_false',cond_true]
  refine⟨fun hne=>⟨⟨aa,aa,aa,aa,hne,aa,aa,hrd _,aa,aa,Nat.succ_pos _,by show aS (ak q)<_;omega,v3,v4⟩,fun hb=>?_,fun hb=>?_⟩,fun he=>⟨⟨aa,aa,aa,aa,he⟩,fun h=>Bool.noConfusion h,fun _=>?_⟩⟩
  ·obtain⟨i1,i2,i3⟩:=next ⟨hne,hb⟩
   exact⟨⟨aa,hrd _,.refl _,.refl _,i1,aa⟩,j+1,i2,i3,[(0,0)],rfl,rfl,rfl,dD trivial⟩
  ·exact⟨rfl,j,stop fun h=>hb h.2,fin j rfl⟩
  ·exact⟨rfl,j,stop fun h=>h.1 he,fin j rfl⟩
 ·obtain⟨k1,k1e,k2,k3,k4,k5,k6⟩:=hall g1
  have L:=k6 g2
  obtain⟨l1,l2⟩:=L.lp g3
  rw[<-hJ]at l1 l2
  obtain⟨v1,v2,v3,v4,v5,v6,v7⟩:=l2 j aa
  have he:gD p s=0:=by unfold gD;rw[if_neg g1,g2];rfl
  have hn:iU p s q=bK (b9 (ak q) (aU (e9 (aS (ak p)) (aQ (ak p)) s j).1 (e9 (aS (ak p)) (aQ (ak p)) s j).2)):=by
   unfold iU AP
   rw[if_pos he,g3,<-hJ,hj];rfl
  have hd1:=L.d1
  simp only[ag.all,aC]
  rw[hn,he]
  exact⟨⟨aa,.refl _,.refl _,v5,cK,aa,aa,v6,aa⟩,.refl _,.refl _,trivial⟩
theorem Tt (x:Rat):aU x x=x:=by unfold aU;grind
theorem Vr {p q:PP} {s:Rat×Rat} {t:Int} (h:uY p s q) (K:Nat):aW P 50 K [aD p,uT (s,t),aD q] [] (aO (.tuple [.int .i64 (iU p s q),.int .i64 (gD p s)]) []):=by
 have hW:=cP
 obtain⟨ho1,ho2,hall⟩:=h
 obtain⟨J,hJ⟩:∃J,J=sH (ak p) (ak q) s:=⟨_,rfl⟩
 have hrd:∀g:PP,∀i,i<aS g->bf (aD (aQ g i)) (aD (br (aD (aQ g i)))):=fun _ i _=>.refl _
 have rOK:∀{e v:Int},gD p s=e->iU p s q=v->∀us:List AV,∀o,nc f50 rR (.tuple [.int .i64 (iU p s q),.int .i64 (gD p s)]) (.int .i64 v::.int .i64 e::us,o):=fun {e v} h1 h2 us o=>⟨[.int .i64 v,.int .i64 e],rfl,by rw[h1,h2];exact⟨.refl _,.refl _,trivial⟩⟩
 refine jA (r:=aO (.tuple [.int .i64 (iU p s q),.int .i64 (gD p s)]) []) hT agx hm ab5 rfl bh rfl [1,1,1,1,1,1,1,0] (i:=1) (y:=part zo [1,1,1,1,1,1,1,0,0,0]) (z:=part zo [1,1,1,1,1,1,1,1]) ah ah ah (f1:=[18,22,27,37,49,58]) (f2:=[69,77,85]) (f3:=[]) 60 rR 1
  (fun _:Nat=>x5 (aS (ak p)) (aQ (ak p)) (ak q) (aS (ak q)) (aQ (ak q))) (fun j=>nB (e9 (aS (ak p)) (aQ (ak p)) s j)) (fun j=>((ak p).1≠0/\j5 (ak p) s=true/\gP p q s=false)/\j<=J) (fun j=>((ak p).1≠0/\j5 (ak p) s=true/\gP p q s=false)/\j=J) (fun j=>J-j) (fun _=>⟨⟨_,Z6,?_⟩,fun j ⟨⟨g1,g2,g3⟩,hj⟩=>⟨_,UQ,?_⟩,fun j ⟨⟨g1,g2,g3⟩,hj⟩=>⟨_,ajW,?_⟩⟩) K []
 ·simp only[ag.all,aC,Bool.not_eq_true',Bool.not_eq_false',cond_false,cond_true]
  refine⟨⟨cK,ho1,cK,ho2⟩,fun hz=>?_,fun hz=>?_⟩
  ·have hz':(ak p).1=0:=by have hz:((ak p).1:Int)=0:=eq_of_beq hz;omega
   have he:gD p s=3:=if_pos hz'
   exact rOK he (if_neg (by rw[he];decide)) _ _
  ·have hz':(ak p).1≠0:=fun h0=>beq_eq_false_iff_ne.1 hz (show((ak p).1:Int)=0 by omega)
   obtain⟨k1,k1e,k2,k3,k4,k5,k6⟩:=hall hz'
   refine⟨⟨aa,cK (a:=ak p),.refl _,.refl _,k3,fun hl=>⟨(k5 hl).1,k1e,k2,(k5 hl).2.1,(k5 hl).2.2⟩⟩,fun hf=>?_,fun hf=>?_⟩
   ·have hf:j5 (ak p) s=false:=hf
    have he:gD p s=1:=by unfold gD;rw[if_neg hz',hf];rfl
    exact rOK he (if_neg (by rw[he];decide)) _ _
   ·have hf:j5 (ak p) s=true:=hf
    have he:gD p s=0:=by unfold gD;rw[if_neg hz',hf];rfl
    have hle:s.1<=s.2:=EV.1 (Bool.and_eq_true _ _▸(show(iP s.1 s.2&&(if s.1=s.2 then decide (b9 (ak p) s.1=0)else decide (dn (aS (ak p)) (aQ (ak p)) s.1 s.2=1)))=true from hf)).1
    have L:=k6 hf
    have early:gP p q s=true->∀us o,nc f50 rR (.tuple [.int .i64 (iU p s q),.int .i64 (gD p s)]) (.int .i64 0::.int .i64 0::us,o):=fun h us o=>rOK he (by unfold iU;rw[if_pos he,if_pos h]) us o
    have start:gP p q s=false->jJ (ak q)->aC [aR (ak p),jJ (ak p),aR (ak q),jJ (ak q)]/\Start [] (fun _:Nat=>x5 (aS (ak p)) (aQ (ak p)) (ak q) (aS (ak q)) (aQ (ak q))) (fun j=>nB (e9 (aS (ak p)) (aQ (ak p)) s j)) 1 (fun j=>((ak p).1≠0/\j5 (ak p) s=true/\gP p q s=false)/\j<=J) (nc f50 rR (.tuple [.int .i64 (iU p s q),.int .i64 (gD p s)])) .normal ([.int .i64 0,.int .i64 0,aD (ak q),ptr 98304 0 6 0 [],eH (aS (ak p)) (aQ (ak p)),eH (aS (ak q)) (aQ (ak q))],[(98304,aA.mk false true 6 1 fun j=>if(j==0)=true then eE (dH s.fst s.snd af)else agg [rat 0 1,rat 0 1])]):=fun h hs=>
     ⟨⟨cK,k1e,cK,hs⟩,0,⟨⟨hz',hf,h⟩,Nat.zero_le _⟩,[(0,98304)],rfl,rfl,rfl,kg rfl rfl (.inr ⟨rfl,.refl _⟩) trivial⟩
    refine⟨fun hq=>?_,fun hq=>⟨⟨aa,aa⟩,⟨aa,aa,aa,aa⟩,fun hxy=>?_,fun hxy=>?_⟩⟩
    ·have hq':(ak q).1=0:=by have hq:((ak q).1:Int)=0:=eq_of_beq hq;omega
     exact early (by unfold gP;rw[decide_eq_true hq',Bool.true_or]) _ _
    ·have hq':(ak q).1≠0:=fun h0=>beq_eq_false_iff_ne.1 hq (show((ak q).1:Int)=0 by omega)
     have hxy:s.1=s.2:=of_decide_eq_true hxy
     have hl:=L.d1
     have hn:iU p s q=bK (b9 (ak q) s.1):=by
      unfold iU
      rw[if_pos he]
      by_cases hE:gP p q s=true
      ·rw[if_pos hE,L.e1 hq' hxy hE];exact(nL rfl).symm
      ·rw[if_neg hE]
       have hf:=(L.lp (Bool.eq_false_iff.2 hE)).1
       have h0:sH (ak p) (ak q) s=0:=Nat.eq_zero_of_not_pos fun h=>((hf.2 0 h).1 hxy).elim
       unfold AP
       rw[h0]
       show bK (b9 (ak q) (aU s.1 s.2))=_
       rw[<-hxy,Tt]
     exact⟨⟨aa,cK (a:=ak q),aa,by show(ak q).1<_;omega,(L.cd hq').2,aa⟩,rOK he hn _ _⟩
    ·have hq':(ak q).1≠0:=fun h0=>beq_eq_false_iff_ne.1 hq (show((ak q).1:Int)=0 by omega)
     have hxy:s.1≠s.2:=of_decide_eq_false hxy
     obtain⟨⟨m1,m2,m3,m4,m5⟩,m6⟩:=L.cd hq'
     obtain⟨w1,w2,w3,w4,w5⟩:=L.ch
     have e2:=L.e2 hq' hxy
     refine⟨⟨cK (a:=ak p),cK (a:=ak q),L.c1,L.d1,L.tc,L.td,L.ge⟩,fun hg=>?_,fun hg=>?_⟩
     ·have hg':1<(bN (ak p) (ak q)).1:=by have hg:((bN (ak p) (ak q)).1:Int)>1:=of_decide_eq_true hg;omega
      refine⟨⟨hg,cK (a:=bN (ak p) (ak q)),w2,aa,aa,hrd _,aa,aa,Nat.succ_pos _,w3,by grind,w4,w5⟩,fun hh=>?_,fun hh=>?_⟩
      ·exact early (e2.2 ⟨hg',eq_of_beq hh⟩) _ _
      ·exact start (Bool.eq_false_iff.2 fun h=>beq_eq_false_iff_ne.1 hh (e2.1 h).2) m2
     ·have hg':¬1<(bN (ak p) (ak q)).1:=by have hg:¬((bN (ak p) (ak q)).1:Int)>1:=of_decide_eq_false hg;omega
      exact⟨hg,fun h=>Bool.noConfusion h,fun _=>start (Bool.eq_false_iff.2 fun h=>hg' (e2.1 h).1) m2⟩
 ·obtain⟨k1,k1e,k2,k3,k4,k5,k6⟩:=hall g1
  have L:=k6 g2
  obtain⟨l1,l2⟩:=L.lp g3
  rw[<-hJ]at l1 l2
  have hd:(ak q).1≠0:=fun h0=>by unfold gP at g3;rw[decide_eq_true h0,Bool.true_or]at g3;cases g3
  obtain⟨⟨m1,m2,m3,m4,m5⟩,m6⟩:=L.cd hd
  have hd1:=L.d1
  obtain⟨v1,v2,v3,v4,v5,v6,v7⟩:=l2 j hj
  have hat:=l1.at hj
  have next:oN (ak q) (e9 (aS (ak p)) (aQ (ak p)) s j)->sM (aS (ak p)) (aQ (ak p)) (e9 (aS (ak p)) (aQ (ak p)) s j)/\((((ak p).1≠0/\j5 (ak p) s=true/\gP p q s=false)/\j+1<=J)/\J-(j+1)<J-j):=fun h=>⟨v2 h,⟨⟨g1,g2,g3⟩,hat.1 h⟩,by have:=hat.1 h;omega⟩
  have stop:¬oN (ak q) (e9 (aS (ak p)) (aQ (ak p)) s j)->((ak p).1≠0/\j5 (ak p) s=true/\gP p q s=false)/\j=J:=fun h=>⟨⟨g1,g2,g3⟩,by have:¬j<J:=fun h2=>h (hat.2 h2);omega⟩
  have fin:∀b,b=j->en [] (x5 (aS (ak p)) (aQ (ak p)) (ak q) (aS (ak q)) (aQ (ak q)),nB (e9 (aS (ak p)) (aQ (ak p)) s j)) (x5 (aS (ak p)) (aQ (ak p)) (ak q) (aS (ak q)) (aQ (ak q))) (nB (e9 (aS (ak p)) (aQ (ak p)) s b)) 1:=fun b hb=>by
   subst hb;exact⟨[(0,0)],rfl,rfl,rfl,dD trivial⟩
  simp only[ag.all,aC,bI,bR,Bool.not_eq_true',Bool.not_eq_false',cond_true,cond_false]
  refine⟨fun hne=>⟨fun hb=>?_,fun hb=>?_⟩,fun he=>⟨⟨aa,aa,aa,aa,he⟩,fun h=>Bool.noConfusion h,fun _=>?_⟩⟩
  ·obtain⟨i1,i2,i3⟩:=next ⟨hne,hb⟩
   exact⟨⟨aa,aa,aa,aa,hne,aa,aa,hrd _,aa,aa,Nat.succ_pos _,m3,by grind,v3,v4,hb⟩,fun _=>⟨⟨aa,hrd _,.refl _,.refl _,i1,aa⟩,j+1,i2,i3,[(0,0)],rfl,rfl,rfl,dD trivial⟩,fun h=>Bool.noConfusion h⟩
  ·refine⟨⟨aa,aa,aa,aa,hne,aa,aa,hrd _,aa,aa,Nat.succ_pos _,m3,by grind,v3,v4,hb,aa,.refl _,.refl _,v5,cK,aa,aa,v6,aa⟩,fun hz=>?_,fun _=>⟨rfl,j,stop fun h=>hb h.2,fin j rfl⟩⟩
   refine(hb (v7 hne ?_)).elim
   have hz:bK (b9 (ak q) (aU (e9 (aS (ak p)) (aQ (ak p)) s j).1 (e9 (aS (ak p)) (aQ (ak p)) s j).2))=0:=eq_of_beq hz
   generalize b9 (ak q) (aU (e9 (aS (ak p)) (aQ (ak p)) s j).1 (e9 (aS (ak p)) (aQ (ak p)) s j).2)=z at*
   rcases(show 0<z\/z<0\/z=0 by grind)with h|h|h
   ·rw[gH h]at hz;cases hz
   ·rw[gJ h]at hz;cases hz
   ·exact h
  ·exact⟨rfl,j,stop fun h=>h.1 he,fin j rfl⟩
 ·obtain⟨k1,k1e,k2,k3,k4,k5,k6⟩:=hall g1
  have L:=k6 g2
  obtain⟨l1,l2⟩:=L.lp g3
  rw[<-hJ]at l1 l2
  obtain⟨v1,v2,v3,v4,v5,v6,v7⟩:=l2 j aa
  have he:gD p s=0:=by unfold gD;rw[if_neg g1,g2];rfl
  have hn:iU p s q=bK (b9 (ak q) (aU (e9 (aS (ak p)) (aQ (ak p)) s j).1 (e9 (aS (ak p)) (aQ (ak p)) s j).2)):=by
   unfold iU AP
   rw[if_pos he,g3,<-hJ,hj];rfl
  have hd1:=L.d1
  simp only[ag.all,aC]
  rw[hn,he]
  exact⟨⟨aa,.refl _,.refl _,v5,cK,aa,aa,v6,aa⟩,.refl _,.refl _,trivial⟩
def Dd:Spec:=ef (kC (kL af) (kC Hr (kC (kL af) kN))) (fun a=>.tuple [.int .i64 (iU a.1 a.2.1.1 a.2.2.1),.int .i64 (gD a.1 a.2.1.1)]) fun a=>[uY a.1 a.2.1.1 a.2.2.1]
theorem Uz:bp P Dd 49:=dy fun⟨_,⟨_,_⟩,_,_⟩ K hn=>Sg hn K
theorem aaD:bp P Dd 50:=dy fun⟨_,⟨_,_⟩,_,_⟩ K hn=>Vr hn K
end Go.Am.B
namespace Go.Am
theorem gA.rest {a b:PP} (h:gA a b) (h0:0<b.1):gA b (mL (a,b)).2:=by
 obtain⟨u,v,h⟩:=h
 refine⟨iB v (bZ u (fE a b)),gv (-1) u,fun t=>?_⟩
 have h1:=h t
 have h2:=qo (a:=a) h0 t
 have e:aE (mL (a,b)).2 t=((-1:Int):Rat)*aE (dj a b) t:=qH
 rw[show((-1:Int):Rat)=-1 from rfl]at e
 rw[e,ju,cA,gb];rw[h2]at h1;grind
theorem KS {a b:PP} (ta:Trim a) (tb:Trim b) (h:gA a b):∀j,j<=eo (a,b)->gA (bH (a,b) j).1 (bH (a,b) j).2
 |0,_=>h
 |j+1,hj=>(KS ta tb h j aa).rest (Nat.pos_of_ne_zero ((lS (s:=(a,b)) ta tb).2.2 j aa))
theorem ahc {a:PP} (h:a.1<=1):∃k,∀t,aE a t=k:=by
 rcases Nat.eq_zero_or_pos a.1 with h0|h0
 ·exact⟨0,fun t=>jl h0 t⟩
 ·refine⟨a.2 0,fun t=>?_⟩
  show ev a.1 a.2 t=_
  rw[show a.1=1 by omega]
  show 0+a.2 0*t^0=_
  rw[Rat.pow_zero];grind
theorem Md {a w:PP} (ta:Trim a) (h:∀t,aE a t*aE w t=1):a.1<=1:=
 Dv.len (h:=a) (g:=gY) ⟨w,fun t=>by rw[jo,h]⟩ (by decide) Cc ta
theorem Si {a:PP} {s:Nat} (ta:Trim a) (h:Bd a s) (l1:a.1=1) {t w:Rat} (hw:Ab (aE a t) w):1<=w*T2 s:=by
 obtain⟨D,d1,d2,d3⟩:=h
 have e:aE a t=a.2 0:=by
  show ev a.1 a.2 t=_
  rw[l1]
  show 0+a.2 0*t^0=_
  rw[Rat.pow_zero];grind
 have hne:a.2 0≠0:=by
  rcases ta with h0|h0
  ·omega
  ·rw[l1]at h0;exact h0
 have hl:=(d3 0 aa).low d1 d2 hne
 rw[e]at hw
 obtain⟨w1,w2⟩:=hw
 have hT:=j8 s
 have p1:=Rat.mul_nonneg (a:=w-a.2 0) (b:=T2 s) (by grind) (by grind)
 have p2:=Rat.mul_nonneg (a:=w+a.2 0) (b:=T2 s) (by grind) (by grind)
 rcases hl with hl|hl<;>grind
theorem wE {w:Rat} {m n:Nat} (hw:0<=w) (h:m<=n):w*T2 m<=w*T2 n:=Rat.mul_le_mul_of_nonneg_left (jS h) hw
theorem RC {x y z q w:Rat} {Q:Nat} (e:x=q*y+z) (hx:Ab x w) (hy:Ab y w) (hq:Ab q (T2 Q)):Ab (-1*z) (w*T2 (Q+1)):=by
 have h1:=hx.sub (hq.mul hy)
 rw[show x-q*y=z by grind]at h1
 have hw:=hx.pos
 have:=Rat.mul_nonneg (a:=T2 Q-1) (b:=w) (by have:=sW Q;grind) hw
 rw[nK]
 unfold Ab at*
 constructor<;>grind
theorem OM {a b:PP} {u r B:Nat} (ta:Trim a) (tb:Trim b) (la:a.1<=7) (lb:b.1<a.1) (ha:Bd a u) (hb:Bd b u) (h:gA a b) {t:Rat} (ht:Ab t (T2 r)) (hB:2*(u+1)*729<=B+1):∀i,i<=eo (a,b)->∀w,Ab (aE (bH (a,b) (eo (a,b)-i)).1 t) w->Ab (aE (bH (a,b) (eo (a,b)-i)).2 t) w->1<=w*T2 (B+i*(8*B+7*(r+1)+8))
 |0,_=>fun w h1 h2=>by
  have hK:=Nat.le_refl (eo (a,b))
  rw[Nat.sub_zero]at h1 h2
  obtain⟨B',b1,b2,b3,b4,b5⟩:=Ap ta tb la lb ha hb (eo (a,b)) hK
  have h3:3^(7-(bH (a,b) (eo (a,b))).1.1)<=3^6:=s7 aa
  have h4:=Nat.mul_le_mul_left (2*(u+1)) h3
  obtain⟨u',v',hc⟩:=KS ta tb h _ hK
  have hz:=(lS (s:=(a,b)) ta tb).2.1
  have hl:=Md (w:=u') (mU (s:=(a,b)) ta tb (eo (a,b))).1 fun t=>by have:=hc t;rw[jl hz]at this;grind
  exact Rat.le_trans (Si (mU (s:=(a,b)) ta tb (eo (a,b))).1 b2 aa h1) (wE h1.pos aa)
 |i+1,hi=>fun w h1 h2=>by
  obtain⟨K,hK⟩:∃K,K=eo (a,b):=⟨_,rfl⟩
  obtain⟨j,hj⟩:∃j,j+1=K-i:=⟨K-i-1,aa⟩
  have ih:=OM ta tb la lb ha hb h ht hB i aa
  rw[<-hK]at ih h1 h2
  rw[<-hj]at ih
  rw[show K-(i+1)=j by omega]at h1 h2
  obtain⟨B',b1,b2,b3,b4,b5⟩:=Ap ta tb la lb ha hb j aa
  have h3:3^(7-(bH (a,b) j).1.1)<=3^6:=s7 aa
  have h4:=Nat.mul_le_mul_left (2*(u+1)) h3
  have h0:0<(bH (a,b) j).2.1:=Nat.pos_of_ne_zero ((lS (s:=(a,b)) ta tb).2.2 j aa)
  have ht2:=(mU (s:=(a,b)) ta tb j).2
  have hB':B'<=B:=aa
  have hih:∀w,Ab (aE (bH (a,b) j).2 t) w->Ab (-1*aE (dj (bH (a,b) j).1 (bH (a,b) j).2) t) w->1<=w*T2 (B+i*(8*B+7*(r+1)+8)):=fun w k1 k2=>by
   refine ih w k1 ?_
   have e:aE (mL (bH (a,b) j)).2 t=((-1:Int):Rat)*aE (dj (bH (a,b) j).1 (bH (a,b) j).2) t:=qH
   show Ab (aE (mL (bH (a,b) j)).2 t) w
   rw[e];exact k2
  generalize bH (a,b) j=s at*
  have hr:=(b2.rem b3 h0 ht2).2.1
  have hM:s.1.1-(s.2.1-1)<=7:=aa
  have hm:=Nat.mul_le_mul_right (B'+1) hM
  have hlq:(fE s.1 s.2).1<=7:=Nat.le_trans (show bO _ _<=_ from fK) hM
  have hq:=FI (dF.cf (hr.more (t:=8*B+7) aa)) hlq ht
  have hrr:=RC (qo (a:=s.1) h0 t) h1 h2 hq
  have hw:=h1.pos
  have key:=hih (w*T2 (8*B+7+7*(r+1)+1)) (h2.more (by
   have:=Rat.mul_nonneg (a:=w) (b:=T2 (8*B+7+7*(r+1)+1)-1) hw (by have:=sW (8*B+7+7*(r+1)+1);grind)
   grind)) hrr
  rw[Rat.mul_assoc,<-nN]at key
  rwa [show 8*B+7+7*(r+1)+1+(B+i*(8*B+7*(r+1)+8))=B+(i+1)*(8*B+7*(r+1)+8) by rw[Nat.add_mul i 1,Nat.one_mul];omega]at key
theorem FJ {a b:PP} (ta:Trim a) (tb:Trim b) (la:a.1<=7) (lb:b.1<a.1) (ha:Bd a 1601) (hb:Bd b 1601) (h:gA a b) {t w:Rat} (ht:Ab t (T2 7)) (h1:Ab (aE a t) w) (h2:Ab (aE b t) w):1<=w*T2 114450419:=by
 have hk:=(lS (s:=(a,b)) ta tb).1
 have hk:eo (a,b)<=b.1:=hk
 have:=OM (B:=2335715) ta tb la lb ha hb h ht aa (eo (a,b)) aX w
 rw[Nat.sub_self]at this
 exact Rat.le_trans (this h1 h2) (wE h1.pos aa)
theorem ah6 {a b:PP} (ta:Trim a) (tb:Trim b) (la:a.1<=7) (lb:b.1<=7) (ha:Bd a 800) (hb:Bd b 800) (h:gA a b) {t w:Rat} (ht:Ab t (T2 7)) (h1:Ab (aE a t) w) (h2:Ab (aE b t) w):1<=w*T2 133136203:=by
 have hw:=h1.pos
 rcases Nat.lt_trichotomy a.1 b.1 with hl|hl|hl
 ·exact Rat.le_trans (FJ tb ta lb hl (hb.more (by decide)) (ha.more (by decide)) h.symm ht h2 h1) (wE hw (by decide))
 ·have hb0:0<b.1:=by
   rcases Nat.eq_zero_or_pos b.1 with h0|h0
   ·obtain⟨u,v,e⟩:=h
    have:=e 0
    rw[jl h0,jl (hl.trans h0)]at this
    exact absurd this (by grind)
   ·exact h0
  have hr:=ha.rem hb hb0 tb
  rw[show a.1-(b.1-1)=1 by omega]at hr
  have hlq:(fE a b).1<=7:=Nat.le_trans (show bO _ _<=a.1-(b.1-1)from fK) aa
  have hq:=FI (dF.cf (Bd.more hr.2.1 (show 800+1*(800+1)<=1601 by decide))) hlq ht
  have e:aE (mL (a,b)).2 t=((-1:Int):Rat)*aE (dj a b) t:=qH
  have hrr:=RC (qo (a:=a) hb0 t) h1 h2 hq
  have key:=FJ (a:=b) (b:=(mL (a,b)).2) tb (xk (a:=dj a b) qI (by decide)) lb (oA hb0 tb) (hb.more (by decide)) (Bd.more hr.1 (show 800+1*(800+1)<=1601 by decide)).neg (h.rest hb0) ht (w:=w*T2 (1601+7*(7+1)+1)) (h2.more (by
   have:=Rat.mul_nonneg (a:=w) (b:=T2 (1601+7*(7+1)+1)-1) hw (by have:=sW (1601+7*(7+1)+1);grind)
   grind)) (by rw[e];exact hrr)
  rw[Rat.mul_assoc,<-nN]at key
  exact Rat.le_trans key (wE hw (by decide))
 ·exact Rat.le_trans (FJ ta tb la hl (ha.more (by decide)) (hb.more (by decide)) h ht h1 h2) (wE hw (by decide))
theorem gA.cV {F G F1:PP} (h:gA F (bz F)) (e:∀t,aE F t=aE G t*aE F1 t):gA G (bz G):=by
 obtain⟨u,v,h⟩:=h
 refine⟨iB (bZ u F1) (bZ v (bz F1)),bZ v F1,fun t=>?_⟩
 have h1:=h t
 rw[e,gN,kV e,<-gN,<-gN]at h1
 rw[ju,cA,cA,cA,<-h1];grind
theorem afD {G:PP} (tG:Trim G) (g0:0<G.1) (h:gA G (bz G)):∃k:Rat,k≠0/\∀t,aE G t=k*aE (bg G) t:=by
 obtain⟨G0,e,_,tG0,h1,_⟩:=oH tG g0
 obtain⟨w,hw⟩:=E7 tG g0 tG g0 h (.refl G)
 have hF:=ux tG g0
 have h2:∀t,aE G0 t*aE w t=1:=fun t=>by
  have:=A7 (g:=bg G) (a:=bZ G0 w) (b:=gY) hF iI (fun t=>by
   have e2:=hw t
   rw[h1]at e2
   rw[cA,jo];grind) t
  rwa [cA,jo]at this
 obtain⟨k,hk⟩:=ahc (Md tG0 h2)
 refine⟨k,fun h0=>?_,fun t=>by rw[h1,hk]⟩
 have:=h2 0
 rw[hk,h0,Rat.zero_mul]at this
 exact absurd this (by decide)
theorem fH.mul {a b c d:Rat} (h:fH a b) (h':fH c d):fH (a*c) (b*d):=by
 have pp:∀{x y:Rat},0<x->0<y->0<x*y:=fun h1 h2=>Rat.mul_pos h1 h2
 unfold fH at*
 rcases h with⟨h1,h2⟩|⟨h1,h2⟩<;>rcases h' with⟨h3,h4⟩|⟨h3,h4⟩
 ·exact .inl ⟨pp h1 h3,pp h2 h4⟩
 ·have p1 := pp h1 (show 0 < -c by grind)
  have p2 := pp h2 (show 0 < -d by grind)
  exact .inr ⟨by grind,by grind⟩
 ·have p1 := pp (show 0 < -a by grind) h3
  have p2 := pp (show 0 < -b by grind) h4
  exact .inr ⟨by grind,by grind⟩
 ·have p1 := pp (show 0 < -a by grind) (show 0 < -c by grind)
  have p2 := pp (show 0 < -b by grind) (show 0 < -d by grind)
  exact .inl ⟨by grind,by grind⟩
theorem fH.self {k:Rat} (h:k≠0):fH k k:=by unfold fH;grind
theorem RX {F G F1:PP} (hF:cW F) (l7:F.1<=7) (e:∀t,aE F t=aE G t*aE F1 t) {x y:Rat} (hr:Rg 7 x y) (hs:¬fH (aE F x) (aE F y)) (hx:aE F x≠0) (hy:aE F y≠0) (hG:fH (aE G x) (aE G y)):
  ∃A:PP,Trim A/\A.1<=7/\Bd A 800/\Dv A F1/\Ab (aE A x) ((y-x)*T2 912):=by
 have d1:Dv (cz F1) F:=⟨G,fun t=>by rw[e,eI,Rat.mul_comm]⟩
 have hl:=d1.len hF.p0 hF.tr fJ
 have p1:0<(cz F1).1:=by
  rcases Nat.eq_zero_or_pos (cz F1).1 with h0|h0
  ·exact absurd (by rw[e,<-eI (a:=F1),jl h0,Rat.mul_zero]) hx
  ·exact h0
 have hb:=(hF.dv _ fJ p1 d1).1
 have tA:=mO (fJ (a:=F1))
 have back:=fun t=>DO (t:=t) (fJ (a:=F1))
 obtain⟨k,hk⟩:∃k,k=(cz F1).2 ((cz F1).1-1):=⟨_,rfl⟩
 have hk0:k≠0:=by
  rcases fJ (a:=F1)with h|h
  ·omega
  ·rw[hk];exact h
 rw[<-hk]at back
 have lA:(dM (cz F1)).1<=7:=Nat.le_trans hl l7
 generalize dM (cz F1)=A at*
 have back:∀t,aE F1 t=k*aE A t:=fun t=>by rw[<-eI,back]
 have ax:aE A x≠0:=fun h0=>hx (by rw[e,back,h0];grind)
 have ay:aE A y≠0:=fun h0=>hy (by rw[e,back,h0];grind)
 have hsA:¬fH (aE A x) (aE A y):=fun hA=>hs (by rw[e,e,back,back];exact hG.mul ((fH.self hk0).mul hA))
 obtain⟨q,q1,q2⟩:=BF hr.ab.1 hr.ab.2 A.1 (dF.cf hb)
 have self:Ab (y-x) (y-x):=by have:=hr.2.2;exact⟨by grind,by grind⟩
 refine⟨A,tA,lA,hb,⟨gv k gY,fun t=>by rw[gb,jo,back];grind⟩,(Gd (self.mul (q2.more (jS ?_))) q1 hsA ax ay).1⟩
 have:=Nat.mul_le_mul_right (7+1) lA
 omega
theorem afk {c d g:PP} (hc:cW c) (hd:cW d) (hg:cW g) (hdv:∀k:PP,Dv k c->Dv k d->Dv k g) {x y:Rat} (hr:Rg 7 x y) (hf:(y-x)*T2 133140000<1) (h1:bt c x y=1) (h2:0<bt d x y) (h3:bt g x y<=0):False:=by
 have hw:0<=y-x:=by have:=hr.2.2;grind
 have le:∀{m:Nat},m<=133140000->(y-x)*T2 m<1:=fun hm=>by have:=wE hw hm;grind
 obtain⟨fc,lc⟩:=hc.free
 obtain⟨fd,ld⟩:=hd.free
 have hfe:nJ 1176605 9412848 7<=133140000:=by decide
 have c1:=hc.jm.near hr (le hfe)
 have d1:=hd.jm.near hr (le hfe)
 rw[pO hr.2.2]at h1 h2
 have cF:¬fH (aE (bg c) x) (aE (bg c) y)/\aE (bg c) x≠0/\aE (bg c) y≠0:=by
  rcases c1 with⟨e,n,_⟩|⟨e,n,s,_⟩
  ·rw[if_neg n]at h1;omega
  ·exact⟨s,n,fun h0=>by rw[if_pos h0]at h1;omega⟩
 have cH:¬fH (aE (bg d) x) (aE (bg d) y)/\aE (bg d) x≠0/\aE (bg d) y≠0:=by
  rcases d1 with⟨e,n,_⟩|⟨e,n,s,_⟩
  ·rw[if_neg n]at h2;omega
  ·exact⟨s,n,fun h0=>by rw[if_pos h0]at h2;omega⟩
 obtain⟨F1,H1,e1,e2,cop⟩:=Em (a:=bg c) (b:=bg d) iI iI fc.p0
 have hdG:=nj (a:=bg c) (b:=bg d) iI iI
 have gG:cW (bN (bg c) (bg d)):=fc.rK (j9 iI iI) (mh fc.p0) hdG.1 (uB (a:=(bW (bg c,bg d) (bg d).1).1) (uN (s:=(bg c,bg d)) fc.p0 _) (lC (s:=(bg c,bg d)) iI iI _).1)
 have up:∀{c:PP},cW c->Dv (bg c) c:=fun hc=>by
  obtain⟨G,e,_,_,h,_⟩:=oH hc.tr hc.p0
  exact⟨G,fun t=>by rw[h,Rat.mul_comm]⟩
 have dg:=hdv _ (hdG.1.trans (up hc)) (hdG.2.trans (up hd))
 have b1:=D6 hg.jm gG.jm (D5 hg.tr hg.p0 gG.tr gG.p0 dg) x y
 have b2:=gG.jm.qg x y
 have g1:=gG.jm.near hr (le hfe)
 obtain⟨k,hk,hkt⟩:=afD gG.tr gG.p0 ((AO hc.tr hc.p0).cV e1)
 generalize bN (bg c) (bg d)=G at*
 have gx:aE (bg G) x≠0:=fun h0=>cF.2.1 (by rw[e1,hkt,h0];grind)
 have gy:aE (bg G) y≠0:=fun h0=>cF.2.2 (by rw[e1,hkt,h0];grind)
 have gS:fH (aE G x) (aE G y):=by
  rw[pO hr.2.2,if_neg gy]at b1 b2
  rcases g1 with⟨e,n,s,_⟩|⟨e,_⟩
  ·rw[hkt,hkt];exact(fH.self hk).mul (s.resolve_left gx)
  ·omega
 obtain⟨A,tA,lA,bA,dA,sA⟩:=RX fc lc e1 hr cF.1 cF.2.1 cF.2.2 gS
 obtain⟨B,tB,lB,bB,dB,sB⟩:=RX fd ld e2 hr cH.1 cH.2.1 cH.2.2 gS
 have key:=ah6 tA tB lA lB bA bB ((cop.rK dA).symm.rK dB).symm hr.ab.1 sA sB
 rw[Rat.mul_assoc,<-nN]at key
 have:=le (m:=912+133136203) (by decide)
 grind
end Go.Am
namespace Go.Am.B
open Go Go.Am.N AV ag au IntKind Proofs.Tryz
theorem Dz.oJ {c:PP} (hc:cW c) {j:Nat} {z:Rat} (h:Dz j z) (hj:j<=2147000000):cj (aS c) (aQ c) z:=F6 hc h (nF j).2 (nF j).1 aa
theorem Dz.He {c:PP} (hc:cW c) {j:Nat} {z:Rat} (h:Dz j z) (hj:j<=2147000000):fF c z:=by
 have hW:=cP
 exact Fq hc.bd h (nF j).2 (nF j).1 hc.len aa
theorem Dz.OR {j:Nat} {z:Rat} (h:Dz j z) (hj:j<=2147000000):Sz z af:=by
 have hW:=cP
 exact(ct.sz (nF j).1 (nF j).2 h).more aa
theorem Dz.chain {c:PP} (hc:cW c) {j:Nat} {s:Rat×Rat} (h1:Dz j s.1) (h2:Dz j s.2) (hj:j<=2147000000):Eh c s:=
 ⟨(vE hc).1,(vE hc).2,by have:=yq hc;omega,h1.oJ hc hj,h2.oJ hc hj⟩
theorem XH {c:PP} (h:cW c) {x y x' y':Rat} (h1:x<=x') (h2:y'<=y):bt c x' y'<=bt c x y:=by
 have nn:=h.jm.qg
 by_cases hxy:x'<y'
 ·have a:bt c x' y'<=bt c x' y:=by
   by_cases e:y'=y
   ·rw[e];exact Int.le_refl _
   ·rw[rJ hxy (show y'<y by grind)]
    have:=nn y' y
    split<;>omega
  have b:bt c x' y<=bt c x y:=by
   by_cases e:x=x'
   ·rw[e];exact Int.le_refl _
   ·rw[rJ (show x<x' by grind) (show x'<y by grind)]
    have:=nn x x'
    split<;>omega
  omega
 ·rw[show bt c x' y'=0 from if_pos (by grind)];exact nn x y
theorem CP {c d:PP} (hc:cW c) (td:Trim d):cW (bN c d):=
 hc.rK (j9 hc.tr td) (mh hc.p0) (nj hc.tr td).1 (uB (a:=(bW (c,d) d.1).1) (uN (s:=(c,d)) hc.p0 _) (lC (s:=(c,d)) hc.tr td _).1)
theorem Lu {c:PP} (hc:cW c):Dv (bg c) c:=by
 obtain⟨G,e,_,_,h,_⟩:=oH hc.tr hc.p0
 exact⟨G,fun t=>by rw[h,Rat.mul_comm]⟩
theorem Qq {c d:PP} (hc:cW c) (td:Trim d) (x y:Rat):bt (bN (bg c) d) x y=bt (bN c d) x y:=by
 have fc:=hc.free.1
 have g1:=CP fc td
 have g2:=CP hc td
 have d1:=nj fc.tr td
 have d2:=nj hc.tr td
 have a:=D6 g2.jm g1.jm (D5 g2.tr g2.p0 g1.tr g1.p0 (wG (d1.1.trans (Lu hc)) d1.2)) x y
 have k:=D5 hc.tr hc.p0 g2.tr g2.p0 d2.1
 have b:=D6 g1.jm g2.jm (E7 g1.tr g1.p0 iI (ux g2.tr g2.p0) (AO g2.tr g2.p0) (wG k ((Lu g2).trans d2.2))) x y
 omega
theorem EI {c:PP} {x y:Rat} (hxy:x≠y):iS c x y=true↔bt c x y≠0:=by
 unfold iS
 rw[if_neg hxy,nE,decide_eq_true_iff]
def qK (c:PP) (s u:Rat×Rat):Prop:=s.1<=u.1/\u.2<=s.2/\(u.1<u.2->bt c u.1 u.2=1)
theorem qK.half {c:PP} (hc:cW c) {s u:Rat×Rat} (h:qK c s u) (hu:u.1<u.2):qK c s (iV (aS c) (aQ c) u):=by
 obtain⟨h1,h2,h3⟩:=h
 obtain⟨m1,m2,_⟩:=uP hu
 have h3:=h3 hu
 unfold iV
 split
 ·exact⟨by grind,by grind,fun h=>by grind⟩
 ·rename_i hr
  rw[nE]
  split
  ·rename_i hb
   exact⟨h1,by grind,fun _=>hb⟩
  ·rename_i hb
   refine⟨by grind,h2,fun _=>?_⟩
   rw[rJ m1 m2,if_neg (fun h0=>hr (by rw[nv];exact h0))]at h3
   have a:=hc.jm.qg u.1 (aU u.1 u.2)
   have b:=hc.jm.qg (aU u.1 u.2) u.2
   show bt c (aU u.1 u.2) u.2=1
   omega
theorem qK.all {c d:PP} (hc:cW c) {s:Rat×Rat} {J:Nat} (h0:qK c s s) (hs:s.1<=s.2) (hz1:Dz J s.1) (hz2:Dz J s.2):∀j,(∀i,i<j->oN d (e9 (aS c) (aQ c) s i))->qK c s (e9 (aS c) (aQ c) s j)
 |0,_=>h0
 |j+1,h=>by
  have ih:=qK.all hc h0 hs hz1 hz2 j fun i hi=>h i aa
  have h1:=(h j aa).1
  have h2:=(CH (n:=aS c) (c:=aQ c) hs hz1 hz2 j).2.2.1
  exact ih.half hc (by grind)
theorem acV {P:Nat->Prop} (n:Nat):(∃j,j<=n/\¬P j/\∀i,i<j->P i)\/∀i,i<=n->P i:=by
 induction n with
 |zero=>
  by_cases h:P 0
  ·exact .inr fun i hi=>by rw[Nat.le_zero.1 hi];exact h
  ·exact .inl ⟨0,aX,h,fun i hi=>absurd hi (Nat.not_lt_zero i)⟩
 |succ n ih=>
  rcases ih with⟨j,h1,h2⟩|h
  ·exact .inl ⟨j,aa,h2⟩
  ·by_cases h1:P (n+1)
   ·exact .inr fun i hi=>by
     rcases Nat.lt_or_ge i (n+1)with h2|h2
     ·exact h i aa
     ·rw[show i=n+1 by omega];exact h1
   ·exact .inl ⟨n+1,aX,h1,fun i hi=>h i aa⟩
theorem ae4 {a:PP} {s:Nat} (h:a.1=0):Bd a s:=⟨1,by decide,Nat.one_le_two_pow,fun i hi=>absurd hi aa⟩
theorem OE {p q:PP} {s:Rat×Rat} {J:Nat} (hp:jx p) (hq:jx q) (hg:(ak p).1≠0->cW (ak p)) (hd:(ak q).1≠0->cW (ak q)) (h1:Dz J s.1) (h2:Dz J s.2) (hJ:J<=dY) (b1:-(128:Rat)<=s.1) (b2:s.2<=128):uY p s q:=by
 have hD:=nC
 have hJ2:J<=2147000000:=aa
 refine⟨hp,hq,fun h0=>?_⟩
 have hc:=hg h0
 refine⟨(vE hc).1,(vE hc).2,by have:=yq hc;omega,by have:=hc.len;omega,?_,fun _=>⟨h1.He hc hJ2,h1.oJ hc hJ2,h2.oJ hc hJ2⟩,fun hf=>?_⟩
 ·unfold xI j5
  rw[decide_eq_decide.2 (wD hc)]
 have hft:=Bool.and_eq_true _ _▸(show(iP s.1 s.2&&(if s.1=s.2 then decide (b9 (ak p) s.1=0)else decide (dn (aS (ak p)) (aQ (ak p)) s.1 s.2=1)))=true from hf)
 have hle:s.1<=s.2:=EV.1 hft.1
 have hb1:s.1≠s.2->bt (ak p) s.1 s.2=1:=fun hne=>by
  have:=hft.2
  rw[if_neg hne]at this
  rw[<-nE];exact of_decide_eq_true this
 have hW:=cP
 have td:Trim (ak q):=mI
 obtain⟨c,ec⟩:∃c,c=ak p:=⟨_,rfl⟩
 obtain⟨d,ed⟩:∃d,d=ak q:=⟨_,rfl⟩
 have fc:=hc.free.1
 have l7:=hc.free.2
 have g1:=CP fc td
 have g2:=CP hc td
 have bd:Bd (ak q) 806/\(ak q).1<=13:=by
  by_cases hz:(ak q).1=0
  ·exact⟨ae4 hz,aa⟩
  ·exact⟨(hd hz).bd.more aa,(hd hz).len⟩
 have h13:2*((13+1)*(2*(806+1)*3^(13-1)))+2<=af:=by rw[hW];decide
 have hE:(ak q).1≠0->gP p q s=iS (bN (bg (ak p)) (ak q)) s.1 s.2:=fun hz=>by
  have:gP p q s=(decide (1<(bN (bg (ak p)) (ak q)).1)&&lI (aS (bN (bg (ak p)) (ak q))) (aQ (bN (bg (ak p)) (ak q))) s.1 s.2):=by
   unfold gP
   rw[decide_eq_false hz,Bool.false_or];rfl
  rw[this,ZE g1]
  cases hh:iS (bN (bg (ak p)) (ak q)) s.1 s.2 with
  |false=>rw[Bool.and_false]
  |true=>rw[decide_eq_true (RA g1 hh)];rfl
 refine {f1:=(by show(bg (ak p)).1<_;omega),c1:=(by have:=hc.len;omega),d1:=aa,tf:=iI,tc:=hc.tr,td:=td,gf:=xW iI td (by show(bg (ak p)).1<=13;omega) bd.2 aa (fc.bd.more aa) bd.1 h13,ge:=⟨kQ (hc.bd.cN hc.tr) aa,kQ (bd.1.cN td) aa,xW (mO hc.tr) (mO td) hc.len bd.2 aa ((hc.bd.more aa).cN hc.tr) (bd.1.cN td) h13⟩,cg:=h1.chain g1 h2 hJ2,ch:=h1.chain g2 h2 hJ2,cd:=fun hz=>⟨h1.chain (hd hz) h2 hJ2,h1.He (hd hz) hJ2⟩,e1:=fun hz he hh=>?_,e2:=fun hz hne=>?_,lp:=fun hh=>?_}
 ·rw[hE hz]at hh
  unfold iS at hh
  rw[if_pos he]at hh
  have hh:=of_decide_eq_true hh
  obtain⟨w,hw⟩:=(nj fc.tr td).2
  rw[show b9 (bN (bg (ak p)) (ak q)) s.1=Go.Am.aE (bN (bg (ak p)) (ak q)) s.1 from nv]at hh
  rw[show b9 (ak q) s.1=Go.Am.aE (ak q) s.1 from nv,hw,hh,Rat.zero_mul]
 ·rw[hE hz,EI hne,Qq hc td,nE]
  have k:=D6 hc.jm g2.jm (D5 hc.tr hc.p0 g2.tr g2.p0 (nj hc.tr td).1) s.1 s.2
  have nn:=g2.jm.qg s.1 s.2
  rw[hb1 hne]at k
  exact⟨fun h=>⟨RA g2 ((EI hne).2 h),aa⟩,fun h=>aa⟩
 ·have hz:(ak q).1≠0:=fun h0=>by unfold gP at hh;rw[decide_eq_true h0,Bool.true_or]at hh;cases hh
  have hdq:=hd hz
  rw[hE hz]at hh
  have hI:qK (ak p) s s:=⟨Rat.le_refl,Rat.le_refl,fun h=>hb1 (by grind)⟩
  have far:(∀i,i<=133140010->oN (ak q) (e9 (aS (ak p)) (aQ (ak p)) s i))->False:=fun hall=>by
   have hi:=qK.all (d:=ak q) hc hI hle h1 h2 133140010 fun i h=>hall i aa
   obtain⟨_,_,k3,k4⟩:=CH (n:=aS (ak p)) (c:=aQ (ak p)) hle h1 h2 133140010
   obtain⟨n1,n2⟩:=hall 133140010 aX
   have hne:s.1≠s.2:=(hall 0 (Nat.zero_le _)).1
   generalize e9 (aS (ak p)) (aQ (ak p)) s 133140010=u at*
   have hu:u.1<u.2:=by grind
   rw[nE]at n2
   have hg0:bt (bN (ak p) (ak q)) s.1 s.2=0:=Decidable.byContradiction fun h=>by
    rw[<-Qq hc td]at h
    rw[(EI hne).2 h]at hh;cases hh
   have hm:=XH g2 hi.1 hi.2.1
   have t7:T2 7=128:=by unfold T2;decide+kernel
   refine afk (x:=u.1) (y:=u.2) hc hdq g2 (fun k e1 e2=>wG e1 e2) ⟨by rw[t7];have:=hi.1;grind,by rw[t7];have:=hi.2.1;grind,hu⟩ ?_ (hi.2.2 hu) n2 aa
   have e:T2 133140010=T2 10*T2 133140000:=by rw[<-nN]
   have t10:T2 10=1024:=by unfold T2;decide+kernel
   rw[e,t10]at k4
   grind
  have hfin:vW (ak p) (ak q) s (sH (ak p) (ak q) s):=by
   refine Classical.epsilon_spec (p:=vW (ak p) (ak q) s) ?_
   rcases acV (P:=fun i=>oN (ak q) (e9 (aS (ak p)) (aQ (ak p)) s i)) 133140010 with⟨j,_,h3,h4⟩|h
   ·exact⟨j,h3,h4⟩
   ·exact(far h).elim
  have hj0:sH (ak p) (ak q) s<=133140010:=Decidable.byContradiction fun hn=>far fun i hi=>hfin.2 i aa
  refine⟨hfin,fun j hj=>?_⟩
  obtain⟨k1,k2,k3,k4⟩:=CH (n:=aS (ak p)) (c:=aQ (ak p)) hle h1 h2 j
  have hJ3:J+j<=2147000000:=aa
  have hJ4:J+j+1<=2147000000:=aa
  refine⟨k3,fun hs=>⟨Nat.succ_pos _,by have:=yq hc;omega,by have:=hs.1;grind,k1.oJ hc hJ3,(k1.mid k2).oJ hc hJ4,(k1.mid k2).OR hJ4⟩,k1.oJ hdq hJ3,k2.oJ hdq hJ3,(k1.mid k2).OR hJ4,(k1.mid k2).He hdq hJ4,fun hne hv=>?_⟩
  generalize e9 (aS (ak p)) (aQ (ak p)) s j=u at*
  obtain⟨m1,m2,_⟩:=uP (show u.1<u.2 by grind)
  rw[nE]
  have:=hdq.jm.root m1 m2 (OD hdq.tr hdq.p0 (by rw[<-hv];exact nv.symm))
  omega
theorem ahk {p q:PP} (hp:jx p) (hq:jx q) (hg:(ak p).1≠0->cW (ak p)) (hd:(ak q).1≠0->cW (ak q)) {i:Nat} (hi:i<(fX dY p).length):uY p (cw (fX dY p) i) q:=by
 rw[Jn hg]at hi ⊢
 by_cases h0:(ak p).1=0
 ·rw[show ji dY p=[]from if_pos h0]at hi;exact absurd hi (Nat.not_lt_zero _)
 ·have e:ji dY p=mq dY (aS (ak p)) (aQ (ak p)):=if_neg h0
  rw[e]at hi ⊢
  have hm:=Fu hi
  obtain⟨a,b⟩:=Ky hm
  obtain⟨u,v⟩:=TQ (hg h0) hm
  obtain⟨j,j1,j2⟩:=a.dz
  obtain⟨k,k1,k2⟩:=b.dz
  have a2:=j2.Iu (max j k-j)
  have b2:=k2.Iu (max j k-k)
  rw[show j+(max j k-j)=max j k by omega]at a2
  rw[show k+(max j k-k)=max j k by omega]at b2
  exact OE hp hq hg hd a2 b2 (Nat.max_le.2 ⟨j1,k1⟩) (by grind) (by grind)
end Go.Am.B
