/- brepkernelmade: Knots. -/
import Derived.Test.YtfjlccdmhpdiiaaGreatY8
import Derived.Test.YtfjlccdmhpdiiaaGreatY10
import Derived.Test.YtfjlccdmhpdiiaaGreatY7
import Derived.Test.YtfjlccdmhpdiiaaGreatY9
import Derived.Test.YtfjlccdmhpdiiaaGreatZ2
set_option linter.unusedVariables false
variable {f t v:Rat}{z:Nat->Int}{N Q a i j m q s:Nat}{l:List Rat}{K k':Nat->Rat}{X:Nat->Nat->Rat}
noncomputable section
namespace Go.Am.B
open Go Go.Am.N AV ag au IntKind Proofs.Tryz
theorem O6:aU 86 f86:=aS func86
def pK:aX:=nG::(85,jL uT)::(51,wR)::(45,uA)::l6
abbrev mC (n:Nat) (z:Nat->Int) (a:Int):aq:=ke n (fun i=>.int .i64 (z i)) a
abbrev tO (t:Rat):aq:=⟨false,true,3,1,fun _=>.rat t 64⟩
abbrev Tm (m:Nat) (k:Nat->Rat):aq:=⟨true,true,3,m,fun i=>.rat (k i) 64⟩
abbrev sY:List Nat:=[0,1,2,7,8,9]
abbrev A7 (p m:Int) (v:AV) (i:Int):List AV:=[.ptr 0 0 2 0 [],.int .i64 p,.int .i64 m,.ptr 1 0 3 0 [],v,.int .i64 i]
abbrev Av:Code:=aE f86
abbrev wN:Code:=part Av [1,1,1,1]
abbrev wv:Code:=part wN [1]
abbrev zo:List Nat:=[0,1,7,8,10]
abbrev xe:List Nat:=[0,1,7,8,11]
abbrev uh (p:Int) (l:Nat) (i:Int):List AV:=[.ptr 0 0 2 0 [],.int .i64 p,.ptr 1 0 3 0 [],.own 2 3 0 l,.int .i64 i]
abbrev nW (n:Nat) (z:Nat->Int) (a:Int) (t:Rat) (l:Nat) (k:Nat->Rat):aC:=[(2,Tm l k),(1,tO t),(0,mC n z a)]
theorem ag0 {n:Nat} {a p m:Int}:aI T pK [] 60 sY (before Av [1,1,1,0,1]) ⟨aN 0 [.ptr 0 0 2 0 [],.int .i64 p,.int .i64 m],[(0,mC n z a)],1⟩=
  let d:=(2:Int)^63;let b:=cQ n (fun i=>int i64 (z i)) a (4:Int)-2;some (aj [dz n (fun i=>int i64 (z i)) a,(0:Int)<4,(4:Int)<2^62,-d<=b/\b<d,-d<=b,b<d,(0:Nat)<1] (leaf normal ([ptr 0 0 2 0 [],int i64 p,int i64 m,ptr 20481 0 3 0 [],nil,int i64 0],[((20481:Nat),bG fun j=>if(j==0)=true then bp (rat (↑b:Rat) (Max.max 1 (bT b.natAbs)))else rat 0 1),(0,aq.mk false true 2 1 fun x=>agg [ak 1 n fun i=>int i64 (z i),int i64 (aR n a)])]))):=ah
theorem XH {n:Nat} {a p m:Int}:aI T pK [18] 60 sY [part Av [1,1,1,0,1,0,0]] ⟨aA sY (A7 p m .nil 0),[(1,tO t),(0,mC n z a)],3⟩=
  let e:=ptr 1 0 3 0 [];let d:=ptr 0 0 2 0 [];let b:List (Nat×aq):=[((1:Nat),bG fun x=>rat t 64),(0,aq.mk false true 2 1 fun x=>agg [ak 1 n fun i=>int i64 (z i),int i64 a])];some (fork (decide ((0:Int)<=p)) (aj [(0:Nat)<1,(1:Nat)*3<=2^24,(0:Nat)<1/\1*((56:Nat)+1)*2<=2^47] (aj [-(2:Int)^63<=(0:Int)+1/\(0:Int)+1<(2:Int)^63] (leaf normal ([d,int i64 p,int i64 m,e,own 24579 3 0 1,int i64 1],(24579,aq.mk true true 3 1 fun i=>nth [rat t 64] (rat 0 1) (i+0))::b)))) (leaf (exit 0) ([d,int i64 p,int i64 m,e,nil,int i64 0],b))):=ah
theorem Xi {n:Nat} {a p m:Int} {k:Nat->Rat}:aI T pK [18] 60 sY [part Av [1,1,1,0,1,0,0]] ⟨aA sY (A7 p m (.own 2 3 0 (j+1)) ((j+1:Nat):Int)),nW n z a t (j+1) k,3⟩=
  let l:=ptr 1 0 3 0 [];let h:=ptr 0 0 2 0 [];let b:=j+1;let g:List (Nat×aq):=[((1:Nat),bG fun x=>rat t 64),(0,aq.mk false true 2 1 fun x=>agg [ak 1 n fun i=>int i64 (z i),int i64 a])];let f:=b+1;let e:=(↑b:Int);let d:=e+1;some (fork (decide (e<=p)) (aj [(0:Nat)<1,(1:Nat)*3<=2^24,f*((56:Nat)+1)*2<=2^47] (aj [-(2:Int)^63<=d/\d<2^63] (leaf normal ([h,int i64 p,int i64 m,l,own 24579 3 0 f,int i64 d],(24579,aq.mk true true 3 f fun i=>if i<b then rat (k i) 64 else nth [rat t 64] (rat 0 1) (i-b+0))::g)))) (leaf (exit 0) ([h,int i64 p,int i64 m,l,own 2 3 0 b,int i64 e],(2,aq.mk true true 3 b fun i=>rat (k i) 64)::g))):=ah
theorem Vt {n:Nat} {a p m:Int} {k:Nat->Rat}:aI T pK [] 60 zo (before wN [0,1]) ⟨aA sY (A7 p m (.own 2 3 0 (j+1)) ((j+1:Nat):Int)),nW n z a t (j+1) k,3⟩=
  let b:=m+1;some (aj [-(2:Int)^63<=b/\b<2^63,dz n (fun i=>int i64 (z i)) a,(0:Int)<b,b<2^62] (leaf normal ([ptr 0 0 2 0 [],int i64 p,ptr 1 0 3 0 [],own 2 3 0 (j+1),int i64 (cQ n (fun i=>int i64 (z i)) a b)],[(2,aq.mk true true 3 (j+1) fun i=>rat (k i) 64),((1:Nat),bG fun x=>rat t 64),(0,aq.mk false true 2 1 fun x=>agg [ak 1 n fun i=>int i64 (z i),int i64 (aR n a)])]))):=ah
theorem Ym {n l:Nat} {a p i:Int} {k:Nat->Rat}:aI T pK [30,38,43,53] 60 zo [part wN [0,1,0,0]] ⟨aA zo (uh p l i),nW n z a t l k,3⟩=
  let A:=i-1;let S:=64+64+1;let w:=rat t 64;let I:=rat 0 1;let o:=aR n a;let g:=l+1;let u:=(0:Int)<3;let H:=dz n (fun i=>int i64 (z i)) a;let f:=(↑l:Int);let G:=ptr 1 0 3 0 [];let F:=ptr 0 0 2 0 [];let e:=0<1;let D:=(2:Int)^62;let s:=ak 1 n fun i=>int i64 (z i);let C:=p+1;let d:=64<2^41;let c1:=cQ n (fun i=>int i64 (z i)) a (3:Int);let b:=(2:Int)^63;let B:=aR n o;let q:=f==C;let R:=dz n (fun i=>int i64 (z i)) o;let y:=(3:Int)<D;let v:=-b<=C/\C<b;let m:=(1:Int)+c1;let P:Nat×aq:=((1:Nat),bG fun x=>w);let E:=bif false then true else decide (c1>0);let r:=[-b<=A/\A<b];let O:=(f-p).toNat+0;let N:Nat×aq:=(106499,aq.mk true true 3 g fun i=>if i<l then rat (k i) 64 else nth [w] I (i-l+0));let L:=[F,int i64 p,G,own 147459 3 0 g,int i64 A];let K:=[F,int i64 p,G,own 106499 3 0 g,int i64 A];let h:=(1:Int)+cQ n (fun i=>int i64 (z i)) o (2:Int);let X:=(1:Int)+cQ n (fun i=>int i64 (z i)) o (3:Int);let Y:=[e,(1:Nat)*3<=2^24,g*((56:Nat)+1)*2<=2^47];let U:=(↑m:Rat)/(↑h:Rat);let Q:=bif false then true else decide (t=k O);let M:List (Nat×aq):=[P,(0,aq.mk false true 2 1 fun x=>agg [s,int i64 a])];let J:=[e,-b<=f-p/\f-p<b,(0:Int)<=f-p/\(f-p).toNat<l,O<l,d,d];let W:=(1:Int)+cQ n (fun i=>int i64 (z i)) B (2:Int);let c2:ag (List AV×aC):=aj Y (aj r (leaf normal (K,[N,P,(0,aq.mk false true 2 1 fun x=>agg [s,int i64 o])])));let V:=(↑X:Rat)/(↑W:Rat);let c3:ag (List AV×aC):=aj Y (aj r (leaf normal (K,N::M)));let c:ag (List AV×aC):=aj [e,H,u,y,-b<=m/\m<b,R,(0:Int)<2,(2:Int)<D,-b<=h/\h<b,-b<=m,m<b,-b<=h,h<b,d,d,e] (aj Y (aj r (leaf normal (L,[(147459,aq.mk true true 3 g fun i=>if i<l then rat (k i) 64 else nth [rat (t+U) S] I (i-l+0)),((1:Nat),bG fun j=>if(j==0)=true then bp (kj (t,(64:Nat)) (U,(64:Nat)))else w),(0,aq.mk false true 2 1 fun x=>agg [s,int i64 B])]))));let Z:ag (List AV×aC):=aj [e,R,u,y,-b<=X/\X<b,dz n (fun i=>int i64 (z i)) B,(0:Int)<2,(2:Int)<D,-b<=W/\W<b,-b<=X,X<b,-b<=W,W<b,d,d,e] (aj Y (aj r (leaf normal (L,[(147459,aq.mk true true 3 g fun i=>if i<l then rat (k i) 64 else nth [rat (t+V) S] I (i-l+0)),((1:Nat),bG fun j=>if(j==0)=true then bp (kj (t,(64:Nat)) (V,(64:Nat)))else w),(0,aq.mk false true 2 1 fun x=>agg [s,int i64 (aR n B)])]))));some (fork (decide (i>0)) (fork q (fork true (aj [v,q=true,true=true] (fork true c c3)) (aj (v::(q=true)::(true=false)::J) (fork Q c c3))) (fork E (aj [v,q=false,H,u,y,E=true] (fork true Z c2)) (aj (v::(q=false)::H::u::y::(E=false)::J) (fork Q Z c2)))) (leaf (exit 2) ([F,int i64 p,G,own 2 3 0 l,int i64 i],(2,aq.mk true true 3 l fun i=>rat (k i) 64)::M))):=ah
theorem akc {n l:Nat} {a p i:Int} {k:Nat->Rat}:aI T pK [] 60 xe (before wv [1,0,1]) ⟨aA zo (uh p l i),nW n z a t l k,3⟩=
  let b:=Max.max 1 (bT (Int.natAbs (1:Int)));some (aj [(0:Nat)<1,-(2:Int)^63<=(1:Int),(1:Int)<2^63,(64:Nat)<2^41,b<2^41,(0:Nat)<1] (leaf normal ([ptr 0 0 2 0 [],int i64 p,ptr 1 0 3 0 [],own 2 3 0 l,int i64 0],[(2,aq.mk true true 3 l fun i=>rat (k i) 64),((1:Nat),bG fun j=>if(j==0)=true then bp (kj (t,(64:Nat)) ((↑(1:Int):Rat),b))else rat t 64),(0,aq.mk false true 2 1 fun x=>agg [ak 1 n fun i=>int i64 (z i),int i64 a])]))):=ah
theorem Xs {n l:Nat} {a p i:Int} {k:Nat->Rat}:aI T pK [72] 60 xe [part wv [1,0,1,0,0]] ⟨aA xe (uh p l i),nW n z a t l k,3⟩=
  let e:=ptr 1 0 3 0 [];let d:=ptr 0 0 2 0 [];let b:List (Nat×aq):=[((1:Nat),bG fun x=>rat t 64),(0,aq.mk false true 2 1 fun x=>agg [ak 1 n fun i=>int i64 (z i),int i64 a])];some (fork (decide (i<=p)) (aj [(0:Nat)<1,(1:Nat)*3<=2^24,(l+1)*((56:Nat)+1)*2<=2^47] (aj [-(2:Int)^63<=i+1/\i+1<(2:Int)^63] (leaf normal ([d,int i64 p,e,own 24579 3 0 (l+1),int i64 (i+1)],(24579,aq.mk true true 3 (l+1) fun i=>if i<l then rat (k i) 64 else nth [rat t 64] (rat 0 1) (i-l+0))::b)))) (leaf (exit 4) ([d,int i64 p,e,own 2 3 0 l,int i64 i],(2,aq.mk true true 3 l fun i=>rat (k i) 64)::b))):=ah
theorem U1 {n l:Nat} {a p i:Int} {k:Nat->Rat}:BT T pK [] 60 f86 [part wv [1,1]] ⟨aA xe (uh p l i),nW n z a t l k,3⟩=
  some (leaf ret ([ak 3 l fun i=>rat (k (i+0)) 64],some (aq.mk false true 2 1 fun x=>agg [ak 1 n fun i=>int i64 (z i),int i64 a]))):=ah
structure wF where
 k:Nat->Rat
 t:Rat
 a:Int
def rV (n:Nat) (f:Nat->AV) (t:Rat) (a:Int):Rat:=t+((1+cQ n f a 3:Int):Rat)/((1+cQ n f (aR n a) 2:Int):Rat)
def sC (n:Nat) (f:Nat->AV) (p j:Nat) (s:wF):wF:=
 if j=0\/0<cQ n f s.a 3\/s.t=s.k (j+1)then
  ⟨jO s.k (p+1+j) (rV n f s.t (if j=0 then s.a else aR n s.a)),rV n f s.t (if j=0 then s.a else aR n s.a),aR n (aR n (if j=0 then s.a else aR n s.a))⟩
 else⟨jO s.k (p+1+j) s.t,s.t,if j=0 then s.a else aR n s.a⟩
def qp (n:Nat) (f:Nat->AV) (p:Nat) (s0:wF):Nat->wF
 |0=>s0
 |j+1=>sC n f p j (qp n f p s0 j)
def qW (n:Nat) (f:Nat->AV) (a:Int):wF:=⟨fun _=>((cQ n f a 4-2:Int):Rat),((cQ n f a 4-2:Int):Rat),aR n (aR n a)⟩
def iA (n:Nat) (f:Nat->AV) (a:Int) (m:Nat):Nat:=(cQ n f (aR n a) (m+1)).toNat
def A3 (n:Nat) (f:Nat->AV) (a:Int) (p m:Nat):wF:=qp n f p (qW n f a) (iA n f a m)
def jw (n:Nat) (f:Nat->AV) (a:Int) (p m:Nat):Nat:=2*p+2+iA n f a m
def jD (n:Nat) (f:Nat->AV) (a:Int) (p m:Nat):Nat->Rat:=nE p (iA n f a m) (A3 n f a p m).k (A3 n f a p m).t
def fX (n:Nat) (f:Nat->AV) (a:Int) (p m:Nat):Int:=(A3 n f a p m).a
theorem tr {n:Nat} {f:Nat->AV} {a:Int} {p:Nat} (hd:dz n f a) (hp:1<=p):∀j,KG p j (qp n f p (qW n f a) j).k (qp n f p (qW n f a) j).t/\dz n f (qp n f p (qW n f a) j).a
 |0=>by
  have h1:=gM (n:=n) (f:=f) (a:=a) (m:=4) aa;have h2:=gR (n:=n) (f:=f) (a:=a) (m:=4) aa;exact⟨KG.start hp aa aa,hd.next.next⟩
 |j+1=>by
  obtain⟨h1,h2⟩:=tr hd hp j;unfold qp sC rV;generalize qp n f p (qW n f a) j=s at*;obtain⟨k,t,b⟩:=s;simp only at h1 h2 ⊢;have hb:dz n f (if j=0 then b else aR n b):=by split;exact h2;exact h2.next
  generalize (if j=0 then b else aR n b)=a1 at*;split
  ·have x1:=gM (n:=n) (f:=f) (a:=a1) (m:=3) aa;have x2:=gR (n:=n) (f:=f) (a:=a1) (m:=3) aa;have y1:=gM (n:=n) (f:=f) (a:=aR n a1) (m:=2) aa;have y2:=gR (n:=n) (f:=f) (a:=aR n a1) (m:=2) aa;refine⟨h1.next (.inl ?_),hb.next.next⟩;generalize cQ n f a1 3=x at*;generalize cQ n f (aR n a1) 2=y at*;have key:∃z:Int,((1+x:Int):Rat)/((1+y:Int):Rat)=(z:Rat)/2/\1<=z/\z<=6:=by
    rcases(show y=0\/y=1 by omega)with h|h
    ·subst h;refine⟨2*(1+x),?_,aa,aa⟩;have:((2*(1+x):Int):Rat)=2*((1+x:Int):Rat):=by simp
     rw[this];generalize ((1+x:Int):Rat)=w;simp;grind
    ·subst h;exact⟨1+x,by simp,aa,aa⟩
   obtain⟨z,e,z1,z2⟩:=key;rw[e];refine⟨?_,z,rfl,z2⟩;have:(1:Rat)<=(z:Rat):=by exact_mod_cast z1
   grind
  ·rename_i hc;have hc1:¬j=0:=fun h=>hc (.inl h);have hc2:¬t=k (j+1):=fun h=>hc (.inr (.inr h));exact⟨h1.next (.inr ⟨rfl,aa,hc2⟩),hb⟩
theorem Mx {z:Int} (h1:-2^63<=z) (h2:z<2^63):Sz ((z:Rat)/2) 64:=by
 have:=IA h1 h2 (y:=2) aa aa aa;simpa using this
theorem KG.sz {p:Nat} {k:Nat->Rat} (h:KG p j k t) (hj:j<2^50):Sz t 64:=by
 obtain⟨z,e,h1,h2⟩:=h.half (p+j) bq;rw[h.top]at e;rw[e];exact Mx aa aa
theorem S9 {J:Nat} (h:j<J):((J-j:Nat):Int)-1=((J-(j+1):Nat):Int):=aa
theorem GI {rl:List (Nat×Nat)} {l:Nat} {k:Nat->Rat} (hk:k'=jO k l t) (ht:Sz t 64) (hi:i<l+1):gD rl (if i<l then .rat (k i) 64 else nth [.rat t s] (.rat 0 1) (i-l+0)) (.rat (k' i) 64):=by
 subst hk;by_cases h:i<l
 ·rw[if_pos h,jT aa];exact cW rfl rfl
 ·have:i=l:=aa;subst this;rw[if_neg h,oS,Nat.sub_self];exact .inr ⟨rfl,dB rfl ht⟩
theorem Dv:bn P pK:=cB (aH Di (aH Bx (aH yx ng)))
theorem S4 {k n p:Nat} {a:Int} {o:aq} (ho:∀ρ,dH ρ o (mC n z a)) (h:dz n (fun i=>.int .i64 (z i)) a) (hp:1<=p) (hp2:p<1000) (hm2:m<1000) (K:Nat):
  aQ P 86 K [.ptr k 0 2 0 [],.int .i64 p,.int .i64 m] [(k,o)] ⟨bu (jD n (fun i=>.int .i64 (z i)) a p m) (jw n (fun i=>.int .i64 (z i)) a p m) 64,[(k,mC n z (fX n (fun i=>.int .i64 (z i)) a p m))],[]⟩:=by
 refine JF hT O6 rfl rfl aV ho (fun _ c hk=>?_) K;have a1:=gM (n:=n) (f:=fun i=>.int .i64 (z i)) (a:=a) (m:=4) aa;have a2:=gR (n:=n) (f:=fun i=>.int .i64 (z i)) (a:=a) (m:=4) aa;have b1:=gM (n:=n) (f:=fun i=>.int .i64 (z i)) (a:=aR n a) (m:=m+1) aa;have b2:=gR (n:=n) (f:=fun i=>.int .i64 (z i)) (a:=aR n a) (m:=m+1) aa;have hS:=tr h hp;unfold fX jD jw A3 at*;obtain⟨J,hJ⟩:∃J,J=iA n (fun i=>.int .i64 (z i)) a m:=⟨_,rfl⟩
 have hJ2:cQ n (fun i=>.int .i64 (z i)) (aR n a) (m+1)=(J:Int):=by rw[hJ];unfold iA;omega
 rw[<-hJ]at*;have hJ3:J<1000:=aa;obtain⟨S,hSd⟩:∃S,S=qp n (fun i=>.int .i64 (z i)) p (qW n (fun i=>.int .i64 (z i)) a):=⟨_,rfl⟩
 have h00:S 0=qW n (fun i=>.int .i64 (z i)) a:=by rw[hSd];rfl
 have hS1:∀j,S (j+1)=sC n (fun i=>.int .i64 (z i)) p j (S j):=fun j=>by rw[hSd];rfl
 rw[<-hSd]at hS ⊢;clear hSd hJ;obtain⟨t0,ht0⟩:∃t0:Rat,t0=((cQ n (fun i=>.int .i64 (z i)) a 4-2:Int):Rat):=⟨_,rfl⟩
 unfold qW at h00;rw[<-ht0]at h00;have hs0:Sz t0 64:=by have:=(hS 0).1.sz aa;rw[h00]at this;exact this
 refine ax.mY hT Dv hm [1,1,1,0,1] (i:=0) (y:=part Av [1,1,1,0,1,0,0]) (z:=wN) ah ah ah O6.dst hk (f1:=[]) (f2:=[18]) 60 sY 3
  (fun j:Nat=>A7 p m (match j with
   |0=>.nil
   |_+1=>.own 2 3 0 j) j) (fun j=>match j with
   |0=>[(1,tO t0),(0,mC n z (aR n a))]
   |_+1=>nW n z (aR n a) t0 j (fun _=>t0)) (fun j=>j<=p+1) (fun j=>j=p+1) (fun j=>p+1-j) (fun _=>False) ⟨_,ag0,?_⟩ (fun j hj=>?_) (fun j hj=>?_) (fun _ _ h=>h.elim)
 ·simp only[ag.all,ay];refine⟨⟨h,aa,aa,aa,aa,aa,aa⟩,0,aa,[(0,0),(1,20481)],rfl,rfl,rfl,cP rfl rfl (.inr ⟨rfl,?_⟩) (aL trivial)⟩;rw[<-ht0];exact dB rfl hs0
 ·cases j with
  |zero=>
   refine⟨_,XH,?_⟩;simp only[ag.all,ay,br,bC];refine⟨fun _=>⟨aa,aa,1,aa,by dsimp only;omega,[(0,0),(1,1),(2,24579)],rfl,rfl,rfl,cj rfl rfl rfl (fun i hi=>?_) (aL (aL trivial))⟩,fun h=>aa⟩;have:i=0:=aa;subst this;exact cW rfl rfl
  |succ j=>
   refine⟨_,Xi,?_⟩;simp only[ag.all,ay,br,bC];refine⟨fun _=>⟨aa,aa,j+2,aa,by dsimp only;omega,[(0,0),(1,1),(2,24579)],rfl,rfl,rfl,cj rfl rfl rfl (fun i hi=>GI (by funext i;unfold jO;split<;>rfl) hs0 hi) (aL (aL trivial))⟩,
    fun _=>⟨rfl,j+1,aa,[(0,0),(1,1),(2,2)],rfl,rfl,rfl,cj rfl rfl rfl (fun i hi=>cW rfl rfl) (aL (aL trivial))⟩⟩
 subst hj;refine ax.mY hT Dv hm [0,1] (i:=2) (y:=part wN [0,1,0,0]) (z:=wv) ah ah ah ah hk (f1:=[]) (f2:=[30,38,43,53]) 60 zo 3
  (fun j:Nat=>uh p (p+1+j) ((J-j:Nat):Int)) (fun j=>nW n z (S j).a (S j).t (p+1+j) (S j).k) (fun j=>j<=J) (fun j=>j=J) (fun j=>J-j) (fun _=>False) ⟨_,Vt,?_⟩ (fun j hj=>?_) (fun j hj=>?_) (fun _ _ h=>h.elim)
 ·simp only[ag.all,ay];rw[hJ2];refine⟨⟨aa,h.next,aa,aa⟩,0,aa,[(0,0),(1,1),(2,2)],rfl,rfl,rfl,?_⟩;dsimp only;rw[h00];exact cj rfl rfl rfl (fun i hi=>cW rfl rfl) (aL (aL trivial))
 ·refine⟨_,Ym,?_⟩;have hj1:=hS1 j;obtain⟨hg,hd⟩:=hS j;have hs1:∀{j},j<2000->Sz (S j).t 64:=fun hj=>(hS _).1.sz aa;have hsj:=hs1 (j:=j) aa;have hsj1:=hs1 (j:=j+1) aa;have e1:(((p+1+j:Nat):Int)-(p:Int)).toNat+0=j+1:=aa;simp only[ag.all,ay,br,bC,beq_iff_eq,beq_eq_false_iff_ne,e1,cond_false];have v3:=fun a=>And.intro (gM (n:=n) (f:=fun i=>.int .i64 (z i)) (a:=a) (m:=3) aa) (gR (n:=n) (f:=fun i=>.int .i64 (z i)) (a:=a) (m:=3) aa);have v2:=fun a=>And.intro (gM (n:=n) (f:=fun i=>.int .i64 (z i)) (a:=a) (m:=2) aa) (gR (n:=n) (f:=fun i=>.int .i64 (z i)) (a:=a) (m:=2) aa);have q1:=v3 (S j).a;have q2:=v3 (aR n (S j).a);have q3:=v2 (aR n (S j).a);have q4:=v2 (aR n (aR n (S j).a));refine⟨fun hi=>?_,fun hi=>⟨rfl,j,aa,[(0,0),(1,1),(2,2)],rfl,rfl,rfl,cj rfl rfl rfl (fun i hi=>cW rfl rfl) (aL (aL trivial))⟩⟩;have hlt:j<J:=aa;have fin:∀(key:Nat) (t:Rat) (s s2:Nat) (b:Int) (g:Nat->AV),S (j+1)=⟨jO (S j).k (p+1+j) t,t,b⟩->g 0=.rat t s2->(jb 3 [(0,0),(1,1),(2,key)])=true->(key==1)=false->(key==0)=false->
    Round [0] (fun j=>uh p (p+1+j) ((J-j:Nat):Int)) (fun j=>nW n z (S j).a (S j).t (p+1+j) (S j).k) 3 (fun j=>j<=J) (fun j=>j=J) (fun j=>J-j) 2 (fun _=>False) j normal
     ([ptr 0 0 2 0 [],int i64 p,ptr 1 0 3 0 [],own key 3 0 (p+1+j+1),int i64 (((J-j:Nat):Int)-1)],[(key,⟨true,true,3,p+1+j+1,fun i=>if i<p+1+j then .rat ((S j).k i) 64 else nth [.rat t s] (.rat 0 1) (i-(p+1+j)+0)⟩),(1,⟨false,true,3,1,g⟩),(0,mC n z b)]):=by
   intro key t s s2 b g e1 e2 e3 hk1 hk0;rw[e1]at hsj1;refine⟨j+1,aa,by dsimp only;omega,[(0,0),(1,1),(2,key)],by rw[e3];rfl,by rw[S9 hlt];rfl,rfl,?_⟩;dsimp only;rw[e1];exact cj rfl qa rfl (fun i hi=>GI rfl hsj1 hi) (cP rfl ((Kh hk1).trans rfl) (.inr ⟨by rw[e2];rfl,by rw[e2];exact dB rfl hsj1⟩) (cP rfl ((Kh hk0).trans rfl) (cW rfl rfl) trivial))
  refine⟨fun hl=>?_,fun hl=>⟨fun hc=>?_,fun hc=>?_⟩⟩
  all_goals (repeat' with_reducible first|refine And.intro ?_ ?_|intro _)
  all_goals first|omega|exact hd|exact hd.next|exact hd.next.next|skip
  all_goals try exact absurd ‹true=false› (by decide)
  ·refine fin 147459 _ _ _ _ _ ?_ rfl rfl rfl rfl;rw[hj1];unfold sC rV;have hj0:j=0:=aa;rw[if_pos (.inl hj0),if_pos hj0]
  ·refine fin 147459 _ _ _ _ _ ?_ rfl rfl rfl rfl;rw[hj1];unfold sC rV;have hj0:j≠0:=aa;rw[if_pos (.inr (.inl hc)),if_neg hj0]
  ·refine fin 147459 _ _ _ _ _ ?_ rfl rfl rfl rfl;rw[hj1];unfold sC rV;have hj0:j≠0:=aa;rename_i hk;rw[if_pos (.inr (.inr hk)),if_neg hj0]
  ·refine fin 106499 _ _ _ _ _ ?_ rfl rfl rfl rfl;rw[hj1];unfold sC rV;have hj0:j≠0:=aa;rename_i hk;rw[if_neg (by simp only[hj0,hk,or_false,false_or];omega),if_neg hj0]
 subst hj;have hs1:Sz ((S j).t+1) 64:=by
  obtain⟨z,e,h1,h2⟩:=(hS j).1.HZ (p+1+j);unfold nE at e;rw[if_neg aa]at e;rw[e];exact Mx aa aa
 refine ax.mY hT Dv hm [1,0,1] (i:=4) (y:=part wv [1,0,1,0,0]) (z:=part wv [1,1]) ah ah ah ah hk (f1:=[]) (f2:=[72]) 60 xe 3
  (fun i:Nat=>uh p (p+1+j+i) i) (fun i=>nW n z (S j).a ((S j).t+1) (p+1+j+i) (nE p j (S j).k (S j).t)) (fun i=>i<=p+1) (fun i=>i=p+1) (fun i=>p+1-i) (fun _=>False) ⟨_,akc,?_⟩ (fun i hi=>?_) (fun i hi=>?_) (fun _ _ h=>h.elim)
 ·simp only[ag.all,ay];refine⟨⟨aa,aa,aa,aa,by decide,aa⟩,0,aa,[(0,0),(1,1),(2,2)],rfl,rfl,rfl,cj rfl rfl rfl (fun i hi=>?_) (cP rfl rfl (.inr ⟨rfl,dB rfl hs1⟩) (aL trivial))⟩;refine cW rfl ?_;unfold nE;rw[if_pos aa]
 ·refine⟨_,Xs,?_⟩;simp only[ag.all,ay,br,bC];refine⟨fun _=>⟨aa,aa,i+1,aa,by dsimp only;omega,[(0,0),(1,1),(2,24579)],rfl,rfl,rfl,cj rfl rfl rfl (fun i hi=>GI ?_ hs1 hi) (aL (aL trivial))⟩,
   fun _=>⟨rfl,i,aa,[(0,0),(1,1),(2,2)],rfl,rfl,rfl,cj rfl rfl rfl (fun i hi=>cW rfl rfl) (aL (aL trivial))⟩⟩
  funext x;unfold jO nE;split
  ·rename_i hx;rw[if_neg aa]
  ·split<;>rfl
 ·subst hi;refine ax.hH (aG.RF hT Dv hm 60 U1 ah ⟨?_,_,rfl,rfl,pD rfl rfl⟩);exact tw aa fun _ _=>rfl
def F7 (n:Nat) (f:Nat->AV) (a:Int) (l:List AV):Option (AV×Int×List Prop):=match l with
 |[.int .i64 p,.int .i64 m]=>some (bu (jD n f a p.toNat m.toNat) (jw n f a p.toNat m.toNat) 64,fX n f a p.toNat m.toNat,[1<=p,p<1000,0<=m,m<1000])
 |_=>none
theorem afA:aW P (jL F7) 86:=by
 refine vX fun {k n z a l v b q o} K hg ho hd hq=>?_;unfold F7 at hg;split at hg
 ·rename_i p m;simp only[az,Prod.mk.injEq]at hg;obtain⟨rfl,rfl,rfl⟩:=hg;obtain⟨h1,h2,h3,h4⟩:=hq;have h4:m<1000:=h4;have:=S4 (k:=k) (p:=p.toNat) (m:=m.toNat) ho hd aa aa aa K;rw[Int.toNat_of_nonneg aa,Int.toNat_of_nonneg h3]at this;exact this
 ·simp at hg
def vF:aX:=[sG,(189,Fy)]
def Sl:Spec:=ck fun l=>match l with
 |[.mag 1]=>some (aJ (.str [49]) [])
 |[.mag 2]=>some (aJ (.str [50]) [])
 |[.mag 3]=>some (aJ (.str [51]) [])
 |[.mag 4]=>some (aJ (.str [52]) [])
 |_=>none
def CX:aX:=[sG,(129,Sl)]
theorem aaS:bX T vF [] 60 f129 (aE f129) ⟨aN 0 [.mag 1],[],0⟩=
  let a:=(↑(1:Nat):Int);some (aj [nl 1<2^40,(0:Int)<1000000000,(1000000000:Int)<2^32] (aj [(10:Int)≠(0:Int),(0:Nat)<1/\1*((1:Nat)+1)*2<=2^47] (aj [(10:Int)≠(0:Int)] (aj [(0:Int)<=a/\a<=a/\a<=2^47/\a*a<=2^47] (leaf ret [str [UInt8.ofNat (u8.wrap (u32.wrap ((48:Int)+(↑((1:Nat)%Int.toNat (1000000000:Int)):Int).tmod (10:Int)))).toNat]]))))):=ah
theorem SN:bX T vF [] 60 f129 (aE f129) ⟨aN 0 [.mag 2],[],0⟩=
  let a:=(↑(1:Nat):Int);some (aj [nl 2<2^40,(0:Int)<1000000000,(1000000000:Int)<2^32] (aj [(10:Int)≠(0:Int),(0:Nat)<1/\1*((1:Nat)+1)*2<=2^47] (aj [(10:Int)≠(0:Int)] (aj [(0:Int)<=a/\a<=a/\a<=2^47/\a*a<=2^47] (leaf ret [str [UInt8.ofNat (u8.wrap (u32.wrap ((48:Int)+(↑((2:Nat)%Int.toNat (1000000000:Int)):Int).tmod (10:Int)))).toNat]]))))):=ah
theorem ak8:bX T vF [] 60 f129 (aE f129) ⟨aN 0 [.mag 3],[],0⟩=
  let a:=(↑(1:Nat):Int);some (aj [nl 3<2^40,(0:Int)<1000000000,(1000000000:Int)<2^32] (aj [(10:Int)≠(0:Int),(0:Nat)<1/\1*((1:Nat)+1)*2<=2^47] (aj [(10:Int)≠(0:Int)] (aj [(0:Int)<=a/\a<=a/\a<=2^47/\a*a<=2^47] (leaf ret [str [UInt8.ofNat (u8.wrap (u32.wrap ((48:Int)+(↑((3:Nat)%Int.toNat (1000000000:Int)):Int).tmod (10:Int)))).toNat]]))))):=ah
theorem UX:bX T vF [] 60 f129 (aE f129) ⟨aN 0 [.mag 4],[],0⟩=
  let a:=(↑(1:Nat):Int);some (aj [nl 4<2^40,(0:Int)<1000000000,(1000000000:Int)<2^32] (aj [(10:Int)≠(0:Int),(0:Nat)<1/\1*((1:Nat)+1)*2<=2^47] (aj [(10:Int)≠(0:Int)] (aj [(0:Int)<=a/\a<=a/\a<=2^47/\a*a<=2^47] (leaf ret [str [UInt8.ofNat (u8.wrap (u32.wrap ((48:Int)+(↑((4:Nat)%Int.toNat (1000000000:Int)):Int).tmod (10:Int)))).toNat]]))))):=ah
theorem TB:bX T CX [] 60 f47 (aE f47) ⟨aN 0 [.agg [.bool false,.mag 1,.mag 4]],[],0⟩=
  some (leaf ret [str [(49:UInt8),(47:UInt8),(52:UInt8)]]):=ah
theorem adV:bn P vF:=kq (aH Ru bw)
theorem adg:aW P Sl 129:=by
 refine cK fun K args r hk hs _=>?_;have fin:∀{N:Nat} {t:ag (List AV)} {l:List UInt8},bX T vF [] 60 f129 (aE f129) ⟨aN 0 [.mag N],[],0⟩=some t->(t.all fun _ us=>fF us (.str l))->aQ P 129 K [.mag N] [] (aJ (.str l) []):=fun h1 h2=>
  b9 (r:=aJ _ []) hT adV hm T3 rfl aV rfl 60 h1 (fun _=>h2) K []
 split at hs<;>simp only[az,reduceCtorEq]at hs
 all_goals subst hs
 ·exact fin aaS (by simp only[ag.all,ay];exact⟨by decide,by decide,by decide,by decide,.refl _⟩)
 ·exact fin SN (by simp only[ag.all,ay];exact⟨by decide,by decide,by decide,by decide,.refl _⟩)
 ·exact fin ak8 (by simp only[ag.all,ay];exact⟨by decide,by decide,by decide,by decide,.refl _⟩)
 ·exact fin UX (by simp only[ag.all,ay];exact⟨by decide,by decide,by decide,by decide,.refl _⟩)
theorem Ut:bn P CX:=kq (aH adg bw)
theorem Kn.congr {n p:Nat} {k:Nat->Rat} (h:Kn n p k) (e:∀i,i<n->k i=k' i):Kn n p k':=by
 have hp:=h.p1;have hl:=h.len;refine⟨h.p1,h.len,fun i hi=>?_,fun i hi=>?_,fun i h1 h2=>?_,fun i h1 h2=>?_⟩
 ·rw[<-e i aa,<-e (i+1) hi];exact h.sorted i hi
 ·rw[<-e i aa,<-e 0 aa];exact h.first i hi
 ·rw[<-e i h2,<-e (n-1) aa];exact h.last i h1 h2
 ·rw[<-e i aa,<-e (i+p) aa];exact h.mult i h1 h2
theorem U7:aU 87 f87:=aS func87
def KJ:aX:=[(85,jL uT),(84,jL Gi),(51,wR)]
def oW (n:Nat) (f:Nat->AV) (a:Int) (b:Bool):Pl:=⟨⟨gG n f a,gG n f (gZ n f a),if b=true then 0 else gG n f (gZ n f (gZ n f a))⟩,((1+cQ n f (jv n f a) 3:Int):Rat)⟩
def Hu (n:Nat) (f:Nat->AV) (a:Int):Int:=aR n (jv n f a)
def GB (n:Nat) (f:Nat->AV) (a:Int) (l:List AV):Option (AV×Int×List Prop):=match l with
 |[.bool b]=>some (bH (oW n f a b) 64,Hu n f a,[])
 |_=>none
theorem acT {n:Nat} {a:Int} {b:Bool}:uL T KJ [8] 60 f87 (aE f87) ⟨aN 0 [.ptr 0 0 2 0 [],.bool b],[(0,mC n z a)],1⟩=
  let m:=gZ n (fun i=>int i64 (z i)) a;let l:=rat (gG n (fun i=>int i64 (z i)) a) 64;let f:=jv n (fun i=>int i64 (z i)) a;let d:=0<1;let j:=rat (gG n (fun i=>int i64 (z i)) m) 64;let h:Option aq:=some (aq.mk false true 2 1 fun x=>agg [ak 1 n fun i=>int i64 (z i),int i64 (aR n f)]);let e:=i64.wrap ((1:Int)+(cQ n (fun i=>int i64 (z i)) f (3:Int)).tmod (3:Int));let k:=rat (↑e:Rat) (Max.max 1 (bT e.natAbs));let g:=[d,dz n (fun i=>int i64 (z i)) f,(0:Int)<3,(3:Int)<2^62,(3:Int)≠(0:Int),-(2:Int)^63<=e,e<2^63,d];some (aj [dz n (fun i=>int i64 (z i)) a,d] (fork b (aj [(0:Int)<=2/\(2:Int)<(↑(3:Nat):Int),d] (aj g (aj [d] (leaf ret ([agg [agg [l,j,agg [AV.bool false,mag 0,mag 0]],k]],h))))) (aj g (aj [d] (leaf ret ([agg [agg [l,j,rat (gG n (fun i=>int i64 (z i)) (gZ n (fun i=>int i64 (z i)) m)) 64],k]],h)))))):=ah
theorem Xd:bn P KJ:=aH Di (aH aiu (aH Bx bw))
theorem ab4:aW P (jL GB) 87:=by
 refine vX fun {k n z a l v b q o} K hg ho hd hq=>?_;unfold GB at hg;split at hg
 ·rename_i b;simp only[az,Prod.mk.injEq]at hg;obtain⟨rfl,rfl,rfl⟩:=hg;refine CA hT Xd hm U7 rfl rfl aV ho 60 acT (fun _=>?_) K;have a1:=gM (n:=n) (f:=fun i=>.int .i64 (z i)) (a:=jv n (fun i=>.int .i64 (z i)) a) (m:=3) aa;have a2:=gR (n:=n) (f:=fun i=>.int .i64 (z i)) (a:=jv n (fun i=>.int .i64 (z i)) a) (m:=3) aa;unfold oW;generalize cQ n (fun i=>.int .i64 (z i)) (jv n (fun i=>.int .i64 (z i)) a) 3=x at*;have e1:x.tmod 3=x:=by rw[Int.tmod_eq_of_lt a1 a2]
  have e2:i64.wrap (1+x)=1+x:=wrap_i64 aa aa;simp only[ag.all,ay,e1,e2];have hw:bV (.rat ((1+x:Int):Rat) (max 1 (bT (1+x).natAbs))) (.rat ((1+x:Int):Rat) 64):=dB rfl (Oz (y:=0) aa aa);refine⟨⟨hd,aa⟩,fun hb=>⟨aa,⟨aa,hd.AY,aa,aa,aa,aa,aa,aa⟩,aa,?_,_,rfl,rfl,pD rfl rfl⟩,fun hb=>⟨⟨aa,hd.AY,aa,aa,aa,aa,aa,aa⟩,aa,?_,_,rfl,rfl,pD rfl rfl⟩⟩
  ·rw[if_pos hb];exact cM ⟨cM ⟨.refl _,.refl _,tX (q:=(0:Rat)) ⟨by decide,by decide⟩ rfl rfl rfl,trivial⟩,hw,trivial⟩
  ·rw[if_neg (by rw[hb];decide)];exact cM ⟨.refl _,hw,trivial⟩
 ·simp at hg
def jU (n:Nat) (f:Nat->AV) (a:Int):Nat->Int
 |0=>a
 |j+1=>Hu n f (jU n f a j)
theorem dz.zJ {n:Nat} {f:Nat->AV} {a:Int} (h:dz n f a):∀j,dz n f (jU n f a j)
 |0=>h
 |j+1=>(h.zJ j).AY.next
theorem dz.gb {n:Nat} {f:Nat->AV} {a:Int} {p:Nat} (h:dz n f a) (hp:1<=p):dz n f (fX n f a p m):=(tr h hp _).2
theorem wu {n:Nat} {f:Nat->AV} {a:Int}:iA n f a m<=m:=by
 have h1:=gM (n:=n) (f:=f) (a:=aR n a) (m:=m+1) aa;have h2:=gR (n:=n) (f:=f) (a:=aR n a) (m:=m+1) aa;unfold iA;omega
def KX:aX:=[(208,iR T (sG::qV) [] 60 f208)]
def OJ:aX:=[(161,iR T (sG::KX) [] 60 f161)]
def Sg:aX:=[(69,iR T (sG::qV) [] 60 f69)]
theorem ab3:bn P KX:=aH (je hT (kq tV) hm (aS func208) _ _) bw
theorem Wq:bn P OJ:=aH (je hT (kq ab3) hm (aS func161) _ _) bw
theorem alG:bn P Sg:=aH (je hT (kq tV) hm (aS func69) _ _) bw
theorem aj5:aU 96 f96:=aS func96
theorem FY:aU 95 f95:=aS func95
theorem R5:aU 27 f27:=aS func27
theorem XY:aU 39 f39:=aS func39
theorem aaM:aU 16 f16:=aS func16
structure gI (s:Sf):Prop where
 ku:∀i,i<s.a->Sz (s.ku i) 2000
 kv:∀i,i<s.b->Sz (s.kv i) 2000
 x:∀i j,i<s.n->j<s.m->Sz (s.f i j).n.x 2000
 y:∀i j,i<s.n->j<s.m->Sz (s.f i j).n.y 2000
 z:∀i j,i<s.n->j<s.m->Sz (s.f i j).n.z 2000
 d:∀i j,i<s.n->j<s.m->Sz (s.f i j).d 2000
theorem gI.up {s:Sf} {x y:Nat} (h:gI s):bV (bM s x y) (bM s 2000 2000):=
 cM ⟨.refl _,.refl _,fI fun i hi=>dB rfl (h.ku i hi),fI fun i hi=>dB rfl (h.kv i hi),fI fun i hi=>fI fun j hj=>cM ⟨cM ⟨dB rfl (h.x i j hi hj),dB rfl (h.y i j hi hj),dB rfl (h.z i j hi hj),trivial⟩,dB rfl (h.d i j hi hj),trivial⟩,trivial⟩
theorem gI.swap {s:Sf} (h:gI s):gI (dc s):=⟨h.kv,h.ku,fun i j a b=>h.x j i b a,fun i j a b=>h.y j i b a,fun i j a b=>h.z j i b a,fun i j a b=>h.d j i b a⟩
def Kk:aX:=sG::(OJ++qV)
def Qk:Spec:=cz (kC (Jm 2000) kN) (fun a=>bH a.1 2100) fun _=>[]
def qA:aX:=nG::(96,Qk)::(116,AQ 2000 2100)::[]
abbrev pE:List Nat:=[4,5,1,23,24,25]
abbrev uv (s:Sf) (i:Nat):List AV:=[.ptr 0 0 5 0 [],.ptr 1 0 5 0 [],.func 96 [],fK s.f s.n s.m 2000,.int .i64 s.n,.int .i64 i]
abbrev yW:List Nat:=[4,5,1,23,24,25,8,29,30,31]
abbrev Gx (s:Sf) (i j:Nat):List AV:=[.ptr 0 0 5 0 [],.ptr 1 0 5 0 [],.func 96 [],fK s.f s.n s.m 2000,.int .i64 s.n,.int .i64 i,.own 3 12 0 j,aT (s.f i) s.m 2000,.int .i64 s.m,.int .i64 j]
abbrev tR (s:Sf) (i:Nat):aC:=[(2,⟨true,true,1,i,fun i=>aT (s.f i) s.m 2100⟩),(1,⟨false,true,5,1,fun _=>.agg [.int .i64 s.u,.int .i64 s.v,bu s.ku s.a 2100,bu s.kv s.b 2100,.own 2 1 0 i]⟩),(0,⟨false,true,5,1,fun _=>.agg [.int .i64 0,.int .i64 0,.nil,.nil,.nil]⟩)]
abbrev EW (s:Sf) (i j:Nat):aC:=(3,⟨true,true,12,j,fun j=>bH (s.f i j) 2100⟩)::tR s i
abbrev qM:Code:=aE f95
abbrev Au:Code:=part qM [1,1,0,1,0,0]
abbrev yM:Code:=part Au [1,1,0,0]
def Mc:Spec:=cz (kC (gh 2000 2000) (kC (kF 96) kN)) (fun a=>bM a.1 2100 2100) fun a=>[a.1.a<2^28,a.1.b<2^28,a.1.n<2^28,a.1.m<2^28]
def Cx:aX:=nG::(93,HD)::(95,Mc)::(97,Dh)::[]
def Bz:Spec:=cz (kC (gh 2000 2000) kN) (fun a=>bM (dc a.1) 2000 2000) fun a=>[a.1.n=0->a.1.m=0,a.1.a<2^28,a.1.b<2^28,a.1.n<2^28,a.1.m<2^28,gI a.1]
def Qh:aX:=nG::(27,Bz)::(38,F4)::[]
theorem aaq {p:Pl}:bX T Kk [] 60 f96 (aE f96) ⟨aN 0 [bH p 2000],[],0⟩=
  let a:=0<1;some (aj [a,a] (aj [a] (leaf ret [agg [agg [rat (p.n.x+0) 2002,rat (p.n.y+0) 2002,rat (p.n.z+0) 2002],rat (p.d+0) 2002]]))):=ah
theorem aa5 {s:Sf}:aI T qA [] 60 pE (before qM [1,1,0,1]) ⟨aN 0 [bM s 2000 2000,.func 96 []],[],0⟩=
  let h:=int i64 0;let k:=2000+10<=2100;let e:=2^40;let d:=0<1;let g:=agg [h,h,nil,nil,nil];some (aj [d,d,d,bh (fun i=>rat (s.ku i) 2000) s.a 2000,k,(2100:Nat)<e,s.a<e,d,bh (fun i=>rat (s.kv i) 2000) s.b 2000,k,(2100:Nat)<e,s.b<e,d] (aj [d] (leaf normal ([ptr 4096 0 5 0 [],ptr 53248 0 5 0 [],func 96 [],ak 1 s.n fun i=>ak 12 s.m fun i_1=>bH (s.f i i_1) 2000,int i64 (↑s.n:Int),h],[(53248,aq.mk false true 5 1 fun j=>if(j==0)=true then bp (agg ((((g.kids.set 0 (bp (int i64 s.u))).set 1 (bp (int i64 s.v))).set 2 (bp (bu (fun i=>aF (rat (s.ku i) 2000)) s.a 2100))).set 3 (bp (bu (fun i=>aF (rat (s.kv i) 2000)) s.b 2100))))else g),(4096,aq.mk false true 5 1 fun x=>g)])))):=ah
theorem V0 {s:Sf}:aI T qA [26] 60 pE (before Au [1,1,0]) ⟨aA pE (uv s i),tR s i,3⟩=
  let d:List AV×aC:=([ptr 0 0 5 0 [],ptr 1 0 5 0 [],func 96 [],ak 1 s.n fun i=>ak 12 s.m fun i_1=>bH (s.f i i_1) 2000,int i64 (↑s.n:Int),int i64 (↑i:Int)],[(2,aq.mk true true 1 i fun i=>ak 12 s.m fun i_1=>bH (s.f i i_1) 2100),(1,aq.mk false true 5 1 fun x=>agg [int i64 s.u,int i64 s.v,ak 3 s.a fun i=>rat (s.ku i) 2100,ak 3 s.b fun i=>rat (s.kv i) 2100,own 2 1 0 i]),(0,aq.mk false true 5 1 fun x=>agg [int i64 0,int i64 0,nil,nil,nil])]);some (fork (decide ((↑i:Int)<(↑s.n:Int))) (leaf normal d) (leaf (exit 0) d)):=ah
theorem abP {s:Sf}:aI T qA [] 60 yW (before yM [1,1,0,1]) ⟨aA pE (uv s i),tR s i,3⟩=
  let d:=int i64 0;let e:=(↑i:Int).toNat;some (aj [(0:Int)<=(↑i:Int)/\e<s.n] (leaf normal ([ptr 0 0 5 0 [],ptr 1 0 5 0 [],func 96 [],ak 1 s.n fun i=>ak 12 s.m fun i_1=>bH (s.f i i_1) 2000,int i64 (↑s.n:Int),int i64 (↑i:Int),nil,ak 12 s.m fun i=>bH (s.f e i) 2000,int i64 (↑s.m:Int),d],[(2,aq.mk true true 1 i fun i=>ak 12 s.m fun i_1=>bH (s.f i i_1) 2100),(1,aq.mk false true 5 1 fun x=>agg [int i64 s.u,int i64 s.v,ak 3 s.a fun i=>rat (s.ku i) 2100,ak 3 s.b fun i=>rat (s.kv i) 2100,own 2 1 0 i]),(0,aq.mk false true 5 1 fun x=>agg [d,d,nil,nil,nil])]))):=ah
theorem aj7 {s:Sf}:aI T qA [32] 60 yW [part yM [1,1,0,1,0,0]] ⟨aA yW (Gx s i j),EW s i j,4⟩=
  let h:=2000<=2000;let d:=(↑s.m:Int);let t:=ptr 1 0 5 0 [];let r:=ptr 0 0 5 0 [];let k:=rat 0 1;let g:=(↑j:Int);let q:=ak 12 s.m fun i_1=>bH (s.f i i_1) 2000;let p:=ak 1 s.n fun i=>ak 12 s.m fun i_1=>bH (s.f i i_1) 2000;let o:Nat×aq:=(2,aq.mk true true 1 i fun i=>ak 12 s.m fun i_1=>bH (s.f i i_1) 2100);let l:List (Nat×aq):=[(1,aq.mk false true 5 1 fun x=>agg [int i64 s.u,int i64 s.v,ak 3 s.a fun i=>rat (s.ku i) 2100,ak 3 s.b fun i=>rat (s.kv i) 2100,own 2 1 0 i]),(0,aq.mk false true 5 1 fun x=>agg [int i64 0,int i64 0,nil,nil,nil])];let e:=g+1;let w:Pl:=s.f i g.toNat;some (fork (decide (g<d)) (aj [(0:Int)<=g/\g.toNat<s.m,(0:Nat)<1] (aj [(0:Nat)<1,h,h,Max.max 2000 2000<=2000,(1:Nat)*12<=2^24,(j+1)*((224:Nat)+1)*2<=2^47] (aj [-(2:Int)^63<=e/\e<2^63] (leaf normal ([r,t,func 96 [],p,int i64 (↑s.n:Int),int i64 (↑i:Int),own 40964 12 0 (j+1),q,int i64 d,int i64 e],o::(40964,aq.mk true true 12 (j+1) fun i_1=>if i_1<j then bH (s.f i i_1) 2100 else nth [bH w 2100] (agg [agg [k,k,k],k]) (i_1-j+0))::l))))) (leaf (exit 2) ([r,t,func 96 [],p,int i64 (↑s.n:Int),int i64 (↑i:Int),own 3 12 0 j,q,int i64 d,int i64 g],o::(3,aq.mk true true 12 j fun j=>bH (s.f i j) 2100)::l))):=ah
theorem abW {s:Sf}:aI T qA [] 60 pE (behind yM [1,1,0,1]++[part Au [1,1,1]]) ⟨aA yW (Gx s i j),EW s i j,4⟩=
  let d:=(↑i:Int)+1;let e:=agg [int i64 s.u,int i64 s.v,bu s.ku s.a 2100,bu s.kv s.b 2100,own 2 1 0 i];some (aj [(0:Nat)<1,(1:Nat)*1<=2^24,(i+1)*((24:Nat)+1)*2<=2^47,(0:Nat)<1] (aj [-(2:Int)^63<=d/\d<2^63] (leaf normal ([ptr 0 0 5 0 [],ptr 1 0 5 0 [],func 96 [],ak 1 s.n fun i=>ak 12 s.m fun i_1=>bH (s.f i i_1) 2000,int i64 (↑s.n:Int),int i64 d],[(16388,aq.mk true true 1 (i+1) fun i_1=>if i_1<i then aT (s.f i_1) s.m 2100 else nth [ak 12 j fun i_2=>bH (s.f i (i_2+0)) 2100] nil (i_1-i+0)),(1,aq.mk false true 5 1 fun j=>if(j==0)=true then agg (e.kids.set 4 (bp (own (nat_lit 16387+1) 1 0 (i+1))))else e),(0,aq.mk false true 5 1 fun x=>agg [int i64 0,int i64 0,nil,nil,nil])])))):=ah
theorem Y3 {s:Sf}:ct T qA [] 60 f95 [part qM [1,1,1]] ⟨aA pE (uv s i),tR s i,3⟩=
  let d:=0<1;some (aj [d,d] (aj [d] (leaf ret [agg [int i64 s.u,int i64 s.v,ak 3 s.a fun i=>rat (s.ku i) 2100,ak 3 s.b fun i=>rat (s.kv i) 2100,ak 1 i fun i=>ak 12 s.m fun i_1=>bH (s.f (i+0) i_1) 2100]]))):=ah
theorem Ws {s:Sf}:aI T Cx [] 60 [1,2] (before (aE f27) [1]) ⟨aN 0 [bM s 2000 2000],[],0⟩=
  let a:=(bp (bM s 2000 2000)).size;some (leaf normal ([ptr 0 0 a 0 [],ptr 4096 0 5 0 []],[(4096,aq.mk false true 5 1 fun x=>agg [int i64 0,int i64 0,nil,nil,nil]),(0,aq.mk false true a 1 fun x=>bM s 2000 2000)])):=ah
theorem agb {s:Sf}:ct T Cx [100008] 60 f27 [part (aE f27) [1]] ⟨aA [1,2] [.bZ (bM s 2000 2000),.ptr 1 0 5 0 []],[(1,⟨false,true,5,1,fun _=>.agg [.int .i64 0,.int .i64 0,.nil,.nil,.nil]⟩),(0,⟨false,false,5,1,fun _=>bM s 2000 2000⟩)],2⟩=
  let k:=dN (fun i=>aT (s.f i) s.m 2000) s.n sJ;let g:=0<1;let e:=2^28;let h:=dn (aT (s.f 0) s.m 2000);let j:=dn (aT (dh (fun i=>aT (s.f i) s.m 2000) 0) h 2100);some (aj [decide ((↑s.n:Int)>0)=true,k,bh (fun i=>rat (s.ku i) 2000) s.a sJ,bh (fun i=>rat (s.kv i) 2000) s.b sJ,k,s.n<2^40,u9 h 94 (Sf.mk s.u s.v s.a (fun i=>aF (rat (s.ku i) 2000)) s.b (fun i=>aF (rat (s.kv i) 2000)) s.n h (dh fun i=>aT (s.f i) s.m 2000))] (aj [bh (fun i=>rat (s.ku i) 2000) s.a 2000,bh (fun i=>rat (s.kv i) 2000) s.b 2000,dN (fun i=>aT (s.f i) s.m 2000) s.n 2000,s.a<e,s.b<e,s.n<e,h<e,g] (aj [g,g,g,dN (fun i=>aT (dh (fun i=>aT (s.f i) s.m 2000) i) h 2100) s.n 2100,s.n=0->j=0,s.n<e,j<e,g] (aj [g] (leaf ret [agg [int i64 s.v,int i64 s.u,ak 3 s.b fun i=>rat (aF (rat (s.kv i) 2000)) 2100,ak 3 s.a fun i=>rat (aF (rat (s.ku i) 2000)) 2100,ak 1 j fun i=>ak 12 s.n fun i_1=>agg [agg [rat (aF (rat (aF (rat (s.f i_1 i).n.x 2000)) 2100)) 2100,rat (aF (rat (aF (rat (s.f i_1 i).n.y 2000)) 2100)) 2100,rat (aF (rat (aF (rat (s.f i_1 i).n.z 2000)) 2100)) 2100],rat (aF (rat (aF (rat (s.f i_1 i).d 2000)) 2100)) 2100]]]))))):=ah
theorem ajt {s:Sf}:ct T Cx [200008] 60 f27 [part (aE f27) [1]] ⟨aA [1,2] [.bZ (bM s 2000 2000),.ptr 1 0 5 0 []],[(1,⟨false,true,5,1,fun _=>.agg [.int .i64 0,.int .i64 0,.nil,.nil,.nil]⟩),(0,⟨false,false,5,1,fun _=>bM s 2000 2000⟩)],2⟩=
  let j:=dn (aT (s.f 0) s.m 2000);let g:=0<1;let e:=2^28;let h:=dn (aT (dh (fun i=>aT (s.f i) s.m 2000) 0) j 2100);some (aj [decide ((↑s.n:Int)>0)=false] (aj [bh (fun i=>rat (s.ku i) 2000) s.a 2000,bh (fun i=>rat (s.kv i) 2000) s.b 2000,dN (fun i=>aT (s.f i) s.m 2000) s.n 2000,s.a<e,s.b<e,s.n<e,j<e,g] (aj [g,g,g,dN (fun i=>aT (dh (fun i=>aT (s.f i) s.m 2000) i) j 2100) s.n 2100,s.n=0->h=0,s.n<e,h<e,g] (aj [g] (leaf ret [agg [int i64 s.v,int i64 s.u,ak 3 s.b fun i=>rat (aF (rat (s.kv i) 2000)) 2100,ak 3 s.a fun i=>rat (aF (rat (s.ku i) 2000)) 2100,ak 1 h fun i=>ak 12 s.n fun i_1=>agg [agg [rat (aF (rat (aF (rat (s.f i_1 i).n.x 2000)) 2100)) 2100,rat (aF (rat (aF (rat (s.f i_1 i).n.y 2000)) 2100)) 2100,rat (aF (rat (aF (rat (s.f i_1 i).n.z 2000)) 2100)) 2100],rat (aF (rat (aF (rat (s.f i_1 i).d 2000)) 2100)) 2100]]]))))):=ah
theorem aae {s:Sf}:bX T Qh [] 60 f39 (aE f39) ⟨aN 0 [bM s 2000 2000,.rat v sK],[],0⟩=
  let g:=0<1;let e:=2^28;let d:=dn (aT (s.f 0) s.m 2000);let h:Sf:=Sf.mk s.v s.u s.b (fun i=>aF (rat (aF (rat (s.kv i) 2000)) 2000)) s.a (fun i=>aF (rat (aF (rat (s.ku i) 2000)) 2000)) d (dn (aT (fun i=>dh (fun i=>aT (s.f i) s.m 2000) i 0) s.n 2000)) (dh fun i=>aT (fun i_1=>dh (fun i=>aT (s.f i) s.m 2000) i_1 i) s.n 2000);let j:Cu:=jQ h v;some (aj [g,bh (fun i=>rat (s.ku i) 2000) s.a 2000,bh (fun i=>rat (s.kv i) 2000) s.b 2000,dN (fun i=>aT (s.f i) s.m 2000) s.n 2000,s.n=0->d=0,s.a<e,s.b<e,s.n<e,d<e,gI (Sf.mk s.u s.v s.a (fun i=>aF (rat (s.ku i) 2000)) s.b (fun i=>aF (rat (s.kv i) 2000)) s.n d (dh fun i=>aT (s.f i) s.m 2000)),g,bh (fun i=>rat (aF (rat (s.kv i) 2000)) 2000) s.b 2000,bh (fun i=>rat (aF (rat (s.ku i) 2000)) 2000) s.a 2000,dN (fun i=>aT (fun i_1=>dh (fun i=>aT (s.f i) s.m 2000) i_1 i) s.n 2000) d 2000,sK<=sK,cO h,g] (aj [g] (leaf ret [gC j 4096 4294967298,int i64 (cA s.b (fun i=>aF (rat (aF (rat (s.kv i) 2000)) 2000)) v)]))):=ah
theorem U5:bn P Kk:=kq (s9 Wq tV)
theorem aaf:aW P Qk 96:=cr fun⟨p,_⟩ K _=>by
 refine b9 (r:=aJ (bH p 2100) []) hT U5 hm aj5 rfl aV rfl 60 (aaq (p:=p)) (fun _=>?_) K [];simp only[ag.all,ay];exact⟨⟨aa,aa⟩,aa,cM ⟨cM ⟨cm (Rat.add_zero _) (by decide),cm (Rat.add_zero _) (by decide),cm (Rat.add_zero _) (by decide),trivial⟩,cm (Rat.add_zero _) (by decide),trivial⟩⟩
theorem F2:bn P qA:=cB (aH aaf (aH (DI _ _) bw))
theorem Oq {s:Sf} {c:Ctx} {Q:au->aK->Prop} (h1:s.a<2^28) (h2:s.b<2^28) (h3:s.n<2^28) (h4:s.m<2^28) (hk:Kept [] c) (hQ:ax P c f95.ntmps (part qM [1,1,1]) ⟨aA pE (uv s s.n),tR s s.n,3⟩ Q):
  ax P c f95.ntmps qM ⟨aN 0 [bM s 2000 2000,.func 96 []],[],0⟩ Q:=by
 have hv:∀{rl:List (Nat×Nat)} {a l:Nat} {u:AV},u.isTuple=false->gq (bk rl) u (.own 2 1 0 l)->gD rl (.agg [.int .i64 s.u,.int .i64 s.v,bu s.ku s.a 2100,bu s.kv s.b 2100,u]) (.agg [.int .i64 s.u,.int .i64 s.v,bu s.ku s.a 2100,bu s.kv s.b 2100,.own 2 1 0 l]):=
  fun h5 h6=>lP ⟨aM,aM,aM,aM,⟨h5,h6⟩,trivial⟩
 refine ax.vP hT F2 hm (x:=qM) [1,1,0,1] (i:=0) (y:=Au) (z:=part qM [1,1,1]) ah ah ah FY.dst [1,1,0] (j:=1) (x1:=yM) (zb:=part Au [1,1,1]) ah ah ah [1,1,0,1] (i2:=2) (y2:=part yM [1,1,0,1,0,0]) ah ah rfl
  hk (f1:=[]) (f2:=[26]) (f3:=[]) (f4:=[32]) (f5:=[]) 60 pE yW 3 4 (fun i:Nat=>uv s i) (fun i=>tR s i) (fun i=>i<=s.n) (fun i=>i=s.n) (fun i=>s.n-i) (fun i=>i<s.n) (fun _=>False) (fun _=>False)
  (fun i (j:Nat)=>Gx s i j) (fun i j=>EW s i j) (fun _ j=>j<=s.m) (fun _ j=>j=s.m) (fun _ j=>s.m-j) ⟨_,aa5,?_⟩ (fun i hi=>⟨_,V0,?_⟩) (fun i hi hg=>⟨_,abP,?_⟩) (fun i hi hg j hj=>⟨_,aj7,?_⟩) (fun i hi hg j hj=>⟨_,abW,?_⟩) (fun i hi=>?_) (fun _ _ h=>h.elim) (fun _ _ h=>h.elim)
 all_goals try simp only[ag.all,ay,br,bC,bg,Nat.add_zero]
 ·exact⟨⟨aa,aa,aa,bL bq,aa,aa,aa,aa,bL bq,aa,aa,aa,aa⟩,aa,0,Nat.zero_le _,[(0,4096),(1,53248)],rfl,rfl,rfl,jP rfl aa aa (cP rfl rfl (hv (a:=0) rfl (pY aa)) (aL trivial))⟩
 ·exact⟨fun h=>⟨aa,[(0,0),(1,1),(2,2)],rfl,rfl,rfl,cX (cP rfl rfl (hv (a:=0) rfl (cN rfl rfl rfl)) (aL trivial))⟩,fun h=>⟨rfl,i,aa,[(0,0),(1,1),(2,2)],rfl,rfl,rfl,cX (cP rfl rfl (hv (a:=0) rfl (cN rfl rfl rfl)) (aL trivial))⟩⟩
 ·exact⟨aa,0,Nat.zero_le _,[(0,0),(1,1),(2,2)],rfl,rfl,rfl,jP rfl aa aa (cX (cP rfl rfl (hv (a:=0) rfl (cN rfl rfl rfl)) (aL trivial)))⟩
 ·refine⟨fun h=>⟨⟨aa,aa⟩,⟨aa,aa,aa,by decide,aa,aa⟩,aa,j+1,aa,by dsimp only;omega,[(0,0),(1,1),(2,2),(3,40964)],rfl,rfl,rfl,cj rfl rfl rfl (fun k hk=>LB (y:=fun j=>s.f i j) (fun _ _=>rfl) (.refl _) rfl bq bq hk) (cX (cP rfl rfl (hv (a:=0) rfl (cN rfl rfl rfl)) (aL trivial)))⟩,
   fun h=>⟨rfl,j,aa,[(0,0),(1,1),(2,2),(3,3)],rfl,rfl,rfl,cX (cX (cP rfl rfl (hv (a:=0) rfl (cN rfl rfl rfl)) (aL trivial)))⟩⟩
 ·subst hj;exact⟨⟨aa,aa,aa,aa⟩,aa,i+1,aa,by dsimp only;omega,[(0,0),(1,1),(2,16388)],rfl,rfl,rfl,cj rfl rfl rfl (fun k hk=>rowAt (g:=fun i=>aT (s.f i) s.m 2100) hk rfl rfl) (cP rfl rfl (hv (a:=0) rfl (cN rfl rfl rfl)) (aL trivial))⟩
 ·subst hi;exact hQ
theorem afk {s:Sf} (h1:s.a<2^28) (h2:s.b<2^28) (h3:s.n<2^28) (h4:s.m<2^28) (K:Nat):aQ P 95 K [bM s 2000 2000,.func 96 []] [] (aJ (bM s 2100 2100) []):=by
 refine fV (r:=aJ (bM s 2100 2100) []) hT FY rfl aV rfl (fun _ cx h00=>Oq h1 h2 h3 h4 (iL h00) ?_) K [];refine ax.hH ((aG.fin hT F2 hm 60 Y3 ah ?_).mono fun _ _ h=>.inl h);simp only[ag.all,ay];exact⟨⟨aa,aa⟩,aa,.refl _⟩
theorem Yk:aW P Mc 95:=cr fun⟨s,_,_⟩ K hn=>afk hn.1 hn.2.1 hn.2.2.1 hn.2.2.2 K
theorem E4:bn P Cx:=cB (aH NO (aH Yk (aH Fi bw)))
theorem ES:aW P Bz 27:=cr fun⟨s,_⟩ K hn=>by
 obtain⟨n1,n2,n3,n4,n5,n6⟩:(s.n=0->s.m=0)/\s.a<2^28/\s.b<2^28/\s.n<2^28/\s.m<2^28/\gI s:=hn;refine fV (r:=aJ (bM (dc s) 2000 2000) []) hT R5 rfl aV rfl (fun _ cx h00=>?_) K [];have hk:=iL h00;refine ax.hole [1] ah (aG.bE hT E4 hm 60 [1,2] Ws (kZ R5.dst) ?_);intro s' hs';show ax _ _ _ (part (aE f27) [1]) s' _;rw[show behind (aE f27) [1]=[]from by kernel_rfl];refine ax.jh (s2:=⟨aA [1,2] [.ptr 0 0 5 0 [],.ptr 1 0 5 0 []],[(1,⟨false,true,5,1,fun _=>.agg [.int .i64 0,.int .i64 0,.nil,.nil,.nil]⟩),(0,⟨false,true,5,1,fun _=>bM s 2000 2000⟩)],2⟩) (cT.le ⟨[(0,0),(1,4096)],rfl,rfl,rfl,aL (aL trivial)⟩ hs' hk) ((?_:ax P cx f27.ntmps (part (aE f27) [1]) _ (ej cx (Fin T f27 (bM (dc s) 2000 2000)))).mono fun e s' h=>by cases e<;>exact h);refine ax.Dn (t:=1) (k:=0) rfl rfl rfl rfl rfl ?_;have lv:dn (aT (s.f 0) s.m 2000)=s.m:=rfl;have lv2:dn (aT (dh (fun i=>aT (s.f i) s.m 2000) 0) s.m 2100)=s.m:=rfl;rcases Nat.eq_zero_or_pos s.n with h0|h0
 ·refine ax.hH ((aG.fin hT E4 hm 60 ajt ah ?_).mono fun _ _ h=>.inl h);simp only[ag.all,ay,lv,lv2]
  (repeat' with_reducible refine And.intro ?_ ?_)
  all_goals first|omega|exact decide_eq_false aa|exact bL (by decide)|exact fo (by decide)|skip
  exact n6.swap.up (x:=2100) (y:=2100)
 refine ax.hH ((aG.fin hT E4 hm 60 agb ah ?_).mono fun _ _ h=>.inl h);simp only[ag.all,ay,lv,lv2]
 (repeat' with_reducible refine And.intro ?_ ?_)
 all_goals first|omega|exact decide_eq_true aa|exact bL (by decide)|exact fo (by decide)|exact .inr ⟨rfl,rfl,h0⟩|skip
 exact n6.swap.up (x:=2100) (y:=2100)
theorem XS:bn P Qh:=cB (aH ES (aH R7 bw))
def amL:Spec:=cz (kC (gh 2000 2000) (kC (gv sK) kN)) (fun a=>.tuple [gC (jQ (dc a.1) a.2.1) sK sE,.int .i64 (cA a.1.b a.1.kv a.2.1)]) fun a=>[cO a.1,gI a.1]
theorem cO.swap {s:Sf} (h:cO s):cO (dc s):=⟨h.kv,h.ku,h.v0,h.v6,h.u0,h.u6,h.b,h.a,h.m,h.n,fun i j hi hj=>h.w j i hj hi⟩
theorem alb:aW P amL 39:=cr fun⟨s,v,_⟩ K hn=>by
 obtain⟨hs,hz⟩:cO s/\gI s:=hn;obtain⟨ku,kv,u0,u6,v0,v6,ha,hb,hn,hm2,hw⟩:=id hs;have hpu:=ku.p1;have hpv:=kv.p1;have hlu:=ku.len;refine b9 (r:=aJ (.tuple [gC (jQ (dc s) v) sK sE,.int .i64 (cA s.b s.kv v)]) []) hT XS hm XY rfl aV rfl 60 aae (fun _=>?_) K [];have lv:dn (aT (s.f 0) s.m 2000)=s.m:=rfl;simp only[ag.all,ay,lv]
 (repeat' with_reducible refine And.intro ?_ ?_)
 all_goals first|omega|exact Nat.le_refl _|exact bL (by decide)|exact fo (by decide)|exact hs.swap|exact hz|skip
 exact⟨.refl _,.refl _,trivial⟩
theorem Y8:aU 219 f219:=aS func219
def jH (f:Nat->Rat) (i m q:Nat):Rat:=if m-1<=q then 0 else if i<=q then f (q+1)else f q
def Gs:Spec:=fun _ args pre=>match args,pre with
 |[.own b 3 0 m,.int .i64 i,.int .i64 j],[(b',⟨true,true,3,mb,fb⟩)]=>match b'==b with
  |true=>some ⟨.own b 3 0 (m-1),[(b,⟨true,true,3,m,fun q=>.rat (jH (fun q=>aF (fb q)) i.toNat m q) 2048⟩)],[mb=m,pH fb m 2048,0<=i,i<m,j=i+1]⟩
  |false=>none
 |_,_=>none
theorem YP {cap:Nat} {i:Int} {f:Nat->Rat}:aI T [nG] [16] 60 [6] [aE f219] ⟨[(0,.bQ cap (.own 0 3 0 m)),(1,.int .i64 i),(2,.int .i64 (i+1))],[(0,⟨true,true,3,m,fun q=>.rat (f q) 2048⟩)],1⟩=
  let j:=(↑(0:Nat):Int);let b:=i+1;let a:=(↑m:Int);let e:=Int.toNat (0:Int);let h:=i.toNat-e;let d:=h+(a.toNat-b.toNat);let g:=(↑d:Int);let k:=0+g.toNat;let l:=k+(a.toNat-g.toNat);some (aj [(0:Int)<=i/\i<=b/\b<=a/\a<=a] (fork (i==b) (leaf ret ([bQ cap (own 0 3 0 m)],[(0,aq.mk true true 3 m fun q=>rat (f q) 2048)])) (aj [(0:Int)<=0/\(0:Int)<=i/\i<=(↑cap:Int)/\j+i<=a,(0:Int)<=b/\b<=a/\a<=(↑cap:Int)/\j+a<=a,d<=cap-e/\d<=m] (aj [(0:Int)<=g/\g<=a/\a<=(↑(cap-e):Int)/\j+a<=a] (leaf ret ([bQ (cap-e) (own 0 3 0 d)],[(0,aq.mk true true 3 m fun i=>if k<=i/\i<l then rat 0 1 else if h<=i/\i<d then rat (f (i-h+((0:Nat)+b.toNat))) 2048 else rat (f i) 2048)])))))):=ah
theorem acE {b:Nat} {i:Int} {fb:Nat->AV} (hf:pH fb m 2048) (h0:0<=i) (h1:i<m) (K:Nat):aQ P 219 K [.own b 3 0 m,.int .i64 i,.int .i64 (i+1)] [(b,⟨true,true,3,m,fb⟩)] ⟨iK [.own b 3 0 (m-1)],[(b,⟨true,true,3,m,fun q=>.rat (jH (fun q=>aF (fb q)) i.toNat m q) 2048⟩)],[]⟩:=by
 refine U8 hT Y8 (rest:=[.int .i64 i,.int .i64 (i+1)]) (ws:=[.own b 3 0 (m-1)]) (o:=⟨true,true,3,m,fun q=>.rat (aF (fb q)) 2048⟩) rfl rfl aV (fun _ ρ=>hf.obj rfl ρ) fun _ c hk=>?_;refine ax.bQ (t:=0) rfl fun cap hcap=>?_;refine ax.bE hT (cB bw) hm 60 [6] (YP (m:=m) (cap:=cap) (i:=i) (f:=fun q=>aF (fb q))) ah ?_;simp only[ag.all,ay,beq_iff_eq,beq_eq_false_iff_ne,ne_eq];refine⟨⟨aa,aa,aa,aa⟩,fun h=>absurd h aa,fun _=>⟨⟨⟨aa,aa,aa,aa⟩,⟨aa,aa,aa,aa⟩,⟨aa,aa⟩⟩,⟨aa,aa,aa,aa⟩,fun s' hs'=>⟨.inr trivial,[6],_,[.bQ (cap-Int.toNat 0) (.own 0 3 0 (i.toNat-Int.toNat 0+((m:Int).toNat-(i+1).toNat)))],[],_,_,hs',ah,trivial,⟨⟨rfl,ajA rfl (cN (by simp[bk,look]) rfl aa)⟩,trivial⟩,qa,ji rfl fun q hq=>?_⟩⟩⟩;have hq:q<m:=hq;have e0:Int.toNat 0=0:=rfl;have e1:i.toNat-Int.toNat 0+((m:Int).toNat-(i+1).toNat)=m-1:=aa;refine mR (qX rfl (qX rfl rfl)) ?_;simp only[e1];unfold jH;by_cases c1:m-1<=q
 ·rw[if_pos c1,if_pos aa];exact cm rfl (by decide)
 ·rw[if_neg c1,if_neg aa];by_cases c2:i.toNat<=q
  ·rw[if_pos c2,if_pos aa,show q-(i.toNat-Int.toNat 0)+(0+(i+1).toNat)=q+1 by omega];exact .refl _
  ·rw[if_neg c2,if_neg aa];exact .refl _
theorem Yg:aW P Gs 219:=by
 intro K args pre r h;unfold Gs at h;split at h
 ·rename_i b m i j b' mb fb;split at h
  ·rename_i hc;have hc:=eq_of_beq hc;subst hc;simp only[az]at h;subst h;intro need;obtain⟨rfl,n1,n2,n3,rfl⟩:=need;exact acE n1 n2 n3 K trivial
  ·simp at h
 ·simp at h
theorem RP {n:Nat} {k:Nat->Rat} {i m:Nat} (h:At n k i) {t:Rat} (hk:∀x,i+1<=x->x<=i+m->k x=t):∀{d:Nat},d<=i->d<=m->∀j,vB k i t d j=if j=d then 1 else 0
 |0,_,_,j=>by unfold vB;rfl
 |d+1,hd,hm,j=>by
  have ih:=RP h hk (d:=d) (by omega) (by omega);have e1:fr (k i) t t=1:=Rs (by have:=h.wide;have:=hk (i+1) (by omega) (by omega);grind);cases j with
  |zero=>
   rw[ua,ih];by_cases h0:d=0
   ·subst h0;rw[if_pos rfl,if_neg (by omega),show i-0=i by omega,show i+(0+1)=i+1 by omega,hk (i+1) (by omega) (by omega),e1];grind
   ·rw[if_neg (by omega),if_neg (by omega)];grind
  |succ j=>
   rw[pG,ih j,ih (j+1)];by_cases hj:j=d
   ·have q1:(if j=d then(1:Rat)else 0)=1:=if_pos hj;have q2:(if j+1=d then(1:Rat)else 0)=0:=if_neg (by omega);have q3:(if j+1=d+1 then(1:Rat)else 0)=1:=if_pos (by omega);rw[q1,q2,q3,show i-d+j=i by omega,hk (i+(d+1)) (by omega) (by omega),e1];grind
   ·have q1:(if j=d then(1:Rat)else 0)=0:=if_neg hj;have q3:(if j+1=d+1 then(1:Rat)else 0)=0:=if_neg (by omega);rw[q1,q3];by_cases hj2:j+1=d
    ·rw[if_pos hj2,show i-d+(j+1)=i by omega,hk (i+(d+1)) (by omega) (by omega),e1];grind
    ·rw[if_neg hj2];grind
theorem ML {k:Nat->Rat} {i m:Nat} {t:Rat} (hm:m<=i+1) (hk:∀x,x<=i->i<x+m->k x=t):∀{d:Nat},d<=m->∀j,vB k i t d j=if j=0 then 1 else 0
 |0,_,j=>by unfold vB;rfl
 |d+1,hd,j=>by
  have ih:=ML hm hk (d:=d) (by omega);cases j with
  |zero=>
   rw[ua,ih 0,if_pos rfl,hk (i-d) (by omega) (by omega),FI];grind
  |succ j=>
   have q2:(if j+1=0 then(1:Rat)else 0)=0:=if_neg (by omega);rw[pG,ih j,ih (j+1),q2];by_cases hj:j=0
   ·subst hj;rw[Nat.add_zero,hk (i-d) (by omega) (by omega),FI];grind
   ·have q1:(if j=0 then(1:Rat)else 0)=0:=if_neg hj;rw[q1];grind
theorem QK {n:Nat} {k:Nat->Rat} {i m:Nat} (h:At n k i) {t:Rat} (hm:1<=m) (hk:∀x,i+1<=x->x<=i+m->k x=t):∀e,m+e<=i->(∀j,j<m->vB k i t (m+e) j=0)/\∀j,vB k i t (m+e) (j+m)=vB k (i+m) t (m+e) j
 |0,he=>by
  have r:=RP h hk (d:=m) (by omega) (Nat.le_refl _);have l:=ML (k:=k) (i:=i+m) (m:=m) (t:=t) (by omega) (fun x h1 h2=>hk x (by omega) h1) (d:=m) (Nat.le_refl _);refine⟨fun j hj=>?_,fun j=>?_⟩
  ·rw[Nat.add_zero,r,if_neg (by omega)]
  ·rw[Nat.add_zero,r,l];by_cases hj:j=0
   ·subst hj;rw[if_pos (by omega),if_pos rfl]
   ·rw[if_neg (by omega),if_neg hj]
 |e+1,he=>by
  obtain⟨z,s⟩:=QK h hm hk e (by omega);have z2:∀j,j<m->vB k i t (m+(e+1)) j=0:=fun j hj=>by
   rw[show m+(e+1)=m+e+1 by omega];cases j with
   |zero=>rw[ua,z 0 (by omega)];grind
   |succ j=>rw[pG,z j (by omega),z (j+1) hj];grind
  refine⟨z2,fun j=>?_⟩;rw[show m+(e+1)=m+e+1 by omega];cases j with
  |zero=>
   rw[ua,Nat.zero_add];obtain⟨q,rfl⟩:∃q,m=q+1:=⟨m-1,by omega⟩
   rw[pG,z q (by omega)];have s0:=s 0;rw[Nat.zero_add]at s0;rw[s0,show i-(q+1+e)+(q+1)=i+(q+1)-(q+1+e) by omega];grind
  |succ j=>
   rw[show j+1+m=j+m+1 by omega,pG,pG,s j];have s1:=s (j+1);rw[show j+1+m=j+m+1 by omega]at s1;rw[s1,show i-(m+e)+(j+m)=i+m-(m+e)+j by omega,show i-(m+e)+(j+m+1)=i+m-(m+e)+(j+1) by omega]
theorem G5 {f:Nat->Rat} {a:Nat}:∀{b:Nat},bU (a+b) f=bU a f+bU b fun j=>f (a+j)
 |0=>by simp only[Nat.add_zero,bU];grind
 |b+1=>by rw[show a+(b+1)=a+b+1 by omega,bU,G5,bU];grind
theorem ae2 {n p:Nat} {k:Nat->Rat} (h:Kn n p k) {P:Nat} (hP:p<=P) (hP2:P+p+1<n) (hw:k P<k (P+1)) (h0:k P<=t) (h1:t<=k (P+1)) (hi:CM n k t i) (hip:p<=i) (hip2:i+p+1<n) {c:Nat->Rat}:
  bU (p+1) (fun j=>c (P-p+j)*vB k P t p j)=bU (p+1) fun j=>c (i-p+j)*vB k i t p j:=by
 have hp:=h.p1;have hiw:=hi.at_.wide;have hge:P<=i:=by
  rcases Nat.lt_or_ge i P with hlt|hge
  ·exfalso;have a1:=h.mono (show i+1<=P by omega) (show P<n by omega);have a2:=hi.hi;have a3:=h.mono (show P+1<=n-1 by omega) (show n-1<n by omega);rcases hi.Hh with e|e<;>grind
  ·exact hge
 rcases Nat.lt_or_ge P i with hlt|hle
 ·obtain⟨m,rfl⟩:∃m,i=P+m:=⟨i-P,by omega⟩
  have hlo:=hi.lo;have heq:∀x,P+1<=x->x<=P+m->k x=t:=fun x g1 g2=>by
   have a1:=h.mono g1 (show x<n by omega);have a2:=h.mono g2 (show P+m<n by omega);grind
  have hmp:m<=p:=by
   rcases Nat.lt_or_ge p m with hh|hh
   ·exfalso;have a1:=h.mult (P+1) (by omega) (by omega);have a2:=heq (P+1) (by omega) (by omega);have a3:=heq (P+1+p) (by omega) (by omega);grind
   ·exact hh
  obtain⟨e,rfl⟩:∃e,p=m+e:=⟨p-m,by omega⟩
  obtain⟨z,s⟩:=QK ⟨by omega,h.sorted,hw⟩ (m:=m) (by omega) heq e (by omega);rw[show m+e+1=m+(e+1) by omega,G5,Hg (n:=m) fun j hj=>by rw[z j hj];grind];rw[show m+(e+1)=(e+1)+m by omega,G5 (a:=e+1) (b:=m),Hg (n:=m) (f:=fun j=>c (P+m-(m+e)+(e+1+j))*vB k (P+m) t (m+e) (e+1+j))]
  ·have:∀j,j<e+1->c (P-(m+e)+(m+j))*vB k P t (m+e) (m+j)=c (P+m-(m+e)+j)*vB k (P+m) t (m+e) j:=fun j hj=>by
    rw[show m+j=j+m by omega,s j,show P-(m+e)+(j+m)=P+m-(m+e)+j by omega]
   rw[oz this];grind
  ·intro j hj;have:=s (e+1+j);rw[uj (d:=m+e) (by omega)]at this;rw[<-this];grind
 ·have:i=P:=by omega
  subst this;rfl
def fe (k:Nat->Rat) (j:Nat):Nat->Int
 |0=>-1
 |l+1=>if k (j+l)=k (j+l+1)then fe k j l else(j+l:Nat)
theorem NV {k:Nat->Rat} {j:Nat}:∀{l:Nat},k j≠k (j+l)->∃P:Nat,fe k j l=(P:Int)/\j<=P/\P<j+l/\k P≠k (P+1)
 |0,h=>absurd rfl h
 |l+1,h=>by
  unfold fe;by_cases he:k (j+l)=k (j+l+1)
  ·rw[if_pos he];obtain⟨P,h1,h2,h3,h4⟩:=NV (k:=k) (j:=j) (l:=l) (by rw[he];exact h);exact⟨P,h1,h2,by omega,h4⟩
  ·rw[if_neg he];exact⟨j+l,rfl,by omega,by omega,he⟩
theorem Kn.piece {n p:Nat} {k:Nat->Rat} (h:Kn n p k) (hj:j+p+1<n):∃P:Nat,fe k j (p+1)=(P:Int)/\j<=P/\P<=j+p/\k P<k (P+1)/\p<=P/\P+p+1<n:=by
 have hp:=h.p1;have hne:k j≠k (j+(p+1)):=by
  have hlt:k j<k (j+(p+1)):=by
   by_cases h0:j=0
   ·subst h0;have hl:=h.len;have a1:=h.mult 1 (by omega) (by omega);rw[h.first 1 (by omega),show 1+p=0+(p+1) by omega]at a1;exact a1
   ·have a1:=h.mult j (by omega) (by omega);have a2:=h.mono (show j+p<=j+(p+1) by omega) (by omega);grind
  grind
 obtain⟨P,h1,h2,h3,h4⟩:=NV hne;have hs:=h.sorted P (by omega);refine⟨P,h1,h2,by omega,by grind,?_,?_⟩
 ·rcases Nat.lt_or_ge P p with hh|hh
  ·exact absurd (by rw[h.first P (by omega),h.first (P+1) (by omega)]) h4
  ·exact hh
 ·rcases Nat.lt_or_ge (P+p+1) n with hh|hh
  ·exact hh
  ·exact absurd (by rw[h.last P (by omega) (by omega),h.last (P+1) (by omega) (by omega)]) h4
theorem K4 {k:Nat->Rat} {c:Nat}:∀{l a:Nat},aZ (fun i=>k (c+i)) a l=aZ k (c+a) l
 |0,_=>rfl
 |l+1,a=>by rw[aZ,aZ,K4];rfl
theorem uW {f g:Nat->Rat}:∀{l a:Nat},(∀i,a<=i->i<a+l->f i=g i)->aZ f a l=aZ g a l
 |0,_,_=>rfl
 |l+1,a,h=>by rw[aZ,aZ,h a (by omega) (by omega),uW fun i h1 h2=>h i (by omega) (by omega)]
variable {k:Nat->Rat} {b p:Nat}
theorem aeQ {a c u:Rat}:fr a c (u+f*(v-u))=fr a c u+f*(fr a c v-fr a c u):=by
 unfold fr;rw[Rat.div_def,Rat.div_def (u-a),Rat.div_def (v-a)];generalize (c-a)⁻¹=q;grind
theorem OC {f:Rat}:∀{l:List Rat} {r:Nat} {x y:Nat->Rat} {j:Nat},bl k b p r (fun j=>x j+f*(y j-x j)) l j=bl k b p r x l j+f*(bl k b p r y l j-bl k b p r x l j)
 |[],_,_,_,_=>rfl
 |t::l,r,x,y,j=>by
  rw[bl,bl,bl,<-OC (l:=l)];congr 1;funext j;unfold ir;split<;>grind
theorem AP {u:Rat} {x:Nat->Rat} (hl:l.length+1=p):bl k b p 0 x ((u+f*(v-u))::l) p=bl k b p 0 x (u::l) p+f*(bl k b p 0 x (v::l) p-bl k b p 0 x (u::l) p):=by
 rw[bl,bl,bl,<-OC];refine Bw (by omega) fun j h1 _=>?_;simp only[ir];rw[if_pos (by omega),if_pos (by omega),if_pos (by omega),aeQ];grind
theorem Bm {a c:Rat} (h:a<c):a+fr a c t*(c-a)=t:=by rw[nk h];grind
def dO (k:Nat->Rat) (t:Rat) (q j:Nat):Rat:=if j<q then k j else if j=q then t else k (j-1)
theorem jJ (h:j<q):dO k t q j=k j:=if_pos h
theorem pN:dO k t q q=t:=by unfold dO;rw[if_neg (by omega),if_pos rfl]
theorem jC (h:q<j):dO k t q j=k (j-1):=by unfold dO;rw[if_neg (by omega),if_neg (by omega)]
theorem Eb {f g:Nat->Rat}:∀{l a:Nat},(∀i,a+1<=i->i<a+1+l->f i=g (i-1))->aZ f (a+1) l=aZ g a l
 |0,_,_=>rfl
 |l+1,a,h=>by
  rw[aZ,aZ,h (a+1) (Nat.le_refl _) (by omega),Eb (l:=l) (a:=a+1) fun i h1 h2=>h i (by omega) (by omega)];rfl
theorem tY {n:Nat} {P J:Nat} {x:Nat->Rat} (h:At n k P) (hP:p<=P) (hP2:P+p<n) (h1:P<=J+p) (h2:J<=P):bl k (P-p) p 0 (fun q=>x (P-p+q)) (aZ k (J+1) p) p=x J:=by
 have:=Ul (k:=k) (b:=P-p) (p:=p) (n:=n) (by rwa [show P-p+p=P by omega]) (by omega) (J:=J-(P-p)) (by omega) (x:=fun q=>x (P-p+q));rw[show P-p+(J-(P-p))=J by omega]at this;exact this
theorem adp {n:Nat} {x:Nat->Rat} {P:Nat} (hs:∀i,i+1<n->k i<=k (i+1)) (hp:1<=p) (hlo:k a<=t) (hhi:t<k (a+1)) (ha:p<=a) (h:At n k P) (hP:p<=P) (hP2:P+p<n)
  (h1:j+p<=a->j<=P/\P<=j+p) (h2:a<j->j<=P+1/\P+1<=j+p) (h3:a<j+p->j<=a->j<=P/\P+1<=j+p):
  bl k (P-p) p 0 (fun q=>x (P-p+q)) (aZ (dO k t (a+1)) (j+1) p) p=if j+p<=a then x j else if a<j then x (j-1)else x (j-1)+fr (k j) (k (j+p)) t*(x j-x (j-1)):=by
 by_cases c1:j+p<=a
 ·obtain⟨g1,g2⟩:=h1 c1;rw[if_pos c1,uW (g:=k) fun i _ hi=>jJ (by omega)];exact tY h hP hP2 g2 g1
 ·rw[if_neg c1];by_cases c2:a<j
  ·obtain⟨g1,g2⟩:=h2 c2;rw[if_pos c2,Eb (g:=k) fun i hi _=>jC (by omega)];have:=tY (x:=x) (J:=j-1) h hP hP2 (by omega) (by omega);rwa [show j-1+1=j by omega]at this
  ·obtain⟨g1,g2⟩:=h3 (by omega) (by omega);rw[if_neg c2];have hA:At n k (P-p+p):=by rwa [show P-p+p=P by omega]
   have e1:aZ (dO k t (a+1)) (j+1) p=aZ k (j+1) (a-j)++t::aZ k (a+1) (j+p-a-1):=by
    have:=nT (t:=dO k t (a+1)) (l:=a-j) (a:=j+1) (m:=(j+p-a-1)+1);rw[show a-j+(j+p-a-1+1)=p by omega,show j+1+(a-j)=a+1 by omega]at this;rw[this,uW (g:=k) (fun i _ hi=>jJ (by omega)),aZ,pN,Eb (g:=k) fun i hi _=>jC (by omega)]
   have e2:aZ k (j+1) (p-1)=aZ k (j+1) (a-j)++aZ k (a+1) (j+p-a-1):=by
    have:=nT (t:=k) (l:=a-j) (a:=j+1) (m:=j+p-a-1);rw[show a-j+(j+p-a-1)=p-1 by omega,show j+1+(a-j)=a+1 by omega]at this;exact this
   have hw:k j<k (j+p):=by
    have m1:=fT hs (show j<=a by omega) (show a<n by omega);have m2:=fT hs (show a+1<=j+p by omega) (show j+p<n by omega);grind
   have q1:(aZ (dO k t (a+1)) (j+1) p).Perm (t::aZ k (j+1) (p-1)):=by rw[e1,e2];exact List.perm_middle
   rw[o8 hA (by omega) q1 (by rw[iy];omega),<-Bm (t:=t) hw,AP (by rw[iy];omega)];have d1:=tY (x:=x) (J:=j-1) h hP hP2 (by omega) (by omega);rw[show j-1+1=j by omega,show p=p-1+1 by omega,aZ]at d1;have d2:=tY (x:=x) (J:=j) h hP hP2 (by omega) (by omega);have q2:(aZ k (j+1) p).Perm (k (j+p)::aZ k (j+1) (p-1)):=by
    have:=wI (t:=k) (l:=p-1) (a:=j+1);rw[show p-1+1=p by omega,show j+1+(p-1)=j+p by omega]at this;rw[this];exact List.perm_append_singleton _ _
   rw[o8 hA (by omega) q2 (by rw[iy];omega)]at d2;rw[show p-1+1=p by omega]at d1;rw[d1,d2,Bm hw]
theorem xh {n:Nat} {G:List Rat->Rat} (hsym:∀{l m:List Rat},l.Perm m->l.length=p->G l=G m) (haff:∀{u v f:Rat} {l:List Rat},l.length+1=p->G ((u+f*(v-u))::l)=G (u::l)+f*(G (v::l)-G (u::l)))
  (h:At n k (b+p)) (hn:b+p+p<n):∀{l d:List Rat} {r:Nat} {y:Nat->Rat},d.length=r->r+l.length=p->(∀j,r<=j->j<=p->y j=G (d++aZ k (b+j+1) (p-r)))->bl k b p r y l p=G (d++l)
 |[],d,r,y,hd,hl,hy=>by
  have:=hy p (by simp at hl;omega) (Nat.le_refl _);rw[show p-r=0 by simp at hl;omega]at this;exact this
 |t::l,d,r,y,hd,hl,hy=>by
  simp only[List.length_cons]at hl;have hdt:(d++[t]).length=r+1:=by simp[hd]
  have:=xh hsym haff h hn (l:=l) (d:=d++[t]) (r:=r+1) (y:=ir k b p r t y) hdt (by omega) fun j h1 h2=>by
   unfold ir;rw[if_pos (by omega),hy j (by omega) h2,hy (j-1) (by omega) (by omega)];have hw:=h.around (a:=b+j) (b:=b+j+(p-r)) (by omega) (by omega) (by omega);have e1:(d++aZ k (b+(j-1)+1) (p-r)).Perm (k (b+j)::(d++aZ k (b+j+1) (p-(r+1)))):=by
    rw[show b+(j-1)+1=b+j by omega,show p-r=p-(r+1)+1 by omega,aZ];exact List.perm_middle
   have e2:(d++aZ k (b+j+1) (p-r)).Perm (k (b+j+(p-r))::(d++aZ k (b+j+1) (p-(r+1)))):=by
    rw[show p-r=p-(r+1)+1 by omega,wI,show b+j+1+(p-(r+1))=b+j+(p-(r+1)+1) by omega,<-List.append_assoc];exact List.perm_append_singleton _ _
   have e3:(d++[t]++aZ k (b+j+1) (p-(r+1))).Perm (t::(d++aZ k (b+j+1) (p-(r+1)))):=by
    rw[List.append_assoc];exact List.perm_middle
   have hlen:(d++aZ k (b+j+1) (p-(r+1))).length+1=p:=by rw[List.length_append,iy,hd];omega
   rw[hsym e1 (by rw[List.length_append,iy,hd];omega),hsym e2 (by rw[List.length_append,iy,hd];omega),hsym e3 (by rw[List.length_append,iy,hdt];omega),<-haff hlen,Bm hw]
  rw[bl,this,List.append_assoc];rfl
def b7 (k:Nat->Rat) (p:Nat) (x:Nat->Rat) (P:Nat) (l:List Rat):Rat:=bl k (P-p) p 0 (fun q=>x (P-p+q)) l p
theorem Uk {n:Nat} {X x:Nat->Rat} {P:Nat} (h:At n k P) (hP:p<=P) (hP2:P+p<n) (H:At N K Q) (hQ:p<=Q) (hQ2:Q+p<N) (hx:∀J,J<=Q->Q<=J+p->X J=b7 k p x P (aZ K (J+1) p)) (hl:l.length=p):b7 K p X Q l=b7 k p x P l:=by
 have hA:At n k (P-p+p):=by rwa [show P-p+p=P by omega]
 have:=xh (k:=K) (b:=Q-p) (p:=p) (n:=N) (G:=b7 k p x P) (fun {l m} hm hl=>o8 hA (by omega) hm (by omega)) (fun {u v f l} hl=>AP hl) (by rwa [show Q-p+p=Q by omega]) (by omega) (l:=l) (d:=[]) (r:=0) (y:=fun q=>X (Q-p+q)) rfl (by omega) fun j _ h2=>by
  rw[hx (Q-p+j) (by omega) (by omega)];rfl
 exact this
def kY (k:Nat->Rat) (p:Nat) (x:Nat->Rat) (t:Rat) (a j:Nat):Rat:=if j+p<=a then x j else if a<j then x (j-1)else x (j-1)+fr (k j) (k (j+p)) t*(x j-x (j-1))
def iU (a Q:Nat):Nat:=if Q<=a then Q else Q-1
theorem MV {n:Nat} {x:Nat->Rat} (hs:∀i,i+1<n->k i<=k (i+1)) (hp:1<=p) (hlo:k a<=t) (hhi:t<k (a+1)) (ha:p<=a) (h:At n k (iU a Q)) (hP:p<=iU a Q) (hP2:iU a Q+p<n) (h1:j<=Q) (h2:Q<=j+p):
  b7 k p x (iU a Q) (aZ (dO k t (a+1)) (j+1) p)=kY k p x t a j:=by
 refine adp hs hp hlo hhi ha h hP hP2 ?_ ?_ ?_<;>unfold iU<;>split<;>omega
theorem ZR {n:Nat} {x:Nat->Rat} (hs:∀i,i+1<n->k i<=k (i+1)) (hp:1<=p) (hlo:k a<=t) (hhi:t<k (a+1)) (ha:p<=a) (h:At n k (iU a Q)) (hP:p<=iU a Q) (hP2:iU a Q+p<n) (H:At (n+1) (dO k t (a+1)) Q) (hQ:p<=Q) (hQ2:Q+p<n+1) (hl:l.length=p):
  b7 (dO k t (a+1)) p (kY k p x t a) Q l=b7 k p x (iU a Q) l:=
 Uk h hP hP2 H hQ hQ2 (fun J h1 h2=>(MV hs hp hlo hhi ha h hP hP2 h1 h2).symm) hl
end Go.Am.B
namespace Go.Am.B
theorem qQ {k:Nat->Rat} {n:Nat}:cJ k t (n+1)=cJ k t n+if k n=t then 1 else 0:=rfl
theorem Gd {k:Nat->Rat} {t:Rat} {n:Nat}:∀{m:Nat},cJ k t n<=cJ k t (n+m)
 |0=>Nat.le_refl _
 |m+1=>by
  have:=Gd (k:=k) (t:=t) (n:=n) (m:=m);rw[<-Nat.add_assoc,qQ];omega
theorem Hj {k:Nat->Rat} {t:Rat} {i:Nat}:∀{l:Nat},(∀j,i<=j->j<i+l->k j=t)->l<=cJ k t (i+l)
 |0,_=>Nat.zero_le _
 |l+1,h=>by
  have:=Hj (k:=k) (t:=t) (i:=i) (l:=l) fun j h1 h2=>h j h1 (by omega);rw[<-Nat.add_assoc,qQ,if_pos (h (i+l) (by omega) (by omega))];omega
theorem OF {k:Nat->Rat} {t:Rat} {lo hi:Nat} (hlh:lo<=hi):∀{n:Nat},(∀j,j<n->k j=t->lo<=j/\j<hi)->cJ k t n<=min n hi-lo
 |0,_=>by simp[cJ]
 |n+1,h=>by
  have:=OF (k:=k) (t:=t) hlh (n:=n) fun j hj=>h j (by omega);rw[qQ];by_cases hn:k n=t
  ·rw[if_pos hn];have:=h n (by omega) hn;omega
  ·rw[if_neg hn];omega
theorem abo {n:Nat} {k:Nat->Rat} (hs:∀i,i+1<n->k i<=k (i+1)) (hhi:t<k (a+1)) (ha:a+1<n) (hlo:k a<=t) (hi:i<=a) (h:a<i+cJ k t n):k i=t:=by
 by_cases he:k i=t
 ·exact he
 ·have h1:=fT hs hi (by omega);have hlt:k i<t:=by grind
  have:=OF (k:=k) (t:=t) (lo:=i+1) (hi:=a+1) (by omega) (n:=n) fun j hj hjt=>by
   constructor
   ·by_cases c:j<=i
    ·have:=fT hs c (by omega);grind
    ·omega
   ·by_cases c:a+1<=j
    ·have:=fT hs c hj;grind
    ·omega
  omega
theorem Kn.uz {n p:Nat} {k:Nat->Rat} (h:Kn n p k) (h0:k 0<t) (h1:t<k (n-1)) (hlo:k a<=t) (hhi:t<k (a+1)) (ha:a+1<n):p<=a/\a+p+1<n:=by
 have hl:=h.len;constructor
 ·by_cases c:p<=a
  ·exact c
  ·have:=h.first (a+1) (by omega);grind
 ·by_cases c:a+p+1<n
  ·exact c
  ·have:=h.last a (by omega) (by omega);grind
theorem Kn.dO {n p:Nat} {k:Nat->Rat} (h:Kn n p k) (h0:k 0<t) (h1:t<k (n-1)) (hlo:k a<=t) (hhi:t<k (a+1)) (ha:a+1<n) (ht:cJ k t n<p):Kn (n+1) p (dO k t (a+1)):=by
 obtain⟨g1,g2⟩:=h.uz h0 h1 hlo hhi ha;have hp:=h.p1;have hl:=h.len;refine⟨hp,by omega,fun i hi=>?_,fun i hi=>?_,fun i h2 h3=>?_,fun i h2 h3=>?_⟩
 ·by_cases c1:i<a
  ·rw[jJ (by omega),jJ (by omega)];exact h.sorted i (by omega)
  ·by_cases c2:i=a
   ·subst c2;rw[jJ (by omega),pN];exact hlo
   ·by_cases c3:i=a+1
    ·subst c3;rw[pN,jC (by omega)];exact Rat.le_of_lt hhi
    ·rw[jC (by omega),jC (by omega)];have:=h.sorted (i-1) (by omega);rwa [show i-1+1=i+1-1 by omega]at this
 ·rw[jJ (by omega),jJ (by omega)];exact h.first i hi
 ·rw[jC (by omega),jC (by omega),h.last (i-1) (by omega) (by omega),show n+1-1-1=n-1 by omega]
 ·by_cases c1:i+p<a+1
  ·rw[jJ (by omega),jJ (by omega)];exact h.mult i h2 (by omega)
  ·by_cases c2:i+p=a+1
   ·rw[c2,pN,jJ (by omega)];have m:=h.mono (show i<=a by omega) (by omega);by_cases e:k i=t
    ·exfalso;have hb:∀j,i<=j->j<i+p->k j=t:=fun j hj1 hj2=>by
      have a1:=h.mono hj1 (by omega);have a2:=h.mono (show j<=a by omega) (by omega);grind
     have b1:=Hj hb;have b2:=Gd (k:=k) (t:=t) (n:=i+p) (m:=n-(i+p));rw[show i+p+(n-(i+p))=n by omega]at b2;omega
    ·grind
   ·by_cases c3:i<=a
    ·rw[jJ (by omega),jC (by omega)];have m1:=h.mono c3 (by omega);have m2:=h.mono (show a+1<=i+p-1 by omega) (by omega);grind
    ·by_cases c4:i=a+1
     ·subst c4;rw[pN,jC (by omega)];have m2:=h.mono (show a+1<=a+1+p-1 by omega) (by omega);grind
     ·rw[jC (by omega),jC (by omega)];have:=h.mult (i-1) (by omega) (by omega);rwa [show i-1+p=i+p-1 by omega]at this
theorem adb {k x:Nat->Rat} {p:Nat} {n:Nat} (hs:∀i,i+1<n->k i<=k (i+1)) (hlo:k a<=t) (hhi:t<k (a+1)) (hn:a+p<n) (hx:∀j,0<x j):0<kY k p x t a j:=by
 unfold kY;split
 ·exact hx _
 ·split
  ·exact hx _
  ·have m1:=fT hs (show j<=a by omega) (by omega);have m2:=fT hs (show a+1<=j+p by omega) (by omega);have hw:k j<k (j+p):=by grind
   have f0:=Dz (t:=t) hw (by grind);have f1:=Iz (t:=t) hw (by grind);generalize fr (k j) (k (j+p)) t=f at*;have x0:=hx (j-1);have x1:=hx j;by_cases e:f=1
   ·subst e;grind
   ·have:=Rat.mul_pos (a:=1-f) (b:=x (j-1)) (by grind) x0;have:=Rat.mul_nonneg (a:=f) (b:=x j) f0 (by grind);grind
theorem Fm {n:Nat} {k:Nat->Rat} {pc:Nat->Nat->Nat} (h0:∀i,pc 0 i=i) (h1:∀f i,pc (f+1) i=if i+1<n/\k (i+1)<=k i then pc f (i+1)else i):∀{f i l:Nat},k i<k (i+l)->i+l<n->l<=f->i<=pc f i/\pc f i<i+l/\k (pc f i)<k (pc f i+1)
 |0,i,l,hk,hn,hl=>by
  have:l=0:=by omega
  subst this;exact absurd hk (by rw[Nat.add_zero];exact Rat.lt_irrefl)
 |f+1,i,l,hk,hn,hl=>by
  have hl0:l≠0:=fun e=>by subst e;rw[Nat.add_zero]at hk;exact absurd hk Rat.lt_irrefl
  rw[h1];by_cases c:i+1<n/\k (i+1)<=k i
  ·rw[if_pos c];have:=Fm h0 h1 (f:=f) (i:=i+1) (l:=l-1) (by rw[show i+1+(l-1)=i+l by omega];have:=c.2;grind) (by omega) (by omega);obtain⟨a1,a2,a3⟩:=this;exact⟨by omega,by omega,a3⟩
  ·rw[if_neg c];exact⟨Nat.le_refl _,by omega,Rat.not_le.1 fun e=>c ⟨by omega,e⟩⟩
theorem yQ {n:Nat} {k:Nat->Rat} (h:At n k i):bJ n k (k i)=i:=wU ⟨h,Rat.le_refl,Rat.le_of_lt h.wide,.inl h.wide⟩
theorem KE {n:Nat} {k:Nat->Rat} (hs:∀i,i+1<n->k i<=k (i+1)) (hlo:k a<=t) (hhi:t<k (a+1)) (ha:a+1<n) (hq:q+1<n+1) (hw:dO k t (a+1) q<dO k t (a+1) (q+1)):
  At n k (iU a q)/\bJ n k (dO k t (a+1) q)=iU a q/\k 0<=dO k t (a+1) q/\dO k t (a+1) q<=k (n-1):=by
 have key:∀i,At n k i->k 0<=k i/\k i<=k (n-1):=fun i h=>⟨fT hs (Nat.zero_le _) (by have:=h.lt;omega),fT hs (by have:=h.lt;omega) (by omega)⟩
 by_cases c1:q<=a
 ·have e:iU a q=q:=if_pos c1;rw[e,jJ (by omega)]at*;have hA:At n k q:=⟨by omega,hs,by
   by_cases c2:q=a
   ·subst c2;grind
   ·rwa [jJ (by omega)]at hw⟩
  exact⟨hA,yQ hA,key q hA⟩
 ·have e:iU a q=q-1:=if_neg c1;rw[e];by_cases c2:q=a+1
  ·subst c2;rw[pN];have hA:At n k a:=⟨ha,hs,by grind⟩
   have:=key a hA;have m:=fT hs (show a+1<=n-1 by omega) (by omega);exact⟨hA,wU ⟨hA,hlo,Rat.le_of_lt hhi,.inl hhi⟩,by grind,by grind⟩
  ·rw[jC (by omega)]at hw ⊢;rw[jC (by omega)]at hw;have hA:At n k (q-1):=⟨by omega,hs,by rwa [show q-1+1=q+1-1 by omega]⟩
   exact⟨hA,yQ hA,key _ hA⟩
open Go Go.Am.N AV ag au IntKind Proofs.Tryz
theorem RB {k:Nat->Rat} {t:Rat}:∀{i:Nat},(∀j,j<i->k j<=t)->ia k t i=i
 |0,_=>rfl
 |i+1,h=>P3 (RB fun j hj=>h j aa) (h i aa)
theorem Nr {n:Nat} {k:Nat->Rat} (hs:∀i,i+1<n->k i<=k (i+1)) (hlo:k a<=t) (hhi:t<k (a+1)) (ha:a+1<n):ia k t n=a+1:=
 Iw (RB fun j hj=>Rat.le_trans (fT hs (show j<=a by omega) aa) hlo) hhi aa
theorem TV {k:Nat->Rat}:jo k t q=dO k t q:=rfl
def nj (c:Cu) (t:Rat) (a j:Nat):Pl:=
 ⟨⟨kY c.k c.p.toNat (fun q=>(cy (c.f q)).n.x) t a j,kY c.k c.p.toNat (fun q=>(cy (c.f q)).n.y) t a j,kY c.k c.p.toNat (fun q=>(cy (c.f q)).n.z) t a j⟩,kY c.k c.p.toNat (fun q=>(cy (c.f q)).d) t a j⟩
theorem Kn.Bb {n p:Nat} {k:Nat->Rat} (h:Kn n p k) (hj:j+p+1<n):k j<k (j+(p+1)):=by
 have hp:=h.p1;have hl:=h.len;by_cases c:j=0
 ·subst c;have m:=h.mult 1 aa aa;rw[h.first 1 aa]at m;rwa [show 0+(p+1)=1+p by omega]
 ·have m:=h.mult j aa hj;have:=h.mono (show j+p<=j+(p+1) by omega) aa;grind
theorem Kn.wide {n p P:Nat} {k:Nat->Rat} (h:Kn n p k) (hA:At n k P):p<=P/\P+p+1<n:=by
 have hw:=hA.wide;have hlt:=hA.lt;have hl:=h.len;constructor
 ·by_cases c:p<=P
  ·exact c
  ·rw[h.first P aa,h.first (P+1) aa]at hw;exact absurd hw Rat.lt_irrefl
 ·by_cases c:P+p+1<n
  ·exact c
  ·rw[h.last P aa aa,h.last (P+1) aa aa]at hw;exact absurd hw Rat.lt_irrefl
theorem Wt {c:Cu} {e:Nat} (hc:jM c) (h0:c.k 0<t) (h1:t<c.k (c.n-1)) (hlo:c.k a<=t) (hhi:t<c.k (a+1)) (ha:a+1<c.n) (hA:At c.n c.k (iU a q)) (g1:j<=q) (g2:q<=j+c.p.toNat):
  gO ⟨c.p,c.n,c.k,c.m,fun i=>cy (c.f i)⟩ (iU a q:Nat) c.p.toNat (fun i=>dO c.k t (a+1) (i+(j+1))) e=kY c.k c.p.toNat (fun i=>bY (cy (c.f i)) e) t a j:=by
 obtain⟨k1,k2,k3,k4,k5⟩:=hc;obtain⟨i1,i2⟩:=k1.uz h0 h1 hlo hhi ha;obtain⟨w1,w2⟩:=k1.wide hA;have hw:=hA.wide;have hE:iO c.n c.k c.p.toNat c.m c.p.toNat (iU a q:Nat)=0:=BO aa rfl (by
  rw[bg];rintro(h|h|h)
  ·omega
  ·omega
  ·exact absurd h (Rat.not_le.2 hw))
 unfold gO mD;dsimp only;rw[if_pos hE,bg,BL];have e1:aZ (fun i=>dO c.k t (a+1) (i+(j+1))) 0 c.p.toNat=aZ (dO c.k t (a+1)) (j+1) c.p.toNat:=by
  have:=K4 (k:=dO c.k t (a+1)) (c:=j+1) (l:=c.p.toNat) (a:=0);rw[Nat.add_zero]at this;rw[<-this];exact uW fun i _ _=>by rw[Nat.add_comm i (j+1)]
 rw[e1];exact MV (n:=c.n) (x:=fun i=>bY (cy (c.f i)) e) k1.sorted aa hlo hhi i1 hA w1 aa g1 g2
theorem V9 {c:Cu} (hc:jM c) (h0:c.k 0<t) (h1:t<c.k (c.n-1)) (hlo:c.k a<=t) (hhi:t<c.k (a+1)) (ha:a+1<c.n) (ht:cJ c.k t c.n<c.p.toNat) (hj:j<c.m+1):
  (qD ⟨c.p,c.n,c.k,c.m,fun i=>cy (c.f i)⟩ t).f j=nj c t a j:=by
 obtain⟨k1,k2,k3,k4,k5⟩:=id hc;have hK:=k1.dO h0 h1 hlo hhi ha ht;have hl:=k1.len;obtain⟨q,hq⟩:∃q,q=fj (dO c.k t (a+1)) (c.n+1) j:=⟨_,rfl⟩
 obtain⟨g1,g2,g3⟩:j<=q/\q<j+(c.p.toNat+1)/\dO c.k t (a+1) q<dO c.k t (a+1) (q+1):=by
  rw[hq];exact Fm (n:=c.n+1) (k:=dO c.k t (a+1)) (pc:=qc (dO c.k t (a+1)) (c.n+1)) (fun _=>rfl) (fun _ _=>rfl) (hK.Bb aa) aa aa
 obtain⟨hA,hI,o1,o2⟩:=KE k1.sorted hlo hhi ha aa g3;have hI2:fY c.n c.k (dO c.k t (a+1) q)=iU a q:=by
  unfold fY;rw[if_neg (by unfold bf;rintro(h|h)<;>grind)];exact hI
 show oX _ (fY c.n c.k (jo c.k t (ia c.k t c.n) (fj (jo c.k t (ia c.k t c.n)) (c.n+1) j))) c.p.toNat (fun q=>jo c.k t (ia c.k t c.n) (q+(j+1)))=_;rw[Nr k1.sorted hlo hhi ha,TV,<-hq,hI2];have key:∀e,gO ⟨c.p,c.n,c.k,c.m,fun i=>cy (c.f i)⟩ (iU a q:Nat) c.p.toNat (fun i=>dO c.k t (a+1) (i+(j+1))) e=kY c.k c.p.toNat (fun i=>bY (cy (c.f i)) e) t a j:=fun e=>Wt hc h0 h1 hlo hhi ha hA g1 aa;unfold oX;rw[key 0,key 1,key 2,key 3];rfl
theorem JP {p:Pl} (h:p.d≠0):dG (cy p)=p:=by
 obtain⟨⟨x,y,z⟩,d⟩:=p;have key:∀x:Rat,d*x/d=x:=fun x=>by rw[Rat.div_def,Rat.mul_comm d x,Rat.mul_assoc,Rat.mul_inv_cancel _ h,Rat.mul_one]
 unfold dG cy;dsimp only;rw[key,key,key]
def vr (c:Cu) (t:Rat) (a:Nat):Cu:=⟨c.p,c.n+1,dO c.k t (a+1),c.m+1,fun j=>dG (nj c t a j)⟩
def gx (c:Cu) (t:Rat):Cu:=if ig c t=0 then vr c t (bJ c.n c.k t)else Pp
theorem B1 {n p:Nat} {k:Nat->Rat} (h:Kn n p k) (h0:k 0<t) (h1:t<k (n-1)):k (bJ n k t)<=t/\t<k (bJ n k t+1)/\bJ n k t+1<n:=by
 obtain⟨g1,g2,g3⟩:=h.yg (Rat.le_of_lt h0) (Rat.le_of_lt h1);refine⟨g1.lo,?_,aa⟩;rcases g1.Hh with e|e
 ·exact e
 ·rw[e];exact h1
theorem CN {c:Cu} (h:ig c t=0):c.k 0<t/\t<c.k (c.n-1)/\cJ c.k t c.n<c.p.toNat/\c.m<40:=by
 unfold ig at h;split at h
 ·omega
 ·rename_i g1;split at h
  ·omega
  ·split at h
   ·omega
   ·have g1:=Classical.not_not.1 g1;exact⟨g1.1,g1.2,aa,aa⟩
open Go
theorem ko {x:Int} {n:Nat} (h:x.natAbs<2^n) (hn:1<=n):Sz (x:Rat) n:=
 ⟨by rw[Rat.num_intCast];exact h,by rw[Rat.den_intCast];exact Nat.lt_of_lt_of_le (show 1<2^1 by decide) (Nat.pow_le_pow_right (by decide) hn)⟩
def e9 (x:Rat):Prop:=∃z:Int,(z:Rat)=x*55440/\-110880<=z/\z<=776160
theorem e9.sz {x:Rat} (h:e9 x):Sz x 40:=by
 obtain⟨z,e,h1,h2⟩:=h;have:x=(z:Rat)/((55440:Int):Rat):=by
  rw[e,Rat.div_def,Rat.mul_assoc,show(55440:Rat)=((55440:Int):Rat)from rfl,Rat.mul_inv_cancel _ (by decide+kernel),Rat.mul_one]
 rw[this];exact(ko (n:=20) aa (by decide)).div (ko (n:=20) (by decide) (by decide))
theorem e9.order {x y:Rat} {z w:Int} (h:(z:Rat)=x*55440) (h':(w:Rat)=y*55440) (hxy:x<=y):z<=w:=by
 have:(z:Rat)<=(w:Rat):=by rw[h,h'];exact Rat.mul_le_mul_of_nonneg_right hxy (by decide+kernel)
 exact Rat.intCast_le_intCast.1 this
theorem Tn {x y:Rat} {u v:Int} (hf:f*(v:Rat)=(u:Rat)) (h0:0<=u) (h1:u<=v) (h2:0<v) (h3:v<2^20) (hx:Sz x s) (hy:Sz y s):Sz (x+f*(y-x)) (2*s+61):=by
 have hv:(v:Rat)≠0:=by
  intro e;have:v=0:=by
   have e2:(v:Rat)=((0:Int):Rat):=e;exact Rat.intCast_inj.1 e2
  omega
 have key:x+f*(y-x)=(((v-u:Int):Rat)*x+(u:Rat)*y)/(v:Rat):=by
  have e1:((v-u:Int):Rat)=(v:Rat)-(u:Rat):=by rw[Rat.intCast_sub]
  rw[e1,Rat.div_def,<-hf];have e2:((v:Rat)-f*(v:Rat))*x+f*(v:Rat)*y=(x+f*(y-x))*(v:Rat):=by grind
  rw[e2,Rat.mul_assoc,Rat.mul_inv_cancel _ hv,Rat.mul_one]
 rw[key];have a1:=(ko (x:=v-u) (n:=20) aa (by decide)).mul hx;have a2:=(ko (x:=u) (n:=20) aa (by decide)).mul hy;have a3:=(a1.add a2).div (ko (x:=v) (n:=20) aa (by decide));exact a3.more aa
theorem CZ {k x:Nat->Rat} {p n:Nat} (hs:∀i,i+1<n->k i<=k (i+1)) (hlo:k a<=t) (hhi:t<k (a+1)) (hn:a+p<n) (hk:∀i,e9 (k i)) (ht:e9 t) (hx:∀i,Sz (x i) s):Sz (kY k p x t a j) (2*s+61):=by
 unfold kY;split
 ·exact(hx _).more aa
 ·split
  ·exact(hx _).more aa
  ·have m1:=fT hs (show j<=a by omega) aa;have m2:=fT hs (show a+1<=j+p by omega) aa;have hw:k j<k (j+p):=by grind
   obtain⟨z1,e1,b1,c1⟩:=hk j;obtain⟨z2,e2,b2,c2⟩:=hk (j+p);obtain⟨z3,e3,b3,c3⟩:=ht;have o1:=e9.order e1 e3 (by grind);have o2:=e9.order e3 e2 (by grind);have o3:z1<z2:=by
    have:(z1:Rat)<(z2:Rat):=by rw[e1,e2];exact Rat.mul_lt_mul_of_pos_right hw (by decide+kernel)
    exact Rat.intCast_lt_intCast.1 this
   refine Tn (u:=z3-z1) (v:=z2-z1) ?_ aa aa aa aa (hx _) (hx _);have hf:=nk (t:=t) hw;rw[Rat.intCast_sub,Rat.intCast_sub,e1,e2,e3];have:fr (k j) (k (j+p)) t*(k (j+p)*55440-k j*55440)=fr (k j) (k (j+p)) t*(k (j+p)-k j)*55440:=by grind
   rw[this,hf];grind
theorem alY {k:Nat->Rat} (hk:∀i,e9 (k i)) (ht:e9 t) (i:Nat):e9 (dO k t q i):=by
 unfold dO;split
 ·exact hk _
 ·split
  ·exact ht
  ·exact hk _
def pT (p n:Nat) (k:Nat->Rat) (x:Nat->Nat->Rat) (N:Nat) (K:Nat->Rat) (X:Nat->Nat->Rat):Prop:=
 ∀Q,At N K Q->∃P,At n k P/\k P<=K Q/\K (Q+1)<=k (P+1)/\∀e l,l.length=p->b7 K p (X e) Q l=b7 k p (x e) P l
theorem pT.refl {p n:Nat} {k:Nat->Rat} {x:Nat->Nat->Rat}:pT p n k x n k x:=fun Q h=>⟨Q,h,Rat.le_refl,Rat.le_refl,fun _ _ _=>rfl⟩
theorem Kn.nu {n p P:Nat} {k:Nat->Rat} (h:Kn n p k) (hA:At n k P):p<=P/\P+p+1<n:=by
 have hw:=hA.wide;have hlt:=hA.lt;have hl:=h.len;constructor
 ·by_cases c:p<=P
  ·exact c
  ·rw[h.first P (by omega),h.first (P+1) (by omega)]at hw;exact absurd hw Rat.lt_irrefl
 ·by_cases c:P+p+1<n
  ·exact c
  ·rw[h.last P (by omega) (by omega),h.last (P+1) (by omega) (by omega)]at hw;exact absurd hw Rat.lt_irrefl
theorem pT.ins {p n:Nat} {k:Nat->Rat} {x:Nat->Nat->Rat} (h:pT p n k x N K X) (hK:Kn N p K) (h0:K 0<t) (h1:t<K (N-1)) (hlo:K a<=t) (hhi:t<K (a+1)) (ha:a+1<N) (ht:cJ K t N<p):
  pT p n k x (N+1) (dO K t (a+1)) fun e=>kY K p (X e) t a:=by
 intro Q hQ;have hK':=hK.dO h0 h1 hlo hhi ha ht;obtain⟨g1,g2⟩:=hK.uz h0 h1 hlo hhi ha;obtain⟨hA,_,_,_⟩:=KE hK.sorted hlo hhi ha (by have:=hQ.lt;omega) hQ.wide;obtain⟨w1,w2⟩:=hK.nu hA;obtain⟨v1,v2⟩:=hK'.nu hQ;obtain⟨P,p1,p2,p3,p4⟩:=h _ hA;refine⟨P,p1,?_,?_,fun e l hl=>?_⟩
 ·refine Rat.le_trans p2 ?_;unfold iU;by_cases c1:Q<=a
  ·rw[if_pos c1,jJ (by omega)];exact Rat.le_refl
  ·rw[if_neg c1];by_cases c2:Q=a+1
   ·subst c2;rw[pN];exact hlo
   ·rw[jC (by omega)];exact Rat.le_refl
 ·refine Rat.le_trans ?_ p3;unfold iU;by_cases c1:Q<=a
  ·rw[if_pos c1];by_cases c2:Q=a
   ·subst c2;rw[pN];exact Rat.le_of_lt hhi
   ·rw[jJ (by omega)];exact Rat.le_refl
  ·rw[if_neg c1,jC (by omega),show Q+1-1=Q-1+1 by omega];exact Rat.le_refl
 ·rw[<-p4 e l hl];exact ZR (n:=N) hK.sorted hK.p1 hlo hhi g1 hA w1 (by omega) hQ v1 (by omega) hl
open Go Go.Am.N AV ag au IntKind Proofs.Tryz
structure nr (c:Cu) (s:Nat):Prop where
 kn:jM c
 pos:∀i,0<(c.f i).d
 kd:∀i,e9 (c.k i)
 sx:∀i,Sz (cy (c.f i)).n.x s
 sy:∀i,Sz (cy (c.f i)).n.y s
 sz:∀i,Sz (cy (c.f i)).n.z s
 sd:∀i,Sz (c.f i).d s
theorem Ey {h:Pl} (hd:h.d≠0):cy (dG h)=h:=by
 obtain⟨⟨x,y,z⟩,d⟩:=h;have key:∀x:Rat,d*(x/d)=x:=fun x=>by rw[Rat.div_def,Rat.mul_comm d,Rat.mul_assoc,Rat.inv_mul_cancel _ hd,Rat.mul_one]
 unfold dG cy;dsimp only;rw[key,key,key]
theorem N7 {c:Cu} (hc:jM c) (hp:∀i,0<(c.f i).d) (h0:c.k 0<t) (h1:t<c.k (c.n-1)) (hlo:c.k a<=t) (hhi:t<c.k (a+1)) (ha:a+1<c.n):0<(nj c t a i).d:=by
 obtain⟨g1,g2⟩:=hc.1.uz h0 h1 hlo hhi ha;exact adb (n:=c.n) hc.1.sorted hlo hhi aa fun i=>hp i
theorem zN {x:Rat} (h:0<x):x≠0:=fun e=>by rw[e]at h;exact absurd h Rat.lt_irrefl
theorem nr.ins {c:Cu} (h:nr c s) (ht:e9 t) (he:ig c t=0):nr (gx c t) (2*s+61):=by
 obtain⟨e1,e2,e3,e4⟩:=CN he;obtain⟨k1,k2,k3,k4,k5⟩:=id h.kn;obtain⟨a1,a2,a3⟩:=B1 k1 e1 e2;obtain⟨g1,g2⟩:=k1.uz e1 e2 a1 a2 a3;rw[show gx c t=vr c t (bJ c.n c.k t)from if_pos he];have hpos:∀i,0<(nj c t (bJ c.n c.k t) i).d:=fun i=>N7 h.kn h.pos e1 e2 a1 a2 a3;have hl:∀i,cy (dG (nj c t (bJ c.n c.k t) i))=nj c t (bJ c.n c.k t) i:=fun i=>Ey (zN (hpos i));refine⟨⟨k1.dO e1 e2 a1 a2 a3 e3,k2,k3,show c.n+1<=c.p.toNat+41 by omega,show((c.m+1:Nat):Int)=((c.n+1:Nat):Int)-c.p-1 by omega⟩,hpos,alY h.kd ht,fun i=>?_,fun i=>?_,fun i=>?_,fun i=>?_⟩
 ·show Sz (cy (dG (nj c t (bJ c.n c.k t) i))).n.x _;rw[hl];exact CZ (n:=c.n) k1.sorted a1 a2 aa h.kd ht h.sx
 ·show Sz (cy (dG (nj c t (bJ c.n c.k t) i))).n.y _;rw[hl];exact CZ (n:=c.n) k1.sorted a1 a2 aa h.kd ht h.sy
 ·show Sz (cy (dG (nj c t (bJ c.n c.k t) i))).n.z _;rw[hl];exact CZ (n:=c.n) k1.sorted a1 a2 aa h.kd ht h.sz
 ·exact CZ (n:=c.n) k1.sorted a1 a2 aa h.kd ht h.sd
theorem nr.x {c:Cu} (h:nr c s) (i:Nat):Sz (c.f i).n.x (s+s)/\Sz (c.f i).n.y (s+s)/\Sz (c.f i).n.z (s+s):=by
 have e:=JP (zN (h.pos i));have d:(cy (c.f i)).d=(c.f i).d:=rfl;refine⟨?_,?_,?_⟩
 ·rw[<-e];exact(h.sx i).div (d▸h.sd i)
 ·rw[<-e];exact(h.sy i).div (d▸h.sd i)
 ·rw[<-e];exact(h.sz i).div (d▸h.sd i)
theorem Kn.split {p:Nat} (h:Kn N p K) (h0:K 0<t) (h1:t<K (N-1)) (hlo:K a<=t) (hhi:t<K (a+1)) (ha:a+1<N) (ht:cJ K t N=p):
  (∀i,i<=a->a<i+p->K i=t)/\(∀i,i+p<=a->K i<t)/\p+p<=a:=by
 obtain⟨g1,g2⟩:=h.uz h0 h1 hlo hhi ha;have hp:=h.p1;have run:∀i,i<=a->a<i+p->K i=t:=fun i hi h2=>abo h.sorted hhi ha hlo hi (by rw[ht];exact h2);refine⟨run,fun i hi=>?_,?_⟩
 ·have m:=h.mono (show i<=a by omega) (by omega);by_cases e:K i=t
  ·exfalso;have hb:∀j,i<=j->j<i+(p+1)->K j=t:=fun j hj1 hj2=>by
    have a1:=h.mono hj1 (by omega);have a2:=h.mono (show j<=a by omega) (by omega);grind
   have b1:=Hj hb;have b2:=Gd (k:=K) (t:=t) (n:=i+(p+1)) (m:=N-(i+(p+1)));rw[show i+(p+1)+(N-(i+(p+1)))=N by omega]at b2;omega
  ·grind
 ·by_cases c:p+p<=a
  ·exact c
  ·have e:=run p g1 (by omega);rw[h.first p (Nat.le_refl _)]at e;rw[e]at h0;exact absurd h0 Rat.lt_irrefl
theorem P8 {k:Nat->Rat} {t:Rat} {q:Nat}:∀{m:Nat},cJ (dO k t q) t (q+1+m)=cJ k t (q+m)+1
 |0=>by
  have pre:∀i,i<=q->cJ (dO k t q) t i=cJ k t i:=fun i=>by
   induction i with
   |zero=>intro _;rfl
   |succ i ih=>intro h;rw[qQ,qQ,ih aa,jJ aa]
  show cJ (dO k t q) t (q+1)=cJ k t q+1;rw[qQ,pre q bq,pN,if_pos rfl]
 |m+1=>by
  rw[<-Nat.add_assoc,qQ,P8 (m:=m),jC aa,<-Nat.add_assoc,qQ,show q+1+m-1=q+m by omega];omega
theorem afM {d:Cu} (hd:jM d) (hE:ig d t=0):(gx d t).p=d.p/\(gx d t).n=d.n+1/\(gx d t).m=d.m+1/\cJ (gx d t).k t (gx d t).n=cJ d.k t d.n+1/\(gx d t).k 0=d.k 0/\(gx d t).k ((gx d t).n-1)=d.k (d.n-1):=by
 obtain⟨b1,b2,b3,b4⟩:=CN hE;obtain⟨i1,i2,i3⟩:=B1 hd.1 b1 b2;rw[show gx d t=vr d t (bJ d.n d.k t)from if_pos hE];generalize bJ d.n d.k t=a at*;have:=P8 (k:=d.k) (t:=t) (q:=a+1) (m:=d.n-(a+1));rw[show a+1+1+(d.n-(a+1))=d.n+1 by omega,show a+1+(d.n-(a+1))=d.n by omega]at this;refine⟨rfl,rfl,rfl,this,(show dO d.k t (a+1) 0=_ from jJ aa),?_⟩;show dO d.k t (a+1) (d.n+1-1)=_;rw[jC aa];rfl
abbrev FB:aq:=⟨false,true,3,1,fun _=>.agg [.int .i64 0,.nil,.nil]⟩
abbrev Ia (c:Cu):aq:=⟨false,true,3,1,fun _=>eo c 2000 4000⟩
theorem af2:aU 218 f218:=aS func218
abbrev zz (z:Nat->Int):Nat->AV:=fun i=>.int .i64 (z i)
theorem VE {x y:Int}:bX T GA [7] 60 f218 (aE f218) ⟨aN 0 [.int .i64 x,.int .i64 y],[],0⟩=
  let b:=[(0:Nat)<1];let a:=(2:Int)^63;let d:=sQ (decide (x<0)!=decide (y<0)) x.natAbs y.natAbs;some (fork (y==0) (aj b (aj b (leaf ret [agg [AV.bool false,mag 0,mag 0],int i64 3]))) (aj ((-a<=x)::(x<a)::(-a<=y)::(y<a)::(nl x.natAbs<2^40)::(nl y.natAbs<2^40)::b) (aj b (leaf ret [rat d (dj d),int i64 0])))):=ah
theorem Zl {x y:Int} (h1:-2^63<=x) (h2:x<2^63) (h3:-2^63<=y) (h4:y<2^63) (K:Nat):aQ P 218 K [.int .i64 x,.int .i64 y] [] (aJ (.tuple [.rat ((x:Rat)/(y:Rat)) 64,.int .i64 (if y=0 then 3 else 0)]) []):=by
 refine b9 hT uO hm af2 rfl aV rfl 60 VE (fun _=>?_) K [];simp only[ag.all,ay,beq_iff_eq,beq_eq_false_iff_ne,ne_eq];refine⟨fun hb=>⟨aa,aa,?_,bP (by rw[if_pos hb]),trivial⟩,fun hb=>⟨⟨h1,h2,h3,h4,j6 (n:=64) aa aa,j6 (n:=64) aa aa,aa⟩,aa,dB (C7 hb) (IA h1 h2 h3 h4 hb),bP (by rw[if_neg hb]),trivial⟩⟩;rw[hb,show((x:Rat)/((0:Int):Rat))=0 by rw[Rat.intCast_zero,Rat.div_def,Rat.inv_zero,Rat.mul_zero]];exact jB
def Rx:Spec:=cz (kC kI (kC kI kN)) (fun a=>.tuple [.rat ((a.1:Rat)/(a.2.1:Rat)) 64,.int .i64 (if a.2.1=0 then 3 else 0)]) fun a=>[-2^63<=a.1,a.1<2^63,-2^63<=a.2.1,a.2.1<2^63]
theorem alN:aW P Rx 218:=cr fun⟨x,y,_⟩ K hn=>Zl hn.1 hn.2.1 hn.2.2.1 hn.2.2.2 K
def bS (k:Nat->Rat) (n:Nat):Nat->Nat
 |0=>0
 |i+1=>bS k n i+if i+1=n\/k i≠k (i+1)then 1 else 0
def bt (k:Nat->Rat) (n:Nat):Nat->Nat->Rat
 |0,_=>0
 |i+1,q=>if q<i+bS k n i then bt k n i q else k i
section
variable {k:Nat->Rat} {n:Nat}
theorem rW (h:i+1=n\/k i≠k (i+1)):bS k n (i+1)=bS k n i+1:=by rw[bS,if_pos h]
theorem uV (h:¬(i+1=n\/k i≠k (i+1))):bS k n (i+1)=bS k n i:=by rw[bS,if_neg h];rfl
theorem nY:bS k n i<=bS k n (i+1)/\bS k n (i+1)<=bS k n i+1:=by
 rw[bS];split<;>omega
theorem pF {i:Nat}:∀{j:Nat},i<=j->bS k n i<=bS k n j
 |0,h=>by rw[show i=0 by omega];exact Nat.le_refl _
 |j+1,h=>by
  by_cases e:i=j+1
  ·rw[e];exact Nat.le_refl _
  ·exact Nat.le_trans (pF (j:=j) (by omega)) nY.1
theorem yB:∀{i:Nat},bS k n i<=i
 |0=>Nat.le_refl _
 |i+1=>by have:=yB (i:=i);have:=(nY (k:=k) (n:=n) (i:=i)).2;omega
theorem CO {i:Nat}:∀{j:Nat},i<=j->(∀q,i<=q->q<j->¬(q+1=n\/k q≠k (q+1)))->bS k n j=bS k n i
 |0,h,_=>by rw[show i=0 by omega]
 |j+1,h,hq=>by
  by_cases e:i=j+1
  ·rw[e]
  ·rw[uV (hq j (by omega) (by omega)),CO (j:=j) (by omega) fun q h1 h2=>hq q h1 (by omega)]
theorem k7 {i q:Nat}:∀{m:Nat},i<m->i+bS k n i<=q->q<i+1+bS k n (i+1)->bt k n m q=k i
 |0,h,_,_=>by omega
 |m+1,h,h1,h2=>by
  by_cases e:i=m
  ·subst e;rw[bt,if_neg (by omega)]
  ·have:=pF (k:=k) (n:=n) (show i+1<=m by omega);rw[bt,if_pos (by omega),k7 (m:=m) (by omega) h1 h2]
theorem yN {Q:Nat}:∀{m:Nat},Q<m+bS k n m->∃i,i<m/\i+bS k n i<=Q/\Q<i+1+bS k n (i+1)
 |0,h=>by
    have:bS k n 0=0:=rfl;omega
 |m+1,h=>by
  by_cases e:Q<m+bS k n m
  ·obtain⟨i,h1,h2,h3⟩:=yN e;exact⟨i,by omega,h2,h3⟩
  ·exact⟨m,by omega,by omega,h⟩
theorem oB {p:Nat} (h:Kn n p k):Kn (n+bS k n n) (p+1) (bt k n n):=by
 have hp:=h.p1;have hl:=h.len;have src:∀{Q},Q<n+bS k n n->∃i,i<n/\i+bS k n i<=Q/\Q<i+1+bS k n (i+1)/\bt k n n Q=k i:=fun {Q} hQ=>by
  obtain⟨i,h1,h2,h3⟩:=yN hQ;exact⟨i,h1,h2,h3,k7 h1 h2 h3⟩
 have ord:∀{Q Q' i i'},Q<=Q'->i+bS k n i<=Q->Q'<i'+1+bS k n (i'+1)->i<=i':=fun {Q Q' i i'} hQ h1 h2=>by
  by_cases c:i<=i'
  ·exact c
  ·have:=pF (k:=k) (n:=n) (show i'+1<=i by omega);omega
 have dp:bS k n (p+1)=bS k n p+1:=by
  refine rW (.inr fun e=>?_);have m:=h.mult 1 (by omega) (by omega);rw[h.first 1 (by omega),show 1+p=p+1 by omega,<-e,h.first p (by omega)]at m;exact Rat.lt_irrefl m
 have dl:bS k n n=bS k n (n-1)+1:=by
  have:=rW (k:=k) (n:=n) (i:=n-1) (.inl (by omega));rwa [show n-1+1=n by omega]at this
 have m1:=pF (k:=k) (n:=n) (show p+1<=n-1 by omega);have fl:bS k n (n-1)=bS k n (n-p-1):=CO (by omega) fun q h1 h2=>by
  rintro(e|e)
  ·omega
  ·exact e (by rw[h.last q (by omega) (by omega),h.last (q+1) (by omega) (by omega)])
 refine⟨by omega,by omega,fun Q hQ=>?_,fun Q hQ=>?_,fun Q h1 h2=>?_,fun Q h1 h2=>?_⟩
 ·obtain⟨i,a1,a2,a3,a4⟩:=src (Q:=Q) (by omega);obtain⟨j,b1,b2,b3,b4⟩:=src (Q:=Q+1) hQ;rw[a4,b4];exact h.mono (ord (show Q<=Q+1 by omega) a2 b3) b1
 ·obtain⟨i,a1,a2,a3,a4⟩:=src (Q:=Q) (by omega);obtain⟨j,b1,b2,b3,b4⟩:=src (Q:=0) (by omega);have c1:=ord (i:=i) (i':=p) (Q:=Q) (Q':=p+1) (by omega) a2 (by omega);have c2:=ord (i:=j) (i':=p) (Q:=0) (Q':=p+1) (by omega) b2 (by omega);rw[a4,b4,h.first i c1,h.first j c2]
 ·obtain⟨i,a1,a2,a3,a4⟩:=src (Q:=Q) (by omega);obtain⟨j,b1,b2,b3,b4⟩:=src (Q:=n+bS k n n-1) (by omega);have c1:n<=i+p+1:=by
   by_cases c:n<=i+p+1
   ·exact c
   ·have:=pF (k:=k) (n:=n) (show i+1<=n-p-1 by omega);omega
  have c2:=ord (show Q<=n+bS k n n-1 by omega) a2 b3;rw[a4,b4,h.last i c1 a1,h.last j (by omega) b1]
 ·obtain⟨i,a1,a2,a3,a4⟩:=src (Q:=Q) (by omega);obtain⟨j,b1,b2,b3,b4⟩:=src (Q:=Q+(p+1)) (by omega);have c1:=ord (show Q<=Q+(p+1) by omega) a2 b3;have c2:=h.mono c1 b1;rw[a4,b4];by_cases e:k i<k j
  ·exact e
  ·exfalso;have e2:k i=k j:=by grind
   have flat:∀q,i<=q->q<j->¬(q+1=n\/k q≠k (q+1)):=fun q g1 g2=>by
    rintro(g|g)
    ·omega
    ·have u1:=h.mono g1 (by omega);have u2:=h.mono (show q<=q+1 by omega) (by omega);have u3:=h.mono (show q+1<=j by omega) b1;exact g (by grind)
   have g1:=CO c1 flat;have s1:=(nY (k:=k) (n:=n) (i:=i)).2;have s2:=(nY (k:=k) (n:=n) (i:=j)).2;have g2:i+p<=j/\Q=i+bS k n i:=by
    by_cases c:i<j
    ·have:=uV (flat i (Nat.le_refl _) c);omega
    ·omega
   have i0:1<=i:=by
    by_cases c:i=0
    ·subst c;have:bS k n 0=0:=rfl;omega
    ·omega
   have hj:i+p+1<n:=by
    by_cases c:i+p+1<n
    ·exact c
    ·have e3:j=n-1:=by omega
     subst e3;omega
   have:=h.mult i i0 hj;have:=h.mono g2.1 b1;grind
theorem XE (hi:i<n):bt k n n (i+bS k n i)=k i/\bt k n n (i+bS k n i+1)=(if i+1=n\/k i≠k (i+1)then k i else k (i+1)):=by
 refine⟨k7 hi (Nat.le_refl _) (by have:=(nY (k:=k) (n:=n) (i:=i)).1;omega),?_⟩;by_cases c:i+1=n\/k i≠k (i+1)
 ·rw[if_pos c,k7 hi (by omega) (by rw[rW c];omega)]
 ·have hi2:i+1<n:=by
   by_cases e:i+1=n
   ·exact absurd (.inl e) c
   ·omega
  rw[if_neg c,k7 (i:=i+1) hi2 (by rw[uV c];omega) (by have:=(nY (k:=k) (n:=n) (i:=i+1)).1;rw[uV c]at this;omega)]
end
end Go.Am.B
