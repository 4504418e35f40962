/- Poles, lists of zJ, curves, surfaces as arguments. -/
import Derived.Test.YtfjlccdmhpdiiaaGreatY8
import Derived.Test.YtfjlccdmhpdiiaaGreatZ2
set_option linter.unusedVariables false
variable {a i j m n p r s s' y:Nat}{k x:Nat->Rat}{q t:Rat}
noncomputable section
namespace Go.Am.B
open Go Go.Am.N AV Proofs.Tryz
variable {f:Nat->Nat->Pl}{h:Pl}{g:FuncId}{v z:AV}
def mP:AV->Pl
 |.agg [.agg [x,y,z],w]=>⟨⟨aF x,aF y,aF z⟩,aF w⟩
 |_=>⟨⟨0,0,0⟩,0⟩
def iX (f:Nat->AV) (n s:Nat):Prop:=∀i,i<n->bV (f i) (bH (mP (f i)) s)
abbrev aT (f:Nat->Pl) (n s:Nat):AV:=.ak 12 n (fun i=>bH (f i) s)
theorem yE {u v:Pl} {k:Nat} (h:u=v) (hk:n<=k):bV (bH u n) (bH v k):=
 h▸cM ⟨Ak rfl hk,cm rfl hk,trivial⟩
theorem mQ {f:Nat->Pl} (h:s<=s'):iX (fun i=>bH (f i) s) n s':=fun _ _=>yE rfl h
def wo:AV->Option (Nat×(Nat->AV))
 |.ak 12 n f=>some (n,f)
 |.nil=>some (0,fun _=>.nil)
 |_=>none
theorem abq {f:Nat->AV} (h:wo v=some (n,f)) (ha:iX f n s):bV v (aT (fun i=>mP (f i)) n s):=by
 unfold wo at h;split at h
 ·simp only[az,Prod.mk.injEq]at h;obtain⟨rfl,rfl⟩:=h;exact fI ha
 ·simp only[az,Prod.mk.injEq]at h;obtain⟨rfl,rfl⟩:=h;exact iT aa
 ·simp at h
def nh (s:Nat):Kind (Nat×(Nat->Pl)):=⟨fun v=>match wo v with
 |some (n,f)=>some ((n,fun i=>mP (f i)),[iX f n s])
 |none=>none,fun a=>aT a.2 a.1 s,fun {v a q} h hq=>by
  split at h
  ·rename_i h1;simp only[az,Prod.mk.injEq]at h;obtain⟨rfl,rfl⟩:=h;exact abq h1 hq
  ·simp at h⟩
abbrev bI (h:Pl) (s:Nat):AV:=.agg [.rat h.n.x s,.rat h.n.y s,.rat h.n.z s,.rat h.d s]
def Br (s:Nat):Kind Pl:=⟨fun v=>match v with
 |.agg [x,y,z,w]=>match jS x,jS y,jS z,jS w with
  |some (x,a),some (y,b),some (z,c),some (w,d)=>some (⟨⟨x,y,z⟩,w⟩,[a<=s,b<=s,c<=s,d<=s])
  |_,_,_,_=>none
 |_=>none,fun a=>bI a s,fun {v a q} h hq=>by
  split at h
  ·split at h
   ·rename_i h1 h2 h3 h4;simp only[az,Prod.mk.injEq]at h;obtain⟨rfl,rfl⟩:=h;exact cM ⟨(lz h1).trans (cm rfl hq.1),(lz h2).trans (cm rfl hq.2.1),(lz h3).trans (cm rfl hq.2.2.1),(lz h4).trans (cm rfl hq.2.2.2),trivial⟩
   ·simp at h
  ·simp at h⟩
structure Cu where
 p:Int
 n:Nat
 k:Nat->Rat
 m:Nat
 f:Nat->Pl
abbrev gC (c:Cu) (s r:Nat):AV:=.agg [.int .i64 c.p,bu c.k c.n s,aT c.f c.m r]
def CE (s r:Nat):Kind Cu:=⟨fun v=>match v with
 |.agg [p,k,f]=>match kI.read p,(kL s).read k,(nh r).read f with
  |some (p,q1),some ((n,k),q2),some ((m,f),q3)=>some (⟨p,n,k,m,f⟩,q1++(q2++q3))
  |_,_,_=>none
 |_=>none,fun a=>gC a s r,fun {v a q} h hq=>by
  split at h
  ·split at h
   ·rename_i h1 h2 h3;simp only[az,Prod.mk.injEq]at h;obtain⟨rfl,rfl⟩:=h;obtain⟨q1,hq⟩:=dS.1 hq;obtain⟨q2,q3⟩:=dS.1 hq;exact cM ⟨kI.ok h1 q1,(kL s).ok h2 q2,(nh r).ok h3 q3,trivial⟩
   ·simp at h
  ·simp at h⟩
def dn:AV->Nat
 |.ak _ n _=>n
 |_=>0
def elV:AV->Nat->AV
 |.ak _ _ f=>f
 |_=>fun _=>.nil
def dh (g:Nat->AV) (i j:Nat):Pl:=mP (elV (g i) j)
abbrev fK (f:Nat->Nat->Pl) (n m s:Nat):AV:=.ak 1 n (fun i=>aT (f i) m s)
def dN (g:Nat->AV) (n s:Nat):Prop:=∀i,i<n->bV (g i) (aT (dh g i) (dn (g 0)) s)
theorem fo (h:s<=s'):dN (fun i=>aT (f i) m s) n s':=fun _ _=>fI fun _ _=>yE rfl h
def uH (s:Nat):Kind (Nat×Nat×(Nat->Nat->Pl)):=⟨fun v=>match v with
 |.ak 1 n g=>some ((n,dn (g 0),dh g),[dN g n s])
 |_=>none,fun a=>fK a.2.2 a.1 a.2.1 s,fun {v a q} h hq=>by
  split at h
  ·simp only[az,Prod.mk.injEq]at h;obtain⟨rfl,rfl⟩:=h;exact fI hq
  ·simp at h⟩
structure Sf where
 u:Int
 v:Int
 a:Nat
 ku:Nat->Rat
 b:Nat
 kv:Nat->Rat
 n:Nat
 m:Nat
 f:Nat->Nat->Pl
abbrev bM (x:Sf) (s r:Nat):AV:=.agg [.int .i64 x.u,.int .i64 x.v,bu x.ku x.a s,bu x.kv x.b s,fK x.f x.n x.m r]
def gh (s r:Nat):Kind Sf:=⟨fun v=>match v with
 |.agg [u,w,a,b,f]=>match kI.read u,kI.read w,(kL s).read a,(kL s).read b,(uH r).read f with
  |some (u,q1),some (w,q2),some ((a,ku),q3),some ((b,kv),q4),some ((n,m,f),q5)=>some (⟨u,w,a,ku,b,kv,n,m,f⟩,q1++(q2++(q3++(q4++q5))))
  |_,_,_,_,_=>none
 |_=>none,fun a=>bM a s r,fun {v a q} h hq=>by
  split at h
  ·split at h
   ·rename_i h1 h2 h3 h4 h5;simp only[az,Prod.mk.injEq]at h;obtain⟨rfl,rfl⟩:=h;obtain⟨q1,hq⟩:=dS.1 hq;obtain⟨q2,hq⟩:=dS.1 hq;obtain⟨q3,hq⟩:=dS.1 hq;obtain⟨q4,q5⟩:=dS.1 hq;exact cM ⟨kI.ok h1 q1,kI.ok h2 q2,(kL s).ok h3 q3,(kL s).ok h4 q4,(uH r).ok h5 q5,trivial⟩
   ·simp at h
  ·simp at h⟩
theorem LB {rl:List (Nat×Nat)} {l s2:Nat} {x y:Nat->Pl} {t:AV} (hx:∀i,i<l->x i=y i) (ht:bV t (bH (y l) s')) (hk:keys t=[]) (h1:s<=s2) (h2:s'<=s2) (hi:i<l+1):
  gD rl (if i<l then bH (x i) s else nth [t] z (i-l+0)) (bH (y i) s2):=by
 by_cases h:i<l
 ·rw[if_pos h,hx i h];exact .inr ⟨rfl,yE rfl h1⟩
 ·have:i=l:=aa;subst this;rw[if_neg h,Nat.sub_self];exact .inr ⟨hk,ht.trans (yE rfl h2)⟩
open Go Go.Am.N AV ag au IntKind Proofs.Tryz
theorem al8:aU 206 f206:=aS func206
theorem TH:aU 158 f158:=aS func158
theorem agc:aU 224 f224:=aS func224
theorem acI:aU 175 f175:=aS func175
theorem aef:aU 176 f176:=aS func176
theorem aal:aU 179 f179:=aS func179
theorem akn:aU 180 f180:=aS func180
def PL:Spec:=ck fun l=>match l with
 |[.mag N]=>some (aJ (.bool true) [nl N<2^40])
 |_=>none
def GeV:aX:=[(206,PL),(123,Bf),(186,DB)]
def AN:Spec:=ck fun l=>match l with
 |[.rat q n]=>match Nat.ble n 8192 with
  |true=>some (aJ (.bool true) [])
  |false=>none
 |_=>none
def C0 (q:Rat):Nat:=max (bT q.num.natAbs) (bT q.den)
def R9:Spec:=ck fun l=>match l with
 |[.rat q n]=>match Nat.ble n 8192 with
  |true=>some (aJ (.int .i64 ((min (C0 q) n:Nat):Int)) [])
  |false=>none
 |_=>none
def AA:aX:=[nG,(158,AN)]
def Bo:aX:=[nG,(224,R9)]
abbrev kz:List Nat:=[2,0,3]
abbrev Ez (n:Nat) (k:Nat->Rat) (i:Nat):List AV:=[.bool false,ls k n,.int .i64 i]
abbrev IF (n:Nat) (k:Nat->Rat) (i:Nat):List AV:=[.bool false,bu k n 2048,.int .i64 i]
abbrev z8:Code:=aE f175
abbrev yh:Code:=aE f179
def EA:Spec:=cz (kC (kL 2048) kN) (fun _=>.bool true) fun a=>[a.1.1<2^40]
def B8:aX:=[nG,(179,EA)]
abbrev EC (n:Nat) (f:Nat->Pl) (i:Nat):List AV:=[.bool false,aT f n 2048,.int .i64 i]
abbrev xl:Code:=aE f180
def La:aX:=[(176,iR T [sG,(158,AN)] [] 60 f176)]
def Wo:aX:=[(228,Fv),(123,Bf)]
theorem acz {N:Nat}:bX T [] [6] 60 f206 (aE f206) ⟨aN 0 [.mag N],[],0⟩=
  let b:=(↑(nl N):Int)==0;let a:=i64.wrap ((↑(nl N):Int)-1);some (fork b (aj [b=true] (leaf ret [AV.bool true])) (aj [b=false,(0:Int)<=a/\a.toNat<nl N] (leaf ret [AV.bool (bif false then true else(↑(aD N a.toNat):Int)!=0)]))):=ah
theorem U4:bX T GeV [19,27,32,35,42,51] 60 f158 (aE f158) ⟨aN 0 [.rat q n],[],0⟩=
  let p:=bif !true then true else !true;let h:=Int.toNat (0:Int);let g:=decide (q<0);let e:=q.num.natAbs;let u:ag (List AV):=leaf ret [AV.bool false];let y:=2^40;let a:=0<1;let w:=if q.den=1 then 0 else q.den;let r:=(↑(nl w):Int);let d:=nl w<y;let b:=nl e<y;let k:=(↑(nl (e.gcd q.den)):Int)==1;let f:=(0:Int)<=0/\h<nl w;let x:=bif p then true else false;let l:=(↑(nl e):Int)==0;let t:=bif p then true else bif true then(↑(aD w h):Int)==1 else false;let s:=[a,l=true,a,g=true];let o:=[a,l=true,a,g=false,a];let j:=r==1;let v:ag (List AV):=aj [a,a,nl e<2^38,nl q.den<2^38] (fork k (aj [k=true,(0:Int)<=0/\h<nl (e.gcd q.den)] (leaf ret [AV.bool (bif true then(↑(aD (e.gcd q.den) h):Int)==1 else false)])) (aj [k=false] u));let i:ag (List AV):=fork true u v;let m:ag (List AV):=fork (bif false then true else bif true then bif false then true else decide (r>0)else false) u v;some (fork j (fork t (aj [a,b,a,d,a,j=true,a,f,t=true] i) (fork l (fork g (aj (a::b::a::d::a::(j=true)::a::f::(t=false)::s) i) (aj (a::b::a::d::a::(j=true)::a::f::(t=false)::o) m)) (aj [a,b,a,d,a,j=true,a,f,t=false,a,l=false] (fork false u v)))) (fork false (aj [a,b,a,d,a,j=false,x=true] i) (fork l (fork g (aj (a::b::a::d::a::(j=false)::(x=false)::s) i) (aj (a::b::a::d::a::(j=false)::(x=false)::o) m)) (aj [a,b,a,d,a,j=false,x=false,a,l=false] (fork false u v))))):=ah
theorem aka:aI T AA [] 60 kz (before z8 [1,0,1]) ⟨aN 0 [ls k n],[],0⟩=
  some (leaf normal ([AV.bool false,ak 3 n fun i=>rat (k i) 4096,int i64 0],[])):=ah
theorem akO:aI T AA [7] 60 kz [part z8 [1,0,1,0,0]] ⟨aA kz (Ez n k i),[],1⟩=
  let d:=ak 3 n fun i=>rat (k i) 4096;let a:=(↑i:Int);let b:=a+1;some (fork (decide (a<(↑n:Int))) (aj [(0:Int)<=a/\a.toNat<n] (aj [-(2:Int)^63<=b/\b<2^63] (leaf normal ([AV.bool false,d,int i64 b],[])))) (leaf (exit 0) ([AV.bool false,d,int i64 a],[]))):=ah
theorem ahF:ct T AA [] 60 f175 [part z8 [1,1]] ⟨aA kz (Ez n k i),[],1⟩=
  some (leaf ret [AV.bool true]):=ah
theorem alD:aI T Bo [] 60 kz (before yh [1,0,1]) ⟨aN 0 [bu k n 2048],[],0⟩=
  some (leaf normal ([AV.bool false,ak 3 n fun i=>rat (k i) 2048,int i64 0],[])):=ah
theorem aec:aI T Bo [7,200015] 60 kz [part yh [1,0,1,0,0]] ⟨aA kz (IF n k i),[],1⟩=
  let d:=ak 3 n fun i=>rat (k i) 2048;let a:=(↑i:Int);let b:=a+1;let e:=(↑(Min.min (C0 (k a.toNat)) 2048):Int);some (fork (decide (a<(↑n:Int))) (aj [(0:Int)<=a/\a.toNat<n] (aj [decide (e>2048)=false] (aj [-(2:Int)^63<=b/\b<2^63] (leaf normal ([AV.bool false,d,int i64 b],[]))))) (leaf (exit 0) ([AV.bool false,d,int i64 a],[]))):=ah
theorem ajy:ct T Bo [] 60 f179 [part yh [1,1]] ⟨aA kz (IF n k i),[],1⟩=
  some (leaf ret [AV.bool true]):=ah
theorem Zt {f:Nat->Pl}:aI T B8 [] 60 kz (before xl [1,0,1]) ⟨aN 0 [aT f n 2048],[],0⟩=
  some (leaf normal ([AV.bool false,ak 12 n fun i=>agg [agg [rat (f i).n.x 2048,rat (f i).n.y 2048,rat (f i).n.z 2048],rat (f i).d 2048],int i64 0],[])):=ah
theorem acS {f:Nat->Pl}:aI T B8 [7] 60 kz [part xl [1,0,1,0,0]] ⟨aA kz (EC n f i),[],1⟩=
  let e:=(↑(3:Nat):Int);let a:=(↑i:Int);let j:=ak 12 n fun i=>agg [agg [rat (f i).n.x 2048,rat (f i).n.y 2048,rat (f i).n.z 2048],rat (f i).d 2048];let h:=a+1;let g:=(f a.toNat).n;let b:=(0:Int)<=a/\a.toNat<n;some (fork (decide (a<(↑n:Int))) (aj [b,(0:Int)<=0/\(0:Int)<e,b,(0:Int)<=1/\(1:Int)<e,b,(0:Int)<=2/\(2:Int)<e,b,(4:Nat)*3<=2^24,bh (fun i=>nth [rat g.x 2048,rat g.y 2048,rat g.z 2048,rat (f a.toNat).d 2048] (rat 0 1) (i+0)) 4 2048,(4:Nat)<2^40] (aj [-(2:Int)^63<=h/\h<2^63] (leaf normal ([AV.bool false,j,int i64 h],[])))) (leaf (exit 0) ([AV.bool false,j,int i64 a],[]))):=ah
theorem akQ {f:Nat->Pl}:ct T B8 [] 60 f180 [part xl [1,1]] ⟨aA kz (EC n f i),[],1⟩=
  some (leaf ret [AV.bool true]):=ah
theorem aiQ:bX T Wo [] 60 f224 (aE f224) ⟨aN 0 [.rat q n],[],0⟩=
  let a:=q.num.natAbs;let d:=(↑(bT q.den):Int);let b:=(↑(bT a):Int);some (aj [(0:Nat)<1,nl a<2^40,nl a=nl a,(0:Nat)<1,nl q.den<2^40,nl q.den=nl q.den] (leaf ret [int i64 (if b<d then d else b)])):=ah
theorem ae3:aW P PL 206:=by
 refine cK fun K args r hk hs _=>?_;split at hs
 ·rename_i N;simp only[az]at hs;subst hs;refine b9 (r:=aJ (.bool true) [nl N<2^40]) hT bw hm al8 rfl aV rfl 60 acz (fun need=>?_) K [];have need:nl N<2^40:=need;have e:nl N≠0->i64.wrap ((nl N:Int)-1)=(nl N:Int)-1:=fun h=>wrap_i64 aa aa;simp only[ag.all,ay,beq_iff_eq,beq_eq_false_iff_ne,ne_eq];refine⟨fun h=>⟨h,.refl _⟩,fun h=>?_⟩;have h0:nl N≠0:=aa;have hN:N≠0:=fun h2=>h0 (by rw[h2];rfl);rw[e h0,show((nl N:Int)-1).toNat=nl N-1 by omega];refine⟨⟨h,⟨aa,aa⟩⟩,gQ ?_⟩;rw[cond_false,bne_iff_ne];have:=yL hN;omega
 ·simp at hs
theorem ZP (hn:n<=8192) (K:Nat):aQ P 158 K [.rat q n] [] (aJ (.bool true) []):=by
 refine jn fun⟨hq,_⟩=>?_;have hq:Sz q n:=hq;refine b9 (r:=aJ (.bool true) []) hT (aH ae3 (aH GL (aH Lg bw))) hm TH rfl aV rfl 60 U4 (fun _=>?_) K [];have hg:Nat.gcd q.num.natAbs q.den=1:=q.reduced;obtain⟨d,hd⟩:∃d,d=if q.den=1 then 0 else q.den:=⟨_,rfl⟩
 have k1:=fR (n:=n) hq.1 aa;have k2:=fR (n:=n) hq.2 aa;have k3:nl d<=nl q.den:=by rw[hd];exact iF Qn
 have k4:nl d=1->¬(aD d 0:Int)=1:=fun h1 h2=>by
  have h3:d<2^32:=by have:=dL.1 (show nl d<=1 by omega);simpa using this
  have h4:aD d 0=d:=by unfold aD;simp;omega
  rw[h4]at h2;have h5:d=1:=aa;rw[hd]at h5;split at h5<;>omega
 have k5:nl q.num.natAbs=0->¬q<0/\nl d=0:=fun h1=>by
  have h2:q.num.natAbs=0:=by
   by_cases h:q.num.natAbs=0
   ·exact h
   ·unfold nl at h1;rw[if_neg h]at h1;omega
  have h3:q=0:=Rat.num_eq_zero.1 aa;subst h3;rw[hd];exact⟨by decide,by decide⟩
 simp only[ag.all,ay,hg,<-hd,show nl 1=1 from by decide,show aD 1 0=1 from by decide,Int.toNat_zero];by_cases h7:nl d=1
 ·have h4:=k4 h7;have h6:nl q.num.natAbs≠0:=fun h=>by have:=(k5 h).2;omega
  simp[h7,h4,h6];exact⟨aa,⟨aa,aa⟩,.refl _⟩
 ·by_cases h6:nl q.num.natAbs=0
  ·obtain⟨h8,h9⟩:=k5 h6;simp[h9,h6,h8];exact⟨aa,.refl _⟩
  ·simp[h7,h6];exact⟨fun h=>absurd h aa,fun h=>⟨⟨aa,aa,h⟩,⟨aa,aa⟩,.refl _⟩⟩
theorem E1:aW P AN 158:=by
 refine cK fun K args r hk hs _=>?_;split at hs
 ·split at hs
  ·rename_i hb;simp only[az]at hs;subst hs;exact ZP (Nat.le_of_ble_eq_true hb) K
  ·simp at hs
 ·simp at hs
theorem acK:aW P R9 224:=by
 refine cK fun K args r hk hs _=>?_;split at hs
 ·rename_i q n;split at hs
  ·rename_i hb;have hn:=Nat.le_of_ble_eq_true hb;simp only[az]at hs;subst hs;refine jn fun⟨hq,_⟩=>?_;have hq:Sz q n:=hq;refine b9 (r:=aJ (.int .i64 ((min (C0 q) n:Nat):Int)) []) hT (aH Pu (aH GL bw)) hm agc rfl aV rfl 60 aiQ (fun _=>?_) K [];have n1:=fR (n:=n) hq.1 aa;have n2:=fR (n:=n) hq.2 aa;have b1:=iS.2 hq.1;have b2:=iS.2 hq.2;simp only[ag.all,ay];refine⟨⟨aa,aa,trivial,aa,aa,trivial⟩,bP ?_⟩;unfold C0;split<;>omega
  ·simp at hs
 ·simp at hs
theorem acA:bn P AA:=cB (aH E1 bw)
theorem aeY:bn P Bo:=cB (aH acK bw)
theorem afO (hn:n<2^40) (K:Nat):aQ P 175 K [ls k n] [] (aJ (.bool true) []):=by
 refine gP (r:=aJ (.bool true) []) hT acA hm acI rfl aV rfl [1,0,1] (i:=0) (y:=part z8 [1,0,1,0,0]) (z:=part z8 [1,1]) ah ah ah (f1:=[]) (f2:=[7]) (f3:=[]) 60 kz 1
  (fun i:Nat=>Ez n k i) (fun _=>[]) (fun i=>i<=n) (fun _=>True) (fun i=>n-i) (fun _=>⟨⟨_,aka,?_⟩,fun i hi=>⟨_,akO,?_⟩,fun i hi=>⟨_,ahF,?_⟩⟩) K []
 ·simp only[ag.all,ay];exact⟨0,Nat.zero_le _,cT.vals rfl⟩
 ·simp only[ag.all,ay,br,bC];exact⟨fun h=>⟨aa,aa,i+1,aa,by dsimp only;omega,cT.vals rfl⟩,fun h=>⟨rfl,i,trivial,cT.vals rfl⟩⟩
 ·simp only[ag.all,ay];exact .refl _
def PW:Spec:=cz (kC (kL sK) kN) (fun _=>.bool true) fun a=>[a.1.1<2^40]
theorem afc:aW P PW 175:=cr fun⟨⟨n,k⟩,_⟩ K hn=>afO hn K
theorem XA (hn:n<2^40) (K:Nat):aQ P 179 K [bu k n 2048] [] (aJ (.bool true) []):=by
 refine gP (r:=aJ (.bool true) []) hT aeY hm aal rfl aV rfl [1,0,1] (i:=0) (y:=part yh [1,0,1,0,0]) (z:=part yh [1,1]) ah ah ah (f1:=[]) (f2:=[7,200015]) (f3:=[]) 60 kz 1
  (fun i:Nat=>IF n k i) (fun _=>[]) (fun i=>i<=n) (fun _=>True) (fun i=>n-i) (fun _=>⟨⟨_,alD,?_⟩,fun i hi=>⟨_,aec,?_⟩,fun i hi=>⟨_,ajy,?_⟩⟩) K []
 ·simp only[ag.all,ay];exact⟨0,Nat.zero_le _,cT.vals rfl⟩
 ·simp only[ag.all,ay,br,bC];exact⟨fun h=>⟨aa,aa,aa,i+1,aa,by dsimp only;omega,cT.vals rfl⟩,fun h=>⟨rfl,i,trivial,cT.vals rfl⟩⟩
 ·simp only[ag.all,ay];exact .refl _
theorem Sn:aW P EA 179:=cr fun⟨⟨n,k⟩,_⟩ K hn=>XA hn K
theorem ZL:bn P B8:=cB (aH Sn bw)
theorem afe {f:Nat->Pl} (hn:n<2^40) (K:Nat):aQ P 180 K [aT f n 2048] [] (aJ (.bool true) []):=by
 refine gP (r:=aJ (.bool true) []) hT ZL hm akn rfl aV rfl [1,0,1] (i:=0) (y:=part xl [1,0,1,0,0]) (z:=part xl [1,1]) ah ah ah (f1:=[]) (f2:=[7]) (f3:=[]) 60 kz 1
  (fun i:Nat=>EC n f i) (fun _=>[]) (fun i=>i<=n) (fun _=>True) (fun i=>n-i) (fun _=>⟨⟨_,Zt,?_⟩,fun i hi=>⟨_,acS,?_⟩,fun i hi=>⟨_,akQ,?_⟩⟩) K []
 ·simp only[ag.all,ay];exact⟨0,Nat.zero_le _,cT.vals rfl⟩
 ·simp only[ag.all,ay,br,bC];exact⟨fun h=>⟨⟨aa,aa,aa,aa,aa,aa,aa,aa,fun j hj=>by
   match j,hj with
   |0,_|1,_|2,_|3,_=>exact .refl _,aa⟩,aa,i+1,aa,by dsimp only;omega,cT.vals rfl⟩,fun h=>⟨rfl,i,trivial,cT.vals rfl⟩⟩
 ·simp only[ag.all,ay];exact .refl _
def Lw:Spec:=cz (kC (nh 2048) kN) (fun _=>.bool true) fun a=>[a.1.1<2^40]
theorem ahU:aW P Lw 180:=cr fun⟨⟨n,f⟩,_⟩ K hn=>afe hn K
theorem TR:bn P La:=aH (je hT (kq (aH E1 bw)) hm aef _ _) bw
theorem WX:aU 246 f246:=aS func246
theorem OX:aU 226 f226:=aS func226
theorem adB:aU 183 f183:=aS func183
def QD:aX:=(225,j4 kR kR zP q9)::l6
abbrev s7:Nat:=8193
def JZ:Spec:=cz (kC (gv s7) (kC (gv s7) kN)) (fun a=>.rat (a.1/a.2.1) sF) fun _=>[]
theorem ahI {a b:Rat}:bX T QD [] 60 f246 (aE f246) ⟨aN 0 [.rat a n,.rat b n],[],0⟩=
  let e:=n<2^41;let d:=0<1;some (aj [d,d,e,e,d] (aj [d,d] (aj [d] (leaf ret [rat (a/b) (n+n)])))):=ah
theorem agh:bn P QD:=aH (kS fun _ _ K hn=>RU hn.1 hn.2 K) ng
theorem afE:aW P JZ 246:=cr fun⟨a,b,_⟩ K _=>by
 refine b9 (r:=aJ (.rat (a/b) sF) []) hT agh hm WX rfl aV rfl 60 ahI (fun _=>?_) K [];simp only[ag.all,ay];have h1:s7=8193:=rfl
 (repeat' with_reducible refine And.intro ?_ ?_)
 all_goals first|omega|exact(cm rfl (show s7+s7<=sF by decide))
def MM (d:Nat):Spec:=cz (kC (kL sK) (kC kI (kC kI (kC kI (kC (gv sK) kN))))) (fun a=>.rat (nC a.1.2 a.2.2.2.1.toNat a.2.2.2.2.1 d a.2.1.toNat) (SB d)) fun a=>[a.2.2.1=d,0<=a.2.1,0<=a.2.2.2.1,a.2.1+d+1<a.1.1,a.1.1<2^40,a.2.2.2.1<2^40,d<=6]
def LC (d:Nat):aX:=nG::(226,MM d)::(246,JZ)::(51,sZ)::l6
abbrev zL (n:Nat) (k:Nat->Rat) (i d a:Nat) (t:Rat):List AV:=[ls k n,.int .i64 i,.int .i64 d,.int .i64 a,.rat t sK]
theorem alq:bX T (nG::(51,sZ)::l6) [17] 60 f226 (aE f226) ⟨aN 0 (zL n k i 0 a t),[],0⟩=
  let b:=[(0:Nat)<1];some (fork ((↑i:Int)==(↑a:Int)) (aj b (aj b (leaf ret [rat (↑(1:Int):Rat) 1]))) (aj b (aj b (leaf ret [agg [AV.bool false,mag 0,mag 0]])))):=ah
theorem ZS {d:Nat}:bX T (LC d) [200014,23,29] 60 f226 (aE f226) ⟨aN 0 (zL n k i (d+1) a t),[],0⟩=
  let B:=sK+sK+1<=s7;let m:=(↑d:Int);let A:=n<2^40;let w:=bh (fun i=>rat (k i) sK) n sK;let p:=(↑(d+1):Int);let b:=(↑a:Int);let h:=(↑i:Int);let g:=0<1;let f:=2^41;let e:=(2:Int)^63;let z:=b<2^40;let x:=(0:Int)<=h/\h.toNat<n;let q:=decide (b<h);let v:=[sK<f,sK<f,B,B,g];let u:ag (List AV):=aj [g] (aj [g] (leaf ret [agg [AV.bool false,mag 0,mag 0]]));let j:=h+1;let s:=p-1;let r:=h+p;let l:=-e<=r/\r<e;let o:=r+1;let y:=(0:Int)<=o/\o.toNat<n;let C:ag (List AV):=aj (g::x::(sK<f)::(sK<f)::l::((0:Int)<=r/\r.toNat<n)::x::v) (aj (l::(-e<=o/\o<e)::y::g::(sK<f)::(sK<f)::l::(-e<=o/\o<e)::y::(-e<=j/\j<e)::((0:Int)<=j/\j.toNat<n)::v) (aj [g,-e<=s/\s<e,g,w,sK<=sK,s=m,(0:Int)<=h,(0:Int)<=b,h+m+1<(↑n:Int),A,z,d<=6,sF<f,SB d<f,g,-e<=j/\j<e,-e<=s/\s<e,g,w,sK<=sK,s=m,(0:Int)<=j,(0:Int)<=b,j+m+1<(↑n:Int),A,z,d<=6,sF<f,SB d<f,sF+SB d<f,sF+SB d<f,g] (aj [g] (leaf ret [rat ((t-k h.toNat)/(k r.toNat-k h.toNat)*nC (fun i=>aF (rat (k i) sK)) b.toNat t d h.toNat+(k o.toNat-t)/(k o.toNat-k j.toNat)*nC (fun i=>aF (rat (k i) sK)) b.toNat t d j.toNat) (sF+SB d+(sF+SB d)+1)]))));some (aj [(p==0)=false] (fork q (aj [q=true] (fork true u C)) (aj [q=false,l] (fork (bif false then true else decide (b>r)) u C)))):=ah
def yc (p:Nat):aX:=nG::(118,r5)::(226,MM p)::l6
abbrev sM:List Nat:=[0,1,5,9,11,12,6,7,8]
abbrev AU (n:Nat) (k:Nat->Rat) (p a:Nat) (v:AV) (i:Int):List AV:=[ls k n,.int .i64 p,.ptr 0 0 3 0 [],.int .i64 a,v,.int .i64 i,.int .i64 0,.nil,.int .i64 0]
abbrev Ba:Code:=aE f183
abbrev FC:Code:=part Ba [1,1,1,1,0,1,0,0]
theorem aif:aI T (yc p) [21] 60 sM (before Ba [1,1,1,1,0,1]) ⟨aN 0 [ls k n,.int .i64 p,.rat t sK],[],0⟩=
  let d:=int i64 0;let h:=cA n (fun i=>aF (rat (k i) sK)) t;let a:=(↑p:Int);let g:=ak 3 n fun i=>rat (k i) 4096;let f:=ptr 0 0 (bp (rat t sK)).size 0 [];let e:Nat×aq:=(0,aq.mk false true (bp (rat t sK)).size 1 fun x=>rat t 4096);let b:=(↑(fY n (fun i=>aF (rat (k i) sK)) t):Int);some (aj [(0:Nat)<1,bh (fun i=>rat (k i) sK) n sK,sK<=sK,Kn n a.toNat fun i=>aF (rat (k i) sK),(0:Int)<=a,n<2^40] (fork (h !=(0:Int)) (leaf ret ([g,int i64 a,f,int i64 b,tuple [],tuple [],d,nil,int i64 h],[e])) (aj [-(2:Int)^63<=b-a/\b-a<2^63] (leaf normal ([g,int i64 a,f,int i64 b,nil,int i64 (b-a),d,nil,d],[e]))))):=ah
theorem abE {i:Int}:aI T (yc p) [28] 60 sM [FC] ⟨aA sM (AU n k p a .nil i),[(0,tP t sK)],2⟩=
  let d:=(↑p:Int);let b:=(↑a:Int);let e:=int i64 0;let h:=ptr 0 0 3 0 [];let g:=ak 3 n fun i=>rat (k i) 4096;let f:Nat×aq:=((0:Nat),bG fun x=>rat t 4096);some (fork (decide (i<=b)) (aj [(0:Nat)<1,bh (fun i=>rat (k i) sK) n sK,sK<=sK,d=d,(0:Int)<=i,(0:Int)<=b,i+d+1<(↑n:Int),n<2^40,b<2^40,p<=6,(1:Nat)*3<=2^24,(0:Nat)<1/\1*((56:Nat)+1)*2<=2^47] (aj [-(2:Int)^63<=i+1/\i+1<(2:Int)^63] (leaf normal ([g,int i64 d,h,int i64 b,own 45058 3 0 1,int i64 (i+1),e,nil,e],[(45058,aq.mk true true 3 1 fun i_1=>nth [rat (nC (fun i=>aF (rat (k i) sK)) b.toNat t p i.toNat) (SB p)] (rat 0 1) (i_1+0)),f])))) (leaf (exit 0) ([g,int i64 d,h,int i64 b,nil,int i64 i,e,nil,e],[f]))):=ah
theorem ah5 {i:Int}:aI T (yc p) [28] 60 sM [FC] ⟨aA sM (AU n k p a (.own 1 3 0 (j+1)) i),[(1,j0 (j+1) x fun _=>SB p),(0,tP t sK)],2⟩=
  let e:=(↑p:Int);let b:=(↑a:Int);let f:=int i64 0;let m:=ptr 0 0 3 0 [];let l:=ak 3 n fun i=>rat (k i) 4096;let d:=j+1;let h:Nat×aq:=((0:Nat),bG fun x=>rat t 4096);let g:=d+1;some (fork (decide (i<=b)) (aj [(0:Nat)<1,bh (fun i=>rat (k i) sK) n sK,sK<=sK,e=e,(0:Int)<=i,(0:Int)<=b,i+e+1<(↑n:Int),n<2^40,b<2^40,p<=6,(1:Nat)*3<=2^24,g*((56:Nat)+1)*2<=2^47] (aj [-(2:Int)^63<=i+1/\i+1<(2:Int)^63] (leaf normal ([l,int i64 e,m,int i64 b,own 45058 3 0 g,int i64 (i+1),f,nil,f],[(45058,aq.mk true true 3 g fun i_1=>if i_1<d then rat (x i_1) (SB p)else nth [rat (nC (fun i=>aF (rat (k i) sK)) b.toNat t p i.toNat) (SB p)] (rat 0 1) (i_1-d+0)),h])))) (leaf (exit 0) ([l,int i64 e,m,int i64 b,own 1 3 0 d,int i64 i,f,nil,f],[(1,aq.mk true true 3 d fun i=>rat (x i) (SB p)),h]))):=ah
theorem Ta {i:Int}:ct T (yc p) [] 60 f183 [part Ba [1,1,1,1,1]] ⟨aA sM (AU n k p a (.own 1 3 0 (j+1)) i),[(1,j0 (j+1) x fun _=>SB p),(0,tP t sK)],2⟩=
  let b:=(↑a:Int)-(↑p:Int);some (aj [-(2:Int)^63<=b/\b<2^63] (leaf ret [int i64 b,ak 3 (j+1) fun i=>rat (x (i+0)) (SB p),int i64 0])):=ah
theorem ai4:bn P (nG::(51,sZ)::l6):=cB (aH (zf AW) ng)
theorem Jz {n:Nat} {k:Nat->Rat} {t:Rat} (hn:n<2^40):∀d i a,i+d+1<n->a<2^40->d<=6->∀K,aQ P 226 K (zL n k i d a t) [] (aJ (.rat (nC k a t d i) (SB d)) [])
 |0,i,a,hi,ha,hd,K=>by
  refine b9 (r:=aJ (.rat (nC k a t 0 i) (SB 0)) []) hT ai4 hm OX rfl aV rfl 60 alq (fun _=>?_) K [];simp only[ag.all,ay,beq_iff_eq,beq_eq_false_iff_ne,ne_eq];refine⟨fun h=>⟨aa,aa,?_⟩,fun h=>⟨aa,aa,?_⟩⟩
  ·unfold nC;rw[if_pos aa];exact cm rfl (by decide)
  ·unfold nC;rw[if_neg aa];exact jB (k:=65535)
 |d+1,i,a,hi,ha,hd,K=>by
  have hΓ:bn P (LC d):=cB (aH (cr fun⟨⟨n',k'⟩,i',d',a',t',_⟩ K hn'=>by
   obtain⟨h1,h2,h3,h4,h5,h6,h7⟩:=hn';simp only at h1 h2 h3 h4 h5 h6;have:=Jz (n:=n') (k:=k') (t:=t') h5 d i'.toNat a'.toNat aa aa h7 K;unfold zL at this;rw[Int.toNat_of_nonneg h2,Int.toNat_of_nonneg h3]at this;rw[h1];exact this) (aH afE (aH (zf AW) ng)))
  refine b9 (r:=aJ (.rat (nC k a t (d+1) i) (SB (d+1))) []) hT hΓ hm OX rfl aV rfl 60 ZS (fun _=>?_) K [];have h1:=x5 (d:=d);have h2:=s4 (d:=d);have h3:=sO (d:=d) aa;have h4:sV=268435456:=rfl;have h5:=xy;have h6:sK=4096:=rfl;have h7:s7=8193:=rfl;simp only[ag.all,ay,mE,beq_eq_false_iff_ne,ne_eq,br,bC,cond_false,bg,show((i:Int)+((d+1:Nat):Int)).toNat=i+(d+1) by omega,show((i:Int)+((d+1:Nat):Int)+1).toNat=i+(d+2) by omega,show((i:Int)+1).toNat=i+1 by omega];rw[nC]
  (repeat' with_reducible first|refine And.intro ?_ ?_|intro _)
  all_goals first|omega|exact bL bq|exact absurd ‹true=false› (by decide)|(rw[if_pos aa];exact jB (k:=SB (d+1)-1))|skip
  all_goals first|(rw[if_pos aa,show SB (d+1)=SB (d+1)-1+1 by omega];exact jB)|skip
  rw[if_neg aa];exact cm rfl aa
theorem XZ:bn P (yc p):=cB (aH Qr (aH (cr fun⟨⟨n',k'⟩,i',d',a',t',_⟩ K hn'=>by
 obtain⟨h1,h2,h3,h4,h5,h6,h7⟩:=hn';simp only at h1 h2 h3 h4 h5 h6;have:=Jz (n:=n') (k:=k') (t:=t') h5 p i'.toNat a'.toNat aa aa h7 K;unfold zL at this;rw[Int.toNat_of_nonneg h2,Int.toNat_of_nonneg h3]at this;rw[h1];exact this) ng))
theorem alS (h:Kn n p k) (hp6:p<=6) (hn:n<2^40) (K:Nat):aQ P 183 K [ls k n,.int .i64 p,.rat t sK] [] (aJ (vq n k p t) []):=by
 refine gP (r:=aJ (vq n k p t) []) hT XZ hm adB rfl aV rfl [1,1,1,1,0,1] (i:=0) (y:=FC) (z:=part Ba [1,1,1,1,1]) ah ah ah (f1:=[21]) (f2:=[28]) (f3:=[]) 60 sM 2
  (fun j:Nat=>AU n k p (bJ n k t) (match j with
   |0=>.nil
   |_+1=>.own 1 3 0 j) ((bJ n k t:Int)-p+j)) (fun j=>match j with
   |0=>[(0,tP t sK)]
   |_+1=>[(1,j0 j (fun j=>nC k (bJ n k t) t p (bJ n k t-p+j)) fun _=>SB p),(0,tP t sK)])
  (fun j=>j<=p+1/\¬bf n k t) (fun j=>j=p+1/\¬bf n k t) (fun j=>p+1-j) (fun _=>⟨⟨_,aif,?_⟩,fun j ⟨hj,hin⟩=>?_,fun j ⟨hj,hin⟩=>?_⟩) K []
 ·simp only[ag.all,ay,mE,bne_iff_ne,ne_eq,bne_eq_false_iff_eq,bg];refine⟨⟨aa,bL bq,bq,h,aa,hn⟩,fun hout=>?_,fun hin=>?_⟩
  ·have h1:=zK hout;exact⟨[.int .i64 0,.nil,.int .i64 (cA n k t)],ah,by rw[show cA n k t=7 by unfold cA;rw[if_pos h1]];exact JT h1⟩
  ·have hin:=uB hin;have hv:=h.lf hin;have hii:fY n k t=bJ n k t:=by unfold fY;rw[if_neg hin]
   simp only[hii];exact⟨aa,0,⟨aa,hin⟩,[(0,0)],rfl,by simp only[Int.natCast_zero,Int.add_zero];rfl,rfl,aL trivial⟩
 ·have hv:=h.lf hin;cases j with
  |zero=>
   refine⟨_,abE,?_⟩;simp only[ag.all,ay,mE,br,bC,bg,Int.natCast_zero,Int.add_zero];refine⟨fun h1=>⟨⟨aa,bL bq,bq,trivial,aa,aa,aa,hn,aa,aa,aa,aa⟩,aa,1,⟨aa,hin⟩,by dsimp only;omega,[(0,0),(1,45058)],rfl,rfl,rfl,cj rfl rfl rfl (fun i hi=>WW (y:=fun j=>nC k (bJ n k t) t p (bJ n k t-p+j)) (by rw[show((bJ n k t:Int)-p).toNat=bJ n k t-p by omega];rfl) bq hi) (aL trivial)⟩,fun h1=>aa⟩
  |succ j=>
   refine⟨_,ah5,?_⟩;simp only[ag.all,ay,mE,br,bC,bg];refine⟨fun h1=>⟨⟨aa,bL bq,bq,trivial,aa,aa,aa,hn,aa,aa,aa,aa⟩,aa,j+2,⟨aa,hin⟩,by dsimp only;omega,[(0,0),(1,45058)],rfl,by rw[show(bJ n k t:Int)-p+((j+1:Nat):Int)+1=(bJ n k t:Int)-p+((j+2:Nat):Int) by omega];rfl,rfl,
    cj rfl rfl rfl (fun i hi=>rD (y:=fun j=>nC k (bJ n k t) t p (bJ n k t-p+j)) (fun _ _=>rfl) (by rw[show((bJ n k t:Int)-p+((j+1:Nat):Int)).toNat=bJ n k t-p+(j+1) by omega]) bq bq hi) (aL trivial)⟩,
    fun h1=>⟨rfl,j+1,⟨aa,hin⟩,[(0,0),(1,1)],rfl,rfl,rfl,cj rfl rfl rfl (fun i hi=>cW rfl rfl) (aL trivial)⟩⟩
 ·subst hj;have hv:=h.lf hin;refine⟨_,Ta,?_⟩;simp only[ag.all,ay];refine⟨aa,Lt hin fun j hj=>cm ?_ (sO hp6)⟩;have h1:¬t<k 0:=fun h=>hin (.inl h);have h2:¬k (n-1)<t:=fun h=>hin (.inr h);have hat:At n k (bJ n k t):=(h.yg (by grind) (by grind)).1.at_;exact(O9 hat hv.1 aa j aa).symm
theorem abR:aW P Cb 183:=cr fun⟨⟨n,k⟩,p,t,_⟩ K hn=>by
 obtain⟨h1,h2,h3,h4⟩:=hn;have h3:p<=6:=h3;have:=alS h1 (by simp only;omega) h4 K (t:=t);rw[Int.toNat_of_nonneg h2]at this;exact this
theorem OB:aU 181 f181:=aS func181
theorem Wm:aU 184 f184:=aS func184
theorem Sx:aU 119 f119:=aS func119
theorem MO:aU 120 f120:=aS func120
theorem ahi:aU 41 f41:=aS func41
def RS:aX:=(182,j4 kR kR acD q9)::(181,iR T l6 [] 60 f181)::l6
abbrev sH:Nat:=2147483648
abbrev sE:Nat:=4294967298
def lQ (h:Pl):V3:=⟨((1:Int):Rat)/h.d*h.n.x,((1:Int):Rat)/h.d*h.n.y,((1:Int):Rat)/h.d*h.n.z⟩
def Jo:Spec:=cz (kC (Br sH) kN) (fun a=>.agg [vA (lQ a.1) sE,.rat a.1.d sH]) fun _=>[]
def GLi:aX:=(181,iR T l6 [] 60 f181)::l6
def Ce:aX:=nG::(183,Cb)::(184,iR T GLi [] 60 f184)::l6
abbrev yK:List Nat:=[2,4,5,6,8,9]
abbrev A6 (p i:Nat) (x:Nat->Rat) (j:Nat):List AV:=[.ptr 0 0 3 0 [],.ptr 1 0 12 0 [],.int .i64 ((i:Int)-p),.ak 3 (p+1) (fun j=>.rat (x j) sV),.ptr 2 0 12 0 [],.int .i64 j]
abbrev iC (h:Pl) (s:Nat):aq:=⟨false,true,12,1,fun _=>bI h s⟩
abbrev Gb (c:Cu) (r:Nat):aq:=⟨false,true,3,1,fun _=>gC c sK r⟩
abbrev oF:Nat:=68719476736
abbrev HT:Nat:=137438953474
abbrev vk:Code:=aE f120
theorem aeU:bX T RS [] 60 f119 (aE f119) ⟨aN 0 [bI h s],[],0⟩=
  let m:=(0:Int)<=0;let l:=(↑(1:Int):Rat)/h.d;let k:=(↑(4:Nat):Int);let j:=(↑(3:Nat):Int);let b:=2^41;let i:=i64.wrap ((0:Int)+1);let e:=Max.max 1 (bT (Int.natAbs (1:Int)));let a:=0<1;let g:=i64.wrap (i+1);let f:=(0:Int)<=3/\(3:Int)<k;let o:=(0:Int)<=g/\g<j;some (aj [-(2:Int)^63<=(1:Int),(1:Int)<2^63,f,a,e<b,s<b,m/\(0:Int)<k,a,(0:Int)<=1/\(1:Int)<k,a,(0:Int)<=2/\(2:Int)<k,a,a,m/\(0:Int)<j,a,e+s<b,s<b,m/\(0:Int)<j,a,a,(0:Int)<=i/\i<j,a,e+s<b,s<b,(0:Int)<=i/\i<j,a,a,o,a,e+s<b,s<b,o,a,a,a,a,f,a,a] (aj [a] (leaf ret [agg [agg [rat (l*h.n.x) (e+s+s),rat (l*h.n.y) (e+s+s),rat (l*h.n.z) (e+s+s)],rat h.d s]]))):=ah
theorem Us {c:Cu}:aI T Ce [] 60 yK (before vk [1,1,1,0,1]) ⟨aN 0 [gC c sK r,.rat t sK],[],0⟩=
  let b:=0<1;let h:=bJ c.n (fun i=>aF (rat (c.k i) sK)) t;let g:=bf c.n (fun i=>aF (rat (c.k i) sK)) t;let a:=rat 0 1;let e:aq:=aq.mk false true 12 1 fun x=>agg [a,a,a,a];some (aj [b,b,b,bh (fun i=>rat (c.k i) sK) c.n sK,sK<=sK,Kn c.n c.p.toNat fun i=>aF (rat (c.k i) sK),(0:Int)<=c.p,c.p<=6,c.n<2^40] (leaf normal ([ptr 0 0 (bp (gC c sK r)).size 0 [],ptr 8192 0 12 0 [],int i64 (if g then(0:Int)else(↑h:Int)-(↑c.p.toNat:Int)),ak 3 (if g then 0 else c.p.toNat+1) fun j=>rat (vB (fun i=>aF (rat (c.k i) sK)) h t c.p.toNat j) 268435456,ptr 65536 0 12 0 [],int i64 0],[((65536:Nat),e),((8192:Nat),e),(0,aq.mk false true (bp (gC c sK r)).size 1 fun x=>agg [int i64 c.p,ak 3 c.n fun i=>rat (c.k i) 4096,ak 12 c.m fun i=>agg [agg [rat (c.f i).n.x r,rat (c.f i).n.y r,rat (c.f i).n.z r],rat (c.f i).d r]])]))):=ah
theorem Yh {c:Cu}:aI T Ce [25] 60 yK [part vk [1,1,1,0,1,0,0]] ⟨aA yK (A6 p i x j),[(2,iC h s),(1,iC ⟨⟨0,0,0⟩,0⟩ 1),(0,Gb c r)],3⟩=
  let J:=p+1;let G:=(↑i:Int)-(↑p:Int);let U:=ptr 0 0 3 0 [];let o:=sV+(r+r);let S:=ptr 2 0 12 0 [];let R:=ptr 1 0 12 0 [];let w:=rat 0 1;let e:=(↑j:Int);let P:=(0:Int)<=0;let t:=(↑(3:Nat):Int);let C:=0==0;let u:=(↑(4:Nat):Int);let q:=(2:Int)^63;let b:=2^41;let a:=0<1;let A:=(0:Int)+1;let B:=x e.toNat;let K:=e+1;let I:=P/\(0:Int)<u;let H:=P/\(0:Int)<t;let V:=(0:Int)<=i64.wrap A/\i64.wrap A<t;let F:=(0:Int)<=A/\A<u;let Q:=ak 3 J fun j=>rat (x j) 268435456;let O:=i64.wrap (i64.wrap A+1);let l:=A+1;let v:=(0:Int)<=e/\e.toNat<J;let c1:List (Nat×aq):=[(1,aq.mk false true 12 1 fun x=>agg [w,w,w,w]),((0:Nat),bG fun x=>agg [int i64 c.p,ak 3 c.n fun i=>rat (c.k i) 4096,ak 12 c.m fun i=>agg [agg [rat (c.f i).n.x r,rat (c.f i).n.y r,rat (c.f i).n.z r],rat (c.f i).d r]])];let Y:=G+e;let X:=(0:Int)<=O/\O<t;let D:=(0:Int)<=l/\l<u;let g:Pl:=c.f Y.toNat;let L:=l+1;let E:=(0:Int)<=L/\L<u;let c2:=agg ((bI h s).kids.set (Int.toNat (0:Int)) (bp (kj (h.n.x,s) (B*(g.d*g.n.x),o))));let W:=if C=true then c2 else bI h s;let M:=agg (W.kids.set A.toNat (bp (kj (h.n.y,s) (B*(g.d*g.n.y),o))));let Z:=if C=true then M else W;let N:=agg (Z.kids.set l.toNat (bp (kj (h.n.z,s) (B*(g.d*g.n.z),o))));some (fork (decide (e<(↑J:Int))) (aj [a,-q<=Y/\Y<q,(0:Int)<=Y/\Y.toNat<c.m,a,a,a,H,a,r<b,r<b,H,a,a,V,a,r<b,r<b,V,a,a,X,a,r<b,r<b,X,a,a,a,a,a,H,a,(0:Int)<=1/\(1:Int)<t,a,(0:Int)<=2/\(2:Int)<t,a,a,a,a,a] (aj [I,a,v,I,a,sV<b,r+r<b,s<b,o<b,I,a] (aj [-q<=A/\A<q] (aj [F,a,v,F,a,sV<b,r+r<b,s<b,o<b,F,a] (aj [-q<=l/\l<q] (aj [D,a,v,D,a,sV<b,r+r<b,s<b,o<b,D,a] (aj [-q<=L/\L<q] (aj [E,a,v,E,a,sV<b,r<b,s<b,sV+r<b,E,a] (aj [-q<=L+1/\L+1<q] (aj [-q<=K/\K<q] (leaf normal ([U,R,int i64 G,Q,S,int i64 K],(2,aq.mk false true 12 1 fun j=>if(j==0)=true then agg ((if C=true then N else Z).kids.set L.toNat (bp (kj (h.d,s) (B*g.d,sV+r))))else if(j==0)=true then N else if(j==0)=true then M else if(j==0)=true then c2 else bI h s)::c1)))))))))))) (leaf (exit 0) ([U,R,int i64 G,Q,S,int i64 e],(2,aq.mk false true 12 1 fun x=>agg [rat h.n.x s,rat h.n.y s,rat h.n.z s,rat h.d s])::c1))):=ah
theorem Zn {c:Cu}:ct T Ce [] 60 f120 [part vk [1,1,1,1]] ⟨aA yK (A6 p i x j),[(2,iC h s),(1,iC ⟨⟨0,0,0⟩,0⟩ 1),(0,Gb c r)],3⟩=
  let a:=0<1;some (aj [a,a] (aj [a] (leaf ret [agg [rat h.n.x s,rat h.n.y s,rat h.n.z s,rat h.d s]]))):=ah
def Fz (c:Cu) (x:Nat->Rat) (b j:Nat):Pl:=
 ⟨⟨bU j fun j=>x j*((c.f (b+j)).d*(c.f (b+j)).n.x),bU j fun j=>x j*((c.f (b+j)).d*(c.f (b+j)).n.y),bU j fun j=>x j*((c.f (b+j)).d*(c.f (b+j)).n.z)⟩,bU j fun j=>x j*(c.f (b+j)).d⟩
def zH (r j:Nat):Nat:=1+j*(sV+(r+r)+1)
def cL (c:Cu) (t:Rat):Pl:=Fz c (vB c.k (bJ c.n c.k t) t c.p.toNat) (bJ c.n c.k t-c.p.toNat) (c.p.toNat+1)
theorem ac9:bn P RS:=aH (kS fun _ _ K hn=>VY hn.1 hn.2 K) (aH (je hT ng hm OB _ _) ng)
theorem aar (hs:s<2^40) (hs':1+s+s<=s') (K:Nat):aQ P 119 K [bI h s] [] (aJ (.agg [vA (lQ h) s',.rat h.d s]) []):=by
 refine b9 (r:=aJ (.agg [vA (lQ h) s',.rat h.d s]) []) hT ac9 hm Sx rfl aV rfl 60 (aeU (s:=s)) (fun _=>?_) K [];have e1:i64.wrap ((0:Int)+1)=1:=rfl;have e2:i64.wrap ((1:Int)+1)=2:=rfl;simp only[ag.all,ay,Ob,e1,e2];refine⟨?_,aa,cM ⟨cM ⟨cm rfl aa,cm rfl aa,cm rfl aa,trivial⟩,.refl _,trivial⟩⟩
 (repeat' with_reducible refine And.intro ?_ ?_)
 all_goals omega
theorem Wx:aW P Jo 119:=cr fun⟨h,_⟩ K _=>aar (by decide) (by decide) K
theorem Jg:bn P Ce:=cB (aH abR (aH (je hT (aH (je hT ng hm OB _ _) ng) hm Wm _ _) ng))
theorem UF {c:Cu} (hr:1+7*(sV+(r+r)+1)<=s) (hs:s<2^40) (hk:Kn c.n c.p.toNat c.k) (h0:0<=c.p) (h6:c.p<=6) (hn:c.n<2^40) (hm2:(c.m:Int)=(c.n:Int)-c.p-1) (hin:¬bf c.n c.k t) (K:Nat):aQ P 120 K [gC c sK r,.rat t sK] [] (aJ (bI (cL c t) s) []):=by
 refine fV (r:=aJ (bI (cL c t) s) []) hT MO rfl aV rfl (fun _ cx h00=>?_) K [];have hkp:=iL h00;obtain⟨q,hq⟩:∃q,q=c.p.toNat:=⟨_,rfl⟩
 have hq2:c.p=(q:Int):=aa;obtain⟨i,hi⟩:∃i,i=bJ c.n c.k t:=⟨_,rfl⟩
 obtain⟨x,hx⟩:∃x,x=vB c.k i t q:=⟨_,rfl⟩
 have hiv:=hk.lf hin;rw[<-hi,<-hq]at hiv;have hV:cL c t=Fz c x (i-q) (q+1):=by unfold cL;rw[<-hi,<-hq,<-hx]
 rw[hV];have h1:sK=4096:=rfl;have h2:sV=268435456:=rfl;have z0:zH r 0=1:=by unfold zH;rw[Nat.zero_mul]
 have zS:∀j,zH r (j+1)=zH r j+(sV+(r+r)+1):=fun j=>by unfold zH;rw[Nat.add_mul,Nat.one_mul];omega
 have zle:∀j,j<=7->zH r j<=s:=fun j hj=>by
  have:=Nat.mul_le_mul_right (sV+(r+r)+1) hj;unfold zH;omega
 refine ax.mY hT Jg hm (x:=vk) [1,1,1,0,1] (i:=0) (y:=part vk [1,1,1,0,1,0,0]) (z:=part vk [1,1,1,1]) ah ah ah MO.dst hkp (f1:=[]) (f2:=[25]) 60 yK 3 (fun j:Nat=>A6 q i x j) (fun j=>[(2,iC (Fz c x (i-q) j) (zH r j)),(1,iC ⟨⟨0,0,0⟩,0⟩ 1),(0,Gb c r)]) (fun j=>j<=q+1) (fun j=>j=q+1) (fun j=>q+1-j) (fun _=>False) ⟨_,Us,?_⟩ (fun j hj=>⟨_,Yh,?_⟩) (fun j hj=>?_) (fun _ _ h=>h.elim)
 ·simp only[ag.all,ay];simp only[mE,show bf c.n (fun i=>c.k i) t=bf c.n c.k t from rfl,if_neg hin];refine⟨⟨aa,aa,aa,bL bq,bq,hk,h0,h6,hn⟩,0,Nat.zero_le _,[(0,0),(1,8192),(2,65536)],rfl,?_,rfl,cP rfl rfl (cW rfl (by rw[z0];rfl)) (aL (aL trivial))⟩;show _=(A6 q i x 0).map _;rw[hx,hq,hi];rfl
 ·simp only[ag.all,ay,br,bC,show((i:Int)-q+j).toNat=i-q+j by omega,bg,show i64.wrap ((0:Int)+1)=1 from rfl,show i64.wrap ((1:Int)+1)=2 from rfl];have hz1:=zS j;refine⟨fun h=>?_,fun h=>⟨rfl,j,aa,[(0,0),(1,1),(2,2)],rfl,rfl,rfl,aL (aL (aL trivial))⟩⟩;have hz:=zle j aa;have hz2:=zle (j+1) aa
  (repeat' with_reducible refine And.intro ?_ ?_)
  all_goals first|omega|skip
  exact⟨j+1,aa,by dsimp only;omega,[(0,0),(1,1),(2,2)],rfl,rfl,rfl,cP rfl rfl (.inr ⟨rfl,cM ⟨cm rfl aa,cm rfl aa,cm rfl aa,cm rfl aa,trivial⟩⟩) (aL (aL trivial))⟩
 ·subst hj;refine ax.hH ((aG.fin hT Jg hm 60 Zn ah ?_).mono fun _ _ h=>.inl h);simp only[ag.all,ay];have hz:=zle (q+1) aa;exact⟨aa,aa,cM ⟨dU aa,dU aa,dU aa,dU aa,trivial⟩⟩
def NS:Spec:=cz (kC (CE sK sK) (kC (gv sK) kN)) (fun a=>bI (cL a.1 a.2.1) sH) fun a=>[Kn a.1.n a.1.p.toNat a.1.k,0<=a.1.p,a.1.p<=6,a.1.n<2^40,(a.1.m:Int)=(a.1.n:Int)-a.1.p-1,¬bf a.1.n a.1.k a.2.1]
def Oc:aX:=sG::(118,r5)::(120,NS)::(119,Jo)::[]
theorem ag6:aW P NS 120:=cr fun⟨c,t,_⟩ K hn=>UF (by decide) (by decide) hn.1 hn.2.1 hn.2.2.1 hn.2.2.2.1 hn.2.2.2.2.1 hn.2.2.2.2.2 K
theorem Wz:bn P Oc:=kq (aH Qr (aH ag6 (aH Wx bw)))
theorem YI {c:Cu}:bX T Oc [18] 60 f41 (aE f41) ⟨aN 0 [gC c sK sK,.rat t sK],[],0⟩=
  let s:=c.n<2^40;let r:=bh (fun i=>rat (c.k i) sK) c.n sK;let o:=cA c.n (fun i=>aF (rat (c.k i) sK)) t;let l:=rat 0 1;let b:=c.p.toNat;let e:=bJ c.n (fun i=>aF (rat (c.k i) sK)) t;let a:=e-b;let g:=b+1;let q:=Kn c.n b fun i=>aF (rat (c.k i) sK);let h:=(↑(1:Int):Rat)/bU g fun j=>vB (fun i=>aF (rat (c.k i) sK)) e t b j*aF (rat (c.f (a+j)).d sK);some (aj [r,sK<=sK,q,(0:Int)<=c.p,s] (fork (o !=(0:Int)) (aj [(0:Nat)<1] (leaf ret [agg [l,l,l],int i64 o])) (aj [r,iX (fun i=>bH (c.f i) sK) c.m sK,sK<=sK,q,(0:Int)<=c.p,c.p<=6,s,(↑c.m:Int)=(↑c.n:Int)-c.p-1,¬bf c.n (fun i=>aF (rat (c.k i) sK)) t,sH<=sH,sH<=sH,sH<=sH,sH<=sH] (aj [(0:Nat)<1] (leaf ret [agg [rat (h*bU g fun j=>vB (fun i=>aF (rat (c.k i) sK)) e t b j*(aF (rat (c.f (a+j)).d sK)*aF (rat (c.f (a+j)).n.x sK))) 4294967298,rat (h*bU g fun j=>vB (fun i=>aF (rat (c.k i) sK)) e t b j*(aF (rat (c.f (a+j)).d sK)*aF (rat (c.f (a+j)).n.y sK))) 4294967298,rat (h*bU g fun j=>vB (fun i=>aF (rat (c.k i) sK)) e t b j*(aF (rat (c.f (a+j)).d sK)*aF (rat (c.f (a+j)).n.z sK))) 4294967298],int i64 0]))))):=ah
def kU (c:Cu) (t:Rat):V3:=if bf c.n c.k t then⟨0,0,0⟩else lQ (cL c t)
def KU:Spec:=cz (kC (CE sK sK) (kC (gv sK) kN)) (fun a=>.tuple [vA (kU a.1 a.2.1) sE,.int .i64 (cA a.1.n a.1.k a.2.1)]) fun a=>[Kn a.1.n a.1.p.toNat a.1.k,0<=a.1.p,a.1.p<=6,a.1.n<2^40,(a.1.m:Int)=(a.1.n:Int)-a.1.p-1]
theorem ZV:aW P KU 41:=cr fun⟨c,t,_⟩ K hn=>by
 obtain⟨hk,h0,h6,hn,hm2⟩:=hn;have hk:Kn c.n c.p.toNat c.k:=hk;have h6:c.p<=6:=h6;have hm2:(c.m:Int)=(c.n:Int)-c.p-1:=hm2;refine b9 (r:=aJ (.tuple [vA (kU c t) sE,.int .i64 (cA c.n c.k t)]) []) hT Wz hm ahi rfl aV rfl 60 YI (fun _=>?_) K [];simp only[ag.all,ay,mE,bne_iff_ne,bne_eq_false_iff_eq,ne_eq,show bf c.n (fun i=>c.k i) t=bf c.n c.k t from rfl,show cA c.n (fun i=>c.k i) t=cA c.n c.k t from rfl];refine⟨⟨bL bq,bq,hk,h0,hn⟩,fun hout=>?_,fun hin=>?_⟩
 ·have ho:bf c.n c.k t:=by
   unfold cA at hout;by_cases ho:bf c.n c.k t
   ·exact ho
   ·rw[if_neg ho]at hout;exact absurd rfl hout
  refine⟨aa,?_,.refl _,trivial⟩;unfold kU;rw[if_pos ho];exact cM ⟨dU (by decide),dU (by decide),dU (by decide),trivial⟩
 ·have hi:=uB hin;refine⟨⟨bL bq,mQ bq,bq,hk,h0,h6,hn,hm2,hi,aa,aa⟩,aa,?_,bP hin.symm,trivial⟩;unfold kU;rw[if_neg hi];exact .refl _
abbrev dc (s:Sf):Sf:=⟨s.v,s.u,s.b,s.kv,s.a,s.ku,s.m,s.n,fun j i=>s.f i j⟩
abbrev QE (s:Sf) (i:Nat):Cu:=⟨s.v,s.b,s.kv,s.m,s.f i⟩
def pQ (s:Sf) (v:Rat) (i:Nat):Pl:=⟨lQ (cL (QE s i) v),(cL (QE s i) v).d⟩
def vN (s:Sf) (v:Rat):Cu:=⟨s.u,s.a,s.ku,s.n,pQ s v⟩
structure Cm (s:Sf):Prop where
 ku:Kn s.a s.u.toNat s.ku
 kv:Kn s.b s.v.toNat s.kv
 u0:0<=s.u
 u6:s.u<=6
 v0:0<=s.v
 v6:s.v<=6
 a:s.a<2^30
 b:s.b<2^30
 n:(s.n:Int)=(s.a:Int)-s.u-1
 m:(s.m:Int)=(s.b:Int)-s.v-1
theorem agf:aU 192 f192:=aS func192
theorem acQ:aU 115 f115:=aS func115
theorem Rf:aU 114 f114:=aS func114
def cy (p:Pl):Pl:=⟨⟨p.d*p.n.x,p.d*p.n.y,p.d*p.n.z⟩,p.d⟩
def dG (h:Pl):Pl:=⟨⟨h.n.x/h.d,h.n.y/h.d,h.n.z/h.d⟩,h.d⟩
abbrev qY (f:Nat->Pl) (n s:Nat):AV:=.ak 12 n (fun i=>bI (f i) s)
abbrev eo (c:Cu) (s r:Nat):AV:=.agg [.int .i64 c.p,bu c.k c.n s,qY c.f c.m r]
def PZ:aX:=nG::iZ
def Ql:aX:=nG::(174,j4 kR kR zP s6)::iZ
def Nw (f:Nat->Pl) (x:Nat->Rat) (b j:Nat):Pl:=
 ⟨⟨bU j fun j=>x j*(f (b+j)).n.x,bU j fun j=>x j*(f (b+j)).n.y,bU j fun j=>x j*(f (b+j)).n.z⟩,bU j fun j=>x j*(f (b+j)).d⟩
def Dk:aX:=nG::(172,Cb)::iZ
abbrev Aa:List Nat:=[4,5,2,6,7,36,37,38]
abbrev AE (p i:Nat) (x:Nat->Rat) (j:Nat):List AV:=[.ptr 1 0 12 0 [],.int .i64 0,.ptr 0 0 3 0 [],.ptr 2 0 12 0 [],.int .i64 ((i:Int)-p),.ak 3 (p+1) (fun j=>.rat (x j) sV),.int .i64 ((p+1:Nat):Int),.int .i64 j]
abbrev qP (c:Cu) (r:Nat):aq:=⟨false,true,3,1,fun _=>eo c sK r⟩
abbrev vJ:Code:=aE f114
def uo:AV->Pl
 |.agg [x,y,z,w]=>⟨⟨aF x,aF y,aF z⟩,aF w⟩
 |_=>⟨⟨0,0,0⟩,0⟩
def mJ (f:Nat->AV) (n s:Nat):Prop:=∀i,i<n->bV (f i) (bI (uo (f i)) s)
theorem X8 {f:Nat->AV} (h:wo v=some (n,f)) (ha:mJ f n s):bV v (qY (fun i=>uo (f i)) n s):=by
 unfold wo at h;split at h
 ·simp only[az,Prod.mk.injEq]at h;obtain⟨rfl,rfl⟩:=h;exact fI ha
 ·simp only[az,Prod.mk.injEq]at h;obtain⟨rfl,rfl⟩:=h;exact iT aa
 ·simp at h
theorem Wf:bX T Ql [] 80 f115 (aE f115) ⟨aN 0 [bI h s],[],0⟩=
  let k:=(↑(3:Nat):Int);let j:=(↑(4:Nat):Int);let g:=(2:Int)^63;let f:=s<2^42;let a:=0<1;let e:=(0:Int)+1;let b:=e+1;let i:=(0:Int)<=3/\(3:Int)<j;some (aj [i,a,f,(1:Nat)<2^42,a] (aj [(0:Int)<=0/\(0:Int)<j,a,i,a,f,f,(0:Int)<=0/\(0:Int)<k,a] (aj [-g<=e/\e<g] (aj [(0:Int)<=e/\e<j,a,i,a,f,f,(0:Int)<=e/\e<k,a] (aj [-g<=b/\b<g] (aj [(0:Int)<=b/\b<j,a,i,a,f,f,(0:Int)<=b/\b<k,a] (aj [-g<=b+1/\b+1<g] (aj [a,a] (aj [a] (leaf ret [agg [agg [rat (h.n.x/h.d) (s+s),rat (h.n.y/h.d) (s+s),rat (h.n.z/h.d) (s+s)],rat (h.d+0) (s+1+1)]])))))))))):=ah
theorem aa0 {c:Cu}:aI T Dk [25,34] 60 Aa (before vJ [1,1,1,1,0,1]) ⟨aN 0 [eo c sK r,.rat t sK],[],0⟩=
  let l:=bJ c.n (fun i=>aF (rat (c.k i) sK)) t;let h:=bf c.n (fun i=>aF (rat (c.k i) sK)) t;let g:=ptr 8192 0 12 0 [];let e:=ptr 16384 0 12 0 [];let d:=ptr 0 0 (bp (eo c sK r)).size 0 [];let b:=rat 0 1;let a:=0<1;let v:=cA c.n (fun i=>aF (rat (c.k i) sK)) t !=(0:Int);let A:Nat×aq:=(0,aq.mk false true (bp (eo c sK r)).size 1 fun x=>agg [int i64 c.p,ak 3 c.n fun i=>rat (c.k i) 4096,ak 12 c.m fun i=>bI (c.f i) r]);let u:=if h then 0 else c.p.toNat+1;let s:=if h then(0:Int)else(↑l:Int)-(↑c.p.toNat:Int);let q:=agg [b,b,b,b];let w:aq:=aq.mk false true 12 1 fun x=>q;let o:=s+(↑u:Int);let z:ag (List AV×aC):=leaf normal ([g,int i64 0,d,e,int i64 s,ak 3 u fun j=>rat (vB (fun i=>aF (rat (c.k i) sK)) l t c.p.toNat j) 268435456,int i64 (↑u:Int),int i64 0],[((16384:Nat),w),A,((8192:Nat),w)]);let y:ag (List AV×aC):=aj [a] (leaf ret ([g,int i64 7,d,e,int i64 s,tuple [],tuple [],tuple []],[((16384:Nat),w),A,(8192,aq.mk false true 12 1 fun j=>if(j==0)=true then bp (agg q.kids)else q)]));some (aj [a,a,a,bh (fun i=>rat (c.k i) sK) c.n sK,sK<=sK,Kn c.n c.p.toNat fun i=>aF (rat (c.k i) sK),(0:Int)<=c.p,c.p<=6,c.n<2^40] (fork v (aj [v=true] (fork true y z)) (aj [v=false,-(2:Int)^63<=o/\o<2^63,a] (fork (bif false then true else decide (o>(↑c.m:Int))) y z)))):=ah
theorem aeJ {c:Cu}:aI T Dk [39] 60 Aa [part vJ [1,1,1,1,0,1,0,0]] ⟨aA Aa (AE p i x j),[(2,iC h s),(1,iC ⟨⟨0,0,0⟩,0⟩ 1),(0,qP c r)],3⟩=
  let H:=(↑i:Int)-(↑p:Int);let S:=ptr 0 0 3 0 [];let R:=ptr 2 0 12 0 [];let Q:=ptr 1 0 12 0 [];let t:=rat 0 1;let D:=(↑(p+1):Int);let O:=ak 3 (p+1) fun j=>rat (x j) 268435456;let e:=(↑j:Int);let B:=0==0;let o:=(↑(4:Nat):Int);let K:=(0:Int)+1;let g:=2^42;let a:=0<1;let l:=(2:Int)^63;let A:=sV+r<g;let w:=x e.toNat;let I:=e+1;let G:=(0:Int)<=K/\K<o;let C:=(0:Int)<=0/\(0:Int)<o;let V:List (Nat×aq):=[((0:Nat),bG fun x=>agg [int i64 c.p,ak 3 c.n fun i=>rat (c.k i) 4096,ak 12 c.m fun i=>bI (c.f i) r]),(1,aq.mk false true 12 1 fun x=>agg [t,t,t,t])];let J:=K+1;let P:=H+e;let v:Pl:=c.f P.toNat;let F:=(0:Int)<=J/\J<o;let u:=-l<=P/\P<l;let q:=(0:Int)<=P/\P.toNat<c.m;let b:=J+1;let E:=(0:Int)<=b/\b<o;let L:=agg ((bI h s).kids.set (Int.toNat (0:Int)) (bp (kj (h.n.x,s) (w*v.n.x,sV+r))));let W:=if B=true then L else bI h s;let M:=agg (W.kids.set K.toNat (bp (kj (h.n.y,s) (w*v.n.y,sV+r))));let U:=if B=true then M else W;let N:=agg (U.kids.set J.toNat (bp (kj (h.n.z,s) (w*v.n.z,sV+r))));some (fork (decide (e<D)) (aj [(0:Int)<=e/\e.toNat<p+1,a] (aj [C,a,a,a,u,q,C,sV<g,r<g,s<g,A,C,a] (aj [-l<=K/\K<l] (aj [G,a,a,a,u,q,G,sV<g,r<g,s<g,A,G,a] (aj [-l<=J/\J<l] (aj [F,a,a,a,u,q,F,sV<g,r<g,s<g,A,F,a] (aj [-l<=b/\b<l] (aj [E,a,a,a,u,q,E,sV<g,r<g,s<g,A,E,a] (aj [-l<=b+1/\b+1<l] (aj [-l<=I/\I<l] (leaf normal ([Q,int i64 0,S,R,int i64 H,O,int i64 D,int i64 I],(2,aq.mk false true 12 1 fun j=>if(j==0)=true then agg ((if B=true then N else U).kids.set b.toNat (bp (kj (h.d,s) (w*v.d,sV+r))))else if(j==0)=true then N else if(j==0)=true then M else if(j==0)=true then L else bI h s)::V)))))))))))) (leaf (exit 0) ([Q,int i64 0,S,R,int i64 H,O,int i64 D,int i64 e],(2,aq.mk false true 12 1 fun x=>bI h s)::V))):=ah
theorem Yw {c:Cu}:ct T Dk [] 60 f114 [part vJ [1,1,1,1,1]] ⟨aA Aa (AE p i x j),[(2,iC h s),(1,iC ⟨⟨0,0,0⟩,0⟩ 1),(0,qP c r)],3⟩=
  let a:=0<1;some (aj [a,a] (aj [a] (leaf ret [bI h s,int i64 0]))):=ah
theorem afU:bn P PZ:=cB jA
theorem ahG:bn P Ql:=cB (aH (kS fun _ _ K hn=>EK hn.1 hn.2 K) jA)
theorem Rv:bn P Dk:=cB (aH af9 jA)
theorem qe {rl:List (Nat×Nat)} {l:Nat} {f g:Nat->AV} (hf:∀i,i<l->f i=g i/\keys (f i)=[]) (hk:keys v=[]) (hv:bV v (g l)) (hi:i<l+1):gD rl (if i<l then f i else nth [v] z (i-l+0)) (g i):=by
 by_cases h:i<l
 ·rw[if_pos h];exact cW (hf i h).2 (hf i h).1
 ·have:i=l:=aa;subst this;rw[if_neg h,Nat.sub_self];exact .inr ⟨hk,hv⟩
theorem qT {rl:List (Nat×Nat)} {p:Int} {b:Nat} (hv:keys v=[]) (ht:v.isTuple=false) (h:bk rl b=some a):gD rl (.agg [.int .i64 p,v,.own a 12 0 i]) (.agg [.int .i64 p,v,.own b 12 0 i]):=
 lP ⟨aM,⟨ht,gm hv⟩,⟨rfl,cN h rfl rfl⟩,trivial⟩
theorem rM {h':Pl} (e:h=h') (hs:s<=s'):bV (bI h s) (bI h' s'):=e▸cM ⟨cm rfl hs,cm rfl hs,cm rfl hs,cm rfl hs,trivial⟩
theorem EY {w:Nat} (hs:s<2^40) (h1:s+s<=w) (h2:s+2<=w) (K:Nat):aQ P 115 K [bI h s] [] (aJ (bH (dG h) w) []):=by
 refine b9 (r:=aJ (bH (dG h) w) []) hT ahG hm acQ rfl aV rfl 80 Wf (fun _=>?_) K [];simp only[ag.all,ay]
 (repeat' with_reducible refine And.intro ?_ ?_)
 all_goals first|omega|skip
 exact cM ⟨cM ⟨cm rfl h1,cm rfl h1,cm rfl h1,trivial⟩,cm (Rat.add_zero _) aa,trivial⟩
theorem X2 {c:Cu}:kM T f114 .ret ⟨aA [4,5,2,6] [.ptr 8192 0 12 0 [],.int .i64 7,.ptr 0 0 3 0 [],.ptr 16384 0 12 0 []],[(16384,⟨false,true,12,1,fun _=>.agg [.rat 0 1,.rat 0 1,.rat 0 1,.rat 0 1]⟩),(0,qP c r),(8192,⟨false,true,12,1,fun j=>if(j==0)=true then bp (.agg (AV.kids (.agg [.rat 0 1,.rat 0 1,.rat 0 1,.rat 0 1])))else .agg [.rat 0 1,.rat 0 1,.rat 0 1,.rat 0 1]⟩)],16385⟩=
  let a:=rat 0 1;some (aj [(0:Nat)<1] (leaf ret [agg [a,a,a,a],int i64 7])):=ah
def eC (c:Cu) (t:Rat):Pl:=if bf c.n c.k t then⟨⟨0,0,0⟩,0⟩else Nw c.f (vB c.k (bJ c.n c.k t) t c.p.toNat) (bJ c.n c.k t-c.p.toNat) (c.p.toNat+1)
theorem On {c:Cu} (hr:1+7*(sV+r+1)<=s) (hs:s<2^40) (hk:Kn c.n c.p.toNat c.k) (h0:0<=c.p) (h6:c.p<=6) (hn:c.n<2^40) (hm2:(c.m:Int)=(c.n:Int)-c.p-1) (K:Nat):aQ P 114 K [eo c sK r,.rat t sK] [] (aJ (.tuple [bI (eC c t) s,.int .i64 (cA c.n c.k t)]) []):=by
 refine fV (r:=aJ (.tuple [bI (eC c t) s,.int .i64 (cA c.n c.k t)]) []) hT Rf rfl aV rfl (fun _ cx h00=>?_) K [];have hkp:=iL h00;obtain⟨q,hq⟩:∃q,q=c.p.toNat:=⟨_,rfl⟩
 have hq2:c.p=(q:Int):=aa;obtain⟨i,hi⟩:∃i,i=bJ c.n c.k t:=⟨_,rfl⟩
 obtain⟨x,hx⟩:∃x,x=vB c.k i t q:=⟨_,rfl⟩
 have h1:sK=4096:=rfl;have h2:sV=268435456:=rfl;have z0:1+0*(sV+r+1)=1:=aa;have zle:∀j,j<=7->1+j*(sV+r+1)<=s:=fun j hj=>by
  have:=Nat.mul_le_mul_right (sV+r+1) hj;omega
 refine ax.mY hT Rv hm (x:=vJ) [1,1,1,1,0,1] (i:=0) (y:=part vJ [1,1,1,1,0,1,0,0]) (z:=part vJ [1,1,1,1,1]) ah ah ah Rf.dst hkp (f1:=[25,34]) (f2:=[39]) 60 Aa 3 (fun j:Nat=>AE q i x j) (fun j=>[(2,iC (Nw c.f x (i-q) j) (1+j*(sV+r+1))),(1,iC ⟨⟨0,0,0⟩,0⟩ 1),(0,qP c r)])
  (fun j=>j<=q+1/\¬bf c.n c.k t) (fun j=>j=q+1/\¬bf c.n c.k t) (fun j=>q+1-j) (vw T f114 [4,5,2,6] (.tuple [bI (eC c t) s,.int .i64 (cA c.n c.k t)])) ⟨_,aa0,?_⟩ (fun j ⟨hj,hin⟩=>⟨_,aeJ,?_⟩) (fun j ⟨hj,hin⟩=>?_) (fun v s' hv hs'=>hv.fin (L1:=[7,36,37,38]) hkp hs')
 ·simp only[ag.all,ay,mE,bne_iff_ne,ne_eq,bne_eq_false_iff_eq];have hko:bf c.n (fun i=>c.k i) t=bf c.n c.k t:=rfl;have hkE:cA c.n (fun i=>c.k i) t=cA c.n c.k t:=rfl;have hkI:bJ c.n (fun i=>c.k i) t=bJ c.n c.k t:=rfl;simp only[hko,hkE,hkI];refine⟨⟨aa,aa,aa,bL bq,bq,hk,h0,h6,hn⟩,fun hout=>⟨hout,fun _=>⟨aa,?_⟩,fun h=>absurd h (by decide)⟩,fun he=>?_⟩
  ·have ho:=zK hout;refine⟨[_,_,_,_],_,16385,_,rfl,rfl,rfl,X2,rfl,⟨⟨aa,fun i _=>rfl⟩,⟨aa,fun i _=>rfl⟩,⟨aa,fun i _=>qX rfl rfl⟩,trivial⟩,Nat.zero_lt_one,?_⟩;exact⟨rM (h:=⟨⟨0,0,0⟩,0⟩) (by unfold eC;rw[if_pos ho]) aa,bP (by unfold cA;rw[if_pos ho]),trivial⟩
  ·have hin:=uB he;have hiv:=hk.lf hin;simp only[if_neg hin];refine⟨⟨he,aa,aa⟩,fun h=>?_,fun _=>⟨0,⟨Nat.zero_le _,hin⟩,[(0,0),(1,8192),(2,16384)],rfl,?_,rfl,cP rfl rfl (cW rfl (by rw[z0];rfl)) (aL (aL trivial))⟩⟩
   ·exfalso;rw[cond_false,br]at h;omega
   ·show _=(AE q i x 0).map _;rw[hx,hq,hi];rfl
 ·have hiv:=hk.lf hin;rw[<-hi,<-hq]at hiv;simp only[ag.all,ay,br,bC,show((i:Int)-q+j).toNat=i-q+j by omega,bg];refine⟨fun h=>?_,fun h=>⟨rfl,j,⟨aa,hin⟩,[(0,0),(1,1),(2,2)],rfl,rfl,rfl,aL (aL (aL trivial))⟩⟩;have hz:=zle j aa;have hzS:1+(j+1)*(sV+r+1)=1+j*(sV+r+1)+(sV+r+1):=by rw[Nat.add_mul,Nat.one_mul];omega
  have hz2:=zle (j+1) aa;generalize 1+j*(sV+r+1)=zj at*
  (repeat' with_reducible refine And.intro ?_ ?_)
  all_goals first|omega|skip
  exact⟨j+1,⟨aa,hin⟩,by dsimp only;omega,[(0,0),(1,1),(2,2)],rfl,rfl,rfl,cP rfl rfl (.inr ⟨rfl,cM ⟨cm rfl aa,cm rfl aa,cm rfl aa,cm rfl aa,trivial⟩⟩) (aL (aL trivial))⟩
 ·subst hj;refine ax.hH ((aG.fin hT Rv hm 60 Yw ah ?_).mono fun _ _ h=>.inl h);simp only[ag.all,ay];have hz:=zle (q+1) aa;refine⟨aa,aa,?_,bP (by unfold cA;rw[if_neg hin]),trivial⟩;exact rM (by unfold eC;rw[if_neg hin,<-hi,<-hq,<-hx]) hz
def sI (s r:Nat):Kind Cu:=⟨fun v=>match v with
 |.agg [p,k,f]=>match kI.read p,(kL s).read k,wo f with
  |some (p,q1),some ((n,k),q2),some (m,f)=>some (⟨p,n,k,m,fun i=>uo (f i)⟩,q1++(q2++[mJ f m r]))
  |_,_,_=>none
 |_=>none,fun a=>eo a s r,fun {v a q} h hq=>by
  split at h
  ·split at h
   ·rename_i h1 h2 h3;simp only[az,Prod.mk.injEq]at h;obtain⟨rfl,rfl⟩:=h;obtain⟨q1,hq⟩:=dS.1 hq;obtain⟨q2,q3⟩:=dS.1 hq;exact cM ⟨kI.ok h1 q1,(kL s).ok h2 q2,X8 h3 q3,trivial⟩
   ·simp at h
  ·simp at h⟩
def OT:Spec:=cz (kC (sI sK (sJ+sJ)) (kC (gv sK) kN)) (fun a=>.tuple [bI (eC a.1 a.2.1) sH,.int .i64 (cA a.1.n a.1.k a.2.1)]) fun a=>[Kn a.1.n a.1.p.toNat a.1.k,0<=a.1.p,a.1.p<=6,a.1.n<2^40,(a.1.m:Int)=(a.1.n:Int)-a.1.p-1]
def Sj:Spec:=cz (kC (Br sH) kN) (fun a=>bH (dG a.1) sE) fun _=>[]
def jM (c:Cu):Prop:=Kn c.n c.p.toNat c.k/\1<=c.p/\c.p<=6/\c.n<=c.p.toNat+41/\(c.m:Int)=(c.n:Int)-c.p-1
theorem WA:aW P OT 114:=cr fun⟨c,t,_⟩ K hn=>On (by decide) (by decide) hn.1 hn.2.1 hn.2.2.1 hn.2.2.2.1 hn.2.2.2.2 K
theorem aiH:aW P Sj 115:=cr fun⟨h,_⟩ K _=>EY (by decide) (by decide) (by decide) K
theorem div_one {a b:Rat}:a/b=((1:Int):Rat)/b*a:=by
 rw[Rat.div_def,Rat.div_def,show((1:Int):Rat)=1 from rfl,Rat.one_mul,Rat.mul_comm]
theorem Mv:(dG h).n=lQ h:=by
 show V3.mk (h.n.x/h.d) (h.n.y/h.d) (h.n.z/h.d)=V3.mk _ _ _;rw[div_one (a:=h.n.x),div_one (a:=h.n.y),div_one (a:=h.n.z)]
theorem Fw:aU 97 f97:=aS func97
theorem P6:aU 135 f135:=aS func135
abbrev x7:Code:=aE f97
abbrev Ag:Code:=part x7 [1,1,1,0,1,0,0]
abbrev Al:Code:=part Ag [1,1,0,0]
abbrev tg:List Nat:=[2,0,3,13,14]
abbrev A1 (f:Nat->Nat->Pl) (n m r j:Nat):List AV:=[.nil,fK f n m r,.own 0 1 0 j,.int .i64 m,.int .i64 j]
abbrev yR:List Nat:=[2,0,3,13,14,4,5,18,19]
abbrev FK (f:Nat->Nat->Pl) (n m r j i:Nat):List AV:=[.nil,fK f n m r,.own 0 1 0 j,.int .i64 m,.int .i64 j,.int .i64 j,.own 1 12 0 i,.int .i64 n,.int .i64 i]
abbrev Ad (f:Nat->Nat->Pl) (n r j:Nat):aC:=[(0,⟨true,true,1,j,fun j=>aT (fun i=>f i j) n r⟩)]
abbrev FD (f:Nat->Nat->Pl) (n r j i:Nat):aC:=(1,⟨true,true,12,i,fun i=>bH (f i j) r⟩)::Ad f n r j
def cq (s:Sf) (j:Nat):Cu:=⟨s.u,s.a,s.ku,s.n,fun i=>cy (s.f i j)⟩
abbrev lS (s:Sf) (n:Nat):AV:=.ak 3 n (fun j=>eo (cq s j) 2000 (4000))
def rS:AV->Nat
 |.ak _ _ g=>(match g 0 with
  |.agg (.agg (.rat _ r::_)::_)=>r
  |_=>1)
 |_=>1
def agv:Kind ((Nat×Nat×(Nat->Nat->Pl))×Nat):=⟨fun v=>match v with
 |.ak 1 n g=>some (((n,dn (g 0),dh g),rS (g 0)),[dN g n (rS (g 0))])
 |_=>none,fun a=>fK a.1.2.2 a.1.1 a.1.2.1 a.2,fun {v a q} h hq=>by
  split at h
  ·simp only[az,Prod.mk.injEq]at h;obtain⟨rfl,rfl⟩:=h;exact fI hq
  ·simp at h⟩
def Dh:Spec:=cz (kC agv kN) (fun a=>fK (fun j i=>a.1.1.2.2 i j) a.1.1.2.1 a.1.1.1 a.1.2) fun a=>[a.1.1.1=0->a.1.1.2.1=0,a.1.1.1<2^28,a.1.1.2.1<2^28]
def sq:aX:=nG::(97,Dh)::(192,iR T PZ [] 80 f192)::iZ
abbrev xw:Code:=aE f135
abbrev xD:Code:=part xw [1,1,0,1,0,0]
abbrev xo:Code:=part xD [1,1,0,0]
abbrev rT:List Nat:=[2,1,3,11,12,13]
abbrev Ax (s:Sf) (j:Nat):List AV:=[.nil,.ptr 0 0 5 0 [],.own 1 3 0 j,fK (fun j i=>s.f i j) s.m s.n 2000,.int .i64 s.m,.int .i64 j]
abbrev z7:List Nat:=[2,1,3,11,12,13,6,22,23,24]
abbrev Gz (s:Sf) (j i:Nat):List AV:=[.nil,.ptr 0 0 5 0 [],.own 1 3 0 j,fK (fun j i=>s.f i j) s.m s.n 2000,.int .i64 s.m,.int .i64 j,.ptr 2 0 3 0 [],aT (fun i=>s.f i j) s.n 2000,.int .i64 s.n,.int .i64 i]
abbrev yG (s:Sf) (j:Nat):aC:=[(1,⟨true,true,3,j,fun j=>eo (cq s j) 2000 (4000)⟩),(0,⟨false,true,5,1,fun _=>bM s 2000 2000⟩)]
abbrev DY (s:Sf) (j i:Nat):aC:=(3,⟨true,true,12,i,fun i=>bI (cy (s.f i j)) (4000)⟩)::(2,⟨false,true,3,1,fun _=>.agg [.int .i64 s.u,bu s.ku s.a 2000,.own 3 12 0 i]⟩)::yG s j
theorem agV:aI T [nG] [200009] 60 tg (before x7 [1,1,1,0,1]) ⟨aN 0 [fK f n m r],[],0⟩=
  some (aj [((↑n:Int)==0)=false] (aj [(0:Int)<=0/\Int.toNat (0:Int)<n] (leaf normal ([nil,ak 1 n fun i=>ak 12 m fun i_1=>bH (f i i_1) r,nil,int i64 (↑m:Int),int i64 0],[])))):=ah
theorem akT:aI T [nG] [15] 60 tg (before Ag [1,1,0]) ⟨aA tg (A1 f n m r j),Ad f n r j,1⟩=
  let a:List AV×aC:=([nil,ak 1 n fun i=>ak 12 m fun i_1=>bH (f i i_1) r,own 0 1 0 j,int i64 (↑m:Int),int i64 (↑j:Int)],[(0,aq.mk true true 1 j fun j=>ak 12 n fun i=>bH (f i j) r)]);some (fork (decide ((↑j:Int)<(↑m:Int))) (leaf normal a) (leaf (exit 0) a)):=ah
theorem aeG:aI T [nG] [] 60 yR (before Al [1,1,0,1]) ⟨aA tg (A1 f n m r j),Ad f n r j,1⟩=
  some (leaf normal ([nil,ak 1 n fun i=>ak 12 m fun i_1=>bH (f i i_1) r,own 0 1 0 j,int i64 (↑m:Int),int i64 (↑j:Int),int i64 (↑j:Int),nil,int i64 (↑n:Int),int i64 0],[(0,aq.mk true true 1 j fun j=>ak 12 n fun i=>bH (f i j) r)])):=ah
theorem ahT:aI T [nG] [20] 60 yR [part Al [1,1,0,1,0,0]] ⟨aA yR (FK f n m r j i),FD f n r j i,2⟩=
  let a:=(↑n:Int);let g:=(↑j:Int);let o:=own 0 1 0 j;let b:=(↑i:Int);let d:=rat 0 1;let l:=ak 1 n fun i=>ak 12 m fun i_1=>bH (f i i_1) r;let k:Nat×aq:=(0,aq.mk true true 1 j fun j=>ak 12 n fun i=>bH (f i j) r);let h:=b+1;let e:=int i64 g;let p:Pl:=f b.toNat g.toNat;some (fork (decide (b<a)) (aj [(0:Int)<=b/\b.toNat<n,(0:Int)<=g/\g.toNat<m,(1:Nat)*12<=2^24,(i+1)*((224:Nat)+1)*2<=2^47] (aj [-(2:Int)^63<=h/\h<2^63] (leaf normal ([nil,l,o,int i64 (↑m:Int),e,e,own 49154 12 0 (i+1),int i64 a,int i64 h],[(49154,aq.mk true true 12 (i+1) fun i_1=>if i_1<i then bH (f i_1 j) r else nth [bH p r] (agg [agg [d,d,d],d]) (i_1-i+0)),k])))) (leaf (exit 2) ([nil,l,o,int i64 (↑m:Int),e,e,own 1 12 0 i,int i64 a,int i64 b],[(1,aq.mk true true 12 i fun i=>bH (f i j) r),k]))):=ah
theorem afI:aI T [nG] [] 60 tg (behind Al [1,1,0,1]++[part Ag [1,1,1]]) ⟨aA yR (FK f n m r j i),FD f n r j i,2⟩=
  let a:=(↑j:Int)+1;some (aj [(1:Nat)*1<=2^24,(j+1)*((24:Nat)+1)*2<=2^47] (aj [-(2:Int)^63<=a/\a<2^63] (leaf normal ([nil,ak 1 n fun i=>ak 12 m fun i_1=>bH (f i i_1) r,own 12290 1 0 (j+1),int i64 (↑m:Int),int i64 a],[(12290,aq.mk true true 1 (j+1) fun i_1=>if i_1<j then aT (fun i=>f i i_1) n r else nth [ak 12 i fun i=>bH (f (i+0) j) r] nil (i_1-j+0))])))):=ah
theorem ahu:ct T [nG] [] 60 f97 [part x7 [1,1,1,1]] ⟨aA tg (A1 f n m r j),Ad f n r j,1⟩=
  some (leaf ret [ak 1 j fun i=>ak 12 n fun i_1=>bH (f i_1 (i+0)) r]):=ah
theorem aj6:bX T [nG] [100009] 60 f97 (aE f97) ⟨aN 0 [fK f 0 0 r],[],0⟩=
  some (aj [((↑(0:Nat):Int)==0)=true] (leaf ret [nil])):=ah
theorem ZJ {s:Sf}:aI T sq [] 60 rT (before xw [1,1,0,1]) ⟨aN 0 [bM s 2000 2000],[],0⟩=
  let b:=(bp (bM s 2000 2000)).size;let a:=aT (s.f 0) s.m 2000;some (aj [(0:Nat)<1,dN (fun i=>aT (s.f i) s.m 2000) s.n (rS a),s.n=0->dn a=0,s.n<2^28,dn a<2^28] (leaf normal ([nil,ptr 0 0 b 0 [],nil,ak 1 (dn a) fun i=>ak 12 s.n fun i_1=>agg [agg [rat (aF (rat (s.f i_1 i).n.x 2000)) (rS a),rat (aF (rat (s.f i_1 i).n.y 2000)) (rS a),rat (aF (rat (s.f i_1 i).n.z 2000)) (rS a)],rat (aF (rat (s.f i_1 i).d 2000)) (rS a)],int i64 (↑(dn a):Int),int i64 0],[(0,aq.mk false true b 1 fun x=>bM s 2000 2000)]))):=ah
theorem amu {s:Sf}:aI T sq [14] 60 rT (before xD [1,1,0]) ⟨aA rT (Ax s j),yG s j,2⟩=
  let e:=ak 3 s.a fun i=>rat (s.ku i) 2000;let d:List AV×aC:=([nil,ptr 0 0 5 0 [],own 1 3 0 j,ak 1 s.m fun i=>ak 12 s.n fun i_1=>bH (s.f i_1 i) 2000,int i64 (↑s.m:Int),int i64 (↑j:Int)],[(1,aq.mk true true 3 j fun j=>agg [int i64 s.u,e,ak 12 s.n fun i=>bI (cy (s.f i j)) 4000]),(0,aq.mk false true 5 1 fun x=>agg [int i64 s.u,int i64 s.v,e,ak 3 s.b fun i=>rat (s.kv i) 2000,ak 1 s.n fun i=>ak 12 s.m fun i_1=>bH (s.f i i_1) 2000])]);some (fork (decide ((↑j:Int)<(↑s.m:Int))) (leaf normal d) (leaf (exit 0) d)):=ah
theorem X9 {s:Sf}:aI T sq [] 60 z7 (before xo [1,1,0,1]) ⟨aA rT (Ax s j),yG s j,2⟩=
  let h:=agg [int i64 0,nil,nil];let d:=0<1;let g:=ak 3 s.a fun i=>rat (s.ku i) 2000;let e:=(↑j:Int).toNat;some (aj [(0:Int)<=(↑j:Int)/\e<s.m] (aj [d,d,d] (leaf normal ([nil,ptr 0 0 5 0 [],own 1 3 0 j,ak 1 s.m fun i=>ak 12 s.n fun i_1=>bH (s.f i_1 i) 2000,int i64 (↑s.m:Int),int i64 (↑j:Int),ptr 32770 0 3 0 [],ak 12 s.n fun i=>bH (s.f i e) 2000,int i64 (↑s.n:Int),int i64 0],[((32770:Nat),bG fun j=>if(j==0)=true then bp (agg ((h.kids.set 0 (bp (int i64 s.u))).set 1 (bp (bu s.ku s.a 2000))))else h),(1,aq.mk true true 3 j fun j=>agg [int i64 s.u,g,ak 12 s.n fun i=>bI (cy (s.f i j)) 4000]),(0,aq.mk false true 5 1 fun x=>agg [int i64 s.u,int i64 s.v,g,ak 3 s.b fun i=>rat (s.kv i) 2000,ak 1 s.n fun i=>ak 12 s.m fun i_1=>bH (s.f i i_1) 2000])])))):=ah
theorem UZ {s:Sf}:aI T sq [25] 60 z7 [part xo [1,1,0,1,0,0]] ⟨aA z7 (Gz s j i),DY s j i,4⟩=
  let o:=int i64 s.u;let t:=(↑s.n:Int);let r:=(↑(3:Nat):Int);let H:=own 1 3 0 j;let G:=own 3 12 0 i;let F:=ptr 2 0 3 0 [];let E:=ptr 0 0 5 0 [];let l:=(↑(4:Nat):Int);let q:=2000+2000;let h:=(↑i:Int);let k:=rat 0 1;let I:=ak 3 s.a fun i=>rat (s.ku i) 2000;let p:=(2:Int)^63;let L:=ak 12 s.n fun i=>bH (s.f i j) 2000;let B:=2000<2^42;let K:=ak 1 s.m fun i=>ak 12 s.n fun i_1=>bH (s.f i_1 i) 2000;let A:=(0:Int)+1;let e:=0<1;let w:=h+1;let g:=A+1;let D:=agg [o,bu s.ku s.a 2000,G];let C:Pl:=s.f h.toNat j;let J:List (Nat×aq):=[(1,aq.mk true true 3 j fun j=>agg [o,I,ak 12 s.n fun i=>bI (cy (s.f i j)) 4000]),(0,aq.mk false true 5 1 fun x=>agg [o,int i64 s.v,I,ak 3 s.b fun i=>rat (s.kv i) 2000,ak 1 s.n fun i=>ak 12 s.m fun i_1=>bH (s.f i i_1) 2000])];some (fork (decide (h<t)) (aj [(0:Int)<=h/\h.toNat<s.n,e] (aj [e,e,e,(0:Int)<=0/\(0:Int)<r,e,e,e,B,B,(0:Int)<=0/\(0:Int)<l,e,-p<=A/\A<p,(0:Int)<=A/\A<r,e,e,e,B,B,(0:Int)<=A/\A<l,e,-p<=g/\g<p,(0:Int)<=g/\g<r,e,e,e,B,B,(0:Int)<=g/\g<l,e,-p<=g+1/\g+1<p,e,B,(1:Nat)<2^42,(0:Int)<=3/\(3:Int)<l,e,e,e,e,(1:Nat)*12<=2^24,(i+1)*((224:Nat)+1)*2<=2^47,e] (aj [-p<=w/\w<p] (leaf normal ([nil,E,H,K,int i64 (↑s.m:Int),int i64 (↑j:Int),F,L,int i64 t,int i64 w],(40964,aq.mk true true 12 (i+1) fun i_1=>if i_1<i then bI (cy (s.f i_1 j)) 4000 else nth [agg [rat (C.d*C.n.x) q,rat (C.d*C.n.y) q,rat (C.d*C.n.z) q,rat (C.d+0) ((2000:Nat)+1+1)]] (agg [k,k,k,k]) (i_1-i+0))::((2:Nat),bG fun j=>if(j==0)=true then agg (D.kids.set 2 (bp (own (nat_lit 40963+1) 12 0 (i+1))))else D)::J))))) (leaf (exit 2) ([nil,E,H,K,int i64 (↑s.m:Int),int i64 (↑j:Int),F,L,int i64 t,int i64 h],(3,aq.mk true true 12 i fun i=>bI (cy (s.f i j)) 4000)::((2:Nat),bG fun x=>agg [o,I,G])::J))):=ah
theorem Xa {s:Sf}:aI T sq [] 60 rT (behind xo [1,1,0,1]++[part xD [1,1,1]]) ⟨aA z7 (Gz s j i),DY s j i,4⟩=
  let d:=(↑j:Int)+1;let e:=ak 3 s.a fun i=>rat (s.ku i) 2000;some (aj [(0:Nat)<1,(1:Nat)*3<=2^24,(j+1)*((56:Nat)+1)*2<=2^47] (aj [-(2:Int)^63<=d/\d<2^63] (leaf normal ([nil,ptr 0 0 5 0 [],own 12292 3 0 (j+1),ak 1 s.m fun i=>ak 12 s.n fun i_1=>bH (s.f i_1 i) 2000,int i64 (↑s.m:Int),int i64 d],[(12292,aq.mk true true 3 (j+1) fun i_1=>if i_1<j then eo (cq s i_1) 2000 4000 else nth [agg [int i64 s.u,e,ak 12 i fun i=>bI (cy (s.f (i+0) j)) 4000]] (agg [int i64 0,nil,nil]) (i_1-j+0)),(0,aq.mk false true 5 1 fun x=>agg [int i64 s.u,int i64 s.v,e,ak 3 s.b fun i=>rat (s.kv i) 2000,ak 1 s.n fun i=>ak 12 s.m fun i_1=>bH (s.f i i_1) 2000])])))):=ah
theorem akE {s:Sf}:ct T sq [] 60 f135 [part xw [1,1,1]] ⟨aA rT (Ax s j),yG s j,2⟩=
  some (leaf ret [ak 3 j fun i=>agg [int i64 s.u,ak 3 s.a fun i=>rat (s.ku i) 2000,ak 12 s.n fun i_1=>bI (cy (s.f i_1 (i+0))) 4000]]):=ah
theorem rowAt {rl:List (Nat×Nat)} {g:Nat->AV} {k:Nat} (hk:k<j+1) (hg:keys (g k)=[]) (hv:v=g j):gD rl (if k<j then g k else nth [v] z (k-j+0)) (g k):=by
 by_cases h:k<j
 ·rw[if_pos h];exact cW hg rfl
 ·have:k=j:=aa;subst this;rw[if_neg h,Nat.sub_self,hv];exact cW hg rfl
theorem ahL (hn:1<=n) (h2:n<2^28) (h3:m<2^28) (K:Nat):aQ P 97 K [fK f n m r] [] (aJ (fK (fun j i=>f i j) m n r) []):=by
 refine fV (r:=aJ (fK (fun j i=>f i j) m n r) []) hT Fw rfl aV rfl (fun _ cx h00=>?_) K [];have hk:=iL h00;refine ax.vP hT (cB bw) hm (x:=x7) [1,1,1,0,1] (i:=0) (y:=Ag) (z:=part x7 [1,1,1,1]) ah ah ah Fw.dst [1,1,0] (j:=1) (x1:=Al) (zb:=part Ag [1,1,1]) ah ah ah [1,1,0,1] (i2:=2) (y2:=part Al [1,1,0,1,0,0]) ah ah rfl
  hk (f1:=[200009]) (f2:=[15]) (f3:=[]) (f4:=[20]) (f5:=[]) 60 tg yR 1 2 (fun j:Nat=>A1 f n m r j) (fun j=>Ad f n r j) (fun j=>j<=m) (fun j=>j=m) (fun j=>m-j) (fun j=>j<m) (fun _=>False) (fun _=>False)
  (fun j (i:Nat)=>FK f n m r j i) (fun j i=>FD f n r j i) (fun _ i=>i<=n) (fun _ i=>i=n) (fun _ i=>n-i) ⟨_,agV,?_⟩ (fun j hj=>⟨_,akT,?_⟩) (fun j hj hg=>⟨_,aeG,?_⟩) (fun j hj hg i hi=>⟨_,ahT,?_⟩) (fun j hj hg i hi=>⟨_,afI,?_⟩) (fun j hj=>?_) (fun _ _ h=>h.elim) (fun _ _ h=>h.elim)
 all_goals try simp only[ag.all,ay,br,bC,bg,Nat.add_zero]
 ·exact⟨beq_eq_false_iff_ne.2 aa,aa,0,Nat.zero_le _,[],rfl,rfl,rfl,jP rfl aa aa trivial⟩
 ·exact⟨fun h=>⟨aa,[(0,0)],rfl,rfl,rfl,cX trivial⟩,fun h=>⟨rfl,j,aa,[(0,0)],rfl,rfl,rfl,cX trivial⟩⟩
 ·exact⟨0,Nat.zero_le _,[(0,0)],rfl,rfl,rfl,jP rfl aa aa (cX trivial)⟩
 ·refine⟨fun h=>⟨⟨aa,aa,aa,aa⟩,aa,i+1,aa,by dsimp only;omega,[(0,0),(1,49154)],rfl,rfl,rfl,cj rfl rfl rfl (fun k hk=>LB (y:=fun i=>f i j) (fun _ _=>rfl) (.refl _) rfl bq bq hk) (cX trivial)⟩,
   fun h=>⟨rfl,i,aa,[(0,0),(1,1)],rfl,rfl,rfl,cX (cX trivial)⟩⟩
 ·subst hi;exact⟨⟨aa,aa⟩,aa,j+1,aa,by dsimp only;omega,[(0,12290)],rfl,rfl,rfl,cj rfl rfl rfl (fun k hk=>rowAt (g:=fun j=>aT (fun k=>f k j) i r) hk rfl rfl) trivial⟩
 ·subst hj;refine ax.hH ((aG.fin hT (cB bw) hm 60 ahu ah ?_).mono fun _ _ h=>.inl h);simp only[ag.all,ay];exact .refl _
theorem Za (K:Nat):aQ P 97 K [fK f 0 0 r] [] (aJ (fK (fun j i=>f i j) 0 0 r) []):=by
 refine b9 (r:=aJ (fK (fun j i=>f i j) 0 0 r) []) hT (cB bw) hm Fw rfl aV rfl 60 aj6 (fun _=>?_) K [];simp only[ag.all,ay];exact⟨rfl,iT (es:=1) (by decide)⟩
theorem Fi:aW P Dh 97:=cr fun⟨⟨⟨n,m,f⟩,r⟩,_⟩ K hn=>by
 obtain⟨h1,h2,h3⟩:(n=0->m=0)/\n<2^28/\m<2^28:=hn;rcases Nat.eq_zero_or_pos n with h0|h0
 ·obtain rfl:=h1 h0;subst h0;exact Za K
 ·exact ahL h0 h2 h3 K
theorem LY:bn P sq:=cB (aH Fi (aH (je hT afU hm agf _ _) jA))
theorem ah0 {s:Sf} (hn:1<=s.n) (h2:s.n<2^28) (h3:s.m<2^28) (K:Nat):aQ P 135 K [bM s 2000 2000] [] (aJ (lS s s.m) []):=by
 refine fV (r:=aJ (lS s s.m) []) hT P6 rfl aV rfl (fun _ cx h00=>?_) K [];have hk:=iL h00;refine ax.vP hT LY hm (x:=xw) [1,1,0,1] (i:=0) (y:=xD) (z:=part xw [1,1,1]) ah ah ah P6.dst [1,1,0] (j:=1) (x1:=xo) (zb:=part xD [1,1,1]) ah ah ah [1,1,0,1] (i2:=2) (y2:=part xo [1,1,0,1,0,0]) ah ah rfl
  hk (f1:=[]) (f2:=[14]) (f3:=[]) (f4:=[25]) (f5:=[]) 60 rT z7 2 4 (fun j:Nat=>Ax s j) (fun j=>yG s j) (fun j=>j<=s.m) (fun j=>j=s.m) (fun j=>s.m-j) (fun j=>j<s.m) (fun _=>False) (fun _=>False)
  (fun j (i:Nat)=>Gz s j i) (fun j i=>DY s j i) (fun _ i=>i<=s.n) (fun _ i=>i=s.n) (fun _ i=>s.n-i) ⟨_,ZJ,?_⟩ (fun j hj=>⟨_,amu,?_⟩) (fun j hj hg=>⟨_,X9,?_⟩) (fun j hj hg i hi=>⟨_,UZ,?_⟩) (fun j hj hg i hi=>⟨_,Xa,?_⟩) (fun j hj=>?_) (fun _ _ h=>h.elim) (fun _ _ h=>h.elim)
 all_goals try simp only[ag.all,ay,br,bC,bg,Nat.add_zero]
 ·have e1:dn (aT (s.f 0) s.m 2000)=s.m:=rfl;rw[e1];exact⟨⟨aa,fo bq,aa,h2,h3⟩,0,Nat.zero_le _,[(0,0)],rfl,rfl,rfl,jP rfl aa aa (aL trivial)⟩
 ·exact⟨fun h=>⟨aa,[(0,0),(1,1)],rfl,rfl,rfl,cX (aL trivial)⟩,fun h=>⟨rfl,j,aa,[(0,0),(1,1)],rfl,rfl,rfl,cX (aL trivial)⟩⟩
 ·exact⟨aa,⟨aa,aa,aa⟩,0,Nat.zero_le _,[(0,0),(1,1),(2,32770)],rfl,rfl,rfl,jP rfl aa aa (cP rfl rfl (lP ⟨aM,aM,⟨rfl,pY aa⟩,trivial⟩) (cX (aL trivial)))⟩
 ·refine⟨fun h=>?_,fun h=>⟨rfl,i,aa,[(0,0),(1,1),(2,2),(3,3)],rfl,rfl,rfl,cX (cP rfl rfl (qT rfl rfl rfl) (cX (aL trivial)))⟩⟩
  (repeat' with_reducible refine And.intro ?_ ?_)
  all_goals first|omega|skip
  exact⟨i+1,aa,by dsimp only;omega,[(0,0),(1,1),(2,2),(3,40964)],rfl,rfl,rfl,cj rfl rfl rfl (fun k hk=>qe (g:=fun i=>bI (cy (s.f i j)) (4000)) (fun _ _=>⟨rfl,rfl⟩) rfl (cM ⟨cm rfl bq,cm rfl bq,cm rfl bq,cm (Rat.add_zero _) (by decide),trivial⟩) hk) (cP rfl rfl (qT rfl rfl rfl) (cX (aL trivial)))⟩
 ·subst hi;exact⟨⟨aa,aa,aa⟩,aa,j+1,aa,by dsimp only;omega,[(0,0),(1,12292)],rfl,rfl,rfl,cj rfl rfl rfl (fun k hk=>rowAt (g:=fun j=>eo (cq s j) 2000 (4000)) hk rfl rfl) (aL trivial)⟩
 ·subst hj;refine ax.hH ((aG.fin hT LY hm 60 akE ah ?_).mono fun _ _ h=>.inl h);simp only[ag.all,ay];exact .refl _
def Gq:Spec:=cz (kC (gh 2000 2000) kN) (fun a=>lS a.1 a.1.m) fun a=>[1<=a.1.n,a.1.n<2^28,a.1.m<2^28]
theorem PC:aW P Gq 135:=cr fun⟨s,_⟩ K hn=>ah0 hn.1 hn.2.1 hn.2.2 K
theorem Ll:aU 117 f117:=aS func117
def wJ:aX:=nG::(175,PW)::(158,AN)::(177,vg)::(178,pB)::(179,EA)::(180,Lw)::(La++oT)
abbrev uJ:Code:=aE f117
abbrev rK:Code:=part uJ [1,1,1]
abbrev zu:List Nat:=[1,2,3]
abbrev uR (i:Nat):List AV:=[.ptr 0 0 3 0 [],.int .i64 0,.int .i64 i]
abbrev zE:List Nat:=[1,2,5]
abbrev ve (c:Cu):aC:=[(0,⟨false,true,3,1,fun _=>gC c 2048 2048⟩)]
theorem af0 {c:Cu}:aI T wJ [] 60 zu (before uJ [1,1,0,1]) ⟨aN 0 [gC c 2048 2048],[],0⟩=
  let a:=(bp (gC c 2048 2048)).size;some (aj [(0:Nat)<1,bh (fun i=>rat (c.k i) 2048) c.n sK,c.n<2^40] (leaf normal ([ptr 0 0 a 0 [],int i64 0,int i64 0],[(0,aq.mk false true a 1 fun x=>agg [int i64 c.p,ak 3 c.n fun i=>rat (c.k i) 2048,ak 12 c.m fun i=>agg [agg [rat (c.f i).n.x 2048,rat (c.f i).n.y 2048,rat (c.f i).n.z 2048],rat (c.f i).d 2048]])]))):=ah
theorem aio {c:Cu}:aI T wJ [14] 60 zu [part uJ [1,1,0,1,0,0]] ⟨aA zu (uR i),ve c,1⟩=
  let b:=0<1;let h:=ptr 0 0 3 0 [];let a:=(↑i:Int);let g:List (Nat×aq):=[((0:Nat),bG fun x=>agg [int i64 c.p,ak 3 c.n fun i=>rat (c.k i) 2048,ak 12 c.m fun i=>agg [agg [rat (c.f i).n.x 2048,rat (c.f i).n.y 2048,rat (c.f i).n.z 2048],rat (c.f i).d 2048]])];let e:=a+1;let j:=(0:Int)<=a/\a.toNat<c.m;some (aj [b] (fork (decide (a<(↑c.m:Int))) (aj [b,j,b,j] (aj [-(2:Int)^63<=e/\e<2^63] (leaf normal ([h,int i64 0,int i64 e],g)))) (leaf (exit 0) ([h,int i64 0,int i64 a],g)))):=ah
theorem Wv {c:Cu}:aI T wJ [200041,200051] 60 zE (before rK [1,1,0,1]) ⟨aA zu (uR i),ve c,1⟩=
  let b:=c.n<2^40;let a:=0<1;some (aj [a,a,bh (fun i=>rat (c.k i) 2048) c.n sJ,b] (aj [(fq c.n (fun i=>aF (rat (c.k i) 2048)) c.p !=(0:Int))=false] (aj [a,a,a,bh (fun i=>rat (c.k i) 2048) c.n sK,b,-(2:Int)^40<c.p,c.p<2^40] (aj [((↑c.m:Int)!=(↑c.n:Int)-c.p-1)=false] (leaf normal ([ptr 0 0 3 0 [],int i64 0,int i64 0],[((0:Nat),bG fun x=>agg [int i64 c.p,ak 3 c.n fun i=>rat (c.k i) 2048,ak 12 c.m fun i=>agg [agg [rat (c.f i).n.x 2048,rat (c.f i).n.y 2048,rat (c.f i).n.z 2048],rat (c.f i).d 2048]])])))))):=ah
theorem afQ {c:Cu}:aI T wJ [56,200066] 60 zE [part rK [1,1,0,1,0,0]] ⟨aA zE (uR i),ve c,1⟩=
  let g:=ptr 0 0 3 0 [];let a:=(↑i:Int);let e:List (Nat×aq):=[((0:Nat),bG fun x=>agg [int i64 c.p,ak 3 c.n fun i=>rat (c.k i) 2048,ak 12 c.m fun i=>agg [agg [rat (c.f i).n.x 2048,rat (c.f i).n.y 2048,rat (c.f i).n.z 2048],rat (c.f i).d 2048]])];let b:=a+1;some (aj [(0:Nat)<1] (fork (decide (a<(↑c.m:Int))) (aj [(0:Nat)<1,(0:Int)<=a/\a.toNat<c.m] (aj [decide (fy (c.f a.toNat).d<=(0:Int))=false] (aj [-(2:Int)^63<=b/\b<2^63] (leaf normal ([g,int i64 0,int i64 b],e))))) (leaf (exit 2) ([g,int i64 0,int i64 a],e)))):=ah
theorem Xu {c:Cu}:ct T wJ [] 60 f117 [part rK [1,1,1]] ⟨aA zE (uR i),ve c,1⟩=
  some (aj [(0:Nat)<1,bh (fun i=>rat (c.k i) 2048) c.n 2048,c.n<2^40,(0:Nat)<1,iX (fun i=>bH (c.f i) 2048) c.m 2048,c.m<2^40] (leaf ret [int i64 0])):=ah
theorem HN:bn P wJ:=cB (aH afc (aH E1 (aH aep (aH Nf (aH Sn (aH ahU (s9 TR qv)))))))
theorem Tr (h:0<q):¬(fy q<=0):=by unfold fy;grind
theorem aiI {c:Cu} (hk:Kn c.n c.p.toNat c.k) (h0:0<=c.p) (h6:c.p<=6) (hn:c.n<=c.p.toNat+41) (hm2:(c.m:Int)=(c.n:Int)-c.p-1) (hw:∀i,i<c.m->0<(c.f i).d) (K:Nat):aQ P 117 K [gC c 2048 2048] [] (aJ (.int .i64 0) []):=by
 refine fV (r:=aJ (.int .i64 0) []) hT Ll rfl aV rfl (fun _ cx h00=>?_) K [];have hkp:=iL h00;have hc:fq c.n c.k c.p=0:=by
  have:=hk.uM aa hn;rwa [Int.toNat_of_nonneg h0]at this
 refine ax.oy hT HN hm (x:=uJ) [1,1,0,1] (i:=0) (y:=part uJ [1,1,0,1,0,0]) ah ah Ll.dst hkp (f1:=[]) (f2:=[14]) 60 zu 1 (fun i:Nat=>uR i) (fun _=>ve c) (fun i=>i<=c.m) (fun _=>True) (fun i=>c.m-i) (fun _=>False) ⟨_,af0,?_⟩ (fun i hi=>⟨_,aio,?_⟩) (fun i s' hi hle=>?_) (fun _ _ h=>h.elim)
 ·simp only[ag.all,ay];exact⟨⟨aa,bL (by decide),aa⟩,0,Nat.zero_le _,[(0,0)],rfl,rfl,rfl,aL trivial⟩
 ·simp only[ag.all,ay,br,bC];exact⟨aa,fun h=>⟨⟨aa,aa,aa,aa⟩,aa,i+1,aa,by dsimp only;omega,[(0,0)],rfl,rfl,rfl,aL trivial⟩,fun h=>⟨rfl,i,trivial,[(0,0)],rfl,rfl,rfl,aL trivial⟩⟩
 rw[show behind uJ [1,1,0,1]=[rK]from by kernel_rfl];refine aG.weak rfl hle (aG.one ?_);refine ax.oy hT HN hm (x:=rK) [1,1,0,1] (i:=2) (y:=part rK [1,1,0,1,0,0]) ah ah ah hkp (f1:=[200041,200051]) (f2:=[56,200066]) 60 zE 1 (fun i:Nat=>uR i) (fun _=>ve c) (fun i=>i<=c.m) (fun _=>True) (fun i=>c.m-i) (fun _=>False) ⟨_,Wv,?_⟩ (fun i hi=>⟨_,afQ,?_⟩) (fun i s' hi hle=>?_) (fun _ _ h=>h.elim)
 ·simp only[ag.all,ay];exact⟨⟨aa,aa,bL (by decide),aa⟩,bne_eq_false_iff_eq.2 hc,⟨aa,aa,aa,bL (by decide),aa,aa,aa⟩,bne_eq_false_iff_eq.2 hm2,0,Nat.zero_le _,[(0,0)],rfl,rfl,rfl,aL trivial⟩
 ·simp only[ag.all,ay,br,bC];exact⟨aa,fun h=>⟨⟨aa,aa,aa⟩,Tr (hw _ aa),aa,i+1,aa,by dsimp only;omega,[(0,0)],rfl,rfl,rfl,aL trivial⟩,fun h=>⟨rfl,i,trivial,[(0,0)],rfl,rfl,rfl,aL trivial⟩⟩
 ·rw[show behind rK [1,1,0,1]=[part rK [1,1,1]]from by kernel_rfl];refine aG.weak rfl hle ((aG.fin hT HN hm 60 Xu ah ?_).mono fun _ _ h=>.inl h);simp only[ag.all,ay];exact⟨⟨aa,bL bq,aa,aa,mQ bq,aa⟩,.refl _⟩
def NI:Spec:=cz (kC (CE 2048 2048) kN) (fun _=>.int .i64 0) fun a=>[Kn a.1.n a.1.p.toNat a.1.k,0<=a.1.p,a.1.p<=6,a.1.n<=a.1.p.toNat+41,(a.1.m:Int)=(a.1.n:Int)-a.1.p-1,∀i,i<a.1.m->0<(a.1.f i).d]
theorem aaR:aW P NI 117:=cr fun⟨c,_⟩ K hn=>aiI hn.1 hn.2.1 hn.2.2.1 hn.2.2.2.1 hn.2.2.2.2.1 hn.2.2.2.2.2 K
structure cO (s:Sf):Prop where
 ku:Kn s.a s.u.toNat s.ku
 kv:Kn s.b s.v.toNat s.kv
 u0:0<=s.u
 u6:s.u<=6
 v0:0<=s.v
 v6:s.v<=6
 a:s.a<=s.u.toNat+41
 b:s.b<=s.v.toNat+41
 n:(s.n:Int)=(s.a:Int)-s.u-1
 m:(s.m:Int)=(s.b:Int)-s.v-1
 w:∀i j,i<s.n->j<s.m->0<(s.f i j).d
theorem UJ:aU 153 f153:=aS func153
theorem Zc:aU 94 f94:=aS func94
theorem Kq:aU 160 f160:=aS func160
theorem VF:aU 93 f93:=aS func93
theorem Ju:aU 76 f76:=aS func76
theorem X5:aU 52 f52:=aS func52
theorem Lb {u:AV} (h:bV u v):bV (.bZ u) (.bZ v):=by
 refine⟨rfl,fun M w cs hc=>?_⟩;cases hc with
 |bZ h1 h2 h3=>cases h3;exact .bZ (h.2 _ _ _ h1) h2 .nil
theorem Xf {f:FuncId} {us vs:List AV} (h:fP us vs) (hv:(vs.all fun v=>!v.isAgg&&!v.isTuple)=true):bV (.func f us) (.func f vs):=by
 refine⟨rfl,fun M w cs hc=>?_⟩;cases hc with
 |func h1 h2 h3=>cases h3;exact .func (F3 h h1) hv .nil
def BW {α:Type} (k:Kind α):Kind α:=⟨fun v=>match v with
 |.bZ v=>k.read v
 |_=>none,fun a=>.bZ (k.make a),fun {v a q} h hq=>by
  split at h
  ·exact Lb (k.ok h hq)
  ·simp at h⟩
def Bk {α:Type} (k:Kind α):Kind (FuncId×α):=⟨fun v=>match v with
 |.func f [.bZ v]=>match k.read v with
  |some (a,q)=>some ((f,a),q)
  |none=>none
 |_=>none,fun a=>.func a.1 [.bZ (k.make a.2)],fun {v a q} h hq=>by
  split at h
  ·split at h
   ·rename_i h1;simp only[az,Prod.mk.injEq]at h;obtain⟨rfl,rfl⟩:=h;exact Xf ⟨Lb (k.ok h1 hq),trivial⟩ rfl
   ·simp at h
  ·simp at h⟩
def FX:aX:=nG::(152,pB)::[]
def Q3:Spec:=cz (kC (nh sJ) (kC (BW (gh sJ sJ)) kN)) (fun _=>.bool false) fun a=>[(a.1.1:Int)=(a.2.1.b:Int)-a.2.1.v-1,a.2.1.b<2^40,-2^40<a.2.1.v,a.2.1.v<2^40]
def Pe:Spec:=cz (kC (nh sJ) (kC (BW (gh sJ sJ)) kN)) (fun _=>.bool false) fun a=>[a.1.1=a.2.1.m,1<=a.2.1.n]
def u9 (m:Nat) (g:FuncId) (s:Sf):Prop:=(g=153/\(m:Int)=(s.b:Int)-s.v-1/\s.b<2^40/\-2^40<s.v/\s.v<2^40)\/(g=94/\m=s.m/\1<=s.n)
def xN:aX:=nG::(153,Q3)::(94,Pe)::[]
abbrev rq:List Nat:=[4,0,1,7,8]
abbrev zk (f:Nat->Nat->Pl) (n m i:Nat) (g:FuncId) (s:Sf):List AV:=[.int .i64 0,fK f n m sJ,.func g [.bZ (bM s sJ sJ)],.int .i64 n,.int .i64 i]
abbrev ql:Code:=aE f160
def KD:Spec:=cz (kC (uH sJ) (kC (Bk (gh sJ sJ)) kN)) (fun _=>.int .i64 (-1)) fun a=>[a.1.1<2^40,u9 a.1.2.1 a.2.1.1 a.2.1.2]
def HD:Spec:=cz (kC (uH sJ) (kC (Bk (gh sJ sJ)) kN)) (fun _=>.bool false) fun a=>[a.1.1<2^40,u9 a.1.2.1 a.2.1.1 a.2.1.2]
def OP:aX:=nG::(160,KD)::[]
def Ga:aX:=nG::(152,pB)::(93,HD)::[]
def Dp:Spec:=cz (kC (gh sJ sJ) kN) (fun _=>.bool true) fun a=>[cO a.1]
def Kp:aX:=nG::(75,vg)::(76,Dp)::[]
theorem Tj {f:Nat->Pl} {s:Sf}:bX T FX [] 60 f153 (aE f153) ⟨aN 0 [aT f m sJ,.bZ (bM s sJ sJ)],[],0⟩=
  some (aj [bh (fun i=>rat (s.kv i) sJ) s.b sK,s.b<2^40,-(2:Int)^40<s.v,s.v<2^40] (leaf ret [AV.bool ((↑m:Int)!=(↑s.b:Int)-s.v-1)])):=ah
theorem aiS {f:Nat->Pl} {s:Sf}:bX T FX [] 60 f94 (aE f94) ⟨aN 0 [aT f m sJ,.bZ (bM s sJ sJ)],[],0⟩=
  some (aj [(0:Int)<=0/\Int.toNat (0:Int)<s.n] (leaf ret [AV.bool ((↑m:Int)!=(↑s.m:Int))])):=ah
theorem Jc {s:Sf}:aI T xN [] 60 rq (before ql [1,0,1]) ⟨aN 0 [fK f n m sJ,.func g [.bZ (bM s sJ sJ)]],[],0⟩=
  some (leaf normal ([int i64 0,ak 1 n fun i=>ak 12 m fun i_1=>bH (f i i_1) 4000,func g [(bM s 4000 4000).bZ],int i64 (↑n:Int),int i64 0],[])):=ah
theorem WY {s:Sf}:aI T xN [9] 60 rq [part ql [1,0,1,0,0]] ⟨aA rq (zk f n m i 153 s),[],0⟩=
  let g:=(↑n:Int);let d:=(↑i:Int);let j:=ak 1 n fun i=>ak 12 m fun i_1=>bH (f i i_1) 4000;let h:=func 153 [(bM s 4000 4000).bZ];let e:=d+1;some (fork (decide (d<g)) (aj [(0:Int)<=d/\d.toNat<n,iX (fun i=>bH (f d.toNat i) sJ) m sJ,bh (fun i=>rat (s.ku i) sJ) s.a sJ,bh (fun i=>rat (s.kv i) sJ) s.b sJ,dN (fun i=>aT (s.f i) s.m sJ) s.n sJ,(↑m:Int)=(↑s.b:Int)-s.v-1,s.b<2^40,-(2:Int)^40<s.v,s.v<2^40] (aj [-(2:Int)^63<=e/\e<2^63] (leaf normal ([int i64 0,j,h,int i64 g,int i64 e],[])))) (leaf (exit 0) ([int i64 0,j,h,int i64 g,int i64 d],[]))):=ah
theorem aj8 {s:Sf}:aI T xN [9] 60 rq [part ql [1,0,1,0,0]] ⟨aA rq (zk f n m i 94 s),[],0⟩=
  let g:=(↑n:Int);let d:=(↑i:Int);let j:=ak 1 n fun i=>ak 12 m fun i_1=>bH (f i i_1) 4000;let h:=func 94 [(bM s 4000 4000).bZ];let e:=d+1;some (fork (decide (d<g)) (aj [(0:Int)<=d/\d.toNat<n,iX (fun i=>bH (f d.toNat i) sJ) m sJ,bh (fun i=>rat (s.ku i) sJ) s.a sJ,bh (fun i=>rat (s.kv i) sJ) s.b sJ,dN (fun i=>aT (s.f i) s.m sJ) s.n sJ,m=dn (aT (s.f 0) s.m sJ),(1:Nat)<=s.n] (aj [-(2:Int)^63<=e/\e<2^63] (leaf normal ([int i64 0,j,h,int i64 g,int i64 e],[])))) (leaf (exit 0) ([int i64 0,j,h,int i64 g,int i64 d],[]))):=ah
theorem M8 {s:Sf}:ct T xN [] 60 f160 [part ql [1,1]] ⟨aA rq (zk f n m i g s),[],0⟩=
  some (leaf ret [int i64 (-1:Int)]):=ah
theorem amt {s:Sf}:bX T OP [] 60 f93 (aE f93) ⟨aN 0 [fK f n m sJ,.func g [.bZ (bM s sJ sJ)]],[],0⟩=
  some (aj [dN (fun i=>aT (f i) m sJ) n sJ,bh (fun i=>rat (s.ku i) sJ) s.a sJ,bh (fun i=>rat (s.kv i) sJ) s.b sJ,dN (fun i=>aT (s.f i) s.m sJ) s.n sJ,n<2^40,u9 (dn (aT (f 0) m sJ)) g (Sf.mk s.u s.v s.a (fun i=>aF (rat (s.ku i) sJ)) s.b (fun i=>aF (rat (s.kv i) sJ)) s.n (dn (aT (s.f 0) s.m sJ)) (dh fun i=>aT (s.f i) s.m sJ))] (leaf ret [AV.bool false])):=ah
theorem V4 {s:Sf}:aI T Ga [] 60 [1,2] (before (aE f76) [1]) ⟨aN 0 [bM s sJ sJ],[],0⟩=
  let a:=(bp (bM s sJ sJ)).size;some (leaf normal ([ptr 0 0 a 0 [],AV.bool false],[(0,aq.mk false true a 1 fun x=>bM s 4000 4000)])):=ah
theorem Yl {s:Sf}:ct T Ga [100012] 60 f76 [part (aE f76) [1]] ⟨aA [1,2] [.bZ (bM s sJ sJ),.bool false],[(0,⟨false,false,5,1,fun _=>bM s sJ sJ⟩)],1⟩=
  let e:=dn (aT (s.f 0) s.m sJ);let d:=dN (fun i=>aT (s.f i) s.m sJ) s.n sJ;some (aj [bh (fun i=>rat (s.ku i) sJ) s.a sK,s.a<2^40,-(2:Int)^40<s.u,s.u<2^40,((↑s.n:Int)==(↑s.a:Int)-s.u-1)=true,d,bh (fun i=>rat (s.ku i) sJ) s.a sJ,bh (fun i=>rat (s.kv i) sJ) s.b sJ,d,s.n<2^40,u9 e 153 (Sf.mk s.u s.v s.a (fun i=>aF (rat (s.ku i) sJ)) s.b (fun i=>aF (rat (s.kv i) sJ)) s.n e (dh fun i=>aT (s.f i) s.m sJ))] (leaf ret [AV.bool true])):=ah
theorem Wg {s:Sf}:bX T Kp [100009,100017] 60 f52 (aE f52) ⟨aN 0 [bM s sJ sJ],[],0⟩=
  let g:=bh (fun i=>rat (s.ku i) sJ) s.a sJ;let e:=bh (fun i=>rat (s.kv i) sJ) s.b sJ;let d:=0<1;some (aj [d,d,g,s.a<2^40,(fq s.a (fun i=>aF (rat (s.ku i) sJ)) s.u==0)=true,d,d,e,s.b<2^40,(bif true then fq s.b (fun i=>aF (rat (s.kv i) sJ)) s.v==0 else false)=true,d,g,e,dN (fun i=>aT (s.f i) s.m sJ) s.n sJ,cO (Sf.mk s.u s.v s.a (fun i=>aF (rat (s.ku i) sJ)) s.b (fun i=>aF (rat (s.kv i) sJ)) s.n (dn (aT (s.f 0) s.m sJ)) (dh fun i=>aT (s.f i) s.m sJ))] (leaf ret [AV.bool true])):=ah
theorem JJ:bn P FX:=cB (aH y9 bw)
theorem aaP:aW P Q3 153:=cr fun⟨⟨m,f⟩,s,_⟩ K hn=>by
 obtain⟨h1,h2,h3,h4⟩:=hn;refine b9 (r:=aJ (.bool false) []) hT JJ hm UJ rfl aV rfl 60 (Tj (m:=m) (f:=f) (s:=s)) (fun _=>?_) K [];dsimp only at h1 h2 h3 h4;simp only[ag.all,ay]
 (repeat' with_reducible refine And.intro ?_ ?_)
 all_goals first|omega|exact bL (by decide)|skip
 exact gQ (bne_eq_false_iff_eq.2 h1)
theorem alk:aW P Pe 94:=cr fun⟨⟨m,f⟩,s,_⟩ K hn=>by
 obtain⟨h1,h2⟩:=hn;refine b9 (r:=aJ (.bool false) []) hT JJ hm Zc rfl aV rfl 60 (aiS (m:=m) (f:=f) (s:=s)) (fun _=>?_) K [];dsimp only at h1 h2;simp only[ag.all,ay]
 (repeat' with_reducible refine And.intro ?_ ?_)
 all_goals first|omega|exact gQ (bne_eq_false_iff_eq.2 aa)|skip
 exact h2
theorem Qy:bn P xN:=cB (aH aaP (aH alk bw))
theorem aeW {s:Sf} (hn:n<2^40) (hg:u9 m g s) (K:Nat):aQ P 160 K [fK f n m sJ,.func g [.bZ (bM s sJ sJ)]] [] (aJ (.int .i64 (-1)) []):=by
 have lv:dn (aT (s.f 0) s.m sJ)=s.m:=rfl;rcases hg with⟨rfl,h1,h2,h3,h4⟩|⟨rfl,h1,h2⟩
 ·refine gP (r:=aJ (.int .i64 (-1)) []) hT Qy hm Kq rfl aV rfl [1,0,1] (i:=0) (y:=part ql [1,0,1,0,0]) (z:=part ql [1,1]) ah ah ah (f1:=[]) (f2:=[9]) (f3:=[]) 60 rq 0
   (fun i:Nat=>zk f n m i 153 s) (fun _=>[]) (fun i=>i<=n) (fun i=>i=n) (fun i=>n-i) (fun _=>⟨⟨_,Jc,?_⟩,fun i hi=>⟨_,WY,?_⟩,fun i hi=>⟨_,M8,?_⟩⟩) K []
  ·simp only[ag.all,ay];exact⟨0,Nat.zero_le _,[],rfl,rfl,rfl,trivial⟩
  ·simp only[ag.all,ay,br,bC,bg];exact⟨fun h=>⟨⟨aa,mQ bq,bL bq,bL bq,fo bq,h1,h2,h3,h4⟩,aa,i+1,aa,by dsimp only;omega,[],rfl,rfl,rfl,trivial⟩,fun h=>⟨rfl,i,aa,[],rfl,rfl,rfl,trivial⟩⟩
  ·simp only[ag.all,ay];exact .refl _
 ·refine gP (r:=aJ (.int .i64 (-1)) []) hT Qy hm Kq rfl aV rfl [1,0,1] (i:=0) (y:=part ql [1,0,1,0,0]) (z:=part ql [1,1]) ah ah ah (f1:=[]) (f2:=[9]) (f3:=[]) 60 rq 0
   (fun i:Nat=>zk f n m i 94 s) (fun _=>[]) (fun i=>i<=n) (fun i=>i=n) (fun i=>n-i) (fun _=>⟨⟨_,Jc,?_⟩,fun i hi=>⟨_,aj8,?_⟩,fun i hi=>⟨_,M8,?_⟩⟩) K []
  ·simp only[ag.all,ay];exact⟨0,Nat.zero_le _,[],rfl,rfl,rfl,trivial⟩
  ·simp only[ag.all,ay,br,bC,bg,lv];exact⟨fun h=>⟨⟨aa,mQ bq,bL bq,bL bq,fo bq,h1,h2⟩,aa,i+1,aa,by dsimp only;omega,[],rfl,rfl,rfl,trivial⟩,fun h=>⟨rfl,i,aa,[],rfl,rfl,rfl,trivial⟩⟩
  ·simp only[ag.all,ay];exact .refl _
theorem agG:aW P KD 160:=cr fun⟨⟨n,m,f⟩,⟨g,s⟩,_⟩ K hn=>aeW hn.1 hn.2 K
theorem ac6:bn P OP:=cB (aH agG bw)
theorem NO:aW P HD 93:=cr fun⟨⟨n,m,f⟩,⟨g,s⟩,_⟩ K hn=>by
 refine b9 (r:=aJ (.bool false) []) hT ac6 hm VF rfl aV rfl 60 (amt (f:=f) (n:=n) (m:=m) (g:=g) (s:=s)) (fun _=>?_) K [];simp only[ag.all,ay];exact⟨⟨fo bq,bL bq,bL bq,fo bq,hn.1,hn.2⟩,.refl _⟩
theorem LG:bn P Ga:=cB (aH y9 (aH NO bw))
theorem Ic:aW P Dp 76:=cr fun⟨s,_⟩ K hn=>by
 have hs:cO s:=hn;obtain⟨ku,kv,u0,u6,v0,v6,ha,hb,hn',hm2,hw⟩:=id hs;refine fV (r:=aJ (.bool true) []) hT Ju rfl aV rfl (fun _ cx h00=>?_) K [];have hk:=iL h00;refine ax.hole [1] ah (aG.bE hT LG hm 60 [1,2] V4 (kZ Ju.dst) ?_);intro s' hs';show ax _ _ _ (part (aE f76) [1]) s' _;rw[show behind (aE f76) [1]=[]from by kernel_rfl];refine ax.jh (s2:=⟨aA [1,2] [.ptr 0 0 5 0 [],.bool false],[(0,⟨false,true,5,1,fun _=>bM s sJ sJ⟩)],1⟩) (cT.le ⟨[(0,0)],rfl,rfl,rfl,aL trivial⟩ hs' hk) ((?_:ax P cx f76.ntmps (part (aE f76) [1]) _ (ej cx (Fin T f76 (.bool true)))).mono fun e s' h=>by cases e<;>exact h);refine ax.Dn (t:=1) (k:=0) rfl rfl rfl rfl rfl ?_;refine ax.hH ((aG.fin hT LG hm 60 Yl ah ?_).mono fun _ _ h=>.inl h);have lv:dn (aT (s.f 0) s.m sJ)=s.m:=rfl;simp only[ag.all,ay,lv]
 (repeat' with_reducible refine And.intro ?_ ?_)
 all_goals first|omega|exact bL (by decide)|exact fo bq|exact beq_iff_eq.2 hn'|exact .inl ⟨rfl,hm2,by dsimp only;omega,by dsimp only;omega,by dsimp only;omega⟩|exact .refl _|skip
theorem afL:bn P Kp:=cB (aH D3 (aH Ic bw))
def EO:Spec:=cz (kC (gh sJ sJ) kN) (fun _=>.bool true) fun a=>[cO a.1]
theorem Rq:aW P EO 52:=cr fun⟨s,_⟩ K hn=>by
 have hs:cO s:=hn;obtain⟨ku,kv,u0,u6,v0,v6,ha,hb,hn',hm2,hw⟩:=id hs;refine b9 (r:=aJ (.bool true) []) hT afL hm X5 rfl aV rfl 60 Wg (fun _=>?_) K [];have c1:fq s.a (fun i=>aF (rat (s.ku i) sJ)) s.u=0:=by have:=ku.uM aa ha;rwa [Int.toNat_of_nonneg u0]at this
 have c2:fq s.b (fun i=>aF (rat (s.kv i) sJ)) s.v=0:=by have:=kv.uM aa hb;rwa [Int.toNat_of_nonneg v0]at this
 simp only[ag.all,ay,cond_true]
 (repeat' with_reducible refine And.intro ?_ ?_)
 all_goals first|omega|exact bL (by decide)|exact fo bq|exact beq_iff_eq.2 c1|exact beq_iff_eq.2 c2|exact hs|exact .refl _|skip
theorem XP:aU 116 f116:=aS func116
abbrev Bp (y m:Nat) (k:Nat->Rat):aq:=⟨true,true,3,m,fun i=>.rat (k i) y⟩
abbrev xR:Code:=aE f116
abbrev yU:List Nat:=[3,9,10,11]
abbrev Gy (x n:Nat) (k:Nat->Rat) (i:Nat):List AV:=[.own 0 3 0 i,bu k n x,.int .i64 n,.int .i64 i]
def B6:aX:=nG::iZ
theorem Tc {x:Nat}:aI T B6 [] 60 yU (before xR [1,1,0,1]) ⟨aN 0 [bu k n x],[],0⟩=
  let a:=(↑n:Int);some (aj [(0:Int)<=0/\(0:Int)<=a/\a<=2^47/\a*(↑(56:Nat):Int)<=2^47] (leaf normal ([own 12288 3 0 0,ak 3 n fun i=>rat (k i) x,int i64 a,int i64 0],[(12288,aq.mk true true 3 0 fun x=>rat 0 1)]))):=ah
theorem Xl {x:Nat}:aI T B6 [12] 60 yU [part xR [1,1,0,1,0,0]] ⟨aA yU (Gy x n k i),[(0,Bp y i k)],1⟩=
  let d:=(↑n:Int);let e:=ak 3 n fun i=>rat (k i) x;let a:=(↑i:Int);let b:=a+1;some (fork (decide (a<d)) (aj [(0:Int)<=a/\a.toNat<n,(0:Nat)<1] (aj [(0:Nat)<1,x<2^42,(1:Nat)<2^42,(1:Nat)*3<=2^24,(i+1)*((56:Nat)+1)*2<=2^47] (aj [-(2:Int)^63<=b/\b<2^63] (leaf normal ([own 40961 3 0 (i+1),e,int i64 d,int i64 b],[(40961,aq.mk true true 3 (i+1) fun i_1=>if i_1<i then rat (k i_1) y else nth [rat (k a.toNat+0) (x+1+1)] (rat 0 1) (i_1-i+0))]))))) (leaf (exit 0) ([own 0 3 0 i,e,int i64 d,int i64 a],[(0,aq.mk true true 3 i fun i=>rat (k i) y)]))):=ah
theorem abd {x:Nat}:ct T B6 [] 60 f116 [part xR [1,1,1]] ⟨aA yU (Gy x n k i),[(0,Bp y i k)],1⟩=
  some (leaf ret [ak 3 i fun i=>rat (k (i+0)) y]):=ah
theorem Zx:bn P B6:=cB jA
theorem abY {x:Nat} (hxy:x+10<=y) (hy:y<2^40) (hn:n<2^40) (K:Nat):aQ P 116 K [bu k n x] [] (aJ (bu k n y) []):=by
 refine gP (r:=aJ (bu k n y) []) hT Zx hm XP rfl aV rfl [1,1,0,1] (i:=0) (y:=part xR [1,1,0,1,0,0]) (z:=part xR [1,1,1]) ah ah ah (f1:=[]) (f2:=[12]) (f3:=[]) 60 yU 1
  (fun i:Nat=>Gy x n k i) (fun i=>[(0,Bp y i k)]) (fun i=>i<=n) (fun i=>i=n) (fun i=>n-i) (fun _=>⟨⟨_,Tc,?_⟩,fun i hi=>⟨_,Xl,?_⟩,fun i hi=>⟨_,abd,?_⟩⟩) K []
 ·simp only[ag.all,ay];exact⟨aa,0,Nat.zero_le _,[(0,12288)],rfl,rfl,rfl,cj rfl rfl rfl (fun i hi=>absurd hi (Nat.not_lt_zero i)) trivial⟩
 ·simp only[ag.all,ay,br,bC,bg,Nat.add_zero];exact⟨fun h2=>⟨aa,aa,aa,i+1,aa,by dsimp only;omega,[(0,40961)],rfl,rfl,rfl,cj rfl rfl rfl (fun j hj=>rD (fun _ _=>rfl) (Rat.add_zero _) bq aa hj) trivial⟩,fun h2=>⟨rfl,i,aa,[(0,0)],rfl,rfl,rfl,cj rfl rfl rfl (fun j hj=>cW rfl rfl) trivial⟩⟩
 ·subst hi;simp only[ag.all,ay];exact tw rfl fun j hj=>rfl
def AQ (x y:Nat):Spec:=cz (kC (kL x) kN) (fun a=>bu a.1.2 a.1.1 y) fun a=>[x+10<=y,y<2^40,a.1.1<2^40]
theorem DI (x y:Nat):aW P (AQ x y) 116:=cr fun⟨⟨n,k⟩,_⟩ K hn=>abY hn.1 hn.2.1 hn.2.2 K
end Go.Am.B
