/- brepkernelmade: pole, Curve. -/
import Derived.Test.YtnniljlepppdpaaGreatY39
import Derived.Test.YtnniljlepppdpaaGreatY38
import Derived.Test.YtnniljlepppdpaaGreatZ2
import Derived.Test.YtnniljlepppdpaaGreatY37
set_option linter.unusedVariables false
noncomputable section
namespace Go.Am.B
open Go Go.Am.N AV ah aq IntKind
theorem af4:aR P KH Ch (az Ch):=aS Proofs.Tryz.func169 ag ag ag
theorem Oc:aR P Cj Dz (az Dz):=aS Proofs.Tryz.func76 ag ag ag
def LU:aX:=[(sw,jm uw),(Gd,jm IY),(rC,zZ)]
def r9 (n:Nat) (f:Nat->AV) (a:Int) (b:Bool):Pl:=⟨⟨hU n f a,hU n f (gO n f a),if b=true then 0 else hU n f (gO n f (gO n f a))⟩,((1+dz n f (kG n f a) 3:Int):Rat)⟩
def KD (n:Nat) (f:Nat->AV) (a:Int):Int:=bP n (kG n f a)
def K7 (n:Nat) (f:Nat->AV) (a:Int) (l:List AV):Option (AV×Int×List Prop):=match l with
 |[.bool b]=>some (bH (r9 n f a b) 64,KD n f a,[])
 |_=>none
def DW:aX:=nG::(sw,jm uw)::(Cw,jm Kv)::(KH,jm K7)::[]
abbrev AD:List Nat:=[0,3,8,9,10]
abbrev JN (b:Bool) (i:Nat):List AV:=[.ptr 0 0 2 0 [],.bool b,.ptr 1 0 3 0 [],.ptr 2 0 3 0 [],.int .i64 i]
abbrev Gc (n:Nat) (z:Nat->Int) (a p:Int) (N:Nat) (k:Nat->Rat) (f:Nat->Pl) (j:Nat):aF:=
 [(3,⟨true,true,12,j,fun i=>bH (f i) 64⟩),(2,⟨false,true,3,1,fun _=>.agg [.int .i64 p,bD k N 64,.own 3 12 0 j]⟩),(1,⟨false,true,3,1,fun _=>.agg [.int .i64 0,.nil,.nil]⟩),(0,mN n z a)]
abbrev zW:Code:=az Dz
theorem afo {n:Nat} {z:Nat->Int} {a:Int} {b:Bool}:uY T LU [8] 60 Ch (az Ch) ⟨aP 0 [.ptr 0 0 2 0 [],.bool b],[(0,mN n z a)],1⟩=
  let c9:Int:=gO n (fun i=>int i64 (z i)) a;let c8:AV:=rat (hU n (fun i=>int i64 (z i)) a) 64;let c6:Int:=kG n (fun i=>int i64 (z i)) a;let c4:Prop:=0<1;let c5:AV:=rat (hU n (fun i=>int i64 (z i)) c9) 64;let c3:Option au:=some (au.mk false true 2 1 fun x=>agg [ak 1 n fun i=>int i64 (z i),int i64 (bP n c6)]);let c1:Int:=i64.wrap ((1:Int)+(dz n (fun i=>int i64 (z i)) c6 (3:Int)).tmod (3:Int));let c7:AV:=rat (↑c1:Rat) (Max.max 1 (bM c1.natAbs));let c2:List Prop:=[c4,dr n (fun i=>int i64 (z i)) c6,(0:Int)<(3:Int),(3:Int)<(2:Int)^62,(3:Int)≠(0:Int),-(2:Int)^63<=c1,c1<(2:Int)^63,c4];some (aj [dr n (fun i=>int i64 (z i)) a,c4] (fork b (aj [(0:Int)<=(2:Int)/\(2:Int)<(↑(3:Nat):Int),c4] (aj c2 (aj [c4] (leaf ret ([agg [agg [c8,c5,agg [AV.bool false,mag 0,mag 0]],c7]],c3))))) (aj c2 (aj [c4] (leaf ret ([agg [agg [c8,c5,rat (hU n (fun i=>int i64 (z i)) (gO n (fun i=>int i64 (z i)) c9)) 64],c7]],c3)))))):=ag
theorem Xu {n:Nat} {z:Nat->Int} {a p m:Int} {b:Bool}:aI T DW [] 60 AD (before zW [1,1,1,0,1]) ⟨aP 0 [.ptr 0 0 2 0 [],.int .i64 p,.int .i64 m,.bool b],[(0,mN n z a)],1⟩=
  let c4:Prop:=0<1;let c2:AV:=agg [int i64 0,nil,nil];let c1:Int:=(1:Int)+dz n (fun i=>int i64 (z i)) a p;let c3:AV:=bt (agg (c2.kids.set 0 (bt (int i64 c1))));some (aj [dr n (fun i=>int i64 (z i)) a,(0:Int)<p,p<(2:Int)^62,-(2:Int)^63<=c1/\c1<(2:Int)^63,c4] (aj [c4,dr n (fun i=>int i64 (z i)) (bP n a),(1:Int)<=c1,c1<(1000:Int),(0:Int)<=m,m<(1000:Int),c4] (leaf normal ([ptr 0 0 2 0 [],AV.bool b,ptr 1 0 3 0 [],ptr 24577 0 3 0 [],int i64 0],[((24577:Nat),aQ fun j=>if(j==0)=true then agg ((if((0:Nat)==0)=true then c3 else c2).kids.set 1 (bt (bD (nI n (fun i=>int i64 (z i)) (bP n a) c1.toNat m.toNat) (pg n (fun i=>int i64 (z i)) (bP n a) c1.toNat m.toNat) 64)))else if(j==0)=true then c3 else c2),((1:Nat),aQ fun x=>c2),(0,au.mk false true 2 1 fun x=>agg [ak 1 n fun i=>int i64 (z i),int i64 (sI n (fun i=>int i64 (z i)) (bP n a) c1.toNat m.toNat)])])))):=ag
theorem alT {n N j:Nat} {z:Nat->Int} {a p:Int} {k:Nat->Rat} {f:Nat->Pl} {b:Bool}:aI T DW [30] 60 AD [part zW [1,1,1,0,1,0,0]] ⟨aE AD (JN b j),Gc n z a p N k f j,4⟩=
  let c15:Int:=(↑j:Int);let c14:Int:=(↑N:Int)-p;let c13:Int:=gO n (fun i=>int i64 (z i)) a;let c12:AV:=own 3 12 0 j;let c11:AV:=ak 1 n fun i=>int i64 (z i);let c9:AV:=ptr 2 0 3 0 [];let c8:AV:=ptr 1 0 3 0 [];let c7:AV:=ptr 0 0 2 0 [];let c6:Prop:=0<1;let c5:AV:=rat 0 1;let c2:Nat×au:=((1:Nat),aQ fun x=>agg [int i64 0,nil,nil]);let c1:Int:=(2:Int)^63;let c10:Int:=c15+(1:Int);let c4:Int:=c14-(1:Int);let c3:AV:=agg [int i64 p,bD k N 64,c12];some (aj [c6,c6,-c1<=c14/\c14<c1,-c1<=c4/\c4<c1] (fork (decide (c15<c4)) (aj [c6,dr n (fun i=>int i64 (z i)) a,(1:Nat)*12<=2^24,(j+1)*((224:Nat)+1)*2<=2^47,c6] (aj [-c1<=c10/\c10<c1] (leaf normal ([c7,AV.bool b,c8,c9,int i64 c10],[(61444,au.mk true true 12 (j+1) fun i=>if i<j then bH (f i) 64 else nth [agg [agg [rat (hU n (fun i=>int i64 (z i)) a) 64,rat (hU n (fun i=>int i64 (z i)) c13) 64,rat (if b=true then 0 else hU n (fun i=>int i64 (z i)) (gO n (fun i=>int i64 (z i)) c13)) 64],rat (↑((1:Int)+dz n (fun i=>int i64 (z i)) (kG n (fun i=>int i64 (z i)) a) (3:Int)):Rat) 64]] (agg [agg [c5,c5,c5],c5]) (i-j+0)),((2:Nat),aQ fun j_1=>if(j_1==0)=true then agg (c3.kids.set 2 (bt (own (nat_lit 61443+1) 12 0 (j+1))))else c3),c2,(0,au.mk false true 2 1 fun x=>agg [c11,int i64 (KD n (fun i=>int i64 (z i)) a)])])))) (leaf (exit 0) ([c7,AV.bool b,c8,c9,int i64 c15],[(3,au.mk true true 12 j fun i=>agg [agg [rat (f i).n.x 64,rat (f i).n.y 64,rat (f i).n.z 64],rat (f i).d 64]),((2:Nat),aQ fun x=>agg [int i64 p,ak 3 N fun i=>rat (k i) 64,c12]),c2,(0,au.mk false true 2 1 fun x=>agg [c11,int i64 a])])))):=ag
theorem acs {n N j:Nat} {z:Nat->Int} {a p:Int} {k:Nat->Rat} {f:Nat->Pl} {b:Bool}:CB T DW [] 60 Dz [part zW [1,1,1,1]] ⟨aE AD (JN b j),Gc n z a p N k f j,4⟩=
  let c1:Prop:=0<1;some (aj [c1,c1] (aj [c1] (leaf ret ([agg [int i64 p,ak 3 N fun i=>rat (k i) 64,ak 12 j fun i=>agg [agg [rat (f (i+0)).n.x 64,rat (f (i+0)).n.y 64,rat (f (i+0)).n.z 64],rat (f (i+0)).d 64]]],some (au.mk false true 2 1 fun x=>agg [ak 1 n fun i=>int i64 (z i),int i64 a]))))):=ag
theorem XU:bq P LU:=aH DX (aH abc (aH D9 bC))
theorem ajO:∀K args pre r,jm K7 K args pre=some r->aD P KH K args pre r:=by
 refine wG fun {k n z a l v b q o} K hg ho hd hq=>?_
 unfold K7 at hg
 split at hg
 ·rename_i b
  simp only[ax,Prod.mk.injEq]at hg
  obtain⟨rfl,rfl,rfl⟩:=hg
  refine Eg hT XU hm af4 rfl rfl aW ho 60 afo (fun _=>?_) K
  have a1:=jb (n:=n) (f:=fun i=>.int .i64 (z i)) (a:=kG n (fun i=>.int .i64 (z i)) a) (m:=3) aa
  have a2:=jn (n:=n) (f:=fun i=>.int .i64 (z i)) (a:=kG n (fun i=>.int .i64 (z i)) a) (m:=3) aa
  unfold r9
  generalize dz n (fun i=>.int .i64 (z i)) (kG n (fun i=>.int .i64 (z i)) a) 3=x at*
  have e1:x.tmod 3=x:=by rw[Int.tmod_eq_of_lt a1 a2]
  have e2:i64.wrap (1+x)=1+x:=wrap_i64 aa aa
  simp only[ah.all,aA,e1,e2]
  have hw:bF (.rat ((1+x:Int):Rat) (max 1 (bM (1+x).natAbs))) (.rat ((1+x:Int):Rat) 64):=dc rfl (RC (y:=0) aa aa)
  refine⟨⟨hd,aa⟩,fun hb=>⟨aa,⟨aa,hd.HH,aa,aa,aa,aa,aa,aa⟩,aa,?_,_,rfl,rfl,oS rfl rfl⟩,fun hb=>⟨⟨aa,hd.HH,aa,aa,aa,aa,aa,aa⟩,aa,?_,_,rfl,rfl,oS rfl rfl⟩⟩
  ·rw[if_pos hb]
   exact ct ⟨ct ⟨.refl _,.refl _,sj (q:=(0:Rat)) ⟨by decide,by decide⟩ rfl rfl rfl,trivial⟩,hw,trivial⟩
  ·rw[if_neg (by rw[hb];decide)]
   exact ct ⟨.refl _,hw,trivial⟩
 ·simp at hg
theorem MO:bq P DW:=dg (aH DX (aH agK (aH ajO bC)))
def j3 (n:Nat) (f:Nat->AV) (a:Int):Nat->Int
 |0=>a
 |j+1=>KD n f (j3 n f a j)
theorem dr.Aw {n:Nat} {f:Nat->AV} {a:Int} (h:dr n f a):∀j,dr n f (j3 n f a j)
 |0=>h
 |j+1=>(h.Aw j).HH.next
theorem dr.gd {n:Nat} {f:Nat->AV} {a:Int} {p m:Nat} (h:dr n f a) (hp:1<=p):dr n f (sI n f a p m):=(xg h hp _).2
def kA (n:Nat) (f:Nat->AV) (a d:Int):Nat:=(1+dz n f a d).toNat
def mT (n:Nat) (f:Nat->AV) (a d:Int) (m:Nat):Int:=sI n f (bP n a) (kA n f a d) m
def gN (n:Nat) (f:Nat->AV) (a d:Int) (m:Nat) (b:Bool):Cu:=
 ⟨(kA n f a d:Nat),pg n f (bP n a) (kA n f a d) m,nI n f (bP n a) (kA n f a d) m,kA n f a d+1+kK n f (bP n a) m,fun i=>r9 n f (j3 n f (mT n f a d m) i) b⟩
def Ko (n:Nat) (f:Nat->AV) (a d:Int) (m:Nat):Int:=j3 n f (mT n f a d m) (kA n f a d+1+kK n f (bP n a) m)
def I4 (n:Nat) (f:Nat->AV) (a:Int) (l:List AV):Option (AV×Int×List Prop):=match l with
 |[.int .i64 d,.int .i64 m,.bool b]=>some (bQ (gN n f a d m.toNat b) 64 64,Ko n f a d m.toNat,[1<=d,d<900,0<=m,m<900])
 |_=>none
theorem KO {n:Nat} {f:Nat->AV} {a:Int} {m:Nat}:kK n f a m<=m:=by
 have h1:=jb (n:=n) (f:=f) (a:=bP n a) (m:=m+1) aa
 have h2:=jn (n:=n) (f:=f) (a:=bP n a) (m:=m+1) aa
 unfold kK;omega
theorem amd {k n m:Nat} {z:Nat->Int} {a d:Int} {b:Bool} {o:au} (ho:∀ρ,cU ρ o (mN n z a)) (h:dr n (fun i=>.int .i64 (z i)) a) (hd1:1<=d) (hd2:d<900) (hm2:m<900) (K:Nat):
  aD P Cj K [.ptr k 0 2 0 [],.int .i64 d,.int .i64 m,.bool b] [(k,o)] ⟨bQ (gN n (fun i=>.int .i64 (z i)) a d m b) 64 64,[(k,mN n z (Ko n (fun i=>.int .i64 (z i)) a d m))],[]⟩:=by
 refine OZ hT Oc rfl rfl aW ho (fun _ c hk=>?_) K
 have a1:=jb (n:=n) (f:=fun i=>.int .i64 (z i)) (a:=a) (m:=d) aa
 have a2:=jn (n:=n) (f:=fun i=>.int .i64 (z i)) (a:=a) (m:=d) aa
 have hJ:=KO (n:=n) (f:=fun i=>.int .i64 (z i)) (a:=bP n a) (m:=m)
 unfold gN Ko mT kA
 obtain⟨p,hp⟩:∃p,p=(1+dz n (fun i=>.int .i64 (z i)) a d).toNat:=⟨_,rfl⟩
 have hp2:1+dz n (fun i=>.int .i64 (z i)) a d=(p:Int):=aa
 rw[<-hp]
 have hB:=(h.next.gd (p:=p) (m:=m) aa)
 obtain⟨N,hN⟩:∃N,N=pg n (fun i=>.int .i64 (z i)) (bP n a) p m:=⟨_,rfl⟩
 obtain⟨kk,hkk⟩:∃kk,kk=nI n (fun i=>.int .i64 (z i)) (bP n a) p m:=⟨_,rfl⟩
 obtain⟨B,hB2⟩:∃B,B=sI n (fun i=>.int .i64 (z i)) (bP n a) p m:=⟨_,rfl⟩
 have hN2:N=2*p+2+kK n (fun i=>.int .i64 (z i)) (bP n a) m:=hN
 rw[<-hN,<-hkk,<-hB2]
 rw[<-hB2]at hB
 generalize kK n (fun i=>.int .i64 (z i)) (bP n a) m=J at*
 refine ay.ni hT MO hm [1,1,1,0,1] (i:=0) (y:=part zW [1,1,1,0,1,0,0]) (z:=part zW [1,1,1,1]) ag ag ag Oc.dst hk (f1:=[]) (f2:=[30]) 60 AD 4 (fun j:Nat=>JN b j)
  (fun j=>Gc n z (j3 n (fun i=>.int .i64 (z i)) B j) p N kk (fun i=>r9 n (fun i=>.int .i64 (z i)) (j3 n (fun i=>.int .i64 (z i)) B i) b) j) (fun j=>j<=p+1+J) (fun j=>j=p+1+J) (fun j=>p+1+J-j) (fun _=>False) ⟨_,Xu,?_⟩ (fun j hj=>⟨_,alT,?_⟩) (fun j hj=>?_) (fun _ _ h=>h.elim)
 ·simp only[ah.all,aA,hp2,aZ]
  rw[<-hN,<-hkk,<-hB2]
  exact⟨⟨h,aa,aa,aa,aa⟩,⟨aa,h.next,aa,aa,aa,aa,aa⟩,0,Nat.zero_le _,[(0,0),(1,1),(2,24577)],rfl,rfl,rfl,
   mA rfl aa aa (cD rfl rfl (jg ⟨⟨rfl,aL rfl⟩,⟨rfl,aL rfl⟩,⟨rfl,mW aa⟩,trivial⟩) (aM (aM trivial)))⟩
 ·simp only[ah.all,aA,bh,bz]
  have hv:∀{rl:List (Nat×Nat)} {a l:Nat},bf rl 3=some a->gn rl (.agg [.int .i64 p,bD kk N 64,.own a 12 0 l]) (.agg [.int .i64 p,bD kk N 64,.own 3 12 0 l]):=fun h=>jg ⟨⟨rfl,aL rfl⟩,⟨rfl,aL rfl⟩,⟨rfl,cT h rfl rfl⟩,trivial⟩
  refine⟨⟨aa,aa,aa,aa⟩,fun h=>⟨⟨aa,hB.Aw j,aa,aa,aa⟩,aa,j+1,aa,by dsimp only;omega,[(0,0),(1,1),(2,2),(3,61444)],rfl,rfl,rfl,
   bZ rfl rfl rfl (fun i hi=>Il (y:=fun i=>r9 n (fun i=>.int .i64 (z i)) (j3 n (fun i=>.int .i64 (z i)) B i) b) (fun _ _=>rfl) (.refl _) rfl aY aY hi) (cD rfl rfl (hv rfl) (aM (aM trivial)))⟩,
   fun h=>⟨rfl,j,aa,[(0,0),(1,1),(2,2),(3,3)],rfl,rfl,rfl,eG (cD rfl rfl (hv rfl) (aM (aM trivial)))⟩⟩
 ·subst hj
  refine ay.m8 (aG.Pz hT MO hm 60 acs ag ?_)
  simp only[ah.all,aA]
  exact⟨aa,aa,.refl _,_,rfl,rfl,oS rfl rfl⟩
theorem aez:∀K args pre r,jm I4 K args pre=some r->aD P Cj K args pre r:=by
 refine wG fun {k n z a l v b q o} K hg ho hd hq=>?_
 unfold I4 at hg
 split at hg
 ·rename_i d m b
  simp only[ax,Prod.mk.injEq]at hg
  obtain⟨rfl,rfl,rfl⟩:=hg
  obtain⟨h1,h2,h3,h4⟩:=hq
  have h4:m<900:=h4
  have:=amd (k:=k) (m:=m.toNat) (b:=b) ho hd h1 h2 aa K
  rw[Int.toNat_of_nonneg h3]at this
  exact this
 ·simp at hg
theorem Pp {n m:Nat} {f:Nat->AV} {a d:Int} {b:Bool} (h:dr n f a) (hd:1<=d):Kn (gN n f a d m b).n (gN n f a d m b).p.toNat (gN n f a d m b).k/\1<=(gN n f a d m b).p/\(gN n f a d m b).p<=d/\((gN n f a d m b).m:Int)=((gN n f a d m b).n:Int)-(gN n f a d m b).p-1/\
  (gN n f a d m b).m<=(gN n f a d m b).p.toNat+1+m/\∀i,1<=((gN n f a d m b).f i).d/\((gN n f a d m b).f i).d<=3:=by
 have a1:=jb (n:=n) (f:=f) (a:=a) (m:=d) aa
 have a2:=jn (n:=n) (f:=f) (a:=a) (m:=d) aa
 have hJ:=KO (n:=n) (f:=f) (a:=bP n a) (m:=m)
 unfold gN
 obtain⟨p,hp⟩:∃p,p=kA n f a d:=⟨_,rfl⟩
 have hp2:1+dz n f a d=(p:Int):=by rw[hp];unfold kA;omega
 rw[<-hp]
 dsimp only
 refine⟨?_,aa,aa,?_,aa,fun i=>?_⟩
 ·rw[aZ]
  exact(xg h.next aa _).1.done
 ·have:pg n f (bP n a) p m=2*p+2+kK n f (bP n a) m:=rfl
  omega
 ·have c1:=jb (n:=n) (f:=f) (a:=kG n f (j3 n f (mT n f a d m) i)) (m:=3) aa
  have c2:=jn (n:=n) (f:=f) (a:=kG n f (j3 n f (mT n f a d m) i)) (m:=3) aa
  unfold r9
  dsimp only
  generalize dz n f (kG n f (j3 n f (mT n f a d m) i)) 3=x at*
  exact⟨by exact_mod_cast (show 1<=1+x by omega),by exact_mod_cast (show 1+x<=3 by omega)⟩
theorem alg:aR P Ct HD (az HD):=aS Proofs.Tryz.func191 ag ag ag
def ju (f:Nat->Rat) (i m q:Nat):Rat:=if m-1<=q then 0 else if i<=q then f (q+1)else f q
def IW:Spec:=fun _ args pre=>match args,pre with
 |[.own b 3 0 m,.int .i64 i,.int .i64 j],[(b',⟨true,true,3,mb,fb⟩)]=>match b'==b with
  |true=>some ⟨.own b 3 0 (m-1),[(b,⟨true,true,3,m,fun q=>.rat (ju (fun q=>aV (fb q)) i.toNat m q) 2048⟩)],[mb=m,pF fb m 2048,0<=i,i<m,j=i+1]⟩
  |false=>none
 |_,_=>none
theorem ac7 {m cap:Nat} {i:Int} {f:Nat->Rat}:aI T [nG] [16] 60 [6] [az HD] ⟨[(0,.bI cap (.own 0 3 0 m)),(1,.int .i64 i),(2,.int .i64 (i+1))],[(0,⟨true,true,3,m,fun q=>.rat (f q) 2048⟩)],1⟩=
  let c8:Int:=(↑(0:Nat):Int);let c6:Int:=i+(1:Int);let c4:Int:=(↑m:Int);let c3:Nat:=Int.toNat (0:Int);let c7:Nat:=i.toNat-c3;let c1:Nat:=c7+(c4.toNat-c6.toNat);let c9:Int:=(↑c1:Int);let c5:Nat:=0+c9.toNat;let c2:Nat:=c5+(c4.toNat-c9.toNat);some (aj [(0:Int)<=i/\i<=c6/\c6<=c4/\c4<=c4] (fork (i==c6) (leaf ret ([bI cap (own 0 3 0 m)],[(0,au.mk true true 3 m fun q=>rat (f q) 2048)])) (aj [(0:Int)<=(0:Int)/\(0:Int)<=i/\i<=(↑cap:Int)/\c8+i<=c4,(0:Int)<=c6/\c6<=c4/\c4<=(↑cap:Int)/\c8+c4<=c4,c1<=cap-c3/\c1<=m] (aj [(0:Int)<=c9/\c9<=c4/\c4<=(↑(cap-c3):Int)/\c8+c4<=c4] (leaf ret ([bI (cap-c3) (own 0 3 0 c1)],[(0,au.mk true true 3 m fun i=>if c5<=i/\i<c2 then rat 0 1 else if c7<=i/\i<c1 then rat (f (i-c7+((0:Nat)+c6.toNat))) 2048 else rat (f i) 2048)])))))):=ag
theorem adl {b m:Nat} {i:Int} {fb:Nat->AV} (hf:pF fb m 2048) (h0:0<=i) (h1:i<m) (K:Nat):aD P Ct K [.own b 3 0 m,.int .i64 i,.int .i64 (i+1)] [(b,⟨true,true,3,m,fb⟩)] ⟨jF [.own b 3 0 (m-1)],[(b,⟨true,true,3,m,fun q=>.rat (ju (fun q=>aV (fb q)) i.toNat m q) 2048⟩)],[]⟩:=by
 refine U7 hT alg (rest:=[.int .i64 i,.int .i64 (i+1)]) (ws:=[.own b 3 0 (m-1)]) (o:=⟨true,true,3,m,fun q=>.rat (aV (fb q)) 2048⟩) rfl rfl aW (fun _ ρ=>hf.obj rfl ρ) fun _ c hk=>?_
 refine ay.bI (t:=0) rfl fun cap hcap=>?_
 refine ay.bB hT (dg bC) hm 60 [6] (ac7 (m:=m) (cap:=cap) (i:=i) (f:=fun q=>aV (fb q))) ag ?_
 simp only[ah.all,aA,beq_iff_eq,beq_eq_false_iff_ne,ne_eq]
 refine⟨⟨aa,aa,aa,aa⟩,fun h=>absurd h aa,fun _=>⟨⟨⟨aa,aa,aa,aa⟩,⟨aa,aa,aa,aa⟩,⟨aa,aa⟩⟩,⟨aa,aa,aa,aa⟩,fun s' hs'=>⟨.inr trivial,[6],_,[.bI (cap-Int.toNat 0) (.own 0 3 0 (i.toNat-Int.toNat 0+((m:Int).toNat-(i+1).toNat)))],[],_,_,hs',ag,trivial,⟨⟨rfl,aeW rfl (cT (by simp[bf,look]) rfl aa)⟩,trivial⟩,qm,jE rfl fun q hq=>?_⟩⟩⟩
 have hq:q<m:=hq
 have e0:Int.toNat 0=0:=rfl
 have e1:i.toNat-Int.toNat 0+((m:Int).toNat-(i+1).toNat)=m-1:=aa
 refine nk (uV rfl (uV rfl rfl)) ?_
 simp only[e1]
 unfold ju
 by_cases c1:m-1<=q
 ·rw[if_pos c1,if_pos aa];exact bX rfl (by decide)
 ·rw[if_neg c1,if_neg aa]
  by_cases c2:i.toNat<=q
  ·rw[if_pos c2,if_pos aa,show q-(i.toNat-Int.toNat 0)+(0+(i+1).toNat)=q+1 by omega];exact .refl _
  ·rw[if_neg c2,if_neg aa];exact .refl _
theorem ac3:∀K args pre r,IW K args pre=some r->aD P Ct K args pre r:=by
 intro K args pre r h
 unfold IW at h
 split at h
 ·rename_i b m i j b' mb fb
  split at h
  ·rename_i hc
   have hc:=eq_of_beq hc
   subst hc
   simp only[ax]at h
   subst h
   intro need
   obtain⟨rfl,n1,n2,n3,rfl⟩:=need
   exact adl n1 n2 n3 K trivial
  ·simp at h
 ·simp at h
theorem SE {n:Nat} {k:Nat->Rat} {i m:Nat} (h:At n k i) {t:Rat} (hk:∀x,i+1<=x->x<=i+m->k x=t):∀{d:Nat},d<=i->d<=m->∀j,vB k i t d j=if j=d then 1 else 0
 |0,_,_,j=>by unfold vB;rfl
 |d+1,hd,hm,j=>by
  have ih:=SE h hk (d:=d) (by omega) (by omega)
  have e1:fr (k i) t t=1:=LM (by have:=h.wide;have:=hk (i+1) (by omega) (by omega);grind)
  cases j with
  |zero=>
   rw[yq,ih]
   by_cases h0:d=0
   ·subst h0
    rw[if_pos rfl,if_neg (by omega),show i-0=i by omega,show i+(0+1)=i+1 by omega,hk (i+1) (by omega) (by omega),e1];grind
   ·rw[if_neg (by omega),if_neg (by omega)];grind
  |succ j=>
   rw[tV,ih j,ih (j+1)]
   by_cases hj:j=d
   ·have q1:(if j=d then(1:Rat)else 0)=1:=if_pos hj
    have q2:(if j+1=d then(1:Rat)else 0)=0:=if_neg (by omega)
    have q3:(if j+1=d+1 then(1:Rat)else 0)=1:=if_pos (by omega)
    rw[q1,q2,q3,show i-d+j=i by omega,hk (i+(d+1)) (by omega) (by omega),e1];grind
   ·have q1:(if j=d then(1:Rat)else 0)=0:=if_neg hj
    have q3:(if j+1=d+1 then(1:Rat)else 0)=0:=if_neg (by omega)
    rw[q1,q3]
    by_cases hj2:j+1=d
    ·rw[if_pos hj2,show i-d+(j+1)=i by omega,hk (i+(d+1)) (by omega) (by omega),e1];grind
    ·rw[if_neg hj2];grind
theorem Tf {k:Nat->Rat} {i m:Nat} {t:Rat} (hm:m<=i+1) (hk:∀x,x<=i->i<x+m->k x=t):∀{d:Nat},d<=m->∀j,vB k i t d j=if j=0 then 1 else 0
 |0,_,j=>by unfold vB;rfl
 |d+1,hd,j=>by
  have ih:=Tf hm hk (d:=d) (by omega)
  cases j with
  |zero=>
   rw[yq,ih 0,if_pos rfl,hk (i-d) (by omega) (by omega),G4];grind
  |succ j=>
   have q2:(if j+1=0 then(1:Rat)else 0)=0:=if_neg (by omega)
   rw[tV,ih j,ih (j+1),q2]
   by_cases hj:j=0
   ·subst hj
    rw[Nat.add_zero,hk (i-d) (by omega) (by omega),G4];grind
   ·have q1:(if j=0 then(1:Rat)else 0)=0:=if_neg hj
    rw[q1];grind
theorem M4 {n:Nat} {k:Nat->Rat} {i m:Nat} (h:At n k i) {t:Rat} (hm:1<=m) (hk:∀x,i+1<=x->x<=i+m->k x=t):∀e,m+e<=i->(∀j,j<m->vB k i t (m+e) j=0)/\∀j,vB k i t (m+e) (j+m)=vB k (i+m) t (m+e) j
 |0,he=>by
  have r:=SE h hk (d:=m) (by omega) (Nat.le_refl _)
  have l:=Tf (k:=k) (i:=i+m) (m:=m) (t:=t) (by omega) (fun x h1 h2=>hk x (by omega) h1) (d:=m) (Nat.le_refl _)
  refine⟨fun j hj=>?_,fun j=>?_⟩
  ·rw[Nat.add_zero,r,if_neg (by omega)]
  ·rw[Nat.add_zero,r,l]
   by_cases hj:j=0
   ·subst hj;rw[if_pos (by omega),if_pos rfl]
   ·rw[if_neg (by omega),if_neg hj]
 |e+1,he=>by
  obtain⟨z,s⟩:=M4 h hm hk e (by omega)
  have z2:∀j,j<m->vB k i t (m+(e+1)) j=0:=fun j hj=>by
   rw[show m+(e+1)=m+e+1 by omega]
   cases j with
   |zero=>rw[yq,z 0 (by omega)];grind
   |succ j=>rw[tV,z j (by omega),z (j+1) hj];grind
  refine⟨z2,fun j=>?_⟩
  rw[show m+(e+1)=m+e+1 by omega]
  cases j with
  |zero=>
   rw[yq,Nat.zero_add]
   obtain⟨q,rfl⟩:∃q,m=q+1:=⟨m-1,by omega⟩
   rw[tV,z q (by omega)]
   have s0:=s 0
   rw[Nat.zero_add]at s0
   rw[s0,show i-(q+1+e)+(q+1)=i+(q+1)-(q+1+e) by omega];grind
  |succ j=>
   rw[show j+1+m=j+m+1 by omega,tV,tV,s j]
   have s1:=s (j+1)
   rw[show j+1+m=j+m+1 by omega]at s1
   rw[s1,show i-(m+e)+(j+m)=i+m-(m+e)+j by omega,show i-(m+e)+(j+m+1)=i+m-(m+e)+(j+1) by omega]
theorem Gn {f:Nat->Rat} {a:Nat}:∀{b:Nat},cO (a+b) f=cO a f+cO b fun j=>f (a+j)
 |0=>by simp only[Nat.add_zero,cO];grind
 |b+1=>by rw[show a+(b+1)=a+b+1 by omega,cO,Gn,cO];grind
theorem YM {n p:Nat} {k:Nat->Rat} (h:Kn n p k) {t:Rat} {P:Nat} (hP:p<=P) (hP2:P+p+1<n) (hw:k P<k (P+1)) (h0:k P<=t) (h1:t<=k (P+1)) {i:Nat} (hi:CI n k t i) (hip:p<=i) (hip2:i+p+1<n) {c:Nat->Rat}:
  cO (p+1) (fun j=>c (P-p+j)*vB k P t p j)=cO (p+1) fun j=>c (i-p+j)*vB k i t p j:=by
 have hp:=h.p1
 have hiw:=hi.at_.wide
 have hge:P<=i:=by
  rcases Nat.lt_or_ge i P with hlt|hge
  ·exfalso
   have a1:=h.mono (show i+1<=P by omega) (show P<n by omega)
   have a2:=hi.hi
   have a3:=h.mono (show P+1<=n-1 by omega) (show n-1<n by omega)
   rcases hi.KE with e|e<;>grind
  ·exact hge
 rcases Nat.lt_or_ge P i with hlt|hle
 ·obtain⟨m,rfl⟩:∃m,i=P+m:=⟨i-P,by omega⟩
  have hlo:=hi.lo
  have heq:∀x,P+1<=x->x<=P+m->k x=t:=fun x g1 g2=>by
   have a1:=h.mono g1 (show x<n by omega)
   have a2:=h.mono g2 (show P+m<n by omega)
   grind
  have hmp:m<=p:=by
   rcases Nat.lt_or_ge p m with hh|hh
   ·exfalso
    have a1:=h.mult (P+1) (by omega) (by omega)
    have a2:=heq (P+1) (by omega) (by omega)
    have a3:=heq (P+1+p) (by omega) (by omega)
    grind
   ·exact hh
  obtain⟨e,rfl⟩:∃e,p=m+e:=⟨p-m,by omega⟩
  obtain⟨z,s⟩:=M4 ⟨by omega,h.sorted,hw⟩ (m:=m) (by omega) heq e (by omega)
  rw[show m+e+1=m+(e+1) by omega,Gn,Hq (n:=m) fun j hj=>by rw[z j hj];grind]
  rw[show m+(e+1)=(e+1)+m by omega,Gn (a:=e+1) (b:=m),Hq (n:=m) (f:=fun j=>c (P+m-(m+e)+(e+1+j))*vB k (P+m) t (m+e) (e+1+j))]
  ·have:∀j,j<e+1->c (P-(m+e)+(m+j))*vB k P t (m+e) (m+j)=c (P+m-(m+e)+j)*vB k (P+m) t (m+e) j:=fun j hj=>by
    rw[show m+j=j+m by omega,s j,show P-(m+e)+(j+m)=P+m-(m+e)+j by omega]
   rw[AB this];grind
  ·intro j hj
   have:=s (e+1+j)
   rw[AN (d:=m+e) (by omega)]at this
   rw[<-this];grind
 ·have:i=P:=by omega
  subst this
  rfl
def eF (k:Nat->Rat) (j:Nat):Nat->Int
 |0=>-1
 |l+1=>if k (j+l)=k (j+l+1)then eF k j l else(j+l:Nat)
theorem Ms {k:Nat->Rat} {j:Nat}:∀{l:Nat},k j≠k (j+l)->∃P:Nat,eF k j l=(P:Int)/\j<=P/\P<j+l/\k P≠k (P+1)
 |0,h=>absurd rfl h
 |l+1,h=>by
  unfold eF
  by_cases he:k (j+l)=k (j+l+1)
  ·rw[if_pos he]
   obtain⟨P,h1,h2,h3,h4⟩:=Ms (k:=k) (j:=j) (l:=l) (by rw[he];exact h)
   exact⟨P,h1,h2,by omega,h4⟩
  ·rw[if_neg he]
   exact⟨j+l,rfl,by omega,by omega,he⟩
theorem Kn.piece {n p:Nat} {k:Nat->Rat} (h:Kn n p k) {j:Nat} (hj:j+p+1<n):∃P:Nat,eF k j (p+1)=(P:Int)/\j<=P/\P<=j+p/\k P<k (P+1)/\p<=P/\P+p+1<n:=by
 have hp:=h.p1
 have hne:k j≠k (j+(p+1)):=by
  have hlt:k j<k (j+(p+1)):=by
   by_cases h0:j=0
   ·subst h0
    have hl:=h.len
    have a1:=h.mult 1 (by omega) (by omega)
    rw[h.first 1 (by omega),show 1+p=0+(p+1) by omega]at a1
    exact a1
   ·have a1:=h.mult j (by omega) (by omega)
    have a2:=h.mono (show j+p<=j+(p+1) by omega) (by omega)
    grind
  grind
 obtain⟨P,h1,h2,h3,h4⟩:=Ms hne
 have hs:=h.sorted P (by omega)
 refine⟨P,h1,h2,by omega,by grind,?_,?_⟩
 ·rcases Nat.lt_or_ge P p with hh|hh
  ·exact absurd (by rw[h.first P (by omega),h.first (P+1) (by omega)]) h4
  ·exact hh
 ·rcases Nat.lt_or_ge (P+p+1) n with hh|hh
  ·exact hh
  ·exact absurd (by rw[h.last P (by omega) (by omega),h.last (P+1) (by omega) (by omega)]) h4
theorem KJ {k:Nat->Rat} {c:Nat}:∀{l a:Nat},aT (fun i=>k (c+i)) a l=aT k (c+a) l
 |0,_=>rfl
 |l+1,a=>by rw[aT,aT,KJ];rfl
theorem r5 {f g:Nat->Rat}:∀{l a:Nat},(∀i,a<=i->i<a+l->f i=g i)->aT f a l=aT g a l
 |0,_,_=>rfl
 |l+1,a,h=>by rw[aT,aT,h a (by omega) (by omega),r5 fun i h1 h2=>h i (by omega) (by omega)]
variable {k:Nat->Rat} {b p:Nat}
theorem ako {a c u v f:Rat}:fr a c (u+f*(v-u))=fr a c u+f*(fr a c v-fr a c u):=by
 unfold fr
 rw[Rat.div_def,Rat.div_def (u-a),Rat.div_def (v-a)]
 generalize (c-a)⁻¹=q
 grind
theorem PL {f:Rat}:∀{l:List Rat} {r:Nat} {x y:Nat->Rat} {j:Nat},bl k b p r (fun j=>x j+f*(y j-x j)) l j=bl k b p r x l j+f*(bl k b p r y l j-bl k b p r x l j)
 |[],_,_,_,_=>rfl
 |t::l,r,x,y,j=>by
  rw[bl,bl,bl,<-PL (l:=l)]
  congr 1
  funext j
  unfold gD
  split<;>grind
theorem EU {u v f:Rat} {l:List Rat} {x:Nat->Rat} (hl:l.length+1=p):bl k b p 0 x ((u+f*(v-u))::l) p=bl k b p 0 x (u::l) p+f*(bl k b p 0 x (v::l) p-bl k b p 0 x (u::l) p):=by
 rw[bl,bl,bl,<-PL]
 refine Ck (by omega) fun j h1 _=>?_
 simp only[gD]
 rw[if_pos (by omega),if_pos (by omega),if_pos (by omega),ako];grind
theorem Bf {a c t:Rat} (h:a<c):a+fr a c t*(c-a)=t:=by rw[nK h];grind
def cW (k:Nat->Rat) (t:Rat) (q j:Nat):Rat:=if j<q then k j else if j=q then t else k (j-1)
theorem jd {t:Rat} {q j:Nat} (h:j<q):cW k t q j=k j:=if_pos h
theorem pR {t:Rat} {q:Nat}:cW k t q q=t:=by unfold cW;rw[if_neg (by omega),if_pos rfl]
theorem jc {t:Rat} {q j:Nat} (h:q<j):cW k t q j=k (j-1):=by unfold cW;rw[if_neg (by omega),if_neg (by omega)]
theorem J1 {f g:Nat->Rat}:∀{l a:Nat},(∀i,a+1<=i->i<a+1+l->f i=g (i-1))->aT f (a+1) l=aT g a l
 |0,_,_=>rfl
 |l+1,a,h=>by
  rw[aT,aT,h (a+1) (Nat.le_refl _) (by omega),J1 (l:=l) (a:=a+1) fun i h1 h2=>h i (by omega) (by omega)];rfl
theorem qH {n:Nat} {P J:Nat} {x:Nat->Rat} (h:At n k P) (hP:p<=P) (hP2:P+p<n) (h1:P<=J+p) (h2:J<=P):bl k (P-p) p 0 (fun q=>x (P-p+q)) (aT k (J+1) p) p=x J:=by
 have:=af9 (k:=k) (b:=P-p) (p:=p) (n:=n) (by rwa [show P-p+p=P by omega]) (by omega) (J:=J-(P-p)) (by omega) (x:=fun q=>x (P-p+q))
 rw[show P-p+(J-(P-p))=J by omega]at this
 exact this
theorem aan {n:Nat} {x:Nat->Rat} {t:Rat} {a j P:Nat} (hs:∀i,i+1<n->k i<=k (i+1)) (hp:1<=p) (hlo:k a<=t) (hhi:t<k (a+1)) (ha:p<=a) (h:At n k P) (hP:p<=P) (hP2:P+p<n)
  (h1:j+p<=a->j<=P/\P<=j+p) (h2:a<j->j<=P+1/\P+1<=j+p) (h3:a<j+p->j<=a->j<=P/\P+1<=j+p):
  bl k (P-p) p 0 (fun q=>x (P-p+q)) (aT (cW k t (a+1)) (j+1) p) p=if j+p<=a then x j else if a<j then x (j-1)else x (j-1)+fr (k j) (k (j+p)) t*(x j-x (j-1)):=by
 by_cases c1:j+p<=a
 ·obtain⟨g1,g2⟩:=h1 c1
  rw[if_pos c1,r5 (g:=k) fun i _ hi=>jd (by omega)]
  exact qH h hP hP2 g2 g1
 ·rw[if_neg c1]
  by_cases c2:a<j
  ·obtain⟨g1,g2⟩:=h2 c2
   rw[if_pos c2,J1 (g:=k) fun i hi _=>jc (by omega)]
   have:=qH (x:=x) (J:=j-1) h hP hP2 (by omega) (by omega)
   rwa [show j-1+1=j by omega]at this
  ·obtain⟨g1,g2⟩:=h3 (by omega) (by omega)
   rw[if_neg c2]
   have hA:At n k (P-p+p):=by rwa [show P-p+p=P by omega]
   have e1:aT (cW k t (a+1)) (j+1) p=aT k (j+1) (a-j)++t::aT k (a+1) (j+p-a-1):=by
    have:=oG (t:=cW k t (a+1)) (l:=a-j) (a:=j+1) (m:=(j+p-a-1)+1)
    rw[show a-j+(j+p-a-1+1)=p by omega,show j+1+(a-j)=a+1 by omega]at this
    rw[this,r5 (g:=k) (fun i _ hi=>jd (by omega)),aT,pR,J1 (g:=k) fun i hi _=>jc (by omega)]
   have e2:aT k (j+1) (p-1)=aT k (j+1) (a-j)++aT k (a+1) (j+p-a-1):=by
    have:=oG (t:=k) (l:=a-j) (a:=j+1) (m:=j+p-a-1)
    rw[show a-j+(j+p-a-1)=p-1 by omega,show j+1+(a-j)=a+1 by omega]at this
    exact this
   have hw:k j<k (j+p):=by
    have m1:=fK hs (show j<=a by omega) (show a<n by omega)
    have m2:=fK hs (show a+1<=j+p by omega) (show j+p<n by omega)
    grind
   have q1:(aT (cW k t (a+1)) (j+1) p).Perm (t::aT k (j+1) (p-1)):=by rw[e1,e2];exact List.perm_middle
   rw[pz hA (by omega) q1 (by rw[gy];omega),<-Bf (t:=t) hw,EU (by rw[gy];omega)]
   have d1:=qH (x:=x) (J:=j-1) h hP hP2 (by omega) (by omega)
   rw[show j-1+1=j by omega,show p=p-1+1 by omega,aT]at d1
   have d2:=qH (x:=x) (J:=j) h hP hP2 (by omega) (by omega)
   have q2:(aT k (j+1) p).Perm (k (j+p)::aT k (j+1) (p-1)):=by
    have:=vP (t:=k) (l:=p-1) (a:=j+1)
    rw[show p-1+1=p by omega,show j+1+(p-1)=j+p by omega]at this
    rw[this];exact List.perm_append_singleton _ _
   rw[pz hA (by omega) q2 (by rw[gy];omega)]at d2
   rw[show p-1+1=p by omega]at d1
   rw[d1,d2,Bf hw]
theorem AF {n:Nat} {G:List Rat->Rat} (hsym:∀{l m:List Rat},l.Perm m->l.length=p->G l=G m) (haff:∀{u v f:Rat} {l:List Rat},l.length+1=p->G ((u+f*(v-u))::l)=G (u::l)+f*(G (v::l)-G (u::l)))
  (h:At n k (b+p)) (hn:b+p+p<n):∀{l d:List Rat} {r:Nat} {y:Nat->Rat},d.length=r->r+l.length=p->(∀j,r<=j->j<=p->y j=G (d++aT k (b+j+1) (p-r)))->bl k b p r y l p=G (d++l)
 |[],d,r,y,hd,hl,hy=>by
  have:=hy p (by simp at hl;omega) (Nat.le_refl _)
  rw[show p-r=0 by simp at hl;omega]at this
  exact this
 |t::l,d,r,y,hd,hl,hy=>by
  simp only[List.length_cons]at hl
  have hdt:(d++[t]).length=r+1:=by simp[hd]
  have:=AF hsym haff h hn (l:=l) (d:=d++[t]) (r:=r+1) (y:=gD k b p r t y) hdt (by omega) fun j h1 h2=>by
   unfold gD
   rw[if_pos (by omega),hy j (by omega) h2,hy (j-1) (by omega) (by omega)]
   have hw:=h.around (a:=b+j) (b:=b+j+(p-r)) (by omega) (by omega) (by omega)
   have e1:(d++aT k (b+(j-1)+1) (p-r)).Perm (k (b+j)::(d++aT k (b+j+1) (p-(r+1)))):=by
    rw[show b+(j-1)+1=b+j by omega,show p-r=p-(r+1)+1 by omega,aT];exact List.perm_middle
   have e2:(d++aT k (b+j+1) (p-r)).Perm (k (b+j+(p-r))::(d++aT k (b+j+1) (p-(r+1)))):=by
    rw[show p-r=p-(r+1)+1 by omega,vP,show b+j+1+(p-(r+1))=b+j+(p-(r+1)+1) by omega,<-List.append_assoc];exact List.perm_append_singleton _ _
   have e3:(d++[t]++aT k (b+j+1) (p-(r+1))).Perm (t::(d++aT k (b+j+1) (p-(r+1)))):=by
    rw[List.append_assoc];exact List.perm_middle
   have hlen:(d++aT k (b+j+1) (p-(r+1))).length+1=p:=by rw[List.length_append,gy,hd];omega
   rw[hsym e1 (by rw[List.length_append,gy,hd];omega),hsym e2 (by rw[List.length_append,gy,hd];omega),hsym e3 (by rw[List.length_append,gy,hdt];omega),<-haff hlen,Bf hw]
  rw[bl,this,List.append_assoc];rfl
def bO (k:Nat->Rat) (p:Nat) (x:Nat->Rat) (P:Nat) (l:List Rat):Rat:=bl k (P-p) p 0 (fun q=>x (P-p+q)) l p
theorem afQ {n N:Nat} {K X x:Nat->Rat} {P Q:Nat} (h:At n k P) (hP:p<=P) (hP2:P+p<n) (H:At N K Q) (hQ:p<=Q) (hQ2:Q+p<N) (hx:∀J,J<=Q->Q<=J+p->X J=bO k p x P (aT K (J+1) p)) {l:List Rat} (hl:l.length=p):bO K p X Q l=bO k p x P l:=by
 have hA:At n k (P-p+p):=by rwa [show P-p+p=P by omega]
 have:=AF (k:=K) (b:=Q-p) (p:=p) (n:=N) (G:=bO k p x P) (fun {l m} hm hl=>pz hA (by omega) hm (by omega)) (fun {u v f l} hl=>EU hl) (by rwa [show Q-p+p=Q by omega]) (by omega) (l:=l) (d:=[]) (r:=0) (y:=fun q=>X (Q-p+q)) rfl (by omega) fun j _ h2=>by
  rw[hx (Q-p+j) (by omega) (by omega)];rfl
 exact this
def jJ (k:Nat->Rat) (p:Nat) (x:Nat->Rat) (t:Rat) (a j:Nat):Rat:=if j+p<=a then x j else if a<j then x (j-1)else x (j-1)+fr (k j) (k (j+p)) t*(x j-x (j-1))
def iz (a Q:Nat):Nat:=if Q<=a then Q else Q-1
theorem NB {n:Nat} {x:Nat->Rat} {t:Rat} {a j Q:Nat} (hs:∀i,i+1<n->k i<=k (i+1)) (hp:1<=p) (hlo:k a<=t) (hhi:t<k (a+1)) (ha:p<=a) (h:At n k (iz a Q)) (hP:p<=iz a Q) (hP2:iz a Q+p<n) (h1:j<=Q) (h2:Q<=j+p):
  bO k p x (iz a Q) (aT (cW k t (a+1)) (j+1) p)=jJ k p x t a j:=by
 refine aan hs hp hlo hhi ha h hP hP2 ?_ ?_ ?_<;>unfold iz<;>split<;>omega
theorem ad0 {n:Nat} {x:Nat->Rat} {t:Rat} {a Q:Nat} (hs:∀i,i+1<n->k i<=k (i+1)) (hp:1<=p) (hlo:k a<=t) (hhi:t<k (a+1)) (ha:p<=a) (h:At n k (iz a Q)) (hP:p<=iz a Q) (hP2:iz a Q+p<n) (H:At (n+1) (cW k t (a+1)) Q) (hQ:p<=Q) (hQ2:Q+p<n+1) {l:List Rat} (hl:l.length=p):
  bO (cW k t (a+1)) p (jJ k p x t a) Q l=bO k p x (iz a Q) l:=
 afQ h hP hP2 H hQ hQ2 (fun J h1 h2=>(NB hs hp hlo hhi ha h hP hP2 h1 h2).symm) hl
end Go.Am.B
namespace Go.Am.B
theorem rj {k:Nat->Rat} {t:Rat} {n:Nat}:bu k t (n+1)=bu k t n+if k n=t then 1 else 0:=rfl
theorem Jz {k:Nat->Rat} {t:Rat} {n:Nat}:∀{m:Nat},bu k t n<=bu k t (n+m)
 |0=>Nat.le_refl _
 |m+1=>by
  have:=Jz (k:=k) (t:=t) (n:=n) (m:=m)
  rw[<-Nat.add_assoc,rj];omega
theorem Ku {k:Nat->Rat} {t:Rat} {i:Nat}:∀{l:Nat},(∀j,i<=j->j<i+l->k j=t)->l<=bu k t (i+l)
 |0,_=>Nat.zero_le _
 |l+1,h=>by
  have:=Ku (k:=k) (t:=t) (i:=i) (l:=l) fun j h1 h2=>h j h1 (by omega)
  rw[<-Nat.add_assoc,rj,if_pos (h (i+l) (by omega) (by omega))];omega
theorem IE {k:Nat->Rat} {t:Rat} {lo hi:Nat} (hlh:lo<=hi):∀{n:Nat},(∀j,j<n->k j=t->lo<=j/\j<hi)->bu k t n<=min n hi-lo
 |0,_=>by simp[bu]
 |n+1,h=>by
  have:=IE (k:=k) (t:=t) hlh (n:=n) fun j hj=>h j (by omega)
  rw[rj]
  by_cases hn:k n=t
  ·rw[if_pos hn]
   have:=h n (by omega) hn
   omega
  ·rw[if_neg hn];omega
theorem afM {n a i:Nat} {k:Nat->Rat} {t:Rat} (hs:∀i,i+1<n->k i<=k (i+1)) (hhi:t<k (a+1)) (ha:a+1<n) (hlo:k a<=t) (hi:i<=a) (h:a<i+bu k t n):k i=t:=by
 by_cases he:k i=t
 ·exact he
 ·have h1:=fK hs hi (by omega)
  have hlt:k i<t:=by grind
  have:=IE (k:=k) (t:=t) (lo:=i+1) (hi:=a+1) (by omega) (n:=n) fun j hj hjt=>by
   constructor
   ·by_cases c:j<=i
    ·have:=fK hs c (by omega)
     grind
    ·omega
   ·by_cases c:a+1<=j
    ·have:=fK hs c hj
     grind
    ·omega
  omega
theorem Kn.l7 {n p a:Nat} {k:Nat->Rat} {t:Rat} (h:Kn n p k) (h0:k 0<t) (h1:t<k (n-1)) (hlo:k a<=t) (hhi:t<k (a+1)) (ha:a+1<n):p<=a/\a+p+1<n:=by
 have hl:=h.len
 constructor
 ·by_cases c:p<=a
  ·exact c
  ·have:=h.first (a+1) (by omega)
   grind
 ·by_cases c:a+p+1<n
  ·exact c
  ·have:=h.last a (by omega) (by omega)
   grind
theorem Kn.cW {n p a:Nat} {k:Nat->Rat} {t:Rat} (h:Kn n p k) (h0:k 0<t) (h1:t<k (n-1)) (hlo:k a<=t) (hhi:t<k (a+1)) (ha:a+1<n) (ht:bu k t n<p):Kn (n+1) p (cW k t (a+1)):=by
 obtain⟨g1,g2⟩:=h.l7 h0 h1 hlo hhi ha
 have hp:=h.p1
 have hl:=h.len
 refine⟨hp,by omega,fun i hi=>?_,fun i hi=>?_,fun i h2 h3=>?_,fun i h2 h3=>?_⟩
 ·by_cases c1:i<a
  ·rw[jd (by omega),jd (by omega)];exact h.sorted i (by omega)
  ·by_cases c2:i=a
   ·subst c2;rw[jd (by omega),pR];exact hlo
   ·by_cases c3:i=a+1
    ·subst c3;rw[pR,jc (by omega)];exact Rat.le_of_lt hhi
    ·rw[jc (by omega),jc (by omega)]
     have:=h.sorted (i-1) (by omega)
     rwa [show i-1+1=i+1-1 by omega]at this
 ·rw[jd (by omega),jd (by omega)];exact h.first i hi
 ·rw[jc (by omega),jc (by omega),h.last (i-1) (by omega) (by omega),show n+1-1-1=n-1 by omega]
 ·by_cases c1:i+p<a+1
  ·rw[jd (by omega),jd (by omega)];exact h.mult i h2 (by omega)
  ·by_cases c2:i+p=a+1
   ·rw[c2,pR,jd (by omega)]
    have m:=h.mono (show i<=a by omega) (by omega)
    by_cases e:k i=t
    ·exfalso
     have hb:∀j,i<=j->j<i+p->k j=t:=fun j hj1 hj2=>by
      have a1:=h.mono hj1 (by omega)
      have a2:=h.mono (show j<=a by omega) (by omega)
      grind
     have b1:=Ku hb
     have b2:=Jz (k:=k) (t:=t) (n:=i+p) (m:=n-(i+p))
     rw[show i+p+(n-(i+p))=n by omega]at b2
     omega
    ·grind
   ·by_cases c3:i<=a
    ·rw[jd (by omega),jc (by omega)]
     have m1:=h.mono c3 (by omega)
     have m2:=h.mono (show a+1<=i+p-1 by omega) (by omega)
     grind
    ·by_cases c4:i=a+1
     ·subst c4;rw[pR,jc (by omega)]
      have m2:=h.mono (show a+1<=a+1+p-1 by omega) (by omega)
      grind
     ·rw[jc (by omega),jc (by omega)]
      have:=h.mult (i-1) (by omega) (by omega)
      rwa [show i-1+p=i+p-1 by omega]at this
theorem WS {k x:Nat->Rat} {p a j:Nat} {t:Rat} {n:Nat} (hs:∀i,i+1<n->k i<=k (i+1)) (hlo:k a<=t) (hhi:t<k (a+1)) (hn:a+p<n) (hx:∀j,0<x j):0<jJ k p x t a j:=by
 unfold jJ
 split
 ·exact hx _
 ·split
  ·exact hx _
  ·have m1:=fK hs (show j<=a by omega) (by omega)
   have m2:=fK hs (show a+1<=j+p by omega) (by omega)
   have hw:k j<k (j+p):=by grind
   have f0:=Nq (t:=t) hw (by grind)
   have f1:=MP (t:=t) hw (by grind)
   generalize fr (k j) (k (j+p)) t=f at*
   have x0:=hx (j-1)
   have x1:=hx j
   by_cases e:f=1
   ·subst e;grind
   ·have:=Rat.mul_pos (a:=1-f) (b:=x (j-1)) (by grind) x0
    have:=Rat.mul_nonneg (a:=f) (b:=x j) f0 (by grind)
    grind
theorem Cs {n:Nat} {k:Nat->Rat} {pc:Nat->Nat->Nat} (h0:∀i,pc 0 i=i) (h1:∀f i,pc (f+1) i=if i+1<n/\k (i+1)<=k i then pc f (i+1)else i):∀{f i l:Nat},k i<k (i+l)->i+l<n->l<=f->i<=pc f i/\pc f i<i+l/\k (pc f i)<k (pc f i+1)
 |0,i,l,hk,hn,hl=>by
  have:l=0:=by omega
  subst this;exact absurd hk (by rw[Nat.add_zero];exact Rat.lt_irrefl)
 |f+1,i,l,hk,hn,hl=>by
  have hl0:l≠0:=fun e=>by subst e;rw[Nat.add_zero]at hk;exact absurd hk Rat.lt_irrefl
  rw[h1]
  by_cases c:i+1<n/\k (i+1)<=k i
  ·rw[if_pos c]
   have:=Cs h0 h1 (f:=f) (i:=i+1) (l:=l-1) (by rw[show i+1+(l-1)=i+l by omega];have:=c.2;grind) (by omega) (by omega)
   obtain⟨a1,a2,a3⟩:=this
   exact⟨by omega,by omega,a3⟩
  ·rw[if_neg c]
   exact⟨Nat.le_refl _,by omega,Rat.not_le.1 fun e=>c ⟨by omega,e⟩⟩
theorem zY {n i:Nat} {k:Nat->Rat} (h:At n k i):bJ n k (k i)=i:=DE ⟨h,Rat.le_refl,Rat.le_of_lt h.wide,.inl h.wide⟩
theorem Ok {n a q:Nat} {k:Nat->Rat} {t:Rat} (hs:∀i,i+1<n->k i<=k (i+1)) (hlo:k a<=t) (hhi:t<k (a+1)) (ha:a+1<n) (hq:q+1<n+1) (hw:cW k t (a+1) q<cW k t (a+1) (q+1)):
  At n k (iz a q)/\bJ n k (cW k t (a+1) q)=iz a q/\k 0<=cW k t (a+1) q/\cW k t (a+1) q<=k (n-1):=by
 have key:∀i,At n k i->k 0<=k i/\k i<=k (n-1):=fun i h=>⟨fK hs (Nat.zero_le _) (by have:=h.lt;omega),fK hs (by have:=h.lt;omega) (by omega)⟩
 by_cases c1:q<=a
 ·have e:iz a q=q:=if_pos c1
  rw[e,jd (by omega)]at*
  have hA:At n k q:=⟨by omega,hs,by
   by_cases c2:q=a
   ·subst c2;grind
   ·rwa [jd (by omega)]at hw⟩
  exact⟨hA,zY hA,key q hA⟩
 ·have e:iz a q=q-1:=if_neg c1
  rw[e]
  by_cases c2:q=a+1
  ·subst c2
   rw[pR]
   have hA:At n k a:=⟨ha,hs,by grind⟩
   have:=key a hA
   have m:=fK hs (show a+1<=n-1 by omega) (by omega)
   exact⟨hA,DE ⟨hA,hlo,Rat.le_of_lt hhi,.inl hhi⟩,by grind,by grind⟩
  ·rw[jc (by omega)]at hw ⊢
   rw[jc (by omega)]at hw
   have hA:At n k (q-1):=⟨by omega,hs,by rwa [show q-1+1=q+1-1 by omega]⟩
   exact⟨hA,zY hA,key _ hA⟩
open Go Go.Am.N AV ah aq IntKind
theorem Pq {k:Nat->Rat} {t:Rat}:∀{i:Nat},(∀j,j<i->k j<=t)->fz k t i=i
 |0,_=>rfl
 |i+1,h=>TX (Pq fun j hj=>h j aa) (h i aa)
theorem GV {n a:Nat} {k:Nat->Rat} {t:Rat} (hs:∀i,i+1<n->k i<=k (i+1)) (hlo:k a<=t) (hhi:t<k (a+1)) (ha:a+1<n):fz k t n=a+1:=
 I0 (Pq fun j hj=>Rat.le_trans (fK hs (show j<=a by omega) aa) hlo) hhi aa
theorem ah6 {k:Nat->Rat} {t:Rat} {q:Nat}:gl k t q=cW k t q:=rfl
def kS (c:Cu) (t:Rat) (a j:Nat):Pl:=
 ⟨⟨jJ c.k c.p.toNat (fun q=>(bV (c.f q)).n.x) t a j,jJ c.k c.p.toNat (fun q=>(bV (c.f q)).n.y) t a j,jJ c.k c.p.toNat (fun q=>(bV (c.f q)).n.z) t a j⟩,jJ c.k c.p.toNat (fun q=>(bV (c.f q)).d) t a j⟩
theorem Kn.yp {n p j:Nat} {k:Nat->Rat} (h:Kn n p k) (hj:j+p+1<n):k j<k (j+(p+1)):=by
 have hp:=h.p1
 have hl:=h.len
 by_cases c:j=0
 ·subst c
  have m:=h.mult 1 aa aa
  rw[h.first 1 aa]at m
  rwa [show 0+(p+1)=1+p by omega]
 ·have m:=h.mult j aa hj
  have:=h.mono (show j+p<=j+(p+1) by omega) aa
  grind
theorem Kn.wide {n p P:Nat} {k:Nat->Rat} (h:Kn n p k) (hA:At n k P):p<=P/\P+p+1<n:=by
 have hw:=hA.wide
 have hlt:=hA.lt
 have hl:=h.len
 constructor
 ·by_cases c:p<=P
  ·exact c
  ·rw[h.first P aa,h.first (P+1) aa]at hw
   exact absurd hw Rat.lt_irrefl
 ·by_cases c:P+p+1<n
  ·exact c
  ·rw[h.last P aa aa,h.last (P+1) aa aa]at hw
   exact absurd hw Rat.lt_irrefl
theorem adR {c:Cu} {t:Rat} {a q j e:Nat} (hc:dx c) (h0:c.k 0<t) (h1:t<c.k (c.n-1)) (hlo:c.k a<=t) (hhi:t<c.k (a+1)) (ha:a+1<c.n) (hA:At c.n c.k (iz a q)) (g1:j<=q) (g2:q<=j+c.p.toNat):
  ga ⟨c.p,c.n,c.k,c.m,fun i=>bV (c.f i)⟩ (iz a q:Nat) c.p.toNat (fun i=>cW c.k t (a+1) (i+(j+1))) e=jJ c.k c.p.toNat (fun i=>bW (bV (c.f i)) e) t a j:=by
 obtain⟨k1,k2,k3,k4,k5⟩:=hc
 obtain⟨i1,i2⟩:=k1.l7 h0 h1 hlo hhi ha
 obtain⟨w1,w2⟩:=k1.wide hA
 have hw:=hA.wide
 have hE:gZ c.n c.k c.p.toNat c.m c.p.toNat (iz a q:Nat)=0:=wW aa rfl (by
  rw[aZ]
  rintro(h|h|h)
  ·omega
  ·omega
  ·exact absurd h (Rat.not_le.2 hw))
 unfold ga lN
 dsimp only
 rw[if_pos hE,aZ,yw]
 have e1:aT (fun i=>cW c.k t (a+1) (i+(j+1))) 0 c.p.toNat=aT (cW c.k t (a+1)) (j+1) c.p.toNat:=by
  have:=KJ (k:=cW c.k t (a+1)) (c:=j+1) (l:=c.p.toNat) (a:=0)
  rw[Nat.add_zero]at this
  rw[<-this]
  exact r5 fun i _ _=>by rw[Nat.add_comm i (j+1)]
 rw[e1]
 exact NB (n:=c.n) (x:=fun i=>bW (bV (c.f i)) e) k1.sorted aa hlo hhi i1 hA w1 aa g1 g2
theorem VX {c:Cu} {t:Rat} {a j:Nat} (hc:dx c) (h0:c.k 0<t) (h1:t<c.k (c.n-1)) (hlo:c.k a<=t) (hhi:t<c.k (a+1)) (ha:a+1<c.n) (ht:bu c.k t c.n<c.p.toNat) (hj:j<c.m+1):
  (uf ⟨c.p,c.n,c.k,c.m,fun i=>bV (c.f i)⟩ t).f j=kS c t a j:=by
 obtain⟨k1,k2,k3,k4,k5⟩:=id hc
 have hK:=k1.cW h0 h1 hlo hhi ha ht
 have hl:=k1.len
 obtain⟨q,hq⟩:∃q,q=er (cW c.k t (a+1)) (c.n+1) j:=⟨_,rfl⟩
 obtain⟨g1,g2,g3⟩:j<=q/\q<j+(c.p.toNat+1)/\cW c.k t (a+1) q<cW c.k t (a+1) (q+1):=by
  rw[hq]
  exact Cs (n:=c.n+1) (k:=cW c.k t (a+1)) (pc:=pM (cW c.k t (a+1)) (c.n+1)) (fun _=>rfl) (fun _ _=>rfl) (hK.yp aa) aa aa
 obtain⟨hA,hI,o1,o2⟩:=Ok k1.sorted hlo hhi ha aa g3
 have hI2:fH c.n c.k (cW c.k t (a+1) q)=iz a q:=by
  unfold fH;rw[if_neg (by unfold cw;rintro(h|h)<;>grind)];exact hI
 show nB _ (fH c.n c.k (gl c.k t (fz c.k t c.n) (er (gl c.k t (fz c.k t c.n)) (c.n+1) j))) c.p.toNat (fun q=>gl c.k t (fz c.k t c.n) (q+(j+1)))=_
 rw[GV k1.sorted hlo hhi ha,ah6,<-hq,hI2]
 have key:∀e,ga ⟨c.p,c.n,c.k,c.m,fun i=>bV (c.f i)⟩ (iz a q:Nat) c.p.toNat (fun i=>cW c.k t (a+1) (i+(j+1))) e=jJ c.k c.p.toNat (fun i=>bW (bV (c.f i)) e) t a j:=fun e=>adR hc h0 h1 hlo hhi ha hA g1 aa
 unfold nB
 rw[key 0,key 1,key 2,key 3]
 rfl
theorem Ip {p:Pl} (h:p.d≠0):dX (bV p)=p:=by
 obtain⟨⟨x,y,z⟩,d⟩:=p
 have key:∀x:Rat,d*x/d=x:=fun x=>by rw[Rat.div_def,Rat.mul_comm d x,Rat.mul_assoc,Rat.mul_inv_cancel _ h,Rat.mul_one]
 unfold dX bV
 dsimp only
 rw[key,key,key]
def nw (c:Cu) (t:Rat) (a:Nat):Cu:=⟨c.p,c.n+1,cW c.k t (a+1),c.m+1,fun j=>dX (kS c t a j)⟩
def fA (c:Cu) (t:Rat):Cu:=if dM c t=0 then nw c t (bJ c.n c.k t)else jC
def X3:Spec:=cI (kC (gY 2000 2000) (kC (fL 2000) kN)) (fun a=>.tuple [bQ (fA a.1 a.2.1) (sK+10) (sB+sB),.int .i64 (dM a.1 a.2.1)]) fun a=>[dx a.1]
theorem mX {n p:Nat} {k:Nat->Rat} {t:Rat} (h:Kn n p k) (h0:k 0<t) (h1:t<k (n-1)):k (bJ n k t)<=t/\t<k (bJ n k t+1)/\bJ n k t+1<n:=by
 obtain⟨g1,g2,g3⟩:=h.BB (Rat.le_of_lt h0) (Rat.le_of_lt h1)
 refine⟨g1.lo,?_,aa⟩
 rcases g1.KE with e|e
 ·exact e
 ·rw[e];exact h1
theorem yl {c:Cu} {t:Rat} (h:dM c t=0):c.k 0<t/\t<c.k (c.n-1)/\bu c.k t c.n<c.p.toNat/\c.m<40:=by
 unfold dM at h
 split at h
 ·omega
 ·rename_i g1
  split at h
  ·omega
  ·split at h
   ·omega
   ·have g1:=Classical.not_not.1 g1
    exact⟨g1.1,g1.2,aa,aa⟩
theorem afI:∀K args pre r,X3 K args pre=some r->aD P vj K args pre r:=cL fun⟨c,t,_⟩ K hn=>by
 have hc:dx c:=hn
 obtain⟨h1,h2,h3,h4,h5⟩:=id hc
 have hl:=h1.len
 refine bY (r:=aK (.tuple [bQ (fA c t) (sK+10) (sB+sB),.int .i64 (dM c t)]) []) hT Tz hm Mb rfl aW rfl 60 MS (fun _=>?_) K []
 have no:∀{e:Int},dM c t=e->e≠0->en [.agg [.int .i64 0,.nil,.nil],.int .i64 e] (.tuple [bQ (fA c t) (sK+10) (sB+sB),.int .i64 (dM c t)]):=fun {e} he h0=>by
  refine⟨?_,bN he.symm,trivial⟩
  rw[show fA c t=jC from if_neg (by rw[he];exact h0)]
  exact zV
 simp only[ah.all,aA,bh,bz,Bool.not_eq_true',Bool.not_eq_false',Bool.and_eq_true,Bool.and_eq_false_iff]
 refine⟨⟨aa,aa,cz aY,ir aY,aY,hc⟩,fun ho=>⟨aa,aa,no ?_ (by decide)⟩,fun hi=>⟨?_,fun h6=>⟨aa,aa,no ?_ (by decide)⟩,fun h6=>⟨aa,fun h7=>⟨aa,aa,no ?_ (by decide)⟩,fun h7=>⟨?_,aa,?_⟩⟩⟩⟩
 ·unfold dM;rw[if_pos fun h=>ho.elim (fun g=>g h.1) fun g=>g h.2]
 ·exact⟨aa,aa,cz (by decide),by decide,aa,aa⟩
 ·unfold dM;rw[if_neg (fun g=>g hi),if_pos h6]
 ·unfold dM;rw[if_neg (fun g=>g hi),if_neg h6,if_pos aa]
 ·(repeat' with_reducible refine And.intro ?_ ?_)
  all_goals first|omega|exact cz (by decide)|exact ir aY|exact nj aY|exact h1|exact Nat.le_refl _|skip
 ·have he:dM c t=0:=by unfold dM;rw[if_neg (fun g=>g hi),if_neg h6,if_neg aa]
  obtain⟨e1,e2,e3,e4⟩:=yl he
  obtain⟨a1,a2,a3⟩:=mX h1 e1 e2
  refine⟨?_,bN he.symm,trivial⟩
  rw[show fA c t=nw c t (bJ c.n c.k t)from if_pos he]
  refine ct ⟨.refl _,oQ rfl fun i _=>?_,oQ (by show c.n+1-c.p.toNat-1=c.m+1;omega) fun i hi=>?_,trivial⟩
  ·show AV.rat (gl c.k t (fz c.k t c.n) i) _=_
   rw[GV h1.sorted a1 a2 a3];rfl
  ·show bH (dX ((uf ⟨c.p,c.n,c.k,c.m,fun i=>bV (c.f i)⟩ t).f i)) _=_
   have hi:i<c.n+1-c.p.toNat-1:=hi
   rw[VX hc e1 e2 a1 a2 a3 e3 aa];rfl
open Go
theorem nr {x:Int} {n:Nat} (h:x.natAbs<2^n) (hn:1<=n):Sz (x:Rat) n:=
 ⟨by rw[Rat.num_intCast];exact h,by rw[Rat.den_intCast];exact Nat.lt_of_lt_of_le (show 1<2^1 by decide) (Nat.pow_le_pow_right (by decide) hn)⟩
def dD (x:Rat):Prop:=∃z:Int,(z:Rat)=x*55440/\-110880<=z/\z<=776160
theorem dD.sz {x:Rat} (h:dD x):Sz x 40:=by
 obtain⟨z,e,h1,h2⟩:=h
 have:x=(z:Rat)/((55440:Int):Rat):=by
  rw[e,Rat.div_def,Rat.mul_assoc,show(55440:Rat)=((55440:Int):Rat)from rfl,Rat.mul_inv_cancel _ (by decide+kernel),Rat.mul_one]
 rw[this]
 exact(nr (n:=20) aa (by decide)).div (nr (n:=20) (by decide) (by decide))
theorem dD.order {x y:Rat} {z w:Int} (h:(z:Rat)=x*55440) (h':(w:Rat)=y*55440) (hxy:x<=y):z<=w:=by
 have:(z:Rat)<=(w:Rat):=by rw[h,h'];exact Rat.mul_le_mul_of_nonneg_right hxy (by decide+kernel)
 exact Rat.intCast_le_intCast.1 this
theorem UO {x y f:Rat} {u v:Int} {s:Nat} (hf:f*(v:Rat)=(u:Rat)) (h0:0<=u) (h1:u<=v) (h2:0<v) (h3:v<2^20) (hx:Sz x s) (hy:Sz y s):Sz (x+f*(y-x)) (2*s+61):=by
 have hv:(v:Rat)≠0:=by
  intro e
  have:v=0:=by
   have e2:(v:Rat)=((0:Int):Rat):=e
   exact Rat.intCast_inj.1 e2
  omega
 have key:x+f*(y-x)=(((v-u:Int):Rat)*x+(u:Rat)*y)/(v:Rat):=by
  have e1:((v-u:Int):Rat)=(v:Rat)-(u:Rat):=by rw[Rat.intCast_sub]
  rw[e1,Rat.div_def,<-hf]
  have e2:((v:Rat)-f*(v:Rat))*x+f*(v:Rat)*y=(x+f*(y-x))*(v:Rat):=by grind
  rw[e2,Rat.mul_assoc,Rat.mul_inv_cancel _ hv,Rat.mul_one]
 rw[key]
 have a1:=(nr (x:=v-u) (n:=20) aa (by decide)).mul hx
 have a2:=(nr (x:=u) (n:=20) aa (by decide)).mul hy
 have a3:=(a1.add a2).div (nr (x:=v) (n:=20) aa (by decide))
 exact a3.more aa
theorem AK {k x:Nat->Rat} {p a j n s:Nat} {t:Rat} (hs:∀i,i+1<n->k i<=k (i+1)) (hlo:k a<=t) (hhi:t<k (a+1)) (hn:a+p<n) (hk:∀i,dD (k i)) (ht:dD t) (hx:∀i,Sz (x i) s):Sz (jJ k p x t a j) (2*s+61):=by
 unfold jJ
 split
 ·exact(hx _).more aa
 ·split
  ·exact(hx _).more aa
  ·have m1:=fK hs (show j<=a by omega) aa
   have m2:=fK hs (show a+1<=j+p by omega) aa
   have hw:k j<k (j+p):=by grind
   obtain⟨z1,e1,b1,c1⟩:=hk j
   obtain⟨z2,e2,b2,c2⟩:=hk (j+p)
   obtain⟨z3,e3,b3,c3⟩:=ht
   have o1:=dD.order e1 e3 (by grind)
   have o2:=dD.order e3 e2 (by grind)
   have o3:z1<z2:=by
    have:(z1:Rat)<(z2:Rat):=by rw[e1,e2];exact Rat.mul_lt_mul_of_pos_right hw (by decide+kernel)
    exact Rat.intCast_lt_intCast.1 this
   refine UO (u:=z3-z1) (v:=z2-z1) ?_ aa aa aa aa (hx _) (hx _)
   have hf:=nK (t:=t) hw
   rw[Rat.intCast_sub,Rat.intCast_sub,e1,e2,e3]
   have:fr (k j) (k (j+p)) t*(k (j+p)*55440-k j*55440)=fr (k j) (k (j+p)) t*(k (j+p)-k j)*55440:=by grind
   rw[this,hf];grind
theorem PE {k:Nat->Rat} {t:Rat} {q:Nat} (hk:∀i,dD (k i)) (ht:dD t) (i:Nat):dD (cW k t q i):=by
 unfold cW
 split
 ·exact hk _
 ·split
  ·exact ht
  ·exact hk _
def jj (p n:Nat) (k:Nat->Rat) (x:Nat->Nat->Rat) (N:Nat) (K:Nat->Rat) (X:Nat->Nat->Rat):Prop:=
 ∀Q,At N K Q->∃P,At n k P/\k P<=K Q/\K (Q+1)<=k (P+1)/\∀e l,l.length=p->bO K p (X e) Q l=bO k p (x e) P l
theorem jj.refl {p n:Nat} {k:Nat->Rat} {x:Nat->Nat->Rat}:jj p n k x n k x:=fun Q h=>⟨Q,h,Rat.le_refl,Rat.le_refl,fun _ _ _=>rfl⟩
theorem Kn.jZ {n p P:Nat} {k:Nat->Rat} (h:Kn n p k) (hA:At n k P):p<=P/\P+p+1<n:=by
 have hw:=hA.wide
 have hlt:=hA.lt
 have hl:=h.len
 constructor
 ·by_cases c:p<=P
  ·exact c
  ·rw[h.first P (by omega),h.first (P+1) (by omega)]at hw
   exact absurd hw Rat.lt_irrefl
 ·by_cases c:P+p+1<n
  ·exact c
  ·rw[h.last P (by omega) (by omega),h.last (P+1) (by omega) (by omega)]at hw
   exact absurd hw Rat.lt_irrefl
theorem jj.ins {p n N a:Nat} {k K:Nat->Rat} {x X:Nat->Nat->Rat} {t:Rat} (h:jj p n k x N K X) (hK:Kn N p K) (h0:K 0<t) (h1:t<K (N-1)) (hlo:K a<=t) (hhi:t<K (a+1)) (ha:a+1<N) (ht:bu K t N<p):
  jj p n k x (N+1) (cW K t (a+1)) fun e=>jJ K p (X e) t a:=by
 intro Q hQ
 have hK':=hK.cW h0 h1 hlo hhi ha ht
 obtain⟨g1,g2⟩:=hK.l7 h0 h1 hlo hhi ha
 obtain⟨hA,_,_,_⟩:=Ok hK.sorted hlo hhi ha (by have:=hQ.lt;omega) hQ.wide
 obtain⟨w1,w2⟩:=hK.jZ hA
 obtain⟨v1,v2⟩:=hK'.jZ hQ
 obtain⟨P,p1,p2,p3,p4⟩:=h _ hA
 refine⟨P,p1,?_,?_,fun e l hl=>?_⟩
 ·refine Rat.le_trans p2 ?_
  unfold iz
  by_cases c1:Q<=a
  ·rw[if_pos c1,jd (by omega)];exact Rat.le_refl
  ·rw[if_neg c1]
   by_cases c2:Q=a+1
   ·subst c2;rw[pR];exact hlo
   ·rw[jc (by omega)];exact Rat.le_refl
 ·refine Rat.le_trans ?_ p3
  unfold iz
  by_cases c1:Q<=a
  ·rw[if_pos c1]
   by_cases c2:Q=a
   ·subst c2;rw[pR];exact Rat.le_of_lt hhi
   ·rw[jd (by omega)];exact Rat.le_refl
  ·rw[if_neg c1,jc (by omega),show Q+1-1=Q-1+1 by omega];exact Rat.le_refl
 ·rw[<-p4 e l hl]
  exact ad0 (n:=N) hK.sorted hK.p1 hlo hhi g1 hA w1 (by omega) hQ v1 (by omega) hl
theorem jj.TA {p n N j Q:Nat} {k K:Nat->Rat} {x X:Nat->Nat->Rat} (h:jj p n k x N K X) (hK:Kn N p K) (hQ:At N K Q) (h1:j<=Q) (h2:Q<=j+p):
  ∃P,At n k P/\bJ n k (K Q)=P/\∀e,bO k p (x e) P (aT K (j+1) p)=X e j:=by
 obtain⟨w1,w2⟩:=hK.jZ hQ
 obtain⟨P,p1,p2,p3,p4⟩:=h Q hQ
 have hw:=hQ.wide
 refine⟨P,p1,DE ⟨p1,p2,by grind,.inl (by grind)⟩,fun e=>?_⟩
 rw[<-p4 e _ gy]
 exact qH hQ w1 (by omega) h2 h1
open Go Go.Am.N AV ah aq IntKind
structure dm (c:Cu) (s:Nat):Prop where
 kn:dx c
 pos:∀i,0<(c.f i).d
 kd:∀i,dD (c.k i)
 sx:∀i,Sz (bV (c.f i)).n.x s
 sy:∀i,Sz (bV (c.f i)).n.y s
 sz:∀i,Sz (bV (c.f i)).n.z s
 sd:∀i,Sz (c.f i).d s
theorem Ac {h:Pl} (hd:h.d≠0):bV (dX h)=h:=by
 obtain⟨⟨x,y,z⟩,d⟩:=h
 have key:∀x:Rat,d*(x/d)=x:=fun x=>by rw[Rat.div_def,Rat.mul_comm d,Rat.mul_assoc,Rat.inv_mul_cancel _ hd,Rat.mul_one]
 unfold dX bV
 dsimp only
 rw[key,key,key]
theorem AU {c:Cu} {t:Rat} {a i:Nat} (hc:dx c) (hp:∀i,0<(c.f i).d) (h0:c.k 0<t) (h1:t<c.k (c.n-1)) (hlo:c.k a<=t) (hhi:t<c.k (a+1)) (ha:a+1<c.n):0<(kS c t a i).d:=by
 obtain⟨g1,g2⟩:=hc.1.l7 h0 h1 hlo hhi ha
 exact WS (n:=c.n) hc.1.sorted hlo hhi aa fun i=>hp i
theorem o5 {x:Rat} (h:0<x):x≠0:=fun e=>by rw[e]at h;exact absurd h Rat.lt_irrefl
theorem dm.ins {c:Cu} {s:Nat} {t:Rat} (h:dm c s) (ht:dD t) (he:dM c t=0):dm (fA c t) (2*s+61):=by
 obtain⟨e1,e2,e3,e4⟩:=yl he
 obtain⟨k1,k2,k3,k4,k5⟩:=id h.kn
 obtain⟨a1,a2,a3⟩:=mX k1 e1 e2
 obtain⟨g1,g2⟩:=k1.l7 e1 e2 a1 a2 a3
 rw[show fA c t=nw c t (bJ c.n c.k t)from if_pos he]
 have hpos:∀i,0<(kS c t (bJ c.n c.k t) i).d:=fun i=>AU h.kn h.pos e1 e2 a1 a2 a3
 have hl:∀i,bV (dX (kS c t (bJ c.n c.k t) i))=kS c t (bJ c.n c.k t) i:=fun i=>Ac (o5 (hpos i))
 refine⟨⟨k1.cW e1 e2 a1 a2 a3 e3,k2,k3,show c.n+1<=c.p.toNat+41 by omega,show((c.m+1:Nat):Int)=((c.n+1:Nat):Int)-c.p-1 by omega⟩,hpos,PE h.kd ht,fun i=>?_,fun i=>?_,fun i=>?_,fun i=>?_⟩
 ·show Sz (bV (dX (kS c t (bJ c.n c.k t) i))).n.x _
  rw[hl];exact AK (n:=c.n) k1.sorted a1 a2 aa h.kd ht h.sx
 ·show Sz (bV (dX (kS c t (bJ c.n c.k t) i))).n.y _
  rw[hl];exact AK (n:=c.n) k1.sorted a1 a2 aa h.kd ht h.sy
 ·show Sz (bV (dX (kS c t (bJ c.n c.k t) i))).n.z _
  rw[hl];exact AK (n:=c.n) k1.sorted a1 a2 aa h.kd ht h.sz
 ·exact AK (n:=c.n) k1.sorted a1 a2 aa h.kd ht h.sd
theorem dm.GB {c:Cu} {s r:Nat} (h:dm c s):bT (fun i=>.rat (c.k i) r) c.n 2000:=fun i _=>dc rfl ((h.kd i).sz.more (by decide))
theorem dm.x {c:Cu} {s:Nat} (h:dm c s) (i:Nat):Sz (c.f i).n.x (s+s)/\Sz (c.f i).n.y (s+s)/\Sz (c.f i).n.z (s+s):=by
 have e:=Ip (o5 (h.pos i))
 have d:(bV (c.f i)).d=(c.f i).d:=rfl
 refine⟨?_,?_,?_⟩
 ·rw[<-e];exact(h.sx i).div (d▸h.sd i)
 ·rw[<-e];exact(h.sy i).div (d▸h.sd i)
 ·rw[<-e];exact(h.sz i).div (d▸h.sd i)
theorem dm.QT {c:Cu} {s r:Nat} (h:dm c s) (hs:s<=1000):fj (fun i=>bH (c.f i) r) c.m 2000:=fun i _=>by
 obtain⟨a,b,d⟩:=h.x i
 exact ct ⟨ct ⟨dc rfl (a.more aa),dc rfl (b.more aa),dc rfl (d.more aa),trivial⟩,dc rfl ((h.sd i).more aa),trivial⟩
def wH (c:Cu) (t:Nat->Rat):Nat->Cu
 |0=>c
 |r+1=>fA (wH c t r) (t r)
def nL (c:Cu) (t:Nat->Rat):Nat->Int
 |0=>0
 |r+1=>if nL c t r=0 then dM (wH c t r) (t r)else nL c t r
def tT:Nat->Nat
 |0=>5
 |r+1=>2*tT r+61
theorem ZY {r:Nat} (h:r<=4):tT r<=1000:=by
 rcases(show r=0\/r=1\/r=2\/r=3\/r=4 by omega)with rfl|rfl|rfl|rfl|rfl<;>decide
theorem afX {c:Cu} {t:Nat->Rat} {r:Nat} (h:nL c t (r+1)=0):nL c t r=0/\dM (wH c t r) (t r)=0:=by
 unfold nL at h
 split at h
 ·rename_i g;exact⟨g,h⟩
 ·rename_i g;exact absurd h g
theorem rO {c:Cu} {t:Nat->Rat} (hc:dm c 5) (ht:∀i,dD (t i)):∀{r:Nat},nL c t r=0->dm (wH c t r) (tT r)
 |0,_=>hc
 |r+1,h=>by
  obtain⟨h1,h2⟩:=afX h
  exact(rO hc ht h1).ins (ht r) h2
theorem ajQ {c:Cu} {t:Nat->Rat} {r:Nat} (h:nL c t r=0) (he:dM (wH c t r) (t r)=0):nL c t (r+1)=0:=(if_pos h:nL c t (r+1)=_).trans he
def eA (g:Nat->Bool):Nat->Nat
 |0=>0
 |n+1=>if eA g n<n then eA g n else if g n then n else n+1
theorem BH {g:Nat->Bool}:∀{n:Nat},(∀j,j<n->g j=false)->eA g n=n
 |0,_=>rfl
 |n+1,h=>by
  rw[eA,BH fun j hj=>h j (by omega),if_neg (by omega),h n (by omega)];rfl
theorem su {g:Nat->Bool} {i:Nat} (hi:g i=true) (hb:∀j,j<i->g j=false):∀{n:Nat},i<n->eA g n=i
 |0,h=>by omega
 |n+1,h=>by
  by_cases c:i=n
  ·subst c
   rw[eA,BH hb,if_neg (by omega),if_pos hi]
  ·rw[eA,su hi hb (n:=n) (by omega),if_pos (by omega)]
theorem Kn.split {N p a:Nat} {K:Nat->Rat} {t:Rat} (h:Kn N p K) (h0:K 0<t) (h1:t<K (N-1)) (hlo:K a<=t) (hhi:t<K (a+1)) (ha:a+1<N) (ht:bu K t N=p):
  (∀i,i<=a->a<i+p->K i=t)/\(∀i,i+p<=a->K i<t)/\p+p<=a:=by
 obtain⟨g1,g2⟩:=h.l7 h0 h1 hlo hhi ha
 have hp:=h.p1
 have run:∀i,i<=a->a<i+p->K i=t:=fun i hi h2=>afM h.sorted hhi ha hlo hi (by rw[ht];exact h2)
 refine⟨run,fun i hi=>?_,?_⟩
 ·have m:=h.mono (show i<=a by omega) (by omega)
  by_cases e:K i=t
  ·exfalso
   have hb:∀j,i<=j->j<i+(p+1)->K j=t:=fun j hj1 hj2=>by
    have a1:=h.mono hj1 (by omega)
    have a2:=h.mono (show j<=a by omega) (by omega)
    grind
   have b1:=Ku hb
   have b2:=Jz (k:=K) (t:=t) (n:=i+(p+1)) (m:=N-(i+(p+1)))
   rw[show i+(p+1)+(N-(i+(p+1)))=N by omega]at b2
   omega
  ·grind
 ·by_cases c:p+p<=a
  ·exact c
  ·have e:=run p g1 (by omega)
   rw[h.first p (Nat.le_refl _)]at e
   rw[e]at h0
   exact absurd h0 Rat.lt_irrefl
theorem Kn.firsts {N p a:Nat} {K:Nat->Rat} {t:Rat} (h:Kn N p K) (h0:K 0<t) (h1:t<K (N-1)) (hlo:K a<=t) (hhi:t<K (a+1)) (ha:a+1<N) (ht:bu K t N=p):
  eA (fun i=>decide (K 0<K i)) N=p+1/\eA (fun i=>decide (t<=K i)) N=a+1-p/\eA (fun i=>decide (t<K i)) N=a+1/\eA (fun i=>decide (K (N-1)<=K i)) N=N-p-1:=by
 obtain⟨r1,r2,r3⟩:=h.split h0 h1 hlo hhi ha ht
 obtain⟨g1,g2⟩:=h.l7 h0 h1 hlo hhi ha
 have hp:=h.p1
 have hl:=h.len
 refine⟨su (decide_eq_true ?_) (fun j hj=>decide_eq_false ?_) (by omega),su (decide_eq_true ?_) (fun j hj=>decide_eq_false ?_) (by omega),su (decide_eq_true hhi) (fun j hj=>decide_eq_false ?_) (by omega),su (decide_eq_true ?_) (fun j hj=>decide_eq_false ?_) (by omega)⟩
 ·have m:=h.mult 1 (by omega) (by omega)
  rwa [h.first 1 (by omega),show 1+p=p+1 by omega]at m
 ·rw[h.first j (by omega)];exact Rat.lt_irrefl
 ·rw[r1 (a+1-p) (by omega) (by omega)];exact Rat.le_refl
 ·exact Rat.not_le.2 (r2 j (by omega))
 ·have:=h.mono (show j<=a by omega) (by omega)
  exact Rat.not_lt.2 (Rat.le_trans this hlo)
 ·rw[h.last (N-p-1) (by omega) (by omega)];exact Rat.le_refl
 ·have m:=h.mult (N-p-2) (by omega) (by omega)
  have m1:=h.mono (show j<=N-p-2 by omega) (by omega)
  have m2:=h.mono (show N-p-2+p<=N-1 by omega) (by omega)
  exact Rat.not_le.2 (by grind)
theorem IQ {k:Nat->Rat} {t:Rat} {q:Nat}:∀{m:Nat},bu (cW k t q) t (q+1+m)=bu k t (q+m)+1
 |0=>by
  have pre:∀i,i<=q->bu (cW k t q) t i=bu k t i:=fun i=>by
   induction i with
   |zero=>intro _;rfl
   |succ i ih=>intro h;rw[rj,rj,ih aa,jd aa]
  show bu (cW k t q) t (q+1)=bu k t q+1
  rw[rj,pre q aY,pR,if_pos rfl]
 |m+1=>by
  rw[<-Nat.add_assoc,rj,IQ (m:=m),jc aa,<-Nat.add_assoc,rj,show q+1+m-1=q+m by omega];omega
theorem Kn.yU {n p:Nat} {k:Nat->Rat} {t:Rat} (h:Kn n p k) (h0:k 0<t) (h1:t<k (n-1)):bu k t n<=p:=by
 obtain⟨a1,a2,a3⟩:=mX h h0 h1
 obtain⟨g1,g2⟩:=h.l7 h0 h1 a1 a2 a3
 have hp:=h.p1
 generalize bJ n k t=a at*
 have:=IE (k:=k) (t:=t) (lo:=a+1-p) (hi:=a+1) aa (n:=n) fun j hj hjt=>by
  constructor
  ·by_cases c:a+1-p<=j
   ·exact c
   ·exfalso
    have hj0:1<=j:=by
     by_cases c2:1<=j
     ·exact c2
     ·rw[show j=0 by omega]at hjt;rw[hjt]at h0;exact absurd h0 Rat.lt_irrefl
    have m:=h.mult j hj0 aa
    have m2:=h.mono (show j+p<=a by omega) aa
    grind
  ·by_cases c:j<a+1
   ·exact c
   ·have:=h.mono (show a+1<=j by omega) hj
    grind
 omega
abbrev cj (c:Cu) (t:Rat):Nat->Cu:=wH c fun _=>t
structure lR (c:Cu) (t:Rat) (r:Nat):Prop where
 e:nL c (fun _=>t) r=0
 p:(cj c t r).p=c.p
 n:(cj c t r).n=c.n+r
 m:(cj c t r).m=c.m+r
 s:bu (cj c t r).k t (cj c t r).n=bu c.k t c.n+r
 k0:(cj c t r).k 0=c.k 0
 k1:(cj c t r).k ((cj c t r).n-1)=c.k (c.n-1)
theorem aaE {c:Cu} {t:Rat} (h0:c.k 0<t) (h1:t<c.k (c.n-1)) (h2:(bu c.k t c.n:Int)<c.p) (h3:c.m<40):dM c t=0:=by
 unfold dM;rw[if_neg (fun g=>g ⟨h0,h1⟩),if_neg aa,if_neg aa]
theorem Gb {d:Cu} {t:Rat} (hd:dx d) (hE:dM d t=0):(fA d t).p=d.p/\(fA d t).n=d.n+1/\(fA d t).m=d.m+1/\bu (fA d t).k t (fA d t).n=bu d.k t d.n+1/\(fA d t).k 0=d.k 0/\(fA d t).k ((fA d t).n-1)=d.k (d.n-1):=by
 obtain⟨b1,b2,b3,b4⟩:=yl hE
 obtain⟨i1,i2,i3⟩:=mX hd.1 b1 b2
 rw[show fA d t=nw d t (bJ d.n d.k t)from if_pos hE]
 generalize bJ d.n d.k t=a at*
 have:=IQ (k:=d.k) (t:=t) (q:=a+1) (m:=d.n-(a+1))
 rw[show a+1+1+(d.n-(a+1))=d.n+1 by omega,show a+1+(d.n-(a+1))=d.n by omega]at this
 refine⟨rfl,rfl,rfl,this,(show cW d.k t (a+1) 0=_ from jd aa),?_⟩
 show cW d.k t (a+1) (d.n+1-1)=_
 rw[jc aa];rfl
theorem lR.go {c:Cu} {t:Rat} {r:Nat} (h:lR c t r) (hc:dm c 5) (ht:dD t) (h0:c.k 0<t) (h1:t<c.k (c.n-1)) (h2:((bu c.k t c.n+r:Nat):Int)<c.p) (h3:c.m+r<40):dM (cj c t r) t=0/\lR c t (r+1):=by
 obtain⟨a1,a2,a3,a4,a5,a6,a7⟩:=h
 have hE:dM (cj c t r) t=0:=aaE (by rw[a6];exact h0) (by rw[a7];exact h1) (by rw[a5,a2];exact h2) (by rw[a4];exact h3)
 have hd:=rO hc (fun _=>ht) a1
 obtain⟨b1,b2,b3,b4,b5,b6⟩:=Gb hd.kn hE
 exact⟨hE,ajQ a1 hE,b1.trans a2,by rw[show(cj c t (r+1)).n=(cj c t r).n+1 from b2,a3];rfl,by rw[show(cj c t (r+1)).m=(cj c t r).m+1 from b3,a4];rfl,b4.trans (by rw[a5];rfl),b5.trans a6,b6.trans a7⟩
theorem lR.all {c:Cu} {t:Rat} (hc:dm c 5) (ht:dD t) (h0:c.k 0<t) (h1:t<c.k (c.n-1)) (h40:c.m+c.p.toNat<=40):∀{r:Nat},((bu c.k t c.n+r:Nat):Int)<=c.p->lR c t r
 |0,_=>⟨rfl,rfl,rfl,rfl,rfl,rfl,rfl⟩
 |r+1,h=>((lR.all hc ht h0 h1 h40 (r:=r) aa).go hc ht h0 h1 aa aa).2
def lY (d:Cu) (t:Rat) (a:Nat):Cu:=⟨d.p,a+1+1,fun i=>if i<a+1 then d.k i else t,a+1-d.p.toNat,d.f⟩
def gx (d:Cu) (t:Rat) (a:Nat):Cu:=⟨d.p,1+(d.n-(a+1-d.p.toNat)),fun i=>if i<1 then t else d.k (a+1-d.p.toNat+(i-1)),d.m-(a-d.p.toNat),fun i=>d.f (a-d.p.toNat+i)⟩
def cN (c:Cu) (t:Rat):Cu:=cj c t (c.p.toNat-bu c.k t c.n)
def ig (c:Cu) (t:Rat):Cu:=if c.k 0<t/\t<c.k (c.n-1)then lY (cN c t) t (bJ (cN c t).n (cN c t).k t)else jC
def iw (c:Cu) (t:Rat):Cu:=if c.k 0<t/\t<c.k (c.n-1)then gx (cN c t) t (bJ (cN c t).n (cN c t).k t)else jC
def m7 (c:Cu) (t:Rat):Int:=if c.k 0<t/\t<c.k (c.n-1)then 0 else 7
def ajm:Spec:=cI (kC (gY 2000 2000) (kC (fL 2000) kN)) (fun a=>.tuple [bQ (ig a.1 a.2.1) 2000 sE,bQ (iw a.1 a.2.1) 2000 sE,.int .i64 (m7 a.1 a.2.1)]) fun a=>[dm a.1 5,dD a.2.1,a.1.m+a.1.p.toNat<=40,a.1.p<=5]
theorem afz:aR P tf Cz (az Cz):=aS Proofs.Tryz.func200 ag ag ag
theorem aal:aR P rQ CC (az CC):=aS Proofs.Tryz.func201 ag ag ag
theorem PT:aR P pA qS (az qS):=aS Proofs.Tryz.func193 ag ag ag
theorem NV {u v:AV} (h:bF u v):bF (.br u) (.br v):=by
 refine⟨rfl,fun M w cs hc=>?_⟩
 cases hc with
 |br h1 h2 h3=>cases h3;exact .br (h.2 _ _ _ h1) h2 .nil
theorem WD {f:FuncId} {us vs:List AV} (h:ff us vs) (hv:(vs.all fun v=>!v.isAgg&&!v.isTuple)=true):bF (.func f us) (.func f vs):=by
 refine⟨rfl,fun M w cs hc=>?_⟩
 cases hc with
 |func h1 h2 h3=>cases h3;exact .func (Ht h h1) hv .nil
def Qv {α:Type} (k:Kind α):Kind α:=⟨fun v=>match v with
 |.br v=>k.read v
 |_=>none,fun a=>.br (k.make a),fun {v a q} h hq=>by
  split at h
  ·exact NV (k.ok h hq)
  ·simp at h⟩
def LW {α:Type} (g:FuncId) (k:Kind α):Kind α:=⟨fun v=>match v with
 |.func f [.br v]=>match Nat.beq f g with
  |true=>k.read v
  |false=>none
 |_=>none,fun a=>.func g [.br (k.make a)],fun {v a q} h hq=>by
  split at h
  ·split at h
   ·rename_i hc
    have hc:=Nat.eq_of_beq_eq_true hc
    subst hc
    exact WD ⟨NV (k.ok h hq),trivial⟩ rfl
   ·simp at h
  ·simp at h⟩
def OF:Spec:=cI (kC (fL 2000) (kC (Qv (fL 2000)) kN)) (fun a=>.bool (decide (a.2.1<a.1))) fun _=>[]
def S8:Spec:=cI (kC (fL 2000) (kC (Qv (fL 2000)) kN)) (fun a=>.bool (decide (a.2.1<=a.1))) fun _=>[]
def ym:aX:=nG::(tf,OF)::(rQ,S8)::[]
abbrev qo:List Nat:=[4,0,1,7,8]
abbrev xk (n i:Nat) (k:Nat->Rat) (g:FuncId) (x:Rat):List AV:=[.int .i64 0,bD k n 2000,.func g [.br (.rat x 2000)],.int .i64 n,.int .i64 i]
abbrev qU:Code:=az qS
def jO (x:Rat) (k:Nat->Rat) (i:Nat):Bool:=decide (x<k i)
def jI (x:Rat) (k:Nat->Rat) (i:Nat):Bool:=decide (x<=k i)
def O6:Spec:=cI (kC (kL 2000) (kC (LW tf (fL 2000)) kN)) (fun a=>.int .i64 (eA (jO a.2.1 a.1.2) a.1.1:Nat)) fun a=>[a.1.1<2^40,eA (jO a.2.1 a.1.2) a.1.1<a.1.1]
def Tg:Spec:=cI (kC (kL 2000) (kC (LW rQ (fL 2000)) kN)) (fun a=>.int .i64 (eA (jI a.2.1 a.1.2) a.1.1:Nat)) fun a=>[a.1.1<2^40,eA (jI a.2.1 a.1.2) a.1.1<a.1.1]
def Kb:Spec:=fun K args pre=>match O6 K args pre with
 |some r=>some r
 |none=>Tg K args pre
theorem alY {x y:Rat}:bS T (nG::fQ) [] 60 Cz (az Cz) ⟨aP 0 [.rat x 2000,.br (.rat y 2000)],[],0⟩=
  let c1:Prop:=2000<2^42;some (aj [(0:Nat)<1,c1,c1] (leaf ret [AV.bool (decide (e9 x y>(0:Int)))])):=ag
theorem YD {x y:Rat}:bS T (nG::fQ) [] 60 CC (az CC) ⟨aP 0 [.rat x 2000,.br (.rat y 2000)],[],0⟩=
  let c1:Prop:=2000<2^42;some (aj [(0:Nat)<1,c1,c1] (leaf ret [AV.bool (decide (e9 x y>=(0:Int)))])):=ag
theorem MU {n:Nat} {k:Nat->Rat} {g:FuncId} {x:Rat}:aI T ym [] 60 qo (before qU [1,0,1]) ⟨aP 0 [bD k n 2000,.func g [.br (.rat x 2000)]],[],0⟩=
  some (leaf normal ([int i64 0,ak 3 n fun i=>rat (k i) 2000,func g [(rat x 2000).br],int i64 (↑n:Int),int i64 0],[])):=ag
theorem ah3 {n i:Nat} {k:Nat->Rat} {x:Rat}:aI T ym [9,16] 60 qo [part qU [1,0,1,0,0]] ⟨aE qo (xk n i k tf x),[],0⟩=
  let c7:Int:=(↑n:Int);let c5:Prop:=2000<=2000;let c4:AV:=func tf [(rat x 2000).br];let c3:AV:=ak 3 n fun i=>rat (k i) 2000;let c2:Int:=(↑i:Int);let c6:Int:=c2+(1:Int);let c1:List AV:=[c3,c4,int i64 c7,int i64 c2];some (fork (decide (c2<c7)) (aj [(0:Int)<=c2/\c2.toNat<n,c5,c5] (fork (decide (x<k c2.toNat)) (leaf ret (int i64 c2::c1,[])) (aj [-(2:Int)^63<=c6/\c6<(2:Int)^63] (leaf normal ([int i64 0,c3,c4,int i64 c7,int i64 c6],[]))))) (leaf (exit 0) (int i64 0::c1,[]))):=ag
theorem af2 {n i:Nat} {k:Nat->Rat} {x:Rat}:aI T ym [9,16] 60 qo [part qU [1,0,1,0,0]] ⟨aE qo (xk n i k rQ x),[],0⟩=
  let c7:Int:=(↑n:Int);let c5:Prop:=2000<=2000;let c4:AV:=func rQ [(rat x 2000).br];let c3:AV:=ak 3 n fun i=>rat (k i) 2000;let c2:Int:=(↑i:Int);let c6:Int:=c2+(1:Int);let c1:List AV:=[c3,c4,int i64 c7,int i64 c2];some (fork (decide (c2<c7)) (aj [(0:Int)<=c2/\c2.toNat<n,c5,c5] (fork (decide (x<=k c2.toNat)) (leaf ret (int i64 c2::c1,[])) (aj [-(2:Int)^63<=c6/\c6<(2:Int)^63] (leaf normal ([int i64 0,c3,c4,int i64 c7,int i64 c6],[]))))) (leaf (exit 0) (int i64 0::c1,[]))):=ag
theorem QB {n i:Nat} {k:Nat->Rat} {g:FuncId} {x:Rat}:cJ T ym [] 60 qS [part qU [1,1]] ⟨aE qo (xk n i k g x),[],0⟩=
  some (leaf ret [int i64 (-1:Int)]):=ag
theorem aio:∀K args pre r,OF K args pre=some r->aD P tf K args pre r:=cL fun⟨x,y,_⟩ K _=>by
 refine bY (r:=aK (.bool (decide (y<x))) []) hT (dg gm) hm afz rfl aW rfl 60 alY (fun _=>?_) K []
 simp only[ah.all,aA]
 exact⟨⟨aa,aa,aa⟩,gA (decide_eq_decide.2 uW)⟩
theorem ahR:∀K args pre r,S8 K args pre=some r->aD P rQ K args pre r:=cL fun⟨x,y,_⟩ K _=>by
 refine bY (r:=aK (.bool (decide (y<=x))) []) hT (dg gm) hm aal rfl aW rfl 60 YD (fun _=>?_) K []
 simp only[ah.all,aA]
 exact⟨⟨aa,aa,aa⟩,gA (decide_eq_decide.2 vZ)⟩
theorem Qb:bq P ym:=dg (aH aio (aH ahR bC))
theorem aeX:∀K args pre r,O6 K args pre=some r->aD P pA K args pre r:=cL fun⟨⟨n,k⟩,x,_⟩ K hn=>by
 have n1:n<2^40:=hn.1
 have n2:eA (jO x k) n<n:=hn.2
 refine gV (r:=aK (.int .i64 (eA (jO x k) n:Nat)) []) hT Qb hm PT rfl aW rfl [1,0,1] (i:=0) (y:=part qU [1,0,1,0,0]) (z:=part qU [1,1]) ag ag ag (f1:=[]) (f2:=[9,16]) (f3:=[]) 60 qo 0
  (fun i:Nat=>xk n i k tf x) (fun _=>[]) (fun i=>i<=n/\∀j,j<i->jO x k j=false) (fun i=>i=n/\∀j,j<i->jO x k j=false) (fun i=>n-i) (fun _=>⟨⟨_,MU,?_⟩,fun i ⟨h1,h2⟩=>⟨_,ah3,?_⟩,fun i ⟨h1,h2⟩=>⟨_,QB,?_⟩⟩) K []
 ·exact⟨0,⟨Nat.zero_le _,fun j hj=>aa⟩,.vals rfl⟩
 ·simp only[ah.all,aA,bh,bz,aZ]
  refine⟨fun h=>⟨aa,fun hb=>⟨[.int .i64 i],ag,?_⟩,fun hb=>⟨aa,i+1,⟨aa,fun j hj=>?_⟩,by dsimp only;omega,.vals rfl⟩⟩,fun h=>⟨rfl,i,⟨aa,h2⟩,.vals rfl⟩⟩
  ·exact bN (by rw[su (g:=jO x k) (i:=i) (decide_eq_true hb) h2 (n:=n) aa])
  ·by_cases hji:j=i
   ·subst hji;exact decide_eq_false hb
   ·exact h2 j aa
 ·subst h1
  rw[BH h2]at n2
  omega
theorem ajA:∀K args pre r,Tg K args pre=some r->aD P pA K args pre r:=cL fun⟨⟨n,k⟩,x,_⟩ K hn=>by
 have n1:n<2^40:=hn.1
 have n2:eA (jI x k) n<n:=hn.2
 refine gV (r:=aK (.int .i64 (eA (jI x k) n:Nat)) []) hT Qb hm PT rfl aW rfl [1,0,1] (i:=0) (y:=part qU [1,0,1,0,0]) (z:=part qU [1,1]) ag ag ag (f1:=[]) (f2:=[9,16]) (f3:=[]) 60 qo 0
  (fun i:Nat=>xk n i k rQ x) (fun _=>[]) (fun i=>i<=n/\∀j,j<i->jI x k j=false) (fun i=>i=n/\∀j,j<i->jI x k j=false) (fun i=>n-i) (fun _=>⟨⟨_,MU,?_⟩,fun i ⟨h1,h2⟩=>⟨_,af2,?_⟩,fun i ⟨h1,h2⟩=>⟨_,QB,?_⟩⟩) K []
 ·exact⟨0,⟨Nat.zero_le _,fun j hj=>aa⟩,.vals rfl⟩
 ·simp only[ah.all,aA,bh,bz,aZ]
  refine⟨fun h=>⟨aa,fun hb=>⟨[.int .i64 i],ag,?_⟩,fun hb=>⟨aa,i+1,⟨aa,fun j hj=>?_⟩,by dsimp only;omega,.vals rfl⟩⟩,fun h=>⟨rfl,i,⟨aa,h2⟩,.vals rfl⟩⟩
  ·exact bN (by rw[su (g:=jI x k) (i:=i) (decide_eq_true hb) h2 (n:=n) aa])
  ·by_cases hji:j=i
   ·subst hji;exact decide_eq_false hb
   ·exact h2 j aa
 ·subst h1
  rw[BH h2]at n2
  omega
theorem VB:∀K args pre r,Kb K args pre=some r->aD P pA K args pre r:=by
 intro K args pre r h
 unfold Kb at h
 split at h
 ·rename_i g
  simp only[ax]at h
  subst h
  exact aeX _ _ _ _ g
 ·exact ajA _ _ _ _ h
theorem MF:aR P Fi ql (az ql):=aS Proofs.Tryz.func99 ag ag ag
def dS (k:Nat->Rat) (n:Nat) (t:Rat):Nat->Nat->Rat
 |0=>k
 |r+1=>cW (dS k n t r) t (bJ (n+r) (dS k n t r) t+1)
def Ll:Spec:=cI (kC (kL 2000) (kC (fL 2000) kN)) (fun a=>bD (gl a.1.2 a.2.1 (fz a.1.2 a.2.1 a.1.1)) (a.1.1+1) 2000) fun a=>[a.1.1<2^40,∀i,i<a.1.1+1->Sz (gl a.1.2 a.2.1 (fz a.1.2 a.2.1 a.1.1) i) 2000]
def lV:aX:=nG::(u9,CN)::(vF,Ll)::(xT,Gv)::(pA,Kb)::fQ
abbrev uq:Code:=az ql
abbrev Br:Code:=part uq [1]
abbrev AA:Code:=part Br [1,0,1,0,0]
abbrev z8:Code:=part AA [1,1,0,0]
abbrev sr:Code:=part uq [1,1,1]
abbrev sR:Code:=part sr [1,1,1,1,1,1]
abbrev qK:au:=⟨false,true,3,1,fun _=>.agg [.int .i64 0,.nil,.nil]⟩
abbrev qn (c:Cu):au:=⟨false,true,3,1,fun _=>dI c 2000 4000⟩
abbrev CZ:List Nat:=[3,4,5,6]
abbrev Ya (a b:Rat):List AV:=[.ptr 0 0 3 0 [],.br (.rat a 2000),.br (.rat b 2000),.ptr 3 0 3 0 []]
abbrev afy (c:Cu) (a b:Rat):aF:=[(3,qK),(2,⟨false,false,3,1,fun _=>.rat b 2000⟩),(1,⟨false,false,3,1,fun _=>.rat a 2000⟩),(0,qn c)]
abbrev oX:List Nat:=[3,4,5,6,7,19,20]
abbrev vM (a b:Rat) (n:Nat) (k:Nat->Rat) (j:Nat):List AV:=[.ptr 0 0 3 0 [],.br (.rat a 2000),.br (.rat b 2000),.ptr 1 0 3 0 [],bD k n 2000,.agg [.rat a 2000,.rat b 2000],.int .i64 j]
abbrev wI (c:Cu):aF:=[(1,qK),(0,qn c)]
abbrev vR:List Nat:=[3,4,5,6,7,19,20,9,10]
abbrev yM (a b:Rat) (n:Nat) (k:Nat->Rat) (j:Nat) (e:Bool):List AV:=[.ptr 0 0 3 0 [],.br (.rat a 2000),.br (.rat b 2000),.ptr 1 0 3 0 [],bD k n 2000,.agg [.rat a 2000,.rat b 2000],.int .i64 j,.ptr 2 0 3 0 [],.bool e]
abbrev zR (c:Cu) (x:Rat):aF:=[(2,⟨false,true,3,1,fun _=>.rat x 2000⟩),(1,qK),(0,qn c)]
abbrev z7:List Nat:=[3,4,5,6,7,11,12,13,14,67,68]
abbrev HP (p:Int) (a b:Rat) (n:Nat) (k:Nat->Rat) (f l i:Nat):List AV:=[.ptr 0 0 3 0 [],.br (.rat a 2000),.br (.rat b 2000),.ptr 1 0 3 0 [],bD k n 2000,.ptr 2 0 3 0 [],.ptr 3 0 3 0 [],.int .i64 ((f:Int)-1),.int .i64 l,.int .i64 (p+1),.int .i64 i]
abbrev wj (c D:Cu) (x:Nat->Rat) (i:Nat):aF:=[(4,zl 2000 i x),(3,⟨false,true,3,1,fun _=>.agg [.int .i64 c.p,.own 4 3 0 i,.nil]⟩),(2,⟨false,true,3,1,fun _=>dI D sK sB⟩),(1,qK),(0,qn c)]
abbrev yX:List Nat:=[3,5,6,11,12,13,14,88,89]
abbrev H6 (p:Int) (b:Rat) (f l i:Nat):List AV:=[.ptr 0 0 3 0 [],.br (.rat b 2000),.ptr 1 0 3 0 [],.ptr 2 0 3 0 [],.ptr 3 0 3 0 [],.int .i64 ((f:Int)-1),.int .i64 l,.int .i64 (p+1),.int .i64 i]
def pK (p:Nat) (a b:Rat) (k:Nat->Rat) (f l q:Nat):Rat:=if q<p+1 then a else if q<p+1+(l-f)then k (f+(q-(p+1)))else b
def zn (D:Cu) (a b:Rat) (f l:Nat):Cu:=⟨D.p,D.p.toNat+1+(l-f)+(D.p.toNat+1),pK D.p.toNat a b D.k f l,l-(f-1-D.p.toNat),fun q=>D.f (f-1-D.p.toNat+q)⟩
theorem ajK {c:Cu} {a b:Rat}:aI T lV [] 60 CZ (before uq [1]) ⟨aP 0 [dI c 2000 4000,.rat a 2000,.rat b 2000],[],0⟩=
  let c3:AV:=rat b 2000;let c2:AV:=rat a 2000;let c1:Nat:=(bt (dI c 2000 4000)).size;some (leaf normal ([ptr 0 0 c1 0 [],ptr 4096 0 (bt c2).size 0 [],ptr 8192 0 (bt c3).size 0 [],ptr 12288 0 3 0 []],[((12288:Nat),aQ fun x=>agg [int i64 0,nil,nil]),(8192,au.mk false true (bt c3).size 1 fun x=>c3),(4096,au.mk false true (bt c2).size 1 fun x=>c2),(0,au.mk false true c1 1 fun x=>agg [int i64 c.p,ak 3 c.n fun i=>rat (c.k i) 2000,ak 12 c.m fun i=>bG (c.f i) 4000])])):=ag
theorem aje {c:Cu} {a b:Rat}:aI T lV [] 60 oX (before Br [1,0,1]) ⟨aE CZ (Ya a b),afy c a b,4⟩=
  let c1:AV:=ak 3 c.n fun i=>rat (c.k i) 2000;some (aj [(0:Nat)<1] (leaf normal ([ptr 0 0 3 0 [],(rat a 2000).br,(rat b 2000).br,ptr 3 0 3 0 [],c1,agg [rat a 2000,rat b 2000],int i64 0],[((3:Nat),aQ fun x=>agg [int i64 0,nil,nil]),((0:Nat),aQ fun x=>agg [int i64 c.p,c1,ak 12 c.m fun i=>bG (c.f i) 4000])]))):=ag
theorem akT {c:Cu} {a b:Rat} {n j:Nat} {k:Nat->Rat}:aI T lV [21] 60 oX (before AA [1,1,0]) ⟨aE oX (vM a b n k j),wI c,2⟩=
  let c1:List AV×aF:=([ptr 0 0 3 0 [],(rat a 2000).br,(rat b 2000).br,ptr 1 0 3 0 [],ak 3 n fun i=>rat (k i) 2000,agg [rat a 2000,rat b 2000],int i64 (↑j:Int)],[((1:Nat),aQ fun x=>agg [int i64 0,nil,nil]),((0:Nat),aQ fun x=>agg [int i64 c.p,ak 3 c.n fun i=>rat (c.k i) 2000,ak 12 c.m fun i=>bG (c.f i) 4000])]);some (fork (decide ((↑j:Int)<(2:Int))) (leaf normal c1) (leaf (exit 0) c1)):=ag
theorem aeB {c:Cu} {a b:Rat} {n:Nat} {k:Nat->Rat}:aI T lV [28] 60 vR (before z8 [1,1]) ⟨aE oX (vM a b n k 0),wI c,2⟩=
  let c12:AV:=int i64 0;let c11:AV:=ptr 1 0 3 0 [];let c10:AV:=ak 3 n fun i=>rat (k i) 2000;let c9:AV:=ptr 0 0 3 0 [];let c8:AV:=rat b 2000;let c7:AV:=ptr 4098 0 3 0 [];let c6:Prop:=0<1;let c5:AV:=rat a 2000;let c4:Int:=(↑n:Int)-(1:Int);let c3:Nat:=Int.toNat (0:Int);let c2:Prop:=2000<2^42;let c14:Prop:=(0:Int)<=(0:Int)/\c3<n;let c13:Bool:=decide (a=k c3);let c1:List (Nat×au):=[((4098:Nat),aQ fun j=>if(j==0)=true then bt c5 else rat 0 1),((1:Nat),aQ fun x=>agg [c12,nil,nil]),((0:Nat),aQ fun x=>agg [int i64 c.p,ak 3 c.n fun i=>rat (c.k i) 2000,ak 12 c.m fun i=>bG (c.f i) 4000])];some (aj [(0:Int)<=(↑(0:Nat):Int)/\(↑(0:Nat):Int)<(↑(2:Nat):Int),c6] (fork c13 (aj [c6,c14,c2,c2,c13=true] (leaf normal ([c9,c5.br,c8.br,c11,c10,agg [c5,c8],c12,c7,AV.bool true],c1))) (aj [c6,c14,c2,c2,c13=false,c6,-(2:Int)^63<=c4/\c4<(2:Int)^63,(0:Int)<=c4/\c4.toNat<n,c2,c2] (leaf normal ([c9,c5.br,c8.br,c11,c10,agg [c5,c8],c12,c7,AV.bool (bif false then true else decide (a=k c4.toNat))],c1))))):=ag
theorem Y5 {c:Cu} {a b:Rat} {n:Nat} {k:Nat->Rat}:aI T lV [28] 60 vR (before z8 [1,1]) ⟨aE oX (vM a b n k 1),wI c,2⟩=
  let c11:AV:=ptr 1 0 3 0 [];let c10:AV:=ak 3 n fun i=>rat (k i) 2000;let c9:AV:=ptr 0 0 3 0 [];let c8:AV:=rat a 2000;let c7:AV:=ptr 4098 0 3 0 [];let c6:Prop:=0<1;let c5:AV:=rat b 2000;let c4:Int:=(↑n:Int)-(1:Int);let c3:Nat:=Int.toNat (0:Int);let c2:Prop:=2000<2^42;let c13:Prop:=(0:Int)<=(0:Int)/\c3<n;let c12:Bool:=decide (b=k c3);let c1:List (Nat×au):=[((4098:Nat),aQ fun j=>if(j==0)=true then bt c5 else rat 0 1),((1:Nat),aQ fun x=>agg [int i64 0,nil,nil]),((0:Nat),aQ fun x=>agg [int i64 c.p,ak 3 c.n fun i=>rat (c.k i) 2000,ak 12 c.m fun i=>bG (c.f i) 4000])];some (aj [(0:Int)<=(↑(1:Nat):Int)/\(↑(1:Nat):Int)<(↑(2:Nat):Int),c6] (fork c12 (aj [c6,c13,c2,c2,c12=true] (leaf normal ([c9,c8.br,c5.br,c11,c10,agg [c8,c5],int i64 1,c7,AV.bool true],c1))) (aj [c6,c13,c2,c2,c12=false,c6,-(2:Int)^63<=c4/\c4<(2:Int)^63,(0:Int)<=c4/\c4.toNat<n,c2,c2] (leaf normal ([c9,c8.br,c5.br,c11,c10,agg [c8,c5],int i64 1,c7,AV.bool (bif false then true else decide (b=k c4.toNat))],c1))))):=ag
theorem afv {c:Cu} {a b x:Rat} {n j:Nat} {k:Nat->Rat} {e:Bool}:aI T lV [40,47] 60 vR [part z8 [1,1,0,0]] ⟨aE vR (yM a b n k j e),zR c x,3⟩=
  let c11:Prop:=n<2^40;let c10:AV:=rat a 2000;let c9:AV:=rat b 2000;let c8:Prop:=0<1;let c7:AV:=ptr 1 0 3 0 [];let c6:AV:=ptr 0 0 3 0 [];let c5:Int:=(↑(bu (fun i=>aV (rat (k i) 2000)) x n):Int);let c1:List (Nat×au):=[((2:Nat),aQ fun x_1=>rat x 2000),((1:Nat),aQ fun x=>agg [int i64 0,nil,nil]),((0:Nat),aQ fun x=>agg [int i64 c.p,ak 3 c.n fun i=>rat (c.k i) 2000,ak 12 c.m fun i=>bG (c.f i) 4000])];let c4:List AV:=[agg [c10,c9],int i64 (↑j:Int),ptr 2 0 3 0 [],AV.bool e];let c3:ah (List AV×aF):=leaf (exit 2) (c6::c10.br::c9.br::c7::(ak 3 n fun i=>rat (k i) 2000)::c4,c1);let c2:ah (List AV×aF):=aj [c8,bT (fun i=>rat (k i) 2000) n 2000,(2000:Nat)<=2000,c11,∀(i:Nat),i<n+1->Sz (gl (fun i=>aV (rat (k i) 2000)) x (fz (fun i=>aV (rat (k i) 2000)) x n) i) 2000] (leaf normal (c6::c10.br::c9.br::c7::(ak 3 (n+1) fun i=>rat (gl (fun i=>aV (rat (k i) 2000)) x (fz (fun i=>aV (rat (k i) 2000)) x n) i) 2000)::c4,c1));some (fork (!e) (aj [(!e)=true,c8,bT (fun i=>rat (k i) 2000) n sK,(2000:Nat)<=sK,c11,c8] (fork (bif true then decide (c5<c.p)else false) c2 c3)) (aj [(!e)=false] (fork false c2 c3))):=ag
theorem aie {c:Cu} {a b x:Rat} {n j:Nat} {k:Nat->Rat} {e:Bool}:aI T lV [] 60 oX [part AA [1,1,1]] ⟨aE vR (yM a b n k j e),zR c x,3⟩=
  let c1:Int:=(↑j:Int)+(1:Int);some (aj [-(2:Int)^63<=c1/\c1<(2:Int)^63] (leaf normal ([ptr 0 0 3 0 [],(rat a 2000).br,(rat b 2000).br,ptr 1 0 3 0 [],ak 3 n fun i=>rat (k i) 2000,agg [rat a 2000,rat b 2000],int i64 c1],[((1:Nat),aQ fun x=>agg [int i64 0,nil,nil]),((0:Nat),aQ fun x=>agg [int i64 c.p,ak 3 c.n fun i=>rat (c.k i) 2000,ak 12 c.m fun i=>bG (c.f i) 4000])]))):=ag
theorem ae2 {c:Cu} {a b:Rat} {n j:Nat} {k:Nat->Rat}:aI T lV [] 60 z7 (before sr [1,1,1,1,1,0,1]) ⟨aE oX (vM a b n k j),wI c,2⟩=
  let c10:Prop:=2000<=2000;let c9:Int:=c.p+(1:Int);let c7:Nat:=eA (jI b fun i=>aV (rat (k i) 2000)) n;let c6:Prop:=bT (fun i=>rat (k i) 2000) n 2000;let c5:Nat:=2^40;let c4:Int:=(2:Int)^63;let c3:Prop:=0<1;let c2:AV:=agg [int i64 0,nil,nil];let c1:Nat:=eA (jO a fun i=>aV (rat (k i) 2000)) n;let c8:Int:=(↑c1:Int)-(1:Int);some (aj [c3,bT (fun i=>rat (c.k i) 2000) c.n sK,j5 (fun i=>bG (c.f i) 4000) c.m sK,bT (fun i=>rat (k i) 2000) n sK,Kn c.n c.p.toNat fun i=>aV (rat (c.k i) 2000),(1:Int)<=c.p,c.p<=(6:Int),c.n<c5,c.m<c5,n<2^29,c9<=(↑n:Int),c3] (aj [c3,c3] (aj [c6,c10,n<c5,c1<n,-c4<=c8/\c8<c4] (aj [c6,c10,n<c5,c7<n] (aj [c3,-c4<=c9/\c9<c4] (leaf normal ([ptr 0 0 3 0 [],(rat a 2000).br,(rat b 2000).br,ptr 1 0 3 0 [],ak 3 n fun i=>rat (k i) 2000,ptr 12290 0 3 0 [],ptr 20482 0 3 0 [],int i64 c8,int i64 (↑c7:Int),int i64 c9,int i64 0],[((20482:Nat),aQ fun j=>if(j==0)=true then agg (c2.kids.set 0 (bt (int i64 c.p)))else c2),((12290:Nat),aQ fun j=>if(j==0)=true then bt (dI (lW (Cu.mk c.p c.n (fun i=>aV (rat (c.k i) 2000)) c.m fun i=>sD (bG (c.f i) 4000)) n fun i=>aV (rat (k i) 2000)) sK sB)else c2),((1:Nat),aQ fun x=>c2),((0:Nat),aQ fun x=>agg [int i64 c.p,ak 3 c.n fun i=>rat (c.k i) 2000,ak 12 c.m fun i=>bG (c.f i) 4000])]))))))):=ag
theorem adW {c D:Cu} {a b:Rat} {n f l i:Nat} {k x:Nat->Rat}:aI T lV [69] 60 z7 [part sr [1,1,1,1,1,0,1,0,0]] ⟨aE z7 (HP c.p a b n k f l i),wj c D x i,5⟩=
  let c13:Int:=(↑i:Int);let c12:AV:=(rat b 2000).br;let c11:AV:=int i64 ((↑f:Int)-(1:Int));let c10:AV:=rat a 2000;let c9:Int:=c.p+(1:Int);let c7:AV:=ptr 2 0 3 0 [];let c6:AV:=ptr 3 0 3 0 [];let c5:AV:=ptr 1 0 3 0 [];let c4:AV:=ak 3 n fun i=>rat (k i) 2000;let c3:AV:=ptr 0 0 3 0 [];let c2:AV:=agg [int i64 c.p,own 4 3 0 i,nil];let c1:List (Nat×au):=[((2:Nat),aQ fun x=>agg [int i64 D.p,ak 3 D.n fun i=>rat (D.k i) 4096,ak 12 D.m fun i=>bG (D.f i) 536870912]),((1:Nat),aQ fun x=>agg [int i64 0,nil,nil]),((0:Nat),aQ fun x=>agg [int i64 c.p,ak 3 c.n fun i=>rat (c.k i) 2000,ak 12 c.m fun i=>bG (c.f i) 4000])];let c8:Int:=c13+(1:Int);some (fork (decide (c13<c9)) (aj [(0:Nat)<1,(1:Nat)*3<=2^24,(i+1)*((56:Nat)+1)*2<=2^47,(0:Nat)<1] (aj [-(2:Int)^63<=c8/\c8<(2:Int)^63] (leaf normal ([c3,c10.br,c12,c5,c4,c7,c6,c11,int i64 (↑l:Int),int i64 c9,int i64 c8],(20485,au.mk true true 3 (i+1) fun i_1=>if i_1<i then rat (x i_1) 2000 else nth [c10] (rat 0 1) (i_1-i+0))::((3:Nat),aQ fun j=>if(j==0)=true then agg (c2.kids.set 1 (bt (own (nat_lit 20484+1) 3 0 (i+1))))else c2)::c1)))) (leaf (exit 4) ([c3,c10.br,c12,c5,c4,c7,c6,c11,int i64 (↑l:Int),int i64 c9,int i64 c13],(4,au.mk true true 3 i fun i=>rat (x i) 2000)::((3:Nat),aQ fun x=>c2)::c1))):=ag
theorem Vs {c D:Cu} {a b:Rat} {n f l i:Nat} {k x:Nat->Rat}:aI T lV [] 60 yX (before sR [1,0,1]) ⟨aE z7 (HP c.p a b n k f l i),wj c D x i,5⟩=
  let c7:Int:=c.p+(1:Int);let c6:Prop:=0<1;let c5:Int:=(↑l:Int);let c4:AV:=agg [int i64 c.p,own 4 3 0 i,nil];let c3:Int:=(2:Int)^63;let c1:Int:=(↑f:Int)-(1:Int)+(1:Int);let c2:Nat:=i+(c5.toNat-c1.toNat);some (aj [c6,-c3<=c1/\c1<c3,(0:Int)<=c1/\c1<=c5/\c5<=c5/\c5<=(↑n:Int),c2*((56:Nat)+1)*2<=2^47,c6] (aj [c6,-c3<=c7/\c7<c3] (leaf normal ([ptr 0 0 3 0 [],(rat b 2000).br,ptr 1 0 3 0 [],ptr 2 0 3 0 [],ptr 3 0 3 0 [],int i64 ((↑f:Int)-(1:Int)),int i64 c5,int i64 c7,int i64 0],[(28677,au.mk true true 3 c2 fun i_1=>if i_1<i then rat (x i_1) 2000 else rat (k (i_1-i+c1.toNat)) 2000),((3:Nat),aQ fun j=>if(j==0)=true then agg (c4.kids.set 1 (bt (own (nat_lit 28676+1) 3 0 c2)))else c4),((2:Nat),aQ fun x=>agg [int i64 D.p,ak 3 D.n fun i=>rat (D.k i) 4096,ak 12 D.m fun i=>bG (D.f i) 536870912]),((1:Nat),aQ fun x=>agg [int i64 0,nil,nil]),((0:Nat),aQ fun x=>agg [int i64 c.p,ak 3 c.n fun i=>rat (c.k i) 2000,ak 12 c.m fun i=>bG (c.f i) 4000])])))):=ag
theorem anc {c D:Cu} {b:Rat} {f l i m:Nat} {x:Nat->Rat}:aI T lV [90] 60 yX [part sR [1,0,1,0,0]] ⟨aE yX (H6 c.p b f l i),wj c D x m,5⟩=
  let c11:Int:=(↑i:Int);let c10:AV:=int i64 ((↑f:Int)-(1:Int));let c9:AV:=rat b 2000;let c8:Int:=c.p+(1:Int);let c6:AV:=ptr 2 0 3 0 [];let c5:AV:=ptr 3 0 3 0 [];let c4:AV:=ptr 1 0 3 0 [];let c3:AV:=ptr 0 0 3 0 [];let c2:AV:=agg [int i64 c.p,own 4 3 0 m,nil];let c1:List (Nat×au):=[((2:Nat),aQ fun x=>agg [int i64 D.p,ak 3 D.n fun i=>rat (D.k i) 4096,ak 12 D.m fun i=>bG (D.f i) 536870912]),((1:Nat),aQ fun x=>agg [int i64 0,nil,nil]),((0:Nat),aQ fun x=>agg [int i64 c.p,ak 3 c.n fun i=>rat (c.k i) 2000,ak 12 c.m fun i=>bG (c.f i) 4000])];let c7:Int:=c11+(1:Int);some (fork (decide (c11<c8)) (aj [(0:Nat)<1,(1:Nat)*3<=2^24,(m+1)*((56:Nat)+1)*2<=2^47,(0:Nat)<1] (aj [-(2:Int)^63<=c7/\c7<(2:Int)^63] (leaf normal ([c3,c9.br,c4,c6,c5,c10,int i64 (↑l:Int),int i64 c8,int i64 c7],(20485,au.mk true true 3 (m+1) fun i=>if i<m then rat (x i) 2000 else nth [c9] (rat 0 1) (i-m+0))::((3:Nat),aQ fun j=>if(j==0)=true then agg (c2.kids.set 1 (bt (own (nat_lit 20484+1) 3 0 (m+1))))else c2)::c1)))) (leaf (exit 6) ([c3,c9.br,c4,c6,c5,c10,int i64 (↑l:Int),int i64 c8,int i64 c11],(4,au.mk true true 3 m fun i=>rat (x i) 2000)::((3:Nat),aQ fun x=>c2)::c1))):=ag
theorem agF {c D:Cu} {b:Rat} {f l i m:Nat} {x:Nat->Rat}:cJ T lV [] 60 ql [part sR [1,1]] ⟨aE yX (H6 c.p b f l i),wj c D x m,5⟩=
  let c3:Int:=(↑l:Int);let c2:Prop:=0<1;let c1:Int:=(↑f:Int)-(1:Int)-c.p;some (aj [c2,c2,-(2:Int)^63<=c1/\c1<(2:Int)^63,(0:Int)<=c1/\c1<=c3/\c3<=c3/\c3<=(↑D.m:Int),c2] (aj [c2,c2] (aj [c2] (leaf ret [agg [int i64 c.p,ak 3 m fun i=>rat (x (i+0)) 2000,ak 12 (c3.toNat-c1.toNat) fun i=>bG (D.f (i+c1.toNat)) 536870912]])))):=ag
theorem ahT:∀K args pre r,Ll K args pre=some r->aD P vF K args pre r:=cL fun⟨⟨n,k⟩,t,_⟩ K hn=>by
 have h1:n<2^40:=hn.1
 have h2:∀i,i<n+1->Sz (gl k t (fz k t n) i) 2000:=hn.2
 exact FX (u:=bD (gl k t (fz k t n)) (n+1) 2002) (l:=[]) (L7 aY aY (by decide) h1 K) (fun h=>trivial) rfl rfl (fG fun i hi=>dc rfl (h2 i hi))
theorem yo:bq P lV:=dg (aH J6 (aH ahT (aH QJ (aH VB gm))))
structure B2 (n p:Nat) (k:Nat->Rat) (t:Rat) (r:Nat):Prop where
 kn:Kn (n+r) p (dS k n t r)
 tm:bu (dS k n t r) t (n+r)=bu k t n+r
 f0:dS k n t r 0=k 0
 fl:dS k n t r (n+r-1)=k (n-1)
 sd:∀i,dD (dS k n t r i)
theorem Lj {n p:Nat} {k:Nat->Rat} {t:Rat} (h:Kn n p k) (h0:k 0<t) (h1:t<k (n-1)) (kd:∀i,dD (k i)) (ht:dD t):∀{r:Nat},bu k t n+r<=p->B2 n p k t r
 |0,_=>⟨h,rfl,rfl,rfl,kd⟩
 |r+1,hr=>by
  obtain⟨a1,a2,a3,a4,a5⟩:=Lj h h0 h1 kd ht (r:=r) aa
  have g0:dS k n t r 0<t:=by rw[a3];exact h0
  have g1:t<dS k n t r (n+r-1):=by rw[a4];exact h1
  obtain⟨i1,i2,i3⟩:=mX a1 g0 g1
  have e:dS k n t (r+1)=cW (dS k n t r) t (bJ (n+r) (dS k n t r) t+1):=rfl
  generalize bJ (n+r) (dS k n t r) t=a at*
  generalize dS k n t r=K at*
  have tm:=IQ (k:=K) (t:=t) (q:=a+1) (m:=n+r-(a+1))
  rw[show a+1+1+(n+r-(a+1))=n+(r+1) by omega,show a+1+(n+r-(a+1))=n+r by omega]at tm
  have hK:=a1.cW g0 g1 i1 i2 i3 aa
  refine⟨?_,?_,?_,?_,?_⟩
  ·rw[e];exact hK
  ·rw[e,tm,a2];rfl
  ·rw[e,jd aa,a3]
  ·rw[e,show n+(r+1)-1=n+r by omega,jc aa,a4]
  ·rw[e];exact PE a5 ht
theorem B2.next {n p r:Nat} {k:Nat->Rat} {t:Rat} (h:B2 n p k t r) (h0:k 0<t) (h1:t<k (n-1)):gl (dS k n t r) t (fz (dS k n t r) t (n+r))=dS k n t (r+1):=by
 obtain⟨a1,a2,a3,a4,a5⟩:=h
 obtain⟨i1,i2,i3⟩:=mX a1 (by rw[a3];exact h0) (by rw[a4];exact h1)
 rw[GV a1.sorted i1 i2 i3];rfl
theorem Vz {c:Cu} {a b:Rat} {n f l j:Nat} {k:Nat->Rat} {cx:Ctx} {Q:aq->aJ->Prop} (hk:Kept [] cx) (hc:Kn c.n c.p.toNat c.k) (hp1:1<=c.p) (hp6:c.p<=6) (hcn:c.n<2^28) (hcm:c.m<2^28) (hn:n<2^28) (hpn:c.p+1<=n) (hf:eA (jO a k) n=f) (hl:eA (jI b k) n=l) (h1:c.p.toNat+1<=f) (h2:f<=l) (h3:l+c.p.toNat+1<=n)
  (hQ:∀e s',ep cx (Fin T ql (dI (zn (lW c n k) a b f l) sK sB)) e s'->Q e s'):ay P cx ql.ntmps sr ⟨aE oX (vM a b n k j),wI c,2⟩ Q:=by
 have hv:∀{rl:List (Nat×Nat)} {k x y y':Nat},bf rl k=some x->y=y'->gn rl (.agg [.int .i64 c.p,.own x 3 0 y,.nil]) (.agg [.int .i64 c.p,.own k 3 0 y',.nil]):=fun h e=>jg ⟨⟨rfl,aL rfl⟩,⟨rfl,cT h rfl e⟩,⟨rfl,aL rfl⟩,trivial⟩
 refine ay.ni hT yo hm (x:=sr) [1,1,1,1,1,0,1] (i:=4) (y:=part sr [1,1,1,1,1,0,1,0,0]) (z:=sR) ag ag ag ag hk (f1:=[]) (f2:=[69]) 60 z7 5
  (fun i:Nat=>HP c.p a b n k f l i) (fun i=>wj c (lW c n k) (fun _=>a) i) (fun i=>i<=c.p.toNat+1) (fun i=>i=c.p.toNat+1) (fun i=>c.p.toNat+1-i) (fun _=>False) ⟨_,ae2,?_⟩ (fun i hi=>⟨_,adW,?_⟩) (fun i hi=>?_) (fun _ _ h=>h.elim)
 ·have e1:eA (jO a fun i=>aV (rat (k i) 2000)) n=f:=hf
  have e2:eA (jI b fun i=>aV (rat (k i) 2000)) n=l:=hl
  simp only[ah.all,aA,e1,e2]
  refine⟨⟨aa,cz (by decide),nj (by decide),cz (by decide),hc,hp1,hp6,aa,aa,aa,hpn,aa⟩,⟨aa,aa⟩,⟨cz aY,aa,aa,aa,aa⟩,⟨cz aY,aa,aa,aa⟩,⟨aa,aa⟩,0,Nat.zero_le _,[(0,0),(1,1),(2,12290),(3,20482)],rfl,rfl,rfl,mA rfl aa aa (cD rfl rfl (jg ⟨⟨rfl,aL rfl⟩,⟨rfl,mW aa⟩,⟨rfl,aL rfl⟩,trivial⟩) (aM (aM (aM trivial))))⟩
 ·simp only[ah.all,aA,bh,bz,aZ]
  refine⟨fun h=>⟨⟨aa,aa,aa,aa⟩,aa,i+1,aa,by dsimp only;omega,[(0,0),(1,1),(2,2),(3,3),(4,20485)],rfl,rfl,rfl,bZ rfl rfl rfl (fun q hq=>pI (y:=fun _=>a) (fun _ _=>rfl) rfl aY aY hq) (cD rfl rfl (hv rfl rfl) (aM (aM (aM trivial))))⟩,fun h=>⟨rfl,i,aa,[(0,0),(1,1),(2,2),(3,3),(4,4)],rfl,rfl,rfl,eG (cD rfl rfl (hv rfl rfl) (aM (aM (aM trivial))))⟩⟩
 ·subst hi
  refine ay.ni hT yo hm (x:=sR) [1,0,1] (i:=6) (y:=part sR [1,0,1,0,0]) (z:=part sR [1,1]) ag ag ag ag hk (f1:=[]) (f2:=[90]) 60 yX 5
   (fun i:Nat=>H6 c.p b f l i) (fun i=>wj c (lW c n k) (pK c.p.toNat a b k f l) (c.p.toNat+1+(l-f)+i)) (fun i=>i<=c.p.toNat+1) (fun i=>i=c.p.toNat+1) (fun i=>c.p.toNat+1-i) (fun _=>False) ⟨_,Vs,?_⟩ (fun i hi=>⟨_,anc,?_⟩) (fun i hi=>?_) (fun _ _ h=>h.elim)
  ·simp only[ah.all,aA,aZ]
   have e1:((f:Int)-1+1).toNat=f:=aa
   simp only[e1]
   refine⟨⟨aa,aa,aa,aa,aa⟩,⟨aa,aa⟩,0,Nat.zero_le _,[(0,0),(1,1),(2,2),(3,3),(4,28677)],rfl,rfl,rfl,bZ rfl rfl rfl (fun q hq=>cQ (uV rfl rfl) ?_) (cD rfl rfl (hv rfl rfl) (aM (aM (aM trivial))))⟩
   have hq:q<c.p.toNat+1+(l-f)+0:=hq
   unfold pK
   by_cases c1:q<c.p.toNat+1
   ·rw[if_pos c1,if_pos c1]
   ·rw[if_neg c1,if_neg c1,if_pos aa,Nat.add_comm]
  ·simp only[ah.all,aA,bh,bz,aZ]
   refine⟨fun h=>⟨⟨aa,aa,aa,aa⟩,aa,i+1,aa,by dsimp only;omega,[(0,0),(1,1),(2,2),(3,3),(4,20485)],rfl,rfl,rfl,bZ rfl rfl rfl (fun q hq=>pI (y:=pK c.p.toNat a b k f l) (fun _ _=>rfl) ?_ aY aY hq) (cD rfl rfl (hv rfl rfl) (aM (aM (aM trivial))))⟩,fun h=>⟨rfl,i,aa,[(0,0),(1,1),(2,2),(3,3),(4,4)],rfl,rfl,rfl,eG (cD rfl rfl (hv rfl rfl) (aM (aM (aM trivial))))⟩⟩
   unfold pK
   rw[if_neg aa,if_neg aa]
  ·subst hi
   refine ay.m8 ((aG.fin hT yo hm 60 agF ag ?_).mono fun _ _ h=>hQ _ _ (.inl h))
   simp only[ah.all,aA,aZ]
   have e1:((f:Int)-1-c.p).toNat=f-1-c.p.toNat:=aa
   have e2:(lW c n k).m=n-c.p.toNat-1:=rfl
   simp only[e1,e2]
   refine⟨⟨aa,aa,aa,aa,aa⟩,⟨aa,aa⟩,aa,ct ⟨.refl _,fG fun i hi=>bX rfl (by decide),oQ rfl fun i _=>?_,trivial⟩⟩
   show bG (mJ c n k (i+(f-1-c.p.toNat))) sB=bG (mJ c n k (f-1-c.p.toNat+i)) sB
   rw[Nat.add_comm]
def fC (w R j:Nat):Nat:=if w<j then R else 0
set_option maxHeartbeats 1000000 in
theorem RP {c:Cu} {a b t:Rat} {w R f l:Nat} (hc:Kn c.n c.p.toNat c.k) (hp1:1<=c.p) (hp6:c.p<=6) (hcn:c.n<2^27) (hcm:c.m<2^28) (kd:∀i,dD (c.k i)) (ht:dD t) (h0:c.k 0<t) (h1:t<c.k (c.n-1)) (hR:bu c.k t c.n+R=c.p.toNat)
  (hab:w=1/\a=c.k 0/\b=t\/w=0/\a=t/\b=c.k (c.n-1)) (hf:eA (jO a (dS c.k c.n t R)) (c.n+R)=f) (hl:eA (jI b (dS c.k c.n t R)) (c.n+R)=l) (g1:c.p.toNat+1<=f) (g2:f<=l) (g3:l+c.p.toNat+1<=c.n+R) (K:Nat):
  aD P Fi K [dI c 2000 4000,.rat a 2000,.rat b 2000] [] (aK (dI (zn (lW c (c.n+R) (dS c.k c.n t R)) a b f l) sK sB) []):=by
 refine iP (r:=aK (dI (zn (lW c (c.n+R) (dS c.k c.n t R)) a b f l) sK sB) []) hT MF rfl aW rfl (fun _ cx h00=>?_) K []
 have hk:=qw h00
 have hl4:=hc.len
 refine ay.hole [1] ag (aG.bB hT yo hm 60 CZ ajK (nX MF.dst) ?_)
 intro s' hs'
 show ay _ _ _ (part uq [1]) s' _
 rw[show behind uq [1]=[]from by kernel_rfl]
 refine ay.kO (s2:=⟨aE CZ [.ptr 0 0 3 0 [],.ptr 1 0 3 0 [],.ptr 2 0 3 0 [],.ptr 3 0 3 0 []],[(3,qK),(2,tP b 2000),(1,tP a 2000),(0,qn c)],4⟩) (ej.le ⟨[(0,0),(1,4096),(2,8192),(3,12288)],rfl,rfl,rfl,aM (aM (aM (aM trivial)))⟩ hs' hk)
  ((?_:ay P cx ql.ntmps (part uq [1]) _ (ep cx (Fin T ql (dI (zn (lW c (c.n+R) (dS c.k c.n t R)) a b f l) sK sB)))).mono fun e s' h=>by cases e<;>exact h)
 refine ay.RS (t:=4) (k:=1) rfl rfl rfl rfl rfl ?_
 refine ay.RS (t:=5) (k:=2) rfl rfl rfl rfl rfl ?_
 have hx:∀{j:Nat},w=j->(if j=0 then a else b)=t:=fun {j} h=>by
  subst h
  rcases hab with⟨rfl,_,hb⟩|⟨rfl,ha,_⟩
  ·exact hb
  ·exact ha
 have hx2:∀{j:Nat},j<2->w≠j->(if j=0 then a else b)=c.k 0\/(if j=0 then a else b)=c.k (c.n-1):=fun {j} hj h=>by
  rcases hab with⟨rfl,ha,_⟩|⟨rfl,_,hb⟩
  ·left;rw[show j=0 by omega];exact ha
  ·right;rw[show j=1 by omega];exact hb
 have hK:∀{r:Nat},r<=R->B2 c.n c.p.toNat c.k t r:=fun {r} hr=>Lj hc h0 h1 kd ht aa
 have hrr:∀{j:Nat},fC w R j<=R:=fun {j}=>by unfold fC;split<;>omega
 refine ay.Py hT yo hm (x:=Br) (y:=AA) (x1:=z8) (zb:=part AA [1,1,1]) (y2:=part z8 [1,1,0,0]) [1,0,1] (i:=0) ag ag ag [1,1,0] (j:=1) ag ag ag [1,1] (i2:=2) ag ag rfl hk (f1:=[]) (f2:=[21]) (f3:=[28]) (f4:=[40,47]) (f5:=[]) 60 oX vR 2 3
  (fun j:Nat=>vM a b (c.n+fC w R j) (dS c.k c.n t (fC w R j)) j) (fun _=>wI c) (fun j=>j<=2) (fun j=>j=2) (fun j=>2-j) (fun j=>j<2) (fun _=>False) (fun _=>False)
  (fun j (q:Nat×Bool)=>yM a b (c.n+q.1) (dS c.k c.n t q.1) j q.2) (fun j _=>zR c (if j=0 then a else b)) (fun j q=>q.2=false/\w=j/\q.1<=R\/q.2=true/\w≠j/\q.1=fC w R j) (fun j q=>q.1=fC w R (j+1)) (fun _ q=>R-q.1)
  ⟨_,aje,?_⟩ (fun j hj=>⟨_,akT,?_⟩) (fun j hj hG=>?_) (fun j hj hG q hq=>⟨_,afv,?_⟩) (fun j hj hG q hq=>⟨_,aie,?_⟩) (fun j s' hj hle=>?_) (fun _ _ h=>h.elim) (fun _ _ h=>h.elim)
 ·simp only[ah.all,aA]
  exact⟨aa,0,Nat.zero_le _,[(0,0),(1,3)],rfl,rfl,rfl,aM (aM trivial)⟩
 ·simp only[ah.all,aA,bh,bz]
  exact⟨fun h=>⟨aa,[(0,0),(1,1)],rfl,rfl,rfl,aM (aM trivial)⟩,fun h=>⟨rfl,j,aa,[(0,0),(1,1)],rfl,rfl,rfl,aM (aM trivial)⟩⟩
 ·have hG:j<2:=hG
  rcases(show j=0\/j=1 by omega)with rfl|rfl
  ·refine⟨_,aeB,?_⟩
   have z1:w=0->a=t:=hx (j:=0)
   have z2:w≠0->a=c.k 0\/a=c.k (c.n-1):=hx2 (j:=0) aa
   have h:=hK (hrr (j:=0))
   have hR:=hrr (j:=0)
   have e1:((c.n+fC w R 0:Nat)-1:Int).toNat=c.n+fC w R 0-1:=aa
   simp only[ah.all,aA,bh,bz,cond_false,Int.toNat_zero,e1]
   refine⟨⟨aa,aa⟩,fun g=>⟨⟨aa,aa,aa,aa,g⟩,(fC w R 0,true),.inr ⟨rfl,fun e=>?_,rfl⟩,[(0,0),(1,1),(2,4098)],rfl,rfl,rfl,aM (aM (aM trivial))⟩,fun g=>⟨⟨aa,aa,aa,aa,g,aa,aa,aa,aa,aa⟩,?_⟩⟩
   ·rw[h.f0,z1 e]at g
    rw[g]at h0
    exact Rat.lt_irrefl h0
   ·by_cases e:w=0
    ·have e2:decide (a=dS c.k c.n t (fC w R 0) (c.n+fC w R 0-1))=false:=decide_eq_false fun g2=>by
      rw[h.fl,z1 e]at g2
      rw[g2]at h1
      exact Rat.lt_irrefl h1
     rw[e2]
     exact⟨(fC w R 0,false),.inl ⟨rfl,e,hR⟩,[(0,0),(1,1),(2,4098)],rfl,rfl,rfl,aM (aM (aM trivial))⟩
    ·have e2:decide (a=dS c.k c.n t (fC w R 0) (c.n+fC w R 0-1))=true:=decide_eq_true (by
      rw[h.fl]
      exact(z2 e).resolve_left fun g2=>g (by rw[h.f0];exact g2))
     rw[e2]
     exact⟨(fC w R 0,true),.inr ⟨rfl,e,rfl⟩,[(0,0),(1,1),(2,4098)],rfl,rfl,rfl,aM (aM (aM trivial))⟩
  ·refine⟨_,Y5,?_⟩
   have z1:w=1->b=t:=hx (j:=1)
   have z2:w≠1->b=c.k 0\/b=c.k (c.n-1):=hx2 (j:=1) aa
   have h:=hK (hrr (j:=1))
   have hR:=hrr (j:=1)
   have e1:((c.n+fC w R 1:Nat)-1:Int).toNat=c.n+fC w R 1-1:=aa
   simp only[ah.all,aA,bh,bz,cond_false,Int.toNat_zero,e1]
   refine⟨⟨aa,aa⟩,fun g=>⟨⟨aa,aa,aa,aa,g⟩,(fC w R 1,true),.inr ⟨rfl,fun e=>?_,rfl⟩,[(0,0),(1,1),(2,4098)],rfl,rfl,rfl,aM (aM (aM trivial))⟩,fun g=>⟨⟨aa,aa,aa,aa,g,aa,aa,aa,aa,aa⟩,?_⟩⟩
   ·rw[h.f0,z1 e]at g
    rw[g]at h0
    exact Rat.lt_irrefl h0
   ·by_cases e:w=1
    ·have e2:decide (b=dS c.k c.n t (fC w R 1) (c.n+fC w R 1-1))=false:=decide_eq_false fun g2=>by
      rw[h.fl,z1 e]at g2
      rw[g2]at h1
      exact Rat.lt_irrefl h1
     rw[e2]
     exact⟨(fC w R 1,false),.inl ⟨rfl,e,hR⟩,[(0,0),(1,1),(2,4098)],rfl,rfl,rfl,aM (aM (aM trivial))⟩
    ·have e2:decide (b=dS c.k c.n t (fC w R 1) (c.n+fC w R 1-1))=true:=decide_eq_true (by
      rw[h.fl]
      exact(z2 e).resolve_left fun g2=>g (by rw[h.f0];exact g2))
     rw[e2]
     exact⟨(fC w R 1,true),.inr ⟨rfl,e,rfl⟩,[(0,0),(1,1),(2,4098)],rfl,rfl,rfl,aM (aM (aM trivial))⟩
 ·obtain⟨r,e⟩:=q
  have same:ej [] (yM a b (c.n+r) (dS c.k c.n t r) j e,zR c (if j=0 then a else b)) (yM a b (c.n+r) (dS c.k c.n t r) j e) (zR c (if j=0 then a else b)) 3:=⟨[(0,0),(1,1),(2,2)],rfl,rfl,rfl,aM (aM (aM trivial))⟩
  simp only[ah.all,aA,cond_true,bh,bz]
  rcases hq with⟨he,hw,hr⟩|⟨he,hw,hr⟩
  ·have he:e=false:=he
   have hr:r<=R:=hr
   subst he
   have xt:=hx hw
   have h:=hK hr
   have e1:(bu (fun i=>aV (rat (dS c.k c.n t r i) 2000)) t (c.n+r):Int)=((bu c.k t c.n+r:Nat):Int):=congrArg Nat.cast h.tm
   simp only[xt]at same ⊢
   have e2:gl (fun i=>aV (rat (dS c.k c.n t r i) 2000)) t (fz (fun i=>aV (rat (dS c.k c.n t r i) 2000)) t (c.n+r))=dS c.k c.n t (r+1):=h.next h0 h1
   simp only[e1,e2]
   refine⟨fun _=>⟨⟨rfl,aa,cz (by decide),by decide,aa,aa⟩,fun g=>⟨⟨aa,cz aY,aa,aa,fun i _=>((hK (r:=r+1) aa).sd i).sz.more (by decide)⟩,(r+1,false),.inl ⟨rfl,hw,show r+1<=R by omega⟩,show R-(r+1)<R-r by omega,[(0,0),(1,1),(2,2)],rfl,rfl,rfl,cD rfl rfl (cQ rfl ?_) (aM (aM trivial))⟩,fun g=>⟨rfl,(r,false),?_,?_⟩⟩,fun g=>absurd g (by decide)⟩
   ·rfl
   ·have g:¬((bu c.k t c.n+r:Nat):Int)<c.p:=g
    show r=fC w R (j+1)
    unfold fC
    rw[if_pos aa];omega
   ·exact same
  ·have he:e=true:=he
   have hr:r=fC w R j:=hr
   subst he
   refine⟨fun g=>absurd g (by decide),fun _=>⟨rfl,fun g=>absurd g (by decide),fun _=>⟨rfl,(r,true),?_,same⟩⟩⟩
   show r=fC w R (j+1)
   refine hr.trans ?_
   unfold fC
   by_cases c1:w<j
   ·rw[if_pos c1,if_pos aa]
   ·rw[if_neg c1,if_neg aa]
 ·have hG:j<2:=hG
  obtain⟨r,e⟩:=q
  have hq:r=fC w R (j+1):=hq
  subst hq
  simp only[ah.all,aA]
  exact⟨aa,j+1,aa,by dsimp only;omega,[(0,0),(1,1)],rfl,rfl,rfl,aM (aM trivial)⟩
 ·subst hj
  have e:fC w R 2=R:=by unfold fC;rw[if_pos (by rcases hab with⟨rfl,_⟩|⟨rfl,_⟩<;>omega)]
  simp only[e]at hle
  rw[show behind Br [1,0,1]=[sr]from by kernel_rfl]
  exact aG.weak rfl hle (aG.one (Vz hk hc hp1 hp6 aa hcm aa aa hf hl g1 g2 g3 fun _ _ h=>h))
theorem Xz:aR P Bd Bc (az Bc):=aS Proofs.Tryz.func187 ag ag ag
abbrev zz (z:Nat->Int):Nat->AV:=fun i=>.int .i64 (z i)
theorem am7 {x y:Int}:bS T GA [7] 60 Bc (az Bc) ⟨aP 0 [.int .i64 x,.int .i64 y],[],0⟩=
  let c3:List Prop:=[(0:Nat)<1];let c2:Int:=(2:Int)^63;let c1:Rat:=sQ (decide (x<(0:Int))!=decide (y<(0:Int))) x.natAbs y.natAbs;some (fork (y==(0:Int)) (aj c3 (aj c3 (leaf ret [agg [AV.bool false,mag 0,mag 0],int i64 3]))) (aj ((-c2<=x)::(x<c2)::(-c2<=y)::(y<c2)::(nl x.natAbs<2^40)::(nl y.natAbs<2^40)::c3) (aj c3 (leaf ret [rat c1 (cR c1),int i64 0])))):=ag
theorem akZ {x y:Int} (h1:-2^63<=x) (h2:x<2^63) (h3:-2^63<=y) (h4:y<2^63) (K:Nat):aD P Bd K [.int .i64 x,.int .i64 y] [] (aK (.tuple [.rat ((x:Rat)/(y:Rat)) 64,.int .i64 (if y=0 then 3 else 0)]) []):=by
 refine bY hT uu hm Xz rfl aW rfl 60 am7 (fun _=>?_) K []
 simp only[ah.all,aA,beq_iff_eq,beq_eq_false_iff_ne,ne_eq]
 refine⟨fun hb=>⟨aa,aa,?_,bN (by rw[if_pos hb]),trivial⟩,fun hb=>⟨⟨h1,h2,h3,h4,jW (n:=64) aa aa,jW (n:=64) aa aa,aa⟩,aa,dc (FP hb) (HF h1 h2 h3 h4 hb),bN (by rw[if_neg hb]),trivial⟩⟩
 rw[hb,show((x:Rat)/((0:Int):Rat))=0 by rw[Rat.intCast_zero,Rat.div_def,Rat.inv_zero,Rat.mul_zero]]
 exact mc
def Qr:Spec:=cI (kC kI (kC kI kN)) (fun a=>.tuple [.rat ((a.1:Rat)/(a.2.1:Rat)) 64,.int .i64 (if a.2.1=0 then 3 else 0)]) fun a=>[-2^63<=a.1,a.1<2^63,-2^63<=a.2.1,a.2.1<2^63]
theorem ajc:∀K args pre r,Qr K args pre=some r->aD P Bd K args pre r:=cL fun⟨x,y,_⟩ K hn=>akZ hn.1 hn.2.1 hn.2.2.1 hn.2.2.2 K
def bK (k:Nat->Rat) (n:Nat):Nat->Nat
 |0=>0
 |i+1=>bK k n i+if i+1=n\/k i≠k (i+1)then 1 else 0
def bg (k:Nat->Rat) (n:Nat):Nat->Nat->Rat
 |0,_=>0
 |i+1,q=>if q<i+bK k n i then bg k n i q else k i
section
variable {k:Nat->Rat} {n:Nat}
theorem tL {i:Nat} (h:i+1=n\/k i≠k (i+1)):bK k n (i+1)=bK k n i+1:=by rw[bK,if_pos h]
theorem wB {i:Nat} (h:¬(i+1=n\/k i≠k (i+1))):bK k n (i+1)=bK k n i:=by rw[bK,if_neg h];rfl
theorem oc {i:Nat}:bK k n i<=bK k n (i+1)/\bK k n (i+1)<=bK k n i+1:=by
 rw[bK];split<;>omega
theorem pH {i:Nat}:∀{j:Nat},i<=j->bK k n i<=bK k n j
 |0,h=>by rw[show i=0 by omega];exact Nat.le_refl _
 |j+1,h=>by
  by_cases e:i=j+1
  ·rw[e];exact Nat.le_refl _
  ·exact Nat.le_trans (pH (j:=j) (by omega)) oc.1
theorem yI:∀{i:Nat},bK k n i<=i
 |0=>Nat.le_refl _
 |i+1=>by have:=yI (i:=i);have:=(oc (k:=k) (n:=n) (i:=i)).2;omega
theorem BD {i:Nat}:∀{j:Nat},i<=j->(∀q,i<=q->q<j->¬(q+1=n\/k q≠k (q+1)))->bK k n j=bK k n i
 |0,h,_=>by rw[show i=0 by omega]
 |j+1,h,hq=>by
  by_cases e:i=j+1
  ·rw[e]
  ·rw[wB (hq j (by omega) (by omega)),BD (j:=j) (by omega) fun q h1 h2=>hq q h1 (by omega)]
theorem lf {i q:Nat}:∀{m:Nat},i<m->i+bK k n i<=q->q<i+1+bK k n (i+1)->bg k n m q=k i
 |0,h,_,_=>by omega
 |m+1,h,h1,h2=>by
  by_cases e:i=m
  ·subst e;rw[bg,if_neg (by omega)]
  ·have:=pH (k:=k) (n:=n) (show i+1<=m by omega)
   rw[bg,if_pos (by omega),lf (m:=m) (by omega) h1 h2]
theorem yT {Q:Nat}:∀{m:Nat},Q<m+bK k n m->∃i,i<m/\i+bK k n i<=Q/\Q<i+1+bK k n (i+1)
 |0,h=>by
    have:bK k n 0=0:=rfl
    omega
 |m+1,h=>by
  by_cases e:Q<m+bK k n m
  ·obtain⟨i,h1,h2,h3⟩:=yT e
   exact⟨i,by omega,h2,h3⟩
  ·exact⟨m,by omega,by omega,h⟩
theorem oW {p:Nat} (h:Kn n p k):Kn (n+bK k n n) (p+1) (bg k n n):=by
 have hp:=h.p1
 have hl:=h.len
 have src:∀{Q},Q<n+bK k n n->∃i,i<n/\i+bK k n i<=Q/\Q<i+1+bK k n (i+1)/\bg k n n Q=k i:=fun {Q} hQ=>by
  obtain⟨i,h1,h2,h3⟩:=yT hQ
  exact⟨i,h1,h2,h3,lf h1 h2 h3⟩
 have ord:∀{Q Q' i i'},Q<=Q'->i+bK k n i<=Q->Q'<i'+1+bK k n (i'+1)->i<=i':=fun {Q Q' i i'} hQ h1 h2=>by
  by_cases c:i<=i'
  ·exact c
  ·have:=pH (k:=k) (n:=n) (show i'+1<=i by omega)
   omega
 have dp:bK k n (p+1)=bK k n p+1:=by
  refine tL (.inr fun e=>?_)
  have m:=h.mult 1 (by omega) (by omega)
  rw[h.first 1 (by omega),show 1+p=p+1 by omega,<-e,h.first p (by omega)]at m
  exact Rat.lt_irrefl m
 have dl:bK k n n=bK k n (n-1)+1:=by
  have:=tL (k:=k) (n:=n) (i:=n-1) (.inl (by omega))
  rwa [show n-1+1=n by omega]at this
 have m1:=pH (k:=k) (n:=n) (show p+1<=n-1 by omega)
 have fl:bK k n (n-1)=bK k n (n-p-1):=BD (by omega) fun q h1 h2=>by
  rintro(e|e)
  ·omega
  ·exact e (by rw[h.last q (by omega) (by omega),h.last (q+1) (by omega) (by omega)])
 refine⟨by omega,by omega,fun Q hQ=>?_,fun Q hQ=>?_,fun Q h1 h2=>?_,fun Q h1 h2=>?_⟩
 ·obtain⟨i,a1,a2,a3,a4⟩:=src (Q:=Q) (by omega)
  obtain⟨j,b1,b2,b3,b4⟩:=src (Q:=Q+1) hQ
  rw[a4,b4]
  exact h.mono (ord (show Q<=Q+1 by omega) a2 b3) b1
 ·obtain⟨i,a1,a2,a3,a4⟩:=src (Q:=Q) (by omega)
  obtain⟨j,b1,b2,b3,b4⟩:=src (Q:=0) (by omega)
  have c1:=ord (i:=i) (i':=p) (Q:=Q) (Q':=p+1) (by omega) a2 (by omega)
  have c2:=ord (i:=j) (i':=p) (Q:=0) (Q':=p+1) (by omega) b2 (by omega)
  rw[a4,b4,h.first i c1,h.first j c2]
 ·obtain⟨i,a1,a2,a3,a4⟩:=src (Q:=Q) (by omega)
  obtain⟨j,b1,b2,b3,b4⟩:=src (Q:=n+bK k n n-1) (by omega)
  have c1:n<=i+p+1:=by
   by_cases c:n<=i+p+1
   ·exact c
   ·have:=pH (k:=k) (n:=n) (show i+1<=n-p-1 by omega)
    omega
  have c2:=ord (show Q<=n+bK k n n-1 by omega) a2 b3
  rw[a4,b4,h.last i c1 a1,h.last j (by omega) b1]
 ·obtain⟨i,a1,a2,a3,a4⟩:=src (Q:=Q) (by omega)
  obtain⟨j,b1,b2,b3,b4⟩:=src (Q:=Q+(p+1)) (by omega)
  have c1:=ord (show Q<=Q+(p+1) by omega) a2 b3
  have c2:=h.mono c1 b1
  rw[a4,b4]
  by_cases e:k i<k j
  ·exact e
  ·exfalso
   have e2:k i=k j:=by grind
   have flat:∀q,i<=q->q<j->¬(q+1=n\/k q≠k (q+1)):=fun q g1 g2=>by
    rintro(g|g)
    ·omega
    ·have u1:=h.mono g1 (by omega)
     have u2:=h.mono (show q<=q+1 by omega) (by omega)
     have u3:=h.mono (show q+1<=j by omega) b1
     exact g (by grind)
   have g1:=BD c1 flat
   have s1:=(oc (k:=k) (n:=n) (i:=i)).2
   have s2:=(oc (k:=k) (n:=n) (i:=j)).2
   have g2:i+p<=j/\Q=i+bK k n i:=by
    by_cases c:i<j
    ·have:=wB (flat i (Nat.le_refl _) c)
     omega
    ·omega
   have i0:1<=i:=by
    by_cases c:i=0
    ·subst c
     have:bK k n 0=0:=rfl
     omega
    ·omega
   have hj:i+p+1<n:=by
    by_cases c:i+p+1<n
    ·exact c
    ·have e3:j=n-1:=by omega
     subst e3
     omega
   have:=h.mult i i0 hj
   have:=h.mono g2.1 b1
   grind
theorem acG {i:Nat} (hi:i<n):bg k n n (i+bK k n i)=k i/\bg k n n (i+bK k n i+1)=(if i+1=n\/k i≠k (i+1)then k i else k (i+1)):=by
 refine⟨lf hi (Nat.le_refl _) (by have:=(oc (k:=k) (n:=n) (i:=i)).1;omega),?_⟩
 by_cases c:i+1=n\/k i≠k (i+1)
 ·rw[if_pos c,lf hi (by omega) (by rw[tL c];omega)]
 ·have hi2:i+1<n:=by
   by_cases e:i+1=n
   ·exact absurd (.inl e) c
   ·omega
  rw[if_neg c,lf (i:=i+1) hi2 (by rw[wB c];omega) (by have:=(oc (k:=k) (n:=n) (i:=i+1)).1;rw[wB c]at this;omega)]
end
end Go.Am.B
