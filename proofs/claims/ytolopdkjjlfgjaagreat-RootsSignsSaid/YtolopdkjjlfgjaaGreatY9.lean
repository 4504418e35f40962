/- ref05.Choose, ToPowers, Powers. -/
import Derived.Test.YtolopdkjjlfgjaaGreatY8
import Derived.Test.YtolopdkjjlfgjaaGreatY7
set_option linter.unusedVariables false
noncomputable section
namespace Go.Am.B
open Go Go.Am.N AV ag au IntKind Proofs.Tryz
def mR:bE:=zG::iH
def z6:bE:=zG::(46,DS)::iH
abbrev Ac:Code:=aK f91
abbrev zq:List Nat:=[0,1,4,5,6]
abbrev E8 (n k i:Nat):List AV:=[.int .i64 n,.int .i64 k,.ptr 0 0 3 0 [],.ptr 1 0 3 0 [],.int .i64 i]
abbrev Ex (x:Rat):aI:=[(1,tR x 64),(0,tR 0 1)]
def Cw:Spec:=cD fun l=>match l with
 |[.int .i64 n,.int .i64 k]=>some (aO (.rat ((bn n.toNat k.toNat:Int):Rat) 64) [0<=k,k<=n,n<=40])
 |_=>none
def uS:bE:=zG::(91,Cw)::iH
abbrev Bm:Code:=aK f123
abbrev Be:Code:=part Bm [1,1,1,1,0,1,0,0]
abbrev Bu:Code:=part Be [1,0,0]
abbrev uX:List Nat:=[3,4,5,6]
abbrev Ck (m k:Nat):List AV:=[.int .i64 m,.own 0 3 0 (m+1-k),.own 1 3 0 k,.int .i64 k]
abbrev zk:List Nat:=[3,4,5,6,7]
abbrev HS (m k i:Nat):List AV:=[.int .i64 m,.own 0 3 0 (m+1-k),.own 1 3 0 (k+1),.int .i64 k,.int .i64 i]
def Dg:bE:=zG::(123,BT)::iH
abbrev Ax:Code:=aK f61
abbrev oE:Code:=aK f151
theorem afz:bu 91 f91:=bC func91
theorem KO:bu 123 f123:=bC func123
theorem ZH:bu 61 f61:=bC func61
theorem FZ:bu 151 f151:=bC func151
theorem ahl {n k:Nat}:aL T z6 [] 60 zq (before Ac [1,1,0,1]) ⟨aZ 0 [.int .i64 n,.int .i64 k],[],0⟩=
  let a:=rat 0 1;some (aj [-(2:Int)^63<=(1:Int),(1:Int)<2^63,(0:Nat)<1] (leaf normal ([int i64 (↑n:Int),int i64 (↑k:Int),ptr 0 0 3 0 [],ptr 8192 0 3 0 [],int i64 0],[((8192:Nat),ij fun j=>if(j==0)=true then eE (rat (↑(1:Int):Rat) (Max.max 1 (ck (Int.natAbs (1:Int)))))else a),((0:Nat),ij fun x=>a)]))):=ah
theorem ai3 {n k i:Nat} {x:Rat}:aL T z6 [10] 60 zq [part Ac [1,1,0,1,0,0]] ⟨aH zq (E8 n k i),Ex x,2⟩=
  let f:=(↑k:Int);let e:=(↑i:Int);let m:=64<2^41;let l:=ptr 1 0 3 0 [];let h:=ptr 0 0 3 0 [];let g:Nat×aA:=((0:Nat),ij fun x=>rat 0 1);let a:=(2:Int)^63;let d:=(↑n:Int)-e;let b:=e+1;some (fork (decide (e<f)) (aj [(0:Nat)<1,-a<=d/\d<a,-a<=b/\b<a,-a<=d,d<a,-a<=b,b<a,m,m,(0:Nat)<1] (aj [-a<=b/\b<a] (leaf normal ([int i64 (↑n:Int),int i64 f,h,l,int i64 b],[((1:Nat),ij fun j=>if(j==0)=true then eE (IC (x,(64:Nat)) ((↑d:Rat)/(↑b:Rat),(64:Nat)))else rat x 64),g])))) (leaf (exit 0) ([int i64 (↑n:Int),int i64 f,h,l,int i64 e],[((1:Nat),ij fun x_1=>rat x 64),g]))):=ah
theorem Us {n k i:Nat} {x:Rat}:dc T z6 [] 60 f91 [part Ac [1,1,1]] ⟨aH zq (E8 n k i),Ex x,2⟩=
  let a:=0<1;some (aj [a,a] (aj [a] (leaf ret [rat x 64]))):=ah
theorem Va {m:Nat} {p:Nat->Rat}:aL T uS [] 60 uX (before Bm [1,1,1,1,0,1]) ⟨aZ 0 [bG p (m+1) af],[],0⟩=
  let b:=0+(m+1);let a:=(↑(m+1):Int)-1;some (aj [-(2:Int)^63<=a/\a<2^63] (aj [(0:Nat)*3<=2^24,b*((56:Nat)+1)*2<=2^47] (leaf normal ([int i64 a,own 28672 3 0 b,nil,int i64 0],[(28672,aA.mk true true 3 b fun i=>rat (p (i-0)) af)])))):=ah
theorem UO {m k:Nat} {d x:Nat->Rat}:aL T uS [16] 60 uX (before Be [1,0]) ⟨aH uX (Ck m k),l8 m d x k,2⟩=
  let a:List AV×aI:=([int i64 (↑m:Int),own 0 3 0 (m+1-k),own 1 3 0 k,int i64 (↑k:Int)],[(1,aA.mk true true 3 k fun i=>rat (x i) af),(0,aA.mk true true 3 (m+1) fun i=>rat (d i) af)]);some (fork (decide ((↑k:Int)<=(↑m:Int))) (leaf normal a) (leaf (exit 0) a)):=ah
theorem aaf {m k:Nat} {d x:Nat->Rat}:aL T uS [] 60 zk (before Bu [1,0,1]) ⟨aH uX (Ck m k),l8 m d x k,2⟩=
  let e:=(↑m:Int);let b:=(↑k:Int);let a:=m+1;let f:=Int.toNat (0:Int);some (aj [(0:Int)<=b,b<=e,e<=40,(0:Int)<=0/\f<a-k,f+0<a,(64:Nat)<2^41,af<2^41,(1:Nat)*3<=2^24,(k+1)*((56:Nat)+1)*2<=2^47] (leaf normal ([int i64 e,own 0 3 0 (a-k),own 36866 3 0 (k+1),int i64 b,int i64 0],[(36866,aA.mk true true 3 (k+1) fun i=>if i<k then rat (x i) af else nth [rat ((↑(↑(bn e.toNat b.toNat):Int):Rat)*d (f+0)) ((64:Nat)+af)] (rat 0 1) (i-k+0)),(0,aA.mk true true 3 a fun i=>rat (d i) af)]))):=ah
theorem aj7 {m k i:Nat} {d x:Nat->Rat}:aL T uS [33] 60 zk [part Bu [1,0,1,0,0]] ⟨aH zk (HS m k i),l8 m d x (k+1),2⟩=
  let e:=af<2^41;let g:=(↑i:Int);let n:=own 1 3 0 (k+1);let l:Nat×aA:=(1,aA.mk true true 3 (k+1) fun i=>rat (x i) af);let a:=m+1;let p:=own 0 3 0 (a-k);let o:=(0:Int)<=g/\g.toNat<a-k;let f:=g.toNat+0;let b:=g+1;let h:=-(2:Int)^63<=b/\b<2^63;some (aj [h] (fork (decide (b<(↑(a-k):Int))) (aj [h,(0:Int)<=b/\b.toNat<a-k,b.toNat+0<a,o,f<a,e,e,o,f<a] (aj [h] (leaf normal ([int i64 (↑m:Int),p,n,int i64 (↑k:Int),int i64 b],[l,(0,aA.mk true true 3 a fun j=>rat (bif j==f then d (b.toNat+0)-d f else d j) (bif j==f then af+af+1 else af))])))) (leaf (exit 2) ([int i64 (↑m:Int),p,n,int i64 (↑k:Int),int i64 g],[l,(0,aA.mk true true 3 a fun i=>rat (d i) af)])))):=ah
theorem ZJ {m k i:Nat} {d x:Nat->Rat}:aL T uS [] 60 uX (behind Bu [1,0,1]++[part Be [1,1]]) ⟨aH zk (HS m k i),l8 m d x (k+1),2⟩=
  let f:=(↑(m+1-k):Int);let e:=(↑k:Int)+1;let b:=(2:Int)^63;let a:=f-1;some (aj [-b<=a/\a<b,(0:Int)<=0/\(0:Int)<=a/\a<=a/\a<=f] (aj [-b<=e/\e<b] (leaf normal ([int i64 (↑m:Int),own 0 3 0 (a.toNat-Int.toNat (0:Int)),own 1 3 0 (k+1),int i64 e],[(1,aA.mk true true 3 (k+1) fun i=>rat (x i) af),(0,aA.mk true true 3 (m+1) fun i=>rat (d i) af)])))):=ah
theorem VE {m k:Nat} {d x:Nat->Rat}:dc T uS [] 60 f123 [part Bm [1,1,1,1,1]] ⟨aH uX (Ck m k),l8 m d x k,2⟩=
  some (leaf ret [aq 3 k fun i=>rat (x (i+0)) af]):=ah
theorem acs {n:Nat} {p:Nat->Rat}:aL T Dg [] 60 [3] (before Ax [1,1,0]) ⟨aZ 0 [bG p n af],[],0⟩=
  some (aj [cL (fun i=>rat (p i) af) n af,(1:Nat)<=n,n<=41,uJ n fun i=>aN (rat (p i) af)] (leaf normal ([aq 3 n fun i=>rat (fj n (fun i=>aN (rat (p i) af)) i) af],[]))):=ah
theorem Ub {n:Nat} {k:Nat->Rat}:aL T Dg [9,18] 60 [3] [part Ax [1,1,0,0,0]] ⟨aH [3] [bG k n af],[],0⟩=
  let e:=(↑n:Int);let b:=(2:Int)^63;let g:ag (List AV×aI):=leaf (exit 0) ([aq 3 n fun i=>rat (k i) af],[]);let d:=decide (e>0);let a:=e-1;let f:ag (List AV×aI):=aj [-b<=a/\a<b,(0:Int)<=0/\(0:Int)<=a/\a<=a/\a<=e] (leaf normal ([aq 3 (a.toNat-Int.toNat (0:Int)) fun i=>rat (k (i+Int.toNat (0:Int))) af],[]));some (fork d (aj [d=true,-b<=a/\a<b,(0:Int)<=a/\a.toNat<n,af<2^41] (fork (bif true then bK (k a.toNat)==0 else false) f g)) (aj [d=false] (fork false f g))):=ah
theorem ZQ {n:Nat} {k:Nat->Rat}:dc T Dg [] 60 f61 [part Ax [1,1,1]] ⟨aH [3] [bG k n af],[],0⟩=
  some (leaf ret [aq 3 n fun i=>rat (k i) af]):=ah
theorem Yd {n:Nat} {k:Nat->Rat}:aL T mR [] 60 [0] (before oE [1,0]) ⟨aZ 0 [bG k n af],[],0⟩=
  some (leaf normal ([aq 3 n fun i=>rat (k i) af],[])):=ah
theorem aba {n:Nat} {k:Nat->Rat}:aL T mR [6,15] 60 [0] [part oE [1,0,0,0]] ⟨aH [0] [bG k n af],[],0⟩=
  let e:=(↑n:Int);let b:=(2:Int)^63;let g:ag (List AV×aI):=leaf (exit 0) ([aq 3 n fun i=>rat (k i) af],[]);let d:=decide (e>0);let a:=e-1;let f:ag (List AV×aI):=aj [-b<=a/\a<b,(0:Int)<=0/\(0:Int)<=a/\a<=a/\a<=e] (leaf normal ([aq 3 (a.toNat-Int.toNat (0:Int)) fun i=>rat (k (i+Int.toNat (0:Int))) af],[]));some (fork d (aj [d=true,-b<=a/\a<b,(0:Int)<=a/\a.toNat<n,af<2^41] (fork (bif true then bK (k a.toNat)==0 else false) f g)) (aj [d=false] (fork false f g))):=ah
theorem SY {n:Nat} {k:Nat->Rat}:dc T mR [] 60 f151 [part oE [1,1]] ⟨aH [0] [bG k n af],[],0⟩=
  some (leaf ret [aq 3 n fun i=>rat (k i) af]):=ah
theorem zW:bY P mR:=iu iE
theorem H9:bY P z6:=iu (aM Ew iE)
theorem ajF {n i:Nat} (h:i<n):((bn n i:Int):Rat)*((((n:Int)-(i:Int):Int):Rat)/(((i:Int)+1:Int):Rat))=((bn n (i+1):Int):Rat):=by
 have h1:=Ce n i
 have h2:(((i:Int)+1:Int):Rat)≠0:=by
  intro h0
  have:((i:Int)+1:Int)=0:=by exact_mod_cast h0
  omega
 have h3:((bn n (i+1):Int):Rat)*(((i:Int)+1:Int):Rat)=((bn n i:Int):Rat)*(((n:Int)-(i:Int):Int):Rat):=by
  rw[<-Rat.intCast_mul,<-Rat.intCast_mul]
  congr 1
  have:((bn n (i+1)*(i+1):Nat):Int)=((bn n i*(n-i):Nat):Int):=by rw[Nat.mul_comm,h1,Nat.mul_comm]
  rw[Int.natCast_mul,Int.natCast_mul,Int.natCast_sub aa]at this
  exact this
 rw[Rat.div_def,<-Rat.mul_assoc,<-h3,Rat.mul_assoc,Rat.mul_inv_cancel _ h2,Rat.mul_one]
theorem Ua {n k:Nat} (hk0:k<=n) (hn:n<=40) (K:Nat):aW P 91 K [.int .i64 n,.int .i64 k] [] (aO (.rat ((bn n k:Int):Rat) 64) []):=by
 refine jA (r:=aO (.rat ((bn n k:Int):Rat) 64) []) hT H9 hm afz rfl bh rfl [1,1,0,1] (i:=0) (y:=part Ac [1,1,0,1,0,0]) (z:=part Ac [1,1,1]) ah ah ah (f1:=[]) (f2:=[10]) (f3:=[]) 60 zq 2
  (fun i:Nat=>E8 n k i) (fun i=>Ex ((bn n i:Int):Rat)) (fun i=>i<=k) (fun i=>i=k) (fun i=>k-i) (fun _=>⟨⟨_,ahl,?_⟩,fun i hi=>⟨_,ai3,?_⟩,fun i hi=>⟨_,Us,?_⟩⟩) K []
 ·simp only[ag.all,aC]
  exact⟨⟨aa,aa,aa⟩,0,Nat.zero_le _,[(0,0),(1,8192)],rfl,rfl,rfl,kg rfl rfl (.inr ⟨rfl,dG (by rw[sy];rfl) (by decide)⟩) (dD trivial)⟩
 ·have h1:=BH (n:=n) (k:=i+1) hn
  simp only[ag.all,aC,bI,bR]
  refine⟨fun h=>⟨⟨aa,aa,aa,aa,aa,aa,aa,aa,aa,aa⟩,aa,i+1,aa,by dsimp only;omega,[(0,0),(1,1)],rfl,by rw[show(i:Int)+1=((i+1:Nat):Int) by omega];rfl,rfl,kg rfl rfl (.inr ⟨rfl,eM (ajF aa) (AG (y:=0) aa aa)⟩) (dD trivial)⟩,fun h=>⟨rfl,i,aa,[(0,0),(1,1)],rfl,rfl,rfl,dD (dD trivial)⟩⟩
 ·subst hi
  simp only[ag.all,aC]
  exact⟨⟨aa,aa⟩,aa,.refl _⟩
theorem HH:bp P Cw 91:=by
 refine cZ fun K args r hk hs _=>?_
 split at hs
 ·rename_i n k
  simp only[aB]at hs
  subst hs
  intro hn
  have h1:0<=k:=hn.1
  have h2:k<=n:=hn.2.1
  have h3:n<=40:=hn.2.2
  have:=Ua (n:=n.toNat) (k:=k.toNat) aa aa K
  rw[Int.toNat_of_nonneg h1,Int.toNat_of_nonneg aa]at this
  exact this trivial
 ·simp at hs
theorem Lg:bY P uS:=iu (aM HH iE)
theorem akf {m:Nat} {p:Nat->Rat} (hm1:m<=40) (hz:uJ (m+1) p) (K:Nat):aW P 123 K [bG p (m+1) af] [] (aO (bG (fj (m+1) p) (m+1) af) []):=by
 refine jj (r:=aO (bG (fj (m+1) p) (m+1) af) []) hT KO rfl bh rfl (fun _ cx h0=>?_) K []
 have hk:=nr h0
 have hW:=cP
 have hd:∀k i,k+i<=m->Sz (gr p k i) af:=fun k i h=>hz.1 k i aa
 refine az.rI hT Lg hm (x:=Bm) [1,1,1,1,0,1] (i:=0) (y:=Be) (z:=part Bm [1,1,1,1,1]) ah ah ah KO.dst [1,0] (j:=1) (x1:=Bu) (zb:=part Be [1,1]) ah ah ah [1,0,1] (i2:=2) (y2:=part Bu [1,0,1,0,0]) ah ah rfl hk
  (f1:=[]) (f2:=[16]) (f3:=[]) (f4:=[33]) (f5:=[]) 60 uX zk 2 2 (fun k:Nat=>Ck m k) (fun k=>l8 m (lD m p k) (fj (m+1) p) k) (fun k=>k<=m+1) (fun k=>k=m+1) (fun k=>m+1-k) (fun k=>k<m+1) (fun _=>False) (fun _=>False)
  (fun k (i:Nat)=>HS m k i) (fun k i=>l8 m (jB m p k i) (fj (m+1) p) (k+1)) (fun k i=>i<=m-k) (fun k i=>i=m-k) (fun k i=>m-k-i)
  ⟨_,Va,?_⟩ (fun k hk=>⟨_,UO,?_⟩) (fun k hk hG=>⟨_,aaf,?_⟩) (fun k hk hG i hi=>⟨_,aj7,?_⟩) (fun k hk hG i hi=>⟨_,ZJ,?_⟩) (fun k hk=>?_) (fun _ _ h=>h.elim) (fun _ _ h=>h.elim)
 ·simp only[ag.all,aC]
  refine⟨aa,aa,0,aa,[(0,28672)],rfl,?_,rfl,l6 rfl aa aa (bF rfl rfl aa (fun i hi=>bT rfl ?_) trivial)⟩
  ·rw[show((m+1:Nat):Int)-1=(m:Nat) by omega,show 0+(m+1)=m+1-0 by omega];rfl
  ·show AV.rat (p i) af=AV.rat (lD m p 0 i) af
   unfold lD;rw[Nat.zero_min];rfl
 ·simp only[ag.all,aC,bI,bR]
  exact⟨fun h=>⟨aa,[(0,0),(1,1)],rfl,rfl,rfl,bF rfl rfl rfl (fun i hi=>bT rfl rfl) (bF rfl rfl rfl (fun i hi=>bT rfl rfl) trivial)⟩,fun h=>⟨rfl,k,aa,[(0,0),(1,1)],rfl,rfl,rfl,bF rfl rfl rfl (fun i hi=>bT rfl rfl) (bF rfl rfl rfl (fun i hi=>bT rfl rfl) trivial)⟩⟩
 ·simp only[ag.all,aC,bS]
  have e0:(0:Int).toNat=0:=rfl
  refine⟨aa,0,aa,[(0,0),(1,36866)],rfl,rfl,rfl,bF rfl rfl rfl (fun i hi=>?_) (bF rfl rfl rfl (fun i hi=>bT rfl ?_) trivial)⟩
  ·refine .inr ⟨?_,?_⟩
   ·split
    ·rfl
    ·rw[show i-k+0=0 by omega];rfl
   ·split
    ·exact .refl _
    ·rw[show i-k+0=0 by omega,show i=k by omega]
     exact eM (by rw[B6 aa];rfl) (hz.2 k hG)
  ·show AV.rat (lD m p k i) af=AV.rat (jB m p k 0 i) af
   unfold jB;rw[if_neg (Nat.not_lt_zero i)]
 ·simp only[ag.all,aC,bI,bR,bS,Nat.add_zero]
  have e1:((i:Int)+1).toNat=i+1:=aa
  rw[e1]
  refine⟨aa,fun h=>⟨aa,aa,i+1,aa,by dsimp only;omega,[(0,0),(1,1)],rfl,rfl,rfl,bF rfl rfl rfl (fun j hj=>bT rfl rfl) (bF rfl rfl rfl (fun j hj=>?_) trivial)⟩,fun h=>⟨rfl,i,aa,[(0,0),(1,1)],rfl,rfl,rfl,bF rfl rfl rfl (fun j hj=>bT rfl rfl) (bF rfl rfl rfl (fun j hj=>bT rfl rfl) trivial)⟩⟩
  have h3:=fun j=>P4 (m:=m) (k:=k) (i:=i) (j:=j) (p:=p) aa
  exact nS (x:=jB m p k i) (y:=jB m p k (i+1)) (eM ((if_pos rfl).symm.trans (h3 i)) (by unfold jB;rw[if_pos (Nat.lt_succ_self i)];exact hd _ _ aa)) fun hj=>dG ((if_neg hj).symm.trans (h3 j)) aX
 ·subst hi
  simp only[ag.all,aC]
  refine⟨aa,aa,k+1,aa,by dsimp only;omega,[(0,0),(1,1)],rfl,?_,rfl,bF rfl rfl rfl (fun j hj=>bT rfl rfl) (bF rfl rfl rfl (fun j hj=>bT rfl ?_) trivial)⟩
  ·rw[show(((m+1-k:Nat):Int)-1).toNat-(0:Int).toNat=m+1-(k+1) by omega];rfl
  ·show AV.rat (jB m p k (m-k) j) af=AV.rat (lD m p (k+1) j) af
   rw[NP]
 ·subst hk
  exact az.nR ((aJ.fin hT Lg hm 60 VE ah (jk fun _ _=>.refl _)).mono fun _ _ h=>.inl h)
theorem Te:bp P BT 123:=dy fun⟨⟨n,p⟩,_⟩ K hn=>by
 obtain⟨h1,h2,h3⟩:=hn
 simp only at h1 h2 h3
 obtain⟨m,rfl⟩:∃m,n=m+1:=⟨n-1,aa⟩
 exact akf aa h3 K
theorem aji:bY P Dg:=iu (aM Te iE)
theorem Xe {n:Nat} {k:Nat->Rat} (hn:n<2^40) (K:Nat):aW P 151 K [bG k n af] [] (aO (bG k (bO k n) af) []):=by
 have hW:=cP
 refine jA (r:=aO (bG k (bO k n) af) []) hT zW hm FZ rfl bh rfl [1,0] (i:=0) (y:=part oE [1,0,0,0]) (z:=part oE [1,1]) ah ah ah (f1:=[]) (f2:=[6,15]) (f3:=[]) 60 [0] 0
  (fun j:Nat=>[bG k j af]) (fun _=>[]) (fun j=>j<=n/\bO k j=bO k n) (fun j=>j=bO k n) (fun j=>j) (fun _=>⟨⟨_,Yd,?_⟩,fun j hj=>⟨_,aba,?_⟩,fun j hj=>⟨_,SY,?_⟩⟩) K []
 ·simp only[ag.all,aC]
  exact⟨n,⟨aX,rfl⟩,en.vals rfl⟩
 ·obtain⟨h1,h2⟩:=hj
  simp only[ag.all,aC,cond_true,pS,bI,bR]
  refine⟨fun h=>⟨⟨aa,aa,aa,aa⟩,fun h3=>⟨aa,j-1,⟨aa,?_⟩,by dsimp only;omega,?_⟩,fun h3=>⟨rfl,j,?_,en.vals rfl⟩⟩,fun h=>⟨aa,fun h3=>absurd h3 (by decide),fun _=>⟨rfl,j,?_,en.vals rfl⟩⟩⟩
  ·rw[<-h2]
   obtain⟨m,rfl⟩:∃m,j=m+1:=⟨j-1,aa⟩
   rw[show(((m+1:Nat):Int)-1).toNat=m by omega]at h3
   show bO k m=_
   rw[bO,if_pos h3]
  ·rw[show((j:Int)-1).toNat-(0:Int).toNat=j-1 by omega]
   exact en.vals rfl
  ·rw[<-h2]
   obtain⟨m,rfl⟩:∃m,j=m+1:=⟨j-1,aa⟩
   rw[show(((m+1:Nat):Int)-1).toNat=m by omega]at h3
   exact(qj (.inr h3)).symm
  ·rw[<-h2,show j=0 by omega];rfl
 ·rw[hj];exact .refl _
theorem NF:bp P vt 151:=dy fun⟨⟨n,k⟩,_⟩ K hn=>Xe hn K
theorem YD {p:PP} (hp:jx p) (K:Nat):aW P 61 K [aD p] [] (aO (aD (ak p)) []):=by
 have hW:=cP
 obtain⟨n,hn⟩:∃n,n=p.1:=⟨_,rfl⟩
 obtain⟨k,hk⟩:∃k,k=fj p.1 p.2:=⟨_,rfl⟩
 have e0:ak p=(bO k n,k):=by rw[hk,hn];rfl
 have h2:=hp.2.1
 rw[e0]
 refine jA (r:=aO (aD (bO k n,k)) []) hT aji hm ZH rfl bh rfl [1,1,0] (i:=0) (y:=part Ax [1,1,0,0,0]) (z:=part Ax [1,1,1]) ah ah ah (f1:=[]) (f2:=[9,18]) (f3:=[]) 60 [3] 0
  (fun j:Nat=>[bG k j af]) (fun _=>[]) (fun j=>j<=n/\bO k j=bO k n) (fun j=>j=bO k n) (fun j=>j) (fun _=>⟨⟨_,acs,?_⟩,fun j hj=>⟨_,Ub,?_⟩,fun j hj=>⟨_,ZQ,?_⟩⟩) K []
 ·simp only[ag.all,aC]
  exact⟨⟨eO aX,hp.1,hp.2.1,hp.2.2⟩,n,⟨aX,rfl⟩,by rw[hk,hn];exact en.vals rfl⟩
 ·obtain⟨h1,h2⟩:=hj
  simp only[ag.all,aC,cond_true,pS,bI,bR]
  refine⟨fun h=>⟨⟨aa,aa,aa,aa⟩,fun h3=>⟨aa,j-1,⟨aa,?_⟩,by dsimp only;omega,?_⟩,fun h3=>⟨rfl,j,?_,en.vals rfl⟩⟩,fun h=>⟨aa,fun h3=>absurd h3 (by decide),fun _=>⟨rfl,j,?_,en.vals rfl⟩⟩⟩
  ·rw[<-h2]
   obtain⟨m,rfl⟩:∃m,j=m+1:=⟨j-1,aa⟩
   rw[show(((m+1:Nat):Int)-1).toNat=m by omega]at h3
   show bO k m=_
   rw[bO,if_pos h3]
  ·rw[show((j:Int)-1).toNat-(0:Int).toNat=j-1 by omega]
   exact en.vals rfl
  ·rw[<-h2]
   obtain⟨m,rfl⟩:∃m,j=m+1:=⟨j-1,aa⟩
   rw[show(((m+1:Nat):Int)-1).toNat=m by omega]at h3
   exact(qj (.inr h3)).symm
  ·rw[<-h2,show j=0 by omega];rfl
 ·rw[hj];exact .refl _
theorem Oz:bp P vp 61:=dy fun⟨a,_⟩ K hn=>YD hn K
def s9:bE:=zG::(91,Cw)::(93,jU kR kR yA pW)::iH
abbrev zl:Code:=aK f96
abbrev AK:Code:=part zl [1,1,1,1,0,1,0,0]
abbrev zX:Code:=part AK [1,0,0]
abbrev tP:List Nat:=[0,4,5,6]
abbrev C0 (m:Nat) (c:Nat->Rat) (i:Nat):List AV:=[bG c (m+1) af,.int .i64 m,.own 0 3 0 i,.int .i64 i]
abbrev yp:List Nat:=[0,4,5,6,7,8]
abbrev Hv (m:Nat) (c:Nat->Rat) (i k:Nat):List AV:=[bG c (m+1) af,.int .i64 m,.own 0 3 0 i,.int .i64 i,.ptr 1 0 3 0 [],.int .i64 k]
def Lh:Spec:=ef (kC (kL af) kN) (fun a=>.tuple [bG (gE a.1.1 a.1.2) a.1.1 af,.int .i64 0]) fun a=>[1<=a.1.1,a.1.1<=41,ki a.1.1 a.1.2]
theorem JP:bu 96 f96:=bC func96
theorem ahi {m:Nat} {c:Nat->Rat}:aL T s9 [200014,200017] 60 tP (before zl [1,1,1,1,0,1]) ⟨aZ 0 [bG c (m+1) af],[],0⟩=
  let a:=(↑(m+1):Int)-1;some (aj [-(2:Int)^63<=a/\a<2^63] (aj [decide (a<0)=false] (aj [(bif false then true else decide (a>40))=false] (leaf normal ([aq 3 (m+1) fun i=>rat (c i) af,int i64 a,nil,int i64 0],[]))))):=ah
theorem aeu {m i:Nat} {c x:Nat->Rat}:aL T s9 [20] 60 tP (before AK [1,0]) ⟨aH tP (C0 m c i),[(0,cI i x af)],1⟩=
  let a:List AV×aI:=([aq 3 (m+1) fun i=>rat (c i) af,int i64 (↑m:Int),own 0 3 0 i,int i64 (↑i:Int)],[(0,aA.mk true true 3 i fun i=>rat (x i) af)]);some (fork (decide ((↑i:Int)<=(↑m:Int))) (leaf normal a) (leaf (exit 0) a)):=ah
theorem aeJ {m i:Nat} {c x:Nat->Rat}:aL T s9 [] 60 yp (before zX [1,0,1]) ⟨aH tP (C0 m c i),[(0,cI i x af)],1⟩=
  some (leaf normal ([aq 3 (m+1) fun i=>rat (c i) af,int i64 (↑m:Int),own 0 3 0 i,int i64 (↑i:Int),ptr 1 0 3 0 [],int i64 0],[((1:Nat),ij fun x=>rat 0 1),(0,aA.mk true true 3 i fun i=>rat (x i) af)])):=ah
theorem adV {m i k:Nat} {c x:Nat->Rat} {q:Rat}:aL T s9 [25] 60 yp [part zX [1,0,1,0,0]] ⟨aH yp (Hv m c i k),[(1,tR q af),(0,cI i x af)],2⟩=
  let g:=(↑m:Int);let p:=own 0 3 0 i;let h:=64+64;let f:=(↑i:Int);let o:=ptr 1 0 3 0 [];let n:=aq 3 (m+1) fun i=>rat (c i) af;let l:Nat×aA:=(0,aA.mk true true 3 i fun i=>rat (x i) af);let e:=2^41;let a:=(↑k:Int);let d:=(0:Int)<=a;let b:=a+1;some (fork (decide (a<=f)) (aj [(0:Nat)<1,d,a<=f,f<=40,d,a<=g,g<=40,(64:Nat)<e,(64:Nat)<e,d/\a.toNat<m+1,h<e,af<e,af<e,h+af<e,(0:Nat)<1] (aj [-(2:Int)^63<=b/\b<2^63] (leaf normal ([n,int i64 g,p,int i64 f,o,int i64 b],[((1:Nat),ij fun j=>if(j==0)=true then eE (AW (q,af) ((↑(↑(bn f.toNat a.toNat):Int):Rat)/(↑(↑(bn g.toNat a.toNat):Int):Rat)*c a.toNat,h+af))else rat q af),l])))) (leaf (exit 2) ([n,int i64 g,p,int i64 f,o,int i64 a],[((1:Nat),ij fun x=>rat q af),l]))):=ah
theorem SM {m i k:Nat} {c x:Nat->Rat} {q:Rat}:aL T s9 [] 60 tP (behind zX [1,0,1]++[part AK [1,1]]) ⟨aH yp (Hv m c i k),[(1,tR q af),(0,cI i x af)],2⟩=
  let a:=(↑i:Int)+1;some (aj [(0:Nat)<1,(1:Nat)*3<=2^24,(i+1)*((56:Nat)+1)*2<=2^47] (aj [-(2:Int)^63<=a/\a<2^63] (leaf normal ([aq 3 (m+1) fun i=>rat (c i) af,int i64 (↑m:Int),own 12290 3 0 (i+1),int i64 a],[(12290,aA.mk true true 3 (i+1) fun i_1=>if i_1<i then rat (x i_1) af else nth [rat q af] (rat 0 1) (i_1-i+0))])))):=ah
theorem abL {m i:Nat} {c x:Nat->Rat}:dc T s9 [] 60 f96 [part zl [1,1,1,1,1]] ⟨aH tP (C0 m c i),[(0,cI i x af)],1⟩=
  some (leaf ret [aq 3 i fun i=>rat (x (i+0)) af,int i64 0]):=ah
theorem NG:bY P s9:=iu (aM HH (aM (jX fun _ _ K hn=>BN hn.1 hn.2 K) iE))
theorem Ze {m:Nat} {c:Nat->Rat} (hm1:m<=40) (hz:ki (m+1) c) (K:Nat):aW P 96 K [bG c (m+1) af] [] (aO (.tuple [bG (gE (m+1) c) (m+1) af,.int .i64 0]) []):=by
 refine jj (r:=aO (.tuple [bG (gE (m+1) c) (m+1) af,.int .i64 0]) []) hT JP rfl bh rfl (fun _ cx h0=>?_) K []
 have hk:=nr h0
 have hW:=cP
 refine az.rI hT NG hm (x:=zl) [1,1,1,1,0,1] (i:=0) (y:=AK) (z:=part zl [1,1,1,1,1]) ah ah ah JP.dst [1,0] (j:=1) (x1:=zX) (zb:=part AK [1,1]) ah ah ah [1,0,1] (i2:=2) (y2:=part zX [1,0,1,0,0]) ah ah rfl hk
  (f1:=[200014,200017]) (f2:=[20]) (f3:=[]) (f4:=[25]) (f5:=[]) 60 tP yp 1 2 (fun i:Nat=>C0 m c i) (fun i=>[(0,cI i (gE (m+1) c) af)]) (fun i=>i<=m+1) (fun i=>i=m+1) (fun i=>m+1-i) (fun i=>i<m+1) (fun _=>False) (fun _=>False)
  (fun i (k:Nat)=>Hv m c i k) (fun i k=>[(1,tR (lU (m+1) c i k) af),(0,cI i (gE (m+1) c) af)]) (fun i k=>k<=i+1) (fun i k=>k=i+1) (fun i k=>i+1-k)
  ⟨_,ahi,?_⟩ (fun i hi=>⟨_,aeu,?_⟩) (fun i hi hG=>⟨_,aeJ,?_⟩) (fun i hi hG k hk=>⟨_,adV,?_⟩) (fun i hi hG k hk=>⟨_,SM,?_⟩) (fun i hi=>?_) (fun _ _ h=>h.elim) (fun _ _ h=>h.elim)
 ·simp only[ag.all,aC,cond_false,bR]
  exact⟨aa,aa,aa,0,aa,[],rfl,by rw[show((m+1:Nat):Int)-1=(m:Nat) by omega];rfl,rfl,l6 rfl aa aa trivial⟩
 ·simp only[ag.all,aC,bI,bR]
  exact⟨fun h=>⟨aa,[(0,0)],rfl,rfl,rfl,bF rfl rfl rfl (fun i hi=>bT rfl rfl) trivial⟩,fun h=>⟨rfl,i,aa,[(0,0)],rfl,rfl,rfl,bF rfl rfl rfl (fun i hi=>bT rfl rfl) trivial⟩⟩
 ·simp only[ag.all,aC]
  exact⟨0,aa,[(0,0),(1,1)],rfl,rfl,rfl,kg rfl rfl (.inr ⟨rfl,dG rfl aa⟩) (bF rfl rfl rfl (fun i hi=>bT rfl rfl) trivial)⟩
 ·simp only[ag.all,aC,bI,bR,bS]
  exact⟨fun h=>⟨aa,aa,k+1,aa,by dsimp only;omega,[(0,0),(1,1)],rfl,rfl,rfl,kg rfl rfl (.inr ⟨rfl,eM rfl (hz i (k+1) hG aa)⟩) (bF rfl rfl rfl (fun i hi=>bT rfl rfl) trivial)⟩,fun h=>⟨rfl,k,aa,[(0,0),(1,1)],rfl,rfl,rfl,dD (bF rfl rfl rfl (fun i hi=>bT rfl rfl) trivial)⟩⟩
 ·subst hk
  simp only[ag.all,aC]
  refine⟨aa,aa,i+1,aa,by dsimp only;omega,[(0,12290)],rfl,rfl,rfl,bF rfl rfl rfl (fun j hj=>?_) trivial⟩
  by_cases h:j<i
  ·rw[if_pos h];exact bT rfl rfl
  ·rw[if_neg h,show j-i+0=0 by omega,show j=i by omega];exact bT rfl rfl
 ·subst hi
  refine az.nR ((aJ.fin hT NG hm 60 abL ah ?_).mono fun _ _ h=>.inl h)
  exact⟨.refl _,.refl _,trivial⟩
theorem Zc:bp P Lh 96:=dy fun⟨⟨n,p⟩,_⟩ K hn=>by
 obtain⟨h1,h2,h3⟩:=hn
 simp only at h1 h2 h3
 obtain⟨m,rfl⟩:∃m,n=m+1:=⟨n-1,aa⟩
 exact Ze aa h3 K
def uU:bE:=zG::(151,vt)::(93,jU kR kR yA pW)::iH
abbrev zO:Code:=aK f152
abbrev zF:List Nat:=[0,3,4]
abbrev FV (n:Nat) (c:Nat->Rat) (i:Nat):List AV:=[bG c n af,.own 0 3 0 i,.int .i64 i]
abbrev zV:Code:=aK f125
theorem aeC:bu 152 f152:=bC func152
theorem WZ:bu 125 f125:=bC func125
theorem ZZ {n:Nat} {c:Nat->Rat}:aL T uU [] 60 zF (before zO [1,1,1,0,1]) ⟨aZ 0 [bG c n af],[],0⟩=
  some (aj [cL (fun i=>rat (c i) af) n af,n<2^40] (leaf normal ([aq 3 (bO (fun i=>aN (rat (c i) af)) n) fun i=>rat (aN (rat (c i) af)) af,nil,int i64 0],[]))):=ah
theorem WD {n i:Nat} {c x:Nat->Rat}:aL T uU [10] 60 zF [part zO [1,1,1,0,1,0,0]] ⟨aH zF (FV n c i),[(0,cI i x af)],1⟩=
  let g:=af<2^41;let f:=aq 3 n fun i=>rat (c i) af;let a:=(↑i:Int);let d:=(2:Int)^63;let b:=(↑n:Int)-1;let e:=a+1;some (fork (decide (a<(↑n:Int))) (aj [(0:Int)<=a/\a.toNat<n,-d<=b/\b<d,(0:Int)<=b/\b.toNat<n,g,g,(1:Nat)*3<=2^24,(i+1)*((56:Nat)+1)*2<=2^47] (aj [-d<=e/\e<d] (leaf normal ([f,own 69633 3 0 (i+1),int i64 e],[(69633,aA.mk true true 3 (i+1) fun i_1=>if i_1<i then rat (x i_1) af else nth [rat (c a.toNat/c b.toNat) (af+af)] (rat 0 1) (i_1-i+0))])))) (leaf (exit 0) ([f,own 0 3 0 i,int i64 a],[(0,aA.mk true true 3 i fun i=>rat (x i) af)]))):=ah
theorem aiv {n i:Nat} {c x:Nat->Rat}:dc T uU [] 60 f152 [part zO [1,1,1,1]] ⟨aH zF (FV n c i),[(0,cI i x af)],1⟩=
  some (leaf ret [aq 3 i fun i=>rat (x (i+0)) af]):=ah
theorem ajT {n:Nat} {c:Nat->Rat}:aL T uU [] 60 pn (before zV [1,1,0,1]) ⟨aZ 0 [bG c n af],[],0⟩=
  some (leaf normal ([aq 3 n fun i=>rat (c i) af,nil,int i64 1],[])):=ah
theorem aeR {n i:Nat} {c x:Nat->Rat}:aL T uU [8] 60 pn [part zV [1,1,0,1,0,0]] ⟨aH pn (xb n c i),[(0,cI i x af)],1⟩=
  let d:=i+1;let f:=aq 3 n fun i=>rat (c i) af;let b:=(2:Int)^63;let a:=(↑d:Int);let e:=a+1;let g:=Max.max 1 (ck a.natAbs);some (fork (decide (a<(↑n:Int))) (aj [-b<=a,a<b,(0:Int)<=a/\a.toNat<n,g<2^41,af<2^41,(1:Nat)*3<=2^24,d*((56:Nat)+1)*2<=2^47] (aj [-b<=e/\e<b] (leaf normal ([f,own 53249 3 0 d,int i64 e],[(53249,aA.mk true true 3 d fun i_1=>if i_1<i then rat (x i_1) af else nth [rat ((↑a:Rat)*c a.toNat) (g+af)] (rat 0 1) (i_1-i+0))])))) (leaf (exit 0) ([f,own 0 3 0 i,int i64 a],[(0,aA.mk true true 3 i fun i=>rat (x i) af)]))):=ah
theorem U4 {n i:Nat} {c x:Nat->Rat}:dc T uU [] 60 f125 [part zV [1,1,1]] ⟨aH pn (xb n c i),[(0,cI i x af)],1⟩=
  some (aj [cL (fun i=>rat (x (i+0)) af) i af,i<2^40] (leaf ret [aq 3 (bO (fun i=>aN (rat (x (i+0)) af)) i) fun i=>rat (aN (rat (x (i+0)) af)) af])):=ah
theorem aiO {n m:Nat} {x:Nat->Rat}:aL T mR [] 60 [0] (before oE [1,0]) ⟨aZ 0 [.own 0 3 0 n],[(0,cI m x af)],1⟩=
  some (leaf normal ([own 0 3 0 n],[(0,aA.mk true true 3 m fun i=>rat (x i) af)])):=ah
theorem ZC {n m:Nat} {x:Nat->Rat}:aL T mR [6,15] 60 [0] [part oE [1,0,0,0]] ⟨aH [0] [.own 0 3 0 n],[(0,cI m x af)],1⟩=
  let e:=(↑n:Int);let b:=(2:Int)^63;let g:Nat×aA:=(0,aA.mk true true 3 m fun i=>rat (x i) af);let h:ag (List AV×aI):=leaf (exit 0) ([own 0 3 0 n],[g]);let d:=decide (e>0);let a:=e-1;let f:ag (List AV×aI):=aj [-b<=a/\a<b,(0:Int)<=0/\(0:Int)<=a/\a<=a/\a<=e] (leaf normal ([own 0 3 0 (a.toNat-Int.toNat (0:Int))],[g]));some (fork d (aj [d=true,-b<=a/\a<b,(0:Int)<=a/\a.toNat<n,a.toNat+0<m,af<2^41] (fork (bif true then bK (x (a.toNat+0))==0 else false) f h)) (aj [d=false] (fork false f h))):=ah
theorem aff {n m:Nat} {x:Nat->Rat}:aL T mR [] 60 [2] [part oE [1,1]] ⟨aH [0] [.own 0 3 0 n],[(0,cI m x af)],1⟩=
  some (leaf ret ([own 0 3 0 n],[(0,aA.mk true true 3 m fun i=>rat (x i) af)])):=ah
theorem P7:bY P uU:=iu (aM NF (aM (jX fun _ _ K hn=>BN hn.1 hn.2 K) iE))
theorem abr {a:PP} (hn:a.1<2^40) (ta:Trim a) (hz:cU a.1 (cN a.1 a.2)) (K:Nat):aW P 152 K [aD a] [] (aO (aD (dM a)) []):=by
 have hW:=cP
 have e0:bO a.2 a.1=a.1:=qj ta
 refine jA (r:=aO (aD (dM a)) []) hT P7 hm aeC rfl bh rfl [1,1,1,0,1] (i:=0) (y:=part zO [1,1,1,0,1,0,0]) (z:=part zO [1,1,1,1]) ah ah ah (f1:=[]) (f2:=[10]) (f3:=[]) 60 zF 1
  (fun i:Nat=>FV a.1 a.2 i) (fun i=>[(0,cI i (cN a.1 a.2) af)]) (fun i=>i<=a.1) (fun i=>i=a.1) (fun i=>a.1-i) (fun _=>⟨⟨_,ZZ,?_⟩,fun i hi=>⟨_,WD,?_⟩,fun i hi=>⟨_,aiv,?_⟩⟩) K []
 ·simp only[ag.all,aC]
  exact⟨⟨eO aX,hn⟩,0,Nat.zero_le _,[],rfl,by have e1:bO (fun i=>aN (.rat (a.2 i) af)) a.1=a.1:=e0;rw[e1];rfl,rfl,l6 rfl aa aa trivial⟩
 ·simp only[ag.all,aC,bI,bR,bS]
  refine⟨fun h=>⟨aa,aa,i+1,aa,by dsimp only;omega,[(0,69633)],rfl,?_,rfl,bF rfl rfl rfl (fun j hj=>?_) trivial⟩,fun h=>⟨rfl,i,aa,[(0,0)],rfl,rfl,rfl,bF rfl rfl rfl (fun j hj=>bT rfl rfl) trivial⟩⟩
  ·rw[show(i:Int)+1=((i+1:Nat):Int) by omega];rfl
  ·by_cases h2:j<i
   ·rw[if_pos h2];exact bT rfl rfl
   ·rw[if_neg h2,show j-i+0=0 by omega,show j=i by omega,show((a.1:Int)-1).toNat=a.1-1 by omega]
    exact .inr ⟨rfl,eM rfl (hz i aa)⟩
 ·subst hi;exact .refl _
def Ik:Spec:=ef (kC (kL af) kN) (fun a=>aD (dM a.1)) fun a=>[a.1.1<2^40,Trim a.1,cU a.1.1 (cN a.1.1 a.1.2)]
theorem MI:bp P Ik 152:=dy fun⟨a,_⟩ K hn=>abr hn.1 hn.2.1 hn.2.2 K
theorem Tr {n:Nat} {c:Nat->Rat} (hn:n<2^40) (hz:cU (n-1) (cV c)) (K:Nat):aW P 125 K [bG c n af] [] (aO (bG (cV c) (bO (cV c) (n-1)) af) []):=by
 have hW:=cP
 refine jA (r:=aO (bG (cV c) (bO (cV c) (n-1)) af) []) hT P7 hm WZ rfl bh rfl [1,1,0,1] (i:=0) (y:=part zV [1,1,0,1,0,0]) (z:=part zV [1,1,1]) ah ah ah (f1:=[]) (f2:=[8]) (f3:=[]) 60 pn 1
  (fun i:Nat=>xb n c i) (fun i=>[(0,cI i (cV c) af)]) (fun i=>i<=n-1) (fun i=>i=n-1) (fun i=>n-1-i) (fun _=>⟨⟨_,ajT,?_⟩,fun i hi=>⟨_,aeR,?_⟩,fun i hi=>⟨_,U4,?_⟩⟩) K []
 ·simp only[ag.all,aC]
  exact⟨0,aa,[],rfl,rfl,rfl,l6 rfl aa aa trivial⟩
 ·have hb:(max 1 (ck ((i+1:Nat):Int).natAbs))<=64:=by
   rw[Int.natAbs_natCast]
   have:=kJ (x:=i+1) (k:=64)|>.2 aa
   omega
  simp only[ag.all,aC,bI,bR,bS]
  refine⟨fun h2=>⟨aa,aa,i+1,aa,by dsimp only;omega,[(0,53249)],rfl,?_,rfl,bF rfl rfl rfl (fun j hj=>?_) trivial⟩,fun h2=>⟨rfl,i,aa,[(0,0)],rfl,rfl,rfl,bF rfl rfl rfl (fun j hj=>bT rfl rfl) trivial⟩⟩
  ·rw[show((i+1:Nat):Int)+1=((i+1+1:Nat):Int) by omega];rfl
  ·refine .inr ⟨?_,?_⟩
   ·split
    ·rfl
    ·rw[show j-i+0=0 by omega];rfl
   ·split
    ·exact .refl _
    ·rw[show j-i+0=0 by omega,show j=i by omega]
     exact eM rfl (hz i aa)
 ·subst hi
  simp only[ag.all,aC]
  exact⟨⟨eO aX,aa⟩,.refl _⟩
theorem IS:bp P r9 125:=dy fun⟨⟨n,c⟩,_⟩ K hn=>Tr hn.1 hn.2 K
theorem aeb {kk n m:Nat} {x:Nat->Rat} (hn:n<2^40) (hnm:n<=m) (c:Ctx) (hk:Kept [0] c):az P c f151.ntmps oE ⟨aZ 0 [.own 0 3 0 n],[(0,cI m x af)],1⟩ (Il f151 kk [.own kk 3 0 (bO x n)] (cI m x af)):=by
 have hW:=cP
 have re:∀j,en [0] ([.own 0 3 0 j],[((0:Nat),cI m x af)]) [.own 0 3 0 j] [(0,cI m x af)] 1:=fun j=>⟨[(0,0)],rfl,rfl,rfl,oM trivial⟩
 refine az.qZ hT zW hm [1,0] (i:=0) (y:=part oE [1,0,0,0]) (z:=part oE [1,1]) ah ah ah FZ.dst hk (f1:=[]) (f2:=[6,15]) 60 [0] 1
  (fun j:Nat=>[.own 0 3 0 j]) (fun _=>[(0,cI m x af)]) (fun j=>j<=n/\bO x j=bO x n) (fun j=>j=bO x n) (fun j=>j) (fun _=>False) ⟨_,aiO,?_⟩ (fun j hj=>⟨_,ZC,?_⟩) (fun j hj=>?_) (fun _ _ h=>h.elim)
 ·simp only[ag.all,aC]
  exact⟨n,⟨aX,rfl⟩,re n⟩
 ·obtain⟨h1,h2⟩:=hj
  simp only[ag.all,aC,cond_true,pS,bI,bR,Nat.add_zero]
  refine⟨fun h=>⟨⟨aa,aa,aa,aa,aa⟩,fun h3=>⟨aa,j-1,⟨aa,?_⟩,by dsimp only;omega,?_⟩,fun h3=>⟨rfl,j,?_,re j⟩⟩,fun h=>⟨aa,fun h3=>absurd h3 (by decide),fun _=>⟨rfl,j,?_,re j⟩⟩⟩
  ·rw[<-h2]
   obtain⟨m,rfl⟩:∃m,j=m+1:=⟨j-1,aa⟩
   rw[show(((m+1:Nat):Int)-1).toNat=m by omega]at h3
   show bO x m=_
   rw[bO,if_pos h3]
  ·rw[show((j:Int)-1).toNat-(0:Int).toNat=j-1 by omega]
   exact re (j-1)
  ·rw[<-h2]
   obtain⟨m,rfl⟩:∃m,j=m+1:=⟨j-1,aa⟩
   rw[show(((m+1:Nat):Int)-1).toNat=m by omega]at h3
   exact(qj (.inr h3)).symm
  ·rw[<-h2,show j=0 by omega];rfl
 ·subst hj
  exact az.bU hT zW hm 60 [2] aff ah fun s' hs'=>⟨.inr rfl,[2],_,[.own 0 3 0 (bO x n)],_,_,hs',ah,⟨⟨rfl,eR (by simp[bD,look]) rfl rfl⟩,trivial⟩,rfl,iQ rfl fun i hi=>fR rfl⟩
theorem VN:bp P ze 151:=by
 intro K args pre r h
 unfold ze at h
 split at h
 ·rename_i k n k' m f
  split at h
  ·rename_i hc
   have hc:=eq_of_beq hc
   subst hc
   simp only[aB]at h
   subst h
   intro need
   have h0:=need
   obtain⟨n1,n2,n3⟩:=need
   exact Qj hT FZ (rest:=[]) (ws:=[.own k' 3 0 _]) (o2:=⟨true,true,3,m,f⟩) (o:=cI m (fun i=>aN (f i)) af) rfl rfl bh (fun ρ=>iQ rfl fun i hi=>jD (n3 i hi).1 (n3 i hi).2) (fun _ c hk=>aeb n2 n1 c hk) K h0
  ·simp at h
 ·simp at h
theorem af7:bp P xU 151:=by
 intro K args pre r h
 unfold xU at h
 split at h
 ·rename_i h1
  exact VN K args pre r (h1.trans h)
 ·exact NF K args pre r h
def qa:bE:=zG::(151,xU)::(93,jU kR kR yA pW)::iH
abbrev rF:Code:=aK f97
abbrev AJ:Code:=part rF [1,1,1,1,0,1,0,0]
abbrev wF:Code:=part AJ [1,0,0]
abbrev pI:List Nat:=[1,6,7,8]
abbrev vR (n e:Nat) (d:Nat->Rat) (j:Nat):List AV:=[bG d (e+1) af,.own 0 3 0 n,.own 1 3 0 (n-e),.int .i64 ((n:Int)-((e:Int)+1)-(j:Int))]
abbrev rY (n e:Nat) (x q:Nat->Rat):aI:=[(0,cI n x af),(1,cI (n-e) q af)]
abbrev vC:List Nat:=[1,6,7,8,9,10]
abbrev Fa (n e:Nat) (d:Nat->Rat) (k i:Nat):List AV:=[bG d (e+1) af,.own 0 3 0 n,.own 1 3 0 (n-e),.int .i64 k,.ptr 2 0 3 0 [],.int .i64 i]
abbrev E2 (n e:Nat) (x q:Nat->Rat) (f:Rat):aI:=[(2,tR f af),(0,cI n x af),(1,cI (n-e) q af)]
theorem FQ:bu 97 f97:=bC func97
theorem Yy {n e:Nat} {a d:Nat->Rat}:aL T qa [18] 60 pI (before rF [1,1,1,1,0,1]) ⟨aZ 0 [bG a n af,bG d (e+1) af],[],0⟩=
  let m:=(↑(e+1):Int);let l:=own 16384 3 0 ((0:Nat)+n);let k:=aq 3 (e+1) fun i=>rat (d i) af;let j:Nat×aA:=(16384,aA.mk true true 3 ((0:Nat)+n) fun i=>rat (a (i-0)) af);let g:=(2:Int)^63;let f:=(↑n:Int)-m;let h:=-g<=f/\f<g;let b:=f+1;some (aj [(0:Nat)*3<=2^24,((0:Nat)+n)*((56:Nat)+1)*2<=2^47] (fork (decide ((↑n:Int)>=m)) (aj [h,-g<=b/\b<g,(0:Int)<=b/\b<=b/\b<=2^47/\b*(↑(56:Nat):Int)<=2^47] (aj [h] (leaf normal ([k,l,own 73728 3 0 b.toNat,int i64 f],[(73728,aA.mk true true 3 b.toNat fun x=>rat 0 1),j])))) (aj [h] (leaf normal ([k,l,nil,int i64 f],[j]))))):=ah
theorem abN {n e j:Nat} {d x q:Nat->Rat}:aL T qa [32] 60 pI (before AJ [1,0]) ⟨aH pI (vR n e d j),rY n e x q,2⟩=
  let b:=(↑n:Int)-((↑e:Int)+1)-(↑j:Int);let a:List AV×aI:=([aq 3 (e+1) fun i=>rat (d i) af,own 0 3 0 n,own 1 3 0 (n-e),int i64 b],[(1,aA.mk true true 3 (n-e) fun i=>rat (q i) af),(0,aA.mk true true 3 n fun i=>rat (x i) af)]);some (fork (decide (b>=0)) (leaf normal a) (leaf (exit 0) a)):=ah
theorem aiS {n e k:Nat} {d x q:Nat->Rat}:aL T qa [] 60 vC (before wF [1,1,1]) ⟨aH pI [bG d (e+1) af,.own 0 3 0 n,.own 1 3 0 (n-e),.int .i64 k],rY n e x q,2⟩=
  let o:=af<2^41;let a:=(↑k:Int);let b:=(2:Int)^63;let h:=(↑(e+1):Int);let l:=a.toNat+0;let f:=h-1;let g:=a+h-1;let m:=g.toNat+0;some (aj [-b<=a+h/\a+h<b,-b<=g/\g<b,(0:Int)<=g/\g.toNat<n,m<n,-b<=f/\f<b,(0:Int)<=f/\f.toNat<e+1,o,o,(0:Nat)<1] (aj [(0:Nat)<1,(0:Int)<=a/\a.toNat<n-e,l<n-e] (leaf normal ([aq 3 (e+1) fun i=>rat (d i) af,own 0 3 0 n,own 1 3 0 (n-e),int i64 a,ptr 61442 0 3 0 [],int i64 0],[((61442:Nat),ij fun j=>if(j==0)=true then eE (yA (x m,af) (d f.toNat,af))else rat 0 1),(1,aA.mk true true 3 (n-e) fun j=>rat (bif j==l then x m/d f.toNat else q j) (bif j==l then af+af else af)),(0,aA.mk true true 3 n fun i=>rat (x i) af)])))):=ah
theorem aek {n e k i:Nat} {d x q:Nat->Rat} {f:Rat}:aL T qa [57] 60 vC [part wF [1,1,1,0,0]] ⟨aH vC (Fa n e d k i),E2 n e x q f,3⟩=
  let b:=e+1;let o:=own 0 3 0 n;let m:=own 1 3 0 (n-e);let w:=ptr 2 0 3 0 [];let s:=2^41;let h:=(↑i:Int);let u:Nat×aA:=((2:Nat),ij fun x=>rat f af);let t:Nat×aA:=(1,aA.mk true true 3 (n-e) fun i=>rat (q i) af);let l:=(2:Int)^63;let g:=h+1;let v:=aq 3 b fun i=>rat (d i) af;let a:=(↑k:Int)+h;let p:=(0:Int)<=a/\a.toNat<n;let r:=a.toNat+0;some (fork (decide (h<(↑b:Int))) (aj [-l<=a/\a<l,-l<=a/\a<l,p,r<n,(0:Nat)<1,(0:Int)<=h/\h.toNat<b,af<s,af<s,af<s,af+af<s,p,r<n] (aj [-l<=g/\g<l] (leaf normal ([v,o,m,int i64 (↑k:Int),w,int i64 g],[u,t,(0,aA.mk true true 3 n fun j=>rat (bif j==r then x r-f*d h.toNat else x j) (bif j==r then af+(af+af)+1 else af))])))) (leaf (exit 2) ([v,o,m,int i64 (↑k:Int),w,int i64 h],[u,t,(0,aA.mk true true 3 n fun i=>rat (x i) af)]))):=ah
theorem ajE {n e k i:Nat} {d x q:Nat->Rat} {f:Rat}:aL T qa [] 60 pI (behind wF [1,1,1]++[part AJ [1,1]]) ⟨aH vC (Fa n e d k i),E2 n e x q f,3⟩=
  let a:=(↑k:Int)-1;some (aj [-(2:Int)^63<=a/\a<2^63] (leaf normal ([aq 3 (e+1) fun i=>rat (d i) af,own 0 3 0 n,own 1 3 0 (n-e),int i64 a],[(1,aA.mk true true 3 (n-e) fun i=>rat (q i) af),(0,aA.mk true true 3 n fun i=>rat (x i) af)]))):=ah
theorem Zh {n e j:Nat} {d x q:Nat->Rat}:dc T qa [] 60 f97 [part rF [1,1,1,1,1]] ⟨aH pI (vR n e d j),rY n e x q,2⟩=
  some (aj [n-e<=n-e,n-e<2^40,vc (fun i=>rat (q i) af) (n-e) af,n<=n,n<2^40,vc (fun i=>rat (x i) af) n af] (leaf ret [aq 3 (bO (fun i=>aN (rat (q i) af)) (n-e)) fun i=>rat (aN (rat (q (i+0)) af)) af,aq 3 (bO (fun i=>aN (rat (x i) af)) n) fun i=>rat (aN (rat (x (i+0)) af)) af])):=ah
theorem Uy {n e j:Nat} {d x q:Nat->Rat}:aL T qa [] 60 [4,5] [part rF [1,1,1,1,1]] ⟨aH pI (vR n e d j),rY n e x q,2⟩=
  some (aj [n-e<=n-e,n-e<2^40,vc (fun i=>rat (q i) af) (n-e) af,n<=n,n<2^40,vc (fun i=>rat (x i) af) n af] (leaf ret ([own 1 3 0 (bO (fun i=>aN (rat (q i) af)) (n-e)),own 0 3 0 (bO (fun i=>aN (rat (x i) af)) n)],[(0,aA.mk true true 3 n fun i=>rat (aN (rat (x i) af)) af),(1,aA.mk true true 3 (n-e) fun i=>rat (aN (rat (q i) af)) af)]))):=ah
theorem Hh:bY P qa:=iu (aM af7 (aM (jX fun _ _ K hn=>BN hn.1 hn.2 K) iE))
def nw (e:Nat) (d a:Nat->Rat) (R j k:Nat):Rat:=if k+j<R then 0 else ej e d a R k
theorem aje {e k:Nat} {d x:Nat->Rat}:fN e d x k (x (k+e)/d e) (e+1)=g8 e d k x:=by
 funext j
 unfold fN g8
 by_cases h:k<=j/\j<k+e+1
 ·rw[if_pos aa,if_pos h]
 ·rw[if_neg aa,if_neg h]
theorem NJ {e k i j:Nat} {d x:Nat->Rat} {f:Rat} (hj:j≠k+i):fN e d x k f i j=fN e d x k f (i+1) j:=by
 unfold fN
 by_cases h2:k<=j/\j<k+i
 ·rw[if_pos h2,if_pos aa]
 ·rw[if_neg h2,if_neg aa]
theorem XQ {e k i:Nat} {d x:Nat->Rat} {f:Rat}:fN e d x k f i (k+i)-f*d i=fN e d x k f (i+1) (k+i):=by
 unfold fN
 rw[if_neg aa,if_pos aa,show k+i-k=i by omega]
theorem UN {ρ:Nat->Option Nat} {k es s n:Nat}:iO ρ (.own k es s n) .void:=by
 refine⟨rfl,fun M w β cs hc=>?_⟩
 cases hc with
 |own h1 h2 h3 h4 h5 h6=>cases h6;exact .void rfl .nil
 |own0 h5 h6=>cases h6;exact .void rfl .nil
theorem LN {n e:Nat} {a d:Nat->Rat} (hn:n<2^30) (he:e<2^30) (hz:oq n e d a) {cx:Ctx} (hk:Kept [] cx) {Q:au->aP->Prop}
  (hQ:az P cx f97.ntmps (part rF [1,1,1,1,1]) ⟨aH pI (vR n e d (n-e)),rY n e (cC e d a (n-e) (n-e)) (ej e d a (n-e)),2⟩ Q):
  az P cx f97.ntmps rF ⟨aZ 0 [bG a n af,bG d (e+1) af],[],0⟩ Q:=by
 have hW:=cP
 obtain⟨R,hR⟩:∃R,R=n-e:=⟨_,rfl⟩
 unfold oq at hz
 rw[<-hR]at hz
 obtain⟨hzR,hzQ⟩:=hz
 have hz0:cU n a:=hzR 0 (Nat.zero_le _)
 refine az.rI hT Hh hm (x:=rF) [1,1,1,1,0,1] (i:=0) (y:=AJ) (z:=part rF [1,1,1,1,1]) ah ah ah FQ.dst [1,0] (j:=1) (x1:=wF) (zb:=part AJ [1,1]) ah ah ah [1,1,1] (i2:=2) (y2:=part wF [1,1,1,0,0]) ah ah rfl hk
  (f1:=[18]) (f2:=[32]) (f3:=[]) (f4:=[57]) (f5:=[]) 60 pI vC 2 3 (fun j:Nat=>vR n e d j) (fun j=>rY n e (cC e d a R j) (nw e d a R j)) (fun j=>j<=R) (fun j=>j=R) (fun j=>R-j) (fun j=>j<R) (fun _=>False) (fun _=>False)
  (fun j (i:Nat)=>Fa n e d (R-1-j) i) (fun j i=>E2 n e (fN e d (cC e d a R j) (R-1-j) (ej e d a R (R-1-j)) i) (nw e d a R (j+1)) (ej e d a R (R-1-j))) (fun j i=>i<=e+1/\cU n (fN e d (cC e d a R j) (R-1-j) (ej e d a R (R-1-j)) i)) (fun j i=>i=e+1) (fun _ i=>e+1-i)
  ⟨_,Yy,?_⟩ (fun j hj=>⟨_,abN,?_⟩) (fun j hj hG=>?_) (fun j hj hG i ⟨hi,hxi⟩=>⟨_,aek,?_⟩) (fun j hj hG i hi=>⟨_,ajE,?_⟩) (fun j hj=>?_) (fun _ _ h=>h.elim) (fun _ _ h=>h.elim)
 ·simp only[ag.all,aC,bI,bR]
  have hq0:∀k,k<R->nw e d a R 0 k=0:=fun k hk=>by unfold nw;rw[if_pos aa]
  refine⟨aa,fun h=>⟨aa,aa,0,Nat.zero_le _,[(0,16384),(1,73728)],rfl,?_,rfl,bF rfl rfl aa (fun j hj=>bT rfl rfl) (bF rfl rfl aa (fun j hj=>.inr ⟨rfl,dG (hq0 j aa).symm aa⟩) trivial)⟩,fun h=>?_⟩
  ·rw[show((n:Int)-((e+1:Nat):Int)+1).toNat=n-e by omega,Nat.zero_add,show(n:Int)-((e+1:Nat):Int)=(n:Int)-((e:Int)+1)-((0:Nat):Int) by omega];rfl
  ·have h0:n-e=0:=aa
   refine⟨aa,0,Nat.zero_le _,[(0,16384)],rfl,?_,?_,?_⟩
   ·show _=([_,_,AV.own 1 3 0 (n-e),_]:List AV).map _
    rw[h0,Nat.zero_add,show(n:Int)-((e+1:Nat):Int)=(n:Int)-((e:Int)+1)-((0:Nat):Int) by omega];rfl
   ·show([_,_,AV.own 1 3 0 (n-e),_]:List AV).all _=true
    rw[h0];rfl
   ·refine bF rfl rfl aa (fun j hj=>bT rfl rfl) ?_
    show kq _ _ _ [(1,cI (n-e) _ _)]
    rw[h0]
    exact l6 rfl aa aa trivial
 ·simp only[ag.all,aC,bI,bR]
  have re:∀{x q:Nat->Rat},en [] ([aq 3 (e+1) fun i=>rat (d i) af,own 0 3 0 n,own 1 3 0 (n-e),int i64 ((↑n:Int)-((↑e:Int)+1)-(↑j:Int))],[(1,aA.mk true true 3 (n-e) fun i=>rat (q i) af),(0,aA.mk true true 3 n fun i=>rat (x i) af)]) (vR n e d j) (rY n e x q) 2:=⟨[(0,0),(1,1)],rfl,rfl,rfl,bF rfl rfl rfl (fun j hj=>bT rfl rfl) (bF rfl rfl rfl (fun j hj=>bT rfl rfl) trivial)⟩
  exact⟨fun h=>⟨aa,re⟩,fun h=>⟨rfl,j,aa,re⟩⟩
 ·show∃t,aL T qa [] 60 vC (before wF [1,1,1]) ⟨aH pI [_,_,_,.int .i64 ((n:Int)-((e:Int)+1)-(j:Int))],_,_⟩=some t/\_
  rw[show(n:Int)-((e:Int)+1)-(j:Int)=(R-1-j:Nat) by omega]
  refine⟨_,aiS,?_⟩
  simp only[ag.all,aC,Nat.add_zero,bS]
  rw[show((R-1-j:Nat):Int)+((e+1:Nat):Int)-1=(R-1-j+e:Nat) by omega,show(((e+1:Nat):Int)-1).toNat=e by omega,bS]
  have hf:cC e d a R j (R-1-j+e)/d e=ej e d a R (R-1-j):=by unfold ej;rw[show R-1-(R-1-j)=j by omega]
  have hu0:fN e d (cC e d a R j) (R-1-j) (ej e d a R (R-1-j)) 0=cC e d a R j:=by funext i;unfold fN;rw[if_neg aa]
  rw[hf]
  refine⟨aa,aa,0,⟨Nat.zero_le _,by rw[hu0];exact hzR j aa⟩,[(0,0),(1,1),(2,61442)],rfl,rfl,rfl,kg rfl rfl (.inr ⟨rfl,eM hf (hzQ _ aa)⟩) (bF rfl rfl rfl (fun i hi=>.inr ⟨rfl,dG (by rw[hu0]) aX⟩) (bF rfl rfl rfl (fun i hi=>?_) trivial))⟩
  refine nS (x:=nw e d a R j) (y:=nw e d a R (j+1)) (eM ?_ ?_) fun hi=>dG ?_ aX
  ·unfold nw;rw[if_neg aa]
  ·unfold nw;rw[if_neg aa];exact hzQ _ aa
  ·unfold nw
   by_cases h:i+j<R
   ·rw[if_pos h,if_pos aa]
   ·rw[if_neg h,if_neg aa]
 ·simp only[ag.all,aC,bI,bR,Nat.add_zero]
  rw[show((R-1-j:Nat):Int)+(i:Int)=(R-1-j+i:Nat) by omega,bS,bS]
  refine⟨fun h=>?_,fun h=>⟨rfl,i,aa,[(0,0),(1,1),(2,2)],rfl,rfl,rfl,dD (bF rfl rfl rfl (fun j hj=>bT rfl rfl) (bF rfl rfl rfl (fun j hj=>bT rfl rfl) trivial))⟩⟩
  have hs:Sz (fN e d (cC e d a R j) (R-1-j) (ej e d a R (R-1-j)) (i+1) (R-1-j+i)) af:=by
   have:=hzR (j+1) aa (R-1-j+i) aa
   have e1:cC e d a R (j+1) (R-1-j+i)=fN e d (cC e d a R j) (R-1-j) (ej e d a R (R-1-j)) (i+1) (R-1-j+i):=by
    show g8 e d (R-1-j) (cC e d a R j) _=_
    unfold g8 fN
    rw[if_pos aa,if_pos aa]
    unfold ej
    rw[show R-1-(R-1-j)=j by omega]
   rwa [e1]at this
  refine⟨aa,aa,i+1,⟨aa,fun l hl=>?_⟩,by dsimp only;omega,[(0,0),(1,1),(2,2)],rfl,by rw[show(i:Int)+1=((i+1:Nat):Int) by omega];rfl,rfl,dD (bF rfl rfl rfl (fun l hl=>?_) (bF rfl rfl rfl (fun j hj=>bT rfl rfl) trivial))⟩
  ·by_cases h3:l=R-1-j+i
   ·rw[h3];exact hs
   ·rw[<-NJ h3];exact hxi l hl
  ·exact nS (x:=fN e d (cC e d a R j) (R-1-j) (ej e d a R (R-1-j)) i) (y:=fN e d (cC e d a R j) (R-1-j) (ej e d a R (R-1-j)) (i+1)) (eM XQ hs) fun hj=>dG (NJ hj) aX
 ·subst hi
  simp only[ag.all,aC]
  have hf:cC e d a R j (R-1-j+e)/d e=ej e d a R (R-1-j):=by unfold ej;rw[show R-1-(R-1-j)=j by omega]
  refine⟨aa,j+1,hG,by dsimp only;omega,[(0,0),(1,1)],rfl,?_,rfl,bF rfl rfl rfl (fun l hl=>.inr ⟨rfl,dG ?_ aX⟩) (bF rfl rfl rfl (fun j hj=>bT rfl rfl) trivial)⟩
  ·rw[show((R-1-j:Nat):Int)-1=(n:Int)-((e:Int)+1)-((j+1:Nat):Int) by omega];rfl
  ·rw[<-hf,aje];rfl
 ·subst hj
  rw[<-hR]at hQ
  have e1:nw e d a j j=ej e d a j:=by funext k;unfold nw;rw[if_neg aa]
  show az P cx _ _ ⟨_,rY n e _ (nw e d a j j),2⟩ Q
  rw[e1]
  exact hQ
theorem acR {n e:Nat} {a d:Nat->Rat} (hn:n<2^30) (he:e<2^30) (hz:oq n e d a) (K:Nat):aW P 97 K [bG a n af,bG d (e+1) af] [] (aO (wq n e d a) []):=by
 refine jj (r:=aO (wq n e d a) []) hT FQ rfl bh rfl (fun _ cx h0=>?_) K []
 refine LN hn he hz (nr h0) (az.nR ((aJ.fin hT Hh hm 60 Zh ah ?_).mono fun _ _ h=>.inl h))
 simp only[ag.all,aC,Nat.add_zero]
 exact⟨⟨aX,aa,fun j hj=>⟨rfl,.refl _⟩,aX,aa,fun j hj=>⟨rfl,.refl _⟩⟩,.refl _,.refl _,trivial⟩
theorem Ox:bp P Br 97:=dy fun⟨⟨n,a⟩,⟨m,d⟩,_⟩ K hn=>by
 obtain⟨h1,h2,h3,h4,h5,h6⟩:=hn
 simp only at h1 h2 h3
 obtain⟨e,rfl⟩:∃e,m=e+1:=⟨m-1,aa⟩
 have h3:e+1<2^30:=h3
 exact acR (e:=e) h1 aa h6 K
theorem ZM {args:List AV} {n e:Nat} {a d:Nat->Rat} {l:List Prop} (ha:aC l->iF (bD []) args [bG a n af,bG d (e+1) af]) (hl:aC l->n<2^30/\e<2^30/\oq n e d a) (K:Nat):
  aW P 97 K args [] ⟨pz [.void,.own K 3 0 (bO (cC e d a (n-e) (n-e)) n)],[(K,cI n (cC e d a (n-e) (n-e)) af)],l⟩:=by
 refine DP hT FQ ha bh fun need c hk=>?_
 obtain⟨hn,he,hz⟩:=hl need
 refine LN hn he hz hk (az.bU hT Hh hm 60 [4,5] Uy ah ?_)
 simp only[ag.all,aC]
 exact⟨⟨aX,aa,fun j hj=>⟨rfl,.refl _⟩,aX,aa,fun j hj=>⟨rfl,.refl _⟩⟩,fun s' hs'=>⟨.inr trivial,[4,5],_,[.own 1 3 0 (bO (ej e d a (n-e)) (n-e)),.own 0 3 0 (bO (cC e d a (n-e) (n-e)) n)],_,0,_,hs',ah,⟨⟨rfl,UN⟩,⟨rfl,eR (by simp[bD,look]) rfl rfl⟩,trivial⟩,rfl,iQ rfl fun i hi=>fR rfl⟩⟩
end Go.Am.B
namespace Go.Am
def gO (a b:PP):Prop:=a.1=b.1/\∀i,i<a.1->a.2 i=b.2 i
theorem gO.refl (a:PP):gO a a:=⟨rfl,fun _ _=>rfl⟩
theorem gO.symm {a b:PP} (h:gO a b):gO b a:=⟨h.1.symm,fun i hi=>(h.2 i (by rw[h.1];exact hi)).symm⟩
theorem gO.trans {a b c:PP} (h:gO a b) (h':gO b c):gO a c:=⟨h.1.trans h'.1,fun i hi=>(h.2 i hi).trans (h'.2 i (by rw[<-h.1];exact hi))⟩
theorem MW {n e R:Nat} {d d' a a':Nat->Rat} (hR:R=n-e) (ha:∀i,i<n->a i=a' i) (hd:∀i,i<=e->d i=d' i):∀j,j<=R->∀i,i<n->cC e d a R j i=cC e d' a' R j i
 |0,_,i,hi=>ha i hi
 |j+1,hj,i,hi=>by
  have ih:=MW hR ha hd j (by omega)
  show g8 e d (R-1-j) (cC e d a R j) i=g8 e d' (R-1-j) (cC e d' a' R j) i
  unfold g8
  by_cases h:R-1-j<=i/\i<R-1-j+e+1
  ·rw[if_pos h,if_pos h,ih i hi,ih (R-1-j+e) (by omega),hd e (Nat.le_refl _),hd (i-(R-1-j)) (by omega)]
  ·rw[if_neg h,if_neg h,ih i hi]
theorem Mo {n e R:Nat} {d a:Nat->Rat} {l m:Rat} (hm:m≠0):∀j i,cC e (fun i=>m*d i) (fun i=>l*a i) R j i=l*cC e d a R j i
 |0,i=>rfl
 |j+1,i=>by
  have ih:=Mo (n:=n) (e:=e) (R:=R) (d:=d) (a:=a) (l:=l) hm j
  show g8 e (fun i=>m*d i) (R-1-j) (cC e (fun i=>m*d i) (fun i=>l*a i) R j) i=l*g8 e d (R-1-j) (cC e d a R j) i
  unfold g8
  by_cases h:R-1-j<=i/\i<R-1-j+e+1
  ·rw[if_pos h,if_pos h,ih,ih]
   show _-_/(m*d e)*(m*d (i-(R-1-j)))=_
   generalize cC e d a R j i=x
   generalize cC e d a R j (R-1-j+e)=y
   generalize d (i-(R-1-j))=z
   by_cases h0:d e=0
   ·rw[h0];simp only[Rat.mul_zero,Rat.div_def,Rat.inv_zero,Rat.zero_mul];grind
   ·have e1:l*y/(m*d e)*(m*z)=l*(y/d e*z):=by
     rw[Rat.div_def,Rat.div_def,Rat.inv_mul_rev]
     have:m⁻¹*m=1:=Rat.inv_mul_cancel _ hm
     generalize (d e)⁻¹=w
     calc l*y*(w*m⁻¹)*(m*z)=l*y*w*(m⁻¹*m)*z:=by grind
      _=l*(y*w*z):=by rw[this];grind
    rw[e1];grind
  ·rw[if_neg h,if_neg h,ih]
theorem Jq {k:Nat->Rat} {l:Rat} (hl:l≠0):∀n,bO (fun i=>l*k i) n=bO k n
 |0=>rfl
 |n+1=>by
  unfold bO
  by_cases h:k n=0
  ·rw[if_pos h,if_pos (by rw[h,Rat.mul_zero]),Jq hl n]
  ·rw[if_neg h,if_neg fun h0=>(Rat.mul_eq_zero.1 h0).elim hl h]
def ng (a b:PP):Prop:=∃l:Rat,l≠0/\a.1=b.1/\∀i,i<a.1->a.2 i=l*b.2 i
theorem IP {a:PP} (h:Trim a):ng (dM a) a:=by
 rcases h with h|h
 ·exact⟨1,by decide,rfl,fun i hi=>absurd hi (by show¬i<a.1;omega)⟩
 ·refine⟨(a.2 (a.1-1))⁻¹,fun h0=>h (by rw[<-Rat.inv_inv (a.2 (a.1-1)),h0,Rat.inv_zero]),rfl,fun i _=>?_⟩
  show cN a.1 a.2 i=_
  unfold cN
  rw[Rat.div_def,Rat.mul_comm]
theorem ng.cN {a b:PP} (h:ng a b):gO (dM a) (dM b):=by
 obtain⟨l,hl,h1,h2⟩:=h
 refine⟨h1,fun i hi=>?_⟩
 have hi:i<a.1:=hi
 show Go.Am.cN a.1 a.2 i=Go.Am.cN b.1 b.2 i
 unfold Go.Am.cN
 rw[h2 i hi,h2 (a.1-1) (by omega),h1,Rat.div_def,Rat.div_def,Rat.inv_mul_rev]
 have:l*l⁻¹=1:=Rat.mul_inv_cancel _ hl
 generalize (b.2 (b.1-1))⁻¹=w
 calc l*b.2 i*(w*l⁻¹)=(l*l⁻¹)*(b.2 i*w):=by grind
  _=_:=by rw[this,Rat.one_mul]
theorem ng.rem {a b d f:PP} (h:ng a b) (h':ng d f) (hd:0<d.1):ng (dj a d) (dj b f):=by
 obtain⟨l,hl,h1,h2⟩:=h
 obtain⟨m,hm,g1,g2⟩:=h'
 have key:∀i,i<a.1->cC (d.1-1) d.2 a.2 (a.1-(d.1-1)) (a.1-(d.1-1)) i=l*cC (d.1-1) f.2 b.2 (a.1-(d.1-1)) (a.1-(d.1-1)) i:=fun i hi=>by
  rw[MW (a':=fun i=>l*b.2 i) (d':=fun i=>m*f.2 i) rfl h2 (fun i hi=>g2 i (by omega)) _ (Nat.le_refl _) i hi,Mo (n:=a.1) hm]
 have e1:(dj a d).1=(dj b f).1:=by
  show bO _ _=bO _ _
  rw[<-g1,<-h1,DR key,Jq hl]
 refine⟨l,hl,e1,fun i hi=>?_⟩
 have hi:i<(dj a d).1:=hi
 show cC _ _ _ _ _ i=l*cC _ _ _ _ _ i
 rw[<-g1,<-h1]
 exact key i (Nat.lt_of_lt_of_le hi fK)
theorem gO.tM {a b:PP} (h:gO a b):ng a b:=⟨1,by decide,h.1,fun i hi=>by rw[h.2 i hi,Rat.one_mul]⟩
theorem acC {a:PP} (h:Trim a):gO (dM (dM a)) (dM a):=(IP h).cN
theorem N8 {s t:PP×PP} (h1:Trim t.1) (h2:Trim t.2) (g1:gO s.1 (dM t.1)) (g2:gO s.2 (dM t.2)):∀j,gO (bW s j).1 (dM (bW t j).1)/\gO (bW s j).2 (dM (bW t j).2)
 |0=>⟨g1,g2⟩
 |j+1=>by
  obtain⟨i1,i2⟩:=N8 h1 h2 g1 g2 j
  obtain⟨t1,t2⟩:=lC h1 h2 j
  show gO (fZ _).1 (dM (fZ _).1)/\gO (fZ _).2 (dM (fZ _).2)
  have hl:(bW s j).2.1=(bW t j).2.1:=i2.1
  unfold fZ
  by_cases h0:(bW t j).2.1=0
  ·rw[if_pos h0,if_pos (hl.trans h0)];exact⟨i1,i2⟩
  ·rw[if_neg h0,if_neg (by rw[hl];exact h0)]
   refine⟨i2,?_⟩
   have hs1:ng (bW s j).1 (bW t j).1:=by
    obtain⟨l,a1,a2,a3⟩:=IP t1
    exact⟨l,a1,i1.1,fun i hi=>by rw[i1.2 i hi,a3 i (by rw[<-i1.1];exact hi)]⟩
   have hs2:ng (bW s j).2 (bW t j).2:=by
    obtain⟨l,a1,a2,a3⟩:=IP t2
    exact⟨l,a1,i2.1,fun i hi=>by rw[i2.2 i hi,a3 i (by rw[<-i2.1];exact hi)]⟩
   have:=(ng.rem hs1 hs2 (by omega)).cN
   exact this.trans (acC qI).symm
def agd (a b:PP):PP:=(bW (dM a,dM b) b.1).1
theorem aas {a b:PP} (h1:Trim a) (h2:Trim b):gO (agd a b) (bN a b):=(N8 (s:=(dM a,dM b)) (t:=(a,b)) h1 h2 (gO.refl _) (gO.refl _) b.1).1
end Go.Am
namespace Go.Am.B
open Go Go.Am.N AV ag au IntKind Proofs.Tryz
def BL:bE:=zG::(97,Br)::(152,Ik)::iH
abbrev AM:Code:=aK f100
def qw (a b:PP):Prop:=cU a.1 (cN a.1 a.2)/\cU b.1 (cN b.1 b.2)/\oB (dM a,dM b)
def Cj:Spec:=ef (kC (kL af) (kC (kL af) kN)) (fun a=>aD (bN a.1 a.2.1)) fun a=>[a.1.1<2^30,a.2.1.1<2^30,Trim a.1,Trim a.2.1,qw a.1 a.2.1]
def ai2 (a:PP):Prop:=a.1≠0->qw a (bz a)/\nk a (bN a (bz a))/\cU (bg a).1 (bg a).2
def vJ (a:PP):Prop:=a.1≠0/\a.1<2^30/\Trim a/\cU (a.1-1) (cV a.2)/\ai2 a
def OB:Spec:=ef (kC (kL af) kN) (fun a=>aD (bg a.1)) fun a=>[vJ a.1]
def NV:bE:=zG::(97,Br)::(152,Ik)::(125,r9)::(100,Cj)::iH
theorem SB:bu 100 f100:=bC func100
theorem agh:bu 99 f99:=bC func99
theorem ahL {a b:PP}:aL T BL [] 60 pF (before AM [1,1,0]) ⟨aZ 0 [aD a,aD b],[],0⟩=
  some (aj [aR a,a.1<2^40,Trim a,cU a.1 (cN a.1 a.2),aR b,b.1<2^40,Trim b,cU b.1 (cN b.1 b.2)] (leaf normal ([aD (dM a),aD (dM b)],[]))):=ah
theorem S5 {a b:PP}:aL T BL [13] 60 pF [part AM [1,1,0,0,0]] ⟨aH pF [aD a,aD b],[],0⟩=
  some (fork (decide ((b.1:Int)>0)) (aj [aR a,aR b,a.1<2^30,1<=b.1,b.1<2^30,Trim a,Trim b,nk a b] (aj [aR (dj a b),(dj a b).1<2^40,Trim (dj a b),cU (dj a b).1 (cN (dj a b).1 (dj a b).2)] (leaf normal ([aD b,aD (dM (dj a b))],[])))) (leaf (exit 0) ([aD a,aD b],[]))):=ah
theorem V4 {a b:PP}:dc T BL [] 60 f100 [part AM [1,1,1]] ⟨aH pF [aD a,aD b],[],0⟩=some (leaf ret [aD a]):=ah
theorem WX {a:PP}:cy T NV [] 60 f99 (aK f99) ⟨aZ 0 [aD a],[],0⟩=
  some (aj [aR a,a.1<2^40,cU (a.1-1) (cV a.2),aR a,aR (bz a),a.1<2^30,(bz a).1<2^30,Trim a,Trim (bz a),qw a (bz a),aR a,aR (bN a (bz a)),a.1<2^30,1<=(bN a (bz a)).1,(bN a (bz a)).1<2^30,Trim a,Trim (bN a (bz a)),nk a (bN a (bz a))] (aj [aR (fE a (bN a (bz a))),(fE a (bN a (bz a))).1<2^40,Trim (fE a (bN a (bz a))),cU (fE a (bN a (bz a))).1 (cN (fE a (bN a (bz a))).1 (fE a (bN a (bz a))).2)] (leaf ret [aD (dM (fE a (bN a (bz a))))]))):=ah
theorem ad3:bY P BL:=iu (aM Ox (aM MI iE))
theorem XF {a b:PP} (ha:a.1<2^30) (hb:b.1<2^30) (ta:Trim a) (tb:Trim b) (hz:qw a b) (K:Nat):aW P 100 K [aD a,aD b] [] (aO (aD (bN a b)) []):=by
 obtain⟨za,zb,hz⟩:=hz
 obtain⟨s,hs⟩:∃s,s=(dM a,dM b):=⟨_,rfl⟩
 have t1:Trim s.1:=by rw[hs];exact mO ta
 have t2:Trim s.2:=by rw[hs];exact mO tb
 have hT1:=lC t1 t2
 have hL:=yN t1 t2
 have hB:=xF (s:=s) (B:=2^30-1) (by rw[hs];show a.1<=_;omega) (by rw[hs];show b.1<=_;omega) t1 t2
 have hb2:s.2.1=b.1:=by rw[hs];rfl
 rw[<-hs]at hz
 refine jA (r:=aO (aD (bN a b)) []) hT ad3 hm SB rfl bh rfl [1,1,0] (i:=0) (y:=part AM [1,1,0,0,0]) (z:=part AM [1,1,1]) ah ah ah (f1:=[]) (f2:=[13]) (f3:=[]) 60 pF 0
  (fun j:Nat=>xO (bW s j)) (fun _=>[]) (fun j=>j<=b.1) (fun j=>j<=b.1/\(bW s j).2.1=0) (fun j=>(bW s j).2.1) (fun _=>⟨⟨_,ahL (a:=a) (b:=b),?_⟩,fun j hj=>⟨_,S5,?_⟩,fun j hj=>⟨_,V4,?_⟩⟩) K []
 ·simp only[ag.all,aC]
  exact⟨⟨cK,aa,ta,za,cK,aa,tb,zb⟩,0,Nat.zero_le _,by rw[hs];exact en.vals rfl⟩
 ·have h1:=hT1 j
  have h2:=hL j
  have h3:=hB j
  have h4:=hB (j+1)
  have h5:=hz.1 j
  have e1:(bW s j).2.1≠0->bW s (j+1)=((bW s j).2,dM (dj (bW s j).1 (bW s j).2)):=fun h=>if_neg h
  have e2:=hL (j+1)
  obtain⟨x,y,hx⟩:∃x y,bW s j=(x,y):=⟨_,_,rfl⟩
  rw[hx]at h1 h2 h3 h5 e1
  dsimp only at h1 h2 h3 h5 e1
  simp only[ag.all,aC,bI,bR,hx]
  refine⟨fun h=>?_,fun h=>⟨rfl,j,⟨hj,by rw[hx];dsimp only;omega⟩,by show en _ _ (xO (bW s j)) _ _;rw[hx];exact en.vals rfl⟩⟩
  have hy:y.1≠0:=aa
  have e1:=e1 hy
  rw[e1]at h4 e2
  have hr:(dj x y).1<y.1:=oA aa h1.2
  refine⟨⟨cK,cK,aa,aa,aa,h1.1,h1.2,(h5 hy).1⟩,⟨cK,aa,qI,(h5 hy).2⟩,j+1,aa,?_,?_⟩
  ·show(bW s (j+1)).2.1<(bW s j).2.1
   rw[e1,hx];exact hr
  ·show en _ _ (xO (bW s (j+1))) _ _
   rw[e1];exact en.vals rfl
 ·obtain⟨hj,h0⟩:=hj
  have hst:=Gl h0 (b.1-j)
  rw[show j+(b.1-j)=b.1 by omega]at hst
  have hg:gO (bW s j).1 (bN a b):=by rw[<-hst,hs];exact aas ta tb
  simp only[ag.all]
  obtain⟨g1,g2⟩:=hg
  show bf (bG _ _ _) (bG _ _ _)
  rw[<-g1]
  exact jk fun i hi=>dG (g2 i hi) aX
theorem IN:bp P Cj 100:=dy fun⟨a,b,_⟩ K hn=>XF hn.1 hn.2.1 hn.2.2.1 hn.2.2.2.1 hn.2.2.2.2 K
theorem adI:bY P NV:=iu (aM Ox (aM MI (aM IS (aM IN iE))))
theorem Ux {a:PP} (hz:vJ a) (K:Nat):aW P 99 K [aD a] [] (aO (aD (bg a)) []):=by
 obtain⟨h0,ha,ta,hd,hz⟩:=hz
 refine cB hT adI hm agh rfl bh rfl 60 WX (fun _=>?_) K []
 simp only[ag.all,aC]
 obtain⟨z1,z2,z3⟩:=hz h0
 have e0:bg a=dM (fE a (bN a (bz a))):=if_neg h0
 rw[e0]at z3 ⊢
 have hd1:(bz a).1<=a.1-1:=fK
 have hg:=xF (s:=(a,bz a)) (B:=a.1) aX (by dsimp only;omega) ta eC (bz a).1
 have hgl:(bN a (bz a)).1<=a.1:=hg
 have hgp:0<(bN a (bz a)).1:=mh aa
 have tg:Trim (bN a (bz a)):=j9 ta eC
 have hq:(fE a (bN a (bz a))).1<=a.1:=Nat.le_trans fK (Nat.sub_le _ _)
 exact⟨⟨cK,aa,hd,cK,cK,ha,aa,ta,eC,z1,cK,cK,ha,hgp,aa,ta,tg,z2⟩,⟨cK,aa,yz,z3⟩,.refl _⟩
theorem Xl:bp P OB 99:=dy fun⟨a,_⟩ K hn=>Ux hn K
def Ki:Spec:=sN fun K l=>match l with
 |[u,v]=>match(kL af).read u,(kL af).read v with
  |some (a,q1),some (d,q2)=>some ⟨.tuple [.void,.own K 3 0 (dj a d).1],[(K,cI a.1 (dj a d).2 af)],q1++(q2++[a.1<2^30,1<=d.1,d.1<2^30,nk a d])⟩
  |_,_=>none
 |_=>none
def sX:bE:=zG::(97,Ki)::(125,r9)::(99,OB)::(52,AR)::iH
abbrev vG:Code:=aK f63
abbrev Fc:Code:=part vG [1,1,1,1,0,0,0]
abbrev ve:Code:=part Fc [1,0]
abbrev ru:List Nat:=[3,4,5]
abbrev xw:List Nat:=[4,5,7,8]
abbrev DA (y:PP) (j n i:Nat):List AV:=[.own 0 1 0 (j+1+1),aD y,.own 1 3 0 n,.int .i64 i]
abbrev D4 (s:PP×PP) (j m:Nat) (r:Nat->Rat):aI:=[(0,nX (j+1+1) s),(1,cI m r af)]
theorem Ka:bu 63 f63:=bC func63
theorem Yx {a:PP}:aL T sX [] 60 ru (before vG [1,1,1,1,0]) ⟨aZ 0 [aD a],[],0⟩=
  some (aj [aR a,vJ a] (aj [(1:Nat)*1<=2^24] (aj [aR (bg a),(bg a).1<2^40,cU ((bg a).1-1) (cV (bg a).2)] (leaf normal ([aD (bg a),own 20480 1 0 1,aD (bz (bg a))],[(20480,aA.mk true true 1 1 fun i=>nth [aD (bg a)] nil i)]))))):=ah
theorem afo {x y:PP} {s:PP×PP} {j:Nat}:aL T sX [17] 60 ru (before Fc [1]) ⟨aH ru [aD x,.own 0 1 0 (j+1),aD y],[(0,nX (j+1) s)],1⟩=
  some (fork (decide ((y.1:Int)>0)) (leaf normal ([aD x,own 0 1 0 (j+1),aD y],[((0:Nat),nX (j+1) s)])) (leaf (exit 0) ([aD x,own 0 1 0 (j+1),aD y],[((0:Nat),nX (j+1) s)]))):=ah
theorem aaA {x y:PP} {s:PP×PP} {j:Nat}:aL T sX [] 60 xw (before ve [1,1,0,1]) ⟨aH ru [aD x,.own 0 1 0 (j+1),aD y],[(0,nX (j+1) s)],1⟩=
  let d:=y.fst-1;let b:=j+1;let e:=b+1;let a:=x.fst-d;some (aj [(1:Nat)*1<=2^24,e*((24:Nat)+1)*2<=2^47] (aj [cL (fun i=>rat (x.snd i) af) x.fst af,cL (fun i=>rat (y.snd i) af) y.fst af,x.fst<2^30,(1:Nat)<=y.fst,y.fst<2^30,nk (x.fst,fun i=>aN (rat (x.snd i) af)) (y.fst,fun i=>aN (rat (y.snd i) af))] (leaf normal ([own 12289 1 0 e,aq 3 y.fst fun i=>rat (y.snd i) af,own 28673 3 0 (bO (cC d (fun i=>aN (rat (y.snd i) af)) (fun i=>aN (rat (x.snd i) af)) a a) x.fst),int i64 0],[(28673,aA.mk true true 3 x.fst fun i=>rat (cC d (fun i=>aN (rat (y.snd i) af)) (fun i=>aN (rat (x.snd i) af)) a a i) af),(12289,aA.mk true true 1 e fun i=>if i<b then aD (bH s i).fst else nth [aq 3 y.fst fun i=>rat (y.snd i) af] nil (i-b+0))])))):=ah
theorem XU {y:PP} {s:PP×PP} {j m n i:Nat} {r:Nat->Rat}:aL T sX [31] 60 xw [part ve [1,1,0,1,0,0]] ⟨aH xw (DA y j n i),D4 s j m r,2⟩=
  let l:=j+1+1;let h:=own 1 3 0 n;let f:=aq 3 y.fst fun i=>rat (y.snd i) af;let a:=(↑i:Int);let d:=a+1;let k:=(0:Int)<=a/\a.toNat<n;let g:=own 0 1 0 l;let b:=a.toNat+0;let e:Nat×aA:=(0,aA.mk true true 1 l fun i=>aq 3 (bH s i).fst.fst fun i_1=>rat ((bH s i).fst.snd i_1) af);some (fork (decide (a<(↑n:Int))) (aj [k,b<m,k,b<m] (aj [-(2:Int)^63<=d/\d<2^63] (leaf normal ([g,f,h,int i64 d],[(1,aA.mk true true 3 m fun j=>rat (bif j==b then-r b else r j) (bif j==b then af else af)),e])))) (leaf (exit 2) ([g,f,h,int i64 a],[(1,aA.mk true true 3 m fun i=>rat (r i) af),e]))):=ah
theorem X8 {y z:PP} {s:PP×PP} {j i m:Nat} {r:Nat->AV}:aL T sX [] 60 ru [part ve [1,1,1]] ⟨r8 (some 7) (.aq 3 z.1 r) (aH xw (DA y j z.1 i)),put 1 ⟨true,false,3,m,r⟩ (D4 s j m z.2),2⟩=
  let b:=j+1+1;some (leaf normal ([aq 3 y.fst fun i=>rat (y.snd i) af,own 0 1 0 b,aq 3 z.fst fun a=>r a],[(0,aA.mk true true 1 b fun i=>aq 3 (bH s i).fst.fst fun i_1=>rat ((bH s i).fst.snd i_1) af)])):=ah
theorem acp {x y:PP} {s:PP×PP} {j:Nat}:dc T sX [] 60 f63 [part vG [1,1,1,1,1]] ⟨aH ru [aD x,.own 0 1 0 (j+1),aD y],[(0,nX (j+1) s)],1⟩=
  some (leaf ret [aq 1 (j+1) fun i=>aq 3 (bH s (i+0)).fst.fst fun i_1=>rat ((bH s (i+0)).fst.snd i_1) af]):=ah
theorem abw:bp P Ki 97:=by
 refine xC fun K args r hk hs=>?_
 split at hs
 ·rename_i u v
  split at hs
  ·rename_i a q1 d q2 hu hv
   simp only[aB]at hs
   subst hs
   intro need
   obtain⟨n1,n2⟩:=ia.1 need
   obtain⟨n2,h1,h2,h3,h4⟩:=ia.1 n2
   have e1:bG d.2 (d.1-1+1) af=aD d:=by rw[show d.1-1+1=d.1 by omega]
   refine(ZM (e:=d.1-1) (a:=a.2) (d:=d.2) (n:=a.1) (l:=q1++(q2++[a.1<2^30,1<=d.1,d.1<2^30,nk a d])) (fun _=>?_) (fun _=>⟨h1,aa,h4⟩) K) need
   rw[e1]
   exact Ef hk (by cases u<;>first|(exfalso;simp[kL,tQ]at hu;done)|(cases v<;>first|rfl|(exfalso;simp[kL,tQ]at hv;done))) ⟨(kL af).ok hu n1,(kL af).ok hv n2,trivial⟩
  ·simp at hs
 ·simp at hs
theorem Hq:bY P sX:=iu (aM abw (aM IS (aM Xl (aM Df iE))))
def jJ (a:PP):Prop:=vJ a/\cU ((bg a).1-1) (cV (bg a).2)/\A6 (eG a)
def pG (x:Nat->Rat) (i j:Nat):Rat:=if j<i then-x j else x j
theorem Wj (q:Rat):((-1:Int):Rat)*q=-q:=by
 rw[show((-1:Int):Rat)=-1 by rfl,Rat.neg_mul,Rat.one_mul]
theorem Ty {a:PP} (hz:jJ a) (K:Nat):aW P 63 K [aD a] [] (aO (eH (aS a) (aQ a)) []):=by
 obtain⟨hz0,hd2,hs⟩:=hz
 have ha:=hz0.2.1
 obtain⟨s,hss⟩:∃s,s=eG a:=⟨_,rfl⟩
 have t1:Trim s.1:=by rw[hss];exact iI
 have t2:Trim s.2:=by rw[hss];exact eC
 have hTr:=mU t1 t2
 obtain⟨g1,g2,g3⟩:=lS t1 t2
 have hfl:(bg a).1<=a.1:=by
  unfold bg;split
  ·exact Nat.zero_le _
  ·exact Nat.le_trans fK (Nat.sub_le _ _)
 have hdl:(bz (bg a)).1<=(bg a).1-1:=fK
 have hB:=HP (s:=s) (B:=2^30-1) (by rw[hss];show(bg a).1<=_;omega) (by rw[hss];show(bz (bg a)).1<=_;omega) t1 t2
 have hg0:s.2.1=(bz (bg a)).1:=by rw[hss];rfl
 have hg:eo s<2^30:=aa
 have hW:=cP
 show aW P 63 K [aD a] [] (aO (CU (eo (eG a)+1) (eG a)) [])
 rw[<-hss]at hs ⊢
 refine jj (r:=aO (CU (eo s+1) s) []) hT Ka rfl bh rfl (fun _ cx h0=>?_) K []
 have hk:=nr h0
 have hj0:∀{j},j<=eo s->(bH s j).2.1≠0->j<eo s:=fun {j} hj h=>by
  rcases Nat.lt_or_ge j (eo s)with h'|h'
  ·exact h'
  ·exact absurd (by rw[show j=eo s by omega];exact g2) h
 refine az.aer hT Hq hm (x:=vG) [1,1,1,1,0] (i:=0) (y:=Fc) ah ah Ka.dst [1] (j:=1) (x1:=ve) ah ah ah [1,1,0,1] (i2:=2) (y2:=part ve [1,1,0,1,0,0]) ah ah rfl ah hk
  (f1:=[]) (f2:=[17]) (f3:=[]) (f4:=[31]) 60 ru xw 1 2 (fun j:Nat=>DN s j) (fun j=>[(0,nX (j+1) s)]) (fun j=>j<=eo s) (fun j=>j=eo s) (fun j=>eo s-j) (fun j=>j<eo s) (fun _=>False) (fun _=>False)
  (fun j (i:Nat)=>DA (bH s j).2 j (dj (bH s j).1 (bH s j).2).1 i) (fun j i=>D4 s j (bH s j).1.1 (pG (dj (bH s j).1 (bH s j).2).2 i)) (fun j i=>i<=(dj (bH s j).1 (bH s j).2).1) (fun j i=>i=(dj (bH s j).1 (bH s j).2).1) (fun j i=>(dj (bH s j).1 (bH s j).2).1-i)
  ⟨_,Yx,?_⟩ (fun j hj=>⟨_,afo,?_⟩) (fun j hj hG=>⟨_,aaA,?_⟩) (fun j hj hG i hi=>⟨_,XU,?_⟩) (fun j hj hG i hi=>?_) (fun j s' hj hs'=>?_) (fun _ _ h=>h.elim) (fun _ _ h=>h.elim)
 ·simp only[ag.all,aC]
  refine⟨⟨cK,hz0⟩,aa,⟨cK,Nat.lt_of_le_of_lt hfl aa,hd2⟩,0,Nat.zero_le _,[(0,20480)],rfl,by rw[hss];rfl,rfl,bF rfl rfl rfl (fun i hi=>?_) trivial⟩
  obtain rfl:i=0:=aa
  rw[hss];exact bT rfl rfl
 ·simp only[ag.all,bI,bR]
  have re:en [] ([aD (bH s j).1,own 0 1 0 (j+1),aD (bH s j).2],[((0:Nat),nX (j+1) s)]) (DN s j) [(0,nX (j+1) s)] 1:=⟨[(0,0)],rfl,rfl,rfl,bF rfl rfl rfl (fun i hi=>bT rfl rfl) trivial⟩
  refine⟨fun h=>⟨hj0 hj aa,re⟩,fun h=>⟨rfl,j,?_,re⟩⟩
  rcases Nat.lt_or_ge j (eo s)with h'|h'
  ·have:=g3 j h';omega
  ·omega
 ·have h1:=hTr j
  have h3:=hB j hj
  have hy:=g3 j hG
  simp only[ag.all,aC]
  refine⟨⟨aa,aa⟩,⟨cK,cK,aa,aa,aa,(hs j hG).1⟩,0,Nat.zero_le _,[(0,12289),(1,28673)],rfl,rfl,rfl,bF rfl rfl rfl (fun i hi=>?_) (bF rfl rfl rfl (fun i hi=>bT rfl ?_) trivial)⟩
  ·by_cases hi2:i<j+1
   ·rw[if_pos hi2];exact bT rfl rfl
   ·rw[if_neg hi2,show i-(j+1)+0=0 by omega,show i=j+1 by omega];exact bT rfl rfl
  ·show AV.rat ((dj (bH s j).1 (bH s j).2).2 i) af=AV.rat (pG _ 0 i) af
   unfold pG;rw[if_neg (Nat.not_lt_zero i)]
 ·have h3:=hB j hj
  have hrl:(dj (bH s j).1 (bH s j).2).1<=(bH s j).1.1:=fK
  simp only[ag.all,aC,bI,bR,bS,Nat.add_zero]
  refine⟨fun h=>⟨aa,aa,i+1,aa,by dsimp only;omega,[(0,0),(1,1)],rfl,by rw[show(i:Int)+1=((i+1:Nat):Int) by omega];rfl,rfl,bF rfl rfl rfl (fun l hl=>bT rfl rfl) (bF rfl rfl rfl (fun l hl=>?_) trivial)⟩,fun h=>⟨rfl,i,aa,[(0,0),(1,1)],rfl,rfl,rfl,bF rfl rfl rfl (fun l hl=>bT rfl rfl) (bF rfl rfl rfl (fun l hl=>bT rfl rfl) trivial)⟩⟩
  refine nS (x:=pG _ i) (y:=pG _ (i+1)) (dG ?_ aX) fun hl=>dG (F8 hl).symm aX
  unfold pG;rw[if_neg (Nat.lt_irrefl i),if_pos (Nat.lt_succ_self i)]
 ·subst hi
  obtain⟨z,hzz⟩:∃z:PP,z=((dj (bH s j).1 (bH s j).2).1,pG (dj (bH s j).1 (bH s j).2).2 (dj (bH s j).1 (bH s j).2).1):=⟨_,rfl⟩
  have e1:behind ve [1,1,0,1]=[part ve [1,1,1]]:=ah
  rw[e1]
  show aJ P cx _ _ ⟨aH xw (DA (bH s j).2 j _ _),D4 s j _ _,2⟩ _
  rw[show(dj (bH s j).1 (bH s j).2).1=z.1 by rw[hzz],show pG (dj (bH s j).1 (bH s j).2).2 z.1=z.2 by rw[hzz]]
  refine aJ.one (az.dS (t:=7) (k:=1) (es:=3) (s0:=0) (n:=z.1) (o:=cI (bH s j).1.1 z.2 af) rfl rfl rfl rfl (az.bU hT Hq hm 60 ru X8 ah ?_))
  simp only[ag.all,aC]
  refine fun s' hs'=>⟨j+1,hG,by dsimp only;omega,Ep [(0,0)] hs' (fun k x h=>absurd (hk k x h) List.not_mem_nil) rfl ⟨aY,⟨rfl,eR (by simp[bD,look]) rfl rfl⟩,⟨rfl,jD rfl ?_⟩,trivial⟩ (wL (bF rfl rfl rfl (fun i hi=>bT rfl rfl) trivial))⟩
  show bf (bG (fun i=>z.2 (i+0)) z.1 af) (aD (bH s (j+1)).2)
  rw[hzz]
  refine jk fun i hi=>dG ?_ aX
  show pG _ _ i=((-1:Int):Rat)*_
  unfold pG
  rw[if_pos hi,Wj]
 ·subst hj
  rw[show behind vG [1,1,1,1,0]=[part vG [1,1,1,1,1]]from by kernel_rfl]
  exact aJ.weak rfl hs' (aJ.mono (fun _ _ h=>.inl h) (aJ.fin hT Hq hm 60 acp ah (.refl _)))
abbrev AY:Code:=aK f76
abbrev Aa:List Nat:=[0,3,4,5,6]
abbrev Gm (a:PP) (i:Nat):List AV:=[aD a,.ptr 0 0 3 0 [],.ptr 1 0 3 0 [],.ptr 2 0 3 0 [],.int .i64 ((a.1:Int)-1-(i:Int))]
abbrev Aw:Code:=aK f161
abbrev vv:List Nat:=[0,3,4,5]
abbrev x7 (a:PP) (m:Nat) (l:Int) (i:Nat):List AV:=[aD a,.int .i64 m,.int .i64 l,.int .i64 i]
def iq (a:PP) (i:Nat):Int:=bK (a.2 i)
def LB:Spec:=ef (kC (kL af) kN) (fun a=>.int .i64 ((cq (iq a.1) a.1.1).2:Nat)) fun a=>[a.1.1<2^40]
def DE:bE:=zG::(76,lT)::(161,LB)::iH
abbrev zP:Code:=aK f124
abbrev zU:List Nat:=[0,3,5,6]
abbrev IZ (n:Nat) (c:Nat->PP) (i:Nat):List AV:=[eH n c,.ptr 0 0 3 0 [],.own 1 3 0 i,.int .i64 i]
def OO:Spec:=ef (kC mW (kC (fu af) kN)) (fun a=>.int .i64 ((cq (de a.1.2 a.2.1) a.1.1).2:Nat)) fun a=>[a.1.1<2^30,cj a.1.1 a.1.2 a.2.1]
def KK:bE:=nG::(124,OO)::(76,lT)::iH
theorem TW:bu 76 f76:=bC func76
theorem aa0:bu 161 f161:=bC func161
theorem aeS:bu 124 f124:=bC func124
theorem abv:bu 62 f62:=bC func62
theorem Yn {a:PP} {t:Rat}:aL T mR [] 60 Aa (before AY [1,1,0,1]) ⟨aZ 0 [aD a,.rat t af],[],0⟩=
  let b:=(↑a.fst:Int)-1;let d:aA:=ij fun x=>rat 0 1;some (aj [-(2:Int)^63<=b/\b<2^63] (leaf normal ([aq 3 a.fst fun i=>rat (a.snd i) af,ptr 0 0 (eE (rat t af)).size 0 [],ptr 4096 0 3 0 [],ptr 8192 0 3 0 [],int i64 b],[((8192:Nat),d),((4096:Nat),d),(0,aA.mk false true (eE (rat t af)).size 1 fun x=>rat t af)]))):=ah
theorem W6 {a:PP} {t x:Rat} {i:Nat}:aL T mR [11] 60 Aa [part AY [1,1,0,1,0,0]] ⟨aH Aa (Gm a i),rQ t x,3⟩=
  let e:=0<1;let m:=ptr 2 0 3 0 [];let l:=ptr 1 0 3 0 [];let k:=ptr 0 0 3 0 [];let d:=2^41;let h:=aq 3 a.fst fun i=>rat (a.snd i) af;let g:List (Nat×aA):=[((1:Nat),ij fun x=>rat 0 1),((0:Nat),ij fun x=>rat t af)];let b:=(↑a.fst:Int)-1-(↑i:Int);let f:=b-1;some (fork (decide (b>=0)) (aj [e,e,af<d,af<d,(0:Int)<=b/\b.toNat<a.fst,af+af<d,af<d,e] (aj [-(2:Int)^63<=f/\f<2^63] (leaf normal ([h,k,l,m,int i64 f],((2:Nat),ij fun j=>if(j==0)=true then eE (AW (x*t,af+af) (a.snd b.toNat,af))else rat x af)::g)))) (leaf (exit 0) ([h,k,l,m,int i64 b],((2:Nat),ij fun x_1=>rat x af)::g))):=ah
theorem ajl {a:PP} {t x:Rat} {i:Nat}:dc T mR [] 60 f76 [part AY [1,1,1]] ⟨aH Aa (Gm a i),rQ t x,3⟩=
  let b:=0<1;some (aj [b,b] (aj [b] (leaf ret [rat x af]))):=ah
theorem aiL {a:PP}:aL T mR [] 60 vv (before Aw [1,1,0,1]) ⟨aZ 0 [aD a],[],0⟩=
  let b:=int i64 0;some (leaf normal ([aq 3 a.fst fun i=>rat (a.snd i) af,b,b,b],[])):=ah
theorem aaX {a:PP} {m i:Nat} {l:Int}:aL T mR [10,19,22,26] 60 vv [part Aw [1,1,0,1,0,0]] ⟨aH vv (x7 a m l i),[],0⟩=
  let d:=l !=(0:Int);let n:=(↑m:Int)+1;let j:=int i64 (↑m:Int);let h:=(2:Int)^63;let e:=(↑i:Int);let f:=aq 3 a.fst fun i=>rat (a.snd i) af;let b:=e+1;let o:=bK (a.snd e.toNat);let k:=[int i64 o,int i64 b];let g:=[-h<=b/\b<h];let p:ag (List AV×aI):=aj [-h<=n/\n<h] (aj g (leaf normal (f::int i64 n::k,[])));some (fork (decide (e<(↑a.fst:Int))) (aj [(0:Int)<=e/\e.toNat<a.fst,af<2^41] (fork (o==0) (aj g (leaf normal ([f,j,int i64 l,int i64 b],[]))) (fork d (aj [d=true] (fork (bif true then o !=l else false) p (aj g (leaf normal (f::j::k,[]))))) (aj [d=false] (fork false p (aj g (leaf normal (f::j::k,[])))))))) (leaf (exit 0) ([f,j,int i64 l,int i64 e],[]))):=ah
theorem aka {a:PP} {m i:Nat} {l:Int}:dc T mR [] 60 f161 [part Aw [1,1,1]] ⟨aH vv (x7 a m l i),[],0⟩=
  some (leaf ret [int i64 (↑m:Int)]):=ah
theorem ahC {n:Nat} {c:Nat->PP} {t:Rat}:aL T DE [] 60 zU (before zP [1,1,0,1]) ⟨aZ 0 [eH n c,.rat t af],[],0⟩=
  some (leaf normal ([aq 1 n fun i=>aq 3 (c i).fst fun i_1=>rat ((c i).snd i_1) af,ptr 0 0 (eE (rat t af)).size 0 [],nil,int i64 0],[(0,aA.mk false true (eE (rat t af)).size 1 fun x=>rat t af)])):=ah
theorem afU {n i:Nat} {c:Nat->PP} {t:Rat} {x:Nat->Rat}:aL T DE [10] 60 zU [part zP [1,1,0,1,0,0]] ⟨aH zU (IZ n c i),[(0,tR t af),(1,cI i x af)],2⟩=
  let h:=ptr 0 0 3 0 [];let f:Nat×aA:=((0:Nat),ij fun x=>rat t af);let e:=aq 1 n fun i=>aq 3 (c i).fst fun i_1=>rat ((c i).snd i_1) af;let a:=(↑i:Int);let d:=a+1;let b:PP:=c a.toNat;let g:Nat×(Nat->Rat):=(b.fst,fun i=>aN (rat (b.snd i) af));some (fork (decide (a<(↑n:Int))) (aj [(0:Int)<=a/\a.toNat<n,(0:Nat)<1,cL (fun i=>rat (b.snd i) af) b.fst af,af<=af,b.fst<2^40,fF g t,(1:Nat)*3<=2^24,(i+1)*((56:Nat)+1)*2<=2^47] (aj [-(2:Int)^63<=d/\d<2^63] (leaf normal ([e,h,own 49154 3 0 (i+1),int i64 d],[(49154,aA.mk true true 3 (i+1) fun i_1=>if i_1<i then rat (x i_1) af else nth [rat (b9 g t) af] (rat 0 1) (i_1-i+0)),f])))) (leaf (exit 0) ([e,h,own 1 3 0 i,int i64 a],[(1,aA.mk true true 3 i fun i=>rat (x i) af),f]))):=ah
theorem Tm {n i:Nat} {c:Nat->PP} {t:Rat} {x:Nat->Rat}:dc T DE [] 60 f124 [part zP [1,1,1]] ⟨aH zU (IZ n c i),[(0,tR t af),(1,cI i x af)],2⟩=
  some (aj [cL (fun i=>rat (x (i+0)) af) i af,i<2^40] (leaf ret [int i64 (↑(cq (iq (i,fun i=>aN (rat (x (i+0)) af))) i).snd:Int)])):=ah
theorem agG {n:Nat} {c:Nat->PP} {x y:Rat}:cy T KK [21] 60 f62 (aK f62) ⟨aZ 0 [eH n c,.rat x af,.rat y af],[],0⟩=
  let h:=n<2^30;let e:=0<1;let d:=(2:Int)^63;let a:PP:=c (Int.toNat (0:Int));let b:=(↑(cq (de (fun i=>br (aD (c i))) x) n).snd:Int)-(↑(cq (de (fun i=>br (aD (c i))) y) n).snd:Int);let f:=b-1;let g:Nat×(Nat->Rat):=(a.fst,fun i=>aN (rat (a.snd i) af));some (aj [e,∀(i:Nat),i<n->bf (aD (c i)) (aD (br (aD (c i)))),af<=af,h,cj n (fun i=>br (aD (c i))) x,e,∀(i:Nat),i<n->bf (aD (c i)) (aD (br (aD (c i)))),af<=af,h,cj n (fun i=>br (aD (c i))) y,-d<=b/\b<d] (aj [(0:Int)<=0/\Int.toNat (0:Int)<n,e,cL (fun i=>rat (a.snd i) af) a.fst af,af<=af,a.fst<2^40,fF g y,af<2^41] (fork (bK (b9 g y)==0) (aj [-d<=f/\f<d] (leaf ret [int i64 f])) (leaf ret [int i64 b])))):=ah
theorem OK {a:PP} {t:Rat} (hn:a.1<2^40) (hz:fF a t) (K:Nat):aW P 76 K [aD a,.rat t af] [] (aO (.rat (b9 a t) af) []):=by
 have hW:=cP
 refine jA (r:=aO (.rat (b9 a t) af) []) hT zW hm TW rfl bh rfl [1,1,0,1] (i:=0) (y:=part AY [1,1,0,1,0,0]) (z:=part AY [1,1,1]) ah ah ah (f1:=[]) (f2:=[11]) (f3:=[]) 60 Aa 3
  (fun i:Nat=>Gm a i) (fun i=>rQ t (gi a.1 a.2 t i)) (fun i=>i<=a.1) (fun i=>i=a.1) (fun i=>a.1-i) (fun _=>⟨⟨_,Yn,?_⟩,fun i hi=>⟨_,W6,?_⟩,fun i hi=>⟨_,ajl,?_⟩⟩) K []
 ·simp only[ag.all,aC]
  exact⟨aa,0,Nat.zero_le _,[(0,0),(1,4096),(2,8192)],rfl,by rw[show(a.1:Int)-1=(a.1:Int)-1-((0:Nat):Int) by omega];rfl,rfl,kg rfl rfl (.inr ⟨rfl,dG rfl aa⟩) (dD (dD trivial))⟩
 ·simp only[ag.all,aC,bI,bR]
  refine⟨fun h=>?_,fun h=>⟨rfl,i,aa,[(0,0),(1,1),(2,2)],rfl,rfl,rfl,dD (dD (dD trivial))⟩⟩
  rw[show((a.1:Int)-1-(i:Int)).toNat=a.1-1-i by omega]
  exact⟨aa,aa,i+1,aa,by dsimp only;omega,[(0,0),(1,1),(2,2)],rfl,by rw[show(a.1:Int)-1-(i:Int)-1=(a.1:Int)-1-((i+1:Nat):Int) by omega];rfl,rfl,kg rfl rfl (.inr ⟨rfl,eM rfl (hz (i+1) aa)⟩) (dD (dD trivial))⟩
 ·subst hi
  simp only[ag.all,aC]
  exact⟨⟨aa,aa⟩,aa,.refl _⟩
theorem sY:bp P lT 76:=dy fun⟨a,t,_⟩ K hn=>OK hn.1 hn.2 K
theorem Lv {a:PP} (i:Nat):-1<=iq a i/\iq a i<=1:=Rb _
theorem aj6 {a:PP} (hn:a.1<2^40) (K:Nat):aW P 161 K [aD a] [] (aO (.int .i64 ((cq (iq a) a.1).2:Nat)) []):=by
 have hW:=cP
 refine jA (r:=aO (.int .i64 ((cq (iq a) a.1).2:Nat)) []) hT zW hm aa0 rfl bh rfl [1,1,0,1] (i:=0) (y:=part Aw [1,1,0,1,0,0]) (z:=part Aw [1,1,1]) ah ah ah (f1:=[]) (f2:=[10,19,22,26]) (f3:=[]) 60 vv 0
  (fun i:Nat=>x7 a (cq (iq a) i).2 (cq (iq a) i).1 i) (fun _=>[]) (fun i=>i<=a.1) (fun i=>i=a.1) (fun i=>a.1-i) (fun _=>⟨⟨_,aiL,?_⟩,fun i hi=>⟨_,aaX,?_⟩,fun i hi=>⟨_,aka,?_⟩⟩) K []
 ·simp only[ag.all]
  exact⟨0,Nat.zero_le _,en.vals rfl⟩
 ·obtain⟨h1,h2⟩:=uR (s:=iq a) Lv i
  have h3:=Lv (a:=a) i
  have e2:(cq (iq a) (i+1)).1=if iq a i=0 then(cq (iq a) i).1 else iq a i:=rfl
  have e3:(cq (iq a) (i+1)).2=if iq a i*(cq (iq a) i).1<0 then(cq (iq a) i).2+1 else(cq (iq a) i).2:=rfl
  have re:∀{l:Int} {m:Int},l=(cq (iq a) (i+1)).1->m=((cq (iq a) (i+1)).2:Nat)->en [] ([aD a,.int .i64 m,.int .i64 l,.int .i64 ((i:Int)+1)],[]) (x7 a (cq (iq a) (i+1)).2 (cq (iq a) (i+1)).1 (i+1)) [] 0:=fun {l m} hl hm=>by
   subst hl hm
   rw[show(i:Int)+1=((i+1:Nat):Int) by omega]
   exact en.vals rfl
  have e4:bK (a.2 i)=iq a i:=rfl
  have hneg:∀{x y:Int},(-1<=x/\x<=1)->(-1<=y/\y<=1)->x≠0->(x*y<0↔y≠0/\x≠y):=fun {x y} hx hy h0=>by
   rcases(show x=-1\/x=1 by omega)with rfl|rfl<;>omega
  simp only[ag.all,aC,bI,bR,bS,bne_iff_ne,ne_eq,bne_eq_false_iff_eq,beq_iff_eq,beq_eq_false_iff_ne,cond_true,cond_false,e4]
  have nx:∀{l:Int} {m:Int},(i:Int)<a.1->l=(cq (iq a) (i+1)).1->m=((cq (iq a) (i+1)).2:Nat)->Round [] (fun i:Nat=>x7 a (cq (iq a) i).2 (cq (iq a) i).1 i) (fun _=>[]) 0 (fun i=>i<=a.1) (fun i=>i=a.1) (fun i=>a.1-i) 0 (nc f161 vv (.int .i64 ((cq (iq a) a.1).2:Nat))) i .normal ([aD a,.int .i64 m,.int .i64 l,.int .i64 ((i:Int)+1)],[]):=fun {l m} h hl hm=>⟨i+1,aa,by dsimp only;omega,re hl hm⟩
  refine⟨fun h=>⟨⟨aa,aa⟩,fun h0=>⟨aa,nx h (by rw[e2,if_pos h0]) (by rw[e3,if_neg (by rw[h0,Int.zero_mul];omega)])⟩,fun h0=>⟨fun h5=>⟨h5,fun h6=>⟨aa,aa,nx h (by rw[e2,if_neg h0]) (by rw[e3,if_pos ((hneg h3 h1 h0).2 ⟨h5,h6⟩)];omega)⟩,fun h6=>⟨aa,nx h (by rw[e2,if_neg h0]) (by rw[e3,if_neg fun h7=>((hneg h3 h1 h0).1 h7).2 h6])⟩⟩,fun h5=>⟨h5,fun hf=>absurd hf (by decide),fun _=>⟨aa,nx h (by rw[e2,if_neg h0]) (by rw[e3,if_neg fun h7=>((hneg h3 h1 h0).1 h7).1 h5])⟩⟩⟩⟩,fun h=>⟨rfl,i,aa,en.vals rfl⟩⟩
 ·subst hi;exact .refl _
theorem Vc:bp P LB 161:=dy fun⟨a,_⟩ K hn=>aj6 hn K
theorem aiP:bY P DE:=iu (aM sY (aM Vc iE))
theorem aho {n:Nat} {c:Nat->PP} {t:Rat} (hn:n<2^30) (hz:cj n c t) (K:Nat):aW P 124 K [eH n c,.rat t af] [] (aO (.int .i64 ((cq (de c t) n).2:Nat)) []):=by
 have hW:=cP
 refine jA (r:=aO (.int .i64 ((cq (de c t) n).2:Nat)) []) hT aiP hm aeS rfl bh rfl [1,1,0,1] (i:=0) (y:=part zP [1,1,0,1,0,0]) (z:=part zP [1,1,1]) ah ah ah (f1:=[]) (f2:=[10]) (f3:=[]) 60 zU 2
  (fun i:Nat=>IZ n c i) (fun i=>[(0,tR t af),(1,cI i (fun j=>b9 (c j) t) af)]) (fun i=>i<=n) (fun i=>i=n) (fun i=>n-i) (fun _=>⟨⟨_,ahC,?_⟩,fun i hi=>⟨_,afU,?_⟩,fun i hi=>⟨_,Tm,?_⟩⟩) K []
 ·simp only[ag.all]
  exact⟨0,Nat.zero_le _,[(0,0)],rfl,rfl,rfl,dD (l6 rfl aa aa trivial)⟩
 ·simp only[ag.all,aC,bI,bR,bS]
  refine⟨fun h=>⟨⟨aa,aa,eO aX,aX,(hz i aa).1,(hz i aa).2,aa,aa⟩,aa,i+1,aa,by dsimp only;omega,[(0,0),(1,49154)],rfl,by rw[show(i:Int)+1=((i+1:Nat):Int) by omega];rfl,rfl,dD (bF rfl rfl rfl (fun j hj=>?_) trivial)⟩,fun h=>⟨rfl,i,aa,[(0,0),(1,1)],rfl,rfl,rfl,dD (bF rfl rfl rfl (fun j hj=>bT rfl rfl) trivial)⟩⟩
  by_cases h2:j<i
  ·rw[if_pos h2];exact bT rfl rfl
  ·rw[if_neg h2,show j-i+0=0 by omega,show j=i by omega];exact bT rfl rfl
 ·subst hi
  simp only[ag.all,aC]
  exact⟨⟨eO aX,aa⟩,.refl _⟩
theorem ah7:bp P OO 124:=dy fun⟨⟨n,c⟩,t,_⟩ K hn=>aho hn.1 hn.2 K
theorem akF:bY P KK:=gM (aM ah7 (aM sY iE))
theorem ab4 {n:Nat} {c:Nat->PP} {x y:Rat} (h0:0<n) (hn:n<2^30) (hxy:x<y) (hx:cj n c x) (hy:cj n c y) (K:Nat):aW P 62 K [eH n c,.rat x af,.rat y af] [] (aO (.int .i64 (dn n c x y)) []):=by
 have hW:=cP
 refine cB hT akF hm abv rfl bh rfl 60 agG (fun _=>?_) K []
 have hbx:=(uR (s:=de c x) wQ n).2
 have hby:=(uR (s:=de c y) wQ n).2
 have h:¬x>=y:=Rat.not_le.2 hxy
 simp only[ag.all,aC,bI,bR,pS]
 show(_/\(∀i,i<n->bf (aD (c i)) (aD (c i)))/\_/\_/\cj n c x/\_/\_/\_/\_/\cj n c y/\(-2^63<=((cq (de c x) n).2:Int)-((cq (de c y) n).2:Int)/\((cq (de c x) n).2:Int)-((cq (de c y) n).2:Int)<2^63))/\(_/\_/\_/\_/\_/\fF (c 0) y/\_)/\(b9 (c 0) y=0->_)/\(¬b9 (c 0) y=0->_)
 refine⟨⟨aa,fun i _=>.refl _,aX,hn,hx,aa,fun i _=>.refl _,aX,hn,hy,aa⟩,⟨aa,aa,eO aX,aX,(hy 0 h0).1,(hy 0 h0).2,aa⟩,fun h2=>⟨?_,?_⟩,fun h2=>?_⟩
 ·show-2^63<=((cq (de c x) n).2:Int)-((cq (de c y) n).2:Int)-1/\((cq (de c x) n).2:Int)-((cq (de c y) n).2:Int)-1<2^63
  omega
 ·exact cE (by unfold dn;rw[if_neg h,if_pos h2];rfl)
 ·exact cE (by unfold dn;rw[if_neg h,if_neg h2,Int.sub_zero];rfl)
def xD:Spec:=ef (kC mW (kC (fu af) (kC (fu af) kN))) (fun a=>.int .i64 (dn a.1.1 a.1.2 a.2.1 a.2.2.1)) fun a=>[0<a.1.1,a.1.1<2^30,a.2.1<a.2.2.1,cj a.1.1 a.1.2 a.2.1,cj a.1.1 a.1.2 a.2.2.1]
theorem zB:bp P xD 62:=dy fun⟨⟨n,c⟩,x,y,_⟩ K hn=>ab4 hn.1 hn.2.1 hn.2.2.1 hn.2.2.2.1 hn.2.2.2.2 K
def TY:Spec:=ef (kC (kL af) kN) (fun a=>eH (aS a.1) (aQ a.1)) fun a=>[jJ a.1]
theorem aih:bp P TY 63:=dy fun⟨a,_⟩ K hn=>Ty hn K
def acg (p:PP) (a b:Rat):Prop:=jx p/\((ak p).1≠0->jJ (ak p)/\aS (ak p)<2^30/\cj (aS (ak p)) (aQ (ak p)) a/\cj (aS (ak p)) (aQ (ak p)) b)
theorem G8 {u v:AV} (h:bf u v):bf (.cu u) (.cu v):=by
 refine⟨rfl,fun M w cs hc=>?_⟩
 cases hc with
 |cu h1 h2 h3=>cases h3;exact .cu (h.2 _ _ _ h1) h2 .nil
theorem U1 {f:FuncId} {us vs:List AV} (h:iR us vs) (hv:(vs.all fun v=>!v.isAgg&&!v.isTuple)=true):bf (.func f us) (.func f vs):=by
 refine⟨rfl,fun M w cs hc=>?_⟩
 cases hc with
 |func h1 h2 h3=>cases h3;exact .func (Hz h h1) hv .nil
def Xm {α:Type} (k:Kind α):Kind α:=⟨fun v=>match v with
 |.cu v=>k.read v
 |_=>none,fun a=>.cu (k.make a),fun {v a q} h hq=>by
  split at h
  ·exact G8 (k.ok h hq)
  ·simp at h⟩
abbrev dH (a b:Rat) (n:Nat):AV:=.agg [.rat a n,.rat b n]
def xh (s:Nat):Kind (Rat×Rat):=⟨fun v=>match v with
 |.agg [x,y]=>some ((aN x,aN y),[bf x (.rat (aN x) s),bf y (.rat (aN y) s)])
 |_=>none,fun a=>dH a.1 a.2 s,fun {v a q} h hq=>by
  split at h
  ·simp only[aB,Prod.mk.injEq]at h
   obtain⟨rfl,rfl⟩:=h
   exact oe ⟨hq.1,hq.2,trivial⟩
  ·simp at h⟩
def kHf:Kind Unit:=⟨fun v=>match v with
 |.agg [.bool false,.aq 1 1 f,.aq 1 1 g]=>some ((),[f 0=.int .u32 1,g 0=.int .u32 2])
 |_=>none,fun _=>.rat (1/2) 3,fun {v a q} h hq=>by
  split at h
  ·simp only[aB,Prod.mk.injEq]at h
   obtain⟨_,rfl⟩:=h
   refine bf.trans (oe (vs:=[.bool false,.mag 1,.mag 2]) ⟨.refl _,l9 (N:=1) (by decide) (fun i hi=>by obtain rfl:i=0:=aa;exact hq.1),l9 (N:=2) (by decide) (fun i hi=>by obtain rfl:i=0:=aa;exact hq.2),trivial⟩) (vm (b:=false) (x:=1) (y:=2) (q:=1/2) ⟨by decide+kernel,by decide+kernel⟩ (by decide+kernel) (by decide+kernel) (by decide+kernel))
  ·simp at h⟩
def Lw:Spec:=ef (kC kR (kC kHf kN)) (fun a=>.rat (a.1.1*(1/2)) (a.1.2+3)) fun a=>[a.1.2<2^42]
def MO:Spec:=ef (kC (fu af) (kC (fu af) kN)) (fun a=>.rat (fk a.1 a.2.1) af) fun _=>[]
def Py:Spec:=ef (kC (fu af) (kC (fu af) kN)) (fun a=>.rat (fl a.1 a.2.1) af) fun _=>[]
def KI:bE:=nG::(130,MO)::(131,Py)::iC
def NH:bE:=nG::(129,Lw)::(132,Jj T [sG] [] 20 f132)::iC
def aU (a b:Rat):Rat:=(a+b)*(1/2)
def Cm:Spec:=ef (kC (fu af) (kC (fu af) kN)) (fun a=>dH (fk a.1 a.2.1) (fl a.1 a.2.1) af) fun _=>[]
def Ko:bE:=nG::(68,Cm)::iC
def Nu:bE:=zG::(66,lT)::iC
def Rs:bE:=nG::(66,lT)::(60,tX)::iC
theorem ahj:bu 69 f69:=bC func69
theorem agO:bu 132 f132:=bC func132
theorem aeq:bu 68 f68:=bC func68
theorem ag2:bu 70 f70:=bC func70
theorem ajY:bu 74 f74:=bC func74
theorem S1:bu 64 f64:=bC func64
theorem ahB {x y:Rat}:cy T KI [] 60 f68 (aK f68) ⟨aZ 0 [.rat x af,.rat y af],[],0⟩=
  let a:=0<1;some (aj [a,a,af<=af,af<=af,a,a,af<=af,af<=af,a] (aj [a] (leaf ret [agg [rat (fk x y) af,rat (fl x y) af]]))):=ah
theorem UT {x y:Rat}:cy T NH [] 60 f69 (aK f69) ⟨aZ 0 [.rat x af,.rat y af],[],0⟩=
  let b:=2^42;let a:=0<1;some (aj [a,a,af<b,af<b,(1:Nat)*1<=2^24,nth [int u32 (1:Int)] (int u32 (0:Int)) ((0:Nat)+0)=int u32 (1:Int),nth [int u32 (2:Int)] (int u32 (0:Int)) ((0:Nat)+0)=int u32 (2:Int),af+af+1<b,a] (aj [a] (leaf ret [rat ((x+y)*(1/2:Rat)) (af+af+1+3)]))):=ah
theorem abH {x:Rat}:cy T Ko [] 60 f70 (aK f70) ⟨aZ 0 [.rat x af],[],0⟩=
  let a:=0<1;some (aj [a,a,af<=af,af<=af,a] (aj [a] (leaf ret [agg [rat (fk x x) af,rat (fl x x) af]]))):=ah
theorem aee {n:Nat} {c:Nat->PP} {x:Rat}:cy T Nu [] 60 f64 (aK f64) ⟨aZ 0 [.rat x af,.cu (eH n c)],[],0⟩=
  let a:PP:=c (Int.toNat (0:Int));let b:Nat×(Nat->Rat):=(a.fst,fun i=>aN (rat (a.snd i) af));some (aj [(0:Int)<=0/\Int.toNat (0:Int)<n,(0:Nat)<1,cL (fun i=>rat (a.snd i) af) a.fst af,af<=af,a.fst<2^40,fF b x,af<2^42] (leaf ret [AV.bool (bK (b9 b x)==0)])):=ah
theorem aaG {n:Nat} {c:Nat->PP} {x y:Rat}:cy T Rs [9] 60 f74 (aK f74) ⟨aZ 0 [eH n c,dH x y af],[],0⟩=
  let f:=dn n (fun i=>br (aD (c i))) x y;let d:=af<2^42;let b:=0<1;let a:PP:=c (Int.toNat (0:Int));let e:Nat×(Nat->Rat):=(a.fst,fun i=>aN (rat (a.snd i) af));some (aj [b,b,d,d] (fork (decide (x=y)) (aj [(0:Int)<=0/\Int.toNat (0:Int)<n,b,cL (fun i=>rat (a.snd i) af) a.fst af,af<=af,a.fst<2^40,fF e x,d] (leaf ret [AV.bool (bK (b9 e x)==0)])) (aj [b,b,∀(i:Nat),i<n->bf (aD (c i)) (aD (br (aD (c i)))),af<=af,af<=af,(0:Nat)<n,n<2^40,cj n (fun i=>br (aD (c i))) x,cj n (fun i=>br (aD (c i))) y] (leaf ret [AV.bool (decide (f>0))])))):=ah
theorem UU:bp P MO 130:=dy fun⟨x,y,_⟩ K _=>by
 have hW:=cP
 have:=aiN (q:=x) (r:=y) (n:=af) (m:=af) aa aa K
 rw[Nat.max_self]at this;exact this
theorem agZ:bp P Py 131:=dy fun⟨x,y,_⟩ K _=>by
 have hW:=cP
 have:=afw (q:=x) (r:=y) (n:=af) (m:=af) aa aa K
 rw[Nat.max_self]at this;exact this
theorem XR:bp P Lw 129:=dy fun⟨x,_,_⟩ K hn=>JX hn aa K
theorem Y3:bY P KI:=gM (aM UU (aM agZ iG))
theorem Uc:bY P NH:=gM (aM XR (aM (K0 hT (BV cJ) hm agO _ _) iG))
theorem U8 {x y:Rat} (K:Nat):aW P 68 K [.rat x af,.rat y af] [] (aO (dH (fk x y) (fl x y) af) []):=by
 refine cB hT Y3 hm aeq rfl bh rfl 60 ahB (fun _=>?_) K []
 simp only[ag.all,aC]
 exact⟨⟨aa,aa,aa,aa,aa,aa,aa,aa,aa⟩,aa,.refl _⟩
theorem Iz:bp P Cm 68:=dy fun⟨x,y,_⟩ K _=>U8 K
theorem VY:bY P Ko:=gM (aM Iz iG)
def BW:Spec:=ef (kC (fu af) kN) (fun a=>dH a.1 a.1 af) fun _=>[]
theorem afT (x:Rat):fk x x=x:=by unfold fk;split<;>rfl
theorem T0 (x:Rat):fl x x=x:=by unfold fl;split<;>rfl
theorem HA:bp P BW 70:=dy fun⟨x,_⟩ K _=>by
 refine cB hT VY hm ag2 rfl bh rfl 60 abH (fun _=>?_) K []
 simp only[ag.all,aC,afT,T0]
 exact⟨⟨aa,aa,aa,aa,aa⟩,aa,.refl _⟩
def E1:Spec:=ef (kC (fu af) (kC (fu af) kN)) (fun a=>.rat (aU a.1 a.2.1) af) fun a=>[Sz (aU a.1 a.2.1) af]
theorem Ke:bp P E1 69:=dy fun⟨x,y,_⟩ K hn=>by
 have hW:=cP
 refine cB hT Uc hm ahj rfl bh rfl 60 UT (fun _=>?_) K []
 simp only[ag.all,aC]
 exact⟨⟨aa,aa,aa,aa,aa,rfl,rfl,aa,aa⟩,aa,eM rfl hn⟩
def Iq:Spec:=ef (kC (fu af) (kC (Xm mW) kN)) (fun a=>.bool (decide (b9 (a.2.1.2 0) a.1=0))) fun a=>[0<a.2.1.1,cj a.2.1.1 a.2.1.2 a.1]
theorem ad8:bY P Nu:=iu (aM xA iG)
theorem M6:bp P Iq 64:=dy fun⟨x,⟨n,c⟩,_⟩ K hn=>by
 have hW:=cP
 refine cB hT ad8 hm S1 rfl bh rfl 60 aee (fun _=>?_) K []
 obtain⟨h1,h2⟩:=hn.2 0 hn.1
 simp only[ag.all,aC]
 exact⟨⟨⟨aa,hn.1⟩,aa,eO aX,aX,h1,h2,aa⟩,fG (by simp only[pS];rfl)⟩
theorem ah4:bY P Rs:=gM (aM xA (aM xG iG))
def lI (n:Nat) (c:Nat->PP) (x y:Rat):Bool:=if x=y then decide (b9 (c 0) x=0)else decide (0<dn n c x y)
def BZ:Spec:=ef (kC mW (kC (xh af) kN)) (fun a=>.bool (lI a.1.1 a.1.2 a.2.1.1 a.2.1.2)) fun a=>[0<a.1.1,a.1.1<2^40,cj a.1.1 a.1.2 a.2.1.1,cj a.1.1 a.1.2 a.2.1.2]
theorem Jr:bp P BZ 74:=dy fun⟨⟨n,c⟩,⟨x,y⟩,_⟩ K hn=>by
 have hW:=cP
 refine cB hT ah4 hm ajY rfl bh rfl 60 aaG (fun _=>?_) K []
 obtain⟨g1,g2,g3,g4⟩:=hn
 obtain⟨h1,h2⟩:=g3 0 g1
 simp only[ag.all,aC,bI,bR]
 refine⟨⟨aa,aa,aa,aa⟩,fun h=>⟨⟨⟨aa,g1⟩,aa,eO aX,aX,h1,h2,aa⟩,?_⟩,fun h=>⟨⟨aa,aa,fun i _=>.refl _,aX,aX,g1,g2,g3,g4⟩,?_⟩⟩
 ·exact fG (by unfold lI;rw[if_pos h];simp only[pS];rfl)
 ·exact fG (by unfold lI;rw[if_neg h];rfl)
end Go.Am.B
