/- ref01: Trim, Of, small, Cmp, Bits. -/
import Derived.Test.YtolopdkjjlfgjaaGreatB21
set_option linter.unusedVariables false
namespace Go.Am.B
open Go Go.Am.N AV Proofs.Tryz IntKind
theorem Qo:aX 140 f140:=aY func140
theorem ab6:aX 138 f138:=aY func138
theorem aah:aX 186 f186:=aY func186
theorem U9:aX 84 f84:=aY func84
theorem Zi:aX 187 f187:=aY func187
theorem Qp {n:Nat} {z:Nat->Nat}:aH T [] [] 30 [0,3] (before (aG f140) [1,1,0]) ⟨aS 0 [.ak 1 n (aA z)],[],0⟩=
  some (af.leaf aq.normal ([ak 1 n (aA z),int .i64 (↑n:Int)],[])):=ag
theorem aac {n k:Nat} {z:Nat->Nat}:aH T [] [8,15] 30 [0,3] [part (aG f140) [1,1,0,0,0]] ⟨aD [0,3] [.ak 1 n (aA z),.int .i64 k],[],0⟩=
  some (af.fork (decide ((↑k:Int)>0)) (af.aj [decide ((↑k:Int)>0)=true,(0:Int)<=i64.wrap ((↑k:Int)-1)/\(i64.wrap ((↑k:Int)-1)).toNat<n] (af.fork (bif true then(↑(z (i64.wrap ((↑k:Int)-1)).toNat):Int)==0 else false) (af.leaf aq.normal ([ak 1 n (aA z),int .i64 (i64.wrap ((↑k:Int)-1))],[])) (af.leaf (aq.exit 0) ([ak 1 n (aA z),int .i64 (↑k:Int)],[])))) (af.aj [decide ((↑k:Int)>0)=false] (af.fork false (af.leaf aq.normal ([ak 1 n (aA z),int .i64 (i64.wrap ((↑k:Int)-1))],[])) (af.leaf (aq.exit 0) ([ak 1 n (aA z),int .i64 (↑k:Int)],[]))))):=ag
theorem YA {n k:Nat} {z:Nat->Nat}:cN T [] [] 30 f140 (behind (aG f140) [1,1,0]) ⟨aD [0,3] [.ak 1 n (aA z),.int .i64 k],[],0⟩=
  some (af.aj [(0:Nat)*1<=2^24,(0:Int)<=0/\(0:Int)<=(↑k:Int)/\(↑k:Int)<=(↑k:Int)/\(↑k:Int)<=(↑n:Int),((0:Nat)+((↑k:Int).toNat-Int.toNat (0:Int)))*((4:Nat)+1)*2<=2^47] (af.leaf aq.ret [ak 1 ((0:Nat)+((↑k:Int).toNat-Int.toNat (0:Int))) fun(i:Nat)=>if i+0<0 then nth [] (int .u32 (0:Int)) (i+0)else aA z (i+0-0+Int.toNat (0:Int))])):=ag
def sW:Spec:=bR (mo fun N n=>aJ (.mag N) [n<2^40])
def fA:bg:=[(140,sW)]
theorem ZC {n:Nat}:bT T fA [] 30 f138 (aG f138) ⟨aS 0 [.int .u64 n],[],0⟩=
  some (af.aj [(0:Int)<=32,(2:Nat)*1<=2^24,ew 2 fun(i:Nat)=>nth [int .u32 (u32.wrap (↑n:Int)),int .u32 (u32.wrap ((↑n:Int).fdiv ((2:Int)^min (Int.toNat (32:Int)) u64.bits)))] (int .u32 (0:Int)) (i+0),(2:Nat)<2^40] (af.leaf aq.ret [mag (val 2 fun(i:Nat)=>numOf (nth [int .u32 (u32.wrap (↑n:Int)),int .u32 (u32.wrap ((↑n:Int).fdiv ((2:Int)^min (Int.toNat (32:Int)) u64.bits)))] (int .u32 (0:Int)) (i+0)))])):=ag
theorem Zj {A:Nat}:bT T fA [6,8,14] 30 f186 (aG f186) ⟨aS 0 [.mag A],[],0⟩=
  some (af.fork ((↑(nl A):Int)==0) (af.leaf aq.ret [int .u64 (0:Int),AV.bool true]) (af.fork ((↑(nl A):Int)==1) (af.aj [(0:Int)<=0/\Int.toNat (0:Int)<nl A] (af.leaf aq.ret [int .u64 (u64.wrap (↑(aB A (Int.toNat (0:Int))):Int)),AV.bool true])) (af.fork ((↑(nl A):Int)==2) (af.aj [(0:Int)<=0/\Int.toNat (0:Int)<nl A,(0:Int)<=1/\Int.toNat (1:Int)<nl A,(0:Int)<=32] (af.leaf aq.ret [int .u64 (u64.wrap (↑(BitVec.ofInt u64.bits (u64.wrap (↑(aB A (Int.toNat (0:Int))):Int))|||BitVec.ofInt u64.bits (u64.wrap (u64.wrap (↑(aB A (Int.toNat (1:Int))):Int)*2^min (Int.toNat (32:Int)) u64.bits))).toNat:Int)),AV.bool true])) (af.leaf aq.ret [int .u64 (0:Int),AV.bool false])))):=ag
theorem QD {A B:Nat}:aH T [] [10,15] 30 [0,1,5,4] (before (aG f84) [1,1,0,1]) ⟨aS 0 [.mag A,.mag B],[],0⟩=
  some (af.fork ((↑(nl A):Int)!=(↑(nl B):Int)) (af.fork (decide ((↑(nl A):Int)<(↑(nl B):Int))) (af.leaf aq.ret ([mag A,mag B,tuple [],int .i64 (-1:Int)],[])) (af.leaf aq.ret ([mag A,mag B,tuple [],int .i64 (1:Int)],[]))) (af.leaf aq.normal ([mag A,mag B,int .i64 (i64.wrap ((↑(nl A):Int)-1)),int .i64 (0:Int)],[]))):=ag
theorem R8 {A B k:Nat}:aH T [] [20,31,40] 30 [0,1,5,4] [part (aG f84) [1,1,0,1,0,0]] ⟨aD [0,1,5,4] [.mag A,.mag B,.int .i64 ((k:Int)-1),.int .i64 0],[],0⟩=
  some (af.fork (decide ((↑k:Int)-1>=(0:Int))) (af.aj [(0:Int)<=(↑k:Int)-1/\((↑k:Int)-1).toNat<nl A,(0:Int)<=(↑k:Int)-1/\((↑k:Int)-1).toNat<nl B] (af.fork (decide ((↑(aB A ((↑k:Int)-1).toNat):Int)<(↑(aB B ((↑k:Int)-1).toNat):Int))) (af.leaf aq.ret ([mag A,mag B,int .i64 ((↑k:Int)-1),int .i64 (-1:Int)],[])) (af.aj [(0:Int)<=(↑k:Int)-1/\((↑k:Int)-1).toNat<nl A,(0:Int)<=(↑k:Int)-1/\((↑k:Int)-1).toNat<nl B] (af.fork (decide ((↑(aB A ((↑k:Int)-1).toNat):Int)>(↑(aB B ((↑k:Int)-1).toNat):Int))) (af.leaf aq.ret ([mag A,mag B,int .i64 ((↑k:Int)-1),int .i64 (1:Int)],[])) (af.leaf aq.normal ([mag A,mag B,int .i64 (i64.wrap ((↑k:Int)-1-(1:Int))),int .i64 (0:Int)],[])))))) (af.leaf (aq.exit 0) ([mag A,mag B,int .i64 ((↑k:Int)-1),int .i64 (0:Int)],[]))):=ag
theorem Vh {A B k:Nat}:cN T [] [] 30 f84 (behind (aG f84) [1,1,0,1]) ⟨aD [0,1,5,4] [.mag A,.mag B,.int .i64 ((k:Int)-1),.int .i64 0],[],0⟩=
  some (af.leaf aq.ret [int .i64 (0:Int)]):=ag
theorem ad2 {n:Nat} {z:Nat->Nat}:aH T [] [7] 30 [3,4,2] (before (aG f187) [1,1,1,0,1]) ⟨aS 0 [.ak 1 n (aA z)],[],0⟩=
  some (af.fork ((↑n:Int)==0) (af.leaf aq.ret ([tuple [],tuple [],int .i64 (0:Int)],[])) (af.aj [(0:Int)<=i64.wrap ((↑n:Int)-1)/\(i64.wrap ((↑n:Int)-1)).toNat<n] (af.leaf aq.normal ([int .i64 (i64.wrap ((32:Int)*i64.wrap ((↑n:Int)-1))),int .u32 (↑(z (i64.wrap ((↑n:Int)-1)).toNat):Int),int .i64 (0:Int)],[])))):=ag
theorem adD {x y:Nat}:aH T [] [19] 30 [3,4,2] [part (aG f187) [1,1,1,0,1,0,0]] ⟨aD [3,4,2] [.int .i64 x,.int .u32 y,.int .i64 0],[],0⟩=
  some (af.fork ((↑y:Int)!=0) (af.aj [(0:Int)<=1] (af.leaf aq.normal ([int .i64 (i64.wrap ((↑x:Int)+1)),int .u32 ((↑y:Int).fdiv ((2:Int)^min (Int.toNat (1:Int)) u32.bits)),int .i64 (0:Int)],[]))) (af.leaf (aq.exit 0) ([int .i64 (↑x:Int),int .u32 (↑y:Int),int .i64 (0:Int)],[]))):=ag
theorem XT {x y:Nat}:cN T [] [] 30 f187 (behind (aG f187) [1,1,1,0,1]) ⟨aD [3,4,2] [.int .i64 x,.int .u32 y,.int .i64 0],[],0⟩=
  some (af.leaf aq.ret [int .i64 (↑x:Int)]):=ag
theorem N8 {n:Nat} {z:Nat->Nat} (hz:∀i,i<n->z i<2^32) (hn:n<2^40) (K:Nat):aO P 140 K [.ak 1 n (aA z)] [] (aJ (.mag (val n z)) []):=by
 refine ij hT Qo rfl aW rfl (fun _ c h0=>?_) K []
 refine au.hole [1,1,0] ag (aF.bF hT bU hm 30 [0,3] Qp ag fun s' hv=>cD ?_)
 refine au.iy (i:=0) (y:=part (aG f140) [1,1,0,0,0]) ag [0,3] 0 (h0 _) (fun k:Nat=>[.ak 1 n (aA z),.int .i64 k]) (fun _=>[]) (fun _=>rfl) (fun _=>trivial)
  (fun k=>k<=n/\∀i,k<=i->i<n->z i=0) id n hv ⟨aQ,fun i h1 h2=>aa⟩ ?_
 rintro j ⟨hj,hzj⟩
 refine au.bF hT bU hm 30 [0,3] aac ag ?_
 have fin:(j=0\/z (j-1)≠0)->∀s',bk [0,3] s'=some ([.ak 1 n (aA z),.int .i64 j],[])->aF P c f140.ntmps (behind (aG f140) [1,1,0]) s' (fM c (Fin T f140 (.mag (val n z)))):=by
  intro hj0 s' hv
  refine aF.j7 hT bU hm 30 hv (h0 0) rfl trivial YA ag ag ?_
  simp only[af.all,az,bu,Int.toNat_zero,Nat.zero_add,Nat.sub_zero,Nat.add_zero]
  have e:val n z=val j z:=nc hj hzj
  refine⟨⟨aa,aa,aa⟩,ku (by rw[e,AF (fun i hi=>hz i aa) hj0]) fun i hi=>?_⟩
  rw[if_neg aa,e,oV (fun j hj=>hz j aa) hi]
  rfl
 have hw:0<j->i64.wrap ((j:Int)-1)=((j-1:Nat):Int):=fun h=>by rw[wrap_i64 aa aa];omega
 refine⟨fun hb=>?_,fun hb=>?_⟩
 ·have h1:0<j:=by simpa using hb
  rw[hw h1]
  have hj1:j-1<n:=aa
  refine⟨⟨hb,aa,by rw[bu];exact hj1⟩,fun hc s' hv=>?_,fun hc s' hv=>?_⟩
  ·refine⟨j-1,hv,⟨aa,fun i h1 h2=>?_⟩,by simp;omega⟩
   by_cases hi:i=j-1
   ·subst hi;simpa using hc
   ·exact hzj i aa h2
  ·exact fL (fin (.inr (by simpa using hc)) s' hv)
 ·have h1:j=0:=by simpa using hb
  refine⟨hb,fun hc=>by simp at hc,fun hc s' hv=>fL (fin (.inl h1) s' hv)⟩
theorem vZ:bf P sW 140:=
 cE (sM fun _ _ K hz need=>N8 hz need K)
theorem fC:bK P fA:=aK vZ bU
theorem Q2 {x:Nat} (hx:x<2^64) (K:Nat):aO P 138 K [.int .u64 x] [] (aJ (.mag x) []):=by
 refine bW hT fC hm ab6 rfl aW rfl 30 ZC (fun _=>?_) K []
 simp only[af.all,az,lP]
 refine⟨⟨aa,aa,fun i hi=>?_,aa⟩,en (congrArg AV.mag ?_)⟩
 ·match i,hi with
  |0,_=>exact⟨x%2^32,aa,by simp[nth,jX]⟩
  |1,_=>exact⟨x/4294967296,aa,by simp[nth,lO];omega⟩
 ·rw[val_two]
  simp[nth,numOf,lO]
  omega
def wJ:Spec:=bR fun l=>match l with
 |[.int .u64 x]=>some (aJ (.mag x.toNat) [0<=x/\x<2^64])
 |_=>none
theorem zN:bf P wJ 138:=by
 refine cE fun K args r hk hs _=>?_
 split at hs
 ·simp only[ax]at hs
  subst hs
  intro need
  obtain⟨h1,h2⟩:=need
  rename_i x
  obtain⟨y,rfl⟩:=Int.eq_ofNat_of_zero_le h1
  exact Q2 (x:=y) aa K trivial
 ·simp at hs
def gm (A:Nat):Bool:=decide (A<18446744073709551616)
theorem ac8 {A:Nat} (K:Nat):aO P 186 K [.mag A] [] (aJ (.tuple [.int .u64 (if gm A then A else 0:Nat),.bool (gm A)]) []):=by
 refine bW hT fC hm aah rfl aW rfl 30 Zj (fun _=>?_) K []
 simp only[af.all,az,beq_iff_eq,beq_eq_false_iff_ne,ne_eq,Int.toNat_zero,show Int.toNat 1=1 from rfl]
 have hv:=gq (N:=A)
 have l0:=dS (N:=A) (i:=0)
 have l1:=dS (N:=A) (i:=1)
 have yes:∀{x:Int},A<2^64->x=(A:Nat)->fZ [.int .u64 x,.bool true] (.tuple [.int .u64 (if gm A then A else 0:Nat),.bool (gm A)]):=fun h hx=>by
  have:gm A=true:=by unfold gm;simpa using h
  rw[this,if_pos rfl]
  exact⟨bQ hx,.refl _,trivial⟩
 refine⟨fun hb=>yes ?_ ?_,fun hb=>⟨fun h1=>⟨aa,yes ?_ ?_⟩,fun h1=>⟨fun h2=>⟨⟨aa,aa,aa⟩,yes ?_ ?_⟩,fun h2=>?_⟩⟩⟩
 ·have:A=0:=kB.1 aa
  omega
 ·have:A=0:=kB.1 aa
  rw[this];rfl
 ·exact pK aa
 ·rw[show nl A=1 by omega,val,val]at hv
  rw[cj aa aa]
  simp at hv;omega
 ·exact pK aa
 ·rw[show nl A=2 by omega,val,val,val]at hv
  have e1:u64.wrap (aB A 0:Int)=((aB A 0:Nat):Int):=cj aa aa
  have e2:u64.wrap (aB A 1:Int)=((aB A 1:Nat):Int):=cj aa aa
  have e3:u64.wrap ((aB A 1:Int)*2^min (Int.toNat 32) u64.bits)=((aB A 1*4294967296:Nat):Int):=by
   rw[xo,cj aa aa];omega
  rw[e1,e2,e3,tM aa aa]
  congr 1
  rw[Nat.or_comm,show 4294967296=2^32 from rfl,qU l0]
  simp at hv;omega
 ·have:gm A=false:=by
   unfold gm
   simp only[bE]
   intro h
   have:nl A<=2:=dB.2 h
   omega
  rw[this]
  exact⟨.refl _,.refl _,trivial⟩
def BD:Spec:=bR fun l=>match l with
 |[a]=>match jn a with
  |some A=>some (aJ (.tuple [.int .u64 (if gm A then A else 0:Nat),.bool (gm A)]) [])
  |none=>none
 |_=>none
theorem Fl:bf P BD 186:=by
 refine cE fun K args r hk hs _=>?_
 split at hs
 ·split at hs
  ·rename_i A hA
   simp only[ax]at hs
   subst hs
   exact gC (ac8 K) hk ⟨k8 hA,trivial⟩ []
  ·simp at hs
 ·simp at hs
theorem VJ {A B:Nat} (hA:nl A<2^40) (hB:nl B<2^40) (K:Nat):aO P 84 K [.mag A,.mag B] [] (aJ (.int .i64 (cV A B)) []):=by
 refine ij hT U9 rfl aW rfl (fun _ c h0=>?_) K []
 refine au.hole [1,1,0,1] ag (aF.bF hT bU hm 30 [0,1,5,4] QD ag ?_)
 simp only[af.all,az,bz,bE,bne_iff_ne,ne_eq,Int.natCast_inj,bne_eq_false_iff_eq]
 refine⟨fun hb=>⟨fun hb2 s' hv=>fH (.inl ?_),fun hb2 s' hv=>fH (.inl ?_)⟩,fun hb s' hv=>cD ?_⟩
 ·have h1:A<B:=yy aa
  exact gN (us:=[.int .i64 (-1)]) (.inr rfl) hv ag (bQ (by simp[cV,h1]))
 ·have h1:B<A:=yy aa
  exact gN (us:=[.int .i64 1]) (.inr rfl) hv ag (bQ (by simp[cV,h1];omega))
 refine au.iy (i:=0) (y:=part (aG f84) [1,1,0,1,0,0]) ag [0,1,5,4] 0 (h0 _) (fun k:Nat=>[.mag A,.mag B,.int .i64 ((k:Int)-1),.int .i64 0]) (fun _=>[]) (fun _=>rfl) (fun _=>trivial)
  (fun k=>k<=nl A/\∀j,k<=j->j<nl A->aB A j=aB B j) id (nl A) (ef hv (by rw[wrap_i64 aa aa]) rfl) ⟨by simp,fun j h1 h2=>aa⟩ ?_
 rintro k ⟨hk,hlim⟩
 refine au.bF hT bU hm 30 [0,1,5,4] R8 ag ?_
 simp only[af.all,az,bz,bE]
 refine⟨fun hb2=>?_,fun hb2 s' hv=>fL ?_⟩
 ·obtain⟨j,rfl⟩:∃j,k=j+1:=⟨k-1,aa⟩
  have e:(((j+1:Nat):Int)-1).toNat=j:=aa
  rw[e]
  refine⟨⟨aa,aa⟩,fun hlt s' hv=>Km (fH (.inl ?_)),fun hlt=>⟨⟨aa,aa⟩,fun hgt s' hv=>Km (fH (.inl ?_)),fun hgt s' hv=>?_⟩⟩
  ·have h1:A<B:=zy hb (k:=j) aa (fun i h1 h2=>hlim i aa h2) aa
   exact gN (us:=[.int .i64 (-1)]) (.inr rfl) hv ag (bQ (by simp[cV,h1]))
  ·have h1:B<A:=zy hb.symm (k:=j) aa (fun i h1 h2=>(hlim i aa aa).symm) aa
   exact gN (us:=[.int .i64 1]) (.inr rfl) hv ag (bQ (by simp[cV,h1];omega))
  ·refine⟨j,ef hv (by rw[wrap_i64 aa aa];congr 4;omega) rfl,⟨aa,fun i h1 h2=>?_⟩,by simp⟩
   by_cases hi:i=j
   ·subst hi;omega
   ·exact hlim i aa h2
 ·have hk0:k=0:=aa
  have hAB:A=B:=Cm hb fun i hi=>hlim i aa hi
  exact cD (aF.j7 hT bU hm 30 hv (h0 0) rfl trivial Vh ag ag (bQ (by simp[cV,hAB])))
def mZ (g:Nat->Nat->AV) (l:Nat->Nat->List Prop):Spec:=bR fun a=>match a with
 |[x,y]=>match jn x,jn y with
  |some A,some B=>some (aJ (g A B) (l A B))
  |_,_=>none
 |_=>none
theorem pI {f:FuncId} {g:Nat->Nat->AV} {l:Nat->Nat->List Prop} (h:∀{A B:Nat},az (l A B)->∀K,aO P f K [.mag A,.mag B] [] (aJ (g A B) [])):bf P (mZ g l) f:=by
 refine cE fun K args r hk hs _=>?_
 split at hs
 ·split at hs
  ·rename_i A B hA hB
   simp only[ax]at hs
   subst hs
   exact fun need=>gC (h need K) hk ⟨k8 hA,k8 hB,trivial⟩ [] trivial
  ·simp at hs
 ·simp at hs
abbrev BC (A B:Nat):List Prop:=[nl A<2^40,nl B<2^40]
def uu:Spec:=mZ (fun A B=>.int .i64 (cV A B)) BC
theorem Ap:bf P uu 84:=pI fun h=>VJ h.1 h.2
theorem Yw {n:Nat} {z:Nat->Nat} (hz:∀i,i<n->z i<2^32) (hn:n<2^40) (hnl:nl (val n z)=n) (K:Nat):aO P 187 K [.ak 1 n (aA z)] [] (aJ (.int .i64 (bI (val n z):Nat)) []):=by
 refine ij hT Zi rfl aW rfl (fun _ c h0=>?_) K []
 refine au.hole [1,1,1,0,1] ag (aF.bF hT bU hm 30 [3,4,2] ad2 ag ?_)
 simp only[af.all,az,beq_iff_eq,beq_eq_false_iff_ne,ne_eq]
 refine⟨fun hb s' hv=>fH (.inl ?_),fun hb=>?_⟩
 ·have h1:n=0:=aa
  have h2:val n z=0:=by rw[h1];rfl
  exact gN (us:=[.int .i64 0]) (.inr rfl) hv ag (bQ (by rw[h2];rfl))
 have w1:i64.wrap ((n:Int)-1)=((n-1:Nat):Int):=fk aa aa
 have w2:i64.wrap (32*((n-1:Nat):Int))=((32*(n-1):Nat):Int):=fk aa aa
 rw[w1,w2]
 simp only[bu]
 refine⟨aa,fun s' hv=>cD ?_⟩
 have hzt:=hz (n-1) aa
 have htot:bI (val n z)=32*(n-1)+bI (z (n-1)):=by
  have h0:val n z≠0:=gI.1 aa
  rw[Fx h0,hnl,oV hz aa]
 refine au.iy (i:=0) (y:=part (aG f187) [1,1,1,0,1,0,0]) ag [3,4,2] 0 (h0 _) (fun p:Nat×Nat=>[.int .i64 (p.1:Nat),.int .u32 (p.2:Nat),.int .i64 0]) (fun _=>[]) (fun _=>rfl) (fun _=>trivial)
  (fun p=>p.1+bI p.2=bI (val n z)/\p.2<2^32) (fun p=>p.2) (32*(n-1),z (n-1)) hv ⟨htot.symm,hzt⟩ ?_
 rintro⟨x,y⟩ ⟨hxy,hy⟩
 simp only at hxy hy
 have hb32:bI (z (n-1))<=32:=jW.2 hzt
 refine au.bF hT bU hm 30 [3,4,2] adD ag ?_
 rw[vv (by decide) (by decide)]
 simp only[af.all,az,bne_iff_ne,ne_eq,bne_eq_false_iff_eq,show Int.toNat 1=1 from rfl]
 refine⟨fun hc=>⟨aa,fun s' hv=>?_⟩,fun hc s' hv=>fL (cD ?_)⟩
 ·have hy0:0<y:=aa
  have e:bI y=1+bI (y/2):=by
   by_cases h1:y=1
   ·rw[h1];decide
   ·exact sP (k:=1) aa
  have hd:y/2<y:=aa
  exact⟨(x+1,y/2),ef hv (by rw[fk (a:=(x:Int)+1) (n:=x+1) aa aa]) rfl,⟨by simp only;omega,by simp only;omega⟩,by simp only;omega⟩
 ·have hy0:y=0:=aa
  refine aF.j7 hT bU hm 30 hv (h0 0) rfl trivial XT ag ag (bQ ?_)
  rw[hy0]at hxy
  simp[bI]at hxy
  rw[hxy];simp[bI]
def G0:Spec:=bR (mo fun N n=>aJ (.int .i64 (bI N:Nat)) [n<2^40,nl N=n])
theorem T3:bf P G0 187:=
 cE (sM fun _ _ K hz need=>Yw hz need.1 need.2 K)
end Go.Am.B
