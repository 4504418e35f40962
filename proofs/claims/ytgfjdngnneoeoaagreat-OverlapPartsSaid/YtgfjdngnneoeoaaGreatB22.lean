/- ref01: Trim, Of, small, Cmp, Bits. -/
import Derived.Test.YtgfjdngnneoeoaaGreatB21
set_option linter.unusedVariables false
namespace Go.Am.B
open Go Go.Am.N AV Proofs.Tryz IntKind
theorem adj:aX 146 f146:=aM func146
theorem adL:aX 108 f108:=aM func108
theorem Po:aX 176 f176:=aM func176
theorem VY:aX 100 f100:=aM func100
theorem Wc:aX 177 f177:=aM func177
theorem aci {n:Nat} {z:Nat->Nat}:aL T [] [] 30 [0,3] (before (aF f146) [1,1,0]) ⟨aS 0 [.ak 1 n (aA z)],[],0⟩=
  some (ag.leaf aq.normal ([ak 1 n (aA z),int .i64 (↑n:Int)],[])):=ah
theorem UH {n k:Nat} {z:Nat->Nat}:aL T [] [8,15] 30 [0,3] [part (aF f146) [1,1,0,0,0]] ⟨aG [0,3] [.ak 1 n (aA z),.int .i64 k],[],0⟩=
  some (ag.fork (decide ((↑k:Int)>0)) (ag.aj [decide ((↑k:Int)>0)=true,(0:Int)<=i64.wrap ((↑k:Int)-1)/\(i64.wrap ((↑k:Int)-1)).toNat<n] (ag.fork (bif true then(↑(z (i64.wrap ((↑k:Int)-1)).toNat):Int)==0 else false) (ag.leaf aq.normal ([ak 1 n (aA z),int .i64 (i64.wrap ((↑k:Int)-1))],[])) (ag.leaf (aq.exit 0) ([ak 1 n (aA z),int .i64 (↑k:Int)],[])))) (ag.aj [decide ((↑k:Int)>0)=false] (ag.fork false (ag.leaf aq.normal ([ak 1 n (aA z),int .i64 (i64.wrap ((↑k:Int)-1))],[])) (ag.leaf (aq.exit 0) ([ak 1 n (aA z),int .i64 (↑k:Int)],[]))))):=ah
theorem YH {n k:Nat} {z:Nat->Nat}:cP T [] [] 30 f146 (behind (aF f146) [1,1,0]) ⟨aG [0,3] [.ak 1 n (aA z),.int .i64 k],[],0⟩=
  some (ag.aj [(0:Nat)*1<=2^24,(0:Int)<=0/\(0:Int)<=(↑k:Int)/\(↑k:Int)<=(↑k:Int)/\(↑k:Int)<=(↑n:Int),((0:Nat)+((↑k:Int).toNat-Int.toNat (0:Int)))*((4:Nat)+1)*2<=2^47] (ag.leaf aq.ret [ak 1 ((0:Nat)+((↑k:Int).toNat-Int.toNat (0:Int))) fun(i:Nat)=>if i+0<0 then nth [] (int .u32 (0:Int)) (i+0)else aA z (i+0-0+Int.toNat (0:Int))])):=ah
def ua:Spec:=bX (mh fun N n=>aH (.mag N) [n<2^40])
def fu:aV:=[(146,ua)]
theorem afi {n:Nat}:bF T fu [] 30 f108 (aF f108) ⟨aS 0 [.int .u64 n],[],0⟩=
  some (ag.aj [(0:Int)<=32,(2:Nat)*1<=2^24,eo 2 fun(i:Nat)=>nth [int .u32 (u32.wrap (↑n:Int)),int .u32 (u32.wrap ((↑n:Int).fdiv ((2:Int)^min (Int.toNat (32:Int)) u64.bits)))] (int .u32 (0:Int)) (i+0),(2:Nat)<2^40] (ag.leaf aq.ret [mag (val 2 fun(i:Nat)=>numOf (nth [int .u32 (u32.wrap (↑n:Int)),int .u32 (u32.wrap ((↑n:Int).fdiv ((2:Int)^min (Int.toNat (32:Int)) u64.bits)))] (int .u32 (0:Int)) (i+0)))])):=ah
theorem af6 {A:Nat}:bF T fu [6,8,14] 30 f176 (aF f176) ⟨aS 0 [.mag A],[],0⟩=
  some (ag.fork ((↑(nl A):Int)==0) (ag.leaf aq.ret [int .u64 (0:Int),AV.bool true]) (ag.fork ((↑(nl A):Int)==1) (ag.aj [(0:Int)<=0/\Int.toNat (0:Int)<nl A] (ag.leaf aq.ret [int .u64 (u64.wrap (↑(aB A (Int.toNat (0:Int))):Int)),AV.bool true])) (ag.fork ((↑(nl A):Int)==2) (ag.aj [(0:Int)<=0/\Int.toNat (0:Int)<nl A,(0:Int)<=1/\Int.toNat (1:Int)<nl A,(0:Int)<=32] (ag.leaf aq.ret [int .u64 (u64.wrap (↑(BitVec.ofInt u64.bits (u64.wrap (↑(aB A (Int.toNat (0:Int))):Int))|||BitVec.ofInt u64.bits (u64.wrap (u64.wrap (↑(aB A (Int.toNat (1:Int))):Int)*2^min (Int.toNat (32:Int)) u64.bits))).toNat:Int)),AV.bool true])) (ag.leaf aq.ret [int .u64 (0:Int),AV.bool false])))):=ah
theorem SF {A B:Nat}:aL T [] [10,15] 30 [0,1,5,4] (before (aF f100) [1,1,0,1]) ⟨aS 0 [.mag A,.mag B],[],0⟩=
  some (ag.fork ((↑(nl A):Int)!=(↑(nl B):Int)) (ag.fork (decide ((↑(nl A):Int)<(↑(nl B):Int))) (ag.leaf aq.ret ([mag A,mag B,tuple [],int .i64 (-1:Int)],[])) (ag.leaf aq.ret ([mag A,mag B,tuple [],int .i64 (1:Int)],[]))) (ag.leaf aq.normal ([mag A,mag B,int .i64 (i64.wrap ((↑(nl A):Int)-1)),int .i64 (0:Int)],[]))):=ah
theorem ahG {A B k:Nat}:aL T [] [20,31,40] 30 [0,1,5,4] [part (aF f100) [1,1,0,1,0,0]] ⟨aG [0,1,5,4] [.mag A,.mag B,.int .i64 ((k:Int)-1),.int .i64 0],[],0⟩=
  some (ag.fork (decide ((↑k:Int)-1>=(0:Int))) (ag.aj [(0:Int)<=(↑k:Int)-1/\((↑k:Int)-1).toNat<nl A,(0:Int)<=(↑k:Int)-1/\((↑k:Int)-1).toNat<nl B] (ag.fork (decide ((↑(aB A ((↑k:Int)-1).toNat):Int)<(↑(aB B ((↑k:Int)-1).toNat):Int))) (ag.leaf aq.ret ([mag A,mag B,int .i64 ((↑k:Int)-1),int .i64 (-1:Int)],[])) (ag.aj [(0:Int)<=(↑k:Int)-1/\((↑k:Int)-1).toNat<nl A,(0:Int)<=(↑k:Int)-1/\((↑k:Int)-1).toNat<nl B] (ag.fork (decide ((↑(aB A ((↑k:Int)-1).toNat):Int)>(↑(aB B ((↑k:Int)-1).toNat):Int))) (ag.leaf aq.ret ([mag A,mag B,int .i64 ((↑k:Int)-1),int .i64 (1:Int)],[])) (ag.leaf aq.normal ([mag A,mag B,int .i64 (i64.wrap ((↑k:Int)-1-(1:Int))),int .i64 (0:Int)],[])))))) (ag.leaf (aq.exit 0) ([mag A,mag B,int .i64 ((↑k:Int)-1),int .i64 (0:Int)],[]))):=ah
theorem QG {A B k:Nat}:cP T [] [] 30 f100 (behind (aF f100) [1,1,0,1]) ⟨aG [0,1,5,4] [.mag A,.mag B,.int .i64 ((k:Int)-1),.int .i64 0],[],0⟩=
  some (ag.leaf aq.ret [int .i64 (0:Int)]):=ah
theorem TS {n:Nat} {z:Nat->Nat}:aL T [] [7] 30 [3,4,2] (before (aF f177) [1,1,1,0,1]) ⟨aS 0 [.ak 1 n (aA z)],[],0⟩=
  some (ag.fork ((↑n:Int)==0) (ag.leaf aq.ret ([tuple [],tuple [],int .i64 (0:Int)],[])) (ag.aj [(0:Int)<=i64.wrap ((↑n:Int)-1)/\(i64.wrap ((↑n:Int)-1)).toNat<n] (ag.leaf aq.normal ([int .i64 (i64.wrap ((32:Int)*i64.wrap ((↑n:Int)-1))),int .u32 (↑(z (i64.wrap ((↑n:Int)-1)).toNat):Int),int .i64 (0:Int)],[])))):=ah
theorem QV {x y:Nat}:aL T [] [19] 30 [3,4,2] [part (aF f177) [1,1,1,0,1,0,0]] ⟨aG [3,4,2] [.int .i64 x,.int .u32 y,.int .i64 0],[],0⟩=
  some (ag.fork ((↑y:Int)!=0) (ag.aj [(0:Int)<=1] (ag.leaf aq.normal ([int .i64 (i64.wrap ((↑x:Int)+1)),int .u32 ((↑y:Int).fdiv ((2:Int)^min (Int.toNat (1:Int)) u32.bits)),int .i64 (0:Int)],[]))) (ag.leaf (aq.exit 0) ([int .i64 (↑x:Int),int .u32 (↑y:Int),int .i64 (0:Int)],[]))):=ah
theorem abV {x y:Nat}:cP T [] [] 30 f177 (behind (aF f177) [1,1,1,0,1]) ⟨aG [3,4,2] [.int .i64 x,.int .u32 y,.int .i64 0],[],0⟩=
  some (ag.leaf aq.ret [int .i64 (↑x:Int)]):=ah
theorem Ug {n:Nat} {z:Nat->Nat} (hz:∀i,i<n->z i<2^32) (hn:n<2^40) (K:Nat):aN P 146 K [.ak 1 n (aA z)] [] (aH (.mag (val n z)) []):=by
 refine jq hT adj rfl aW rfl (fun _ c h0=>?_) K []
 refine ay.hole [1,1,0] ah (aI.bH hT bD hm 30 [0,3] aci ah fun s' hv=>cL ?_)
 refine ay.iF (i:=0) (y:=part (aF f146) [1,1,0,0,0]) ah [0,3] 0 (h0 _) (fun k:Nat=>[.ak 1 n (aA z),.int .i64 k]) (fun _=>[]) (fun _=>rfl) (fun _=>trivial)
  (fun k=>k<=n/\∀i,k<=i->i<n->z i=0) id n hv ⟨aR,fun i h1 h2=>aa⟩ ?_
 rintro j ⟨hj,hzj⟩
 refine ay.bH hT bD hm 30 [0,3] UH ah ?_
 have fin:(j=0\/z (j-1)≠0)->∀s',bB [0,3] s'=some ([.ak 1 n (aA z),.int .i64 j],[])->aI P c f146.ntmps (behind (aF f146) [1,1,0]) s' (eU c (Fin T f146 (.mag (val n z)))):=by
  intro hj0 s' hv
  refine aI.kA hT bD hm 30 hv (h0 0) rfl trivial YH ah ah ?_
  simp only[ag.all,au,br,Int.toNat_zero,Nat.zero_add,Nat.sub_zero,Nat.add_zero]
  have e:val n z=val j z:=m7 hj hzj
  refine⟨⟨aa,aa,aa⟩,lz (by rw[e,Aa (fun i hi=>hz i aa) hj0]) fun i hi=>?_⟩
  rw[if_neg aa,e,o5 (fun j hj=>hz j aa) hi]
  rfl
 have hw:0<j->i64.wrap ((j:Int)-1)=((j-1:Nat):Int):=fun h=>by rw[wrap_i64 aa aa];omega
 refine⟨fun hb=>?_,fun hb=>?_⟩
 ·have h1:0<j:=by simpa using hb
  rw[hw h1]
  have hj1:j-1<n:=aa
  refine⟨⟨hb,aa,by rw[br];exact hj1⟩,fun hc s' hv=>?_,fun hc s' hv=>?_⟩
  ·refine⟨j-1,hv,⟨aa,fun i h1 h2=>?_⟩,by simp;omega⟩
   by_cases hi:i=j-1
   ·subst hi;simpa using hc
   ·exact hzj i aa h2
  ·exact fK (fin (.inr (by simpa using hc)) s' hv)
 ·have h1:j=0:=by simpa using hb
  refine⟨hb,fun hc=>by simp at hc,fun hc s' hv=>fK (fin (.inl h1) s' hv)⟩
theorem vr:bf P ua 146:=
 cM (tV fun _ _ K hz need=>Ug hz need K)
theorem fy:bg P fu:=aE vr bD
theorem aaw {x:Nat} (hx:x<2^64) (K:Nat):aN P 108 K [.int .u64 x] [] (aH (.mag x) []):=by
 refine bM hT fy hm adL rfl aW rfl 30 afi (fun _=>?_) K []
 simp only[ag.all,au,lW]
 refine⟨⟨aa,aa,fun i hi=>?_,aa⟩,dX (congrArg AV.mag ?_)⟩
 ·match i,hi with
  |0,_=>exact⟨x%2^32,aa,by simp[nth,jP]⟩
  |1,_=>exact⟨x/4294967296,aa,by simp[nth,lC];omega⟩
 ·rw[val_two]
  simp[nth,numOf,lC]
  omega
def vf:Spec:=bX fun l=>match l with
 |[.int .u64 x]=>some (aH (.mag x.toNat) [0<=x/\x<2^64])
 |_=>none
theorem xY:bf P vf 108:=by
 refine cM fun K args r hk hs _=>?_
 split at hs
 ·simp only[ax]at hs
  subst hs
  intro need
  obtain⟨h1,h2⟩:=need
  rename_i x
  obtain⟨y,rfl⟩:=Int.eq_ofNat_of_zero_le h1
  exact aaw (x:=y) aa K trivial
 ·simp at hs
def gr (A:Nat):Bool:=decide (A<18446744073709551616)
theorem XR {A:Nat} (K:Nat):aN P 176 K [.mag A] [] (aH (.tuple [.int .u64 (if gr A then A else 0:Nat),.bool (gr A)]) []):=by
 refine bM hT fy hm Po rfl aW rfl 30 af6 (fun _=>?_) K []
 simp only[ag.all,au,beq_iff_eq,beq_eq_false_iff_ne,ne_eq,Int.toNat_zero,show Int.toNat 1=1 from rfl]
 have hv:=gq (N:=A)
 have l0:=dS (N:=A) (i:=0)
 have l1:=dS (N:=A) (i:=1)
 have yes:∀{x:Int},A<2^64->x=(A:Nat)->fA [.int .u64 x,.bool true] (.tuple [.int .u64 (if gr A then A else 0:Nat),.bool (gr A)]):=fun h hx=>by
  have:gr A=true:=by unfold gr;simpa using h
  rw[this,if_pos rfl]
  exact⟨bW hx,.refl _,trivial⟩
 refine⟨fun hb=>yes ?_ ?_,fun hb=>⟨fun h1=>⟨aa,yes ?_ ?_⟩,fun h1=>⟨fun h2=>⟨⟨aa,aa,aa⟩,yes ?_ ?_⟩,fun h2=>?_⟩⟩⟩
 ·have:A=0:=j9.1 aa
  omega
 ·have:A=0:=j9.1 aa
  rw[this];rfl
 ·exact pG aa
 ·rw[show nl A=1 by omega,val,val]at hv
  rw[cw aa aa]
  simp at hv;omega
 ·exact pG aa
 ·rw[show nl A=2 by omega,val,val,val]at hv
  have e1:u64.wrap (aB A 0:Int)=((aB A 0:Nat):Int):=cw aa aa
  have e2:u64.wrap (aB A 1:Int)=((aB A 1:Nat):Int):=cw aa aa
  have e3:u64.wrap ((aB A 1:Int)*2^min (Int.toNat 32) u64.bits)=((aB A 1*4294967296:Nat):Int):=by
   rw[wo,cw aa aa];omega
  rw[e1,e2,e3,s8 aa aa]
  congr 1
  rw[Nat.or_comm,show 4294967296=2^32 from rfl,qO l0]
  simp at hv;omega
 ·have:gr A=false:=by
   unfold gr
   simp only[bG]
   intro h
   have:nl A<=2:=dL.2 h
   omega
  rw[this]
  exact⟨.refl _,.refl _,trivial⟩
def Dz:Spec:=bX fun l=>match l with
 |[a]=>match jr a with
  |some A=>some (aH (.tuple [.int .u64 (if gr A then A else 0:Nat),.bool (gr A)]) [])
  |none=>none
 |_=>none
theorem Je:bf P Dz 176:=by
 refine cM fun K args r hk hs _=>?_
 split at hs
 ·split at hs
  ·rename_i A hA
   simp only[ax]at hs
   subst hs
   exact eR (XR K) hk ⟨lJ hA,trivial⟩ []
  ·simp at hs
 ·simp at hs
theorem aaz {A B:Nat} (hA:nl A<2^40) (hB:nl B<2^40) (K:Nat):aN P 100 K [.mag A,.mag B] [] (aH (.int .i64 (cY A B)) []):=by
 refine jq hT VY rfl aW rfl (fun _ c h0=>?_) K []
 refine ay.hole [1,1,0,1] ah (aI.bH hT bD hm 30 [0,1,5,4] SF ah ?_)
 simp only[ag.all,au,bz,bG,bne_iff_ne,ne_eq,Int.natCast_inj,bne_eq_false_iff_eq]
 refine⟨fun hb=>⟨fun hb2 s' hv=>fI (.inl ?_),fun hb2 s' hv=>fI (.inl ?_)⟩,fun hb s' hv=>cL ?_⟩
 ·have h1:A<B:=yH aa
  exact gU (us:=[.int .i64 (-1)]) (.inr rfl) hv ah (bW (by simp[cY,h1]))
 ·have h1:B<A:=yH aa
  exact gU (us:=[.int .i64 1]) (.inr rfl) hv ah (bW (by simp[cY,h1];omega))
 refine ay.iF (i:=0) (y:=part (aF f100) [1,1,0,1,0,0]) ah [0,1,5,4] 0 (h0 _) (fun k:Nat=>[.mag A,.mag B,.int .i64 ((k:Int)-1),.int .i64 0]) (fun _=>[]) (fun _=>rfl) (fun _=>trivial)
  (fun k=>k<=nl A/\∀j,k<=j->j<nl A->aB A j=aB B j) id (nl A) (ee hv (by rw[wrap_i64 aa aa]) rfl) ⟨by simp,fun j h1 h2=>aa⟩ ?_
 rintro k ⟨hk,hlim⟩
 refine ay.bH hT bD hm 30 [0,1,5,4] ahG ah ?_
 simp only[ag.all,au,bz,bG]
 refine⟨fun hb2=>?_,fun hb2 s' hv=>fK ?_⟩
 ·obtain⟨j,rfl⟩:∃j,k=j+1:=⟨k-1,aa⟩
  have e:(((j+1:Nat):Int)-1).toNat=j:=aa
  rw[e]
  refine⟨⟨aa,aa⟩,fun hlt s' hv=>Oe (fI (.inl ?_)),fun hlt=>⟨⟨aa,aa⟩,fun hgt s' hv=>Oe (fI (.inl ?_)),fun hgt s' hv=>?_⟩⟩
  ·have h1:A<B:=AU hb (k:=j) aa (fun i h1 h2=>hlim i aa h2) aa
   exact gU (us:=[.int .i64 (-1)]) (.inr rfl) hv ah (bW (by simp[cY,h1]))
  ·have h1:B<A:=AU hb.symm (k:=j) aa (fun i h1 h2=>(hlim i aa aa).symm) aa
   exact gU (us:=[.int .i64 1]) (.inr rfl) hv ah (bW (by simp[cY,h1];omega))
  ·refine⟨j,ee hv (by rw[wrap_i64 aa aa];congr 4;omega) rfl,⟨aa,fun i h1 h2=>?_⟩,by simp⟩
   by_cases hi:i=j
   ·subst hi;omega
   ·exact hlim i aa h2
 ·have hk0:k=0:=aa
  have hAB:A=B:=De hb fun i hi=>hlim i aa hi
  exact cL (aI.kA hT bD hm 30 hv (h0 0) rfl trivial QG ah ah (bW (by simp[cY,hAB])))
def nE (g:Nat->Nat->AV) (l:Nat->Nat->List Prop):Spec:=bX fun a=>match a with
 |[x,y]=>match jr x,jr y with
  |some A,some B=>some (aH (g A B) (l A B))
  |_,_=>none
 |_=>none
theorem pq {f:FuncId} {g:Nat->Nat->AV} {l:Nat->Nat->List Prop} (h:∀{A B:Nat},au (l A B)->∀K,aN P f K [.mag A,.mag B] [] (aH (g A B) [])):bf P (nE g l) f:=by
 refine cM fun K args r hk hs _=>?_
 split at hs
 ·split at hs
  ·rename_i A B hA hB
   simp only[ax]at hs
   subst hs
   exact fun need=>eR (h need K) hk ⟨lJ hA,lJ hB,trivial⟩ [] trivial
  ·simp at hs
 ·simp at hs
abbrev Cl (A B:Nat):List Prop:=[nl A<2^40,nl B<2^40]
def xm:Spec:=nE (fun A B=>.int .i64 (cY A B)) Cl
theorem Ae:bf P xm 100:=pq fun h=>aaz h.1 h.2
theorem Vw {n:Nat} {z:Nat->Nat} (hz:∀i,i<n->z i<2^32) (hn:n<2^40) (hnl:nl (val n z)=n) (K:Nat):aN P 177 K [.ak 1 n (aA z)] [] (aH (.int .i64 (bN (val n z):Nat)) []):=by
 refine jq hT Wc rfl aW rfl (fun _ c h0=>?_) K []
 refine ay.hole [1,1,1,0,1] ah (aI.bH hT bD hm 30 [3,4,2] TS ah ?_)
 simp only[ag.all,au,beq_iff_eq,beq_eq_false_iff_ne,ne_eq]
 refine⟨fun hb s' hv=>fI (.inl ?_),fun hb=>?_⟩
 ·have h1:n=0:=aa
  have h2:val n z=0:=by rw[h1];rfl
  exact gU (us:=[.int .i64 0]) (.inr rfl) hv ah (bW (by rw[h2];rfl))
 have w1:i64.wrap ((n:Int)-1)=((n-1:Nat):Int):=fe aa aa
 have w2:i64.wrap (32*((n-1:Nat):Int))=((32*(n-1):Nat):Int):=fe aa aa
 rw[w1,w2]
 simp only[br]
 refine⟨aa,fun s' hv=>cL ?_⟩
 have hzt:=hz (n-1) aa
 have htot:bN (val n z)=32*(n-1)+bN (z (n-1)):=by
  have h0:val n z≠0:=gE.1 aa
  rw[G8 h0,hnl,o5 hz aa]
 refine ay.iF (i:=0) (y:=part (aF f177) [1,1,1,0,1,0,0]) ah [3,4,2] 0 (h0 _) (fun p:Nat×Nat=>[.int .i64 (p.1:Nat),.int .u32 (p.2:Nat),.int .i64 0]) (fun _=>[]) (fun _=>rfl) (fun _=>trivial)
  (fun p=>p.1+bN p.2=bN (val n z)/\p.2<2^32) (fun p=>p.2) (32*(n-1),z (n-1)) hv ⟨htot.symm,hzt⟩ ?_
 rintro⟨x,y⟩ ⟨hxy,hy⟩
 simp only at hxy hy
 have hb32:bN (z (n-1))<=32:=ki.2 hzt
 refine ay.bH hT bD hm 30 [3,4,2] QV ah ?_
 rw[uR (by decide) (by decide)]
 simp only[ag.all,au,bne_iff_ne,ne_eq,bne_eq_false_iff_eq,show Int.toNat 1=1 from rfl]
 refine⟨fun hc=>⟨aa,fun s' hv=>?_⟩,fun hc s' hv=>fK (cL ?_)⟩
 ·have hy0:0<y:=aa
  have e:bN y=1+bN (y/2):=by
   by_cases h1:y=1
   ·rw[h1];decide
   ·exact ue (k:=1) aa
  have hd:y/2<y:=aa
  exact⟨(x+1,y/2),ee hv (by rw[fe (a:=(x:Int)+1) (n:=x+1) aa aa]) rfl,⟨by simp only;omega,by simp only;omega⟩,by simp only;omega⟩
 ·have hy0:y=0:=aa
  refine aI.kA hT bD hm 30 hv (h0 0) rfl trivial abV ah ah (bW ?_)
  rw[hy0]at hxy
  simp[bN]at hxy
  rw[hxy];simp[bN]
def LJ:Spec:=bX (mh fun N n=>aH (.int .i64 (bN N:Nat)) [n<2^40,nl N=n])
theorem adC:bf P LJ 177:=
 cM (tV fun _ _ K hz need=>Vw hz need.1 need.2 K)
end Go.Am.B
