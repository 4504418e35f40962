/- ref01: Trim, Of, small, Cmp, Bits. -/
import Derived.Test.YtgfjdngnneoeoaaGreatB21
set_option linter.unusedVariables false
namespace Go.Am.B
open Go Go.Am.N AV Proofs.Tryz IntKind
theorem afA:aW 146 f146:=aN func146
theorem VS:aW 108 f108:=aN func108
theorem ad4:aW 176 f176:=aN func176
theorem agl:aW 100 f100:=aN func100
theorem Vc:aW 177 f177:=aN func177
theorem aef {n:Nat} {z:Nat->Nat}:aM T [] [] 30 [0,3] (before (aF f146) [1,1,0]) ⟨aT 0 [.aq 1 n (aA z)],[],0⟩=
  some (ag.leaf ak.normal ([aq 1 n (aA z),int .i64 (↑n:Int)],[])):=ah
theorem OK {n k:Nat} {z:Nat->Nat}:aM T [] [8,15] 30 [0,3] [part (aF f146) [1,1,0,0,0]] ⟨aH [0,3] [.aq 1 n (aA z),.int .i64 k],[],0⟩=
  some (ag.fork (decide ((↑k:Int)>0)) (ag.aj [decide ((↑k:Int)>0)=true,(0:Int)<=i64.wrap ((↑k:Int)-1)/\(i64.wrap ((↑k:Int)-1)).toNat<n] (ag.fork (bif true then(↑(z (i64.wrap ((↑k:Int)-1)).toNat):Int)==0 else false) (ag.leaf ak.normal ([aq 1 n (aA z),int .i64 (i64.wrap ((↑k:Int)-1))],[])) (ag.leaf (ak.exit 0) ([aq 1 n (aA z),int .i64 (↑k:Int)],[])))) (ag.aj [decide ((↑k:Int)>0)=false] (ag.fork false (ag.leaf ak.normal ([aq 1 n (aA z),int .i64 (i64.wrap ((↑k:Int)-1))],[])) (ag.leaf (ak.exit 0) ([aq 1 n (aA z),int .i64 (↑k:Int)],[]))))):=ah
theorem Qr {n k:Nat} {z:Nat->Nat}:cR T [] [] 30 f146 (behind (aF f146) [1,1,0]) ⟨aH [0,3] [.aq 1 n (aA z),.int .i64 k],[],0⟩=
  some (ag.aj [(0:Nat)*1<=2^24,(0:Int)<=0/\(0:Int)<=(↑k:Int)/\(↑k:Int)<=(↑k:Int)/\(↑k:Int)<=(↑n:Int),((0:Nat)+((↑k:Int).toNat-Int.toNat (0:Int)))*((4:Nat)+1)*2<=2^47] (ag.leaf ak.ret [aq 1 ((0:Nat)+((↑k:Int).toNat-Int.toNat (0:Int))) fun(i:Nat)=>if i+0<0 then nth [] (int .u32 (0:Int)) (i+0)else aA z (i+0-0+Int.toNat (0:Int))])):=ah
def sY:Spec:=bY (lW fun N n=>aI (.mag N) [n<2^40])
def e9:aU:=[(146,sY)]
theorem abM {n:Nat}:bD T e9 [] 30 f108 (aF f108) ⟨aT 0 [.int .u64 n],[],0⟩=
  some (ag.aj [(0:Int)<=32,(2:Nat)*1<=2^24,ee 2 fun(i:Nat)=>nth [int .u32 (u32.wrap (↑n:Int)),int .u32 (u32.wrap ((↑n:Int).fdiv ((2:Int)^min (Int.toNat (32:Int)) u64.bits)))] (int .u32 (0:Int)) (i+0),(2:Nat)<2^40] (ag.leaf ak.ret [mag (val 2 fun(i:Nat)=>numOf (nth [int .u32 (u32.wrap (↑n:Int)),int .u32 (u32.wrap ((↑n:Int).fdiv ((2:Int)^min (Int.toNat (32:Int)) u64.bits)))] (int .u32 (0:Int)) (i+0)))])):=ah
theorem abC {A:Nat}:bD T e9 [6,8,14] 30 f176 (aF f176) ⟨aT 0 [.mag A],[],0⟩=
  some (ag.fork ((↑(nl A):Int)==0) (ag.leaf ak.ret [int .u64 (0:Int),AV.bool true]) (ag.fork ((↑(nl A):Int)==1) (ag.aj [(0:Int)<=0/\Int.toNat (0:Int)<nl A] (ag.leaf ak.ret [int .u64 (u64.wrap (↑(aB A (Int.toNat (0:Int))):Int)),AV.bool true])) (ag.fork ((↑(nl A):Int)==2) (ag.aj [(0:Int)<=0/\Int.toNat (0:Int)<nl A,(0:Int)<=1/\Int.toNat (1:Int)<nl A,(0:Int)<=32] (ag.leaf ak.ret [int .u64 (u64.wrap (↑(BitVec.ofInt u64.bits (u64.wrap (↑(aB A (Int.toNat (0:Int))):Int))|||BitVec.ofInt u64.bits (u64.wrap (u64.wrap (↑(aB A (Int.toNat (1:Int))):Int)*2^min (Int.toNat (32:Int)) u64.bits))).toNat:Int)),AV.bool true])) (ag.leaf ak.ret [int .u64 (0:Int),AV.bool false])))):=ah
theorem abk {A B:Nat}:aM T [] [10,15] 30 [0,1,5,4] (before (aF f100) [1,1,0,1]) ⟨aT 0 [.mag A,.mag B],[],0⟩=
  some (ag.fork ((↑(nl A):Int)!=(↑(nl B):Int)) (ag.fork (decide ((↑(nl A):Int)<(↑(nl B):Int))) (ag.leaf ak.ret ([mag A,mag B,tuple [],int .i64 (-1:Int)],[])) (ag.leaf ak.ret ([mag A,mag B,tuple [],int .i64 (1:Int)],[]))) (ag.leaf ak.normal ([mag A,mag B,int .i64 (i64.wrap ((↑(nl A):Int)-1)),int .i64 (0:Int)],[]))):=ah
theorem agL {A B k:Nat}:aM T [] [20,31,40] 30 [0,1,5,4] [part (aF f100) [1,1,0,1,0,0]] ⟨aH [0,1,5,4] [.mag A,.mag B,.int .i64 ((k:Int)-1),.int .i64 0],[],0⟩=
  some (ag.fork (decide ((↑k:Int)-1>=(0:Int))) (ag.aj [(0:Int)<=(↑k:Int)-1/\((↑k:Int)-1).toNat<nl A,(0:Int)<=(↑k:Int)-1/\((↑k:Int)-1).toNat<nl B] (ag.fork (decide ((↑(aB A ((↑k:Int)-1).toNat):Int)<(↑(aB B ((↑k:Int)-1).toNat):Int))) (ag.leaf ak.ret ([mag A,mag B,int .i64 ((↑k:Int)-1),int .i64 (-1:Int)],[])) (ag.aj [(0:Int)<=(↑k:Int)-1/\((↑k:Int)-1).toNat<nl A,(0:Int)<=(↑k:Int)-1/\((↑k:Int)-1).toNat<nl B] (ag.fork (decide ((↑(aB A ((↑k:Int)-1).toNat):Int)>(↑(aB B ((↑k:Int)-1).toNat):Int))) (ag.leaf ak.ret ([mag A,mag B,int .i64 ((↑k:Int)-1),int .i64 (1:Int)],[])) (ag.leaf ak.normal ([mag A,mag B,int .i64 (i64.wrap ((↑k:Int)-1-(1:Int))),int .i64 (0:Int)],[])))))) (ag.leaf (ak.exit 0) ([mag A,mag B,int .i64 ((↑k:Int)-1),int .i64 (0:Int)],[]))):=ah
theorem YV {A B k:Nat}:cR T [] [] 30 f100 (behind (aF f100) [1,1,0,1]) ⟨aH [0,1,5,4] [.mag A,.mag B,.int .i64 ((k:Int)-1),.int .i64 0],[],0⟩=
  some (ag.leaf ak.ret [int .i64 (0:Int)]):=ah
theorem PR {n:Nat} {z:Nat->Nat}:aM T [] [7] 30 [3,4,2] (before (aF f177) [1,1,1,0,1]) ⟨aT 0 [.aq 1 n (aA z)],[],0⟩=
  some (ag.fork ((↑n:Int)==0) (ag.leaf ak.ret ([tuple [],tuple [],int .i64 (0:Int)],[])) (ag.aj [(0:Int)<=i64.wrap ((↑n:Int)-1)/\(i64.wrap ((↑n:Int)-1)).toNat<n] (ag.leaf ak.normal ([int .i64 (i64.wrap ((32:Int)*i64.wrap ((↑n:Int)-1))),int .u32 (↑(z (i64.wrap ((↑n:Int)-1)).toNat):Int),int .i64 (0:Int)],[])))):=ah
theorem ac7 {x y:Nat}:aM T [] [19] 30 [3,4,2] [part (aF f177) [1,1,1,0,1,0,0]] ⟨aH [3,4,2] [.int .i64 x,.int .u32 y,.int .i64 0],[],0⟩=
  some (ag.fork ((↑y:Int)!=0) (ag.aj [(0:Int)<=1] (ag.leaf ak.normal ([int .i64 (i64.wrap ((↑x:Int)+1)),int .u32 ((↑y:Int).fdiv ((2:Int)^min (Int.toNat (1:Int)) u32.bits)),int .i64 (0:Int)],[]))) (ag.leaf (ak.exit 0) ([int .i64 (↑x:Int),int .u32 (↑y:Int),int .i64 (0:Int)],[]))):=ah
theorem adj {x y:Nat}:cR T [] [] 30 f177 (behind (aF f177) [1,1,1,0,1]) ⟨aH [3,4,2] [.int .i64 x,.int .u32 y,.int .i64 0],[],0⟩=
  some (ag.leaf ak.ret [int .i64 (↑x:Int)]):=ah
theorem acz {n:Nat} {z:Nat->Nat} (hz:∀i,i<n->z i<2^32) (hn:n<2^40) (K:Nat):aO P 146 K [.aq 1 n (aA z)] [] (aI (.mag (val n z)) []):=by
 refine ji hT afA rfl aV rfl (fun _ c h0=>?_) K []
 refine ay.hole [1,1,0] ah (aJ.bE hT bA hm 30 [0,3] aef ah fun s' hv=>cF ?_)
 refine ay.ij (i:=0) (y:=part (aF f146) [1,1,0,0,0]) ah [0,3] 0 (h0 _) (fun k:Nat=>[.aq 1 n (aA z),.int .i64 k]) (fun _=>[]) (fun _=>rfl) (fun _=>trivial)
  (fun k=>k<=n/\∀i,k<=i->i<n->z i=0) id n hv ⟨bq,fun i h1 h2=>aa⟩ ?_
 rintro j ⟨hj,hzj⟩
 refine ay.bE hT bA hm 30 [0,3] OK ah ?_
 have fin:(j=0\/z (j-1)≠0)->∀s',bC [0,3] s'=some ([.aq 1 n (aA z),.int .i64 j],[])->aJ P c f146.ntmps (behind (aF f146) [1,1,0]) s' (eG c (Fin T f146 (.mag (val n z)))):=by
  intro hj0 s' hv
  refine aJ.jN hT bA hm 30 hv (h0 0) rfl trivial Qr ah ah ?_
  simp only[ag.all,au,bw,Int.toNat_zero,Nat.zero_add,Nat.sub_zero,Nat.add_zero]
  have e:val n z=val j z:=mQ hj hzj
  refine⟨⟨aa,aa,aa⟩,lp (by rw[e,yX (fun i hi=>hz i aa) hj0]) fun i hi=>?_⟩
  rw[if_neg aa,e,pe (fun j hj=>hz j aa) hi]
  rfl
 have hw:0<j->i64.wrap ((j:Int)-1)=((j-1:Nat):Int):=fun h=>by rw[wrap_i64 aa aa];omega
 refine⟨fun hb=>?_,fun hb=>?_⟩
 ·have h1:0<j:=by simpa using hb
  rw[hw h1]
  have hj1:j-1<n:=aa
  refine⟨⟨hb,aa,by rw[bw];exact hj1⟩,fun hc s' hv=>?_,fun hc s' hv=>?_⟩
  ·refine⟨j-1,hv,⟨aa,fun i h1 h2=>?_⟩,by simp;omega⟩
   by_cases hi:i=j-1
   ·subst hi;simpa using hc
   ·exact hzj i aa h2
  ·exact fG (fin (.inr (by simpa using hc)) s' hv)
 ·have h1:j=0:=by simpa using hb
  refine⟨hb,fun hc=>by simp at hc,fun hc s' hv=>fG (fin (.inl h1) s' hv)⟩
theorem u5:aY P sY 146:=
 cJ (tv fun _ _ K hz need=>acz hz need K)
theorem fj:aZ P e9:=aE u5 bA
theorem agh {x:Nat} (hx:x<2^64) (K:Nat):aO P 108 K [.int .u64 x] [] (aI (.mag x) []):=by
 refine bJ hT fj hm VS rfl aV rfl 30 abM (fun _=>?_) K []
 simp only[ag.all,au,lN]
 refine⟨⟨aa,aa,fun i hi=>?_,aa⟩,dM (congrArg AV.mag ?_)⟩
 ·match i,hi with
  |0,_=>exact⟨x%2^32,aa,by simp[nth,jC]⟩
  |1,_=>exact⟨x/4294967296,aa,by simp[nth,kT];omega⟩
 ·rw[val_two]
  simp[nth,numOf,kT]
  omega
def wk:Spec:=bY fun l=>match l with
 |[.int .u64 x]=>some (aI (.mag x.toNat) [0<=x/\x<2^64])
 |_=>none
theorem yJ:aY P wk 108:=by
 refine cJ fun K args r hk hs _=>?_
 split at hs
 ·simp only[ax]at hs
  subst hs
  intro need
  obtain⟨h1,h2⟩:=need
  rename_i x
  obtain⟨y,rfl⟩:=Int.eq_ofNat_of_zero_le h1
  exact agh (x:=y) aa K trivial
 ·simp at hs
def gl (A:Nat):Bool:=decide (A<18446744073709551616)
theorem RD {A:Nat} (K:Nat):aO P 176 K [.mag A] [] (aI (.tuple [.int .u64 (if gl A then A else 0:Nat),.bool (gl A)]) []):=by
 refine bJ hT fj hm ad4 rfl aV rfl 30 abC (fun _=>?_) K []
 simp only[ag.all,au,beq_iff_eq,beq_eq_false_iff_ne,ne_eq,Int.toNat_zero,show Int.toNat 1=1 from rfl]
 have hv:=gp (N:=A)
 have l0:=dO (N:=A) (i:=0)
 have l1:=dO (N:=A) (i:=1)
 have yes:∀{x:Int},A<2^64->x=(A:Nat)->fz [.int .u64 x,.bool true] (.tuple [.int .u64 (if gl A then A else 0:Nat),.bool (gl A)]):=fun h hx=>by
  have:gl A=true:=by unfold gl;simpa using h
  rw[this,if_pos rfl]
  exact⟨bU hx,.refl _,trivial⟩
 refine⟨fun hb=>yes ?_ ?_,fun hb=>⟨fun h1=>⟨aa,yes ?_ ?_⟩,fun h1=>⟨fun h2=>⟨⟨aa,aa,aa⟩,yes ?_ ?_⟩,fun h2=>?_⟩⟩⟩
 ·have:A=0:=jX.1 aa
  omega
 ·have:A=0:=jX.1 aa
  rw[this];rfl
 ·exact pG aa
 ·rw[show nl A=1 by omega,val,val]at hv
  rw[ck aa aa]
  simp at hv;omega
 ·exact pG aa
 ·rw[show nl A=2 by omega,val,val,val]at hv
  have e1:u64.wrap (aB A 0:Int)=((aB A 0:Nat):Int):=ck aa aa
  have e2:u64.wrap (aB A 1:Int)=((aB A 1:Nat):Int):=ck aa aa
  have e3:u64.wrap ((aB A 1:Int)*2^min (Int.toNat 32) u64.bits)=((aB A 1*4294967296:Nat):Int):=by
   rw[vK,ck aa aa];omega
  rw[e1,e2,e3,tf aa aa]
  congr 1
  rw[Nat.or_comm,show 4294967296=2^32 from rfl,qH l0]
  simp at hv;omega
 ·have:gl A=false:=by
   unfold gl
   simp only[bF]
   intro h
   have:nl A<=2:=dy.2 h
   omega
  rw[this]
  exact⟨.refl _,.refl _,trivial⟩
def DA:Spec:=bY fun l=>match l with
 |[a]=>match jh a with
  |some A=>some (aI (.tuple [.int .u64 (if gl A then A else 0:Nat),.bool (gl A)]) [])
  |none=>none
 |_=>none
theorem FE:aY P DA 176:=by
 refine cJ fun K args r hk hs _=>?_
 split at hs
 ·split at hs
  ·rename_i A hA
   simp only[ax]at hs
   subst hs
   exact eW (RD K) hk ⟨kY hA,trivial⟩ []
  ·simp at hs
 ·simp at hs
theorem Zd {A B:Nat} (hA:nl A<2^40) (hB:nl B<2^40) (K:Nat):aO P 100 K [.mag A,.mag B] [] (aI (.int .i64 (cV A B)) []):=by
 refine ji hT agl rfl aV rfl (fun _ c h0=>?_) K []
 refine ay.hole [1,1,0,1] ah (aJ.bE hT bA hm 30 [0,1,5,4] abk ah ?_)
 simp only[ag.all,au,bz,bF,bne_iff_ne,ne_eq,Int.natCast_inj,bne_eq_false_iff_eq]
 refine⟨fun hb=>⟨fun hb2 s' hv=>fA (.inl ?_),fun hb2 s' hv=>fA (.inl ?_)⟩,fun hb s' hv=>cF ?_⟩
 ·have h1:A<B:=zh aa
  exact gL (us:=[.int .i64 (-1)]) (.inr rfl) hv ah (bU (by simp[cV,h1]))
 ·have h1:B<A:=zh aa
  exact gL (us:=[.int .i64 1]) (.inr rfl) hv ah (bU (by simp[cV,h1];omega))
 refine ay.ij (i:=0) (y:=part (aF f100) [1,1,0,1,0,0]) ah [0,1,5,4] 0 (h0 _) (fun k:Nat=>[.mag A,.mag B,.int .i64 ((k:Int)-1),.int .i64 0]) (fun _=>[]) (fun _=>rfl) (fun _=>trivial)
  (fun k=>k<=nl A/\∀j,k<=j->j<nl A->aB A j=aB B j) id (nl A) (dS hv (by rw[wrap_i64 aa aa]) rfl) ⟨by simp,fun j h1 h2=>aa⟩ ?_
 rintro k ⟨hk,hlim⟩
 refine ay.bE hT bA hm 30 [0,1,5,4] agL ah ?_
 simp only[ag.all,au,bz,bF]
 refine⟨fun hb2=>?_,fun hb2 s' hv=>fG ?_⟩
 ·obtain⟨j,rfl⟩:∃j,k=j+1:=⟨k-1,aa⟩
  have e:(((j+1:Nat):Int)-1).toNat=j:=aa
  rw[e]
  refine⟨⟨aa,aa⟩,fun hlt s' hv=>Kf (fA (.inl ?_)),fun hlt=>⟨⟨aa,aa⟩,fun hgt s' hv=>Kf (fA (.inl ?_)),fun hgt s' hv=>?_⟩⟩
  ·have h1:A<B:=y8 hb (k:=j) aa (fun i h1 h2=>hlim i aa h2) aa
   exact gL (us:=[.int .i64 (-1)]) (.inr rfl) hv ah (bU (by simp[cV,h1]))
  ·have h1:B<A:=y8 hb.symm (k:=j) aa (fun i h1 h2=>(hlim i aa aa).symm) aa
   exact gL (us:=[.int .i64 1]) (.inr rfl) hv ah (bU (by simp[cV,h1];omega))
  ·refine⟨j,dS hv (by rw[wrap_i64 aa aa];congr 4;omega) rfl,⟨aa,fun i h1 h2=>?_⟩,by simp⟩
   by_cases hi:i=j
   ·subst hi;omega
   ·exact hlim i aa h2
 ·have hk0:k=0:=aa
  have hAB:A=B:=D5 hb fun i hi=>hlim i aa hi
  exact cF (aJ.jN hT bA hm 30 hv (h0 0) rfl trivial YV ah ah (bU (by simp[cV,hAB])))
def mY (g:Nat->Nat->AV) (l:Nat->Nat->List Prop):Spec:=bY fun a=>match a with
 |[x,y]=>match jh x,jh y with
  |some A,some B=>some (aI (g A B) (l A B))
  |_,_=>none
 |_=>none
theorem oB {f:FuncId} {g:Nat->Nat->AV} {l:Nat->Nat->List Prop} (h:∀{A B:Nat},au (l A B)->∀K,aO P f K [.mag A,.mag B] [] (aI (g A B) [])):aY P (mY g l) f:=by
 refine cJ fun K args r hk hs _=>?_
 split at hs
 ·split at hs
  ·rename_i A B hA hB
   simp only[ax]at hs
   subst hs
   exact fun need=>eW (h need K) hk ⟨kY hA,kY hB,trivial⟩ [] trivial
  ·simp at hs
 ·simp at hs
abbrev CD (A B:Nat):List Prop:=[nl A<2^40,nl B<2^40]
def wC:Spec:=mY (fun A B=>.int .i64 (cV A B)) CD
theorem yU:aY P wC 100:=oB fun h=>Zd h.1 h.2
theorem ac8 {n:Nat} {z:Nat->Nat} (hz:∀i,i<n->z i<2^32) (hn:n<2^40) (hnl:nl (val n z)=n) (K:Nat):aO P 177 K [.aq 1 n (aA z)] [] (aI (.int .i64 (bO (val n z):Nat)) []):=by
 refine ji hT Vc rfl aV rfl (fun _ c h0=>?_) K []
 refine ay.hole [1,1,1,0,1] ah (aJ.bE hT bA hm 30 [3,4,2] PR ah ?_)
 simp only[ag.all,au,beq_iff_eq,beq_eq_false_iff_ne,ne_eq]
 refine⟨fun hb s' hv=>fA (.inl ?_),fun hb=>?_⟩
 ·have h1:n=0:=aa
  have h2:val n z=0:=by rw[h1];rfl
  exact gL (us:=[.int .i64 0]) (.inr rfl) hv ah (bU (by rw[h2];rfl))
 have w1:i64.wrap ((n:Int)-1)=((n-1:Nat):Int):=eM aa aa
 have w2:i64.wrap (32*((n-1:Nat):Int))=((32*(n-1):Nat):Int):=eM aa aa
 rw[w1,w2]
 simp only[bw]
 refine⟨aa,fun s' hv=>cF ?_⟩
 have hzt:=hz (n-1) aa
 have htot:bO (val n z)=32*(n-1)+bO (z (n-1)):=by
  have h0:val n z≠0:=gA.1 aa
  rw[LJ h0,hnl,pe hz aa]
 refine ay.ij (i:=0) (y:=part (aF f177) [1,1,1,0,1,0,0]) ah [3,4,2] 0 (h0 _) (fun p:Nat×Nat=>[.int .i64 (p.1:Nat),.int .u32 (p.2:Nat),.int .i64 0]) (fun _=>[]) (fun _=>rfl) (fun _=>trivial)
  (fun p=>p.1+bO p.2=bO (val n z)/\p.2<2^32) (fun p=>p.2) (32*(n-1),z (n-1)) hv ⟨htot.symm,hzt⟩ ?_
 rintro⟨x,y⟩ ⟨hxy,hy⟩
 simp only at hxy hy
 have hb32:bO (z (n-1))<=32:=j5.2 hzt
 refine ay.bE hT bA hm 30 [3,4,2] ac7 ah ?_
 rw[uf (by decide) (by decide)]
 simp only[ag.all,au,bne_iff_ne,ne_eq,bne_eq_false_iff_eq,show Int.toNat 1=1 from rfl]
 refine⟨fun hc=>⟨aa,fun s' hv=>?_⟩,fun hc s' hv=>fG (cF ?_)⟩
 ·have hy0:0<y:=aa
  have e:bO y=1+bO (y/2):=by
   by_cases h1:y=1
   ·rw[h1];decide
   ·exact tH (k:=1) aa
  have hd:y/2<y:=aa
  exact⟨(x+1,y/2),dS hv (by rw[eM (a:=(x:Int)+1) (n:=x+1) aa aa]) rfl,⟨by simp only;omega,by simp only;omega⟩,by simp only;omega⟩
 ·have hy0:y=0:=aa
  refine aJ.jN hT bA hm 30 hv (h0 0) rfl trivial adj ah ah (bU ?_)
  rw[hy0]at hxy
  simp[bO]at hxy
  rw[hxy];simp[bO]
def FP:Spec:=bY (lW fun N n=>aI (.int .i64 (bO N:Nat)) [n<2^40,nl N=n])
theorem ZB:aY P FP 177:=
 cJ (tv fun _ _ K hz need=>ac8 hz need.1 need.2 K)
end Go.Am.B
