/- ref01: Trim, Of, small, Cmp, Bits. -/
import Derived.Test.YtnniljlepppdpaaGreatB21
set_option linter.unusedVariables false
namespace Go.Am.B
open Go Go.Am.N AV
theorem Vx:aT P rz oN (ay oN):=aU Proofs.Tryz.func202 ag ag ag
theorem ahf:aT P tA Gi (ay Gi):=aU Proofs.Tryz.func204 ag ag ag
theorem anO:aT P Bq Ev (ay Ev):=aU Proofs.Tryz.func262 ag ag ag
theorem Wd:aT P sI ug (ay ug):=aU Proofs.Tryz.func101 ag ag ag
theorem Yc:aT P Dc tQ (ay tQ):=aU Proofs.Tryz.func263 ag ag ag
theorem ac9 {n:Nat} {z:Nat->Nat}:aG T [] [] 30 [0,3] (before (ay oN) [1,1,0]) ⟨aP 0 [.aq 1 n (aD z)],[],0⟩=
  some (ah.leaf ax.normal ([aq 1 n (aD z),int .i64 (↑n:Int)],[])):=ag
theorem ahL {n k:Nat} {z:Nat->Nat}:aG T [] [8,15] 30 [0,3] [part (ay oN) [1,1,0,0,0]] ⟨aB [0,3] [.aq 1 n (aD z),.int .i64 k],[],0⟩=
  some (ah.fork (decide ((↑k:Int)>0)) (ah.aj [decide ((↑k:Int)>0)=true,(0:Int)<=IntKind.i64.wrap ((↑k:Int)-1)/\(IntKind.i64.wrap ((↑k:Int)-1)).toNat<n] (ah.fork (bif true then(↑(z (IntKind.i64.wrap ((↑k:Int)-1)).toNat):Int)==0 else false) (ah.leaf ax.normal ([aq 1 n (aD z),int .i64 (IntKind.i64.wrap ((↑k:Int)-1))],[])) (ah.leaf (ax.exit 0) ([aq 1 n (aD z),int .i64 (↑k:Int)],[])))) (ah.aj [decide ((↑k:Int)>0)=false] (ah.fork false (ah.leaf ax.normal ([aq 1 n (aD z),int .i64 (IntKind.i64.wrap ((↑k:Int)-1))],[])) (ah.leaf (ax.exit 0) ([aq 1 n (aD z),int .i64 (↑k:Int)],[]))))):=ag
theorem VC {n k:Nat} {z:Nat->Nat}:cj T [] [] 30 oN (behind (ay oN) [1,1,0]) ⟨aB [0,3] [.aq 1 n (aD z),.int .i64 k],[],0⟩=
  some (ah.aj [(0:Nat)*1<=2^24,(0:Int)<=0/\(0:Int)<=(↑k:Int)/\(↑k:Int)<=(↑k:Int)/\(↑k:Int)<=(↑n:Int),((0:Nat)+((↑k:Int).toNat-Int.toNat (0:Int)))*((4:Nat)+1)*2<=2^47] (ah.leaf ax.ret [aq 1 ((0:Nat)+((↑k:Int).toNat-Int.toNat (0:Int))) fun(i:Nat)=>if i+0<0 then nth [] (int .u32 (0:Int)) (i+0)else aD z (i+0-0+Int.toNat (0:Int))])):=ag
def u9:Spec:=bY (mQ fun N n=>aJ (.mag N) [n<2^40])
def fA:bf:=[(rz,u9)]
theorem aaQ {n:Nat}:bU T fA [] 30 Gi (ay Gi) ⟨aP 0 [.int .u64 n],[],0⟩=
  some (ah.aj [(0:Int)<=32,(2:Nat)*1<=2^24,ek 2 fun(i:Nat)=>nth [int .u32 (IntKind.u32.wrap (↑n:Int)),int .u32 (IntKind.u32.wrap ((↑n:Int).fdiv ((2:Int)^min (Int.toNat (32:Int)) IntKind.u64.bits)))] (int .u32 (0:Int)) (i+0),(2:Nat)<2^40] (ah.leaf ax.ret [mag (val 2 fun(i:Nat)=>numOf (nth [int .u32 (IntKind.u32.wrap (↑n:Int)),int .u32 (IntKind.u32.wrap ((↑n:Int).fdiv ((2:Int)^min (Int.toNat (32:Int)) IntKind.u64.bits)))] (int .u32 (0:Int)) (i+0)))])):=ag
theorem agG {A:Nat}:bU T fA [6,8,14] 30 Ev (ay Ev) ⟨aP 0 [.mag A],[],0⟩=
  some (ah.fork ((↑(nl A):Int)==0) (ah.leaf ax.ret [int .u64 (0:Int),AV.bool true]) (ah.fork ((↑(nl A):Int)==1) (ah.aj [(0:Int)<=0/\Int.toNat (0:Int)<nl A] (ah.leaf ax.ret [int .u64 (IntKind.u64.wrap (↑(aF A (Int.toNat (0:Int))):Int)),AV.bool true])) (ah.fork ((↑(nl A):Int)==2) (ah.aj [(0:Int)<=0/\Int.toNat (0:Int)<nl A,(0:Int)<=1/\Int.toNat (1:Int)<nl A,(0:Int)<=32] (ah.leaf ax.ret [int .u64 (IntKind.u64.wrap (↑(BitVec.ofInt IntKind.u64.bits (IntKind.u64.wrap (↑(aF A (Int.toNat (0:Int))):Int))|||BitVec.ofInt IntKind.u64.bits (IntKind.u64.wrap (IntKind.u64.wrap (↑(aF A (Int.toNat (1:Int))):Int)*2^min (Int.toNat (32:Int)) IntKind.u64.bits))).toNat:Int)),AV.bool true])) (ah.leaf ax.ret [int .u64 (0:Int),AV.bool false])))):=ag
theorem alX {A B:Nat}:aG T [] [10,15] 30 [0,1,5,4] (before (ay ug) [1,1,0,1]) ⟨aP 0 [.mag A,.mag B],[],0⟩=
  some (ah.fork ((↑(nl A):Int)!=(↑(nl B):Int)) (ah.fork (decide ((↑(nl A):Int)<(↑(nl B):Int))) (ah.leaf ax.ret ([mag A,mag B,tuple [],int .i64 (-1:Int)],[])) (ah.leaf ax.ret ([mag A,mag B,tuple [],int .i64 (1:Int)],[]))) (ah.leaf ax.normal ([mag A,mag B,int .i64 (IntKind.i64.wrap ((↑(nl A):Int)-1)),int .i64 (0:Int)],[]))):=ag
theorem Xu {A B k:Nat}:aG T [] [20,31,40] 30 [0,1,5,4] [part (ay ug) [1,1,0,1,0,0]] ⟨aB [0,1,5,4] [.mag A,.mag B,.int .i64 ((k:Int)-1),.int .i64 0],[],0⟩=
  some (ah.fork (decide ((↑k:Int)-1>=(0:Int))) (ah.aj [(0:Int)<=(↑k:Int)-1/\((↑k:Int)-1).toNat<nl A,(0:Int)<=(↑k:Int)-1/\((↑k:Int)-1).toNat<nl B] (ah.fork (decide ((↑(aF A ((↑k:Int)-1).toNat):Int)<(↑(aF B ((↑k:Int)-1).toNat):Int))) (ah.leaf ax.ret ([mag A,mag B,int .i64 ((↑k:Int)-1),int .i64 (-1:Int)],[])) (ah.aj [(0:Int)<=(↑k:Int)-1/\((↑k:Int)-1).toNat<nl A,(0:Int)<=(↑k:Int)-1/\((↑k:Int)-1).toNat<nl B] (ah.fork (decide ((↑(aF A ((↑k:Int)-1).toNat):Int)>(↑(aF B ((↑k:Int)-1).toNat):Int))) (ah.leaf ax.ret ([mag A,mag B,int .i64 ((↑k:Int)-1),int .i64 (1:Int)],[])) (ah.leaf ax.normal ([mag A,mag B,int .i64 (IntKind.i64.wrap ((↑k:Int)-1-(1:Int))),int .i64 (0:Int)],[])))))) (ah.leaf (ax.exit 0) ([mag A,mag B,int .i64 ((↑k:Int)-1),int .i64 (0:Int)],[]))):=ag
theorem adb {A B k:Nat}:cj T [] [] 30 ug (behind (ay ug) [1,1,0,1]) ⟨aB [0,1,5,4] [.mag A,.mag B,.int .i64 ((k:Int)-1),.int .i64 0],[],0⟩=
  some (ah.leaf ax.ret [int .i64 (0:Int)]):=ag
theorem afz {n:Nat} {z:Nat->Nat}:aG T [] [7] 30 [3,4,2] (before (ay tQ) [1,1,1,0,1]) ⟨aP 0 [.aq 1 n (aD z)],[],0⟩=
  some (ah.fork ((↑n:Int)==0) (ah.leaf ax.ret ([tuple [],tuple [],int .i64 (0:Int)],[])) (ah.aj [(0:Int)<=IntKind.i64.wrap ((↑n:Int)-1)/\(IntKind.i64.wrap ((↑n:Int)-1)).toNat<n] (ah.leaf ax.normal ([int .i64 (IntKind.i64.wrap ((32:Int)*IntKind.i64.wrap ((↑n:Int)-1))),int .u32 (↑(z (IntKind.i64.wrap ((↑n:Int)-1)).toNat):Int),int .i64 (0:Int)],[])))):=ag
theorem ahy {x y:Nat}:aG T [] [19] 30 [3,4,2] [part (ay tQ) [1,1,1,0,1,0,0]] ⟨aB [3,4,2] [.int .i64 x,.int .u32 y,.int .i64 0],[],0⟩=
  some (ah.fork ((↑y:Int)!=0) (ah.aj [(0:Int)<=1] (ah.leaf ax.normal ([int .i64 (IntKind.i64.wrap ((↑x:Int)+1)),int .u32 ((↑y:Int).fdiv ((2:Int)^min (Int.toNat (1:Int)) IntKind.u32.bits)),int .i64 (0:Int)],[]))) (ah.leaf (ax.exit 0) ([int .i64 (↑x:Int),int .u32 (↑y:Int),int .i64 (0:Int)],[]))):=ag
theorem abO {x y:Nat}:cj T [] [] 30 tQ (behind (ay tQ) [1,1,1,0,1]) ⟨aB [3,4,2] [.int .i64 x,.int .u32 y,.int .i64 0],[],0⟩=
  some (ah.leaf ax.ret [int .i64 (↑x:Int)]):=ag
theorem Yh {n:Nat} {z:Nat->Nat} (hz:∀i,i<n->z i<2^32) (hn:n<2^40) (K:Nat):aQ P rz K [.aq 1 n (aD z)] [] (aJ (.mag (val n z)) []):=by
 refine fc hT Vx rfl aX rfl (fun _ c h0=>?_) K []
 refine au.hole [1,1,0] ag (aH.bC hT bz hm 30 [0,3] ac9 ag fun s' hv=>cO ?_)
 refine au.iJ (i:=0) (y:=part (ay oN) [1,1,0,0,0]) ag [0,3] 0 (h0 _) (fun k:Nat=>[.aq 1 n (aD z),.int .i64 k]) (fun _=>[]) (fun _=>rfl) (fun _=>trivial)
  (fun k=>k<=n/\∀i,k<=i->i<n->z i=0) id n hv ⟨aY,fun i h1 h2=>aa⟩ ?_
 rintro j ⟨hj,hzj⟩
 refine au.bC hT bz hm 30 [0,3] ahL ag ?_
 have fin:(j=0\/z (j-1)≠0)->∀s',bA [0,3] s'=some ([.aq 1 n (aD z),.int .i64 j],[])->aH P c oN.ntmps (behind (ay oN) [1,1,0]) s' (eo c (Fin T oN (.mag (val n z)))):=by
  intro hj0 s' hv
  refine aH.kO hT bz hm 30 hv (h0 0) rfl trivial VC ag ag ?_
  simp only[ah.all,aA,bn,Int.toNat_zero,Nat.zero_add,Nat.sub_zero,Nat.add_zero]
  have e:val n z=val j z:=oJ hj hzj
  refine⟨⟨aa,aa,aa⟩,me (by rw[e,Eg (fun i hi=>hz i aa) hj0]) fun i hi=>?_⟩
  rw[if_neg aa,e,qb (fun j hj=>hz j aa) hi]
  rfl
 have hw:0<j->IntKind.i64.wrap ((j:Int)-1)=((j-1:Nat):Int):=fun h=>by rw[wrap_i64 aa aa];omega
 refine⟨fun hb=>?_,fun hb=>?_⟩
 ·have h1:0<j:=by simpa using hb
  rw[hw h1]
  have hj1:j-1<n:=aa
  refine⟨⟨hb,aa,by rw[bn];exact hj1⟩,fun hc s' hv=>?_,fun hc s' hv=>?_⟩
  ·refine⟨j-1,hv,⟨aa,fun i h1 h2=>?_⟩,by simp;omega⟩
   by_cases hi:i=j-1
   ·subst hi;simpa using hc
   ·exact hzj i aa h2
  ·exact fO (fin (.inr (by simpa using hc)) s' hv)
 ·have h1:j=0:=by simpa using hb
  refine⟨hb,fun hc=>by simp at hc,fun hc s' hv=>fO (fin (.inl h1) s' hv)⟩
theorem yZ:aW P u9 rz:=
 cJ (uL fun _ _ K hz need=>Yh hz need K)
theorem fG:bu P fA:=aI yZ bz
theorem ab6 {x:Nat} (hx:x<2^64) (K:Nat):aQ P tA K [.int .u64 x] [] (aJ (.mag x) []):=by
 refine bZ hT fG hm ahf rfl aX rfl 30 aaQ (fun _=>?_) K []
 simp only[ah.all,aA,mM]
 refine⟨⟨aa,aa,fun i hi=>?_,aa⟩,dO (congrArg AV.mag ?_)⟩
 ·match i,hi with
  |0,_=>exact⟨x%2^32,aa,by simp[nth,j3]⟩
  |1,_=>exact⟨x/4294967296,aa,by simp[nth,mw];omega⟩
 ·rw[val_two]
  simp[nth,numOf,mw]
  omega
def A2:Spec:=bY fun l=>match l with
 |[.int .u64 x]=>some (aJ (.mag x.toNat) [0<=x/\x<2^64])
 |_=>none
theorem Gu:aW P A2 tA:=by
 refine cJ fun K args r hk hs _=>?_
 split at hs
 ·simp only[az]at hs
  subst hs
  intro need
  obtain⟨h1,h2⟩:=need
  rename_i x
  obtain⟨y,rfl⟩:=Int.eq_ofNat_of_zero_le h1
  exact ab6 (x:=y) aa K trivial
 ·simp at hs
def gD (A:Nat):Bool:=decide (A<18446744073709551616)
theorem aby {A:Nat} (K:Nat):aQ P Bq K [.mag A] [] (aJ (.tuple [.int .u64 (if gD A then A else 0:Nat),.bool (gD A)]) []):=by
 refine bZ hT fG hm anO rfl aX rfl 30 agG (fun _=>?_) K []
 simp only[ah.all,aA,beq_iff_eq,beq_eq_false_iff_ne,ne_eq,Int.toNat_zero,show Int.toNat 1=1 from rfl]
 have hv:=gA (N:=A)
 have l0:=dL (N:=A) (i:=0)
 have l1:=dL (N:=A) (i:=1)
 have yes:∀{x:Int},A<2^64->x=(A:Nat)->fj [.int .u64 x,.bool true] (.tuple [.int .u64 (if gD A then A else 0:Nat),.bool (gD A)]):=fun h hx=>by
  have:gD A=true:=by unfold gD;simpa using h
  rw[this,if_pos rfl]
  exact⟨bK hx,.refl _,trivial⟩
 refine⟨fun hb=>yes ?_ ?_,fun hb=>⟨fun h1=>⟨aa,yes ?_ ?_⟩,fun h1=>⟨fun h2=>⟨⟨aa,aa,aa⟩,yes ?_ ?_⟩,fun h2=>?_⟩⟩⟩
 ·have:A=0:=jX.1 aa
  omega
 ·have:A=0:=jX.1 aa
  rw[this];rfl
 ·exact qj aa
 ·rw[show nl A=1 by omega,val,val]at hv
  rw[cu aa aa]
  simp at hv;omega
 ·exact qj aa
 ·rw[show nl A=2 by omega,val,val,val]at hv
  have e1:IntKind.u64.wrap (aF A 0:Int)=((aF A 0:Nat):Int):=cu aa aa
  have e2:IntKind.u64.wrap (aF A 1:Int)=((aF A 1:Nat):Int):=cu aa aa
  have e3:IntKind.u64.wrap ((aF A 1:Int)*2^min (Int.toNat 32) IntKind.u64.bits)=((aF A 1*4294967296:Nat):Int):=by
   rw[Bx,cu aa aa];omega
  rw[e1,e2,e3,vW aa aa]
  congr 1
  rw[Nat.or_comm,show 4294967296=2^32 from rfl,sn l0]
  simp at hv;omega
 ·have:gD A=false:=by
   unfold gD
   simp only[bw]
   intro h
   have:nl A<=2:=dF.2 h
   omega
  rw[this]
  exact⟨.refl _,.refl _,trivial⟩
def LU:Spec:=bY fun l=>match l with
 |[a]=>match jB a with
  |some A=>some (aJ (.tuple [.int .u64 (if gD A then A else 0:Nat),.bool (gD A)]) [])
  |none=>none
 |_=>none
theorem Re:aW P LU Bq:=by
 refine cJ fun K args r hk hs _=>?_
 split at hs
 ·split at hs
  ·rename_i A hA
   simp only[az]at hs
   subst hs
   exact gZ (aby K) hk ⟨mF hA,trivial⟩ []
  ·simp at hs
 ·simp at hs
theorem Z1 {A B:Nat} (hA:nl A<2^40) (hB:nl B<2^40) (K:Nat):aQ P sI K [.mag A,.mag B] [] (aJ (.int .i64 (dh A B)) []):=by
 refine fc hT Wd rfl aX rfl (fun _ c h0=>?_) K []
 refine au.hole [1,1,0,1] ag (aH.bC hT bz hm 30 [0,1,5,4] alX ag ?_)
 simp only[ah.all,aA,bq,bw,bne_iff_ne,ne_eq,Int.natCast_inj,bne_eq_false_iff_eq]
 refine⟨fun hb=>⟨fun hb2 s' hv=>fM (.inl ?_),fun hb2 s' hv=>fM (.inl ?_)⟩,fun hb s' hv=>cO ?_⟩
 ·have h1:A<B:=BV aa
  exact gQ (us:=[.int .i64 (-1)]) (.inr rfl) hv ag (bK (by simp[dh,h1]))
 ·have h1:B<A:=BV aa
  exact gQ (us:=[.int .i64 1]) (.inr rfl) hv ag (bK (by simp[dh,h1];omega))
 refine au.iJ (i:=0) (y:=part (ay ug) [1,1,0,1,0,0]) ag [0,1,5,4] 0 (h0 _) (fun k:Nat=>[.mag A,.mag B,.int .i64 ((k:Int)-1),.int .i64 0]) (fun _=>[]) (fun _=>rfl) (fun _=>trivial)
  (fun k=>k<=nl A/\∀j,k<=j->j<nl A->aF A j=aF B j) id (nl A) (dQ hv (by rw[wrap_i64 aa aa]) rfl) ⟨by simp,fun j h1 h2=>aa⟩ ?_
 rintro k ⟨hk,hlim⟩
 refine au.bC hT bz hm 30 [0,1,5,4] Xu ag ?_
 simp only[ah.all,aA,bq,bw]
 refine⟨fun hb2=>?_,fun hb2 s' hv=>fO ?_⟩
 ·obtain⟨j,rfl⟩:∃j,k=j+1:=⟨k-1,aa⟩
  have e:(((j+1:Nat):Int)-1).toNat=j:=aa
  rw[e]
  refine⟨⟨aa,aa⟩,fun hlt s' hv=>Qt (fM (.inl ?_)),fun hlt=>⟨⟨aa,aa⟩,fun hgt s' hv=>Qt (fM (.inl ?_)),fun hgt s' hv=>?_⟩⟩
  ·have h1:A<B:=FW hb (k:=j) aa (fun i h1 h2=>hlim i aa h2) aa
   exact gQ (us:=[.int .i64 (-1)]) (.inr rfl) hv ag (bK (by simp[dh,h1]))
  ·have h1:B<A:=FW hb.symm (k:=j) aa (fun i h1 h2=>(hlim i aa aa).symm) aa
   exact gQ (us:=[.int .i64 1]) (.inr rfl) hv ag (bK (by simp[dh,h1];omega))
  ·refine⟨j,dQ hv (by rw[wrap_i64 aa aa];congr 4;omega) rfl,⟨aa,fun i h1 h2=>?_⟩,by simp⟩
   by_cases hi:i=j
   ·subst hi;omega
   ·exact hlim i aa h2
 ·have hk0:k=0:=aa
  have hAB:A=B:=JM hb fun i hi=>hlim i aa hi
  exact cO (aH.kO hT bz hm 30 hv (h0 0) rfl trivial adb ag ag (bK (by simp[dh,hAB])))
def oD (g:Nat->Nat->AV) (l:Nat->Nat->List Prop):Spec:=bY fun a=>match a with
 |[x,y]=>match jB x,jB y with
  |some A,some B=>some (aJ (g A B) (l A B))
  |_,_=>none
 |_=>none
theorem qe {f:FuncId} {g:Nat->Nat->AV} {l:Nat->Nat->List Prop} (h:∀{A B:Nat},aA (l A B)->∀K,aQ P f K [.mag A,.mag B] [] (aJ (g A B) [])):aW P (oD g l) f:=by
 refine cJ fun K args r hk hs _=>?_
 split at hs
 ·split at hs
  ·rename_i A B hA hB
   simp only[az]at hs
   subst hs
   exact fun need=>gZ (h need K) hk ⟨mF hA,mF hB,trivial⟩ [] trivial
  ·simp at hs
 ·simp at hs
abbrev LH (A B:Nat):List Prop:=[nl A<2^40,nl B<2^40]
def x7:Spec:=oD (fun A B=>.int .i64 (dh A B)) LH
theorem DX:aW P x7 sI:=qe fun h=>Z1 h.1 h.2
theorem afV {n:Nat} {z:Nat->Nat} (hz:∀i,i<n->z i<2^32) (hn:n<2^40) (hnl:nl (val n z)=n) (K:Nat):aQ P Dc K [.aq 1 n (aD z)] [] (aJ (.int .i64 (bQ (val n z):Nat)) []):=by
 refine fc hT Yc rfl aX rfl (fun _ c h0=>?_) K []
 refine au.hole [1,1,1,0,1] ag (aH.bC hT bz hm 30 [3,4,2] afz ag ?_)
 simp only[ah.all,aA,beq_iff_eq,beq_eq_false_iff_ne,ne_eq]
 refine⟨fun hb s' hv=>fM (.inl ?_),fun hb=>?_⟩
 ·have h1:n=0:=aa
  have h2:val n z=0:=by rw[h1];rfl
  exact gQ (us:=[.int .i64 0]) (.inr rfl) hv ag (bK (by rw[h2];rfl))
 have w1:IntKind.i64.wrap ((n:Int)-1)=((n-1:Nat):Int):=fm aa aa
 have w2:IntKind.i64.wrap (32*((n-1:Nat):Int))=((32*(n-1):Nat):Int):=fm aa aa
 rw[w1,w2]
 simp only[bn]
 refine⟨aa,fun s' hv=>cO ?_⟩
 have hzt:=hz (n-1) aa
 have htot:bQ (val n z)=32*(n-1)+bQ (z (n-1)):=by
  have h0:val n z≠0:=gJ.1 aa
  rw[UM h0,hnl,qb hz aa]
 refine au.iJ (i:=0) (y:=part (ay tQ) [1,1,1,0,1,0,0]) ag [3,4,2] 0 (h0 _) (fun p:Nat×Nat=>[.int .i64 (p.1:Nat),.int .u32 (p.2:Nat),.int .i64 0]) (fun _=>[]) (fun _=>rfl) (fun _=>trivial)
  (fun p=>p.1+bQ p.2=bQ (val n z)/\p.2<2^32) (fun p=>p.2) (32*(n-1),z (n-1)) hv ⟨htot.symm,hzt⟩ ?_
 rintro⟨x,y⟩ ⟨hxy,hy⟩
 simp only at hxy hy
 have hb32:bQ (z (n-1))<=32:=jg.2 hzt
 refine au.bC hT bz hm 30 [3,4,2] ahy ag ?_
 rw[AG (by decide) (by decide)]
 simp only[ah.all,aA,bne_iff_ne,ne_eq,bne_eq_false_iff_eq,show Int.toNat 1=1 from rfl]
 refine⟨fun hc=>⟨aa,fun s' hv=>?_⟩,fun hc s' hv=>fO (cO ?_)⟩
 ·have hy0:0<y:=aa
  have e:bQ y=1+bQ (y/2):=by
   by_cases h1:y=1
   ·rw[h1];decide
   ·exact v5 (k:=1) aa
  have hd:y/2<y:=aa
  exact⟨(x+1,y/2),dQ hv (by rw[fm (a:=(x:Int)+1) (n:=x+1) aa aa]) rfl,⟨by simp only;omega,by simp only;omega⟩,by simp only;omega⟩
 ·have hy0:y=0:=aa
  refine aH.kO hT bz hm 30 hv (h0 0) rfl trivial abO ag ag (bK ?_)
  rw[hy0]at hxy
  simp[bQ]at hxy
  rw[hxy];simp[bQ]
def Sh:Spec:=bY (mQ fun N n=>aJ (.int .i64 (bQ N:Nat)) [n<2^40,nl N=n])
theorem Wx:aW P Sh Dc:=
 cJ (uL fun _ _ K hz need=>afV hz need.1 need.2 K)
end Go.Am.B
