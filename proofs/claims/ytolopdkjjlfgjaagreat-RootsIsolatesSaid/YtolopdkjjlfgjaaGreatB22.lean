/- ref01: Trim, Of, small, Cmp, Bits. -/
import Derived.Test.YtolopdkjjlfgjaaGreatB21
set_option linter.unusedVariables false
namespace Go.Am.B
open Go Go.Am.N AV Proofs.Tryz IntKind
theorem ahc:br 140 f140:=bu func140
theorem Rn:br 138 f138:=bu func138
theorem XA:br 186 f186:=bu func186
theorem Sh:br 84 f84:=bu func84
theorem Zt:br 187 f187:=bu func187
theorem Wk {n:Nat} {z:Nat->Nat}:aH T [] [] 30 [0,3] (before (aI f140) [1,1,0]) ⟨aU 0 [.ak 1 n (aA z)],[],0⟩=
  some (af.leaf aq.normal ([ak 1 n (aA z),int .i64 (↑n:Int)],[])):=ah
theorem abc {n k:Nat} {z:Nat->Nat}:aH T [] [8,15] 30 [0,3] [part (aI f140) [1,1,0,0,0]] ⟨aB [0,3] [.ak 1 n (aA z),.int .i64 k],[],0⟩=
  some (af.fork (decide ((↑k:Int)>0)) (af.aj [decide ((↑k:Int)>0)=true,(0:Int)<=i64.wrap ((↑k:Int)-1)/\(i64.wrap ((↑k:Int)-1)).toNat<n] (af.fork (bif true then(↑(z (i64.wrap ((↑k:Int)-1)).toNat):Int)==0 else false) (af.leaf aq.normal ([ak 1 n (aA z),int .i64 (i64.wrap ((↑k:Int)-1))],[])) (af.leaf (aq.exit 0) ([ak 1 n (aA z),int .i64 (↑k:Int)],[])))) (af.aj [decide ((↑k:Int)>0)=false] (af.fork false (af.leaf aq.normal ([ak 1 n (aA z),int .i64 (i64.wrap ((↑k:Int)-1))],[])) (af.leaf (aq.exit 0) ([ak 1 n (aA z),int .i64 (↑k:Int)],[]))))):=ah
theorem Zl {n k:Nat} {z:Nat->Nat}:cR T [] [] 30 f140 (behind (aI f140) [1,1,0]) ⟨aB [0,3] [.ak 1 n (aA z),.int .i64 k],[],0⟩=
  some (af.aj [(0:Nat)*1<=2^24,(0:Int)<=0/\(0:Int)<=(↑k:Int)/\(↑k:Int)<=(↑k:Int)/\(↑k:Int)<=(↑n:Int),((0:Nat)+((↑k:Int).toNat-Int.toNat (0:Int)))*((4:Nat)+1)*2<=2^47] (af.leaf aq.ret [ak 1 ((0:Nat)+((↑k:Int).toNat-Int.toNat (0:Int))) fun(i:Nat)=>if i+0<0 then nth [] (int .u32 (0:Int)) (i+0)else aA z (i+0-0+Int.toNat (0:Int))])):=ah
def um:Spec:=cw (nj fun N n=>aM (.mag N) [n<2^40])
def fW:bz:=[(140,um)]
theorem acS {n:Nat}:cB T fW [] 30 f138 (aI f138) ⟨aU 0 [.int .u64 n],[],0⟩=
  some (af.aj [(0:Int)<=32,(2:Nat)*1<=2^24,fe 2 fun(i:Nat)=>nth [int .u32 (u32.wrap (↑n:Int)),int .u32 (u32.wrap ((↑n:Int).fdiv ((2:Int)^min (Int.toNat (32:Int)) u64.bits)))] (int .u32 (0:Int)) (i+0),(2:Nat)<2^40] (af.leaf aq.ret [mag (val 2 fun(i:Nat)=>numOf (nth [int .u32 (u32.wrap (↑n:Int)),int .u32 (u32.wrap ((↑n:Int).fdiv ((2:Int)^min (Int.toNat (32:Int)) u64.bits)))] (int .u32 (0:Int)) (i+0)))])):=ah
theorem Td {A:Nat}:cB T fW [6,8,14] 30 f186 (aI f186) ⟨aU 0 [.mag A],[],0⟩=
  some (af.fork ((↑(nl A):Int)==0) (af.leaf aq.ret [int .u64 (0:Int),AV.bool true]) (af.fork ((↑(nl A):Int)==1) (af.aj [(0:Int)<=0/\Int.toNat (0:Int)<nl A] (af.leaf aq.ret [int .u64 (u64.wrap (↑(aD A (Int.toNat (0:Int))):Int)),AV.bool true])) (af.fork ((↑(nl A):Int)==2) (af.aj [(0:Int)<=0/\Int.toNat (0:Int)<nl A,(0:Int)<=1/\Int.toNat (1:Int)<nl A,(0:Int)<=32] (af.leaf aq.ret [int .u64 (u64.wrap (↑(BitVec.ofInt u64.bits (u64.wrap (↑(aD A (Int.toNat (0:Int))):Int))|||BitVec.ofInt u64.bits (u64.wrap (u64.wrap (↑(aD A (Int.toNat (1:Int))):Int)*2^min (Int.toNat (32:Int)) u64.bits))).toNat:Int)),AV.bool true])) (af.leaf aq.ret [int .u64 (0:Int),AV.bool false])))):=ah
theorem WC {A B:Nat}:aH T [] [10,15] 30 [0,1,5,4] (before (aI f84) [1,1,0,1]) ⟨aU 0 [.mag A,.mag B],[],0⟩=
  some (af.fork ((↑(nl A):Int)!=(↑(nl B):Int)) (af.fork (decide ((↑(nl A):Int)<(↑(nl B):Int))) (af.leaf aq.ret ([mag A,mag B,tuple [],int .i64 (-1:Int)],[])) (af.leaf aq.ret ([mag A,mag B,tuple [],int .i64 (1:Int)],[]))) (af.leaf aq.normal ([mag A,mag B,int .i64 (i64.wrap ((↑(nl A):Int)-1)),int .i64 (0:Int)],[]))):=ah
theorem afs {A B k:Nat}:aH T [] [20,31,40] 30 [0,1,5,4] [part (aI f84) [1,1,0,1,0,0]] ⟨aB [0,1,5,4] [.mag A,.mag B,.int .i64 ((k:Int)-1),.int .i64 0],[],0⟩=
  some (af.fork (decide ((↑k:Int)-1>=(0:Int))) (af.aj [(0:Int)<=(↑k:Int)-1/\((↑k:Int)-1).toNat<nl A,(0:Int)<=(↑k:Int)-1/\((↑k:Int)-1).toNat<nl B] (af.fork (decide ((↑(aD A ((↑k:Int)-1).toNat):Int)<(↑(aD B ((↑k:Int)-1).toNat):Int))) (af.leaf aq.ret ([mag A,mag B,int .i64 ((↑k:Int)-1),int .i64 (-1:Int)],[])) (af.aj [(0:Int)<=(↑k:Int)-1/\((↑k:Int)-1).toNat<nl A,(0:Int)<=(↑k:Int)-1/\((↑k:Int)-1).toNat<nl B] (af.fork (decide ((↑(aD A ((↑k:Int)-1).toNat):Int)>(↑(aD B ((↑k:Int)-1).toNat):Int))) (af.leaf aq.ret ([mag A,mag B,int .i64 ((↑k:Int)-1),int .i64 (1:Int)],[])) (af.leaf aq.normal ([mag A,mag B,int .i64 (i64.wrap ((↑k:Int)-1-(1:Int))),int .i64 (0:Int)],[])))))) (af.leaf (aq.exit 0) ([mag A,mag B,int .i64 ((↑k:Int)-1),int .i64 (0:Int)],[]))):=ah
theorem Xi {A B k:Nat}:cR T [] [] 30 f84 (behind (aI f84) [1,1,0,1]) ⟨aB [0,1,5,4] [.mag A,.mag B,.int .i64 ((k:Int)-1),.int .i64 0],[],0⟩=
  some (af.leaf aq.ret [int .i64 (0:Int)]):=ah
theorem Y9 {n:Nat} {z:Nat->Nat}:aH T [] [7] 30 [3,4,2] (before (aI f187) [1,1,1,0,1]) ⟨aU 0 [.ak 1 n (aA z)],[],0⟩=
  some (af.fork ((↑n:Int)==0) (af.leaf aq.ret ([tuple [],tuple [],int .i64 (0:Int)],[])) (af.aj [(0:Int)<=i64.wrap ((↑n:Int)-1)/\(i64.wrap ((↑n:Int)-1)).toNat<n] (af.leaf aq.normal ([int .i64 (i64.wrap ((32:Int)*i64.wrap ((↑n:Int)-1))),int .u32 (↑(z (i64.wrap ((↑n:Int)-1)).toNat):Int),int .i64 (0:Int)],[])))):=ah
theorem ZU {x y:Nat}:aH T [] [19] 30 [3,4,2] [part (aI f187) [1,1,1,0,1,0,0]] ⟨aB [3,4,2] [.int .i64 x,.int .u32 y,.int .i64 0],[],0⟩=
  some (af.fork ((↑y:Int)!=0) (af.aj [(0:Int)<=1] (af.leaf aq.normal ([int .i64 (i64.wrap ((↑x:Int)+1)),int .u32 ((↑y:Int).fdiv ((2:Int)^min (Int.toNat (1:Int)) u32.bits)),int .i64 (0:Int)],[]))) (af.leaf (aq.exit 0) ([int .i64 (↑x:Int),int .u32 (↑y:Int),int .i64 (0:Int)],[]))):=ah
theorem X7 {x y:Nat}:cR T [] [] 30 f187 (behind (aI f187) [1,1,1,0,1]) ⟨aB [3,4,2] [.int .i64 x,.int .u32 y,.int .i64 0],[],0⟩=
  some (af.leaf aq.ret [int .i64 (↑x:Int)]):=ah
theorem agw {n:Nat} {z:Nat->Nat} (hz:∀i,i<n->z i<2^32) (hn:n<2^40) (K:Nat):aS P 140 K [.ak 1 n (aA z)] [] (aM (.mag (val n z)) []):=by
 refine iE hT ahc rfl aZ rfl (fun _ c h0=>?_) K []
 refine au.hole [1,1,0] ah (aF.bL hT cG hm 30 [0,3] Wk ah fun s' hv=>cW ?_)
 refine au.jh (i:=0) (y:=part (aI f140) [1,1,0,0,0]) ah [0,3] 0 (h0 _) (fun k:Nat=>[.ak 1 n (aA z),.int .i64 k]) (fun _=>[]) (fun _=>rfl) (fun _=>trivial)
  (fun k=>k<=n/\∀i,k<=i->i<n->z i=0) id n hv ⟨aT,fun i h1 h2=>aa⟩ ?_
 rintro j ⟨hj,hzj⟩
 refine au.bL hT cG hm 30 [0,3] abc ah ?_
 have fin:(j=0\/z (j-1)≠0)->∀s',bA [0,3] s'=some ([.ak 1 n (aA z),.int .i64 j],[])->aF P c f140.ntmps (behind (aI f140) [1,1,0]) s' (gq c (Fin T f140 (.mag (val n z)))):=by
  intro hj0 s' hv
  refine aF.lI hT cG hm 30 hv (h0 0) rfl trivial Zl ah ah ?_
  simp only[af.all,az,bG,Int.toNat_zero,Nat.zero_add,Nat.sub_zero,Nat.add_zero]
  have e:val n z=val j z:=oG hj hzj
  refine⟨⟨aa,aa,aa⟩,kY (by rw[e,B1 (fun i hi=>hz i aa) hj0]) fun i hi=>?_⟩
  rw[if_neg aa,e,qe (fun j hj=>hz j aa) hi]
  rfl
 have hw:0<j->i64.wrap ((j:Int)-1)=((j-1:Nat):Int):=fun h=>by rw[wrap_i64 aa aa];omega
 refine⟨fun hb=>?_,fun hb=>?_⟩
 ·have h1:0<j:=by simpa using hb
  rw[hw h1]
  have hj1:j-1<n:=aa
  refine⟨⟨hb,aa,by rw[bG];exact hj1⟩,fun hc s' hv=>?_,fun hc s' hv=>?_⟩
  ·refine⟨j-1,hv,⟨aa,fun i h1 h2=>?_⟩,by simp;omega⟩
   by_cases hi:i=j-1
   ·subst hi;simpa using hc
   ·exact hzj i aa h2
  ·exact gv (fin (.inr (by simpa using hc)) s' hv)
 ·have h1:j=0:=by simpa using hb
  refine⟨hb,fun hc=>by simp at hc,fun hc s' hv=>gv (fin (.inl h1) s' hv)⟩
theorem zY:bf P um 140:=
 dc (v7 fun _ _ K hz need=>agw hz need K)
theorem fZ:bU P fW:=aL zY cG
theorem Vb {x:Nat} (hx:x<2^64) (K:Nat):aS P 138 K [.int .u64 x] [] (aM (.mag x) []):=by
 refine cF hT fZ hm Rn rfl aZ rfl 30 acS (fun _=>?_) K []
 simp only[af.all,az,mO]
 refine⟨⟨aa,aa,fun i hi=>?_,aa⟩,eU (congrArg AV.mag ?_)⟩
 ·match i,hi with
  |0,_=>exact⟨x%2^32,aa,by simp[nth,kz]⟩
  |1,_=>exact⟨x/4294967296,aa,by simp[nth,mE];omega⟩
 ·rw[val_two]
  simp[nth,numOf,mE]
  omega
def yW:Spec:=cw fun l=>match l with
 |[.int .u64 x]=>some (aM (.mag x.toNat) [0<=x/\x<2^64])
 |_=>none
theorem BK:bf P yW 138:=by
 refine dc fun K args r hk hs _=>?_
 split at hs
 ·simp only[ay]at hs
  subst hs
  intro need
  obtain⟨h1,h2⟩:=need
  rename_i x
  obtain⟨y,rfl⟩:=Int.eq_ofNat_of_zero_le h1
  exact Vb (x:=y) aa K trivial
 ·simp at hs
def ij (A:Nat):Bool:=decide (A<18446744073709551616)
theorem Xn {A:Nat} (K:Nat):aS P 186 K [.mag A] [] (aM (.tuple [.int .u64 (if ij A then A else 0:Nat),.bool (ij A)]) []):=by
 refine cF hT fZ hm XA rfl aZ rfl 30 Td (fun _=>?_) K []
 simp only[af.all,az,beq_iff_eq,beq_eq_false_iff_ne,ne_eq,Int.toNat_zero,show Int.toNat 1=1 from rfl]
 have hv:=ic (N:=A)
 have l0:=eO (N:=A) (i:=0)
 have l1:=eO (N:=A) (i:=1)
 have yes:∀{x:Int},A<2^64->x=(A:Nat)->gJ [.int .u64 x,.bool true] (.tuple [.int .u64 (if ij A then A else 0:Nat),.bool (ij A)]):=fun h hx=>by
  have:ij A=true:=by unfold ij;simpa using h
  rw[this,if_pos rfl]
  exact⟨cq hx,.refl _,trivial⟩
 refine⟨fun hb=>yes ?_ ?_,fun hb=>⟨fun h1=>⟨aa,yes ?_ ?_⟩,fun h1=>⟨fun h2=>⟨⟨aa,aa,aa⟩,yes ?_ ?_⟩,fun h2=>?_⟩⟩⟩
 ·have:A=0:=lK.1 aa
  omega
 ·have:A=0:=lK.1 aa
  rw[this];rfl
 ·exact rq aa
 ·rw[show nl A=1 by omega,val,val]at hv
  rw[cJ aa aa]
  simp at hv;omega
 ·exact rq aa
 ·rw[show nl A=2 by omega,val,val,val]at hv
  have e1:u64.wrap (aD A 0:Int)=((aD A 0:Nat):Int):=cJ aa aa
  have e2:u64.wrap (aD A 1:Int)=((aD A 1:Nat):Int):=cJ aa aa
  have e3:u64.wrap ((aD A 1:Int)*2^min (Int.toNat 32) u64.bits)=((aD A 1*4294967296:Nat):Int):=by
   rw[yN,cJ aa aa];omega
  rw[e1,e2,e3,vZ aa aa]
  congr 1
  rw[Nat.or_comm,show 4294967296=2^32 from rfl,rP l0]
  simp at hv;omega
 ·have:ij A=false:=by
   unfold ij
   simp only[bI]
   intro h
   have:nl A<=2:=eo.2 h
   omega
  rw[this]
  exact⟨.refl _,.refl _,trivial⟩
def Df:Spec:=cw fun l=>match l with
 |[a]=>match jK a with
  |some A=>some (aM (.tuple [.int .u64 (if ij A then A else 0:Nat),.bool (ij A)]) [])
  |none=>none
 |_=>none
theorem KF:bf P Df 186:=by
 refine dc fun K args r hk hs _=>?_
 split at hs
 ·split at hs
  ·rename_i A hA
   simp only[ay]at hs
   subst hs
   exact gT (Xn K) hk ⟨mB hA,trivial⟩ []
  ·simp at hs
 ·simp at hs
theorem aaL {A B:Nat} (hA:nl A<2^40) (hB:nl B<2^40) (K:Nat):aS P 84 K [.mag A,.mag B] [] (aM (.int .i64 (dJ A B)) []):=by
 refine iE hT Sh rfl aZ rfl (fun _ c h0=>?_) K []
 refine au.hole [1,1,0,1] ah (aF.bL hT cG hm 30 [0,1,5,4] WC ah ?_)
 simp only[af.all,az,bD,bI,bne_iff_ne,ne_eq,Int.natCast_inj,bne_eq_false_iff_eq]
 refine⟨fun hb=>⟨fun hb2 s' hv=>gr (.inl ?_),fun hb2 s' hv=>gr (.inl ?_)⟩,fun hb s' hv=>cW ?_⟩
 ·have h1:A<B:=CU aa
  exact iG (us:=[.int .i64 (-1)]) (.inr rfl) hv ah (cq (by simp[dJ,h1]))
 ·have h1:B<A:=CU aa
  exact iG (us:=[.int .i64 1]) (.inr rfl) hv ah (cq (by simp[dJ,h1];omega))
 refine au.jh (i:=0) (y:=part (aI f84) [1,1,0,1,0,0]) ah [0,1,5,4] 0 (h0 _) (fun k:Nat=>[.mag A,.mag B,.int .i64 ((k:Int)-1),.int .i64 0]) (fun _=>[]) (fun _=>rfl) (fun _=>trivial)
  (fun k=>k<=nl A/\∀j,k<=j->j<nl A->aD A j=aD B j) id (nl A) (eP hv (by rw[wrap_i64 aa aa]) rfl) ⟨by simp,fun j h1 h2=>aa⟩ ?_
 rintro k ⟨hk,hlim⟩
 refine au.bL hT cG hm 30 [0,1,5,4] afs ah ?_
 simp only[af.all,az,bD,bI]
 refine⟨fun hb2=>?_,fun hb2 s' hv=>gv ?_⟩
 ·obtain⟨j,rfl⟩:∃j,k=j+1:=⟨k-1,aa⟩
  have e:(((j+1:Nat):Int)-1).toNat=j:=aa
  rw[e]
  refine⟨⟨aa,aa⟩,fun hlt s' hv=>KK (gr (.inl ?_)),fun hlt=>⟨⟨aa,aa⟩,fun hgt s' hv=>KK (gr (.inl ?_)),fun hgt s' hv=>?_⟩⟩
  ·have h1:A<B:=C1 hb (k:=j) aa (fun i h1 h2=>hlim i aa h2) aa
   exact iG (us:=[.int .i64 (-1)]) (.inr rfl) hv ah (cq (by simp[dJ,h1]))
  ·have h1:B<A:=C1 hb.symm (k:=j) aa (fun i h1 h2=>(hlim i aa aa).symm) aa
   exact iG (us:=[.int .i64 1]) (.inr rfl) hv ah (cq (by simp[dJ,h1];omega))
  ·refine⟨j,eP hv (by rw[wrap_i64 aa aa];congr 4;omega) rfl,⟨aa,fun i h1 h2=>?_⟩,by simp⟩
   by_cases hi:i=j
   ·subst hi;omega
   ·exact hlim i aa h2
 ·have hk0:k=0:=aa
  have hAB:A=B:=Gt hb fun i hi=>hlim i aa hi
  exact cW (aF.lI hT cG hm 30 hv (h0 0) rfl trivial Xi ah ah (cq (by simp[dJ,hAB])))
def oH (g:Nat->Nat->AV) (l:Nat->Nat->List Prop):Spec:=cw fun a=>match a with
 |[x,y]=>match jK x,jK y with
  |some A,some B=>some (aM (g A B) (l A B))
  |_,_=>none
 |_=>none
theorem qK {f:FuncId} {g:Nat->Nat->AV} {l:Nat->Nat->List Prop} (h:∀{A B:Nat},az (l A B)->∀K,aS P f K [.mag A,.mag B] [] (aM (g A B) [])):bf P (oH g l) f:=by
 refine dc fun K args r hk hs _=>?_
 split at hs
 ·split at hs
  ·rename_i A B hA hB
   simp only[ay]at hs
   subst hs
   exact fun need=>gT (h need K) hk ⟨mB hA,mB hB,trivial⟩ [] trivial
  ·simp at hs
 ·simp at hs
abbrev Gn (A B:Nat):List Prop:=[nl A<2^40,nl B<2^40]
def zS:Spec:=oH (fun A B=>.int .i64 (dJ A B)) Gn
theorem CL:bf P zS 84:=qK fun h=>aaL h.1 h.2
theorem SQ {n:Nat} {z:Nat->Nat} (hz:∀i,i<n->z i<2^32) (hn:n<2^40) (hnl:nl (val n z)=n) (K:Nat):aS P 187 K [.ak 1 n (aA z)] [] (aM (.int .i64 (bX (val n z):Nat)) []):=by
 refine iE hT Zt rfl aZ rfl (fun _ c h0=>?_) K []
 refine au.hole [1,1,1,0,1] ah (aF.bL hT cG hm 30 [3,4,2] Y9 ah ?_)
 simp only[af.all,az,beq_iff_eq,beq_eq_false_iff_ne,ne_eq]
 refine⟨fun hb s' hv=>gr (.inl ?_),fun hb=>?_⟩
 ·have h1:n=0:=aa
  have h2:val n z=0:=by rw[h1];rfl
  exact iG (us:=[.int .i64 0]) (.inr rfl) hv ah (cq (by rw[h2];rfl))
 have w1:i64.wrap ((n:Int)-1)=((n-1:Nat):Int):=fR aa aa
 have w2:i64.wrap (32*((n-1:Nat):Int))=((32*(n-1):Nat):Int):=fR aa aa
 rw[w1,w2]
 simp only[bG]
 refine⟨aa,fun s' hv=>cW ?_⟩
 have hzt:=hz (n-1) aa
 have htot:bX (val n z)=32*(n-1)+bX (z (n-1)):=by
  have h0:val n z≠0:=iB.1 aa
  rw[KS h0,hnl,qe hz aa]
 refine au.jh (i:=0) (y:=part (aI f187) [1,1,1,0,1,0,0]) ah [3,4,2] 0 (h0 _) (fun p:Nat×Nat=>[.int .i64 (p.1:Nat),.int .u32 (p.2:Nat),.int .i64 0]) (fun _=>[]) (fun _=>rfl) (fun _=>trivial)
  (fun p=>p.1+bX p.2=bX (val n z)/\p.2<2^32) (fun p=>p.2) (32*(n-1),z (n-1)) hv ⟨htot.symm,hzt⟩ ?_
 rintro⟨x,y⟩ ⟨hxy,hy⟩
 simp only at hxy hy
 have hb32:bX (z (n-1))<=32:=j6.2 hzt
 refine au.bL hT cG hm 30 [3,4,2] ZU ah ?_
 rw[xb (by decide) (by decide)]
 simp only[af.all,az,bne_iff_ne,ne_eq,bne_eq_false_iff_eq,show Int.toNat 1=1 from rfl]
 refine⟨fun hc=>⟨aa,fun s' hv=>?_⟩,fun hc s' hv=>gv (cW ?_)⟩
 ·have hy0:0<y:=aa
  have e:bX y=1+bX (y/2):=by
   by_cases h1:y=1
   ·rw[h1];decide
   ·exact vF (k:=1) aa
  have hd:y/2<y:=aa
  exact⟨(x+1,y/2),eP hv (by rw[fR (a:=(x:Int)+1) (n:=x+1) aa aa]) rfl,⟨by simp only;omega,by simp only;omega⟩,by simp only;omega⟩
 ·have hy0:y=0:=aa
  refine aF.lI hT cG hm 30 hv (h0 0) rfl trivial X7 ah ah (cq ?_)
  rw[hy0]at hxy
  simp[bX]at hxy
  rw[hxy];simp[bX]
def Iq:Spec:=cw (nj fun N n=>aM (.int .i64 (bX N:Nat)) [n<2^40,nl N=n])
theorem SA:bf P Iq 187:=
 dc (v7 fun _ _ K hz need=>SQ hz need.1 need.2 K)
end Go.Am.B
