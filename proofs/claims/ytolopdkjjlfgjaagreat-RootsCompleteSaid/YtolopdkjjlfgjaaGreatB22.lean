/- ref01: Trim, Of, small, Cmp, Bits. -/
import Derived.Test.YtolopdkjjlfgjaaGreatB21
set_option linter.unusedVariables false
namespace Go.Am.B
open Go Go.Am.N AV Proofs.Tryz IntKind
theorem aeq:bu 140 f140:=bz func140
theorem Ta:bu 138 f138:=bz func138
theorem Qj:bu 186 f186:=bz func186
theorem Xb:bu 84 f84:=bz func84
theorem Tq:bu 187 f187:=bz func187
theorem RX {n:Nat} {z:Nat->Nat}:aH T [] [] 30 [0,3] (before (aG f140) [1,1,0]) ⟨aV 0 [.aq 1 n (az z)],[],0⟩=
  some (af.leaf ak.normal ([aq 1 n (az z),int .i64 (↑n:Int)],[])):=ag
theorem Xa {n k:Nat} {z:Nat->Nat}:aH T [] [8,15] 30 [0,3] [part (aG f140) [1,1,0,0,0]] ⟨aE [0,3] [.aq 1 n (az z),.int .i64 k],[],0⟩=
  some (af.fork (decide ((↑k:Int)>0)) (af.aj [decide ((↑k:Int)>0)=true,(0:Int)<=i64.wrap ((↑k:Int)-1)/\(i64.wrap ((↑k:Int)-1)).toNat<n] (af.fork (bif true then(↑(z (i64.wrap ((↑k:Int)-1)).toNat):Int)==0 else false) (af.leaf ak.normal ([aq 1 n (az z),int .i64 (i64.wrap ((↑k:Int)-1))],[])) (af.leaf (ak.exit 0) ([aq 1 n (az z),int .i64 (↑k:Int)],[])))) (af.aj [decide ((↑k:Int)>0)=false] (af.fork false (af.leaf ak.normal ([aq 1 n (az z),int .i64 (i64.wrap ((↑k:Int)-1))],[])) (af.leaf (ak.exit 0) ([aq 1 n (az z),int .i64 (↑k:Int)],[]))))):=ag
theorem R7 {n k:Nat} {z:Nat->Nat}:dA T [] [] 30 f140 (behind (aG f140) [1,1,0]) ⟨aE [0,3] [.aq 1 n (az z),.int .i64 k],[],0⟩=
  some (af.aj [(0:Nat)*1<=2^24,(0:Int)<=0/\(0:Int)<=(↑k:Int)/\(↑k:Int)<=(↑k:Int)/\(↑k:Int)<=(↑n:Int),((0:Nat)+((↑k:Int).toNat-Int.toNat (0:Int)))*((4:Nat)+1)*2<=2^47] (af.leaf ak.ret [aq 1 ((0:Nat)+((↑k:Int).toNat-Int.toNat (0:Int))) fun(i:Nat)=>if i+0<0 then nth [] (int .u32 (0:Int)) (i+0)else az z (i+0-0+Int.toNat (0:Int))])):=ag
def uS:Spec:=b7 (mT fun N n=>aM (.mag N) [n<2^40])
def fJ:bB:=[(140,uS)]
theorem aan {n:Nat}:cq T fJ [] 30 f138 (aG f138) ⟨aV 0 [.int .u64 n],[],0⟩=
  some (af.aj [(0:Int)<=32,(2:Nat)*1<=2^24,eP 2 fun(i:Nat)=>nth [int .u32 (u32.wrap (↑n:Int)),int .u32 (u32.wrap ((↑n:Int).fdiv ((2:Int)^min (Int.toNat (32:Int)) u64.bits)))] (int .u32 (0:Int)) (i+0),(2:Nat)<2^40] (af.leaf ak.ret [mag (val 2 fun(i:Nat)=>numOf (nth [int .u32 (u32.wrap (↑n:Int)),int .u32 (u32.wrap ((↑n:Int).fdiv ((2:Int)^min (Int.toNat (32:Int)) u64.bits)))] (int .u32 (0:Int)) (i+0)))])):=ag
theorem adL {A:Nat}:cq T fJ [6,8,14] 30 f186 (aG f186) ⟨aV 0 [.mag A],[],0⟩=
  some (af.fork ((↑(nl A):Int)==0) (af.leaf ak.ret [int .u64 (0:Int),AV.bool true]) (af.fork ((↑(nl A):Int)==1) (af.aj [(0:Int)<=0/\Int.toNat (0:Int)<nl A] (af.leaf ak.ret [int .u64 (u64.wrap (↑(aB A (Int.toNat (0:Int))):Int)),AV.bool true])) (af.fork ((↑(nl A):Int)==2) (af.aj [(0:Int)<=0/\Int.toNat (0:Int)<nl A,(0:Int)<=1/\Int.toNat (1:Int)<nl A,(0:Int)<=32] (af.leaf ak.ret [int .u64 (u64.wrap (↑(BitVec.ofInt u64.bits (u64.wrap (↑(aB A (Int.toNat (0:Int))):Int))|||BitVec.ofInt u64.bits (u64.wrap (u64.wrap (↑(aB A (Int.toNat (1:Int))):Int)*2^min (Int.toNat (32:Int)) u64.bits))).toNat:Int)),AV.bool true])) (af.leaf ak.ret [int .u64 (0:Int),AV.bool false])))):=ag
theorem ad9 {A B:Nat}:aH T [] [10,15] 30 [0,1,5,4] (before (aG f84) [1,1,0,1]) ⟨aV 0 [.mag A,.mag B],[],0⟩=
  some (af.fork ((↑(nl A):Int)!=(↑(nl B):Int)) (af.fork (decide ((↑(nl A):Int)<(↑(nl B):Int))) (af.leaf ak.ret ([mag A,mag B,tuple [],int .i64 (-1:Int)],[])) (af.leaf ak.ret ([mag A,mag B,tuple [],int .i64 (1:Int)],[]))) (af.leaf ak.normal ([mag A,mag B,int .i64 (i64.wrap ((↑(nl A):Int)-1)),int .i64 (0:Int)],[]))):=ag
theorem P5 {A B k:Nat}:aH T [] [20,31,40] 30 [0,1,5,4] [part (aG f84) [1,1,0,1,0,0]] ⟨aE [0,1,5,4] [.mag A,.mag B,.int .i64 ((k:Int)-1),.int .i64 0],[],0⟩=
  some (af.fork (decide ((↑k:Int)-1>=(0:Int))) (af.aj [(0:Int)<=(↑k:Int)-1/\((↑k:Int)-1).toNat<nl A,(0:Int)<=(↑k:Int)-1/\((↑k:Int)-1).toNat<nl B] (af.fork (decide ((↑(aB A ((↑k:Int)-1).toNat):Int)<(↑(aB B ((↑k:Int)-1).toNat):Int))) (af.leaf ak.ret ([mag A,mag B,int .i64 ((↑k:Int)-1),int .i64 (-1:Int)],[])) (af.aj [(0:Int)<=(↑k:Int)-1/\((↑k:Int)-1).toNat<nl A,(0:Int)<=(↑k:Int)-1/\((↑k:Int)-1).toNat<nl B] (af.fork (decide ((↑(aB A ((↑k:Int)-1).toNat):Int)>(↑(aB B ((↑k:Int)-1).toNat):Int))) (af.leaf ak.ret ([mag A,mag B,int .i64 ((↑k:Int)-1),int .i64 (1:Int)],[])) (af.leaf ak.normal ([mag A,mag B,int .i64 (i64.wrap ((↑k:Int)-1-(1:Int))),int .i64 (0:Int)],[])))))) (af.leaf (ak.exit 0) ([mag A,mag B,int .i64 ((↑k:Int)-1),int .i64 (0:Int)],[]))):=ag
theorem PS {A B k:Nat}:dA T [] [] 30 f84 (behind (aG f84) [1,1,0,1]) ⟨aE [0,1,5,4] [.mag A,.mag B,.int .i64 ((k:Int)-1),.int .i64 0],[],0⟩=
  some (af.leaf ak.ret [int .i64 (0:Int)]):=ag
theorem T1 {n:Nat} {z:Nat->Nat}:aH T [] [7] 30 [3,4,2] (before (aG f187) [1,1,1,0,1]) ⟨aV 0 [.aq 1 n (az z)],[],0⟩=
  some (af.fork ((↑n:Int)==0) (af.leaf ak.ret ([tuple [],tuple [],int .i64 (0:Int)],[])) (af.aj [(0:Int)<=i64.wrap ((↑n:Int)-1)/\(i64.wrap ((↑n:Int)-1)).toNat<n] (af.leaf ak.normal ([int .i64 (i64.wrap ((32:Int)*i64.wrap ((↑n:Int)-1))),int .u32 (↑(z (i64.wrap ((↑n:Int)-1)).toNat):Int),int .i64 (0:Int)],[])))):=ag
theorem Ri {x y:Nat}:aH T [] [19] 30 [3,4,2] [part (aG f187) [1,1,1,0,1,0,0]] ⟨aE [3,4,2] [.int .i64 x,.int .u32 y,.int .i64 0],[],0⟩=
  some (af.fork ((↑y:Int)!=0) (af.aj [(0:Int)<=1] (af.leaf ak.normal ([int .i64 (i64.wrap ((↑x:Int)+1)),int .u32 ((↑y:Int).fdiv ((2:Int)^min (Int.toNat (1:Int)) u32.bits)),int .i64 (0:Int)],[]))) (af.leaf (ak.exit 0) ([int .i64 (↑x:Int),int .u32 (↑y:Int),int .i64 (0:Int)],[]))):=ag
theorem YJ {x y:Nat}:dA T [] [] 30 f187 (behind (aG f187) [1,1,1,0,1]) ⟨aE [3,4,2] [.int .i64 x,.int .u32 y,.int .i64 0],[],0⟩=
  some (af.leaf ak.ret [int .i64 (↑x:Int)]):=ag
theorem SC {n:Nat} {z:Nat->Nat} (hz:∀i,i<n->z i<2^32) (hn:n<2^40) (K:Nat):aQ P 140 K [.aq 1 n (az z)] [] (aM (.mag (val n z)) []):=by
 refine iI hT aeq rfl bp rfl (fun _ c h0=>?_) K []
 refine au.hole [1,1,0] ag (aF.bJ hT ct hm 30 [0,3] RX ag fun s' hv=>cM ?_)
 refine au.iR (i:=0) (y:=part (aG f140) [1,1,0,0,0]) ag [0,3] 0 (h0 _) (fun k:Nat=>[.aq 1 n (az z),.int .i64 k]) (fun _=>[]) (fun _=>rfl) (fun _=>trivial)
  (fun k=>k<=n/\∀i,k<=i->i<n->z i=0) id n hv ⟨aS,fun i h1 h2=>aa⟩ ?_
 rintro j ⟨hj,hzj⟩
 refine au.bJ hT ct hm 30 [0,3] Xa ag ?_
 have fin:(j=0\/z (j-1)≠0)->∀s',bh [0,3] s'=some ([.aq 1 n (az z),.int .i64 j],[])->aF P c f140.ntmps (behind (aG f140) [1,1,0]) s' (gi c (Fin T f140 (.mag (val n z)))):=by
  intro hj0 s' hv
  refine aF.kJ hT ct hm 30 hv (h0 0) rfl trivial R7 ag ag ?_
  simp only[af.all,aA,bE,Int.toNat_zero,Nat.zero_add,Nat.sub_zero,Nat.add_zero]
  have e:val n z=val j z:=nC hj hzj
  refine⟨⟨aa,aa,aa⟩,kK (by rw[e,Bo (fun i hi=>hz i aa) hj0]) fun i hi=>?_⟩
  rw[if_neg aa,e,qa (fun j hj=>hz j aa) hi]
  rfl
 have hw:0<j->i64.wrap ((j:Int)-1)=((j-1:Nat):Int):=fun h=>by rw[wrap_i64 aa aa];omega
 refine⟨fun hb=>?_,fun hb=>?_⟩
 ·have h1:0<j:=by simpa using hb
  rw[hw h1]
  have hj1:j-1<n:=aa
  refine⟨⟨hb,aa,by rw[bE];exact hj1⟩,fun hc s' hv=>?_,fun hc s' hv=>?_⟩
  ·refine⟨j-1,hv,⟨aa,fun i h1 h2=>?_⟩,by simp;omega⟩
   by_cases hi:i=j-1
   ·subst hi;simpa using hc
   ·exact hzj i aa h2
  ·exact fW (fin (.inr (by simpa using hc)) s' hv)
 ·have h1:j=0:=by simpa using hb
  refine⟨hb,fun hc=>by simp at hc,fun hc s' hv=>fW (fin (.inl h1) s' hv)⟩
theorem w8:bA P uS 140:=
 cP (tf fun _ _ K hz need=>SC hz need K)
theorem fR:bT P fJ:=aN w8 ct
theorem aas {x:Nat} (hx:x<2^64) (K:Nat):aQ P 138 K [.int .u64 x] [] (aM (.mag x) []):=by
 refine cA hT fR hm Ta rfl bp rfl 30 aan (fun _=>?_) K []
 simp only[af.all,aA,me]
 refine⟨⟨aa,aa,fun i hi=>?_,aa⟩,eO (congrArg AV.mag ?_)⟩
 ·match i,hi with
  |0,_=>exact⟨x%2^32,aa,by simp[nth,ki]⟩
  |1,_=>exact⟨x/4294967296,aa,by simp[nth,mo];omega⟩
 ·rw[val_two]
  simp[nth,numOf,mo]
  omega
def vO:Spec:=b7 fun l=>match l with
 |[.int .u64 x]=>some (aM (.mag x.toNat) [0<=x/\x<2^64])
 |_=>none
theorem BE:bA P vO 138:=by
 refine cP fun K args r hk hs _=>?_
 split at hs
 ·simp only[ax]at hs
  subst hs
  intro need
  obtain⟨h1,h2⟩:=need
  rename_i x
  obtain⟨y,rfl⟩:=Int.eq_ofNat_of_zero_le h1
  exact aas (x:=y) aa K trivial
 ·simp at hs
def gP (A:Nat):Bool:=decide (A<18446744073709551616)
theorem Ye {A:Nat} (K:Nat):aQ P 186 K [.mag A] [] (aM (.tuple [.int .u64 (if gP A then A else 0:Nat),.bool (gP A)]) []):=by
 refine cA hT fR hm Qj rfl bp rfl 30 adL (fun _=>?_) K []
 simp only[af.all,aA,beq_iff_eq,beq_eq_false_iff_ne,ne_eq,Int.toNat_zero,show Int.toNat 1=1 from rfl]
 have hv:=gO (N:=A)
 have l0:=eA (N:=A) (i:=0)
 have l1:=eA (N:=A) (i:=1)
 have yes:∀{x:Int},A<2^64->x=(A:Nat)->gG [.int .u64 x,.bool true] (.tuple [.int .u64 (if gP A then A else 0:Nat),.bool (gP A)]):=fun h hx=>by
  have:gP A=true:=by unfold gP;simpa using h
  rw[this,if_pos rfl]
  exact⟨bV hx,.refl _,trivial⟩
 refine⟨fun hb=>yes ?_ ?_,fun hb=>⟨fun h1=>⟨aa,yes ?_ ?_⟩,fun h1=>⟨fun h2=>⟨⟨aa,aa,aa⟩,yes ?_ ?_⟩,fun h2=>?_⟩⟩⟩
 ·have:A=0:=kO.1 aa
  omega
 ·have:A=0:=kO.1 aa
  rw[this];rfl
 ·exact qm aa
 ·rw[show nl A=1 by omega,val,val]at hv
  rw[cy aa aa]
  simp at hv;omega
 ·exact qm aa
 ·rw[show nl A=2 by omega,val,val,val]at hv
  have e1:u64.wrap (aB A 0:Int)=((aB A 0:Nat):Int):=cy aa aa
  have e2:u64.wrap (aB A 1:Int)=((aB A 1:Nat):Int):=cy aa aa
  have e3:u64.wrap ((aB A 1:Int)*2^min (Int.toNat 32) u64.bits)=((aB A 1*4294967296:Nat):Int):=by
   rw[wQ,cy aa aa];omega
  rw[e1,e2,e3,vc aa aa]
  congr 1
  rw[Nat.or_comm,show 4294967296=2^32 from rfl,sP l0]
  simp at hv;omega
 ·have:gP A=false:=by
   unfold gP
   simp only[bO]
   intro h
   have:nl A<=2:=ec.2 h
   omega
  rw[this]
  exact⟨.refl _,.refl _,trivial⟩
def B9:Spec:=b7 fun l=>match l with
 |[a]=>match jD a with
  |some A=>some (aM (.tuple [.int .u64 (if gP A then A else 0:Nat),.bool (gP A)]) [])
  |none=>none
 |_=>none
theorem KZ:bA P B9 186:=by
 refine cP fun K args r hk hs _=>?_
 split at hs
 ·split at hs
  ·rename_i A hA
   simp only[ax]at hs
   subst hs
   exact gY (Ye K) hk ⟨mB hA,trivial⟩ []
  ·simp at hs
 ·simp at hs
theorem aat {A B:Nat} (hA:nl A<2^40) (hB:nl B<2^40) (K:Nat):aQ P 84 K [.mag A,.mag B] [] (aM (.int .i64 (dr A B)) []):=by
 refine iI hT Xb rfl bp rfl (fun _ c h0=>?_) K []
 refine au.hole [1,1,0,1] ag (aF.bJ hT ct hm 30 [0,1,5,4] ad9 ag ?_)
 simp only[af.all,aA,bK,bO,bne_iff_ne,ne_eq,Int.natCast_inj,bne_eq_false_iff_eq]
 refine⟨fun hb=>⟨fun hb2 s' hv=>fZ (.inl ?_),fun hb2 s' hv=>fZ (.inl ?_)⟩,fun hb s' hv=>cM ?_⟩
 ·have h1:A<B:=yW aa
  exact iq (us:=[.int .i64 (-1)]) (.inr rfl) hv ag (bV (by simp[dr,h1]))
 ·have h1:B<A:=yW aa
  exact iq (us:=[.int .i64 1]) (.inr rfl) hv ag (bV (by simp[dr,h1];omega))
 refine au.iR (i:=0) (y:=part (aG f84) [1,1,0,1,0,0]) ag [0,1,5,4] 0 (h0 _) (fun k:Nat=>[.mag A,.mag B,.int .i64 ((k:Int)-1),.int .i64 0]) (fun _=>[]) (fun _=>rfl) (fun _=>trivial)
  (fun k=>k<=nl A/\∀j,k<=j->j<nl A->aB A j=aB B j) id (nl A) (eH hv (by rw[wrap_i64 aa aa]) rfl) ⟨by simp,fun j h1 h2=>aa⟩ ?_
 rintro k ⟨hk,hlim⟩
 refine au.bJ hT ct hm 30 [0,1,5,4] P5 ag ?_
 simp only[af.all,aA,bK,bO]
 refine⟨fun hb2=>?_,fun hb2 s' hv=>fW ?_⟩
 ·obtain⟨j,rfl⟩:∃j,k=j+1:=⟨k-1,aa⟩
  have e:(((j+1:Nat):Int)-1).toNat=j:=aa
  rw[e]
  refine⟨⟨aa,aa⟩,fun hlt s' hv=>NY (fZ (.inl ?_)),fun hlt=>⟨⟨aa,aa⟩,fun hgt s' hv=>NY (fZ (.inl ?_)),fun hgt s' hv=>?_⟩⟩
  ·have h1:A<B:=zF hb (k:=j) aa (fun i h1 h2=>hlim i aa h2) aa
   exact iq (us:=[.int .i64 (-1)]) (.inr rfl) hv ag (bV (by simp[dr,h1]))
  ·have h1:B<A:=zF hb.symm (k:=j) aa (fun i h1 h2=>(hlim i aa aa).symm) aa
   exact iq (us:=[.int .i64 1]) (.inr rfl) hv ag (bV (by simp[dr,h1];omega))
  ·refine⟨j,eH hv (by rw[wrap_i64 aa aa];congr 4;omega) rfl,⟨aa,fun i h1 h2=>?_⟩,by simp⟩
   by_cases hi:i=j
   ·subst hi;omega
   ·exact hlim i aa h2
 ·have hk0:k=0:=aa
  have hAB:A=B:=B5 hb fun i hi=>hlim i aa hi
  exact cM (aF.kJ hT ct hm 30 hv (h0 0) rfl trivial PS ag ag (bV (by simp[dr,hAB])))
def nL (g:Nat->Nat->AV) (l:Nat->Nat->List Prop):Spec:=b7 fun a=>match a with
 |[x,y]=>match jD x,jD y with
  |some A,some B=>some (aM (g A B) (l A B))
  |_,_=>none
 |_=>none
theorem qy {f:FuncId} {g:Nat->Nat->AV} {l:Nat->Nat->List Prop} (h:∀{A B:Nat},aA (l A B)->∀K,aQ P f K [.mag A,.mag B] [] (aM (g A B) [])):bA P (nL g l) f:=by
 refine cP fun K args r hk hs _=>?_
 split at hs
 ·split at hs
  ·rename_i A B hA hB
   simp only[ax]at hs
   subst hs
   exact fun need=>gY (h need K) hk ⟨mB hA,mB hB,trivial⟩ [] trivial
  ·simp at hs
 ·simp at hs
abbrev DS (A B:Nat):List Prop:=[nl A<2^40,nl B<2^40]
def wG:Spec:=nL (fun A B=>.int .i64 (dr A B)) DS
theorem Bv:bA P wG 84:=qy fun h=>aat h.1 h.2
theorem UY {n:Nat} {z:Nat->Nat} (hz:∀i,i<n->z i<2^32) (hn:n<2^40) (hnl:nl (val n z)=n) (K:Nat):aQ P 187 K [.aq 1 n (az z)] [] (aM (.int .i64 (bP (val n z):Nat)) []):=by
 refine iI hT Tq rfl bp rfl (fun _ c h0=>?_) K []
 refine au.hole [1,1,1,0,1] ag (aF.bJ hT ct hm 30 [3,4,2] T1 ag ?_)
 simp only[af.all,aA,beq_iff_eq,beq_eq_false_iff_ne,ne_eq]
 refine⟨fun hb s' hv=>fZ (.inl ?_),fun hb=>?_⟩
 ·have h1:n=0:=aa
  have h2:val n z=0:=by rw[h1];rfl
  exact iq (us:=[.int .i64 0]) (.inr rfl) hv ag (bV (by rw[h2];rfl))
 have w1:i64.wrap ((n:Int)-1)=((n-1:Nat):Int):=fD aa aa
 have w2:i64.wrap (32*((n-1:Nat):Int))=((32*(n-1):Nat):Int):=fD aa aa
 rw[w1,w2]
 simp only[bE]
 refine⟨aa,fun s' hv=>cM ?_⟩
 have hzt:=hz (n-1) aa
 have htot:bP (val n z)=32*(n-1)+bP (z (n-1)):=by
  have h0:val n z≠0:=gZ.1 aa
  rw[Ik h0,hnl,qa hz aa]
 refine au.iR (i:=0) (y:=part (aG f187) [1,1,1,0,1,0,0]) ag [3,4,2] 0 (h0 _) (fun p:Nat×Nat=>[.int .i64 (p.1:Nat),.int .u32 (p.2:Nat),.int .i64 0]) (fun _=>[]) (fun _=>rfl) (fun _=>trivial)
  (fun p=>p.1+bP p.2=bP (val n z)/\p.2<2^32) (fun p=>p.2) (32*(n-1),z (n-1)) hv ⟨htot.symm,hzt⟩ ?_
 rintro⟨x,y⟩ ⟨hxy,hy⟩
 simp only at hxy hy
 have hb32:bP (z (n-1))<=32:=j5.2 hzt
 refine au.bJ hT ct hm 30 [3,4,2] Ri ag ?_
 rw[x7 (by decide) (by decide)]
 simp only[af.all,aA,bne_iff_ne,ne_eq,bne_eq_false_iff_eq,show Int.toNat 1=1 from rfl]
 refine⟨fun hc=>⟨aa,fun s' hv=>?_⟩,fun hc s' hv=>fW (cM ?_)⟩
 ·have hy0:0<y:=aa
  have e:bP y=1+bP (y/2):=by
   by_cases h1:y=1
   ·rw[h1];decide
   ·exact uG (k:=1) aa
  have hd:y/2<y:=aa
  exact⟨(x+1,y/2),eH hv (by rw[fD (a:=(x:Int)+1) (n:=x+1) aa aa]) rfl,⟨by simp only;omega,by simp only;omega⟩,by simp only;omega⟩
 ·have hy0:y=0:=aa
  refine aF.kJ hT ct hm 30 hv (h0 0) rfl trivial YJ ag ag (bV ?_)
  rw[hy0]at hxy
  simp[bP]at hxy
  rw[hxy];simp[bP]
def GJ:Spec:=b7 (mT fun N n=>aM (.int .i64 (bP N:Nat)) [n<2^40,nl N=n])
theorem X8:bA P GJ 187:=
 cP (tf fun _ _ K hz need=>UY hz need.1 need.2 K)
end Go.Am.B
