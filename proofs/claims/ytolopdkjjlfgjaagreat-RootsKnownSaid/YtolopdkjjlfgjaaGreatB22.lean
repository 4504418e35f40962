/- ref01: Trim, Of, small, Cmp, Bits. -/
import Derived.Test.YtolopdkjjlfgjaaGreatB21
set_option linter.unusedVariables false
namespace Go.Am.B
open Go Go.Am.N AV Proofs.Tryz IntKind
theorem PO:bC 140 f140:=bD func140
theorem Q7:bC 138 f138:=bD func138
theorem V4:bC 186 f186:=bD func186
theorem ack:bC 84 f84:=bD func84
theorem WV:bC 187 f187:=bD func187
theorem aaL {n:Nat} {z:Nat->Nat}:aK T [] [] 30 [0,3] (before (aJ f140) [1,1,0]) ⟨bf 0 [.az 1 n (aD z)],[],0⟩=
  some (af.leaf au.normal ([az 1 n (aD z),int .i64 (↑n:Int)],[])):=ah
theorem Sq {n k:Nat} {z:Nat->Nat}:aK T [] [8,15] 30 [0,3] [part (aJ f140) [1,1,0,0,0]] ⟨aH [0,3] [.az 1 n (aD z),.int .i64 k],[],0⟩=
  some (af.fork (decide ((↑k:Int)>0)) (af.aj [decide ((↑k:Int)>0)=true,(0:Int)<=i64.wrap ((↑k:Int)-1)/\(i64.wrap ((↑k:Int)-1)).toNat<n] (af.fork (bif true then(↑(z (i64.wrap ((↑k:Int)-1)).toNat):Int)==0 else false) (af.leaf au.normal ([az 1 n (aD z),int .i64 (i64.wrap ((↑k:Int)-1))],[])) (af.leaf (au.exit 0) ([az 1 n (aD z),int .i64 (↑k:Int)],[])))) (af.aj [decide ((↑k:Int)>0)=false] (af.fork false (af.leaf au.normal ([az 1 n (aD z),int .i64 (i64.wrap ((↑k:Int)-1))],[])) (af.leaf (au.exit 0) ([az 1 n (aD z),int .i64 (↑k:Int)],[]))))):=ah
theorem VK {n k:Nat} {z:Nat->Nat}:dJ T [] [] 30 f140 (behind (aJ f140) [1,1,0]) ⟨aH [0,3] [.az 1 n (aD z),.int .i64 k],[],0⟩=
  some (af.aj [(0:Nat)*1<=2^24,(0:Int)<=0/\(0:Int)<=(↑k:Int)/\(↑k:Int)<=(↑k:Int)/\(↑k:Int)<=(↑n:Int),((0:Nat)+((↑k:Int).toNat-Int.toNat (0:Int)))*((4:Nat)+1)*2<=2^47] (af.leaf au.ret [az 1 ((0:Nat)+((↑k:Int).toNat-Int.toNat (0:Int))) fun(i:Nat)=>if i+0<0 then nth [] (int .u32 (0:Int)) (i+0)else aD z (i+0-0+Int.toNat (0:Int))])):=ah
def wo:Spec:=cw (mW fun N n=>aT (.mag N) [n<2^40])
def fZ:bG:=[(140,wo)]
theorem Rx {n:Nat}:cy T fZ [] 30 f138 (aJ f138) ⟨bf 0 [.int .u64 n],[],0⟩=
  some (af.aj [(0:Int)<=32,(2:Nat)*1<=2^24,fu 2 fun(i:Nat)=>nth [int .u32 (u32.wrap (↑n:Int)),int .u32 (u32.wrap ((↑n:Int).fdiv ((2:Int)^min (Int.toNat (32:Int)) u64.bits)))] (int .u32 (0:Int)) (i+0),(2:Nat)<2^40] (af.leaf au.ret [mag (val 2 fun(i:Nat)=>numOf (nth [int .u32 (u32.wrap (↑n:Int)),int .u32 (u32.wrap ((↑n:Int).fdiv ((2:Int)^min (Int.toNat (32:Int)) u64.bits)))] (int .u32 (0:Int)) (i+0)))])):=ah
theorem PX {A:Nat}:cy T fZ [6,8,14] 30 f186 (aJ f186) ⟨bf 0 [.mag A],[],0⟩=
  some (af.fork ((↑(nl A):Int)==0) (af.leaf au.ret [int .u64 (0:Int),AV.bool true]) (af.fork ((↑(nl A):Int)==1) (af.aj [(0:Int)<=0/\Int.toNat (0:Int)<nl A] (af.leaf au.ret [int .u64 (u64.wrap (↑(aE A (Int.toNat (0:Int))):Int)),AV.bool true])) (af.fork ((↑(nl A):Int)==2) (af.aj [(0:Int)<=0/\Int.toNat (0:Int)<nl A,(0:Int)<=1/\Int.toNat (1:Int)<nl A,(0:Int)<=32] (af.leaf au.ret [int .u64 (u64.wrap (↑(BitVec.ofInt u64.bits (u64.wrap (↑(aE A (Int.toNat (0:Int))):Int))|||BitVec.ofInt u64.bits (u64.wrap (u64.wrap (↑(aE A (Int.toNat (1:Int))):Int)*2^min (Int.toNat (32:Int)) u64.bits))).toNat:Int)),AV.bool true])) (af.leaf au.ret [int .u64 (0:Int),AV.bool false])))):=ah
theorem U4 {A B:Nat}:aK T [] [10,15] 30 [0,1,5,4] (before (aJ f84) [1,1,0,1]) ⟨bf 0 [.mag A,.mag B],[],0⟩=
  some (af.fork ((↑(nl A):Int)!=(↑(nl B):Int)) (af.fork (decide ((↑(nl A):Int)<(↑(nl B):Int))) (af.leaf au.ret ([mag A,mag B,tuple [],int .i64 (-1:Int)],[])) (af.leaf au.ret ([mag A,mag B,tuple [],int .i64 (1:Int)],[]))) (af.leaf au.normal ([mag A,mag B,int .i64 (i64.wrap ((↑(nl A):Int)-1)),int .i64 (0:Int)],[]))):=ah
theorem Rj {A B k:Nat}:aK T [] [20,31,40] 30 [0,1,5,4] [part (aJ f84) [1,1,0,1,0,0]] ⟨aH [0,1,5,4] [.mag A,.mag B,.int .i64 ((k:Int)-1),.int .i64 0],[],0⟩=
  some (af.fork (decide ((↑k:Int)-1>=(0:Int))) (af.aj [(0:Int)<=(↑k:Int)-1/\((↑k:Int)-1).toNat<nl A,(0:Int)<=(↑k:Int)-1/\((↑k:Int)-1).toNat<nl B] (af.fork (decide ((↑(aE A ((↑k:Int)-1).toNat):Int)<(↑(aE B ((↑k:Int)-1).toNat):Int))) (af.leaf au.ret ([mag A,mag B,int .i64 ((↑k:Int)-1),int .i64 (-1:Int)],[])) (af.aj [(0:Int)<=(↑k:Int)-1/\((↑k:Int)-1).toNat<nl A,(0:Int)<=(↑k:Int)-1/\((↑k:Int)-1).toNat<nl B] (af.fork (decide ((↑(aE A ((↑k:Int)-1).toNat):Int)>(↑(aE B ((↑k:Int)-1).toNat):Int))) (af.leaf au.ret ([mag A,mag B,int .i64 ((↑k:Int)-1),int .i64 (1:Int)],[])) (af.leaf au.normal ([mag A,mag B,int .i64 (i64.wrap ((↑k:Int)-1-(1:Int))),int .i64 (0:Int)],[])))))) (af.leaf (au.exit 0) ([mag A,mag B,int .i64 ((↑k:Int)-1),int .i64 (0:Int)],[]))):=ah
theorem adI {A B k:Nat}:dJ T [] [] 30 f84 (behind (aJ f84) [1,1,0,1]) ⟨aH [0,1,5,4] [.mag A,.mag B,.int .i64 ((k:Int)-1),.int .i64 0],[],0⟩=
  some (af.leaf au.ret [int .i64 (0:Int)]):=ah
theorem ZC {n:Nat} {z:Nat->Nat}:aK T [] [7] 30 [3,4,2] (before (aJ f187) [1,1,1,0,1]) ⟨bf 0 [.az 1 n (aD z)],[],0⟩=
  some (af.fork ((↑n:Int)==0) (af.leaf au.ret ([tuple [],tuple [],int .i64 (0:Int)],[])) (af.aj [(0:Int)<=i64.wrap ((↑n:Int)-1)/\(i64.wrap ((↑n:Int)-1)).toNat<n] (af.leaf au.normal ([int .i64 (i64.wrap ((32:Int)*i64.wrap ((↑n:Int)-1))),int .u32 (↑(z (i64.wrap ((↑n:Int)-1)).toNat):Int),int .i64 (0:Int)],[])))):=ah
theorem Vu {x y:Nat}:aK T [] [19] 30 [3,4,2] [part (aJ f187) [1,1,1,0,1,0,0]] ⟨aH [3,4,2] [.int .i64 x,.int .u32 y,.int .i64 0],[],0⟩=
  some (af.fork ((↑y:Int)!=0) (af.aj [(0:Int)<=1] (af.leaf au.normal ([int .i64 (i64.wrap ((↑x:Int)+1)),int .u32 ((↑y:Int).fdiv ((2:Int)^min (Int.toNat (1:Int)) u32.bits)),int .i64 (0:Int)],[]))) (af.leaf (au.exit 0) ([int .i64 (↑x:Int),int .u32 (↑y:Int),int .i64 (0:Int)],[]))):=ah
theorem R4 {x y:Nat}:dJ T [] [] 30 f187 (behind (aJ f187) [1,1,1,0,1]) ⟨aH [3,4,2] [.int .i64 x,.int .u32 y,.int .i64 0],[],0⟩=
  some (af.leaf au.ret [int .i64 (↑x:Int)]):=ah
theorem Zi {n:Nat} {z:Nat->Nat} (hz:∀i,i<n->z i<2^32) (hn:n<2^40) (K:Nat):aY P 140 K [.az 1 n (aD z)] [] (aT (.mag (val n z)) []):=by
 refine ja hT PO rfl br rfl (fun _ c h0=>?_) K []
 refine aA.hole [1,1,0] ah (aI.bM hT cK hm 30 [0,3] aaL ah fun s' hv=>cU ?_)
 refine aA.js (i:=0) (y:=part (aJ f140) [1,1,0,0,0]) ah [0,3] 0 (h0 _) (fun k:Nat=>[.az 1 n (aD z),.int .i64 k]) (fun _=>[]) (fun _=>rfl) (fun _=>trivial)
  (fun k=>k<=n/\∀i,k<=i->i<n->z i=0) id n hv ⟨aX,fun i h1 h2=>aa⟩ ?_
 rintro j ⟨hj,hzj⟩
 refine aA.bM hT cK hm 30 [0,3] Sq ah ?_
 have fin:(j=0\/z (j-1)≠0)->∀s',bp [0,3] s'=some ([.az 1 n (aD z),.int .i64 j],[])->aI P c f140.ntmps (behind (aJ f140) [1,1,0]) s' (gv c (Fin T f140 (.mag (val n z)))):=by
  intro hj0 s' hv
  refine aI.lU hT cK hm 30 hv (h0 0) rfl trivial VK ah ah ?_
  simp only[af.all,aF,bJ,Int.toNat_zero,Nat.zero_add,Nat.sub_zero,Nat.add_zero]
  have e:val n z=val j z:=oM hj hzj
  refine⟨⟨aa,aa,aa⟩,l8 (by rw[e,Cj (fun i hi=>hz i aa) hj0]) fun i hi=>?_⟩
  rw[if_neg aa,e,rG (fun j hj=>hz j aa) hi]
  rfl
 have hw:0<j->i64.wrap ((j:Int)-1)=((j-1:Nat):Int):=fun h=>by rw[wrap_i64 aa aa];omega
 refine⟨fun hb=>?_,fun hb=>?_⟩
 ·have h1:0<j:=by simpa using hb
  rw[hw h1]
  have hj1:j-1<n:=aa
  refine⟨⟨hb,aa,by rw[bJ];exact hj1⟩,fun hc s' hv=>?_,fun hc s' hv=>?_⟩
  ·refine⟨j-1,hv,⟨aa,fun i h1 h2=>?_⟩,by simp;omega⟩
   by_cases hi:i=j-1
   ·subst hi;simpa using hc
   ·exact hzj i aa h2
  ·exact gD (fin (.inr (by simpa using hc)) s' hv)
 ·have h1:j=0:=by simpa using hb
  refine⟨hb,fun hc=>by simp at hc,fun hc s' hv=>gD (fin (.inl h1) s' hv)⟩
theorem xZ:bF P wo 140:=
 cY (uE fun _ _ K hz need=>Zi hz need K)
theorem gn:cm P fZ:=aM xZ cK
theorem aeW {x:Nat} (hx:x<2^64) (K:Nat):aY P 138 K [.int .u64 x] [] (aT (.mag x) []):=by
 refine cB hT gn hm Q7 rfl br rfl 30 Rx (fun _=>?_) K []
 simp only[af.all,aF,nk]
 refine⟨⟨aa,aa,fun i hi=>?_,aa⟩,fo (congrArg AV.mag ?_)⟩
 ·match i,hi with
  |0,_=>exact⟨x%2^32,aa,by simp[nth,k9]⟩
  |1,_=>exact⟨x/4294967296,aa,by simp[nth,nH];omega⟩
 ·rw[val_two]
  simp[nth,numOf,nH]
  omega
def wI:Spec:=cw fun l=>match l with
 |[.int .u64 x]=>some (aT (.mag x.toNat) [0<=x/\x<2^64])
 |_=>none
theorem Bq:bF P wI 138:=by
 refine cY fun K args r hk hs _=>?_
 split at hs
 ·simp only[aB]at hs
  subst hs
  intro need
  obtain⟨h1,h2⟩:=need
  rename_i x
  obtain⟨y,rfl⟩:=Int.eq_ofNat_of_zero_le h1
  exact aeW (x:=y) aa K trivial
 ·simp at hs
def iD (A:Nat):Bool:=decide (A<18446744073709551616)
theorem aeO {A:Nat} (K:Nat):aY P 186 K [.mag A] [] (aT (.tuple [.int .u64 (if iD A then A else 0:Nat),.bool (iD A)]) []):=by
 refine cB hT gn hm V4 rfl br rfl 30 PX (fun _=>?_) K []
 simp only[af.all,aF,beq_iff_eq,beq_eq_false_iff_ne,ne_eq,Int.toNat_zero,show Int.toNat 1=1 from rfl]
 have hv:=iE (N:=A)
 have l0:=eP (N:=A) (i:=0)
 have l1:=eP (N:=A) (i:=1)
 have yes:∀{x:Int},A<2^64->x=(A:Nat)->iW [.int .u64 x,.bool true] (.tuple [.int .u64 (if iD A then A else 0:Nat),.bool (iD A)]):=fun h hx=>by
  have:iD A=true:=by unfold iD;simpa using h
  rw[this,if_pos rfl]
  exact⟨cu hx,.refl _,trivial⟩
 refine⟨fun hb=>yes ?_ ?_,fun hb=>⟨fun h1=>⟨aa,yes ?_ ?_⟩,fun h1=>⟨fun h2=>⟨⟨aa,aa,aa⟩,yes ?_ ?_⟩,fun h2=>?_⟩⟩⟩
 ·have:A=0:=kA.1 aa
  omega
 ·have:A=0:=kA.1 aa
  rw[this];rfl
 ·exact ru aa
 ·rw[show nl A=1 by omega,val,val]at hv
  rw[cG aa aa]
  simp at hv;omega
 ·exact ru aa
 ·rw[show nl A=2 by omega,val,val,val]at hv
  have e1:u64.wrap (aE A 0:Int)=((aE A 0:Nat):Int):=cG aa aa
  have e2:u64.wrap (aE A 1:Int)=((aE A 1:Nat):Int):=cG aa aa
  have e3:u64.wrap ((aE A 1:Int)*2^min (Int.toNat 32) u64.bits)=((aE A 1*4294967296:Nat):Int):=by
   rw[yz,cG aa aa];omega
  rw[e1,e2,e3,uV aa aa]
  congr 1
  rw[Nat.or_comm,show 4294967296=2^32 from rfl,sH l0]
  simp at hv;omega
 ·have:iD A=false:=by
   unfold iD
   simp only[bO]
   intro h
   have:nl A<=2:=eo.2 h
   omega
  rw[this]
  exact⟨.refl _,.refl _,trivial⟩
def FV:Spec:=cw fun l=>match l with
 |[a]=>match kj a with
  |some A=>some (aT (.tuple [.int .u64 (if iD A then A else 0:Nat),.bool (iD A)]) [])
  |none=>none
 |_=>none
theorem Ie:bF P FV 186:=by
 refine cY fun K args r hk hs _=>?_
 split at hs
 ·split at hs
  ·rename_i A hA
   simp only[aB]at hs
   subst hs
   exact je (aeO K) hk ⟨mX hA,trivial⟩ []
  ·simp at hs
 ·simp at hs
theorem V8 {A B:Nat} (hA:nl A<2^40) (hB:nl B<2^40) (K:Nat):aY P 84 K [.mag A,.mag B] [] (aT (.int .i64 (dG A B)) []):=by
 refine ja hT ack rfl br rfl (fun _ c h0=>?_) K []
 refine aA.hole [1,1,0,1] ah (aI.bM hT cK hm 30 [0,1,5,4] U4 ah ?_)
 simp only[af.all,aF,bI,bO,bne_iff_ne,ne_eq,Int.natCast_inj,bne_eq_false_iff_eq]
 refine⟨fun hb=>⟨fun hb2 s' hv=>gO (.inl ?_),fun hb2 s' hv=>gO (.inl ?_)⟩,fun hb s' hv=>cU ?_⟩
 ·have h1:A<B:=z8 aa
  exact iS (us:=[.int .i64 (-1)]) (.inr rfl) hv ah (cu (by simp[dG,h1]))
 ·have h1:B<A:=z8 aa
  exact iS (us:=[.int .i64 1]) (.inr rfl) hv ah (cu (by simp[dG,h1];omega))
 refine aA.js (i:=0) (y:=part (aJ f84) [1,1,0,1,0,0]) ah [0,1,5,4] 0 (h0 _) (fun k:Nat=>[.mag A,.mag B,.int .i64 ((k:Int)-1),.int .i64 0]) (fun _=>[]) (fun _=>rfl) (fun _=>trivial)
  (fun k=>k<=nl A/\∀j,k<=j->j<nl A->aE A j=aE B j) id (nl A) (eU hv (by rw[wrap_i64 aa aa]) rfl) ⟨by simp,fun j h1 h2=>aa⟩ ?_
 rintro k ⟨hk,hlim⟩
 refine aA.bM hT cK hm 30 [0,1,5,4] Rj ah ?_
 simp only[af.all,aF,bI,bO]
 refine⟨fun hb2=>?_,fun hb2 s' hv=>gD ?_⟩
 ·obtain⟨j,rfl⟩:∃j,k=j+1:=⟨k-1,aa⟩
  have e:(((j+1:Nat):Int)-1).toNat=j:=aa
  rw[e]
  refine⟨⟨aa,aa⟩,fun hlt s' hv=>O3 (gO (.inl ?_)),fun hlt=>⟨⟨aa,aa⟩,fun hgt s' hv=>O3 (gO (.inl ?_)),fun hgt s' hv=>?_⟩⟩
  ·have h1:A<B:=BZ hb (k:=j) aa (fun i h1 h2=>hlim i aa h2) aa
   exact iS (us:=[.int .i64 (-1)]) (.inr rfl) hv ah (cu (by simp[dG,h1]))
  ·have h1:B<A:=BZ hb.symm (k:=j) aa (fun i h1 h2=>(hlim i aa aa).symm) aa
   exact iS (us:=[.int .i64 1]) (.inr rfl) hv ah (cu (by simp[dG,h1];omega))
  ·refine⟨j,eU hv (by rw[wrap_i64 aa aa];congr 4;omega) rfl,⟨aa,fun i h1 h2=>?_⟩,by simp⟩
   by_cases hi:i=j
   ·subst hi;omega
   ·exact hlim i aa h2
 ·have hk0:k=0:=aa
  have hAB:A=B:=D0 hb fun i hi=>hlim i aa hi
  exact cU (aI.lU hT cK hm 30 hv (h0 0) rfl trivial adI ah ah (cu (by simp[dG,hAB])))
def oX (g:Nat->Nat->AV) (l:Nat->Nat->List Prop):Spec:=cw fun a=>match a with
 |[x,y]=>match kj x,kj y with
  |some A,some B=>some (aT (g A B) (l A B))
  |_,_=>none
 |_=>none
theorem qB {f:FuncId} {g:Nat->Nat->AV} {l:Nat->Nat->List Prop} (h:∀{A B:Nat},aF (l A B)->∀K,aY P f K [.mag A,.mag B] [] (aT (g A B) [])):bF P (oX g l) f:=by
 refine cY fun K args r hk hs _=>?_
 split at hs
 ·split at hs
  ·rename_i A B hA hB
   simp only[aB]at hs
   subst hs
   exact fun need=>je (h need K) hk ⟨mX hA,mX hB,trivial⟩ [] trivial
  ·simp at hs
 ·simp at hs
abbrev CJ (A B:Nat):List Prop:=[nl A<2^40,nl B<2^40]
def xK:Spec:=oX (fun A B=>.int .i64 (dG A B)) CJ
theorem Bo:bF P xK 84:=qB fun h=>V8 h.1 h.2
theorem acY {n:Nat} {z:Nat->Nat} (hz:∀i,i<n->z i<2^32) (hn:n<2^40) (hnl:nl (val n z)=n) (K:Nat):aY P 187 K [.az 1 n (aD z)] [] (aT (.int .i64 (bU (val n z):Nat)) []):=by
 refine ja hT WV rfl br rfl (fun _ c h0=>?_) K []
 refine aA.hole [1,1,1,0,1] ah (aI.bM hT cK hm 30 [3,4,2] ZC ah ?_)
 simp only[af.all,aF,beq_iff_eq,beq_eq_false_iff_ne,ne_eq]
 refine⟨fun hb s' hv=>gO (.inl ?_),fun hb=>?_⟩
 ·have h1:n=0:=aa
  have h2:val n z=0:=by rw[h1];rfl
  exact iS (us:=[.int .i64 0]) (.inr rfl) hv ah (cu (by rw[h2];rfl))
 have w1:i64.wrap ((n:Int)-1)=((n-1:Nat):Int):=fY aa aa
 have w2:i64.wrap (32*((n-1:Nat):Int))=((32*(n-1):Nat):Int):=fY aa aa
 rw[w1,w2]
 simp only[bJ]
 refine⟨aa,fun s' hv=>cU ?_⟩
 have hzt:=hz (n-1) aa
 have htot:bU (val n z)=32*(n-1)+bU (z (n-1)):=by
  have h0:val n z≠0:=iO.1 aa
  rw[M4 h0,hnl,rG hz aa]
 refine aA.js (i:=0) (y:=part (aJ f187) [1,1,1,0,1,0,0]) ah [3,4,2] 0 (h0 _) (fun p:Nat×Nat=>[.int .i64 (p.1:Nat),.int .u32 (p.2:Nat),.int .i64 0]) (fun _=>[]) (fun _=>rfl) (fun _=>trivial)
  (fun p=>p.1+bU p.2=bU (val n z)/\p.2<2^32) (fun p=>p.2) (32*(n-1),z (n-1)) hv ⟨htot.symm,hzt⟩ ?_
 rintro⟨x,y⟩ ⟨hxy,hy⟩
 simp only at hxy hy
 have hb32:bU (z (n-1))<=32:=lK.2 hzt
 refine aA.bM hT cK hm 30 [3,4,2] Vu ah ?_
 rw[zK (by decide) (by decide)]
 simp only[af.all,aF,bne_iff_ne,ne_eq,bne_eq_false_iff_eq,show Int.toNat 1=1 from rfl]
 refine⟨fun hc=>⟨aa,fun s' hv=>?_⟩,fun hc s' hv=>gD (cU ?_)⟩
 ·have hy0:0<y:=aa
  have e:bU y=1+bU (y/2):=by
   by_cases h1:y=1
   ·rw[h1];decide
   ·exact uC (k:=1) aa
  have hd:y/2<y:=aa
  exact⟨(x+1,y/2),eU hv (by rw[fY (a:=(x:Int)+1) (n:=x+1) aa aa]) rfl,⟨by simp only;omega,by simp only;omega⟩,by simp only;omega⟩
 ·have hy0:y=0:=aa
  refine aI.lU hT cK hm 30 hv (h0 0) rfl trivial R4 ah ah (cu ?_)
  rw[hy0]at hxy
  simp[bU]at hxy
  rw[hxy];simp[bU]
def JG:Spec:=cw (mW fun N n=>aT (.int .i64 (bU N:Nat)) [n<2^40,nl N=n])
theorem YU:bF P JG 187:=
 cY (uE fun _ _ K hz need=>acY hz need.1 need.2 K)
end Go.Am.B
