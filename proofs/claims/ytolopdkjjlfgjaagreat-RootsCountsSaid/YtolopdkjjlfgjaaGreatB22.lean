/- ref01: Trim, Of, small, Cmp, Bits. -/
import Derived.Test.YtolopdkjjlfgjaaGreatB21
set_option linter.unusedVariables false
namespace Go.Am.B
open Go Go.Am.N AV Proofs.Tryz IntKind
theorem NN:aZ 140 f140:=bf func140
theorem P4:aZ 138 f138:=bf func138
theorem Mm:aZ 186 f186:=bf func186
theorem XV:aZ 84 f84:=bf func84
theorem TA:aZ 187 f187:=bf func187
theorem Qb {n:Nat} {z:Nat->Nat}:aF T [] [] 30 [0,3] (before (aG f140) [1,1,0]) ⟨aQ 0 [.ak 1 n (aA z)],[],0⟩=
  some (af.leaf aq.normal ([ak 1 n (aA z),int .i64 (↑n:Int)],[])):=ah
theorem ado {n k:Nat} {z:Nat->Nat}:aF T [] [8,15] 30 [0,3] [part (aG f140) [1,1,0,0,0]] ⟨aC [0,3] [.ak 1 n (aA z),.int .i64 k],[],0⟩=
  some (af.fork (decide ((↑k:Int)>0)) (af.aj [decide ((↑k:Int)>0)=true,(0:Int)<=i64.wrap ((↑k:Int)-1)/\(i64.wrap ((↑k:Int)-1)).toNat<n] (af.fork (bif true then(↑(z (i64.wrap ((↑k:Int)-1)).toNat):Int)==0 else false) (af.leaf aq.normal ([ak 1 n (aA z),int .i64 (i64.wrap ((↑k:Int)-1))],[])) (af.leaf (aq.exit 0) ([ak 1 n (aA z),int .i64 (↑k:Int)],[])))) (af.aj [decide ((↑k:Int)>0)=false] (af.fork false (af.leaf aq.normal ([ak 1 n (aA z),int .i64 (i64.wrap ((↑k:Int)-1))],[])) (af.leaf (aq.exit 0) ([ak 1 n (aA z),int .i64 (↑k:Int)],[]))))):=ah
theorem YZ {n k:Nat} {z:Nat->Nat}:cG T [] [] 30 f140 (behind (aG f140) [1,1,0]) ⟨aC [0,3] [.ak 1 n (aA z),.int .i64 k],[],0⟩=
  some (af.aj [(0:Nat)*1<=2^24,(0:Int)<=0/\(0:Int)<=(↑k:Int)/\(↑k:Int)<=(↑k:Int)/\(↑k:Int)<=(↑n:Int),((0:Nat)+((↑k:Int).toNat-Int.toNat (0:Int)))*((4:Nat)+1)*2<=2^47] (af.leaf aq.ret [ak 1 ((0:Nat)+((↑k:Int).toNat-Int.toNat (0:Int))) fun(i:Nat)=>if i+0<0 then nth [] (int .u32 (0:Int)) (i+0)else aA z (i+0-0+Int.toNat (0:Int))])):=ah
def sy:Spec:=bR (lC fun N n=>aJ (.mag N) [n<2^40])
def eZ:bp:=[(140,sy)]
theorem Om {n:Nat}:bT T eZ [] 30 f138 (aG f138) ⟨aQ 0 [.int .u64 n],[],0⟩=
  some (af.aj [(0:Int)<=32,(2:Nat)*1<=2^24,ee 2 fun(i:Nat)=>nth [int .u32 (u32.wrap (↑n:Int)),int .u32 (u32.wrap ((↑n:Int).fdiv ((2:Int)^min (Int.toNat (32:Int)) u64.bits)))] (int .u32 (0:Int)) (i+0),(2:Nat)<2^40] (af.leaf aq.ret [mag (val 2 fun(i:Nat)=>numOf (nth [int .u32 (u32.wrap (↑n:Int)),int .u32 (u32.wrap ((↑n:Int).fdiv ((2:Int)^min (Int.toNat (32:Int)) u64.bits)))] (int .u32 (0:Int)) (i+0)))])):=ah
theorem acX {A:Nat}:bT T eZ [6,8,14] 30 f186 (aG f186) ⟨aQ 0 [.mag A],[],0⟩=
  some (af.fork ((↑(nl A):Int)==0) (af.leaf aq.ret [int .u64 (0:Int),AV.bool true]) (af.fork ((↑(nl A):Int)==1) (af.aj [(0:Int)<=0/\Int.toNat (0:Int)<nl A] (af.leaf aq.ret [int .u64 (u64.wrap (↑(aB A (Int.toNat (0:Int))):Int)),AV.bool true])) (af.fork ((↑(nl A):Int)==2) (af.aj [(0:Int)<=0/\Int.toNat (0:Int)<nl A,(0:Int)<=1/\Int.toNat (1:Int)<nl A,(0:Int)<=32] (af.leaf aq.ret [int .u64 (u64.wrap (↑(BitVec.ofInt u64.bits (u64.wrap (↑(aB A (Int.toNat (0:Int))):Int))|||BitVec.ofInt u64.bits (u64.wrap (u64.wrap (↑(aB A (Int.toNat (1:Int))):Int)*2^min (Int.toNat (32:Int)) u64.bits))).toNat:Int)),AV.bool true])) (af.leaf aq.ret [int .u64 (0:Int),AV.bool false])))):=ah
theorem aaf {A B:Nat}:aF T [] [10,15] 30 [0,1,5,4] (before (aG f84) [1,1,0,1]) ⟨aQ 0 [.mag A,.mag B],[],0⟩=
  some (af.fork ((↑(nl A):Int)!=(↑(nl B):Int)) (af.fork (decide ((↑(nl A):Int)<(↑(nl B):Int))) (af.leaf aq.ret ([mag A,mag B,tuple [],int .i64 (-1:Int)],[])) (af.leaf aq.ret ([mag A,mag B,tuple [],int .i64 (1:Int)],[]))) (af.leaf aq.normal ([mag A,mag B,int .i64 (i64.wrap ((↑(nl A):Int)-1)),int .i64 (0:Int)],[]))):=ah
theorem UU {A B k:Nat}:aF T [] [20,31,40] 30 [0,1,5,4] [part (aG f84) [1,1,0,1,0,0]] ⟨aC [0,1,5,4] [.mag A,.mag B,.int .i64 ((k:Int)-1),.int .i64 0],[],0⟩=
  some (af.fork (decide ((↑k:Int)-1>=(0:Int))) (af.aj [(0:Int)<=(↑k:Int)-1/\((↑k:Int)-1).toNat<nl A,(0:Int)<=(↑k:Int)-1/\((↑k:Int)-1).toNat<nl B] (af.fork (decide ((↑(aB A ((↑k:Int)-1).toNat):Int)<(↑(aB B ((↑k:Int)-1).toNat):Int))) (af.leaf aq.ret ([mag A,mag B,int .i64 ((↑k:Int)-1),int .i64 (-1:Int)],[])) (af.aj [(0:Int)<=(↑k:Int)-1/\((↑k:Int)-1).toNat<nl A,(0:Int)<=(↑k:Int)-1/\((↑k:Int)-1).toNat<nl B] (af.fork (decide ((↑(aB A ((↑k:Int)-1).toNat):Int)>(↑(aB B ((↑k:Int)-1).toNat):Int))) (af.leaf aq.ret ([mag A,mag B,int .i64 ((↑k:Int)-1),int .i64 (1:Int)],[])) (af.leaf aq.normal ([mag A,mag B,int .i64 (i64.wrap ((↑k:Int)-1-(1:Int))),int .i64 (0:Int)],[])))))) (af.leaf (aq.exit 0) ([mag A,mag B,int .i64 ((↑k:Int)-1),int .i64 (0:Int)],[]))):=ah
theorem Mi {A B k:Nat}:cG T [] [] 30 f84 (behind (aG f84) [1,1,0,1]) ⟨aC [0,1,5,4] [.mag A,.mag B,.int .i64 ((k:Int)-1),.int .i64 0],[],0⟩=
  some (af.leaf aq.ret [int .i64 (0:Int)]):=ah
theorem abQ {n:Nat} {z:Nat->Nat}:aF T [] [7] 30 [3,4,2] (before (aG f187) [1,1,1,0,1]) ⟨aQ 0 [.ak 1 n (aA z)],[],0⟩=
  some (af.fork ((↑n:Int)==0) (af.leaf aq.ret ([tuple [],tuple [],int .i64 (0:Int)],[])) (af.aj [(0:Int)<=i64.wrap ((↑n:Int)-1)/\(i64.wrap ((↑n:Int)-1)).toNat<n] (af.leaf aq.normal ([int .i64 (i64.wrap ((32:Int)*i64.wrap ((↑n:Int)-1))),int .u32 (↑(z (i64.wrap ((↑n:Int)-1)).toNat):Int),int .i64 (0:Int)],[])))):=ah
theorem RA {x y:Nat}:aF T [] [19] 30 [3,4,2] [part (aG f187) [1,1,1,0,1,0,0]] ⟨aC [3,4,2] [.int .i64 x,.int .u32 y,.int .i64 0],[],0⟩=
  some (af.fork ((↑y:Int)!=0) (af.aj [(0:Int)<=1] (af.leaf aq.normal ([int .i64 (i64.wrap ((↑x:Int)+1)),int .u32 ((↑y:Int).fdiv ((2:Int)^min (Int.toNat (1:Int)) u32.bits)),int .i64 (0:Int)],[]))) (af.leaf (aq.exit 0) ([int .i64 (↑x:Int),int .u32 (↑y:Int),int .i64 (0:Int)],[]))):=ah
theorem VE {x y:Nat}:cG T [] [] 30 f187 (behind (aG f187) [1,1,1,0,1]) ⟨aC [3,4,2] [.int .i64 x,.int .u32 y,.int .i64 0],[],0⟩=
  some (af.leaf aq.ret [int .i64 (↑x:Int)]):=ah
theorem Pm {n:Nat} {z:Nat->Nat} (hz:∀i,i<n->z i<2^32) (hn:n<2^40) (K:Nat):aO P 140 K [.ak 1 n (aA z)] [] (aJ (.mag (val n z)) []):=by
 refine gB hT NN rfl aX rfl (fun _ c h0=>?_) K []
 refine au.hole [1,1,0] ah (aE.bD hT bY hm 30 [0,3] Qb ah fun s' hv=>cz ?_)
 refine au.gV (i:=0) (y:=part (aG f140) [1,1,0,0,0]) ah [0,3] 0 (h0 _) (fun k:Nat=>[.ak 1 n (aA z),.int .i64 k]) (fun _=>[]) (fun _=>rfl) (fun _=>trivial)
  (fun k=>k<=n/\∀i,k<=i->i<n->z i=0) id n hv ⟨aP,fun i h1 h2=>aa⟩ ?_
 rintro j ⟨hj,hzj⟩
 refine au.bD hT bY hm 30 [0,3] ado ah ?_
 have fin:(j=0\/z (j-1)≠0)->∀s',bh [0,3] s'=some ([.ak 1 n (aA z),.int .i64 j],[])->aE P c f140.ntmps (behind (aG f140) [1,1,0]) s' (fA c (Fin T f140 (.mag (val n z)))):=by
  intro hj0 s' hv
  refine aE.jA hT bY hm 30 hv (h0 0) rfl trivial YZ ah ah ?_
  simp only[af.all,az,bw,Int.toNat_zero,Nat.zero_add,Nat.sub_zero,Nat.add_zero]
  have e:val n z=val j z:=mz hj hzj
  refine⟨⟨aa,aa,aa⟩,jM (by rw[e,yH (fun i hi=>hz i aa) hj0]) fun i hi=>?_⟩
  rw[if_neg aa,e,oF (fun j hj=>hz j aa) hi]
  rfl
 have hw:0<j->i64.wrap ((j:Int)-1)=((j-1:Nat):Int):=fun h=>by rw[wrap_i64 aa aa];omega
 refine⟨fun hb=>?_,fun hb=>?_⟩
 ·have h1:0<j:=by simpa using hb
  rw[hw h1]
  have hj1:j-1<n:=aa
  refine⟨⟨hb,aa,by rw[bw];exact hj1⟩,fun hc s' hv=>?_,fun hc s' hv=>?_⟩
  ·refine⟨j-1,hv,⟨aa,fun i h1 h2=>?_⟩,by simp;omega⟩
   by_cases hi:i=j-1
   ·subst hi;simpa using hc
   ·exact hzj i aa h2
  ·exact fo (fin (.inr (by simpa using hc)) s' hv)
 ·have h1:j=0:=by simpa using hb
  refine⟨hb,fun hc=>by simp at hc,fun hc s' hv=>fo (fin (.inl h1) s' hv)⟩
theorem v7:aY P sy 140:=
 cD (sL fun _ _ K hz need=>Pm hz need K)
theorem fc:bI P eZ:=aI v7 bY
theorem SQ {x:Nat} (hx:x<2^64) (K:Nat):aO P 138 K [.int .u64 x] [] (aJ (.mag x) []):=by
 refine cj hT fc hm P4 rfl aX rfl 30 Om (fun _=>?_) K []
 simp only[af.all,az,kH]
 refine⟨⟨aa,aa,fun i hi=>?_,aa⟩,dZ (congrArg AV.mag ?_)⟩
 ·match i,hi with
  |0,_=>exact⟨x%2^32,aa,by simp[nth,jo]⟩
  |1,_=>exact⟨x/4294967296,aa,by simp[nth,kq];omega⟩
 ·rw[val_two]
  simp[nth,numOf,kq]
  omega
def u9:Spec:=bR fun l=>match l with
 |[.int .u64 x]=>some (aJ (.mag x.toNat) [0<=x/\x<2^64])
 |_=>none
theorem yK:aY P u9 138:=by
 refine cD fun K args r hk hs _=>?_
 split at hs
 ·simp only[ay]at hs
  subst hs
  intro need
  obtain⟨h1,h2⟩:=need
  rename_i x
  obtain⟨y,rfl⟩:=Int.eq_ofNat_of_zero_le h1
  exact SQ (x:=y) aa K trivial
 ·simp at hs
def gl (A:Nat):Bool:=decide (A<18446744073709551616)
theorem NX {A:Nat} (K:Nat):aO P 186 K [.mag A] [] (aJ (.tuple [.int .u64 (if gl A then A else 0:Nat),.bool (gl A)]) []):=by
 refine cj hT fc hm Mm rfl aX rfl 30 acX (fun _=>?_) K []
 simp only[af.all,az,beq_iff_eq,beq_eq_false_iff_ne,ne_eq,Int.toNat_zero,show Int.toNat 1=1 from rfl]
 have hv:=ga (N:=A)
 have l0:=dP (N:=A) (i:=0)
 have l1:=dP (N:=A) (i:=1)
 have yes:∀{x:Int},A<2^64->x=(A:Nat)->fQ [.int .u64 x,.bool true] (.tuple [.int .u64 (if gl A then A else 0:Nat),.bool (gl A)]):=fun h hx=>by
  have:gl A=true:=by unfold gl;simpa using h
  rw[this,if_pos rfl]
  exact⟨bN hx,.refl _,trivial⟩
 refine⟨fun hb=>yes ?_ ?_,fun hb=>⟨fun h1=>⟨aa,yes ?_ ?_⟩,fun h1=>⟨fun h2=>⟨⟨aa,aa,aa⟩,yes ?_ ?_⟩,fun h2=>?_⟩⟩⟩
 ·have:A=0:=jO.1 aa
  omega
 ·have:A=0:=jO.1 aa
  rw[this];rfl
 ·exact oE aa
 ·rw[show nl A=1 by omega,val,val]at hv
  rw[bZ aa aa]
  simp at hv;omega
 ·exact oE aa
 ·rw[show nl A=2 by omega,val,val,val]at hv
  have e1:u64.wrap (aB A 0:Int)=((aB A 0:Nat):Int):=bZ aa aa
  have e2:u64.wrap (aB A 1:Int)=((aB A 1:Nat):Int):=bZ aa aa
  have e3:u64.wrap ((aB A 1:Int)*2^min (Int.toNat 32) u64.bits)=((aB A 1*4294967296:Nat):Int):=by
   rw[uc,bZ aa aa];omega
  rw[e1,e2,e3,rP aa aa]
  congr 1
  rw[Nat.or_comm,show 4294967296=2^32 from rfl,qx l0]
  simp at hv;omega
 ·have:gl A=false:=by
   unfold gl
   simp only[bB]
   intro h
   have:nl A<=2:=dI.2 h
   omega
  rw[this]
  exact⟨.refl _,.refl _,trivial⟩
def DB:Spec:=bR fun l=>match l with
 |[a]=>match iR a with
  |some A=>some (aJ (.tuple [.int .u64 (if gl A then A else 0:Nat),.bool (gl A)]) [])
  |none=>none
 |_=>none
theorem E6:aY P DB 186:=by
 refine cD fun K args r hk hs _=>?_
 split at hs
 ·split at hs
  ·rename_i A hA
   simp only[ay]at hs
   subst hs
   exact gz (NX K) hk ⟨kB hA,trivial⟩ []
  ·simp at hs
 ·simp at hs
theorem XO {A B:Nat} (hA:nl A<2^40) (hB:nl B<2^40) (K:Nat):aO P 84 K [.mag A,.mag B] [] (aJ (.int .i64 (cW A B)) []):=by
 refine gB hT XV rfl aX rfl (fun _ c h0=>?_) K []
 refine au.hole [1,1,0,1] ah (aE.bD hT bY hm 30 [0,1,5,4] aaf ah ?_)
 simp only[af.all,az,bz,bB,bne_iff_ne,ne_eq,Int.natCast_inj,bne_eq_false_iff_eq]
 refine⟨fun hb=>⟨fun hb2 s' hv=>fB (.inl ?_),fun hb2 s' hv=>fB (.inl ?_)⟩,fun hb s' hv=>cz ?_⟩
 ·have h1:A<B:=xV aa
  exact gC (us:=[.int .i64 (-1)]) (.inr rfl) hv ah (bN (by simp[cW,h1]))
 ·have h1:B<A:=xV aa
  exact gC (us:=[.int .i64 1]) (.inr rfl) hv ah (bN (by simp[cW,h1];omega))
 refine au.gV (i:=0) (y:=part (aG f84) [1,1,0,1,0,0]) ah [0,1,5,4] 0 (h0 _) (fun k:Nat=>[.mag A,.mag B,.int .i64 ((k:Int)-1),.int .i64 0]) (fun _=>[]) (fun _=>rfl) (fun _=>trivial)
  (fun k=>k<=nl A/\∀j,k<=j->j<nl A->aB A j=aB B j) id (nl A) (dS hv (by rw[wrap_i64 aa aa]) rfl) ⟨by simp,fun j h1 h2=>aa⟩ ?_
 rintro k ⟨hk,hlim⟩
 refine au.bD hT bY hm 30 [0,1,5,4] UU ah ?_
 simp only[af.all,az,bz,bB]
 refine⟨fun hb2=>?_,fun hb2 s' hv=>fo ?_⟩
 ·obtain⟨j,rfl⟩:∃j,k=j+1:=⟨k-1,aa⟩
  have e:(((j+1:Nat):Int)-1).toNat=j:=aa
  rw[e]
  refine⟨⟨aa,aa⟩,fun hlt s' hv=>J6 (fB (.inl ?_)),fun hlt=>⟨⟨aa,aa⟩,fun hgt s' hv=>J6 (fB (.inl ?_)),fun hgt s' hv=>?_⟩⟩
  ·have h1:A<B:=zO hb (k:=j) aa (fun i h1 h2=>hlim i aa h2) aa
   exact gC (us:=[.int .i64 (-1)]) (.inr rfl) hv ah (bN (by simp[cW,h1]))
  ·have h1:B<A:=zO hb.symm (k:=j) aa (fun i h1 h2=>(hlim i aa aa).symm) aa
   exact gC (us:=[.int .i64 1]) (.inr rfl) hv ah (bN (by simp[cW,h1];omega))
  ·refine⟨j,dS hv (by rw[wrap_i64 aa aa];congr 4;omega) rfl,⟨aa,fun i h1 h2=>?_⟩,by simp⟩
   by_cases hi:i=j
   ·subst hi;omega
   ·exact hlim i aa h2
 ·have hk0:k=0:=aa
  have hAB:A=B:=Df hb fun i hi=>hlim i aa hi
  exact cz (aE.jA hT bY hm 30 hv (h0 0) rfl trivial Mi ah ah (bN (by simp[cW,hAB])))
def lU (g:Nat->Nat->AV) (l:Nat->Nat->List Prop):Spec:=bR fun a=>match a with
 |[x,y]=>match iR x,iR y with
  |some A,some B=>some (aJ (g A B) (l A B))
  |_,_=>none
 |_=>none
theorem oQ {f:FuncId} {g:Nat->Nat->AV} {l:Nat->Nat->List Prop} (h:∀{A B:Nat},az (l A B)->∀K,aO P f K [.mag A,.mag B] [] (aJ (g A B) [])):aY P (lU g l) f:=by
 refine cD fun K args r hk hs _=>?_
 split at hs
 ·split at hs
  ·rename_i A B hA hB
   simp only[ay]at hs
   subst hs
   exact fun need=>gz (h need K) hk ⟨kB hA,kB hB,trivial⟩ [] trivial
  ·simp at hs
 ·simp at hs
abbrev D9 (A B:Nat):List Prop:=[nl A<2^40,nl B<2^40]
def tC:Spec:=lU (fun A B=>.int .i64 (cW A B)) D9
theorem yI:aY P tC 84:=oQ fun h=>XO h.1 h.2
theorem ab9 {n:Nat} {z:Nat->Nat} (hz:∀i,i<n->z i<2^32) (hn:n<2^40) (hnl:nl (val n z)=n) (K:Nat):aO P 187 K [.ak 1 n (aA z)] [] (aJ (.int .i64 (bJ (val n z):Nat)) []):=by
 refine gB hT TA rfl aX rfl (fun _ c h0=>?_) K []
 refine au.hole [1,1,1,0,1] ah (aE.bD hT bY hm 30 [3,4,2] abQ ah ?_)
 simp only[af.all,az,beq_iff_eq,beq_eq_false_iff_ne,ne_eq]
 refine⟨fun hb s' hv=>fB (.inl ?_),fun hb=>?_⟩
 ·have h1:n=0:=aa
  have h2:val n z=0:=by rw[h1];rfl
  exact gC (us:=[.int .i64 0]) (.inr rfl) hv ah (bN (by rw[h2];rfl))
 have w1:i64.wrap ((n:Int)-1)=((n-1:Nat):Int):=eI aa aa
 have w2:i64.wrap (32*((n-1:Nat):Int))=((32*(n-1):Nat):Int):=eI aa aa
 rw[w1,w2]
 simp only[bw]
 refine⟨aa,fun s' hv=>cz ?_⟩
 have hzt:=hz (n-1) aa
 have htot:bJ (val n z)=32*(n-1)+bJ (z (n-1)):=by
  have h0:val n z≠0:=gr.1 aa
  rw[KB h0,hnl,oF hz aa]
 refine au.gV (i:=0) (y:=part (aG f187) [1,1,1,0,1,0,0]) ah [3,4,2] 0 (h0 _) (fun p:Nat×Nat=>[.int .i64 (p.1:Nat),.int .u32 (p.2:Nat),.int .i64 0]) (fun _=>[]) (fun _=>rfl) (fun _=>trivial)
  (fun p=>p.1+bJ p.2=bJ (val n z)/\p.2<2^32) (fun p=>p.2) (32*(n-1),z (n-1)) hv ⟨htot.symm,hzt⟩ ?_
 rintro⟨x,y⟩ ⟨hxy,hy⟩
 simp only at hxy hy
 have hb32:bJ (z (n-1))<=32:=jh.2 hzt
 refine au.bD hT bY hm 30 [3,4,2] RA ah ?_
 rw[uT (by decide) (by decide)]
 simp only[af.all,az,bne_iff_ne,ne_eq,bne_eq_false_iff_eq,show Int.toNat 1=1 from rfl]
 refine⟨fun hc=>⟨aa,fun s' hv=>?_⟩,fun hc s' hv=>fo (cz ?_)⟩
 ·have hy0:0<y:=aa
  have e:bJ y=1+bJ (y/2):=by
   by_cases h1:y=1
   ·rw[h1];decide
   ·exact tB (k:=1) aa
  have hd:y/2<y:=aa
  exact⟨(x+1,y/2),dS hv (by rw[eI (a:=(x:Int)+1) (n:=x+1) aa aa]) rfl,⟨by simp only;omega,by simp only;omega⟩,by simp only;omega⟩
 ·have hy0:y=0:=aa
  refine aE.jA hT bY hm 30 hv (h0 0) rfl trivial VE ah ah (bN ?_)
  rw[hy0]at hxy
  simp[bJ]at hxy
  rw[hxy];simp[bJ]
def JR:Spec:=bR (lC fun N n=>aJ (.int .i64 (bJ N:Nat)) [n<2^40,nl N=n])
theorem WX:aY P JR 187:=
 cD (sL fun _ _ K hz need=>ab9 hz need.1 need.2 K)
end Go.Am.B
