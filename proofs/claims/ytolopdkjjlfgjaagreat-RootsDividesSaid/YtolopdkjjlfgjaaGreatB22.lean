/- ref01: Trim, Of, small, Cmp, Bits. -/
import Derived.Test.YtolopdkjjlfgjaaGreatB21
set_option linter.unusedVariables false
namespace Go.Am.B
open Go Go.Am.N AV Proofs.Tryz IntKind
theorem PX:aX 140 f140:=aZ func140
theorem Nv:aX 138 f138:=aZ func138
theorem aeu:aX 186 f186:=aZ func186
theorem WQ:aX 84 f84:=aZ func84
theorem abc:aX 187 f187:=aZ func187
theorem QX {n:Nat} {z:Nat->Nat}:aG T [] [] 30 [0,3] (before (aH f140) [1,1,0]) ⟨aT 0 [.ak 1 n (aB z)],[],0⟩=
  some (af.leaf aq.normal ([ak 1 n (aB z),int .i64 (↑n:Int)],[])):=ah
theorem ab4 {n k:Nat} {z:Nat->Nat}:aG T [] [8,15] 30 [0,3] [part (aH f140) [1,1,0,0,0]] ⟨aC [0,3] [.ak 1 n (aB z),.int .i64 k],[],0⟩=
  some (af.fork (decide ((↑k:Int)>0)) (af.aj [decide ((↑k:Int)>0)=true,(0:Int)<=i64.wrap ((↑k:Int)-1)/\(i64.wrap ((↑k:Int)-1)).toNat<n] (af.fork (bif true then(↑(z (i64.wrap ((↑k:Int)-1)).toNat):Int)==0 else false) (af.leaf aq.normal ([ak 1 n (aB z),int .i64 (i64.wrap ((↑k:Int)-1))],[])) (af.leaf (aq.exit 0) ([ak 1 n (aB z),int .i64 (↑k:Int)],[])))) (af.aj [decide ((↑k:Int)>0)=false] (af.fork false (af.leaf aq.normal ([ak 1 n (aB z),int .i64 (i64.wrap ((↑k:Int)-1))],[])) (af.leaf (aq.exit 0) ([ak 1 n (aB z),int .i64 (↑k:Int)],[]))))):=ah
theorem adr {n k:Nat} {z:Nat->Nat}:cA T [] [] 30 f140 (behind (aH f140) [1,1,0]) ⟨aC [0,3] [.ak 1 n (aB z),.int .i64 k],[],0⟩=
  some (af.aj [(0:Nat)*1<=2^24,(0:Int)<=0/\(0:Int)<=(↑k:Int)/\(↑k:Int)<=(↑k:Int)/\(↑k:Int)<=(↑n:Int),((0:Nat)+((↑k:Int).toNat-Int.toNat (0:Int)))*((4:Nat)+1)*2<=2^47] (af.leaf aq.ret [ak 1 ((0:Nat)+((↑k:Int).toNat-Int.toNat (0:Int))) fun(i:Nat)=>if i+0<0 then nth [] (int .u32 (0:Int)) (i+0)else aB z (i+0-0+Int.toNat (0:Int))])):=ah
def sA:Spec:=bU (lN fun N n=>aK (.mag N) [n<2^40])
def fh:bh:=[(140,sA)]
theorem YR {n:Nat}:bR T fh [] 30 f138 (aH f138) ⟨aT 0 [.int .u64 n],[],0⟩=
  some (af.aj [(0:Int)<=32,(2:Nat)*1<=2^24,ej 2 fun(i:Nat)=>nth [int .u32 (u32.wrap (↑n:Int)),int .u32 (u32.wrap ((↑n:Int).fdiv ((2:Int)^min (Int.toNat (32:Int)) u64.bits)))] (int .u32 (0:Int)) (i+0),(2:Nat)<2^40] (af.leaf aq.ret [mag (val 2 fun(i:Nat)=>numOf (nth [int .u32 (u32.wrap (↑n:Int)),int .u32 (u32.wrap ((↑n:Int).fdiv ((2:Int)^min (Int.toNat (32:Int)) u64.bits)))] (int .u32 (0:Int)) (i+0)))])):=ah
theorem Pz {A:Nat}:bR T fh [6,8,14] 30 f186 (aH f186) ⟨aT 0 [.mag A],[],0⟩=
  some (af.fork ((↑(nl A):Int)==0) (af.leaf aq.ret [int .u64 (0:Int),AV.bool true]) (af.fork ((↑(nl A):Int)==1) (af.aj [(0:Int)<=0/\Int.toNat (0:Int)<nl A] (af.leaf aq.ret [int .u64 (u64.wrap (↑(aD A (Int.toNat (0:Int))):Int)),AV.bool true])) (af.fork ((↑(nl A):Int)==2) (af.aj [(0:Int)<=0/\Int.toNat (0:Int)<nl A,(0:Int)<=1/\Int.toNat (1:Int)<nl A,(0:Int)<=32] (af.leaf aq.ret [int .u64 (u64.wrap (↑(BitVec.ofInt u64.bits (u64.wrap (↑(aD A (Int.toNat (0:Int))):Int))|||BitVec.ofInt u64.bits (u64.wrap (u64.wrap (↑(aD A (Int.toNat (1:Int))):Int)*2^min (Int.toNat (32:Int)) u64.bits))).toNat:Int)),AV.bool true])) (af.leaf aq.ret [int .u64 (0:Int),AV.bool false])))):=ah
theorem Xa {A B:Nat}:aG T [] [10,15] 30 [0,1,5,4] (before (aH f84) [1,1,0,1]) ⟨aT 0 [.mag A,.mag B],[],0⟩=
  some (af.fork ((↑(nl A):Int)!=(↑(nl B):Int)) (af.fork (decide ((↑(nl A):Int)<(↑(nl B):Int))) (af.leaf aq.ret ([mag A,mag B,tuple [],int .i64 (-1:Int)],[])) (af.leaf aq.ret ([mag A,mag B,tuple [],int .i64 (1:Int)],[]))) (af.leaf aq.normal ([mag A,mag B,int .i64 (i64.wrap ((↑(nl A):Int)-1)),int .i64 (0:Int)],[]))):=ah
theorem UT {A B k:Nat}:aG T [] [20,31,40] 30 [0,1,5,4] [part (aH f84) [1,1,0,1,0,0]] ⟨aC [0,1,5,4] [.mag A,.mag B,.int .i64 ((k:Int)-1),.int .i64 0],[],0⟩=
  some (af.fork (decide ((↑k:Int)-1>=(0:Int))) (af.aj [(0:Int)<=(↑k:Int)-1/\((↑k:Int)-1).toNat<nl A,(0:Int)<=(↑k:Int)-1/\((↑k:Int)-1).toNat<nl B] (af.fork (decide ((↑(aD A ((↑k:Int)-1).toNat):Int)<(↑(aD B ((↑k:Int)-1).toNat):Int))) (af.leaf aq.ret ([mag A,mag B,int .i64 ((↑k:Int)-1),int .i64 (-1:Int)],[])) (af.aj [(0:Int)<=(↑k:Int)-1/\((↑k:Int)-1).toNat<nl A,(0:Int)<=(↑k:Int)-1/\((↑k:Int)-1).toNat<nl B] (af.fork (decide ((↑(aD A ((↑k:Int)-1).toNat):Int)>(↑(aD B ((↑k:Int)-1).toNat):Int))) (af.leaf aq.ret ([mag A,mag B,int .i64 ((↑k:Int)-1),int .i64 (1:Int)],[])) (af.leaf aq.normal ([mag A,mag B,int .i64 (i64.wrap ((↑k:Int)-1-(1:Int))),int .i64 (0:Int)],[])))))) (af.leaf (aq.exit 0) ([mag A,mag B,int .i64 ((↑k:Int)-1),int .i64 (0:Int)],[]))):=ah
theorem M8 {A B k:Nat}:cA T [] [] 30 f84 (behind (aH f84) [1,1,0,1]) ⟨aC [0,1,5,4] [.mag A,.mag B,.int .i64 ((k:Int)-1),.int .i64 0],[],0⟩=
  some (af.leaf aq.ret [int .i64 (0:Int)]):=ah
theorem Rh {n:Nat} {z:Nat->Nat}:aG T [] [7] 30 [3,4,2] (before (aH f187) [1,1,1,0,1]) ⟨aT 0 [.ak 1 n (aB z)],[],0⟩=
  some (af.fork ((↑n:Int)==0) (af.leaf aq.ret ([tuple [],tuple [],int .i64 (0:Int)],[])) (af.aj [(0:Int)<=i64.wrap ((↑n:Int)-1)/\(i64.wrap ((↑n:Int)-1)).toNat<n] (af.leaf aq.normal ([int .i64 (i64.wrap ((32:Int)*i64.wrap ((↑n:Int)-1))),int .u32 (↑(z (i64.wrap ((↑n:Int)-1)).toNat):Int),int .i64 (0:Int)],[])))):=ah
theorem QD {x y:Nat}:aG T [] [19] 30 [3,4,2] [part (aH f187) [1,1,1,0,1,0,0]] ⟨aC [3,4,2] [.int .i64 x,.int .u32 y,.int .i64 0],[],0⟩=
  some (af.fork ((↑y:Int)!=0) (af.aj [(0:Int)<=1] (af.leaf aq.normal ([int .i64 (i64.wrap ((↑x:Int)+1)),int .u32 ((↑y:Int).fdiv ((2:Int)^min (Int.toNat (1:Int)) u32.bits)),int .i64 (0:Int)],[]))) (af.leaf (aq.exit 0) ([int .i64 (↑x:Int),int .u32 (↑y:Int),int .i64 (0:Int)],[]))):=ah
theorem Wd {x y:Nat}:cA T [] [] 30 f187 (behind (aH f187) [1,1,1,0,1]) ⟨aC [3,4,2] [.int .i64 x,.int .u32 y,.int .i64 0],[],0⟩=
  some (af.leaf aq.ret [int .i64 (↑x:Int)]):=ah
theorem NO {n:Nat} {z:Nat->Nat} (hz:∀i,i<n->z i<2^32) (hn:n<2^40) (K:Nat):aP P 140 K [.ak 1 n (aB z)] [] (aK (.mag (val n z)) []):=by
 refine gm hT PX rfl aW rfl (fun _ c h0=>?_) K []
 refine au.hole [1,1,0] ah (aF.bD hT b9 hm 30 [0,3] QX ah fun s' hv=>cE ?_)
 refine au.g8 (i:=0) (y:=part (aH f140) [1,1,0,0,0]) ah [0,3] 0 (h0 _) (fun k:Nat=>[.ak 1 n (aB z),.int .i64 k]) (fun _=>[]) (fun _=>rfl) (fun _=>trivial)
  (fun k=>k<=n/\∀i,k<=i->i<n->z i=0) id n hv ⟨aQ,fun i h1 h2=>aa⟩ ?_
 rintro j ⟨hj,hzj⟩
 refine au.bD hT b9 hm 30 [0,3] ab4 ah ?_
 have fin:(j=0\/z (j-1)≠0)->∀s',bk [0,3] s'=some ([.ak 1 n (aB z),.int .i64 j],[])->aF P c f140.ntmps (behind (aH f140) [1,1,0]) s' (fE c (Fin T f140 (.mag (val n z)))):=by
  intro hj0 s' hv
  refine aF.jM hT b9 hm 30 hv (h0 0) rfl trivial adr ah ah ?_
  simp only[af.all,aA,bu,Int.toNat_zero,Nat.zero_add,Nat.sub_zero,Nat.add_zero]
  have e:val n z=val j z:=lX hj hzj
  refine⟨⟨aa,aa,aa⟩,jY (by rw[e,yA (fun i hi=>hz i aa) hj0]) fun i hi=>?_⟩
  rw[if_neg aa,e,pQ (fun j hj=>hz j aa) hi]
  rfl
 have hw:0<j->i64.wrap ((j:Int)-1)=((j-1:Nat):Int):=fun h=>by rw[wrap_i64 aa aa];omega
 refine⟨fun hb=>?_,fun hb=>?_⟩
 ·have h1:0<j:=by simpa using hb
  rw[hw h1]
  have hj1:j-1<n:=aa
  refine⟨⟨hb,aa,by rw[bu];exact hj1⟩,fun hc s' hv=>?_,fun hc s' hv=>?_⟩
  ·refine⟨j-1,hv,⟨aa,fun i h1 h2=>?_⟩,by simp;omega⟩
   by_cases hi:i=j-1
   ·subst hi;simpa using hc
   ·exact hzj i aa h2
  ·exact fz (fin (.inr (by simpa using hc)) s' hv)
 ·have h1:j=0:=by simpa using hb
  refine⟨hb,fun hc=>by simp at hc,fun hc s' hv=>fz (fin (.inl h1) s' hv)⟩
theorem uY:bf P sA 140:=
 cJ (sr fun _ _ K hz need=>NO hz need K)
theorem fm:bI P fh:=aL uY b9
theorem acY {x:Nat} (hx:x<2^64) (K:Nat):aP P 138 K [.int .u64 x] [] (aK (.mag x) []):=by
 refine bZ hT fm hm Nv rfl aW rfl 30 YR (fun _=>?_) K []
 simp only[af.all,aA,kU]
 refine⟨⟨aa,aa,fun i hi=>?_,aa⟩,ef (congrArg AV.mag ?_)⟩
 ·match i,hi with
  |0,_=>exact⟨x%2^32,aa,by simp[nth,jw]⟩
  |1,_=>exact⟨x/4294967296,aa,by simp[nth,kX];omega⟩
 ·rw[val_two]
  simp[nth,numOf,kX]
  omega
def vG:Spec:=bU fun l=>match l with
 |[.int .u64 x]=>some (aK (.mag x.toNat) [0<=x/\x<2^64])
 |_=>none
theorem xS:bf P vG 138:=by
 refine cJ fun K args r hk hs _=>?_
 split at hs
 ·simp only[ay]at hs
  subst hs
  intro need
  obtain⟨h1,h2⟩:=need
  rename_i x
  obtain⟨y,rfl⟩:=Int.eq_ofNat_of_zero_le h1
  exact acY (x:=y) aa K trivial
 ·simp at hs
def gq (A:Nat):Bool:=decide (A<18446744073709551616)
theorem aao {A:Nat} (K:Nat):aP P 186 K [.mag A] [] (aK (.tuple [.int .u64 (if gq A then A else 0:Nat),.bool (gq A)]) []):=by
 refine bZ hT fm hm aeu rfl aW rfl 30 Pz (fun _=>?_) K []
 simp only[af.all,aA,beq_iff_eq,beq_eq_false_iff_ne,ne_eq,Int.toNat_zero,show Int.toNat 1=1 from rfl]
 have hv:=gn (N:=A)
 have l0:=dQ (N:=A) (i:=0)
 have l1:=dQ (N:=A) (i:=1)
 have yes:∀{x:Int},A<2^64->x=(A:Nat)->fX [.int .u64 x,.bool true] (.tuple [.int .u64 (if gq A then A else 0:Nat),.bool (gq A)]):=fun h hx=>by
  have:gq A=true:=by unfold gq;simpa using h
  rw[this,if_pos rfl]
  exact⟨bN hx,.refl _,trivial⟩
 refine⟨fun hb=>yes ?_ ?_,fun hb=>⟨fun h1=>⟨aa,yes ?_ ?_⟩,fun h1=>⟨fun h2=>⟨⟨aa,aa,aa⟩,yes ?_ ?_⟩,fun h2=>?_⟩⟩⟩
 ·have:A=0:=jE.1 aa
  omega
 ·have:A=0:=jE.1 aa
  rw[this];rfl
 ·exact o9 aa
 ·rw[show nl A=1 by omega,val,val]at hv
  rw[ck aa aa]
  simp at hv;omega
 ·exact o9 aa
 ·rw[show nl A=2 by omega,val,val,val]at hv
  have e1:u64.wrap (aD A 0:Int)=((aD A 0:Nat):Int):=ck aa aa
  have e2:u64.wrap (aD A 1:Int)=((aD A 1:Nat):Int):=ck aa aa
  have e3:u64.wrap ((aD A 1:Int)*2^min (Int.toNat 32) u64.bits)=((aD A 1*4294967296:Nat):Int):=by
   rw[xb,ck aa aa];omega
  rw[e1,e2,e3,sZ aa aa]
  congr 1
  rw[Nat.or_comm,show 4294967296=2^32 from rfl,qY l0]
  simp at hv;omega
 ·have:gq A=false:=by
   unfold gq
   simp only[bB]
   intro h
   have:nl A<=2:=dJ.2 h
   omega
  rw[this]
  exact⟨.refl _,.refl _,trivial⟩
def BT:Spec:=bU fun l=>match l with
 |[a]=>match iY a with
  |some A=>some (aK (.tuple [.int .u64 (if gq A then A else 0:Nat),.bool (gq A)]) [])
  |none=>none
 |_=>none
theorem LY:bf P BT 186:=by
 refine cJ fun K args r hk hs _=>?_
 split at hs
 ·split at hs
  ·rename_i A hA
   simp only[ay]at hs
   subst hs
   exact gD (aao K) hk ⟨kG hA,trivial⟩ []
  ·simp at hs
 ·simp at hs
theorem WY {A B:Nat} (hA:nl A<2^40) (hB:nl B<2^40) (K:Nat):aP P 84 K [.mag A,.mag B] [] (aK (.int .i64 (de A B)) []):=by
 refine gm hT WQ rfl aW rfl (fun _ c h0=>?_) K []
 refine au.hole [1,1,0,1] ah (aF.bD hT b9 hm 30 [0,1,5,4] Xa ah ?_)
 simp only[af.all,aA,bw,bB,bne_iff_ne,ne_eq,Int.natCast_inj,bne_eq_false_iff_eq]
 refine⟨fun hb=>⟨fun hb2 s' hv=>fC (.inl ?_),fun hb2 s' hv=>fC (.inl ?_)⟩,fun hb s' hv=>cE ?_⟩
 ·have h1:A<B:=AY aa
  exact gF (us:=[.int .i64 (-1)]) (.inr rfl) hv ah (bN (by simp[de,h1]))
 ·have h1:B<A:=AY aa
  exact gF (us:=[.int .i64 1]) (.inr rfl) hv ah (bN (by simp[de,h1];omega))
 refine au.g8 (i:=0) (y:=part (aH f84) [1,1,0,1,0,0]) ah [0,1,5,4] 0 (h0 _) (fun k:Nat=>[.mag A,.mag B,.int .i64 ((k:Int)-1),.int .i64 0]) (fun _=>[]) (fun _=>rfl) (fun _=>trivial)
  (fun k=>k<=nl A/\∀j,k<=j->j<nl A->aD A j=aD B j) id (nl A) (dY hv (by rw[wrap_i64 aa aa]) rfl) ⟨by simp,fun j h1 h2=>aa⟩ ?_
 rintro k ⟨hk,hlim⟩
 refine au.bD hT b9 hm 30 [0,1,5,4] UT ah ?_
 simp only[af.all,aA,bw,bB]
 refine⟨fun hb2=>?_,fun hb2 s' hv=>fz ?_⟩
 ·obtain⟨j,rfl⟩:∃j,k=j+1:=⟨k-1,aa⟩
  have e:(((j+1:Nat):Int)-1).toNat=j:=aa
  rw[e]
  refine⟨⟨aa,aa⟩,fun hlt s' hv=>H6 (fC (.inl ?_)),fun hlt=>⟨⟨aa,aa⟩,fun hgt s' hv=>H6 (fC (.inl ?_)),fun hgt s' hv=>?_⟩⟩
  ·have h1:A<B:=yF hb (k:=j) aa (fun i h1 h2=>hlim i aa h2) aa
   exact gF (us:=[.int .i64 (-1)]) (.inr rfl) hv ah (bN (by simp[de,h1]))
  ·have h1:B<A:=yF hb.symm (k:=j) aa (fun i h1 h2=>(hlim i aa aa).symm) aa
   exact gF (us:=[.int .i64 1]) (.inr rfl) hv ah (bN (by simp[de,h1];omega))
  ·refine⟨j,dY hv (by rw[wrap_i64 aa aa];congr 4;omega) rfl,⟨aa,fun i h1 h2=>?_⟩,by simp⟩
   by_cases hi:i=j
   ·subst hi;omega
   ·exact hlim i aa h2
 ·have hk0:k=0:=aa
  have hAB:A=B:=Di hb fun i hi=>hlim i aa hi
  exact cE (aF.jM hT b9 hm 30 hv (h0 0) rfl trivial M8 ah ah (bN (by simp[de,hAB])))
def l7 (g:Nat->Nat->AV) (l:Nat->Nat->List Prop):Spec:=bU fun a=>match a with
 |[x,y]=>match iY x,iY y with
  |some A,some B=>some (aK (g A B) (l A B))
  |_,_=>none
 |_=>none
theorem ou {f:FuncId} {g:Nat->Nat->AV} {l:Nat->Nat->List Prop} (h:∀{A B:Nat},aA (l A B)->∀K,aP P f K [.mag A,.mag B] [] (aK (g A B) [])):bf P (l7 g l) f:=by
 refine cJ fun K args r hk hs _=>?_
 split at hs
 ·split at hs
  ·rename_i A B hA hB
   simp only[ay]at hs
   subst hs
   exact fun need=>gD (h need K) hk ⟨kG hA,kG hB,trivial⟩ [] trivial
  ·simp at hs
 ·simp at hs
abbrev DT (A B:Nat):List Prop:=[nl A<2^40,nl B<2^40]
def vF:Spec:=l7 (fun A B=>.int .i64 (de A B)) DT
theorem z8:bf P vF 84:=ou fun h=>WY h.1 h.2
theorem abG {n:Nat} {z:Nat->Nat} (hz:∀i,i<n->z i<2^32) (hn:n<2^40) (hnl:nl (val n z)=n) (K:Nat):aP P 187 K [.ak 1 n (aB z)] [] (aK (.int .i64 (bK (val n z):Nat)) []):=by
 refine gm hT abc rfl aW rfl (fun _ c h0=>?_) K []
 refine au.hole [1,1,1,0,1] ah (aF.bD hT b9 hm 30 [3,4,2] Rh ah ?_)
 simp only[af.all,aA,beq_iff_eq,beq_eq_false_iff_ne,ne_eq]
 refine⟨fun hb s' hv=>fC (.inl ?_),fun hb=>?_⟩
 ·have h1:n=0:=aa
  have h2:val n z=0:=by rw[h1];rfl
  exact gF (us:=[.int .i64 0]) (.inr rfl) hv ah (bN (by rw[h2];rfl))
 have w1:i64.wrap ((n:Int)-1)=((n-1:Nat):Int):=eO aa aa
 have w2:i64.wrap (32*((n-1:Nat):Int))=((32*(n-1):Nat):Int):=eO aa aa
 rw[w1,w2]
 simp only[bu]
 refine⟨aa,fun s' hv=>cE ?_⟩
 have hzt:=hz (n-1) aa
 have htot:bK (val n z)=32*(n-1)+bK (z (n-1)):=by
  have h0:val n z≠0:=gC.1 aa
  rw[L5 h0,hnl,pQ hz aa]
 refine au.g8 (i:=0) (y:=part (aH f187) [1,1,1,0,1,0,0]) ah [3,4,2] 0 (h0 _) (fun p:Nat×Nat=>[.int .i64 (p.1:Nat),.int .u32 (p.2:Nat),.int .i64 0]) (fun _=>[]) (fun _=>rfl) (fun _=>trivial)
  (fun p=>p.1+bK p.2=bK (val n z)/\p.2<2^32) (fun p=>p.2) (32*(n-1),z (n-1)) hv ⟨htot.symm,hzt⟩ ?_
 rintro⟨x,y⟩ ⟨hxy,hy⟩
 simp only at hxy hy
 have hb32:bK (z (n-1))<=32:=ji.2 hzt
 refine au.bD hT b9 hm 30 [3,4,2] QD ah ?_
 rw[wh (by decide) (by decide)]
 simp only[af.all,aA,bne_iff_ne,ne_eq,bne_eq_false_iff_eq,show Int.toNat 1=1 from rfl]
 refine⟨fun hc=>⟨aa,fun s' hv=>?_⟩,fun hc s' hv=>fz (cE ?_)⟩
 ·have hy0:0<y:=aa
  have e:bK y=1+bK (y/2):=by
   by_cases h1:y=1
   ·rw[h1];decide
   ·exact rM (k:=1) aa
  have hd:y/2<y:=aa
  exact⟨(x+1,y/2),dY hv (by rw[eO (a:=(x:Int)+1) (n:=x+1) aa aa]) rfl,⟨by simp only;omega,by simp only;omega⟩,by simp only;omega⟩
 ·have hy0:y=0:=aa
  refine aF.jM hT b9 hm 30 hv (h0 0) rfl trivial Wd ah ah (bN ?_)
  rw[hy0]at hxy
  simp[bK]at hxy
  rw[hxy];simp[bK]
def Kw:Spec:=bU (lN fun N n=>aK (.int .i64 (bK N:Nat)) [n<2^40,nl N=n])
theorem acB:bf P Kw 187:=
 cJ (sr fun _ _ K hz need=>abG hz need.1 need.2 K)
end Go.Am.B
