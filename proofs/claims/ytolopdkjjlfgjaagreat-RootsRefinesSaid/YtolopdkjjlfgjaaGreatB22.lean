/- ref01: Trim, Of, small, Cmp, Bits. -/
import Derived.Test.YtolopdkjjlfgjaaGreatB21
set_option linter.unusedVariables false
namespace Go.Am.B
open Go Go.Am.N AV Proofs.Tryz IntKind
theorem SC:bf 140 f140:=bg func140
theorem ah7:bf 138 f138:=bg func138
theorem agN:bf 186 f186:=bg func186
theorem afN:bf 84 f84:=bg func84
theorem TJ:bf 187 f187:=bg func187
theorem ajz {n:Nat} {z:Nat->Nat}:aI T [] [] 30 [0,3] (before (aH f140) [1,1,0]) ⟨aU 0 [.ak 1 n (aB z)],[],0⟩=
  some (ag.leaf aq.normal ([ak 1 n (aB z),int .i64 (↑n:Int)],[])):=ah
theorem ai7 {n k:Nat} {z:Nat->Nat}:aI T [] [8,15] 30 [0,3] [part (aH f140) [1,1,0,0,0]] ⟨aC [0,3] [.ak 1 n (aB z),.int .i64 k],[],0⟩=
  some (ag.fork (decide ((↑k:Int)>0)) (ag.aj [decide ((↑k:Int)>0)=true,(0:Int)<=i64.wrap ((↑k:Int)-1)/\(i64.wrap ((↑k:Int)-1)).toNat<n] (ag.fork (bif true then(↑(z (i64.wrap ((↑k:Int)-1)).toNat):Int)==0 else false) (ag.leaf aq.normal ([ak 1 n (aB z),int .i64 (i64.wrap ((↑k:Int)-1))],[])) (ag.leaf (aq.exit 0) ([ak 1 n (aB z),int .i64 (↑k:Int)],[])))) (ag.aj [decide ((↑k:Int)>0)=false] (ag.fork false (ag.leaf aq.normal ([ak 1 n (aB z),int .i64 (i64.wrap ((↑k:Int)-1))],[])) (ag.leaf (aq.exit 0) ([ak 1 n (aB z),int .i64 (↑k:Int)],[]))))):=ah
theorem ah5 {n k:Nat} {z:Nat->Nat}:cQ T [] [] 30 f140 (behind (aH f140) [1,1,0]) ⟨aC [0,3] [.ak 1 n (aB z),.int .i64 k],[],0⟩=
  some (ag.aj [(0:Nat)*1<=2^24,(0:Int)<=0/\(0:Int)<=(↑k:Int)/\(↑k:Int)<=(↑k:Int)/\(↑k:Int)<=(↑n:Int),((0:Nat)+((↑k:Int).toNat-Int.toNat (0:Int)))*((4:Nat)+1)*2<=2^47] (ag.leaf aq.ret [ak 1 ((0:Nat)+((↑k:Int).toNat-Int.toNat (0:Int))) fun(i:Nat)=>if i+0<0 then nth [] (int .u32 (0:Int)) (i+0)else aB z (i+0-0+Int.toNat (0:Int))])):=ah
def vS:Spec:=cu (mZ fun N n=>aL (.mag N) [n<2^40])
def fY:bk:=[(140,vS)]
theorem afP {n:Nat}:b9 T fY [] 30 f138 (aH f138) ⟨aU 0 [.int .u64 n],[],0⟩=
  some (ag.aj [(0:Int)<=32,(2:Nat)*1<=2^24,fm 2 fun(i:Nat)=>nth [int .u32 (u32.wrap (↑n:Int)),int .u32 (u32.wrap ((↑n:Int).fdiv ((2:Int)^min (Int.toNat (32:Int)) u64.bits)))] (int .u32 (0:Int)) (i+0),(2:Nat)<2^40] (ag.leaf aq.ret [mag (val 2 fun(i:Nat)=>numOf (nth [int .u32 (u32.wrap (↑n:Int)),int .u32 (u32.wrap ((↑n:Int).fdiv ((2:Int)^min (Int.toNat (32:Int)) u64.bits)))] (int .u32 (0:Int)) (i+0)))])):=ah
theorem ajL {A:Nat}:b9 T fY [6,8,14] 30 f186 (aH f186) ⟨aU 0 [.mag A],[],0⟩=
  some (ag.fork ((↑(nl A):Int)==0) (ag.leaf aq.ret [int .u64 (0:Int),AV.bool true]) (ag.fork ((↑(nl A):Int)==1) (ag.aj [(0:Int)<=0/\Int.toNat (0:Int)<nl A] (ag.leaf aq.ret [int .u64 (u64.wrap (↑(aD A (Int.toNat (0:Int))):Int)),AV.bool true])) (ag.fork ((↑(nl A):Int)==2) (ag.aj [(0:Int)<=0/\Int.toNat (0:Int)<nl A,(0:Int)<=1/\Int.toNat (1:Int)<nl A,(0:Int)<=32] (ag.leaf aq.ret [int .u64 (u64.wrap (↑(BitVec.ofInt u64.bits (u64.wrap (↑(aD A (Int.toNat (0:Int))):Int))|||BitVec.ofInt u64.bits (u64.wrap (u64.wrap (↑(aD A (Int.toNat (1:Int))):Int)*2^min (Int.toNat (32:Int)) u64.bits))).toNat:Int)),AV.bool true])) (ag.leaf aq.ret [int .u64 (0:Int),AV.bool false])))):=ah
theorem acK {A B:Nat}:aI T [] [10,15] 30 [0,1,5,4] (before (aH f84) [1,1,0,1]) ⟨aU 0 [.mag A,.mag B],[],0⟩=
  some (ag.fork ((↑(nl A):Int)!=(↑(nl B):Int)) (ag.fork (decide ((↑(nl A):Int)<(↑(nl B):Int))) (ag.leaf aq.ret ([mag A,mag B,tuple [],int .i64 (-1:Int)],[])) (ag.leaf aq.ret ([mag A,mag B,tuple [],int .i64 (1:Int)],[]))) (ag.leaf aq.normal ([mag A,mag B,int .i64 (i64.wrap ((↑(nl A):Int)-1)),int .i64 (0:Int)],[]))):=ah
theorem ac9 {A B k:Nat}:aI T [] [20,31,40] 30 [0,1,5,4] [part (aH f84) [1,1,0,1,0,0]] ⟨aC [0,1,5,4] [.mag A,.mag B,.int .i64 ((k:Int)-1),.int .i64 0],[],0⟩=
  some (ag.fork (decide ((↑k:Int)-1>=(0:Int))) (ag.aj [(0:Int)<=(↑k:Int)-1/\((↑k:Int)-1).toNat<nl A,(0:Int)<=(↑k:Int)-1/\((↑k:Int)-1).toNat<nl B] (ag.fork (decide ((↑(aD A ((↑k:Int)-1).toNat):Int)<(↑(aD B ((↑k:Int)-1).toNat):Int))) (ag.leaf aq.ret ([mag A,mag B,int .i64 ((↑k:Int)-1),int .i64 (-1:Int)],[])) (ag.aj [(0:Int)<=(↑k:Int)-1/\((↑k:Int)-1).toNat<nl A,(0:Int)<=(↑k:Int)-1/\((↑k:Int)-1).toNat<nl B] (ag.fork (decide ((↑(aD A ((↑k:Int)-1).toNat):Int)>(↑(aD B ((↑k:Int)-1).toNat):Int))) (ag.leaf aq.ret ([mag A,mag B,int .i64 ((↑k:Int)-1),int .i64 (1:Int)],[])) (ag.leaf aq.normal ([mag A,mag B,int .i64 (i64.wrap ((↑k:Int)-1-(1:Int))),int .i64 (0:Int)],[])))))) (ag.leaf (aq.exit 0) ([mag A,mag B,int .i64 ((↑k:Int)-1),int .i64 (0:Int)],[]))):=ah
theorem ake {A B k:Nat}:cQ T [] [] 30 f84 (behind (aH f84) [1,1,0,1]) ⟨aC [0,1,5,4] [.mag A,.mag B,.int .i64 ((k:Int)-1),.int .i64 0],[],0⟩=
  some (ag.leaf aq.ret [int .i64 (0:Int)]):=ah
theorem Tt {n:Nat} {z:Nat->Nat}:aI T [] [7] 30 [3,4,2] (before (aH f187) [1,1,1,0,1]) ⟨aU 0 [.ak 1 n (aB z)],[],0⟩=
  some (ag.fork ((↑n:Int)==0) (ag.leaf aq.ret ([tuple [],tuple [],int .i64 (0:Int)],[])) (ag.aj [(0:Int)<=i64.wrap ((↑n:Int)-1)/\(i64.wrap ((↑n:Int)-1)).toNat<n] (ag.leaf aq.normal ([int .i64 (i64.wrap ((32:Int)*i64.wrap ((↑n:Int)-1))),int .u32 (↑(z (i64.wrap ((↑n:Int)-1)).toNat):Int),int .i64 (0:Int)],[])))):=ah
theorem Ts {x y:Nat}:aI T [] [19] 30 [3,4,2] [part (aH f187) [1,1,1,0,1,0,0]] ⟨aC [3,4,2] [.int .i64 x,.int .u32 y,.int .i64 0],[],0⟩=
  some (ag.fork ((↑y:Int)!=0) (ag.aj [(0:Int)<=1] (ag.leaf aq.normal ([int .i64 (i64.wrap ((↑x:Int)+1)),int .u32 ((↑y:Int).fdiv ((2:Int)^min (Int.toNat (1:Int)) u32.bits)),int .i64 (0:Int)],[]))) (ag.leaf (aq.exit 0) ([int .i64 (↑x:Int),int .u32 (↑y:Int),int .i64 (0:Int)],[]))):=ah
theorem afd {x y:Nat}:cQ T [] [] 30 f187 (behind (aH f187) [1,1,1,0,1]) ⟨aC [3,4,2] [.int .i64 x,.int .u32 y,.int .i64 0],[],0⟩=
  some (ag.leaf aq.ret [int .i64 (↑x:Int)]):=ah
theorem aal {n:Nat} {z:Nat->Nat} (hz:∀i,i<n->z i<2^32) (hn:n<2^40) (K:Nat):aQ P 140 K [.ak 1 n (aB z)] [] (aL (.mag (val n z)) []):=by
 refine iw hT SC rfl aX rfl (fun _ c h0=>?_) K []
 refine ax.hole [1,1,0] ah (aG.bO hT cz hm 30 [0,3] ajz ah fun s' hv=>cZ ?_)
 refine ax.jg (i:=0) (y:=part (aH f140) [1,1,0,0,0]) ah [0,3] 0 (h0 _) (fun k:Nat=>[.ak 1 n (aB z),.int .i64 k]) (fun _=>[]) (fun _=>rfl) (fun _=>trivial)
  (fun k=>k<=n/\∀i,k<=i->i<n->z i=0) id n hv ⟨aT,fun i h1 h2=>aa⟩ ?_
 rintro j ⟨hj,hzj⟩
 refine ax.bO hT cz hm 30 [0,3] ai7 ah ?_
 have fin:(j=0\/z (j-1)≠0)->∀s',bE [0,3] s'=some ([.ak 1 n (aB z),.int .i64 j],[])->aG P c f140.ntmps (behind (aH f140) [1,1,0]) s' (gq c (Fin T f140 (.mag (val n z)))):=by
  intro hj0 s' hv
  refine aG.lO hT cz hm 30 hv (h0 0) rfl trivial ah5 ah ah ?_
  simp only[ag.all,az,bJ,Int.toNat_zero,Nat.zero_add,Nat.sub_zero,Nat.add_zero]
  have e:val n z=val j z:=ot hj hzj
  refine⟨⟨aa,aa,aa⟩,lT (by rw[e,Dd (fun i hi=>hz i aa) hj0]) fun i hi=>?_⟩
  rw[if_neg aa,e,qY (fun j hj=>hz j aa) hi]
  rfl
 have hw:0<j->i64.wrap ((j:Int)-1)=((j-1:Nat):Int):=fun h=>by rw[wrap_i64 aa aa];omega
 refine⟨fun hb=>?_,fun hb=>?_⟩
 ·have h1:0<j:=by simpa using hb
  rw[hw h1]
  have hj1:j-1<n:=aa
  refine⟨⟨hb,aa,by rw[bJ];exact hj1⟩,fun hc s' hv=>?_,fun hc s' hv=>?_⟩
  ·refine⟨j-1,hv,⟨aa,fun i h1 h2=>?_⟩,by simp;omega⟩
   by_cases hi:i=j-1
   ·subst hi;simpa using hc
   ·exact hzj i aa h2
  ·exact gB (fin (.inr (by simpa using hc)) s' hv)
 ·have h1:j=0:=by simpa using hb
  refine⟨hb,fun hc=>by simp at hc,fun hc s' hv=>gB (fin (.inl h1) s' hv)⟩
theorem Ai:aY P vS 140:=
 cW (u9 fun _ _ K hz need=>aal hz need K)
theorem gh:bR P fY:=aJ Ai cz
theorem ahV {x:Nat} (hx:x<2^64) (K:Nat):aQ P 138 K [.int .u64 x] [] (aL (.mag x) []):=by
 refine ck hT gh hm ah7 rfl aX rfl 30 afP (fun _=>?_) K []
 simp only[ag.all,az,mR]
 refine⟨⟨aa,aa,fun i hi=>?_,aa⟩,fk (congrArg AV.mag ?_)⟩
 ·match i,hi with
  |0,_=>exact⟨x%2^32,aa,by simp[nth,kX]⟩
  |1,_=>exact⟨x/4294967296,aa,by simp[nth,mT];omega⟩
 ·rw[val_two]
  simp[nth,numOf,mT]
  omega
def AN:Spec:=cu fun l=>match l with
 |[.int .u64 x]=>some (aL (.mag x.toNat) [0<=x/\x<2^64])
 |_=>none
theorem BG:aY P AN 138:=by
 refine cW fun K args r hk hs _=>?_
 split at hs
 ·simp only[ay]at hs
  subst hs
  intro need
  obtain⟨h1,h2⟩:=need
  rename_i x
  obtain⟨y,rfl⟩:=Int.eq_ofNat_of_zero_le h1
  exact ahV (x:=y) aa K trivial
 ·simp at hs
def iz (A:Nat):Bool:=decide (A<18446744073709551616)
theorem aba {A:Nat} (K:Nat):aQ P 186 K [.mag A] [] (aL (.tuple [.int .u64 (if iz A then A else 0:Nat),.bool (iz A)]) []):=by
 refine ck hT gh hm agN rfl aX rfl 30 ajL (fun _=>?_) K []
 simp only[ag.all,az,beq_iff_eq,beq_eq_false_iff_ne,ne_eq,Int.toNat_zero,show Int.toNat 1=1 from rfl]
 have hv:=iB (N:=A)
 have l0:=eZ (N:=A) (i:=0)
 have l1:=eZ (N:=A) (i:=1)
 have yes:∀{x:Int},A<2^64->x=(A:Nat)->gx [.int .u64 x,.bool true] (.tuple [.int .u64 (if iz A then A else 0:Nat),.bool (iz A)]):=fun h hx=>by
  have:iz A=true:=by unfold iz;simpa using h
  rw[this,if_pos rfl]
  exact⟨cw hx,.refl _,trivial⟩
 refine⟨fun hb=>yes ?_ ?_,fun hb=>⟨fun h1=>⟨aa,yes ?_ ?_⟩,fun h1=>⟨fun h2=>⟨⟨aa,aa,aa⟩,yes ?_ ?_⟩,fun h2=>?_⟩⟩⟩
 ·have:A=0:=jY.1 aa
  omega
 ·have:A=0:=jY.1 aa
  rw[this];rfl
 ·exact qS aa
 ·rw[show nl A=1 by omega,val,val]at hv
  rw[cK aa aa]
  simp at hv;omega
 ·exact qS aa
 ·rw[show nl A=2 by omega,val,val,val]at hv
  have e1:u64.wrap (aD A 0:Int)=((aD A 0:Nat):Int):=cK aa aa
  have e2:u64.wrap (aD A 1:Int)=((aD A 1:Nat):Int):=cK aa aa
  have e3:u64.wrap ((aD A 1:Int)*2^min (Int.toNat 32) u64.bits)=((aD A 1*4294967296:Nat):Int):=by
   rw[xu,cK aa aa];omega
  rw[e1,e2,e3,vj aa aa]
  congr 1
  rw[Nat.or_comm,show 4294967296=2^32 from rfl,r6 l0]
  simp at hv;omega
 ·have:iz A=false:=by
   unfold iz
   simp only[bD]
   intro h
   have:nl A<=2:=eA.2 h
   omega
  rw[this]
  exact⟨.refl _,.refl _,trivial⟩
def EB:Spec:=cu fun l=>match l with
 |[a]=>match jJ a with
  |some A=>some (aL (.tuple [.int .u64 (if iz A then A else 0:Nat),.bool (iz A)]) [])
  |none=>none
 |_=>none
theorem Km:aY P EB 186:=by
 refine cW fun K args r hk hs _=>?_
 split at hs
 ·split at hs
  ·rename_i A hA
   simp only[ay]at hs
   subst hs
   exact gW (aba K) hk ⟨mY hA,trivial⟩ []
  ·simp at hs
 ·simp at hs
theorem YS {A B:Nat} (hA:nl A<2^40) (hB:nl B<2^40) (K:Nat):aQ P 84 K [.mag A,.mag B] [] (aL (.int .i64 (dO A B)) []):=by
 refine iw hT afN rfl aX rfl (fun _ c h0=>?_) K []
 refine ax.hole [1,1,0,1] ah (aG.bO hT cz hm 30 [0,1,5,4] acK ah ?_)
 simp only[ag.all,az,bB,bD,bne_iff_ne,ne_eq,Int.natCast_inj,bne_eq_false_iff_eq]
 refine⟨fun hb=>⟨fun hb2 s' hv=>gy (.inl ?_),fun hb2 s' hv=>gy (.inl ?_)⟩,fun hb s' hv=>cZ ?_⟩
 ·have h1:A<B:=DB aa
  exact iP (us:=[.int .i64 (-1)]) (.inr rfl) hv ah (cw (by simp[dO,h1]))
 ·have h1:B<A:=DB aa
  exact iP (us:=[.int .i64 1]) (.inr rfl) hv ah (cw (by simp[dO,h1];omega))
 refine ax.jg (i:=0) (y:=part (aH f84) [1,1,0,1,0,0]) ah [0,1,5,4] 0 (h0 _) (fun k:Nat=>[.mag A,.mag B,.int .i64 ((k:Int)-1),.int .i64 0]) (fun _=>[]) (fun _=>rfl) (fun _=>trivial)
  (fun k=>k<=nl A/\∀j,k<=j->j<nl A->aD A j=aD B j) id (nl A) (fe hv (by rw[wrap_i64 aa aa]) rfl) ⟨by simp,fun j h1 h2=>aa⟩ ?_
 rintro k ⟨hk,hlim⟩
 refine ax.bO hT cz hm 30 [0,1,5,4] ac9 ah ?_
 simp only[ag.all,az,bB,bD]
 refine⟨fun hb2=>?_,fun hb2 s' hv=>gB ?_⟩
 ·obtain⟨j,rfl⟩:∃j,k=j+1:=⟨k-1,aa⟩
  have e:(((j+1:Nat):Int)-1).toNat=j:=aa
  rw[e]
  refine⟨⟨aa,aa⟩,fun hlt s' hv=>Rq (gy (.inl ?_)),fun hlt=>⟨⟨aa,aa⟩,fun hgt s' hv=>Rq (gy (.inl ?_)),fun hgt s' hv=>?_⟩⟩
  ·have h1:A<B:=BU hb (k:=j) aa (fun i h1 h2=>hlim i aa h2) aa
   exact iP (us:=[.int .i64 (-1)]) (.inr rfl) hv ah (cw (by simp[dO,h1]))
  ·have h1:B<A:=BU hb.symm (k:=j) aa (fun i h1 h2=>(hlim i aa aa).symm) aa
   exact iP (us:=[.int .i64 1]) (.inr rfl) hv ah (cw (by simp[dO,h1];omega))
  ·refine⟨j,fe hv (by rw[wrap_i64 aa aa];congr 4;omega) rfl,⟨aa,fun i h1 h2=>?_⟩,by simp⟩
   by_cases hi:i=j
   ·subst hi;omega
   ·exact hlim i aa h2
 ·have hk0:k=0:=aa
  have hAB:A=B:=Io hb fun i hi=>hlim i aa hi
  exact cZ (aG.lO hT cz hm 30 hv (h0 0) rfl trivial ake ah ah (cw (by simp[dO,hAB])))
def ow (g:Nat->Nat->AV) (l:Nat->Nat->List Prop):Spec:=cu fun a=>match a with
 |[x,y]=>match jJ x,jJ y with
  |some A,some B=>some (aL (g A B) (l A B))
  |_,_=>none
 |_=>none
theorem qE {f:FuncId} {g:Nat->Nat->AV} {l:Nat->Nat->List Prop} (h:∀{A B:Nat},az (l A B)->∀K,aQ P f K [.mag A,.mag B] [] (aL (g A B) [])):aY P (ow g l) f:=by
 refine cW fun K args r hk hs _=>?_
 split at hs
 ·split at hs
  ·rename_i A B hA hB
   simp only[ay]at hs
   subst hs
   exact fun need=>gW (h need K) hk ⟨mY hA,mY hB,trivial⟩ [] trivial
  ·simp at hs
 ·simp at hs
abbrev E4 (A B:Nat):List Prop:=[nl A<2^40,nl B<2^40]
def xg:Spec:=ow (fun A B=>.int .i64 (dO A B)) E4
theorem Cw:aY P xg 84:=qE fun h=>YS h.1 h.2
theorem aem {n:Nat} {z:Nat->Nat} (hz:∀i,i<n->z i<2^32) (hn:n<2^40) (hnl:nl (val n z)=n) (K:Nat):aQ P 187 K [.ak 1 n (aB z)] [] (aL (.int .i64 (bV (val n z):Nat)) []):=by
 refine iw hT TJ rfl aX rfl (fun _ c h0=>?_) K []
 refine ax.hole [1,1,1,0,1] ah (aG.bO hT cz hm 30 [3,4,2] Tt ah ?_)
 simp only[ag.all,az,beq_iff_eq,beq_eq_false_iff_ne,ne_eq]
 refine⟨fun hb s' hv=>gy (.inl ?_),fun hb=>?_⟩
 ·have h1:n=0:=aa
  have h2:val n z=0:=by rw[h1];rfl
  exact iP (us:=[.int .i64 0]) (.inr rfl) hv ah (cw (by rw[h2];rfl))
 have w1:i64.wrap ((n:Int)-1)=((n-1:Nat):Int):=fS aa aa
 have w2:i64.wrap (32*((n-1:Nat):Int))=((32*(n-1):Nat):Int):=fS aa aa
 rw[w1,w2]
 simp only[bJ]
 refine⟨aa,fun s' hv=>cZ ?_⟩
 have hzt:=hz (n-1) aa
 have htot:bV (val n z)=32*(n-1)+bV (z (n-1)):=by
  have h0:val n z≠0:=iF.1 aa
  rw[KE h0,hnl,qY hz aa]
 refine ax.jg (i:=0) (y:=part (aH f187) [1,1,1,0,1,0,0]) ah [3,4,2] 0 (h0 _) (fun p:Nat×Nat=>[.int .i64 (p.1:Nat),.int .u32 (p.2:Nat),.int .i64 0]) (fun _=>[]) (fun _=>rfl) (fun _=>trivial)
  (fun p=>p.1+bV p.2=bV (val n z)/\p.2<2^32) (fun p=>p.2) (32*(n-1),z (n-1)) hv ⟨htot.symm,hzt⟩ ?_
 rintro⟨x,y⟩ ⟨hxy,hy⟩
 simp only at hxy hy
 have hb32:bV (z (n-1))<=32:=jZ.2 hzt
 refine ax.bO hT cz hm 30 [3,4,2] Ts ah ?_
 rw[yq (by decide) (by decide)]
 simp only[ag.all,az,bne_iff_ne,ne_eq,bne_eq_false_iff_eq,show Int.toNat 1=1 from rfl]
 refine⟨fun hc=>⟨aa,fun s' hv=>?_⟩,fun hc s' hv=>gB (cZ ?_)⟩
 ·have hy0:0<y:=aa
  have e:bV y=1+bV (y/2):=by
   by_cases h1:y=1
   ·rw[h1];decide
   ·exact vC (k:=1) aa
  have hd:y/2<y:=aa
  exact⟨(x+1,y/2),fe hv (by rw[fS (a:=(x:Int)+1) (n:=x+1) aa aa]) rfl,⟨by simp only;omega,by simp only;omega⟩,by simp only;omega⟩
 ·have hy0:y=0:=aa
  refine aG.lO hT cz hm 30 hv (h0 0) rfl trivial afd ah ah (cw ?_)
  rw[hy0]at hxy
  simp[bV]at hxy
  rw[hxy];simp[bV]
def Pe:Spec:=cu (mZ fun N n=>aL (.int .i64 (bV N:Nat)) [n<2^40,nl N=n])
theorem Zi:aY P Pe 187:=
 cW (u9 fun _ _ K hz need=>aem hz need.1 need.2 K)
end Go.Am.B
