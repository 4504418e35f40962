/- ref01: Trim, Of, small, Cmp, Bits. -/
import Derived.Test.YtnniljlepppdpaaGreatB21
set_option linter.unusedVariables false
namespace Go.Am.B
open Go Go.Am.N AV
theorem af0:aU P oW mO (az mO):=aT Proofs.Tryz.func202 ah ah ah
theorem Wp:aU P qC D7 (az D7):=aT Proofs.Tryz.func204 ah ah ah
theorem abp:aU P vF C7 (az C7):=aT Proofs.Tryz.func262 ah ah ah
theorem abT:aU P rz qJ (az qJ):=aT Proofs.Tryz.func101 ah ah ah
theorem ahw:aU P DQ rC (az rC):=aT Proofs.Tryz.func263 ah ah ah
theorem RV {n:Nat} {z:Nat->Nat}:aJ T [] [] 30 [0,3] (before (az mO) [1,1,0]) ⟨aQ 0 [.aq 1 n (aB z)],[],0⟩=
  some (ag.leaf ak.normal ([aq 1 n (aB z),int IntKind.i64 (↑n:Int)],[])):=ah
theorem adf {n k:Nat} {z:Nat->Nat}:aJ T [] [8,15] 30 [0,3] [part (az mO) [1,1,0,0,0]] ⟨aF [0,3] [.aq 1 n (aB z),.int .i64 k],[],0⟩=
  some (ag.fork (decide ((↑k:Int)>(0:Int))) (ag.aj [decide ((↑k:Int)>(0:Int))=true,(0:Int)<=IntKind.i64.wrap ((↑k:Int)-(1:Int))/\(IntKind.i64.wrap ((↑k:Int)-(1:Int))).toNat<n] (ag.fork (bif true then(↑(z (IntKind.i64.wrap ((↑k:Int)-(1:Int))).toNat):Int)==(0:Int)else false) (ag.leaf ak.normal ([aq 1 n (aB z),int IntKind.i64 (IntKind.i64.wrap ((↑k:Int)-(1:Int)))],[])) (ag.leaf (ak.exit 0) ([aq 1 n (aB z),int IntKind.i64 (↑k:Int)],[])))) (ag.aj [decide ((↑k:Int)>(0:Int))=false] (ag.fork false (ag.leaf ak.normal ([aq 1 n (aB z),int IntKind.i64 (IntKind.i64.wrap ((↑k:Int)-(1:Int)))],[])) (ag.leaf (ak.exit 0) ([aq 1 n (aB z),int IntKind.i64 (↑k:Int)],[]))))):=ah
theorem Wd {n k:Nat} {z:Nat->Nat}:cJ T [] [] 30 mO (behind (az mO) [1,1,0]) ⟨aF [0,3] [.aq 1 n (aB z),.int .i64 k],[],0⟩=
  some (ag.aj [(0:Nat)*1<=2^24,(0:Int)<=(0:Int)/\(0:Int)<=(↑k:Int)/\(↑k:Int)<=(↑k:Int)/\(↑k:Int)<=(↑n:Int),((0:Nat)+((↑k:Int).toNat-Int.toNat (0:Int)))*((4:Nat)+1)*2<=2^47] (ag.leaf ak.ret [aq 1 ((0:Nat)+((↑k:Int).toNat-Int.toNat (0:Int))) fun(i:Nat)=>if i+0<0 then nth [] (int IntKind.u32 (0:Int)) (i+0)else aB z (i+0-0+Int.toNat (0:Int))])):=ah
def tU:Spec:=bM (lN fun N n=>aL (.mag N) [n<2^40])
def eG:aV:=[(oW,tU)]
theorem aff {n:Nat}:bP T eG [] 30 D7 (az D7) ⟨aQ 0 [.int .u64 n],[],0⟩=
  some (ag.aj [(0:Int)<=(32:Int),(2:Nat)*1<=2^24,dN 2 fun(i:Nat)=>nth [int IntKind.u32 (IntKind.u32.wrap (↑n:Int)),int IntKind.u32 (IntKind.u32.wrap ((↑n:Int).fdiv ((2:Int)^min (Int.toNat (32:Int)) IntKind.u64.bits)))] (int IntKind.u32 (0:Int)) (i+0),(2:Nat)<2^40] (ag.leaf ak.ret [mag (val 2 fun(i:Nat)=>numOf (nth [int IntKind.u32 (IntKind.u32.wrap (↑n:Int)),int IntKind.u32 (IntKind.u32.wrap ((↑n:Int).fdiv ((2:Int)^min (Int.toNat (32:Int)) IntKind.u64.bits)))] (int IntKind.u32 (0:Int)) (i+0)))])):=ah
theorem ac7 {A:Nat}:bP T eG [6,8,14] 30 C7 (az C7) ⟨aQ 0 [.mag A],[],0⟩=
  some (ag.fork ((↑(nl A):Int)==(0:Int)) (ag.leaf ak.ret [int IntKind.u64 (0:Int),AV.bool true]) (ag.fork ((↑(nl A):Int)==(1:Int)) (ag.aj [(0:Int)<=(0:Int)/\Int.toNat (0:Int)<nl A] (ag.leaf ak.ret [int IntKind.u64 (IntKind.u64.wrap (↑(aC A (Int.toNat (0:Int))):Int)),AV.bool true])) (ag.fork ((↑(nl A):Int)==(2:Int)) (ag.aj [(0:Int)<=(0:Int)/\Int.toNat (0:Int)<nl A,(0:Int)<=(1:Int)/\Int.toNat (1:Int)<nl A,(0:Int)<=(32:Int)] (ag.leaf ak.ret [int IntKind.u64 (IntKind.u64.wrap (↑(BitVec.ofInt IntKind.u64.bits (IntKind.u64.wrap (↑(aC A (Int.toNat (0:Int))):Int))|||BitVec.ofInt IntKind.u64.bits (IntKind.u64.wrap (IntKind.u64.wrap (↑(aC A (Int.toNat (1:Int))):Int)*(2:Int)^min (Int.toNat (32:Int)) IntKind.u64.bits))).toNat:Int)),AV.bool true])) (ag.leaf ak.ret [int IntKind.u64 (0:Int),AV.bool false])))):=ah
theorem acX {A B:Nat}:aJ T [] [10,15] 30 [0,1,5,4] (before (az qJ) [1,1,0,1]) ⟨aQ 0 [.mag A,.mag B],[],0⟩=
  some (ag.fork ((↑(nl A):Int)!=(↑(nl B):Int)) (ag.fork (decide ((↑(nl A):Int)<(↑(nl B):Int))) (ag.leaf ak.ret ([mag A,mag B,tuple [],int IntKind.i64 (-1:Int)],[])) (ag.leaf ak.ret ([mag A,mag B,tuple [],int IntKind.i64 (1:Int)],[]))) (ag.leaf ak.normal ([mag A,mag B,int IntKind.i64 (IntKind.i64.wrap ((↑(nl A):Int)-(1:Int))),int IntKind.i64 (0:Int)],[]))):=ah
theorem ZA {A B k:Nat}:aJ T [] [20,31,40] 30 [0,1,5,4] [part (az qJ) [1,1,0,1,0,0]] ⟨aF [0,1,5,4] [.mag A,.mag B,.int .i64 ((k:Int)-1),.int .i64 0],[],0⟩=
  some (ag.fork (decide ((↑k:Int)-(1:Int)>=(0:Int))) (ag.aj [(0:Int)<=(↑k:Int)-(1:Int)/\((↑k:Int)-(1:Int)).toNat<nl A,(0:Int)<=(↑k:Int)-(1:Int)/\((↑k:Int)-(1:Int)).toNat<nl B] (ag.fork (decide ((↑(aC A ((↑k:Int)-(1:Int)).toNat):Int)<(↑(aC B ((↑k:Int)-(1:Int)).toNat):Int))) (ag.leaf ak.ret ([mag A,mag B,int IntKind.i64 ((↑k:Int)-(1:Int)),int IntKind.i64 (-1:Int)],[])) (ag.aj [(0:Int)<=(↑k:Int)-(1:Int)/\((↑k:Int)-(1:Int)).toNat<nl A,(0:Int)<=(↑k:Int)-(1:Int)/\((↑k:Int)-(1:Int)).toNat<nl B] (ag.fork (decide ((↑(aC A ((↑k:Int)-(1:Int)).toNat):Int)>(↑(aC B ((↑k:Int)-(1:Int)).toNat):Int))) (ag.leaf ak.ret ([mag A,mag B,int IntKind.i64 ((↑k:Int)-(1:Int)),int IntKind.i64 (1:Int)],[])) (ag.leaf ak.normal ([mag A,mag B,int IntKind.i64 (IntKind.i64.wrap ((↑k:Int)-(1:Int)-(1:Int))),int IntKind.i64 (0:Int)],[])))))) (ag.leaf (ak.exit 0) ([mag A,mag B,int IntKind.i64 ((↑k:Int)-(1:Int)),int IntKind.i64 (0:Int)],[]))):=ah
theorem WQ {A B k:Nat}:cJ T [] [] 30 qJ (behind (az qJ) [1,1,0,1]) ⟨aF [0,1,5,4] [.mag A,.mag B,.int .i64 ((k:Int)-1),.int .i64 0],[],0⟩=
  some (ag.leaf ak.ret [int IntKind.i64 (0:Int)]):=ah
theorem Zs {n:Nat} {z:Nat->Nat}:aJ T [] [7] 30 [3,4,2] (before (az rC) [1,1,1,0,1]) ⟨aQ 0 [.aq 1 n (aB z)],[],0⟩=
  some (ag.fork ((↑n:Int)==(0:Int)) (ag.leaf ak.ret ([tuple [],tuple [],int IntKind.i64 (0:Int)],[])) (ag.aj [(0:Int)<=IntKind.i64.wrap ((↑n:Int)-(1:Int))/\(IntKind.i64.wrap ((↑n:Int)-(1:Int))).toNat<n] (ag.leaf ak.normal ([int IntKind.i64 (IntKind.i64.wrap ((32:Int)*IntKind.i64.wrap ((↑n:Int)-(1:Int)))),int IntKind.u32 (↑(z (IntKind.i64.wrap ((↑n:Int)-(1:Int))).toNat):Int),int IntKind.i64 (0:Int)],[])))):=ah
theorem ac6 {x y:Nat}:aJ T [] [19] 30 [3,4,2] [part (az rC) [1,1,1,0,1,0,0]] ⟨aF [3,4,2] [.int .i64 x,.int .u32 y,.int .i64 0],[],0⟩=
  some (ag.fork ((↑y:Int)!=(0:Int)) (ag.aj [(0:Int)<=(1:Int)] (ag.leaf ak.normal ([int IntKind.i64 (IntKind.i64.wrap ((↑x:Int)+(1:Int))),int IntKind.u32 ((↑y:Int).fdiv ((2:Int)^min (Int.toNat (1:Int)) IntKind.u32.bits)),int IntKind.i64 (0:Int)],[]))) (ag.leaf (ak.exit 0) ([int IntKind.i64 (↑x:Int),int IntKind.u32 (↑y:Int),int IntKind.i64 (0:Int)],[]))):=ah
theorem abe {x y:Nat}:cJ T [] [] 30 rC (behind (az rC) [1,1,1,0,1]) ⟨aF [3,4,2] [.int .i64 x,.int .u32 y,.int .i64 0],[],0⟩=
  some (ag.leaf ak.ret [int IntKind.i64 (↑x:Int)]):=ah
theorem Vt {n:Nat} {z:Nat->Nat} (hz:∀i,i<n->z i<2^32) (hn:n<2^40) (K:Nat):aD P oW K [.aq 1 n (aB z)] [] (aL (.mag (val n z)) []):=by
 refine iy hT af0 rfl aW rfl (fun _ c h0=>?_) K []
 refine ay.hole [1,1,0] ah (aG.bz hT bE hm 30 [0,3] RV ah fun s' hv=>cw ?_)
 refine ay.gP (i:=0) (y:=part (az mO) [1,1,0,0,0]) ah [0,3] 0 (h0 _) (fun k:Nat=>[.aq 1 n (aB z),.int .i64 k]) (fun _=>[]) (fun _=>rfl) (fun _=>trivial)
  (fun k=>k<=n/\∀i,k<=i->i<n->z i=0) id n hv ⟨bp,fun i h1 h2=>aa⟩ ?_
 rintro j ⟨hj,hzj⟩
 refine ay.bz hT bE hm 30 [0,3] adf ah ?_
 have fin:(j=0\/z (j-1)≠0)->∀s',bk [0,3] s'=some ([.aq 1 n (aB z),.int .i64 j],[])->aG P c mO.ntmps (behind (az mO) [1,1,0]) s' (dX c (Fin T mO (.mag (val n z)))):=by
  intro hj0 s' hv
  refine aG.j6 hT bE hm 30 hv (h0 0) rfl trivial Wd ah ah ?_
  simp only[ag.all,aA,aX,Int.toNat_zero,Nat.zero_add,Nat.sub_zero,Nat.add_zero]
  have e:val n z=val j z:=nH hj hzj
  refine⟨⟨aa,aa,aa⟩,lD (by rw[e,AA (fun i hi=>hz i aa) hj0]) fun i hi=>?_⟩
  rw[if_neg aa,e,pU (fun j hj=>hz j aa) hi]
  rfl
 have hw:0<j->IntKind.i64.wrap ((j:Int)-1)=((j-1:Nat):Int):=fun h=>by rw[wrap_i64 aa aa];omega
 refine⟨fun hb=>?_,fun hb=>?_⟩
 ·have h1:0<j:=by simpa using hb
  rw[hw h1]
  have hj1:j-1<n:=aa
  refine⟨⟨hb,aa,by rw[aX];exact hj1⟩,fun hc s' hv=>?_,fun hc s' hv=>?_⟩
  ·refine⟨j-1,hv,⟨aa,fun i h1 h2=>?_⟩,by simp;omega⟩
   by_cases hi:i=j-1
   ·subst hi;simpa using hc
   ·exact hzj i aa h2
  ·exact fc (fin (.inr (by simpa using hc)) s' hv)
 ·have h1:j=0:=by simpa using hb
  refine⟨hb,fun hc=>by simp at hc,fun hc s' hv=>fc (fin (.inl h1) s' hv)⟩
theorem wG:∀K args pre r,tU K args pre=some r->aD P oW K args pre r:=
 ct (ve fun _ _ K hz need=>Vt hz need K)
theorem eM:bn P eG:=aI wG bE
theorem Z6 {x:Nat} (hx:x<2^64) (K:Nat):aD P qC K [.int .u64 x] [] (aL (.mag x) []):=by
 refine bW hT eM hm Wp rfl aW rfl 30 aff (fun _=>?_) K []
 simp only[ag.all,aA,lG]
 refine⟨⟨aa,aa,fun i hi=>?_,aa⟩,dD (congrArg AV.mag ?_)⟩
 ·match i,hi with
  |0,_=>exact⟨x%2^32,aa,by simp[nth,jy]⟩
  |1,_=>exact⟨x/4294967296,aa,by simp[nth,lV];omega⟩
 ·rw[val_two]
  simp[nth,numOf,lV]
  omega
def wj:Spec:=bM fun l=>match l with
 |[.int .u64 x]=>some (aL (.mag x.toNat) [0<=x/\x<2^64])
 |_=>none
theorem zS:∀K args pre r,wj K args pre=some r->aD P qC K args pre r:=by
 refine ct fun K args r hk hs _=>?_
 split at hs
 ·simp only[au]at hs
  subst hs
  intro need
  obtain⟨h1,h2⟩:=need
  rename_i x
  obtain⟨y,rfl⟩:=Int.eq_ofNat_of_zero_le h1
  exact Z6 (x:=y) aa K trivial
 ·simp at hs
def fP (A:Nat):Bool:=decide (A<18446744073709551616)
theorem aiD {A:Nat} (K:Nat):aD P vF K [.mag A] [] (aL (.tuple [.int .u64 (if fP A then A else 0:Nat),.bool (fP A)]) []):=by
 refine bW hT eM hm abp rfl aW rfl 30 ac7 (fun _=>?_) K []
 simp only[ag.all,aA,beq_iff_eq,beq_eq_false_iff_ne,ne_eq,Int.toNat_zero,show Int.toNat 1=1 from rfl]
 have hv:=fS (N:=A)
 have l0:=dG (N:=A) (i:=0)
 have l1:=dG (N:=A) (i:=1)
 have yes:∀{x:Int},A<2^64->x=(A:Nat)->er [.int .u64 x,.bool true] (.tuple [.int .u64 (if fP A then A else 0:Nat),.bool (fP A)]):=fun h hx=>by
  have:fP A=true:=by unfold fP;simpa using h
  rw[this,if_pos rfl]
  exact⟨bJ hx,.refl _,trivial⟩
 refine⟨fun hb=>yes ?_ ?_,fun hb=>⟨fun h1=>⟨aa,yes ?_ ?_⟩,fun h1=>⟨fun h2=>⟨⟨aa,aa,aa⟩,yes ?_ ?_⟩,fun h2=>?_⟩⟩⟩
 ·have:A=0:=ja.1 aa
  omega
 ·have:A=0:=ja.1 aa
  rw[this];rfl
 ·exact p9 aa
 ·rw[show nl A=1 by omega,val,val]at hv
  rw[bZ aa aa]
  simp at hv;omega
 ·exact p9 aa
 ·rw[show nl A=2 by omega,val,val,val]at hv
  have e1:IntKind.u64.wrap (aC A 0:Int)=((aC A 0:Nat):Int):=bZ aa aa
  have e2:IntKind.u64.wrap (aC A 1:Int)=((aC A 1:Nat):Int):=bZ aa aa
  have e3:IntKind.u64.wrap ((aC A 1:Int)*2^min (Int.toNat 32) IntKind.u64.bits)=((aC A 1*4294967296:Nat):Int):=by
   rw[xM,bZ aa aa];omega
  rw[e1,e2,e3,u9 aa aa]
  congr 1
  rw[Nat.or_comm,show 4294967296=2^32 from rfl,sn l0]
  simp at hv;omega
 ·have:fP A=false:=by
   unfold fP
   simp only[bt]
   intro h
   have:nl A<=2:=dm.2 h
   omega
  rw[this]
  exact⟨.refl _,.refl _,trivial⟩
def ET:Spec:=bM fun l=>match l with
 |[a]=>match iV a with
  |some A=>some (aL (.tuple [.int .u64 (if fP A then A else 0:Nat),.bool (fP A)]) [])
  |none=>none
 |_=>none
theorem P2:∀K args pre r,ET K args pre=some r->aD P vF K args pre r:=by
 refine ct fun K args r hk hs _=>?_
 split at hs
 ·split at hs
  ·rename_i A hA
   simp only[au]at hs
   subst hs
   exact gv (aiD K) hk ⟨lQ hA,trivial⟩ []
  ·simp at hs
 ·simp at hs
theorem abN {A B:Nat} (hA:nl A<2^40) (hB:nl B<2^40) (K:Nat):aD P rz K [.mag A,.mag B] [] (aL (.int .i64 (cO A B)) []):=by
 refine iy hT abT rfl aW rfl (fun _ c h0=>?_) K []
 refine ay.hole [1,1,0,1] ah (aG.bz hT bE hm 30 [0,1,5,4] acX ah ?_)
 simp only[ag.all,aA,bf,bt,bne_iff_ne,ne_eq,Int.natCast_inj,bne_eq_false_iff_eq]
 refine⟨fun hb=>⟨fun hb2 s' hv=>ff (.inl ?_),fun hb2 s' hv=>ff (.inl ?_)⟩,fun hb s' hv=>cw ?_⟩
 ·have h1:A<B:=Ea aa
  exact gj (us:=[.int .i64 (-1)]) (.inr rfl) hv ah (bJ (by simp[cO,h1]))
 ·have h1:B<A:=Ea aa
  exact gj (us:=[.int .i64 1]) (.inr rfl) hv ah (bJ (by simp[cO,h1];omega))
 refine ay.gP (i:=0) (y:=part (az qJ) [1,1,0,1,0,0]) ah [0,1,5,4] 0 (h0 _) (fun k:Nat=>[.mag A,.mag B,.int .i64 ((k:Int)-1),.int .i64 0]) (fun _=>[]) (fun _=>rfl) (fun _=>trivial)
  (fun k=>k<=nl A/\∀j,k<=j->j<nl A->aC A j=aC B j) id (nl A) (dH hv (by rw[wrap_i64 aa aa]) rfl) ⟨by simp,fun j h1 h2=>aa⟩ ?_
 rintro k ⟨hk,hlim⟩
 refine ay.bz hT bE hm 30 [0,1,5,4] ZA ah ?_
 simp only[ag.all,aA,bf,bt]
 refine⟨fun hb2=>?_,fun hb2 s' hv=>fc ?_⟩
 ·obtain⟨j,rfl⟩:∃j,k=j+1:=⟨k-1,aa⟩
  have e:(((j+1:Nat):Int)-1).toNat=j:=aa
  rw[e]
  refine⟨⟨aa,aa⟩,fun hlt s' hv=>KV (ff (.inl ?_)),fun hlt=>⟨⟨aa,aa⟩,fun hgt s' hv=>KV (ff (.inl ?_)),fun hgt s' hv=>?_⟩⟩
  ·have h1:A<B:=Eg hb (k:=j) aa (fun i h1 h2=>hlim i aa h2) aa
   exact gj (us:=[.int .i64 (-1)]) (.inr rfl) hv ah (bJ (by simp[cO,h1]))
  ·have h1:B<A:=Eg hb.symm (k:=j) aa (fun i h1 h2=>(hlim i aa aa).symm) aa
   exact gj (us:=[.int .i64 1]) (.inr rfl) hv ah (bJ (by simp[cO,h1];omega))
  ·refine⟨j,dH hv (by rw[wrap_i64 aa aa];congr 4;omega) rfl,⟨aa,fun i h1 h2=>?_⟩,by simp⟩
   by_cases hi:i=j
   ·subst hi;omega
   ·exact hlim i aa h2
 ·have hk0:k=0:=aa
  have hAB:A=B:=EF hb fun i hi=>hlim i aa hi
  exact cw (aG.j6 hT bE hm 30 hv (h0 0) rfl trivial WQ ah ah (bJ (by simp[cO,hAB])))
def nE (g:Nat->Nat->AV) (l:Nat->Nat->List Prop):Spec:=bM fun a=>match a with
 |[x,y]=>match iV x,iV y with
  |some A,some B=>some (aL (g A B) (l A B))
  |_,_=>none
 |_=>none
theorem pA {f:FuncId} {g:Nat->Nat->AV} {l:Nat->Nat->List Prop} (h:∀{A B:Nat},aA (l A B)->∀K,aD P f K [.mag A,.mag B] [] (aL (g A B) [])):∀K args pre r,nE g l K args pre=some r->aD P f K args pre r:=by
 refine ct fun K args r hk hs _=>?_
 split at hs
 ·split at hs
  ·rename_i A B hA hB
   simp only[au]at hs
   subst hs
   exact fun need=>gv (h need K) hk ⟨lQ hA,lQ hB,trivial⟩ [] trivial
  ·simp at hs
 ·simp at hs
abbrev Jh (A B:Nat):List Prop:=[nl A<2^40,nl B<2^40]
def xB:Spec:=nE (fun A B=>.int .i64 (cO A B)) Jh
theorem BI:∀K args pre r,xB K args pre=some r->aD P rz K args pre r:=pA fun h=>abN h.1 h.2
theorem aeT {n:Nat} {z:Nat->Nat} (hz:∀i,i<n->z i<2^32) (hn:n<2^40) (hnl:nl (val n z)=n) (K:Nat):aD P DQ K [.aq 1 n (aB z)] [] (aL (.int .i64 (bG (val n z):Nat)) []):=by
 refine iy hT ahw rfl aW rfl (fun _ c h0=>?_) K []
 refine ay.hole [1,1,1,0,1] ah (aG.bz hT bE hm 30 [3,4,2] Zs ah ?_)
 simp only[ag.all,aA,beq_iff_eq,beq_eq_false_iff_ne,ne_eq]
 refine⟨fun hb s' hv=>ff (.inl ?_),fun hb=>?_⟩
 ·have h1:n=0:=aa
  have h2:val n z=0:=by rw[h1];rfl
  exact gj (us:=[.int .i64 0]) (.inr rfl) hv ah (bJ (by rw[h2];rfl))
 have w1:IntKind.i64.wrap ((n:Int)-1)=((n-1:Nat):Int):=eB aa aa
 have w2:IntKind.i64.wrap (32*((n-1:Nat):Int))=((32*(n-1):Nat):Int):=eB aa aa
 rw[w1,w2]
 simp only[aX]
 refine⟨aa,fun s' hv=>cw ?_⟩
 have hzt:=hz (n-1) aa
 have htot:bG (val n z)=32*(n-1)+bG (z (n-1)):=by
  have h0:val n z≠0:=gd.1 aa
  rw[Jt h0,hnl,pU hz aa]
 refine ay.gP (i:=0) (y:=part (az rC) [1,1,1,0,1,0,0]) ah [3,4,2] 0 (h0 _) (fun p:Nat×Nat=>[.int .i64 (p.1:Nat),.int .u32 (p.2:Nat),.int .i64 0]) (fun _=>[]) (fun _=>rfl) (fun _=>trivial)
  (fun p=>p.1+bG p.2=bG (val n z)/\p.2<2^32) (fun p=>p.2) (32*(n-1),z (n-1)) hv ⟨htot.symm,hzt⟩ ?_
 rintro⟨x,y⟩ ⟨hxy,hy⟩
 simp only at hxy hy
 have hb32:bG (z (n-1))<=32:=je.2 hzt
 refine ay.bz hT bE hm 30 [3,4,2] ac6 ah ?_
 rw[yT (by decide) (by decide)]
 simp only[ag.all,aA,bne_iff_ne,ne_eq,bne_eq_false_iff_eq,show Int.toNat 1=1 from rfl]
 refine⟨fun hc=>⟨aa,fun s' hv=>?_⟩,fun hc s' hv=>fc (cw ?_)⟩
 ·have hy0:0<y:=aa
  have e:bG y=1+bG (y/2):=by
   by_cases h1:y=1
   ·rw[h1];decide
   ·exact tL (k:=1) aa
  have hd:y/2<y:=aa
  exact⟨(x+1,y/2),dH hv (by rw[eB (a:=(x:Int)+1) (n:=x+1) aa aa]) rfl,⟨by simp only;omega,by simp only;omega⟩,by simp only;omega⟩
 ·have hy0:y=0:=aa
  refine aG.j6 hT bE hm 30 hv (h0 0) rfl trivial abe ah ah (bJ ?_)
  rw[hy0]at hxy
  simp[bG]at hxy
  rw[hxy];simp[bG]
def OT:Spec:=bM (lN fun N n=>aL (.int .i64 (bG N:Nat)) [n<2^40,nl N=n])
theorem aaA:∀K args pre r,OT K args pre=some r->aD P DQ K args pre r:=
 ct (ve fun _ _ K hz need=>aeT hz need.1 need.2 K)
end Go.Am.B
