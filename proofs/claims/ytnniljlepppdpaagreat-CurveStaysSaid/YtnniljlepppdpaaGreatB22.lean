/- ref01: Trim, Of, small, Cmp, Bits. -/
import Derived.Test.YtnniljlepppdpaaGreatB21
set_option linter.unusedVariables false
namespace Go.Am.B
open Go Go.Am.N AV
theorem Ww:aR P qW oy (az oy):=aS Proofs.Tryz.func202 ag ag ag
theorem XF:aR P sU AH (az AH):=aS Proofs.Tryz.func204 ag ag ag
theorem amO:aR P xo Db (az Db):=aS Proofs.Tryz.func262 ag ag ag
theorem W8:aR P sq th (az th):=aS Proofs.Tryz.func101 ag ag ag
theorem XW:aR P Ec rN (az rN):=aS Proofs.Tryz.func263 ag ag ag
theorem aiV {n:Nat} {z:Nat->Nat}:aI T [] [] 30 [0,3] (before (az oy) [1,1,0]) ⟨aP 0 [.ak 1 n (aB z)],[],0⟩=
  some (ah.leaf aq.normal ([ak 1 n (aB z),int IntKind.i64 (↑n:Int)],[])):=ag
theorem ZF {n k:Nat} {z:Nat->Nat}:aI T [] [8,15] 30 [0,3] [part (az oy) [1,1,0,0,0]] ⟨aE [0,3] [.ak 1 n (aB z),.int .i64 k],[],0⟩=
  some (ah.fork (decide ((↑k:Int)>(0:Int))) (ah.aj [decide ((↑k:Int)>(0:Int))=true,(0:Int)<=IntKind.i64.wrap ((↑k:Int)-(1:Int))/\(IntKind.i64.wrap ((↑k:Int)-(1:Int))).toNat<n] (ah.fork (bif true then(↑(z (IntKind.i64.wrap ((↑k:Int)-(1:Int))).toNat):Int)==(0:Int)else false) (ah.leaf aq.normal ([ak 1 n (aB z),int IntKind.i64 (IntKind.i64.wrap ((↑k:Int)-(1:Int)))],[])) (ah.leaf (aq.exit 0) ([ak 1 n (aB z),int IntKind.i64 (↑k:Int)],[])))) (ah.aj [decide ((↑k:Int)>(0:Int))=false] (ah.fork false (ah.leaf aq.normal ([ak 1 n (aB z),int IntKind.i64 (IntKind.i64.wrap ((↑k:Int)-(1:Int)))],[])) (ah.leaf (aq.exit 0) ([ak 1 n (aB z),int IntKind.i64 (↑k:Int)],[]))))):=ag
theorem ada {n k:Nat} {z:Nat->Nat}:cJ T [] [] 30 oy (behind (az oy) [1,1,0]) ⟨aE [0,3] [.ak 1 n (aB z),.int .i64 k],[],0⟩=
  some (ah.aj [(0:Nat)*1<=2^24,(0:Int)<=(0:Int)/\(0:Int)<=(↑k:Int)/\(↑k:Int)<=(↑k:Int)/\(↑k:Int)<=(↑n:Int),((0:Nat)+((↑k:Int).toNat-Int.toNat (0:Int)))*((4:Nat)+1)*2<=2^47] (ah.leaf aq.ret [ak 1 ((0:Nat)+((↑k:Int).toNat-Int.toNat (0:Int))) fun(i:Nat)=>if i+0<0 then nth [] (int IntKind.u32 (0:Int)) (i+0)else aB z (i+0-0+Int.toNat (0:Int))])):=ag
def uA:Spec:=bU (mm fun N n=>aK (.mag N) [n<2^40])
def fh:aX:=[(qW,uA)]
theorem ak2 {n:Nat}:bS T fh [] 30 AH (az AH) ⟨aP 0 [.int .u64 n],[],0⟩=
  some (ah.aj [(0:Int)<=(32:Int),(2:Nat)*1<=2^24,dZ 2 fun(i:Nat)=>nth [int IntKind.u32 (IntKind.u32.wrap (↑n:Int)),int IntKind.u32 (IntKind.u32.wrap ((↑n:Int).fdiv ((2:Int)^min (Int.toNat (32:Int)) IntKind.u64.bits)))] (int IntKind.u32 (0:Int)) (i+0),(2:Nat)<2^40] (ah.leaf aq.ret [mag (val 2 fun(i:Nat)=>numOf (nth [int IntKind.u32 (IntKind.u32.wrap (↑n:Int)),int IntKind.u32 (IntKind.u32.wrap ((↑n:Int).fdiv ((2:Int)^min (Int.toNat (32:Int)) IntKind.u64.bits)))] (int IntKind.u32 (0:Int)) (i+0)))])):=ag
theorem abT {A:Nat}:bS T fh [6,8,14] 30 Db (az Db) ⟨aP 0 [.mag A],[],0⟩=
  some (ah.fork ((↑(nl A):Int)==(0:Int)) (ah.leaf aq.ret [int IntKind.u64 (0:Int),AV.bool true]) (ah.fork ((↑(nl A):Int)==(1:Int)) (ah.aj [(0:Int)<=(0:Int)/\Int.toNat (0:Int)<nl A] (ah.leaf aq.ret [int IntKind.u64 (IntKind.u64.wrap (↑(aC A (Int.toNat (0:Int))):Int)),AV.bool true])) (ah.fork ((↑(nl A):Int)==(2:Int)) (ah.aj [(0:Int)<=(0:Int)/\Int.toNat (0:Int)<nl A,(0:Int)<=(1:Int)/\Int.toNat (1:Int)<nl A,(0:Int)<=(32:Int)] (ah.leaf aq.ret [int IntKind.u64 (IntKind.u64.wrap (↑(BitVec.ofInt IntKind.u64.bits (IntKind.u64.wrap (↑(aC A (Int.toNat (0:Int))):Int))|||BitVec.ofInt IntKind.u64.bits (IntKind.u64.wrap (IntKind.u64.wrap (↑(aC A (Int.toNat (1:Int))):Int)*(2:Int)^min (Int.toNat (32:Int)) IntKind.u64.bits))).toNat:Int)),AV.bool true])) (ah.leaf aq.ret [int IntKind.u64 (0:Int),AV.bool false])))):=ag
theorem ajF {A B:Nat}:aI T [] [10,15] 30 [0,1,5,4] (before (az th) [1,1,0,1]) ⟨aP 0 [.mag A,.mag B],[],0⟩=
  some (ah.fork ((↑(nl A):Int)!=(↑(nl B):Int)) (ah.fork (decide ((↑(nl A):Int)<(↑(nl B):Int))) (ah.leaf aq.ret ([mag A,mag B,tuple [],int IntKind.i64 (-1:Int)],[])) (ah.leaf aq.ret ([mag A,mag B,tuple [],int IntKind.i64 (1:Int)],[]))) (ah.leaf aq.normal ([mag A,mag B,int IntKind.i64 (IntKind.i64.wrap ((↑(nl A):Int)-(1:Int))),int IntKind.i64 (0:Int)],[]))):=ag
theorem aaf {A B k:Nat}:aI T [] [20,31,40] 30 [0,1,5,4] [part (az th) [1,1,0,1,0,0]] ⟨aE [0,1,5,4] [.mag A,.mag B,.int .i64 ((k:Int)-1),.int .i64 0],[],0⟩=
  some (ah.fork (decide ((↑k:Int)-(1:Int)>=(0:Int))) (ah.aj [(0:Int)<=(↑k:Int)-(1:Int)/\((↑k:Int)-(1:Int)).toNat<nl A,(0:Int)<=(↑k:Int)-(1:Int)/\((↑k:Int)-(1:Int)).toNat<nl B] (ah.fork (decide ((↑(aC A ((↑k:Int)-(1:Int)).toNat):Int)<(↑(aC B ((↑k:Int)-(1:Int)).toNat):Int))) (ah.leaf aq.ret ([mag A,mag B,int IntKind.i64 ((↑k:Int)-(1:Int)),int IntKind.i64 (-1:Int)],[])) (ah.aj [(0:Int)<=(↑k:Int)-(1:Int)/\((↑k:Int)-(1:Int)).toNat<nl A,(0:Int)<=(↑k:Int)-(1:Int)/\((↑k:Int)-(1:Int)).toNat<nl B] (ah.fork (decide ((↑(aC A ((↑k:Int)-(1:Int)).toNat):Int)>(↑(aC B ((↑k:Int)-(1:Int)).toNat):Int))) (ah.leaf aq.ret ([mag A,mag B,int IntKind.i64 ((↑k:Int)-(1:Int)),int IntKind.i64 (1:Int)],[])) (ah.leaf aq.normal ([mag A,mag B,int IntKind.i64 (IntKind.i64.wrap ((↑k:Int)-(1:Int)-(1:Int))),int IntKind.i64 (0:Int)],[])))))) (ah.leaf (aq.exit 0) ([mag A,mag B,int IntKind.i64 ((↑k:Int)-(1:Int)),int IntKind.i64 (0:Int)],[]))):=ag
theorem abK {A B k:Nat}:cJ T [] [] 30 th (behind (az th) [1,1,0,1]) ⟨aE [0,1,5,4] [.mag A,.mag B,.int .i64 ((k:Int)-1),.int .i64 0],[],0⟩=
  some (ah.leaf aq.ret [int IntKind.i64 (0:Int)]):=ag
theorem amH {n:Nat} {z:Nat->Nat}:aI T [] [7] 30 [3,4,2] (before (az rN) [1,1,1,0,1]) ⟨aP 0 [.ak 1 n (aB z)],[],0⟩=
  some (ah.fork ((↑n:Int)==(0:Int)) (ah.leaf aq.ret ([tuple [],tuple [],int IntKind.i64 (0:Int)],[])) (ah.aj [(0:Int)<=IntKind.i64.wrap ((↑n:Int)-(1:Int))/\(IntKind.i64.wrap ((↑n:Int)-(1:Int))).toNat<n] (ah.leaf aq.normal ([int IntKind.i64 (IntKind.i64.wrap ((32:Int)*IntKind.i64.wrap ((↑n:Int)-(1:Int)))),int IntKind.u32 (↑(z (IntKind.i64.wrap ((↑n:Int)-(1:Int))).toNat):Int),int IntKind.i64 (0:Int)],[])))):=ag
theorem aeL {x y:Nat}:aI T [] [19] 30 [3,4,2] [part (az rN) [1,1,1,0,1,0,0]] ⟨aE [3,4,2] [.int .i64 x,.int .u32 y,.int .i64 0],[],0⟩=
  some (ah.fork ((↑y:Int)!=(0:Int)) (ah.aj [(0:Int)<=(1:Int)] (ah.leaf aq.normal ([int IntKind.i64 (IntKind.i64.wrap ((↑x:Int)+(1:Int))),int IntKind.u32 ((↑y:Int).fdiv ((2:Int)^min (Int.toNat (1:Int)) IntKind.u32.bits)),int IntKind.i64 (0:Int)],[]))) (ah.leaf (aq.exit 0) ([int IntKind.i64 (↑x:Int),int IntKind.u32 (↑y:Int),int IntKind.i64 (0:Int)],[]))):=ag
theorem Z9 {x y:Nat}:cJ T [] [] 30 rN (behind (az rN) [1,1,1,0,1]) ⟨aE [3,4,2] [.int .i64 x,.int .u32 y,.int .i64 0],[],0⟩=
  some (ah.leaf aq.ret [int IntKind.i64 (↑x:Int)]):=ag
theorem aiT {n:Nat} {z:Nat->Nat} (hz:∀i,i<n->z i<2^32) (hn:n<2^40) (K:Nat):aD P qW K [.ak 1 n (aB z)] [] (aK (.mag (val n z)) []):=by
 refine iP hT Ww rfl aW rfl (fun _ c h0=>?_) K []
 refine ay.hole [1,1,0] ag (aG.bB hT bC hm 30 [0,3] aiV ag fun s' hv=>cF ?_)
 refine ay.iC (i:=0) (y:=part (az oy) [1,1,0,0,0]) ag [0,3] 0 (h0 _) (fun k:Nat=>[.ak 1 n (aB z),.int .i64 k]) (fun _=>[]) (fun _=>rfl) (fun _=>trivial)
  (fun k=>k<=n/\∀i,k<=i->i<n->z i=0) id n hv ⟨aY,fun i h1 h2=>aa⟩ ?_
 rintro j ⟨hj,hzj⟩
 refine ay.bB hT bC hm 30 [0,3] ZF ag ?_
 have fin:(j=0\/z (j-1)≠0)->∀s',bw [0,3] s'=some ([.ak 1 n (aB z),.int .i64 j],[])->aG P c oy.ntmps (behind (az oy) [1,1,0]) s' (ep c (Fin T oy (.mag (val n z)))):=by
  intro hj0 s' hv
  refine aG.k8 hT bC hm 30 hv (h0 0) rfl trivial ada ag ag ?_
  simp only[ah.all,aA,aZ,Int.toNat_zero,Nat.zero_add,Nat.sub_zero,Nat.add_zero]
  have e:val n z=val j z:=nN hj hzj
  refine⟨⟨aa,aa,aa⟩,mu (by rw[e,Fv (fun i hi=>hz i aa) hj0]) fun i hi=>?_⟩
  rw[if_neg aa,e,ry (fun j hj=>hz j aa) hi]
  rfl
 have hw:0<j->IntKind.i64.wrap ((j:Int)-1)=((j-1:Nat):Int):=fun h=>by rw[wrap_i64 aa aa];omega
 refine⟨fun hb=>?_,fun hb=>?_⟩
 ·have h1:0<j:=by simpa using hb
  rw[hw h1]
  have hj1:j-1<n:=aa
  refine⟨⟨hb,aa,by rw[aZ];exact hj1⟩,fun hc s' hv=>?_,fun hc s' hv=>?_⟩
  ·refine⟨j-1,hv,⟨aa,fun i h1 h2=>?_⟩,by simp;omega⟩
   by_cases hi:i=j-1
   ·subst hi;simpa using hc
   ·exact hzj i aa h2
  ·exact fN (fin (.inr (by simpa using hc)) s' hv)
 ·have h1:j=0:=by simpa using hb
  refine⟨hb,fun hc=>by simp at hc,fun hc s' hv=>fN (fin (.inl h1) s' hv)⟩
theorem zo:∀K args pre r,uA K args pre=some r->aD P qW K args pre r:=
 cB (vW fun _ _ K hz need=>aiT hz need K)
theorem fB:bq P fh:=aH zo bC
theorem abu {x:Nat} (hx:x<2^64) (K:Nat):aD P sU K [.int .u64 x] [] (aK (.mag x) []):=by
 refine bY hT fB hm XF rfl aW rfl 30 ak2 (fun _=>?_) K []
 simp only[ah.all,aA,mE]
 refine⟨⟨aa,aa,fun i hi=>?_,aa⟩,dL (congrArg AV.mag ?_)⟩
 ·match i,hi with
  |0,_=>exact⟨x%2^32,aa,by simp[nth,j8]⟩
  |1,_=>exact⟨x/4294967296,aa,by simp[nth,mh];omega⟩
 ·rw[val_two]
  simp[nth,numOf,mh]
  omega
def zJ:Spec:=bU fun l=>match l with
 |[.int .u64 x]=>some (aK (.mag x.toNat) [0<=x/\x<2^64])
 |_=>none
theorem Cn:∀K args pre r,zJ K args pre=some r->aD P sU K args pre r:=by
 refine cB fun K args r hk hs _=>?_
 split at hs
 ·simp only[ax]at hs
  subst hs
  intro need
  obtain⟨h1,h2⟩:=need
  rename_i x
  obtain⟨y,rfl⟩:=Int.eq_ofNat_of_zero_le h1
  exact abu (x:=y) aa K trivial
 ·simp at hs
def gv (A:Nat):Bool:=decide (A<18446744073709551616)
theorem WA {A:Nat} (K:Nat):aD P xo K [.mag A] [] (aK (.tuple [.int .u64 (if gv A then A else 0:Nat),.bool (gv A)]) []):=by
 refine bY hT fB hm amO rfl aW rfl 30 abT (fun _=>?_) K []
 simp only[ah.all,aA,beq_iff_eq,beq_eq_false_iff_ne,ne_eq,Int.toNat_zero,show Int.toNat 1=1 from rfl]
 have hv:=gu (N:=A)
 have l0:=dK (N:=A) (i:=0)
 have l1:=dK (N:=A) (i:=1)
 have yes:∀{x:Int},A<2^64->x=(A:Nat)->en [.int .u64 x,.bool true] (.tuple [.int .u64 (if gv A then A else 0:Nat),.bool (gv A)]):=fun h hx=>by
  have:gv A=true:=by unfold gv;simpa using h
  rw[this,if_pos rfl]
  exact⟨bN hx,.refl _,trivial⟩
 refine⟨fun hb=>yes ?_ ?_,fun hb=>⟨fun h1=>⟨aa,yes ?_ ?_⟩,fun h1=>⟨fun h2=>⟨⟨aa,aa,aa⟩,yes ?_ ?_⟩,fun h2=>?_⟩⟩⟩
 ·have:A=0:=jK.1 aa
  omega
 ·have:A=0:=jK.1 aa
  rw[this];rfl
 ·exact qF aa
 ·rw[show nl A=1 by omega,val,val]at hv
  rw[cr aa aa]
  simp at hv;omega
 ·exact qF aa
 ·rw[show nl A=2 by omega,val,val,val]at hv
  have e1:IntKind.u64.wrap (aC A 0:Int)=((aC A 0:Nat):Int):=cr aa aa
  have e2:IntKind.u64.wrap (aC A 1:Int)=((aC A 1:Nat):Int):=cr aa aa
  have e3:IntKind.u64.wrap ((aC A 1:Int)*2^min (Int.toNat 32) IntKind.u64.bits)=((aC A 1*4294967296:Nat):Int):=by
   rw[xE,cr aa aa];omega
  rw[e1,e2,e3,vG aa aa]
  congr 1
  rw[Nat.or_comm,show 4294967296=2^32 from rfl,tA l0]
  simp at hv;omega
 ·have:gv A=false:=by
   unfold gv
   simp only[bz]
   intro h
   have:nl A<=2:=dB.2 h
   omega
  rw[this]
  exact⟨.refl _,.refl _,trivial⟩
def Gz:Spec:=bU fun l=>match l with
 |[a]=>match jr a with
  |some A=>some (aK (.tuple [.int .u64 (if gv A then A else 0:Nat),.bool (gv A)]) [])
  |none=>none
 |_=>none
theorem Su:∀K args pre r,Gz K args pre=some r->aD P xo K args pre r:=by
 refine cB fun K args r hk hs _=>?_
 split at hs
 ·split at hs
  ·rename_i A hA
   simp only[ax]at hs
   subst hs
   exact gR (WA K) hk ⟨mq hA,trivial⟩ []
  ·simp at hs
 ·simp at hs
theorem UC {A B:Nat} (hA:nl A<2^40) (hB:nl B<2^40) (K:Nat):aD P sq K [.mag A,.mag B] [] (aK (.int .i64 (cZ A B)) []):=by
 refine iP hT W8 rfl aW rfl (fun _ c h0=>?_) K []
 refine ay.hole [1,1,0,1] ag (aG.bB hT bC hm 30 [0,1,5,4] ajF ag ?_)
 simp only[ah.all,aA,bh,bz,bne_iff_ne,ne_eq,Int.natCast_inj,bne_eq_false_iff_eq]
 refine⟨fun hb=>⟨fun hb2 s' hv=>fO (.inl ?_),fun hb2 s' hv=>fO (.inl ?_)⟩,fun hb s' hv=>cF ?_⟩
 ·have h1:A<B:=FO aa
  exact gM (us:=[.int .i64 (-1)]) (.inr rfl) hv ag (bN (by simp[cZ,h1]))
 ·have h1:B<A:=FO aa
  exact gM (us:=[.int .i64 1]) (.inr rfl) hv ag (bN (by simp[cZ,h1];omega))
 refine ay.iC (i:=0) (y:=part (az th) [1,1,0,1,0,0]) ag [0,1,5,4] 0 (h0 _) (fun k:Nat=>[.mag A,.mag B,.int .i64 ((k:Int)-1),.int .i64 0]) (fun _=>[]) (fun _=>rfl) (fun _=>trivial)
  (fun k=>k<=nl A/\∀j,k<=j->j<nl A->aC A j=aC B j) id (nl A) (dP hv (by rw[wrap_i64 aa aa]) rfl) ⟨by simp,fun j h1 h2=>aa⟩ ?_
 rintro k ⟨hk,hlim⟩
 refine ay.bB hT bC hm 30 [0,1,5,4] aaf ag ?_
 simp only[ah.all,aA,bh,bz]
 refine⟨fun hb2=>?_,fun hb2 s' hv=>fN ?_⟩
 ·obtain⟨j,rfl⟩:∃j,k=j+1:=⟨k-1,aa⟩
  have e:(((j+1:Nat):Int)-1).toNat=j:=aa
  rw[e]
  refine⟨⟨aa,aa⟩,fun hlt s' hv=>SQ (fO (.inl ?_)),fun hlt=>⟨⟨aa,aa⟩,fun hgt s' hv=>SQ (fO (.inl ?_)),fun hgt s' hv=>?_⟩⟩
  ·have h1:A<B:=FN hb (k:=j) aa (fun i h1 h2=>hlim i aa h2) aa
   exact gM (us:=[.int .i64 (-1)]) (.inr rfl) hv ag (bN (by simp[cZ,h1]))
  ·have h1:B<A:=FN hb.symm (k:=j) aa (fun i h1 h2=>(hlim i aa aa).symm) aa
   exact gM (us:=[.int .i64 1]) (.inr rfl) hv ag (bN (by simp[cZ,h1];omega))
  ·refine⟨j,dP hv (by rw[wrap_i64 aa aa];congr 4;omega) rfl,⟨aa,fun i h1 h2=>?_⟩,by simp⟩
   by_cases hi:i=j
   ·subst hi;omega
   ·exact hlim i aa h2
 ·have hk0:k=0:=aa
  have hAB:A=B:=G6 hb fun i hi=>hlim i aa hi
  exact cF (aG.k8 hT bC hm 30 hv (h0 0) rfl trivial abK ag ag (bN (by simp[cZ,hAB])))
def nS (g:Nat->Nat->AV) (l:Nat->Nat->List Prop):Spec:=bU fun a=>match a with
 |[x,y]=>match jr x,jr y with
  |some A,some B=>some (aK (g A B) (l A B))
  |_,_=>none
 |_=>none
theorem rB {f:FuncId} {g:Nat->Nat->AV} {l:Nat->Nat->List Prop} (h:∀{A B:Nat},aA (l A B)->∀K,aD P f K [.mag A,.mag B] [] (aK (g A B) [])):∀K args pre r,nS g l K args pre=some r->aD P f K args pre r:=by
 refine cB fun K args r hk hs _=>?_
 split at hs
 ·split at hs
  ·rename_i A B hA hB
   simp only[ax]at hs
   subst hs
   exact fun need=>gR (h need K) hk ⟨mq hA,mq hB,trivial⟩ [] trivial
  ·simp at hs
 ·simp at hs
abbrev La (A B:Nat):List Prop:=[nl A<2^40,nl B<2^40]
def Au:Spec:=nS (fun A B=>.int .i64 (cZ A B)) La
theorem Bb:∀K args pre r,Au K args pre=some r->aD P sq K args pre r:=rB fun h=>UC h.1 h.2
theorem agL {n:Nat} {z:Nat->Nat} (hz:∀i,i<n->z i<2^32) (hn:n<2^40) (hnl:nl (val n z)=n) (K:Nat):aD P Ec K [.ak 1 n (aB z)] [] (aK (.int .i64 (bM (val n z):Nat)) []):=by
 refine iP hT XW rfl aW rfl (fun _ c h0=>?_) K []
 refine ay.hole [1,1,1,0,1] ag (aG.bB hT bC hm 30 [3,4,2] amH ag ?_)
 simp only[ah.all,aA,beq_iff_eq,beq_eq_false_iff_ne,ne_eq]
 refine⟨fun hb s' hv=>fO (.inl ?_),fun hb=>?_⟩
 ·have h1:n=0:=aa
  have h2:val n z=0:=by rw[h1];rfl
  exact gM (us:=[.int .i64 0]) (.inr rfl) hv ag (bN (by rw[h2];rfl))
 have w1:IntKind.i64.wrap ((n:Int)-1)=((n-1:Nat):Int):=eV aa aa
 have w2:IntKind.i64.wrap (32*((n-1:Nat):Int))=((32*(n-1):Nat):Int):=eV aa aa
 rw[w1,w2]
 simp only[aZ]
 refine⟨aa,fun s' hv=>cF ?_⟩
 have hzt:=hz (n-1) aa
 have htot:bM (val n z)=32*(n-1)+bM (z (n-1)):=by
  have h0:val n z≠0:=gG.1 aa
  rw[Sh h0,hnl,ry hz aa]
 refine ay.iC (i:=0) (y:=part (az rN) [1,1,1,0,1,0,0]) ag [3,4,2] 0 (h0 _) (fun p:Nat×Nat=>[.int .i64 (p.1:Nat),.int .u32 (p.2:Nat),.int .i64 0]) (fun _=>[]) (fun _=>rfl) (fun _=>trivial)
  (fun p=>p.1+bM p.2=bM (val n z)/\p.2<2^32) (fun p=>p.2) (32*(n-1),z (n-1)) hv ⟨htot.symm,hzt⟩ ?_
 rintro⟨x,y⟩ ⟨hxy,hy⟩
 simp only at hxy hy
 have hb32:bM (z (n-1))<=32:=jz.2 hzt
 refine ay.bB hT bC hm 30 [3,4,2] aeL ag ?_
 rw[Ax (by decide) (by decide)]
 simp only[ah.all,aA,bne_iff_ne,ne_eq,bne_eq_false_iff_eq,show Int.toNat 1=1 from rfl]
 refine⟨fun hc=>⟨aa,fun s' hv=>?_⟩,fun hc s' hv=>fN (cF ?_)⟩
 ·have hy0:0<y:=aa
  have e:bM y=1+bM (y/2):=by
   by_cases h1:y=1
   ·rw[h1];decide
   ·exact vJ (k:=1) aa
  have hd:y/2<y:=aa
  exact⟨(x+1,y/2),dP hv (by rw[eV (a:=(x:Int)+1) (n:=x+1) aa aa]) rfl,⟨by simp only;omega,by simp only;omega⟩,by simp only;omega⟩
 ·have hy0:y=0:=aa
  refine aG.k8 hT bC hm 30 hv (h0 0) rfl trivial Z9 ag ag (bN ?_)
  rw[hy0]at hxy
  simp[bM]at hxy
  rw[hxy];simp[bM]
def Q1:Spec:=bU (mm fun N n=>aK (.int .i64 (bM N:Nat)) [n<2^40,nl N=n])
theorem acQ:∀K args pre r,Q1 K args pre=some r->aD P Ec K args pre r:=
 cB (vW fun _ _ K hz need=>agL hz need.1 need.2 K)
end Go.Am.B
