/- ref01. -/
import Derived.Test.YtppeigelbecpbaaGreatB21
set_option linter.unusedVariables false
namespace Go.Am.B
open Go Go.Am.N AV
theorem agT:aT P qx ni (aA ni):=aY Proofs.Tryz.func208 ag ag ag
theorem adr:aT P tJ EC (aA EC):=aY Proofs.Tryz.func174 ag ag ag
theorem acq:aT P yJ F7 (aA F7):=aY Proofs.Tryz.func237 ag ag ag
theorem alU:aT P sn tg (aA tg):=aY Proofs.Tryz.func150 ag ag ag
theorem Zj:aT P DH sO (aA sO):=aY Proofs.Tryz.func238 ag ag ag
theorem abD {n:Nat} {z:Nat->Nat}:aH T [] [] 30 [0,3] (before (aA ni) [1,1,0]) ⟨aQ 0 [.aq 1 n (aD z)],[],0⟩=
  some (ah.leaf au.normal ([aq 1 n (aD z),int IntKind.i64 (↑n:Int)],[])):=ag
theorem VB {n k:Nat} {z:Nat->Nat}:aH T [] [8,15] 30 [0,3] [part (aA ni) [1,1,0,0,0]] ⟨aC [0,3] [.aq 1 n (aD z),.int .i64 k],[],0⟩=
  some (ah.fork (decide ((↑k:Int)>(0:Int))) (ah.aj [decide ((↑k:Int)>(0:Int))=true,(0:Int)<=IntKind.i64.wrap ((↑k:Int)-(1:Int))/\(IntKind.i64.wrap ((↑k:Int)-(1:Int))).toNat<n] (ah.fork (bif true then(↑(z (IntKind.i64.wrap ((↑k:Int)-(1:Int))).toNat):Int)==(0:Int)else false) (ah.leaf au.normal ([aq 1 n (aD z),int IntKind.i64 (IntKind.i64.wrap ((↑k:Int)-(1:Int)))],[])) (ah.leaf (au.exit 0) ([aq 1 n (aD z),int IntKind.i64 (↑k:Int)],[])))) (ah.aj [decide ((↑k:Int)>(0:Int))=false] (ah.fork false (ah.leaf au.normal ([aq 1 n (aD z),int IntKind.i64 (IntKind.i64.wrap ((↑k:Int)-(1:Int)))],[])) (ah.leaf (au.exit 0) ([aq 1 n (aD z),int IntKind.i64 (↑k:Int)],[]))))):=ag
theorem afE {n k:Nat} {z:Nat->Nat}:cw T [] [] 30 ni (behind (aA ni) [1,1,0]) ⟨aC [0,3] [.aq 1 n (aD z),.int .i64 k],[],0⟩=
  some (ah.aj [(0:Nat)*1<=2^24,(0:Int)<=(0:Int)/\(0:Int)<=(↑k:Int)/\(↑k:Int)<=(↑k:Int)/\(↑k:Int)<=(↑n:Int),((0:Nat)+((↑k:Int).toNat-Int.toNat (0:Int)))*((4:Nat)+1)*2<=2^47] (ah.leaf au.ret [aq 1 ((0:Nat)+((↑k:Int).toNat-Int.toNat (0:Int))) fun(i:Nat)=>if i+0<0 then nth [] (int IntKind.u32 (0:Int)) (i+0)else aD z (i+0-0+Int.toNat (0:Int))])):=ag
def uN:Spec:=bX (mo fun N n=>aK (.mag N) [n<2^40])
def eJ:bg:=[(qx,uN)]
theorem aeV {n:Nat}:bW T eJ [] 30 EC (aA EC) ⟨aQ 0 [.int .u64 n],[],0⟩=
  some (ah.aj [(0:Int)<=(32:Int),(2:Nat)*1<=2^24,dQ 2 fun(i:Nat)=>nth [int IntKind.u32 (IntKind.u32.wrap (↑n:Int)),int IntKind.u32 (IntKind.u32.wrap ((↑n:Int).fdiv ((2:Int)^min (Int.toNat (32:Int)) IntKind.u64.bits)))] (int IntKind.u32 (0:Int)) (i+0),(2:Nat)<2^40] (ah.leaf au.ret [mag (val 2 fun(i:Nat)=>numOf (nth [int IntKind.u32 (IntKind.u32.wrap (↑n:Int)),int IntKind.u32 (IntKind.u32.wrap ((↑n:Int).fdiv ((2:Int)^min (Int.toNat (32:Int)) IntKind.u64.bits)))] (int IntKind.u32 (0:Int)) (i+0)))])):=ag
theorem ajc {A:Nat}:bW T eJ [6,8,14] 30 F7 (aA F7) ⟨aQ 0 [.mag A],[],0⟩=
  some (ah.fork ((↑(nl A):Int)==(0:Int)) (ah.leaf au.ret [int IntKind.u64 (0:Int),AV.bool true]) (ah.fork ((↑(nl A):Int)==(1:Int)) (ah.aj [(0:Int)<=(0:Int)/\Int.toNat (0:Int)<nl A] (ah.leaf au.ret [int IntKind.u64 (IntKind.u64.wrap (↑(aG A (Int.toNat (0:Int))):Int)),AV.bool true])) (ah.fork ((↑(nl A):Int)==(2:Int)) (ah.aj [(0:Int)<=(0:Int)/\Int.toNat (0:Int)<nl A,(0:Int)<=(1:Int)/\Int.toNat (1:Int)<nl A,(0:Int)<=(32:Int)] (ah.leaf au.ret [int IntKind.u64 (IntKind.u64.wrap (↑(BitVec.ofInt IntKind.u64.bits (IntKind.u64.wrap (↑(aG A (Int.toNat (0:Int))):Int))|||BitVec.ofInt IntKind.u64.bits (IntKind.u64.wrap (IntKind.u64.wrap (↑(aG A (Int.toNat (1:Int))):Int)*(2:Int)^min (Int.toNat (32:Int)) IntKind.u64.bits))).toNat:Int)),AV.bool true])) (ah.leaf au.ret [int IntKind.u64 (0:Int),AV.bool false])))):=ag
theorem ajQ {A B:Nat}:aH T [] [10,15] 30 [0,1,5,4] (before (aA tg) [1,1,0,1]) ⟨aQ 0 [.mag A,.mag B],[],0⟩=
  some (ah.fork ((↑(nl A):Int)!=(↑(nl B):Int)) (ah.fork (decide ((↑(nl A):Int)<(↑(nl B):Int))) (ah.leaf au.ret ([mag A,mag B,tuple [],int IntKind.i64 (-1:Int)],[])) (ah.leaf au.ret ([mag A,mag B,tuple [],int IntKind.i64 (1:Int)],[]))) (ah.leaf au.normal ([mag A,mag B,int IntKind.i64 (IntKind.i64.wrap ((↑(nl A):Int)-(1:Int))),int IntKind.i64 (0:Int)],[]))):=ag
theorem aaT {A B k:Nat}:aH T [] [20,31,40] 30 [0,1,5,4] [part (aA tg) [1,1,0,1,0,0]] ⟨aC [0,1,5,4] [.mag A,.mag B,.int .i64 ((k:Int)-1),.int .i64 0],[],0⟩=
  some (ah.fork (decide ((↑k:Int)-(1:Int)>=(0:Int))) (ah.aj [(0:Int)<=(↑k:Int)-(1:Int)/\((↑k:Int)-(1:Int)).toNat<nl A,(0:Int)<=(↑k:Int)-(1:Int)/\((↑k:Int)-(1:Int)).toNat<nl B] (ah.fork (decide ((↑(aG A ((↑k:Int)-(1:Int)).toNat):Int)<(↑(aG B ((↑k:Int)-(1:Int)).toNat):Int))) (ah.leaf au.ret ([mag A,mag B,int IntKind.i64 ((↑k:Int)-(1:Int)),int IntKind.i64 (-1:Int)],[])) (ah.aj [(0:Int)<=(↑k:Int)-(1:Int)/\((↑k:Int)-(1:Int)).toNat<nl A,(0:Int)<=(↑k:Int)-(1:Int)/\((↑k:Int)-(1:Int)).toNat<nl B] (ah.fork (decide ((↑(aG A ((↑k:Int)-(1:Int)).toNat):Int)>(↑(aG B ((↑k:Int)-(1:Int)).toNat):Int))) (ah.leaf au.ret ([mag A,mag B,int IntKind.i64 ((↑k:Int)-(1:Int)),int IntKind.i64 (1:Int)],[])) (ah.leaf au.normal ([mag A,mag B,int IntKind.i64 (IntKind.i64.wrap ((↑k:Int)-(1:Int)-(1:Int))),int IntKind.i64 (0:Int)],[])))))) (ah.leaf (au.exit 0) ([mag A,mag B,int IntKind.i64 ((↑k:Int)-(1:Int)),int IntKind.i64 (0:Int)],[]))):=ag
theorem Zx {A B k:Nat}:cw T [] [] 30 tg (behind (aA tg) [1,1,0,1]) ⟨aC [0,1,5,4] [.mag A,.mag B,.int .i64 ((k:Int)-1),.int .i64 0],[],0⟩=
  some (ah.leaf au.ret [int IntKind.i64 (0:Int)]):=ag
theorem UQ {n:Nat} {z:Nat->Nat}:aH T [] [7] 30 [3,4,2] (before (aA sO) [1,1,1,0,1]) ⟨aQ 0 [.aq 1 n (aD z)],[],0⟩=
  some (ah.fork ((↑n:Int)==(0:Int)) (ah.leaf au.ret ([tuple [],tuple [],int IntKind.i64 (0:Int)],[])) (ah.aj [(0:Int)<=IntKind.i64.wrap ((↑n:Int)-(1:Int))/\(IntKind.i64.wrap ((↑n:Int)-(1:Int))).toNat<n] (ah.leaf au.normal ([int IntKind.i64 (IntKind.i64.wrap ((32:Int)*IntKind.i64.wrap ((↑n:Int)-(1:Int)))),int IntKind.u32 (↑(z (IntKind.i64.wrap ((↑n:Int)-(1:Int))).toNat):Int),int IntKind.i64 (0:Int)],[])))):=ag
theorem aeB {x y:Nat}:aH T [] [19] 30 [3,4,2] [part (aA sO) [1,1,1,0,1,0,0]] ⟨aC [3,4,2] [.int .i64 x,.int .u32 y,.int .i64 0],[],0⟩=
  some (ah.fork ((↑y:Int)!=(0:Int)) (ah.aj [(0:Int)<=(1:Int)] (ah.leaf au.normal ([int IntKind.i64 (IntKind.i64.wrap ((↑x:Int)+(1:Int))),int IntKind.u32 ((↑y:Int).fdiv ((2:Int)^min (Int.toNat (1:Int)) IntKind.u32.bits)),int IntKind.i64 (0:Int)],[]))) (ah.leaf (au.exit 0) ([int IntKind.i64 (↑x:Int),int IntKind.u32 (↑y:Int),int IntKind.i64 (0:Int)],[]))):=ag
theorem Vp {x y:Nat}:cw T [] [] 30 sO (behind (aA sO) [1,1,1,0,1]) ⟨aC [3,4,2] [.int .i64 x,.int .u32 y,.int .i64 0],[],0⟩=
  some (ah.leaf au.ret [int IntKind.i64 (↑x:Int)]):=ag
theorem afP {n:Nat} {z:Nat->Nat} (hz:∀i,i<n->z i<2^32) (hn:n<2^40) (K:Nat):aE P qx K [.aq 1 n (aD z)] [] (aK (.mag (val n z)) []):=by
 refine gr hT agT rfl aX rfl (fun _ c h0=>?_) K []
 refine ax.hole [1,1,0] ag (aI.bA hT bO hm 30 [0,3] abD ag fun s' hv=>cJ ?_)
 refine ax.g9 (i:=0) (y:=part (aA ni) [1,1,0,0,0]) ag [0,3] 0 (h0 _) (fun k:Nat=>[.aq 1 n (aD z),.int .i64 k]) (fun _=>[]) (fun _=>rfl) (fun _=>trivial)
  (fun k=>k<=n/\∀i,k<=i->i<n->z i=0) id n hv ⟨aU,fun i h1 h2=>aa⟩ ?_
 rintro j ⟨hj,hzj⟩
 refine ax.bA hT bO hm 30 [0,3] VB ag ?_
 have fin:(j=0\/z (j-1)≠0)->∀s',bt [0,3] s'=some ([.aq 1 n (aD z),.int .i64 j],[])->aI P c ni.ntmps (behind (aA ni) [1,1,0]) s' (dP c (Fin T ni (.mag (val n z)))):=by
  intro hj0 s' hv
  refine aI.jZ hT bO hm 30 hv (h0 0) rfl trivial afE ag ag ?_
  simp only[ah.all,az,aW,Int.toNat_zero,Nat.zero_add,Nat.sub_zero,Nat.add_zero]
  have e:val n z=val j z:=nq hj hzj
  refine⟨⟨aa,aa,aa⟩,lO (by rw[e,CW (fun i hi=>hz i aa) hj0]) fun i hi=>?_⟩
  rw[if_neg aa,e,qN (fun j hj=>hz j aa) hi]
  rfl
 have hw:0<j->IntKind.i64.wrap ((j:Int)-1)=((j-1:Nat):Int):=fun h=>by rw[wrap_i64 aa aa];omega
 refine⟨fun hb=>?_,fun hb=>?_⟩
 ·have h1:0<j:=by simpa using hb
  rw[hw h1]
  have hj1:j-1<n:=aa
  refine⟨⟨hb,aa,by rw[aW];exact hj1⟩,fun hc s' hv=>?_,fun hc s' hv=>?_⟩
  ·refine⟨j-1,hv,⟨aa,fun i h1 h2=>?_⟩,by simp;omega⟩
   by_cases hi:i=j-1
   ·subst hi;simpa using hc
   ·exact hzj i aa h2
  ·exact fC (fin (.inr (by simpa using hc)) s' hv)
 ·have h1:j=0:=by simpa using hb
  refine⟨hb,fun hc=>by simp at hc,fun hc s' hv=>fC (fin (.inl h1) s' hv)⟩
theorem xC:∀K args pre r,uN K args pre=some r->aE P qx K args pre r:=
 cK (uR fun _ _ K hz need=>afP hz need K)
theorem eZ:bz P eJ:=aL xC bO
theorem aiZ {x:Nat} (hx:x<2^64) (K:Nat):aE P tJ K [.int .u64 x] [] (aK (.mag x) []):=by
 refine cj hT eZ hm adr rfl aX rfl 30 aeV (fun _=>?_) K []
 simp only[ah.all,az,lM]
 refine⟨⟨aa,aa,fun i hi=>?_,aa⟩,dF (congrArg AV.mag ?_)⟩
 ·match i,hi with
  |0,_=>exact⟨x%2^32,aa,by simp[nth,jN]⟩
  |1,_=>exact⟨x/4294967296,aa,by simp[nth,l5];omega⟩
 ·rw[val_two]
  simp[nth,numOf,l5]
  omega
def AE:Spec:=bX fun l=>match l with
 |[.int .u64 x]=>some (aK (.mag x.toNat) [0<=x/\x<2^64])
 |_=>none
theorem FN:∀K args pre r,AE K args pre=some r->aE P tJ K args pre r:=by
 refine cK fun K args r hk hs _=>?_
 split at hs
 ·simp only[ay]at hs
  subst hs
  intro need
  obtain⟨h1,h2⟩:=need
  rename_i x
  obtain⟨y,rfl⟩:=Int.eq_ofNat_of_zero_le h1
  exact aiZ (x:=y) aa K trivial
 ·simp at hs
def gb (A:Nat):Bool:=decide (A<18446744073709551616)
theorem akb {A:Nat} (K:Nat):aE P yJ K [.mag A] [] (aK (.tuple [.int .u64 (if gb A then A else 0:Nat),.bool (gb A)]) []):=by
 refine cj hT eZ hm acq rfl aX rfl 30 ajc (fun _=>?_) K []
 simp only[ah.all,az,beq_iff_eq,beq_eq_false_iff_ne,ne_eq,Int.toNat_zero,show Int.toNat 1=1 from rfl]
 have hv:=fZ (N:=A)
 have l0:=dG (N:=A) (i:=0)
 have l1:=dG (N:=A) (i:=1)
 have yes:∀{x:Int},A<2^64->x=(A:Nat)->eF [.int .u64 x,.bool true] (.tuple [.int .u64 (if gb A then A else 0:Nat),.bool (gb A)]):=fun h hx=>by
  have:gb A=true:=by unfold gb;simpa using h
  rw[this,if_pos rfl]
  exact⟨bQ hx,.refl _,trivial⟩
 refine⟨fun hb=>yes ?_ ?_,fun hb=>⟨fun h1=>⟨aa,yes ?_ ?_⟩,fun h1=>⟨fun h2=>⟨⟨aa,aa,aa⟩,yes ?_ ?_⟩,fun h2=>?_⟩⟩⟩
 ·have:A=0:=jG.1 aa
  omega
 ·have:A=0:=jG.1 aa
  rw[this];rfl
 ·exact qV aa
 ·rw[show nl A=1 by omega,val,val]at hv
  rw[cu aa aa]
  simp at hv;omega
 ·exact qV aa
 ·rw[show nl A=2 by omega,val,val,val]at hv
  have e1:IntKind.u64.wrap (aG A 0:Int)=((aG A 0:Nat):Int):=cu aa aa
  have e2:IntKind.u64.wrap (aG A 1:Int)=((aG A 1:Nat):Int):=cu aa aa
  have e3:IntKind.u64.wrap ((aG A 1:Int)*2^min (Int.toNat 32) IntKind.u64.bits)=((aG A 1*4294967296:Nat):Int):=by
   rw[Ab,cu aa aa];omega
  rw[e1,e2,e3,uC aa aa]
  congr 1
  rw[Nat.or_comm,show 4294967296=2^32 from rfl,ue l0]
  simp at hv;omega
 ·have:gb A=false:=by
   unfold gb
   simp only[bk]
   intro h
   have:nl A<=2:=dz.2 h
   omega
  rw[this]
  exact⟨.refl _,.refl _,trivial⟩
def Jh:Spec:=bX fun l=>match l with
 |[a]=>match je a with
  |some A=>some (aK (.tuple [.int .u64 (if gb A then A else 0:Nat),.bool (gb A)]) [])
  |none=>none
 |_=>none
theorem Pu:∀K args pre r,Jh K args pre=some r->aE P yJ K args pre r:=by
 refine cK fun K args r hk hs _=>?_
 split at hs
 ·split at hs
  ·rename_i A hA
   simp only[ay]at hs
   subst hs
   exact gD (akb K) hk ⟨lW hA,trivial⟩ []
  ·simp at hs
 ·simp at hs
theorem Zt {A B:Nat} (hA:nl A<2^40) (hB:nl B<2^40) (K:Nat):aE P sn K [.mag A,.mag B] [] (aK (.int .i64 (cX A B)) []):=by
 refine gr hT alU rfl aX rfl (fun _ c h0=>?_) K []
 refine ax.hole [1,1,0,1] ag (aI.bA hT bO hm 30 [0,1,5,4] ajQ ag ?_)
 simp only[ah.all,az,aZ,bk,bne_iff_ne,ne_eq,Int.natCast_inj,bne_eq_false_iff_eq]
 refine⟨fun hb=>⟨fun hb2 s' hv=>fA (.inl ?_),fun hb2 s' hv=>fA (.inl ?_)⟩,fun hb s' hv=>cJ ?_⟩
 ·have h1:A<B:=Fq aa
  exact gy (us:=[.int .i64 (-1)]) (.inr rfl) hv ag (bQ (by simp[cX,h1]))
 ·have h1:B<A:=Fq aa
  exact gy (us:=[.int .i64 1]) (.inr rfl) hv ag (bQ (by simp[cX,h1];omega))
 refine ax.g9 (i:=0) (y:=part (aA tg) [1,1,0,1,0,0]) ag [0,1,5,4] 0 (h0 _) (fun k:Nat=>[.mag A,.mag B,.int .i64 ((k:Int)-1),.int .i64 0]) (fun _=>[]) (fun _=>rfl) (fun _=>trivial)
  (fun k=>k<=nl A/\∀j,k<=j->j<nl A->aG A j=aG B j) id (nl A) (dJ hv (by rw[wrap_i64 aa aa]) rfl) ⟨by simp,fun j h1 h2=>aa⟩ ?_
 rintro k ⟨hk,hlim⟩
 refine ax.bA hT bO hm 30 [0,1,5,4] aaT ag ?_
 simp only[ah.all,az,aZ,bk]
 refine⟨fun hb2=>?_,fun hb2 s' hv=>fC ?_⟩
 ·obtain⟨j,rfl⟩:∃j,k=j+1:=⟨k-1,aa⟩
  have e:(((j+1:Nat):Int)-1).toNat=j:=aa
  rw[e]
  refine⟨⟨aa,aa⟩,fun hlt s' hv=>PC (fA (.inl ?_)),fun hlt=>⟨⟨aa,aa⟩,fun hgt s' hv=>PC (fA (.inl ?_)),fun hgt s' hv=>?_⟩⟩
  ·have h1:A<B:=Bk hb (k:=j) aa (fun i h1 h2=>hlim i aa h2) aa
   exact gy (us:=[.int .i64 (-1)]) (.inr rfl) hv ag (bQ (by simp[cX,h1]))
  ·have h1:B<A:=Bk hb.symm (k:=j) aa (fun i h1 h2=>(hlim i aa aa).symm) aa
   exact gy (us:=[.int .i64 1]) (.inr rfl) hv ag (bQ (by simp[cX,h1];omega))
  ·refine⟨j,dJ hv (by rw[wrap_i64 aa aa];congr 4;omega) rfl,⟨aa,fun i h1 h2=>?_⟩,by simp⟩
   by_cases hi:i=j
   ·subst hi;omega
   ·exact hlim i aa h2
 ·have hk0:k=0:=aa
  have hAB:A=B:=Lt hb fun i hi=>hlim i aa hi
  exact cJ (aI.jZ hT bO hm 30 hv (h0 0) rfl trivial Zx ag ag (bQ (by simp[cX,hAB])))
def nD (g:Nat->Nat->AV) (l:Nat->Nat->List Prop):Spec:=bX fun a=>match a with
 |[x,y]=>match je x,je y with
  |some A,some B=>some (aK (g A B) (l A B))
  |_,_=>none
 |_=>none
theorem pM {f:FuncId} {g:Nat->Nat->AV} {l:Nat->Nat->List Prop} (h:∀{A B:Nat},az (l A B)->∀K,aE P f K [.mag A,.mag B] [] (aK (g A B) [])):∀K args pre r,nD g l K args pre=some r->aE P f K args pre r:=by
 refine cK fun K args r hk hs _=>?_
 split at hs
 ·split at hs
  ·rename_i A B hA hB
   simp only[ay]at hs
   subst hs
   exact fun need=>gD (h need K) hk ⟨lW hA,lW hB,trivial⟩ [] trivial
  ·simp at hs
 ·simp at hs
abbrev G7 (A B:Nat):List Prop:=[nl A<2^40,nl B<2^40]
def zT:Spec:=nD (fun A B=>.int .i64 (cX A B)) G7
theorem E3:∀K args pre r,zT K args pre=some r->aE P sn K args pre r:=pM fun h=>Zt h.1 h.2
theorem ae9 {n:Nat} {z:Nat->Nat} (hz:∀i,i<n->z i<2^32) (hn:n<2^40) (hnl:nl (val n z)=n) (K:Nat):aE P DH K [.aq 1 n (aD z)] [] (aK (.int .i64 (bN (val n z):Nat)) []):=by
 refine gr hT Zj rfl aX rfl (fun _ c h0=>?_) K []
 refine ax.hole [1,1,1,0,1] ag (aI.bA hT bO hm 30 [3,4,2] UQ ag ?_)
 simp only[ah.all,az,beq_iff_eq,beq_eq_false_iff_ne,ne_eq]
 refine⟨fun hb s' hv=>fA (.inl ?_),fun hb=>?_⟩
 ·have h1:n=0:=aa
  have h2:val n z=0:=by rw[h1];rfl
  exact gy (us:=[.int .i64 0]) (.inr rfl) hv ag (bQ (by rw[h2];rfl))
 have w1:IntKind.i64.wrap ((n:Int)-1)=((n-1:Nat):Int):=eC aa aa
 have w2:IntKind.i64.wrap (32*((n-1:Nat):Int))=((32*(n-1):Nat):Int):=eC aa aa
 rw[w1,w2]
 simp only[aW]
 refine⟨aa,fun s' hv=>cJ ?_⟩
 have hzt:=hz (n-1) aa
 have htot:bN (val n z)=32*(n-1)+bN (z (n-1)):=by
  have h0:val n z≠0:=gn.1 aa
  rw[SH h0,hnl,qN hz aa]
 refine ax.g9 (i:=0) (y:=part (aA sO) [1,1,1,0,1,0,0]) ag [3,4,2] 0 (h0 _) (fun p:Nat×Nat=>[.int .i64 (p.1:Nat),.int .u32 (p.2:Nat),.int .i64 0]) (fun _=>[]) (fun _=>rfl) (fun _=>trivial)
  (fun p=>p.1+bN p.2=bN (val n z)/\p.2<2^32) (fun p=>p.2) (32*(n-1),z (n-1)) hv ⟨htot.symm,hzt⟩ ?_
 rintro⟨x,y⟩ ⟨hxy,hy⟩
 simp only at hxy hy
 have hb32:bN (z (n-1))<=32:=jI.2 hzt
 refine ax.bA hT bO hm 30 [3,4,2] aeB ag ?_
 rw[yD (by decide) (by decide)]
 simp only[ah.all,az,bne_iff_ne,ne_eq,bne_eq_false_iff_eq,show Int.toNat 1=1 from rfl]
 refine⟨fun hc=>⟨aa,fun s' hv=>?_⟩,fun hc s' hv=>fC (cJ ?_)⟩
 ·have hy0:0<y:=aa
  have e:bN y=1+bN (y/2):=by
   by_cases h1:y=1
   ·rw[h1];decide
   ·exact ux (k:=1) aa
  have hd:y/2<y:=aa
  exact⟨(x+1,y/2),dJ hv (by rw[eC (a:=(x:Int)+1) (n:=x+1) aa aa]) rfl,⟨by simp only;omega,by simp only;omega⟩,by simp only;omega⟩
 ·have hy0:y=0:=aa
  refine aI.jZ hT bO hm 30 hv (h0 0) rfl trivial Vp ag ag (bQ ?_)
  rw[hy0]at hxy
  simp[bN]at hxy
  rw[hxy];simp[bN]
def Ok:Spec:=bX (mo fun N n=>aK (.int .i64 (bN N:Nat)) [n<2^40,nl N=n])
theorem akn:∀K args pre r,Ok K args pre=some r->aE P DH K args pre r:=
 cK (uR fun _ _ K hz need=>ae9 hz need.1 need.2 K)
end Go.Am.B
