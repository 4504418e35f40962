/- ref01: Trim, Of, small, Cmp, Bits. -/
import Derived.Test.YtppeigelbecpbaaGreatB21
set_option linter.unusedVariables false
namespace Go.Am.B
open Go Go.Am.N AV
theorem Mh:aN P kH ji (au ji):=aO VF (by kernel_rfl) (by kernel_rfl) (by kernel_rfl)
theorem Lj:aN P mD qB (au qB):=aO J1 (by kernel_rfl) (by kernel_rfl) (by kernel_rfl)
theorem KJ:aN P ql uj (au uj):=aO RF (by kernel_rfl) (by kernel_rfl) (by kernel_rfl)
theorem Y7:aN P mB lP (au lP):=aO Pb (by kernel_rfl) (by kernel_rfl) (by kernel_rfl)
theorem P3:aN P sr lM (au lM):=aO WY (by kernel_rfl) (by kernel_rfl) (by kernel_rfl)
theorem N4 {n:Nat} {z:Nat→Nat}:aJ T [] [] 30 [0,3] (before (au ji) [1,1,0]) ⟨aM 0 [.aq 1 n (ax z)],[],0⟩=
  some (aa.leaf ah.normal ([aq 1 n (ax z),int IntKind.i64 (↑n:Int)],[])):=by kernel_rfl
theorem U9 {n k:Nat} {z:Nat→Nat}:aJ T [] [8,15] 30 [0,3] [part (au ji) [1,1,0,0,0]] ⟨aD [0,3] [.aq 1 n (ax z),.int .i64 k],[],0⟩=
  some (aa.fork (decide ((↑k:Int)>(0:Int))) (aa.ag [decide ((↑k:Int)>(0:Int))=true,(0:Int)≤IntKind.i64.wrap ((↑k:Int)-(1:Int))∧(IntKind.i64.wrap ((↑k:Int)-(1:Int))).toNat<n] (aa.fork (bif true then(↑(z (IntKind.i64.wrap ((↑k:Int)-(1:Int))).toNat):Int)==(0:Int)else false) (aa.leaf ah.normal ([aq 1 n (ax z),int IntKind.i64 (IntKind.i64.wrap ((↑k:Int)-(1:Int)))],[])) (aa.leaf (ah.exit 0) ([aq 1 n (ax z),int IntKind.i64 (↑k:Int)],[])))) (aa.ag [decide ((↑k:Int)>(0:Int))=false] (aa.fork false (aa.leaf ah.normal ([aq 1 n (ax z),int IntKind.i64 (IntKind.i64.wrap ((↑k:Int)-(1:Int)))],[])) (aa.leaf (ah.exit 0) ([aq 1 n (ax z),int IntKind.i64 (↑k:Int)],[]))))):=by kernel_rfl
theorem UE {n k:Nat} {z:Nat→Nat}:b7 T [] [] 30 ji (behind (au ji) [1,1,0]) ⟨aD [0,3] [.aq 1 n (ax z),.int .i64 k],[],0⟩=
  some (aa.ag [(0:Nat)*1≤2^24,(0:Int)≤(0:Int)∧(0:Int)≤(↑k:Int)∧(↑k:Int)≤(↑k:Int)∧(↑k:Int)≤(↑n:Int),((0:Nat)+((↑k:Int).toNat-Int.toNat (0:Int)))*((4:Nat)+1)*2≤2^47] (aa.leaf ah.ret [aq 1 ((0:Nat)+((↑k:Int).toNat-Int.toNat (0:Int))) fun(i:Nat)↦if i+0<0 then nth [] (int IntKind.u32 (0:Int)) (i+0)else ax z (i+0-0+Int.toNat (0:Int))])):=by kernel_rfl
def oK:Spec:=bq (jb fun N n=>aG (.mag N) [n<2^40])
def dn:aT:=[(kH,oK)]
theorem WC {n:Nat}:bu T dn [] 30 qB (au qB) ⟨aM 0 [.int .u64 n],[],0⟩=
  some (aa.ag [(0:Int)≤(32:Int),(2:Nat)*1≤2^24,cJ 2 fun(i:Nat)↦nth [int IntKind.u32 (IntKind.u32.wrap (↑n:Int)),int IntKind.u32 (IntKind.u32.wrap ((↑n:Int).fdiv ((2:Int)^min (Int.toNat (32:Int)) IntKind.u64.bits)))] (int IntKind.u32 (0:Int)) (i+0),(2:Nat)<2^40] (aa.leaf ah.ret [mag (val 2 fun(i:Nat)↦numOf (nth [int IntKind.u32 (IntKind.u32.wrap (↑n:Int)),int IntKind.u32 (IntKind.u32.wrap ((↑n:Int).fdiv ((2:Int)^min (Int.toNat (32:Int)) IntKind.u64.bits)))] (int IntKind.u32 (0:Int)) (i+0)))])):=by kernel_rfl
theorem WJ {A:Nat}:bu T dn [6,8,14] 30 uj (au uj) ⟨aM 0 [.mag A],[],0⟩=
  some (aa.fork ((↑(nl A):Int)==(0:Int)) (aa.leaf ah.ret [int IntKind.u64 (0:Int),AV.bool true]) (aa.fork ((↑(nl A):Int)==(1:Int)) (aa.ag [(0:Int)≤(0:Int)∧Int.toNat (0:Int)<nl A] (aa.leaf ah.ret [int IntKind.u64 (IntKind.u64.wrap (↑(ay A (Int.toNat (0:Int))):Int)),AV.bool true])) (aa.fork ((↑(nl A):Int)==(2:Int)) (aa.ag [(0:Int)≤(0:Int)∧Int.toNat (0:Int)<nl A,(0:Int)≤(1:Int)∧Int.toNat (1:Int)<nl A,(0:Int)≤(32:Int)] (aa.leaf ah.ret [int IntKind.u64 (IntKind.u64.wrap (↑(BitVec.ofInt IntKind.u64.bits (IntKind.u64.wrap (↑(ay A (Int.toNat (0:Int))):Int))|||BitVec.ofInt IntKind.u64.bits (IntKind.u64.wrap (IntKind.u64.wrap (↑(ay A (Int.toNat (1:Int))):Int)*(2:Int)^min (Int.toNat (32:Int)) IntKind.u64.bits))).toNat:Int)),AV.bool true])) (aa.leaf ah.ret [int IntKind.u64 (0:Int),AV.bool false])))):=by kernel_rfl
theorem VM {A B:Nat}:aJ T [] [10,15] 30 [0,1,5,4] (before (au lP) [1,1,0,1]) ⟨aM 0 [.mag A,.mag B],[],0⟩=
  some (aa.fork ((↑(nl A):Int)!=(↑(nl B):Int)) (aa.fork (decide ((↑(nl A):Int)<(↑(nl B):Int))) (aa.leaf ah.ret ([mag A,mag B,tuple [],int IntKind.i64 (-1:Int)],[])) (aa.leaf ah.ret ([mag A,mag B,tuple [],int IntKind.i64 (1:Int)],[]))) (aa.leaf ah.normal ([mag A,mag B,int IntKind.i64 (IntKind.i64.wrap ((↑(nl A):Int)-(1:Int))),int IntKind.i64 (0:Int)],[]))):=by kernel_rfl
theorem Kh {A B k:Nat}:aJ T [] [20,31,40] 30 [0,1,5,4] [part (au lP) [1,1,0,1,0,0]] ⟨aD [0,1,5,4] [.mag A,.mag B,.int .i64 ((k:Int)-1),.int .i64 0],[],0⟩=
  some (aa.fork (decide ((↑k:Int)-(1:Int)≥(0:Int))) (aa.ag [(0:Int)≤(↑k:Int)-(1:Int)∧((↑k:Int)-(1:Int)).toNat<nl A,(0:Int)≤(↑k:Int)-(1:Int)∧((↑k:Int)-(1:Int)).toNat<nl B] (aa.fork (decide ((↑(ay A ((↑k:Int)-(1:Int)).toNat):Int)<(↑(ay B ((↑k:Int)-(1:Int)).toNat):Int))) (aa.leaf ah.ret ([mag A,mag B,int IntKind.i64 ((↑k:Int)-(1:Int)),int IntKind.i64 (-1:Int)],[])) (aa.ag [(0:Int)≤(↑k:Int)-(1:Int)∧((↑k:Int)-(1:Int)).toNat<nl A,(0:Int)≤(↑k:Int)-(1:Int)∧((↑k:Int)-(1:Int)).toNat<nl B] (aa.fork (decide ((↑(ay A ((↑k:Int)-(1:Int)).toNat):Int)>(↑(ay B ((↑k:Int)-(1:Int)).toNat):Int))) (aa.leaf ah.ret ([mag A,mag B,int IntKind.i64 ((↑k:Int)-(1:Int)),int IntKind.i64 (1:Int)],[])) (aa.leaf ah.normal ([mag A,mag B,int IntKind.i64 (IntKind.i64.wrap ((↑k:Int)-(1:Int)-(1:Int))),int IntKind.i64 (0:Int)],[])))))) (aa.leaf (ah.exit 0) ([mag A,mag B,int IntKind.i64 ((↑k:Int)-(1:Int)),int IntKind.i64 (0:Int)],[]))):=by kernel_rfl
theorem S3 {A B k:Nat}:b7 T [] [] 30 lP (behind (au lP) [1,1,0,1]) ⟨aD [0,1,5,4] [.mag A,.mag B,.int .i64 ((k:Int)-1),.int .i64 0],[],0⟩=
  some (aa.leaf ah.ret [int IntKind.i64 (0:Int)]):=by kernel_rfl
theorem O6 {n:Nat} {z:Nat→Nat}:aJ T [] [7] 30 [3,4,2] (before (au lM) [1,1,1,0,1]) ⟨aM 0 [.aq 1 n (ax z)],[],0⟩=
  some (aa.fork ((↑n:Int)==(0:Int)) (aa.leaf ah.ret ([tuple [],tuple [],int IntKind.i64 (0:Int)],[])) (aa.ag [(0:Int)≤IntKind.i64.wrap ((↑n:Int)-(1:Int))∧(IntKind.i64.wrap ((↑n:Int)-(1:Int))).toNat<n] (aa.leaf ah.normal ([int IntKind.i64 (IntKind.i64.wrap ((32:Int)*IntKind.i64.wrap ((↑n:Int)-(1:Int)))),int IntKind.u32 (↑(z (IntKind.i64.wrap ((↑n:Int)-(1:Int))).toNat):Int),int IntKind.i64 (0:Int)],[])))):=by kernel_rfl
theorem U1 {x y:Nat}:aJ T [] [19] 30 [3,4,2] [part (au lM) [1,1,1,0,1,0,0]] ⟨aD [3,4,2] [.int .i64 x,.int .u32 y,.int .i64 0],[],0⟩=
  some (aa.fork ((↑y:Int)!=(0:Int)) (aa.ag [(0:Int)≤(1:Int)] (aa.leaf ah.normal ([int IntKind.i64 (IntKind.i64.wrap ((↑x:Int)+(1:Int))),int IntKind.u32 ((↑y:Int).fdiv ((2:Int)^min (Int.toNat (1:Int)) IntKind.u32.bits)),int IntKind.i64 (0:Int)],[]))) (aa.leaf (ah.exit 0) ([int IntKind.i64 (↑x:Int),int IntKind.u32 (↑y:Int),int IntKind.i64 (0:Int)],[]))):=by kernel_rfl
theorem Uu {x y:Nat}:b7 T [] [] 30 lM (behind (au lM) [1,1,1,0,1]) ⟨aD [3,4,2] [.int .i64 x,.int .u32 y,.int .i64 0],[],0⟩=
  some (aa.leaf ah.ret [int IntKind.i64 (↑x:Int)]):=by kernel_rfl
theorem JW {n:Nat} {z:Nat→Nat} (hz:∀i,i<n→z i<2^32) (hn:n<2^40) (K:Nat):aB P kH K [.aq 1 n (ax z)] [] (aG (.mag (val n z)) []):=by
 refine fZ hT Mh rfl (of_decide_eq_true (by kernel_rfl)) rfl (fun _ c h0=>?_) K []
 refine aj.hole [1,1,0] (by kernel_rfl) (aC.aV hT br hm 30 [0,3] N4 (by kernel_rfl) fun s' hv=>bK ?_)
 refine aj.fl (i:=0) (y:=part (au ji) [1,1,0,0,0]) (by kernel_rfl) [0,3] 0 (h0 _) (fun k:Nat=>[.aq 1 n (ax z),.int .i64 k]) (fun _=>[]) (fun _=>rfl) (fun _=>trivial)
  (fun k=>k≤n∧∀i,k≤i→i<n→z i=0) id n hv ⟨Nat.le_refl _,fun i h1 h2=>by omega⟩ ?_
 rintro j ⟨hj,hzj⟩
 refine aj.aV hT br hm 30 [0,3] U9 (by kernel_rfl) ?_
 have fin:(j=0∨z (j-1)≠0)→∀s',aR [0,3] s'=some ([.aq 1 n (ax z),.int .i64 j],[])→aC P c ji.ntmps (behind (au ji) [1,1,0]) s' (cR c (Fin T ji (.mag (val n z)))):=by
  intro hj0 s' hv
  refine aC.g8 hT br hm 30 hv (h0 0) rfl trivial UE (by kernel_rfl) (by kernel_rfl) ?_
  simp only[aa.all,az,Int.toNat_natCast,Int.toNat_zero,Nat.zero_add,Nat.sub_zero,Nat.add_zero]
  have e:val n z=val j z:=jC hj hzj
  refine⟨⟨by omega,by omega,by omega⟩,iQ (by rw[e,yt (fun i hi=>hz i (by omega)) hj0]) fun i hi=>?_⟩
  rw[if_neg (by omega),e,l8 (fun j hj=>hz j (by omega)) hi]
  rfl
 have hw:0<j→IntKind.i64.wrap ((j:Int)-1)=((j-1:Nat):Int):=fun h=>by rw[wrap_i64 (by omega) (by omega)];omega
 refine⟨fun hb=>?_,fun hb=>?_⟩
 ·have h1:0<j:=by simpa using hb
  rw[hw h1]
  have hj1:j-1<n:=by omega
  refine⟨⟨hb,by omega,by rw[Int.toNat_natCast];exact hj1⟩,fun hc s' hv=>?_,fun hc s' hv=>?_⟩
  ·refine⟨j-1,hv,⟨by omega,fun i h1 h2=>?_⟩,by simp;omega⟩
   by_cases hi:i=j-1
   ·subst hi;simpa using hc
   ·exact hzj i (by omega) h2
  ·exact dM (fin (.inr (by simpa using hc)) s' hv)
 ·have h1:j=0:=by simpa using hb
  refine⟨hb,fun hc=>by simp at hc,fun hc s' hv=>dM (fin (.inl h1) s' hv)⟩
theorem sj:∀K args pre r,oK K args pre=some r→aB P kH K args pre r:=
 bL (oB fun _ _ K hz need=>JW hz need K)
theorem dr:bp P dn:=aK sj br
theorem WE {x:Nat} (hx:x<2^64) (K:Nat):aB P mD K [.int .u64 x] [] (aG (.mag x) []):=by
 refine bE hT dr hm Lj rfl (of_decide_eq_true (by kernel_rfl)) rfl 30 WC (fun _=>?_) K []
 simp only[aa.all,az,ja]
 refine⟨⟨by omega,by omega,fun i hi=>?_,by omega⟩,cD (congrArg AV.mag ?_)⟩
 ·match i,hi with
  |0,_=>exact⟨x%2^32,by omega,by simp[nth,gN]⟩
  |1,_=>exact⟨x/4294967296,by omega,by simp[nth,iY];omega⟩
 ·rw[val_two]
  simp[nth,numOf,iY]
  omega
def sP:Spec:=bq fun l=>match l with
 |[.int .u64 x]=>some (aG (.mag x.toNat) [0≤x∧x<2^64])
 |_=>none
theorem wm:∀K args pre r,sP K args pre=some r→aB P mD K args pre r:=by
 refine bL fun K args r hk hs _=>?_
 split at hs
 ·simp only[Option.some.injEq]at hs
  subst hs
  intro need
  obtain⟨h1,h2⟩:=need
  rename_i x
  obtain⟨y,rfl⟩:=Int.eq_ofNat_of_zero_le h1
  exact WE (x:=y) (by omega) K trivial
 ·simp at hs
def ew (A:Nat):Bool:=decide (A<18446744073709551616)
theorem Sy {A:Nat} (K:Nat):aB P ql K [.mag A] [] (aG (.tuple [.int .u64 (if ew A then A else 0:Nat),.bool (ew A)]) []):=by
 refine bE hT dr hm KJ rfl (of_decide_eq_true (by kernel_rfl)) rfl 30 WJ (fun _=>?_) K []
 simp only[aa.all,az,beq_iff_eq,beq_eq_false_iff_ne,ne_eq,Int.toNat_zero,show Int.toNat 1=1 from rfl]
 have hv:=ep (N:=A)
 have l0:=cA (N:=A) (i:=0)
 have l1:=cA (N:=A) (i:=1)
 have yes:∀{x:Int},A<2^64→x=(A:Nat)→dY [.int .u64 x,.bool true] (.tuple [.int .u64 (if ew A then A else 0:Nat),.bool (ew A)]):=fun h hx=>by
  have:ew A=true:=by unfold ew;simpa using h
  rw[this,if_pos rfl]
  exact⟨bh hx,.refl _,trivial⟩
 refine⟨fun hb=>yes ?_ ?_,fun hb=>⟨fun h1=>⟨by omega,yes ?_ ?_⟩,fun h1=>⟨fun h2=>⟨⟨by omega,by omega,by omega⟩,yes ?_ ?_⟩,fun h2=>?_⟩⟩⟩
 ·have:A=0:=gm.1 (by omega)
  omega
 ·have:A=0:=gm.1 (by omega)
  rw[this];rfl
 ·exact lY (by omega)
 ·rw[show nl A=1 by omega,val,val]at hv
  rw[bA (by omega) (by omega)]
  simp at hv;omega
 ·exact lY (by omega)
 ·rw[show nl A=2 by omega,val,val,val]at hv
  have e1:IntKind.u64.wrap (ay A 0:Int)=((ay A 0:Nat):Int):=bA (by omega) (by omega)
  have e2:IntKind.u64.wrap (ay A 1:Int)=((ay A 1:Nat):Int):=bA (by omega) (by omega)
  have e3:IntKind.u64.wrap ((ay A 1:Int)*2^min (Int.toNat 32) IntKind.u64.bits)=((ay A 1*4294967296:Nat):Int):=by
   rw[sS,bA (by omega) (by omega)];omega
  rw[e1,e2,e3,oN (by omega) (by omega)]
  congr 1
  rw[Nat.or_comm,show 4294967296=2^32 from rfl,mV l0]
  simp at hv;omega
 ·have:ew A=false:=by
   unfold ew
   simp only[decide_eq_false_iff_not]
   intro h
   have:nl A≤2:=cq.2 h
   omega
  rw[this]
  exact⟨.refl _,.refl _,trivial⟩
def BU:Spec:=bq fun l=>match l with
 |[a]=>match fT a with
  |some A=>some (aG (.tuple [.int .u64 (if ew A then A else 0:Nat),.bool (ew A)]) [])
  |none=>none
 |_=>none
theorem Cg:∀K args pre r,BU K args pre=some r→aB P ql K args pre r:=by
 refine bL fun K args r hk hs _=>?_
 split at hs
 ·split at hs
  ·rename_i A hA
   simp only[Option.some.injEq]at hs
   subst hs
   exact eO (Sy K) hk ⟨jc hA,trivial⟩ []
  ·simp at hs
 ·simp at hs
theorem NV {A B:Nat} (hA:nl A<2^40) (hB:nl B<2^40) (K:Nat):aB P mB K [.mag A,.mag B] [] (aG (.int .i64 (bY A B)) []):=by
 refine fZ hT Y7 rfl (of_decide_eq_true (by kernel_rfl)) rfl (fun _ c h0=>?_) K []
 refine aj.hole [1,1,0,1] (by kernel_rfl) (aC.aV hT br hm 30 [0,1,5,4] VM (by kernel_rfl) ?_)
 simp only[aa.all,az,decide_eq_true_eq,decide_eq_false_iff_not,bne_iff_ne,ne_eq,Int.natCast_inj,bne_eq_false_iff_eq]
 refine⟨fun hb=>⟨fun hb2 s' hv=>dL (.inl ?_),fun hb2 s' hv=>dL (.inl ?_)⟩,fun hb s' hv=>bK ?_⟩
 ·have h1:A<B:=xe (by omega)
  exact eH (us:=[.int .i64 (-1)]) (.inr rfl) hv (by kernel_rfl) (bh (by simp[bY,h1]))
 ·have h1:B<A:=xe (by omega)
  exact eH (us:=[.int .i64 1]) (.inr rfl) hv (by kernel_rfl) (bh (by simp[bY,h1];omega))
 refine aj.fl (i:=0) (y:=part (au lP) [1,1,0,1,0,0]) (by kernel_rfl) [0,1,5,4] 0 (h0 _) (fun k:Nat=>[.mag A,.mag B,.int .i64 ((k:Int)-1),.int .i64 0]) (fun _=>[]) (fun _=>rfl) (fun _=>trivial)
  (fun k=>k≤nl A∧∀j,k≤j→j<nl A→ay A j=ay B j) id (nl A) (cC hv (by rw[wrap_i64 (by omega) (by omega)]) rfl) ⟨by simp,fun j h1 h2=>by omega⟩ ?_
 rintro k ⟨hk,hlim⟩
 refine aj.aV hT br hm 30 [0,1,5,4] Kh (by kernel_rfl) ?_
 simp only[aa.all,az,decide_eq_true_eq,decide_eq_false_iff_not]
 refine⟨fun hb2=>?_,fun hb2 s' hv=>dM ?_⟩
 ·obtain⟨j,rfl⟩:∃j,k=j+1:=⟨k-1,by omega⟩
  have e:(((j+1:Nat):Int)-1).toNat=j:=by omega
  rw[e]
  refine⟨⟨by omega,by omega⟩,fun hlt s' hv=>FQ (dL (.inl ?_)),fun hlt=>⟨⟨by omega,by omega⟩,fun hgt s' hv=>FQ (dL (.inl ?_)),fun hgt s' hv=>?_⟩⟩
  ·have h1:A<B:=xF hb (k:=j) (by omega) (fun i h1 h2=>hlim i (by omega) h2) (by omega)
   exact eH (us:=[.int .i64 (-1)]) (.inr rfl) hv (by kernel_rfl) (bh (by simp[bY,h1]))
  ·have h1:B<A:=xF hb.symm (k:=j) (by omega) (fun i h1 h2=>(hlim i (by omega) (by omega)).symm) (by omega)
   exact eH (us:=[.int .i64 1]) (.inr rfl) hv (by kernel_rfl) (bh (by simp[bY,h1];omega))
  ·refine⟨j,cC hv (by rw[wrap_i64 (by omega) (by omega)];congr 4;omega) rfl,⟨by omega,fun i h1 h2=>?_⟩,by simp⟩
   by_cases hi:i=j
   ·subst hi;omega
   ·exact hlim i (by omega) h2
 ·have hk0:k=0:=by omega
  have hAB:A=B:=Ai hb fun i hi=>hlim i (by omega) hi
  exact bK (aC.g8 hT br hm 30 hv (h0 0) rfl trivial S3 (by kernel_rfl) (by kernel_rfl) (bh (by simp[bY,hAB])))
def jQ (g:Nat→Nat→AV) (l:Nat→Nat→List Prop):Spec:=bq fun a=>match a with
 |[x,y]=>match fT x,fT y with
  |some A,some B=>some (aG (g A B) (l A B))
  |_,_=>none
 |_=>none
theorem lS {f:FuncId} {g:Nat→Nat→AV} {l:Nat→Nat→List Prop} (h:∀{A B:Nat},az (l A B)→∀K,aB P f K [.mag A,.mag B] [] (aG (g A B) [])):∀K args pre r,jQ g l K args pre=some r→aB P f K args pre r:=by
 refine bL fun K args r hk hs _=>?_
 split at hs
 ·split at hs
  ·rename_i A B hA hB
   simp only[Option.some.injEq]at hs
   subst hs
   exact fun need=>eO (h need K) hk ⟨jc hA,jc hB,trivial⟩ [] trivial
  ·simp at hs
 ·simp at hs
abbrev AD (A B:Nat):List Prop:=[nl A<2^40,nl B<2^40]
def qw:Spec:=jQ (fun A B=>.int .i64 (bY A B)) AD
theorem xN:∀K args pre r,qw K args pre=some r→aB P mB K args pre r:=lS fun h=>NV h.1 h.2
theorem MM {n:Nat} {z:Nat→Nat} (hz:∀i,i<n→z i<2^32) (hn:n<2^40) (hnl:nl (val n z)=n) (K:Nat):aB P sr K [.aq 1 n (ax z)] [] (aG (.int .i64 (aY (val n z):Nat)) []):=by
 refine fZ hT P3 rfl (of_decide_eq_true (by kernel_rfl)) rfl (fun _ c h0=>?_) K []
 refine aj.hole [1,1,1,0,1] (by kernel_rfl) (aC.aV hT br hm 30 [3,4,2] O6 (by kernel_rfl) ?_)
 simp only[aa.all,az,beq_iff_eq,beq_eq_false_iff_ne,ne_eq]
 refine⟨fun hb s' hv=>dL (.inl ?_),fun hb=>?_⟩
 ·have h1:n=0:=by omega
  have h2:val n z=0:=by rw[h1];rfl
  exact eH (us:=[.int .i64 0]) (.inr rfl) hv (by kernel_rfl) (bh (by rw[h2];rfl))
 have w1:IntKind.i64.wrap ((n:Int)-1)=((n-1:Nat):Int):=cY (by omega) (by omega)
 have w2:IntKind.i64.wrap (32*((n-1:Nat):Int))=((32*(n-1):Nat):Int):=cY (by omega) (by omega)
 rw[w1,w2]
 simp only[Int.toNat_natCast]
 refine⟨by omega,fun s' hv=>bK ?_⟩
 have hzt:=hz (n-1) (by omega)
 have htot:aY (val n z)=32*(n-1)+aY (z (n-1)):=by
  have h0:val n z≠0:=eL.1 (by omega)
  rw[Ih h0,hnl,l8 hz (by omega)]
 refine aj.fl (i:=0) (y:=part (au lM) [1,1,1,0,1,0,0]) (by kernel_rfl) [3,4,2] 0 (h0 _) (fun p:Nat×Nat=>[.int .i64 (p.1:Nat),.int .u32 (p.2:Nat),.int .i64 0]) (fun _=>[]) (fun _=>rfl) (fun _=>trivial)
  (fun p=>p.1+aY p.2=aY (val n z)∧p.2<2^32) (fun p=>p.2) (32*(n-1),z (n-1)) hv ⟨htot.symm,hzt⟩ ?_
 rintro⟨x,y⟩ ⟨hxy,hy⟩
 simp only at hxy hy
 have hb32:aY (z (n-1))≤32:=gp.2 hzt
 refine aj.aV hT br hm 30 [3,4,2] U1 (by kernel_rfl) ?_
 rw[qD (by decide) (by decide)]
 simp only[aa.all,az,bne_iff_ne,ne_eq,bne_eq_false_iff_eq,show Int.toNat 1=1 from rfl]
 refine⟨fun hc=>⟨by omega,fun s' hv=>?_⟩,fun hc s' hv=>dM (bK ?_)⟩
 ·have hy0:0<y:=by omega
  have e:aY y=1+aY (y/2):=by
   by_cases h1:y=1
   ·rw[h1];decide
   ·exact oy (k:=1) (by omega)
  have hd:y/2<y:=by omega
  exact⟨(x+1,y/2),cC hv (by rw[cY (a:=(x:Int)+1) (n:=x+1) (by omega) (by omega)]) rfl,⟨by simp only;omega,by simp only;omega⟩,by simp only;omega⟩
 ·have hy0:y=0:=by omega
  refine aC.g8 hT br hm 30 hv (h0 0) rfl trivial Uu (by kernel_rfl) (by kernel_rfl) (bh ?_)
  rw[hy0]at hxy
  simp[aY]at hxy
  rw[hxy];simp[aY]
def Ej:Spec:=bq (jb fun N n=>aG (.int .i64 (aY N:Nat)) [n<2^40,nl N=n])
theorem RI:∀K args pre r,Ej K args pre=some r→aB P sr K args pre r:=
 bL (oB fun _ _ K hz need=>MM hz need.1 need.2 K)
end Go.Am.B
