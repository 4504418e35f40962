/- slices.Clone, slices.Equal, natural.Mul. -/
import Derived.Test.YtppeigelbecpbaaGreatB5
set_option linter.unusedVariables false
namespace Go.Am.B
open Go Go.Am.N AV
theorem JB:aN P nQ tC (au tC):=aO T7 (by kernel_rfl) (by kernel_rfl) (by kernel_rfl)
theorem PB:aN P pN lI (au lI):=aO MP (by kernel_rfl) (by kernel_rfl) (by kernel_rfl)
theorem RU:aN P rB gq (au gq):=aO WD (by kernel_rfl) (by kernel_rfl) (by kernel_rfl)
theorem Ql {n:Nat} {b:Bool} {f:Nat→AV}:bu T [] [4] 30 tC (au tC) ⟨aM 0 [.cE b 1 n f],[],0⟩=
  some (aa.fork b (aa.leaf ah.ret [nil]) (aa.ag [(0:Nat)*1≤2^24,((0:Nat)+n)*((4:Nat)+1)*2≤2^47] (aa.leaf ah.ret [aq 1 ((0:Nat)+n) fun i↦if i+0<0 then nth [] (int IntKind.u32 (0:Int)) (i+0)else f (i+0-0)]))):=by kernel_rfl
theorem Y9 {A B:Nat}:aJ T [] [10] 30 [0,1,12,13,4] (before (au lI) [1,1,0,1]) ⟨aM 0 [.mag A,.mag B],[],0⟩=
  some (aa.fork ((↑(nl A):Int)!=(↑(nl B):Int)) (aa.leaf ah.ret ([mag A,mag B,tuple [],tuple [],AV.bool false],[])) (aa.leaf ah.normal ([mag A,mag B,int IntKind.i64 (↑(nl A):Int),int IntKind.i64 (0:Int),AV.bool false],[]))):=by kernel_rfl
theorem UQ {A B i:Nat}:aJ T [] [14,24] 30 [0,1,12,13,4] [part (au lI) [1,1,0,1,0,0]] ⟨aD [0,1,12,13,4] [.mag A,.mag B,.int .i64 (nl A),.int .i64 i,.bool false],[],0⟩=
  let c3:Int:=(↑(nl A):Int);let c2:Int:=(↑i:Int);let c1:List AV:=[mag A,mag B,int IntKind.i64 c3,int IntKind.i64 c2,AV.bool false];some (aa.fork (decide (c2<c3)) (aa.ag [(0:Int)≤c2∧c2.toNat<nl A,(0:Int)≤c2∧c2.toNat<nl B] (aa.fork ((↑(ay A c2.toNat):Int)!=(↑(ay B c2.toNat):Int)) (aa.leaf ah.ret (c1,[])) (aa.leaf ah.normal ([mag A,mag B,int IntKind.i64 c3,int IntKind.i64 (IntKind.i64.wrap (c2+(1:Int))),AV.bool false],[])))) (aa.leaf (ah.exit 0) (c1,[]))):=by kernel_rfl
theorem X4 {A B i:Nat}:b7 T [] [] 30 lI (behind (au lI) [1,1,0,1]) ⟨aD [0,1,12,13,4] [.mag A,.mag B,.int .i64 (nl A),.int .i64 i,.bool false],[],0⟩=
  some (aa.leaf ah.ret [AV.bool true]):=by kernel_rfl
theorem Zr {n m:Nat} {z y:Nat→Nat}:aJ T G1 [] 30 [1,5,17,18,19] (before (au gq) [1,1,0,1]) ⟨aM 0 [.aq 1 n (ax z),.aq 1 m (ax y)],[],0⟩=
  let c1:Int:=IntKind.i64.wrap ((↑n:Int)+(↑m:Int));some (aa.ag [(0:Int)≤c1∧c1≤c1∧c1≤(2:Int)^47∧c1*(↑(4:Nat):Int)≤(2:Int)^47] (aa.leaf ah.normal ([aq 1 m fun a↦int IntKind.u32 (↑(y a):Int),own 24576 1 0 c1.toNat,aq 1 n fun a↦int IntKind.u32 (↑(z a):Int),int IntKind.i64 (↑n:Int),int IntKind.i64 (0:Int)],[((24576:Nat),ak.mk true true 1 c1.toNat fun x↦int IntKind.u32 (0:Int))]))):=by kernel_rfl
theorem RS {n m i:Nat} {z y o:Nat→Nat}:aJ T G1 [20] 30 [1,5,17,18,19] (before (part (au gq) [1,1,0,1,0,0]) [1,1,0]) ⟨aD [1,5,17,18,19] [.aq 1 m (ax y),.own 7 1 0 (n+m),.aq 1 n (ax z),.int .i64 n,.int .i64 i],[(7,⟨true,true,1,n+m,ax o⟩)],8⟩=
  let c1:List AV×aA:=([aq 1 m fun a↦int IntKind.u32 (↑(y a):Int),own 7 1 0 (n+m),aq 1 n fun a↦int IntKind.u32 (↑(z a):Int),int IntKind.i64 (↑n:Int),int IntKind.i64 (↑i:Int)],[((7:Nat),ak.mk true true 1 (n+m) fun a↦int IntKind.u32 (↑(o a):Int))]);some (aa.fork (decide ((↑i:Int)<(↑n:Int))) (aa.leaf ah.normal c1) (aa.leaf (ah.exit 0) c1)):=by kernel_rfl
theorem OK {n m i:Nat} {z y o:Nat→Nat}:aJ T G1 [25] 30 [1,5,17,18,19,6,7,8,26,27,28] (before (part (au gq) [1,1,0,1,0,0,1,1,0,0]) [1,1,1,0,1]) ⟨aD [1,5,17,18,19] [.aq 1 m (ax y),.own 7 1 0 (n+m),.aq 1 n (ax z),.int .i64 n,.int .i64 i],[(7,⟨true,true,1,n+m,ax o⟩)],8⟩=
  let c8:Int:=(↑i:Int);let c7:AV:=int IntKind.i64 (↑n:Int);let c6:AV:=own 7 1 0 (n+m);let c4:AV:=aq 1 n fun a↦int IntKind.u32 (↑(z a):Int);let c2:Nat×ak:=((7:Nat),ak.mk true true 1 (n+m) fun a↦int IntKind.u32 (↑(o a):Int));let c1:AV:=aq 1 m fun a↦int IntKind.u32 (↑(y a):Int);let c5:Int:=(↑(z c8.toNat):Int);let c3:AV:=int IntKind.i64 c8;some (aa.ag [(0:Int)≤c8∧c8.toNat<n] (aa.fork (c5==(0:Int)) (aa.leaf (ah.exit 1) ([c1,c6,c4,c7,c3,c3,int IntKind.u32 c5,tuple [],tuple [],tuple [],tuple []],[c2])) (aa.leaf ah.normal ([c1,c6,c4,c7,c3,c3,int IntKind.u32 c5,int IntKind.u64 (0:Int),c1,int IntKind.i64 (↑m:Int),int IntKind.i64 (0:Int)],[c2])))):=by kernel_rfl
theorem Xz {n m i j x c:Nat} {z y o:Nat→Nat}:aJ T G1 [29] 30 [1,5,17,18,19,6,7,8,26,27,28] [part (part (au gq) [1,1,0,1,0,0,1,1,0,0]) [1,1,1,0,1,0,0]] ⟨aD [1,5,17,18,19,6,7,8,26,27,28] [.aq 1 m (ax y),.own 7 1 0 (n+m),.aq 1 n (ax z),.int .i64 n,.int .i64 i,.int .i64 i,.int .u32 x,.int .u64 c,.aq 1 m (ax y),.int .i64 m,.int .i64 j],[(7,⟨true,true,1,n+m,ax o⟩)],8⟩=
  let c12:AV:=int IntKind.i64 (↑n:Int);let c11:AV:=int IntKind.u32 (↑x:Int);let c10:AV:=int IntKind.i64 (↑m:Int);let c8:AV:=own 7 1 0 (n+m);let c7:Int:=(↑j:Int);let c6:AV:=aq 1 n fun a↦int IntKind.u32 (↑(z a):Int);let c4:AV:=int IntKind.i64 (↑i:Int);let c3:AV:=aq 1 m fun a↦int IntKind.u32 (↑(y a):Int);let c1:Int:=IntKind.i64.wrap ((↑i:Int)+c7);let c5:Nat:=c1.toNat+0;let c9:List Prop:=[(0:Int)≤c1∧c1.toNat<n+m,c5<n+m];let c2:Int:=IntKind.u64.wrap ((↑c:Int)+IntKind.u64.wrap (IntKind.u64.wrap (IntKind.u64.wrap (↑x:Int)*IntKind.u64.wrap (↑(y c7.toNat):Int))+IntKind.u64.wrap (↑(o c5):Int)));some (aa.fork (decide (c7<(↑m:Int))) (aa.ag [(0:Int)≤c7∧c7.toNat<m] (aa.ag c9 (aa.ag c9 (aa.ag [(0:Int)≤(32:Int)] (aa.leaf ah.normal ([c3,c8,c6,c12,c4,c4,c11,int IntKind.u64 (c2.fdiv ((2:Int)^min (Int.toNat (32:Int)) IntKind.u64.bits)),c3,c10,int IntKind.i64 (IntKind.i64.wrap (c7+(1:Int)))],[((7:Nat),ak.mk true true 1 (n+m) fun j↦if(j==c5)=true then int IntKind.u32 (IntKind.u32.wrap c2)else ax o j)])))))) (aa.leaf (ah.exit 2) ([c3,c8,c6,c12,c4,c4,c11,int IntKind.u64 (↑c:Int),c3,c10,int IntKind.i64 c7],[((7:Nat),ak.mk true true 1 (n+m) fun a↦int IntKind.u32 (↑(o a):Int))]))):=by kernel_rfl
theorem Oo {n m i j x c:Nat} {z y o:Nat→Nat}:aJ T G1 [] 30 [1,5,17,18,19] (behind (part (au gq) [1,1,0,1,0,0,1,1,0,0]) [1,1,1,0,1]) ⟨aD [1,5,17,18,19,6,7,8,26,27,28] [.aq 1 m (ax y),.own 7 1 0 (n+m),.aq 1 n (ax z),.int .i64 n,.int .i64 i,.int .i64 i,.int .u32 x,.int .u64 c,.aq 1 m (ax y),.int .i64 m,.int .i64 j],[(7,⟨true,true,1,n+m,ax o⟩)],8⟩=
  let c1:Int:=IntKind.i64.wrap ((↑i:Int)+(↑m:Int));let c2:Nat:=c1.toNat+0;some (aa.ag [(0:Int)≤c1∧c1.toNat<n+m,c2<n+m] (aa.leaf ah.normal ([aq 1 m fun a↦int IntKind.u32 (↑(y a):Int),own 7 1 0 (n+m),aq 1 n fun a↦int IntKind.u32 (↑(z a):Int),int IntKind.i64 (↑n:Int),int IntKind.i64 (↑i:Int)],[((7:Nat),ak.mk true true 1 (n+m) fun j↦if(j==c2)=true then int IntKind.u32 (IntKind.u32.wrap (↑c:Int))else ax o j)]))):=by kernel_rfl
theorem Me {n m i:Nat} {z y o:Nat→Nat}:aJ T G1 [] 30 [1,5,17,18,19] (behind (part (au gq) [1,1,0,1,0,0]) [1,1,0]) ⟨aD [1,5,17,18,19] [.aq 1 m (ax y),.own 7 1 0 (n+m),.aq 1 n (ax z),.int .i64 n,.int .i64 i],[(7,⟨true,true,1,n+m,ax o⟩)],8⟩=
  some (aa.leaf ah.normal ([aq 1 m fun a↦int IntKind.u32 (↑(y a):Int),own 7 1 0 (n+m),aq 1 n fun a↦int IntKind.u32 (↑(z a):Int),int IntKind.i64 (↑n:Int),int IntKind.i64 (IntKind.i64.wrap ((↑i:Int)+(1:Int)))],[((7:Nat),ak.mk true true 1 (n+m) fun a↦int IntKind.u32 (↑(o a):Int))])):=by kernel_rfl
theorem SV {n m i:Nat} {z y o:Nat→Nat}:b7 T G1 [] 30 gq (behind (au gq) [1,1,0,1]) ⟨aD [1,5,17,18,19] [.aq 1 m (ax y),.own 7 1 0 (n+m),.aq 1 n (ax z),.int .i64 n,.int .i64 i],[(7,⟨true,true,1,n+m,ax o⟩)],8⟩=
  some (aa.ag [cJ (n+m) fun i↦ax o (i+0),n+m<2^62] (aa.leaf ah.ret [mag (val (n+m) fun i↦numOf (ax o (i+0)))])):=by kernel_rfl
theorem zo {n:Nat} {f:Nat→AV} (hn:n<2^40) (K:Nat):aB P nQ K [.aq 1 n f] [] (aG (.aq 1 n f) []):=by
 refine FY fun b hb=>?_
 refine bE hT br hm JB rfl (of_decide_eq_true (by kernel_rfl)) rfl 30 Ql (fun _=>?_) K []
 simp only[aa.all,az]
 refine⟨fun h=>?_,fun h=>⟨⟨by omega,by omega⟩,v9 (by omega) fun i hi=>by simp⟩⟩
 rw[hb h]
 exact iT (by omega)
def yw:Spec:=bq fun l=>match l with
 |[.mag N]=>some (aG (.mag N) [nl N<2^40])
 |[.nil]=>some (aG (.mag 0) [])
 |[.aq es n f]=>if es==1 then some (aG (.aq 1 n f) [n<2^40])else none
 |_=>none
theorem zn:∀K args pre r,yw K args pre=some r→aB P nQ K args pre r:=by
 refine bL fun K args r hk hs _=>?_
 split at hs
 ·rename_i N
  simp only[Option.some.injEq]at hs
  subst hs
  intro need
  have:=eO (args:=[.mag N]) (zo (n:=nl N) (f:=fun i=>.int .u32 (ay N i)) need K) rfl ⟨F0 rfl fun i hi=>rfl,trivial⟩ []
  exact Ig (l':=[]) this id rfl rfl (iQ rfl fun i hi=>rfl) trivial
 ·simp only[Option.some.injEq]at hs
  subst hs
  intro need
  have:=eO (args:=[.nil]) (zo (n:=0) (f:=fun _=>.nil) (by omega) K) rfl ⟨iT (by omega),trivial⟩ []
  exact Ig (l':=[]) this id rfl rfl (iQ (by simp[nl]) fun i hi=>by omega) trivial
 ·rename_i es n f
  split at hs
  ·rename_i he
   have he:es=1:=by simpa using he
   subst he
   simp only[Option.some.injEq]at hs
   subst hs
   exact fun need=>zo need K trivial
  ·simp at hs
 ·simp at hs
theorem Mt {A B:Nat} (hA:nl A<2^40) (hB:nl B<2^40) (K:Nat) (pre:aA):aB P pN K [.mag A,.mag B] pre (aG (.bool (decide (A=B))) []):=by
 refine gH hT PB rfl (of_decide_eq_true (by kernel_rfl)) rfl (fun _ c h0=>?_) K pre
 refine aj.hole [1,1,0,1] (by kernel_rfl) (aC.aV hT br hm 30 [0,1,12,13,4] Y9 (by kernel_rfl) ?_)
 simp only[aa.all,bne_iff_ne,ne_eq,Int.natCast_inj,bne_eq_false_iff_eq]
 refine⟨fun hb s' hv=>?_,fun hb s' hv=>?_⟩
 ·exact eH (us:=[.bool false]) (.inr rfl) hv (by kernel_rfl) (eI (decide_eq_false fun h=>hb (by rw[h])).symm)
 refine aj.fU (i:=0) (y:=part (au lI) [1,1,0,1,0,0]) (by kernel_rfl)
  (fun i:Nat=>⟨aD [0,1,12,13,4] [.mag A,.mag B,.int .i64 (nl A),.int .i64 i,.bool false],[],0⟩)
  (fun i=>i≤nl A∧∀j,j<i→ay A j=ay B j) (fun i=>nl A-i) 0
  (cu [] hv h0 rfl ⟨⟨rfl,aF rfl⟩,⟨rfl,aF rfl⟩,⟨rfl,aF rfl⟩,⟨rfl,aF rfl⟩,⟨rfl,aF rfl⟩,trivial⟩ trivial) ⟨by omega,fun j h=>by omega⟩ ?_
 rintro i ⟨hi,hlim⟩
 refine aj.aV hT br hm 30 [0,1,12,13,4] UQ (by kernel_rfl) ?_
 simp only[aa.all,az,decide_eq_true_eq,decide_eq_false_iff_not,bne_iff_ne,ne_eq,Int.natCast_inj,bne_eq_false_iff_eq,Int.toNat_natCast]
 refine⟨fun h1=>⟨⟨by omega,by omega⟩,fun hne s' hv=>?_,fun heq s' hv=>?_⟩,fun h1 s' hv=>?_⟩
 ·exact eH (us:=[.bool false]) (.inr rfl) hv (by kernel_rfl) (eI (decide_eq_false fun h=>hne (by rw[h])).symm)
 ·refine⟨i+1,cu [] hv h0 rfl ⟨⟨rfl,aF rfl⟩,⟨rfl,aF rfl⟩,⟨rfl,aF rfl⟩,⟨rfl,eF (by rw[wrap_i64 (by omega) (by omega)];omega)⟩,⟨rfl,aF rfl⟩,trivial⟩ trivial,⟨by omega,fun j hj=>?_⟩,by omega⟩
  by_cases h:j=i
  ·subst h;exact heq
  ·exact hlim j (by omega)
 ·have hAB:A=B:=Ai hb fun j hj=>hlim j (by omega)
  exact aC.weak (by kernel_rfl) (cu (vs:=[.mag A,.mag B,.int .i64 (nl A),.int .i64 i,.bool false]) (ps:=[]) (nx:=0) [] hv h0 rfl ⟨⟨rfl,aF rfl⟩,⟨rfl,aF rfl⟩,⟨rfl,aF rfl⟩,⟨rfl,aF rfl⟩,⟨rfl,aF rfl⟩,trivial⟩ trivial)
   (aC.fin hT br hm 30 X4 (by kernel_rfl) (eI (decide_eq_true hAB).symm))
def fT:AV→Option Nat
 |.mag N=>some N
 |.nil=>some 0
 |_=>none
theorem jc {a:AV} {N:Nat} (h:fT a=some N):bt a (.mag N):=by
 cases a<;>simp only[fT,reduceCtorEq,Option.some.injEq]at h
 case mag M=>subst h;exact .refl _
 case nil=>subst h;exact ir
def A2:Spec:=bq fun l=>match l with
 |[a,b]=>match fT a,fT b with
  |some A,some B=>some (aG (.bool (decide (A=B))) [nl A<2^40,nl B<2^40])
  |_,_=>none
 |_=>none
theorem G3:∀K args pre r,A2 K args pre=some r→aB P pN K args pre r:=by
 refine bL fun K args r hk hs _=>?_
 split at hs
 ·split at hs
  ·rename_i A B hA hB
   simp only[Option.some.injEq]at hs
   subst hs
   exact fun need=>eO (Mt need.1 need.2 K []) hk ⟨jc hA,jc hB,trivial⟩ [] trivial
  ·simp at hs
 ·simp at hs
abbrev lE:List Nat:=[1,5,17,18,19]
abbrev nR (n m:Nat) (z y:Nat→Nat) (K i:Nat):List AV:=[.aq 1 m (ax y),.own K 1 0 (n+m),.aq 1 n (ax z),.int .i64 n,.int .i64 i]
abbrev zE:List Nat:=[1,5,17,18,19,6,7,8,26,27,28]
abbrev Is (n m:Nat) (z y:Nat→Nat) (K i x c j:Nat):List AV:=[.aq 1 m (ax y),.own K 1 0 (n+m),.aq 1 n (ax z),.int .i64 n,.int .i64 i,.int .i64 i,.int .u32 x,.int .u64 c,.aq 1 m (ax y),.int .i64 m,.int .i64 j]
theorem Qm {n m:Nat} {z y:Nat→Nat} (hz:∀i,i<n→z i<2^32) (hy:∀i,i<m→y i<2^32) (hn:n<2^40) (hm':m<2^40) (K:Nat) (pre:aA):
  aB P rB K [.aq 1 n (ax z),.aq 1 m (ax y)] pre (aG (.mag (val n z*val m y)) []):=by
 refine gH hT RU rfl (of_decide_eq_true (by kernel_rfl)) rfl (fun _ c0 h0=>?_) K pre
 refine aj.hole [1,1,0,1] (by kernel_rfl) (aC.aV hT eR hm 30 lE Zr (by kernel_rfl) ?_)
 have hw:IntKind.i64.wrap ((n:Int)+(m:Int))=((n+m:Nat):Int):=by rw[wrap_i64 (by omega) (by omega)];omega
 simp only[aa.all,az,hw,Int.toNat_natCast]
 refine⟨by omega,fun s' hv=>?_⟩
 refine aj.fU (i:=0) (y:=part (au gq) [1,1,0,1,0,0]) (by kernel_rfl)
  (fun p:Nat×(Nat→Nat)=>⟨aD lE (nR n m z y 7 p.1),[(7,⟨true,true,1,n+m,ax p.2⟩)],8⟩)
  (fun p=>p.1≤n∧(∀j,j<n+m→p.2 j<2^32)∧(∀j,p.1+m≤j→p.2 j=0)∧val (n+m) p.2=val p.1 z*val m y)
  (fun p=>n-p.1) (0,fun _=>0)
  (cu [(7,24576)] hv h0 rfl ⟨⟨rfl,aF rfl⟩,⟨rfl,ct rfl rfl rfl⟩,⟨rfl,aF rfl⟩,⟨rfl,aF rfl⟩,⟨rfl,aF rfl⟩,trivial⟩
   ⟨⟨_,_,rfl,rfl,dP rfl fun j _=>rfl⟩,trivial⟩)
  ⟨by simp,fun j _=>by simp,fun j _=>rfl,?_⟩ ?_
 ·simp only
  rw[jC (k:=0) (by omega) fun _ _ _=>rfl]
  simp[val]
 rintro⟨i,o⟩ ⟨hi,ho,ho0,hval⟩
 simp only at hi ho ho0 hval
 have next:∀{o':Nat→Nat} {s':aE},i<n→aR lE s'=some (nR n m z y 7 i,[(7,⟨true,true,1,n+m,ax o'⟩)])→(∀j,j<n+m→o' j<2^32)→(∀j,i+1+m≤j→o' j=0)→
   val (n+m) o'=val (i+1) z*val m y→∀{QF:ah→aE→Prop},
   aC P c0 gq.ntmps (behind (part (au gq) [1,1,0,1,0,0]) [1,1,0]) s' (cK (fun s'=>∃k:Nat×(Nat→Nat),(∃ρ,Le c0 ρ s' ⟨aD lE (nR n m z y 7 k.1),[(7,⟨true,true,1,n+m,ax k.2⟩)],8⟩)∧
    (k.1≤n∧(∀j,j<n+m→k.2 j<2^32)∧(∀j,k.1+m≤j→k.2 j=0)∧val (n+m) k.2=val k.1 z*val m y)∧n-k.1<n-i) QF):=by
  intro o' s' hin hv g1 g2 g3 QF
  refine aC.weak (by kernel_rfl) (cu (vs:=nR n m z y 7 i) (ps:=[(7,⟨true,true,1,n+m,ax o'⟩)]) (nx:=8) [(7,7)] hv h0 rfl ⟨⟨rfl,aF rfl⟩,⟨rfl,ct rfl rfl rfl⟩,⟨rfl,aF rfl⟩,⟨rfl,aF rfl⟩,⟨rfl,aF rfl⟩,trivial⟩
    ⟨⟨_,_,rfl,rfl,dP rfl fun j _=>rfl⟩,trivial⟩)
   (aC.aV hT eR hm 30 lE Me (by kernel_rfl) ?_)
  intro s' hv
  exact⟨(i+1,o'),cu [(7,7)] hv h0 rfl ⟨⟨rfl,aF rfl⟩,⟨rfl,ct rfl rfl rfl⟩,⟨rfl,aF rfl⟩,⟨rfl,aF rfl⟩,⟨rfl,eF (by rw[wrap_i64 (by omega) (by omega)];simp only;omega)⟩,trivial⟩
    ⟨⟨_,_,rfl,rfl,dP rfl fun j _=>rfl⟩,trivial⟩,⟨by simp only;omega,g1,g2,g3⟩,by simp only;omega⟩
 refine aj.hole [1,1,0] (by kernel_rfl) (aC.aV hT eR hm 30 lE RS (by kernel_rfl) ?_)
 simp only[aa.all,decide_eq_true_eq,decide_eq_false_iff_not]
 refine⟨fun h1 s' hv=>?_,fun h1 s' hv=>?_⟩
 ·have hin:i<n:=by omega
  have hzi:=hz i hin
  refine aj.jd (cu (vs:=nR n m z y 7 i) (ps:=[(7,⟨true,true,1,n+m,ax o⟩)]) (nx:=8) [(7,7)] hv h0 rfl ⟨⟨rfl,aF rfl⟩,⟨rfl,ct rfl rfl rfl⟩,⟨rfl,aF rfl⟩,⟨rfl,aF rfl⟩,⟨rfl,aF rfl⟩,trivial⟩
    ⟨⟨_,_,rfl,rfl,dP rfl fun j _=>rfl⟩,trivial⟩) ?_
  refine aj.mq (i:=1) (y:=part (au gq) [1,1,0,1,0,0,1,1,0,0]) (by kernel_rfl) ?_
  refine aj.hole [1,1,1,0,1] (by kernel_rfl) (aC.aV hT eR hm 30 zE OK (by kernel_rfl) ?_)
  simp only[aa.all,az,Int.toNat_natCast,beq_iff_eq,beq_eq_false_iff_ne,ne_eq]
  refine⟨by omega,fun hz0 s' hv=>?_,fun hz0 s' hv=>?_⟩
  ·refine dM ?_
   exact(next hin (fS (ls:=lE) (l:=[6,7,8,26,27,28]) (vs:=nR n m z y 7 i) hv rfl rfl) ho (fun j hj=>ho0 j (by omega)) (by rw[hval,val,show z i=0 by omega];simp))
  refine aj.fU (i:=2) (y:=part (part (au gq) [1,1,0,1,0,0,1,1,0,0]) [1,1,1,0,1,0,0]) (by kernel_rfl)
   (fun p:Nat×Nat×(Nat→Nat)=>⟨aD zE (Is n m z y 7 i (z i) p.2.1 p.1),[(7,⟨true,true,1,n+m,ax p.2.2⟩)],8⟩)
   (fun p=>p.1≤m∧p.2.1<2^32∧(∀j,j<n+m→p.2.2 j<2^32)∧(∀j,i+m≤j→p.2.2 j=0)∧val (n+m) p.2.2+p.2.1*2^(32*(i+p.1))=val i z*val m y+z i*val p.1 y*2^(32*i))
   (fun p=>m-p.1) (0,0,o)
   (cu [(7,7)] hv h0 rfl ⟨⟨rfl,aF rfl⟩,⟨rfl,ct rfl rfl rfl⟩,⟨rfl,aF rfl⟩,⟨rfl,aF rfl⟩,⟨rfl,aF rfl⟩,⟨rfl,aF rfl⟩,⟨rfl,aF rfl⟩,⟨rfl,aF rfl⟩,⟨rfl,aF rfl⟩,⟨rfl,aF rfl⟩,⟨rfl,aF rfl⟩,trivial⟩
    ⟨⟨_,_,rfl,rfl,dP rfl fun j _=>rfl⟩,trivial⟩)
   ⟨by simp,by simp,ho,ho0,by simp[val,hval]⟩ ?_
  rintro⟨j,c,o⟩ ⟨hj,hc,ho,ho0,hval⟩
  simp only at hj hc ho ho0 hval
  refine aj.aV hT eR hm 30 zE Xz (by kernel_rfl) ?_
  have hij:IntKind.i64.wrap ((i:Int)+(j:Int))=((i+j:Nat):Int):=by rw[wrap_i64 (by omega) (by omega)];omega
  simp only[aa.all,az,decide_eq_true_eq,decide_eq_false_iff_not,hij,Int.toNat_natCast,Nat.add_zero,beq_iff_eq]
  refine⟨fun h2=>?_,fun h2 s' hv=>dM ?_⟩
  ·have hjm:j<m:=by omega
   obtain⟨m1,m2,m3⟩:=CK hc hzi (hy j hjm) (ho (i+j) (by omega))
   rw[m1]
   refine⟨by omega,by omega,by omega,by omega,fun s' hv=>⟨(j+1,(c+z i*y j+o (i+j))/4294967296,bG o (i+j) ((c+z i*y j+o (i+j))%4294967296)),?_,⟨by simp only;omega,m3,fJ (by omega) ho,fun k hk=>?_,?_⟩,by simp only;omega⟩⟩
   ·refine cu [(7,7)] hv h0 rfl ⟨⟨rfl,aF rfl⟩,⟨rfl,ct rfl rfl rfl⟩,⟨rfl,aF rfl⟩,⟨rfl,aF rfl⟩,⟨rfl,aF rfl⟩,⟨rfl,aF rfl⟩,⟨rfl,aF rfl⟩,⟨rfl,eF ?_⟩,⟨rfl,aF rfl⟩,⟨rfl,aF rfl⟩,⟨rfl,eF ?_⟩,trivial⟩
     ⟨⟨_,_,rfl,rfl,dP rfl fun k _=>e9 (by rw[gN]) k⟩,trivial⟩
    ·rw[ja];simp only;omega
    ·rw[wrap_i64 (by omega) (by omega)];simp only;omega
   ·exact(dX (by omega)).trans (ho0 k hk)
   ·simp only
    rw[show 32*(i+(j+1))=32*((i+j)+1) by omega,fm,val]
    have hset:=zk (o:=o) (x:=(c+z i*y j+o (i+j))%4294967296) (show i+j<n+m by omega)
    exact EL rfl (Nat.div_add_mod _ _) hset (by rw[←Nat.pow_add];congr 1;omega) hval
  ·have hjm:j=m:=by omega
   subst hjm
   refine aC.weak (by kernel_rfl) (cu (vs:=Is n j z y 7 i (z i) c j) (ps:=[(7,⟨true,true,1,n+j,ax o⟩)]) (nx:=8) [(7,7)] hv h0 rfl
     ⟨⟨rfl,aF rfl⟩,⟨rfl,ct rfl rfl rfl⟩,⟨rfl,aF rfl⟩,⟨rfl,aF rfl⟩,⟨rfl,aF rfl⟩,⟨rfl,aF rfl⟩,⟨rfl,aF rfl⟩,⟨rfl,aF rfl⟩,⟨rfl,aF rfl⟩,⟨rfl,aF rfl⟩,⟨rfl,aF rfl⟩,trivial⟩
     ⟨⟨_,_,rfl,rfl,dP rfl fun j _=>rfl⟩,trivial⟩)
    (aC.aV hT eR hm 30 lE Oo (by kernel_rfl) ?_)
   simp only[aa.all,az,hij,Int.toNat_natCast,Nat.add_zero,beq_iff_eq]
   refine⟨by omega,fun s' hv=>?_⟩
   have hf:(fun k=>if k=i+j then AV.int .u32 (IntKind.u32.wrap (c:Int))else ax o k)=ax (bG o (i+j) c):=by
    funext k
    exact e9 (wrap_u32 (by omega) (by omega)) k
   rw[hf]at hv
   refine next hin hv (fJ hc ho) (fun k hk=>(dX (by omega)).trans (ho0 k (by omega))) ?_
   rw[mT (by omega) (ho0 _ (by omega)),hval,val,Nat.add_mul,Nat.mul_assoc,Nat.mul_assoc,Nat.mul_comm (val j y)]
 ·have hin:i=n:=by omega
  subst hin
  refine nr (dM ?_)
  refine(aC.weak (by kernel_rfl) (cu (vs:=nR i m z y 7 i) (ps:=[(7,⟨true,true,1,i+m,ax o⟩)]) (nx:=8) [(7,7)] hv h0 rfl ⟨⟨rfl,aF rfl⟩,⟨rfl,ct rfl rfl rfl⟩,⟨rfl,aF rfl⟩,⟨rfl,aF rfl⟩,⟨rfl,aF rfl⟩,trivial⟩
    ⟨⟨_,_,rfl,rfl,dP rfl fun j _=>rfl⟩,trivial⟩)
   (aC.fin hT eR hm 30 SV (by kernel_rfl) ?_))
  simp only[aa.all,az,Nat.add_zero,gC]
  exact⟨⟨eA ho,by omega⟩,cD (congrArg AV.mag hval)⟩
def Ij (A n B m:Nat):cr:=aG (.mag (A*B)) [n<2^40,m<2^40]
theorem SM:∀K args pre r,bq (fI Ij) K args pre=some r→aB P rB K args pre r:=
 bL (qg fun _ _ _ _ K hz hy need=>Qm hz hy need.1 need.2 K [])
end Go.Am.B
