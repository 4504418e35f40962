/- slices.Clone, slices.Equal, natural.Mul. -/
import Derived.Test.YtppeigelbecpbaaGreatB5
set_option linter.unusedVariables false
namespace Go.Am.B
open Go Go.Am.N AV
theorem T5:aO P o3 tY (aq tY):=aP Xg (by kernel_rfl) (by kernel_rfl) (by kernel_rfl)
theorem adK:aO P qR nc (aq nc):=aP Oh (by kernel_rfl) (by kernel_rfl) (by kernel_rfl)
theorem aaQ:aO P xw g8 (aq g8):=aP Sq (by kernel_rfl) (by kernel_rfl) (by kernel_rfl)
theorem Ru {n:Nat} {b:Bool} {f:Nat→AV}:bu T [] [4] 30 tY (aq tY) ⟨aM 0 [.dc b 1 n f],[],0⟩=
  some (aa.fork b (aa.leaf aj.ret [nil]) (aa.af [(0:Nat)*1≤2^24,((0:Nat)+n)*((4:Nat)+1)*2≤2^47] (aa.leaf aj.ret [ag 1 ((0:Nat)+n) fun i↦if i+0<0 then nth [] (int IntKind.u32 (0:Int)) (i+0)else f (i+0-0)]))):=by kernel_rfl
theorem NP {A B:Nat}:aG T [] [10] 30 [0,1,12,13,4] (before (aq nc) [1,1,0,1]) ⟨aM 0 [.mag A,.mag B],[],0⟩=
  some (aa.fork ((↑(nl A):Int)!=(↑(nl B):Int)) (aa.leaf aj.ret ([mag A,mag B,tuple [],tuple [],AV.bool false],[])) (aa.leaf aj.normal ([mag A,mag B,int IntKind.i64 (↑(nl A):Int),int IntKind.i64 (0:Int),AV.bool false],[]))):=by kernel_rfl
theorem WM {A B i:Nat}:aG T [] [14,24] 30 [0,1,12,13,4] [part (aq nc) [1,1,0,1,0,0]] ⟨aB [0,1,12,13,4] [.mag A,.mag B,.int .i64 (nl A),.int .i64 i,.bool false],[],0⟩=
  let c3:Int:=(↑(nl A):Int);let c2:Int:=(↑i:Int);let c1:List AV:=[mag A,mag B,int IntKind.i64 c3,int IntKind.i64 c2,AV.bool false];some (aa.fork (decide (c2<c3)) (aa.af [(0:Int)≤c2∧c2.toNat<nl A,(0:Int)≤c2∧c2.toNat<nl B] (aa.fork ((↑(ay A c2.toNat):Int)!=(↑(ay B c2.toNat):Int)) (aa.leaf aj.ret (c1,[])) (aa.leaf aj.normal ([mag A,mag B,int IntKind.i64 c3,int IntKind.i64 (IntKind.i64.wrap (c2+(1:Int))),AV.bool false],[])))) (aa.leaf (aj.exit 0) (c1,[]))):=by kernel_rfl
theorem ZO {A B i:Nat}:bZ T [] [] 30 nc (behind (aq nc) [1,1,0,1]) ⟨aB [0,1,12,13,4] [.mag A,.mag B,.int .i64 (nl A),.int .i64 i,.bool false],[],0⟩=
  some (aa.leaf aj.ret [AV.bool true]):=by kernel_rfl
theorem aaY {n m:Nat} {z y:Nat→Nat}:aG T G1 [] 30 [1,5,17,18,19] (before (aq g8) [1,1,0,1]) ⟨aM 0 [.ag 1 n (au z),.ag 1 m (au y)],[],0⟩=
  let c1:Int:=IntKind.i64.wrap ((↑n:Int)+(↑m:Int));some (aa.af [(0:Int)≤c1∧c1≤c1∧c1≤(2:Int)^47∧c1*(↑(4:Nat):Int)≤(2:Int)^47] (aa.leaf aj.normal ([ag 1 m fun a↦int IntKind.u32 (↑(y a):Int),own 24576 1 0 c1.toNat,ag 1 n fun a↦int IntKind.u32 (↑(z a):Int),int IntKind.i64 (↑n:Int),int IntKind.i64 (0:Int)],[((24576:Nat),ah.mk true true 1 c1.toNat fun x↦int IntKind.u32 (0:Int))]))):=by kernel_rfl
theorem abE {n m i:Nat} {z y o:Nat→Nat}:aG T G1 [20] 30 [1,5,17,18,19] (before (part (aq g8) [1,1,0,1,0,0]) [1,1,0]) ⟨aB [1,5,17,18,19] [.ag 1 m (au y),.own 7 1 0 (n+m),.ag 1 n (au z),.int .i64 n,.int .i64 i],[(7,⟨true,true,1,n+m,au o⟩)],8⟩=
  let c1:List AV×aA:=([ag 1 m fun a↦int IntKind.u32 (↑(y a):Int),own 7 1 0 (n+m),ag 1 n fun a↦int IntKind.u32 (↑(z a):Int),int IntKind.i64 (↑n:Int),int IntKind.i64 (↑i:Int)],[((7:Nat),ah.mk true true 1 (n+m) fun a↦int IntKind.u32 (↑(o a):Int))]);some (aa.fork (decide ((↑i:Int)<(↑n:Int))) (aa.leaf aj.normal c1) (aa.leaf (aj.exit 0) c1)):=by kernel_rfl
theorem afX {n m i:Nat} {z y o:Nat→Nat}:aG T G1 [25] 30 [1,5,17,18,19,6,7,8,26,27,28] (before (part (aq g8) [1,1,0,1,0,0,1,1,0,0]) [1,1,1,0,1]) ⟨aB [1,5,17,18,19] [.ag 1 m (au y),.own 7 1 0 (n+m),.ag 1 n (au z),.int .i64 n,.int .i64 i],[(7,⟨true,true,1,n+m,au o⟩)],8⟩=
  let c8:Int:=(↑i:Int);let c7:AV:=int IntKind.i64 (↑n:Int);let c6:AV:=own 7 1 0 (n+m);let c4:AV:=ag 1 n fun a↦int IntKind.u32 (↑(z a):Int);let c2:Nat×ah:=((7:Nat),ah.mk true true 1 (n+m) fun a↦int IntKind.u32 (↑(o a):Int));let c1:AV:=ag 1 m fun a↦int IntKind.u32 (↑(y a):Int);let c5:Int:=(↑(z c8.toNat):Int);let c3:AV:=int IntKind.i64 c8;some (aa.af [(0:Int)≤c8∧c8.toNat<n] (aa.fork (c5==(0:Int)) (aa.leaf (aj.exit 1) ([c1,c6,c4,c7,c3,c3,int IntKind.u32 c5,tuple [],tuple [],tuple [],tuple []],[c2])) (aa.leaf aj.normal ([c1,c6,c4,c7,c3,c3,int IntKind.u32 c5,int IntKind.u64 (0:Int),c1,int IntKind.i64 (↑m:Int),int IntKind.i64 (0:Int)],[c2])))):=by kernel_rfl
theorem adL {n m i j x c:Nat} {z y o:Nat→Nat}:aG T G1 [29] 30 [1,5,17,18,19,6,7,8,26,27,28] [part (part (aq g8) [1,1,0,1,0,0,1,1,0,0]) [1,1,1,0,1,0,0]] ⟨aB [1,5,17,18,19,6,7,8,26,27,28] [.ag 1 m (au y),.own 7 1 0 (n+m),.ag 1 n (au z),.int .i64 n,.int .i64 i,.int .i64 i,.int .u32 x,.int .u64 c,.ag 1 m (au y),.int .i64 m,.int .i64 j],[(7,⟨true,true,1,n+m,au o⟩)],8⟩=
  let c12:AV:=int IntKind.i64 (↑n:Int);let c11:AV:=int IntKind.u32 (↑x:Int);let c10:AV:=int IntKind.i64 (↑m:Int);let c8:AV:=own 7 1 0 (n+m);let c7:Int:=(↑j:Int);let c6:AV:=ag 1 n fun a↦int IntKind.u32 (↑(z a):Int);let c4:AV:=int IntKind.i64 (↑i:Int);let c3:AV:=ag 1 m fun a↦int IntKind.u32 (↑(y a):Int);let c1:Int:=IntKind.i64.wrap ((↑i:Int)+c7);let c5:Nat:=c1.toNat+0;let c9:List Prop:=[(0:Int)≤c1∧c1.toNat<n+m,c5<n+m];let c2:Int:=IntKind.u64.wrap ((↑c:Int)+IntKind.u64.wrap (IntKind.u64.wrap (IntKind.u64.wrap (↑x:Int)*IntKind.u64.wrap (↑(y c7.toNat):Int))+IntKind.u64.wrap (↑(o c5):Int)));some (aa.fork (decide (c7<(↑m:Int))) (aa.af [(0:Int)≤c7∧c7.toNat<m] (aa.af c9 (aa.af c9 (aa.af [(0:Int)≤(32:Int)] (aa.leaf aj.normal ([c3,c8,c6,c12,c4,c4,c11,int IntKind.u64 (c2.fdiv ((2:Int)^min (Int.toNat (32:Int)) IntKind.u64.bits)),c3,c10,int IntKind.i64 (IntKind.i64.wrap (c7+(1:Int)))],[((7:Nat),ah.mk true true 1 (n+m) fun j↦if(j==c5)=true then int IntKind.u32 (IntKind.u32.wrap c2)else au o j)])))))) (aa.leaf (aj.exit 2) ([c3,c8,c6,c12,c4,c4,c11,int IntKind.u64 (↑c:Int),c3,c10,int IntKind.i64 c7],[((7:Nat),ah.mk true true 1 (n+m) fun a↦int IntKind.u32 (↑(o a):Int))]))):=by kernel_rfl
theorem VI {n m i j x c:Nat} {z y o:Nat→Nat}:aG T G1 [] 30 [1,5,17,18,19] (behind (part (aq g8) [1,1,0,1,0,0,1,1,0,0]) [1,1,1,0,1]) ⟨aB [1,5,17,18,19,6,7,8,26,27,28] [.ag 1 m (au y),.own 7 1 0 (n+m),.ag 1 n (au z),.int .i64 n,.int .i64 i,.int .i64 i,.int .u32 x,.int .u64 c,.ag 1 m (au y),.int .i64 m,.int .i64 j],[(7,⟨true,true,1,n+m,au o⟩)],8⟩=
  let c1:Int:=IntKind.i64.wrap ((↑i:Int)+(↑m:Int));let c2:Nat:=c1.toNat+0;some (aa.af [(0:Int)≤c1∧c1.toNat<n+m,c2<n+m] (aa.leaf aj.normal ([ag 1 m fun a↦int IntKind.u32 (↑(y a):Int),own 7 1 0 (n+m),ag 1 n fun a↦int IntKind.u32 (↑(z a):Int),int IntKind.i64 (↑n:Int),int IntKind.i64 (↑i:Int)],[((7:Nat),ah.mk true true 1 (n+m) fun j↦if(j==c2)=true then int IntKind.u32 (IntKind.u32.wrap (↑c:Int))else au o j)]))):=by kernel_rfl
theorem abA {n m i:Nat} {z y o:Nat→Nat}:aG T G1 [] 30 [1,5,17,18,19] (behind (part (aq g8) [1,1,0,1,0,0]) [1,1,0]) ⟨aB [1,5,17,18,19] [.ag 1 m (au y),.own 7 1 0 (n+m),.ag 1 n (au z),.int .i64 n,.int .i64 i],[(7,⟨true,true,1,n+m,au o⟩)],8⟩=
  some (aa.leaf aj.normal ([ag 1 m fun a↦int IntKind.u32 (↑(y a):Int),own 7 1 0 (n+m),ag 1 n fun a↦int IntKind.u32 (↑(z a):Int),int IntKind.i64 (↑n:Int),int IntKind.i64 (IntKind.i64.wrap ((↑i:Int)+(1:Int)))],[((7:Nat),ah.mk true true 1 (n+m) fun a↦int IntKind.u32 (↑(o a):Int))])):=by kernel_rfl
theorem aav {n m i:Nat} {z y o:Nat→Nat}:bZ T G1 [] 30 g8 (behind (aq g8) [1,1,0,1]) ⟨aB [1,5,17,18,19] [.ag 1 m (au y),.own 7 1 0 (n+m),.ag 1 n (au z),.int .i64 n,.int .i64 i],[(7,⟨true,true,1,n+m,au o⟩)],8⟩=
  some (aa.af [cT (n+m) fun i↦au o (i+0),n+m<2^62] (aa.leaf aj.ret [mag (val (n+m) fun i↦numOf (au o (i+0)))])):=by kernel_rfl
theorem CQ {n:Nat} {f:Nat→AV} (hn:n<2^40) (K:Nat):az P o3 K [.ag 1 n f] [] (aF (.ag 1 n f) []):=by
 refine ac3 fun b hb=>?_
 refine bC hT aX hm T5 rfl (of_decide_eq_true (by kernel_rfl)) rfl 30 Ru (fun _=>?_) K []
 simp only[aa.all,ax]
 refine⟨fun h=>?_,fun h=>⟨⟨by omega,by omega⟩,uR (by omega) fun i hi=>by simp⟩⟩
 rw[hb h]
 exact iO (by omega)
def Ax:Spec:=bA fun l=>match l with
 |[.mag N]=>some (aF (.mag N) [nl N<2^40])
 |[.nil]=>some (aF (.mag 0) [])
 |[.ag es n f]=>if es==1 then some (aF (.ag 1 n f) [n<2^40])else none
 |_=>none
theorem B7:∀K args pre r,Ax K args pre=some r→az P o3 K args pre r:=by
 refine bS fun K args r hk hs _=>?_
 split at hs
 ·rename_i N
  simp only[Option.some.injEq]at hs
  subst hs
  intro need
  have:=fP (args:=[.mag N]) (CQ (n:=nl N) (f:=fun i=>.int .u32 (ay N i)) need K) rfl ⟨HZ rfl fun i hi=>rfl,trivial⟩ []
  exact Jh (l':=[]) this id rfl rfl (jL rfl fun i hi=>rfl) trivial
 ·simp only[Option.some.injEq]at hs
  subst hs
  intro need
  have:=fP (args:=[.nil]) (CQ (n:=0) (f:=fun _=>.nil) (by omega) K) rfl ⟨iO (by omega),trivial⟩ []
  exact Jh (l':=[]) this id rfl rfl (jL (by simp[nl]) fun i hi=>by omega) trivial
 ·rename_i es n f
  split at hs
  ·rename_i he
   have he:es=1:=by simpa using he
   subst he
   simp only[Option.some.injEq]at hs
   subst hs
   exact fun need=>CQ need K trivial
  ·simp at hs
 ·simp at hs
theorem afI {A B:Nat} (hA:nl A<2^40) (hB:nl B<2^40) (K:Nat) (pre:aA):az P qR K [.mag A,.mag B] pre (aF (.bool (decide (A=B))) []):=by
 refine iG hT adK rfl (of_decide_eq_true (by kernel_rfl)) rfl (fun _ c h0=>?_) K pre
 refine ak.hole [1,1,0,1] (by kernel_rfl) (aC.bf hT aX hm 30 [0,1,12,13,4] NP (by kernel_rfl) ?_)
 simp only[aa.all,bne_iff_ne,ne_eq,Int.natCast_inj,bne_eq_false_iff_eq]
 refine⟨fun hb s' hv=>?_,fun hb s' hv=>?_⟩
 ·exact fk (us:=[.bool false]) (.inr rfl) hv (by kernel_rfl) (eM (decide_eq_false fun h=>hb (by rw[h])).symm)
 refine ak.gk (i:=0) (y:=part (aq nc) [1,1,0,1,0,0]) (by kernel_rfl)
  (fun i:Nat=>⟨aB [0,1,12,13,4] [.mag A,.mag B,.int .i64 (nl A),.int .i64 i,.bool false],[],0⟩)
  (fun i=>i≤nl A∧∀j,j<i→ay A j=ay B j) (fun i=>nl A-i) 0
  (cK [] hv h0 rfl ⟨⟨rfl,aH rfl⟩,⟨rfl,aH rfl⟩,⟨rfl,aH rfl⟩,⟨rfl,aH rfl⟩,⟨rfl,aH rfl⟩,trivial⟩ trivial) ⟨by omega,fun j h=>by omega⟩ ?_
 rintro i ⟨hi,hlim⟩
 refine ak.bf hT aX hm 30 [0,1,12,13,4] WM (by kernel_rfl) ?_
 simp only[aa.all,ax,decide_eq_true_eq,decide_eq_false_iff_not,bne_iff_ne,ne_eq,Int.natCast_inj,bne_eq_false_iff_eq,Int.toNat_natCast]
 refine⟨fun h1=>⟨⟨by omega,by omega⟩,fun hne s' hv=>?_,fun heq s' hv=>?_⟩,fun h1 s' hv=>?_⟩
 ·exact fk (us:=[.bool false]) (.inr rfl) hv (by kernel_rfl) (eM (decide_eq_false fun h=>hne (by rw[h])).symm)
 ·refine⟨i+1,cK [] hv h0 rfl ⟨⟨rfl,aH rfl⟩,⟨rfl,aH rfl⟩,⟨rfl,aH rfl⟩,⟨rfl,eZ (by rw[wrap_i64 (by omega) (by omega)];omega)⟩,⟨rfl,aH rfl⟩,trivial⟩ trivial,⟨by omega,fun j hj=>?_⟩,by omega⟩
  by_cases h:j=i
  ·subst h;exact heq
  ·exact hlim j (by omega)
 ·have hAB:A=B:=Fg hb fun j hj=>hlim j (by omega)
  exact aC.weak (by kernel_rfl) (cK (vs:=[.mag A,.mag B,.int .i64 (nl A),.int .i64 i,.bool false]) (ps:=[]) (nx:=0) [] hv h0 rfl ⟨⟨rfl,aH rfl⟩,⟨rfl,aH rfl⟩,⟨rfl,aH rfl⟩,⟨rfl,aH rfl⟩,⟨rfl,aH rfl⟩,trivial⟩ trivial)
   (aC.fin hT aX hm 30 ZO (by kernel_rfl) (eM (decide_eq_true hAB).symm))
def gC:AV→Option Nat
 |.mag N=>some N
 |.nil=>some 0
 |_=>none
theorem jB {a:AV} {N:Nat} (h:gC a=some N):bz a (.mag N):=by
 cases a<;>simp only[gC,reduceCtorEq,Option.some.injEq]at h
 case mag M=>subst h;exact .refl _
 case nil=>subst h;exact jf
def Dg:Spec:=bA fun l=>match l with
 |[a,b]=>match gC a,gC b with
  |some A,some B=>some (aF (.bool (decide (A=B))) [nl A<2^40,nl B<2^40])
  |_,_=>none
 |_=>none
theorem HX:∀K args pre r,Dg K args pre=some r→az P qR K args pre r:=by
 refine bS fun K args r hk hs _=>?_
 split at hs
 ·split at hs
  ·rename_i A B hA hB
   simp only[Option.some.injEq]at hs
   subst hs
   exact fun need=>fP (afI need.1 need.2 K []) hk ⟨jB hA,jB hB,trivial⟩ [] trivial
  ·simp at hs
 ·simp at hs
abbrev mN:List Nat:=[1,5,17,18,19]
abbrev o4 (n m:Nat) (z y:Nat→Nat) (K i:Nat):List AV:=[.ag 1 m (au y),.own K 1 0 (n+m),.ag 1 n (au z),.int .i64 n,.int .i64 i]
abbrev Du:List Nat:=[1,5,17,18,19,6,7,8,26,27,28]
abbrev KE (n m:Nat) (z y:Nat→Nat) (K i x c j:Nat):List AV:=[.ag 1 m (au y),.own K 1 0 (n+m),.ag 1 n (au z),.int .i64 n,.int .i64 i,.int .i64 i,.int .u32 x,.int .u64 c,.ag 1 m (au y),.int .i64 m,.int .i64 j]
theorem SF {n m:Nat} {z y:Nat→Nat} (hz:∀i,i<n→z i<2^32) (hy:∀i,i<m→y i<2^32) (hn:n<2^40) (hm':m<2^40) (K:Nat) (pre:aA):
  az P xw K [.ag 1 n (au z),.ag 1 m (au y)] pre (aF (.mag (val n z*val m y)) []):=by
 refine iG hT aaQ rfl (of_decide_eq_true (by kernel_rfl)) rfl (fun _ c0 h0=>?_) K pre
 refine ak.hole [1,1,0,1] (by kernel_rfl) (aC.bf hT fu hm 30 mN aaY (by kernel_rfl) ?_)
 have hw:IntKind.i64.wrap ((n:Int)+(m:Int))=((n+m:Nat):Int):=by rw[wrap_i64 (by omega) (by omega)];omega
 simp only[aa.all,ax,hw,Int.toNat_natCast]
 refine⟨by omega,fun s' hv=>?_⟩
 refine ak.gk (i:=0) (y:=part (aq g8) [1,1,0,1,0,0]) (by kernel_rfl)
  (fun p:Nat×(Nat→Nat)=>⟨aB mN (o4 n m z y 7 p.1),[(7,⟨true,true,1,n+m,au p.2⟩)],8⟩)
  (fun p=>p.1≤n∧(∀j,j<n+m→p.2 j<2^32)∧(∀j,p.1+m≤j→p.2 j=0)∧val (n+m) p.2=val p.1 z*val m y)
  (fun p=>n-p.1) (0,fun _=>0)
  (cK [(7,24576)] hv h0 rfl ⟨⟨rfl,aH rfl⟩,⟨rfl,bR rfl rfl rfl⟩,⟨rfl,aH rfl⟩,⟨rfl,aH rfl⟩,⟨rfl,aH rfl⟩,trivial⟩
   ⟨⟨_,_,rfl,rfl,eo rfl fun j _=>rfl⟩,trivial⟩)
  ⟨by simp,fun j _=>by simp,fun j _=>rfl,?_⟩ ?_
 ·simp only
  rw[kO (k:=0) (by omega) fun _ _ _=>rfl]
  simp[val]
 rintro⟨i,o⟩ ⟨hi,ho,ho0,hval⟩
 simp only at hi ho ho0 hval
 have next:∀{o':Nat→Nat} {s':aE},i<n→aU mN s'=some (o4 n m z y 7 i,[(7,⟨true,true,1,n+m,au o'⟩)])→(∀j,j<n+m→o' j<2^32)→(∀j,i+1+m≤j→o' j=0)→
   val (n+m) o'=val (i+1) z*val m y→∀{QF:aj→aE→Prop},
   aC P c0 g8.ntmps (behind (part (aq g8) [1,1,0,1,0,0]) [1,1,0]) s' (cX (fun s'=>∃k:Nat×(Nat→Nat),(∃ρ,Le c0 ρ s' ⟨aB mN (o4 n m z y 7 k.1),[(7,⟨true,true,1,n+m,au k.2⟩)],8⟩)∧
    (k.1≤n∧(∀j,j<n+m→k.2 j<2^32)∧(∀j,k.1+m≤j→k.2 j=0)∧val (n+m) k.2=val k.1 z*val m y)∧n-k.1<n-i) QF):=by
  intro o' s' hin hv g1 g2 g3 QF
  refine aC.weak (by kernel_rfl) (cK (vs:=o4 n m z y 7 i) (ps:=[(7,⟨true,true,1,n+m,au o'⟩)]) (nx:=8) [(7,7)] hv h0 rfl ⟨⟨rfl,aH rfl⟩,⟨rfl,bR rfl rfl rfl⟩,⟨rfl,aH rfl⟩,⟨rfl,aH rfl⟩,⟨rfl,aH rfl⟩,trivial⟩
    ⟨⟨_,_,rfl,rfl,eo rfl fun j _=>rfl⟩,trivial⟩)
   (aC.bf hT fu hm 30 mN abA (by kernel_rfl) ?_)
  intro s' hv
  exact⟨(i+1,o'),cK [(7,7)] hv h0 rfl ⟨⟨rfl,aH rfl⟩,⟨rfl,bR rfl rfl rfl⟩,⟨rfl,aH rfl⟩,⟨rfl,aH rfl⟩,⟨rfl,eZ (by rw[wrap_i64 (by omega) (by omega)];simp only;omega)⟩,trivial⟩
    ⟨⟨_,_,rfl,rfl,eo rfl fun j _=>rfl⟩,trivial⟩,⟨by simp only;omega,g1,g2,g3⟩,by simp only;omega⟩
 refine ak.hole [1,1,0] (by kernel_rfl) (aC.bf hT fu hm 30 mN abE (by kernel_rfl) ?_)
 simp only[aa.all,decide_eq_true_eq,decide_eq_false_iff_not]
 refine⟨fun h1 s' hv=>?_,fun h1 s' hv=>?_⟩
 ·have hin:i<n:=by omega
  have hzi:=hz i hin
  refine ak.j0 (cK (vs:=o4 n m z y 7 i) (ps:=[(7,⟨true,true,1,n+m,au o⟩)]) (nx:=8) [(7,7)] hv h0 rfl ⟨⟨rfl,aH rfl⟩,⟨rfl,bR rfl rfl rfl⟩,⟨rfl,aH rfl⟩,⟨rfl,aH rfl⟩,⟨rfl,aH rfl⟩,trivial⟩
    ⟨⟨_,_,rfl,rfl,eo rfl fun j _=>rfl⟩,trivial⟩) ?_
  refine ak.nE (i:=1) (y:=part (aq g8) [1,1,0,1,0,0,1,1,0,0]) (by kernel_rfl) ?_
  refine ak.hole [1,1,1,0,1] (by kernel_rfl) (aC.bf hT fu hm 30 Du afX (by kernel_rfl) ?_)
  simp only[aa.all,ax,Int.toNat_natCast,beq_iff_eq,beq_eq_false_iff_ne,ne_eq]
  refine⟨by omega,fun hz0 s' hv=>?_,fun hz0 s' hv=>?_⟩
  ·refine ef ?_
   exact(next hin (gl (ls:=mN) (l:=[6,7,8,26,27,28]) (vs:=o4 n m z y 7 i) hv rfl rfl) ho (fun j hj=>ho0 j (by omega)) (by rw[hval,val,show z i=0 by omega];simp))
  refine ak.gk (i:=2) (y:=part (part (aq g8) [1,1,0,1,0,0,1,1,0,0]) [1,1,1,0,1,0,0]) (by kernel_rfl)
   (fun p:Nat×Nat×(Nat→Nat)=>⟨aB Du (KE n m z y 7 i (z i) p.2.1 p.1),[(7,⟨true,true,1,n+m,au p.2.2⟩)],8⟩)
   (fun p=>p.1≤m∧p.2.1<2^32∧(∀j,j<n+m→p.2.2 j<2^32)∧(∀j,i+m≤j→p.2.2 j=0)∧val (n+m) p.2.2+p.2.1*2^(32*(i+p.1))=val i z*val m y+z i*val p.1 y*2^(32*i))
   (fun p=>m-p.1) (0,0,o)
   (cK [(7,7)] hv h0 rfl ⟨⟨rfl,aH rfl⟩,⟨rfl,bR rfl rfl rfl⟩,⟨rfl,aH rfl⟩,⟨rfl,aH rfl⟩,⟨rfl,aH rfl⟩,⟨rfl,aH rfl⟩,⟨rfl,aH rfl⟩,⟨rfl,aH rfl⟩,⟨rfl,aH rfl⟩,⟨rfl,aH rfl⟩,⟨rfl,aH rfl⟩,trivial⟩
    ⟨⟨_,_,rfl,rfl,eo rfl fun j _=>rfl⟩,trivial⟩)
   ⟨by simp,by simp,ho,ho0,by simp[val,hval]⟩ ?_
  rintro⟨j,c,o⟩ ⟨hj,hc,ho,ho0,hval⟩
  simp only at hj hc ho ho0 hval
  refine ak.bf hT fu hm 30 Du adL (by kernel_rfl) ?_
  have hij:IntKind.i64.wrap ((i:Int)+(j:Int))=((i+j:Nat):Int):=by rw[wrap_i64 (by omega) (by omega)];omega
  simp only[aa.all,ax,decide_eq_true_eq,decide_eq_false_iff_not,hij,Int.toNat_natCast,Nat.add_zero,beq_iff_eq]
  refine⟨fun h2=>?_,fun h2 s' hv=>ef ?_⟩
  ·have hjm:j<m:=by omega
   obtain⟨m1,m2,m3⟩:=LZ hc hzi (hy j hjm) (ho (i+j) (by omega))
   rw[m1]
   refine⟨by omega,by omega,by omega,by omega,fun s' hv=>⟨(j+1,(c+z i*y j+o (i+j))/4294967296,bP o (i+j) ((c+z i*y j+o (i+j))%4294967296)),?_,⟨by simp only;omega,m3,fV (by omega) ho,fun k hk=>?_,?_⟩,by simp only;omega⟩⟩
   ·refine cK [(7,7)] hv h0 rfl ⟨⟨rfl,aH rfl⟩,⟨rfl,bR rfl rfl rfl⟩,⟨rfl,aH rfl⟩,⟨rfl,aH rfl⟩,⟨rfl,aH rfl⟩,⟨rfl,aH rfl⟩,⟨rfl,aH rfl⟩,⟨rfl,eZ ?_⟩,⟨rfl,aH rfl⟩,⟨rfl,aH rfl⟩,⟨rfl,eZ ?_⟩,trivial⟩
     ⟨⟨_,_,rfl,rfl,eo rfl fun k _=>fE (by rw[ij]) k⟩,trivial⟩
    ·rw[jw];simp only;omega
    ·rw[wrap_i64 (by omega) (by omega)];simp only;omega
   ·exact(ew (by omega)).trans (ho0 k hk)
   ·simp only
    rw[show 32*(i+(j+1))=32*((i+j)+1) by omega,fQ,val]
    have hset:=Fa (o:=o) (x:=(c+z i*y j+o (i+j))%4294967296) (show i+j<n+m by omega)
    exact Kl rfl (Nat.div_add_mod _ _) hset (by rw[←Nat.pow_add];congr 1;omega) hval
  ·have hjm:j=m:=by omega
   subst hjm
   refine aC.weak (by kernel_rfl) (cK (vs:=KE n j z y 7 i (z i) c j) (ps:=[(7,⟨true,true,1,n+j,au o⟩)]) (nx:=8) [(7,7)] hv h0 rfl
     ⟨⟨rfl,aH rfl⟩,⟨rfl,bR rfl rfl rfl⟩,⟨rfl,aH rfl⟩,⟨rfl,aH rfl⟩,⟨rfl,aH rfl⟩,⟨rfl,aH rfl⟩,⟨rfl,aH rfl⟩,⟨rfl,aH rfl⟩,⟨rfl,aH rfl⟩,⟨rfl,aH rfl⟩,⟨rfl,aH rfl⟩,trivial⟩
     ⟨⟨_,_,rfl,rfl,eo rfl fun j _=>rfl⟩,trivial⟩)
    (aC.bf hT fu hm 30 mN VI (by kernel_rfl) ?_)
   simp only[aa.all,ax,hij,Int.toNat_natCast,Nat.add_zero,beq_iff_eq]
   refine⟨by omega,fun s' hv=>?_⟩
   have hf:(fun k=>if k=i+j then AV.int .u32 (IntKind.u32.wrap (c:Int))else au o k)=au (bP o (i+j) c):=by
    funext k
    exact fE (wrap_u32 (by omega) (by omega)) k
   rw[hf]at hv
   refine next hin hv (fV hc ho) (fun k hk=>(ew (by omega)).trans (ho0 k (by omega))) ?_
   rw[pJ (by omega) (ho0 _ (by omega)),hval,val,Nat.add_mul,Nat.mul_assoc,Nat.mul_assoc,Nat.mul_comm (val j y)]
 ·have hin:i=n:=by omega
  subst hin
  refine oN (ef ?_)
  refine(aC.weak (by kernel_rfl) (cK (vs:=o4 i m z y 7 i) (ps:=[(7,⟨true,true,1,i+m,au o⟩)]) (nx:=8) [(7,7)] hv h0 rfl ⟨⟨rfl,aH rfl⟩,⟨rfl,bR rfl rfl rfl⟩,⟨rfl,aH rfl⟩,⟨rfl,aH rfl⟩,⟨rfl,aH rfl⟩,trivial⟩
    ⟨⟨_,_,rfl,rfl,eo rfl fun j _=>rfl⟩,trivial⟩)
   (aC.fin hT fu hm 30 aav (by kernel_rfl) ?_))
  simp only[aa.all,ax,Nat.add_zero,ia]
  exact⟨⟨fc ho,by omega⟩,de (congrArg AV.mag hval)⟩
def FG (A n B m:Nat):cJ:=aF (.mag (A*B)) [n<2^40,m<2^40]
theorem afF:∀K args pre r,bA (fT FG) K args pre=some r→az P xw K args pre r:=
 bS (qP fun _ _ _ _ K hz hy need=>SF hz hy need.1 need.2 K [])
end Go.Am.B
