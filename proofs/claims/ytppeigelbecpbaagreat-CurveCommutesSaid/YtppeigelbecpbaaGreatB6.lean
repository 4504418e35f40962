/- slices.Clone, slices.Equal, natural.Mul. -/
import Derived.Test.YtppeigelbecpbaaGreatB5
set_option linter.unusedVariables false
namespace Go.Am.B
open Go Go.Am.N AV
theorem abM:aO P qD A7 (au A7):=aQ YT (by kernel_rfl) (by kernel_rfl) (by kernel_rfl)
theorem VP:aO P sY o7 (au o7):=aQ afZ (by kernel_rfl) (by kernel_rfl) (by kernel_rfl)
theorem SG:aO P AY iO (au iO):=aQ ahX (by kernel_rfl) (by kernel_rfl) (by kernel_rfl)
theorem ac8 {n:Nat} {b:Bool} {f:Nat→AV}:bF T [] [4] 30 A7 (au A7) ⟨aN 0 [.dx b 1 n f],[],0⟩=
  some (aa.fork b (aa.leaf aj.ret [nil]) (aa.ag [(0:Nat)*1≤2^24,((0:Nat)+n)*((4:Nat)+1)*2≤2^47] (aa.leaf aj.ret [ak 1 ((0:Nat)+n) fun i↦if i+0<0 then nth [] (int IntKind.u32 (0:Int)) (i+0)else f (i+0-0)]))):=by kernel_rfl
theorem abO {A B:Nat}:aH T [] [10] 30 [0,1,12,13,4] (before (au o7) [1,1,0,1]) ⟨aN 0 [.mag A,.mag B],[],0⟩=
  some (aa.fork ((↑(nl A):Int)!=(↑(nl B):Int)) (aa.leaf aj.ret ([mag A,mag B,tuple [],tuple [],AV.bool false],[])) (aa.leaf aj.normal ([mag A,mag B,int IntKind.i64 (↑(nl A):Int),int IntKind.i64 (0:Int),AV.bool false],[]))):=by kernel_rfl
theorem Ws {A B i:Nat}:aH T [] [14,24] 30 [0,1,12,13,4] [part (au o7) [1,1,0,1,0,0]] ⟨aA [0,1,12,13,4] [.mag A,.mag B,.int .i64 (nl A),.int .i64 i,.bool false],[],0⟩=
  let c3:Int:=(↑(nl A):Int);let c2:Int:=(↑i:Int);let c1:List AV:=[mag A,mag B,int IntKind.i64 c3,int IntKind.i64 c2,AV.bool false];some (aa.fork (decide (c2<c3)) (aa.ag [(0:Int)≤c2∧c2.toNat<nl A,(0:Int)≤c2∧c2.toNat<nl B] (aa.fork ((↑(az A c2.toNat):Int)!=(↑(az B c2.toNat):Int)) (aa.leaf aj.ret (c1,[])) (aa.leaf aj.normal ([mag A,mag B,int IntKind.i64 c3,int IntKind.i64 (IntKind.i64.wrap (c2+(1:Int))),AV.bool false],[])))) (aa.leaf (aj.exit 0) (c1,[]))):=by kernel_rfl
theorem adj {A B i:Nat}:cm T [] [] 30 o7 (behind (au o7) [1,1,0,1]) ⟨aA [0,1,12,13,4] [.mag A,.mag B,.int .i64 (nl A),.int .i64 i,.bool false],[],0⟩=
  some (aa.leaf aj.ret [AV.bool true]):=by kernel_rfl
theorem acC {n m:Nat} {z y:Nat→Nat}:aH T G1 [] 30 [1,5,17,18,19] (before (au iO) [1,1,0,1]) ⟨aN 0 [.ak 1 n (ay z),.ak 1 m (ay y)],[],0⟩=
  let c1:Int:=IntKind.i64.wrap ((↑n:Int)+(↑m:Int));some (aa.ag [(0:Int)≤c1∧c1≤c1∧c1≤(2:Int)^47∧c1*(↑(4:Nat):Int)≤(2:Int)^47] (aa.leaf aj.normal ([ak 1 m fun a↦int IntKind.u32 (↑(y a):Int),own 24576 1 0 c1.toNat,ak 1 n fun a↦int IntKind.u32 (↑(z a):Int),int IntKind.i64 (↑n:Int),int IntKind.i64 (0:Int)],[((24576:Nat),ah.mk true true 1 c1.toNat fun x↦int IntKind.u32 (0:Int))]))):=by kernel_rfl
theorem Wj {n m i:Nat} {z y o:Nat→Nat}:aH T G1 [20] 30 [1,5,17,18,19] (before (part (au iO) [1,1,0,1,0,0]) [1,1,0]) ⟨aA [1,5,17,18,19] [.ak 1 m (ay y),.own 7 1 0 (n+m),.ak 1 n (ay z),.int .i64 n,.int .i64 i],[(7,⟨true,true,1,n+m,ay o⟩)],8⟩=
  let c1:List AV×aC:=([ak 1 m fun a↦int IntKind.u32 (↑(y a):Int),own 7 1 0 (n+m),ak 1 n fun a↦int IntKind.u32 (↑(z a):Int),int IntKind.i64 (↑n:Int),int IntKind.i64 (↑i:Int)],[((7:Nat),ah.mk true true 1 (n+m) fun a↦int IntKind.u32 (↑(o a):Int))]);some (aa.fork (decide ((↑i:Int)<(↑n:Int))) (aa.leaf aj.normal c1) (aa.leaf (aj.exit 0) c1)):=by kernel_rfl
theorem XL {n m i:Nat} {z y o:Nat→Nat}:aH T G1 [25] 30 [1,5,17,18,19,6,7,8,26,27,28] (before (part (au iO) [1,1,0,1,0,0,1,1,0,0]) [1,1,1,0,1]) ⟨aA [1,5,17,18,19] [.ak 1 m (ay y),.own 7 1 0 (n+m),.ak 1 n (ay z),.int .i64 n,.int .i64 i],[(7,⟨true,true,1,n+m,ay o⟩)],8⟩=
  let c8:Int:=(↑i:Int);let c7:AV:=int IntKind.i64 (↑n:Int);let c6:AV:=own 7 1 0 (n+m);let c4:AV:=ak 1 n fun a↦int IntKind.u32 (↑(z a):Int);let c2:Nat×ah:=((7:Nat),ah.mk true true 1 (n+m) fun a↦int IntKind.u32 (↑(o a):Int));let c1:AV:=ak 1 m fun a↦int IntKind.u32 (↑(y a):Int);let c5:Int:=(↑(z c8.toNat):Int);let c3:AV:=int IntKind.i64 c8;some (aa.ag [(0:Int)≤c8∧c8.toNat<n] (aa.fork (c5==(0:Int)) (aa.leaf (aj.exit 1) ([c1,c6,c4,c7,c3,c3,int IntKind.u32 c5,tuple [],tuple [],tuple [],tuple []],[c2])) (aa.leaf aj.normal ([c1,c6,c4,c7,c3,c3,int IntKind.u32 c5,int IntKind.u64 (0:Int),c1,int IntKind.i64 (↑m:Int),int IntKind.i64 (0:Int)],[c2])))):=by kernel_rfl
theorem Ya {n m i j x c:Nat} {z y o:Nat→Nat}:aH T G1 [29] 30 [1,5,17,18,19,6,7,8,26,27,28] [part (part (au iO) [1,1,0,1,0,0,1,1,0,0]) [1,1,1,0,1,0,0]] ⟨aA [1,5,17,18,19,6,7,8,26,27,28] [.ak 1 m (ay y),.own 7 1 0 (n+m),.ak 1 n (ay z),.int .i64 n,.int .i64 i,.int .i64 i,.int .u32 x,.int .u64 c,.ak 1 m (ay y),.int .i64 m,.int .i64 j],[(7,⟨true,true,1,n+m,ay o⟩)],8⟩=
  let c12:AV:=int IntKind.i64 (↑n:Int);let c11:AV:=int IntKind.u32 (↑x:Int);let c10:AV:=int IntKind.i64 (↑m:Int);let c8:AV:=own 7 1 0 (n+m);let c7:Int:=(↑j:Int);let c6:AV:=ak 1 n fun a↦int IntKind.u32 (↑(z a):Int);let c4:AV:=int IntKind.i64 (↑i:Int);let c3:AV:=ak 1 m fun a↦int IntKind.u32 (↑(y a):Int);let c1:Int:=IntKind.i64.wrap ((↑i:Int)+c7);let c5:Nat:=c1.toNat+0;let c9:List Prop:=[(0:Int)≤c1∧c1.toNat<n+m,c5<n+m];let c2:Int:=IntKind.u64.wrap ((↑c:Int)+IntKind.u64.wrap (IntKind.u64.wrap (IntKind.u64.wrap (↑x:Int)*IntKind.u64.wrap (↑(y c7.toNat):Int))+IntKind.u64.wrap (↑(o c5):Int)));some (aa.fork (decide (c7<(↑m:Int))) (aa.ag [(0:Int)≤c7∧c7.toNat<m] (aa.ag c9 (aa.ag c9 (aa.ag [(0:Int)≤(32:Int)] (aa.leaf aj.normal ([c3,c8,c6,c12,c4,c4,c11,int IntKind.u64 (c2.fdiv ((2:Int)^min (Int.toNat (32:Int)) IntKind.u64.bits)),c3,c10,int IntKind.i64 (IntKind.i64.wrap (c7+(1:Int)))],[((7:Nat),ah.mk true true 1 (n+m) fun j↦if(j==c5)=true then int IntKind.u32 (IntKind.u32.wrap c2)else ay o j)])))))) (aa.leaf (aj.exit 2) ([c3,c8,c6,c12,c4,c4,c11,int IntKind.u64 (↑c:Int),c3,c10,int IntKind.i64 c7],[((7:Nat),ah.mk true true 1 (n+m) fun a↦int IntKind.u32 (↑(o a):Int))]))):=by kernel_rfl
theorem Vs {n m i j x c:Nat} {z y o:Nat→Nat}:aH T G1 [] 30 [1,5,17,18,19] (behind (part (au iO) [1,1,0,1,0,0,1,1,0,0]) [1,1,1,0,1]) ⟨aA [1,5,17,18,19,6,7,8,26,27,28] [.ak 1 m (ay y),.own 7 1 0 (n+m),.ak 1 n (ay z),.int .i64 n,.int .i64 i,.int .i64 i,.int .u32 x,.int .u64 c,.ak 1 m (ay y),.int .i64 m,.int .i64 j],[(7,⟨true,true,1,n+m,ay o⟩)],8⟩=
  let c1:Int:=IntKind.i64.wrap ((↑i:Int)+(↑m:Int));let c2:Nat:=c1.toNat+0;some (aa.ag [(0:Int)≤c1∧c1.toNat<n+m,c2<n+m] (aa.leaf aj.normal ([ak 1 m fun a↦int IntKind.u32 (↑(y a):Int),own 7 1 0 (n+m),ak 1 n fun a↦int IntKind.u32 (↑(z a):Int),int IntKind.i64 (↑n:Int),int IntKind.i64 (↑i:Int)],[((7:Nat),ah.mk true true 1 (n+m) fun j↦if(j==c2)=true then int IntKind.u32 (IntKind.u32.wrap (↑c:Int))else ay o j)]))):=by kernel_rfl
theorem ajG {n m i:Nat} {z y o:Nat→Nat}:aH T G1 [] 30 [1,5,17,18,19] (behind (part (au iO) [1,1,0,1,0,0]) [1,1,0]) ⟨aA [1,5,17,18,19] [.ak 1 m (ay y),.own 7 1 0 (n+m),.ak 1 n (ay z),.int .i64 n,.int .i64 i],[(7,⟨true,true,1,n+m,ay o⟩)],8⟩=
  some (aa.leaf aj.normal ([ak 1 m fun a↦int IntKind.u32 (↑(y a):Int),own 7 1 0 (n+m),ak 1 n fun a↦int IntKind.u32 (↑(z a):Int),int IntKind.i64 (↑n:Int),int IntKind.i64 (IntKind.i64.wrap ((↑i:Int)+(1:Int)))],[((7:Nat),ah.mk true true 1 (n+m) fun a↦int IntKind.u32 (↑(o a):Int))])):=by kernel_rfl
theorem abx {n m i:Nat} {z y o:Nat→Nat}:cm T G1 [] 30 iO (behind (au iO) [1,1,0,1]) ⟨aA [1,5,17,18,19] [.ak 1 m (ay y),.own 7 1 0 (n+m),.ak 1 n (ay z),.int .i64 n,.int .i64 i],[(7,⟨true,true,1,n+m,ay o⟩)],8⟩=
  some (aa.ag [dB (n+m) fun i↦ay o (i+0),n+m<2^62] (aa.leaf aj.ret [mag (val (n+m) fun i↦numOf (ay o (i+0)))])):=by kernel_rfl
theorem G3 {n:Nat} {f:Nat→AV} (hn:n<2^40) (K:Nat):aB P qD K [.ak 1 n f] [] (aK (.ak 1 n f) []):=by
 refine Li fun b hb=>?_
 refine bJ hT bk hm abM rfl (of_decide_eq_true (by kernel_rfl)) rfl 30 ac8 (fun _=>?_) K []
 simp only[aa.all,ax]
 refine⟨fun h=>?_,fun h=>⟨⟨by omega,by omega⟩,p5 (by omega) fun i hi=>by simp⟩⟩
 rw[hb h]
 exact kT (by omega)
def BU:Spec:=bC fun l=>match l with
 |[.mag N]=>some (aK (.mag N) [nl N<2^40])
 |[.nil]=>some (aK (.mag 0) [])
 |[.ak es n f]=>if es==1 then some (aK (.ak 1 n f) [n<2^40])else none
 |_=>none
theorem E2:∀K args pre r,BU K args pre=some r→aB P qD K args pre r:=by
 refine bV fun K args r hk hs _=>?_
 split at hs
 ·rename_i N
  simp only[Option.some.injEq]at hs
  subst hs
  intro need
  have:=gb (args:=[.mag N]) (G3 (n:=nl N) (f:=fun i=>.int .u32 (az N i)) need K) rfl ⟨Kg rfl fun i hi=>rfl,trivial⟩ []
  exact Mv (l':=[]) this id rfl rfl (kG rfl fun i hi=>rfl) trivial
 ·simp only[Option.some.injEq]at hs
  subst hs
  intro need
  have:=gb (args:=[.nil]) (G3 (n:=0) (f:=fun _=>.nil) (by omega) K) rfl ⟨kT (by omega),trivial⟩ []
  exact Mv (l':=[]) this id rfl rfl (kG (by simp[nl]) fun i hi=>by omega) trivial
 ·rename_i es n f
  split at hs
  ·rename_i he
   have he:es=1:=by simpa using he
   subst he
   simp only[Option.some.injEq]at hs
   subst hs
   exact fun need=>G3 need K trivial
  ·simp at hs
 ·simp at hs
theorem acV {A B:Nat} (hA:nl A<2^40) (hB:nl B<2^40) (K:Nat) (pre:aC):aB P sY K [.mag A,.mag B] pre (aK (.bool (decide (A=B))) []):=by
 refine jk hT VP rfl (of_decide_eq_true (by kernel_rfl)) rfl (fun _ c h0=>?_) K pre
 refine aq.hole [1,1,0,1] (by kernel_rfl) (aD.bf hT bk hm 30 [0,1,12,13,4] abO (by kernel_rfl) ?_)
 simp only[aa.all,bne_iff_ne,ne_eq,Int.natCast_inj,bne_eq_false_iff_eq]
 refine⟨fun hb s' hv=>?_,fun hb s' hv=>?_⟩
 ·exact fZ (us:=[.bool false]) (.inr rfl) hv (by kernel_rfl) (fV (decide_eq_false fun h=>hb (by rw[h])).symm)
 refine aq.g8 (i:=0) (y:=part (au o7) [1,1,0,1,0,0]) (by kernel_rfl)
  (fun i:Nat=>⟨aA [0,1,12,13,4] [.mag A,.mag B,.int .i64 (nl A),.int .i64 i,.bool false],[],0⟩)
  (fun i=>i≤nl A∧∀j,j<i→az A j=az B j) (fun i=>nl A-i) 0
  (cX [] hv h0 rfl ⟨⟨rfl,aI rfl⟩,⟨rfl,aI rfl⟩,⟨rfl,aI rfl⟩,⟨rfl,aI rfl⟩,⟨rfl,aI rfl⟩,trivial⟩ trivial) ⟨by omega,fun j h=>by omega⟩ ?_
 rintro i ⟨hi,hlim⟩
 refine aq.bf hT bk hm 30 [0,1,12,13,4] Ws (by kernel_rfl) ?_
 simp only[aa.all,ax,decide_eq_true_eq,decide_eq_false_iff_not,bne_iff_ne,ne_eq,Int.natCast_inj,bne_eq_false_iff_eq,Int.toNat_natCast]
 refine⟨fun h1=>⟨⟨by omega,by omega⟩,fun hne s' hv=>?_,fun heq s' hv=>?_⟩,fun h1 s' hv=>?_⟩
 ·exact fZ (us:=[.bool false]) (.inr rfl) hv (by kernel_rfl) (fV (decide_eq_false fun h=>hne (by rw[h])).symm)
 ·refine⟨i+1,cX [] hv h0 rfl ⟨⟨rfl,aI rfl⟩,⟨rfl,aI rfl⟩,⟨rfl,aI rfl⟩,⟨rfl,fN (by rw[wrap_i64 (by omega) (by omega)];omega)⟩,⟨rfl,aI rfl⟩,trivial⟩ trivial,⟨by omega,fun j hj=>?_⟩,by omega⟩
  by_cases h:j=i
  ·subst h;exact heq
  ·exact hlim j (by omega)
 ·have hAB:A=B:=Gn hb fun j hj=>hlim j (by omega)
  exact aD.weak (by kernel_rfl) (cX (vs:=[.mag A,.mag B,.int .i64 (nl A),.int .i64 i,.bool false]) (ps:=[]) (nx:=0) [] hv h0 rfl ⟨⟨rfl,aI rfl⟩,⟨rfl,aI rfl⟩,⟨rfl,aI rfl⟩,⟨rfl,aI rfl⟩,⟨rfl,aI rfl⟩,trivial⟩ trivial)
   (aD.fin hT bk hm 30 adj (by kernel_rfl) (fV (decide_eq_true hAB).symm))
def iD:AV→Option Nat
 |.mag N=>some N
 |.nil=>some 0
 |_=>none
theorem kU {a:AV} {N:Nat} (h:iD a=some N):bB a (.mag N):=by
 cases a<;>simp only[iD,reduceCtorEq,Option.some.injEq]at h
 case mag M=>subst h;exact .refl _
 case nil=>subst h;exact jV
def Gb:Spec:=bC fun l=>match l with
 |[a,b]=>match iD a,iD b with
  |some A,some B=>some (aK (.bool (decide (A=B))) [nl A<2^40,nl B<2^40])
  |_,_=>none
 |_=>none
theorem IW:∀K args pre r,Gb K args pre=some r→aB P sY K args pre r:=by
 refine bV fun K args r hk hs _=>?_
 split at hs
 ·split at hs
  ·rename_i A B hA hB
   simp only[Option.some.injEq]at hs
   subst hs
   exact fun need=>gb (acV need.1 need.2 K []) hk ⟨kU hA,kU hB,trivial⟩ [] trivial
  ·simp at hs
 ·simp at hs
abbrev pR:List Nat:=[1,5,17,18,19]
abbrev qW (n m:Nat) (z y:Nat→Nat) (K i:Nat):List AV:=[.ak 1 m (ay y),.own K 1 0 (n+m),.ak 1 n (ay z),.int .i64 n,.int .i64 i]
abbrev GK:List Nat:=[1,5,17,18,19,6,7,8,26,27,28]
abbrev KL (n m:Nat) (z y:Nat→Nat) (K i x c j:Nat):List AV:=[.ak 1 m (ay y),.own K 1 0 (n+m),.ak 1 n (ay z),.int .i64 n,.int .i64 i,.int .i64 i,.int .u32 x,.int .u64 c,.ak 1 m (ay y),.int .i64 m,.int .i64 j]
theorem YW {n m:Nat} {z y:Nat→Nat} (hz:∀i,i<n→z i<2^32) (hy:∀i,i<m→y i<2^32) (hn:n<2^40) (hm':m<2^40) (K:Nat) (pre:aC):
  aB P AY K [.ak 1 n (ay z),.ak 1 m (ay y)] pre (aK (.mag (val n z*val m y)) []):=by
 refine jk hT SG rfl (of_decide_eq_true (by kernel_rfl)) rfl (fun _ c0 h0=>?_) K pre
 refine aq.hole [1,1,0,1] (by kernel_rfl) (aD.bf hT gj hm 30 pR acC (by kernel_rfl) ?_)
 have hw:IntKind.i64.wrap ((n:Int)+(m:Int))=((n+m:Nat):Int):=by rw[wrap_i64 (by omega) (by omega)];omega
 simp only[aa.all,ax,hw,Int.toNat_natCast]
 refine⟨by omega,fun s' hv=>?_⟩
 refine aq.g8 (i:=0) (y:=part (au iO) [1,1,0,1,0,0]) (by kernel_rfl)
  (fun p:Nat×(Nat→Nat)=>⟨aA pR (qW n m z y 7 p.1),[(7,⟨true,true,1,n+m,ay p.2⟩)],8⟩)
  (fun p=>p.1≤n∧(∀j,j<n+m→p.2 j<2^32)∧(∀j,p.1+m≤j→p.2 j=0)∧val (n+m) p.2=val p.1 z*val m y)
  (fun p=>n-p.1) (0,fun _=>0)
  (cX [(7,24576)] hv h0 rfl ⟨⟨rfl,aI rfl⟩,⟨rfl,cw rfl rfl rfl⟩,⟨rfl,aI rfl⟩,⟨rfl,aI rfl⟩,⟨rfl,aI rfl⟩,trivial⟩
   ⟨⟨_,_,rfl,rfl,e9 rfl fun j _=>rfl⟩,trivial⟩)
  ⟨by simp,fun j _=>by simp,fun j _=>rfl,?_⟩ ?_
 ·simp only
  rw[mV (k:=0) (by omega) fun _ _ _=>rfl]
  simp[val]
 rintro⟨i,o⟩ ⟨hi,ho,ho0,hval⟩
 simp only at hi ho ho0 hval
 have next:∀{o':Nat→Nat} {s':aF},i<n→aX pR s'=some (qW n m z y 7 i,[(7,⟨true,true,1,n+m,ay o'⟩)])→(∀j,j<n+m→o' j<2^32)→(∀j,i+1+m≤j→o' j=0)→
   val (n+m) o'=val (i+1) z*val m y→∀{QF:aj→aF→Prop},
   aD P c0 iO.ntmps (behind (part (au iO) [1,1,0,1,0,0]) [1,1,0]) s' (dz (fun s'=>∃k:Nat×(Nat→Nat),(∃ρ,Le c0 ρ s' ⟨aA pR (qW n m z y 7 k.1),[(7,⟨true,true,1,n+m,ay k.2⟩)],8⟩)∧
    (k.1≤n∧(∀j,j<n+m→k.2 j<2^32)∧(∀j,k.1+m≤j→k.2 j=0)∧val (n+m) k.2=val k.1 z*val m y)∧n-k.1<n-i) QF):=by
  intro o' s' hin hv g1 g2 g3 QF
  refine aD.weak (by kernel_rfl) (cX (vs:=qW n m z y 7 i) (ps:=[(7,⟨true,true,1,n+m,ay o'⟩)]) (nx:=8) [(7,7)] hv h0 rfl ⟨⟨rfl,aI rfl⟩,⟨rfl,cw rfl rfl rfl⟩,⟨rfl,aI rfl⟩,⟨rfl,aI rfl⟩,⟨rfl,aI rfl⟩,trivial⟩
    ⟨⟨_,_,rfl,rfl,e9 rfl fun j _=>rfl⟩,trivial⟩)
   (aD.bf hT gj hm 30 pR ajG (by kernel_rfl) ?_)
  intro s' hv
  exact⟨(i+1,o'),cX [(7,7)] hv h0 rfl ⟨⟨rfl,aI rfl⟩,⟨rfl,cw rfl rfl rfl⟩,⟨rfl,aI rfl⟩,⟨rfl,aI rfl⟩,⟨rfl,fN (by rw[wrap_i64 (by omega) (by omega)];simp only;omega)⟩,trivial⟩
    ⟨⟨_,_,rfl,rfl,e9 rfl fun j _=>rfl⟩,trivial⟩,⟨by simp only;omega,g1,g2,g3⟩,by simp only;omega⟩
 refine aq.hole [1,1,0] (by kernel_rfl) (aD.bf hT gj hm 30 pR Wj (by kernel_rfl) ?_)
 simp only[aa.all,decide_eq_true_eq,decide_eq_false_iff_not]
 refine⟨fun h1 s' hv=>?_,fun h1 s' hv=>?_⟩
 ·have hin:i<n:=by omega
  have hzi:=hz i hin
  refine aq.kg (cX (vs:=qW n m z y 7 i) (ps:=[(7,⟨true,true,1,n+m,ay o⟩)]) (nx:=8) [(7,7)] hv h0 rfl ⟨⟨rfl,aI rfl⟩,⟨rfl,cw rfl rfl rfl⟩,⟨rfl,aI rfl⟩,⟨rfl,aI rfl⟩,⟨rfl,aI rfl⟩,trivial⟩
    ⟨⟨_,_,rfl,rfl,e9 rfl fun j _=>rfl⟩,trivial⟩) ?_
  refine aq.ov (i:=1) (y:=part (au iO) [1,1,0,1,0,0,1,1,0,0]) (by kernel_rfl) ?_
  refine aq.hole [1,1,1,0,1] (by kernel_rfl) (aD.bf hT gj hm 30 GK XL (by kernel_rfl) ?_)
  simp only[aa.all,ax,Int.toNat_natCast,beq_iff_eq,beq_eq_false_iff_ne,ne_eq]
  refine⟨by omega,fun hz0 s' hv=>?_,fun hz0 s' hv=>?_⟩
  ·refine eV ?_
   exact(next hin (hH (ls:=pR) (l:=[6,7,8,26,27,28]) (vs:=qW n m z y 7 i) hv rfl rfl) ho (fun j hj=>ho0 j (by omega)) (by rw[hval,val,show z i=0 by omega];simp))
  refine aq.g8 (i:=2) (y:=part (part (au iO) [1,1,0,1,0,0,1,1,0,0]) [1,1,1,0,1,0,0]) (by kernel_rfl)
   (fun p:Nat×Nat×(Nat→Nat)=>⟨aA GK (KL n m z y 7 i (z i) p.2.1 p.1),[(7,⟨true,true,1,n+m,ay p.2.2⟩)],8⟩)
   (fun p=>p.1≤m∧p.2.1<2^32∧(∀j,j<n+m→p.2.2 j<2^32)∧(∀j,i+m≤j→p.2.2 j=0)∧val (n+m) p.2.2+p.2.1*2^(32*(i+p.1))=val i z*val m y+z i*val p.1 y*2^(32*i))
   (fun p=>m-p.1) (0,0,o)
   (cX [(7,7)] hv h0 rfl ⟨⟨rfl,aI rfl⟩,⟨rfl,cw rfl rfl rfl⟩,⟨rfl,aI rfl⟩,⟨rfl,aI rfl⟩,⟨rfl,aI rfl⟩,⟨rfl,aI rfl⟩,⟨rfl,aI rfl⟩,⟨rfl,aI rfl⟩,⟨rfl,aI rfl⟩,⟨rfl,aI rfl⟩,⟨rfl,aI rfl⟩,trivial⟩
    ⟨⟨_,_,rfl,rfl,e9 rfl fun j _=>rfl⟩,trivial⟩)
   ⟨by simp,by simp,ho,ho0,by simp[val,hval]⟩ ?_
  rintro⟨j,c,o⟩ ⟨hj,hc,ho,ho0,hval⟩
  simp only at hj hc ho ho0 hval
  refine aq.bf hT gj hm 30 GK Ya (by kernel_rfl) ?_
  have hij:IntKind.i64.wrap ((i:Int)+(j:Int))=((i+j:Nat):Int):=by rw[wrap_i64 (by omega) (by omega)];omega
  simp only[aa.all,ax,decide_eq_true_eq,decide_eq_false_iff_not,hij,Int.toNat_natCast,Nat.add_zero,beq_iff_eq]
  refine⟨fun h2=>?_,fun h2 s' hv=>eV ?_⟩
  ·have hjm:j<m:=by omega
   obtain⟨m1,m2,m3⟩:=Lv hc hzi (hy j hjm) (ho (i+j) (by omega))
   rw[m1]
   refine⟨by omega,by omega,by omega,by omega,fun s' hv=>⟨(j+1,(c+z i*y j+o (i+j))/4294967296,bU o (i+j) ((c+z i*y j+o (i+j))%4294967296)),?_,⟨by simp only;omega,m3,gT (by omega) ho,fun k hk=>?_,?_⟩,by simp only;omega⟩⟩
   ·refine cX [(7,7)] hv h0 rfl ⟨⟨rfl,aI rfl⟩,⟨rfl,cw rfl rfl rfl⟩,⟨rfl,aI rfl⟩,⟨rfl,aI rfl⟩,⟨rfl,aI rfl⟩,⟨rfl,aI rfl⟩,⟨rfl,aI rfl⟩,⟨rfl,fN ?_⟩,⟨rfl,aI rfl⟩,⟨rfl,aI rfl⟩,⟨rfl,fN ?_⟩,trivial⟩
     ⟨⟨_,_,rfl,rfl,e9 rfl fun k _=>gu (by rw[jr]) k⟩,trivial⟩
    ·rw[kB];simp only;omega
    ·rw[wrap_i64 (by omega) (by omega)];simp only;omega
   ·exact(fm (by omega)).trans (ho0 k hk)
   ·simp only
    rw[show 32*(i+(j+1))=32*((i+j)+1) by omega,gz,val]
    have hset:=D7 (o:=o) (x:=(c+z i*y j+o (i+j))%4294967296) (show i+j<n+m by omega)
    exact Pb rfl (Nat.div_add_mod _ _) hset (by rw[←Nat.pow_add];congr 1;omega) hval
  ·have hjm:j=m:=by omega
   subst hjm
   refine aD.weak (by kernel_rfl) (cX (vs:=KL n j z y 7 i (z i) c j) (ps:=[(7,⟨true,true,1,n+j,ay o⟩)]) (nx:=8) [(7,7)] hv h0 rfl
     ⟨⟨rfl,aI rfl⟩,⟨rfl,cw rfl rfl rfl⟩,⟨rfl,aI rfl⟩,⟨rfl,aI rfl⟩,⟨rfl,aI rfl⟩,⟨rfl,aI rfl⟩,⟨rfl,aI rfl⟩,⟨rfl,aI rfl⟩,⟨rfl,aI rfl⟩,⟨rfl,aI rfl⟩,⟨rfl,aI rfl⟩,trivial⟩
     ⟨⟨_,_,rfl,rfl,e9 rfl fun j _=>rfl⟩,trivial⟩)
    (aD.bf hT gj hm 30 pR Vs (by kernel_rfl) ?_)
   simp only[aa.all,ax,hij,Int.toNat_natCast,Nat.add_zero,beq_iff_eq]
   refine⟨by omega,fun s' hv=>?_⟩
   have hf:(fun k=>if k=i+j then AV.int .u32 (IntKind.u32.wrap (c:Int))else ay o k)=ay (bU o (i+j) c):=by
    funext k
    exact gu (wrap_u32 (by omega) (by omega)) k
   rw[hf]at hv
   refine next hin hv (gT hc ho) (fun k hk=>(fm (by omega)).trans (ho0 k (by omega))) ?_
   rw[qB (by omega) (ho0 _ (by omega)),hval,val,Nat.add_mul,Nat.mul_assoc,Nat.mul_assoc,Nat.mul_comm (val j y)]
 ·have hin:i=n:=by omega
  subst hin
  refine rq (eV ?_)
  refine(aD.weak (by kernel_rfl) (cX (vs:=qW i m z y 7 i) (ps:=[(7,⟨true,true,1,i+m,ay o⟩)]) (nx:=8) [(7,7)] hv h0 rfl ⟨⟨rfl,aI rfl⟩,⟨rfl,cw rfl rfl rfl⟩,⟨rfl,aI rfl⟩,⟨rfl,aI rfl⟩,⟨rfl,aI rfl⟩,trivial⟩
    ⟨⟨_,_,rfl,rfl,e9 rfl fun j _=>rfl⟩,trivial⟩)
   (aD.fin hT gj hm 30 abx (by kernel_rfl) ?_))
  simp only[aa.all,ax,Nat.add_zero,jn]
  exact⟨⟨fR ho,by omega⟩,dc (congrArg AV.mag hval)⟩
def M8 (A n B m:Nat):cJ:=aK (.mag (A*B)) [n<2^40,m<2^40]
theorem aeh:∀K args pre r,bC (gP M8) K args pre=some r→aB P AY K args pre r:=
 bV (r4 fun _ _ _ _ K hz hy need=>YW hz hy need.1 need.2 K [])
end Go.Am.B
