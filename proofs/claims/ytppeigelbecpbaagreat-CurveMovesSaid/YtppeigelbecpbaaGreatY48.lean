/- fJ.Times, ref08.Times; fJ.copied. -/
import Derived.Test.YtppeigelbecpbaaGreatY45
import Derived.Test.YtppeigelbecpbaaGreatC8
import Derived.Test.YtppeigelbecpbaaGreatZ2
import Derived.Test.YtppeigelbecpbaaGreatC2
import Derived.Test.YtppeigelbecpbaaGreatB33
set_option linter.unusedVariables false
namespace Go.Am.B
open Go Go.Am.N AV aa ak IntKind
theorem Vj:aO P rJ uZ (au uZ):=aP QL (by kernel_rfl) (by kernel_rfl) (by kernel_rfl)
theorem DR:aO P nM yU (au yU):=aP VL (by kernel_rfl) (by kernel_rfl) (by kernel_rfl)
abbrev xe:List Nat:=[3,5,8,9,10]
abbrev vv (n:Nat) (k:Nat→Rat) (c i:Nat):List AV:=[.ptr 0 0 3 0 [],.int .i64 c,ls k n,.int .i64 n,.int .i64 i]
noncomputable abbrev v7:Code:=au uZ
abbrev sJ:Nat:=4000
abbrev fu (m:Nat) (k:Nat→Rat):ah:=⟨true,true,3,m,fun i=>.rat (k i) sK⟩
abbrev yt:List Nat:=[3,9,10,11]
abbrev HG (n:Nat) (k:Nat→Rat) (i:Nat):List AV:=[.own 0 3 0 i,aV k n sJ,.int .i64 n,.int .i64 i]
noncomputable abbrev lE:Code:=au yU
theorem QT {n:Nat} {k:Nat→Rat} {t:Rat}:aK T fS [] 60 xe (before v7 [1,1,0,1]) ⟨aN 0 [ls k n,.rat t sK],[],0⟩=
  some (leaf normal ([ptr 0 0 (aU (rat t sK)).size 0 [],int i64 (0:Int),aj 3 n fun i↦rat (k i) 4096,int i64 (↑n:Int),int i64 (0:Int)],[((0:Nat),ah.mk false true (aU (rat t sK)).size 1 fun x↦rat t 4096)])):=by kernel_rfl
theorem afh {n c i:Nat} {k:Nat→Rat} {t:Rat}:aK T fS [11,16] 60 xe [part v7 [1,1,0,1,0,0]] ⟨aB xe (vv n k c i),[(0,tP t sK)],1⟩=
  let c10:Int:=(↑n:Int);let c9:Prop:=0<1;let c8:Int:=(↑c:Int)+(1:Int);let c7:AV:=aj 3 n fun i↦rat (k i) 4096;let c5:Int:=(↑i:Int);let c4:AV:=ptr 0 0 3 0 [];let c2:Int:=(2:Int)^63;let c1:Nat×ah:=((0:Nat),ah.mk false true 3 1 fun x↦rat t 4096);let c6:Int:=c5+(1:Int);let c3:List AV:=[c7,int i64 c10,int i64 c6];some (fork (decide (c5<c10)) (ag [(0:Int)≤c5∧c5.toNat<n,c9] (ag [c9,c9] (fork (decide (k c5.toNat=t)) (ag [-c2≤c8∧c8<c2] (ag [-c2≤c6∧c6<c2] (leaf normal (c4::int i64 c8::c3,[c1])))) (ag [-c2≤c6∧c6<c2] (leaf normal (c4::int i64 (↑c:Int)::c3,[c1])))))) (leaf (exit 0) ([c4,int i64 (↑c:Int),c7,int i64 c10,int i64 c5],[c1]))):=by kernel_rfl
theorem ag9 {n c i:Nat} {k:Nat→Rat} {t:Rat}:bW T fS [] 60 uZ [part v7 [1,1,1]] ⟨aB xe (vv n k c i),[(0,tP t sK)],1⟩=
  some (leaf ret [int i64 (↑c:Int)]):=by kernel_rfl
theorem Zd {n:Nat} {k:Nat→Rat}:aK T fS [] 60 yt (before lE [1,1,0,1]) ⟨aN 0 [aV k n sJ],[],0⟩=
  let c1:Int:=(↑n:Int);some (ag [(0:Int)≤(0:Int)∧(0:Int)≤c1∧c1≤(2:Int)^47∧c1*(↑(56:Nat):Int)≤(2:Int)^47] (leaf normal ([own 12288 3 0 0,aj 3 n fun i↦rat (k i) 4000,int i64 c1,int i64 (0:Int)],[((12288:Nat),ah.mk true true 3 0 fun x↦rat 0 1)]))):=by kernel_rfl
theorem aeV {n i:Nat} {k:Nat→Rat}:aK T fS [12] 60 yt [part lE [1,1,0,1,0,0]] ⟨aB yt (HG n k i),[(0,fu i k)],1⟩=
  let c4:Int:=(↑n:Int);let c2:AV:=aj 3 n fun i↦rat (k i) 4000;let c1:Int:=(↑i:Int);let c3:Int:=c1+(1:Int);some (fork (decide (c1<c4)) (ag [(0:Int)≤c1∧c1.toNat<n,(0:Nat)<1] (ag [(0:Nat)<1,(1:Nat)*3≤2^24,(i+1)*((56:Nat)+1)*2≤2^47] (ag [-(2:Int)^63≤c3∧c3<(2:Int)^63] (leaf normal ([own 40961 3 0 (i+1),c2,int i64 c4,int i64 c3],[((40961:Nat),ah.mk true true 3 (i+1) fun i_1↦if i_1<i then rat (k i_1) sK else nth [rat (k c1.toNat+0) (sJ+1+1)] (rat 0 1) (i_1-i+0))]))))) (leaf (exit 0) ([own 0 3 0 i,c2,int i64 c4,int i64 c1],[((0:Nat),ah.mk true true 3 i fun i↦rat (k i) 4096)]))):=by kernel_rfl
theorem ab8 {n i:Nat} {k:Nat→Rat}:aK T fS [] 60 [2] [part lE [1,1,1]] ⟨aB yt (HG n k i),[(0,fu i k)],1⟩=
  some (leaf ret ([own 0 3 0 i],[((0:Nat),ah.mk true true 3 i fun i↦rat (k i) 4096)])):=by kernel_rfl
theorem Wn {k:Nat→Rat} {t:Rat} {i:Nat} (h:k i=t):dL k t (i+1)=dL k t i+1:=by rw[dL,if_pos h]
theorem YN {k:Nat→Rat} {t:Rat} {i:Nat} (h:¬k i=t):dL k t (i+1)=dL k t i:=by rw[dL,if_neg h];rfl
theorem agU {n:Nat} {k:Nat→Rat} {t:Rat} (hn:n<2^40) (K:Nat):aA P rJ K [ls k n,.rat t sK] [] (aI (.int .i64 (dL k t n)) []):=by
 refine fK (r:=aI (.int .i64 (dL k t n)) []) hT jV hm Vj rfl (of_decide_eq_true (by kernel_rfl)) rfl [1,1,0,1] (i:=0) (y:=part v7 [1,1,0,1,0,0]) (z:=part v7 [1,1,1]) (by kernel_rfl) (by kernel_rfl) (by kernel_rfl) (f1:=[]) (f2:=[11,16]) (f3:=[]) 60 xe 1
  (fun i:Nat=>vv n k (dL k t i) i) (fun _=>[(0,tP t sK)]) (fun i=>i≤n) (fun i=>i=n) (fun i=>n-i) (fun _=>⟨⟨_,QT,?_⟩,fun i hi=>⟨_,afh,?_⟩,fun i hi=>⟨_,ag9,?_⟩⟩) K []
 ·simp only[aa.all,ax]
  exact⟨0,Nat.zero_le _,[(0,0)],rfl,rfl,rfl,aF rfl rfl (aD rfl rfl) trivial⟩
 ·have h1:=Oq (k:=k) (t:=t) (n:=i)
  simp only[aa.all,ax,decide_eq_true_eq,decide_eq_false_iff_not,Int.toNat_natCast,Nat.add_zero]
  refine⟨fun h2=>⟨by omega,by omega,fun h3=>⟨by omega,by omega,i+1,by omega,by dsimp only;omega,[(0,0)],rfl,?_,rfl,aF rfl rfl (aD rfl rfl) trivial⟩,fun h3=>⟨by omega,i+1,by omega,by dsimp only;omega,[(0,0)],rfl,?_,rfl,aF rfl rfl (aD rfl rfl) trivial⟩⟩,fun h2=>⟨rfl,i,by omega,[(0,0)],rfl,rfl,rfl,aF rfl rfl (aD rfl rfl) trivial⟩⟩
  ·show _=(vv n k (dL k t (i+1)) (i+1)).map _
   rw[Wn h3];rfl
  ·show _=(vv n k (dL k t (i+1)) (i+1)).map _
   rw[YN h3];rfl
 ·subst hi
  simp only[aa.all,ax]
  exact .refl _
abbrev Y4:pH ((Nat×(Nat→Rat))×Rat×Unit):=kC (kL sK) (kC (iG sK) kN)
noncomputable def EM:Spec:=cJ Y4 (fun a=>.int .i64 (dL a.1.2 a.2.1 a.1.1)) fun a=>[a.1.1<2^40]
theorem Ip:∀K args pre r,EM K args pre=some r→aA P rJ K args pre r:=cz fun⟨⟨n,k⟩,t,_⟩ K hn=>agU hn K
theorem XI {args:List AV} {n:Nat} {k:Nat→Rat} {l:List Prop} (ha:ax l→dI (aS []) args [aV k n sJ]) (hn:ax l→n<2^40) (K:Nat):aA P nM K args [] ⟨fy [.own K 3 0 n],[(K,fu n k)],l⟩:=by
 refine F5 hT DR ha (of_decide_eq_true (by kernel_rfl)) fun need c hk=>?_
 have hn:=hn need
 refine aq.iM hT jV hm [1,1,0,1] (i:=0) (y:=part lE [1,1,0,1,0,0]) (z:=part lE [1,1,1]) (by kernel_rfl) (by kernel_rfl) (by kernel_rfl) DR.dst hk (f1:=[]) (f2:=[12]) 60 yt 1 (fun i:Nat=>HG n k i) (fun i=>[(0,fu i k)])
  (fun i=>i≤n) (fun i=>i=n) (fun i=>n-i) (fun _=>False) ⟨_,Zd,?_⟩ (fun i hi=>⟨_,aeV,?_⟩) (fun i hi=>?_) (fun _ _ h=>h.elim)
 ·simp only[aa.all,ax]
  exact⟨by omega,0,Nat.zero_le _,[(0,12288)],rfl,rfl,rfl,aW rfl rfl rfl (fun i hi=>absurd hi (Nat.not_lt_zero i)) trivial⟩
 ·simp only[aa.all,ax,decide_eq_true_eq,decide_eq_false_iff_not,Int.toNat_natCast,Nat.add_zero]
  exact⟨fun h2=>⟨by omega,by omega,by omega,i+1,by omega,by dsimp only;omega,[(0,40961)],rfl,rfl,rfl,aW rfl rfl rfl (fun j hj=>lZ (fun _ _=>rfl) (Rat.add_zero _) (Nat.le_refl _) (by decide) hj) trivial⟩,fun h2=>⟨rfl,i,by omega,[(0,0)],rfl,rfl,rfl,aW rfl rfl rfl (fun j hj=>aD rfl rfl) trivial⟩⟩
 ·subst hi
  refine aq.bk hT jV hm 60 [2] ab8 (by kernel_rfl) fun s' hs'=>⟨.inr rfl,[2],_,[.own 0 3 0 i],_,0,_,hs',by kernel_rfl,⟨⟨rfl,bY (by simp[aS,look]) rfl rfl⟩,trivial⟩,rfl,gy rfl fun i hi=>aG rfl⟩
noncomputable def KK:Spec:=oM fun K l=>match l with
 |[v]=>match(kL sJ).read v with
  |some ((n,k),q)=>some ⟨.own K 3 0 n,[(K,fu n k)],q++[n<2^40]⟩
  |none=>none
 |_=>none
theorem UF:∀K args pre r,KK K args pre=some r→aA P nM K args pre r:=by
 refine ry fun K args r hk hs=>?_
 split at hs
 ·rename_i v
  split at hs
  ·rename_i n k q hv
   simp only[Option.some.injEq]at hs
   subst hs
   exact XI (fun hn=>AG hk (by cases v<;>first|rfl|simp[kL,uF]at hv) ⟨(kL sJ).ok hv (cE.1 hn).1,trivial⟩) (fun hn=>(cE (a:=q) (b:=[n<2^40]).1 hn).2) K
  ·simp at hs
 ·simp at hs
end Go.Am.B

/- slices.CompactFunc of numbers; fJ.Distinct. -/
namespace Go.Am.B
open Go Go.Am.N AV aa ak IntKind
theorem MI:aO P Bs Cm (au Cm):=aP aeF (by kernel_rfl) (by kernel_rfl) (by kernel_rfl)
theorem abl:aO P AU uz (au uz):=aP Tv (by kernel_rfl) (by kernel_rfl) (by kernel_rfl)
noncomputable abbrev tZ:Func:=Cm
noncomputable abbrev AL:Code:=au tZ
noncomputable abbrev tB:Code:=part AL [1,1,0,1,0,0]
noncomputable abbrev tH:Code:=part tB [1,0,0]
noncomputable abbrev oJ:Code:=part tH [1,0]
abbrev je:List Nat:=[4,0,1,5]
abbrev yX (n i:Nat):List AV:=[.nil,.own 0 3 0 n,.func fT [],.int .i64 i]
abbrev A9:List Nat:=[4,0,1,5,28]
abbrev Gu (n i:Nat) (b:Bool):List AV:=[.nil,.own 0 3 0 n,.func fT [],.int .i64 i,.bool b]
abbrev uG:List Nat:=[4,0,1,5,6,7]
abbrev qX (n m b j:Nat):List AV:=[.nil,.own 0 3 0 n,.func fT [],.int .i64 m,.own 0 3 b (n-b),.int .i64 j]
theorem ai6 {n:Nat} {k:Nat→Rat}:aK T fS [10] 60 je (before AL [1,1,0,1]) ⟨aN 0 [.own 0 3 0 n,.func fT []],[(0,fu n k)],1⟩=
  let c2:Nat×ah:=((0:Nat),ah.mk true true 3 n fun i↦rat (k i) 4096);let c1:AV:=own 0 3 0 n;some (fork (decide ((↑n:Int)<(2:Int))) (leaf ret ([c1,c1,func fT [],tuple []],[c2])) (leaf normal ([nil,c1,func fT [],int i64 (1:Int)],[c2]))):=by kernel_rfl
theorem aiE {n i:Nat} {k:Nat→Rat}:aK T fS [15] 60 je (before tB [1,0]) ⟨aB je (yX n i),[(0,fu n k)],1⟩=
  let c1:List AV×aC:=([nil,own 0 3 0 n,func fT [],int i64 (↑i:Int)],[((0:Nat),ah.mk true true 3 n fun i↦rat (k i) 4096)]);some (fork (decide ((↑i:Int)<(↑n:Int))) (leaf normal c1) (leaf (exit 0) c1)):=by kernel_rfl
theorem agx {n i:Nat} {k:Nat→Rat}:aK T fS [] 60 A9 (before tH [1]) ⟨aB je (yX n i),[(0,fu n k)],1⟩=
  let c4:Int:=(↑i:Int);let c2:Nat:=c4.toNat+0;let c1:Int:=c4-(1:Int);let c3:Nat:=c1.toNat+0;some (ag [(0:Int)≤c4∧c4.toNat<n,c2<n,-(2:Int)^63≤c1∧c1<(2:Int)^63,(0:Int)≤c1∧c1.toNat<n,c3<n] (leaf normal ([nil,own 0 3 0 n,func fT [],int i64 c4,AV.bool (decide (k c2=k c3))],[((0:Nat),ah.mk true true 3 n fun i↦rat (k i) 4096)]))):=by kernel_rfl
theorem afM {n i:Nat} {b:Bool} {k:Nat→Rat}:aK T fS [] 60 uG (before oJ [1,0,1]) ⟨aB A9 (Gu n i b),[(0,fu n k)],1⟩=
  let c2:Int:=(↑i:Int);let c1:Int:=(↑n:Int);some (ag [(0:Int)≤c2∧c2≤c1∧c1≤c1∧c1≤c1] (leaf normal ([nil,own 0 3 0 n,func fT [],int i64 c2,own 0 3 ((0:Nat)+c2.toNat) (c1.toNat-c2.toNat),int i64 (1:Int)],[((0:Nat),ah.mk true true 3 n fun i↦rat (k i) 4096)]))):=by kernel_rfl
theorem aex {n m b j:Nat} {k:Nat→Rat}:aK T fS [35,49] 60 uG [part oJ [1,0,1,0,0]] ⟨aB uG (qX n m b j),[(0,fu n k)],1⟩=
  let c11:AV:=func fT [];let c7:AV:=own 0 3 b (n-b);let c6:Nat×ah:=((0:Nat),ah.mk true true 3 n fun i↦rat (k i) 4096);let c5:Int:=(↑m:Int);let c4:AV:=own 0 3 0 n;let c2:Int:=(2:Int)^63;let c1:Int:=(↑j:Int);let c13:Int:=c5+(1:Int);let c12:Prop:=(0:Int)≤c1∧c1.toNat<n-b;let c10:Nat:=c5.toNat+0;let c9:Nat:=c1.toNat+b;let c8:Int:=c1+(1:Int);let c3:Int:=c1-(1:Int);some (fork (decide (c1<(↑(n-b):Int))) (ag [c12,c9<n,-c2≤c3∧c3<c2,(0:Int)≤c3∧c3.toNat<n-b,c3.toNat+b<n] (fork (!decide (k c9=k (c3.toNat+b))) (ag [c12,c9<n,(0:Int)≤c5∧c5.toNat<n,c10<n] (ag [-c2≤c13∧c13<c2] (ag [-c2≤c8∧c8<c2] (leaf normal ([nil,c4,c11,int i64 c13,c7,int i64 c8],[((0:Nat),ah.mk true true 3 n fun j↦rat (bif j==c10 then k c9 else k j) (bif j==c10 then sK else sK))]))))) (ag [-c2≤c8∧c8<c2] (leaf normal ([nil,c4,c11,int i64 c5,c7,int i64 c8],[c6]))))) (leaf (exit 2) ([nil,c4,c11,int i64 c5,c7,int i64 c1],[c6]))):=by kernel_rfl
theorem aeb {n m b j:Nat} {k:Nat→Rat}:aK T fS [] 60 je [part oJ [1,1]] ⟨aB uG (qX n m b j),[(0,fu n k)],1⟩=
  let c4:Int:=(↑n:Int);let c2:Int:=(↑m:Int);let c3:Nat:=0+c2.toNat;let c1:Nat:=c3+(c4.toNat-c2.toNat);some (ag [(0:Int)≤c2∧c2≤c4∧c4≤c4∧c4≤c4] (ag [(0:Int)≤(0:Int)∧(0:Int)≤c2∧c2≤c2∧c2≤c4] (leaf ret ([own 0 3 0 (c2.toNat-Int.toNat (0:Int)),own 0 3 0 n,func fT [],int i64 c2],[((0:Nat),ah.mk true true 3 n fun i↦if c3≤i∧i<c1 then rat 0 1 else rat (k i) sK)])))):=by kernel_rfl
theorem S1 {n i:Nat} {b:Bool} {k:Nat→Rat}:aK T fS [] 60 je [part tH [1,1],part tB [1,1]] ⟨aB A9 (Gu n i b),[(0,fu n k)],1⟩=
  let c1:Int:=(↑i:Int)+(1:Int);some (ag [-(2:Int)^63≤c1∧c1<(2:Int)^63] (leaf normal ([nil,own 0 3 0 n,func fT [],int i64 c1],[((0:Nat),ah.mk true true 3 n fun i↦rat (k i) 4096)]))):=by kernel_rfl
theorem adE {n i:Nat} {k:Nat→Rat}:aK T fS [] 60 je [part AL [1,1,1]] ⟨aB je (yX n i),[(0,fu n k)],1⟩=
  let c1:AV:=own 0 3 0 n;some (leaf ret ([c1,c1,func fT [],int i64 (↑i:Int)],[((0:Nat),ah.mk true true 3 n fun i↦rat (k i) 4096)])):=by kernel_rfl
def jR (k:Nat→Rat) (n i:Nat):Rat:=if i<bX k n then dg k n i else 0
theorem SC {k:Nat→Rat} {n:Nat} (h:∀j,j<n→fQ k j) {i:Nat} (hi:i<n):bX k n=n∧jR k n i=k i:=by
 obtain⟨h1,h2⟩:=KX h
 unfold jR
 rw[h1,if_pos hi]
 exact⟨rfl,h2 i hi⟩
theorem QV {kk n:Nat} {k:Nat→Rat} (hn:n<2^40) (c:Ctx) (hk:Kept [0] c):aq P c tZ.ntmps AL ⟨aN 0 [.own 0 3 0 n,.func fT []],[(0,fu n k)],1⟩ (Ek tZ kk [.own kk 3 0 (bX k n)] (fu n (jR k n))):=by
 have hall:∀{L:List Nat} {us:List AV},(∀j,j<n→fQ k j)→jP (aB L us) tZ.results.toList=some [.own 0 3 0 n]→Bd tZ kk [.own kk 3 0 (bX k n)] (fu n (jR k n)) L (us,[(0,fu n k)]):=fun h1 h2=>
  ⟨_,_,h2,⟨⟨rfl,bY (by simp[aS,look]) rfl (KX h1).1.symm⟩,trivial⟩,DG,rfl,rfl,rfl,rfl,fun i hi=>by
   show fV _ (.rat (k i) sK) (.rat (jR k n i) sK)
   rw[(SC h1 hi).2];exact aG rfl⟩
 refine aq.Bc hT jV hm [1,1,0,1] (i:=0) (y:=tB) (z:=part AL [1,1,1]) (by kernel_rfl) (by kernel_rfl) (by kernel_rfl) MI.dst hk (f1:=[10]) 60 je 1 (fun i:Nat=>yX n i) (fun _=>[(0,fu n k)]) (fun i=>1≤i∧i≤n∧∀j,j<i→fQ k j) (fun i=>i=n∧∀j,j<n→fQ k j) (fun i=>n-i)
  (Bd tZ kk [.own kk 3 0 (bX k n)] (fu n (jR k n)) je) ⟨_,ai6,?_⟩ (fun i ⟨h1,h2,h3⟩=>?_) (fun i ⟨h1,h2⟩=>?_) (fun v s' hv hs'=>hv.fin hs')
 ·simp only[aa.all,ax,decide_eq_true_eq,decide_eq_false_iff_not]
  exact⟨fun h=>hall (fun j hj=>.inl (by omega)) (by kernel_rfl),fun h=>⟨1,⟨by omega,by omega,fun j hj=>.inl (by omega)⟩,[(0,0)],rfl,rfl,rfl,aW rfl rfl rfl (fun x hx=>aD rfl rfl) trivial⟩⟩
 ·refine aq.xj hT jV hm (y:=tB) (x1:=tH) (zb:=part tB [1,1]) [1,0] (j:=1) (by kernel_rfl) (by kernel_rfl) (by kernel_rfl) (by kernel_rfl) hk (f1:=[15]) 60 je 1 (fun _:Unit=>yX n i) (fun _=>[(0,fu n k)]) (fun _=>i<n) ⟨_,aiE,?_⟩ (fun _ hlt=>?_)
  ·simp only[aa.all,ax,decide_eq_true_eq,decide_eq_false_iff_not]
   exact⟨fun h=>⟨(),by omega,[(0,0)],rfl,rfl,rfl,aW rfl rfl rfl (fun x hx=>aD rfl rfl) trivial⟩,fun h s' hs'=>⟨rfl,i,⟨by omega,fun j hj=>h3 j (by omega)⟩,eH.le ⟨[(0,0)],rfl,rfl,rfl,aW rfl rfl rfl (fun x hx=>aD rfl rfl) trivial⟩ hs' hk⟩⟩
  refine aq.branch hT jV hm (x:=tH) (u:=oJ) (v:=part tH [1,1]) (b:=.tmp 28) [1] (by kernel_rfl) (by kernel_rfl) (by kernel_rfl) (by kernel_rfl) hk (f1:=[]) 60 A9 1 (fun _:Unit=>Gu n i (decide (k i=k (i-1)))) (fun _=>[(0,fu n k)]) (fun _=>True) ⟨_,agx,?_⟩ (fun _ _=>⟨decide (k i=k (i-1)),rfl,fun hb=>?_,fun hb=>?_⟩)
  ·simp only[aa.all,ax]
   simp only[Int.toNat_natCast,Nat.add_zero,show((i:Int)-1).toNat=i-1 by omega]
   exact⟨⟨⟨by omega,by omega⟩,by omega,by omega,⟨by omega,by omega⟩,by omega⟩,(),trivial,[(0,0)],rfl,rfl,rfl,aW rfl rfl rfl (fun x hx=>aD rfl rfl) trivial⟩
  ·have hold:¬fQ k i:=fun h=>by
    rcases h with h|h
    ·omega
    ·exact h (of_decide_eq_true hb)
   obtain⟨s1,s2⟩:=afz h3 hold
   refine aq.By hT jV hm (x:=oJ) [1,0,1] (i:=2) (y:=part oJ [1,0,1,0,0]) (by kernel_rfl) (by kernel_rfl) (by kernel_rfl) hk (f1:=[]) (f2:=[35,49]) 60 uG 1 (fun j:Nat=>qX n (bX k (i+j)) i j) (fun j=>[(0,fu n (gN k (i+j)))]) (fun j=>1≤j∧i+j≤n) (fun j=>i+j=n) (fun j=>n-j) (fun _=>False) ⟨_,afM,?_⟩ (fun j ⟨j1,j2⟩=>⟨_,aex,?_⟩) (fun j s' hj hle=>?_) (fun _ _ h=>h.elim)
   ·simp only[aa.all,ax]
    simp only[Int.toNat_natCast,Nat.zero_add]
    refine⟨by omega,1,⟨by omega,by omega⟩,[(0,0)],rfl,?_,rfl,aW rfl rfl rfl (fun x hx=>aD rfl ?_) trivial⟩
    ·show _=(qX n (bX k (i+1)) i 1).map _
     rw[s1];rfl
    ·rw[s2]
   ·simp only[aa.all,ax,decide_eq_true_eq,decide_eq_false_iff_not]
    have hd:=JT hold (l:=i+j) (by omega)
    have e1:gN k (i+j) (j+i)=k (i+j):=by rw[Nat.add_comm j i];exact LY (by omega)
    have e2:gN k (i+j) (((j:Int)-1).toNat+i)=k (i+j-1):=by rw[show((j:Int)-1).toNat+i=i+j-1 by omega];exact LY (by omega)
    simp only[Int.toNat_natCast,Nat.add_zero,e1,e2,Bool.not_eq_true',Bool.not_eq_false',decide_eq_true_eq,decide_eq_false_iff_not]
    refine⟨fun h=>⟨by omega,fun hne=>⟨by omega,by omega,by omega,j+1,by omega,by dsimp only;omega,[(0,0)],rfl,?_,rfl,aW rfl rfl rfl (fun x hx=>?_) trivial⟩,fun heq=>⟨by omega,j+1,by omega,by dsimp only;omega,[(0,0)],rfl,?_,rfl,aW rfl rfl rfl (fun x hx=>?_) trivial⟩⟩,fun h=>⟨rfl,j,by omega,[(0,0)],rfl,rfl,rfl,aW rfl rfl rfl (fun x hx=>aD rfl rfl) trivial⟩⟩
    ·show _=(qX n (bX k (i+j+1)) i (j+1)).map _
     rw[aiu (l:=i+j) (.inr hne)];rfl
    ·refine .inr ⟨rfl,bp ?_ (by cases (x==bX k (i+j))<;>exact Nat.le_refl _)⟩
     show _=gN k (i+j+1) x
     rw[aj0 (.inr hne) (by omega)]
     by_cases hx2:x=bX k (i+j)
     ·subst hx2;simp
     ·have:(x==bX k (i+j))=false:=by simpa using hx2
      rw[this,if_neg hx2];rfl
    ·have hold2:¬fQ k (i+j):=fun h=>by
      rcases h with h|h
      ·omega
      ·exact h heq
     show _=(qX n (bX k (i+j+1)) i (j+1)).map _
     rw[NL hold2];rfl
    ·have hold2:¬fQ k (i+j):=fun h=>by
      rcases h with h|h
      ·omega
      ·exact h heq
     exact aD rfl (by show _=AV.rat (gN k (i+j+1) x) sK;rw[(agY hold2).2])
   ·rw[show behind oJ [1,0,1]=[part oJ [1,1]]from by kernel_rfl]
    refine aE.weak rfl hle (aE.bk hT jV hm 60 je aeb (by kernel_rfl) ?_)
    simp only[aa.all,ax]
    rw[hj]
    have hd:=sq (k:=k) (n:=n)
    simp only[Int.toNat_natCast,Nat.zero_add]
    refine⟨by omega,by omega,fun s' hs'=>⟨_,⟨[.own 0 3 0 (bX k n)],⟨true,true,3,n,fun i=>if bX k n≤i∧i<bX k n+(n-bX k n)then .rat 0 1 else .rat (gN k n i) sK⟩,by kernel_rfl,⟨⟨rfl,bY (by simp[aS,look]) rfl rfl⟩,trivial⟩,rfl,⟨rfl,rfl,rfl,rfl,fun x hx=>?_⟩⟩,hs'⟩⟩
    have hx:x<n:=hx
    refine lG (AN rfl rfl) ?_
    show bA (if _ then _ else _) (.rat (jR k n x) sK)
    unfold jR
    by_cases h:x<bX k n
    ·rw[if_neg (by omega),if_pos h]
     exact cT (by unfold gN;rw[if_pos h])
    ·rw[if_pos (by omega),if_neg h]
     exact eW (by decide)
  ·have hnew:fQ k i:=.inr (of_decide_eq_false hb)
   refine aq.tail (fun s' hh=>by have:=hh.1;omega) (aE.bk hT jV hm 60 je S1 (by kernel_rfl) ?_)
   simp only[aa.all,ax]
   refine⟨by omega,fun s' hs'=>⟨i+1,⟨by omega,by omega,fun j hj=>?_⟩,by dsimp only;omega,eH.le ⟨[(0,0)],rfl,rfl,rfl,aW rfl rfl rfl (fun x hx=>aD rfl rfl) trivial⟩ hs' hk⟩⟩
   by_cases he:j=i
   ·subst he;exact hnew
   ·exact h3 j (by omega)
 ·subst h1
  refine aq.bk hT jV hm 60 je adE (by kernel_rfl) ?_
  simp only[aa.all,ax]
  exact fun s' hs'=>(hall h2 (by kernel_rfl)).fin hs'
def HJ (f:Nat→AV) (n s:Nat):Prop:=∀i,i<n→keys (f i)=[]∧bA (f i) (.rat (aT (f i)) s)
theorem abu {k:Nat→Rat} {n s s':Nat} (h:s≤s'):HJ (fun i=>.rat (k i) s) n s':=fun _ _=>⟨rfl,eW h⟩
def Hw:Spec:=fun _ args pre=>match args,pre with
 |[.own k 3 0 n,.func g []],[(k',⟨true,true,3,m,f⟩)]=>match Nat.beq g fT&&k'==k with
  |true=>some ⟨fy [.own k 3 0 (bX (fun i=>aT (f i)) n)],[(k,fu n (jR (fun i=>aT (f i)) n))],[m=n,HJ f n sK,n<2^40]⟩
  |false=>none
 |_,_=>none
theorem Q8:∀K args pre r,Hw K args pre=some r→aA P Bs K args pre r:=by
 intro K args pre r h
 unfold Hw at h
 split at h
 ·rename_i k n g k' m f
  split at h
  ·rename_i hc
   simp only[Bool.and_eq_true,beq_iff_eq]at hc
   obtain⟨h1,h2⟩:=hc
   have h1:=Nat.eq_of_beq_eq_true h1
   subst h1 h2
   simp only[Option.some.injEq]at h
   subst h
   intro need
   have h0:=need
   obtain⟨rfl,n1,n2⟩:=need
   exact Tl hT MI (rest:=[.func fT []]) (o2:=⟨true,true,3,m,f⟩) (o:=fu m fun i=>aT (f i)) rfl rfl (of_decide_eq_true (by kernel_rfl)) (fun ρ=>⟨rfl,rfl,rfl,rfl,fun i hi=>lG (n1 i hi).1 (n1 i hi).2⟩) (fun _ c hk=>QV n2 c hk) K h0
  ·simp at h
 ·simp at h
end Go.Am.B

/- fJ.Distinct, ref08.Distinct, slices.IsSortedFunc of numbers. -/
namespace Go.Am.B
open Go Go.Am.N AV aa ak IntKind
theorem Zh:aO P uy AP (au AP):=aP aeD (by kernel_rfl) (by kernel_rfl) (by kernel_rfl)
noncomputable abbrev vI:Code:=au AP
abbrev vJ:List Nat:=[4,0,1,5]
abbrev Fh (n:Nat) (k:Nat→Rat) (i:Nat):List AV:=[.bool false,ls k n,.func jb [],.int .i64 ((i:Int)-1)]
noncomputable def LZ:aR:=[(nM,KK),(Bs,Hw)]
theorem acr {n:Nat} {k:Nat→Rat}:aK T fS [] 60 vJ (before vI [1,0,1]) ⟨aN 0 [ls k n,.func jb []],[],0⟩=
  let c1:Int:=(↑n:Int)-(1:Int);some (ag [-(2:Int)^63≤c1∧c1<(2:Int)^63] (leaf normal ([AV.bool false,aj 3 n fun i↦rat (k i) 4096,func jb [],int i64 c1],[]))):=by kernel_rfl
theorem aa4 {n i:Nat} {k:Nat→Rat}:aK T fS [10,24] 60 vJ [part vI [1,0,1,0,0]] ⟨aB vJ (Fh n k i),[],1⟩=
  let c5:AV:=aj 3 n fun i↦rat (k i) 4096;let c4:Int:=(2:Int)^63;let c1:Int:=(↑i:Int)-(1:Int);let c3:List AV:=[AV.bool false,c5,func jb [],int i64 c1];let c2:Int:=c1-(1:Int);let c6:Int:=dZ (k c1.toNat) (k c2.toNat);some (fork (decide (c1>(0:Int))) (ag [(0:Int)≤c1∧c1.toNat<n,-c4≤c2∧c2<c4,(0:Int)≤c2∧c2.toNat<n] (fork (decide (c6<(0:Int))) (leaf ret (c3,[])) (ag [-c4≤c2∧c2<c4] (leaf normal ([AV.bool false,c5,func jb [],int i64 c2],[]))))) (leaf (exit 0) (c3,[]))):=by kernel_rfl
theorem QS {n i:Nat} {k:Nat→Rat}:bW T fS [] 60 AP [part vI [1,1]] ⟨aB vJ (Fh n k i),[],1⟩=
  some (leaf ret [AV.bool true]):=by kernel_rfl
theorem agc {n:Nat} {k:Nat→Rat}:bC T LZ [] 60 uz (au uz) ⟨aN 0 [aV k n sJ],[],0⟩=
  let c1:Prop:=n<2^40;some (ag [bP (fun i↦rat (k i) sJ) n sJ,c1,n=n,HJ (fun i↦rat (aT (rat (k i) sJ)) sK) n sK,c1] (leaf ret [aj 3 (bX (fun i↦aT (rat (aT (rat (k i) sJ)) sK)) n) fun i↦rat (jR (fun i↦aT (rat (aT (rat (k i) sJ)) sK)) n (i+0)) 4096])):=by kernel_rfl
def kF (g:FuncId):Kind Unit:=⟨fun v=>match v with
 |.func f []=>match Nat.beq f g with
  |true=>some ((),[])
  |false=>none
 |_=>none,fun _=>.func g [],fun {v a q} h _=>by
  split at h
  ·split at h
   ·rename_i hb
    rw[Nat.eq_of_beq_eq_true hb];exact .refl _
   ·simp at h
  ·simp at h⟩
noncomputable def nL (p:Prop):Bool:=@decide p (Classical.propDecidable p)
theorem abB {p:Prop} (h:p):nL p=true:=@decide_eq_true p (Classical.propDecidable p) h
theorem Ua {p:Prop} (h:¬p):nL p=false:=@decide_eq_false p (Classical.propDecidable p) h
theorem aae {p:Prop} (h:nL p=true):p:=@of_decide_eq_true p (Classical.propDecidable p) h
theorem Yb {p:Prop} (h:nL p=false):¬p:=@of_decide_eq_false p (Classical.propDecidable p) h
theorem Xl {n:Nat} {k:Nat→Rat} (hn:n<2^40) (K:Nat):aA P uy K [ls k n,.func jb []] [] (aI (.bool (nL (qi n k))) []):=by
 refine fK (r:=aI (.bool (nL (qi n k))) []) hT jV hm Zh rfl (of_decide_eq_true (by kernel_rfl)) rfl [1,0,1] (i:=0) (y:=part vI [1,0,1,0,0]) (z:=part vI [1,1]) (by kernel_rfl) (by kernel_rfl) (by kernel_rfl) (f1:=[]) (f2:=[10,24]) (f3:=[]) 60 vJ 1
  (fun i:Nat=>Fh n k i) (fun _=>[]) (fun i=>i≤n∧∀j,i≤j+1→j+1<n→k j≤k (j+1)) (fun _=>qi n k) (fun i=>i) (fun _=>⟨⟨_,acr,?_⟩,fun i ⟨h1,h2⟩=>⟨_,aa4,?_⟩,fun i hi=>⟨_,QS,?_⟩⟩) K []
 ·simp only[aa.all,ax]
  exact⟨by omega,n,⟨Nat.le_refl _,fun j h1 h2=>by omega⟩,eH.vals rfl⟩
 ·simp only[aa.all,ax,decide_eq_true_eq,decide_eq_false_iff_not,nS]
  refine⟨fun h=>⟨by omega,fun hlt=>⟨[.bool false],by kernel_rfl,eV ?_⟩,fun hle=>⟨by omega,i-1,⟨by omega,fun j g1 g2=>?_⟩,by dsimp only;omega,[],rfl,?_,rfl,trivial⟩⟩,fun h=>⟨rfl,i,fun j hj=>h2 j (by omega) hj,[],rfl,rfl,rfl,trivial⟩⟩
  ·refine(Ua fun hs=>?_).symm
   have:=hs (i-2) (by omega)
   rw[show((i:Int)-1).toNat=i-2+1 by omega,show((i:Int)-1-1).toNat=i-2 by omega]at hlt
   grind
  ·by_cases he:j+2=i
   ·rw[show((i:Int)-1).toNat=j+1 by omega,show((i:Int)-1-1).toNat=j by omega]at hle
    grind
   ·exact h2 j (by omega) g2
  ·show _=[_,_,_,AV.int .i64 (((i-1:Nat):Int)-1)]
   rw[show((i-1:Nat):Int)-1=(i:Int)-1-1 by omega];rfl
 ·simp only[aa.all,ax]
  exact eV (abB hi).symm
noncomputable def JM:Spec:=cJ (kC (kL sK) (kC (kF jb) kN)) (fun a=>.bool (nL (qi a.1.1 a.1.2))) fun a=>[a.1.1<2^40]
theorem afE:∀K args pre r,JM K args pre=some r→aA P uy K args pre r:=cz fun⟨⟨n,k⟩,_,_⟩ K hn=>Xl hn K
noncomputable def NN:Spec:=cJ (kC (kL sJ) kN) (fun a=>ls (dg a.1.2 a.1.1) (bX a.1.2 a.1.1)) fun a=>[a.1.1<2^40]
theorem WW:aX P LZ:=aJ UF (aJ Q8 bn)
theorem ahY:∀K args pre r,NN K args pre=some r→aA P AU K args pre r:=cz fun⟨⟨n,k⟩,_⟩ K hn=>by
 have hn:n<2^40:=hn
 refine bF (r:=aI (ls (dg k n) (bX k n)) []) hT WW hm abl rfl (of_decide_eq_true (by kernel_rfl)) rfl 60 agc (fun _=>?_) K []
 simp only[aa.all,ax]
 exact⟨⟨cU (Nat.le_refl _),hn,trivial,abu (Nat.le_refl _),hn⟩,qU rfl fun i hi=>by
  show AV.rat (jR k n (i+0)) sK=_
  have hi:i<bX k n:=hi
  rw[Nat.add_zero];unfold jR;rw[if_pos hi]⟩
end Go.Am.B

/- fJ.Check, ref08.Check. -/
namespace Go.Am.B
open Go Go.Am.N AV aa ak IntKind
theorem adw:aO P sr qK (au qK):=aP agp (by kernel_rfl) (by kernel_rfl) (by kernel_rfl)
noncomputable def DB:aR:=(uy,JM)::(AU,NN)::(rJ,EM)::vj
noncomputable abbrev xp:Code:=au qK
abbrev qc:List Nat:=[0,1,4,48,49,50]
abbrev FL (n:Nat) (k:Nat→Rat) (p:Int) (d:Nat) (f:Nat→Rat) (i:Nat):List AV:=[aV k n sJ,.int .i64 p,.int .i64 0,aV f d sK,.int .i64 d,.int .i64 i]
theorem aaf {n:Nat} {k:Nat→Rat} {p:Int}:aK T DB [18,15,22,29,35,46] 60 qc (before xp [1,1,1,0,1]) ⟨aN 0 [aV k n sJ,.int .i64 p],[],0⟩=
  let c16:Int:=(↑n:Int);let c15:Prop:=bP (fun i↦rat (k i) sJ) n sK;let c14:Nat:=Int.toNat (0:Int);let c13:Nat:=bX (fun i↦aT (rat (k i) sJ)) n;let c11:Bool:=decide (p<(1:Int));let c10:Int:=i64.wrap (i64.wrap ((2:Int)*p)+(2:Int));let c9:Prop:=n<2^40;let c7:List AV:=[tuple [],tuple [],tuple []];let c6:Bool:=!nL (qi n fun i↦aT (rat (k i) sJ));let c3:AV:=aj 3 n fun i↦rat (k i) 4000;let c12:List AV:=c3::int i64 p::int i64 (1:Int)::c7;let c8:Int:=i64.wrap (i64.wrap (c16-p)-(1:Int));let c5:Int:=i64.wrap (c16-(1:Int));let c4:aa (List AV×aC):=leaf ret (c3::int i64 p::int i64 (5:Int)::c7,[]);let c2:aa (List AV×aC):=ag [bP (fun i↦rat (k i) sJ) n sJ,c9] (leaf normal ([c3,int i64 p,int i64 (0:Int),aj 3 c13 fun i↦rat (dg (fun i↦aT (rat (k i) sJ)) n i) 4096,int i64 (↑c13:Int),int i64 (0:Int)],[]));let c1:aa (List AV×aC):=fork (decide (c16<c10)) c4 (fork (decide (c8>(40:Int))) (leaf ret (c3::int i64 p::int i64 (2:Int)::c7,[])) (fork c6 (ag [c15,c9,c6=true] (fork true c4 c2)) (ag [c15,c9,c6=false,(0:Int)≤(0:Int)∧c14<n,(0:Int)≤c5∧c5.toNat<n] (fork (bif false then true else decide (k c14=k c5.toNat)) c4 c2))));some (fork c11 (ag [c11=true] (fork true (leaf ret (c12,[])) c1)) (ag [c11=false] (fork (bif false then true else decide (p>(6:Int))) (leaf ret (c12,[])) c1))):=by kernel_rfl
theorem Td {n d i:Nat} {k f:Nat→Rat} {p:Int}:aK T DB [51,62,73,79,82,87] 60 qc [part xp [1,1,1,0,1,0,0]] ⟨aB qc (FL n k p d f i),[],1⟩=
  let c18 : Int := (↑d : Int); let c16 : Prop := false = false; let c13 : Int := (↑i : Int); let c12 : Prop := 0 < 1; let c11 : AV := aj 3 d fun i ↦ rat (f i) 4096; let c10 : AV := aj 3 n fun i ↦ rat (k i) 4000; let c9 : Int := i64.wrap ((↑n : Int) - (1 : Int)); let c8 : Nat := Int.toNat (0 : Int); let c17 : Prop := (0 : Int) ≤ (0 : Int) ∧ c8 < n; let c14 : List AV := [c11, int i64 c18, int i64 c13]; let c7 : Rat := f c13.toNat; let c1 : aa (List AV × aC) := leaf normal ([c10, int i64 p, int i64 (0 : Int), c11, int i64 c18, int i64 (i64.wrap (c13 + (1 : Int)))], []); let c15 : Bool := decide (c7 = k c8); let c4 : Int := (↑(dL (fun i ↦ aT (rat (k i) sJ)) c7 n) : Int); let c3 : Bool := bif false then true else decide (c7 = k c9.toNat); let c2 : aa (List AV × aC) := leaf ret (c10 :: int i64 p :: int i64 (5 : Int) :: c14, []); let c6 : aa (List AV × aC) := fork (bif false then true else bif true then decide (c4 > p) else false) c2 c1; let c5 : Bool := bif true then c4 != i64.wrap (p + (1 : Int)) else false; some (fork (decide (c13 < c18)) (ag [(0 : Int) ≤ c13 ∧ c13.toNat < d, c12] (ag [c12, bP (fun i ↦ rat (k i) sJ) n sK, sK ≤ sK, n < 2 ^ 40] (fork c15 (ag [c12, c17, c15 = true] (fork true (fork c5 (ag [true = true, c5 = true] (fork true c2 c1)) (fork false (ag [true = true, c5 = false, (!true) = true] c6) (ag [true = true, c5 = false, (!true) = false] (fork false c2 c1)))) (fork false (ag [true = false, false = true] (fork true c2 c1)) (fork false (ag [true = false, c16, (!true) = true] c6) (ag [true = false, c16, (!true) = false] (fork false c2 c1)))))) (ag [c12, c17, c15 = false, c12, (0 : Int) ≤ c9 ∧ c9.toNat < n] (fork c3 (fork c5 (ag [c3 = true, c5 = true] (fork true c2 c1)) (fork (!c3) (ag [c3 = true, c5 = false, (!c3) = true] c6) (ag [c3 = true, c5 = false, (!c3) = false] (fork false c2 c1)))) (fork false (ag [c3 = false, false = true] (fork true c2 c1)) (fork (!c3) (ag [c3 = false, c16, (!c3) = true] c6) (ag [c3 = false, c16, (!c3) = false] (fork false c2 c1))))))))) (leaf (exit 1) (c10 :: int i64 p :: int i64 (0 : Int) :: c14, []))) := by kernel_rfl
theorem Rk {n d i:Nat} {k f:Nat→Rat} {p:Int}:bW T DB [] 60 qK [part xp [1,1,1,1]] ⟨aB qc (FL n k p d f i),[],1⟩=
  some (leaf ret [int i64 (0:Int)]):=by kernel_rfl
theorem aaS:aX P DB:=aJ afE (aJ ahY (aJ Ip A3))
def rS (n:Nat) (p:Int):Prop:=1≤p∧p≤6∧2*p+2≤(n:Int)∧(n:Int)-p-1≤40
theorem VG {n:Nat} {k:Nat→Rat} {p:Int} (hn:n<2^40) (K:Nat):aA P sr K [aV k n sJ,.int .i64 p] [] (aI (.int .i64 (fX n k p)) []):=by
 refine fK (r:=aI (.int .i64 (fX n k p)) []) hT aaS hm adw rfl (of_decide_eq_true (by kernel_rfl)) rfl [1,1,1,0,1] (i:=1) (y:=part xp [1,1,1,0,1,0,0]) (z:=part xp [1,1,1,1]) (by kernel_rfl) (by kernel_rfl) (by kernel_rfl) (f1:=[18,15,22,29,35,46]) (f2:=[51,62,73,79,82,87]) (f3:=[]) 60 qc 1
  (fun i:Nat=>FL n k p (bX k n) (dg k n) i) (fun _=>[]) (fun i=>i≤bX k n∧rS n p∧qi n k∧k 0≠k (n-1)∧∀j,j<i→¬jD n k p.toNat (dg k n j)) (fun _=>rS n p∧qw n k p.toNat) (fun i=>bX k n-i) (fun _=>⟨⟨_,aaf,?_⟩,fun i ⟨h1,h2,h3,h4,h5⟩=>⟨_,Td,?_⟩,fun i ⟨h1,h2⟩=>⟨_,Rk,?_⟩⟩) K []
 ·have r:∀{e:Int} {u:AV},fX n k p=e→ng qK qc (.int .i64 (fX n k p)) ([u,.int .i64 p,.int .i64 e,.tuple [],.tuple [],.tuple []],[]):=fun h=>⟨[.int .i64 _],by kernel_rfl,bt h.symm⟩
  by_cases hp:1≤p∧p≤6
  ·have e1:i64.wrap (i64.wrap (2*p)+2)=2*p+2:=by rw[wrap_i64 (show-2^63≤2*p by omega) (by omega)];exact wrap_i64 (by omega) (by omega)
   have e2:i64.wrap (i64.wrap ((n:Int)-p)-1)=(n:Int)-p-1:=by rw[wrap_i64 (show-2^63≤(n:Int)-p by omega) (by omega)];exact wrap_i64 (by omega) (by omega)
   have e3:i64.wrap ((n:Int)-1)=(n:Int)-1:=wrap_i64 (by omega) (by omega)
   have e5:((n:Int)-1).toNat=n-1:=by omega
   simp only[aa.all,ax,decide_eq_true_eq,decide_eq_false_iff_not,Bool.not_eq_true',Bool.not_eq_false',cond_true,cond_false,Int.toNat_natCast,Int.toNat_zero,wk,e1,e2,e3,e5]
   (repeat' with_reducible first|refine And.intro ?_ ?_|intro _)
   all_goals first|exact absurd ‹true=false› (by decide)|exact absurd ‹false=true› (by decide)|omega|(exfalso;omega)|exact cU (by decide)|assumption|exact r (Wu (by omega) (by omega))|exact r (Tk (by omega) (by omega) (by omega))|exact r (Hy (by omega) (by omega) (by omega) fun h=>Yb ‹_› h.1)|exact r (Hy (by omega) (by omega) (by omega) fun h=>h.2.1 ‹_›)|exact⟨0,⟨Nat.zero_le _,⟨by omega,by omega,by omega,by omega⟩,aae ‹_›,‹_›,fun j hj=>absurd hj (Nat.not_lt_zero j)⟩,eH.vals rfl⟩|skip
   skip
  ·simp only[aa.all,ax,decide_eq_true_eq,decide_eq_false_iff_not,Bool.not_eq_true',Bool.not_eq_false',cond_true,cond_false,Int.toNat_natCast]
   (repeat' with_reducible first|refine And.intro ?_ ?_|intro _)
   all_goals first|exact absurd ‹true=false› (by decide)|exact absurd ‹false=true› (by decide)|omega|(exfalso;omega)|exact r (ahR (by omega))|skip
   skip
 ·obtain⟨q,rfl⟩:∃q:Nat,p=(q:Int):=⟨p.toNat,by have:=h2.1;omega⟩
  have hq:=h2
  unfold rS at hq
  have e1:i64.wrap ((q:Int)+1)=((q+1:Nat):Int):=by rw[wrap_i64 (by omega) (by omega)];rfl
  have e2:i64.wrap ((i:Int)+1)=((i+1:Nat):Int):=by rw[wrap_i64 (by omega) (by have:=sq (k:=k) (n:=n);omega)];rfl
  have e3:i64.wrap ((n:Int)-1)=(n:Int)-1:=wrap_i64 (by omega) (by omega)
  have e5:((n:Int)-1).toNat=n-1:=by omega
  simp only[Int.toNat_natCast]at h5
  have hd:=sq (k:=k) (n:=n)
  have r:∀{u v w x y:AV},jD n k q (dg k n i)→i<bX k n→ng qK qc (.int .i64 (fX n k q)) ([u,v,.int .i64 5,w,x,y],[]):=fun h hi=>⟨[.int .i64 5],by kernel_rfl,bt (Hy (by omega) (by omega) (by omega) fun hk=>hk.2.2 i hi (by rw[Int.toNat_natCast];exact h)).symm⟩
  have nx:¬jD n k q (dg k n i)→i<bX k n→∀j,j<i+1→¬jD n k q (dg k n j):=fun h hi j hj=>by
   by_cases he:j=i
   ·subst he;exact h
   ·exact h5 j (by omega)
  simp only[aa.all,ax,decide_eq_true_eq,decide_eq_false_iff_not,Bool.not_eq_true',Bool.not_eq_false',cond_true,cond_false,Int.toNat_natCast,Int.toNat_zero,wk,e1,e2,e3,e5,bne_iff_ne,bne_eq_false_iff_eq,ne_eq]
  obtain⟨c,hc⟩:∃c,dL k (dg k n i) n=c:=⟨_,rfl⟩
  have hc':dL (fun i=>k i) (dg k n i) n=c:=hc
  simp only[hc']
  have b1:dg k n i=k 0→c≠q+1→jD n k q (dg k n i):=fun h1 h2=>.inl ⟨.inl h1,by rw[hc];exact h2⟩
  have b2:dg k n i=k (n-1)→c≠q+1→jD n k q (dg k n i):=fun h1 h2=>.inl ⟨.inr h1,by rw[hc];exact h2⟩
  have b3:¬dg k n i=k 0→¬dg k n i=k (n-1)→q<c→jD n k q (dg k n i):=fun h1 h2 h3=>.inr ⟨fun h=>h.elim h1 h2,by rw[hc];exact h3⟩
  have g1:dg k n i=k 0→c=q+1→¬jD n k q (dg k n i):=by
   rintro h1 h2 (⟨_,h3⟩|⟨h3,_⟩)
   ·exact h3 (by rw[hc];exact h2)
   ·exact h3 (.inl h1)
  have g2:dg k n i=k (n-1)→c=q+1→¬jD n k q (dg k n i):=by
   rintro h1 h2 (⟨_,h3⟩|⟨h3,_⟩)
   ·exact h3 (by rw[hc];exact h2)
   ·exact h3 (.inr h1)
  have g3:¬dg k n i=k 0→¬dg k n i=k (n-1)→c≤q→¬jD n k q (dg k n i):=by
   rintro h1 h2 h3 (⟨h4,_⟩|⟨_,h4⟩)
   ·exact h4.elim h1 h2
   ·rw[hc]at h4;omega
  clear hc hc'
  (repeat' with_reducible first|refine And.intro ?_ ?_|intro _)
  all_goals first|exact absurd ‹true=false› (by decide)|exact absurd ‹false=true› (by decide)|omega|(exfalso;omega)|exact cU (by decide)|assumption|skip
  all_goals first
   |exact absurd ‹dg k n i=k (n-1)› ‹_›
   |exact⟨rfl,i,⟨h2,h3,h4,fun j hj=>h5 j (by omega)⟩,eH.vals rfl⟩
   |exact r (b1 ‹_› (by omega)) (by omega)
   |exact r (b2 ‹_› (by omega)) (by omega)
   |exact r (b3 ‹¬_=k 0› ‹_› (by have:=of_decide_eq_true ‹decide _=true›;omega)) (by omega)
   |exact⟨i+1,⟨by omega,h2,h3,h4,nx (g1 ‹_› (by omega)) (by omega)⟩,by dsimp only;omega,eH.vals rfl⟩
   |exact⟨i+1,⟨by omega,h2,h3,h4,nx (g2 ‹_› (by omega)) (by omega)⟩,by dsimp only;omega,eH.vals rfl⟩
   |exact⟨i+1,⟨by omega,h2,h3,h4,nx (g3 ‹¬_=k 0› ‹_› (by have:=of_decide_eq_false ‹decide _=false›;omega)) (by omega)⟩,by dsimp only;omega,eH.vals rfl⟩
 ·simp only[aa.all,ax]
  exact bt (X1 (by have:=h1;unfold rS at this;omega) (by have:=h1;unfold rS at this;omega) (by have:=h1;unfold rS at this;omega) h2).symm
noncomputable def Ea:Spec:=cJ (kC (kL sJ) (kC kI kN)) (fun a=>.int .i64 (fX a.1.1 a.1.2 a.2.1)) fun a=>[a.1.1<2^40]
theorem LL:∀K args pre r,Ea K args pre=some r→aA P sr K args pre r:=cz fun⟨⟨n,k⟩,p,_⟩ K hn=>VG hn K
end Go.Am.B

/- Poles, lists of pU, curves, surfaces as arguments. -/
namespace Go.Am.B
open Go Go.Am.N AV
def dP:AV→Pl
 |.agg [.agg [x,y,z],w]=>⟨⟨aT x,aT y,aT z⟩,aT w⟩
 |_=>⟨⟨0,0,0⟩,0⟩
def eM (f:Nat→AV) (n s:Nat):Prop:=∀i,i<n→bA (f i) (bw (dP (f i)) s)
abbrev eZ (f:Nat→Pl) (n s:Nat):AV:=.aj 12 n (fun i=>bw (f i) s)
theorem GB {u v:Pl} {n k:Nat} (h:u=v) (hk:n≤k):bA (bw u n) (bw v k):=
 h▸bQ ⟨kA rfl hk,bp rfl hk,trivial⟩
theorem iB {f:Nat→Pl} {n s s':Nat} (h:s≤s'):eM (fun i=>bw (f i) s) n s':=fun _ _=>GB rfl h
def rq:AV→Option (Nat×(Nat→AV))
 |.aj 12 n f=>some (n,f)
 |.nil=>some (0,fun _=>.nil)
 |_=>none
theorem agS {v:AV} {n s:Nat} {f:Nat→AV} (h:rq v=some (n,f)) (ha:eM f n s):bA v (eZ (fun i=>dP (f i)) n s):=by
 unfold rq at h
 split at h
 ·simp only[Option.some.injEq,Prod.mk.injEq]at h
  obtain⟨rfl,rfl⟩:=h
  exact jh ha
 ·simp only[Option.some.injEq,Prod.mk.injEq]at h
  obtain⟨rfl,rfl⟩:=h
  exact iJ (by omega)
 ·simp at h
def pI (s:Nat):Kind (Nat×(Nat→Pl)):=⟨fun v=>match rq v with
 |some (n,f)=>some ((n,fun i=>dP (f i)),[eM f n s])
 |none=>none,fun a=>eZ a.2 a.1 s,fun {v a q} h hq=>by
  split at h
  ·rename_i h1
   simp only[Option.some.injEq,Prod.mk.injEq]at h
   obtain⟨rfl,rfl⟩:=h
   exact agS h1 hq
  ·simp at h⟩
abbrev dw (h:Pl) (s:Nat):AV:=.agg [.rat h.n.x s,.rat h.n.y s,.rat h.n.z s,.rat h.d s]
def Nv (s:Nat):Kind Pl:=⟨fun v=>match v with
 |.agg [x,y,z,w]=>match ic x,ic y,ic z,ic w with
  |some (x,a),some (y,b),some (z,c),some (w,d)=>some (⟨⟨x,y,z⟩,w⟩,[a≤s,b≤s,c≤s,d≤s])
  |_,_,_,_=>none
 |_=>none,fun a=>dw a s,fun {v a q} h hq=>by
  split at h
  ·split at h
   ·rename_i h1 h2 h3 h4
    simp only[Option.some.injEq,Prod.mk.injEq]at h
    obtain⟨rfl,rfl⟩:=h
    exact bQ ⟨(jg h1).trans (bp rfl hq.1),(jg h2).trans (bp rfl hq.2.1),(jg h3).trans (bp rfl hq.2.2.1),(jg h4).trans (bp rfl hq.2.2.2),trivial⟩
   ·simp at h
  ·simp at h⟩
structure Cu where
 p:Int
 n:Nat
 k:Nat→Rat
 m:Nat
 f:Nat→Pl
abbrev bE (c:Cu) (s r:Nat):AV:=.agg [.int .i64 c.p,aV c.k c.n s,eZ c.f c.m r]
def gx (s r:Nat):Kind Cu:=⟨fun v=>match v with
 |.agg [p,k,f]=>match kI.read p,(kL s).read k,(pI r).read f with
  |some (p,q1),some ((n,k),q2),some ((m,f),q3)=>some (⟨p,n,k,m,f⟩,q1++(q2++q3))
  |_,_,_=>none
 |_=>none,fun a=>bE a s r,fun {v a q} h hq=>by
  split at h
  ·split at h
   ·rename_i h1 h2 h3
    simp only[Option.some.injEq,Prod.mk.injEq]at h
    obtain⟨rfl,rfl⟩:=h
    obtain⟨q1,hq⟩:=cE.1 hq
    obtain⟨q2,q3⟩:=cE.1 hq
    exact bQ ⟨kI.ok h1 q1,(kL s).ok h2 q2,(pI r).ok h3 q3,trivial⟩
   ·simp at h
  ·simp at h⟩
structure Sf where
 u:Int
 v:Int
 a:Nat
 ku:Nat→Rat
 b:Nat
 kv:Nat→Rat
 n:Nat
 m:Nat
 f:Nat→Nat→Pl
theorem oB {rl:List (Nat×Nat)} {l i s s' s2:Nat} {x y:Nat→Pl} {t:AV} {z:AV} (hx:∀i,i<l→x i=y i) (ht:bA t (bw (y l) s')) (hk:keys t=[]) (h1:s≤s2) (h2:s'≤s2) (hi:i<l+1):
  fc rl (if i<l then bw (x i) s else nth [t] z (i-l+0)) (bw (y i) s2):=by
 by_cases h:i<l
 ·rw[if_pos h,hx i h];exact .inr ⟨rfl,GB rfl h1⟩
 ·have:i=l:=by omega
  subst this
  rw[if_neg h,Nat.sub_self]
  exact .inr ⟨hk,ht.trans (GB rfl h2)⟩
end Go.Am.B

/- ref02: Valid, Valids, Bits; ref04.Valid; ref10: Short, shortPoles. -/
namespace Go.Am.B
open Go Go.Am.N AV aa ak IntKind
end Go.Am.B

/- ref09: part, function, Values. -/
namespace Go.Am.B
open Go Go.Am.N AV aa ak IntKind
end Go.Am.B

/- ref10: Lift, Homogeneous, Drop, Eval. -/
namespace Go.Am.B
open Go Go.Am.N AV aa ak IntKind
abbrev sH:Nat:=2147483648
abbrev sE:Nat:=4294967298
def LV (h:Pl):V3:=⟨((1:Int):Rat)/h.d*h.n.x,((1:Int):Rat)/h.d*h.n.y,((1:Int):Rat)/h.d*h.n.z⟩
abbrev kS (h:Pl) (s:Nat):ah:=⟨false,true,12,1,fun _=>dw h s⟩
def XW (c:Cu) (x:Nat→Rat) (b j:Nat):Pl:=
 ⟨⟨mR j fun j=>x j*((c.f (b+j)).d*(c.f (b+j)).n.x),mR j fun j=>x j*((c.f (b+j)).d*(c.f (b+j)).n.y),mR j fun j=>x j*((c.f (b+j)).d*(c.f (b+j)).n.z)⟩,mR j fun j=>x j*(c.f (b+j)).d⟩
def aeq (c:Cu) (t:Rat):Pl:=XW c (vB c.k (cS c.n c.k t) t c.p.toNat) (cS c.n c.k t-c.p.toNat) (c.p.toNat+1)
def De (c:Cu) (t:Rat):V3:=if eE c.n c.k t then⟨0,0,0⟩else LV (aeq c t)
end Go.Am.B

/- shapes.ints, ref14.ints. -/
namespace Go.Am.B
open Go Go.Am.N AV aa ak IntKind
end Go.Am.B

/- ref10.Check. -/
namespace Go.Am.B
open Go Go.Am.N AV aa ak IntKind
end Go.Am.B

/- ref09.Sum; contracts of sums. -/
namespace Go.Am.B
open Go Go.Am.N AV aa ak IntKind
end Go.Am.B

/- basis.Blossom. -/
namespace Go.Am.B
open Go Go.Am.N AV aa ak IntKind
theorem Kq:aO P BJ j4 (au j4):=aP Yf (by kernel_rfl) (by kernel_rfl) (by kernel_rfl)
def p8:aR:=nG::(qq,wK)::(xD,DT)::eU
noncomputable abbrev Dc:Code:=au j4
noncomputable abbrev pP:Code:=part Dc [1,1,1,1,0,1,0,0]
noncomputable abbrev wZ:Code:=part pP [1,1,0,0]
abbrev sB:Nat:=536870912
theorem uQ:aX P p8:=cC (aJ C5 (aJ P1 fC))
def gQ (n:Nat) (k:Nat→Rat) (p m l:Nat) (i:Int):Int:=if(m:Int)≠(n:Int)-p-1∨l≠p then 1 else if i<p∨(m:Int)≤i∨k (i.toNat+1)≤k i.toNat then 7 else 0
def nj (n:Nat) (k:Nat→Rat) (p m:Nat) (c:Nat→Rat) (i:Int) (l:Nat) (a:Nat→Rat):Rat:=if gQ n k p m l i=0 then bR k (i.toNat-p) p a (fun j=>c (i.toNat-p+j)) p p else 0
abbrev Kb (n:Nat) (k:Nat→Rat) (p m:Nat) (c:Nat→Rat) (i:Int) (l:Nat) (a:Nat→Rat):AV:=.tuple [.rat (nj n k p m c i l a) sB,.int .i64 (gQ n k p m l i)]
theorem QG {n p m l:Nat} {k c a:Nat→Rat} {i e:Int} (h:gQ n k p m l i=e) (he:e≠0):dx [.agg [.bool false,.mag 0,.mag 0],.int .i64 e] (Kb n k p m c i l a):=
 ⟨by unfold nj;rw[if_neg (by rw[h];exact he)];exact kq,bt h.symm,trivial⟩
theorem K6 {n p m l:Nat} {k:Nat→Rat} {i:Int} (h:(m:Int)≠(n:Int)-p-1∨l≠p):gQ n k p m l i=1:=if_pos h
theorem FG {n p m l:Nat} {k:Nat→Rat} {i:Int} (h:(m:Int)=(n:Int)-p-1) (hl:l=p) (h2:i<p∨(m:Int)≤i∨k (i.toNat+1)≤k i.toNat):gQ n k p m l i=7:=by
 unfold gQ;rw[if_neg (by omega),if_pos h2]
theorem ad9 {n p m l:Nat} {k:Nat→Rat} {i:Int} (h:(m:Int)=(n:Int)-p-1) (hl:l=p) (h2:¬(i<p∨(m:Int)≤i∨k (i.toNat+1)≤k i.toNat)):gQ n k p m l i=0:=by
 unfold gQ;rw[if_neg (by omega),if_neg h2]
def kO (k:Nat→Rat) (b p r:Nat) (t:Rat) (x:Nat→Rat) (j i:Nat):Rat:=if i≤j then x i else qd k b p r t x i
def lR (r j i:Nat):Nat:=if i≤j then SB r else SB (r+1)
theorem Tx {rl:List (Nat×Nat)} {k:Nat→Rat} {b p r j i s:Nat} {t:Rat} {x:Nat→Rat} (hj:r<j) (hs:s≤SB (r+1)):
  fc rl (.rat (bif i==j then kO k b p r t x j (j-1)+fr (k (b+j)) (k (b+j+(p-r))) t*(kO k b p r t x j j-kO k b p r t x j (j-1))else kO k b p r t x j i) (bif i==j then s else lR r j i)) (.rat (kO k b p r t x (j-1) i) (lR r (j-1) i)):=by
 refine .inr ⟨rfl,?_⟩
 by_cases h:i=j
 ·subst h
  simp only[beq_self_eq_true,cond_true]
  refine bp ?_ ?_
  ·unfold kO
   rw[if_pos (by omega),if_pos (by omega),if_neg (by omega)]
   unfold qd
   rw[if_pos hj]
  ·unfold lR
   rw[if_neg (by omega)];exact hs
 ·have hb:(i==j)=false:=by simpa using h
  rw[hb]
  refine bp ?_ ?_
  ·simp only[cond_false]
   unfold kO
   by_cases h2:i≤j
   ·rw[if_pos h2,if_pos (by omega)]
   ·rw[if_neg h2,if_neg (by omega)]
  ·simp only[cond_false]
   unfold lR
   by_cases h2:i≤j
   ·rw[if_pos h2,if_pos (by omega)];exact Nat.le_refl _
   ·rw[if_neg h2,if_neg (by omega)];exact Nat.le_refl _
theorem Zc {k:Nat→Rat} {b p r i:Nat} {t:Rat} {x:Nat→Rat}:kO k b p r t x r i=qd k b p r t x i:=by
 unfold kO
 split
 ·unfold qd;rw[if_neg (by omega)]
 ·rfl
end Go.Am.B

/- ref09.Polar, ref09.Blossom; contracts of polar forms. -/
namespace Go.Am.B
open Go Go.Am.N AV aa ak IntKind
def oY:aR:=nG::(Ca,gI kR kR EY qg)::Ct
theorem Es:aX P oY:=cC (aJ (gZ fun _ _ K hn=>ahT hn.1 hn.2 K) FJ)
end Go.Am.B

/- ref02: SameList, Mid, Text; ref08.Greville. -/
namespace Go.Am.B
open Go Go.Am.N AV aa ak IntKind
theorem ad1:aO P Ak v9 (au v9):=aP acD (by kernel_rfl) (by kernel_rfl) (by kernel_rfl)
theorem RM:aO P z8 kW (au kW):=aP aio (by kernel_rfl) (by kernel_rfl) (by kernel_rfl)
theorem V0:aO P ze jA (au jA):=aP ady (by kernel_rfl) (by kernel_rfl) (by kernel_rfl)
abbrev vw:List Nat:=[0,1,4,5]
abbrev G0 (n m:Nat) (f g:Nat→Rat) (i:Nat):List AV:=[aV f n sU,aV g m sU,.bool false,.int .i64 i]
noncomputable abbrev uB:Code:=au v9
theorem acN {n m:Nat} {f g:Nat→Rat}:aK T Cp [10] 60 vw (before uB [1,1,0,1]) ⟨aN 0 [aV f n sU,aV g m sU],[],0⟩=
  let c2:AV:=aj 3 m fun i↦rat (g i) 4294967296;let c1:AV:=aj 3 n fun i↦rat (f i) 4294967296;some (fork ((↑n:Int)!=(↑m:Int)) (leaf ret ([c1,c2,AV.bool false,tuple []],[])) (leaf normal ([c1,c2,AV.bool false,int i64 (0:Int)],[]))):=by kernel_rfl
theorem abw {n m i:Nat} {f g:Nat→Rat}:aK T Cp [14,26] 60 vw [part uB [1,1,0,1,0,0]] ⟨aB vw (G0 n m f g i),[],0⟩=
  let c4:AV:=aj 3 m fun i↦rat (g i) 4294967296;let c3:AV:=aj 3 n fun i↦rat (f i) 4294967296;let c2:Int:=(↑i:Int);let c5:Int:=c2+(1:Int);let c1:List AV×aC:=([c3,c4,AV.bool false,int i64 c2],[]);some (fork (decide (c2<(↑n:Int))) (ag [(0:Int)≤c2∧c2.toNat<n,(0:Int)≤c2∧c2.toNat<m] (fork (!decide (f c2.toNat=g c2.toNat)) (leaf ret c1) (ag [-(2:Int)^63≤c5∧c5<(2:Int)^63] (leaf normal ([c3,c4,AV.bool false,int i64 c5],[]))))) (leaf (exit 0) c1)):=by kernel_rfl
theorem UX {n m i:Nat} {f g:Nat→Rat}:bW T Cp [] 60 v9 [part uB [1,1,1]] ⟨aB vw (G0 n m f g i),[],0⟩=
  some (leaf ret [AV.bool true]):=by kernel_rfl
def yN (n:Nat) (f:Nat→Rat) (m:Nat) (g:Nat→Rat):Bool:=decide (n=m∧∀i,i<n→f i=g i)
theorem Tc {n m:Nat} {f g:Nat→Rat} (hn:n<2^40) (hm2:m<2^40) (K:Nat):aA P Ak K [aV f n sU,aV g m sU] [] (aI (.bool (yN n f m g)) []):=by
 refine fK (r:=aI (.bool (yN n f m g)) []) hT aj7 hm ad1 rfl (of_decide_eq_true (by kernel_rfl)) rfl [1,1,0,1] (i:=0) (y:=part uB [1,1,0,1,0,0]) (z:=part uB [1,1,1]) (by kernel_rfl) (by kernel_rfl) (by kernel_rfl) (f1:=[10]) (f2:=[14,26]) (f3:=[]) 60 vw 0
  (fun i:Nat=>G0 n m f g i) (fun _=>[]) (fun i=>i≤n∧n=m∧∀j,j<i→f j=g j) (fun i=>i=n∧n=m∧∀j,j<i→f j=g j) (fun i=>n-i) (fun _=>⟨⟨_,acN,?_⟩,fun i ⟨h1,h2,h3⟩=>⟨_,abw,?_⟩,fun i ⟨h1,h2,h3⟩=>⟨_,UX,?_⟩⟩) K []
 ·simp only[aa.all,ax,bne_iff_ne,ne_eq,bne_eq_false_iff_eq]
  exact⟨fun h=>⟨[.bool false],by kernel_rfl,eV (decide_eq_false (fun hh=>h (by omega))).symm⟩,fun h=>⟨0,⟨by omega,by omega,fun j hj=>by omega⟩,.vals rfl⟩⟩
 ·simp only[aa.all,ax,decide_eq_true_eq,decide_eq_false_iff_not,Bool.not_eq_true',Bool.not_eq_false',Int.toNat_natCast]
  (repeat' with_reducible first|refine And.intro ?_ ?_|intro _)
  all_goals first|omega|skip
  ·rename_i a b
   exact⟨[.bool false],by kernel_rfl,eV (decide_eq_false (fun hh=>b (hh.2 i (by omega)))).symm⟩
  ·rename_i a b
   refine⟨i+1,⟨by omega,h2,fun j hj=>?_⟩,by dsimp only;omega,.vals rfl⟩
   by_cases hj2:j=i
   ·subst hj2;exact b
   ·exact h3 j (by omega)
  ·exact⟨rfl,i,⟨by omega,h2,h3⟩,.vals rfl⟩
 ·subst h1
  exact eV (decide_eq_true ⟨h2,h3⟩).symm
def Iy:Spec:=cJ (kC (kL sU) (kC (kL sU) kN)) (fun a=>.bool (yN a.1.1 a.1.2 a.2.1.1 a.2.1.2)) fun a=>[a.1.1<2^40,a.2.1.1<2^40]
theorem afY:∀K args pre r,Iy K args pre=some r→aA P Ak K args pre r:=cz fun _ K hn=>Tc hn.1 hn.2 K
end Go.Am.B

/- brepkernelmade: Knots. -/
namespace Go.Am.B
open Go Go.Am.N AV aa ak IntKind
theorem Md:aO P uP y7 (au y7):=aP UT (by kernel_rfl) (by kernel_rfl) (by kernel_rfl)
def mV:aR:=nG::(oy,gG tM)::(lJ,tL)::(oI,yL)::Ct
abbrev j7 (n:Nat) (z:Nat→Int) (a:Int):ah:=gM n (fun i=>.int .i64 (z i)) a
abbrev tO (t:Rat):ah:=⟨false,true,3,1,fun _=>.rat t 64⟩
abbrev ae5 (m:Nat) (k:Nat→Rat):ah:=⟨true,true,3,m,fun i=>.rat (k i) 64⟩
abbrev qj:List Nat:=[0,1,2,7,8,9]
abbrev CR (p m:Int) (v:AV) (i:Int):List AV:=[.ptr 0 0 2 0 [],.int .i64 p,.int .i64 m,.ptr 1 0 3 0 [],v,.int .i64 i]
noncomputable abbrev zJ:Code:=au y7
noncomputable abbrev vr:Code:=part zJ [1,1,1,1]
noncomputable abbrev tq:Code:=part vr [1]
abbrev wM:List Nat:=[0,1,7,8,10]
abbrev vK:List Nat:=[0,1,7,8,11]
abbrev pD (p:Int) (l:Nat) (i:Int):List AV:=[.ptr 0 0 2 0 [],.int .i64 p,.ptr 1 0 3 0 [],.own 2 3 0 l,.int .i64 i]
abbrev lU (n:Nat) (z:Nat→Int) (a:Int) (t:Rat) (l:Nat) (k:Nat→Rat):aC:=[(2,ae5 l k),(1,tO t),(0,j7 n z a)]
theorem agC {n:Nat} {z:Nat→Int} {a p m:Int}:aK T mV [] 60 qj (before zJ [1,1,1,0,1]) ⟨aN 0 [.ptr 0 0 2 0 [],.int .i64 p,.int .i64 m],[(0,j7 n z a)],1⟩=
  let c2:Int:=(2:Int)^63;let c1:Int:=cB n (fun i↦int i64 (z i)) a (4:Int)-(2:Int);some (ag [b6 n (fun i↦int i64 (z i)) a,(0:Int)<(4:Int),(4:Int)<(2:Int)^62,-c2≤c1∧c1<c2,-c2≤c1,c1<c2,(0:Nat)<1] (leaf normal ([ptr 0 0 2 0 [],int i64 p,int i64 m,ptr 20481 0 3 0 [],nil,int i64 (0:Int)],[((20481:Nat),ah.mk false true 3 1 fun j↦if(j==0)=true then aU (rat (↑c1:Rat) (Max.max 1 (br c1.natAbs)))else rat 0 1),((0:Nat),ah.mk false true 2 1 fun x↦agg [aj 1 n fun i↦int i64 (z i),int i64 (bz n a)])]))):=by kernel_rfl
theorem Wy {n:Nat} {z:Nat→Int} {a p m:Int} {t:Rat}:aK T mV [18] 60 qj [part zJ [1,1,1,0,1,0,0]] ⟨aB qj (CR p m .nil 0),[(1,tO t),(0,j7 n z a)],3⟩=
  let c3:AV:=ptr 1 0 3 0 [];let c2:AV:=ptr 0 0 2 0 [];let c1:List (Nat×ah):=[((1:Nat),ah.mk false true 3 1 fun x↦rat t 64),((0:Nat),ah.mk false true 2 1 fun x↦agg [aj 1 n fun i↦int i64 (z i),int i64 a])];some (fork (decide ((0:Int)≤p)) (ag [(0:Nat)<1,(1:Nat)*3≤2^24,(0:Nat)<1∧1*((56:Nat)+1)*2≤2^47] (ag [-(2:Int)^63≤(0:Int)+(1:Int)∧(0:Int)+(1:Int)<(2:Int)^63] (leaf normal ([c2,int i64 p,int i64 m,c3,own 24579 3 0 1,int i64 (1:Int)],((24579:Nat),ah.mk true true 3 1 fun i↦nth [rat t 64] (rat 0 1) (i+0))::c1)))) (leaf (exit 0) ([c2,int i64 p,int i64 m,c3,nil,int i64 (0:Int)],c1))):=by kernel_rfl
theorem ahw {n j:Nat} {z:Nat→Int} {a p m:Int} {t:Rat} {k:Nat→Rat}:aK T mV [18] 60 qj [part zJ [1,1,1,0,1,0,0]] ⟨aB qj (CR p m (.own 2 3 0 (j+1)) ((j+1:Nat):Int)),lU n z a t (j+1) k,3⟩=
  let c4:AV:=ptr 1 0 3 0 [];let c3:AV:=ptr 0 0 2 0 [];let c2:Nat:=j+1;let c1:List (Nat×ah):=[((1:Nat),ah.mk false true 3 1 fun x↦rat t 64),((0:Nat),ah.mk false true 2 1 fun x↦agg [aj 1 n fun i↦int i64 (z i),int i64 a])];let c7:Nat:=c2+1;let c6:Int:=(↑c2:Int);let c5:Int:=c6+(1:Int);some (fork (decide (c6≤p)) (ag [(0:Nat)<1,(1:Nat)*3≤2^24,c7*((56:Nat)+1)*2≤2^47] (ag [-(2:Int)^63≤c5∧c5<(2:Int)^63] (leaf normal ([c3,int i64 p,int i64 m,c4,own 24579 3 0 c7,int i64 c5],((24579:Nat),ah.mk true true 3 c7 fun i↦if i<c2 then rat (k i) 64 else nth [rat t 64] (rat 0 1) (i-c2+0))::c1)))) (leaf (exit 0) ([c3,int i64 p,int i64 m,c4,own 2 3 0 c2,int i64 c6],((2:Nat),ah.mk true true 3 c2 fun i↦rat (k i) 64)::c1))):=by kernel_rfl
theorem abS {n j:Nat} {z:Nat→Int} {a p m:Int} {t:Rat} {k:Nat→Rat}:aK T mV [] 60 wM (before vr [0,1]) ⟨aB qj (CR p m (.own 2 3 0 (j+1)) ((j+1:Nat):Int)),lU n z a t (j+1) k,3⟩=
  let c1:Int:=m+(1:Int);some (ag [-(2:Int)^63≤c1∧c1<(2:Int)^63,b6 n (fun i↦int i64 (z i)) a,(0:Int)<c1,c1<(2:Int)^62] (leaf normal ([ptr 0 0 2 0 [],int i64 p,ptr 1 0 3 0 [],own 2 3 0 (j+1),int i64 (cB n (fun i↦int i64 (z i)) a c1)],[((2:Nat),ah.mk true true 3 (j+1) fun i↦rat (k i) 64),((1:Nat),ah.mk false true 3 1 fun x↦rat t 64),((0:Nat),ah.mk false true 2 1 fun x↦agg [aj 1 n fun i↦int i64 (z i),int i64 (bz n a)])]))):=by kernel_rfl
theorem ahy {n l:Nat} {z:Nat→Int} {a p i:Int} {t:Rat} {k:Nat→Rat}:aK T mV [30,38,43,53] 60 wM [part vr [0,1,0,0]] ⟨aB wM (pD p l i),lU n z a t l k,3⟩=
  let c40:Int:=i-(1:Int);let c39:Nat:=64+64+1;let c35:AV:=rat t 64;let c34:AV:=rat 0 1;let c33:Int:=bz n a;let c31:Nat:=l+1;let c30:Prop:=(0:Int)<(3:Int);let c28:Prop:=b6 n (fun i↦int i64 (z i)) a;let c27:Int:=(↑l:Int);let c25:AV:=ptr 1 0 3 0 [];let c24:AV:=ptr 0 0 2 0 [];let c23:Prop:=0<1;let c21:Int:=(2:Int)^62;let c20:AV:=aj 1 n fun i↦int i64 (z i);let c18:Int:=p+(1:Int);let c16:Prop:=64<2^41;let c7:Int:=cB n (fun i↦int i64 (z i)) a (3:Int);let c5:Int:=(2:Int)^63;let c43:Int:=bz n c33;let c41:Bool:=c27==c18;let c38:Prop:=b6 n (fun i↦int i64 (z i)) c33;let c37:Prop:=(3:Int)<c21;let c32:Prop:=-c5≤c18∧c18<c5;let c29:Int:=(1:Int)+c7;let c26:Nat×ah:=((1:Nat),ah.mk false true 3 1 fun x↦c35);let c22:Bool:=bif false then true else decide (c7>(0:Int));let c19:List Prop:=[-c5≤c40∧c40<c5];let c17:Nat:=(c27-p).toNat+0;let c15:Nat×ah:=((106499:Nat),ah.mk true true 3 c31 fun i↦if i<l then rat (k i) 64 else nth [c35] c34 (i-l+0));let c13:List AV:=[c24,int i64 p,c25,own 147459 3 0 c31,int i64 c40];let c12:List AV:=[c24,int i64 p,c25,own 106499 3 0 c31,int i64 c40];let c10:Int:=(1:Int)+cB n (fun i↦int i64 (z i)) c33 (2:Int);let c9:Int:=(1:Int)+cB n (fun i↦int i64 (z i)) c33 (3:Int);let c6:List Prop:=[c23,(1:Nat)*3≤2^24,c31*((56:Nat)+1)*2≤2^47];let c42:Rat:=(↑c29:Rat)/(↑c10:Rat);let c36:Bool:=bif false then true else decide (t=k c17);let c14:List (Nat×ah):=[c26,((0:Nat),ah.mk false true 2 1 fun x↦agg [c20,int i64 a])];let c11:List Prop:=[c23,-c5≤c27-p∧c27-p<c5,(0:Int)≤c27-p∧(c27-p).toNat<l,c17<l,c16,c16];let c8:Int:=(1:Int)+cB n (fun i↦int i64 (z i)) c43 (2:Int);let c3:aa (List AV×aC):=ag c6 (ag c19 (leaf normal (c12,[c15,c26,((0:Nat),ah.mk false true 2 1 fun x↦agg [c20,int i64 c33])])));let c44:Rat:=(↑c9:Rat)/(↑c8:Rat);let c4:aa (List AV×aC):=ag c6 (ag c19 (leaf normal (c12,c15::c14)));let c2:aa (List AV×aC):=ag [c23,c28,c30,c37,-c5≤c29∧c29<c5,c38,(0:Int)<(2:Int),(2:Int)<c21,-c5≤c10∧c10<c5,-c5≤c29,c29<c5,-c5≤c10,c10<c5,c16,c16,c23] (ag c6 (ag c19 (leaf normal (c13,[((147459:Nat),ah.mk true true 3 c31 fun i↦if i<l then rat (k i) 64 else nth [rat (t+c42) c39] c34 (i-l+0)),((1:Nat),ah.mk false true 3 1 fun j↦if(j==0)=true then aU (kz (t,(64:Nat)) (c42,(64:Nat)))else c35),((0:Nat),ah.mk false true 2 1 fun x↦agg [c20,int i64 c43])]))));let c1:aa (List AV×aC):=ag [c23,c38,c30,c37,-c5≤c9∧c9<c5,b6 n (fun i↦int i64 (z i)) c43,(0:Int)<(2:Int),(2:Int)<c21,-c5≤c8∧c8<c5,-c5≤c9,c9<c5,-c5≤c8,c8<c5,c16,c16,c23] (ag c6 (ag c19 (leaf normal (c13,[((147459:Nat),ah.mk true true 3 c31 fun i↦if i<l then rat (k i) 64 else nth [rat (t+c44) c39] c34 (i-l+0)),((1:Nat),ah.mk false true 3 1 fun j↦if(j==0)=true then aU (kz (t,(64:Nat)) (c44,(64:Nat)))else c35),((0:Nat),ah.mk false true 2 1 fun x↦agg [c20,int i64 (bz n c43)])]))));some (fork (decide (i>(0:Int))) (fork c41 (fork true (ag [c32,c41=true,true=true] (fork true c2 c4)) (ag (c32::(c41=true)::(true=false)::c11) (fork c36 c2 c4))) (fork c22 (ag [c32,c41=false,c28,c30,c37,c22=true] (fork true c1 c3)) (ag (c32::(c41=false)::c28::c30::c37::(c22=false)::c11) (fork c36 c1 c3)))) (leaf (exit 2) ([c24,int i64 p,c25,own 2 3 0 l,int i64 i],((2:Nat),ah.mk true true 3 l fun i↦rat (k i) 64)::c14))):=by kernel_rfl
theorem Qv {n l:Nat} {z:Nat→Int} {a p i:Int} {t:Rat} {k:Nat→Rat}:aK T mV [] 60 vK (before tq [1,0,1]) ⟨aB wM (pD p l i),lU n z a t l k,3⟩=
  let c1:Nat:=Max.max 1 (br (Int.natAbs (1:Int)));some (ag [(0:Nat)<1,-(2:Int)^63≤(1:Int),(1:Int)<(2:Int)^63,(64:Nat)<2^41,c1<2^41,(0:Nat)<1] (leaf normal ([ptr 0 0 2 0 [],int i64 p,ptr 1 0 3 0 [],own 2 3 0 l,int i64 (0:Int)],[((2:Nat),ah.mk true true 3 l fun i↦rat (k i) 64),((1:Nat),ah.mk false true 3 1 fun j↦if(j==0)=true then aU (kz (t,(64:Nat)) ((↑(1:Int):Rat),c1))else rat t 64),((0:Nat),ah.mk false true 2 1 fun x↦agg [aj 1 n fun i↦int i64 (z i),int i64 a])]))):=by kernel_rfl
theorem ahz {n l:Nat} {z:Nat→Int} {a p i:Int} {t:Rat} {k:Nat→Rat}:aK T mV [72] 60 vK [part tq [1,0,1,0,0]] ⟨aB vK (pD p l i),lU n z a t l k,3⟩=
  let c3:AV:=ptr 1 0 3 0 [];let c2:AV:=ptr 0 0 2 0 [];let c1:List (Nat×ah):=[((1:Nat),ah.mk false true 3 1 fun x↦rat t 64),((0:Nat),ah.mk false true 2 1 fun x↦agg [aj 1 n fun i↦int i64 (z i),int i64 a])];some (fork (decide (i≤p)) (ag [(0:Nat)<1,(1:Nat)*3≤2^24,(l+1)*((56:Nat)+1)*2≤2^47] (ag [-(2:Int)^63≤i+(1:Int)∧i+(1:Int)<(2:Int)^63] (leaf normal ([c2,int i64 p,c3,own 24579 3 0 (l+1),int i64 (i+(1:Int))],((24579:Nat),ah.mk true true 3 (l+1) fun i↦if i<l then rat (k i) 64 else nth [rat t 64] (rat 0 1) (i-l+0))::c1)))) (leaf (exit 4) ([c2,int i64 p,c3,own 2 3 0 l,int i64 i],((2:Nat),ah.mk true true 3 l fun i↦rat (k i) 64)::c1))):=by kernel_rfl
theorem aji {n l:Nat} {z:Nat→Int} {a p i:Int} {t:Rat} {k:Nat→Rat}:DQ T mV [] 60 y7 [part tq [1,1]] ⟨aB vK (pD p l i),lU n z a t l k,3⟩=
  some (leaf ret ([aj 3 l fun i↦rat (k (i+0)) 64],some (ah.mk false true 2 1 fun x↦agg [aj 1 n fun i↦int i64 (z i),int i64 a]))):=by kernel_rfl
structure s7 where
 k:Nat→Rat
 t:Rat
 a:Int
def p5 (n:Nat) (f:Nat→AV) (t:Rat) (a:Int):Rat:=t+((1+cB n f a 3:Int):Rat)/((1+cB n f (bz n a) 2:Int):Rat)
def qF (n:Nat) (f:Nat→AV) (p j:Nat) (s:s7):s7:=
 if j=0∨0<cB n f s.a 3∨s.t=s.k (j+1)then
  ⟨kn s.k (p+1+j) (p5 n f s.t (if j=0 then s.a else bz n s.a)),p5 n f s.t (if j=0 then s.a else bz n s.a),bz n (bz n (if j=0 then s.a else bz n s.a))⟩
 else⟨kn s.k (p+1+j) s.t,s.t,if j=0 then s.a else bz n s.a⟩
def ov (n:Nat) (f:Nat→AV) (p:Nat) (s0:s7):Nat→s7
 |0=>s0
 |j+1=>qF n f p j (ov n f p s0 j)
def ot (n:Nat) (f:Nat→AV) (a:Int):s7:=⟨fun _=>((cB n f a 4-2:Int):Rat),((cB n f a 4-2:Int):Rat),bz n (bz n a)⟩
def jn (n:Nat) (f:Nat→AV) (a:Int) (m:Nat):Nat:=(cB n f (bz n a) (m+1)).toNat
def AS (n:Nat) (f:Nat→AV) (a:Int) (p m:Nat):s7:=ov n f p (ot n f a) (jn n f a m)
def mm (n:Nat) (f:Nat→AV) (a:Int) (p m:Nat):Nat:=2*p+2+jn n f a m
def oQ (n:Nat) (f:Nat→AV) (a:Int) (p m:Nat):Nat→Rat:=kP p (jn n f a m) (AS n f a p m).k (AS n f a p m).t
def pn (n:Nat) (f:Nat→AV) (a:Int) (p m:Nat):Int:=(AS n f a p m).a
theorem Di {n:Nat} {f:Nat→AV} {a:Int} {p:Nat} (hd:b6 n f a) (hp:1≤p):∀j,KG p j (ov n f p (ot n f a) j).k (ov n f p (ot n f a) j).t∧b6 n f (ov n f p (ot n f a) j).a
 |0=>by
  have h1:=iR (n:=n) (f:=f) (a:=a) (m:=4) (by omega)
  have h2:=jo (n:=n) (f:=f) (a:=a) (m:=4) (by omega)
  exact⟨KG.start hp (by omega) (by omega),hd.next.next⟩
 |j+1=>by
  obtain⟨h1,h2⟩:=Di hd hp j
  unfold ov qF p5
  generalize ov n f p (ot n f a) j=s at*
  obtain⟨k,t,b⟩:=s
  simp only at h1 h2 ⊢
  have hb:b6 n f (if j=0 then b else bz n b):=by split;exact h2;exact h2.next
  generalize (if j=0 then b else bz n b)=a1 at*
  split
  ·have x1:=iR (n:=n) (f:=f) (a:=a1) (m:=3) (by omega)
   have x2:=jo (n:=n) (f:=f) (a:=a1) (m:=3) (by omega)
   have y1:=iR (n:=n) (f:=f) (a:=bz n a1) (m:=2) (by omega)
   have y2:=jo (n:=n) (f:=f) (a:=bz n a1) (m:=2) (by omega)
   refine⟨h1.next (.inl ?_),hb.next.next⟩
   generalize cB n f a1 3=x at*
   generalize cB n f (bz n a1) 2=y at*
   have key:∃z:Int,((1+x:Int):Rat)/((1+y:Int):Rat)=(z:Rat)/2∧1≤z∧z≤6:=by
    rcases(show y=0∨y=1 by omega)with h|h
    ·subst h
     refine⟨2*(1+x),?_,by omega,by omega⟩
     have:((2*(1+x):Int):Rat)=2*((1+x:Int):Rat):=by simp
     rw[this]
     generalize ((1+x:Int):Rat)=w
     simp;grind
    ·subst h
     exact⟨1+x,by simp,by omega,by omega⟩
   obtain⟨z,e,z1,z2⟩:=key
   rw[e]
   refine⟨?_,z,rfl,z2⟩
   have:(1:Rat)≤(z:Rat):=by exact_mod_cast z1
   grind
  ·rename_i hc
   have hc1:¬j=0:=fun h=>hc (.inl h)
   have hc2:¬t=k (j+1):=fun h=>hc (.inr (.inr h))
   exact⟨h1.next (.inr ⟨rfl,by omega,hc2⟩),hb⟩
theorem Iq {z:Int} (h1:-2^63≤z) (h2:z<2^63):Sz ((z:Rat)/2) 64:=by
 have:=NI h1 h2 (y:=2) (by omega) (by omega) (by omega)
 simpa using this
theorem KG.sz {p j:Nat} {k:Nat→Rat} {t:Rat} (h:KG p j k t) (hj:j<2^50):Sz t 64:=by
 obtain⟨z,e,h1,h2⟩:=h.half (p+j) (Nat.le_refl _)
 rw[h.top]at e
 rw[e]
 exact Iq (by omega) (by omega)
theorem YA {J j:Nat} (h:j<J):((J-j:Nat):Int)-1=((J-(j+1):Nat):Int):=by omega
theorem Fp {rl:List (Nat×Nat)} {l i:Nat} {k k':Nat→Rat} {t:Rat} {s:Nat} (hk:k'=kn k l t) (ht:Sz t 64) (hi:i<l+1):fc rl (if i<l then .rat (k i) 64 else nth [.rat t s] (.rat 0 1) (i-l+0)) (.rat (k' i) 64):=by
 subst hk
 by_cases h:i<l
 ·rw[if_pos h,kD (by omega)];exact aD rfl rfl
 ·have:i=l:=by omega
  subst this
  rw[if_neg h,td,Nat.sub_self]
  exact .inr ⟨rfl,fI rfl ht⟩
theorem Dv:aX P mV:=cC (aJ AX (aJ zo (aJ A8 FJ)))
theorem acI {k n p m:Nat} {z:Nat→Int} {a:Int} {o:ah} (ho:∀ρ,ck ρ o (j7 n z a)) (h:b6 n (fun i=>.int .i64 (z i)) a) (hp:1≤p) (hp2:p<1000) (hm2:m<1000) (K:Nat):
  aA P uP K [.ptr k 0 2 0 [],.int .i64 p,.int .i64 m] [(k,o)] ⟨aV (oQ n (fun i=>.int .i64 (z i)) a p m) (mm n (fun i=>.int .i64 (z i)) a p m) 64,[(k,j7 n z (pn n (fun i=>.int .i64 (z i)) a p m))],[]⟩:=by
 refine Tb hT Md rfl rfl (of_decide_eq_true (by kernel_rfl)) ho (fun _ c hk=>?_) K
 have a1:=iR (n:=n) (f:=fun i=>.int .i64 (z i)) (a:=a) (m:=4) (by omega)
 have a2:=jo (n:=n) (f:=fun i=>.int .i64 (z i)) (a:=a) (m:=4) (by omega)
 have b1:=iR (n:=n) (f:=fun i=>.int .i64 (z i)) (a:=bz n a) (m:=m+1) (by omega)
 have b2:=jo (n:=n) (f:=fun i=>.int .i64 (z i)) (a:=bz n a) (m:=m+1) (by omega)
 have hS:=Di h hp
 unfold pn oQ mm AS at*
 obtain⟨J,hJ⟩:∃J,J=jn n (fun i=>.int .i64 (z i)) a m:=⟨_,rfl⟩
 have hJ2:cB n (fun i=>.int .i64 (z i)) (bz n a) (m+1)=(J:Int):=by rw[hJ];unfold jn;omega
 rw[←hJ]at*
 have hJ3:J<1000:=by omega
 obtain⟨S,hSd⟩:∃S,S=ov n (fun i=>.int .i64 (z i)) p (ot n (fun i=>.int .i64 (z i)) a):=⟨_,rfl⟩
 have h00:S 0=ot n (fun i=>.int .i64 (z i)) a:=by rw[hSd];rfl
 have hS1:∀j,S (j+1)=qF n (fun i=>.int .i64 (z i)) p j (S j):=fun j=>by rw[hSd];rfl
 rw[←hSd]at hS ⊢
 clear hSd hJ
 obtain⟨t0,ht0⟩:∃t0:Rat,t0=((cB n (fun i=>.int .i64 (z i)) a 4-2:Int):Rat):=⟨_,rfl⟩
 unfold ot at h00
 rw[←ht0]at h00
 have hs0:Sz t0 64:=by have:=(hS 0).1.sz (by omega);rw[h00]at this;exact this
 refine aq.iM hT Dv hm [1,1,1,0,1] (i:=0) (y:=part zJ [1,1,1,0,1,0,0]) (z:=vr) (by kernel_rfl) (by kernel_rfl) (by kernel_rfl) Md.dst hk (f1:=[]) (f2:=[18]) 60 qj 3
  (fun j:Nat=>CR p m (match j with
   |0=>.nil
   |_+1=>.own 2 3 0 j) j) (fun j=>match j with
   |0=>[(1,tO t0),(0,j7 n z (bz n a))]
   |_+1=>lU n z (bz n a) t0 j (fun _=>t0)) (fun j=>j≤p+1) (fun j=>j=p+1) (fun j=>p+1-j) (fun _=>False) ⟨_,agC,?_⟩ (fun j hj=>?_) (fun j hj=>?_) (fun _ _ h=>h.elim)
 ·simp only[aa.all,ax]
  refine⟨⟨h,by omega,by omega,by omega,by omega,by omega,by omega⟩,0,by omega,[(0,0),(1,20481)],rfl,rfl,rfl,aF rfl rfl (.inr ⟨rfl,?_⟩) (aF rfl rfl (aD rfl rfl) trivial)⟩
  rw[←ht0]
  exact fI rfl hs0
 ·cases j with
  |zero=>
   refine⟨_,Wy,?_⟩
   simp only[aa.all,ax,decide_eq_true_eq,decide_eq_false_iff_not]
   refine⟨fun _=>⟨by omega,by omega,1,by omega,by dsimp only;omega,[(0,0),(1,1),(2,24579)],rfl,rfl,rfl,aW rfl rfl rfl (fun i hi=>?_) (aF rfl rfl (aD rfl rfl) (aF rfl rfl (aD rfl rfl) trivial))⟩,fun h=>by omega⟩
   have:i=0:=by omega
   subst this
   exact aD rfl rfl
  |succ j=>
   refine⟨_,ahw,?_⟩
   simp only[aa.all,ax,decide_eq_true_eq,decide_eq_false_iff_not]
   refine⟨fun _=>⟨by omega,by omega,j+2,by omega,by dsimp only;omega,[(0,0),(1,1),(2,24579)],rfl,rfl,rfl,aW rfl rfl rfl (fun i hi=>Fp (by funext i;unfold kn;split<;>rfl) hs0 hi) (aF rfl rfl (aD rfl rfl) (aF rfl rfl (aD rfl rfl) trivial))⟩,
    fun _=>⟨rfl,j+1,by omega,[(0,0),(1,1),(2,2)],rfl,rfl,rfl,aW rfl rfl rfl (fun i hi=>aD rfl rfl) (aF rfl rfl (aD rfl rfl) (aF rfl rfl (aD rfl rfl) trivial))⟩⟩
 subst hj
 refine aq.iM hT Dv hm [0,1] (i:=2) (y:=part vr [0,1,0,0]) (z:=tq) (by kernel_rfl) (by kernel_rfl) (by kernel_rfl) (by kernel_rfl) hk (f1:=[]) (f2:=[30,38,43,53]) 60 wM 3
  (fun j:Nat=>pD p (p+1+j) ((J-j:Nat):Int)) (fun j=>lU n z (S j).a (S j).t (p+1+j) (S j).k) (fun j=>j≤J) (fun j=>j=J) (fun j=>J-j) (fun _=>False) ⟨_,abS,?_⟩ (fun j hj=>?_) (fun j hj=>?_) (fun _ _ h=>h.elim)
 ·simp only[aa.all,ax]
  rw[hJ2]
  refine⟨⟨by omega,h.next,by omega,by omega⟩,0,by omega,[(0,0),(1,1),(2,2)],rfl,rfl,rfl,?_⟩
  dsimp only
  rw[h00]
  exact aW rfl rfl rfl (fun i hi=>aD rfl rfl) (aF rfl rfl (aD rfl rfl) (aF rfl rfl (aD rfl rfl) trivial))
 ·refine⟨_,ahy,?_⟩
  have hj1:=hS1 j
  obtain⟨hg,hd⟩:=hS j
  have hs1:∀{j},j<2000→Sz (S j).t 64:=fun hj=>(hS _).1.sz (by omega)
  have hsj:=hs1 (j:=j) (by omega)
  have hsj1:=hs1 (j:=j+1) (by omega)
  have e1:(((p+1+j:Nat):Int)-(p:Int)).toNat+0=j+1:=by omega
  simp only[aa.all,ax,decide_eq_true_eq,decide_eq_false_iff_not,beq_iff_eq,beq_eq_false_iff_ne,e1,cond_false]
  have v3:=fun a=>And.intro (iR (n:=n) (f:=fun i=>.int .i64 (z i)) (a:=a) (m:=3) (by omega)) (jo (n:=n) (f:=fun i=>.int .i64 (z i)) (a:=a) (m:=3) (by omega))
  have v2:=fun a=>And.intro (iR (n:=n) (f:=fun i=>.int .i64 (z i)) (a:=a) (m:=2) (by omega)) (jo (n:=n) (f:=fun i=>.int .i64 (z i)) (a:=a) (m:=2) (by omega))
  have q1:=v3 (S j).a
  have q2:=v3 (bz n (S j).a)
  have q3:=v2 (bz n (S j).a)
  have q4:=v2 (bz n (bz n (S j).a))
  refine⟨fun hi=>?_,fun hi=>⟨rfl,j,by omega,[(0,0),(1,1),(2,2)],rfl,rfl,rfl,aW rfl rfl rfl (fun i hi=>aD rfl rfl) (aF rfl rfl (aD rfl rfl) (aF rfl rfl (aD rfl rfl) trivial))⟩⟩
  have hlt:j<J:=by omega
  have fin:∀(key:Nat) (t:Rat) (s s2:Nat) (b:Int) (g:Nat→AV),S (j+1)=⟨kn (S j).k (p+1+j) t,t,b⟩→g 0=.rat t s2→(gh 3 [(0,0),(1,1),(2,key)])=true→(key==1)=false→(key==0)=false→
    Round [0] (fun j=>pD p (p+1+j) ((J-j:Nat):Int)) (fun j=>lU n z (S j).a (S j).t (p+1+j) (S j).k) 3 (fun j=>j≤J) (fun j=>j=J) (fun j=>J-j) 2 (fun _=>False) j normal
     ([ptr 0 0 2 0 [],int i64 p,ptr 1 0 3 0 [],own key 3 0 (p+1+j+1),int i64 (((J-j:Nat):Int)-1)],[(key,⟨true,true,3,p+1+j+1,fun i=>if i<p+1+j then .rat ((S j).k i) 64 else nth [.rat t s] (.rat 0 1) (i-(p+1+j)+0)⟩),(1,⟨false,true,3,1,g⟩),(0,j7 n z b)]):=by
   intro key t s s2 b g e1 e2 e3 hk1 hk0
   rw[e1]at hsj1
   refine⟨j+1,by omega,by dsimp only;omega,[(0,0),(1,1),(2,key)],by rw[e3];rfl,by rw[YA hlt];rfl,rfl,?_⟩
   dsimp only
   rw[e1]
   exact aW rfl DG rfl (fun i hi=>Fp rfl hsj1 hi) (aF rfl ((PM hk1).trans rfl) (.inr ⟨by rw[e2];rfl,by rw[e2];exact fI rfl hsj1⟩) (aF rfl ((PM hk0).trans rfl) (aD rfl rfl) trivial))
  refine⟨fun hl=>?_,fun hl=>⟨fun hc=>?_,fun hc=>?_⟩⟩
  all_goals (repeat' with_reducible first|refine And.intro ?_ ?_|intro _)
  all_goals first|omega|exact hd|exact hd.next|exact hd.next.next|skip
  all_goals try exact absurd ‹true=false› (by decide)
  ·refine fin 147459 _ _ _ _ _ ?_ rfl rfl rfl rfl
   rw[hj1];unfold qF p5
   have hj0:j=0:=by omega
   rw[if_pos (.inl hj0),if_pos hj0]
  ·refine fin 147459 _ _ _ _ _ ?_ rfl rfl rfl rfl
   rw[hj1];unfold qF p5
   have hj0:j≠0:=by omega
   rw[if_pos (.inr (.inl hc)),if_neg hj0]
  ·refine fin 147459 _ _ _ _ _ ?_ rfl rfl rfl rfl
   rw[hj1];unfold qF p5
   have hj0:j≠0:=by omega
   rename_i hk
   rw[if_pos (.inr (.inr hk)),if_neg hj0]
  ·refine fin 106499 _ _ _ _ _ ?_ rfl rfl rfl rfl
   rw[hj1];unfold qF p5
   have hj0:j≠0:=by omega
   rename_i hk
   rw[if_neg (by simp only[hj0,hk,or_false,false_or];omega),if_neg hj0]
 subst hj
 have hs1:Sz ((S j).t+1) 64:=by
  obtain⟨z,e,h1,h2⟩:=(hS j).1.Rw (p+1+j)
  unfold kP at e
  rw[if_neg (by omega)]at e
  rw[e];exact Iq (by omega) (by omega)
 refine aq.iM hT Dv hm [1,0,1] (i:=4) (y:=part tq [1,0,1,0,0]) (z:=part tq [1,1]) (by kernel_rfl) (by kernel_rfl) (by kernel_rfl) (by kernel_rfl) hk (f1:=[]) (f2:=[72]) 60 vK 3
  (fun i:Nat=>pD p (p+1+j+i) i) (fun i=>lU n z (S j).a ((S j).t+1) (p+1+j+i) (kP p j (S j).k (S j).t)) (fun i=>i≤p+1) (fun i=>i=p+1) (fun i=>p+1-i) (fun _=>False) ⟨_,Qv,?_⟩ (fun i hi=>?_) (fun i hi=>?_) (fun _ _ h=>h.elim)
 ·simp only[aa.all,ax]
  refine⟨⟨by omega,by omega,by omega,by omega,by decide,by omega⟩,0,by omega,[(0,0),(1,1),(2,2)],rfl,rfl,rfl,aW rfl rfl rfl (fun i hi=>?_) (aF rfl rfl (.inr ⟨rfl,fI rfl hs1⟩) (aF rfl rfl (aD rfl rfl) trivial))⟩
  refine aD rfl ?_
  unfold kP
  rw[if_pos (by omega)]
 ·refine⟨_,ahz,?_⟩
  simp only[aa.all,ax,decide_eq_true_eq,decide_eq_false_iff_not]
  refine⟨fun _=>⟨by omega,by omega,i+1,by omega,by dsimp only;omega,[(0,0),(1,1),(2,24579)],rfl,rfl,rfl,aW rfl rfl rfl (fun i hi=>Fp ?_ hs1 hi) (aF rfl rfl (aD rfl rfl) (aF rfl rfl (aD rfl rfl) trivial))⟩,
   fun _=>⟨rfl,i,by omega,[(0,0),(1,1),(2,2)],rfl,rfl,rfl,aW rfl rfl rfl (fun i hi=>aD rfl rfl) (aF rfl rfl (aD rfl rfl) (aF rfl rfl (aD rfl rfl) trivial))⟩⟩
  funext x
  unfold kn kP
  split
  ·rename_i hx;rw[if_neg (by omega)]
  ·split<;>rfl
 ·subst hi
  refine aq.ni (aE.S7 hT Dv hm 60 aji (by kernel_rfl) ⟨?_,_,rfl,rfl,lF rfl rfl⟩)
  exact qU (by omega) fun _ _=>rfl
def HH (n:Nat) (f:Nat→AV) (a:Int) (l:List AV):Option (AV×Int×List Prop):=match l with
 |[.int .i64 p,.int .i64 m]=>some (aV (oQ n f a p.toNat m.toNat) (mm n f a p.toNat m.toNat) 64,pn n f a p.toNat m.toNat,[1≤p,p<1000,0≤m,m<1000])
 |_=>none
theorem QW:∀K args pre r,gG HH K args pre=some r→aA P uP K args pre r:=by
 refine rO fun {k n z a l v b q o} K hg ho hd hq=>?_
 unfold HH at hg
 split at hg
 ·rename_i p m
  simp only[Option.some.injEq,Prod.mk.injEq]at hg
  obtain⟨rfl,rfl,rfl⟩:=hg
  obtain⟨h1,h2,h3,h4⟩:=hq
  have h4:m<1000:=h4
  have:=acI (k:=k) (p:=p.toNat) (m:=m.toNat) ho hd (by omega) (by omega) (by omega) K
  rw[Int.toNat_of_nonneg (by omega),Int.toNat_of_nonneg h3]at this
  exact this
 ·simp at hg
end Go.Am.B

/- brepkernelmade: Number. -/
namespace Go.Am.B
open Go Go.Am.N AV
end Go.Am.B

/- law09: made, at. -/
namespace Go.Am.B
open Go Go.Am.N AV aa ak IntKind
end Go.Am.B

/- ref02.Text of a few numbers; law09.awake. -/
namespace Go.Am.B
open Go Go.Am.N AV aa ak IntKind
def sS:aR:=[sG,(rU,Gk)]
theorem aer:aX P sS:=iz (aJ Kg bn)
theorem Kn.congr {n p:Nat} {k k':Nat→Rat} (h:Kn n p k) (e:∀i,i<n→k i=k' i):Kn n p k':=by
 have hp:=h.p1
 have hl:=h.len
 refine⟨h.p1,h.len,fun i hi=>?_,fun i hi=>?_,fun i h1 h2=>?_,fun i h1 h2=>?_⟩
 ·rw[←e i (by omega),←e (i+1) hi];exact h.sorted i hi
 ·rw[←e i (by omega),←e 0 (by omega)];exact h.first i hi
 ·rw[←e i h2,←e (n-1) (by omega)];exact h.last i h1 h2
 ·rw[←e i (by omega),←e (i+p) (by omega)];exact h.mult i h1 h2
theorem TN {f:Nat→Rat} (h:∀i,i<6→f i=kP 2 0 (fun _=>((0:Int):Rat)) ((0:Int):Rat) i):Kn 6 2 f:=
 ((KG.start (p:=2) (by omega) (z:=0) (by omega) (by omega)).done:Kn (2*2+2+0) 2 _).congr fun i hi=>(h i hi).symm
end Go.Am.B

/- shapes, vector, ref14: by the evaluator; law14.awake. -/
namespace Go.Am.B
open Go Go.Am.N AV aa ak IntKind
noncomputable def C4:aR:=[(KA,fW T (sG::ny) [] 60 Nb),(IZ,fW T (sG::ny) [] 60 PI),(xE,fW T (sG::ny) [100010,100017] 60 rN)]
theorem Fz:aX P C4:=aJ (gj hT (iz o9) hm (aP YL (by kernel_rfl) (by kernel_rfl) (by kernel_rfl)) _ _) (aJ (gj hT (iz o9) hm (aP aiP (by kernel_rfl) (by kernel_rfl) (by kernel_rfl)) _ _) (aJ (gj hT (iz o9) hm (aP JW (by kernel_rfl) (by kernel_rfl) (by kernel_rfl)) _ _) bn))
end Go.Am.B

/- ref12: row, Swap, IsoV, IsoU, Eval. -/
namespace Go.Am.B
open Go Go.Am.N AV aa ak IntKind
abbrev Gq:ah:=⟨false,true,3,1,fun _=>.agg [.int .i64 0,.nil,.nil]⟩
structure SfW (s:Sf):Prop where
 ku:Kn s.a s.u.toNat s.ku
 kv:Kn s.b s.v.toNat s.kv
 u0:0≤s.u
 u6:s.u≤6
 v0:0≤s.v
 v6:s.v≤6
 a:s.a<2^30
 b:s.b<2^30
 n:(s.n:Int)=(s.a:Int)-s.u-1
 m:(s.m:Int)=(s.b:Int)-s.v-1
end Go.Am.B

/- ref10: MovePoles, Move; ref12: withRows, Move. -/
namespace Go.Am.B
open Go Go.Am.N AV aa ak IntKind
theorem af7:aO P vp vi (au vi):=aP aj3 (by kernel_rfl) (by kernel_rfl) (by kernel_rfl)
theorem aeM:aO P uA Ac (au Ac):=aP abf (by kernel_rfl) (by kernel_rfl) (by kernel_rfl)
def s8 (s:Nat):Kind Mp:=⟨fun v=>match Dm v with
 |some (a,q)=>some (a.1,(a.2≤s)::q)
 |none=>none,fun a=>fh a s,fun {v a q} h hq=>by
  split at h
  ·rename_i a q h1
   simp only[Option.some.injEq,Prod.mk.injEq]at h
   obtain⟨rfl,rfl⟩:=h
   obtain⟨q1,q2⟩:=(cE (a:=[_]) (b:=q)).1 hq
   exact(Zx h1 q2).trans (Yo rfl q1)
  ·simp at h⟩
def eu (r v:V3) (t:Rat):Rat:=0+r.x*v.x+r.y*v.y+r.z*v.z+t
def apM (m:Mp) (v:V3):V3:=⟨eu m.m.a v m.t.x,eu m.m.b v m.t.y,eu m.m.c v m.t.z⟩
def gT (m:Mp) (p:Pl):Pl:=⟨apM m p.n,p.d⟩
def rE (m:Mp) (c:Cu):Cu:=⟨c.p,c.n,c.k,c.m,fun j=>gT m (c.f j)⟩
abbrev sM:Nat:=300
abbrev sQ:Nat:=1100
abbrev sW:Nat:=6000
noncomputable def LP:aR:=[(JN,fW T (sG::C4) [] 60 PJ)]
noncomputable def Kk:aR:=[(Mq,fW T (sG::(LP++C4)) [] 60 Mh)]
noncomputable def Da:aR:=nG::Kk
abbrev Af:List Nat:=[0,3,4,5,6]
abbrev Eh (n:Nat) (f:Nat→Pl) (i:Nat):List AV:=[eZ f n sQ,.ptr 0 0 36 0 [],.nil,.own 1 12 0 i,.int .i64 i]
abbrev FA (m:Mp) (g:Nat→Pl) (i:Nat):aC:=[(1,⟨true,true,12,i,fun i=>bw (g i) sW⟩),(0,⟨false,true,36,1,fun _=>fh m sM⟩)]
noncomputable abbrev wO:Code:=au vi
theorem ai3 {n:Nat} {f:Nat→Pl} {m:Mp}:aK T Da [] 60 Af (before wO [1,1,0,1]) ⟨aN 0 [eZ f n sQ,fh m sM],[],0⟩=
  some (leaf normal ([aj 12 n fun i↦agg [agg [rat (f i).n.x 1100,rat (f i).n.y 1100,rat (f i).n.z 1100],rat (f i).d 1100],ptr 0 0 (aU (fh m sM)).size 0 [],nil,nil,int i64 (0:Int)],[((0:Nat),ah.mk false true (aU (fh m sM)).size 1 fun x↦agg [agg [agg [rat m.m.a.x 300,rat m.m.a.y 300,rat m.m.a.z 300],agg [rat m.m.b.x 300,rat m.m.b.y 300,rat m.m.b.z 300],agg [rat m.m.c.x 300,rat m.m.c.y 300,rat m.m.c.z 300]],agg [rat m.t.x 300,rat m.t.y 300,rat m.t.z 300]])])):=by kernel_rfl
theorem aaX {n i:Nat} {f g:Nat→Pl} {m:Mp}:aK T Da [10] 60 Af [part wO [1,1,0,1,0,0]] ⟨aB Af (Eh n f i),FA m g i,2⟩=
  let c8:AV:=ptr 0 0 36 0 [];let c7:AV:=rat 0 1;let c6:Int:=(↑i:Int);let c5:Prop:=0<1;let c4:AV:=aj 12 n fun i↦agg [agg [rat (f i).n.x 1100,rat (f i).n.y 1100,rat (f i).n.z 1100],rat (f i).d 1100];let c2:Nat:=1+(sM+sQ)+1+(sM+sQ)+1+(sM+sQ)+1+sM+1;let c1:List (Nat×ah):=[((0:Nat),ah.mk false true 36 1 fun x↦agg [agg [agg [rat m.m.a.x 300,rat m.m.a.y 300,rat m.m.a.z 300],agg [rat m.m.b.x 300,rat m.m.b.y 300,rat m.m.b.z 300],agg [rat m.m.c.x 300,rat m.m.c.y 300,rat m.m.c.z 300]],agg [rat m.t.x 300,rat m.t.y 300,rat m.t.z 300]])];let c10:Int:=c6+(1:Int);let c9:Prop:=(0:Int)≤c6∧c6.toNat<n;let c3:V3:=(f c6.toNat).n;some (fork (decide (c6<(↑n:Int))) (ag [c5,c9,c5,c5,c5,c5,c5,c5,c9,(1:Nat)*12≤2^24,(i+1)*((224:Nat)+1)*2≤2^47] (ag [-(2:Int)^63≤c10∧c10<(2:Int)^63] (leaf normal ([c4,c8,nil,own 77826 12 0 (i+1),int i64 c10],((77826:Nat),ah.mk true true 12 (i+1) fun i_1↦if i_1<i then bw (g i_1) sW else nth [agg [agg [rat ((0:Rat)+m.m.a.x*c3.x+m.m.a.y*c3.y+m.m.a.z*c3.z+m.t.x) c2,rat ((0:Rat)+m.m.b.x*c3.x+m.m.b.y*c3.y+m.m.b.z*c3.z+m.t.y) c2,rat ((0:Rat)+m.m.c.x*c3.x+m.m.c.y*c3.y+m.m.c.z*c3.z+m.t.z) c2],rat (f c6.toNat).d sQ]] (agg [agg [c7,c7,c7],c7]) (i_1-i+0))::c1)))) (leaf (exit 0) ([c4,c8,nil,own 1 12 0 i,int i64 c6],((1:Nat),ah.mk true true 12 i fun i↦agg [agg [rat (g i).n.x 6000,rat (g i).n.y 6000,rat (g i).n.z 6000],rat (g i).d 6000])::c1))):=by kernel_rfl
theorem abt {n i:Nat} {f g:Nat→Pl} {m:Mp}:bW T Da [] 60 vi [part wO [1,1,1]] ⟨aB Af (Eh n f i),FA m g i,2⟩=
  some (leaf ret [aj 12 i fun i↦agg [agg [rat (g (i+0)).n.x 6000,rat (g (i+0)).n.y 6000,rat (g (i+0)).n.z 6000],rat (g (i+0)).d 6000]]):=by kernel_rfl
theorem aiZ (m:Mp):(aU (fh m sM)).size=36:=by kernel_rfl
theorem Ze:aX P LP:=aJ (gj hT (iz Fz) hm (aP afb (by kernel_rfl) (by kernel_rfl) (by kernel_rfl)) _ _) bn
theorem TJ:aX P Kk:=aJ (gj hT (iz (mq Ze Fz)) hm (aP ah8 (by kernel_rfl) (by kernel_rfl) (by kernel_rfl)) _ _) bn
theorem ail:aX P Da:=cC TJ
theorem adf {n:Nat} {f:Nat→Pl} {m:Mp} (hn:n<2^30) (K:Nat):aA P vp K [eZ f n sQ,fh m sM] [] (aI (eZ (fun j=>gT m (f j)) n sW) []):=by
 refine fK (r:=aI (eZ (fun j=>gT m (f j)) n sW) []) hT ail hm af7 rfl (of_decide_eq_true (by kernel_rfl)) rfl [1,1,0,1] (i:=0) (y:=part wO [1,1,0,1,0,0]) (z:=part wO [1,1,1]) (by kernel_rfl) (by kernel_rfl) (by kernel_rfl) (f1:=[]) (f2:=[10]) (f3:=[]) 60 Af 2
  (fun i:Nat=>Eh n f i) (fun i=>FA m (fun j=>gT m (f j)) i) (fun i=>i≤n) (fun i=>i=n) (fun i=>n-i) (fun _=>⟨⟨_,ai3,?_⟩,fun i hi=>⟨_,aaX,?_⟩,fun i hi=>⟨_,abt,?_⟩⟩) K []
 ·simp only[aa.all]
  rw[aiZ m]
  exact⟨0,Nat.zero_le _,[(0,0)],rfl,rfl,rfl,jy rfl (by omega) (by omega) (aF (f:=fun _=>fh m sM) rfl rfl (aD rfl rfl) trivial)⟩
 ·simp only[aa.all,ax,decide_eq_true_eq,decide_eq_false_iff_not,Int.toNat_natCast,Nat.add_zero]
  refine⟨fun h=>⟨by omega,by omega,i+1,by omega,by dsimp only;omega,[(0,0),(1,77826)],rfl,rfl,rfl,aW rfl rfl rfl (fun k hk=>?_) (aF rfl rfl (aD rfl rfl) trivial)⟩,fun h=>⟨rfl,i,by omega,[(0,0),(1,1)],rfl,rfl,rfl,aW rfl rfl rfl (fun _ _=>aD rfl rfl) (aF rfl rfl (aD rfl rfl) trivial)⟩⟩
  by_cases h:k<i
  ·rw[if_pos h];exact aD rfl rfl
  ·have:k=i:=by omega
   subst this
   rw[if_neg h,Nat.sub_self]
   exact .inr ⟨rfl,bQ ⟨bQ ⟨bp rfl (by decide),bp rfl (by decide),bp rfl (by decide),trivial⟩,bp rfl (by decide),trivial⟩⟩
 ·subst hi
  exact .refl _
def Lx:Spec:=cJ (kC (pI sQ) (kC (s8 sM) kN)) (fun a=>eZ (fun j=>gT a.2.1 (a.1.2 j)) a.1.1 sW) fun a=>[a.1.1<2^30]
def On:aR:=[nG,(vp,Lx)]
theorem Yp:∀K args pre r,Lx K args pre=some r→aA P vp K args pre r:=cz fun⟨⟨n,f⟩,m,_⟩ K hn=>adf hn K
theorem R5:aX P On:=cC (aJ Yp bn)
theorem T6 {c:Cu} {m:Mp}:bC T On [] 60 Ac (au Ac) ⟨aN 0 [bE c sQ sQ,fh m sM],[],0⟩=
  let c2:Prop:=sM≤sM;let c1:Prop:=0<1;some (ag [c1,(0:Nat)*3≤2^24,c1,((0:Nat)+c.n)*((56:Nat)+1)*2≤2^47,c1,c1,eM (fun i↦bw (c.f i) sQ) c.m sQ,Max.max sM sM≤sM,c2,c2,c2,c2,c2,c2,c2,c2,c2,c2,c.m<2^30,c1] (ag [c1] (leaf ret [agg [int i64 c.p,aj 3 ((0:Nat)+c.n) fun i↦rat (c.k (i+0-0)) 1100,aj 12 c.m fun i↦agg [agg [rat (eu (V3.mk m.m.a.x m.m.a.y m.m.a.z) (V3.mk (aT (rat (c.f i).n.x sQ)) (aT (rat (c.f i).n.y sQ)) (aT (rat (c.f i).n.z sQ))) m.t.x) 6000,rat (eu (V3.mk m.m.b.x m.m.b.y m.m.b.z) (V3.mk (aT (rat (c.f i).n.x sQ)) (aT (rat (c.f i).n.y sQ)) (aT (rat (c.f i).n.z sQ))) m.t.y) 6000,rat (eu (V3.mk m.m.c.x m.m.c.y m.m.c.z) (V3.mk (aT (rat (c.f i).n.x sQ)) (aT (rat (c.f i).n.y sQ)) (aT (rat (c.f i).n.z sQ))) m.t.z) 6000],rat (aT (rat (c.f i).d sQ)) 6000]]]))):=by kernel_rfl
theorem XP {c:Cu} {m:Mp} (hn:c.n<2^30) (hm2:c.m<2^30) (K:Nat):aA P uA K [bE c sQ sQ,fh m sM] [] (aI (bE (rE m c) sQ sW) []):=by
 refine bF (r:=aI (bE (rE m c) sQ sW) []) hT R5 hm aeM rfl (of_decide_eq_true (by kernel_rfl)) rfl 60 T6 (fun _=>?_) K []
 simp only[aa.all,ax]
 exact⟨⟨by omega,by omega,by omega,by omega,by omega,by omega,iB (Nat.le_refl _),by omega,by omega,by omega,by omega,by omega,by omega,by omega,by omega,by omega,by omega,by omega,hm2,by omega⟩,by omega,bQ ⟨.refl _,qU (Nat.zero_add _) fun _ _=>rfl,.refl _,trivial⟩⟩
def JE:Spec:=cJ (kC (gx sQ sQ) (kC (s8 sM) kN)) (fun a=>bE (rE a.2.1 a.1) sQ sW) fun a=>[a.1.n<2^30,a.1.m<2^30]
theorem aiV:∀K args pre r,JE K args pre=some r→aA P uA K args pre r:=cz fun⟨c,m,_⟩ K hn=>XP hn.1 hn.2 K
end Go.Am.B

/- ref10.SamePoles, Same, ref12.Same for equal arguments. -/
namespace Go.Am.B
open Go Go.Am.N AV aa ak IntKind
theorem QD:aO P w8 zE (au zE):=aP adt (by kernel_rfl) (by kernel_rfl) (by kernel_rfl)
theorem adH:aO P Ah zy (au zy):=aP ag0 (by kernel_rfl) (by kernel_rfl) (by kernel_rfl)
noncomputable def CW:aR:=nG::(C4++ny)
noncomputable abbrev zZ:Code:=au zE
abbrev Ez (n m:Nat) (f g:Nat→Pl) (i:Nat):List AV:=[eZ f n sU,eZ g m sU,.bool false,.int .i64 i]
theorem T0 {n m:Nat} {f g:Nat→Pl}:aK T CW [200010] 60 [0,1,4,5] (before zZ [1,1,0,1]) ⟨aN 0 [eZ f n sU,eZ g m sU],[],0⟩=
  some (ag [((↑n:Int)!=(↑m:Int))=false] (leaf normal ([aj 12 n fun i↦agg [agg [rat (f i).n.x 4294967296,rat (f i).n.y 4294967296,rat (f i).n.z 4294967296],rat (f i).d 4294967296],aj 12 m fun i↦agg [agg [rat (g i).n.x 4294967296,rat (g i).n.y 4294967296,rat (g i).n.z 4294967296],rat (g i).d 4294967296],AV.bool false,int i64 (0:Int)],[]))):=by kernel_rfl
theorem Zn {n m i:Nat} {f g:Nat→Pl}:aK T CW [14,200029,200042] 60 [0,1,4,5] [part zZ [1,1,0,1,0,0]] ⟨aB [0,1,4,5] (Ez n m f g i),[],0⟩=
  let c4:Int:=(↑i:Int);let c3:AV:=aj 12 m fun i↦agg [agg [rat (g i).n.x 4294967296,rat (g i).n.y 4294967296,rat (g i).n.z 4294967296],rat (g i).d 4294967296];let c2:AV:=aj 12 n fun i↦agg [agg [rat (f i).n.x 4294967296,rat (f i).n.y 4294967296,rat (f i).n.z 4294967296],rat (f i).d 4294967296];let c8:Int:=c4+(1:Int);let c5:Prop:=(0:Int)≤c4;let c1:Nat:=c4.toNat;let c7:V3:=(f c1).n;let c6:V3:=(g c1).n;some (fork (decide (c4<(↑n:Int))) (ag [c5∧c1<n,c5∧c1<m,decide (c7.x=c6.x)=true,(bif true then decide (c7.y=c6.y)else false)=true,(!bif true then decide (c7.z=c6.z)else false)=false,c5∧c1<n,c5∧c1<m] (ag [(bif false then true else !decide ((f c1).d=(g c1).d))=false] (ag [-(2:Int)^63≤c8∧c8<(2:Int)^63] (leaf normal ([c2,c3,AV.bool false,int i64 c8],[]))))) (leaf (exit 0) ([c2,c3,AV.bool false,int i64 c4],[]))):=by kernel_rfl
theorem adL {n m i:Nat} {f g:Nat→Pl}:bW T CW [] 60 zE [part zZ [1,1,1]] ⟨aB [0,1,4,5] (Ez n m f g i),[],0⟩=
  some (leaf ret [AV.bool true]):=by kernel_rfl
theorem Vr:aX P CW:=cC (mq Fz o9)
theorem aci {n m:Nat} {f g:Nat→Pl} (hn:n<2^30) (hm2:n=m) (he:∀i,i<n→f i=g i) (K:Nat):aA P w8 K [eZ f n sU,eZ g m sU] [] (aI (.bool true) []):=by
 refine fK (r:=aI (.bool true) []) hT Vr hm QD rfl (of_decide_eq_true (by kernel_rfl)) rfl [1,1,0,1] (i:=0) (y:=part zZ [1,1,0,1,0,0]) (z:=part zZ [1,1,1]) (by kernel_rfl) (by kernel_rfl) (by kernel_rfl) (f1:=[200010]) (f2:=[14,200029,200042]) (f3:=[]) 60 [0,1,4,5] 0
  (fun i:Nat=>Ez n m f g i) (fun _=>[]) (fun i=>i≤n) (fun i=>i=n) (fun i=>n-i) (fun _=>⟨⟨_,T0,?_⟩,fun i h1=>⟨_,Zn,?_⟩,fun i h1=>⟨_,adL,?_⟩⟩) K []
 all_goals try simp only[aa.all,ax,decide_eq_true_eq,decide_eq_false_iff_not,Int.toNat_natCast]
 ·exact⟨bne_eq_false_iff_eq.2 (by omega),0,Nat.zero_le _,.vals rfl⟩
 ·refine⟨fun h=>?_,fun h=>⟨rfl,i,by omega,.vals rfl⟩⟩
  have e:=he i (by omega)
  exact⟨⟨by omega,by omega,by rw[e],decide_eq_true (congrArg (fun p:Pl=>p.n.y) e),congrArg (!·) (decide_eq_true (congrArg (fun p:Pl=>p.n.z) e)),by omega,by omega⟩,congrArg (!·) (decide_eq_true (congrArg (fun p:Pl=>p.d) e)),by omega,i+1,by omega,by dsimp only;omega,.vals rfl⟩
 ·exact .refl _
def MP:Spec:=cJ (kC (pI sU) (kC (pI sU) kN)) (fun _=>.bool true) fun a=>[a.1.1<2^30,a.1.1=a.2.1.1,∀i,i<a.1.1→a.1.2 i=a.2.1.2 i]
theorem SE:∀K args pre r,MP K args pre=some r→aA P w8 K args pre r:=cz fun _ K hn=>aci hn.1 hn.2.1 hn.2.2 K
noncomputable def Jr:aR:=nG::(Ak,Iy)::(w8,MP)::[]
theorem Ue {c d:Cu}:bC T Jr [100010,100017] 60 zy (au zy) ⟨aN 0 [bE c sU sU,bE d sU sU],[],0⟩=
  let c1:Prop:=0<1;some (ag [c1,c1,(c.p==d.p)=true,c1,c1,bP (fun i↦rat (c.k i) sU) c.n sU,bP (fun i↦rat (d.k i) sU) d.n sU,c.n<2^40,d.n<2^40,(bif true then yN c.n (fun i↦aT (rat (c.k i) sU)) d.n fun i↦aT (rat (d.k i) sU)else false)=true,c1,c1,eM (fun i↦bw (c.f i) sU) c.m sU,eM (fun i↦bw (d.f i) sU) d.m sU,c.m<2^30,c.m=d.m,∀(i:Nat),i<c.m→dP (bw (c.f i) sU)=dP (bw (d.f i) sU)] (leaf ret [AV.bool true])):=by kernel_rfl
theorem Ym:aX P Jr:=cC (aJ afY (aJ SE bn))
theorem XQ {n m:Nat} {f g:Nat→Rat} (h:n=m) (he:∀i,i<n→f i=g i):yN n f m g=true:=decide_eq_true ⟨h,he⟩
structure rD (c d:Cu):Prop where
 p:c.p=d.p
 n:c.n=d.n
 k:∀i,i<c.n→c.k i=d.k i
 m:c.m=d.m
 f:∀i,i<c.m→c.f i=d.f i
structure SfEq (s t:Sf):Prop where
 u:s.u=t.u
 v:s.v=t.v
 a:s.a=t.a
 ku:∀i,i<s.a→s.ku i=t.ku i
 b:s.b=t.b
 kv:∀i,i<s.b→s.kv i=t.kv i
 n:s.n=t.n
 m:s.m=t.m
 f:∀i j,i<s.n→j<s.m→s.f i j=t.f i j
theorem X0 {c d:Cu} (h:rD c d) (hn:c.n<2^30) (hm2:c.m<2^30) (K:Nat):aA P Ah K [bE c sU sU,bE d sU sU] [] (aI (.bool true) []):=by
 obtain⟨h1,h2,h3,h4,h5⟩:=h
 refine bF (r:=aI (.bool true) []) hT Ym hm adH rfl (of_decide_eq_true (by kernel_rfl)) rfl 60 Ue (fun _=>?_) K []
 simp only[aa.all,ax]
 exact⟨⟨by omega,by omega,beq_iff_eq.2 h1,by omega,by omega,cU (Nat.le_refl _),cU (Nat.le_refl _),by omega,by omega,XQ h2 h3,by omega,by omega,iB (Nat.le_refl _),iB (Nat.le_refl _),hm2,h4,h5⟩,.refl _⟩
def MF:Spec:=cJ (kC (gx sU sU) (kC (gx sU sU) kN)) (fun _=>.bool true) fun a=>[rD a.1 a.2.1,a.1.n<2^30,a.1.m<2^30]
theorem TF:∀K args pre r,MF K args pre=some r→aA P Ah K args pre r:=cz fun _ K hn=>X0 hn.1 hn.2.1 hn.2.2 K
end Go.Am.B

/- spline.Copied, shapes.clamped, shapes.Revolve. -/
namespace Go.Am.B
open Go Go.Am.N AV aa ak IntKind
theorem GH:aO P mO uM (au uM):=aP VC (by kernel_rfl) (by kernel_rfl) (by kernel_rfl)
abbrev jJ (y m:Nat) (k:Nat→Rat):ah:=⟨true,true,3,m,fun i=>.rat (k i) y⟩
noncomputable abbrev nO:Code:=au uM
abbrev ql:List Nat:=[3,9,10,11]
abbrev xw (x n:Nat) (k:Nat→Rat) (i:Nat):List AV:=[.own 0 3 0 i,aV k n x,.int .i64 n,.int .i64 i]
noncomputable def uV:aR:=nG::eU
theorem PY {x n:Nat} {k:Nat→Rat}:aK T uV [] 60 ql (before nO [1,1,0,1]) ⟨aN 0 [aV k n x],[],0⟩=
  let c1:Int:=(↑n:Int);some (ag [(0:Int)≤(0:Int)∧(0:Int)≤c1∧c1≤(2:Int)^47∧c1*(↑(56:Nat):Int)≤(2:Int)^47] (leaf normal ([own 12288 3 0 0,aj 3 n fun i↦rat (k i) x,int i64 c1,int i64 (0:Int)],[((12288:Nat),ah.mk true true 3 0 fun x↦rat 0 1)]))):=by kernel_rfl
theorem Ji {x y n i:Nat} {k:Nat→Rat}:aK T uV [12] 60 ql [part nO [1,1,0,1,0,0]] ⟨aB ql (xw x n k i),[(0,jJ y i k)],1⟩=
  let c4:Int:=(↑n:Int);let c2:AV:=aj 3 n fun i↦rat (k i) x;let c1:Int:=(↑i:Int);let c3:Int:=c1+(1:Int);some (fork (decide (c1<c4)) (ag [(0:Int)≤c1∧c1.toNat<n,(0:Nat)<1] (ag [(0:Nat)<1,x<2^42,(1:Nat)<2^42,(1:Nat)*3≤2^24,(i+1)*((56:Nat)+1)*2≤2^47] (ag [-(2:Int)^63≤c3∧c3<(2:Int)^63] (leaf normal ([own 40961 3 0 (i+1),c2,int i64 c4,int i64 c3],[((40961:Nat),ah.mk true true 3 (i+1) fun i_1↦if i_1<i then rat (k i_1) y else nth [rat (k c1.toNat+0) (x+1+1)] (rat 0 1) (i_1-i+0))]))))) (leaf (exit 0) ([own 0 3 0 i,c2,int i64 c4,int i64 c1],[((0:Nat),ah.mk true true 3 i fun i↦rat (k i) y)]))):=by kernel_rfl
theorem afe {x y n i:Nat} {k:Nat→Rat}:bW T uV [] 60 uM [part nO [1,1,1]] ⟨aB ql (xw x n k i),[(0,jJ y i k)],1⟩=
  some (leaf ret [aj 3 i fun i↦rat (k (i+0)) y]):=by kernel_rfl
theorem Gw:aX P uV:=cC fC
theorem Uc {x y n:Nat} {k:Nat→Rat} (hxy:x+10≤y) (hy:y<2^40) (hn:n<2^40) (K:Nat):aA P mO K [aV k n x] [] (aI (aV k n y) []):=by
 refine fK (r:=aI (aV k n y) []) hT Gw hm GH rfl (of_decide_eq_true (by kernel_rfl)) rfl [1,1,0,1] (i:=0) (y:=part nO [1,1,0,1,0,0]) (z:=part nO [1,1,1]) (by kernel_rfl) (by kernel_rfl) (by kernel_rfl) (f1:=[]) (f2:=[12]) (f3:=[]) 60 ql 1
  (fun i:Nat=>xw x n k i) (fun i=>[(0,jJ y i k)]) (fun i=>i≤n) (fun i=>i=n) (fun i=>n-i) (fun _=>⟨⟨_,PY,?_⟩,fun i hi=>⟨_,Ji,?_⟩,fun i hi=>⟨_,afe,?_⟩⟩) K []
 ·simp only[aa.all,ax]
  exact⟨by omega,0,Nat.zero_le _,[(0,12288)],rfl,rfl,rfl,aW rfl rfl rfl (fun i hi=>absurd hi (Nat.not_lt_zero i)) trivial⟩
 ·simp only[aa.all,ax,decide_eq_true_eq,decide_eq_false_iff_not,Int.toNat_natCast,Nat.add_zero]
  exact⟨fun h2=>⟨by omega,by omega,by omega,i+1,by omega,by dsimp only;omega,[(0,40961)],rfl,rfl,rfl,aW rfl rfl rfl (fun j hj=>lZ (fun _ _=>rfl) (Rat.add_zero _) (Nat.le_refl _) (by omega) hj) trivial⟩,fun h2=>⟨rfl,i,by omega,[(0,0)],rfl,rfl,rfl,aW rfl rfl rfl (fun j hj=>aD rfl rfl) trivial⟩⟩
 ·subst hi
  simp only[aa.all,ax]
  exact qU rfl fun j hj=>rfl
def Fa (x y:Nat):Spec:=cJ (kC (kL x) kN) (fun a=>aV a.1.2 a.1.1 y) fun a=>[x+10≤y,y<2^40,a.1.1<2^40]
theorem MN (x y:Nat):∀K args pre r,Fa x y K args pre=some r→aA P mO K args pre r:=cz fun⟨⟨n,k⟩,_⟩ K hn=>Uc hn.1 hn.2.1 hn.2.2 K
end Go.Am.B

/- shapes.Revolve. -/
namespace Go.Am.B
open Go Go.Am.N AV aa ak IntKind
end Go.Am.B

/- slices.EqualFunc of numbers; g8.Move. -/
namespace Go.Am.B
open Go Go.Am.N AV aa ak IntKind
theorem FX:aO P mM zW (au zW):=aP UC (by kernel_rfl) (by kernel_rfl) (by kernel_rfl)
noncomputable def Ef:aR:=[(DV,fW T eU [] 60 DX),(NQ,fW T eU [] 60 OY)]
noncomputable def L7:aR:=[(GC,fW T Ef [] 60 FW),(OR,fW T Ef [] 60 Lf)]
noncomputable def Hs:aR:=[(Pr,fW T L7 [] 60 JC)]
noncomputable def Bo (x y:Nat):aR:=nG::(mO,Fa x y)::(Hs++eU)
abbrev lp:List Nat:=[3,4,5,15,16,17]
abbrev th (c:Cu) (r i:Nat):List AV:=[.ptr 1 0 36 0 [],.ptr 2 0 3 0 [],.ptr 3 0 3 0 [],eZ c.f c.m r,.int .i64 c.m,.int .i64 i]
abbrev FM (c:Cu) (m:Mp) (y w s i:Nat):aC:=[(4,⟨true,true,12,i,fun j=>bw (gT m (c.f j)) w⟩),(3,⟨false,true,3,1,fun _=>.agg [.int .i64 c.p,aV c.k c.n y,.own 4 12 0 i]⟩),(2,⟨false,true,3,1,fun _=>.agg [.int .i64 0,.nil,.nil]⟩),(1,⟨false,true,36,1,fun _=>fh m s⟩)]
noncomputable abbrev lS:Code:=au zW
theorem abe {x y r s:Nat} {c:Cu} {m:Mp}:aK T (Bo x y) [] 60 lp (before lS [1,1,0,1]) ⟨aN 0 [bE c x r,fh m s],[],0⟩=
  let c2:Prop:=0<1;let c1:AV:=agg [int i64 (0:Int),nil,nil];some (ag [c2,c2,bP (fun i↦rat (c.k i) x) c.n x,x+10≤y,y<2^40,c.n<2^40,c2] (ag [c2] (leaf normal ([ptr 4096 0 (aU (fh m s)).size 0 [],ptr 8192 0 3 0 [],ptr 36864 0 3 0 [],aj 12 c.m fun i↦agg [agg [rat (c.f i).n.x r,rat (c.f i).n.y r,rat (c.f i).n.z r],rat (c.f i).d r],int i64 (↑c.m:Int),int i64 (0:Int)],[((36864:Nat),ah.mk false true 3 1 fun j↦if(j==0)=true then aU (agg ((c1.kids.set 0 (aU (int i64 c.p))).set 1 (aU (aV (fun i↦aT (rat (c.k i) x)) c.n y))))else c1),((8192:Nat),ah.mk false true 3 1 fun x↦c1),((4096:Nat),ah.mk false true (aU (fh m s)).size 1 fun x↦agg [agg [agg [rat m.m.a.x s,rat m.m.a.y s,rat m.m.a.z s],agg [rat m.m.b.x s,rat m.m.b.y s,rat m.m.b.z s],agg [rat m.m.c.x s,rat m.m.c.y s,rat m.m.c.z s]],agg [rat m.t.x s,rat m.t.y s,rat m.t.z s]])])))):=by kernel_rfl
theorem St {x y r s w i:Nat} {c:Cu} {m:Mp}:aK T (Bo x y) [18] 60 lp [part lS [1,1,0,1,0,0]] ⟨aB lp (th c r i),FM c m y w s i,5⟩=
  let c25:Int:=(↑c.m:Int);let c24:Int:=(↑(3:Nat):Int);let c20:AV:=own 4 12 0 i;let c19:AV:=ptr 2 0 3 0 [];let c18:AV:=ptr 3 0 3 0 [];let c17:AV:=ptr 1 0 36 0 [];let c15:AV:=rat 0 1;let c14:Int:=(↑i:Int);let c12:Nat:=1+(s+r)+1;let c11:Int:=i64.wrap ((0:Int)+(1:Int));let c9:AV:=aj 12 c.m fun i↦agg [agg [rat (c.f i).n.x r,rat (c.f i).n.y r,rat (c.f i).n.z r],rat (c.f i).d r];let c6:List (Nat×ah):=[((2:Nat),ah.mk false true 3 1 fun x↦agg [int i64 (0:Int),nil,nil]),((1:Nat),ah.mk false true 36 1 fun x↦agg [agg [agg [rat m.m.a.x s,rat m.m.a.y s,rat m.m.a.z s],agg [rat m.m.b.x s,rat m.m.b.y s,rat m.m.b.z s],agg [rat m.m.c.x s,rat m.m.c.y s,rat m.m.c.z s]],agg [rat m.t.x s,rat m.t.y s,rat m.t.z s]])];let c4:Nat:=2^42;let c1:Prop:=0<1;let c28:Int:=i64.wrap (c11+(1:Int));let c27:Int:=c14+(1:Int);let c26:Prop:=r<c4;let c23:Prop:=s<c4;let c22:Prop:=1<c4;let c16:Prop:=s+r<c4;let c13:AV:=agg [int i64 c.p,aV c.k c.n y,c20];let c8:V3:=(c.f c14.toNat).n;let c7:Nat:=c12+(s+r)+1;let c5:Prop:=(0:Int)≤(0:Int)∧(0:Int)<c24;let c3:Prop:=(0:Int)≤c11∧c11<c24;let c10:Nat:=c7+(s+r)+1;let c2:Prop:=(0:Int)≤c28∧c28<c24;let c21:Nat:=c10+s+1;some (fork (decide (c14<c25)) (ag [(0:Int)≤c14∧c14.toNat<c.m,c1] (ag [c1,c1,c1,c1,c1,c1,c5,c1,c1,c1,c1,c5,c1,c5,c1,c23,c26,c22,c16,c1,c1,c3,c1,c3,c1,c23,c26,c12<c4,c16,c1,c1,c2,c1,c2,c1,c23,c26,c7<c4,c16,c1,c1,c1,c1,c5,c1,c3,c1,c1,c1,c1,c5,c1,c5,c1,c23,c26,c22,c16,c1,c1,c3,c1,c3,c1,c23,c26,c12<c4,c16,c1,c1,c2,c1,c2,c1,c23,c26,c7<c4,c16,c1,c1,c1,c1,c3,c1,c2,c1,c1,c1,c1,c5,c1,c5,c1,c23,c26,c22,c16,c1,c1,c3,c1,c3,c1,c23,c26,c12<c4,c16,c1,c1,c2,c1,c2,c1,c23,c26,c7<c4,c16,c1,c1,c1,c1,c2,c1,c1,c1,c1,c1,c1,c1,c5,c1,c5,c1,c10<c4,c23,c5,c1,c3,c1,c3,c1,c10<c4,c23,c3,c1,c2,c1,c2,c1,c10<c4,c23,c2,c1,c1,c1,c1,c1,c1,c1,c1,c1,c26,c22,(1:Nat)*12≤2^24,(i+1)*((224:Nat)+1)*2≤2^47,c1] (ag [-(2:Int)^63≤c27∧c27<(2:Int)^63] (leaf normal ([c17,c19,c18,c9,int i64 c25,int i64 c27],((69637:Nat),ah.mk true true 12 (i+1) fun i_1↦if i_1<i then bw (gT m (c.f i_1)) w else nth [agg [agg [rat ((0:Rat)+m.m.a.x*c8.x+m.m.a.y*c8.y+m.m.a.z*c8.z+m.t.x) c21,rat ((0:Rat)+m.m.b.x*c8.x+m.m.b.y*c8.y+m.m.b.z*c8.z+m.t.y) c21,rat ((0:Rat)+m.m.c.x*c8.x+m.m.c.y*c8.y+m.m.c.z*c8.z+m.t.z) c21],rat ((c.f c14.toNat).d+0) (r+1+1)]] (agg [agg [c15,c15,c15],c15]) (i_1-i+0))::((3:Nat),ah.mk false true 3 1 fun j↦if(j==0)=true then agg (c13.kids.set 2 (aU (own (nat_lit 69636+1) 12 0 (i+1))))else c13)::c6))))) (leaf (exit 0) ([c17,c19,c18,c9,int i64 c25,int i64 c14],((4:Nat),ah.mk true true 12 i fun j↦agg [agg [rat (eu m.m.a (c.f j).n m.t.x) w,rat (eu m.m.b (c.f j).n m.t.y) w,rat (eu m.m.c (c.f j).n m.t.z) w],rat (c.f j).d w])::((3:Nat),ah.mk false true 3 1 fun x↦agg [int i64 c.p,aj 3 c.n fun i↦rat (c.k i) y,c20])::c6))):=by kernel_rfl
theorem XB {x y r s w i:Nat} {c:Cu} {m:Mp}:bW T (Bo x y) [] 60 zW [part lS [1,1,1]] ⟨aB lp (th c r i),FM c m y w s i,5⟩=
  let c1:Prop:=0<1;some (ag [c1,c1] (ag [c1] (leaf ret [agg [int i64 c.p,aj 3 c.n fun i↦rat (c.k i) y,aj 12 i fun i↦agg [agg [rat (eu m.m.a (c.f (i+0)).n m.t.x) w,rat (eu m.m.b (c.f (i+0)).n m.t.y) w,rat (eu m.m.c (c.f (i+0)).n m.t.z) w],rat (c.f (i+0)).d w]]]))):=by kernel_rfl
theorem JH:aX P Ef:=aJ (gj hT fC hm (aP MH (by kernel_rfl) (by kernel_rfl) (by kernel_rfl)) _ _) (aJ (gj hT fC hm (aP afG (by kernel_rfl) (by kernel_rfl) (by kernel_rfl)) _ _) bn)
theorem aj9:aX P L7:=aJ (gj hT JH hm (aP N9 (by kernel_rfl) (by kernel_rfl) (by kernel_rfl)) _ _) (aJ (gj hT JH hm (aP Se (by kernel_rfl) (by kernel_rfl) (by kernel_rfl)) _ _) bn)
theorem Np:aX P Hs:=aJ (gj hT aj9 hm (aP ajp (by kernel_rfl) (by kernel_rfl) (by kernel_rfl)) _ _) bn
theorem ac3 {x y:Nat}:aX P (Bo x y):=cC (aJ (MN x y) (mq Np fC))
theorem JA {rl:List (Nat×Nat)} {c:Cu} {y a i:Nat} (h:aS rl 4=some a):fc rl (.agg [.int .i64 c.p,aV c.k c.n y,.own a 12 0 i]) (.agg [.int .i64 c.p,aV c.k c.n y,.own 4 12 0 i]):=
 gv ⟨⟨rfl,aG rfl⟩,⟨rfl,aG rfl⟩,⟨rfl,bY h rfl rfl⟩,trivial⟩
theorem H7 (m:Mp) (s:Nat):(aU (fh m s)).size=36:=by kernel_rfl
theorem YZ {x y r s w:Nat} {c:Cu} {m:Mp} (hx:x+10≤y) (hy:y<2^40) (hw:4*s+3*r+10≤w) (hw2:w<2^40) (hn:c.n<2^30) (hm2:c.m<2^30) (K:Nat):aA P mM K [bE c x r,fh m s] [] (aI (bE (rE m c) y w) []):=by
 refine fK (r:=aI (bE (rE m c) y w) []) hT (ac3 (x:=x) (y:=y)) hm FX rfl (of_decide_eq_true (by kernel_rfl)) rfl [1,1,0,1] (i:=0) (y:=part lS [1,1,0,1,0,0]) (z:=part lS [1,1,1]) (by kernel_rfl) (by kernel_rfl) (by kernel_rfl) (f1:=[]) (f2:=[18]) (f3:=[]) 60 lp 5
  (fun i:Nat=>th c r i) (fun i=>FM c m y w s i) (fun i=>i≤c.m) (fun i=>i=c.m) (fun i=>c.m-i) (fun _=>⟨⟨_,abe,?_⟩,fun i hi=>⟨_,St,?_⟩,fun i hi=>⟨_,XB,?_⟩⟩) K []
 ·simp only[aa.all,ax]
  rw[H7 m s]
  exact⟨⟨by omega,by omega,cU (Nat.le_refl _),by omega,by omega,by omega,by omega⟩,by omega,0,Nat.zero_le _,[(1,4096),(2,8192),(3,36864)],rfl,rfl,rfl,jy rfl (by omega) (by omega) (aF rfl rfl (gv ⟨⟨rfl,aG rfl⟩,⟨rfl,aG rfl⟩,⟨rfl,me (by omega)⟩,trivial⟩) (aF rfl rfl (aD rfl rfl) (aF rfl rfl (aD rfl rfl) trivial)))⟩
 ·set_option maxRecDepth 10000 in simp only[aa.all,ax,decide_eq_true_eq,decide_eq_false_iff_not,Int.toNat_natCast,Nat.add_zero]
  refine⟨fun h=>?_,fun h=>⟨rfl,i,by omega,[(1,1),(2,2),(3,3),(4,4)],rfl,rfl,rfl,aW rfl rfl rfl (fun _ _=>aD rfl rfl) (aF rfl rfl (JA rfl) (aF rfl rfl (aD rfl rfl) (aF rfl rfl (aD rfl rfl) trivial)))⟩⟩
  have w1:i64.wrap (0+1)=1:=by decide
  have w2:i64.wrap (i64.wrap (0+1)+1)=2:=by decide
  rw[w2,w1]
  refine⟨by omega,?_,by omega,i+1,by omega,by dsimp only;omega,[(1,1),(2,2),(3,3),(4,69637)],rfl,rfl,rfl,aW rfl rfl rfl (fun k hk=>oB (y:=fun j=>gT m (c.f j)) (fun _ _=>rfl) (s':=w) ?_ rfl (Nat.le_refl _) (Nat.le_refl _) hk) (aF rfl rfl (JA rfl) (aF rfl rfl (aD rfl rfl) (aF rfl rfl (aD rfl rfl) trivial)))⟩
  ·(repeat' with_reducible refine And.intro ?_ ?_)<;>omega
  ·exact bQ ⟨bQ ⟨bp rfl (by omega),bp rfl (by omega),bp rfl (by omega),trivial⟩,bp (Rat.add_zero _) (by omega),trivial⟩
 ·subst hi
  simp only[aa.all,ax]
  exact⟨by omega,by omega,.refl _⟩
end Go.Am.B
