/- knots.Times, ref08.Times; knots.copied. -/
import Derived.Test.YtppeigelbecpbaaGreatY45
import Derived.Test.YtppeigelbecpbaaGreatC8
import Derived.Test.YtppeigelbecpbaaGreatZ2
import Derived.Test.YtppeigelbecpbaaGreatC2
set_option linter.unusedVariables false
namespace Go.Am.B
open Go Go.Am.N AV aa ah IntKind
theorem KR:aN P oA ve (au ve):=aO Yv (by kernel_rfl) (by kernel_rfl) (by kernel_rfl)
theorem Bo:aN P lV s9 (au s9):=aO LX (by kernel_rfl) (by kernel_rfl) (by kernel_rfl)
abbrev qQ:List Nat:=[3,5,8,9,10]
abbrev uL (n:Nat) (k:Nat→Rat) (c i:Nat):List AV:=[.ptr 0 0 3 0 [],.int .i64 c,ls k n,.int .i64 n,.int .i64 i]
noncomputable abbrev vW:Code:=au ve
abbrev sJ:Nat:=4000
abbrev eB (m:Nat) (k:Nat→Rat):ak:=⟨true,true,3,m,fun i=>.rat (k i) sK⟩
abbrev uI:List Nat:=[3,9,10,11]
abbrev Aq (n:Nat) (k:Nat→Rat) (i:Nat):List AV:=[.own 0 3 0 i,bM k n sJ,.int .i64 n,.int .i64 i]
noncomputable abbrev jG:Code:=au s9
theorem Lr {n:Nat} {k:Nat→Rat} {t:Rat}:aJ T fh [] 60 qQ (before vW [1,1,0,1]) ⟨aM 0 [ls k n,.rat t sK],[],0⟩=
  some (leaf normal ([ptr 0 0 (bH (rat t sK)).size 0 [],int i64 (0:Int),aq 3 n fun i↦rat (k i) 4096,int i64 (↑n:Int),int i64 (0:Int)],[((0:Nat),ak.mk false true (bH (rat t sK)).size 1 fun x↦rat t 4096)])):=by kernel_rfl
theorem V0 {n c i:Nat} {k:Nat→Rat} {t:Rat}:aJ T fh [11,16] 60 qQ [part vW [1,1,0,1,0,0]] ⟨aD qQ (uL n k c i),[(0,tP t sK)],1⟩=
  let c10:Int:=(↑n:Int);let c9:Prop:=0<1;let c8:Int:=(↑c:Int)+(1:Int);let c7:AV:=aq 3 n fun i↦rat (k i) 4096;let c5:Int:=(↑i:Int);let c4:AV:=ptr 0 0 3 0 [];let c2:Int:=(2:Int)^63;let c1:Nat×ak:=((0:Nat),ak.mk false true 3 1 fun x↦rat t 4096);let c6:Int:=c5+(1:Int);let c3:List AV:=[c7,int i64 c10,int i64 c6];some (fork (decide (c5<c10)) (ag [(0:Int)≤c5∧c5.toNat<n,c9] (ag [c9,c9] (fork (decide (k c5.toNat=t)) (ag [-c2≤c8∧c8<c2] (ag [-c2≤c6∧c6<c2] (leaf normal (c4::int i64 c8::c3,[c1])))) (ag [-c2≤c6∧c6<c2] (leaf normal (c4::int i64 (↑c:Int)::c3,[c1])))))) (leaf (exit 0) ([c4,int i64 (↑c:Int),c7,int i64 c10,int i64 c5],[c1]))):=by kernel_rfl
theorem I0 {n c i:Nat} {k:Nat→Rat} {t:Rat}:b7 T fh [] 60 ve [part vW [1,1,1]] ⟨aD qQ (uL n k c i),[(0,tP t sK)],1⟩=
  some (leaf ret [int i64 (↑c:Int)]):=by kernel_rfl
theorem Qn {n:Nat} {k:Nat→Rat}:aJ T fh [] 60 uI (before jG [1,1,0,1]) ⟨aM 0 [bM k n sJ],[],0⟩=
  let c1:Int:=(↑n:Int);some (ag [(0:Int)≤(0:Int)∧(0:Int)≤c1∧c1≤(2:Int)^47∧c1*(↑(56:Nat):Int)≤(2:Int)^47] (leaf normal ([own 12288 3 0 0,aq 3 n fun i↦rat (k i) 4000,int i64 c1,int i64 (0:Int)],[((12288:Nat),ak.mk true true 3 0 fun x↦rat 0 1)]))):=by kernel_rfl
theorem QX {n i:Nat} {k:Nat→Rat}:aJ T fh [12] 60 uI [part jG [1,1,0,1,0,0]] ⟨aD uI (Aq n k i),[(0,eB i k)],1⟩=
  let c4:Int:=(↑n:Int);let c2:AV:=aq 3 n fun i↦rat (k i) 4000;let c1:Int:=(↑i:Int);let c3:Int:=c1+(1:Int);some (fork (decide (c1<c4)) (ag [(0:Int)≤c1∧c1.toNat<n,(0:Nat)<1] (ag [(0:Nat)<1,(1:Nat)*3≤2^24,(i+1)*((56:Nat)+1)*2≤2^47] (ag [-(2:Int)^63≤c3∧c3<(2:Int)^63] (leaf normal ([own 40961 3 0 (i+1),c2,int i64 c4,int i64 c3],[((40961:Nat),ak.mk true true 3 (i+1) fun i_1↦if i_1<i then rat (k i_1) sK else nth [rat (k c1.toNat+0) (sJ+1+1)] (rat 0 1) (i_1-i+0))]))))) (leaf (exit 0) ([own 0 3 0 i,c2,int i64 c4,int i64 c1],[((0:Nat),ak.mk true true 3 i fun i↦rat (k i) 4096)]))):=by kernel_rfl
theorem Sw {n i:Nat} {k:Nat→Rat}:aJ T fh [] 60 [2] [part jG [1,1,1]] ⟨aD uI (Aq n k i),[(0,eB i k)],1⟩=
  some (leaf ret ([own 0 3 0 i],[((0:Nat),ak.mk true true 3 i fun i↦rat (k i) 4096)])):=by kernel_rfl
theorem PV {k:Nat→Rat} {t:Rat} {i:Nat} (h:k i=t):de k t (i+1)=de k t i+1:=by rw[de,if_pos h]
theorem Uq {k:Nat→Rat} {t:Rat} {i:Nat} (h:¬k i=t):de k t (i+1)=de k t i:=by rw[de,if_neg h];rfl
theorem Vj {n:Nat} {k:Nat→Rat} {t:Rat} (hn:n<2^40) (K:Nat):aB P oA K [ls k n,.rat t sK] [] (aG (.int .i64 (de k t n)) []):=by
 refine gJ (r:=aG (.int .i64 (de k t n)) []) hT iL hm KR rfl (of_decide_eq_true (by kernel_rfl)) rfl [1,1,0,1] (i:=0) (y:=part vW [1,1,0,1,0,0]) (z:=part vW [1,1,1]) (by kernel_rfl) (by kernel_rfl) (by kernel_rfl) (f1:=[]) (f2:=[11,16]) (f3:=[]) 60 qQ 1
  (fun i:Nat=>uL n k (de k t i) i) (fun _=>[(0,tP t sK)]) (fun i=>i≤n) (fun i=>i=n) (fun i=>n-i) (fun _=>⟨⟨_,Lr,?_⟩,fun i hi=>⟨_,V0,?_⟩,fun i hi=>⟨_,I0,?_⟩⟩) K []
 ·simp only[aa.all,az]
  exact⟨0,Nat.zero_le _,[(0,0)],rfl,rfl,rfl,bk rfl rfl (aP rfl rfl) trivial⟩
 ·have h1:=Dd (k:=k) (t:=t) (n:=i)
  simp only[aa.all,az,decide_eq_true_eq,decide_eq_false_iff_not,Int.toNat_natCast,Nat.add_zero]
  refine⟨fun h2=>⟨by omega,by omega,fun h3=>⟨by omega,by omega,i+1,by omega,by dsimp only;omega,[(0,0)],rfl,?_,rfl,bk rfl rfl (aP rfl rfl) trivial⟩,fun h3=>⟨by omega,i+1,by omega,by dsimp only;omega,[(0,0)],rfl,?_,rfl,bk rfl rfl (aP rfl rfl) trivial⟩⟩,fun h2=>⟨rfl,i,by omega,[(0,0)],rfl,rfl,rfl,bk rfl rfl (aP rfl rfl) trivial⟩⟩
  ·show _=(uL n k (de k t (i+1)) (i+1)).map _
   rw[PV h3];rfl
  ·show _=(uL n k (de k t (i+1)) (i+1)).map _
   rw[Uq h3];rfl
 ·subst hi
  simp only[aa.all,az]
  exact .refl _
abbrev TT:nB ((Nat×(Nat→Rat))×Rat×Unit):=kC (kL sK) (kC (jo sK) kN)
noncomputable def A6:Spec:=cS TT (fun a=>.int .i64 (de a.1.2 a.2.1 a.1.1)) fun a=>[a.1.1<2^40]
theorem Dz:∀K args pre r,A6 K args pre=some r→aB P oA K args pre r:=cZ fun⟨⟨n,k⟩,t,_⟩ K hn=>Vj hn K
theorem Xg {args:List AV} {n:Nat} {k:Nat→Rat} {l:List Prop} (ha:az l→eE (bf []) args [bM k n sJ]) (hn:az l→n<2^40) (K:Nat):aB P lV K args [] ⟨iZ [.own K 3 0 n],[(K,eB n k)],l⟩:=by
 refine HR hT Bo ha (of_decide_eq_true (by kernel_rfl)) fun need c hk=>?_
 have hn:=hn need
 refine aj.rj hT iL hm [1,1,0,1] (i:=0) (y:=part jG [1,1,0,1,0,0]) (z:=part jG [1,1,1]) (by kernel_rfl) (by kernel_rfl) (by kernel_rfl) Bo.dst hk (f1:=[]) (f2:=[12]) 60 uI 1 (fun i:Nat=>Aq n k i) (fun i=>[(0,eB i k)])
  (fun i=>i≤n) (fun i=>i=n) (fun i=>n-i) (fun _=>False) ⟨_,Qn,?_⟩ (fun i hi=>⟨_,QX,?_⟩) (fun i hi=>?_) (fun _ _ h=>h.elim)
 ·simp only[aa.all,az]
  exact⟨by omega,0,Nat.zero_le _,[(0,12288)],rfl,rfl,rfl,bF rfl rfl rfl (fun i hi=>absurd hi (Nat.not_lt_zero i)) trivial⟩
 ·simp only[aa.all,az,decide_eq_true_eq,decide_eq_false_iff_not,Int.toNat_natCast,Nat.add_zero]
  exact⟨fun h2=>⟨by omega,by omega,by omega,i+1,by omega,by dsimp only;omega,[(0,40961)],rfl,rfl,rfl,bF rfl rfl rfl (fun j hj=>qW (fun _ _=>rfl) (Rat.add_zero _) (Nat.le_refl _) (by decide) hj) trivial⟩,fun h2=>⟨rfl,i,by omega,[(0,0)],rfl,rfl,rfl,bF rfl rfl rfl (fun j hj=>aP rfl rfl) trivial⟩⟩
 ·subst hi
  refine aj.aV hT iL hm 60 [2] Sw (by kernel_rfl) fun s' hs'=>⟨.inr rfl,[2],_,[.own 0 3 0 i],_,0,_,hs',by kernel_rfl,⟨⟨rfl,ct (by simp[bf,look]) rfl rfl⟩,trivial⟩,rfl,gW rfl fun i hi=>aF rfl⟩
noncomputable def Hg:Spec:=qU fun K l=>match l with
 |[v]=>match(kL sJ).read v with
  |some ((n,k),q)=>some ⟨.own K 3 0 n,[(K,eB n k)],q++[n<2^40]⟩
  |none=>none
 |_=>none
theorem YH:∀K args pre r,Hg K args pre=some r→aB P lV K args pre r:=by
 refine AM fun K args r hk hs=>?_
 split at hs
 ·rename_i v
  split at hs
  ·rename_i n k q hv
   simp only[Option.some.injEq]at hs
   subst hs
   exact Xg (fun hn=>AT hk (by cases v<;>first|rfl|simp[kL,wW]at hv) ⟨(kL sJ).ok hv (dA.1 hn).1,trivial⟩) (fun hn=>(dA (a:=q) (b:=[n<2^40]).1 hn).2) K
  ·simp at hs
 ·simp at hs
end Go.Am.B

/- slices.CompactFunc of numbers; knots.Distinct. -/
namespace Go.Am.B
open Go Go.Am.N AV aa ah IntKind
theorem Iz:aN P xg v7 (au v7):=aO VG (by kernel_rfl) (by kernel_rfl) (by kernel_rfl)
theorem T3:aN P tL sq (au sq):=aO KS (by kernel_rfl) (by kernel_rfl) (by kernel_rfl)
noncomputable abbrev oE:Func:=v7
noncomputable abbrev ud:Code:=au oE
noncomputable abbrev oo:Code:=part ud [1,1,0,1,0,0]
noncomputable abbrev pG:Code:=part oo [1,0,0]
noncomputable abbrev lO:Code:=part pG [1,0]
abbrev gU:List Nat:=[4,0,1,5]
abbrev sL (n i:Nat):List AV:=[.nil,.own 0 3 0 n,.func fk [],.int .i64 i]
abbrev wA:List Nat:=[4,0,1,5,28]
abbrev Au (n i:Nat) (b:Bool):List AV:=[.nil,.own 0 3 0 n,.func fk [],.int .i64 i,.bool b]
abbrev vZ:List Nat:=[4,0,1,5,6,7]
abbrev oH (n m b j:Nat):List AV:=[.nil,.own 0 3 0 n,.func fk [],.int .i64 m,.own 0 3 b (n-b),.int .i64 j]
theorem Zf {n:Nat} {k:Nat→Rat}:aJ T fh [10] 60 gU (before ud [1,1,0,1]) ⟨aM 0 [.own 0 3 0 n,.func fk []],[(0,eB n k)],1⟩=
  let c2:Nat×ak:=((0:Nat),ak.mk true true 3 n fun i↦rat (k i) 4096);let c1:AV:=own 0 3 0 n;some (fork (decide ((↑n:Int)<(2:Int))) (leaf ret ([c1,c1,func fk [],tuple []],[c2])) (leaf normal ([nil,c1,func fk [],int i64 (1:Int)],[c2]))):=by kernel_rfl
theorem K8 {n i:Nat} {k:Nat→Rat}:aJ T fh [15] 60 gU (before oo [1,0]) ⟨aD gU (sL n i),[(0,eB n k)],1⟩=
  let c1:List AV×aA:=([nil,own 0 3 0 n,func fk [],int i64 (↑i:Int)],[((0:Nat),ak.mk true true 3 n fun i↦rat (k i) 4096)]);some (fork (decide ((↑i:Int)<(↑n:Int))) (leaf normal c1) (leaf (exit 0) c1)):=by kernel_rfl
theorem Vg {n i:Nat} {k:Nat→Rat}:aJ T fh [] 60 wA (before pG [1]) ⟨aD gU (sL n i),[(0,eB n k)],1⟩=
  let c4:Int:=(↑i:Int);let c2:Nat:=c4.toNat+0;let c1:Int:=c4-(1:Int);let c3:Nat:=c1.toNat+0;some (ag [(0:Int)≤c4∧c4.toNat<n,c2<n,-(2:Int)^63≤c1∧c1<(2:Int)^63,(0:Int)≤c1∧c1.toNat<n,c3<n] (leaf normal ([nil,own 0 3 0 n,func fk [],int i64 c4,AV.bool (decide (k c2=k c3))],[((0:Nat),ak.mk true true 3 n fun i↦rat (k i) 4096)]))):=by kernel_rfl
theorem QU {n i:Nat} {b:Bool} {k:Nat→Rat}:aJ T fh [] 60 vZ (before lO [1,0,1]) ⟨aD wA (Au n i b),[(0,eB n k)],1⟩=
  let c2:Int:=(↑i:Int);let c1:Int:=(↑n:Int);some (ag [(0:Int)≤c2∧c2≤c1∧c1≤c1∧c1≤c1] (leaf normal ([nil,own 0 3 0 n,func fk [],int i64 c2,own 0 3 ((0:Nat)+c2.toNat) (c1.toNat-c2.toNat),int i64 (1:Int)],[((0:Nat),ak.mk true true 3 n fun i↦rat (k i) 4096)]))):=by kernel_rfl
theorem LK {n m b j:Nat} {k:Nat→Rat}:aJ T fh [35,49] 60 vZ [part lO [1,0,1,0,0]] ⟨aD vZ (oH n m b j),[(0,eB n k)],1⟩=
  let c11:AV:=func fk [];let c7:AV:=own 0 3 b (n-b);let c6:Nat×ak:=((0:Nat),ak.mk true true 3 n fun i↦rat (k i) 4096);let c5:Int:=(↑m:Int);let c4:AV:=own 0 3 0 n;let c2:Int:=(2:Int)^63;let c1:Int:=(↑j:Int);let c13:Int:=c5+(1:Int);let c12:Prop:=(0:Int)≤c1∧c1.toNat<n-b;let c10:Nat:=c5.toNat+0;let c9:Nat:=c1.toNat+b;let c8:Int:=c1+(1:Int);let c3:Int:=c1-(1:Int);some (fork (decide (c1<(↑(n-b):Int))) (ag [c12,c9<n,-c2≤c3∧c3<c2,(0:Int)≤c3∧c3.toNat<n-b,c3.toNat+b<n] (fork (!decide (k c9=k (c3.toNat+b))) (ag [c12,c9<n,(0:Int)≤c5∧c5.toNat<n,c10<n] (ag [-c2≤c13∧c13<c2] (ag [-c2≤c8∧c8<c2] (leaf normal ([nil,c4,c11,int i64 c13,c7,int i64 c8],[((0:Nat),ak.mk true true 3 n fun j↦rat (bif j==c10 then k c9 else k j) (bif j==c10 then sK else sK))]))))) (ag [-c2≤c8∧c8<c2] (leaf normal ([nil,c4,c11,int i64 c5,c7,int i64 c8],[c6]))))) (leaf (exit 2) ([nil,c4,c11,int i64 c5,c7,int i64 c1],[c6]))):=by kernel_rfl
theorem XH {n m b j:Nat} {k:Nat→Rat}:aJ T fh [] 60 gU [part lO [1,1]] ⟨aD vZ (oH n m b j),[(0,eB n k)],1⟩=
  let c4:Int:=(↑n:Int);let c2:Int:=(↑m:Int);let c3:Nat:=0+c2.toNat;let c1:Nat:=c3+(c4.toNat-c2.toNat);some (ag [(0:Int)≤c2∧c2≤c4∧c4≤c4∧c4≤c4] (ag [(0:Int)≤(0:Int)∧(0:Int)≤c2∧c2≤c2∧c2≤c4] (leaf ret ([own 0 3 0 (c2.toNat-Int.toNat (0:Int)),own 0 3 0 n,func fk [],int i64 c2],[((0:Nat),ak.mk true true 3 n fun i↦if c3≤i∧i<c1 then rat 0 1 else rat (k i) sK)])))):=by kernel_rfl
theorem IJ {n i:Nat} {b:Bool} {k:Nat→Rat}:aJ T fh [] 60 gU [part pG [1,1],part oo [1,1]] ⟨aD wA (Au n i b),[(0,eB n k)],1⟩=
  let c1:Int:=(↑i:Int)+(1:Int);some (ag [-(2:Int)^63≤c1∧c1<(2:Int)^63] (leaf normal ([nil,own 0 3 0 n,func fk [],int i64 c1],[((0:Nat),ak.mk true true 3 n fun i↦rat (k i) 4096)]))):=by kernel_rfl
theorem QK {n i:Nat} {k:Nat→Rat}:aJ T fh [] 60 gU [part ud [1,1,1]] ⟨aD gU (sL n i),[(0,eB n k)],1⟩=
  let c1:AV:=own 0 3 0 n;some (leaf ret ([c1,c1,func fk [],int i64 (↑i:Int)],[((0:Nat),ak.mk true true 3 n fun i↦rat (k i) 4096)])):=by kernel_rfl
def iX (k:Nat→Rat) (n i:Nat):Rat:=if i<bB k n then cL k n i else 0
theorem LB {k:Nat→Rat} {n:Nat} (h:∀j,j<n→fe k j) {i:Nat} (hi:i<n):bB k n=n∧iX k n i=k i:=by
 obtain⟨h1,h2⟩:=DF h
 unfold iX
 rw[h1,if_pos hi]
 exact⟨rfl,h2 i hi⟩
theorem We {kk n:Nat} {k:Nat→Rat} (hn:n<2^40) (c:Ctx) (hk:Kept [0] c):aj P c oE.ntmps ud ⟨aM 0 [.own 0 3 0 n,.func fk []],[(0,eB n k)],1⟩ (B5 oE kk [.own kk 3 0 (bB k n)] (eB n (iX k n))):=by
 have hall:∀{L:List Nat} {us:List AV},(∀j,j<n→fe k j)→jg (aD L us) oE.results.toList=some [.own 0 3 0 n]→yh oE kk [.own kk 3 0 (bB k n)] (eB n (iX k n)) L (us,[(0,eB n k)]):=fun h1 h2=>
  ⟨_,_,h2,⟨⟨rfl,ct (by simp[bf,look]) rfl (DF h1).1.symm⟩,trivial⟩,BR,rfl,rfl,rfl,rfl,fun i hi=>by
   show fz _ (.rat (k i) sK) (.rat (iX k n i) sK)
   rw[(LB h1 hi).2];exact aF rfl⟩
 refine aj.xR hT iL hm [1,1,0,1] (i:=0) (y:=oo) (z:=part ud [1,1,1]) (by kernel_rfl) (by kernel_rfl) (by kernel_rfl) Iz.dst hk (f1:=[10]) 60 gU 1 (fun i:Nat=>sL n i) (fun _=>[(0,eB n k)]) (fun i=>1≤i∧i≤n∧∀j,j<i→fe k j) (fun i=>i=n∧∀j,j<n→fe k j) (fun i=>n-i)
  (yh oE kk [.own kk 3 0 (bB k n)] (eB n (iX k n)) gU) ⟨_,Zf,?_⟩ (fun i ⟨h1,h2,h3⟩=>?_) (fun i ⟨h1,h2⟩=>?_) (fun v s' hv hs'=>hv.fin hs')
 ·simp only[aa.all,az,decide_eq_true_eq,decide_eq_false_iff_not]
  exact⟨fun h=>hall (fun j hj=>.inl (by omega)) (by kernel_rfl),fun h=>⟨1,⟨by omega,by omega,fun j hj=>.inl (by omega)⟩,[(0,0)],rfl,rfl,rfl,bF rfl rfl rfl (fun x hx=>aP rfl rfl) trivial⟩⟩
 ·refine aj.vC hT iL hm (y:=oo) (x1:=pG) (zb:=part oo [1,1]) [1,0] (j:=1) (by kernel_rfl) (by kernel_rfl) (by kernel_rfl) (by kernel_rfl) hk (f1:=[15]) 60 gU 1 (fun _:Unit=>sL n i) (fun _=>[(0,eB n k)]) (fun _=>i<n) ⟨_,K8,?_⟩ (fun _ hlt=>?_)
  ·simp only[aa.all,az,decide_eq_true_eq,decide_eq_false_iff_not]
   exact⟨fun h=>⟨(),by omega,[(0,0)],rfl,rfl,rfl,bF rfl rfl rfl (fun x hx=>aP rfl rfl) trivial⟩,fun h s' hs'=>⟨rfl,i,⟨by omega,fun j hj=>h3 j (by omega)⟩,eu.le ⟨[(0,0)],rfl,rfl,rfl,bF rfl rfl rfl (fun x hx=>aP rfl rfl) trivial⟩ hs' hk⟩⟩
  refine aj.branch hT iL hm (x:=pG) (u:=lO) (v:=part pG [1,1]) (b:=.tmp 28) [1] (by kernel_rfl) (by kernel_rfl) (by kernel_rfl) (by kernel_rfl) hk (f1:=[]) 60 wA 1 (fun _:Unit=>Au n i (decide (k i=k (i-1)))) (fun _=>[(0,eB n k)]) (fun _=>True) ⟨_,Vg,?_⟩ (fun _ _=>⟨decide (k i=k (i-1)),rfl,fun hb=>?_,fun hb=>?_⟩)
  ·simp only[aa.all,az]
   simp only[Int.toNat_natCast,Nat.add_zero,show((i:Int)-1).toNat=i-1 by omega]
   exact⟨⟨⟨by omega,by omega⟩,by omega,by omega,⟨by omega,by omega⟩,by omega⟩,(),trivial,[(0,0)],rfl,rfl,rfl,bF rfl rfl rfl (fun x hx=>aP rfl rfl) trivial⟩
  ·have hold:¬fe k i:=fun h=>by
    rcases h with h|h
    ·omega
    ·exact h (of_decide_eq_true hb)
   obtain⟨s1,s2⟩:=KC h3 hold
   refine aj.xO hT iL hm (x:=lO) [1,0,1] (i:=2) (y:=part lO [1,0,1,0,0]) (by kernel_rfl) (by kernel_rfl) (by kernel_rfl) hk (f1:=[]) (f2:=[35,49]) 60 vZ 1 (fun j:Nat=>oH n (bB k (i+j)) i j) (fun j=>[(0,eB n (fX k (i+j)))]) (fun j=>1≤j∧i+j≤n) (fun j=>i+j=n) (fun j=>n-j) (fun _=>False) ⟨_,QU,?_⟩ (fun j ⟨j1,j2⟩=>⟨_,LK,?_⟩) (fun j s' hj hle=>?_) (fun _ _ h=>h.elim)
   ·simp only[aa.all,az]
    simp only[Int.toNat_natCast,Nat.zero_add]
    refine⟨by omega,1,⟨by omega,by omega⟩,[(0,0)],rfl,?_,rfl,bF rfl rfl rfl (fun x hx=>aP rfl ?_) trivial⟩
    ·show _=(oH n (bB k (i+1)) i 1).map _
     rw[s1];rfl
    ·rw[s2]
   ·simp only[aa.all,az,decide_eq_true_eq,decide_eq_false_iff_not]
    have hd:=Hh hold (l:=i+j) (by omega)
    have e1:fX k (i+j) (j+i)=k (i+j):=by rw[Nat.add_comm j i];exact CH (by omega)
    have e2:fX k (i+j) (((j:Int)-1).toNat+i)=k (i+j-1):=by rw[show((j:Int)-1).toNat+i=i+j-1 by omega];exact CH (by omega)
    simp only[Int.toNat_natCast,Nat.add_zero,e1,e2,Bool.not_eq_true',Bool.not_eq_false',decide_eq_true_eq,decide_eq_false_iff_not]
    refine⟨fun h=>⟨by omega,fun hne=>⟨by omega,by omega,by omega,j+1,by omega,by dsimp only;omega,[(0,0)],rfl,?_,rfl,bF rfl rfl rfl (fun x hx=>?_) trivial⟩,fun heq=>⟨by omega,j+1,by omega,by dsimp only;omega,[(0,0)],rfl,?_,rfl,bF rfl rfl rfl (fun x hx=>?_) trivial⟩⟩,fun h=>⟨rfl,j,by omega,[(0,0)],rfl,rfl,rfl,bF rfl rfl rfl (fun x hx=>aP rfl rfl) trivial⟩⟩
    ·show _=(oH n (bB k (i+j+1)) i (j+1)).map _
     rw[Ur (l:=i+j) (.inr hne)];rfl
    ·refine .inr ⟨rfl,bP ?_ (by cases (x==bB k (i+j))<;>exact Nat.le_refl _)⟩
     show _=fX k (i+j+1) x
     rw[LM (.inr hne) (by omega)]
     by_cases hx2:x=bB k (i+j)
     ·subst hx2;simp
     ·have:(x==bB k (i+j))=false:=by simpa using hx2
      rw[this,if_neg hx2];rfl
    ·have hold2:¬fe k (i+j):=fun h=>by
      rcases h with h|h
      ·omega
      ·exact h heq
     show _=(oH n (bB k (i+j+1)) i (j+1)).map _
     rw[F8 hold2];rfl
    ·have hold2:¬fe k (i+j):=fun h=>by
      rcases h with h|h
      ·omega
      ·exact h heq
     exact aP rfl (by show _=AV.rat (fX k (i+j+1) x) sK;rw[(R8 hold2).2])
   ·rw[show behind lO [1,0,1]=[part lO [1,1]]from by kernel_rfl]
    refine aC.weak rfl hle (aC.aV hT iL hm 60 gU XH (by kernel_rfl) ?_)
    simp only[aa.all,az]
    rw[hj]
    have hd:=ny (k:=k) (n:=n)
    simp only[Int.toNat_natCast,Nat.zero_add]
    refine⟨by omega,by omega,fun s' hs'=>⟨_,⟨[.own 0 3 0 (bB k n)],⟨true,true,3,n,fun i=>if bB k n≤i∧i<bB k n+(n-bB k n)then .rat 0 1 else .rat (fX k n i) sK⟩,by kernel_rfl,⟨⟨rfl,ct (by simp[bf,look]) rfl rfl⟩,trivial⟩,rfl,⟨rfl,rfl,rfl,rfl,fun x hx=>?_⟩⟩,hs'⟩⟩
    have hx:x<n:=hx
    refine jD (Ab rfl rfl) ?_
    show bt (if _ then _ else _) (.rat (iX k n x) sK)
    unfold iX
    by_cases h:x<bB k n
    ·rw[if_neg (by omega),if_pos h]
     exact cD (by unfold fX;rw[if_pos h])
    ·rw[if_pos (by omega),if_neg h]
     exact en (by decide)
  ·have hnew:fe k i:=.inr (of_decide_eq_false hb)
   refine aj.tail (fun s' hh=>by have:=hh.1;omega) (aC.aV hT iL hm 60 gU IJ (by kernel_rfl) ?_)
   simp only[aa.all,az]
   refine⟨by omega,fun s' hs'=>⟨i+1,⟨by omega,by omega,fun j hj=>?_⟩,by dsimp only;omega,eu.le ⟨[(0,0)],rfl,rfl,rfl,bF rfl rfl rfl (fun x hx=>aP rfl rfl) trivial⟩ hs' hk⟩⟩
   by_cases he:j=i
   ·subst he;exact hnew
   ·exact h3 j (by omega)
 ·subst h1
  refine aj.aV hT iL hm 60 gU QK (by kernel_rfl) ?_
  simp only[aa.all,az]
  exact fun s' hs'=>(hall h2 (by kernel_rfl)).fin hs'
def Aw (f:Nat→AV) (n s:Nat):Prop:=∀i,i<n→keys (f i)=[]∧bt (f i) (.rat (aZ (f i)) s)
theorem SL {k:Nat→Rat} {n s s':Nat} (h:s≤s'):Aw (fun i=>.rat (k i) s) n s':=fun _ _=>⟨rfl,en h⟩
def yS:Spec:=fun _ args pre=>match args,pre with
 |[.own k 3 0 n,.func g []],[(k',⟨true,true,3,m,f⟩)]=>match Nat.beq g fk&&k'==k with
  |true=>some ⟨iZ [.own k 3 0 (bB (fun i=>aZ (f i)) n)],[(k,eB n (iX (fun i=>aZ (f i)) n))],[m=n,Aw f n sK,n<2^40]⟩
  |false=>none
 |_,_=>none
theorem K7:∀K args pre r,yS K args pre=some r→aB P xg K args pre r:=by
 intro K args pre r h
 unfold yS at h
 split at h
 ·rename_i k n g k' m f
  split at h
  ·rename_i hc
   simp only[Bool.and_eq_true,beq_iff_eq]at hc
   obtain⟨h1,h2⟩:=hc
   have h1:=Nat.eq_of_beq_eq_true h1
   subst h1 h2
   simp only[Option.some.injEq]at h
   subst h
   intro need
   have h0:=need
   obtain⟨rfl,n1,n2⟩:=need
   exact X6 hT Iz (rest:=[.func fk []]) (o2:=⟨true,true,3,m,f⟩) (o:=eB m fun i=>aZ (f i)) rfl rfl (of_decide_eq_true (by kernel_rfl)) (fun ρ=>⟨rfl,rfl,rfl,rfl,fun i hi=>jD (n1 i hi).1 (n1 i hi).2⟩) (fun _ c hk=>We n2 c hk) K h0
  ·simp at h
 ·simp at h
end Go.Am.B

/- knots.Distinct, ref08.Distinct, slices.IsSortedFunc of numbers. -/
namespace Go.Am.B
open Go Go.Am.N AV aa ah IntKind
theorem V5:aN P qJ vt (au vt):=aO Sd (by kernel_rfl) (by kernel_rfl) (by kernel_rfl)
noncomputable abbrev qY:Code:=au vt
abbrev tw:List Nat:=[4,0,1,5]
abbrev z6 (n:Nat) (k:Nat→Rat) (i:Nat):List AV:=[.bool false,ls k n,.func hJ [],.int .i64 ((i:Int)-1)]
noncomputable def Fm:aT:=[(lV,Hg),(xg,yS)]
theorem Lu {n:Nat} {k:Nat→Rat}:aJ T fh [] 60 tw (before qY [1,0,1]) ⟨aM 0 [ls k n,.func hJ []],[],0⟩=
  let c1:Int:=(↑n:Int)-(1:Int);some (ag [-(2:Int)^63≤c1∧c1<(2:Int)^63] (leaf normal ([AV.bool false,aq 3 n fun i↦rat (k i) 4096,func hJ [],int i64 c1],[]))):=by kernel_rfl
theorem YS {n i:Nat} {k:Nat→Rat}:aJ T fh [10,24] 60 tw [part qY [1,0,1,0,0]] ⟨aD tw (z6 n k i),[],1⟩=
  let c5:AV:=aq 3 n fun i↦rat (k i) 4096;let c4:Int:=(2:Int)^63;let c1:Int:=(↑i:Int)-(1:Int);let c3:List AV:=[AV.bool false,c5,func hJ [],int i64 c1];let c2:Int:=c1-(1:Int);let c6:Int:=dS (k c1.toNat) (k c2.toNat);some (fork (decide (c1>(0:Int))) (ag [(0:Int)≤c1∧c1.toNat<n,-c4≤c2∧c2<c4,(0:Int)≤c2∧c2.toNat<n] (fork (decide (c6<(0:Int))) (leaf ret (c3,[])) (ag [-c4≤c2∧c2<c4] (leaf normal ([AV.bool false,c5,func hJ [],int i64 c2],[]))))) (leaf (exit 0) (c3,[]))):=by kernel_rfl
theorem Yq {n i:Nat} {k:Nat→Rat}:b7 T fh [] 60 vt [part qY [1,1]] ⟨aD tw (z6 n k i),[],1⟩=
  some (leaf ret [AV.bool true]):=by kernel_rfl
theorem KO {n:Nat} {k:Nat→Rat}:bu T Fm [] 60 sq (au sq) ⟨aM 0 [bM k n sJ],[],0⟩=
  let c1:Prop:=n<2^40;some (ag [cj (fun i↦rat (k i) sJ) n sJ,c1,n=n,Aw (fun i↦rat (aZ (rat (k i) sJ)) sK) n sK,c1] (leaf ret [aq 3 (bB (fun i↦aZ (rat (aZ (rat (k i) sJ)) sK)) n) fun i↦rat (iX (fun i↦aZ (rat (aZ (rat (k i) sJ)) sK)) n (i+0)) 4096])):=by kernel_rfl
def kF (g:FuncId):Kind Unit:=⟨fun v=>match v with
 |.func f []=>match Nat.beq f g with
  |true=>some ((),[])
  |false=>none
 |_=>none,fun _=>.func g [],fun {v a q} h _=>by
  split at h
  ·split at h
   ·rename_i hb
    rw[Nat.eq_of_beq_eq_true hb];exact .refl _
   ·simp at h
  ·simp at h⟩
noncomputable def mm (p:Prop):Bool:=@decide p (Classical.propDecidable p)
theorem IS {p:Prop} (h:p):mm p=true:=@decide_eq_true p (Classical.propDecidable p) h
theorem Zb {p:Prop} (h:¬p):mm p=false:=@decide_eq_false p (Classical.propDecidable p) h
theorem JN {p:Prop} (h:mm p=true):p:=@of_decide_eq_true p (Classical.propDecidable p) h
theorem TZ {p:Prop} (h:mm p=false):¬p:=@of_decide_eq_false p (Classical.propDecidable p) h
theorem MO {n:Nat} {k:Nat→Rat} (hn:n<2^40) (K:Nat):aB P qJ K [ls k n,.func hJ []] [] (aG (.bool (mm (nc n k))) []):=by
 refine gJ (r:=aG (.bool (mm (nc n k))) []) hT iL hm V5 rfl (of_decide_eq_true (by kernel_rfl)) rfl [1,0,1] (i:=0) (y:=part qY [1,0,1,0,0]) (z:=part qY [1,1]) (by kernel_rfl) (by kernel_rfl) (by kernel_rfl) (f1:=[]) (f2:=[10,24]) (f3:=[]) 60 tw 1
  (fun i:Nat=>z6 n k i) (fun _=>[]) (fun i=>i≤n∧∀j,i≤j+1→j+1<n→k j≤k (j+1)) (fun _=>nc n k) (fun i=>i) (fun _=>⟨⟨_,Lu,?_⟩,fun i ⟨h1,h2⟩=>⟨_,YS,?_⟩,fun i hi=>⟨_,Yq,?_⟩⟩) K []
 ·simp only[aa.all,az]
  exact⟨by omega,n,⟨Nat.le_refl _,fun j h1 h2=>by omega⟩,eu.vals rfl⟩
 ·simp only[aa.all,az,decide_eq_true_eq,decide_eq_false_iff_not,lG]
  refine⟨fun h=>⟨by omega,fun hlt=>⟨[.bool false],by kernel_rfl,eI ?_⟩,fun hle=>⟨by omega,i-1,⟨by omega,fun j g1 g2=>?_⟩,by dsimp only;omega,[],rfl,?_,rfl,trivial⟩⟩,fun h=>⟨rfl,i,fun j hj=>h2 j (by omega) hj,[],rfl,rfl,rfl,trivial⟩⟩
  ·refine(Zb fun hs=>?_).symm
   have:=hs (i-2) (by omega)
   rw[show((i:Int)-1).toNat=i-2+1 by omega,show((i:Int)-1-1).toNat=i-2 by omega]at hlt
   grind
  ·by_cases he:j+2=i
   ·rw[show((i:Int)-1).toNat=j+1 by omega,show((i:Int)-1-1).toNat=j by omega]at hle
    grind
   ·exact h2 j (by omega) g2
  ·show _=[_,_,_,AV.int .i64 (((i-1:Nat):Int)-1)]
   rw[show((i-1:Nat):Int)-1=(i:Int)-1-1 by omega];rfl
 ·simp only[aa.all,az]
  exact eI (IS hi).symm
noncomputable def Dy:Spec:=cS (kC (kL sK) (kC (kF hJ) kN)) (fun a=>.bool (mm (nc a.1.1 a.1.2))) fun a=>[a.1.1<2^40]
theorem IM:∀K args pre r,Dy K args pre=some r→aB P qJ K args pre r:=cZ fun⟨⟨n,k⟩,_,_⟩ K hn=>MO hn K
noncomputable def Bg:Spec:=cS (kC (kL sJ) kN) (fun a=>ls (cL a.1.2 a.1.1) (bB a.1.2 a.1.1)) fun a=>[a.1.1<2^40]
theorem Us:bp P Fm:=aK YH (aK K7 br)
theorem Gl:∀K args pre r,Bg K args pre=some r→aB P tL K args pre r:=cZ fun⟨⟨n,k⟩,_⟩ K hn=>by
 have hn:n<2^40:=hn
 refine bE (r:=aG (ls (cL k n) (bB k n)) []) hT Us hm T3 rfl (of_decide_eq_true (by kernel_rfl)) rfl 60 KO (fun _=>?_) K []
 simp only[aa.all,az]
 exact⟨⟨dc (Nat.le_refl _),hn,trivial,SL (Nat.le_refl _),hn⟩,v9 rfl fun i hi=>by
  show AV.rat (iX k n (i+0)) sK=_
  have hi:i<bB k n:=hi
  rw[Nat.add_zero];unfold iX;rw[if_pos hi]⟩
end Go.Am.B

/- knots.Check, ref08.Check. -/
namespace Go.Am.B
open Go Go.Am.N AV aa ah IntKind
theorem Je:aN P qi nU (au nU):=aO LQ (by kernel_rfl) (by kernel_rfl) (by kernel_rfl)
noncomputable def yb:aT:=(qJ,Dy)::(tL,Bg)::(oA,A6)::B2
noncomputable abbrev qK:Code:=au nU
abbrev nv:List Nat:=[0,1,4,48,49,50]
abbrev yW (n:Nat) (k:Nat→Rat) (p:Int) (d:Nat) (f:Nat→Rat) (i:Nat):List AV:=[bM k n sJ,.int .i64 p,.int .i64 0,bM f d sK,.int .i64 d,.int .i64 i]
theorem SW {n:Nat} {k:Nat→Rat} {p:Int}:aJ T yb [18,15,22,29,35,46] 60 nv (before qK [1,1,1,0,1]) ⟨aM 0 [bM k n sJ,.int .i64 p],[],0⟩=
  let c16:Int:=(↑n:Int);let c15:Prop:=cj (fun i↦rat (k i) sJ) n sK;let c14:Nat:=Int.toNat (0:Int);let c13:Nat:=bB (fun i↦aZ (rat (k i) sJ)) n;let c11:Bool:=decide (p<(1:Int));let c10:Int:=i64.wrap (i64.wrap ((2:Int)*p)+(2:Int));let c9:Prop:=n<2^40;let c7:List AV:=[tuple [],tuple [],tuple []];let c6:Bool:=!mm (nc n fun i↦aZ (rat (k i) sJ));let c3:AV:=aq 3 n fun i↦rat (k i) 4000;let c12:List AV:=c3::int i64 p::int i64 (1:Int)::c7;let c8:Int:=i64.wrap (i64.wrap (c16-p)-(1:Int));let c5:Int:=i64.wrap (c16-(1:Int));let c4:aa (List AV×aA):=leaf ret (c3::int i64 p::int i64 (5:Int)::c7,[]);let c2:aa (List AV×aA):=ag [cj (fun i↦rat (k i) sJ) n sJ,c9] (leaf normal ([c3,int i64 p,int i64 (0:Int),aq 3 c13 fun i↦rat (cL (fun i↦aZ (rat (k i) sJ)) n i) 4096,int i64 (↑c13:Int),int i64 (0:Int)],[]));let c1:aa (List AV×aA):=fork (decide (c16<c10)) c4 (fork (decide (c8>(40:Int))) (leaf ret (c3::int i64 p::int i64 (2:Int)::c7,[])) (fork c6 (ag [c15,c9,c6=true] (fork true c4 c2)) (ag [c15,c9,c6=false,(0:Int)≤(0:Int)∧c14<n,(0:Int)≤c5∧c5.toNat<n] (fork (bif false then true else decide (k c14=k c5.toNat)) c4 c2))));some (fork c11 (ag [c11=true] (fork true (leaf ret (c12,[])) c1)) (ag [c11=false] (fork (bif false then true else decide (p>(6:Int))) (leaf ret (c12,[])) c1))):=by kernel_rfl
theorem R6 {n d i:Nat} {k f:Nat→Rat} {p:Int}:aJ T yb [51,62,73,79,82,87] 60 nv [part qK [1,1,1,0,1,0,0]] ⟨aD nv (yW n k p d f i),[],1⟩=
  let c18 : Int := (↑d : Int); let c16 : Prop := false = false; let c13 : Int := (↑i : Int); let c12 : Prop := 0 < 1; let c11 : AV := aq 3 d fun i ↦ rat (f i) 4096; let c10 : AV := aq 3 n fun i ↦ rat (k i) 4000; let c9 : Int := i64.wrap ((↑n : Int) - (1 : Int)); let c8 : Nat := Int.toNat (0 : Int); let c17 : Prop := (0 : Int) ≤ (0 : Int) ∧ c8 < n; let c14 : List AV := [c11, int i64 c18, int i64 c13]; let c7 : Rat := f c13.toNat; let c1 : aa (List AV × aA) := leaf normal ([c10, int i64 p, int i64 (0 : Int), c11, int i64 c18, int i64 (i64.wrap (c13 + (1 : Int)))], []); let c15 : Bool := decide (c7 = k c8); let c4 : Int := (↑(de (fun i ↦ aZ (rat (k i) sJ)) c7 n) : Int); let c3 : Bool := bif false then true else decide (c7 = k c9.toNat); let c2 : aa (List AV × aA) := leaf ret (c10 :: int i64 p :: int i64 (5 : Int) :: c14, []); let c6 : aa (List AV × aA) := fork (bif false then true else bif true then decide (c4 > p) else false) c2 c1; let c5 : Bool := bif true then c4 != i64.wrap (p + (1 : Int)) else false; some (fork (decide (c13 < c18)) (ag [(0 : Int) ≤ c13 ∧ c13.toNat < d, c12] (ag [c12, cj (fun i ↦ rat (k i) sJ) n sK, sK ≤ sK, n < 2 ^ 40] (fork c15 (ag [c12, c17, c15 = true] (fork true (fork c5 (ag [true = true, c5 = true] (fork true c2 c1)) (fork false (ag [true = true, c5 = false, (!true) = true] c6) (ag [true = true, c5 = false, (!true) = false] (fork false c2 c1)))) (fork false (ag [true = false, false = true] (fork true c2 c1)) (fork false (ag [true = false, c16, (!true) = true] c6) (ag [true = false, c16, (!true) = false] (fork false c2 c1)))))) (ag [c12, c17, c15 = false, c12, (0 : Int) ≤ c9 ∧ c9.toNat < n] (fork c3 (fork c5 (ag [c3 = true, c5 = true] (fork true c2 c1)) (fork (!c3) (ag [c3 = true, c5 = false, (!c3) = true] c6) (ag [c3 = true, c5 = false, (!c3) = false] (fork false c2 c1)))) (fork false (ag [c3 = false, false = true] (fork true c2 c1)) (fork (!c3) (ag [c3 = false, c16, (!c3) = true] c6) (ag [c3 = false, c16, (!c3) = false] (fork false c2 c1))))))))) (leaf (exit 1) (c10 :: int i64 p :: int i64 (0 : Int) :: c14, []))) := by kernel_rfl
theorem RT {n d i:Nat} {k f:Nat→Rat} {p:Int}:b7 T yb [] 60 nU [part qK [1,1,1,1]] ⟨aD nv (yW n k p d f i),[],1⟩=
  some (leaf ret [int i64 (0:Int)]):=by kernel_rfl
theorem OU:bp P yb:=aK IM (aK Gl (aK Dz F4))
def pM (n:Nat) (p:Int):Prop:=1≤p∧p≤6∧2*p+2≤(n:Int)∧(n:Int)-p-1≤40
theorem Q1 {n:Nat} {k:Nat→Rat} {p:Int} (hn:n<2^40) (K:Nat):aB P qi K [bM k n sJ,.int .i64 p] [] (aG (.int .i64 (fc n k p)) []):=by
 refine gJ (r:=aG (.int .i64 (fc n k p)) []) hT OU hm Je rfl (of_decide_eq_true (by kernel_rfl)) rfl [1,1,1,0,1] (i:=1) (y:=part qK [1,1,1,0,1,0,0]) (z:=part qK [1,1,1,1]) (by kernel_rfl) (by kernel_rfl) (by kernel_rfl) (f1:=[18,15,22,29,35,46]) (f2:=[51,62,73,79,82,87]) (f3:=[]) 60 nv 1
  (fun i:Nat=>yW n k p (bB k n) (cL k n) i) (fun _=>[]) (fun i=>i≤bB k n∧pM n p∧nc n k∧k 0≠k (n-1)∧∀j,j<i→¬iD n k p.toNat (cL k n j)) (fun _=>pM n p∧nO n k p.toNat) (fun i=>bB k n-i) (fun _=>⟨⟨_,SW,?_⟩,fun i ⟨h1,h2,h3,h4,h5⟩=>⟨_,R6,?_⟩,fun i ⟨h1,h2⟩=>⟨_,RT,?_⟩⟩) K []
 ·have r:∀{e:Int} {u:AV},fc n k p=e→lD nU nv (.int .i64 (fc n k p)) ([u,.int .i64 p,.int .i64 e,.tuple [],.tuple [],.tuple []],[]):=fun h=>⟨[.int .i64 _],by kernel_rfl,bh h.symm⟩
  by_cases hp:1≤p∧p≤6
  ·have e1:i64.wrap (i64.wrap (2*p)+2)=2*p+2:=by rw[wrap_i64 (show-2^63≤2*p by omega) (by omega)];exact wrap_i64 (by omega) (by omega)
   have e2:i64.wrap (i64.wrap ((n:Int)-p)-1)=(n:Int)-p-1:=by rw[wrap_i64 (show-2^63≤(n:Int)-p by omega) (by omega)];exact wrap_i64 (by omega) (by omega)
   have e3:i64.wrap ((n:Int)-1)=(n:Int)-1:=wrap_i64 (by omega) (by omega)
   have e5:((n:Int)-1).toNat=n-1:=by omega
   simp only[aa.all,az,decide_eq_true_eq,decide_eq_false_iff_not,Bool.not_eq_true',Bool.not_eq_false',cond_true,cond_false,Int.toNat_natCast,Int.toNat_zero,tS,e1,e2,e3,e5]
   (repeat' with_reducible first|refine And.intro ?_ ?_|intro _)
   all_goals first|exact absurd ‹true=false› (by decide)|exact absurd ‹false=true› (by decide)|omega|(exfalso;omega)|exact dc (by decide)|assumption|exact r (SJ (by omega) (by omega))|exact r (Ov (by omega) (by omega) (by omega))|exact r (yQ (by omega) (by omega) (by omega) fun h=>TZ ‹_› h.1)|exact r (yQ (by omega) (by omega) (by omega) fun h=>h.2.1 ‹_›)|exact⟨0,⟨Nat.zero_le _,⟨by omega,by omega,by omega,by omega⟩,JN ‹_›,‹_›,fun j hj=>absurd hj (Nat.not_lt_zero j)⟩,eu.vals rfl⟩|skip
   skip
  ·simp only[aa.all,az,decide_eq_true_eq,decide_eq_false_iff_not,Bool.not_eq_true',Bool.not_eq_false',cond_true,cond_false,Int.toNat_natCast]
   (repeat' with_reducible first|refine And.intro ?_ ?_|intro _)
   all_goals first|exact absurd ‹true=false› (by decide)|exact absurd ‹false=true› (by decide)|omega|(exfalso;omega)|exact r (QT (by omega))|skip
   skip
 ·obtain⟨q,rfl⟩:∃q:Nat,p=(q:Int):=⟨p.toNat,by have:=h2.1;omega⟩
  have hq:=h2
  unfold pM at hq
  have e1:i64.wrap ((q:Int)+1)=((q+1:Nat):Int):=by rw[wrap_i64 (by omega) (by omega)];rfl
  have e2:i64.wrap ((i:Int)+1)=((i+1:Nat):Int):=by rw[wrap_i64 (by omega) (by have:=ny (k:=k) (n:=n);omega)];rfl
  have e3:i64.wrap ((n:Int)-1)=(n:Int)-1:=wrap_i64 (by omega) (by omega)
  have e5:((n:Int)-1).toNat=n-1:=by omega
  simp only[Int.toNat_natCast]at h5
  have hd:=ny (k:=k) (n:=n)
  have r:∀{u v w x y:AV},iD n k q (cL k n i)→i<bB k n→lD nU nv (.int .i64 (fc n k q)) ([u,v,.int .i64 5,w,x,y],[]):=fun h hi=>⟨[.int .i64 5],by kernel_rfl,bh (yQ (by omega) (by omega) (by omega) fun hk=>hk.2.2 i hi (by rw[Int.toNat_natCast];exact h)).symm⟩
  have nx:¬iD n k q (cL k n i)→i<bB k n→∀j,j<i+1→¬iD n k q (cL k n j):=fun h hi j hj=>by
   by_cases he:j=i
   ·subst he;exact h
   ·exact h5 j (by omega)
  simp only[aa.all,az,decide_eq_true_eq,decide_eq_false_iff_not,Bool.not_eq_true',Bool.not_eq_false',cond_true,cond_false,Int.toNat_natCast,Int.toNat_zero,tS,e1,e2,e3,e5,bne_iff_ne,bne_eq_false_iff_eq,ne_eq]
  obtain⟨c,hc⟩:∃c,de k (cL k n i) n=c:=⟨_,rfl⟩
  have hc':de (fun i=>k i) (cL k n i) n=c:=hc
  simp only[hc']
  have b1:cL k n i=k 0→c≠q+1→iD n k q (cL k n i):=fun h1 h2=>.inl ⟨.inl h1,by rw[hc];exact h2⟩
  have b2:cL k n i=k (n-1)→c≠q+1→iD n k q (cL k n i):=fun h1 h2=>.inl ⟨.inr h1,by rw[hc];exact h2⟩
  have b3:¬cL k n i=k 0→¬cL k n i=k (n-1)→q<c→iD n k q (cL k n i):=fun h1 h2 h3=>.inr ⟨fun h=>h.elim h1 h2,by rw[hc];exact h3⟩
  have g1:cL k n i=k 0→c=q+1→¬iD n k q (cL k n i):=by
   rintro h1 h2 (⟨_,h3⟩|⟨h3,_⟩)
   ·exact h3 (by rw[hc];exact h2)
   ·exact h3 (.inl h1)
  have g2:cL k n i=k (n-1)→c=q+1→¬iD n k q (cL k n i):=by
   rintro h1 h2 (⟨_,h3⟩|⟨h3,_⟩)
   ·exact h3 (by rw[hc];exact h2)
   ·exact h3 (.inr h1)
  have g3:¬cL k n i=k 0→¬cL k n i=k (n-1)→c≤q→¬iD n k q (cL k n i):=by
   rintro h1 h2 h3 (⟨h4,_⟩|⟨_,h4⟩)
   ·exact h4.elim h1 h2
   ·rw[hc]at h4;omega
  clear hc hc'
  (repeat' with_reducible first|refine And.intro ?_ ?_|intro _)
  all_goals first|exact absurd ‹true=false› (by decide)|exact absurd ‹false=true› (by decide)|omega|(exfalso;omega)|exact dc (by decide)|assumption|skip
  all_goals first
   |exact absurd ‹cL k n i=k (n-1)› ‹_›
   |exact⟨rfl,i,⟨h2,h3,h4,fun j hj=>h5 j (by omega)⟩,eu.vals rfl⟩
   |exact r (b1 ‹_› (by omega)) (by omega)
   |exact r (b2 ‹_› (by omega)) (by omega)
   |exact r (b3 ‹¬_=k 0› ‹_› (by have:=of_decide_eq_true ‹decide _=true›;omega)) (by omega)
   |exact⟨i+1,⟨by omega,h2,h3,h4,nx (g1 ‹_› (by omega)) (by omega)⟩,by dsimp only;omega,eu.vals rfl⟩
   |exact⟨i+1,⟨by omega,h2,h3,h4,nx (g2 ‹_› (by omega)) (by omega)⟩,by dsimp only;omega,eu.vals rfl⟩
   |exact⟨i+1,⟨by omega,h2,h3,h4,nx (g3 ‹¬_=k 0› ‹_› (by have:=of_decide_eq_false ‹decide _=false›;omega)) (by omega)⟩,by dsimp only;omega,eu.vals rfl⟩
 ·simp only[aa.all,az]
  exact bh (Uo (by have:=h1;unfold pM at this;omega) (by have:=h1;unfold pM at this;omega) (by have:=h1;unfold pM at this;omega) h2).symm
noncomputable def zV:Spec:=cS (kC (kL sJ) (kC kI kN)) (fun a=>.int .i64 (fc a.1.1 a.1.2 a.2.1)) fun a=>[a.1.1<2^40]
theorem GB:∀K args pre r,zV K args pre=some r→aB P qi K args pre r:=cZ fun⟨⟨n,k⟩,p,_⟩ K hn=>Q1 hn K
end Go.Am.B

/- Poles, lists of poles, curves, surfaces as arguments. -/
namespace Go.Am.B
open Go Go.Am.N AV
def ic:AV→Pl
 |.agg [.agg [x,y,z],w]=>⟨⟨aZ x,aZ y,aZ z⟩,aZ w⟩
 |_=>⟨⟨0,0,0⟩,0⟩
def gO (f:Nat→AV) (n s:Nat):Prop:=∀i,i<n→bt (f i) (cz (ic (f i)) s)
abbrev kB (f:Nat→Pl) (n s:Nat):AV:=.aq 12 n (fun i=>cz (f i) s)
theorem zc {u v:Pl} {n k:Nat} (h:u=v) (hk:n≤k):bt (cz u n) (cz v k):=
 h▸dJ ⟨yG rfl hk,bP rfl hk,trivial⟩
theorem iC {f:Nat→Pl} {n s s':Nat} (h:s≤s'):gO (fun i=>cz (f i) s) n s':=fun _ _=>zc rfl h
def o9:AV→Option (Nat×(Nat→AV))
 |.aq 12 n f=>some (n,f)
 |.nil=>some (0,fun _=>.nil)
 |_=>none
theorem UP {v:AV} {n s:Nat} {f:Nat→AV} (h:o9 v=some (n,f)) (ha:gO f n s):bt v (kB (fun i=>ic (f i)) n s):=by
 unfold o9 at h
 split at h
 ·simp only[Option.some.injEq,Prod.mk.injEq]at h
  obtain⟨rfl,rfl⟩:=h
  exact kG ha
 ·simp only[Option.some.injEq,Prod.mk.injEq]at h
  obtain⟨rfl,rfl⟩:=h
  exact iT (by omega)
 ·simp at h
def xK (s:Nat):Kind (Nat×(Nat→Pl)):=⟨fun v=>match o9 v with
 |some (n,f)=>some ((n,fun i=>ic (f i)),[gO f n s])
 |none=>none,fun a=>kB a.2 a.1 s,fun {v a q} h hq=>by
  split at h
  ·rename_i h1
   simp only[Option.some.injEq,Prod.mk.injEq]at h
   obtain⟨rfl,rfl⟩:=h
   exact UP h1 hq
  ·simp at h⟩
abbrev cP (h:Pl) (s:Nat):AV:=.agg [.rat h.n.x s,.rat h.n.y s,.rat h.n.z s,.rat h.d s]
def DA (s:Nat):Kind Pl:=⟨fun v=>match v with
 |.agg [x,y,z,w]=>match gv x,gv y,gv z,gv w with
  |some (x,a),some (y,b),some (z,c),some (w,d)=>some (⟨⟨x,y,z⟩,w⟩,[a≤s,b≤s,c≤s,d≤s])
  |_,_,_,_=>none
 |_=>none,fun a=>cP a s,fun {v a q} h hq=>by
  split at h
  ·split at h
   ·rename_i h1 h2 h3 h4
    simp only[Option.some.injEq,Prod.mk.injEq]at h
    obtain⟨rfl,rfl⟩:=h
    exact dJ ⟨(ij h1).trans (bP rfl hq.1),(ij h2).trans (bP rfl hq.2.1),(ij h3).trans (bP rfl hq.2.2.1),(ij h4).trans (bP rfl hq.2.2.2),trivial⟩
   ·simp at h
  ·simp at h⟩
structure Cu where
 p:Int
 n:Nat
 k:Nat→Rat
 m:Nat
 f:Nat→Pl
abbrev eM (c:Cu) (s r:Nat):AV:=.agg [.int .i64 c.p,bM c.k c.n s,kB c.f c.m r]
def kV (s r:Nat):Kind Cu:=⟨fun v=>match v with
 |.agg [p,k,f]=>match kI.read p,(kL s).read k,(xK r).read f with
  |some (p,q1),some ((n,k),q2),some ((m,f),q3)=>some (⟨p,n,k,m,f⟩,q1++(q2++q3))
  |_,_,_=>none
 |_=>none,fun a=>eM a s r,fun {v a q} h hq=>by
  split at h
  ·split at h
   ·rename_i h1 h2 h3
    simp only[Option.some.injEq,Prod.mk.injEq]at h
    obtain⟨rfl,rfl⟩:=h
    obtain⟨q1,hq⟩:=dA.1 hq
    obtain⟨q2,q3⟩:=dA.1 hq
    exact dJ ⟨kI.ok h1 q1,(kL s).ok h2 q2,(xK r).ok h3 q3,trivial⟩
   ·simp at h
  ·simp at h⟩
structure Sf where
 u:Int
 v:Int
 a:Nat
 ku:Nat→Rat
 b:Nat
 kv:Nat→Rat
 n:Nat
 m:Nat
 f:Nat→Nat→Pl
theorem JZ {rl:List (Nat×Nat)} {l i s s' s2:Nat} {x y:Nat→Pl} {t:AV} {z:AV} (hx:∀i,i<l→x i=y i) (ht:bt t (cz (y l) s')) (hk:keys t=[]) (h1:s≤s2) (h2:s'≤s2) (hi:i<l+1):
  fP rl (if i<l then cz (x i) s else nth [t] z (i-l+0)) (cz (y i) s2):=by
 by_cases h:i<l
 ·rw[if_pos h,hx i h];exact .inr ⟨rfl,zc rfl h1⟩
 ·have:i=l:=by omega
  subst this
  rw[if_neg h,Nat.sub_self]
  exact .inr ⟨hk,ht.trans (zc rfl h2)⟩
end Go.Am.B

/- ref02: Valid, Valids, Bits; ref04.Valid; ref10: Short, shortPoles. -/
namespace Go.Am.B
open Go Go.Am.N AV aa ah IntKind
end Go.Am.B

/- ref09: part, function, Values. -/
namespace Go.Am.B
open Go Go.Am.N AV aa ah IntKind
end Go.Am.B

/- ref10: Lift, Homogeneous, Drop, Eval. -/
namespace Go.Am.B
open Go Go.Am.N AV aa ah IntKind
abbrev sH:Nat:=2147483648
abbrev sE:Nat:=4294967298
def Fo (h:Pl):V3:=⟨((1:Int):Rat)/h.d*h.n.x,((1:Int):Rat)/h.d*h.n.y,((1:Int):Rat)/h.d*h.n.z⟩
abbrev jv (h:Pl) (s:Nat):ak:=⟨false,true,12,1,fun _=>cP h s⟩
def W3 (c:Cu) (x:Nat→Rat) (b j:Nat):Pl:=
 ⟨⟨kz j fun j=>x j*((c.f (b+j)).d*(c.f (b+j)).n.x),kz j fun j=>x j*((c.f (b+j)).d*(c.f (b+j)).n.y),kz j fun j=>x j*((c.f (b+j)).d*(c.f (b+j)).n.z)⟩,kz j fun j=>x j*(c.f (b+j)).d⟩
def PU (c:Cu) (t:Rat):Pl:=W3 c (vB c.k (cy c.n c.k t) t c.p.toNat) (cy c.n c.k t-c.p.toNat) (c.p.toNat+1)
def xw (c:Cu) (t:Rat):V3:=if dQ c.n c.k t then⟨0,0,0⟩else Fo (PU c t)
end Go.Am.B

/- ref12: row, Swap, IsoV, IsoU, Eval. -/
namespace Go.Am.B
open Go Go.Am.N AV aa ah IntKind
structure SfW (s:Sf):Prop where
 ku:Kn s.a s.u.toNat s.ku
 kv:Kn s.b s.v.toNat s.kv
 u0:0≤s.u
 u6:s.u≤6
 v0:0≤s.v
 v6:s.v≤6
 a:s.a<2^30
 b:s.b<2^30
 n:(s.n:Int)=(s.a:Int)-s.u-1
 m:(s.m:Int)=(s.b:Int)-s.v-1
end Go.Am.B

/- spline.Of, Four.Pole, curve.of, Spline.Eval, curve.sound, curve.Eval. -/
namespace Go.Am.B
open Go Go.Am.N AV aa ah IntKind
theorem PR:aN P A8 w7 (au w7):=aO IN (by kernel_rfl) (by kernel_rfl) (by kernel_rfl)
theorem Qi:aN P nk sW (au sW):=aO KD (by kernel_rfl) (by kernel_rfl) (by kernel_rfl)
theorem QV:aN P nC tT (au tT):=aO Zj (by kernel_rfl) (by kernel_rfl) (by kernel_rfl)
theorem HS:aN P r7 ng (au ng):=aO LH (by kernel_rfl) (by kernel_rfl) (by kernel_rfl)
theorem I1:aN P oP tv (au tv):=aO Ym (by kernel_rfl) (by kernel_rfl) (by kernel_rfl)
theorem Yx:aN P ym sD (au sD):=aO Pz (by kernel_rfl) (by kernel_rfl) (by kernel_rfl)
def gQ (p:Pl):Pl:=⟨⟨p.d*p.n.x,p.d*p.n.y,p.d*p.n.z⟩,p.d⟩
def gD (h:Pl):Pl:=⟨⟨h.n.x/h.d,h.n.y/h.d,h.n.z/h.d⟩,h.d⟩
abbrev nj (f:Nat→Pl) (n s:Nat):AV:=.aq 12 n (fun i=>cP (f i) s)
abbrev eJ (c:Cu) (s r:Nat):AV:=.agg [.int .i64 c.p,bM c.k c.n s,nj c.f c.m r]
def GI:aT:=nG::fN
noncomputable def xQ:aT:=nG::(A8,AO T GI [] 80 w7)::fN
abbrev tc:List Nat:=[2,3,12,13,14]
abbrev zL (c:Cu) (r i:Nat):List AV:=[.ptr 0 0 3 0 [],.ptr 1 0 3 0 [],kB c.f c.m r,.int .i64 c.m,.int .i64 i]
abbrev An (c:Cu) (x w i:Nat):aA:=[(2,⟨true,true,12,i,fun j=>cP (gQ (c.f j)) w⟩),(1,⟨false,true,3,1,fun _=>.agg [.int .i64 c.p,bM c.k c.n x,.own 2 12 0 i]⟩),(0,⟨false,true,3,1,fun _=>.agg [.int .i64 0,.nil,.nil]⟩)]
noncomputable abbrev rL:Code:=au tT
def E7:aT:=nG::(pU,k9 kR kR B3 nJ)::fN
def Eu (f:Nat→Pl) (x:Nat→Rat) (b j:Nat):Pl:=
 ⟨⟨kz j fun j=>x j*(f (b+j)).n.x,kz j fun j=>x j*(f (b+j)).n.y,kz j fun j=>x j*(f (b+j)).n.z⟩,kz j fun j=>x j*(f (b+j)).d⟩
def xx:aT:=nG::(qI,G6)::fN
abbrev sx:List Nat:=[4,5,2,6,7,36,37,38]
abbrev yC (p i:Nat) (x:Nat→Rat) (j:Nat):List AV:=[.ptr 1 0 12 0 [],.int .i64 0,.ptr 0 0 3 0 [],.ptr 2 0 12 0 [],.int .i64 ((i:Int)-p),.aq 3 (p+1) (fun j=>.rat (x j) sV),.int .i64 ((p+1:Nat):Int),.int .i64 j]
abbrev mc (c:Cu) (r:Nat):ak:=⟨false,true,3,1,fun _=>eJ c sK r⟩
noncomputable abbrev ox:Code:=au ng
def s6:AV→Pl
 |.agg [x,y,z,w]=>⟨⟨aZ x,aZ y,aZ z⟩,aZ w⟩
 |_=>⟨⟨0,0,0⟩,0⟩
def me (f:Nat→AV) (n s:Nat):Prop:=∀i,i<n→bt (f i) (cP (s6 (f i)) s)
theorem Vz {v:AV} {n s:Nat} {f:Nat→AV} (h:o9 v=some (n,f)) (ha:me f n s):bt v (nj (fun i=>s6 (f i)) n s):=by
 unfold o9 at h
 split at h
 ·simp only[Option.some.injEq,Prod.mk.injEq]at h
  obtain⟨rfl,rfl⟩:=h
  exact kG ha
 ·simp only[Option.some.injEq,Prod.mk.injEq]at h
  obtain⟨rfl,rfl⟩:=h
  exact iT (by omega)
 ·simp at h
theorem Va {h:Pl} {s:Nat}:bu T E7 [] 80 sW (au sW) ⟨aM 0 [cP h s],[],0⟩=
  let c8:Int:=(↑(3:Nat):Int);let c7:Int:=(↑(4:Nat):Int);let c5:Int:=(2:Int)^63;let c4:Prop:=s<2^42;let c2:Prop:=0<1;let c1:Int:=(0:Int)+(1:Int);let c6:Int:=c1+(1:Int);let c3:Prop:=(0:Int)≤(3:Int)∧(3:Int)<c7;some (ag [c3,c2,c4,(1:Nat)<2^42,c2] (ag [(0:Int)≤(0:Int)∧(0:Int)<c7,c2,c3,c2,c4,c4,(0:Int)≤(0:Int)∧(0:Int)<c8,c2] (ag [-c5≤c1∧c1<c5] (ag [(0:Int)≤c1∧c1<c7,c2,c3,c2,c4,c4,(0:Int)≤c1∧c1<c8,c2] (ag [-c5≤c6∧c6<c5] (ag [(0:Int)≤c6∧c6<c7,c2,c3,c2,c4,c4,(0:Int)≤c6∧c6<c8,c2] (ag [-c5≤c6+(1:Int)∧c6+(1:Int)<c5] (ag [c2,c2] (ag [c2] (leaf ret [agg [agg [rat (h.n.x/h.d) (s+s),rat (h.n.y/h.d) (s+s),rat (h.n.z/h.d) (s+s)],rat (h.d+0) (s+1+1)]])))))))))):=by kernel_rfl
theorem K5 {c:Cu} {x r:Nat}:aJ T xQ [] 60 tc (before rL [1,1,0,1]) ⟨aM 0 [eM c x r],[],0⟩=
  let c2:Prop:=0<1;let c1:AV:=agg [int i64 (0:Int),nil,nil];some (ag [c2,c2,c2] (ag [c2] (leaf normal ([ptr 4096 0 3 0 [],ptr 28672 0 3 0 [],aq 12 c.m fun i↦agg [agg [rat (c.f i).n.x r,rat (c.f i).n.y r,rat (c.f i).n.z r],rat (c.f i).d r],int i64 (↑c.m:Int),int i64 (0:Int)],[((28672:Nat),ak.mk false true 3 1 fun j↦if(j==0)=true then bH (agg ((c1.kids.set 0 (bH (int i64 c.p))).set 1 (bH (bM c.k c.n x))))else c1),((4096:Nat),ak.mk false true 3 1 fun x↦c1)])))):=by kernel_rfl
theorem Qg {c:Cu} {x r w i:Nat}:aJ T xQ [15] 60 tc [part rL [1,1,0,1,0,0]] ⟨aD tc (zL c r i),An c x w i,3⟩=
  let c17:Int:=(↑c.m:Int);let c16:Int:=(↑(3:Nat):Int);let c15:AV:=own 2 12 0 i;let c14:AV:=ptr 1 0 3 0 [];let c13:AV:=ptr 0 0 3 0 [];let c12:Int:=(↑(4:Nat):Int);let c11:Int:=(↑i:Int);let c10:AV:=rat 0 1;let c7:Nat×ak:=((0:Nat),ak.mk false true 3 1 fun x↦agg [int i64 (0:Int),nil,nil]);let c5:AV:=aq 12 c.m fun i↦agg [agg [rat (c.f i).n.x r,rat (c.f i).n.y r,rat (c.f i).n.z r],rat (c.f i).d r];let c4:Int:=(2:Int)^63;let c3:Prop:=r<2^42;let c2:Int:=(0:Int)+(1:Int);let c1:Prop:=0<1;let c18:Int:=c11+(1:Int);let c9:AV:=agg [int i64 c.p,bM c.k c.n x,c15];let c8:Int:=c2+(1:Int);let c6:Pl:=c.f c11.toNat;some (fork (decide (c11<c17)) (ag [(0:Int)≤c11∧c11.toNat<c.m,c1] (ag [c1,c1,c1,(0:Int)≤(0:Int)∧(0:Int)<c16,c1,c1,c1,c3,c3,(0:Int)≤(0:Int)∧(0:Int)<c12,c1,-c4≤c2∧c2<c4,(0:Int)≤c2∧c2<c16,c1,c1,c1,c3,c3,(0:Int)≤c2∧c2<c12,c1,-c4≤c8∧c8<c4,(0:Int)≤c8∧c8<c16,c1,c1,c1,c3,c3,(0:Int)≤c8∧c8<c12,c1,-c4≤c8+(1:Int)∧c8+(1:Int)<c4,c1,c3,(1:Nat)<2^42,(0:Int)≤(3:Int)∧(3:Int)<c12,c1,c1,c1,c1,(1:Nat)*12≤2^24,(i+1)*((224:Nat)+1)*2≤2^47,c1] (ag [-c4≤c18∧c18<c4] (leaf normal ([c13,c14,c5,int i64 c17,int i64 c18],[((40963:Nat),ak.mk true true 12 (i+1) fun i_1↦if i_1<i then cP (gQ (c.f i_1)) w else nth [agg [rat (c6.d*c6.n.x) (r+r),rat (c6.d*c6.n.y) (r+r),rat (c6.d*c6.n.z) (r+r),rat (c6.d+0) (r+1+1)]] (agg [c10,c10,c10,c10]) (i_1-i+0)),((1:Nat),ak.mk false true 3 1 fun j↦if(j==0)=true then agg (c9.kids.set 2 (bH (own (nat_lit 40962+1) 12 0 (i+1))))else c9),c7]))))) (leaf (exit 0) ([c13,c14,c5,int i64 c17,int i64 c11],[((2:Nat),ak.mk true true 12 i fun j↦agg [rat ((c.f j).d*(c.f j).n.x) w,rat ((c.f j).d*(c.f j).n.y) w,rat ((c.f j).d*(c.f j).n.z) w,rat (c.f j).d w]),((1:Nat),ak.mk false true 3 1 fun x_1↦agg [int i64 c.p,aq 3 c.n fun i↦rat (c.k i) x,c15]),c7]))):=by kernel_rfl
theorem TH {c:Cu} {x r w i:Nat}:b7 T xQ [] 60 tT [part rL [1,1,1]] ⟨aD tc (zL c r i),An c x w i,3⟩=
  let c1:Prop:=0<1;some (ag [c1,c1] (ag [c1] (leaf ret [agg [int i64 c.p,aq 3 c.n fun i↦rat (c.k i) x,aq 12 i fun i↦agg [rat ((c.f (i+0)).d*(c.f (i+0)).n.x) w,rat ((c.f (i+0)).d*(c.f (i+0)).n.y) w,rat ((c.f (i+0)).d*(c.f (i+0)).n.z) w,rat (c.f (i+0)).d w]]]))):=by kernel_rfl
theorem Ln {c:Cu} {r:Nat} {t:Rat}:aJ T xx [25,34] 60 sx (before ox [1,1,1,1,0,1]) ⟨aM 0 [eJ c sK r,.rat t sK],[],0⟩=
  let c16 : Nat := cy c.n (fun i ↦ aZ (rat (c.k i) sK)) t; let c15 : Prop := dQ c.n (fun i ↦ aZ (rat (c.k i) sK)) t; let c14 : AV := ptr 8192 0 12 0 []; let c13 : AV := ptr 16384 0 12 0 []; let c12 : AV := ptr 0 0 (bH (eJ c sK r)).size 0 []; let c11 : AV := rat 0 1; let c10 : Prop := 0 < 1; let c8 : Bool := dU c.n (fun i ↦ aZ (rat (c.k i) sK)) t != (0 : Int); let c6 : Nat × ak := ((0 : Nat), ak.mk false true (bH (eJ c sK r)).size 1 fun x ↦ agg [int i64 c.p, aq 3 c.n fun i ↦ rat (c.k i) 4096, aq 12 c.m fun i ↦ agg [rat (c.f i).n.x r, rat (c.f i).n.y r, rat (c.f i).n.z r, rat (c.f i).d r]]); let c7 : Nat := if c15 then 0 else c.p.toNat + 1; let c5 : Int := if c15 then (0 : Int) else (↑c16 : Int) - (↑c.p.toNat : Int); let c4 : AV := agg [c11, c11, c11, c11]; let c9 : ak := ak.mk false true 12 1 fun x ↦ c4; let c3 : Int := c5 + (↑c7 : Int); let c2 : aa (List AV × aA) := leaf normal ([c14, int i64 (0 : Int), c12, c13, int i64 c5, aq 3 c7 fun j ↦ rat (vB (fun i ↦ aZ (rat (c.k i) sK)) c16 t c.p.toNat j) 268435456, int i64 (↑c7 : Int), int i64 (0 : Int)], [((16384 : Nat), c9), c6, ((8192 : Nat), c9)]); let c1 : aa (List AV × aA) := ag [c10] (leaf ret ([c14, int i64 (7 : Int), c12, c13, int i64 c5, tuple [], tuple [], tuple []], [((16384 : Nat), c9), c6, ((8192 : Nat), ak.mk false true 12 1 fun j ↦ if (j == 0) = true then bH (agg c4.kids) else c4)])); some (ag [c10, c10, c10, cj (fun i ↦ rat (c.k i) sK) c.n sK, sK ≤ sK, Kn c.n c.p.toNat fun i ↦ aZ (rat (c.k i) sK), (0 : Int) ≤ c.p, c.p ≤ (6 : Int), c.n < 2 ^ 40] (fork c8 (ag [c8 = true] (fork true c1 c2)) (ag [c8 = false, -(2 : Int) ^ 63 ≤ c3 ∧ c3 < (2 : Int) ^ 63, c10] (fork (bif false then true else decide (c3 > (↑c.m : Int))) c1 c2)))) := by kernel_rfl
theorem XQ {c:Cu} {h:Pl} {p i j s r:Nat} {x:Nat→Rat}:aJ T xx [39] 60 sx [part ox [1,1,1,1,0,1,0,0]] ⟨aD sx (yC p i x j),[(2,jv h s),(1,jv ⟨⟨0,0,0⟩,0⟩ 1),(0,mc c r)],3⟩=
  let c29:Int:=(↑i:Int)-(↑p:Int);let c26:AV:=ptr 0 0 3 0 [];let c24:AV:=ptr 2 0 12 0 [];let c23:AV:=ptr 1 0 12 0 [];let c21:AV:=rat 0 1;let c20:Int:=(↑(p+1):Int);let c19:AV:=aq 3 (p+1) fun j↦rat (x j) 268435456;let c16:Int:=(↑j:Int);let c15:Bool:=0==0;let c10:Int:=(↑(4:Nat):Int);let c9:Int:=(0:Int)+(1:Int);let c8:Nat:=2^42;let c7:Prop:=0<1;let c6:Int:=(2:Int)^63;let c33:Prop:=sV+r<c8;let c32:Rat:=x c16.toNat;let c31:Int:=c16+(1:Int);let c28:Prop:=(0:Int)≤c9∧c9<c10;let c18:Prop:=(0:Int)≤(0:Int)∧(0:Int)<c10;let c4:List (Nat×ak):=[((0:Nat),ak.mk false true 3 1 fun x↦agg [int i64 c.p,aq 3 c.n fun i↦rat (c.k i) 4096,aq 12 c.m fun i↦agg [rat (c.f i).n.x r,rat (c.f i).n.y r,rat (c.f i).n.z r,rat (c.f i).d r]]),((1:Nat),ak.mk false true 12 1 fun x↦agg [c21,c21,c21,c21])];let c3:Int:=c9+(1:Int);let c2:Int:=c29+c16;let c30:Pl:=c.f c2.toNat;let c27:Prop:=(0:Int)≤c3∧c3<c10;let c25:Prop:=-c6≤c2∧c2<c6;let c17:Prop:=(0:Int)≤c2∧c2.toNat<c.m;let c12:Int:=c3+(1:Int);let c22:Prop:=(0:Int)≤c12∧c12<c10;let c11:AV:=agg ((cP h s).kids.set (Int.toNat (0:Int)) (bH (mK (h.n.x,s) (c32*c30.n.x,sV+r))));let c5:AV:=if c15=true then c11 else cP h s;let c13:AV:=agg (c5.kids.set c9.toNat (bH (mK (h.n.y,s) (c32*c30.n.y,sV+r))));let c1:AV:=if c15=true then c13 else c5;let c14:AV:=agg (c1.kids.set c3.toNat (bH (mK (h.n.z,s) (c32*c30.n.z,sV+r))));some (fork (decide (c16<c20)) (ag [(0:Int)≤c16∧c16.toNat<p+1,c7] (ag [c18,c7,c7,c7,c25,c17,c18,sV<c8,r<c8,s<c8,c33,c18,c7] (ag [-c6≤c9∧c9<c6] (ag [c28,c7,c7,c7,c25,c17,c28,sV<c8,r<c8,s<c8,c33,c28,c7] (ag [-c6≤c3∧c3<c6] (ag [c27,c7,c7,c7,c25,c17,c27,sV<c8,r<c8,s<c8,c33,c27,c7] (ag [-c6≤c12∧c12<c6] (ag [c22,c7,c7,c7,c25,c17,c22,sV<c8,r<c8,s<c8,c33,c22,c7] (ag [-c6≤c12+(1:Int)∧c12+(1:Int)<c6] (ag [-c6≤c31∧c31<c6] (leaf normal ([c23,int i64 (0:Int),c26,c24,int i64 c29,c19,int i64 c20,int i64 c31],((2:Nat),ak.mk false true 12 1 fun j↦if(j==0)=true then agg ((if c15=true then c14 else c1).kids.set c12.toNat (bH (mK (h.d,s) (c32*c30.d,sV+r))))else if(j==0)=true then c14 else if(j==0)=true then c13 else if(j==0)=true then c11 else cP h s)::c4)))))))))))) (leaf (exit 0) ([c23,int i64 (0:Int),c26,c24,int i64 c29,c19,int i64 c20,int i64 c16],((2:Nat),ak.mk false true 12 1 fun x↦agg [rat h.n.x s,rat h.n.y s,rat h.n.z s,rat h.d s])::c4))):=by kernel_rfl
theorem PM {c:Cu} {h:Pl} {p i j s r:Nat} {x:Nat→Rat}:b7 T xx [] 60 ng [part ox [1,1,1,1,1]] ⟨aD sx (yC p i x j),[(2,jv h s),(1,jv ⟨⟨0,0,0⟩,0⟩ 1),(0,mc c r)],3⟩=
  let c1:Prop:=0<1;some (ag [c1,c1] (ag [c1] (leaf ret [agg [rat h.n.x s,rat h.n.y s,rat h.n.z s,rat h.d s],int i64 (0:Int)]))):=by kernel_rfl
theorem Jz:bp P GI:=dN gM
theorem O8:bp P xQ:=dN (aK (Ev hT Jz hm PR _ _) gM)
theorem QJ:bp P E7:=dN (aK (mL fun _ _ K hn=>Bx hn.1 hn.2 K) gM)
theorem GP:bp P xx:=dN (aK Zq gM)
theorem BJ {rl:List (Nat×Nat)} {l i:Nat} {f g:Nat→AV} {v z:AV} (hf:∀i,i<l→f i=g i∧keys (f i)=[]) (hk:keys v=[]) (hv:bt v (g l)) (hi:i<l+1):fP rl (if i<l then f i else nth [v] z (i-l+0)) (g i):=by
 by_cases h:i<l
 ·rw[if_pos h];exact aP (hf i h).2 (hf i h).1
 ·have:i=l:=by omega
  subst this
  rw[if_neg h,Nat.sub_self]
  exact .inr ⟨hk,hv⟩
theorem qd {rl:List (Nat×Nat)} {p:Int} {v:AV} {a b i:Nat} (hv:keys v=[]) (ht:v.isTuple=false) (h:bf rl b=some a):fP rl (.agg [.int .i64 p,v,.own a 12 0 i]) (.agg [.int .i64 p,v,.own b 12 0 i]):=
 pD ⟨⟨rfl,aF rfl⟩,⟨ht,aF hv⟩,⟨rfl,ct h rfl rfl⟩,trivial⟩
theorem wo {h h':Pl} {s s':Nat} (e:h=h') (hs:s≤s'):bt (cP h s) (cP h' s'):=e▸dJ ⟨bP rfl hs,bP rfl hs,bP rfl hs,bP rfl hs,trivial⟩
theorem H8 {h:Pl} {s w:Nat} (hs:s<2^40) (h1:s+s≤w) (h2:s+2≤w) (K:Nat):aB P nk K [cP h s] [] (aG (cz (gD h) w) []):=by
 refine bE (r:=aG (cz (gD h) w) []) hT QJ hm Qi rfl (of_decide_eq_true (by kernel_rfl)) rfl 80 Va (fun _=>?_) K []
 simp only[aa.all,az]
 (repeat' with_reducible refine And.intro ?_ ?_)
 all_goals first|omega|skip
 exact dJ ⟨dJ ⟨bP rfl h1,bP rfl h1,bP rfl h1,trivial⟩,bP (Rat.add_zero _) (by omega),trivial⟩
theorem Iw {c:Cu} {x r w:Nat} (h1:r+r≤w) (h2:r+2≤w) (hw:w<2^40) (hn:c.n<2^40) (hm2:c.m<2^30) (K:Nat):aB P nC K [eM c x r] [] (aG (.agg [.int .i64 c.p,bM c.k c.n x,nj (fun i=>gQ (c.f i)) c.m w]) []):=by
 refine gJ (r:=aG (.agg [.int .i64 c.p,bM c.k c.n x,nj (fun i=>gQ (c.f i)) c.m w]) []) hT O8 hm QV rfl (of_decide_eq_true (by kernel_rfl)) rfl [1,1,0,1] (i:=0) (y:=part rL [1,1,0,1,0,0]) (z:=part rL [1,1,1]) (by kernel_rfl) (by kernel_rfl) (by kernel_rfl) (f1:=[]) (f2:=[15]) (f3:=[]) 60 tc 3
  (fun i:Nat=>zL c r i) (fun i=>An c x w i) (fun i=>i≤c.m) (fun i=>i=c.m) (fun i=>c.m-i) (fun _=>⟨⟨_,K5,?_⟩,fun i hi=>⟨_,Qg,?_⟩,fun i hi=>⟨_,TH,?_⟩⟩) K []
 ·simp only[aa.all,az]
  exact⟨by omega,by omega,0,Nat.zero_le _,[(0,4096),(1,28672)],rfl,rfl,rfl,wK rfl (by omega) (by omega) (bk rfl rfl (pD ⟨⟨rfl,aF rfl⟩,⟨rfl,aF rfl⟩,⟨rfl,sy (by omega)⟩,trivial⟩) (bk rfl rfl (aP rfl rfl) trivial))⟩
 ·set_option maxRecDepth 10000 in simp only[aa.all,az,decide_eq_true_eq,decide_eq_false_iff_not,Int.toNat_natCast,Nat.add_zero]
  refine⟨fun h=>⟨by omega,by omega,by omega,i+1,by omega,by dsimp only;omega,[(0,0),(1,1),(2,40963)],rfl,rfl,rfl,bF rfl rfl rfl (fun j hj=>BJ (g:=fun j=>cP (gQ (c.f j)) w) (fun _ _=>⟨rfl,rfl⟩) rfl (dJ ⟨bP rfl h1,bP rfl h1,bP rfl h1,bP (Rat.add_zero _) (by omega),trivial⟩) hj) (bk rfl rfl (qd rfl rfl rfl) (bk rfl rfl (aP rfl rfl) trivial))⟩,
   fun h=>⟨rfl,i,by omega,[(0,0),(1,1),(2,2)],rfl,rfl,rfl,bF rfl rfl rfl (fun _ _=>aP rfl rfl) (bk rfl rfl (qd rfl rfl rfl) (bk rfl rfl (aP rfl rfl) trivial))⟩⟩
 ·subst hi
  simp only[aa.all,az]
  exact⟨by omega,by omega,.refl _⟩
theorem Ra {c:Cu} {r:Nat}:jr T ng .ret ⟨aD [4,5,2,6] [.ptr 8192 0 12 0 [],.int .i64 7,.ptr 0 0 3 0 [],.ptr 16384 0 12 0 []],[(16384,⟨false,true,12,1,fun _=>.agg [.rat 0 1,.rat 0 1,.rat 0 1,.rat 0 1]⟩),(0,mc c r),(8192,⟨false,true,12,1,fun j=>if(j==0)=true then bH (.agg (AV.kids (.agg [.rat 0 1,.rat 0 1,.rat 0 1,.rat 0 1])))else .agg [.rat 0 1,.rat 0 1,.rat 0 1,.rat 0 1]⟩)],16385⟩=
  let c1:AV:=rat 0 1;some (ag [(0:Nat)<1] (leaf ret [agg [c1,c1,c1,c1],int i64 (7:Int)])):=by kernel_rfl
def jZ (c:Cu) (t:Rat):Pl:=if dQ c.n c.k t then⟨⟨0,0,0⟩,0⟩else Eu c.f (vB c.k (cy c.n c.k t) t c.p.toNat) (cy c.n c.k t-c.p.toNat) (c.p.toNat+1)
theorem Ny {c:Cu} {t:Rat} {r s:Nat} (hr:1+7*(sV+r+1)≤s) (hs:s<2^40) (hk:Kn c.n c.p.toNat c.k) (h0:0≤c.p) (h6:c.p≤6) (hn:c.n<2^40) (hm2:(c.m:Int)=(c.n:Int)-c.p-1) (K:Nat):aB P r7 K [eJ c sK r,.rat t sK] [] (aG (.tuple [cP (jZ c t) s,.int .i64 (dU c.n c.k t)]) []):=by
 refine fZ (r:=aG (.tuple [cP (jZ c t) s,.int .i64 (dU c.n c.k t)]) []) hT HS rfl (of_decide_eq_true (by kernel_rfl)) rfl (fun _ cx h00=>?_) K []
 have hkp:=um h00
 obtain⟨q,hq⟩:∃q,q=c.p.toNat:=⟨_,rfl⟩
 have hq2:c.p=(q:Int):=by omega
 obtain⟨i,hi⟩:∃i,i=cy c.n c.k t:=⟨_,rfl⟩
 obtain⟨x,hx⟩:∃x,x=vB c.k i t q:=⟨_,rfl⟩
 have h1:sK=4096:=rfl
 have h2:sV=268435456:=rfl
 have z0:1+0*(sV+r+1)=1:=by omega
 have zle:∀j,j≤7→1+j*(sV+r+1)≤s:=fun j hj=>by
  have:=Nat.mul_le_mul_right (sV+r+1) hj
  omega
 refine aj.rj hT GP hm (x:=ox) [1,1,1,1,0,1] (i:=0) (y:=part ox [1,1,1,1,0,1,0,0]) (z:=part ox [1,1,1,1,1]) (by kernel_rfl) (by kernel_rfl) (by kernel_rfl) HS.dst hkp (f1:=[25,34]) (f2:=[39]) 60 sx 3 (fun j:Nat=>yC q i x j) (fun j=>[(2,jv (Eu c.f x (i-q) j) (1+j*(sV+r+1))),(1,jv ⟨⟨0,0,0⟩,0⟩ 1),(0,mc c r)])
  (fun j=>j≤q+1∧¬dQ c.n c.k t) (fun j=>j=q+1∧¬dQ c.n c.k t) (fun j=>q+1-j) (Bh T ng [4,5,2,6] (.tuple [cP (jZ c t) s,.int .i64 (dU c.n c.k t)])) ⟨_,Ln,?_⟩ (fun j ⟨hj,hin⟩=>⟨_,XQ,?_⟩) (fun j ⟨hj,hin⟩=>?_) (fun v s' hv hs'=>hv.fin (L1:=[7,36,37,38]) hkp hs')
 ·simp only[aa.all,az,tS,bne_iff_ne,ne_eq,bne_eq_false_iff_eq]
  have hko:dQ c.n (fun i=>c.k i) t=dQ c.n c.k t:=rfl
  have hkE:dU c.n (fun i=>c.k i) t=dU c.n c.k t:=rfl
  have hkI:cy c.n (fun i=>c.k i) t=cy c.n c.k t:=rfl
  simp only[hko,hkE,hkI]
  refine⟨⟨by omega,by omega,by omega,dc (Nat.le_refl _),Nat.le_refl _,hk,h0,h6,hn⟩,fun hout=>⟨hout,fun _=>⟨by omega,?_⟩,fun h=>absurd h (by decide)⟩,fun he=>?_⟩
  ·have ho:=DT hout
   refine⟨[_,_,_,_],_,16385,_,rfl,rfl,rfl,Ra,rfl,⟨⟨by omega,fun i _=>rfl⟩,⟨by omega,fun i _=>rfl⟩,⟨by omega,fun i _=>Ab rfl rfl⟩,trivial⟩,Nat.zero_lt_one,?_⟩
   exact⟨wo (h:=⟨⟨0,0,0⟩,0⟩) (by unfold jZ;rw[if_pos ho]) (by omega),bh (by unfold dU;rw[if_pos ho]),trivial⟩
  ·have hin:=HG he
   have hiv:=hk.AZ hin
   simp only[if_neg hin]
   refine⟨⟨he,by omega,by omega⟩,fun h=>?_,fun _=>⟨0,⟨Nat.zero_le _,hin⟩,[(0,0),(1,8192),(2,16384)],rfl,?_,rfl,bk rfl rfl (aP rfl (by rw[z0];rfl)) (bk rfl rfl (aP rfl rfl) (bk rfl rfl (aP rfl rfl) trivial))⟩⟩
   ·exfalso
    rw[cond_false,decide_eq_true_eq]at h
    omega
   ·show _=(yC q i x 0).map _
    rw[hx,hq,hi];rfl
 ·have hiv:=hk.AZ hin
  rw[←hi,←hq]at hiv
  simp only[aa.all,az,decide_eq_true_eq,decide_eq_false_iff_not,show((i:Int)-q+j).toNat=i-q+j by omega,Int.toNat_natCast]
  refine⟨fun h=>?_,fun h=>⟨rfl,j,⟨by omega,hin⟩,[(0,0),(1,1),(2,2)],rfl,rfl,rfl,bk rfl rfl (aP rfl rfl) (bk rfl rfl (aP rfl rfl) (bk rfl rfl (aP rfl rfl) trivial))⟩⟩
  have hz:=zle j (by omega)
  have hzS:1+(j+1)*(sV+r+1)=1+j*(sV+r+1)+(sV+r+1):=by rw[Nat.add_mul,Nat.one_mul];omega
  have hz2:=zle (j+1) (by omega)
  generalize 1+j*(sV+r+1)=zj at*
  (repeat' with_reducible refine And.intro ?_ ?_)
  all_goals first|omega|skip
  exact⟨j+1,⟨by omega,hin⟩,by dsimp only;omega,[(0,0),(1,1),(2,2)],rfl,rfl,rfl,bk rfl rfl (.inr ⟨rfl,dJ ⟨bP rfl (by omega),bP rfl (by omega),bP rfl (by omega),bP rfl (by omega),trivial⟩⟩) (bk rfl rfl (aP rfl rfl) (bk rfl rfl (aP rfl rfl) trivial))⟩
 ·subst hj
  refine aj.p6 ((aC.fin hT GP hm 60 PM (by kernel_rfl) ?_).mono fun _ _ h=>.inl h)
  simp only[aa.all,az]
  have hz:=zle (q+1) (by omega)
  refine⟨by omega,by omega,?_,bh (by unfold dU;rw[if_neg hin]),trivial⟩
  exact wo (by unfold jZ;rw[if_neg hin,←hi,←hq,←hx]) hz
def qP (s r:Nat):Kind Cu:=⟨fun v=>match v with
 |.agg [p,k,f]=>match kI.read p,(kL s).read k,o9 f with
  |some (p,q1),some ((n,k),q2),some (m,f)=>some (⟨p,n,k,m,fun i=>s6 (f i)⟩,q1++(q2++[me f m r]))
  |_,_,_=>none
 |_=>none,fun a=>eJ a s r,fun {v a q} h hq=>by
  split at h
  ·split at h
   ·rename_i h1 h2 h3
    simp only[Option.some.injEq,Prod.mk.injEq]at h
    obtain⟨rfl,rfl⟩:=h
    obtain⟨q1,hq⟩:=dA.1 hq
    obtain⟨q2,q3⟩:=dA.1 hq
    exact dJ ⟨kI.ok h1 q1,(kL s).ok h2 q2,Vz h3 q3,trivial⟩
   ·simp at h
  ·simp at h⟩
def CW:Spec:=cS (kC (kV sJ sJ) kN) (fun a=>eJ ⟨a.1.p,a.1.n,a.1.k,a.1.m,fun i=>gQ (a.1.f i)⟩ sJ (sJ+sJ)) fun a=>[a.1.n<2^40,a.1.m<2^30]
def Ff:Spec:=cS (kC (qP sK (sJ+sJ)) (kC (jo sK) kN)) (fun a=>.tuple [cP (jZ a.1 a.2.1) sH,.int .i64 (dU a.1.n a.1.k a.2.1)]) fun a=>[Kn a.1.n a.1.p.toNat a.1.k,0≤a.1.p,a.1.p≤6,a.1.n<2^40,(a.1.m:Int)=(a.1.n:Int)-a.1.p-1]
def DW:Spec:=cS (kC (DA sH) kN) (fun a=>cz (gD a.1) sE) fun _=>[]
def ek (c:Cu):Prop:=Kn c.n c.p.toNat c.k∧1≤c.p∧c.p≤6∧c.n≤c.p.toNat+41∧(c.m:Int)=(c.n:Int)-c.p-1
noncomputable def Hu:aT:=nG::(qi,zV)::(nV,uv)::[]
def wF:Spec:=cS (kC (kV sJ sJ) kN) (fun _=>.bool true) fun a=>[ek a.1]
noncomputable def GC:aT:=nG::(oP,wF)::(nC,CW)::(r7,Ff)::(nk,DW)::[]
theorem I6 {c:Cu}:bu T Hu [100009] 60 tv (au tv) ⟨aM 0 [eM c sJ sJ],[],0⟩=
  let c2:Prop:=c.n<2^40;let c1:Prop:=0<1;some (ag [c1,c1,cj (fun i↦rat (c.k i) sJ) c.n sJ,c2,(fc c.n (fun i↦aZ (rat (c.k i) sJ)) c.p==(0:Int))=true,c1,c1,c1,cj (fun i↦rat (c.k i) sJ) c.n sK,c2,-(2:Int)^40<c.p,c.p<(2:Int)^40] (leaf ret [AV.bool (bif true then(↑c.m:Int)==(↑c.n:Int)-c.p-(1:Int)else false)])):=by kernel_rfl
theorem Y8 {c:Cu} {t:Rat}:bu T GC [20] 60 sD (au sD) ⟨aM 0 [eM c sJ sJ,.rat t sK],[],0⟩=
  let c7 : Prop := c.n < 2 ^ 40; let c6 : Prop := gO (fun i ↦ cz (c.f i) sJ) c.m sJ; let c5 : Prop := cj (fun i ↦ rat (c.k i) sJ) c.n sJ; let c4 : AV := rat 0 1; let c3 : Int := dU c.n (fun i ↦ aZ (rat (aZ (rat (c.k i) sJ)) sJ)) t; let c2 : Prop := 0 < 1; let c1 : Pl := jZ (Cu.mk c.p c.n (fun i ↦ aZ (rat (aZ (rat (c.k i) sJ)) sJ)) c.m fun i ↦ s6 (cP (gQ (ic (cz (c.f i) sJ))) (sJ + sJ))) t; some (ag [c2, c5, c6, ek (Cu.mk c.p c.n (fun i ↦ aZ (rat (c.k i) sJ)) c.m fun i ↦ ic (cz (c.f i) sJ))] (ag [c2, c5, c6, c7, c.m < 2 ^ 30, c2, cj (fun i ↦ rat (aZ (rat (c.k i) sJ)) sJ) c.n sK, me (fun i ↦ cP (gQ (ic (cz (c.f i) sJ))) (sJ + sJ)) c.m (sJ + sJ), sK ≤ sK, Kn c.n c.p.toNat fun i ↦ aZ (rat (aZ (rat (c.k i) sJ)) sJ), (0 : Int) ≤ c.p, c.p ≤ (6 : Int), c7, (↑c.m : Int) = (↑c.n : Int) - c.p - (1 : Int), c2] (fork (c3 != (0 : Int)) (ag [c2] (ag [c2] (leaf ret [agg [c4, c4, c4], int i64 c3]))) (ag [c2, sH ≤ sH, sH ≤ sH, sH ≤ sH, sH ≤ sH, c2] (ag [c2] (leaf ret [agg [rat (c1.n.x / c1.d) 4294967298, rat (c1.n.y / c1.d) 4294967298, rat (c1.n.z / c1.d) 4294967298], int i64 (0 : Int)])))))) := by kernel_rfl
theorem Tv:∀K args pre r,CW K args pre=some r→aB P nC K args pre r:=cZ fun⟨c,_⟩ K hn=>Iw (Nat.le_refl _) (by decide) (by decide) hn.1 hn.2 K
theorem R4:∀K args pre r,Ff K args pre=some r→aB P r7 K args pre r:=cZ fun⟨c,t,_⟩ K hn=>Ny (by decide) (by decide) hn.1 hn.2.1 hn.2.2.1 hn.2.2.2.1 hn.2.2.2.2 K
theorem L9:∀K args pre r,DW K args pre=some r→aB P nk K args pre r:=cZ fun⟨h,_⟩ K _=>H8 (by decide) (by decide) (by decide) K
theorem UW:bp P Hu:=dN (aK GB (aK yu br))
theorem B0:∀K args pre r,wF K args pre=some r→aB P oP K args pre r:=cZ fun⟨c,_⟩ K hn=>by
 obtain⟨h1,h2,h3,h4,h5⟩:ek c:=hn
 refine bE (r:=aG (.bool true) []) hT UW hm I1 rfl (of_decide_eq_true (by kernel_rfl)) rfl 60 I6 (fun _=>?_) K []
 have hc0:fc c.n c.k c.p=0:=by have:=h1.ET (by omega) h4;rwa [Int.toNat_of_nonneg (by omega)]at this
 simp only[aa.all,az]
 exact⟨⟨by omega,by omega,dc (Nat.le_refl _),by omega,beq_iff_eq.2 hc0,by omega,by omega,by omega,dc (by decide),by omega,by omega,by omega⟩,eI (beq_iff_eq.2 h5)⟩
theorem V7:bp P GC:=dN (aK B0 (aK Tv (aK R4 (aK L9 br))))
theorem div_one {a b:Rat}:a/b=((1:Int):Rat)/b*a:=by
 rw[Rat.div_def,Rat.div_def,show((1:Int):Rat)=1 from rfl,Rat.one_mul,Rat.mul_comm]
theorem IK {h:Pl}:(gD h).n=Fo h:=by
 show V3.mk (h.n.x/h.d) (h.n.y/h.d) (h.n.z/h.d)=V3.mk _ _ _
 rw[div_one (a:=h.n.x),div_one (a:=h.n.y),div_one (a:=h.n.z)]
def HN:Spec:=cS (kC (kV sJ sJ) (kC (jo sK) kN)) (fun a=>.tuple [vA (xw a.1 a.2.1) sE,.int .i64 (dU a.1.n a.1.k a.2.1)]) fun a=>[ek a.1]
theorem Xd:∀K args pre r,HN K args pre=some r→aB P ym K args pre r:=cZ fun⟨c,t,_⟩ K hn=>by
 have hc:ek c:=hn
 obtain⟨h1,h2,h3,h4,h5⟩:=id hc
 refine bE (r:=aG (.tuple [vA (xw c t) sE,.int .i64 (dU c.n c.k t)]) []) hT V7 hm Yx rfl (of_decide_eq_true (by kernel_rfl)) rfl 60 Y8 (fun _=>?_) K []
 have e1:dU c.n (fun i=>aZ (rat (aZ (rat (c.k i) sJ)) sJ)) t=dU c.n c.k t:=rfl
 simp only[aa.all,az,e1,bne_iff_ne,ne_eq,bne_eq_false_iff_eq]
 refine⟨⟨by omega,dc (Nat.le_refl _),iC (Nat.le_refl _),hc⟩,⟨by omega,dc (Nat.le_refl _),iC (Nat.le_refl _),by omega,by omega,by omega,dc (by decide),fun _ _=>.refl _,Nat.le_refl _,h1,by omega,h3,by omega,h5,by omega⟩,fun hout=>⟨by omega,by omega,?_⟩,fun hin=>⟨⟨by omega,Nat.le_refl _,Nat.le_refl _,Nat.le_refl _,Nat.le_refl _,by omega⟩,by omega,?_⟩⟩
 ·refine⟨yG (u:=⟨0,0,0⟩) (by unfold xw;rw[if_pos (DT hout)]) (by decide),.refl _,trivial⟩
 ·have ho:=HG hin
  refine⟨yG (u:=(gD (jZ ⟨c.p,c.n,c.k,c.m,fun i=>gQ (c.f i)⟩ t)).n) ?_ (by decide),bh hin.symm,trivial⟩
  rw[IK]
  unfold xw jZ
  rw[if_neg ho,if_neg ho];rfl
end Go.Am.B

/- ref09.Sum; contracts of sums. -/
namespace Go.Am.B
open Go Go.Am.N AV aa ah IntKind
end Go.Am.B

/- basis.Blossom. -/
namespace Go.Am.B
open Go Go.Am.N AV aa ah IntKind
theorem FM:aN P wB iN (au iN):=aO Oa (by kernel_rfl) (by kernel_rfl) (by kernel_rfl)
def nh:aT:=nG::(nV,uv)::(rO,Aj)::fN
noncomputable abbrev xu:Code:=au iN
noncomputable abbrev nZ:Code:=part xu [1,1,1,1,0,1,0,0]
noncomputable abbrev s4:Code:=part nZ [1,1,0,0]
abbrev sB:Nat:=536870912
theorem tU:bp P nh:=dN (aK yu (aK Ex gM))
def ga (n:Nat) (k:Nat→Rat) (p m l:Nat) (i:Int):Int:=if(m:Int)≠(n:Int)-p-1∨l≠p then 1 else if i<p∨(m:Int)≤i∨k (i.toNat+1)≤k i.toNat then 7 else 0
def kK (n:Nat) (k:Nat→Rat) (p m:Nat) (c:Nat→Rat) (i:Int) (l:Nat) (a:Nat→Rat):Rat:=if ga n k p m l i=0 then bR k (i.toNat-p) p a (fun j=>c (i.toNat-p+j)) p p else 0
abbrev CX (n:Nat) (k:Nat→Rat) (p m:Nat) (c:Nat→Rat) (i:Int) (l:Nat) (a:Nat→Rat):AV:=.tuple [.rat (kK n k p m c i l a) sB,.int .i64 (ga n k p m l i)]
theorem Ug {n p m l:Nat} {k c a:Nat→Rat} {i e:Int} (h:ga n k p m l i=e) (he:e≠0):dY [.agg [.bool false,.mag 0,.mag 0],.int .i64 e] (CX n k p m c i l a):=
 ⟨by unfold kK;rw[if_neg (by rw[h];exact he)];exact jH,bh h.symm,trivial⟩
theorem CL {n p m l:Nat} {k:Nat→Rat} {i:Int} (h:(m:Int)≠(n:Int)-p-1∨l≠p):ga n k p m l i=1:=if_pos h
theorem Ac {n p m l:Nat} {k:Nat→Rat} {i:Int} (h:(m:Int)=(n:Int)-p-1) (hl:l=p) (h2:i<p∨(m:Int)≤i∨k (i.toNat+1)≤k i.toNat):ga n k p m l i=7:=by
 unfold ga;rw[if_neg (by omega),if_pos h2]
theorem SI {n p m l:Nat} {k:Nat→Rat} {i:Int} (h:(m:Int)=(n:Int)-p-1) (hl:l=p) (h2:¬(i<p∨(m:Int)≤i∨k (i.toNat+1)≤k i.toNat)):ga n k p m l i=0:=by
 unfold ga;rw[if_neg (by omega),if_neg h2]
def jh (k:Nat→Rat) (b p r:Nat) (t:Rat) (x:Nat→Rat) (j i:Nat):Rat:=if i≤j then x i else mZ k b p r t x i
def jW (r j i:Nat):Nat:=if i≤j then SB r else SB (r+1)
theorem MB {rl:List (Nat×Nat)} {k:Nat→Rat} {b p r j i s:Nat} {t:Rat} {x:Nat→Rat} (hj:r<j) (hs:s≤SB (r+1)):
  fP rl (.rat (bif i==j then jh k b p r t x j (j-1)+fr (k (b+j)) (k (b+j+(p-r))) t*(jh k b p r t x j j-jh k b p r t x j (j-1))else jh k b p r t x j i) (bif i==j then s else jW r j i)) (.rat (jh k b p r t x (j-1) i) (jW r (j-1) i)):=by
 refine .inr ⟨rfl,?_⟩
 by_cases h:i=j
 ·subst h
  simp only[beq_self_eq_true,cond_true]
  refine bP ?_ ?_
  ·unfold jh
   rw[if_pos (by omega),if_pos (by omega),if_neg (by omega)]
   unfold mZ
   rw[if_pos hj]
  ·unfold jW
   rw[if_neg (by omega)];exact hs
 ·have hb:(i==j)=false:=by simpa using h
  rw[hb]
  refine bP ?_ ?_
  ·simp only[cond_false]
   unfold jh
   by_cases h2:i≤j
   ·rw[if_pos h2,if_pos (by omega)]
   ·rw[if_neg h2,if_neg (by omega)]
  ·simp only[cond_false]
   unfold jW
   by_cases h2:i≤j
   ·rw[if_pos h2,if_pos (by omega)];exact Nat.le_refl _
   ·rw[if_neg h2,if_neg (by omega)];exact Nat.le_refl _
theorem XC {k:Nat→Rat} {b p r i:Nat} {t:Rat} {x:Nat→Rat}:jh k b p r t x r i=mZ k b p r t x i:=by
 unfold jh
 split
 ·unfold mZ;rw[if_neg (by omega)]
 ·rfl
end Go.Am.B

/- ref09.Polar, ref09.Blossom; contracts of polar forms. -/
namespace Go.Am.B
open Go Go.Am.N AV aa ah IntKind
end Go.Am.B

/- basis.Blossom, handed coefficients that may still be written to. -/
namespace Go.Am.B
open Go Go.Am.N AV aa ah IntKind
abbrev iw (m:Nat) (c:Nat→Rat):ak:=⟨true,true,3,m,fun i=>.rat (c i) sK⟩
abbrev j6:List Nat:=[10,11,2,4,0,1,3,12,66,67,68]
abbrev ow (n:Nat) (k:Nat→Rat) (p m:Nat) (a:Nat→Rat) (i:Nat) (r:Nat):List AV:=[.ptr 1 0 3 0 [],.int .i64 0,.own 0 3 0 m,ls a p,ls k n,.int .i64 p,.int .i64 i,.own 2 3 0 (p+1),ls a p,.int .i64 p,.int .i64 r]
abbrev jB (p m:Nat) (c:Nat→Rat) (x:Nat→Rat) (s:Nat→Nat):aA:=[(2,iE (p+1) x s),(1,zO),(0,iw m c)]
abbrev vi:List Nat:=[10,11,2,4,0,1,3,12,66,67,68,13,14,15]
abbrev Bp (n:Nat) (k:Nat→Rat) (p m:Nat) (a:Nat→Rat) (i:Nat) (r j:Nat):List AV:=[.ptr 1 0 3 0 [],.int .i64 0,.own 0 3 0 m,ls a p,ls k n,.int .i64 p,.int .i64 i,.own 2 3 0 (p+1),ls a p,.int .i64 p,.int .i64 r,.int .i64 r,.ptr 3 0 3 0 [],.int .i64 j]
theorem RE {n m p l:Nat} {k c a:Nat→Rat} {i:Int}:aJ T nh [18,25,36,42,32] 60 j6 (before xu [1,1,1,1,0,1]) ⟨aM 0 [ls k n,.int .i64 p,.own 0 3 0 m,.int .i64 i,ls a l],[(0,iw m c)],1⟩=
  let c28 : Prop := n < 2 ^ 40; let c27 : Prop := sK < 2 ^ 42; let c26 : Prop := cj (fun i ↦ rat (k i) sK) n sK; let c25 : AV := own 0 3 0 m; let c24 : Int := i + (1 : Int); let c23 : AV := aq 3 n fun i ↦ rat (k i) 4096; let c20 : Int := (2 : Int) ^ 40; let c19 : AV := rat 0 1; let c17 : Nat × ak := ((0 : Nat), ak.mk true true 3 m fun i ↦ rat (c i) 4096); let c15 : AV := ptr 1 0 3 0 []; let c14 : AV := aq 3 l fun i ↦ rat (a i) 4096; let c13 : Int := (2 : Int) ^ 63; let c12 : Int := (↑m : Int); let c5 : Int := (↑p : Int); let c21 : Bool := decide (i < c5); let c18 : Bool := c12 != (↑n : Int) - c5 - (1 : Int); let c16 : Bool := bif false then true else decide (i ≥ c12); let c11 : Int := c5 + (1 : Int); let c10 : Int := dS (k i.toNat) (k c24.toNat); let c8 : List AV := [c25, c14, c23, int i64 c5, int i64 i, tuple [], tuple [], tuple [], tuple []]; let c7 : List Prop := [(0 : Int) ≤ i ∧ i.toNat < n, -c13 ≤ c24 ∧ c24 < c13, (0 : Int) ≤ c24 ∧ c24.toNat < n, c27, c27]; let c6 : List (Nat × ak) := [c17, ((1 : Nat), ak.mk false true 3 1 fun j ↦ if (j == 0) = true then bH (agg c19.kids) else c19)]; let c22 : Bool := bif false then true else decide (c10 ≥ (0 : Int)); let c9 : Nat := 0 + Min.min (c12.toNat - (i - c5).toNat) c11.toNat; let c4 : aa (List AV × aA) := ag [(0 : Nat) < 1] (leaf ret (c15 :: int i64 (1 : Int) :: c8, c6)); let c2 : aa (List AV × aA) := ag [(0 : Nat) < 1] (leaf ret (c15 :: int i64 (7 : Int) :: c8, c6)); let c1 : aa (List AV × aA) := ag [-c13 ≤ c11 ∧ c11 < c13, (0 : Int) ≤ c11 ∧ c11 ≤ c11 ∧ c11 ≤ (2 : Int) ^ 47 ∧ c11 * (↑(56 : Nat) : Int) ≤ (2 : Int) ^ 47] (ag [-c13 ≤ i - c5 ∧ i - c5 < c13, (0 : Int) ≤ i - c5 ∧ i - c5 ≤ c12 ∧ c12 ≤ c12 ∧ c12 ≤ c12] (leaf normal ([c15, int i64 (0 : Int), c25, c14, c23, int i64 c5, int i64 i, own 163841 3 0 c11.toNat, c14, int i64 (↑l : Int), int i64 (0 : Int)], [((163841 : Nat), ak.mk true true 3 c11.toNat fun i_1 ↦ if 0 ≤ i_1 ∧ i_1 < c9 then rat (c (i_1 - 0 + ((0 : Nat) + (i - c5).toNat))) sK else c19), c17, ((1 : Nat), ak.mk false true 3 1 fun x ↦ c19)]))); let c3 : aa (List AV × aA) := fork c21 (fork true (ag [c21 = true, true = true] (fork true c2 c1)) (ag ((c21 = true) :: (true = false) :: c7) (fork c22 c2 c1))) (fork c16 (ag [c21 = false, c16 = true] (fork true c2 c1)) (ag ((c21 = false) :: (c16 = false) :: c7) (fork c22 c2 c1))); some (fork c18 (ag [c26, c28, -c20 < c5, c5 < c20, c18 = true] (fork true c4 c3)) (ag [c26, c28, -c20 < c5, c5 < c20, c18 = false] (fork (bif false then true else (↑l : Int) != c5) c4 c3))) := by kernel_rfl
theorem NX {e:Int} {m:Nat} {c:Nat→Rat}:ue T iN .ret ⟨aD [10,11,2] [.ptr 1 0 3 0 [],.int .i64 e,.own 0 3 0 m],[(0,iw m c),(1,⟨false,true,3,1,fun j=>if(j==0)=true then bH (agg (kids (.rat 0 1)))else .rat 0 1⟩)],2⟩=
  some (ag [(0:Nat)<1] (leaf ret ([agg [AV.bool false,mag 0,mag 0],int i64 e],some (ak.mk true true 3 m fun i↦rat (c i) 4096)))):=by kernel_rfl
theorem Wv {n p m i r:Nat} {k a c x:Nat→Rat} {s:Nat→Nat}:aJ T nh [69] 60 j6 (before nZ [1,1,0]) ⟨aD j6 (ow n k p m a i r),jB p m c x s,3⟩=
  let c3:Int:=(↑p:Int);let c2:AV:=aq 3 p fun i↦rat (a i) 4096;let c1:List AV×aA:=([ptr 1 0 3 0 [],int i64 (0:Int),own 0 3 0 m,c2,aq 3 n fun i↦rat (k i) 4096,int i64 c3,int i64 (↑i:Int),own 2 3 0 (p+1),c2,int i64 c3,int i64 (↑r:Int)],[((2:Nat),ak.mk true true 3 (p+1) fun i↦rat (x i) (s i)),((0:Nat),ak.mk true true 3 m fun i↦rat (c i) 4096),((1:Nat),ak.mk false true 3 1 fun x↦rat 0 1)]);some (fork (decide ((↑r:Int)<c3)) (leaf normal c1) (leaf (exit 1) c1)):=by kernel_rfl
theorem JU {n p m i r:Nat} {k a c x:Nat→Rat} {s:Nat→Nat}:aJ T nh [] 60 vi (before s4 [1,1]) ⟨aD j6 (ow n k p m a i r),jB p m c x s,3⟩=
  let c4:AV:=rat 0 1;let c3:Int:=(↑r:Int);let c2:AV:=int i64 (↑p:Int);let c1:AV:=aq 3 p fun i↦rat (a i) 4096;some (ag [(0:Int)≤c3∧c3.toNat<p,(0:Nat)<1] (leaf normal ([ptr 1 0 3 0 [],int i64 (0:Int),own 0 3 0 m,c1,aq 3 n fun i↦rat (k i) 4096,c2,int i64 (↑i:Int),own 2 3 0 (p+1),c1,c2,int i64 c3,int i64 c3,ptr 12291 0 3 0 [],c2],[((12291:Nat),ak.mk false true 3 1 fun j↦if(j==0)=true then bH (rat (a c3.toNat) sK)else c4),((2:Nat),ak.mk true true 3 (p+1) fun i↦rat (x i) (s i)),((0:Nat),ak.mk true true 3 m fun i↦rat (c i) 4096),((1:Nat),ak.mk false true 3 1 fun x↦c4)]))):=by kernel_rfl
theorem Qh {n p m i r j:Nat} {k a c x:Nat→Rat} {s:Nat→Nat} {t:Rat}:aJ T nh [76] 60 vi [part s4 [1,1,0,0]] ⟨aD vi (Bp n k p m a i r j),(3,tP t sK)::jB p m c x s,4⟩=
  let c27:Int:=(↑r:Int);let c23:Int:=(↑i:Int);let c21:AV:=own 0 3 0 m;let c19:Prop:=0<1;let c17:AV:=ptr 3 0 3 0 [];let c16:AV:=ptr 1 0 3 0 [];let c15:AV:=aq 3 n fun i↦rat (k i) 4096;let c13:Int:=(↑p:Int);let c12:Int:=(↑j:Int);let c11:Nat×ak:=((3:Nat),ak.mk false true 3 1 fun x↦rat t 4096);let c10:Nat:=2^42;let c8:Nat:=p+1;let c7:AV:=aq 3 p fun i↦rat (a i) 4096;let c6:List (Nat×ak):=[((0:Nat),ak.mk true true 3 m fun i↦rat (c i) 4096),((1:Nat),ak.mk false true 3 1 fun x↦rat 0 1)];let c3:Int:=(2:Int)^63;let c26:AV:=int i64 c13;let c24:Prop:=(0:Int)≤c12∧c12.toNat<c8;let c20:AV:=own 2 3 0 c8;let c14:AV:=int i64 c27;let c4:Nat:=c12.toNat+0;let c2:Int:=c23-c13+c12;let c1:Int:=c12-(1:Int);let c25:Prop:=(0:Int)≤c1∧c1.toNat<c8;let c22:Prop:=-c3≤c1∧c1<c3;let c9:Int:=c2+c13-c27;let c5:Nat:=c1.toNat+0;let c18:Nat:=s c4+s c5+1;some (fork (decide (c12>c27)) (ag [-c3≤c23-c13∧c23-c13<c3,-c3≤c2∧c2<c3] (ag [(0:Int)≤c2∧c2.toNat<n,-c3≤c2+c13∧c2+c13<c3,-c3≤c9∧c9<c3,(0:Int)≤c9∧c9.toNat<n,c19,sK≤sK,sK≤sK,sK≤sK,c19] (ag [c22,c25,c5<c8,c19,c24,c4<c8,c22,c25,c5<c8,s c4<c10,s c5<c10,sF<c10,c18<c10,s c5<c10,sF+c18<c10,c24,c4<c8] (ag [c22] (leaf normal ([c16,int i64 (0:Int),c21,c7,c15,c26,int i64 c23,c20,c7,c26,c14,c14,c17,int i64 c1],c11::((2:Nat),ak.mk true true 3 c8 fun j↦rat (bif j==c4 then x c5+fr (k c2.toNat) (k c9.toNat) t*(x c4-x c5)else x j) (bif j==c4 then s c5+(sF+c18)+1 else s j))::c6)))))) (leaf (exit 3) ([c16,int i64 (0:Int),c21,c7,c15,c26,int i64 c23,c20,c7,c26,c14,c14,c17,int i64 c12],c11::((2:Nat),ak.mk true true 3 c8 fun i↦rat (x i) (s i))::c6))):=by kernel_rfl
theorem TB {n p m i r j:Nat} {k a c x:Nat→Rat} {s:Nat→Nat} {t:Rat}:aJ T nh [] 60 j6 [part nZ [1,1,1]] ⟨aD vi (Bp n k p m a i r j),(3,tP t sK)::jB p m c x s,4⟩=
  let c2:Int:=(↑r:Int)+(1:Int);let c1:AV:=aq 3 p fun i↦rat (a i) 4096;some (ag [-(2:Int)^63≤c2∧c2<(2:Int)^63] (leaf normal ([ptr 1 0 3 0 [],int i64 (0:Int),own 0 3 0 m,c1,aq 3 n fun i↦rat (k i) 4096,int i64 (↑p:Int),int i64 (↑i:Int),own 2 3 0 (p+1),c1,int i64 (↑p:Int),int i64 c2],[((2:Nat),ak.mk true true 3 (p+1) fun i↦rat (x i) (s i)),((0:Nat),ak.mk true true 3 m fun i↦rat (c i) 4096),((1:Nat),ak.mk false true 3 1 fun x↦rat 0 1)]))):=by kernel_rfl
theorem NK {n p m i r:Nat} {k a c x:Nat→Rat} {s:Nat→Nat}:B8 T nh [] 60 iN [part xu [1,1,1,1,1]] ⟨aD j6 (ow n k p m a i r),jB p m c x s,3⟩=
  let c1:Nat:=(↑p:Int).toNat+0;some (ag [(0:Int)≤(↑p:Int)∧(↑p:Int).toNat<p+1,c1<p+1,s c1<2^42,(1:Nat)<2^42,(0:Nat)<1] (ag [(0:Nat)<1] (leaf ret ([rat (x c1+0) (s c1+1+1),int i64 (0:Int)],some (ak.mk true true 3 m fun i↦rat (c i) 4096))))):=by kernel_rfl
theorem Jp {n p m l:Nat} {k c a:Nat→Rat} {i:Int} (hp1:1≤p) (hp6:p≤6) (hn:n<2^40) (hm2:m<2^40) (hi:-2^40<i) (hi2:i<2^40) (cx:Ctx) (hk:Kept [0] cx):
  aj P cx iN.ntmps (au iN) ⟨aM 0 [ls k n,.int .i64 p,.own 0 3 0 m,.int .i64 i,ls a l],[(0,iw m c)],1⟩ (cR cx (rz T iN [.rat (kK n k p m c i l a) sB,.int .i64 (ga n k p m l i)] (iw m c))):=by
 obtain⟨b,hb⟩:∃b,b=i.toNat-p:=⟨_,rfl⟩
 obtain⟨x,hx⟩:∃x:Nat→Nat→Rat,x=fun r=>bR k b p a (fun j=>c (b+j)) r:=⟨_,rfl⟩
 have hx0:x 0=fun j=>c (b+j):=by rw[hx];rfl
 have hxS:∀r,x (r+1)=mZ k b p r (a r) (x r):=fun r=>by rw[hx];rfl
 have hSF:=wz
 have hSK:sK=4096:=rfl
 have hSV:sV=268435456:=rfl
 have hrow:∀(l:Nat) (a:Nat→Rat) (w:Bool) (ρ:Nat→Option Nat),dG ρ ⟨true,w,3,l,fun i=>.rat (a i) sK⟩ ⟨true,w,3,l,fun i=>.rat (a i) sK⟩:=fun l a w ρ=>gW rfl fun _ _=>aF rfl
 refine aj.xR hT tU hm [1,1,1,1,0,1] (i:=1) (y:=nZ) (z:=part xu [1,1,1,1,1]) (by kernel_rfl) (by kernel_rfl) (by kernel_rfl) FM.dst hk (f1:=[18,25,36,42,32]) 60 j6 3 (fun r:Nat=>ow n k p m a i.toNat r) (fun r=>jB p m c (x r) fun _=>SB r)
  (fun r=>r≤p∧ga n k p m l i=0) (fun r=>r=p∧ga n k p m l i=0) (fun r=>p-r) (yc T iN [10,11,2] [.rat (kK n k p m c i l a) sB,.int .i64 (ga n k p m l i)] (iw m c)) ⟨_,RE,?_⟩ (fun r ⟨hr,he⟩=>?_) (fun r ⟨hr,he⟩=>?_) (fun v s' hv hs'=>hv.fin (L1:=[4,0,1,3,12,66,67,68]) hk hs')
 ·simp only[aa.all,az,tS,bne_iff_ne,ne_eq,bne_eq_false_iff_eq,Int.toNat_natCast,cond_false,decide_eq_true_eq,decide_eq_false_iff_not,zN]
  have ret:∀{e:Int} {us:List AV},ga n k p m l i=e→e≠0→aU us=[]→yc T iN [10,11,2] [.rat (kK n k p m c i l a) sB,.int .i64 (ga n k p m l i)] (iw m c) ([ptr 1 0 3 0 [],int i64 e,own 0 3 0 m]++us,[((0:Nat),iw m c),((1:Nat),ak.mk false true 3 1 fun j↦if(j==0)=true then bH (agg (kids (.rat 0 1)))else .rat 0 1)]):=fun {e us} h1 h2 h3=>
   ⟨[_,_,_],us,2,_,rfl,rfl,h3,NX,rfl,⟨⟨by omega,fun i _=>rfl⟩,⟨by omega,fun i _=>Ab rfl rfl⟩,trivial⟩,by omega,Nat.zero_lt_one,rfl,rfl,Ug h1 h2,⟨_,rfl,hrow _ _ _⟩⟩
  (repeat' with_reducible first|refine And.intro ?_ ?_|intro _)
  all_goals first|omega|exact dc (Nat.le_refl _)|exact absurd ‹true=false› (by decide)|assumption|skip
  all_goals first|exact ret (CL (.inl ‹_›)) (by decide) rfl|exact ret (CL (.inr (by omega))) (by decide) rfl|skip
  all_goals first|exact ret (Ac (by omega) (by omega) (.inl (by omega))) (by decide) rfl|exact ret (Ac (by omega) (by omega) (.inr (.inl (by omega)))) (by decide) rfl|skip
  all_goals have e1:(i+1).toNat=i.toNat+1:=by omega
  ·exact ret (Ac (by omega) (by omega) (.inr (.inr (by rw[←e1];assumption)))) (by decide) rfl
  ·rename_i h1
   rw[e1]at h1
   have hlp:l=p:=by omega
   subst hlp
   refine⟨0,⟨by omega,SI (by omega) rfl (by rintro(h|h|h)<;>first|omega|exact h1 h)⟩,[(0,0),(1,1),(2,163841)],rfl,?_,rfl,bF rfl rfl (by omega) (fun j hj=>?_) (bk rfl rfl (aP rfl rfl) (bF rfl rfl rfl (fun j hj=>aP rfl rfl) trivial))⟩
   ·rw[show((l:Int)+1).toNat=l+1 by omega]
    show _=[_,_,_,_,_,_,AV.int i64 ((i.toNat:Nat):Int),_,_,_,_]
    rw[show((i.toNat:Nat):Int)=i by omega]
    rfl
   ·rw[if_pos (by omega),hx0,show(i-(l:Int)).toNat=b by omega,Nat.sub_zero,Nat.zero_add,Nat.add_comm j b]
    exact .inr ⟨rfl,bP rfl (show sK≤SB 0 by decide)⟩
 ·have hin:(m:Int)=(n:Int)-p-1∧p≤i.toNat∧i.toNat<m∧i.toNat=b+p∧l=p:=by
   unfold ga at he
   split at he
   ·omega
   ·split at he
    ·omega
    ·omega
  obtain⟨i1,i2,i3,i4,i5⟩:=hin
  subst i5
  have hr4:∀{s:Nat→Nat} {y:Nat→Rat},jS 3 [(0,0),(1,1),(2,2)] [((2:Nat),ak.mk true true 3 (l+1) fun i↦rat (y i) (s i)),((0:Nat),iw m c),((1:Nat),ak.mk false true 3 1 fun x↦rat 0 1)] (jB l m c y s):=bF rfl rfl rfl (fun j hj=>aP rfl rfl) (bk rfl rfl (aP rfl rfl) (bF rfl rfl rfl (fun j hj=>aP rfl rfl) trivial))
  refine aj.vC hT tU hm (y:=nZ) (x1:=s4) (zb:=part nZ [1,1,1]) [1,1,0] (j:=2) (by kernel_rfl) (by kernel_rfl) (by kernel_rfl) (by kernel_rfl) hk (f1:=[69]) 60 j6 3 (fun _:Unit=>ow n k l m a i.toNat r) (fun _=>jB l m c (x r) fun _=>SB r) (fun _=>r<l) ⟨_,Wv,?_⟩ (fun _ hr'=>?_)
  ·simp only[aa.all,az,decide_eq_true_eq,decide_eq_false_iff_not]
   have re:∀{s:Nat→Nat} {y:Nat→Rat},eu [0] ([ptr 1 0 3 0 [],int i64 (0:Int),own 0 3 0 m,ls a l,aq 3 n fun i↦rat (k i) sK,int i64 l,int i64 (i.toNat:Nat),own 2 3 0 (l+1),ls a l,int i64 l,int i64 (r:Nat)],[((2:Nat),ak.mk true true 3 (l+1) fun i↦rat (y i) (s i)),((0:Nat),iw m c),((1:Nat),ak.mk false true 3 1 fun x↦rat 0 1)]) (ow n k l m a i.toNat r) (jB l m c y s) 3:=
    ⟨[(0,0),(1,1),(2,2)],rfl,rfl,rfl,hr4⟩
   exact⟨fun h1=>⟨(),by omega,re⟩,fun h1 s' hs'=>⟨rfl,r,⟨by omega,he⟩,re.le hs' hk⟩⟩
  have h1:=oT (d:=r)
  have h2:=tD (d:=r) (by omega)
  have h3:=wh (d:=r)
  refine aj.xO hT tU hm (x:=s4) [1,1] (i:=3) (y:=part s4 [1,1,0,0]) (by kernel_rfl) (by kernel_rfl) (by kernel_rfl) hk (f1:=[]) (f2:=[76]) 60 vi 4 (fun j:Nat=>Bp n k l m a i.toNat r j) (fun j=>(3,tP (a r) sK)::jB l m c (jh k b l r (a r) (x r) j) (jW r j)) (fun j=>r≤j∧j≤l) (fun j=>j=r) (fun j=>j) (fun _=>False) ⟨_,JU,?_⟩ (fun j hj=>⟨_,Qh,?_⟩) (fun j s' hj hle=>?_) (fun _ _ h=>h.elim)
  ·simp only[aa.all,az,Int.toNat_natCast]
   refine⟨⟨by omega,by omega⟩,l,by omega,[(0,0),(1,1),(2,2),(3,12291)],rfl,rfl,rfl,bk rfl rfl (aP rfl rfl) (bF rfl rfl rfl (fun j hj=>aP rfl ?_) (bk rfl rfl (aP rfl rfl) (bF rfl rfl rfl (fun j hj=>aP rfl rfl) trivial)))⟩
   unfold jh jW
   rw[if_pos (by omega),if_pos (by omega)]
  ·obtain⟨hj1,hj2⟩:=hj
   have e1:((i.toNat:Nat):Int)-(l:Int)+(j:Int)=((b+j:Nat):Int):=by omega
   have e2:((b+j:Nat):Int)+(l:Int)-(r:Int)=((b+j+(l-r):Nat):Int):=by omega
   have u1:∀{j':Nat},j'≤j→jW r j j'=SB r:=fun h=>by unfold jW;rw[if_pos h]
   simp only[aa.all,az,decide_eq_true_eq,decide_eq_false_iff_not,e1,e2,Int.toNat_natCast,Nat.add_zero]
   refine⟨fun h4=>?_,fun h4=>⟨rfl,j,by omega,[(0,0),(1,1),(2,2),(3,3)],rfl,rfl,rfl,bk rfl rfl (aP rfl rfl) (bF rfl rfl rfl (fun j hj=>aP rfl rfl) (bk rfl rfl (aP rfl rfl) (bF rfl rfl rfl (fun j hj=>aP rfl rfl) trivial)))⟩⟩
   have e3:((j:Int)-1).toNat=j-1:=by omega
   have u2:=u1 (j':=j) (Nat.le_refl _)
   have u3:=u1 (j':=j-1) (by omega)
   simp only[e3,u2,u3]
   (repeat' with_reducible refine And.intro ?_ ?_)
   all_goals first|omega|skip
   exact⟨j-1,by omega,by dsimp only;omega,[(0,0),(1,1),(2,2),(3,3)],rfl,by rw[show(j:Int)-1=((j-1:Nat):Int) by omega];rfl,rfl,bk rfl rfl (aP rfl rfl) (bF rfl rfl rfl (fun q hq=>MB (by omega) (by omega)) (bk rfl rfl (aP rfl rfl) (bF rfl rfl rfl (fun j hj=>aP rfl rfl) trivial)))⟩
  ·subst hj
   show aj P cx iN.ntmps (part nZ [1,1,1]) s' _
   refine aj.jd hle (aj.aV hT tU hm 60 j6 TB (by kernel_rfl) ?_)
   simp only[aa.all,az]
   refine⟨by omega,fun s' hs'=>⟨j+1,⟨by omega,he⟩,by dsimp only;omega,eu.le ⟨[(0,0),(1,1),(2,2)],rfl,rfl,rfl,bF rfl rfl rfl (fun q hq=>?_) (bk rfl rfl (aP rfl rfl) (bF rfl rfl rfl (fun j hj=>aP rfl rfl) trivial))⟩ hs' hk⟩⟩
   refine .inr ⟨rfl,bP (by rw[XC,hxS]) ?_⟩
   show jW j j q≤SB (j+1)
   unfold jW
   split<;>omega
 ·have hlp:l=p:=by
   unfold ga at he
   split at he
   ·omega
   ·omega
  subst hlp
  subst hr
  refine aj.p6 ((aC.Ta hT tU hm 60 NK (by kernel_rfl) ?_).mono fun _ _ h=>.inl h)
  have h2:=tD (d:=r) hp6
  simp only[aa.all,az,Int.toNat_natCast,Nat.add_zero]
  refine⟨⟨by omega,by omega,by omega,by omega,by omega⟩,by omega,rfl,rfl,⟨bP ?_ (by show SB r+1+1≤536870912;omega),bh he.symm,trivial⟩,⟨_,rfl,hrow _ _ _⟩⟩
  unfold kK
  rw[if_pos he,←hb,hx,Rat.add_zero]
def pC (f:Nat→AV) (n s:Nat):Prop:=∀i,i<n→keys (f i)=[]∧bt (f i) (.rat (aZ (f i)) s)
theorem SZ {k:Nat→Rat} {n s s':Nat} (h:s≤s'):pC (fun i=>.rat (k i) s) n s':=fun _ _=>⟨rfl,en h⟩
theorem pC.obj {f:Nat→AV} {n s:Nat} {w:Bool} (h:pC f n s) {m:Nat} (hm:n=m) (ρ:Nat→Option Nat):dG ρ ⟨true,w,3,n,f⟩ ⟨true,w,3,m,fun i=>.rat (aZ (f i)) s⟩:=⟨rfl,rfl,rfl,hm.symm,fun i hi=>jD (h i hi).1 (h i hi).2⟩
def BF:Spec:=fun _ args pre=>match args,pre with
 |[.aq 3 n kf,.int .i64 p,.own b 3 0 m,.int .i64 i,.aq 3 l af],[(b',⟨true,true,3,mb,fb⟩)]=>match b'==b with
  |true=>some ⟨CX n (fun i=>aZ (kf i)) p.toNat m (fun i=>aZ (fb i)) i l (fun i=>aZ (af i)),[(b,iw m fun i=>aZ (fb i))],
   [mb=m,cj kf n sK,cj af l sK,pC fb m sK,1≤p,p≤6,n<2^40,m<2^40,-2^40<i,i<2^40]⟩
  |false=>none
 |_,_=>none
theorem Yo:∀K args pre r,BF K args pre=some r→aB P wB K args pre r:=by
 intro K args pre r h
 unfold BF at h
 split at h
 ·rename_i n kf p b m i l af b' mb fb
  split at h
  ·rename_i hc
   have hc:=eq_of_beq hc
   subst hc
   simp only[Option.some.injEq]at h
   subst h
   intro need
   obtain⟨rfl,n1,n2,n3,n4,n5,n6,n7,n8,n9⟩:=need
   refine KV hT FM (args:=[.aq 3 n kf,.int .i64 p,.own b' 3 0 mb,.int .i64 i,.aq 3 l af]) (us:=[.rat (kK n (fun i=>aZ (kf i)) p.toNat mb (fun i=>aZ (fb i)) i l (fun i=>aZ (af i))) sB,.int .i64 (ga n (fun i=>aZ (kf i)) p.toNat mb l i)]) (args0:=[ls (fun i=>aZ (kf i)) n,.int .i64 p,.own 0 3 0 mb,.int .i64 i,ls (fun i=>aZ (af i)) l]) (of_decide_eq_true (by kernel_rfl))
    ⟨⟨rfl,jD rfl (AU n1)⟩,⟨rfl,aF rfl⟩,⟨rfl,ct rfl rfl rfl⟩,⟨rfl,aF rfl⟩,⟨rfl,jD rfl (AU n2)⟩,trivial⟩ (fun _ ρ=>n3.obj rfl ρ) (fun _ c hk=>?_) K ⟨rfl,n1,n2,n3,n4,n5,n6,n7,n8,n9⟩
   have:=Jp (n:=n) (p:=p.toNat) (m:=mb) (l:=l) (k:=fun i=>aZ (kf i)) (c:=fun i=>aZ (fb i)) (a:=fun i=>aZ (af i)) (i:=i) (by omega) (by omega) n6 n7 n8 n9 c hk
   rw[Int.toNat_of_nonneg (by omega)]at this
   exact this
  ·simp at h
 ·simp at h
end Go.Am.B

/- spline.piece, Spline.polar. -/
namespace Go.Am.B
open Go Go.Am.N AV aa ah IntKind
theorem S0:aN P vX uy (au uy):=aO XZ (by kernel_rfl) (by kernel_rfl) (by kernel_rfl)
theorem DB:aN P rK kJ (au kJ):=aO TU (by kernel_rfl) (by kernel_rfl) (by kernel_rfl)
def pB (k:Nat→Rat) (n:Nat):Nat→Nat→Nat
 |0,i=>i
 |f+1,i=>if i+1<n∧k (i+1)≤k i then pB k n f (i+1)else i
def fu (k:Nat→Rat) (n i:Nat):Nat:=pB k n (n-i) i
abbrev vL:List Nat:=[0,1,4]
abbrev z8 (n i:Nat) (k:Nat→Rat):List AV:=[ls k n,.int .i64 i,.int .i64 0]
noncomputable abbrev vN:Code:=au uy
def lJ (h:Pl):Nat→Rat
 |0=>h.n.x
 |1=>h.n.y
 |2=>h.n.z
 |_=>h.d
def kO (g:Nat→Rat):Nat→Pl
 |0=>⟨⟨0,0,0⟩,0⟩
 |1=>⟨⟨g 0,0,0⟩,0⟩
 |2=>⟨⟨g 0,g 1,0⟩,0⟩
 |3=>⟨⟨g 0,g 1,g 2⟩,0⟩
 |_=>⟨⟨g 0,g 1,g 2⟩,g 3⟩
def gF (c:Cu) (i:Int) (l:Nat) (g:Nat→Rat) (a:Nat):Rat:=kK c.n c.k c.p.toNat c.m (fun j=>lJ (c.f j) a) i l g
def nM (c:Cu) (i:Int) (l:Nat) (g:Nat→Rat):Pl:=⟨⟨gF c i l g 0,gF c i l g 1,gF c i l g 2⟩,gF c i l g 3⟩
def j5 (c:Cu) (a:Nat) (x:Nat→Rat) (j q:Nat):Rat:=if q<j∨c.m≤q then lJ (c.f q) a else x q
theorem Vk {c:Cu} {a:Nat} {x:Nat→Rat}:j5 c a x c.m=fun q=>lJ (c.f q) a:=by
 funext q;unfold j5;rw[if_pos (by omega)]
noncomputable def lg:aT:=nG::(wB,BF)::fN
abbrev fY:List Nat:=[1,2,3,6,7,8,16]
abbrev iy (c:Cu) (i:Int) (l:Nat) (g:Nat→Rat) (a:Nat):List AV:=[.int .i64 i,ls g l,.ptr 0 0 3 0 [],.ptr 1 0 12 0 [],.ptr 2 0 12 0 [],.own 3 3 0 c.m,.int .i64 a]
abbrev tn:List Nat:=[1,2,3,6,7,8,16,9,20,21,22]
abbrev w8 (c:Cu) (i:Int) (l:Nat) (g:Nat→Rat) (a j:Nat):List AV:=[.int .i64 i,ls g l,.ptr 0 0 3 0 [],.ptr 1 0 12 0 [],.ptr 2 0 12 0 [],.own 3 3 0 c.m,.int .i64 a,.int .i64 a,nj c.f c.m sK,.int .i64 c.m,.int .i64 j]
abbrev gj (c:Cu) (x:Nat→Rat) (h:Pl):aA:=[(3,iw c.m x),(2,jv h sB),(1,jv ⟨⟨0,0,0⟩,0⟩ 1),(0,mc c sK)]
noncomputable abbrev wk:Code:=au kJ
noncomputable abbrev j8:Code:=part wk [1,1,1,0,1,0,0]
noncomputable abbrev kE:Code:=part j8 [1,1,0,0]
theorem K3 {n i:Nat} {k:Nat→Rat}:aJ T (nG::fN) [] 60 vL (before vN [1,0]) ⟨aM 0 [ls k n,.int .i64 i],[],0⟩=
  some (leaf normal ([aq 3 n fun i↦rat (k i) 4096,int i64 (↑i:Int),int i64 (0:Int)],[])):=by kernel_rfl
theorem Tf {n i:Nat} {k:Nat→Rat}:aJ T (nG::fN) [10,22] 60 vL [part vN [1,0,0,0]] ⟨aD vL (z8 n i k),[],0⟩=
  let c9:Prop:=sK<2^42;let c8:Int:=(↑i:Int);let c3:AV:=aq 3 n fun i↦rat (k i) 4096;let c4:aa (List AV×aA):=leaf (exit 0) ([c3,int i64 c8,int i64 (0:Int)],[]);let c1:Int:=c8+(1:Int);let c7:Int:=dS (k c8.toNat) (k c1.toNat);let c6:Bool:=decide (c1<(↑n:Int));let c2:Prop:=-(2:Int)^63≤c1∧c1<(2:Int)^63;let c5:aa (List AV×aA):=ag [c2] (leaf normal ([c3,int i64 c1,int i64 (0:Int)],[]));some (fork c6 (ag [c2,c6=true,(0:Int)≤c8∧c8.toNat<n,c2,(0:Int)≤c1∧c1.toNat<n,c9,c9] (fork (bif true then decide (c7≥(0:Int))else false) c5 c4)) (ag [c2,c6=false] (fork false c5 c4))):=by kernel_rfl
theorem Oz {n i:Nat} {k:Nat→Rat}:b7 T (nG::fN) [] 60 uy [part vN [1,1]] ⟨aD vL (z8 n i k),[],0⟩=
  some (leaf ret [int i64 (↑i:Int)]):=by kernel_rfl
theorem NG {c:Cu} {i:Int} {l:Nat} {g:Nat→Rat}:aJ T lg [] 60 fY (before wk [1,1,1,0,1]) ⟨aM 0 [eJ c sK sK,.int .i64 i,ls g l],[],0⟩=
  let c4:Nat:=(bH (eJ c sK sK)).size;let c3:Int:=(↑c.m:Int);let c1:AV:=rat 0 1;let c2:ak:=ak.mk false true 12 1 fun x↦agg [c1,c1,c1,c1];some (ag [(0:Nat)<1,(0:Int)≤c3∧c3≤c3∧c3≤(2:Int)^47∧c3*(↑(56:Nat):Int)≤(2:Int)^47] (leaf normal ([int i64 i,aq 3 l fun i↦rat (g i) 4096,ptr 0 0 c4 0 [],ptr 4096 0 12 0 [],ptr 8192 0 12 0 [],own 24576 3 0 c3.toNat,int i64 (0:Int)],[((24576:Nat),ak.mk true true 3 c3.toNat fun x↦c1),((8192:Nat),c2),((4096:Nat),c2),((0:Nat),ak.mk false true c4 1 fun x↦agg [int i64 c.p,aq 3 c.n fun i↦rat (c.k i) 4096,aq 12 c.m fun i↦agg [rat (c.f i).n.x 4096,rat (c.f i).n.y 4096,rat (c.f i).n.z 4096,rat (c.f i).d 4096]])]))):=by kernel_rfl
theorem VR {c:Cu} {i:Int} {l a:Nat} {g x:Nat→Rat} {h:Pl}:aJ T lg [17] 60 fY (before j8 [1,1,0]) ⟨aD fY (iy c i l g a),gj c x h,4⟩=
  let c2:AV:=rat 0 1;let c1:List AV×aA:=([int i64 i,aq 3 l fun i↦rat (g i) 4096,ptr 0 0 3 0 [],ptr 1 0 12 0 [],ptr 2 0 12 0 [],own 3 3 0 c.m,int i64 (↑a:Int)],[((3:Nat),ak.mk true true 3 c.m fun i↦rat (x i) 4096),((2:Nat),ak.mk false true 12 1 fun x↦agg [rat h.n.x 536870912,rat h.n.y 536870912,rat h.n.z 536870912,rat h.d 536870912]),((1:Nat),ak.mk false true 12 1 fun x↦agg [c2,c2,c2,c2]),((0:Nat),ak.mk false true 3 1 fun x↦agg [int i64 c.p,aq 3 c.n fun i↦rat (c.k i) 4096,aq 12 c.m fun i↦agg [rat (c.f i).n.x 4096,rat (c.f i).n.y 4096,rat (c.f i).n.z 4096,rat (c.f i).d 4096]])]);some (fork (decide ((↑a:Int)<(4:Int))) (leaf normal c1) (leaf (exit 0) c1)):=by kernel_rfl
theorem V9 {c:Cu} {i:Int} {l a:Nat} {g x:Nat→Rat} {h:Pl}:aJ T lg [] 60 tn (before kE [1,0,1]) ⟨aD fY (iy c i l g a),gj c x h,4⟩=
  let c2:AV:=rat 0 1;let c1:AV:=aq 12 c.m fun i↦agg [rat (c.f i).n.x 4096,rat (c.f i).n.y 4096,rat (c.f i).n.z 4096,rat (c.f i).d 4096];some (ag [(0:Nat)<1] (leaf normal ([int i64 i,aq 3 l fun i↦rat (g i) 4096,ptr 0 0 3 0 [],ptr 1 0 12 0 [],ptr 2 0 12 0 [],own 3 3 0 c.m,int i64 (↑a:Int),int i64 (↑a:Int),c1,int i64 (↑c.m:Int),int i64 (0:Int)],[((3:Nat),ak.mk true true 3 c.m fun i↦rat (x i) 4096),((2:Nat),ak.mk false true 12 1 fun x↦agg [rat h.n.x 536870912,rat h.n.y 536870912,rat h.n.z 536870912,rat h.d 536870912]),((1:Nat),ak.mk false true 12 1 fun x↦agg [c2,c2,c2,c2]),((0:Nat),ak.mk false true 3 1 fun x↦agg [int i64 c.p,aq 3 c.n fun i↦rat (c.k i) 4096,c1])]))):=by kernel_rfl
theorem P7 {c:Cu} {i:Int} {l a:Nat} {g x:Nat→Rat} {h:Pl}:aJ T lg [] 60 fY [part j8 [1,1,1]] ⟨aD fY (iy c i l g a),gj c x h,4⟩=
  let c2:Int:=(↑a:Int)+(1:Int);let c1:AV:=rat 0 1;some (ag [-(2:Int)^63≤c2∧c2<(2:Int)^63] (leaf normal ([int i64 i,aq 3 l fun i↦rat (g i) 4096,ptr 0 0 3 0 [],ptr 1 0 12 0 [],ptr 2 0 12 0 [],own 3 3 0 c.m,int i64 c2],[((3:Nat),ak.mk true true 3 c.m fun i↦rat (x i) 4096),((2:Nat),ak.mk false true 12 1 fun x↦agg [rat h.n.x 536870912,rat h.n.y 536870912,rat h.n.z 536870912,rat h.d 536870912]),((1:Nat),ak.mk false true 12 1 fun x↦agg [c1,c1,c1,c1]),((0:Nat),ak.mk false true 3 1 fun x↦agg [int i64 c.p,aq 3 c.n fun i↦rat (c.k i) 4096,aq 12 c.m fun i↦agg [rat (c.f i).n.x 4096,rat (c.f i).n.y 4096,rat (c.f i).n.z 4096,rat (c.f i).d 4096]])]))):=by kernel_rfl
theorem Lf {c:Cu} {i:Int} {l a:Nat} {g x:Nat→Rat} {h:Pl}:b7 T lg [] 60 kJ [part wk [1,1,1,1]] ⟨aD fY (iy c i l g a),gj c x h,4⟩=
  let c1:Prop:=0<1;some (ag [c1,c1] (ag [c1] (leaf ret [agg [rat h.n.x 536870912,rat h.n.y 536870912,rat h.n.z 536870912,rat h.d 536870912]]))):=by kernel_rfl
theorem OQ {k:Nat→Rat} {n i:Nat} (h:i+1<n) (h2:k (i+1)≤k i):fu k n i=fu k n (i+1):=by
 unfold fu;rw[show n-i=(n-(i+1))+1 by omega,pB,if_pos ⟨h,h2⟩]
theorem De {k:Nat→Rat} {n i:Nat} (h:¬(i+1<n∧k (i+1)≤k i)):fu k n i=i:=by
 unfold fu
 cases n-i with
 |zero=>rfl
 |succ f=>rw[pB,if_neg h]
theorem MV {n i:Nat} {k:Nat→Rat} (hi:i≤n) (hn:n<2^40) (K:Nat):aB P vX K [ls k n,.int .i64 i] [] (aG (.int .i64 (fu k n i)) []):=by
 refine gJ (r:=aG (.int .i64 (fu k n i)) []) hT (dN gM) hm S0 rfl (of_decide_eq_true (by kernel_rfl)) rfl [1,0] (i:=0) (y:=part vN [1,0,0,0]) (z:=part vN [1,1]) (by kernel_rfl) (by kernel_rfl) (by kernel_rfl) (f1:=[]) (f2:=[10,22]) (f3:=[]) 60 vL 0
  (fun j:Nat=>z8 n j k) (fun _=>[]) (fun j=>j≤n∧fu k n j=fu k n i) (fun j=>j=fu k n i) (fun j=>n-j) (fun _=>⟨⟨_,K3,?_⟩,fun j hj=>⟨_,Tf,?_⟩,fun j hj=>⟨_,Oz,?_⟩⟩) K []
 ·simp only[aa.all,az]
  exact⟨i,⟨hi,rfl⟩,[],rfl,rfl,rfl,trivial⟩
 ·have e1:((j:Int)+1).toNat=j+1:=by omega
  simp only[aa.all,az,decide_eq_true_eq,decide_eq_false_iff_not,Int.toNat_natCast,cond_true,e1,zN]
  refine⟨fun h1=>⟨⟨by omega,by omega,by omega,by omega,by omega,by decide,by decide⟩,fun h2=>⟨by omega,j+1,⟨by omega,(OQ (by omega) h2).symm.trans hj.2⟩,by dsimp only;omega,[],rfl,rfl,rfl,trivial⟩,fun h2=>⟨rfl,j,?_,[],rfl,rfl,rfl,trivial⟩⟩,fun h1=>⟨⟨by omega,by omega⟩,fun h=>absurd h (by decide),fun _=>⟨rfl,j,?_,[],rfl,rfl,rfl,trivial⟩⟩⟩
  ·exact(De fun h=>h2 h.2).symm.trans hj.2
  ·exact(De fun h=>by omega).symm.trans hj.2
 ·subst hj
  simp only[aa.all,az]
  exact .refl _
def Ho:Spec:=cS (kC (kL sK) (kC kI kN)) (fun a=>.int .i64 (fu a.1.2 a.1.1 a.2.1.toNat)) fun a=>[0≤a.2.1,a.2.1≤a.1.1,a.1.1<2^40]
theorem Po:∀K args pre r,Ho K args pre=some r→aB P vX K args pre r:=cZ fun⟨⟨n,k⟩,i,_⟩ K hn=>by
 obtain⟨h1,h2,h3⟩:=hn
 have:=MV (n:=n) (i:=i.toNat) (k:=k) (by dsimp only at*;omega) h3 K
 rw[Int.toNat_of_nonneg h1]at this
 exact this
theorem qj:bp P lg:=dN (aK Yo gM)
def uU (c:Cu):Nat→Nat→Rat
 |0=>fun _=>0
 |a+1=>fun q=>lJ (c.f q) a
theorem Xa {rl:List (Nat×Nat)} {c:Cu} {a:Nat} {x:Nat→Rat} {q:Nat} (hq:q<c.m):fP rl (.rat (x q) sK) (.rat (j5 c a x 0 q) sK):=aP rfl (by unfold j5;rw[if_neg (by omega)])
theorem Ju {rl:List (Nat×Nat)} {c:Cu} {a j:Nat} {x:Nat→Rat} {q:Nat} {v:Rat} (hq:q<c.m) (hv:v=lJ (c.f j) a):fP rl (.rat (bif q==j then v else j5 c a x j q) (bif q==j then sK else sK)) (.rat (j5 c a x (j+1) q) sK):=by
 refine aP rfl ?_
 rw[Bool.cond_self]
 congr 1
 by_cases h:q=j
 ·subst h
  rw[beq_self_eq_true,cond_true,hv];unfold j5;rw[if_pos (by omega)]
 ·rw[beq_eq_false_iff_ne.2 h,cond_false];unfold j5
  by_cases h2:q<j
  ·rw[if_pos (.inl h2),if_pos (.inl (by omega))]
  ·rw[if_neg (by omega),if_neg (by omega)]
theorem Ki {x:Nat→Rat} {m:Nat}:pC (fun i=>.rat (x i) sK) m sK:=SZ (Nat.le_refl _)
theorem four {a:Nat} (ha:a<4):a=0∨a=1∨a=2∨a=3:=by omega
theorem Ux {c:Cu} {i:Int} {l a j:Nat} {g x:Nat→Rat} {h:Pl} (ha:a<4):aJ T lg [23] 60 tn [part kE [1,0,1,0,0]] ⟨aD tn (w8 c i l g a j),gj c x h,4⟩=
  some (fork (decide ((j:Int)<c.m)) (ag [(0:Int)≤j∧(j:Int).toNat<c.m,0<1] (ag [(0:Int)≤a∧(a:Int)<(4:Nat),0<1,(0:Int)≤j∧(j:Int).toNat<c.m,(j:Int).toNat+0<c.m] (ag [-(2:Int)^63≤(j:Int)+1∧(j:Int)+1<(2:Int)^63]
   (leaf normal ([.int .i64 i,ls g l,.ptr 0 0 3 0 [],.ptr 1 0 12 0 [],.ptr 2 0 12 0 [],.own 3 3 0 c.m,.int .i64 a,.int .i64 a,nj c.f c.m sK,.int .i64 c.m,.int .i64 ((j:Int)+1)],(3,⟨true,true,3,c.m,fun q=>.rat (bif q==(j:Int).toNat+0 then lJ (c.f (j:Int).toNat) a else x q) (bif q==(j:Int).toNat+0 then sK else sK)⟩)::[(2,jv h sB),(1,jv ⟨⟨0,0,0⟩,0⟩ 1),(0,mc c sK)]))))) (leaf (exit 2) (w8 c i l g a j,gj c x h))):=by
 rcases four ha with rfl|rfl|rfl|rfl<;>kernel_rfl
theorem S2 {c:Cu} {i:Int} {l a j:Nat} {g x:Nat→Rat} {h:Pl} (ha:a<4):aJ T lg [] 60 fY [part kE [1,1]] ⟨aD tn (w8 c i l g a j),gj c x h,4⟩=
  some (ag [0<1,0<1,c.m=c.m,cj (fun i=>.rat (c.k i) sK) c.n sK,cj (fun i=>.rat (g i) sK) l sK,pC (fun i=>.rat (x i) sK) c.m sK,(1:Int)≤c.p,c.p≤(6:Int),c.n<2^40,c.m<2^40,-(2:Int)^40<i,i<(2:Int)^40,(0:Int)≤a∧(a:Int)<(4:Nat),0<1]
   (leaf normal (iy c i l g a,[(3,iw c.m x),(2,⟨false,true,12,1,fun j=>if(j==0)=true then .agg ((cP h sB).kids.set a (.rat (kK c.n c.k c.p.toNat c.m x i l g) sB))else cP h sB⟩),(1,jv ⟨⟨0,0,0⟩,0⟩ 1),(0,mc c sK)]))):=by
 rcases four ha with rfl|rfl|rfl|rfl<;>kernel_rfl
theorem YF {rl:List (Nat×Nat)} {G:Nat→Rat} {a:Nat} (ha:a<4):fP rl (.agg ((cP (kO G a) sB).kids.set a (.rat (G a) sB))) (cP (kO G (a+1)) sB):=by
 rcases four ha with rfl|rfl|rfl|rfl<;>exact aP rfl rfl
theorem SD {c:Cu} {i:Int} {l a:Nat} {g x:Nat→Rat} {cx:Ctx} {Q:ah→aE→Prop} (ha:a<4) (hk:Kept [] cx) (hp1:1≤c.p) (hp6:c.p≤6) (hn:c.n<2^40) (hm2:c.m<2^40) (hi:-2^40<i) (hi2:i<2^40)
  (hQ:∀s',(∃ρ,Le cx ρ s' ⟨aD fY (iy c i l g a),gj c (uU c (a+1)) (kO (gF c i l g) (a+1)),4⟩)→aj P cx kJ.ntmps (part j8 [1,1,1]) s' Q):
  aj P cx kJ.ntmps kE ⟨aD fY (iy c i l g a),gj c x (kO (gF c i l g) a),4⟩ (inBlock 1 (cK (fun s'=>aj P cx kJ.ntmps (part j8 [1,1,1]) s' Q) Q)):=by
 refine aj.xO hT qj hm (x:=kE) [1,0,1] (i:=2) (y:=part kE [1,0,1,0,0]) (by kernel_rfl) (by kernel_rfl) (by kernel_rfl) hk (f1:=[]) (f2:=[23]) 60 tn 4 (fun j:Nat=>w8 c i l g a j) (fun j=>gj c (j5 c a x j) (kO (gF c i l g) a)) (fun j=>j≤c.m) (fun j=>j=c.m) (fun j=>c.m-j) (fun _=>False) ⟨_,V9,?_⟩ (fun j hj=>⟨_,Ux ha,?_⟩) (fun j s' hj hle=>?_) (fun _ _ h=>h.elim)
 ·simp only[aa.all,az]
  exact⟨by omega,0,Nat.zero_le _,[(0,0),(1,1),(2,2),(3,3)],rfl,rfl,rfl,bF rfl rfl rfl (fun q hq=>Xa hq) (bk rfl rfl (aP rfl rfl) (bk rfl rfl (aP rfl rfl) (bk rfl rfl (aP rfl rfl) trivial)))⟩
 ·simp only[aa.all,az,decide_eq_true_eq,decide_eq_false_iff_not,Int.toNat_natCast,Nat.add_zero]
  exact⟨fun h1=>⟨⟨by omega,by omega⟩,⟨by omega,by omega,by omega,by omega⟩,by omega,j+1,by omega,by dsimp only;omega,[(0,0),(1,1),(2,2),(3,3)],rfl,rfl,rfl,bF rfl rfl rfl (fun q hq=>Ju hq rfl) (bk rfl rfl (aP rfl rfl) (bk rfl rfl (aP rfl rfl) (bk rfl rfl (aP rfl rfl) trivial)))⟩,
   fun h1=>⟨rfl,j,by omega,[(0,0),(1,1),(2,2),(3,3)],rfl,rfl,rfl,bF rfl rfl rfl (fun q hq=>aP rfl rfl) (bk rfl rfl (aP rfl rfl) (bk rfl rfl (aP rfl rfl) (bk rfl rfl (aP rfl rfl) trivial)))⟩⟩
 ·subst hj
  simp only[Vk]at hle
  rw[show behind kE [1,0,1]=[part kE [1,1]]from by kernel_rfl]
  refine aC.weak rfl hle (aC.aV hT qj hm 60 fY (S2 ha) (by kernel_rfl) ?_)
  simp only[aa.all,az]
  refine⟨⟨by omega,by omega,trivial,dc (Nat.le_refl _),dc (Nat.le_refl _),Ki,hp1,hp6,hn,hm2,hi,hi2,by omega,by omega⟩,fun s'' hs''=>hQ s'' (eu.le ⟨[(0,0),(1,1),(2,2),(3,3)],rfl,rfl,rfl,bF rfl rfl rfl (fun q hq=>aP rfl rfl) (bk rfl rfl (YF ha) (bk rfl rfl (aP rfl rfl) (bk rfl rfl (aP rfl rfl) trivial)))⟩ hs'' hk)⟩
theorem Sn {c:Cu} {i:Int} {l:Nat} {g:Nat→Rat} (hp1:1≤c.p) (hp6:c.p≤6) (hn:c.n<2^40) (hm2:c.m<2^40) (hi:-2^40<i) (hi2:i<2^40) (K:Nat):aB P rK K [eJ c sK sK,.int .i64 i,ls g l] [] (aG (cP (nM c i l g) sB) []):=by
 refine fZ (r:=aG (cP (nM c i l g) sB) []) hT DB rfl (of_decide_eq_true (by kernel_rfl)) rfl (fun _ cx h00=>?_) K []
 have hk:=um h00
 refine aj.xR hT qj hm [1,1,1,0,1] (i:=0) (y:=j8) (z:=part wk [1,1,1,1]) (by kernel_rfl) (by kernel_rfl) (by kernel_rfl) DB.dst hk (f1:=[]) 60 fY 4 (fun a:Nat=>iy c i l g a) (fun a=>gj c (uU c a) (kO (gF c i l g) a)) (fun a=>a≤4) (fun a=>a=4) (fun a=>4-a) (fun _=>False) ⟨_,NG,?_⟩ (fun a ha=>?_) (fun a ha=>?_) (fun _ _ h=>h.elim)
 ·simp only[aa.all,az,Int.toNat_natCast]
  exact⟨⟨by omega,by omega⟩,0,by omega,[(0,0),(1,4096),(2,8192),(3,24576)],rfl,rfl,rfl,bF rfl rfl rfl (fun q hq=>.inr ⟨rfl,bP rfl (by decide)⟩) (bk rfl rfl (.inr ⟨rfl,dJ (show dD [.rat _ _,.rat _ _,.rat _ _,.rat _ _] [.rat _ _,.rat _ _,.rat _ _,.rat _ _]from⟨bP rfl (by decide),bP rfl (by decide),bP rfl (by decide),bP rfl (by decide),trivial⟩)⟩) (bk rfl rfl (aP rfl rfl) (bk rfl rfl (aP rfl rfl) trivial)))⟩
 ·have re:∀{x:Nat→Rat} {h:Pl},eu [] (iy c i l g a,gj c x h) (iy c i l g a) (gj c x h) 4:=
   fun {x h}=>⟨[(0,0),(1,1),(2,2),(3,3)],rfl,rfl,rfl,bF rfl rfl rfl (fun q hq=>aP rfl rfl) (bk rfl rfl (aP rfl rfl) (bk rfl rfl (aP rfl rfl) (bk rfl rfl (aP rfl rfl) trivial)))⟩
  refine aj.vC hT qj hm (y:=j8) (x1:=kE) (zb:=part j8 [1,1,1]) [1,1,0] (j:=1) (by kernel_rfl) (by kernel_rfl) (by kernel_rfl) (by kernel_rfl) hk (f1:=[17]) 60 fY 4 (fun _:Unit=>iy c i l g a) (fun _=>gj c (uU c a) (kO (gF c i l g) a)) (fun _=>a<4) ⟨_,VR,?_⟩ (fun _ ha'=>?_)
  ·simp only[aa.all,az,decide_eq_true_eq,decide_eq_false_iff_not]
   exact⟨fun h1=>⟨(),by omega,re⟩,fun h1 s' hs'=>⟨rfl,a,by omega,re.le hs' hk⟩⟩
  have nx:∀s',(∃ρ,Le cx ρ s' ⟨aD fY (iy c i l g a),gj c (uU c (a+1)) (kO (gF c i l g) (a+1)),4⟩)→aj P cx kJ.ntmps (part j8 [1,1,1]) s' (F9 cx fY (fun a:Nat=>iy c i l g a) (fun a=>gj c (uU c a) (kO (gF c i l g) a)) 4 (fun a=>a≤4) (fun a=>a=4) (fun a=>4-a) 0 (fun s'=>∃v,False∧aR fY s'=some v) a):=fun s' hle=>by
   refine aj.jd hle (aj.aV hT qj hm 60 fY P7 (by kernel_rfl) ?_)
   simp only[aa.all,az]
   exact⟨by omega,fun s'' hs''=>⟨a+1,by omega,by dsimp only;omega,eu.le ⟨[(0,0),(1,1),(2,2),(3,3)],rfl,rfl,rfl,bF rfl rfl rfl (fun q hq=>aP rfl rfl) (bk rfl rfl (aP rfl rfl) (bk rfl rfl (aP rfl rfl) (bk rfl rfl (aP rfl rfl) trivial)))⟩ hs'' hk⟩⟩
  exact SD ha' hk hp1 hp6 hn hm2 hi hi2 nx
 ·subst ha
  refine aj.p6 ((aC.fin hT qj hm 60 Lf (by kernel_rfl) ?_).mono fun _ _ h=>.inl h)
  simp only[aa.all,az]
  exact⟨⟨by omega,by omega⟩,by omega,.refl _⟩
def Gb:Spec:=cS (kC (qP sK sK) (kC kI (kC (kL sK) kN))) (fun a=>cP (nM a.1 a.2.1 a.2.2.1.1 a.2.2.1.2) sB) fun a=>[1≤a.1.p,a.1.p≤6,a.1.n<2^40,a.1.m<2^40,-2^40<a.2.1,a.2.1<2^40]
theorem Wz:∀K args pre r,Gb K args pre=some r→aB P rK K args pre r:=cZ fun⟨c,i,⟨l,g⟩,_⟩ K hn=>Sn hn.1 hn.2.1 hn.2.2.1 hn.2.2.2.1 hn.2.2.2.2.1 hn.2.2.2.2.2 K
end Go.Am.B

/- ref02: SameList, Mid, Text; ref08.Greville. -/
namespace Go.Am.B
open Go Go.Am.N AV aa ah IntKind
theorem Sg:aN P u9 jm (au jm):=aO Re (by kernel_rfl) (by kernel_rfl) (by kernel_rfl)
theorem ME:aN P vK iF (au iF):=aO MG (by kernel_rfl) (by kernel_rfl) (by kernel_rfl)
end Go.Am.B

/- Affine changes of knots: knots.Affine, ref08.Affine; ref08.Mirror. -/
namespace Go.Am.B
open Go Go.Am.N AV aa ah IntKind
abbrev BE (m:Nat) (k:Nat→Rat) (s:Nat):ak:=⟨true,true,3,m,fun i=>.rat (k i) s⟩
end Go.Am.B
