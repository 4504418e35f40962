/- fG.Times, ref08.Times; fG.copied. -/
import Derived.Test.YtppeigelbecpbaaGreatY45
import Derived.Test.YtppeigelbecpbaaGreatC8
import Derived.Test.YtppeigelbecpbaaGreatZ2
set_option linter.unusedVariables false
namespace Go.Am.B
open Go Go.Am.N AV aa aj IntKind
theorem aaO:aO P ya sD (aq sD):=aP SA (by kernel_rfl) (by kernel_rfl) (by kernel_rfl)
theorem Kg:aO P vp AR (aq AR):=aP af0 (by kernel_rfl) (by kernel_rfl) (by kernel_rfl)
abbrev vL:List Nat:=[3,5,8,9,10]
abbrev wM (n:Nat) (k:Nat→Rat) (c i:Nat):List AV:=[.ptr 0 0 3 0 [],.int .i64 c,ls k n,.int .i64 n,.int .i64 i]
noncomputable abbrev x9:Code:=aq sD
abbrev sJ:Nat:=4000
abbrev fh (m:Nat) (k:Nat→Rat):ah:=⟨true,true,3,m,fun i=>.rat (k i) sK⟩
abbrev xQ:List Nat:=[3,9,10,11]
abbrev BQ (n:Nat) (k:Nat→Rat) (i:Nat):List AV:=[.own 0 3 0 i,bM k n sJ,.int .i64 n,.int .i64 i]
noncomputable abbrev uP:Code:=aq AR
theorem Yn {n:Nat} {k:Nat→Rat} {t:Rat}:aG T fD [] 60 vL (before x9 [1,1,0,1]) ⟨aM 0 [ls k n,.rat t sK],[],0⟩=
  some (leaf normal ([ptr 0 0 (bh (rat t sK)).size 0 [],int i64 (0:Int),ag 3 n fun i↦rat (k i) 4096,int i64 (↑n:Int),int i64 (0:Int)],[((0:Nat),ah.mk false true (bh (rat t sK)).size 1 fun x↦rat t 4096)])):=by kernel_rfl
theorem Xz {n c i:Nat} {k:Nat→Rat} {t:Rat}:aG T fD [11,16] 60 vL [part x9 [1,1,0,1,0,0]] ⟨aB vL (wM n k c i),[(0,tP t sK)],1⟩=
  let c10:Int:=(↑n:Int);let c9:Prop:=0<1;let c8:Int:=(↑c:Int)+(1:Int);let c7:AV:=ag 3 n fun i↦rat (k i) 4096;let c5:Int:=(↑i:Int);let c4:AV:=ptr 0 0 3 0 [];let c2:Int:=(2:Int)^63;let c1:Nat×ah:=((0:Nat),ah.mk false true 3 1 fun x↦rat t 4096);let c6:Int:=c5+(1:Int);let c3:List AV:=[c7,int i64 c10,int i64 c6];some (fork (decide (c5<c10)) (af [(0:Int)≤c5∧c5.toNat<n,c9] (af [c9,c9] (fork (decide (k c5.toNat=t)) (af [-c2≤c8∧c8<c2] (af [-c2≤c6∧c6<c2] (leaf normal (c4::int i64 c8::c3,[c1])))) (af [-c2≤c6∧c6<c2] (leaf normal (c4::int i64 (↑c:Int)::c3,[c1])))))) (leaf (exit 0) ([c4,int i64 (↑c:Int),c7,int i64 c10,int i64 c5],[c1]))):=by kernel_rfl
theorem Wf {n c i:Nat} {k:Nat→Rat} {t:Rat}:bZ T fD [] 60 sD [part x9 [1,1,1]] ⟨aB vL (wM n k c i),[(0,tP t sK)],1⟩=
  some (leaf ret [int i64 (↑c:Int)]):=by kernel_rfl
theorem adg {n:Nat} {k:Nat→Rat}:aG T fD [] 60 xQ (before uP [1,1,0,1]) ⟨aM 0 [bM k n sJ],[],0⟩=
  let c1:Int:=(↑n:Int);some (af [(0:Int)≤(0:Int)∧(0:Int)≤c1∧c1≤(2:Int)^47∧c1*(↑(56:Nat):Int)≤(2:Int)^47] (leaf normal ([own 12288 3 0 0,ag 3 n fun i↦rat (k i) 4000,int i64 c1,int i64 (0:Int)],[((12288:Nat),ah.mk true true 3 0 fun x↦rat 0 1)]))):=by kernel_rfl
theorem aa9 {n i:Nat} {k:Nat→Rat}:aG T fD [12] 60 xQ [part uP [1,1,0,1,0,0]] ⟨aB xQ (BQ n k i),[(0,fh i k)],1⟩=
  let c4:Int:=(↑n:Int);let c2:AV:=ag 3 n fun i↦rat (k i) 4000;let c1:Int:=(↑i:Int);let c3:Int:=c1+(1:Int);some (fork (decide (c1<c4)) (af [(0:Int)≤c1∧c1.toNat<n,(0:Nat)<1] (af [(0:Nat)<1,(1:Nat)*3≤2^24,(i+1)*((56:Nat)+1)*2≤2^47] (af [-(2:Int)^63≤c3∧c3<(2:Int)^63] (leaf normal ([own 40961 3 0 (i+1),c2,int i64 c4,int i64 c3],[((40961:Nat),ah.mk true true 3 (i+1) fun i_1↦if i_1<i then rat (k i_1) sK else nth [rat (k c1.toNat+0) (sJ+1+1)] (rat 0 1) (i_1-i+0))]))))) (leaf (exit 0) ([own 0 3 0 i,c2,int i64 c4,int i64 c1],[((0:Nat),ah.mk true true 3 i fun i↦rat (k i) 4096)]))):=by kernel_rfl
theorem aaj {n i:Nat} {k:Nat→Rat}:aG T fD [] 60 [2] [part uP [1,1,1]] ⟨aB xQ (BQ n k i),[(0,fh i k)],1⟩=
  some (leaf ret ([own 0 3 0 i],[((0:Nat),ah.mk true true 3 i fun i↦rat (k i) 4096)])):=by kernel_rfl
theorem adR {k:Nat→Rat} {t:Rat} {i:Nat} (h:k i=t):dU k t (i+1)=dU k t i+1:=by rw[dU,if_pos h]
theorem aep {k:Nat→Rat} {t:Rat} {i:Nat} (h:¬k i=t):dU k t (i+1)=dU k t i:=by rw[dU,if_neg h];rfl
theorem adp {n:Nat} {k:Nat→Rat} {t:Rat} (hn:n<2^40) (K:Nat):az P ya K [ls k n,.rat t sK] [] (aF (.int .i64 (dU k t n)) []):=by
 refine iL (r:=aF (.int .i64 (dU k t n)) []) hT jt hm aaO rfl (of_decide_eq_true (by kernel_rfl)) rfl [1,1,0,1] (i:=0) (y:=part x9 [1,1,0,1,0,0]) (z:=part x9 [1,1,1]) (by kernel_rfl) (by kernel_rfl) (by kernel_rfl) (f1:=[]) (f2:=[11,16]) (f3:=[]) 60 vL 1
  (fun i:Nat=>wM n k (dU k t i) i) (fun _=>[(0,tP t sK)]) (fun i=>i≤n) (fun i=>i=n) (fun i=>n-i) (fun _=>⟨⟨_,Yn,?_⟩,fun i hi=>⟨_,Xz,?_⟩,fun i hi=>⟨_,Wf,?_⟩⟩) K []
 ·simp only[aa.all,ax]
  exact⟨0,Nat.zero_le _,[(0,0)],rfl,rfl,rfl,aN rfl rfl (aK rfl rfl) trivial⟩
 ·have h1:=Jw (k:=k) (t:=t) (n:=i)
  simp only[aa.all,ax,decide_eq_true_eq,decide_eq_false_iff_not,Int.toNat_natCast,Nat.add_zero]
  refine⟨fun h2=>⟨by omega,by omega,fun h3=>⟨by omega,by omega,i+1,by omega,by dsimp only;omega,[(0,0)],rfl,?_,rfl,aN rfl rfl (aK rfl rfl) trivial⟩,fun h3=>⟨by omega,i+1,by omega,by dsimp only;omega,[(0,0)],rfl,?_,rfl,aN rfl rfl (aK rfl rfl) trivial⟩⟩,fun h2=>⟨rfl,i,by omega,[(0,0)],rfl,rfl,rfl,aN rfl rfl (aK rfl rfl) trivial⟩⟩
  ·show _=(wM n k (dU k t (i+1)) (i+1)).map _
   rw[adR h3];rfl
  ·show _=(wM n k (dU k t (i+1)) (i+1)).map _
   rw[aep h3];rfl
 ·subst hi
  simp only[aa.all,ax]
  exact .refl _
abbrev Vp:oW ((Nat×(Nat→Rat))×Rat×Unit):=kC (kL sK) (kC (fy sK) kN)
noncomputable def Ma:Spec:=cC Vp (fun a=>.int .i64 (dU a.1.2 a.2.1 a.1.1)) fun a=>[a.1.1<2^40]
theorem ZS:∀K args pre r,Ma K args pre=some r→az P ya K args pre r:=cz fun⟨⟨n,k⟩,t,_⟩ K hn=>adp hn K
theorem aby {args:List AV} {n:Nat} {k:Nat→Rat} {l:List Prop} (ha:ax l→eW (aT []) args [bM k n sJ]) (hn:ax l→n<2^40) (K:Nat):az P vp K args [] ⟨kV [.own K 3 0 n],[(K,fh n k)],l⟩:=by
 refine BZ hT Kg ha (of_decide_eq_true (by kernel_rfl)) fun need c hk=>?_
 have hn:=hn need
 refine ak.jv hT jt hm [1,1,0,1] (i:=0) (y:=part uP [1,1,0,1,0,0]) (z:=part uP [1,1,1]) (by kernel_rfl) (by kernel_rfl) (by kernel_rfl) Kg.dst hk (f1:=[]) (f2:=[12]) 60 xQ 1 (fun i:Nat=>BQ n k i) (fun i=>[(0,fh i k)])
  (fun i=>i≤n) (fun i=>i=n) (fun i=>n-i) (fun _=>False) ⟨_,adg,?_⟩ (fun i hi=>⟨_,aa9,?_⟩) (fun i hi=>?_) (fun _ _ h=>h.elim)
 ·simp only[aa.all,ax]
  exact⟨by omega,0,Nat.zero_le _,[(0,12288)],rfl,rfl,rfl,bq rfl rfl rfl (fun i hi=>absurd hi (Nat.not_lt_zero i)) trivial⟩
 ·simp only[aa.all,ax,decide_eq_true_eq,decide_eq_false_iff_not,Int.toNat_natCast,Nat.add_zero]
  exact⟨fun h2=>⟨by omega,by omega,by omega,i+1,by omega,by dsimp only;omega,[(0,40961)],rfl,rfl,rfl,bq rfl rfl rfl (fun j hj=>Fj (fun _ _=>rfl) (Rat.add_zero _) (Nat.le_refl _) (by decide) hj) trivial⟩,fun h2=>⟨rfl,i,by omega,[(0,0)],rfl,rfl,rfl,bq rfl rfl rfl (fun j hj=>aK rfl rfl) trivial⟩⟩
 ·subst hi
  refine ak.bf hT jt hm 60 [2] aaj (by kernel_rfl) fun s' hs'=>⟨.inr rfl,[2],_,[.own 0 3 0 i],_,0,_,hs',by kernel_rfl,⟨⟨rfl,bR (by simp[aT,look]) rfl rfl⟩,trivial⟩,rfl,ic rfl fun i hi=>aH rfl⟩
noncomputable def Lh:Spec:=n6 fun K l=>match l with
 |[v]=>match(kL sJ).read v with
  |some ((n,k),q)=>some ⟨.own K 3 0 n,[(K,fh n k)],q++[n<2^40]⟩
  |none=>none
 |_=>none
theorem Y1:∀K args pre r,Lh K args pre=some r→az P vp K args pre r:=by
 refine s8 fun K args r hk hs=>?_
 split at hs
 ·rename_i v
  split at hs
  ·rename_i n k q hv
   simp only[Option.some.injEq]at hs
   subst hs
   exact aby (fun hn=>Ao hk (by cases v<;>first|rfl|simp[kL,zL]at hv) ⟨(kL sJ).ok hv (dw.1 hn).1,trivial⟩) (fun hn=>(dw (a:=q) (b:=[n<2^40]).1 hn).2) K
  ·simp at hs
 ·simp at hs
end Go.Am.B

/- slices.CompactFunc of numbers; fG.Distinct. -/
namespace Go.Am.B
open Go Go.Am.N AV aa aj IntKind
theorem KA:aO P A4 y8 (aq y8):=aP Uc (by kernel_rfl) (by kernel_rfl) (by kernel_rfl)
theorem YQ:aO P zA wK (aq wK):=aP On (by kernel_rfl) (by kernel_rfl) (by kernel_rfl)
noncomputable abbrev rG:Func:=y8
noncomputable abbrev wW:Code:=aq rG
noncomputable abbrev rX:Code:=part wW [1,1,0,1,0,0]
noncomputable abbrev rq:Code:=part rX [1,0,0]
noncomputable abbrev nk:Code:=part rq [1,0]
abbrev iP:List Nat:=[4,0,1,5]
abbrev wz (n i:Nat):List AV:=[.nil,.own 0 3 0 n,.func fJ [],.int .i64 i]
abbrev zq:List Nat:=[4,0,1,5,28]
abbrev DC (n i:Nat) (b:Bool):List AV:=[.nil,.own 0 3 0 n,.func fJ [],.int .i64 i,.bool b]
abbrev vI:List Nat:=[4,0,1,5,6,7]
abbrev qF (n m b j:Nat):List AV:=[.nil,.own 0 3 0 n,.func fJ [],.int .i64 m,.own 0 3 b (n-b),.int .i64 j]
theorem ZM {n:Nat} {k:Nat→Rat}:aG T fD [10] 60 iP (before wW [1,1,0,1]) ⟨aM 0 [.own 0 3 0 n,.func fJ []],[(0,fh n k)],1⟩=
  let c2:Nat×ah:=((0:Nat),ah.mk true true 3 n fun i↦rat (k i) 4096);let c1:AV:=own 0 3 0 n;some (fork (decide ((↑n:Int)<(2:Int))) (leaf ret ([c1,c1,func fJ [],tuple []],[c2])) (leaf normal ([nil,c1,func fJ [],int i64 (1:Int)],[c2]))):=by kernel_rfl
theorem abg {n i:Nat} {k:Nat→Rat}:aG T fD [15] 60 iP (before rX [1,0]) ⟨aB iP (wz n i),[(0,fh n k)],1⟩=
  let c1:List AV×aA:=([nil,own 0 3 0 n,func fJ [],int i64 (↑i:Int)],[((0:Nat),ah.mk true true 3 n fun i↦rat (k i) 4096)]);some (fork (decide ((↑i:Int)<(↑n:Int))) (leaf normal c1) (leaf (exit 0) c1)):=by kernel_rfl
theorem NN {n i:Nat} {k:Nat→Rat}:aG T fD [] 60 zq (before rq [1]) ⟨aB iP (wz n i),[(0,fh n k)],1⟩=
  let c4:Int:=(↑i:Int);let c2:Nat:=c4.toNat+0;let c1:Int:=c4-(1:Int);let c3:Nat:=c1.toNat+0;some (af [(0:Int)≤c4∧c4.toNat<n,c2<n,-(2:Int)^63≤c1∧c1<(2:Int)^63,(0:Int)≤c1∧c1.toNat<n,c3<n] (leaf normal ([nil,own 0 3 0 n,func fJ [],int i64 c4,AV.bool (decide (k c2=k c3))],[((0:Nat),ah.mk true true 3 n fun i↦rat (k i) 4096)]))):=by kernel_rfl
theorem Qk {n i:Nat} {b:Bool} {k:Nat→Rat}:aG T fD [] 60 vI (before nk [1,0,1]) ⟨aB zq (DC n i b),[(0,fh n k)],1⟩=
  let c2:Int:=(↑i:Int);let c1:Int:=(↑n:Int);some (af [(0:Int)≤c2∧c2≤c1∧c1≤c1∧c1≤c1] (leaf normal ([nil,own 0 3 0 n,func fJ [],int i64 c2,own 0 3 ((0:Nat)+c2.toNat) (c1.toNat-c2.toNat),int i64 (1:Int)],[((0:Nat),ah.mk true true 3 n fun i↦rat (k i) 4096)]))):=by kernel_rfl
theorem PV {n m b j:Nat} {k:Nat→Rat}:aG T fD [35,49] 60 vI [part nk [1,0,1,0,0]] ⟨aB vI (qF n m b j),[(0,fh n k)],1⟩=
  let c11:AV:=func fJ [];let c7:AV:=own 0 3 b (n-b);let c6:Nat×ah:=((0:Nat),ah.mk true true 3 n fun i↦rat (k i) 4096);let c5:Int:=(↑m:Int);let c4:AV:=own 0 3 0 n;let c2:Int:=(2:Int)^63;let c1:Int:=(↑j:Int);let c13:Int:=c5+(1:Int);let c12:Prop:=(0:Int)≤c1∧c1.toNat<n-b;let c10:Nat:=c5.toNat+0;let c9:Nat:=c1.toNat+b;let c8:Int:=c1+(1:Int);let c3:Int:=c1-(1:Int);some (fork (decide (c1<(↑(n-b):Int))) (af [c12,c9<n,-c2≤c3∧c3<c2,(0:Int)≤c3∧c3.toNat<n-b,c3.toNat+b<n] (fork (!decide (k c9=k (c3.toNat+b))) (af [c12,c9<n,(0:Int)≤c5∧c5.toNat<n,c10<n] (af [-c2≤c13∧c13<c2] (af [-c2≤c8∧c8<c2] (leaf normal ([nil,c4,c11,int i64 c13,c7,int i64 c8],[((0:Nat),ah.mk true true 3 n fun j↦rat (bif j==c10 then k c9 else k j) (bif j==c10 then sK else sK))]))))) (af [-c2≤c8∧c8<c2] (leaf normal ([nil,c4,c11,int i64 c5,c7,int i64 c8],[c6]))))) (leaf (exit 2) ([nil,c4,c11,int i64 c5,c7,int i64 c1],[c6]))):=by kernel_rfl
theorem afA {n m b j:Nat} {k:Nat→Rat}:aG T fD [] 60 iP [part nk [1,1]] ⟨aB vI (qF n m b j),[(0,fh n k)],1⟩=
  let c4:Int:=(↑n:Int);let c2:Int:=(↑m:Int);let c3:Nat:=0+c2.toNat;let c1:Nat:=c3+(c4.toNat-c2.toNat);some (af [(0:Int)≤c2∧c2≤c4∧c4≤c4∧c4≤c4] (af [(0:Int)≤(0:Int)∧(0:Int)≤c2∧c2≤c2∧c2≤c4] (leaf ret ([own 0 3 0 (c2.toNat-Int.toNat (0:Int)),own 0 3 0 n,func fJ [],int i64 c2],[((0:Nat),ah.mk true true 3 n fun i↦if c3≤i∧i<c1 then rat 0 1 else rat (k i) sK)])))):=by kernel_rfl
theorem PF {n i:Nat} {b:Bool} {k:Nat→Rat}:aG T fD [] 60 iP [part rq [1,1],part rX [1,1]] ⟨aB zq (DC n i b),[(0,fh n k)],1⟩=
  let c1:Int:=(↑i:Int)+(1:Int);some (af [-(2:Int)^63≤c1∧c1<(2:Int)^63] (leaf normal ([nil,own 0 3 0 n,func fJ [],int i64 c1],[((0:Nat),ah.mk true true 3 n fun i↦rat (k i) 4096)]))):=by kernel_rfl
theorem TR {n i:Nat} {k:Nat→Rat}:aG T fD [] 60 iP [part wW [1,1,1]] ⟨aB iP (wz n i),[(0,fh n k)],1⟩=
  let c1:AV:=own 0 3 0 n;some (leaf ret ([c1,c1,func fJ [],int i64 (↑i:Int)],[((0:Nat),ah.mk true true 3 n fun i↦rat (k i) 4096)])):=by kernel_rfl
def jz (k:Nat→Rat) (n i:Nat):Rat:=if i<bW k n then cS k n i else 0
theorem aaT {k:Nat→Rat} {n:Nat} (h:∀j,j<n→fI k j) {i:Nat} (hi:i<n):bW k n=n∧jz k n i=k i:=by
 obtain⟨h1,h2⟩:=Kk h
 unfold jz
 rw[h1,if_pos hi]
 exact⟨rfl,h2 i hi⟩
theorem RA {kk n:Nat} {k:Nat→Rat} (hn:n<2^40) (c:Ctx) (hk:Kept [0] c):ak P c rG.ntmps wW ⟨aM 0 [.own 0 3 0 n,.func fJ []],[(0,fh n k)],1⟩ (CH rG kk [.own kk 3 0 (bW k n)] (fh n (jz k n))):=by
 have hall:∀{L:List Nat} {us:List AV},(∀j,j<n→fI k j)→jM (aB L us) rG.results.toList=some [.own 0 3 0 n]→AN rG kk [.own kk 3 0 (bW k n)] (fh n (jz k n)) L (us,[(0,fh n k)]):=fun h1 h2=>
  ⟨_,_,h2,⟨⟨rfl,bR (by simp[aT,look]) rfl (Kk h1).1.symm⟩,trivial⟩,Jd,rfl,rfl,rfl,rfl,fun i hi=>by
   show eE _ (.rat (k i) sK) (.rat (jz k n i) sK)
   rw[(aaT h1 hi).2];exact aH rfl⟩
 refine ak.ME hT jt hm [1,1,0,1] (i:=0) (y:=rX) (z:=part wW [1,1,1]) (by kernel_rfl) (by kernel_rfl) (by kernel_rfl) KA.dst hk (f1:=[10]) 60 iP 1 (fun i:Nat=>wz n i) (fun _=>[(0,fh n k)]) (fun i=>1≤i∧i≤n∧∀j,j<i→fI k j) (fun i=>i=n∧∀j,j<n→fI k j) (fun i=>n-i)
  (AN rG kk [.own kk 3 0 (bW k n)] (fh n (jz k n)) iP) ⟨_,ZM,?_⟩ (fun i ⟨h1,h2,h3⟩=>?_) (fun i ⟨h1,h2⟩=>?_) (fun v s' hv hs'=>hv.fin hs')
 ·simp only[aa.all,ax,decide_eq_true_eq,decide_eq_false_iff_not]
  exact⟨fun h=>hall (fun j hj=>.inl (by omega)) (by kernel_rfl),fun h=>⟨1,⟨by omega,by omega,fun j hj=>.inl (by omega)⟩,[(0,0)],rfl,rfl,rfl,bq rfl rfl rfl (fun x hx=>aK rfl rfl) trivial⟩⟩
 ·refine ak.zn hT jt hm (y:=rX) (x1:=rq) (zb:=part rX [1,1]) [1,0] (j:=1) (by kernel_rfl) (by kernel_rfl) (by kernel_rfl) (by kernel_rfl) hk (f1:=[15]) 60 iP 1 (fun _:Unit=>wz n i) (fun _=>[(0,fh n k)]) (fun _=>i<n) ⟨_,abg,?_⟩ (fun _ hlt=>?_)
  ·simp only[aa.all,ax,decide_eq_true_eq,decide_eq_false_iff_not]
   exact⟨fun h=>⟨(),by omega,[(0,0)],rfl,rfl,rfl,bq rfl rfl rfl (fun x hx=>aK rfl rfl) trivial⟩,fun h s' hs'=>⟨rfl,i,⟨by omega,fun j hj=>h3 j (by omega)⟩,eP.le ⟨[(0,0)],rfl,rfl,rfl,bq rfl rfl rfl (fun x hx=>aK rfl rfl) trivial⟩ hs' hk⟩⟩
  refine ak.branch hT jt hm (x:=rq) (u:=nk) (v:=part rq [1,1]) (b:=.tmp 28) [1] (by kernel_rfl) (by kernel_rfl) (by kernel_rfl) (by kernel_rfl) hk (f1:=[]) 60 zq 1 (fun _:Unit=>DC n i (decide (k i=k (i-1)))) (fun _=>[(0,fh n k)]) (fun _=>True) ⟨_,NN,?_⟩ (fun _ _=>⟨decide (k i=k (i-1)),rfl,fun hb=>?_,fun hb=>?_⟩)
  ·simp only[aa.all,ax]
   simp only[Int.toNat_natCast,Nat.add_zero,show((i:Int)-1).toNat=i-1 by omega]
   exact⟨⟨⟨by omega,by omega⟩,by omega,by omega,⟨by omega,by omega⟩,by omega⟩,(),trivial,[(0,0)],rfl,rfl,rfl,bq rfl rfl rfl (fun x hx=>aK rfl rfl) trivial⟩
  ·have hold:¬fI k i:=fun h=>by
    rcases h with h|h
    ·omega
    ·exact h (of_decide_eq_true hb)
   obtain⟨s1,s2⟩:=adG h3 hold
   refine ak.Ca hT jt hm (x:=nk) [1,0,1] (i:=2) (y:=part nk [1,0,1,0,0]) (by kernel_rfl) (by kernel_rfl) (by kernel_rfl) hk (f1:=[]) (f2:=[35,49]) 60 vI 1 (fun j:Nat=>qF n (bW k (i+j)) i j) (fun j=>[(0,fh n (gH k (i+j)))]) (fun j=>1≤j∧i+j≤n) (fun j=>i+j=n) (fun j=>n-j) (fun _=>False) ⟨_,Qk,?_⟩ (fun j ⟨j1,j2⟩=>⟨_,PV,?_⟩) (fun j s' hj hle=>?_) (fun _ _ h=>h.elim)
   ·simp only[aa.all,ax]
    simp only[Int.toNat_natCast,Nat.zero_add]
    refine⟨by omega,1,⟨by omega,by omega⟩,[(0,0)],rfl,?_,rfl,bq rfl rfl rfl (fun x hx=>aK rfl ?_) trivial⟩
    ·show _=(qF n (bW k (i+1)) i 1).map _
     rw[s1];rfl
    ·rw[s2]
   ·simp only[aa.all,ax,decide_eq_true_eq,decide_eq_false_iff_not]
    have hd:=Hz hold (l:=i+j) (by omega)
    have e1:gH k (i+j) (j+i)=k (i+j):=by rw[Nat.add_comm j i];exact IL (by omega)
    have e2:gH k (i+j) (((j:Int)-1).toNat+i)=k (i+j-1):=by rw[show((j:Int)-1).toNat+i=i+j-1 by omega];exact IL (by omega)
    simp only[Int.toNat_natCast,Nat.add_zero,e1,e2,Bool.not_eq_true',Bool.not_eq_false',decide_eq_true_eq,decide_eq_false_iff_not]
    refine⟨fun h=>⟨by omega,fun hne=>⟨by omega,by omega,by omega,j+1,by omega,by dsimp only;omega,[(0,0)],rfl,?_,rfl,bq rfl rfl rfl (fun x hx=>?_) trivial⟩,fun heq=>⟨by omega,j+1,by omega,by dsimp only;omega,[(0,0)],rfl,?_,rfl,bq rfl rfl rfl (fun x hx=>?_) trivial⟩⟩,fun h=>⟨rfl,j,by omega,[(0,0)],rfl,rfl,rfl,bq rfl rfl rfl (fun x hx=>aK rfl rfl) trivial⟩⟩
    ·show _=(qF n (bW k (i+j+1)) i (j+1)).map _
     rw[So (l:=i+j) (.inr hne)];rfl
    ·refine .inr ⟨rfl,bL ?_ (by cases (x==bW k (i+j))<;>exact Nat.le_refl _)⟩
     show _=gH k (i+j+1) x
     rw[ZQ (.inr hne) (by omega)]
     by_cases hx2:x=bW k (i+j)
     ·subst hx2;simp
     ·have:(x==bW k (i+j))=false:=by simpa using hx2
      rw[this,if_neg hx2];rfl
    ·have hold2:¬fI k (i+j):=fun h=>by
      rcases h with h|h
      ·omega
      ·exact h heq
     show _=(qF n (bW k (i+j+1)) i (j+1)).map _
     rw[IP hold2];rfl
    ·have hold2:¬fI k (i+j):=fun h=>by
      rcases h with h|h
      ·omega
      ·exact h heq
     exact aK rfl (by show _=AV.rat (gH k (i+j+1) x) sK;rw[(SO hold2).2])
   ·rw[show behind nk [1,0,1]=[part nk [1,1]]from by kernel_rfl]
    refine aC.weak rfl hle (aC.bf hT jt hm 60 iP afA (by kernel_rfl) ?_)
    simp only[aa.all,ax]
    rw[hj]
    have hd:=rQ (k:=k) (n:=n)
    simp only[Int.toNat_natCast,Nat.zero_add]
    refine⟨by omega,by omega,fun s' hs'=>⟨_,⟨[.own 0 3 0 (bW k n)],⟨true,true,3,n,fun i=>if bW k n≤i∧i<bW k n+(n-bW k n)then .rat 0 1 else .rat (gH k n i) sK⟩,by kernel_rfl,⟨⟨rfl,bR (by simp[aT,look]) rfl rfl⟩,trivial⟩,rfl,⟨rfl,rfl,rfl,rfl,fun x hx=>?_⟩⟩,hs'⟩⟩
    have hx:x<n:=hx
    refine ny (zQ rfl rfl) ?_
    show bz (if _ then _ else _) (.rat (jz k n x) sK)
    unfold jz
    by_cases h:x<bW k n
    ·rw[if_neg (by omega),if_pos h]
     exact de (by unfold gH;rw[if_pos h])
    ·rw[if_pos (by omega),if_neg h]
     exact cN (by decide)
  ·have hnew:fI k i:=.inr (of_decide_eq_false hb)
   refine ak.tail (fun s' hh=>by have:=hh.1;omega) (aC.bf hT jt hm 60 iP PF (by kernel_rfl) ?_)
   simp only[aa.all,ax]
   refine⟨by omega,fun s' hs'=>⟨i+1,⟨by omega,by omega,fun j hj=>?_⟩,by dsimp only;omega,eP.le ⟨[(0,0)],rfl,rfl,rfl,bq rfl rfl rfl (fun x hx=>aK rfl rfl) trivial⟩ hs' hk⟩⟩
   by_cases he:j=i
   ·subst he;exact hnew
   ·exact h3 j (by omega)
 ·subst h1
  refine ak.bf hT jt hm 60 iP TR (by kernel_rfl) ?_
  simp only[aa.all,ax]
  exact fun s' hs'=>(hall h2 (by kernel_rfl)).fin hs'
def Da (f:Nat→AV) (n s:Nat):Prop:=∀i,i<n→keys (f i)=[]∧bz (f i) (.rat (aI (f i)) s)
theorem P4 {k:Nat→Rat} {n s s':Nat} (h:s≤s'):Da (fun i=>.rat (k i) s) n s':=fun _ _=>⟨rfl,cN h⟩
def Cc:Spec:=fun _ args pre=>match args,pre with
 |[.own k 3 0 n,.func g []],[(k',⟨true,true,3,m,f⟩)]=>match Nat.beq g fJ&&k'==k with
  |true=>some ⟨kV [.own k 3 0 (bW (fun i=>aI (f i)) n)],[(k,fh n (jz (fun i=>aI (f i)) n))],[m=n,Da f n sK,n<2^40]⟩
  |false=>none
 |_,_=>none
theorem adW:∀K args pre r,Cc K args pre=some r→az P A4 K args pre r:=by
 intro K args pre r h
 unfold Cc at h
 split at h
 ·rename_i k n g k' m f
  split at h
  ·rename_i hc
   simp only[Bool.and_eq_true,beq_iff_eq]at hc
   obtain⟨h1,h2⟩:=hc
   have h1:=Nat.eq_of_beq_eq_true h1
   subst h1 h2
   simp only[Option.some.injEq]at h
   subst h
   intro need
   have h0:=need
   obtain⟨rfl,n1,n2⟩:=need
   exact aes hT KA (rest:=[.func fJ []]) (o2:=⟨true,true,3,m,f⟩) (o:=fh m fun i=>aI (f i)) rfl rfl (of_decide_eq_true (by kernel_rfl)) (fun ρ=>⟨rfl,rfl,rfl,rfl,fun i hi=>ny (n1 i hi).1 (n1 i hi).2⟩) (fun _ c hk=>RA n2 c hk) K h0
  ·simp at h
 ·simp at h
end Go.Am.B

/- fG.Distinct, ref08.Distinct, slices.IsSortedFunc of numbers. -/
namespace Go.Am.B
open Go Go.Am.N AV aa aj IntKind
theorem Qi:aO P tq sx (aq sx):=aP aeL (by kernel_rfl) (by kernel_rfl) (by kernel_rfl)
noncomputable abbrev vf:Code:=aq sx
abbrev tZ:List Nat:=[4,0,1,5]
abbrev Dq (n:Nat) (k:Nat→Rat) (i:Nat):List AV:=[.bool false,ls k n,.func iZ [],.int .i64 ((i:Int)-1)]
noncomputable def Lt:aS:=[(vp,Lh),(A4,Cc)]
theorem RI {n:Nat} {k:Nat→Rat}:aG T fD [] 60 tZ (before vf [1,0,1]) ⟨aM 0 [ls k n,.func iZ []],[],0⟩=
  let c1:Int:=(↑n:Int)-(1:Int);some (af [-(2:Int)^63≤c1∧c1<(2:Int)^63] (leaf normal ([AV.bool false,ag 3 n fun i↦rat (k i) 4096,func iZ [],int i64 c1],[]))):=by kernel_rfl
theorem Ou {n i:Nat} {k:Nat→Rat}:aG T fD [10,24] 60 tZ [part vf [1,0,1,0,0]] ⟨aB tZ (Dq n k i),[],1⟩=
  let c5:AV:=ag 3 n fun i↦rat (k i) 4096;let c4:Int:=(2:Int)^63;let c1:Int:=(↑i:Int)-(1:Int);let c3:List AV:=[AV.bool false,c5,func iZ [],int i64 c1];let c2:Int:=c1-(1:Int);let c6:Int:=eU (k c1.toNat) (k c2.toNat);some (fork (decide (c1>(0:Int))) (af [(0:Int)≤c1∧c1.toNat<n,-c4≤c2∧c2<c4,(0:Int)≤c2∧c2.toNat<n] (fork (decide (c6<(0:Int))) (leaf ret (c3,[])) (af [-c4≤c2∧c2<c4] (leaf normal ([AV.bool false,c5,func iZ [],int i64 c2],[]))))) (leaf (exit 0) (c3,[]))):=by kernel_rfl
theorem Ut {n i:Nat} {k:Nat→Rat}:bZ T fD [] 60 sx [part vf [1,1]] ⟨aB tZ (Dq n k i),[],1⟩=
  some (leaf ret [AV.bool true]):=by kernel_rfl
theorem XF {n:Nat} {k:Nat→Rat}:bu T Lt [] 60 wK (aq wK) ⟨aM 0 [bM k n sJ],[],0⟩=
  let c1:Prop:=n<2^40;some (af [bB (fun i↦rat (k i) sJ) n sJ,c1,n=n,Da (fun i↦rat (aI (rat (k i) sJ)) sK) n sK,c1] (leaf ret [ag 3 (bW (fun i↦aI (rat (aI (rat (k i) sJ)) sK)) n) fun i↦rat (jz (fun i↦aI (rat (aI (rat (k i) sJ)) sK)) n (i+0)) 4096])):=by kernel_rfl
def kF (g:FuncId):Kind Unit:=⟨fun v=>match v with
 |.func f []=>match Nat.beq f g with
  |true=>some ((),[])
  |false=>none
 |_=>none,fun _=>.func g [],fun {v a q} h _=>by
  split at h
  ·split at h
   ·rename_i hb
    rw[Nat.eq_of_beq_eq_true hb];exact .refl _
   ·simp at h
  ·simp at h⟩
noncomputable def mX (p:Prop):Bool:=@decide p (Classical.propDecidable p)
theorem abP {p:Prop} (h:p):mX p=true:=@decide_eq_true p (Classical.propDecidable p) h
theorem adD {p:Prop} (h:¬p):mX p=false:=@decide_eq_false p (Classical.propDecidable p) h
theorem Yh {p:Prop} (h:mX p=true):p:=@of_decide_eq_true p (Classical.propDecidable p) h
theorem OO {p:Prop} (h:mX p=false):¬p:=@of_decide_eq_false p (Classical.propDecidable p) h
theorem Pp {n:Nat} {k:Nat→Rat} (hn:n<2^40) (K:Nat):az P tq K [ls k n,.func iZ []] [] (aF (.bool (mX (ou n k))) []):=by
 refine iL (r:=aF (.bool (mX (ou n k))) []) hT jt hm Qi rfl (of_decide_eq_true (by kernel_rfl)) rfl [1,0,1] (i:=0) (y:=part vf [1,0,1,0,0]) (z:=part vf [1,1]) (by kernel_rfl) (by kernel_rfl) (by kernel_rfl) (f1:=[]) (f2:=[10,24]) (f3:=[]) 60 tZ 1
  (fun i:Nat=>Dq n k i) (fun _=>[]) (fun i=>i≤n∧∀j,i≤j+1→j+1<n→k j≤k (j+1)) (fun _=>ou n k) (fun i=>i) (fun _=>⟨⟨_,RI,?_⟩,fun i ⟨h1,h2⟩=>⟨_,Ou,?_⟩,fun i hi=>⟨_,Ut,?_⟩⟩) K []
 ·simp only[aa.all,ax]
  exact⟨by omega,n,⟨Nat.le_refl _,fun j h1 h2=>by omega⟩,eP.vals rfl⟩
 ·simp only[aa.all,ax,decide_eq_true_eq,decide_eq_false_iff_not,lW]
  refine⟨fun h=>⟨by omega,fun hlt=>⟨[.bool false],by kernel_rfl,eM ?_⟩,fun hle=>⟨by omega,i-1,⟨by omega,fun j g1 g2=>?_⟩,by dsimp only;omega,[],rfl,?_,rfl,trivial⟩⟩,fun h=>⟨rfl,i,fun j hj=>h2 j (by omega) hj,[],rfl,rfl,rfl,trivial⟩⟩
  ·refine(adD fun hs=>?_).symm
   have:=hs (i-2) (by omega)
   rw[show((i:Int)-1).toNat=i-2+1 by omega,show((i:Int)-1-1).toNat=i-2 by omega]at hlt
   grind
  ·by_cases he:j+2=i
   ·rw[show((i:Int)-1).toNat=j+1 by omega,show((i:Int)-1-1).toNat=j by omega]at hle
    grind
   ·exact h2 j (by omega) g2
  ·show _=[_,_,_,AV.int .i64 (((i-1:Nat):Int)-1)]
   rw[show((i-1:Nat):Int)-1=(i:Int)-1-1 by omega];rfl
 ·simp only[aa.all,ax]
  exact eM (abP hi).symm
noncomputable def Gj:Spec:=cC (kC (kL sK) (kC (kF iZ) kN)) (fun a=>.bool (mX (ou a.1.1 a.1.2))) fun a=>[a.1.1<2^40]
theorem WY:∀K args pre r,Gj K args pre=some r→az P tq K args pre r:=cz fun⟨⟨n,k⟩,_,_⟩ K hn=>Pp hn K
noncomputable def HQ:Spec:=cC (kC (kL sJ) kN) (fun a=>ls (cS a.1.2 a.1.1) (bW a.1.2 a.1.1)) fun a=>[a.1.1<2^40]
theorem Z1:aW P Lt:=aD Y1 (aD adW aX)
theorem afn:∀K args pre r,HQ K args pre=some r→az P zA K args pre r:=cz fun⟨⟨n,k⟩,_⟩ K hn=>by
 have hn:n<2^40:=hn
 refine bC (r:=aF (ls (cS k n) (bW k n)) []) hT Z1 hm YQ rfl (of_decide_eq_true (by kernel_rfl)) rfl 60 XF (fun _=>?_) K []
 simp only[aa.all,ax]
 exact⟨⟨cm (Nat.le_refl _),hn,trivial,P4 (Nat.le_refl _),hn⟩,uR rfl fun i hi=>by
  show AV.rat (jz k n (i+0)) sK=_
  have hi:i<bW k n:=hi
  rw[Nat.add_zero];unfold jz;rw[if_pos hi]⟩
end Go.Am.B

/- fG.Check, ref08.Check. -/
namespace Go.Am.B
open Go Go.Am.N AV aa aj IntKind
theorem afo:aO P qj pI (aq pI):=aP S0 (by kernel_rfl) (by kernel_rfl) (by kernel_rfl)
noncomputable def Bl:aS:=(tq,Gj)::(zA,HQ)::(ya,Ma)::rK
noncomputable abbrev yQ:Code:=aq pI
abbrev pg:List Nat:=[0,1,4,48,49,50]
abbrev Cm (n:Nat) (k:Nat→Rat) (p:Int) (d:Nat) (f:Nat→Rat) (i:Nat):List AV:=[bM k n sJ,.int .i64 p,.int .i64 0,bM f d sK,.int .i64 d,.int .i64 i]
theorem afd {n:Nat} {k:Nat→Rat} {p:Int}:aG T Bl [18,15,22,29,35,46] 60 pg (before yQ [1,1,1,0,1]) ⟨aM 0 [bM k n sJ,.int .i64 p],[],0⟩=
  let c16:Int:=(↑n:Int);let c15:Prop:=bB (fun i↦rat (k i) sJ) n sK;let c14:Nat:=Int.toNat (0:Int);let c13:Nat:=bW (fun i↦aI (rat (k i) sJ)) n;let c11:Bool:=decide (p<(1:Int));let c10:Int:=i64.wrap (i64.wrap ((2:Int)*p)+(2:Int));let c9:Prop:=n<2^40;let c7:List AV:=[tuple [],tuple [],tuple []];let c6:Bool:=!mX (ou n fun i↦aI (rat (k i) sJ));let c3:AV:=ag 3 n fun i↦rat (k i) 4000;let c12:List AV:=c3::int i64 p::int i64 (1:Int)::c7;let c8:Int:=i64.wrap (i64.wrap (c16-p)-(1:Int));let c5:Int:=i64.wrap (c16-(1:Int));let c4:aa (List AV×aA):=leaf ret (c3::int i64 p::int i64 (5:Int)::c7,[]);let c2:aa (List AV×aA):=af [bB (fun i↦rat (k i) sJ) n sJ,c9] (leaf normal ([c3,int i64 p,int i64 (0:Int),ag 3 c13 fun i↦rat (cS (fun i↦aI (rat (k i) sJ)) n i) 4096,int i64 (↑c13:Int),int i64 (0:Int)],[]));let c1:aa (List AV×aA):=fork (decide (c16<c10)) c4 (fork (decide (c8>(40:Int))) (leaf ret (c3::int i64 p::int i64 (2:Int)::c7,[])) (fork c6 (af [c15,c9,c6=true] (fork true c4 c2)) (af [c15,c9,c6=false,(0:Int)≤(0:Int)∧c14<n,(0:Int)≤c5∧c5.toNat<n] (fork (bif false then true else decide (k c14=k c5.toNat)) c4 c2))));some (fork c11 (af [c11=true] (fork true (leaf ret (c12,[])) c1)) (af [c11=false] (fork (bif false then true else decide (p>(6:Int))) (leaf ret (c12,[])) c1))):=by kernel_rfl
theorem Wu {n d i:Nat} {k f:Nat→Rat} {p:Int}:aG T Bl [51,62,73,79,82,87] 60 pg [part yQ [1,1,1,0,1,0,0]] ⟨aB pg (Cm n k p d f i),[],1⟩=
  let c18 : Int := (↑d : Int); let c16 : Prop := false = false; let c13 : Int := (↑i : Int); let c12 : Prop := 0 < 1; let c11 : AV := ag 3 d fun i ↦ rat (f i) 4096; let c10 : AV := ag 3 n fun i ↦ rat (k i) 4000; let c9 : Int := i64.wrap ((↑n : Int) - (1 : Int)); let c8 : Nat := Int.toNat (0 : Int); let c17 : Prop := (0 : Int) ≤ (0 : Int) ∧ c8 < n; let c14 : List AV := [c11, int i64 c18, int i64 c13]; let c7 : Rat := f c13.toNat; let c1 : aa (List AV × aA) := leaf normal ([c10, int i64 p, int i64 (0 : Int), c11, int i64 c18, int i64 (i64.wrap (c13 + (1 : Int)))], []); let c15 : Bool := decide (c7 = k c8); let c4 : Int := (↑(dU (fun i ↦ aI (rat (k i) sJ)) c7 n) : Int); let c3 : Bool := bif false then true else decide (c7 = k c9.toNat); let c2 : aa (List AV × aA) := leaf ret (c10 :: int i64 p :: int i64 (5 : Int) :: c14, []); let c6 : aa (List AV × aA) := fork (bif false then true else bif true then decide (c4 > p) else false) c2 c1; let c5 : Bool := bif true then c4 != i64.wrap (p + (1 : Int)) else false; some (fork (decide (c13 < c18)) (af [(0 : Int) ≤ c13 ∧ c13.toNat < d, c12] (af [c12, bB (fun i ↦ rat (k i) sJ) n sK, sK ≤ sK, n < 2 ^ 40] (fork c15 (af [c12, c17, c15 = true] (fork true (fork c5 (af [true = true, c5 = true] (fork true c2 c1)) (fork false (af [true = true, c5 = false, (!true) = true] c6) (af [true = true, c5 = false, (!true) = false] (fork false c2 c1)))) (fork false (af [true = false, false = true] (fork true c2 c1)) (fork false (af [true = false, c16, (!true) = true] c6) (af [true = false, c16, (!true) = false] (fork false c2 c1)))))) (af [c12, c17, c15 = false, c12, (0 : Int) ≤ c9 ∧ c9.toNat < n] (fork c3 (fork c5 (af [c3 = true, c5 = true] (fork true c2 c1)) (fork (!c3) (af [c3 = true, c5 = false, (!c3) = true] c6) (af [c3 = true, c5 = false, (!c3) = false] (fork false c2 c1)))) (fork false (af [c3 = false, false = true] (fork true c2 c1)) (fork (!c3) (af [c3 = false, c16, (!c3) = true] c6) (af [c3 = false, c16, (!c3) = false] (fork false c2 c1))))))))) (leaf (exit 1) (c10 :: int i64 p :: int i64 (0 : Int) :: c14, []))) := by kernel_rfl
theorem acW {n d i:Nat} {k f:Nat→Rat} {p:Int}:bZ T Bl [] 60 pI [part yQ [1,1,1,1]] ⟨aB pg (Cm n k p d f i),[],1⟩=
  some (leaf ret [int i64 (0:Int)]):=by kernel_rfl
theorem Yz:aW P Bl:=aD WY (aD afn (aD ZS um))
def qI (n:Nat) (p:Int):Prop:=1≤p∧p≤6∧2*p+2≤(n:Int)∧(n:Int)-p-1≤40
theorem N5 {n:Nat} {k:Nat→Rat} {p:Int} (hn:n<2^40) (K:Nat):az P qj K [bM k n sJ,.int .i64 p] [] (aF (.int .i64 (fq n k p)) []):=by
 refine iL (r:=aF (.int .i64 (fq n k p)) []) hT Yz hm afo rfl (of_decide_eq_true (by kernel_rfl)) rfl [1,1,1,0,1] (i:=1) (y:=part yQ [1,1,1,0,1,0,0]) (z:=part yQ [1,1,1,1]) (by kernel_rfl) (by kernel_rfl) (by kernel_rfl) (f1:=[18,15,22,29,35,46]) (f2:=[51,62,73,79,82,87]) (f3:=[]) 60 pg 1
  (fun i:Nat=>Cm n k p (bW k n) (cS k n) i) (fun _=>[]) (fun i=>i≤bW k n∧qI n p∧ou n k∧k 0≠k (n-1)∧∀j,j<i→¬jc n k p.toNat (cS k n j)) (fun _=>qI n p∧pR n k p.toNat) (fun i=>bW k n-i) (fun _=>⟨⟨_,afd,?_⟩,fun i ⟨h1,h2,h3,h4,h5⟩=>⟨_,Wu,?_⟩,fun i ⟨h1,h2⟩=>⟨_,acW,?_⟩⟩) K []
 ·have r:∀{e:Int} {u:AV},fq n k p=e→l7 pI pg (.int .i64 (fq n k p)) ([u,.int .i64 p,.int .i64 e,.tuple [],.tuple [],.tuple []],[]):=fun h=>⟨[.int .i64 _],by kernel_rfl,br h.symm⟩
  by_cases hp:1≤p∧p≤6
  ·have e1:i64.wrap (i64.wrap (2*p)+2)=2*p+2:=by rw[wrap_i64 (show-2^63≤2*p by omega) (by omega)];exact wrap_i64 (by omega) (by omega)
   have e2:i64.wrap (i64.wrap ((n:Int)-p)-1)=(n:Int)-p-1:=by rw[wrap_i64 (show-2^63≤(n:Int)-p by omega) (by omega)];exact wrap_i64 (by omega) (by omega)
   have e3:i64.wrap ((n:Int)-1)=(n:Int)-1:=wrap_i64 (by omega) (by omega)
   have e5:((n:Int)-1).toNat=n-1:=by omega
   simp only[aa.all,ax,decide_eq_true_eq,decide_eq_false_iff_not,Bool.not_eq_true',Bool.not_eq_false',cond_true,cond_false,Int.toNat_natCast,Int.toNat_zero,kD,e1,e2,e3,e5]
   (repeat' with_reducible first|refine And.intro ?_ ?_|intro _)
   all_goals first|exact absurd ‹true=false› (by decide)|exact absurd ‹false=true› (by decide)|omega|(exfalso;omega)|exact cm (by decide)|assumption|exact r (Ur (by omega) (by omega))|exact r (Tl (by omega) (by omega) (by omega))|exact r (E0 (by omega) (by omega) (by omega) fun h=>OO ‹_› h.1)|exact r (E0 (by omega) (by omega) (by omega) fun h=>h.2.1 ‹_›)|exact⟨0,⟨Nat.zero_le _,⟨by omega,by omega,by omega,by omega⟩,Yh ‹_›,‹_›,fun j hj=>absurd hj (Nat.not_lt_zero j)⟩,eP.vals rfl⟩|skip
   skip
  ·simp only[aa.all,ax,decide_eq_true_eq,decide_eq_false_iff_not,Bool.not_eq_true',Bool.not_eq_false',cond_true,cond_false,Int.toNat_natCast]
   (repeat' with_reducible first|refine And.intro ?_ ?_|intro _)
   all_goals first|exact absurd ‹true=false› (by decide)|exact absurd ‹false=true› (by decide)|omega|(exfalso;omega)|exact r (TM (by omega))|skip
   skip
 ·obtain⟨q,rfl⟩:∃q:Nat,p=(q:Int):=⟨p.toNat,by have:=h2.1;omega⟩
  have hq:=h2
  unfold qI at hq
  have e1:i64.wrap ((q:Int)+1)=((q+1:Nat):Int):=by rw[wrap_i64 (by omega) (by omega)];rfl
  have e2:i64.wrap ((i:Int)+1)=((i+1:Nat):Int):=by rw[wrap_i64 (by omega) (by have:=rQ (k:=k) (n:=n);omega)];rfl
  have e3:i64.wrap ((n:Int)-1)=(n:Int)-1:=wrap_i64 (by omega) (by omega)
  have e5:((n:Int)-1).toNat=n-1:=by omega
  simp only[Int.toNat_natCast]at h5
  have hd:=rQ (k:=k) (n:=n)
  have r:∀{u v w x y:AV},jc n k q (cS k n i)→i<bW k n→l7 pI pg (.int .i64 (fq n k q)) ([u,v,.int .i64 5,w,x,y],[]):=fun h hi=>⟨[.int .i64 5],by kernel_rfl,br (E0 (by omega) (by omega) (by omega) fun hk=>hk.2.2 i hi (by rw[Int.toNat_natCast];exact h)).symm⟩
  have nx:¬jc n k q (cS k n i)→i<bW k n→∀j,j<i+1→¬jc n k q (cS k n j):=fun h hi j hj=>by
   by_cases he:j=i
   ·subst he;exact h
   ·exact h5 j (by omega)
  simp only[aa.all,ax,decide_eq_true_eq,decide_eq_false_iff_not,Bool.not_eq_true',Bool.not_eq_false',cond_true,cond_false,Int.toNat_natCast,Int.toNat_zero,kD,e1,e2,e3,e5,bne_iff_ne,bne_eq_false_iff_eq,ne_eq]
  obtain⟨c,hc⟩:∃c,dU k (cS k n i) n=c:=⟨_,rfl⟩
  have hc':dU (fun i=>k i) (cS k n i) n=c:=hc
  simp only[hc']
  have b1:cS k n i=k 0→c≠q+1→jc n k q (cS k n i):=fun h1 h2=>.inl ⟨.inl h1,by rw[hc];exact h2⟩
  have b2:cS k n i=k (n-1)→c≠q+1→jc n k q (cS k n i):=fun h1 h2=>.inl ⟨.inr h1,by rw[hc];exact h2⟩
  have b3:¬cS k n i=k 0→¬cS k n i=k (n-1)→q<c→jc n k q (cS k n i):=fun h1 h2 h3=>.inr ⟨fun h=>h.elim h1 h2,by rw[hc];exact h3⟩
  have g1:cS k n i=k 0→c=q+1→¬jc n k q (cS k n i):=by
   rintro h1 h2 (⟨_,h3⟩|⟨h3,_⟩)
   ·exact h3 (by rw[hc];exact h2)
   ·exact h3 (.inl h1)
  have g2:cS k n i=k (n-1)→c=q+1→¬jc n k q (cS k n i):=by
   rintro h1 h2 (⟨_,h3⟩|⟨h3,_⟩)
   ·exact h3 (by rw[hc];exact h2)
   ·exact h3 (.inr h1)
  have g3:¬cS k n i=k 0→¬cS k n i=k (n-1)→c≤q→¬jc n k q (cS k n i):=by
   rintro h1 h2 h3 (⟨h4,_⟩|⟨_,h4⟩)
   ·exact h4.elim h1 h2
   ·rw[hc]at h4;omega
  clear hc hc'
  (repeat' with_reducible first|refine And.intro ?_ ?_|intro _)
  all_goals first|exact absurd ‹true=false› (by decide)|exact absurd ‹false=true› (by decide)|omega|(exfalso;omega)|exact cm (by decide)|assumption|skip
  all_goals first
   |exact absurd ‹cS k n i=k (n-1)› ‹_›
   |exact⟨rfl,i,⟨h2,h3,h4,fun j hj=>h5 j (by omega)⟩,eP.vals rfl⟩
   |exact r (b1 ‹_› (by omega)) (by omega)
   |exact r (b2 ‹_› (by omega)) (by omega)
   |exact r (b3 ‹¬_=k 0› ‹_› (by have:=of_decide_eq_true ‹decide _=true›;omega)) (by omega)
   |exact⟨i+1,⟨by omega,h2,h3,h4,nx (g1 ‹_› (by omega)) (by omega)⟩,by dsimp only;omega,eP.vals rfl⟩
   |exact⟨i+1,⟨by omega,h2,h3,h4,nx (g2 ‹_› (by omega)) (by omega)⟩,by dsimp only;omega,eP.vals rfl⟩
   |exact⟨i+1,⟨by omega,h2,h3,h4,nx (g3 ‹¬_=k 0› ‹_› (by have:=of_decide_eq_false ‹decide _=false›;omega)) (by omega)⟩,by dsimp only;omega,eP.vals rfl⟩
 ·simp only[aa.all,ax]
  exact br (Y0 (by have:=h1;unfold qI at this;omega) (by have:=h1;unfold qI at this;omega) (by have:=h1;unfold qI at this;omega) h2).symm
noncomputable def Fi:Spec:=cC (kC (kL sJ) (kC kI kN)) (fun a=>.int .i64 (fq a.1.1 a.1.2 a.2.1)) fun a=>[a.1.1<2^40]
theorem Gc:∀K args pre r,Fi K args pre=some r→az P qj K args pre r:=cz fun⟨⟨n,k⟩,p,_⟩ K hn=>N5 hn K
end Go.Am.B

/- Poles, lists of wC, curves, surfaces as arguments. -/
namespace Go.Am.B
open Go Go.Am.N AV
def iu:AV→Pl
 |.agg [.agg [x,y,z],w]=>⟨⟨aI x,aI y,aI z⟩,aI w⟩
 |_=>⟨⟨0,0,0⟩,0⟩
def gd (f:Nat→AV) (n s:Nat):Prop:=∀i,i<n→bz (f i) (bN (iu (f i)) s)
abbrev bg (f:Nat→Pl) (n s:Nat):AV:=.ag 12 n (fun i=>bN (f i) s)
theorem AU {u v:Pl} {n k:Nat} (h:u=v) (hk:n≤k):bz (bN u n) (bN v k):=
 h▸cF ⟨oH rfl hk,bL rfl hk,trivial⟩
theorem nw {f:Nat→Pl} {n s s':Nat} (h:s≤s'):gd (fun i=>bN (f i) s) n s':=fun _ _=>AU rfl h
def sk:AV→Option (Nat×(Nat→AV))
 |.ag 12 n f=>some (n,f)
 |.nil=>some (0,fun _=>.nil)
 |_=>none
theorem adu {v:AV} {n s:Nat} {f:Nat→AV} (h:sk v=some (n,f)) (ha:gd f n s):bz v (bg (fun i=>iu (f i)) n s):=by
 unfold sk at h
 split at h
 ·simp only[Option.some.injEq,Prod.mk.injEq]at h
  obtain⟨rfl,rfl⟩:=h
  exact mu ha
 ·simp only[Option.some.injEq,Prod.mk.injEq]at h
  obtain⟨rfl,rfl⟩:=h
  exact iO (by omega)
 ·simp at h
def mz (s:Nat):Kind (Nat×(Nat→Pl)):=⟨fun v=>match sk v with
 |some (n,f)=>some ((n,fun i=>iu (f i)),[gd f n s])
 |none=>none,fun a=>bg a.2 a.1 s,fun {v a q} h hq=>by
  split at h
  ·rename_i h1
   simp only[Option.some.injEq,Prod.mk.injEq]at h
   obtain⟨rfl,rfl⟩:=h
   exact adu h1 hq
  ·simp at h⟩
abbrev cU (h:Pl) (s:Nat):AV:=.agg [.rat h.n.x s,.rat h.n.y s,.rat h.n.z s,.rat h.d s]
def zT (s:Nat):Kind Pl:=⟨fun v=>match v with
 |.agg [x,y,z,w]=>match gO x,gO y,gO z,gO w with
  |some (x,a),some (y,b),some (z,c),some (w,d)=>some (⟨⟨x,y,z⟩,w⟩,[a≤s,b≤s,c≤s,d≤s])
  |_,_,_,_=>none
 |_=>none,fun a=>cU a s,fun {v a q} h hq=>by
  split at h
  ·split at h
   ·rename_i h1 h2 h3 h4
    simp only[Option.some.injEq,Prod.mk.injEq]at h
    obtain⟨rfl,rfl⟩:=h
    exact cF ⟨(iK h1).trans (bL rfl hq.1),(iK h2).trans (bL rfl hq.2.1),(iK h3).trans (bL rfl hq.2.2.1),(iK h4).trans (bL rfl hq.2.2.2),trivial⟩
   ·simp at h
  ·simp at h⟩
structure Cu where
 p:Int
 n:Nat
 k:Nat→Rat
 m:Nat
 f:Nat→Pl
abbrev e9 (c:Cu) (s r:Nat):AV:=.agg [.int .i64 c.p,bM c.k c.n s,bg c.f c.m r]
def yL (s r:Nat):Kind Cu:=⟨fun v=>match v with
 |.agg [p,k,f]=>match kI.read p,(kL s).read k,(mz r).read f with
  |some (p,q1),some ((n,k),q2),some ((m,f),q3)=>some (⟨p,n,k,m,f⟩,q1++(q2++q3))
  |_,_,_=>none
 |_=>none,fun a=>e9 a s r,fun {v a q} h hq=>by
  split at h
  ·split at h
   ·rename_i h1 h2 h3
    simp only[Option.some.injEq,Prod.mk.injEq]at h
    obtain⟨rfl,rfl⟩:=h
    obtain⟨q1,hq⟩:=dw.1 hq
    obtain⟨q2,q3⟩:=dw.1 hq
    exact cF ⟨kI.ok h1 q1,(kL s).ok h2 q2,(mz r).ok h3 q3,trivial⟩
   ·simp at h
  ·simp at h⟩
def ec:AV→Nat
 |.ag _ n _=>n
 |_=>0
def Qn:AV→Nat→AV
 |.ag _ _ f=>f
 |_=>fun _=>.nil
def eL (g:Nat→AV) (i j:Nat):Pl:=iu (Qn (g i) j)
abbrev gG (f:Nat→Nat→Pl) (n m s:Nat):AV:=.ag 1 n (fun i=>bg (f i) m s)
def eH (g:Nat→AV) (n s:Nat):Prop:=∀i,i<n→bz (g i) (bg (eL g i) (ec (g 0)) s)
theorem gj {f:Nat→Nat→Pl} {n m s s':Nat} (h:s≤s'):eH (fun i=>bg (f i) m s) n s':=fun _ _=>mu fun _ _=>AU rfl h
def uS (s:Nat):Kind (Nat×Nat×(Nat→Nat→Pl)):=⟨fun v=>match v with
 |.ag 1 n g=>some ((n,ec (g 0),eL g),[eH g n s])
 |_=>none,fun a=>gG a.2.2 a.1 a.2.1 s,fun {v a q} h hq=>by
  split at h
  ·simp only[Option.some.injEq,Prod.mk.injEq]at h
   obtain⟨rfl,rfl⟩:=h
   exact mu hq
  ·simp at h⟩
structure Sf where
 u:Int
 v:Int
 a:Nat
 ku:Nat→Rat
 b:Nat
 kv:Nat→Rat
 n:Nat
 m:Nat
 f:Nat→Nat→Pl
abbrev cq (x:Sf) (s r:Nat):AV:=.agg [.int .i64 x.u,.int .i64 x.v,bM x.ku x.a s,bM x.kv x.b s,gG x.f x.n x.m r]
def gD (s r:Nat):Kind Sf:=⟨fun v=>match v with
 |.agg [u,w,a,b,f]=>match kI.read u,kI.read w,(kL s).read a,(kL s).read b,(uS r).read f with
  |some (u,q1),some (w,q2),some ((a,ku),q3),some ((b,kv),q4),some ((n,m,f),q5)=>some (⟨u,w,a,ku,b,kv,n,m,f⟩,q1++(q2++(q3++(q4++q5))))
  |_,_,_,_,_=>none
 |_=>none,fun a=>cq a s r,fun {v a q} h hq=>by
  split at h
  ·split at h
   ·rename_i h1 h2 h3 h4 h5
    simp only[Option.some.injEq,Prod.mk.injEq]at h
    obtain⟨rfl,rfl⟩:=h
    obtain⟨q1,hq⟩:=dw.1 hq
    obtain⟨q2,hq⟩:=dw.1 hq
    obtain⟨q3,hq⟩:=dw.1 hq
    obtain⟨q4,q5⟩:=dw.1 hq
    exact cF ⟨kI.ok h1 q1,kI.ok h2 q2,(kL s).ok h3 q3,(kL s).ok h4 q4,(uS r).ok h5 q5,trivial⟩
   ·simp at h
  ·simp at h⟩
theorem D8 {rl:List (Nat×Nat)} {l i s s' s2:Nat} {x y:Nat→Pl} {t:AV} {z:AV} (hx:∀i,i<l→x i=y i) (ht:bz t (bN (y l) s')) (hk:keys t=[]) (h1:s≤s2) (h2:s'≤s2) (hi:i<l+1):
  gh rl (if i<l then bN (x i) s else nth [t] z (i-l+0)) (bN (y i) s2):=by
 by_cases h:i<l
 ·rw[if_pos h,hx i h];exact .inr ⟨rfl,AU rfl h1⟩
 ·have:i=l:=by omega
  subst this
  rw[if_neg h,Nat.sub_self]
  exact .inr ⟨hk,ht.trans (AU rfl h2)⟩
end Go.Am.B

/- ref02: Valid, Valids, Bits; ref04.Valid; ref10: Short, shortPoles. -/
namespace Go.Am.B
open Go Go.Am.N AV aa aj IntKind
end Go.Am.B

/- ref09: part, function, Values. -/
namespace Go.Am.B
open Go Go.Am.N AV aa aj IntKind
theorem YR:aO P Bu yP (aq yP):=aP Ya (by kernel_rfl) (by kernel_rfl) (by kernel_rfl)
theorem Mi:aO P wQ pK (aq pK):=aP Vd (by kernel_rfl) (by kernel_rfl) (by kernel_rfl)
theorem aeO:aO P xR wA (aq wA):=aP Zl (by kernel_rfl) (by kernel_rfl) (by kernel_rfl)
def Gy:aS:=(yo,gT kR kR xP nU)::jq
abbrev oJ:Nat:=8193
def MI:Spec:=cC (kC (fy oJ) (kC (fy oJ) kN)) (fun a=>.rat (a.1/a.2.1) sF) fun _=>[]
theorem RV {a b:Rat} {n:Nat}:bu T Gy [] 60 yP (aq yP) ⟨aM 0 [.rat a n,.rat b n],[],0⟩=
  let c2:Prop:=n<2^41;let c1:Prop:=0<1;some (af [c1,c1,c2,c2,c1] (af [c1,c1] (af [c1] (leaf ret [rat (a/b) (n+n)])))):=by kernel_rfl
theorem aen:aW P Gy:=aD (iA fun _ _ K hn=>JE hn.1 hn.2 K) jV
theorem aeA:∀K args pre r,MI K args pre=some r→az P Bu K args pre r:=cz fun⟨a,b,_⟩ K _=>by
 refine bC (r:=aF (.rat (a/b) sF) []) hT aen hm YR rfl (of_decide_eq_true (by kernel_rfl)) rfl 60 RV (fun _=>?_) K []
 simp only[aa.all,ax]
 have h1:oJ=8193:=rfl
 (repeat' with_reducible refine And.intro ?_ ?_)
 all_goals first|omega|exact(bL rfl (show oJ+oJ≤sF by decide))
def Ji (d:Nat):Spec:=cC (kC (kL sK) (kC kI (kC kI (kC kI (kC (fy sK) kN))))) (fun a=>.rat (nC a.1.2 a.2.2.2.1.toNat a.2.2.2.2.1 d a.2.1.toNat) (SB d)) fun a=>[a.2.2.1=d,0≤a.2.1,0≤a.2.2.2.1,a.2.1+d+1<a.1.1,a.1.1<2^40,a.2.2.2.1<2^40,d≤6]
def KD (d:Nat):aS:=nG::(wQ,Ji d)::(Bu,MI)::(jE,ot)::jq
abbrev vt (n:Nat) (k:Nat→Rat) (i d a:Nat) (t:Rat):List AV:=[ls k n,.int .i64 i,.int .i64 d,.int .i64 a,.rat t sK]
theorem T6 {n i a:Nat} {k:Nat→Rat} {t:Rat}:bu T (nG::(jE,ot)::jq) [17] 60 pK (aq pK) ⟨aM 0 (vt n k i 0 a t),[],0⟩=
  let c1:List Prop:=[(0:Nat)<1];some (fork ((↑i:Int)==(↑a:Int)) (af c1 (af c1 (leaf ret [rat (↑(1:Int):Rat) 1]))) (af c1 (af c1 (leaf ret [agg [AV.bool false,mag 0,mag 0]])))):=by kernel_rfl
theorem acm {n i d a:Nat} {k:Nat→Rat} {t:Rat}:bu T (KD d) [200014,23,29] 60 pK (aq pK) ⟨aM 0 (vt n k i (d+1) a t),[],0⟩=
  let c22:Prop:=sK+sK+1≤oJ;let c21:Int:=(↑d:Int);let c20:Prop:=n<2^40;let c15:Prop:=bB (fun i↦rat (k i) sK) n sK;let c14:Int:=(↑(d+1):Int);let c10:Int:=(↑a:Int);let c6:Int:=(↑i:Int);let c5:Prop:=0<1;let c4:Nat:=2^41;let c3:Int:=(2:Int)^63;let c19:Prop:=c10<(2:Int)^40;let c17:Prop:=(0:Int)≤c6∧c6.toNat<n;let c16:Bool:=decide (c10<c6);let c12:List Prop:=[sK<c4,sK<c4,c22,c22,c5];let c11:aa (List AV):=af [c5] (af [c5] (leaf ret [agg [AV.bool false,mag 0,mag 0]]));let c9:Int:=c6+(1:Int);let c7:Int:=c14-(1:Int);let c2:Int:=c6+c14;let c13:Prop:=-c3≤c2∧c2<c3;let c8:Int:=c2+(1:Int);let c18:Prop:=(0:Int)≤c8∧c8.toNat<n;let c1:aa (List AV):=af (c5::c17::(sK<c4)::(sK<c4)::c13::((0:Int)≤c2∧c2.toNat<n)::c17::c12) (af (c13::(-c3≤c8∧c8<c3)::c18::c5::(sK<c4)::(sK<c4)::c13::(-c3≤c8∧c8<c3)::c18::(-c3≤c9∧c9<c3)::((0:Int)≤c9∧c9.toNat<n)::c12) (af [c5,-c3≤c7∧c7<c3,c5,c15,sK≤sK,c7=c21,(0:Int)≤c6,(0:Int)≤c10,c6+c21+(1:Int)<(↑n:Int),c20,c19,d≤6,sF<c4,SB d<c4,c5,-c3≤c9∧c9<c3,-c3≤c7∧c7<c3,c5,c15,sK≤sK,c7=c21,(0:Int)≤c9,(0:Int)≤c10,c9+c21+(1:Int)<(↑n:Int),c20,c19,d≤6,sF<c4,SB d<c4,sF+SB d<c4,sF+SB d<c4,c5] (af [c5] (leaf ret [rat ((t-k c6.toNat)/(k c2.toNat-k c6.toNat)*nC (fun i↦aI (rat (k i) sK)) c10.toNat t d c6.toNat+(k c8.toNat-t)/(k c8.toNat-k c9.toNat)*nC (fun i↦aI (rat (k i) sK)) c10.toNat t d c9.toNat) (sF+SB d+(sF+SB d)+1)]))));some (af [(c14==(0:Int))=false] (fork c16 (af [c16=true] (fork true c11 c1)) (af [c16=false,c13] (fork (bif false then true else decide (c10>c2)) c11 c1)))):=by kernel_rfl
def sI (p:Nat):aS:=nG::(oF,qQ)::(wQ,Ji p)::jq
abbrev pH:List Nat:=[0,1,5,9,11,12,6,7,8]
abbrev AG (n:Nat) (k:Nat→Rat) (p a:Nat) (v:AV) (i:Int):List AV:=[ls k n,.int .i64 p,.ptr 0 0 3 0 [],.int .i64 a,v,.int .i64 i,.int .i64 0,.nil,.int .i64 0]
noncomputable abbrev AD:Code:=aq wA
noncomputable abbrev E2:Code:=part AD [1,1,1,1,0,1,0,0]
theorem ZX {n p:Nat} {k:Nat→Rat} {t:Rat}:aG T (sI p) [21] 60 pH (before AD [1,1,1,1,0,1]) ⟨aM 0 [ls k n,.int .i64 p,.rat t sK],[],0⟩=
  let c7 : AV := int i64 (0 : Int); let c6 : Int := bt n (fun i ↦ aI (rat (k i) sK)) t; let c5 : Int := (↑p : Int); let c4 : AV := ag 3 n fun i ↦ rat (k i) 4096; let c3 : AV := ptr 0 0 (bh (rat t sK)).size 0 []; let c2 : Nat × ah := ((0 : Nat), ah.mk false true (bh (rat t sK)).size 1 fun x ↦ rat t 4096); let c1 : Int := (↑(k9 n (fun i ↦ aI (rat (k i) sK)) t) : Int); some (af [(0 : Nat) < 1, bB (fun i ↦ rat (k i) sK) n sK, sK ≤ sK, Kn n c5.toNat fun i ↦ aI (rat (k i) sK), (0 : Int) ≤ c5, n < 2 ^ 40] (fork (c6 != (0 : Int)) (leaf ret ([c4, int i64 c5, c3, int i64 c1, tuple [], tuple [], c7, nil, int i64 c6], [c2])) (af [-(2 : Int) ^ 63 ≤ c1 - c5 ∧ c1 - c5 < (2 : Int) ^ 63] (leaf normal ([c4, int i64 c5, c3, int i64 c1, nil, int i64 (c1 - c5), c7, nil, c7], [c2]))))) := by kernel_rfl
theorem aam {n p a:Nat} {k:Nat→Rat} {t:Rat} {i:Int}:aG T (sI p) [28] 60 pH [E2] ⟨aB pH (AG n k p a .nil i),[(0,tP t sK)],2⟩=
  let c6:Int:=(↑p:Int);let c5:Int:=(↑a:Int);let c4:AV:=int i64 (0:Int);let c3:AV:=ptr 0 0 3 0 [];let c2:AV:=ag 3 n fun i↦rat (k i) 4096;let c1:Nat×ah:=((0:Nat),ah.mk false true 3 1 fun x↦rat t 4096);some (fork (decide (i≤c5)) (af [(0:Nat)<1,bB (fun i↦rat (k i) sK) n sK,sK≤sK,c6=c6,(0:Int)≤i,(0:Int)≤c5,i+c6+(1:Int)<(↑n:Int),n<2^40,c5<(2:Int)^40,p≤6,(1:Nat)*3≤2^24,(0:Nat)<1∧1*((56:Nat)+1)*2≤2^47] (af [-(2:Int)^63≤i+(1:Int)∧i+(1:Int)<(2:Int)^63] (leaf normal ([c2,int i64 c6,c3,int i64 c5,own 45058 3 0 1,int i64 (i+(1:Int)),c4,nil,c4],[((45058:Nat),ah.mk true true 3 1 fun i_1↦nth [rat (nC (fun i↦aI (rat (k i) sK)) c5.toNat t p i.toNat) (SB p)] (rat 0 1) (i_1+0)),c1])))) (leaf (exit 0) ([c2,int i64 c6,c3,int i64 c5,nil,int i64 i,c4,nil,c4],[c1]))):=by kernel_rfl
theorem agn {n p a j:Nat} {k x:Nat→Rat} {t:Rat} {i:Int}:aG T (sI p) [28] 60 pH [E2] ⟨aB pH (AG n k p a (.own 1 3 0 (j+1)) i),[(1,iB (j+1) x fun _=>SB p),(0,tP t sK)],2⟩=
  let c7:Int:=(↑p:Int);let c6:Int:=(↑a:Int);let c5:AV:=int i64 (0:Int);let c4:AV:=ptr 0 0 3 0 [];let c3:AV:=ag 3 n fun i↦rat (k i) 4096;let c2:Nat:=j+1;let c1:Nat×ah:=((0:Nat),ah.mk false true 3 1 fun x↦rat t 4096);let c8:Nat:=c2+1;some (fork (decide (i≤c6)) (af [(0:Nat)<1,bB (fun i↦rat (k i) sK) n sK,sK≤sK,c7=c7,(0:Int)≤i,(0:Int)≤c6,i+c7+(1:Int)<(↑n:Int),n<2^40,c6<(2:Int)^40,p≤6,(1:Nat)*3≤2^24,c8*((56:Nat)+1)*2≤2^47] (af [-(2:Int)^63≤i+(1:Int)∧i+(1:Int)<(2:Int)^63] (leaf normal ([c3,int i64 c7,c4,int i64 c6,own 45058 3 0 c8,int i64 (i+(1:Int)),c5,nil,c5],[((45058:Nat),ah.mk true true 3 c8 fun i_1↦if i_1<c2 then rat (x i_1) (SB p)else nth [rat (nC (fun i↦aI (rat (k i) sK)) c6.toNat t p i.toNat) (SB p)] (rat 0 1) (i_1-c2+0)),c1])))) (leaf (exit 0) ([c3,int i64 c7,c4,int i64 c6,own 1 3 0 c2,int i64 i,c5,nil,c5],[((1:Nat),ah.mk true true 3 c2 fun i↦rat (x i) (SB p)),c1]))):=by kernel_rfl
theorem XM {n p a j:Nat} {k x:Nat→Rat} {t:Rat} {i:Int}:bZ T (sI p) [] 60 wA [part AD [1,1,1,1,1]] ⟨aB pH (AG n k p a (.own 1 3 0 (j+1)) i),[(1,iB (j+1) x fun _=>SB p),(0,tP t sK)],2⟩=
  let c1:Int:=(↑a:Int)-(↑p:Int);some (af [-(2:Int)^63≤c1∧c1<(2:Int)^63] (leaf ret [int i64 c1,ag 3 (j+1) fun i↦rat (x (i+0)) (SB p),int i64 (0:Int)])):=by kernel_rfl
theorem V5:aW P (nG::(jE,ot)::jq):=cw (aD (xH Bh) jV)
theorem HL {n:Nat} {k:Nat→Rat} {t:Rat} (hn:n<2^40):∀d i a,i+d+1<n→a<2^40→d≤6→∀K,az P wQ K (vt n k i d a t) [] (aF (.rat (nC k a t d i) (SB d)) [])
 |0,i,a,hi,ha,hd,K=>by
  refine bC (r:=aF (.rat (nC k a t 0 i) (SB 0)) []) hT V5 hm Mi rfl (of_decide_eq_true (by kernel_rfl)) rfl 60 T6 (fun _=>?_) K []
  simp only[aa.all,ax,beq_iff_eq,beq_eq_false_iff_ne,ne_eq]
  refine⟨fun h=>⟨by omega,by omega,?_⟩,fun h=>⟨by omega,by omega,?_⟩⟩
  ·unfold nC;rw[if_pos (by omega)];exact bL rfl (by decide)
  ·unfold nC;rw[if_neg (by omega)];exact iE (k:=65535)
 |d+1,i,a,hi,ha,hd,K=>by
  have hΓ:aW P (KD d):=cw (aD (cz fun⟨⟨n',k'⟩,i',d',a',t',_⟩ K hn'=>by
   obtain⟨h1,h2,h3,h4,h5,h6,h7⟩:=hn'
   simp only at h1 h2 h3 h4 h5 h6
   have:=HL (n:=n') (k:=k') (t:=t') h5 d i'.toNat a'.toNat (by omega) (by omega) h7 K
   unfold vt at this
   rw[Int.toNat_of_nonneg h2,Int.toNat_of_nonneg h3]at this
   rw[h1]
   exact this) (aD aeA (aD (xH Bh) jV)))
  refine bC (r:=aF (.rat (nC k a t (d+1) i) (SB (d+1))) []) hT hΓ hm Mi rfl (of_decide_eq_true (by kernel_rfl)) rfl 60 acm (fun _=>?_) K []
  have h1:=y9 (d:=d)
  have h2:=qa (d:=d)
  have h3:=yw (d:=d) (by omega)
  have h4:sV=268435456:=rfl
  have h5:=AL
  have h6:sK=4096:=rfl
  have h7:oJ=8193:=rfl
  simp only[aa.all,ax,kD,beq_eq_false_iff_ne,ne_eq,decide_eq_true_eq,decide_eq_false_iff_not,cond_false,Int.toNat_natCast,show((i:Int)+((d+1:Nat):Int)).toNat=i+(d+1) by omega,show((i:Int)+((d+1:Nat):Int)+1).toNat=i+(d+2) by omega,show((i:Int)+1).toNat=i+1 by omega]
  rw[nC]
  (repeat' with_reducible first|refine And.intro ?_ ?_|intro _)
  all_goals first|omega|exact cm (Nat.le_refl _)|exact absurd ‹true=false› (by decide)|(rw[if_pos (by omega)];exact iE (k:=SB (d+1)-1))|skip
  all_goals first|(rw[if_pos (by omega),show SB (d+1)=SB (d+1)-1+1 by omega];exact iE)|skip
  rw[if_neg (by omega)]
  exact bL rfl (by omega)
theorem aeK {p:Nat}:aW P (sI p):=cw (aD DU (aD (cz fun⟨⟨n',k'⟩,i',d',a',t',_⟩ K hn'=>by
 obtain⟨h1,h2,h3,h4,h5,h6,h7⟩:=hn'
 simp only at h1 h2 h3 h4 h5 h6
 have:=HL (n:=n') (k:=k') (t:=t') h5 p i'.toNat a'.toNat (by omega) (by omega) h7 K
 unfold vt at this
 rw[Int.toNat_of_nonneg h2,Int.toNat_of_nonneg h3]at this
 rw[h1]
 exact this) jV))
theorem SI {n p:Nat} {k:Nat→Rat} {t:Rat} (h:Kn n p k) (hp6:p≤6) (hn:n<2^40) (K:Nat):az P xR K [ls k n,.int .i64 p,.rat t sK] [] (aF (qz n k p t) []):=by
 refine iL (r:=aF (qz n k p t) []) hT aeK hm aeO rfl (of_decide_eq_true (by kernel_rfl)) rfl [1,1,1,1,0,1] (i:=0) (y:=E2) (z:=part AD [1,1,1,1,1]) (by kernel_rfl) (by kernel_rfl) (by kernel_rfl) (f1:=[21]) (f2:=[28]) (f3:=[]) 60 pH 2
  (fun j:Nat=>AG n k p (bG n k t) (match j with
   |0=>.nil
   |_+1=>.own 1 3 0 j) ((bG n k t:Int)-p+j)) (fun j=>match j with
   |0=>[(0,tP t sK)]
   |_+1=>[(1,iB j (fun j=>nC k (bG n k t) t p (bG n k t-p+j)) fun _=>SB p),(0,tP t sK)])
  (fun j=>j≤p+1∧¬bF n k t) (fun j=>j=p+1∧¬bF n k t) (fun j=>p+1-j) (fun _=>⟨⟨_,ZX,?_⟩,fun j ⟨hj,hin⟩=>?_,fun j ⟨hj,hin⟩=>?_⟩) K []
 ·simp only[aa.all,ax,kD,bne_iff_ne,ne_eq,bne_eq_false_iff_eq,Int.toNat_natCast]
  refine⟨⟨by omega,cm (Nat.le_refl _),Nat.le_refl _,h,by omega,hn⟩,fun hout=>?_,fun hin=>?_⟩
  ·have h1:=qi hout
   exact⟨[.int .i64 0,.nil,.int .i64 (bt n k t)],by kernel_rfl,by rw[show bt n k t=7 by unfold bt;rw[if_pos h1]];exact Hs h1⟩
  ·have hin:=pU hin
   have hv:=h.mY hin
   have hii:k9 n k t=bG n k t:=by unfold k9;rw[if_neg hin]
   simp only[hii]
   exact⟨by omega,0,⟨by omega,hin⟩,[(0,0)],rfl,by simp only[Int.natCast_zero,Int.add_zero];rfl,rfl,aN rfl rfl (aK rfl rfl) trivial⟩
 ·have hv:=h.mY hin
  cases j with
  |zero=>
   refine⟨_,aam,?_⟩
   simp only[aa.all,ax,kD,decide_eq_true_eq,decide_eq_false_iff_not,Int.toNat_natCast,Int.natCast_zero,Int.add_zero]
   refine⟨fun h1=>⟨⟨by omega,cm (Nat.le_refl _),Nat.le_refl _,trivial,by omega,by omega,by omega,hn,by omega,by omega,by omega,by omega⟩,by omega,1,⟨by omega,hin⟩,by dsimp only;omega,[(0,0),(1,45058)],rfl,rfl,rfl,bq rfl rfl rfl (fun i hi=>OV (y:=fun j=>nC k (bG n k t) t p (bG n k t-p+j)) (by rw[show((bG n k t:Int)-p).toNat=bG n k t-p by omega];rfl) (Nat.le_refl _) hi) (aN rfl rfl (aK rfl rfl) trivial)⟩,fun h1=>by omega⟩
  |succ j=>
   refine⟨_,agn,?_⟩
   simp only[aa.all,ax,kD,decide_eq_true_eq,decide_eq_false_iff_not,Int.toNat_natCast]
   refine⟨fun h1=>⟨⟨by omega,cm (Nat.le_refl _),Nat.le_refl _,trivial,by omega,by omega,by omega,hn,by omega,by omega,by omega,by omega⟩,by omega,j+2,⟨by omega,hin⟩,by dsimp only;omega,[(0,0),(1,45058)],rfl,by rw[show(bG n k t:Int)-p+((j+1:Nat):Int)+1=(bG n k t:Int)-p+((j+2:Nat):Int) by omega];rfl,rfl,
    bq rfl rfl rfl (fun i hi=>Fj (y:=fun j=>nC k (bG n k t) t p (bG n k t-p+j)) (fun _ _=>rfl) (by rw[show((bG n k t:Int)-p+((j+1:Nat):Int)).toNat=bG n k t-p+(j+1) by omega]) (Nat.le_refl _) (Nat.le_refl _) hi) (aN rfl rfl (aK rfl rfl) trivial)⟩,
    fun h1=>⟨rfl,j+1,⟨by omega,hin⟩,[(0,0),(1,1)],rfl,rfl,rfl,bq rfl rfl rfl (fun i hi=>aK rfl rfl) (aN rfl rfl (aK rfl rfl) trivial)⟩⟩
 ·subst hj
  have hv:=h.mY hin
  refine⟨_,XM,?_⟩
  simp only[aa.all,ax]
  refine⟨by omega,HK hin fun j hj=>bL ?_ (yw hp6)⟩
  have h1:¬t<k 0:=fun h=>hin (.inl h)
  have h2:¬k (n-1)<t:=fun h=>hin (.inr h)
  have hat:At n k (bG n k t):=(h.zx (by grind) (by grind)).1.at_
  exact(MY hat hv.1 (by omega) j (by omega)).symm
theorem OQ:∀K args pre r,BD K args pre=some r→az P xR K args pre r:=cz fun⟨⟨n,k⟩,p,t,_⟩ K hn=>by
 obtain⟨h1,h2,h3,h4⟩:=hn
 have h3:p≤6:=h3
 have:=SI h1 (by simp only;omega) h4 K (t:=t)
 rw[Int.toNat_of_nonneg h2]at this
 exact this
end Go.Am.B

/- ref10: Lift, Homogeneous, Drop, Eval. -/
namespace Go.Am.B
open Go Go.Am.N AV aa aj IntKind
theorem HT:aO P BM v5 (aq v5):=aP aaF (by kernel_rfl) (by kernel_rfl) (by kernel_rfl)
theorem VV:aO P E6 BB (aq BB):=aP RB (by kernel_rfl) (by kernel_rfl) (by kernel_rfl)
theorem NY:aO P pV xo (aq xo):=aP RR (by kernel_rfl) (by kernel_rfl) (by kernel_rfl)
theorem Ja:aO P n7 xT (aq xT):=aP Tr (by kernel_rfl) (by kernel_rfl) (by kernel_rfl)
theorem Rd:aO P Ak w7 (aq w7):=aP Wb (by kernel_rfl) (by kernel_rfl) (by kernel_rfl)
noncomputable def Kw:aS:=(zN,gT kR kR abT nU)::(BM,fL T jq [] 60 v5)::jq
abbrev sH:Nat:=2147483648
abbrev sE:Nat:=4294967298
def mQ (h:Pl):V3:=⟨((1:Int):Rat)/h.d*h.n.x,((1:Int):Rat)/h.d*h.n.y,((1:Int):Rat)/h.d*h.n.z⟩
def Ip:Spec:=cC (kC (zT sH) kN) (fun a=>.agg [vA (mQ a.1) sE,.rat a.1.d sH]) fun _=>[]
noncomputable def GLi:aS:=(BM,fL T jq [] 60 v5)::jq
noncomputable def zc:aS:=nG::(xR,BD)::(E6,fL T GLi [] 60 BB)::jq
abbrev yB:List Nat:=[2,4,5,6,8,9]
abbrev zR (p i:Nat) (x:Nat→Rat) (j:Nat):List AV:=[.ptr 0 0 3 0 [],.ptr 1 0 12 0 [],.int .i64 ((i:Int)-p),.ag 3 (p+1) (fun j=>.rat (x j) sV),.ptr 2 0 12 0 [],.int .i64 j]
abbrev jy (h:Pl) (s:Nat):ah:=⟨false,true,12,1,fun _=>cU h s⟩
abbrev DK (c:Cu) (r:Nat):ah:=⟨false,true,3,1,fun _=>e9 c sK r⟩
abbrev fC:Nat:=68719476736
abbrev nv:Nat:=137438953474
noncomputable abbrev qe:Code:=aq xT
theorem Ok {h:Pl} {s:Nat}:bu T Kw [] 60 xo (aq xo) ⟨aM 0 [cU h s],[],0⟩=
  let c9:Prop:=(0:Int)≤(0:Int);let c8:Rat:=(↑(1:Int):Rat)/h.d;let c7:Int:=(↑(4:Nat):Int);let c6:Int:=(↑(3:Nat):Int);let c4:Nat:=2^41;let c3:Int:=i64.wrap ((0:Int)+(1:Int));let c2:Nat:=Max.max 1 (bp (Int.natAbs (1:Int)));let c1:Prop:=0<1;let c11:Int:=i64.wrap (c3+(1:Int));let c10:Prop:=(0:Int)≤(3:Int)∧(3:Int)<c7;let c5:Prop:=(0:Int)≤c11∧c11<c6;some (af [-(2:Int)^63≤(1:Int),(1:Int)<(2:Int)^63,c10,c1,c2<c4,s<c4,c9∧(0:Int)<c7,c1,(0:Int)≤(1:Int)∧(1:Int)<c7,c1,(0:Int)≤(2:Int)∧(2:Int)<c7,c1,c1,c9∧(0:Int)<c6,c1,c2+s<c4,s<c4,c9∧(0:Int)<c6,c1,c1,(0:Int)≤c3∧c3<c6,c1,c2+s<c4,s<c4,(0:Int)≤c3∧c3<c6,c1,c1,c5,c1,c2+s<c4,s<c4,c5,c1,c1,c1,c1,c10,c1,c1] (af [c1] (leaf ret [agg [agg [rat (c8*h.n.x) (c2+s+s),rat (c8*h.n.y) (c2+s+s),rat (c8*h.n.z) (c2+s+s)],rat h.d s]]))):=by kernel_rfl
theorem Xv {c:Cu} {t:Rat} {r:Nat}:aG T zc [] 60 yB (before qe [1,1,1,0,1]) ⟨aM 0 [e9 c sK r,.rat t sK],[],0⟩=
  let c5:Prop:=0<1;let c4:Nat:=bG c.n (fun i↦aI (rat (c.k i) sK)) t;let c3:Prop:=bF c.n (fun i↦aI (rat (c.k i) sK)) t;let c2:AV:=rat 0 1;let c1:ah:=ah.mk false true 12 1 fun x↦agg [c2,c2,c2,c2];some (af [c5,c5,c5,bB (fun i↦rat (c.k i) sK) c.n sK,sK≤sK,Kn c.n c.p.toNat fun i↦aI (rat (c.k i) sK),(0:Int)≤c.p,c.p≤(6:Int),c.n<2^40] (leaf normal ([ptr 0 0 (bh (e9 c sK r)).size 0 [],ptr 8192 0 12 0 [],int i64 (if c3 then(0:Int)else(↑c4:Int)-(↑c.p.toNat:Int)),ag 3 (if c3 then 0 else c.p.toNat+1) fun j↦rat (vB (fun i↦aI (rat (c.k i) sK)) c4 t c.p.toNat j) 268435456,ptr 65536 0 12 0 [],int i64 (0:Int)],[((65536:Nat),c1),((8192:Nat),c1),((0:Nat),ah.mk false true (bh (e9 c sK r)).size 1 fun x↦agg [int i64 c.p,ag 3 c.n fun i↦rat (c.k i) 4096,ag 12 c.m fun i↦agg [agg [rat (c.f i).n.x r,rat (c.f i).n.y r,rat (c.f i).n.z r],rat (c.f i).d r]])]))):=by kernel_rfl
theorem QM {c:Cu} {h:Pl} {p i j s r:Nat} {x:Nat→Rat}:aG T zc [25] 60 yB [part qe [1,1,1,0,1,0,0]] ⟨aB yB (zR p i x j),[(2,jy h s),(1,jy ⟨⟨0,0,0⟩,0⟩ 1),(0,DK c r)],3⟩=
  let c35:Nat:=p+1;let c30:Int:=(↑i:Int)-(↑p:Int);let c27:AV:=ptr 0 0 3 0 [];let c26:Nat:=sV+(r+r);let c25:AV:=ptr 2 0 12 0 [];let c24:AV:=ptr 1 0 12 0 [];let c21:AV:=rat 0 1;let c19:Int:=(↑j:Int);let c18:Prop:=(0:Int)≤(0:Int);let c15:Int:=(↑(3:Nat):Int);let c14:Bool:=0==0;let c11:Int:=(↑(4:Nat):Int);let c9:Int:=(2:Int)^63;let c7:Nat:=2^41;let c4:Prop:=0<1;let c3:Int:=(0:Int)+(1:Int);let c37:Rat:=x c19.toNat;let c36:Int:=c19+(1:Int);let c33:Prop:=c18∧(0:Int)<c11;let c32:Prop:=c18∧(0:Int)<c15;let c31:Prop:=(0:Int)≤i64.wrap c3∧i64.wrap c3<c15;let c29:Prop:=(0:Int)≤c3∧c3<c11;let c20:AV:=ag 3 c35 fun j↦rat (x j) 268435456;let c17:Int:=i64.wrap (i64.wrap c3+(1:Int));let c16:Int:=c3+(1:Int);let c12:Prop:=(0:Int)≤c19∧c19.toNat<c35;let c6:List (Nat×ah):=[((1:Nat),ah.mk false true 12 1 fun x↦agg [c21,c21,c21,c21]),((0:Nat),ah.mk false true 3 1 fun x↦agg [int i64 c.p,ag 3 c.n fun i↦rat (c.k i) 4096,ag 12 c.m fun i↦agg [agg [rat (c.f i).n.x r,rat (c.f i).n.y r,rat (c.f i).n.z r],rat (c.f i).d r]])];let c5:Int:=c30+c19;let c38:Prop:=(0:Int)≤c17∧c17<c15;let c23:Prop:=(0:Int)≤c16∧c16<c11;let c22:Pl:=c.f c5.toNat;let c8:Int:=c16+(1:Int);let c28:Prop:=(0:Int)≤c8∧c8<c11;let c2:AV:=agg ((cU h s).kids.set (Int.toNat (0:Int)) (bh (iw (h.n.x,s) (c37*(c22.d*c22.n.x),c26))));let c34:AV:=if c14=true then c2 else cU h s;let c10:AV:=agg (c34.kids.set c3.toNat (bh (iw (h.n.y,s) (c37*(c22.d*c22.n.y),c26))));let c1:AV:=if c14=true then c10 else c34;let c13:AV:=agg (c1.kids.set c16.toNat (bh (iw (h.n.z,s) (c37*(c22.d*c22.n.z),c26))));some (fork (decide (c19<(↑c35:Int))) (af [c4,-c9≤c5∧c5<c9,(0:Int)≤c5∧c5.toNat<c.m,c4,c4,c4,c32,c4,r<c7,r<c7,c32,c4,c4,c31,c4,r<c7,r<c7,c31,c4,c4,c38,c4,r<c7,r<c7,c38,c4,c4,c4,c4,c4,c32,c4,(0:Int)≤(1:Int)∧(1:Int)<c15,c4,(0:Int)≤(2:Int)∧(2:Int)<c15,c4,c4,c4,c4,c4] (af [c33,c4,c12,c33,c4,sV<c7,r+r<c7,s<c7,c26<c7,c33,c4] (af [-c9≤c3∧c3<c9] (af [c29,c4,c12,c29,c4,sV<c7,r+r<c7,s<c7,c26<c7,c29,c4] (af [-c9≤c16∧c16<c9] (af [c23,c4,c12,c23,c4,sV<c7,r+r<c7,s<c7,c26<c7,c23,c4] (af [-c9≤c8∧c8<c9] (af [c28,c4,c12,c28,c4,sV<c7,r<c7,s<c7,sV+r<c7,c28,c4] (af [-c9≤c8+(1:Int)∧c8+(1:Int)<c9] (af [-c9≤c36∧c36<c9] (leaf normal ([c27,c24,int i64 c30,c20,c25,int i64 c36],((2:Nat),ah.mk false true 12 1 fun j↦if(j==0)=true then agg ((if c14=true then c13 else c1).kids.set c8.toNat (bh (iw (h.d,s) (c37*c22.d,sV+r))))else if(j==0)=true then c13 else if(j==0)=true then c10 else if(j==0)=true then c2 else cU h s)::c6)))))))))))) (leaf (exit 0) ([c27,c24,int i64 c30,c20,c25,int i64 c19],((2:Nat),ah.mk false true 12 1 fun x↦agg [rat h.n.x s,rat h.n.y s,rat h.n.z s,rat h.d s])::c6))):=by kernel_rfl
theorem aeV {c:Cu} {h:Pl} {p i j s r:Nat} {x:Nat→Rat}:bZ T zc [] 60 xT [part qe [1,1,1,1]] ⟨aB yB (zR p i x j),[(2,jy h s),(1,jy ⟨⟨0,0,0⟩,0⟩ 1),(0,DK c r)],3⟩=
  let c1:Prop:=0<1;some (af [c1,c1] (af [c1] (leaf ret [agg [rat h.n.x s,rat h.n.y s,rat h.n.z s,rat h.d s]]))):=by kernel_rfl
def D7 (c:Cu) (x:Nat→Rat) (b j:Nat):Pl:=
 ⟨⟨bU j fun j=>x j*((c.f (b+j)).d*(c.f (b+j)).n.x),bU j fun j=>x j*((c.f (b+j)).d*(c.f (b+j)).n.y),bU j fun j=>x j*((c.f (b+j)).d*(c.f (b+j)).n.z)⟩,bU j fun j=>x j*(c.f (b+j)).d⟩
def zH (r j:Nat):Nat:=1+j*(sV+(r+r)+1)
def mh (c:Cu) (t:Rat):Pl:=D7 c (vB c.k (bG c.n c.k t) t c.p.toNat) (bG c.n c.k t-c.p.toNat) (c.p.toNat+1)
theorem afB:aW P Kw:=aD (iA fun _ _ K hn=>UI hn.1 hn.2 K) (aD (fU hT jV hm HT _ _) jV)
theorem Ny {h:Pl} {s s':Nat} (hs:s<2^40) (hs':1+s+s≤s') (K:Nat):az P pV K [cU h s] [] (aF (.agg [vA (mQ h) s',.rat h.d s]) []):=by
 refine bC (r:=aF (.agg [vA (mQ h) s',.rat h.d s]) []) hT afB hm NY rfl (of_decide_eq_true (by kernel_rfl)) rfl 60 (Ok (s:=s)) (fun _=>?_) K []
 have e1:i64.wrap ((0:Int)+1)=1:=rfl
 have e2:i64.wrap ((1:Int)+1)=2:=rfl
 simp only[aa.all,ax,ND,e1,e2]
 refine⟨?_,by omega,cF ⟨cF ⟨bL rfl (by omega),bL rfl (by omega),bL rfl (by omega),trivial⟩,.refl _,trivial⟩⟩
 (repeat' with_reducible refine And.intro ?_ ?_)
 all_goals omega
theorem ael:∀K args pre r,Ip K args pre=some r→az P pV K args pre r:=cz fun⟨h,_⟩ K _=>Ny (by decide) (by decide) K
def KK:Spec:=cC (kC (zT fC) kN) (fun a=>.agg [vA (mQ a.1) nv,.rat a.1.d fC]) fun _=>[]
theorem Wx:∀K args pre r,KK K args pre=some r→az P pV K args pre r:=cz fun⟨h,_⟩ K _=>Ny (by decide) (by decide) K
theorem K4:aW P zc:=cw (aD OQ (aD (fU hT (aD (fU hT jV hm HT _ _) jV) hm VV _ _) jV))
theorem Js {c:Cu} {t:Rat} {r s:Nat} (hr:1+7*(sV+(r+r)+1)≤s) (hs:s<2^40) (hk:Kn c.n c.p.toNat c.k) (h0:0≤c.p) (h6:c.p≤6) (hn:c.n<2^40) (hm2:(c.m:Int)=(c.n:Int)-c.p-1) (hin:¬bF c.n c.k t) (K:Nat):az P n7 K [e9 c sK r,.rat t sK] [] (aF (cU (mh c t) s) []):=by
 refine eB (r:=aF (cU (mh c t) s) []) hT Ja rfl (of_decide_eq_true (by kernel_rfl)) rfl (fun _ cx h00=>?_) K []
 have hkp:=iT h00
 obtain⟨q,hq⟩:∃q,q=c.p.toNat:=⟨_,rfl⟩
 have hq2:c.p=(q:Int):=by omega
 obtain⟨i,hi⟩:∃i,i=bG c.n c.k t:=⟨_,rfl⟩
 obtain⟨x,hx⟩:∃x,x=vB c.k i t q:=⟨_,rfl⟩
 have hiv:=hk.mY hin
 rw[←hi,←hq]at hiv
 have hV:mh c t=D7 c x (i-q) (q+1):=by unfold mh;rw[←hi,←hq,←hx]
 rw[hV]
 have h1:sK=4096:=rfl
 have h2:sV=268435456:=rfl
 have z0:zH r 0=1:=by unfold zH;rw[Nat.zero_mul]
 have zS:∀j,zH r (j+1)=zH r j+(sV+(r+r)+1):=fun j=>by unfold zH;rw[Nat.add_mul,Nat.one_mul];omega
 have zle:∀j,j≤7→zH r j≤s:=fun j hj=>by
  have:=Nat.mul_le_mul_right (sV+(r+r)+1) hj
  unfold zH;omega
 refine ak.jv hT K4 hm (x:=qe) [1,1,1,0,1] (i:=0) (y:=part qe [1,1,1,0,1,0,0]) (z:=part qe [1,1,1,1]) (by kernel_rfl) (by kernel_rfl) (by kernel_rfl) Ja.dst hkp (f1:=[]) (f2:=[25]) 60 yB 3 (fun j:Nat=>zR q i x j) (fun j=>[(2,jy (D7 c x (i-q) j) (zH r j)),(1,jy ⟨⟨0,0,0⟩,0⟩ 1),(0,DK c r)]) (fun j=>j≤q+1) (fun j=>j=q+1) (fun j=>q+1-j) (fun _=>False) ⟨_,Xv,?_⟩ (fun j hj=>⟨_,QM,?_⟩) (fun j hj=>?_) (fun _ _ h=>h.elim)
 ·simp only[aa.all,ax]
  simp only[kD,show bF c.n (fun i=>c.k i) t=bF c.n c.k t from rfl,if_neg hin]
  refine⟨⟨by omega,by omega,by omega,cm (Nat.le_refl _),Nat.le_refl _,hk,h0,h6,hn⟩,0,Nat.zero_le _,[(0,0),(1,8192),(2,65536)],rfl,?_,rfl,aN rfl rfl (aK rfl (by rw[z0];rfl)) (aN rfl rfl (aK rfl rfl) (aN rfl rfl (aK rfl rfl) trivial))⟩
  show _=(zR q i x 0).map _
  rw[hx,hq,hi];rfl
 ·simp only[aa.all,ax,decide_eq_true_eq,decide_eq_false_iff_not,show((i:Int)-q+j).toNat=i-q+j by omega,Int.toNat_natCast,show i64.wrap ((0:Int)+1)=1 from rfl,show i64.wrap ((1:Int)+1)=2 from rfl]
  have hz1:=zS j
  refine⟨fun h=>?_,fun h=>⟨rfl,j,by omega,[(0,0),(1,1),(2,2)],rfl,rfl,rfl,aN rfl rfl (aK rfl rfl) (aN rfl rfl (aK rfl rfl) (aN rfl rfl (aK rfl rfl) trivial))⟩⟩
  have hz:=zle j (by omega)
  have hz2:=zle (j+1) (by omega)
  (repeat' with_reducible refine And.intro ?_ ?_)
  all_goals first|omega|skip
  exact⟨j+1,by omega,by dsimp only;omega,[(0,0),(1,1),(2,2)],rfl,rfl,rfl,aN rfl rfl (.inr ⟨rfl,cF ⟨bL rfl (by omega),bL rfl (by omega),bL rfl (by omega),bL rfl (by omega),trivial⟩⟩) (aN rfl rfl (aK rfl rfl) (aN rfl rfl (aK rfl rfl) trivial))⟩
 ·subst hj
  refine ak.gz ((aC.fin hT K4 hm 60 aeV (by kernel_rfl) ?_).mono fun _ _ h=>.inl h)
  simp only[aa.all,ax]
  have hz:=zle (q+1) (by omega)
  exact⟨by omega,by omega,cF ⟨cN (by omega),cN (by omega),cN (by omega),cN (by omega),trivial⟩⟩
def HV:Spec:=cC (kC (yL sK sK) (kC (fy sK) kN)) (fun a=>cU (mh a.1 a.2.1) sH) fun a=>[Kn a.1.n a.1.p.toNat a.1.k,0≤a.1.p,a.1.p≤6,a.1.n<2^40,(a.1.m:Int)=(a.1.n:Int)-a.1.p-1,¬bF a.1.n a.1.k a.2.1]
def It:Spec:=cC (kC (yL sK sE) (kC (fy sK) kN)) (fun a=>cU (mh a.1 a.2.1) fC) fun a=>[Kn a.1.n a.1.p.toNat a.1.k,0≤a.1.p,a.1.p≤6,a.1.n<2^40,(a.1.m:Int)=(a.1.n:Int)-a.1.p-1,¬bF a.1.n a.1.k a.2.1]
noncomputable def JW:aS:=sG::(oF,qQ)::(n7,It)::(pV,KK)::[]
theorem Vz:∀K args pre r,HV K args pre=some r→az P n7 K args pre r:=cz fun⟨c,t,_⟩ K hn=>Js (by decide) (by decide) hn.1 hn.2.1 hn.2.2.1 hn.2.2.2.1 hn.2.2.2.2.1 hn.2.2.2.2.2 K
theorem adw:∀K args pre r,It K args pre=some r→az P n7 K args pre r:=cz fun⟨c,t,_⟩ K hn=>Js (by decide) (by decide) hn.1 hn.2.1 hn.2.2.1 hn.2.2.2.1 hn.2.2.2.2.1 hn.2.2.2.2.2 K
theorem afQ:aW P JW:=ji (aD DU (aD adw (aD Wx aX)))
theorem R7 {c:Cu} {t:Rat}:bu T JW [18] 60 w7 (aq w7) ⟨aM 0 [e9 c sK sE,.rat t sK],[],0⟩=
  let c10 : Prop := c.n < 2 ^ 40; let c7 : Prop := bB (fun i ↦ rat (c.k i) sK) c.n sK; let c5 : Int := bt c.n (fun i ↦ aI (rat (c.k i) sK)) t; let c4 : AV := rat 0 1; let c3 : Nat := c.p.toNat; let c1 : Nat := bG c.n (fun i ↦ aI (rat (c.k i) sK)) t; let c9 : Nat := c1 - c3; let c8 : Nat := c3 + 1; let c6 : Prop := Kn c.n c3 fun i ↦ aI (rat (c.k i) sK); let c2 : Rat := (↑(1 : Int) : Rat) / bU c8 fun j ↦ vB (fun i ↦ aI (rat (c.k i) sK)) c1 t c3 j * aI (rat (c.f (c9 + j)).d sE); some (af [c7, sK ≤ sK, c6, (0 : Int) ≤ c.p, c10] (fork (c5 != (0 : Int)) (af [(0 : Nat) < 1] (leaf ret [agg [c4, c4, c4], int i64 c5])) (af [c7, gd (fun i ↦ bN (c.f i) sE) c.m sE, sK ≤ sK, c6, (0 : Int) ≤ c.p, c.p ≤ (6 : Int), c10, (↑c.m : Int) = (↑c.n : Int) - c.p - (1 : Int), ¬bF c.n (fun i ↦ aI (rat (c.k i) sK)) t, fC ≤ fC, fC ≤ fC, fC ≤ fC, fC ≤ fC] (af [(0 : Nat) < 1] (leaf ret [agg [rat (c2 * bU c8 fun j ↦ vB (fun i ↦ aI (rat (c.k i) sK)) c1 t c3 j * (aI (rat (c.f (c9 + j)).d sE) * aI (rat (c.f (c9 + j)).n.x sE))) 137438953474, rat (c2 * bU c8 fun j ↦ vB (fun i ↦ aI (rat (c.k i) sK)) c1 t c3 j * (aI (rat (c.f (c9 + j)).d sE) * aI (rat (c.f (c9 + j)).n.y sE))) 137438953474, rat (c2 * bU c8 fun j ↦ vB (fun i ↦ aI (rat (c.k i) sK)) c1 t c3 j * (aI (rat (c.f (c9 + j)).d sE) * aI (rat (c.f (c9 + j)).n.z sE))) 137438953474], int i64 (0 : Int)]))))) := by kernel_rfl
def j8 (c:Cu) (t:Rat):V3:=if bF c.n c.k t then⟨0,0,0⟩else mQ (mh c t)
def Lr:Spec:=cC (kC (yL sK sE) (kC (fy sK) kN)) (fun a=>.tuple [vA (j8 a.1 a.2.1) nv,.int .i64 (bt a.1.n a.1.k a.2.1)]) fun a=>[Kn a.1.n a.1.p.toNat a.1.k,0≤a.1.p,a.1.p≤6,a.1.n<2^40,(a.1.m:Int)=(a.1.n:Int)-a.1.p-1]
theorem TD:∀K args pre r,Lr K args pre=some r→az P Ak K args pre r:=cz fun⟨c,t,_⟩ K hn=>by
 obtain⟨hk,h0,h6,hn,hm2⟩:=hn
 have hk:Kn c.n c.p.toNat c.k:=hk
 have h6:c.p≤6:=h6
 have hm2:(c.m:Int)=(c.n:Int)-c.p-1:=hm2
 refine bC (r:=aF (.tuple [vA (j8 c t) nv,.int .i64 (bt c.n c.k t)]) []) hT afQ hm Rd rfl (of_decide_eq_true (by kernel_rfl)) rfl 60 R7 (fun _=>?_) K []
 simp only[aa.all,ax,kD,bne_iff_ne,bne_eq_false_iff_eq,ne_eq,show bF c.n (fun i=>c.k i) t=bF c.n c.k t from rfl,show bt c.n (fun i=>c.k i) t=bt c.n c.k t from rfl]
 refine⟨⟨cm (Nat.le_refl _),Nat.le_refl _,hk,h0,hn⟩,fun hout=>?_,fun hin=>?_⟩
 ·have ho:bF c.n c.k t:=by
   unfold bt at hout
   by_cases ho:bF c.n c.k t
   ·exact ho
   ·rw[if_neg ho]at hout;exact absurd rfl hout
  refine⟨by omega,?_,.refl _,trivial⟩
  unfold j8
  rw[if_pos ho]
  exact cF ⟨cN (by decide),cN (by decide),cN (by decide),trivial⟩
 ·have hi:=pU hin
  refine⟨⟨cm (Nat.le_refl _),nw (Nat.le_refl _),Nat.le_refl _,hk,h0,h6,hn,hm2,hi,by omega,by omega⟩,by omega,?_,br hin.symm,trivial⟩
  unfold j8
  rw[if_neg hi]
  exact .refl _
end Go.Am.B

/- ref12: row, Swap, IsoV, IsoU, Eval. -/
namespace Go.Am.B
open Go Go.Am.N AV aa aj IntKind
theorem Rl:aO P Cz Be (aq Be):=aP W1 (by kernel_rfl) (by kernel_rfl) (by kernel_rfl)
theorem FF:aO P xu tT (aq tT):=aP RN (by kernel_rfl) (by kernel_rfl) (by kernel_rfl)
theorem Fb:aO P qL pn (aq pn):=aP WJ (by kernel_rfl) (by kernel_rfl) (by kernel_rfl)
theorem Sj:aO P sS uB (aq uB):=aP Ts (by kernel_rfl) (by kernel_rfl) (by kernel_rfl)
theorem PM:aO P AQ u9 (aq u9):=aP Qj (by kernel_rfl) (by kernel_rfl) (by kernel_rfl)
abbrev dr (s:Sf):Sf:=⟨s.v,s.u,s.b,s.kv,s.a,s.ku,s.m,s.n,fun j i=>s.f i j⟩
abbrev IE (s:Sf) (i:Nat):Cu:=⟨s.v,s.b,s.kv,s.m,s.f i⟩
def rV (s:Sf) (v:Rat) (i:Nat):Pl:=⟨mQ (mh (IE s i) v),(mh (IE s i) v).d⟩
def mc (s:Sf) (v:Rat):Cu:=⟨s.u,s.a,s.ku,s.n,rV s v⟩
noncomputable abbrev vE:Code:=aq tT
noncomputable abbrev xb:Code:=part vE [1,1,0,1,0,0]
noncomputable abbrev uE:Code:=part xb [1,0,0]
abbrev U8:ah:=⟨false,true,5,1,fun _=>.agg [.int .i64 0,.int .i64 0,.nil,.nil,.nil]⟩
abbrev TC:ah:=⟨false,true,3,1,fun _=>.agg [.int .i64 0,.nil,.nil]⟩
abbrev Nk (s:Sf):ah:=⟨false,true,5,1,fun _=>cq s sK sK⟩
abbrev oC:List Nat:=[1,2,3,4]
abbrev yO (j:Nat):List AV:=[.ptr 0 0 5 0 [],.ptr 1 0 5 0 [],.ptr 2 0 5 0 [],.int .i64 j]
abbrev BR (n:Nat) (k:Nat→Rat):ah:=⟨true,true,3,n,fun i=>.rat (k i) sK⟩
abbrev o7 (s:Sf) (j:Nat):aA:=[(3,⟨true,true,1,j,fun j=>bg (fun i=>s.f i j) s.n sK⟩),(5,BR s.a s.ku),(4,BR s.b s.kv),(2,⟨false,true,5,1,fun _=>.agg [.int .i64 s.v,.int .i64 s.u,.own 4 3 0 s.b,.own 5 3 0 s.a,.own 3 1 0 j]⟩),(1,U8),(0,Nk s)]
abbrev uY:List Nat:=[1,2,3,4,5,6]
abbrev Dp (j i:Nat):List AV:=yO j++[.own 6 12 0 i,.int .i64 i]
abbrev EX (s:Sf) (j i:Nat):aA:=(6,⟨true,true,12,i,fun i=>bN (s.f i j) sK⟩)::o7 s j
noncomputable def x8:aS:=nG::(oF,qQ)::(Cz,fL T [nG] [] 60 Be)::(n7,HV)::(pV,Ip)::[]
abbrev xW:List Nat:=[2,3,4,8,9]
abbrev CI (i:Nat):List AV:=[.ptr 0 0 5 0 [],.ptr 1 0 3 0 [],.ptr 2 0 3 0 [],.ptr 3 0 3 0 [],.int .i64 i]
abbrev uL (s:Sf) (v:Rat) (g:Nat→Pl) (i:Nat):aA:=[(4,⟨true,true,12,i,fun i=>bN (g i) sE⟩),(5,BR s.a s.ku),(3,⟨false,true,3,1,fun _=>.agg [.int .i64 s.u,.own 5 3 0 s.a,.own 4 12 0 i]⟩),(2,TC),(1,tP v sK),(0,Nk s)]
noncomputable abbrev qf:Code:=aq pn
theorem UH {s:Sf}:aG T [nG] [] 60 oC (before vE [1,1,0,1]) ⟨aM 0 [cq s sK sK],[],0⟩=
  let c7:Nat:=(bh (cq s sK sK)).size;let c6:Nat:=0+s.b;let c5:Nat:=0+s.a;let c4:AV:=int i64 (0:Int);let c3:Prop:=0*3≤2^24;let c2:Prop:=0<1;let c1:AV:=agg [c4,c4,nil,nil,nil];some (af [c2,c2,c3,c2,c6*((56:Nat)+1)*2≤2^47,c3,c2,c5*((56:Nat)+1)*2≤2^47,c2] (leaf normal ([ptr 0 0 c7 0 [],ptr 4096 0 5 0 [],ptr 61440 0 5 0 [],c4],[((53248:Nat),ah.mk true true 3 c5 fun i↦rat (s.ku (i-0)) 4096),((36864:Nat),ah.mk true true 3 c6 fun i↦rat (s.kv (i-0)) 4096),((61440:Nat),ah.mk false true 5 1 fun j↦if(j==0)=true then bh (agg ((((c1.kids.set 0 (bh (int i64 s.v))).set 1 (bh (int i64 s.u))).set 2 (bh (own (nat_lit 36863+1) 3 0 c6))).set 3 (bh (own (nat_lit 53247+1) 3 0 c5))))else c1),((4096:Nat),ah.mk false true 5 1 fun x↦c1),((0:Nat),ah.mk false true c7 1 fun x↦agg [int i64 s.u,int i64 s.v,ag 3 s.a fun i↦rat (s.ku i) 4096,ag 3 s.b fun i↦rat (s.kv i) 4096,ag 1 s.n fun i↦ag 12 s.m fun i_1↦agg [agg [rat (s.f i i_1).n.x 4096,rat (s.f i i_1).n.y 4096,rat (s.f i i_1).n.z 4096],rat (s.f i i_1).d 4096]])]))):=by kernel_rfl
theorem aaL {s:Sf} {j:Nat}:aG T [nG] [26] 60 oC (before xb [1,0]) ⟨aB oC (yO j),o7 s j,6⟩=
  let c1:List AV×aA:=([ptr 0 0 5 0 [],ptr 1 0 5 0 [],ptr 2 0 5 0 [],int i64 (↑j:Int)],[((3:Nat),ah.mk true true 1 j fun j↦ag 12 s.n fun i↦agg [agg [rat (s.f i j).n.x 4096,rat (s.f i j).n.y 4096,rat (s.f i j).n.z 4096],rat (s.f i j).d 4096]),((5:Nat),ah.mk true true 3 s.a fun i↦rat (s.ku i) 4096),((4:Nat),ah.mk true true 3 s.b fun i↦rat (s.kv i) 4096),((2:Nat),ah.mk false true 5 1 fun x↦agg [int i64 s.v,int i64 s.u,own 4 3 0 s.b,own 5 3 0 s.a,own 3 1 0 j]),((1:Nat),ah.mk false true 5 1 fun x↦agg [int i64 (0:Int),int i64 (0:Int),nil,nil,nil]),((0:Nat),ah.mk false true 5 1 fun x↦agg [int i64 s.u,int i64 s.v,ag 3 s.a fun i↦rat (s.ku i) 4096,ag 3 s.b fun i↦rat (s.kv i) 4096,ag 1 s.n fun i↦ag 12 s.m fun i_1↦agg [agg [rat (s.f i i_1).n.x 4096,rat (s.f i i_1).n.y 4096,rat (s.f i i_1).n.z 4096],rat (s.f i i_1).d 4096]])]);some (af [(0:Nat)<1,(0:Int)≤(0:Int)∧Int.toNat (0:Int)<s.n] (fork (decide ((↑j:Int)<(↑s.m:Int))) (leaf normal c1) (leaf (exit 0) c1))):=by kernel_rfl
theorem Tb {s:Sf} {j:Nat}:aG T [nG] [] 60 uY (before uE [1,0,1]) ⟨aB oC (yO j),o7 s j,6⟩=
  let c1:AV:=int i64 (0:Int);some (leaf normal ([ptr 0 0 5 0 [],ptr 1 0 5 0 [],ptr 2 0 5 0 [],int i64 (↑j:Int),nil,c1],[((3:Nat),ah.mk true true 1 j fun j↦ag 12 s.n fun i↦agg [agg [rat (s.f i j).n.x 4096,rat (s.f i j).n.y 4096,rat (s.f i j).n.z 4096],rat (s.f i j).d 4096]),((5:Nat),ah.mk true true 3 s.a fun i↦rat (s.ku i) 4096),((4:Nat),ah.mk true true 3 s.b fun i↦rat (s.kv i) 4096),((2:Nat),ah.mk false true 5 1 fun x↦agg [int i64 s.v,int i64 s.u,own 4 3 0 s.b,own 5 3 0 s.a,own 3 1 0 j]),((1:Nat),ah.mk false true 5 1 fun x↦agg [c1,c1,nil,nil,nil]),((0:Nat),ah.mk false true 5 1 fun x↦agg [int i64 s.u,int i64 s.v,ag 3 s.a fun i↦rat (s.ku i) 4096,ag 3 s.b fun i↦rat (s.kv i) 4096,ag 1 s.n fun i↦ag 12 s.m fun i_1↦agg [agg [rat (s.f i i_1).n.x 4096,rat (s.f i i_1).n.y 4096,rat (s.f i i_1).n.z 4096],rat (s.f i i_1).d 4096]])])):=by kernel_rfl
theorem QC {s:Sf} {j i:Nat}:aG T [nG] [33] 60 uY [part uE [1,0,1,0,0]] ⟨aB uY (Dp j i),EX s j i,7⟩=
  let c11:Int:=(↑j:Int);let c10:AV:=ptr 1 0 5 0 [];let c9:AV:=ptr 0 0 5 0 [];let c8:AV:=ptr 2 0 5 0 [];let c7:Int:=(↑i:Int);let c6:AV:=rat 0 1;let c5:Nat×ah:=((4:Nat),ah.mk true true 3 s.b fun i↦rat (s.kv i) 4096);let c4:Nat×ah:=((5:Nat),ah.mk true true 3 s.a fun i↦rat (s.ku i) 4096);let c2:Nat×ah:=((3:Nat),ah.mk true true 1 j fun j↦ag 12 s.n fun i↦agg [agg [rat (s.f i j).n.x 4096,rat (s.f i j).n.y 4096,rat (s.f i j).n.z 4096],rat (s.f i j).d 4096]);let c1:List (Nat×ah):=[((2:Nat),ah.mk false true 5 1 fun x↦agg [int i64 s.v,int i64 s.u,own 4 3 0 s.b,own 5 3 0 s.a,own 3 1 0 j]),((1:Nat),ah.mk false true 5 1 fun x↦agg [int i64 (0:Int),int i64 (0:Int),nil,nil,nil]),((0:Nat),ah.mk false true 5 1 fun x↦agg [int i64 s.u,int i64 s.v,ag 3 s.a fun i↦rat (s.ku i) 4096,ag 3 s.b fun i↦rat (s.kv i) 4096,ag 1 s.n fun i↦ag 12 s.m fun i_1↦agg [agg [rat (s.f i i_1).n.x 4096,rat (s.f i i_1).n.y 4096,rat (s.f i i_1).n.z 4096],rat (s.f i i_1).d 4096]])];let c12:Int:=c7+(1:Int);let c3:Pl:=s.f c7.toNat c11.toNat;some (af [(0:Nat)<1] (fork (decide (c7<(↑s.n:Int))) (af [(0:Nat)<1,(0:Int)≤c7∧c7.toNat<s.n,(0:Int)≤c11∧c11.toNat<s.m,(1:Nat)*12≤2^24,(i+1)*((224:Nat)+1)*2≤2^47] (af [-(2:Int)^63≤c12∧c12<(2:Int)^63] (leaf normal ([c9,c10,c8,int i64 c11,own 61447 12 0 (i+1),int i64 c12],c2::c4::c5::((61447:Nat),ah.mk true true 12 (i+1) fun i_1↦if i_1<i then bN (s.f i_1 j) sK else nth [agg [agg [rat c3.n.x sK,rat c3.n.y sK,rat c3.n.z sK],rat c3.d sK]] (agg [agg [c6,c6,c6],c6]) (i_1-i+0))::c1)))) (leaf (exit 2) ([c9,c10,c8,int i64 c11,own 6 12 0 i,int i64 c7],c2::c4::c5::((6:Nat),ah.mk true true 12 i fun i↦agg [agg [rat (s.f i j).n.x 4096,rat (s.f i j).n.y 4096,rat (s.f i j).n.z 4096],rat (s.f i j).d 4096])::c1)))):=by kernel_rfl
theorem UL {s:Sf} {j i:Nat}:aG T [nG] [] 60 oC (behind uE [1,0,1]++[part xb [1,1]]) ⟨aB uY (Dp j i),EX s j i,7⟩=
  let c2:Int:=(↑j:Int)+(1:Int);let c1:AV:=agg [int i64 s.v,int i64 s.u,own 4 3 0 s.b,own 5 3 0 s.a,own 3 1 0 j];some (af [(0:Nat)<1,(1:Nat)*1≤2^24,(j+1)*((24:Nat)+1)*2≤2^47,(0:Nat)<1] (af [-(2:Int)^63≤c2∧c2<(2:Int)^63] (leaf normal ([ptr 0 0 5 0 [],ptr 1 0 5 0 [],ptr 2 0 5 0 [],int i64 c2],[((16391:Nat),ah.mk true true 1 (j+1) fun i_1↦if i_1<j then bg (fun i↦s.f i i_1) s.n sK else nth [ag 12 i fun i↦bN (s.f (i+0) j) sK] nil (i_1-j+0)),((5:Nat),ah.mk true true 3 s.a fun i↦rat (s.ku i) 4096),((4:Nat),ah.mk true true 3 s.b fun i↦rat (s.kv i) 4096),((2:Nat),ah.mk false true 5 1 fun j_1↦if(j_1==0)=true then agg (c1.kids.set 4 (bh (own (nat_lit 16390+1) 1 0 (j+1))))else c1),((1:Nat),ah.mk false true 5 1 fun x↦agg [int i64 (0:Int),int i64 (0:Int),nil,nil,nil]),((0:Nat),ah.mk false true 5 1 fun x↦agg [int i64 s.u,int i64 s.v,ag 3 s.a fun i↦rat (s.ku i) 4096,ag 3 s.b fun i↦rat (s.kv i) 4096,ag 1 s.n fun i↦ag 12 s.m fun i_1↦agg [agg [rat (s.f i i_1).n.x 4096,rat (s.f i i_1).n.y 4096,rat (s.f i i_1).n.z 4096],rat (s.f i i_1).d 4096]])])))):=by kernel_rfl
theorem Ze {s:Sf} {j:Nat}:bZ T [nG] [] 60 tT [part vE [1,1,1]] ⟨aB oC (yO j),o7 s j,6⟩=
  let c1:Prop:=0<1;some (af [c1,c1] (af [c1] (leaf ret [agg [int i64 s.v,int i64 s.u,ag 3 s.b fun i↦rat (s.kv (i+0)) 4096,ag 3 s.a fun i↦rat (s.ku (i+0)) 4096,ag 1 j fun i↦ag 12 s.n fun i_1↦agg [agg [rat (s.f i_1 (i+0)).n.x 4096,rat (s.f i_1 (i+0)).n.y 4096,rat (s.f i_1 (i+0)).n.z 4096],rat (s.f i_1 (i+0)).d 4096]]]))):=by kernel_rfl
theorem afb {s:Sf} {v:Rat}:aG T x8 [200020] 60 xW (before qf [1,1,1,0,1]) ⟨aM 0 [cq s sK sK,.rat v sK],[],0⟩=
  let c4 : Nat := (bh (cq s sK sK)).size; let c3 : Nat := 0 + s.a; let c2 : AV := agg [int i64 (0 : Int), nil, nil]; let c1 : Prop := 0 < 1; some (af [c1, c1, c1, bB (fun i ↦ rat (s.kv i) sK) s.b sK, sK ≤ sK, Kn s.b s.v.toNat fun i ↦ aI (rat (s.kv i) sK), (0 : Int) ≤ s.v, s.b < 2 ^ 40] (af [(bt s.b (fun i ↦ aI (rat (s.kv i) sK)) v != (0 : Int)) = false] (af [c1, (0 : Nat) * 3 ≤ 2 ^ 24, c1, c3 * ((56 : Nat) + 1) * 2 ≤ 2 ^ 47, c1] (leaf normal ([ptr 0 0 c4 0 [], ptr 4096 0 (bh (rat v sK)).size 0 [], ptr 8192 0 3 0 [], ptr 98304 0 3 0 [], int i64 (0 : Int)], [((90112 : Nat), ah.mk true true 3 c3 fun i ↦ rat (s.ku (i - 0)) 4096), ((98304 : Nat), ah.mk false true 3 1 fun j ↦ if (j == 0) = true then bh (agg ((c2.kids.set 0 (bh (int i64 s.u))).set 1 (bh (own (nat_lit 90111 + 1) 3 0 c3)))) else c2), ((8192 : Nat), ah.mk false true 3 1 fun x ↦ c2), ((4096 : Nat), ah.mk false true (bh (rat v sK)).size 1 fun x ↦ rat v 4096), ((0 : Nat), ah.mk false true c4 1 fun x ↦ agg [int i64 s.u, int i64 s.v, ag 3 s.a fun i ↦ rat (s.ku i) 4096, ag 3 s.b fun i ↦ rat (s.kv i) 4096, ag 1 s.n fun i ↦ ag 12 s.m fun i_1 ↦ agg [agg [rat (s.f i i_1).n.x 4096, rat (s.f i i_1).n.y 4096, rat (s.f i i_1).n.z 4096], rat (s.f i i_1).d 4096]])]))))) := by kernel_rfl
theorem age {s:Sf} {v:Rat} {g:Nat→Pl} {i:Nat}:aG T x8 [34] 60 xW [part qf [1,1,1,0,1,0,0]] ⟨aB xW (CI i),uL s v g i,6⟩=
  let c13:AV:=ptr 2 0 3 0 [];let c12:AV:=ptr 3 0 3 0 [];let c11:AV:=ptr 1 0 3 0 [];let c10:AV:=ptr 0 0 5 0 [];let c9:AV:=rat 0 1;let c8:Nat×ah:=((5:Nat),ah.mk true true 3 s.a fun i↦rat (s.ku i) 4096);let c7:Nat:=s.v.toNat;let c6:Int:=(↑i:Int);let c5:Prop:=0<1;let c4:AV:=agg [int i64 s.u,own 5 3 0 s.a,own 4 12 0 i];let c3:Nat:=bG s.b (fun i↦aI (rat (s.kv i) sK)) v;let c2:List (Nat×ah):=[((2:Nat),ah.mk false true 3 1 fun x↦agg [int i64 (0:Int),nil,nil]),((1:Nat),ah.mk false true 3 1 fun x↦rat v 4096),((0:Nat),ah.mk false true 5 1 fun x↦agg [int i64 s.u,int i64 s.v,ag 3 s.a fun i↦rat (s.ku i) 4096,ag 3 s.b fun i↦rat (s.kv i) 4096,ag 1 s.n fun i↦ag 12 s.m fun i_1↦agg [agg [rat (s.f i i_1).n.x 4096,rat (s.f i i_1).n.y 4096,rat (s.f i i_1).n.z 4096],rat (s.f i i_1).d 4096]])];let c17:Int:=c6+(1:Int);let c16:Nat:=c3-c7;let c15:Nat:=c7+1;let c1:Rat:=bU c15 fun j↦vB (fun i↦aI (rat (s.kv i) sK)) c3 v c7 j*aI (rat (s.f c6.toNat (c16+j)).d sK);let c14:Rat:=(↑(1:Int):Rat)/c1;some (af [c5] (fork (decide (c6<(↑s.n:Int))) (af [c5,c5,c5,c5,c5,(0:Int)≤c6∧c6.toNat<s.n,c5,c5,c5,bB (fun i↦rat (s.kv i) sK) s.b sK,gd (fun i↦bN (s.f c6.toNat i) sK) s.m sK,sK≤sK,Kn s.b c7 fun i↦aI (rat (s.kv i) sK),(0:Int)≤s.v,s.v≤(6:Int),s.b<2^40,(↑s.m:Int)=(↑s.b:Int)-s.v-(1:Int),¬bF s.b (fun i↦aI (rat (s.kv i) sK)) v,sH≤sH,sH≤sH,sH≤sH,sH≤sH,(1:Nat)*12≤2^24,(i+1)*((224:Nat)+1)*2≤2^47,c5] (af [-(2:Int)^63≤c17∧c17<(2:Int)^63] (leaf normal ([c10,c11,c13,c12,int i64 c17],((57350:Nat),ah.mk true true 12 (i+1) fun i_1↦if i_1<i then bN (g i_1) sE else nth [agg [agg [rat (c14*bU c15 fun j↦vB (fun i↦aI (rat (s.kv i) sK)) c3 v c7 j*(aI (rat (s.f c6.toNat (c16+j)).d sK)*aI (rat (s.f c6.toNat (c16+j)).n.x sK))) sE,rat (c14*bU c15 fun j↦vB (fun i↦aI (rat (s.kv i) sK)) c3 v c7 j*(aI (rat (s.f c6.toNat (c16+j)).d sK)*aI (rat (s.f c6.toNat (c16+j)).n.y sK))) sE,rat (c14*bU c15 fun j↦vB (fun i↦aI (rat (s.kv i) sK)) c3 v c7 j*(aI (rat (s.f c6.toNat (c16+j)).d sK)*aI (rat (s.f c6.toNat (c16+j)).n.z sK))) sE],rat c1 sH]] (agg [agg [c9,c9,c9],c9]) (i_1-i+0))::c8::((3:Nat),ah.mk false true 3 1 fun j↦if(j==0)=true then agg (c4.kids.set 2 (bh (own (nat_lit 57349+1) 12 0 (i+1))))else c4)::c2)))) (leaf (exit 0) ([c10,c11,c13,c12,int i64 c6],((4:Nat),ah.mk true true 12 i fun i↦agg [agg [rat (g i).n.x 4294967298,rat (g i).n.y 4294967298,rat (g i).n.z 4294967298],rat (g i).d 4294967298])::c8::((3:Nat),ah.mk false true 3 1 fun x↦c4)::c2)))):=by kernel_rfl
theorem afa {s:Sf} {v:Rat} {g:Nat→Pl} {i:Nat}:bZ T x8 [] 60 pn [part qf [1,1,1,1]] ⟨aB xW (CI i),uL s v g i,6⟩=
  let c1:Prop:=0<1;some (af [c1,c1] (af [c1] (leaf ret [agg [int i64 s.u,ag 3 s.a fun i↦rat (s.ku (i+0)) 4096,ag 12 i fun i↦agg [agg [rat (g (i+0)).n.x 4294967298,rat (g (i+0)).n.y 4294967298,rat (g (i+0)).n.z 4294967298],rat (g (i+0)).d 4294967298]],int i64 (0:Int)]))):=by kernel_rfl
theorem D6:aW P x8:=cw (aD DU (aD (fU hT (cw aX) hm Rl _ _) (aD Vz (aD ael aX))))
theorem Rp {s:Sf} (hn:1≤s.n) (h2:s.n<2^30) (h3:s.m<2^30) (h4:s.a<2^30) (h5:s.b<2^30) (K:Nat):az P xu K [cq s sK sK] [] (aF (cq (dr s) sK sK) []):=by
 refine eB (r:=aF (cq (dr s) sK sK) []) hT FF rfl (of_decide_eq_true (by kernel_rfl)) rfl (fun _ cx h00=>?_) K []
 have hk:=iT h00
 have hv:∀{rl:List (Nat×Nat)} {a b d l m n:Nat} {u:AV},aT rl 4=some a→aT rl 5=some b→m=s.b→n=s.a→u.isTuple=false→eE (aT rl) u (.own 3 1 0 l)→gh rl (.agg [.int .i64 s.v,.int .i64 s.u,.own a 3 0 m,.own b 3 0 n,u]) (.agg [.int .i64 s.v,.int .i64 s.u,.own 4 3 0 s.b,.own 5 3 0 s.a,.own 3 1 0 l]):=
  fun h1 h2 h3 h4 h5 h6=>lT ⟨⟨rfl,aH rfl⟩,⟨rfl,aH rfl⟩,⟨rfl,bR h1 rfl h3⟩,⟨rfl,bR h2 rfl h4⟩,⟨h5,h6⟩,trivial⟩
 have re:∀{j:Nat},kf 6 [(0,0),(1,1),(2,2),(3,3),(4,4),(5,5)] (o7 s j) (o7 s j):=
  fun {j}=>bq rfl rfl rfl (fun _ _=>aK rfl rfl) (bq rfl rfl rfl (fun _ _=>aK rfl rfl) (bq rfl rfl rfl (fun _ _=>aK rfl rfl) (aN rfl rfl (hv (d:=0) rfl rfl rfl rfl rfl (bR rfl rfl rfl)) (aN rfl rfl (aK rfl rfl) (aN rfl rfl (aK rfl rfl) trivial)))))
 refine ak.xE hT (cw aX) hm (x:=vE) [1,1,0,1] (i:=0) (y:=xb) (z:=part vE [1,1,1]) (by kernel_rfl) (by kernel_rfl) (by kernel_rfl) FF.dst [1,0] (j:=1) (x1:=uE) (zb:=part xb [1,1]) (by kernel_rfl) (by kernel_rfl) (by kernel_rfl) [1,0,1] (i2:=2) (y2:=part uE [1,0,1,0,0]) (by kernel_rfl) (by kernel_rfl) rfl
  hk (f1:=[]) (f2:=[26]) (f3:=[]) (f4:=[33]) (f5:=[]) 60 oC uY 6 7 (fun j:Nat=>yO j) (fun j=>o7 s j) (fun j=>j≤s.m) (fun j=>j=s.m) (fun j=>s.m-j) (fun j=>j<s.m) (fun _=>False) (fun _=>False)
  (fun j (i:Nat)=>Dp j i) (fun j i=>EX s j i) (fun _ i=>i≤s.n) (fun _ i=>i=s.n) (fun _ i=>s.n-i) ⟨_,UH,?_⟩ (fun j hj=>⟨_,aaL,?_⟩) (fun j hj hg=>⟨_,Tb,?_⟩) (fun j hj hg i hi=>⟨_,QC,?_⟩) (fun j hj hg i hi=>⟨_,UL,?_⟩) (fun j hj=>?_) (fun _ _ h=>h.elim) (fun _ _ h=>h.elim)
 all_goals try simp only[aa.all,ax,decide_eq_true_eq,decide_eq_false_iff_not,Int.toNat_natCast,Nat.add_zero]
 ·exact⟨by omega,0,Nat.zero_le _,[(0,0),(1,4096),(2,61440),(4,36864),(5,53248)],rfl,rfl,rfl,jb rfl (by omega) (by omega) (bq rfl rfl (Nat.zero_add _) (fun _ _=>aK rfl rfl) (bq rfl rfl (Nat.zero_add _) (fun _ _=>aK rfl rfl)
   (aN rfl rfl (hv (d:=0) rfl rfl (Nat.zero_add _) (Nat.zero_add _) rfl (nS (by omega))) (aN rfl rfl (aK rfl rfl) (aN rfl rfl (aK rfl rfl) trivial)))))⟩
 ·exact⟨by omega,fun h=>⟨by omega,_,rfl,rfl,rfl,re⟩,fun h=>⟨rfl,j,by omega,_,rfl,rfl,rfl,re⟩⟩
 ·exact⟨0,Nat.zero_le _,[(0,0),(1,1),(2,2),(3,3),(4,4),(5,5)],rfl,rfl,rfl,jb rfl (by omega) (by omega) (bq rfl rfl rfl (fun _ _=>aK rfl rfl) (bq rfl rfl rfl (fun _ _=>aK rfl rfl) (bq rfl rfl rfl (fun _ _=>aK rfl rfl) (aN rfl rfl (hv (d:=0) rfl rfl rfl rfl rfl (bR rfl rfl rfl)) (aN rfl rfl (aK rfl rfl) (aN rfl rfl (aK rfl rfl) trivial))))))⟩
 ·refine⟨by omega,fun h=>⟨by omega,by omega,i+1,by omega,by dsimp only;omega,[(0,0),(1,1),(2,2),(3,3),(4,4),(5,5),(6,61447)],rfl,rfl,rfl,bq rfl rfl rfl (fun k hk=>D8 (y:=fun i=>s.f i j) (fun _ _=>rfl) (.refl _) rfl (Nat.le_refl _) (Nat.le_refl _) hk) ?_⟩,
   fun h=>⟨rfl,i,by omega,[(0,0),(1,1),(2,2),(3,3),(4,4),(5,5),(6,6)],rfl,rfl,rfl,bq rfl rfl rfl (fun _ _=>aK rfl rfl) ?_⟩⟩
  all_goals exact bq rfl rfl rfl (fun _ _=>aK rfl rfl) (bq rfl rfl rfl (fun _ _=>aK rfl rfl) (bq rfl rfl rfl (fun _ _=>aK rfl rfl) (aN rfl rfl (hv (d:=0) rfl rfl rfl rfl rfl (bR rfl rfl rfl)) (aN rfl rfl (aK rfl rfl) (aN rfl rfl (aK rfl rfl) trivial)))))
 ·subst hi
  refine⟨by omega,by omega,j+1,by omega,by dsimp only;omega,[(0,0),(1,1),(2,2),(3,16391),(4,4),(5,5)],rfl,rfl,rfl,bq rfl rfl rfl (fun k hk=>?_) (bq rfl rfl rfl (fun _ _=>aK rfl rfl) (bq rfl rfl rfl (fun _ _=>aK rfl rfl) (aN rfl rfl (hv (d:=0) rfl rfl rfl rfl rfl (bR rfl rfl rfl)) (aN rfl rfl (aK rfl rfl) (aN rfl rfl (aK rfl rfl) trivial)))))⟩
  by_cases h:k<j
  ·rw[if_pos h];exact aK rfl rfl
  ·have:k=j:=by omega
   subst this
   rw[if_neg h,Nat.sub_self];exact aK rfl rfl
 ·subst hj
  refine ak.gz ((aC.fin hT (cw aX) hm 60 Ze (by kernel_rfl) ?_).mono fun _ _ h=>.inl h)
  simp only[aa.all,ax]
  exact⟨by omega,by omega,.refl _⟩
theorem R9 {s:Sf} {v:Rat} (hk2:Kn s.b s.v.toNat s.kv) (h0:0≤s.v) (h6:s.v≤6) (h2:s.n<2^30) (h4:s.a<2^30) (h5:s.b<2^30) (hm2:(s.m:Int)=(s.b:Int)-s.v-1) (hin:¬bF s.b s.kv v) (K:Nat):az P qL K [cq s sK sK,.rat v sK] [] (aF (.tuple [e9 (mc s v) sK sE,.int .i64 0]) []):=by
 refine eB (r:=aF (.tuple [e9 (mc s v) sK sE,.int .i64 0]) []) hT Fb rfl (of_decide_eq_true (by kernel_rfl)) rfl (fun _ cx h00=>?_) K []
 have hk:=iT h00
 have hv:∀{rl:List (Nat×Nat)} {b l n:Nat} {u:AV},aT rl 5=some b→n=s.a→u.isTuple=false→eE (aT rl) u (.own 4 12 0 l)→gh rl (.agg [.int .i64 s.u,.own b 3 0 n,u]) (.agg [.int .i64 s.u,.own 5 3 0 s.a,.own 4 12 0 l]):=
  fun h2 h4 h5 h6=>lT ⟨⟨rfl,aH rfl⟩,⟨rfl,bR h2 rfl h4⟩,⟨h5,h6⟩,trivial⟩
 refine ak.jv hT D6 hm (x:=qf) [1,1,1,0,1] (i:=0) (y:=part qf [1,1,1,0,1,0,0]) (z:=part qf [1,1,1,1]) (by kernel_rfl) (by kernel_rfl) (by kernel_rfl) Fb.dst hk (f1:=[200020]) (f2:=[34]) 60 xW 6 (fun i:Nat=>CI i) (fun i=>uL s v (rV s v) i) (fun i=>i≤s.n) (fun i=>i=s.n) (fun i=>s.n-i) (fun _=>False) ⟨_,afb,?_⟩ (fun i hi=>⟨_,age,?_⟩) (fun i hi=>?_) (fun _ _ h=>h.elim)
 ·simp only[aa.all,ax]
  exact⟨⟨by omega,by omega,by omega,cm (Nat.le_refl _),Nat.le_refl _,hk2,h0,by omega⟩,bne_eq_false_iff_eq.2 (if_neg hin:bt s.b s.kv v=0),⟨by omega,by omega,by omega,by omega,by omega⟩,0,Nat.zero_le _,[(0,0),(1,4096),(2,8192),(3,98304),(5,90112)],rfl,rfl,rfl,jb rfl (by omega) (by omega) (bq rfl rfl (Nat.zero_add _) (fun _ _=>aK rfl rfl)
   (aN rfl rfl (hv rfl (Nat.zero_add _) rfl (nS (by omega))) (aN rfl rfl (aK rfl rfl) (aN rfl rfl (aK rfl rfl) (aN rfl rfl (aK rfl rfl) trivial)))))⟩
 ·simp only[aa.all,ax,decide_eq_true_eq,decide_eq_false_iff_not,Int.toNat_natCast]
  have re:kf 6 [(0,0),(1,1),(2,2),(3,3),(4,4),(5,5)] (uL s v (rV s v) i) (uL s v (rV s v) i):=bq rfl rfl rfl (fun _ _=>aK rfl rfl) (bq rfl rfl rfl (fun _ _=>aK rfl rfl) (aN rfl rfl (hv rfl rfl rfl (bR rfl rfl rfl)) (aN rfl rfl (aK rfl rfl) (aN rfl rfl (aK rfl rfl) (aN rfl rfl (aK rfl rfl) trivial)))))
  refine⟨by omega,fun h=>⟨⟨by omega,by omega,by omega,by omega,by omega,by omega,by omega,by omega,by omega,cm (Nat.le_refl _),nw (Nat.le_refl _),Nat.le_refl _,hk2,h0,h6,by omega,hm2,hin,by omega,by omega,by omega,by omega,by omega,by omega,by omega⟩,by omega,
   i+1,by omega,by dsimp only;omega,[(0,0),(1,1),(2,2),(3,3),(4,57350),(5,5)],rfl,rfl,rfl,bq rfl rfl rfl (fun k hk=>?_) (bq rfl rfl rfl (fun _ _=>aK rfl rfl) (aN rfl rfl (hv rfl rfl rfl (bR rfl rfl rfl)) (aN rfl rfl (aK rfl rfl) (aN rfl rfl (aK rfl rfl) (aN rfl rfl (aK rfl rfl) trivial)))))⟩,fun h=>⟨rfl,i,by omega,_,rfl,rfl,rfl,re⟩⟩
  by_cases h:k<i
  ·rw[if_pos h];exact aK rfl rfl
  ·have:k=i:=by omega
   subst this
   rw[if_neg h,Nat.sub_self]
   exact .inr ⟨rfl,cF ⟨.refl _,bL rfl (by decide),trivial⟩⟩
 ·subst hi
  refine ak.gz ((aC.fin hT D6 hm 60 afa (by kernel_rfl) ?_).mono fun _ _ h=>.inl h)
  simp only[aa.all,ax]
  exact⟨by omega,by omega,.refl _,.refl _,trivial⟩
def GY:Spec:=cC (kC (gD sK sK) kN) (fun a=>cq (dr a.1) sK sK) fun a=>[1≤a.1.n,a.1.n<2^30,a.1.m<2^30,a.1.a<2^30,a.1.b<2^30]
structure jd (s:Sf):Prop where
 ku:Kn s.a s.u.toNat s.ku
 kv:Kn s.b s.v.toNat s.kv
 u0:0≤s.u
 u6:s.u≤6
 v0:0≤s.v
 v6:s.v≤6
 a:s.a<2^30
 b:s.b<2^30
 n:(s.n:Int)=(s.a:Int)-s.u-1
 m:(s.m:Int)=(s.b:Int)-s.v-1
theorem aeg:∀K args pre r,GY K args pre=some r→az P xu K args pre r:=cz fun⟨s,_⟩ K hn=>Rp hn.1 hn.2.1 hn.2.2.1 hn.2.2.2.1 hn.2.2.2.2 K
end Go.Am.B

/- spline.Of, Four.Pole, curve.of, Spline.Eval, curve.sound, curve.Eval. -/
namespace Go.Am.B
open Go Go.Am.N AV aa aj IntKind
theorem N6:aO P Fk Bg (aq Bg):=aP UA (by kernel_rfl) (by kernel_rfl) (by kernel_rfl)
theorem SD:aO P oS yT (aq yT):=aP OK (by kernel_rfl) (by kernel_rfl) (by kernel_rfl)
theorem NC:aO P pW oX (aq oX):=aP Ws (by kernel_rfl) (by kernel_rfl) (by kernel_rfl)
def kX (p:Pl):Pl:=⟨⟨p.d*p.n.x,p.d*p.n.y,p.d*p.n.z⟩,p.d⟩
def gm (h:Pl):Pl:=⟨⟨h.n.x/h.d,h.n.y/h.d,h.n.z/h.d⟩,h.d⟩
abbrev Cx (f:Nat→Pl) (n s:Nat):AV:=.ag 12 n (fun i=>cU (f i) s)
abbrev hU (c:Cu) (s r:Nat):AV:=.agg [.int .i64 c.p,bM c.k c.n s,Cx c.f c.m r]
def GK:aS:=nG::lz
def Kj:aS:=nG::(rE,gT kR kR xP oD)::lz
def Jo (f:Nat→Pl) (x:Nat→Rat) (b j:Nat):Pl:=
 ⟨⟨bU j fun j=>x j*(f (b+j)).n.x,bU j fun j=>x j*(f (b+j)).n.y,bU j fun j=>x j*(f (b+j)).n.z⟩,bU j fun j=>x j*(f (b+j)).d⟩
def Aw:aS:=nG::(xY,BD)::lz
abbrev sX:List Nat:=[4,5,2,6,7,36,37,38]
abbrev BO (p i:Nat) (x:Nat→Rat) (j:Nat):List AV:=[.ptr 1 0 12 0 [],.int .i64 0,.ptr 0 0 3 0 [],.ptr 2 0 12 0 [],.int .i64 ((i:Int)-p),.ag 3 (p+1) (fun j=>.rat (x j) sV),.int .i64 ((p+1:Nat):Int),.int .i64 j]
abbrev za (c:Cu) (r:Nat):ah:=⟨false,true,3,1,fun _=>hU c sK r⟩
noncomputable abbrev qU:Code:=aq oX
def uH:AV→Pl
 |.agg [x,y,z,w]=>⟨⟨aI x,aI y,aI z⟩,aI w⟩
 |_=>⟨⟨0,0,0⟩,0⟩
def qu (f:Nat→AV) (n s:Nat):Prop:=∀i,i<n→bz (f i) (cU (uH (f i)) s)
theorem YF {v:AV} {n s:Nat} {f:Nat→AV} (h:sk v=some (n,f)) (ha:qu f n s):bz v (Cx (fun i=>uH (f i)) n s):=by
 unfold sk at h
 split at h
 ·simp only[Option.some.injEq,Prod.mk.injEq]at h
  obtain⟨rfl,rfl⟩:=h
  exact mu ha
 ·simp only[Option.some.injEq,Prod.mk.injEq]at h
  obtain⟨rfl,rfl⟩:=h
  exact iO (by omega)
 ·simp at h
theorem Oe {h:Pl} {s:Nat}:bu T Kj [] 80 yT (aq yT) ⟨aM 0 [cU h s],[],0⟩=
  let c8:Int:=(↑(3:Nat):Int);let c7:Int:=(↑(4:Nat):Int);let c5:Int:=(2:Int)^63;let c4:Prop:=s<2^42;let c2:Prop:=0<1;let c1:Int:=(0:Int)+(1:Int);let c6:Int:=c1+(1:Int);let c3:Prop:=(0:Int)≤(3:Int)∧(3:Int)<c7;some (af [c3,c2,c4,(1:Nat)<2^42,c2] (af [(0:Int)≤(0:Int)∧(0:Int)<c7,c2,c3,c2,c4,c4,(0:Int)≤(0:Int)∧(0:Int)<c8,c2] (af [-c5≤c1∧c1<c5] (af [(0:Int)≤c1∧c1<c7,c2,c3,c2,c4,c4,(0:Int)≤c1∧c1<c8,c2] (af [-c5≤c6∧c6<c5] (af [(0:Int)≤c6∧c6<c7,c2,c3,c2,c4,c4,(0:Int)≤c6∧c6<c8,c2] (af [-c5≤c6+(1:Int)∧c6+(1:Int)<c5] (af [c2,c2] (af [c2] (leaf ret [agg [agg [rat (h.n.x/h.d) (s+s),rat (h.n.y/h.d) (s+s),rat (h.n.z/h.d) (s+s)],rat (h.d+0) (s+1+1)]])))))))))):=by kernel_rfl
theorem Wc {c:Cu} {r:Nat} {t:Rat}:aG T Aw [25,34] 60 sX (before qU [1,1,1,1,0,1]) ⟨aM 0 [hU c sK r,.rat t sK],[],0⟩=
  let c16 : Nat := bG c.n (fun i ↦ aI (rat (c.k i) sK)) t; let c15 : Prop := bF c.n (fun i ↦ aI (rat (c.k i) sK)) t; let c14 : AV := ptr 8192 0 12 0 []; let c13 : AV := ptr 16384 0 12 0 []; let c12 : AV := ptr 0 0 (bh (hU c sK r)).size 0 []; let c11 : AV := rat 0 1; let c10 : Prop := 0 < 1; let c8 : Bool := bt c.n (fun i ↦ aI (rat (c.k i) sK)) t != (0 : Int); let c6 : Nat × ah := ((0 : Nat), ah.mk false true (bh (hU c sK r)).size 1 fun x ↦ agg [int i64 c.p, ag 3 c.n fun i ↦ rat (c.k i) 4096, ag 12 c.m fun i ↦ agg [rat (c.f i).n.x r, rat (c.f i).n.y r, rat (c.f i).n.z r, rat (c.f i).d r]]); let c7 : Nat := if c15 then 0 else c.p.toNat + 1; let c5 : Int := if c15 then (0 : Int) else (↑c16 : Int) - (↑c.p.toNat : Int); let c4 : AV := agg [c11, c11, c11, c11]; let c9 : ah := ah.mk false true 12 1 fun x ↦ c4; let c3 : Int := c5 + (↑c7 : Int); let c2 : aa (List AV × aA) := leaf normal ([c14, int i64 (0 : Int), c12, c13, int i64 c5, ag 3 c7 fun j ↦ rat (vB (fun i ↦ aI (rat (c.k i) sK)) c16 t c.p.toNat j) 268435456, int i64 (↑c7 : Int), int i64 (0 : Int)], [((16384 : Nat), c9), c6, ((8192 : Nat), c9)]); let c1 : aa (List AV × aA) := af [c10] (leaf ret ([c14, int i64 (7 : Int), c12, c13, int i64 c5, tuple [], tuple [], tuple []], [((16384 : Nat), c9), c6, ((8192 : Nat), ah.mk false true 12 1 fun j ↦ if (j == 0) = true then bh (agg c4.kids) else c4)])); some (af [c10, c10, c10, bB (fun i ↦ rat (c.k i) sK) c.n sK, sK ≤ sK, Kn c.n c.p.toNat fun i ↦ aI (rat (c.k i) sK), (0 : Int) ≤ c.p, c.p ≤ (6 : Int), c.n < 2 ^ 40] (fork c8 (af [c8 = true] (fork true c1 c2)) (af [c8 = false, -(2 : Int) ^ 63 ≤ c3 ∧ c3 < (2 : Int) ^ 63, c10] (fork (bif false then true else decide (c3 > (↑c.m : Int))) c1 c2)))) := by kernel_rfl
theorem abb {c:Cu} {h:Pl} {p i j s r:Nat} {x:Nat→Rat}:aG T Aw [39] 60 sX [part qU [1,1,1,1,0,1,0,0]] ⟨aB sX (BO p i x j),[(2,jy h s),(1,jy ⟨⟨0,0,0⟩,0⟩ 1),(0,za c r)],3⟩=
  let c29:Int:=(↑i:Int)-(↑p:Int);let c26:AV:=ptr 0 0 3 0 [];let c24:AV:=ptr 2 0 12 0 [];let c23:AV:=ptr 1 0 12 0 [];let c21:AV:=rat 0 1;let c20:Int:=(↑(p+1):Int);let c19:AV:=ag 3 (p+1) fun j↦rat (x j) 268435456;let c16:Int:=(↑j:Int);let c15:Bool:=0==0;let c10:Int:=(↑(4:Nat):Int);let c9:Int:=(0:Int)+(1:Int);let c8:Nat:=2^42;let c7:Prop:=0<1;let c6:Int:=(2:Int)^63;let c33:Prop:=sV+r<c8;let c32:Rat:=x c16.toNat;let c31:Int:=c16+(1:Int);let c28:Prop:=(0:Int)≤c9∧c9<c10;let c18:Prop:=(0:Int)≤(0:Int)∧(0:Int)<c10;let c4:List (Nat×ah):=[((0:Nat),ah.mk false true 3 1 fun x↦agg [int i64 c.p,ag 3 c.n fun i↦rat (c.k i) 4096,ag 12 c.m fun i↦agg [rat (c.f i).n.x r,rat (c.f i).n.y r,rat (c.f i).n.z r,rat (c.f i).d r]]),((1:Nat),ah.mk false true 12 1 fun x↦agg [c21,c21,c21,c21])];let c3:Int:=c9+(1:Int);let c2:Int:=c29+c16;let c30:Pl:=c.f c2.toNat;let c27:Prop:=(0:Int)≤c3∧c3<c10;let c25:Prop:=-c6≤c2∧c2<c6;let c17:Prop:=(0:Int)≤c2∧c2.toNat<c.m;let c12:Int:=c3+(1:Int);let c22:Prop:=(0:Int)≤c12∧c12<c10;let c11:AV:=agg ((cU h s).kids.set (Int.toNat (0:Int)) (bh (iw (h.n.x,s) (c32*c30.n.x,sV+r))));let c5:AV:=if c15=true then c11 else cU h s;let c13:AV:=agg (c5.kids.set c9.toNat (bh (iw (h.n.y,s) (c32*c30.n.y,sV+r))));let c1:AV:=if c15=true then c13 else c5;let c14:AV:=agg (c1.kids.set c3.toNat (bh (iw (h.n.z,s) (c32*c30.n.z,sV+r))));some (fork (decide (c16<c20)) (af [(0:Int)≤c16∧c16.toNat<p+1,c7] (af [c18,c7,c7,c7,c25,c17,c18,sV<c8,r<c8,s<c8,c33,c18,c7] (af [-c6≤c9∧c9<c6] (af [c28,c7,c7,c7,c25,c17,c28,sV<c8,r<c8,s<c8,c33,c28,c7] (af [-c6≤c3∧c3<c6] (af [c27,c7,c7,c7,c25,c17,c27,sV<c8,r<c8,s<c8,c33,c27,c7] (af [-c6≤c12∧c12<c6] (af [c22,c7,c7,c7,c25,c17,c22,sV<c8,r<c8,s<c8,c33,c22,c7] (af [-c6≤c12+(1:Int)∧c12+(1:Int)<c6] (af [-c6≤c31∧c31<c6] (leaf normal ([c23,int i64 (0:Int),c26,c24,int i64 c29,c19,int i64 c20,int i64 c31],((2:Nat),ah.mk false true 12 1 fun j↦if(j==0)=true then agg ((if c15=true then c14 else c1).kids.set c12.toNat (bh (iw (h.d,s) (c32*c30.d,sV+r))))else if(j==0)=true then c14 else if(j==0)=true then c13 else if(j==0)=true then c11 else cU h s)::c4)))))))))))) (leaf (exit 0) ([c23,int i64 (0:Int),c26,c24,int i64 c29,c19,int i64 c20,int i64 c16],((2:Nat),ah.mk false true 12 1 fun x↦agg [rat h.n.x s,rat h.n.y s,rat h.n.z s,rat h.d s])::c4))):=by kernel_rfl
theorem PR {c:Cu} {h:Pl} {p i j s r:Nat} {x:Nat→Rat}:bZ T Aw [] 60 oX [part qU [1,1,1,1,1]] ⟨aB sX (BO p i x j),[(2,jy h s),(1,jy ⟨⟨0,0,0⟩,0⟩ 1),(0,za c r)],3⟩=
  let c1:Prop:=0<1;some (af [c1,c1] (af [c1] (leaf ret [agg [rat h.n.x s,rat h.n.y s,rat h.n.z s,rat h.d s],int i64 (0:Int)]))):=by kernel_rfl
theorem VF:aW P GK:=cw mS
theorem aez:aW P Kj:=cw (aD (iA fun _ _ K hn=>Dr hn.1 hn.2 K) mS)
theorem F7:aW P Aw:=cw (aD Yj mS)
theorem vR {rl:List (Nat×Nat)} {l i:Nat} {f g:Nat→AV} {v z:AV} (hf:∀i,i<l→f i=g i∧keys (f i)=[]) (hk:keys v=[]) (hv:bz v (g l)) (hi:i<l+1):gh rl (if i<l then f i else nth [v] z (i-l+0)) (g i):=by
 by_cases h:i<l
 ·rw[if_pos h];exact aK (hf i h).2 (hf i h).1
 ·have:i=l:=by omega
  subst this
  rw[if_neg h,Nat.sub_self]
  exact .inr ⟨hk,hv⟩
theorem rO {rl:List (Nat×Nat)} {p:Int} {v:AV} {a b i:Nat} (hv:keys v=[]) (ht:v.isTuple=false) (h:aT rl b=some a):gh rl (.agg [.int .i64 p,v,.own a 12 0 i]) (.agg [.int .i64 p,v,.own b 12 0 i]):=
 lT ⟨⟨rfl,aH rfl⟩,⟨ht,aH hv⟩,⟨rfl,bR h rfl rfl⟩,trivial⟩
theorem zF {h h':Pl} {s s':Nat} (e:h=h') (hs:s≤s'):bz (cU h s) (cU h' s'):=e▸cF ⟨bL rfl hs,bL rfl hs,bL rfl hs,bL rfl hs,trivial⟩
theorem IQ {h:Pl} {s w:Nat} (hs:s<2^40) (h1:s+s≤w) (h2:s+2≤w) (K:Nat):az P oS K [cU h s] [] (aF (bN (gm h) w) []):=by
 refine bC (r:=aF (bN (gm h) w) []) hT aez hm SD rfl (of_decide_eq_true (by kernel_rfl)) rfl 80 Oe (fun _=>?_) K []
 simp only[aa.all,ax]
 (repeat' with_reducible refine And.intro ?_ ?_)
 all_goals first|omega|skip
 exact cF ⟨cF ⟨bL rfl h1,bL rfl h1,bL rfl h1,trivial⟩,bL (Rat.add_zero _) (by omega),trivial⟩
theorem adE {c:Cu} {r:Nat}:iU T oX .ret ⟨aB [4,5,2,6] [.ptr 8192 0 12 0 [],.int .i64 7,.ptr 0 0 3 0 [],.ptr 16384 0 12 0 []],[(16384,⟨false,true,12,1,fun _=>.agg [.rat 0 1,.rat 0 1,.rat 0 1,.rat 0 1]⟩),(0,za c r),(8192,⟨false,true,12,1,fun j=>if(j==0)=true then bh (.agg (AV.kids (.agg [.rat 0 1,.rat 0 1,.rat 0 1,.rat 0 1])))else .agg [.rat 0 1,.rat 0 1,.rat 0 1,.rat 0 1]⟩)],16385⟩=
  let c1:AV:=rat 0 1;some (af [(0:Nat)<1] (leaf ret [agg [c1,c1,c1,c1],int i64 (7:Int)])):=by kernel_rfl
def cV (c:Cu) (t:Rat):Pl:=if bF c.n c.k t then⟨⟨0,0,0⟩,0⟩else Jo c.f (vB c.k (bG c.n c.k t) t c.p.toNat) (bG c.n c.k t-c.p.toNat) (c.p.toNat+1)
theorem Kb {c:Cu} {t:Rat} {r s:Nat} (hr:1+7*(sV+r+1)≤s) (hs:s<2^40) (hk:Kn c.n c.p.toNat c.k) (h0:0≤c.p) (h6:c.p≤6) (hn:c.n<2^40) (hm2:(c.m:Int)=(c.n:Int)-c.p-1) (K:Nat):az P pW K [hU c sK r,.rat t sK] [] (aF (.tuple [cU (cV c t) s,.int .i64 (bt c.n c.k t)]) []):=by
 refine eB (r:=aF (.tuple [cU (cV c t) s,.int .i64 (bt c.n c.k t)]) []) hT NC rfl (of_decide_eq_true (by kernel_rfl)) rfl (fun _ cx h00=>?_) K []
 have hkp:=iT h00
 obtain⟨q,hq⟩:∃q,q=c.p.toNat:=⟨_,rfl⟩
 have hq2:c.p=(q:Int):=by omega
 obtain⟨i,hi⟩:∃i,i=bG c.n c.k t:=⟨_,rfl⟩
 obtain⟨x,hx⟩:∃x,x=vB c.k i t q:=⟨_,rfl⟩
 have h1:sK=4096:=rfl
 have h2:sV=268435456:=rfl
 have z0:1+0*(sV+r+1)=1:=by omega
 have zle:∀j,j≤7→1+j*(sV+r+1)≤s:=fun j hj=>by
  have:=Nat.mul_le_mul_right (sV+r+1) hj
  omega
 refine ak.jv hT F7 hm (x:=qU) [1,1,1,1,0,1] (i:=0) (y:=part qU [1,1,1,1,0,1,0,0]) (z:=part qU [1,1,1,1,1]) (by kernel_rfl) (by kernel_rfl) (by kernel_rfl) NC.dst hkp (f1:=[25,34]) (f2:=[39]) 60 sX 3 (fun j:Nat=>BO q i x j) (fun j=>[(2,jy (Jo c.f x (i-q) j) (1+j*(sV+r+1))),(1,jy ⟨⟨0,0,0⟩,0⟩ 1),(0,za c r)])
  (fun j=>j≤q+1∧¬bF c.n c.k t) (fun j=>j=q+1∧¬bF c.n c.k t) (fun j=>q+1-j) (sR T oX [4,5,2,6] (.tuple [cU (cV c t) s,.int .i64 (bt c.n c.k t)])) ⟨_,Wc,?_⟩ (fun j ⟨hj,hin⟩=>⟨_,abb,?_⟩) (fun j ⟨hj,hin⟩=>?_) (fun v s' hv hs'=>hv.fin (L1:=[7,36,37,38]) hkp hs')
 ·simp only[aa.all,ax,kD,bne_iff_ne,ne_eq,bne_eq_false_iff_eq]
  have hko:bF c.n (fun i=>c.k i) t=bF c.n c.k t:=rfl
  have hkE:bt c.n (fun i=>c.k i) t=bt c.n c.k t:=rfl
  have hkI:bG c.n (fun i=>c.k i) t=bG c.n c.k t:=rfl
  simp only[hko,hkE,hkI]
  refine⟨⟨by omega,by omega,by omega,cm (Nat.le_refl _),Nat.le_refl _,hk,h0,h6,hn⟩,fun hout=>⟨hout,fun _=>⟨by omega,?_⟩,fun h=>absurd h (by decide)⟩,fun he=>?_⟩
  ·have ho:=qi hout
   refine⟨[_,_,_,_],_,16385,_,rfl,rfl,rfl,adE,rfl,⟨⟨by omega,fun i _=>rfl⟩,⟨by omega,fun i _=>rfl⟩,⟨by omega,fun i _=>zQ rfl rfl⟩,trivial⟩,Nat.zero_lt_one,?_⟩
   exact⟨zF (h:=⟨⟨0,0,0⟩,0⟩) (by unfold cV;rw[if_pos ho]) (by omega),br (by unfold bt;rw[if_pos ho]),trivial⟩
  ·have hin:=pU he
   have hiv:=hk.mY hin
   simp only[if_neg hin]
   refine⟨⟨he,by omega,by omega⟩,fun h=>?_,fun _=>⟨0,⟨Nat.zero_le _,hin⟩,[(0,0),(1,8192),(2,16384)],rfl,?_,rfl,aN rfl rfl (aK rfl (by rw[z0];rfl)) (aN rfl rfl (aK rfl rfl) (aN rfl rfl (aK rfl rfl) trivial))⟩⟩
   ·exfalso
    rw[cond_false,decide_eq_true_eq]at h
    omega
   ·show _=(BO q i x 0).map _
    rw[hx,hq,hi];rfl
 ·have hiv:=hk.mY hin
  rw[←hi,←hq]at hiv
  simp only[aa.all,ax,decide_eq_true_eq,decide_eq_false_iff_not,show((i:Int)-q+j).toNat=i-q+j by omega,Int.toNat_natCast]
  refine⟨fun h=>?_,fun h=>⟨rfl,j,⟨by omega,hin⟩,[(0,0),(1,1),(2,2)],rfl,rfl,rfl,aN rfl rfl (aK rfl rfl) (aN rfl rfl (aK rfl rfl) (aN rfl rfl (aK rfl rfl) trivial))⟩⟩
  have hz:=zle j (by omega)
  have hzS:1+(j+1)*(sV+r+1)=1+j*(sV+r+1)+(sV+r+1):=by rw[Nat.add_mul,Nat.one_mul];omega
  have hz2:=zle (j+1) (by omega)
  generalize 1+j*(sV+r+1)=zj at*
  (repeat' with_reducible refine And.intro ?_ ?_)
  all_goals first|omega|skip
  exact⟨j+1,⟨by omega,hin⟩,by dsimp only;omega,[(0,0),(1,1),(2,2)],rfl,rfl,rfl,aN rfl rfl (.inr ⟨rfl,cF ⟨bL rfl (by omega),bL rfl (by omega),bL rfl (by omega),bL rfl (by omega),trivial⟩⟩) (aN rfl rfl (aK rfl rfl) (aN rfl rfl (aK rfl rfl) trivial))⟩
 ·subst hj
  refine ak.gz ((aC.fin hT F7 hm 60 PR (by kernel_rfl) ?_).mono fun _ _ h=>.inl h)
  simp only[aa.all,ax]
  have hz:=zle (q+1) (by omega)
  refine⟨by omega,by omega,?_,br (by unfold bt;rw[if_neg hin]),trivial⟩
  exact zF (by unfold cV;rw[if_neg hin,←hi,←hq,←hx]) hz
def Gk (s r:Nat):Kind Cu:=⟨fun v=>match v with
 |.agg [p,k,f]=>match kI.read p,(kL s).read k,sk f with
  |some (p,q1),some ((n,k),q2),some (m,f)=>some (⟨p,n,k,m,fun i=>uH (f i)⟩,q1++(q2++[qu f m r]))
  |_,_,_=>none
 |_=>none,fun a=>hU a s r,fun {v a q} h hq=>by
  split at h
  ·split at h
   ·rename_i h1 h2 h3
    simp only[Option.some.injEq,Prod.mk.injEq]at h
    obtain⟨rfl,rfl⟩:=h
    obtain⟨q1,hq⟩:=dw.1 hq
    obtain⟨q2,q3⟩:=dw.1 hq
    exact cF ⟨kI.ok h1 q1,(kL s).ok h2 q2,YF h3 q3,trivial⟩
   ·simp at h
  ·simp at h⟩
def Ih:Spec:=cC (kC (Gk sK (sJ+sJ)) (kC (fy sK) kN)) (fun a=>.tuple [cU (cV a.1 a.2.1) sH,.int .i64 (bt a.1.n a.1.k a.2.1)]) fun a=>[Kn a.1.n a.1.p.toNat a.1.k,0≤a.1.p,a.1.p≤6,a.1.n<2^40,(a.1.m:Int)=(a.1.n:Int)-a.1.p-1]
def G6:Spec:=cC (kC (zT sH) kN) (fun a=>bN (gm a.1) sE) fun _=>[]
theorem Sb:∀K args pre r,Ih K args pre=some r→az P pW K args pre r:=cz fun⟨c,t,_⟩ K hn=>Kb (by decide) (by decide) hn.1 hn.2.1 hn.2.2.1 hn.2.2.2.1 hn.2.2.2.2 K
theorem U3:∀K args pre r,G6 K args pre=some r→az P oS K args pre r:=cz fun⟨h,_⟩ K _=>IQ (by decide) (by decide) (by decide) K
theorem div_one {a b:Rat}:a/b=((1:Int):Rat)/b*a:=by
 rw[Rat.div_def,Rat.div_def,show((1:Int):Rat)=1 from rfl,Rat.one_mul,Rat.mul_comm]
theorem HW {h:Pl}:(gm h).n=mQ h:=by
 show V3.mk (h.n.x/h.d) (h.n.y/h.d) (h.n.z/h.d)=V3.mk _ _ _
 rw[div_one (a:=h.n.x),div_one (a:=h.n.y),div_one (a:=h.n.z)]
end Go.Am.B
