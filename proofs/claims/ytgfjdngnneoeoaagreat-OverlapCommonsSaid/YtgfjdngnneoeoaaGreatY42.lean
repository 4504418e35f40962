/- Plain laws of gh: how the different ones are moved to the front; which lists are sorted. -/
import Derived.Test.YtgfjdngnneoeoaaGreatY41
import Derived.Test.YtgfjdngnneoeoaaGreatZ2
import Derived.Test.YtgfjdngnneoeoaaGreatB33
set_option linter.unusedVariables false
noncomputable section
namespace Go.Am.B
def ja (k:Nat->Rat) (l i:Nat):Rat:=if i<bL k l then b9 k l i else k i
theorem D6 {k:Nat->Rat}:∀{b:Nat},(∀i,i<b->gn k i)->bL k b=b/\∀i,i<b->b9 k b i=k i
 |0,_=>⟨rfl,fun i hi=>by omega⟩
 |b+1,h=>by
  obtain⟨h1,h2⟩:=D6 (k:=k) (b:=b) fun i hi=>h i (by omega)
  rw[bL,b9,if_pos (h b (by omega)),if_pos (h b (by omega)),h1]
  refine⟨rfl,fun i hi=>?_⟩
  unfold oo
  split
  ·rename_i e;rw[e]
  ·exact h2 i (by omega)
theorem Od {k:Nat->Rat} {b:Nat} (h:∀i,i<b->gn k i) (hb:¬gn k b):bL k (b+1)=b/\∀i,ja k (b+1) i=k i:=by
 obtain⟨h1,h2⟩:=D6 h
 have e:bL k (b+1)=b:=by rw[bL,if_neg hb,h1];rfl
 refine⟨e,fun i=>?_⟩
 unfold ja
 rw[e,b9,if_neg hb]
 split
 ·exact h2 i ‹_›
 ·rfl
theorem Jc {k:Nat->Rat} {n:Nat} (h:∀i,i<n->gn k i):bL k n=n/\∀i,i<n->b9 k n i=k i:=D6 h
theorem We {k:Nat->Rat} {l i:Nat} (h:gn k l) (hl:bL k l<=l):ja k (l+1) i=if i=bL k l then k l else ja k l i:=by
 unfold ja
 rw[bL,b9,if_pos h,if_pos h]
 unfold oo
 by_cases h1:i=bL k l
 ·subst h1
  rw[if_pos (by omega),if_pos rfl,if_pos rfl]
 ·rw[if_neg h1]
  by_cases h2:i<bL k l
  ·rw[if_pos (by omega),if_pos h2,if_neg h1]
  ·rw[if_neg (by omega),if_neg h2,if_neg h1]
theorem ahe {k:Nat->Rat} {l i:Nat} (h:¬gn k l):bL k (l+1)=bL k l/\ja k (l+1) i=ja k l i:=by
 unfold ja
 rw[bL,b9,if_neg h,if_neg h]
 exact⟨rfl,rfl⟩
theorem Wi {k:Nat->Rat} {l:Nat} (h:gn k l):bL k (l+1)=bL k l+1:=by rw[bL,if_pos h]
theorem KX {k:Nat->Rat} {l:Nat} (h:¬gn k l):bL k (l+1)=bL k l:=by rw[bL,if_neg h];rfl
theorem LL {k:Nat->Rat} {l i:Nat} (h:bL k l<=i):ja k l i=k i:=by unfold ja;rw[if_neg (by omega)]
theorem K0 {k:Nat->Rat} {b:Nat} (hb:¬gn k b):∀{l:Nat},b<l->bL k l<l
 |0,h=>by omega
 |l+1,h=>by
  by_cases he:l=b
  ·subst he;rw[KX hb];have:=pP (k:=k) (n:=l);omega
  ·have:=K0 hb (l:=l) (by omega)
   have h2:=pP (k:=k) (n:=l)
   rw[bL];split<;>omega
open Classical in
theorem aaN {n:Nat} {k:Nat->Rat} {p:Int} (h:p<1\/6<p):iH n k p=1:=if_pos h
theorem UA {n:Nat} {k:Nat->Rat} {p:Int} (h:¬(p<1\/6<p)) (h2:(n:Int)<2*p+2):iH n k p=5:=by unfold iH;rw[if_neg h,if_pos h2]
theorem adR {n:Nat} {k:Nat->Rat} {p:Int} (h:¬(p<1\/6<p)) (h2:¬(n:Int)<2*p+2) (h3:40<(n:Int)-p-1):iH n k p=2:=by unfold iH;rw[if_neg h,if_neg h2,if_pos h3]
theorem agp {n:Nat} {k:Nat->Rat} {p:Int} (h:¬(p<1\/6<p)) (h2:¬(n:Int)<2*p+2) (h3:¬40<(n:Int)-p-1) (h4:qG n k p.toNat):iH n k p=0:=by unfold iH;rw[if_neg h,if_neg h2,if_neg h3,if_pos h4]
theorem Bf {n:Nat} {k:Nat->Rat} {p:Int} (h:¬(p<1\/6<p)) (h2:¬(n:Int)<2*p+2) (h3:¬40<(n:Int)-p-1) (h4:¬qG n k p.toNat):iH n k p=5:=by unfold iH;rw[if_neg h,if_neg h2,if_neg h3,if_neg h4]
open Go Go.Am.N AV ag ak IntKind Proofs.Tryz
theorem Zg:aW 113 f113:=aN func113
theorem DU:aW 152 f152:=aN func152
abbrev wM:List Nat:=[3,5,8,9,10]
abbrev vC (n:Nat) (k:Nat->Rat) (c i:Nat):List AV:=[.ptr 0 0 3 0 [],.int .i64 c,ls k n,.int .i64 n,.int .i64 i]
abbrev vl:Code:=aF f113
abbrev sJ:Nat:=4000
abbrev gy (m:Nat) (k:Nat->Rat):az:=⟨true,true,3,m,fun i=>.rat (k i) sK⟩
abbrev uM:List Nat:=[3,9,10,11]
abbrev Dd (n:Nat) (k:Nat->Rat) (i:Nat):List AV:=[.own 0 3 0 i,bp k n sJ,.int .i64 n,.int .i64 i]
abbrev mV:Code:=aF f152
theorem WL {n:Nat} {k:Nat->Rat} {t:Rat}:aM T hH [] 60 wM (before vl [1,1,0,1]) ⟨aT 0 [ls k n,.rat t sK],[],0⟩=
  some (leaf normal ([ptr 0 0 (bK (rat t sK)).size 0 [],int i64 0,aq 3 n fun i=>rat (k i) 4096,int i64 (↑n:Int),int i64 0],[(0,az.mk false true (bK (rat t sK)).size 1 fun x=>rat t 4096)])):=ah
theorem Vy {n c i:Nat} {k:Nat->Rat} {t:Rat}:aM T hH [11,16] 60 wM [part vl [1,1,0,1,0,0]] ⟨aH wM (vC n k c i),[(0,tP t sK)],1⟩=
  let c10:Int:=(↑n:Int);let c9:Prop:=0<1;let c8:Int:=(↑c:Int)+1;let c7:AV:=aq 3 n fun i=>rat (k i) 4096;let c5:Int:=(↑i:Int);let c4:AV:=ptr 0 0 3 0 [];let c2:Int:=(2:Int)^63;let c1:Nat×az:=((0:Nat),bN fun x=>rat t 4096);let c6:Int:=c5+1;let c3:List AV:=[c7,int i64 c10,int i64 c6];some (fork (decide (c5<c10)) (aj [(0:Int)<=c5/\c5.toNat<n,c9] (aj [c9,c9] (fork (decide (k c5.toNat=t)) (aj [-c2<=c8/\c8<c2] (aj [-c2<=c6/\c6<c2] (leaf normal (c4::int i64 c8::c3,[c1])))) (aj [-c2<=c6/\c6<c2] (leaf normal (c4::int i64 (↑c:Int)::c3,[c1])))))) (leaf (exit 0) ([c4,int i64 (↑c:Int),c7,int i64 c10,int i64 c5],[c1]))):=ah
theorem aeN {n c i:Nat} {k:Nat->Rat} {t:Rat}:cR T hH [] 60 f113 [part vl [1,1,1]] ⟨aH wM (vC n k c i),[(0,tP t sK)],1⟩=
  some (leaf ret [int i64 (↑c:Int)]):=ah
theorem aei {n:Nat} {k:Nat->Rat}:aM T hH [] 60 uM (before mV [1,1,0,1]) ⟨aT 0 [bp k n sJ],[],0⟩=
  let c1:Int:=(↑n:Int);some (aj [(0:Int)<=0/\(0:Int)<=c1/\c1<=2^47/\c1*(↑(56:Nat):Int)<=2^47] (leaf normal ([own 12288 3 0 0,aq 3 n fun i=>rat (k i) 4000,int i64 c1,int i64 0],[(12288,az.mk true true 3 0 fun x=>rat 0 1)]))):=ah
theorem OR {n i:Nat} {k:Nat->Rat}:aM T hH [12] 60 uM [part mV [1,1,0,1,0,0]] ⟨aH uM (Dd n k i),[(0,gy i k)],1⟩=
  let c4:Int:=(↑n:Int);let c2:AV:=aq 3 n fun i=>rat (k i) 4000;let c1:Int:=(↑i:Int);let c3:Int:=c1+1;some (fork (decide (c1<c4)) (aj [(0:Int)<=c1/\c1.toNat<n,(0:Nat)<1] (aj [(0:Nat)<1,(1:Nat)*3<=2^24,(i+1)*((56:Nat)+1)*2<=2^47] (aj [-(2:Int)^63<=c3/\c3<2^63] (leaf normal ([own 40961 3 0 (i+1),c2,int i64 c4,int i64 c3],[(40961,az.mk true true 3 (i+1) fun i_1=>if i_1<i then rat (k i_1) sK else nth [rat (k c1.toNat+0) (sJ+1+1)] (rat 0 1) (i_1-i+0))]))))) (leaf (exit 0) ([own 0 3 0 i,c2,int i64 c4,int i64 c1],[(0,az.mk true true 3 i fun i=>rat (k i) 4096)]))):=ah
theorem Tx {n i:Nat} {k:Nat->Rat}:aM T hH [] 60 [2] [part mV [1,1,1]] ⟨aH uM (Dd n k i),[(0,gy i k)],1⟩=
  some (leaf ret ([own 0 3 0 i],[(0,az.mk true true 3 i fun i=>rat (k i) 4096)])):=ah
theorem afa {k:Nat->Rat} {t:Rat} {i:Nat} (h:k i=t):bS k t (i+1)=bS k t i+1:=by rw[bS,if_pos h]
theorem aeU {k:Nat->Rat} {t:Rat} {i:Nat} (h:¬k i=t):bS k t (i+1)=bS k t i:=by rw[bS,if_neg h];rfl
theorem ab3 {n:Nat} {k:Nat->Rat} {t:Rat} (hn:n<2^40) (K:Nat):aO P 113 K [ls k n,.rat t sK] [] (aI (.int .i64 (bS k t n)) []):=by
 refine iJ (r:=aI (.int .i64 (bS k t n)) []) hT lS hm Zg rfl aV rfl [1,1,0,1] (i:=0) (y:=part vl [1,1,0,1,0,0]) (z:=part vl [1,1,1]) ah ah ah (f1:=[]) (f2:=[11,16]) (f3:=[]) 60 wM 1
  (fun i:Nat=>vC n k (bS k t i) i) (fun _=>[(0,tP t sK)]) (fun i=>i<=n) (fun i=>i=n) (fun i=>n-i) (fun _=>⟨⟨_,WL,?_⟩,fun i hi=>⟨_,Vy,?_⟩,fun i hi=>⟨_,aeN,?_⟩⟩) K []
 ·simp only[ag.all,au]
  exact⟨0,Nat.zero_le _,[(0,0)],rfl,rfl,rfl,bf trivial⟩
 ·have h1:=LZ (k:=k) (t:=t) (n:=i)
  simp only[ag.all,au,bz,bF,bw,Nat.add_zero]
  refine⟨fun h2=>⟨aa,aa,fun h3=>⟨aa,aa,i+1,aa,by dsimp only;omega,[(0,0)],rfl,?_,rfl,bf trivial⟩,fun h3=>⟨aa,i+1,aa,by dsimp only;omega,[(0,0)],rfl,?_,rfl,bf trivial⟩⟩,fun h2=>⟨rfl,i,aa,[(0,0)],rfl,rfl,rfl,bf trivial⟩⟩
  ·show _=(vC n k (bS k t (i+1)) (i+1)).map _
   rw[afa h3];rfl
  ·show _=(vC n k (bS k t (i+1)) (i+1)).map _
   rw[aeU h3];rfl
 ·subst hi
  simp only[ag.all,au]
  exact .refl _
abbrev afZ:pU ((Nat×(Nat->Rat))×Rat×Unit):=kC (kL sK) (kC (eI sK) kN)
def xz:Spec:=cP afZ (fun a=>.int .i64 (bS a.1.2 a.2.1 a.1.1)) fun a=>[a.1.1<2^40]
theorem C6:aY P xz 113:=cC fun⟨⟨n,k⟩,t,_⟩ K hn=>ab3 hn K
theorem af0 {args:List AV} {n:Nat} {k:Nat->Rat} {l:List Prop} (ha:au l->fT (bB []) args [bp k n sJ]) (hn:au l->n<2^40) (K:Nat):aO P 152 K args [] ⟨js [.own K 3 0 n],[(K,gy n k)],l⟩:=by
 refine Bt hT DU ha aV fun need c hk=>?_
 have hn:=hn need
 refine ay.wv hT lS hm [1,1,0,1] (i:=0) (y:=part mV [1,1,0,1,0,0]) (z:=part mV [1,1,1]) ah ah ah DU.dst hk (f1:=[]) (f2:=[12]) 60 uM 1 (fun i:Nat=>Dd n k i) (fun i=>[(0,gy i k)])
  (fun i=>i<=n) (fun i=>i=n) (fun i=>n-i) (fun _=>False) ⟨_,aei,?_⟩ (fun i hi=>⟨_,OR,?_⟩) (fun i hi=>?_) (fun _ _ h=>h.elim)
 ·simp only[ag.all,au]
  exact⟨aa,0,Nat.zero_le _,[(0,12288)],rfl,rfl,rfl,cI rfl rfl rfl (fun i hi=>absurd hi (Nat.not_lt_zero i)) trivial⟩
 ·simp only[ag.all,au,bz,bF,bw,Nat.add_zero]
  exact⟨fun h2=>⟨aa,aa,aa,i+1,aa,by dsimp only;omega,[(0,40961)],rfl,rfl,rfl,cI rfl rfl rfl (fun j hj=>oz (fun _ _=>rfl) (Rat.add_zero _) bq (by decide) hj) trivial⟩,fun h2=>⟨rfl,i,aa,[(0,0)],rfl,rfl,rfl,cI rfl rfl rfl (fun j hj=>eH rfl rfl) trivial⟩⟩
 ·subst hi
  refine ay.bE hT lS hm 60 [2] Tx ah fun s' hs'=>⟨.inr rfl,[2],_,[.own 0 3 0 i],_,0,_,hs',ah,⟨⟨rfl,dw (by simp[bB,look]) rfl rfl⟩,trivial⟩,rfl,iX rfl fun i hi=>gu rfl⟩
def Gw:Spec:=nM fun K l=>match l with
 |[v]=>match(kL sJ).read v with
  |some ((n,k),q)=>some ⟨.own K 3 0 n,[(K,gy n k)],q++[n<2^40]⟩
  |none=>none
 |_=>none
theorem ac9:aY P Gw 152:=by
 refine qS fun K args r hk hs=>?_
 split at hs
 ·rename_i v
  split at hs
  ·rename_i n k q hv
   simp only[ax]at hs
   subst hs
   exact af0 (fun hn=>ru hk (by cases v<;>first|rfl|simp[kL,Ai]at hv) ⟨(kL sJ).ok hv (dP.1 hn).1,trivial⟩) (fun hn=>(dP (a:=q) (b:=[n<2^40]).1 hn).2) K
  ·simp at hs
 ·simp at hs
theorem GY:aW 151 f151:=aN func151
theorem adl:aW 112 f112:=aN func112
abbrev ry:Func:=f151
abbrev ua:Code:=aF ry
abbrev rP:Code:=part ua [1,1,0,1,0,0]
abbrev tr:Code:=part rP [1,0,0]
abbrev o4:Code:=part tr [1,0]
abbrev jR:List Nat:=[4,0,1,5]
abbrev wF (n i:Nat):List AV:=[.nil,.own 0 3 0 n,.func 35 [],.int .i64 i]
abbrev zT:List Nat:=[4,0,1,5,28]
abbrev Ch (n i:Nat) (b:Bool):List AV:=[.nil,.own 0 3 0 n,.func 35 [],.int .i64 i,.bool b]
abbrev uG:List Nat:=[4,0,1,5,6,7]
abbrev sU (n m b j:Nat):List AV:=[.nil,.own 0 3 0 n,.func 35 [],.int .i64 m,.own 0 3 b (n-b),.int .i64 j]
theorem WA {n:Nat} {k:Nat->Rat}:aM T hH [10] 60 jR (before ua [1,1,0,1]) ⟨aT 0 [.own 0 3 0 n,.func 35 []],[(0,gy n k)],1⟩=
  let c2:Nat×az:=(0,az.mk true true 3 n fun i=>rat (k i) 4096);let c1:AV:=own 0 3 0 n;some (fork (decide ((↑n:Int)<2)) (leaf ret ([c1,c1,func 35 [],tuple []],[c2])) (leaf normal ([nil,c1,func 35 [],int i64 1],[c2]))):=ah
theorem abA {n i:Nat} {k:Nat->Rat}:aM T hH [15] 60 jR (before rP [1,0]) ⟨aH jR (wF n i),[(0,gy n k)],1⟩=
  let c1:List AV×aD:=([nil,own 0 3 0 n,func 35 [],int i64 (↑i:Int)],[(0,az.mk true true 3 n fun i=>rat (k i) 4096)]);some (fork (decide ((↑i:Int)<(↑n:Int))) (leaf normal c1) (leaf (exit 0) c1)):=ah
theorem ag3 {n i:Nat} {k:Nat->Rat}:aM T hH [] 60 zT (before tr [1]) ⟨aH jR (wF n i),[(0,gy n k)],1⟩=
  let c4:Int:=(↑i:Int);let c2:Nat:=c4.toNat+0;let c1:Int:=c4-1;let c3:Nat:=c1.toNat+0;some (aj [(0:Int)<=c4/\c4.toNat<n,c2<n,-(2:Int)^63<=c1/\c1<2^63,(0:Int)<=c1/\c1.toNat<n,c3<n] (leaf normal ([nil,own 0 3 0 n,func 35 [],int i64 c4,AV.bool (decide (k c2=k c3))],[(0,az.mk true true 3 n fun i=>rat (k i) 4096)]))):=ah
theorem afp {n i:Nat} {b:Bool} {k:Nat->Rat}:aM T hH [] 60 uG (before o4 [1,0,1]) ⟨aH zT (Ch n i b),[(0,gy n k)],1⟩=
  let c2:Int:=(↑i:Int);let c1:Int:=(↑n:Int);some (aj [(0:Int)<=c2/\c2<=c1/\c1<=c1/\c1<=c1] (leaf normal ([nil,own 0 3 0 n,func 35 [],int i64 c2,own 0 3 ((0:Nat)+c2.toNat) (c1.toNat-c2.toNat),int i64 1],[(0,az.mk true true 3 n fun i=>rat (k i) 4096)]))):=ah
theorem T5 {n m b j:Nat} {k:Nat->Rat}:aM T hH [35,49] 60 uG [part o4 [1,0,1,0,0]] ⟨aH uG (sU n m b j),[(0,gy n k)],1⟩=
  let c11:AV:=func 35 [];let c7:AV:=own 0 3 b (n-b);let c6:Nat×az:=(0,az.mk true true 3 n fun i=>rat (k i) 4096);let c5:Int:=(↑m:Int);let c4:AV:=own 0 3 0 n;let c2:Int:=(2:Int)^63;let c1:Int:=(↑j:Int);let c13:Int:=c5+1;let c12:Prop:=(0:Int)<=c1/\c1.toNat<n-b;let c10:Nat:=c5.toNat+0;let c9:Nat:=c1.toNat+b;let c8:Int:=c1+1;let c3:Int:=c1-1;some (fork (decide (c1<(↑(n-b):Int))) (aj [c12,c9<n,-c2<=c3/\c3<c2,(0:Int)<=c3/\c3.toNat<n-b,c3.toNat+b<n] (fork (!decide (k c9=k (c3.toNat+b))) (aj [c12,c9<n,(0:Int)<=c5/\c5.toNat<n,c10<n] (aj [-c2<=c13/\c13<c2] (aj [-c2<=c8/\c8<c2] (leaf normal ([nil,c4,c11,int i64 c13,c7,int i64 c8],[(0,az.mk true true 3 n fun j=>rat (bif j==c10 then k c9 else k j) (bif j==c10 then sK else sK))]))))) (aj [-c2<=c8/\c8<c2] (leaf normal ([nil,c4,c11,int i64 c5,c7,int i64 c8],[c6]))))) (leaf (exit 2) ([nil,c4,c11,int i64 c5,c7,int i64 c1],[c6]))):=ah
theorem Pa {n m b j:Nat} {k:Nat->Rat}:aM T hH [] 60 jR [part o4 [1,1]] ⟨aH uG (sU n m b j),[(0,gy n k)],1⟩=
  let c4:Int:=(↑n:Int);let c2:Int:=(↑m:Int);let c3:Nat:=0+c2.toNat;let c1:Nat:=c3+(c4.toNat-c2.toNat);some (aj [(0:Int)<=c2/\c2<=c4/\c4<=c4/\c4<=c4] (aj [(0:Int)<=0/\(0:Int)<=c2/\c2<=c2/\c2<=c4] (leaf ret ([own 0 3 0 (c2.toNat-Int.toNat (0:Int)),own 0 3 0 n,func 35 [],int i64 c2],[(0,az.mk true true 3 n fun i=>if c3<=i/\i<c1 then rat 0 1 else rat (k i) sK)])))):=ah
theorem W8 {n i:Nat} {b:Bool} {k:Nat->Rat}:aM T hH [] 60 jR [part tr [1,1],part rP [1,1]] ⟨aH zT (Ch n i b),[(0,gy n k)],1⟩=
  let c1:Int:=(↑i:Int)+1;some (aj [-(2:Int)^63<=c1/\c1<2^63] (leaf normal ([nil,own 0 3 0 n,func 35 [],int i64 c1],[(0,az.mk true true 3 n fun i=>rat (k i) 4096)]))):=ah
theorem Wy {n i:Nat} {k:Nat->Rat}:aM T hH [] 60 jR [part ua [1,1,1]] ⟨aH jR (wF n i),[(0,gy n k)],1⟩=
  let c1:AV:=own 0 3 0 n;some (leaf ret ([c1,c1,func 35 [],int i64 (↑i:Int)],[(0,az.mk true true 3 n fun i=>rat (k i) 4096)])):=ah
def kU (k:Nat->Rat) (n i:Nat):Rat:=if i<bL k n then b9 k n i else 0
theorem Yy {k:Nat->Rat} {n:Nat} (h:∀j,j<n->gn k j) {i:Nat} (hi:i<n):bL k n=n/\kU k n i=k i:=by
 obtain⟨h1,h2⟩:=Jc h
 unfold kU
 rw[h1,if_pos hi]
 exact⟨rfl,h2 i hi⟩
theorem aaX {kk n:Nat} {k:Nat->Rat} (hn:n<2^40) (c:Ctx) (hk:Kept [0] c):ay P c ry.ntmps ua ⟨aT 0 [.own 0 3 0 n,.func 35 []],[(0,gy n k)],1⟩ (A8 ry kk [.own kk 3 0 (bL k n)] (gy n (kU k n))):=by
 have hall:∀{L:List Nat} {us:List AV},(∀j,j<n->gn k j)->k9 (aH L us) ry.results.toList=some [.own 0 3 0 n]->xY ry kk [.own kk 3 0 (bL k n)] (gy n (kU k n)) L (us,[(0,gy n k)]):=fun h1 h2=>
  ⟨_,_,h2,⟨⟨rfl,dw (by simp[bB,look]) rfl (Jc h1).1.symm⟩,trivial⟩,DN,rfl,rfl,rfl,rfl,fun i hi=>by
   show gM _ (.rat (k i) sK) (.rat (kU k n i) sK)
   rw[(Yy h1 hi).2];exact gu rfl⟩
 refine ay.B0 hT lS hm [1,1,0,1] (i:=0) (y:=rP) (z:=part ua [1,1,1]) ah ah ah GY.dst hk (f1:=[10]) 60 jR 1 (fun i:Nat=>wF n i) (fun _=>[(0,gy n k)]) (fun i=>1<=i/\i<=n/\∀j,j<i->gn k j) (fun i=>i=n/\∀j,j<n->gn k j) (fun i=>n-i)
  (xY ry kk [.own kk 3 0 (bL k n)] (gy n (kU k n)) jR) ⟨_,WA,?_⟩ (fun i ⟨h1,h2,h3⟩=>?_) (fun i ⟨h1,h2⟩=>?_) (fun v s' hv hs'=>hv.fin hs')
 ·simp only[ag.all,au,bz,bF]
  exact⟨fun h=>hall (fun j hj=>.inl aa) ah,fun h=>⟨1,⟨aa,aa,fun j hj=>.inl aa⟩,[(0,0)],rfl,rfl,rfl,cI rfl rfl rfl (fun x hx=>eH rfl rfl) trivial⟩⟩
 ·refine ay.vr hT lS hm (y:=rP) (x1:=tr) (zb:=part rP [1,1]) [1,0] (j:=1) ah ah ah ah hk (f1:=[15]) 60 jR 1 (fun _:Unit=>wF n i) (fun _=>[(0,gy n k)]) (fun _=>i<n) ⟨_,abA,?_⟩ (fun _ hlt=>?_)
  ·simp only[ag.all,au,bz,bF]
   exact⟨fun h=>⟨(),aa,[(0,0)],rfl,rfl,rfl,cI rfl rfl rfl (fun x hx=>eH rfl rfl) trivial⟩,fun h s' hs'=>⟨rfl,i,⟨aa,fun j hj=>h3 j aa⟩,fm.le ⟨[(0,0)],rfl,rfl,rfl,cI rfl rfl rfl (fun x hx=>eH rfl rfl) trivial⟩ hs' hk⟩⟩
  refine ay.branch hT lS hm (x:=tr) (u:=o4) (v:=part tr [1,1]) (b:=.tmp 28) [1] ah ah ah ah hk (f1:=[]) 60 zT 1 (fun _:Unit=>Ch n i (decide (k i=k (i-1)))) (fun _=>[(0,gy n k)]) (fun _=>True) ⟨_,ag3,?_⟩ (fun _ _=>⟨decide (k i=k (i-1)),rfl,fun hb=>?_,fun hb=>?_⟩)
  ·simp only[ag.all,au]
   simp only[bw,Nat.add_zero,show((i:Int)-1).toNat=i-1 by omega]
   exact⟨⟨⟨aa,aa⟩,aa,aa,⟨aa,aa⟩,aa⟩,(),trivial,[(0,0)],rfl,rfl,rfl,cI rfl rfl rfl (fun x hx=>eH rfl rfl) trivial⟩
  ·have hold:¬gn k i:=fun h=>by
    rcases h with h|h
    ·omega
    ·exact h (of_decide_eq_true hb)
   obtain⟨s1,s2⟩:=Od h3 hold
   refine ay.uc hT lS hm (x:=o4) [1,0,1] (i:=2) (y:=part o4 [1,0,1,0,0]) ah ah ah hk (f1:=[]) (f2:=[35,49]) 60 uG 1 (fun j:Nat=>sU n (bL k (i+j)) i j) (fun j=>[(0,gy n (ja k (i+j)))]) (fun j=>1<=j/\i+j<=n) (fun j=>i+j=n) (fun j=>n-j) (fun _=>False) ⟨_,afp,?_⟩ (fun j ⟨j1,j2⟩=>⟨_,T5,?_⟩) (fun j s' hj hle=>?_) (fun _ _ h=>h.elim)
   ·simp only[ag.all,au]
    simp only[bw,Nat.zero_add]
    refine⟨aa,1,⟨aa,aa⟩,[(0,0)],rfl,?_,rfl,cI rfl rfl rfl (fun x hx=>eH rfl ?_) trivial⟩
    ·show _=(sU n (bL k (i+1)) i 1).map _
     rw[s1];rfl
    ·rw[s2]
   ·simp only[ag.all,au,bz,bF]
    have hd:=K0 hold (l:=i+j) aa
    have e1:ja k (i+j) (j+i)=k (i+j):=by rw[Nat.add_comm j i];exact LL aa
    have e2:ja k (i+j) (((j:Int)-1).toNat+i)=k (i+j-1):=by rw[show((j:Int)-1).toNat+i=i+j-1 by omega];exact LL aa
    simp only[bw,Nat.add_zero,e1,e2,Bool.not_eq_true',Bool.not_eq_false',bz,bF]
    refine⟨fun h=>⟨aa,fun hne=>⟨aa,aa,aa,j+1,aa,by dsimp only;omega,[(0,0)],rfl,?_,rfl,cI rfl rfl rfl (fun x hx=>?_) trivial⟩,fun heq=>⟨aa,j+1,aa,by dsimp only;omega,[(0,0)],rfl,?_,rfl,cI rfl rfl rfl (fun x hx=>?_) trivial⟩⟩,fun h=>⟨rfl,j,aa,[(0,0)],rfl,rfl,rfl,cI rfl rfl rfl (fun x hx=>eH rfl rfl) trivial⟩⟩
    ·show _=(sU n (bL k (i+j+1)) i (j+1)).map _
     rw[Wi (l:=i+j) (.inr hne)];rfl
    ·refine .inr ⟨rfl,bI ?_ (by cases (x==bL k (i+j))<;>exact Nat.le_refl _)⟩
     show _=ja k (i+j+1) x
     rw[We (.inr hne) aa]
     by_cases hx2:x=bL k (i+j)
     ·subst hx2;simp
     ·have:(x==bL k (i+j))=false:=by simpa using hx2
      rw[this,if_neg hx2];rfl
    ·have hold2:¬gn k (i+j):=fun h=>by
      rcases h with h|h
      ·omega
      ·exact h heq
     show _=(sU n (bL k (i+j+1)) i (j+1)).map _
     rw[KX hold2];rfl
    ·have hold2:¬gn k (i+j):=fun h=>by
      rcases h with h|h
      ·omega
      ·exact h heq
     exact eH rfl (by show _=AV.rat (ja k (i+j+1) x) sK;rw[(ahe hold2).2])
   ·rw[show behind o4 [1,0,1]=[part o4 [1,1]]from by kernel_rfl]
    refine aJ.weak rfl hle (aJ.bE hT lS hm 60 jR Pa ah ?_)
    simp only[ag.all,au]
    rw[hj]
    have hd:=pP (k:=k) (n:=n)
    simp only[bw,Nat.zero_add]
    refine⟨aa,aa,fun s' hs'=>⟨_,⟨[.own 0 3 0 (bL k n)],⟨true,true,3,n,fun i=>if bL k n<=i/\i<bL k n+(n-bL k n)then .rat 0 1 else .rat (ja k n i) sK⟩,ah,⟨⟨rfl,dw (by simp[bB,look]) rfl rfl⟩,trivial⟩,rfl,⟨rfl,rfl,rfl,rfl,fun x hx=>?_⟩⟩,hs'⟩⟩
    have hx:x<n:=hx
    refine kA (DE rfl rfl) ?_
    show bg (if _ then _ else _) (.rat (kU k n x) sK)
    unfold kU
    by_cases h:x<bL k n
    ·rw[if_neg aa,if_pos h]
     exact dM (by unfold ja;rw[if_pos h])
    ·rw[if_pos aa,if_neg h]
     exact fC (by decide)
  ·have hnew:gn k i:=.inr (of_decide_eq_false hb)
   refine ay.tail (fun s' hh=>by have:=hh.1;omega) (aJ.bE hT lS hm 60 jR W8 ah ?_)
   simp only[ag.all,au]
   refine⟨aa,fun s' hs'=>⟨i+1,⟨aa,aa,fun j hj=>?_⟩,by dsimp only;omega,fm.le ⟨[(0,0)],rfl,rfl,rfl,cI rfl rfl rfl (fun x hx=>eH rfl rfl) trivial⟩ hs' hk⟩⟩
   by_cases he:j=i
   ·subst he;exact hnew
   ·exact h3 j aa
 ·subst h1
  refine ay.bE hT lS hm 60 jR Wy ah ?_
  simp only[ag.all,au]
  exact fun s' hs'=>(hall h2 ah).fin hs'
def C0 (f:Nat->AV) (n s:Nat):Prop:=∀i,i<n->keys (f i)=[]/\bg (f i) (.rat (aC (f i)) s)
theorem S3 {k:Nat->Rat} {n s s':Nat} (h:s<=s'):C0 (fun i=>.rat (k i) s) n s':=fun _ _=>⟨rfl,fC h⟩
def B9:Spec:=fun _ args pre=>match args,pre with
 |[.own k 3 0 n,.func g []],[(k',⟨true,true,3,m,f⟩)]=>match Nat.beq g 35&&k'==k with
  |true=>some ⟨js [.own k 3 0 (bL (fun i=>aC (f i)) n)],[(k,gy n (kU (fun i=>aC (f i)) n))],[m=n,C0 f n sK,n<2^40]⟩
  |false=>none
 |_,_=>none
theorem aak:aY P B9 151:=by
 intro K args pre r h
 unfold B9 at h
 split at h
 ·rename_i k n g k' m f
  split at h
  ·rename_i hc
   simp only[Bool.and_eq_true,beq_iff_eq]at hc
   obtain⟨h1,h2⟩:=hc
   have h1:=Nat.eq_of_beq_eq_true h1
   subst h1 h2
   simp only[ax]at h
   subst h
   intro need
   have h0:=need
   obtain⟨rfl,n1,n2⟩:=need
   exact abi hT GY (rest:=[.func 35 []]) (o2:=⟨true,true,3,m,f⟩) (o:=gy m fun i=>aC (f i)) rfl rfl aV (fun ρ=>⟨rfl,rfl,rfl,rfl,fun i hi=>kA (n1 i hi).1 (n1 i hi).2⟩) (fun _ c hk=>aaX n2 c hk) K h0
  ·simp at h
 ·simp at h
theorem VG:aW 200 f200:=aN func200
abbrev vX:Code:=aF f200
abbrev wJ:List Nat:=[4,0,1,5]
abbrev CQ (n:Nat) (k:Nat->Rat) (i:Nat):List AV:=[.bool false,ls k n,.func 79 [],.int .i64 ((i:Int)-1)]
def E8:aU:=[(152,Gw),(151,B9)]
theorem aaC {n:Nat} {k:Nat->Rat}:aM T hH [] 60 wJ (before vX [1,0,1]) ⟨aT 0 [ls k n,.func 79 []],[],0⟩=
  let c1:Int:=(↑n:Int)-1;some (aj [-(2:Int)^63<=c1/\c1<2^63] (leaf normal ([AV.bool false,aq 3 n fun i=>rat (k i) 4096,func 79 [],int i64 c1],[]))):=ah
theorem acT {n i:Nat} {k:Nat->Rat}:aM T hH [10,24] 60 wJ [part vX [1,0,1,0,0]] ⟨aH wJ (CQ n k i),[],1⟩=
  let c5:AV:=aq 3 n fun i=>rat (k i) 4096;let c4:Int:=(2:Int)^63;let c1:Int:=(↑i:Int)-1;let c3:List AV:=[AV.bool false,c5,func 79 [],int i64 c1];let c2:Int:=c1-1;let c6:Int:=cZ (k c1.toNat) (k c2.toNat);some (fork (decide (c1>0)) (aj [(0:Int)<=c1/\c1.toNat<n,-c4<=c2/\c2<c4,(0:Int)<=c2/\c2.toNat<n] (fork (decide (c6<0)) (leaf ret (c3,[])) (aj [-c4<=c2/\c2<c4] (leaf normal ([AV.bool false,c5,func 79 [],int i64 c2],[]))))) (leaf (exit 0) (c3,[]))):=ah
theorem QY {n i:Nat} {k:Nat->Rat}:cR T hH [] 60 f200 [part vX [1,1]] ⟨aH wJ (CQ n k i),[],1⟩=
  some (leaf ret [AV.bool true]):=ah
theorem aek {n:Nat} {k:Nat->Rat}:bD T E8 [] 60 f112 (aF f112) ⟨aT 0 [bp k n sJ],[],0⟩=
  let c1:Prop:=n<2^40;some (aj [bT (fun i=>rat (k i) sJ) n sJ,c1,n=n,C0 (fun i=>rat (aC (rat (k i) sJ)) sK) n sK,c1] (leaf ret [aq 3 (bL (fun i=>aC (rat (aC (rat (k i) sJ)) sK)) n) fun i=>rat (kU (fun i=>aC (rat (aC (rat (k i) sJ)) sK)) n (i+0)) 4096])):=ah
def kF (g:FuncId):Kind Unit:=⟨fun v=>match v with
 |.func f []=>match Nat.beq f g with
  |true=>some ((),[])
  |false=>none
 |_=>none,fun _=>.func g [],fun {v a q} h _=>by
  split at h
  ·split at h
   ·rename_i hb
    rw[Nat.eq_of_beq_eq_true hb];exact .refl _
   ·simp at h
  ·simp at h⟩
def pn (p:Prop):Bool:=@decide p (Classical.propDecidable p)
theorem adh {p:Prop} (h:p):pn p=true:=@decide_eq_true p (Classical.propDecidable p) h
theorem W6 {p:Prop} (h:¬p):pn p=false:=@decide_eq_false p (Classical.propDecidable p) h
theorem YF {p:Prop} (h:pn p=true):p:=@of_decide_eq_true p (Classical.propDecidable p) h
theorem ZN {p:Prop} (h:pn p=false):¬p:=@of_decide_eq_false p (Classical.propDecidable p) h
theorem adr {n:Nat} {k:Nat->Rat} (hn:n<2^40) (K:Nat):aO P 200 K [ls k n,.func 79 []] [] (aI (.bool (pn (qP n k))) []):=by
 refine iJ (r:=aI (.bool (pn (qP n k))) []) hT lS hm VG rfl aV rfl [1,0,1] (i:=0) (y:=part vX [1,0,1,0,0]) (z:=part vX [1,1]) ah ah ah (f1:=[]) (f2:=[10,24]) (f3:=[]) 60 wJ 1
  (fun i:Nat=>CQ n k i) (fun _=>[]) (fun i=>i<=n/\∀j,i<=j+1->j+1<n->k j<=k (j+1)) (fun _=>qP n k) (fun i=>i) (fun _=>⟨⟨_,aaC,?_⟩,fun i ⟨h1,h2⟩=>⟨_,acT,?_⟩,fun i hi=>⟨_,QY,?_⟩⟩) K []
 ·simp only[ag.all,au]
  exact⟨aa,n,⟨bq,fun j h1 h2=>aa⟩,fm.vals rfl⟩
 ·simp only[ag.all,au,bz,bF,qF]
  refine⟨fun h=>⟨aa,fun hlt=>⟨[.bool false],ah,gQ ?_⟩,fun hle=>⟨aa,i-1,⟨aa,fun j g1 g2=>?_⟩,by dsimp only;omega,[],rfl,?_,rfl,trivial⟩⟩,fun h=>⟨rfl,i,fun j hj=>h2 j aa hj,[],rfl,rfl,rfl,trivial⟩⟩
  ·refine(W6 fun hs=>?_).symm
   have:=hs (i-2) aa
   rw[show((i:Int)-1).toNat=i-2+1 by omega,show((i:Int)-1-1).toNat=i-2 by omega]at hlt
   grind
  ·by_cases he:j+2=i
   ·rw[show((i:Int)-1).toNat=j+1 by omega,show((i:Int)-1-1).toNat=j by omega]at hle
    grind
   ·exact h2 j aa g2
  ·show _=[_,_,_,AV.int .i64 (((i-1:Nat):Int)-1)]
   rw[show((i-1:Nat):Int)-1=(i:Int)-1-1 by omega];rfl
 ·simp only[ag.all,au]
  exact gQ (adh hi).symm
def Hl:Spec:=cP (kC (kL sK) (kC (kF 79) kN)) (fun a=>.bool (pn (qP a.1.1 a.1.2))) fun a=>[a.1.1<2^40]
theorem adk:aY P Hl 200:=cC fun⟨⟨n,k⟩,_,_⟩ K hn=>adr hn K
def KK:Spec:=cP (kC (kL sJ) kN) (fun a=>ls (b9 a.1.2 a.1.1) (bL a.1.2 a.1.1)) fun a=>[a.1.1<2^40]
theorem agZ:aZ P E8:=aE ac9 (aE aak bA)
theorem DW:aY P KK 112:=cC fun⟨⟨n,k⟩,_⟩ K hn=>by
 have hn:n<2^40:=hn
 refine bJ (r:=aI (ls (b9 k n) (bL k n)) []) hT agZ hm adl rfl aV rfl 60 aek (fun _=>?_) K []
 simp only[ag.all,au]
 exact⟨⟨dh bq,hn,trivial,S3 bq,hn⟩,tF rfl fun i hi=>by
  show AV.rat (kU k n (i+0)) sK=_
  have hi:i<bL k n:=hi
  rw[Nat.add_zero];unfold kU;rw[if_pos hi]⟩
theorem PT:aW 185 f185:=aN func185
def ye:aU:=(200,Hl)::(112,KK)::(113,xz)::gk
abbrev vj:Code:=aF f185
abbrev pM:List Nat:=[0,1,4,48,49,50]
abbrev BP (n:Nat) (k:Nat->Rat) (p:Int) (d:Nat) (f:Nat->Rat) (i:Nat):List AV:=[bp k n sJ,.int .i64 p,.int .i64 0,bp f d sK,.int .i64 d,.int .i64 i]
theorem aeY {n:Nat} {k:Nat->Rat} {p:Int}:aM T ye [18,15,22,29,35,46] 60 pM (before vj [1,1,1,0,1]) ⟨aT 0 [bp k n sJ,.int .i64 p],[],0⟩=
  let c16:Int:=(↑n:Int);let c15:Prop:=bT (fun i=>rat (k i) sJ) n sK;let c14:Nat:=Int.toNat (0:Int);let c13:Nat:=bL (fun i=>aC (rat (k i) sJ)) n;let c11:Bool:=decide (p<1);let c10:Int:=i64.wrap (i64.wrap ((2:Int)*p)+2);let c9:Prop:=n<2^40;let c7:List AV:=[tuple [],tuple [],tuple []];let c6:Bool:=!pn (qP n fun i=>aC (rat (k i) sJ));let c3:AV:=aq 3 n fun i=>rat (k i) 4000;let c12:List AV:=c3::int i64 p::int i64 1::c7;let c8:Int:=i64.wrap (i64.wrap (c16-p)-1);let c5:Int:=i64.wrap (c16-1);let c4:ag (List AV×aD):=leaf ret (c3::int i64 p::int i64 5::c7,[]);let c2:ag (List AV×aD):=aj [bT (fun i=>rat (k i) sJ) n sJ,c9] (leaf normal ([c3,int i64 p,int i64 0,aq 3 c13 fun i=>rat (b9 (fun i=>aC (rat (k i) sJ)) n i) 4096,int i64 (↑c13:Int),int i64 0],[]));let c1:ag (List AV×aD):=fork (decide (c16<c10)) c4 (fork (decide (c8>40)) (leaf ret (c3::int i64 p::int i64 2::c7,[])) (fork c6 (aj [c15,c9,c6=true] (fork true c4 c2)) (aj [c15,c9,c6=false,(0:Int)<=0/\c14<n,(0:Int)<=c5/\c5.toNat<n] (fork (bif false then true else decide (k c14=k c5.toNat)) c4 c2))));some (fork c11 (aj [c11=true] (fork true (leaf ret (c12,[])) c1)) (aj [c11=false] (fork (bif false then true else decide (p>6)) (leaf ret (c12,[])) c1))):=ah
theorem U0 {n d i:Nat} {k f:Nat->Rat} {p:Int}:aM T ye [51,62,73,79,82,87] 60 pM [part vj [1,1,1,0,1,0,0]] ⟨aH pM (BP n k p d f i),[],1⟩=
  let c18:Int:=(↑d:Int);let c16:Prop:=false=false;let c13:Int:=(↑i:Int);let c12:Prop:=0<1;let c11:AV:=aq 3 d fun i=>rat (f i) 4096;let c10:AV:=aq 3 n fun i=>rat (k i) 4000;let c9:Int:=i64.wrap ((↑n:Int)-1);let c8:Nat:=Int.toNat (0:Int);let c17:Prop:=(0:Int)<=0/\c8<n;let c14:List AV:=[c11,int i64 c18,int i64 c13];let c7:Rat:=f c13.toNat;let c1:ag (List AV×aD):=leaf normal ([c10,int i64 p,int i64 0,c11,int i64 c18,int i64 (i64.wrap (c13+1))],[]);let c15:Bool:=decide (c7=k c8);let c4:Int:=(↑(bS (fun i=>aC (rat (k i) sJ)) c7 n):Int);let c3:Bool:=bif false then true else decide (c7=k c9.toNat);let c2:ag (List AV×aD):=leaf ret (c10::int i64 p::int i64 5::c14,[]);let c6:ag (List AV×aD):=fork (bif false then true else bif true then decide (c4>p)else false) c2 c1;let c5:Bool:=bif true then c4 !=i64.wrap (p+1)else false;some (fork (decide (c13<c18)) (aj [(0:Int)<=c13/\c13.toNat<d,c12] (aj [c12,bT (fun i=>rat (k i) sJ) n sK,sK<=sK,n<2^40] (fork c15 (aj [c12,c17,c15=true] (fork true (fork c5 (aj [true=true,c5=true] (fork true c2 c1)) (fork false (aj [true=true,c5=false,(!true)=true] c6) (aj [true=true,c5=false,(!true)=false] (fork false c2 c1)))) (fork false (aj [true=false,false=true] (fork true c2 c1)) (fork false (aj [true=false,c16,(!true)=true] c6) (aj [true=false,c16,(!true)=false] (fork false c2 c1)))))) (aj [c12,c17,c15=false,c12,(0:Int)<=c9/\c9.toNat<n] (fork c3 (fork c5 (aj [c3=true,c5=true] (fork true c2 c1)) (fork (!c3) (aj [c3=true,c5=false,(!c3)=true] c6) (aj [c3=true,c5=false,(!c3)=false] (fork false c2 c1)))) (fork false (aj [c3=false,false=true] (fork true c2 c1)) (fork (!c3) (aj [c3=false,c16,(!c3)=true] c6) (aj [c3=false,c16,(!c3)=false] (fork false c2 c1))))))))) (leaf (exit 1) (c10::int i64 p::int i64 0::c14,[]))):=ah
theorem aey {n d i:Nat} {k f:Nat->Rat} {p:Int}:cR T ye [] 60 f185 [part vj [1,1,1,1]] ⟨aH pM (BP n k p d f i),[],1⟩=
  some (leaf ret [int i64 0]):=ah
theorem XJ:aZ P ye:=aE adk (aE DW (aE C6 gz))
def s4 (n:Nat) (p:Int):Prop:=1<=p/\p<=6/\2*p+2<=(n:Int)/\(n:Int)-p-1<=40
theorem ZR {n:Nat} {k:Nat->Rat} {p:Int} (hn:n<2^40) (K:Nat):aO P 185 K [bp k n sJ,.int .i64 p] [] (aI (.int .i64 (iH n k p)) []):=by
 refine iJ (r:=aI (.int .i64 (iH n k p)) []) hT XJ hm PT rfl aV rfl [1,1,1,0,1] (i:=1) (y:=part vj [1,1,1,0,1,0,0]) (z:=part vj [1,1,1,1]) ah ah ah (f1:=[18,15,22,29,35,46]) (f2:=[51,62,73,79,82,87]) (f3:=[]) 60 pM 1
  (fun i:Nat=>BP n k p (bL k n) (b9 k n) i) (fun _=>[]) (fun i=>i<=bL k n/\s4 n p/\qP n k/\k 0≠k (n-1)/\∀j,j<i->¬kE n k p.toNat (b9 k n j)) (fun _=>s4 n p/\qG n k p.toNat) (fun i=>bL k n-i) (fun _=>⟨⟨_,aeY,?_⟩,fun i ⟨h1,h2,h3,h4,h5⟩=>⟨_,U0,?_⟩,fun i ⟨h1,h2⟩=>⟨_,aey,?_⟩⟩) K []
 ·have r:∀{e:Int} {u:AV},iH n k p=e->ri f185 pM (.int .i64 (iH n k p)) ([u,.int .i64 p,.int .i64 e,.tuple [],.tuple [],.tuple []],[]):=fun h=>⟨[.int .i64 _],ah,bU h.symm⟩
  by_cases hp:1<=p/\p<=6
  ·have e1:i64.wrap (i64.wrap (2*p)+2)=2*p+2:=by rw[wrap_i64 (show-2^63<=2*p by omega) aa];exact wrap_i64 aa aa
   have e2:i64.wrap (i64.wrap ((n:Int)-p)-1)=(n:Int)-p-1:=by rw[wrap_i64 (show-2^63<=(n:Int)-p by omega) aa];exact wrap_i64 aa aa
   have e3:i64.wrap ((n:Int)-1)=(n:Int)-1:=wrap_i64 aa aa
   have e5:((n:Int)-1).toNat=n-1:=aa
   simp only[ag.all,au,decide_eq_true_eq,decide_eq_false_iff_not,Bool.not_eq_true',Bool.not_eq_false',cond_true,cond_false,Int.toNat_natCast,Int.toNat_zero,ta,e1,e2,e3,e5]
   (repeat' with_reducible first|refine And.intro ?_ ?_|intro _)
   all_goals first|exact absurd ‹true=false› (by decide)|exact absurd ‹false=true› (by decide)|omega|(exfalso;omega)|exact dh (by decide)|assumption|exact r (UA aa aa)|exact r (adR aa aa aa)|exact r (Bf aa aa aa fun h=>ZN ‹_› h.1)|exact r (Bf aa aa aa fun h=>h.2.1 ‹_›)|exact⟨0,⟨Nat.zero_le _,⟨aa,aa,aa,aa⟩,YF ‹_›,‹_›,fun j hj=>absurd hj (Nat.not_lt_zero j)⟩,fm.vals rfl⟩|skip
   skip
  ·simp only[ag.all,au,decide_eq_true_eq,decide_eq_false_iff_not,Bool.not_eq_true',Bool.not_eq_false',cond_true,cond_false,Int.toNat_natCast]
   (repeat' with_reducible first|refine And.intro ?_ ?_|intro _)
   all_goals first|exact absurd ‹true=false› (by decide)|exact absurd ‹false=true› (by decide)|omega|(exfalso;omega)|exact r (aaN aa)|skip
   skip
 ·obtain⟨q,rfl⟩:∃q:Nat,p=(q:Int):=⟨p.toNat,by have:=h2.1;omega⟩
  have hq:=h2
  unfold s4 at hq
  have e1:i64.wrap ((q:Int)+1)=((q+1:Nat):Int):=by rw[wrap_i64 aa aa];rfl
  have e2:i64.wrap ((i:Int)+1)=((i+1:Nat):Int):=by rw[wrap_i64 aa (by have:=pP (k:=k) (n:=n);omega)];rfl
  have e3:i64.wrap ((n:Int)-1)=(n:Int)-1:=wrap_i64 aa aa
  have e5:((n:Int)-1).toNat=n-1:=aa
  simp only[Int.toNat_natCast]at h5
  have hd:=pP (k:=k) (n:=n)
  have r:∀{u v w x y:AV},kE n k q (b9 k n i)->i<bL k n->ri f185 pM (.int .i64 (iH n k q)) ([u,v,.int .i64 5,w,x,y],[]):=fun h hi=>⟨[.int .i64 5],ah,bU (Bf aa aa aa fun hk=>hk.2.2 i hi (by rw[Int.toNat_natCast];exact h)).symm⟩
  have nx:¬kE n k q (b9 k n i)->i<bL k n->∀j,j<i+1->¬kE n k q (b9 k n j):=fun h hi j hj=>by
   by_cases he:j=i
   ·subst he;exact h
   ·exact h5 j aa
  simp only[ag.all,au,decide_eq_true_eq,decide_eq_false_iff_not,Bool.not_eq_true',Bool.not_eq_false',cond_true,cond_false,Int.toNat_natCast,Int.toNat_zero,ta,e1,e2,e3,e5,bne_iff_ne,bne_eq_false_iff_eq,ne_eq]
  obtain⟨c,hc⟩:∃c,bS k (b9 k n i) n=c:=⟨_,rfl⟩
  have hc':bS (fun i=>k i) (b9 k n i) n=c:=hc
  simp only[hc']
  have b1:b9 k n i=k 0->c≠q+1->kE n k q (b9 k n i):=fun h1 h2=>.inl ⟨.inl h1,by rw[hc];exact h2⟩
  have b2:b9 k n i=k (n-1)->c≠q+1->kE n k q (b9 k n i):=fun h1 h2=>.inl ⟨.inr h1,by rw[hc];exact h2⟩
  have b3:¬b9 k n i=k 0->¬b9 k n i=k (n-1)->q<c->kE n k q (b9 k n i):=fun h1 h2 h3=>.inr ⟨fun h=>h.elim h1 h2,by rw[hc];exact h3⟩
  have g1:b9 k n i=k 0->c=q+1->¬kE n k q (b9 k n i):=by
   rintro h1 h2 (⟨_,h3⟩|⟨h3,_⟩)
   ·exact h3 (by rw[hc];exact h2)
   ·exact h3 (.inl h1)
  have g2:b9 k n i=k (n-1)->c=q+1->¬kE n k q (b9 k n i):=by
   rintro h1 h2 (⟨_,h3⟩|⟨h3,_⟩)
   ·exact h3 (by rw[hc];exact h2)
   ·exact h3 (.inr h1)
  have g3:¬b9 k n i=k 0->¬b9 k n i=k (n-1)->c<=q->¬kE n k q (b9 k n i):=by
   rintro h1 h2 h3 (⟨h4,_⟩|⟨_,h4⟩)
   ·exact h4.elim h1 h2
   ·rw[hc]at h4;omega
  clear hc hc'
  (repeat' with_reducible first|refine And.intro ?_ ?_|intro _)
  all_goals first|exact absurd ‹true=false› (by decide)|exact absurd ‹false=true› (by decide)|omega|(exfalso;omega)|exact dh (by decide)|assumption|skip
  all_goals first
   |exact absurd ‹b9 k n i=k (n-1)› ‹_›
   |exact⟨rfl,i,⟨h2,h3,h4,fun j hj=>h5 j aa⟩,fm.vals rfl⟩
   |exact r (b1 ‹_› aa) aa
   |exact r (b2 ‹_› aa) aa
   |exact r (b3 ‹¬_=k 0› ‹_› (by have:=of_decide_eq_true ‹decide _=true›;omega)) aa
   |exact⟨i+1,⟨aa,h2,h3,h4,nx (g1 ‹_› aa) aa⟩,by dsimp only;omega,fm.vals rfl⟩
   |exact⟨i+1,⟨aa,h2,h3,h4,nx (g2 ‹_› aa) aa⟩,by dsimp only;omega,fm.vals rfl⟩
   |exact⟨i+1,⟨aa,h2,h3,h4,nx (g3 ‹¬_=k 0› ‹_› (by have:=of_decide_eq_false ‹decide _=false›;omega)) aa⟩,by dsimp only;omega,fm.vals rfl⟩
 ·simp only[ag.all,au]
  exact bU (agp (by have:=h1;unfold s4 at this;omega) (by have:=h1;unfold s4 at this;omega) (by have:=h1;unfold s4 at this;omega) h2).symm
def LB:Spec:=cP (kC (kL sJ) (kC kI kN)) (fun a=>.int .i64 (iH a.1.1 a.1.2 a.2.1)) fun a=>[a.1.1<2^40]
theorem NU:aY P LB 185:=cC fun⟨⟨n,k⟩,p,_⟩ K hn=>ZR hn K
abbrev sE:Nat:=4294967298
def Bz (h:Pl):V3:=⟨((1:Int):Rat)/h.d*h.n.x,((1:Int):Rat)/h.d*h.n.y,((1:Int):Rat)/h.d*h.n.z⟩
abbrev v9 (h:Pl) (s:Nat):az:=⟨false,true,12,1,fun _=>cu h s⟩
def ze (c:Cu) (x:Nat->Rat) (b j:Nat):Pl:=
 ⟨⟨rB j fun j=>x j*((c.f (b+j)).d*(c.f (b+j)).n.x),rB j fun j=>x j*((c.f (b+j)).d*(c.f (b+j)).n.y),rB j fun j=>x j*((c.f (b+j)).d*(c.f (b+j)).n.z)⟩,rB j fun j=>x j*(c.f (b+j)).d⟩
def MP (c:Cu) (t:Rat):Pl:=ze c (vB c.k (cS c.n c.k t) t c.p.toNat) (cS c.n c.k t-c.p.toNat) (c.p.toNat+1)
def IL (c:Cu) (t:Rat):V3:=if kX c.n c.k t then⟨0,0,0⟩else Bz (MP c t)
theorem DG:aW 54 f54:=aN func54
abbrev Aa (n:Nat) (z:Nat->Int):AV:=.aq 1 n (fun i=>.int .i64 (z i))
abbrev vk (n:Nat) (z:Nat->Int):az:=⟨true,true,3,n,fun i=>.rat ((z i:Int):Rat) 64⟩
abbrev m7:Code:=aF f54
abbrev nJ:List Nat:=[0,3,4]
abbrev wQ (n:Nat) (z:Nat->Int) (v:AV) (i:Int):List AV:=[Aa n z,v,.int .i64 i]
def sH:aU:=nG::[(20,yO)]
theorem N8 {n:Nat} {z:Nat->Int}:aM T sH [] 60 nJ (before m7 [1,1,0,1]) ⟨aT 0 [Aa n z],[],0⟩=
  some (leaf normal ([aq 1 n fun i=>int i64 (z i),nil,int i64 0],[])):=ah
theorem aaj {n:Nat} {z:Nat->Int}:aM T sH [8] 60 nJ [part m7 [1,1,0,1,0,0]] ⟨aH nJ (wQ n z .nil 0),[],1⟩=
  let c3:AV:=aq 1 n fun i=>int i64 (z i);let c2:Int:=(2:Int)^63;let c1:Nat:=Int.toNat (0:Int);some (fork (decide ((0:Int)<(↑n:Int))) (aj [(0:Int)<=0/\c1<n,-c2<=z c1,z c1<c2,(1:Nat)*3<=2^24,(0:Nat)<1/\1*((56:Nat)+1)*2<=2^47] (aj [-c2<=0+(1:Int)/\(0:Int)+1<c2] (leaf normal ([c3,own 45057 3 0 1,int i64 1],[(45057,az.mk true true 3 1 fun i=>nth [rat (↑(z c1):Rat) (Max.max 1 (bO (z c1).natAbs))] (rat 0 1) (i+0))])))) (leaf (exit 0) ([c3,nil,int i64 0],[]))):=ah
theorem VH {n i:Nat} {z:Nat->Int}:aM T sH [8] 60 nJ [part m7 [1,1,0,1,0,0]] ⟨aH nJ (wQ n z (.own 0 3 0 (i+1)) ((i+1:Nat):Int)),[(0,vk (i+1) z)],1⟩=
  let c4:AV:=aq 1 n fun i=>int i64 (z i);let c3:Int:=(2:Int)^63;let c2:Nat:=i+1;let c5:Nat:=c2+1;let c1:Int:=(↑c2:Int);let c7:Int:=z c1.toNat;let c6:Int:=c1+1;some (fork (decide (c1<(↑n:Int))) (aj [(0:Int)<=c1/\c1.toNat<n,-c3<=c7,c7<c3,(1:Nat)*3<=2^24,c5*((56:Nat)+1)*2<=2^47] (aj [-c3<=c6/\c6<c3] (leaf normal ([c4,own 45057 3 0 c5,int i64 c6],[(45057,az.mk true true 3 c5 fun i=>if i<c2 then rat (↑(z i):Rat) 64 else nth [rat (↑c7:Rat) (Max.max 1 (bO c7.natAbs))] (rat 0 1) (i-c2+0))])))) (leaf (exit 0) ([c4,own 0 3 0 c2,int i64 c1],[(0,az.mk true true 3 c2 fun i=>rat (↑(z i):Rat) 64)]))):=ah
theorem ac0 {n i:Nat} {z:Nat->Int}:aM T sH [] 60 [2] [part m7 [1,1,1]] ⟨aH nJ (wQ n z (.own 0 3 0 (i+1)) ((i+1:Nat):Int)),[(0,vk (i+1) z)],1⟩=
  some (leaf ret ([own 0 3 0 (i+1)],[(0,az.mk true true 3 (i+1) fun i=>rat (↑(z i):Rat) 64)])):=ah
theorem XK {rl:List (Nat×Nat)} {l i s s' s2:Nat} {x y:Nat->Rat} {t:Rat} (hx:∀i,i<l->x i=y i) (ht:t=y l) (h1:s<=s2) (h2:Sz (y l) s2) (hi:i<l+1):iF rl (if i<l then .rat (x i) s else nth [.rat t s'] (.rat 0 1) (i-l+0)) (.rat (y i) s2):=by
 by_cases h:i<l
 ·rw[if_pos h,hx i h];exact .inr ⟨rfl,bI rfl h1⟩
 ·have:i=l:=aa
  subst this
  rw[if_neg h,Nat.sub_self]
  exact .inr ⟨rfl,er ht h2⟩
theorem Ed:aZ P sH:=eV (aE B5 bA)
abbrev Gl (z:Nat->Int) (i:Nat):aD:=match i with
 |0=>[]
 |_+1=>[(0,vk i z)]
abbrev Mh (n:Nat) (z:Nat->Int) (i:Nat):List AV:=wQ n z (match i with
 |0=>.nil
 |_+1=>.own 0 3 0 i) i
theorem I0 {P':ak->aL->Prop} {n:Nat} {z:Nat->Int} (hn:0<n) (hn2:n<2^20) (hz:∀i,i<n->-2^63<=z i/\z i<2^63) (c:Ctx) (hk:Kept [] c) (hD:ay Go.Am.N.P c f54.ntmps (part m7 [1,1,1]) ⟨aH nJ (Mh n z n),Gl z n,1⟩ P'):ay Go.Am.N.P c f54.ntmps m7 ⟨aT 0 [Aa n z],[],0⟩ P':=by
 have hs:∀i,i<n->Sz ((z i:Int):Rat) 64:=fun i hi=>Nr (y:=0) (hz i hi).1 (hz i hi).2
 refine ay.wv hT Ed hm (x:=m7) [1,1,0,1] (i:=0) (y:=part m7 [1,1,0,1,0,0]) (z:=part m7 [1,1,1]) ah ah ah DG.dst hk (f1:=[]) (f2:=[8]) 60 nJ 1 (fun i:Nat=>Mh n z i) (fun i=>Gl z i) (fun i=>i<=n) (fun i=>i=n) (fun i=>n-i) (fun _=>False) ⟨_,N8,?_⟩ (fun i hi=>?_) (fun i hi=>?_) (fun _ _ h=>h.elim)
 ·simp only[ag.all,au]
  exact⟨0,Nat.zero_le _,fm.vals rfl⟩
 ·cases i with
  |zero=>
   refine⟨_,aaj,?_⟩
   simp only[ag.all,au,bz,bF]
   refine⟨fun h=>⟨⟨⟨aa,aa⟩,(hz 0 hn).1,(hz 0 hn).2,aa,aa,aa⟩,aa,1,aa,by dsimp only;omega,[(0,45057)],rfl,rfl,rfl,cI rfl rfl rfl (fun j hj=>?_) trivial⟩,fun h=>aa⟩
   have hj:j=0:=aa
   subst hj
   exact .inr ⟨rfl,er rfl (hs 0 hn)⟩
  |succ i=>
   refine⟨_,VH,?_⟩
   simp only[ag.all,au,bz,bF]
   have e:((i+1:Nat):Int).toNat=i+1:=aa
   simp only[e]
   refine⟨fun h=>⟨⟨⟨aa,aa⟩,(hz (i+1) aa).1,(hz (i+1) aa).2,aa,aa⟩,aa,i+2,aa,by dsimp only;omega,[(0,45057)],rfl,rfl,rfl,cI rfl rfl rfl (fun j hj=>XK (x:=fun i=>((z i:Int):Rat)) (y:=fun i=>((z i:Int):Rat)) (fun _ _=>rfl) rfl bq (hs (i+1) aa) hj) trivial⟩,fun h=>⟨rfl,i+1,aa,[(0,0)],rfl,rfl,rfl,cI rfl rfl rfl (fun j hj=>eH rfl rfl) trivial⟩⟩
 ·subst hi;exact hD
def x7:Nat->(Nat->AV)->Bool
 |0,_=>true
 |n+1,f=>x7 n f&&match f n with
  |.int .i64 z=>decide (-2^63<=z)&&decide (z<2^63)
  |_=>false
def xu (n:Nat) (f:Nat->AV):Bool:=Nat.blt 0 n&&Nat.blt n 100&&x7 n f
def Mz:Spec:=nM fun K l=>match l with
 |[.aq 1 n f]=>match xu n f with
  |true=>some ⟨js [.own K 3 0 n],[(K,vk n fun i=>intOf (f i))],[]⟩
  |false=>none
 |_=>none
theorem CL:∀{n:Nat} {f:Nat->AV},x7 n f=true->∀i,i<n->f i=.int .i64 (intOf (f i))/\-2^63<=intOf (f i)/\intOf (f i)<2^63
 |0,_,_,i,hi=>aa
 |n+1,f,h,i,hi=>by
  simp only[x7,Bool.and_eq_true]at h
  by_cases he:i=n
  ·subst he
   have h2:=h.2
   split at h2
   ·rename_i z hz
    simp only[Bool.and_eq_true,bz]at h2
    rw[hz]
    exact⟨rfl,h2⟩
   ·simp at h2
  ·exact CL h.1 i aa
theorem K1 {n:Nat} {f:Nat->AV} (h:xu n f=true):0<n/\n<100/\(∀i,i<n->-2^63<=intOf (f i)/\intOf (f i)<2^63)/\dH [.aq 1 n f] [Aa n fun i=>intOf (f i)]:=by
 simp only[xu,Bool.and_eq_true,Nat.blt_eq]at h
 exact⟨h.1.1,h.1.2,fun i hi=>(CL h.2 i hi).2,tF rfl fun i hi=>(CL h.2 i hi).1,trivial⟩
theorem Qu:aY P Mz 54:=by
 refine qS fun K args r hk hs=>?_
 split at hs
 ·rename_i n f
  split at hs
  ·rename_i h1
   obtain⟨a1,a2,a3,a4⟩:=K1 h1
   simp only[ax]at hs
   subst hs
   refine Bt hT DG (fun _=>ru hk rfl a4) aV fun _ c hkp=>I0 a1 aa a3 c hkp ?_
   obtain⟨m,rfl⟩:∃m,n=m+1:=⟨n-1,aa⟩
   refine ay.bE hT Ed hm 60 [2] ac0 ah fun s' hs'=>⟨.inr rfl,[2],_,[.own 0 3 0 (m+1)],_,0,_,hs',ah,⟨⟨rfl,dw (by simp[bB,look]) rfl rfl⟩,trivial⟩,rfl,iX rfl fun i hi=>gu rfl⟩
  ·simp at hs
 ·simp at hs
theorem Em:aW 211 f211:=aN func211
def p6:aU:=nG::(186,zR)::(213,HZ)::eO
abbrev xj:Code:=aF f211
abbrev pZ:Code:=part xj [1,1,1,1,0,1,0,0]
abbrev tY:Code:=part pZ [1,1,0,0]
abbrev sB:Nat:=536870912
theorem xg:aZ P p6:=eV (aE Ay (aE Ow fq))
def iP (n:Nat) (k:Nat->Rat) (p m l:Nat) (i:Int):Int:=if(m:Int)≠(n:Int)-p-1\/l≠p then 1 else if i<p\/(m:Int)<=i\/k (i.toNat+1)<=k i.toNat then 7 else 0
def mU (n:Nat) (k:Nat->Rat) (p m:Nat) (c:Nat->Rat) (i:Int) (l:Nat) (a:Nat->Rat):Rat:=if iP n k p m l i=0 then bR k (i.toNat-p) p a (fun j=>c (i.toNat-p+j)) p p else 0
abbrev Fm (n:Nat) (k:Nat->Rat) (p m:Nat) (c:Nat->Rat) (i:Int) (l:Nat) (a:Nat->Rat):AV:=.tuple [.rat (mU n k p m c i l a) sB,.int .i64 (iP n k p m l i)]
theorem Ww {n p m l:Nat} {k c a:Nat->Rat} {i e:Int} (h:iP n k p m l i=e) (he:e≠0):fz [.agg [.bool false,.mag 0,.mag 0],.int .i64 e] (Fm n k p m c i l a):=
 ⟨by unfold mU;rw[if_neg (by rw[h];exact he)];exact mT,bU h.symm,trivial⟩
theorem Jp {n p m l:Nat} {k:Nat->Rat} {i:Int} (h:(m:Int)≠(n:Int)-p-1\/l≠p):iP n k p m l i=1:=if_pos h
theorem DL {n p m l:Nat} {k:Nat->Rat} {i:Int} (h:(m:Int)=(n:Int)-p-1) (hl:l=p) (h2:i<p\/(m:Int)<=i\/k (i.toNat+1)<=k i.toNat):iP n k p m l i=7:=by
 unfold iP;rw[if_neg aa,if_pos h2]
theorem Nf {n p m l:Nat} {k:Nat->Rat} {i:Int} (h:(m:Int)=(n:Int)-p-1) (hl:l=p) (h2:¬(i<p\/(m:Int)<=i\/k (i.toNat+1)<=k i.toNat)):iP n k p m l i=0:=by
 unfold iP;rw[if_neg aa,if_neg h2]
def mE (k:Nat->Rat) (b p r:Nat) (t:Rat) (x:Nat->Rat) (j i:Nat):Rat:=if i<=j then x i else gR k b p r t x i
def nh (r j i:Nat):Nat:=if i<=j then SB r else SB (r+1)
theorem T9 {rl:List (Nat×Nat)} {k:Nat->Rat} {b p r j i s:Nat} {t:Rat} {x:Nat->Rat} (hj:r<j) (hs:s<=SB (r+1)):
  iF rl (.rat (bif i==j then mE k b p r t x j (j-1)+fr (k (b+j)) (k (b+j+(p-r))) t*(mE k b p r t x j j-mE k b p r t x j (j-1))else mE k b p r t x j i) (bif i==j then s else nh r j i)) (.rat (mE k b p r t x (j-1) i) (nh r (j-1) i)):=by
 refine .inr ⟨rfl,?_⟩
 by_cases h:i=j
 ·subst h
  simp only[beq_self_eq_true,cond_true]
  refine bI ?_ ?_
  ·unfold mE
   rw[if_pos aa,if_pos aa,if_neg aa]
   unfold gR
   rw[if_pos hj]
  ·unfold nh
   rw[if_neg aa];exact hs
 ·have hb:(i==j)=false:=by simpa using h
  rw[hb]
  refine bI ?_ ?_
  ·simp only[cond_false]
   unfold mE
   by_cases h2:i<=j
   ·rw[if_pos h2,if_pos aa]
   ·rw[if_neg h2,if_neg aa]
  ·simp only[cond_false]
   unfold nh
   by_cases h2:i<=j
   ·rw[if_pos h2,if_pos aa];exact Nat.le_refl _
   ·rw[if_neg h2,if_neg aa];exact Nat.le_refl _
theorem adQ {k:Nat->Rat} {b p r i:Nat} {t:Rat} {x:Nat->Rat}:mE k b p r t x r i=gR k b p r t x i:=by
 unfold mE
 split
 ·unfold gR;rw[if_neg aa]
 ·rfl
def qN:aU:=nG::(97,fS kR kR Eb oG)::ki
theorem LS:aZ P qN:=eV (aE (fY fun _ _ K hn=>M4 hn.1 hn.2 K) lH)
theorem VY:aW 23 f23:=aN func23
theorem Ql:aW 65 f65:=aN func65
structure sC where
 k:Nat->Rat
 t:Rat
 a:Int
def Bd (n:Nat) (f:Nat->AV) (t:Rat) (a:Int):Rat:=t+((1+eo n f a 3:Int):Rat)/((1+eo n f (cy n a) 2:Int):Rat)
def HM (n:Nat) (f:Nat->AV) (p j:Nat) (s:sC):sC:=
 if j=0\/0<eo n f s.a 3\/s.t=s.k (j+1)then
  ⟨oo s.k (p+1+j) (Bd n f s.t (if j=0 then s.a else cy n s.a)),Bd n f s.t (if j=0 then s.a else cy n s.a),cy n (cy n (if j=0 then s.a else cy n s.a))⟩
 else⟨oo s.k (p+1+j) s.t,s.t,if j=0 then s.a else cy n s.a⟩
def qT (n:Nat) (f:Nat->AV) (p:Nat) (s0:sC):Nat->sC
 |0=>s0
 |j+1=>HM n f p j (qT n f p s0 j)
def vH (n:Nat) (f:Nat->AV) (a:Int):sC:=⟨fun _=>((eo n f a 4-2:Int):Rat),((eo n f a 4-2:Int):Rat),cy n (cy n a)⟩
def Ve (n:Nat) (f:Nat->AV) (a:Int) (m:Nat):Nat:=(eo n f (cy n a) (m+1)).toNat
def knE (n:Nat) (f:Nat->AV) (a:Int) (p m:Nat):sC:=qT n f p (vH n f a) (Ve n f a m)
def XR (n:Nat) (f:Nat->AV) (a:Int) (p m:Nat):Int:=(knE n f a p m).a
theorem Gj {n:Nat} {f:Nat->AV} {a:Int} {p:Nat} (hd:dG n f a) (hp:1<=p):∀j,KG p j (qT n f p (vH n f a) j).k (qT n f p (vH n f a) j).t/\dG n f (qT n f p (vH n f a) j).a
 |0=>by
  have h1:=uF (n:=n) (f:=f) (a:=a) (m:=4) aa
  have h2:=ue (n:=n) (f:=f) (a:=a) (m:=4) aa
  exact⟨KG.start hp aa aa,hd.next.next⟩
 |j+1=>by
  obtain⟨h1,h2⟩:=Gj hd hp j
  unfold qT HM Bd
  generalize qT n f p (vH n f a) j=s at*
  obtain⟨k,t,b⟩:=s
  simp only at h1 h2 ⊢
  have hb:dG n f (if j=0 then b else cy n b):=by split;exact h2;exact h2.next
  generalize (if j=0 then b else cy n b)=a1 at*
  split
  ·have x1:=uF (n:=n) (f:=f) (a:=a1) (m:=3) aa
   have x2:=ue (n:=n) (f:=f) (a:=a1) (m:=3) aa
   have y1:=uF (n:=n) (f:=f) (a:=cy n a1) (m:=2) aa
   have y2:=ue (n:=n) (f:=f) (a:=cy n a1) (m:=2) aa
   refine⟨h1.next (.inl ?_),hb.next.next⟩
   generalize eo n f a1 3=x at*
   generalize eo n f (cy n a1) 2=y at*
   have key:∃z:Int,((1+x:Int):Rat)/((1+y:Int):Rat)=(z:Rat)/2/\1<=z/\z<=6:=by
    rcases(show y=0\/y=1 by omega)with h|h
    ·subst h
     refine⟨2*(1+x),?_,aa,aa⟩
     have:((2*(1+x):Int):Rat)=2*((1+x:Int):Rat):=by simp
     rw[this]
     generalize ((1+x:Int):Rat)=w
     simp;grind
    ·subst h
     exact⟨1+x,by simp,aa,aa⟩
   obtain⟨z,e,z1,z2⟩:=key
   rw[e]
   refine⟨?_,z,rfl,z2⟩
   have:(1:Rat)<=(z:Rat):=by exact_mod_cast z1
   grind
  ·rename_i hc
   have hc1:¬j=0:=fun h=>hc (.inl h)
   have hc2:¬t=k (j+1):=fun h=>hc (.inr (.inr h))
   exact⟨h1.next (.inr ⟨rfl,aa,hc2⟩),hb⟩
theorem ag4 {z:Int} (h1:-2^63<=z) (h2:z<2^63):Sz ((z:Rat)/2) 64:=by
 have:=KE h1 h2 (y:=2) aa aa aa
 simpa using this
theorem KG.sz {p j:Nat} {k:Nat->Rat} {t:Rat} (h:KG p j k t) (hj:j<2^50):Sz t 64:=by
 obtain⟨z,e,h1,h2⟩:=h.half (p+j) bq
 rw[h.top]at e
 rw[e]
 exact ag4 aa aa
open Go Go.Am.N AV Proofs.Tryz
theorem PI:aW 28 f28:=aN func28
theorem S7 {n:Nat} {z:Nat->Int} {a:Int}:qf T GP [] 60 f28 (aF f28) ⟨aT 0 [.ptr 0 0 2 0 []],[(0,iK n (fun i=>.int .i64 (z i)) a)],1⟩=
  some (ag.aj [dG n (fun(i:Nat)=>int .i64 (z i)) a,(0:Nat)<1] (ag.aj [(0:Nat)<1] (ag.leaf ak.ret ([rat (fK n (fun(i:Nat)=>int .i64 (z i)) a) 64],some ⟨false,true,2,1,fun(x:Nat)=>agg [aq 1 n fun(i:Nat)=>int .i64 (z i),int .i64 (eZ n (fun(i:Nat)=>int .i64 (z i)) a)]⟩)))):=ah
theorem RM:aY P (kK sW) 28:=by
 refine vU fun {k n z a l v b q o} K hg ho hd hq=>?_
 unfold sW at hg
 split at hg
 ·simp only[ax,Prod.mk.injEq]at hg
  obtain⟨rfl,rfl,rfl⟩:=hg
  refine vm hT Nd hm PI rfl rfl aV ho 60 S7 (fun _=>?_) K
  simp only[ag.all,au]
  exact⟨⟨hd,aa⟩,aa,.refl _,_,rfl,rfl,pT rfl rfl⟩
 ·simp at hg
open Go Go.Am.N AV ag ak IntKind Proofs.Tryz
def sN:aU:=[sG,(122,AT)]
def ID:Spec:=bY fun l=>match l with
 |[.mag 1]=>some (aI (.str [49]) [])
 |[.mag 2]=>some (aI (.str [50]) [])
 |[.mag 3]=>some (aI (.str [51]) [])
 |[.mag 4]=>some (aI (.str [52]) [])
 |_=>none
def Ah:aU:=[sG,(65,ID)]
theorem abg:bD T sN [] 60 f65 (aF f65) ⟨aT 0 [.mag 1],[],0⟩=
  let c1:Int:=(↑(1:Nat):Int);some (aj [nl 1<2^40,(0:Int)<1000000000,(1000000000:Int)<2^32] (aj [(10:Int)≠(0:Int),(0:Nat)<1/\1*((1:Nat)+1)*2<=2^47] (aj [(10:Int)≠(0:Int)] (aj [(0:Int)<=c1/\c1<=c1/\c1<=2^47/\c1*c1<=2^47] (leaf ret [str [UInt8.ofNat (u8.wrap (u32.wrap ((48:Int)+(↑((1:Nat)%Int.toNat (1000000000:Int)):Int).tmod (10:Int)))).toNat]]))))):=ah
theorem ad0:bD T sN [] 60 f65 (aF f65) ⟨aT 0 [.mag 2],[],0⟩=
  let c1:Int:=(↑(1:Nat):Int);some (aj [nl 2<2^40,(0:Int)<1000000000,(1000000000:Int)<2^32] (aj [(10:Int)≠(0:Int),(0:Nat)<1/\1*((1:Nat)+1)*2<=2^47] (aj [(10:Int)≠(0:Int)] (aj [(0:Int)<=c1/\c1<=c1/\c1<=2^47/\c1*c1<=2^47] (leaf ret [str [UInt8.ofNat (u8.wrap (u32.wrap ((48:Int)+(↑((2:Nat)%Int.toNat (1000000000:Int)):Int).tmod (10:Int)))).toNat]]))))):=ah
theorem Zc:bD T sN [] 60 f65 (aF f65) ⟨aT 0 [.mag 3],[],0⟩=
  let c1:Int:=(↑(1:Nat):Int);some (aj [nl 3<2^40,(0:Int)<1000000000,(1000000000:Int)<2^32] (aj [(10:Int)≠(0:Int),(0:Nat)<1/\1*((1:Nat)+1)*2<=2^47] (aj [(10:Int)≠(0:Int)] (aj [(0:Int)<=c1/\c1<=c1/\c1<=2^47/\c1*c1<=2^47] (leaf ret [str [UInt8.ofNat (u8.wrap (u32.wrap ((48:Int)+(↑((3:Nat)%Int.toNat (1000000000:Int)):Int).tmod (10:Int)))).toNat]]))))):=ah
theorem Qb:bD T sN [] 60 f65 (aF f65) ⟨aT 0 [.mag 4],[],0⟩=
  let c1:Int:=(↑(1:Nat):Int);some (aj [nl 4<2^40,(0:Int)<1000000000,(1000000000:Int)<2^32] (aj [(10:Int)≠(0:Int),(0:Nat)<1/\1*((1:Nat)+1)*2<=2^47] (aj [(10:Int)≠(0:Int)] (aj [(0:Int)<=c1/\c1<=c1/\c1<=2^47/\c1*c1<=2^47] (leaf ret [str [UInt8.ofNat (u8.wrap (u32.wrap ((48:Int)+(↑((4:Nat)%Int.toNat (1000000000:Int)):Int).tmod (10:Int)))).toNat]]))))):=ah
theorem Y5:bD T Ah [] 60 f23 (aF f23) ⟨aT 0 [.agg [.bool false,.mag 1,.mag 2]],[],0⟩=
  some (leaf ret [str [(49:UInt8),(47:UInt8),(50:UInt8)]]):=ah
theorem aen:bD T Ah [] 60 f23 (aF f23) ⟨aT 0 [.agg [.bool false,.mag 1,.mag 4]],[],0⟩=
  some (leaf ret [str [(49:UInt8),(47:UInt8),(52:UInt8)]]):=ah
theorem QL:aZ P sN:=ct (aE Ld bA)
theorem abD:aY P ID 65:=by
 refine cJ fun K args r hk hs _=>?_
 have fin:∀{N:Nat} {t:ag (List AV)} {l:List UInt8},bD T sN [] 60 f65 (aF f65) ⟨aT 0 [.mag N],[],0⟩=some t->(t.all fun _ us=>fz us (.str l))->aO P 65 K [.mag N] [] (aI (.str l) []):=fun h1 h2=>
  bJ (r:=aI _ []) hT QL hm Ql rfl aV rfl 60 h1 (fun _=>h2) K []
 split at hs<;>simp only[ax,reduceCtorEq]at hs
 all_goals subst hs
 ·exact fin abg (by simp only[ag.all,au];exact⟨by decide,by decide,by decide,by decide,.refl _⟩)
 ·exact fin ad0 (by simp only[ag.all,au];exact⟨by decide,by decide,by decide,by decide,.refl _⟩)
 ·exact fin Zc (by simp only[ag.all,au];exact⟨by decide,by decide,by decide,by decide,.refl _⟩)
 ·exact fin Qb (by simp only[ag.all,au];exact⟨by decide,by decide,by decide,by decide,.refl _⟩)
theorem abl:aZ P Ah:=ct (aE abD bA)
theorem Kn.congr {n p:Nat} {k k':Nat->Rat} (h:Kn n p k) (e:∀i,i<n->k i=k' i):Kn n p k':=by
 have hp:=h.p1
 have hl:=h.len
 refine⟨h.p1,h.len,fun i hi=>?_,fun i hi=>?_,fun i h1 h2=>?_,fun i h1 h2=>?_⟩
 ·rw[<-e i aa,<-e (i+1) hi];exact h.sorted i hi
 ·rw[<-e i aa,<-e 0 aa];exact h.first i hi
 ·rw[<-e i h2,<-e (n-1) aa];exact h.last i h1 h2
 ·rw[<-e i aa,<-e (i+p) aa];exact h.mult i h1 h2
def Bg:aU:=[(54,Mz),(56,cO T (sG::j3) [] 60 f56),(55,cO T (sG::j3) [] 60 f55)]
def Fs:aU:=[(16,cO T (sG::Bg) [] 200 f16)]
def Mc:aU:=[(17,cO T (sG::j3) [] 60 f17),(27,cO T (sG::j3) [] 60 f27),(26,cO T (sG::j3) [] 60 f26),(98,cO T (sG::j3) [] 60 f98),(13,cO T (sG::j3) [100010,100017] 60 f13)]
theorem IA:aZ P Bg:=aE Qu (aE (cQ hT (ct kM) hm (aN func56) _ _) (aE (cQ hT (ct kM) hm (aN func55) _ _) bA))
theorem Q0:aZ P Fs:=aE (cQ hT (ct IA) hm (aN func16) _ _) bA
theorem NM:aZ P Mc:=aE (cQ hT (ct kM) hm (aN func17) _ _) (aE (cQ hT (ct kM) hm (aN func27) _ _) (aE (cQ hT (ct kM) hm (aN func26) _ _) (aE (cQ hT (ct kM) hm (aN func98) _ _) (aE (cQ hT (ct kM) hm (aN func13) _ _) bA))))
def WD (n:Nat) (f:Nat->AV) (a:Int):Int:=cy n (dY n f a)
def Jl (n:Nat) (f:Nat->AV) (a:Int):Nat->Int
 |0=>a
 |j+1=>WD n f (Jl n f a j)
theorem dG.wG {n:Nat} {f:Nat->AV} {a:Int} (h:dG n f a):∀j,dG n f (Jl n f a j)
 |0=>h
 |j+1=>(h.wG j).mq.next
theorem dG.gh {n:Nat} {f:Nat->AV} {a:Int} {p m:Nat} (h:dG n f a) (hp:1<=p):dG n f (XR n f a p m):=(Gj h hp _).2
theorem Q6:aW 109 f109:=aN func109
theorem abI:aW 70 f70:=aN func70
theorem Qm:aW 64 f64:=aN func64
def zM:aU:=nG::(37,fS kR kR sZ oe)::eO
def g8 (n:Nat) (k:Nat->Rat) (a b:Rat) (i:Nat):Rat:=a+(k i-k 0)/(k (n-1)-k 0)*(b-a)
def gJ (n:Nat) (k:Nat->Rat) (i:Nat):Rat:=k 0+k (n-1)-k (n-1-i)
abbrev nI (m:Nat) (k:Nat->Rat) (s:Nat):az:=⟨true,true,3,m,fun i=>.rat (k i) s⟩
abbrev vO:List Nat:=[0,4,5,6,7,8,17,18,19]
abbrev AR (n:Nat) (k:Nat->Rat) (s i:Nat):List AV:=[bp k n s,.ptr 0 0 3 0 [],.ptr 1 0 3 0 [],.nil,.int .i64 0,.own 2 3 0 i,bp k n s,.int .i64 n,.int .i64 i]
abbrev A5 (i:Nat) (x:Nat->Rat) (a b:Rat) (r w:Nat):aD:=[(2,nI i x w),(1,tP b r),(0,tP a r)]
abbrev wY:Code:=aF f109
abbrev vv:List Nat:=[0,4,6,7,8,10,11,12]
abbrev Bb (n:Nat) (k:Nat->Rat) (s i:Nat):List AV:=[bp k n s,.ptr 0 0 3 0 [],.nil,.int .i64 0,.ptr 1 0 3 0 [],.ptr 2 0 3 0 [],.own 3 3 0 i,.int .i64 i]
abbrev Dp (i:Nat) (x:Nat->Rat) (a f q:Rat) (r s u w:Nat):aD:=[(3,nI i x w),(2,tP q u),(1,tP f s),(0,tP a r)]
abbrev vY:Code:=aF f70
abbrev wE:List Nat:=[0,3,4]
abbrev we (n:Nat) (k:Nat->Rat) (s:Nat) (i:Nat) (j:Int):List AV:=[bp k n s,.own 0 3 0 i,.int .i64 j]
abbrev vq:Code:=aF f64
def j7 (n:Nat) (a b:Rat):Nat:=if b<=a then 0 else n
def jj (a b:Rat):Int:=if b<=a then 7 else 0
abbrev qm (n:Nat) (k:Nat->Rat) (a b:Rat) (w:Nat):AV:=.tuple [bp (g8 n k a b) (j7 n a b) w,.int .i64 (jj a b)]
theorem Yt {n s r:Nat} {k:Nat->Rat} {a b:Rat}:aM T zM [16] 60 vO (before wY [1,1,1,0,1]) ⟨aT 0 [bp k n s,.rat a r,.rat b r],[],0⟩=
  let c5:Prop:=r<2^42;let c4:AV:=ptr 0 0 (bK (rat a r)).size 0 [];let c3:AV:=ptr 4096 0 (bK (rat b r)).size 0 [];let c2:AV:=aq 3 n fun i=>rat (k i) s;let c1:List (Nat×az):=[(4096,az.mk false true (bK (rat b r)).size 1 fun x=>rat b r),(0,az.mk false true (bK (rat a r)).size 1 fun x=>rat a r)];some (aj [(0:Nat)<1,(0:Nat)<1,c5,c5] (fork (decide (cZ a b>=0)) (leaf ret ([c2,c4,c3,nil,int i64 7,tuple [],tuple [],tuple [],tuple []],c1)) (leaf normal ([c2,c4,c3,nil,int i64 0,nil,c2,int i64 (↑n:Int),int i64 0],c1)))):=ah
theorem PM {n s r w i:Nat} {k x:Nat->Rat} {a b:Rat}:aM T zM [20] 60 vO [part wY [1,1,1,0,1,0,0]] ⟨aH vO (AR n k s i),A5 i x a b r w,3⟩=
  let c13:Nat:=r+r+1;let c12:Int:=(↑n:Int);let c11:AV:=ptr 1 0 3 0 [];let c10:AV:=ptr 0 0 3 0 [];let c9:Nat:=Int.toNat (0:Int);let c8:Int:=(↑i:Int);let c7:Int:=(2:Int)^63;let c5:AV:=aq 3 n fun i=>rat (k i) s;let c4:Nat:=s+s+1;let c3:Prop:=0<1;let c2:List (Nat×az):=[((1:Nat),bN fun x=>rat b r),((0:Nat),bN fun x=>rat a r)];let c1:Nat:=2^42;let c15:Int:=c8+1;let c14:Prop:=(0:Int)<=0/\c9<n;let c6:Int:=c12-1;some (fork (decide (c8<c12)) (aj [(0:Int)<=c8/\c8.toNat<n,c3] (aj [c3,c14,s<c1,s<c1,-c7<=c6/\c6<c7,(0:Int)<=c6/\c6.toNat<n,c14,s<c1,s<c1,c4<c1,c4<c1,c3] (aj [c3,c3,c3,c3,r<c1,r<c1,c4+c4<c1,c13<c1,r<c1,c4+c4+c13<c1,(1:Nat)*3<=2^24,(i+1)*((56:Nat)+1)*2<=2^47] (aj [-c7<=c15/\c15<c7] (leaf normal ([c5,c10,c11,nil,int i64 0,own 147459 3 0 (i+1),c5,int i64 c12,int i64 c15],(147459,az.mk true true 3 (i+1) fun i_1=>if i_1<i then rat (x i_1) w else nth [rat (a+(k c8.toNat-k c9)/(k c6.toNat-k c9)*(b-a)) (r+(c4+c4+c13)+1)] (rat 0 1) (i_1-i+0))::c2)))))) (leaf (exit 0) ([c5,c10,c11,nil,int i64 0,own 2 3 0 i,c5,int i64 c12,int i64 c8],(2,az.mk true true 3 i fun i=>rat (x i) w)::c2))):=ah
theorem agC {n s r w i:Nat} {k x:Nat->Rat} {a b:Rat}:cR T zM [] 60 f109 [part wY [1,1,1,1]] ⟨aH vO (AR n k s i),A5 i x a b r w,3⟩=
  some (leaf ret [aq 3 i fun i=>rat (x (i+0)) w,int i64 0]):=ah
theorem OJ {n s r:Nat} {k:Nat->Rat} {a b:Rat}:aM T qN [16] 60 vv (before vY [1,1,1,1,1,0,1]) ⟨aT 0 [bp k n s,.rat a r,.rat b r],[],0⟩=
  let c8:AV:=rat 0 1;let c7:Nat:=Int.toNat (0:Int);let c6:AV:=aq 3 n fun i=>rat (k i) s;let c5:AV:=ptr 0 0 (bK (rat a r)).size 0 [];let c4:Nat×az:=(0,az.mk false true (bK (rat a r)).size 1 fun x=>rat a r);let c3:Int:=(↑n:Int)-1;let c2:Nat:=2^41;let c1:Prop:=0<1;some (aj [c1,c1,r<c2,r<c2] (fork (decide (cZ a b>=0)) (leaf ret ([c6,c5,nil,int i64 7,tuple [],tuple [],tuple [],tuple []],[c4])) (aj [(0:Int)<=0/\c7<n,-(2:Int)^63<=c3/\c3<2^63,(0:Int)<=c3/\c3.toNat<n,c1,c1] (aj [c1,c1,r<c2,r<c2,c1,c1,s<c2,s<c2,r+r+1<c2,s+s+1<c2,c1] (leaf normal ([c6,c5,nil,int i64 0,ptr 69632 0 3 0 [],ptr 114688 0 3 0 [],nil,int i64 0],[((114688:Nat),bN fun j=>if(j==0)=true then bK (Eb (b-a,r+r+1) (k c3.toNat-k c7,s+s+1))else c8),((69632:Nat),bN fun j=>if(j==0)=true then bK (rat (k c7) s)else c8),c4])))))):=ah
theorem Ti {n s r u w i:Nat} {k x:Nat->Rat} {a f q:Rat}:aM T qN [36] 60 vv [part vY [1,1,1,1,1,0,1,0,0]] ⟨aH vv (Bb n k s i),Dp i x a f q r s u w,4⟩=
  let c9:Nat:=s+s+1;let c8:AV:=aq 3 n fun i=>rat (k i) s;let c7:Prop:=0<1;let c6:AV:=ptr 2 0 3 0 [];let c5:AV:=ptr 1 0 3 0 [];let c4:AV:=ptr 0 0 3 0 [];let c3:Int:=(↑i:Int);let c2:Nat:=2^41;let c1:List (Nat×az):=[((2:Nat),bN fun x=>rat q u),((1:Nat),bN fun x=>rat f s),((0:Nat),bN fun x=>rat a r)];let c10:Int:=c3+1;some (fork (decide (c3<(↑n:Int))) (aj [c7,(0:Int)<=c3/\c3.toNat<n,c7,s<c2,s<c2,c7,c9<c2,u<c2,r<c2,c9+u<c2,(1:Nat)*3<=2^24,(i+1)*((56:Nat)+1)*2<=2^47] (aj [-(2:Int)^63<=c10/\c10<2^63] (leaf normal ([c8,c4,nil,int i64 0,c5,c6,own 65540 3 0 (i+1),int i64 c10],(65540,az.mk true true 3 (i+1) fun i_1=>if i_1<i then rat (x i_1) w else nth [rat (a+(k c3.toNat-f)*q) (r+(c9+u)+1)] (rat 0 1) (i_1-i+0))::c1)))) (leaf (exit 0) ([c8,c4,nil,int i64 0,c5,c6,own 3 3 0 i,int i64 c3],(3,az.mk true true 3 i fun i=>rat (x i) w)::c1))):=ah
theorem VD {n s r u w i:Nat} {k x:Nat->Rat} {a f q:Rat}:cR T qN [] 60 f70 [part vY [1,1,1,1,1,1]] ⟨aH vv (Bb n k s i),Dp i x a f q r s u w,4⟩=
  some (leaf ret [aq 3 i fun i=>rat (x (i+0)) w,int i64 0]):=ah
theorem aa5 {n s:Nat} {k:Nat->Rat}:aM T qN [] 60 wE (before vq [1,1,0,1]) ⟨aT 0 [bp k n s],[],0⟩=
  let c1:Int:=(↑n:Int)-1;some (aj [-(2:Int)^63<=c1/\c1<2^63] (leaf normal ([aq 3 n fun i=>rat (k i) s,nil,int i64 c1],[]))):=ah
theorem aaH {n s w i:Nat} {j:Int} {k x:Nat->Rat}:aM T qN [9] 60 wE [part vq [1,1,0,1,0,0]] ⟨aH wE (we n k s i j),[(0,nI i x w)],1⟩=
  let c4:AV:=aq 3 n fun i=>rat (k i) s;let c3:Nat:=2^41;let c2:Int:=(2:Int)^63;let c1:Int:=(↑n:Int)-1;some (fork (decide (j>=0)) (aj [(0:Int)<=0/\Int.toNat (0:Int)<n,-c2<=c1/\c1<c2,(0:Int)<=c1/\c1.toNat<n,s<c3,s<c3,(0:Int)<=j/\j.toNat<n,s+s+1<c3,s<c3,(1:Nat)*3<=2^24,(i+1)*((56:Nat)+1)*2<=2^47] (aj [-c2<=j-1/\j-1<c2] (leaf normal ([c4,own 77825 3 0 (i+1),int i64 (j-1)],[(77825,az.mk true true 3 (i+1) fun i_1=>if i_1<i then rat (x i_1) w else nth [rat (k (Int.toNat (0:Int))+k c1.toNat-k j.toNat) (s+s+1+s+1)] (rat 0 1) (i_1-i+0))])))) (leaf (exit 0) ([c4,own 0 3 0 i,int i64 j],[(0,az.mk true true 3 i fun i=>rat (x i) w)]))):=ah
theorem agH {n s w i:Nat} {j:Int} {k x:Nat->Rat}:cR T qN [] 60 f64 [part vq [1,1,1]] ⟨aH wE (we n k s i j),[(0,nI i x w)],1⟩=
  some (leaf ret [aq 3 i fun i=>rat (x (i+0)) w]):=ah
theorem Si:aZ P zM:=eV (aE (fY fun _ _ K hn=>u7 hn.1 hn.2 K) fq)
theorem Ng {n w:Nat} {k:Nat->Rat} {a b:Rat} (h:b<=a):fz [.nil,.int .i64 7] (qm n k a b w):=
 ⟨by unfold j7;rw[if_pos h];exact lO (by decide),bU (by unfold jj;rw[if_pos h]),trivial⟩
theorem Kb {n w:Nat} {k:Nat->Rat} {a b:Rat} (h:a<b):fz [bp (g8 n k a b) n w,.int .i64 0] (qm n k a b w):=by
 have h':¬b<=a:=Rat.not_le.2 h
 exact⟨by unfold j7;rw[if_neg h'];exact .refl _,bU (by unfold jj;rw[if_neg h']),trivial⟩
theorem YO {n s r w:Nat} {k:Nat->Rat} {a b:Rat} (h:4*s+3*r+4<=w) (hw:w<2^40) (hn1:1<=n) (hn:n<2^40) (K:Nat):aO P 109 K [bp k n s,.rat a r,.rat b r] [] (aI (qm n k a b w) []):=by
 have e0:((n:Int)-1).toNat=n-1:=aa
 refine iJ (r:=aI (qm n k a b w) []) hT Si hm Q6 rfl aV rfl [1,1,1,0,1] (i:=0) (y:=part wY [1,1,1,0,1,0,0]) (z:=part wY [1,1,1,1]) ah ah ah (f1:=[16]) (f2:=[20]) (f3:=[]) 60 vO 3
  (fun i:Nat=>AR n k s i) (fun i=>A5 i (g8 n k a b) a b r w) (fun i=>i<=n/\a<b) (fun i=>i=n/\a<b) (fun i=>n-i) (fun _=>⟨⟨_,Yt,?_⟩,fun i hi=>⟨_,PM,?_⟩,fun i hi=>⟨_,agC,?_⟩⟩) K []
 ·simp only[ag.all,au,bz,bF,rq]
  exact⟨aa,fun h1=>⟨_,ah,Ng h1⟩,fun h1=>⟨0,⟨aa,Rat.not_le.1 h1⟩,[(0,0),(1,4096)],rfl,rfl,rfl,lD rfl aa aa (bf (bf trivial))⟩⟩
 ·simp only[ag.all,au,bz,bF,bw,Nat.add_zero,Int.toNat_zero,e0]
  exact⟨fun h1=>⟨aa,aa,aa,aa,i+1,⟨aa,hi.2⟩,by dsimp only;omega,[(0,0),(1,1),(2,147459)],rfl,rfl,rfl,cI rfl rfl rfl (fun j hj=>oz (fun _ _=>rfl) rfl bq aa hj) (bf (bf trivial))⟩,
   fun h1=>⟨rfl,i,⟨aa,hi.2⟩,[(0,0),(1,1),(2,2)],rfl,rfl,rfl,cI rfl rfl rfl (fun j hj=>eH rfl rfl) (bf (bf trivial))⟩⟩
 ·obtain⟨rfl,hab⟩:=hi
  simp only[ag.all,au]
  exact Kb hab
theorem Yk {n s r w:Nat} {k:Nat->Rat} {a b:Rat} (h:4*s+3*r+4<=w) (hw:w<2^40) (hn1:1<=n) (hn:n<2^40) (K:Nat):aO P 70 K [bp k n s,.rat a r,.rat b r] [] (aI (qm n k a b w) []):=by
 have e0:((n:Int)-1).toNat=n-1:=aa
 refine iJ (r:=aI (qm n k a b w) []) hT LS hm abI rfl aV rfl [1,1,1,1,1,0,1] (i:=0) (y:=part vY [1,1,1,1,1,0,1,0,0]) (z:=part vY [1,1,1,1,1,1]) ah ah ah (f1:=[16]) (f2:=[36]) (f3:=[]) 60 vv 4
  (fun i:Nat=>Bb n k s i) (fun i=>Dp i (g8 n k a b) a (k 0) ((b-a)/(k (n-1)-k 0)) r s (2*r+2*s+2) w) (fun i=>i<=n/\a<b) (fun i=>i=n/\a<b) (fun i=>n-i) (fun _=>⟨⟨_,OJ,?_⟩,fun i hi=>⟨_,Ti,?_⟩,fun i hi=>⟨_,VD,?_⟩⟩) K []
 ·simp only[ag.all,au,bz,bF,rq,Int.toNat_zero,e0]
  exact⟨aa,fun h1=>⟨_,ah,Ng h1⟩,fun h1=>⟨aa,aa,0,⟨aa,Rat.not_le.1 h1⟩,[(0,0),(1,69632),(2,114688)],rfl,rfl,rfl,lD rfl aa aa (ff rfl rfl (.inr ⟨rfl,bI rfl aa⟩) (bf (bf trivial)))⟩⟩
 ·simp only[ag.all,au,bz,bF,bw,Nat.add_zero]
  exact⟨fun h1=>⟨aa,aa,i+1,⟨aa,hi.2⟩,by dsimp only;omega,[(0,0),(1,1),(2,2),(3,65540)],rfl,rfl,rfl,cI rfl rfl rfl (fun j hj=>oz (fun _ _=>rfl) (by simp only[g8,Rat.div_def];grind) bq aa hj) (bf (bf (bf trivial)))⟩,
   fun h1=>⟨rfl,i,⟨aa,hi.2⟩,[(0,0),(1,1),(2,2),(3,3)],rfl,rfl,rfl,cI rfl rfl rfl (fun j hj=>eH rfl rfl) (bf (bf (bf trivial)))⟩⟩
 ·obtain⟨rfl,hab⟩:=hi
  simp only[ag.all,au]
  exact Kb hab
theorem UC {n s w:Nat} {k:Nat->Rat} (h:3*s+2<=w) (hw:w<2^40) (hn:n<2^40) (K:Nat):aO P 64 K [bp k n s] [] (aI (bp (gJ n k) n w) []):=by
 refine iJ (r:=aI (bp (gJ n k) n w) []) hT LS hm Qm rfl aV rfl [1,1,0,1] (i:=0) (y:=part vq [1,1,0,1,0,0]) (z:=part vq [1,1,1]) ah ah ah (f1:=[]) (f2:=[9]) (f3:=[]) 60 wE 1
  (fun i:Nat=>we n k s i ((n:Int)-1-i)) (fun i=>[(0,nI i (gJ n k) w)]) (fun i=>i<=n) (fun i=>i=n) (fun i=>n-i) (fun _=>⟨⟨_,aa5,?_⟩,fun i hi=>⟨_,aaH,?_⟩,fun i hi=>⟨_,agH,?_⟩⟩) K []
 ·simp only[ag.all,au]
  exact⟨aa,0,aa,[],rfl,by show _=(we n k s 0 ((n:Int)-1-((0:Nat):Int))).map _;rw[show(n:Int)-1-((0:Nat):Int)=(n:Int)-1 by omega];rfl,rfl,lD rfl aa aa trivial⟩
 ·simp only[ag.all,au,bz,bF,bw,Nat.add_zero,Int.toNat_zero]
  refine⟨fun h1=>⟨aa,aa,i+1,aa,by dsimp only;omega,[(0,77825)],rfl,by show _=(we n k s (i+1) ((n:Int)-1-((i+1:Nat):Int))).map _;rw[show(n:Int)-1-((i+1:Nat):Int)=(n:Int)-1-i-1 by omega];rfl,rfl,cI rfl rfl rfl (fun j hj=>oz (fun _ _=>rfl) ?_ bq aa hj) trivial⟩,
   fun h1=>⟨rfl,i,aa,[(0,0)],rfl,rfl,rfl,cI rfl rfl rfl (fun j hj=>eH rfl rfl) trivial⟩⟩
  rw[show((n:Int)-1-i).toNat=n-1-i by omega,show((n:Int)-1).toNat=n-1 by omega];rfl
 ·subst hi
  simp only[ag.all,au]
  exact .refl _
def xZ (s r w:Nat):Spec:=cP (kC (kL s) (kC (eI r) (kC (eI r) kN))) (fun a=>qm a.1.1 a.1.2 a.2.1 a.2.2.1 w) fun a=>[1<=a.1.1,a.1.1<2^40]
theorem WC {s r w:Nat} (h:4*s+3*r+4<=w) (hw:w<2^40):aY P (xZ s r w) 109:=cC fun⟨⟨n,k⟩,a,b,_⟩ K hn=>YO h hw hn.1 hn.2 K
theorem O0 {s r w:Nat} (h:4*s+3*r+4<=w) (hw:w<2^40):aY P (xZ s r w) 70:=cC fun⟨⟨n,k⟩,a,b,_⟩ K hn=>Yk h hw hn.1 hn.2 K
def zN (s w:Nat):Spec:=cP (kC (kL s) kN) (fun a=>bp (gJ a.1.1 a.1.2) a.1.1 w) fun a=>[a.1.1<2^40]
theorem WY {s w:Nat} (h:3*s+2<=w) (hw:w<2^40):aY P (zN s w) 64:=cC fun⟨⟨n,k⟩,_⟩ K hn=>UC h hw hn K
theorem Hf:aW 18 f18:=aN func18
theorem agc:aW 29 f29:=aN func29
theorem X7:aW 7 f7:=aN func7
def G0:Spec:=nM fun K l=>match l with
 |[.aq 1 n f]=>match xu n f with
  |true=>some (aI (.aq 3 n (fun i=>.rat ((intOf (f i):Int):Rat) 64)) [])
  |false=>none
 |_=>none
def EW:aU:=sG::(54,G0)::(55,cO T (sG::j3) [] 60 f55)::[]
abbrev bk (i:Nat):Rat:=if i<2 then 0 else 1
abbrev mo (i:Nat):Rat:=if i<2 then 2 else 5
abbrev dJ (a b:V3) (w:Rat) (i:Nat):Pl:=if i=0 then⟨a,w⟩else⟨b,1⟩
abbrev lnO (a b:V3) (w:Rat):az:=⟨true,true,12,2,fun i=>aK (dJ a b w i) 300⟩
def Fp:Spec:=nM fun K l=>match l with
 |[a,b]=>match(nO 300).read a,(nO 300).read b with
  |some (a,q),some (b,p)=>some ⟨js [.agg [.int .i64 1,bp bk 4 64,.own K 12 0 2]],[(K,lnO a b 1)],q++p⟩
  |_,_=>none
 |_=>none
def Gv:Spec:=cP (kC (gE 64 1000) (kC (eI 64) (kC (eI 64) kN))) (fun a=>.tuple [bh (aG mo a.1.f) 1000 1000,.int .i64 0]) fun a=>[a.1.p=1,a.1.n=4,a.1.m=2,∀i,i<4->a.1.k i=bk i,a.2.1=2,a.2.2.1=5]
def jx (n:Nat) (f:Nat->AV) (a:Int):V3:=⟨fK n f a,fK n f (eZ n f a),fK n f (eZ n f (eZ n f a))⟩
def L4 (n:Nat) (f:Nat->AV) (a:Int):V3:=kO (jx n f a) (gW (fK n f (cy n (dY n f (dY n f (dY n f (dY n f a)))))) (bV (jx n f (dY n f a)) (jx n f a)))
def MF (n:Nat) (f:Nat->AV) (a:Int):V3:=kO (jx n f a) (gW (fK n f (eZ n f (cy n (dY n f (dY n f (dY n f (dY n f a))))))) (bV (jx n f (dY n f a)) (jx n f a)))
def qc (n:Nat) (f:Nat->AV) (a:Int):Int:=eo n f (dY n f (dY n f (dY n f (dY n f a)))) 4
def q9 (n:Nat) (f:Nat->AV) (a:Int):Int:=if qc n f a>0 then eZ n f (eZ n f (cy n (dY n f (dY n f (dY n f (dY n f a))))))else cy n (dY n f (dY n f (dY n f (dY n f a))))
def cH (n:Nat) (f:Nat->AV) (a:Int):Cu:=aG bk (dJ (jx n f a) (jx n f (dY n f a)) (if eo n f (q9 n f a) 6=5 then 2 else 1))
def d20 (n:Nat) (f:Nat->AV) (a:Int):Cu:=aG (if eo n f (cy n (q9 n f a)) 3=2 then mo else bk) (dJ (if qc n f a>0 then(if qc n f a=2 then jx n f (dY n f a)else L4 n f a)else jx n f (dY n f (dY n f a))) (if qc n f a>0 then MF n f a else jx n f (dY n f (dY n f (dY n f a)))) 1)
def A7 (n:Nat) (f:Nat->AV) (a:Int) (l:List AV):Option (AV×Int×List Prop):=match l with
 |[]=>some (.tuple [bh (cH n f a) 1000 1000,bh (d20 n f a) 1000 1000],cy n (cy n (q9 n f a)),[])
 |_=>none
def ED:aU:=nG::(70,xZ 64 64 1000)::[]
def FI:aU:=sG::(24,kK DM)::(25,kK Ad)::(28,kK sW)::(18,Fp)::(29,Gv)::BK
theorem aaR {n i:Nat} {z:Nat->Int}:cR T sH [] 60 f54 [part m7 [1,1,1]] ⟨aH nJ (wQ n z (.own 0 3 0 (i+1)) ((i+1:Nat):Int)),[(0,vk (i+1) z)],1⟩=
  some (leaf ret [aq 3 (i+1) fun i=>rat (↑(z (i+0)):Rat) 64]):=ah
theorem abv {a b:V3}:aM T EW [] 200 [4] [aF f18] ⟨aT 0 [vA a 300,vA b 300],[],0⟩=
  let c4:AV:=int i64 1;let c3:AV:=int i64 0;let c2:AV:=rat 0 1;let c1:AV:=rat (↑(1:Int):Rat) (Max.max 1 (bO (Int.natAbs (1:Int))));some (aj [(0:Nat)<1,(0:Nat)<1] (leaf ret ([ptr 8192 0 3 0 []],[(36864,az.mk true true 12 2 fun i=>nth [agg [agg [rat a.x 300,rat a.y 300,rat a.z 300],c1],agg [agg [rat b.x 300,rat b.y 300,rat b.z 300],c1]] (agg [agg [c2,c2,c2],c2]) i),((8192:Nat),bN fun j=>if(j==0)=true then bK (agg ((((agg [c3,nil,nil]).kids.set 0 (bK c4)).set 1 (bK (aq 3 4 fun i=>rat (↑(intOf (nth [c3,c3,c4,c4] c3 (i+0))):Rat) 64))).set 2 (bK (own (nat_lit 36863+1) 12 0 2))))else agg [c3,nil,nil])]))):=ah
theorem ad1 {c:Cu} {a b:Rat}:bD T ED [19] 60 f29 (aF f29) ⟨aT 0 [bh c 64 1000,.rat a 64,.rat b 64],[],0⟩=
  let c1:Prop:=0<1;some (aj [c1,c1,c1,bT (fun i=>rat (c.k i) 64) c.n 64,(64:Nat)<=64,(64:Nat)<=64,(1:Nat)<=c.n,c.n<2^40] (fork (jj a b !=(0:Int)) (aj [c1] (aj [c1] (leaf ret [agg [int i64 0,nil,nil],int i64 (jj a b)]))) (aj [c1,(0:Nat)*12<=2^24,c1,((0:Nat)+c.m)*((224:Nat)+1)*2<=2^47,c1] (aj [c1] (leaf ret [agg [int i64 c.p,aq 3 (j7 c.n a b) fun i=>rat (g8 c.n (fun i=>aC (rat (c.k i) 64)) a b i) 1000,aq 12 ((0:Nat)+c.m) fun i=>agg [agg [rat (c.f (i+0-0)).n.x 1000,rat (c.f (i+0-0)).n.y 1000,rat (c.f (i+0-0)).n.z 1000],rat (c.f (i+0-0)).d 1000]],int i64 0]))))):=ah
theorem S8 {n:Nat} {z:Nat->Int} {a:Int}:qf T FI [23,40,50,58] 200 f7 (aF f7) ⟨aT 0 [.ptr 0 0 2 0 []],[(0,iK n (fun i=>.int .i64 (z i)) a)],1⟩=
  let c57:AV:=aq 1 n fun i=>int i64 (z i);let c56:Nat:=Max.max 1 (bO (Int.natAbs (2:Int)));let c44:Nat:=Max.max 64 (Max.max 64 64);let c40:AV:=int i64 1;let c39:AV:=aq 3 4 fun i=>rat (mo i) 1000;let c38:Int:=(2:Int)^62;let c35:Int:=dY n (fun i=>int i64 (z i)) a;let c34:Rat:=fK n (fun i=>int i64 (z i)) a;let c31:Nat:=Int.toNat (0:Int)+0;let c30:AV:=aq 3 4 fun i=>rat (bk i) 64;let c29:Prop:=bT (fun i=>rat (bk i) 64) 4 64;let c26:Rat:=fK n (fun i=>int i64 (z i)) (eZ n (fun i=>int i64 (z i)) a);let c21:List Prop:=[(0:Nat)<1,(0:Nat)<1];let cH:Rat:=fK n (fun i=>int i64 (z i)) (eZ n (fun i=>int i64 (z i)) (eZ n (fun i=>int i64 (z i)) a));let c19:Prop:=64<=300;let c59:List Prop:=[(0:Int)<6,(6:Int)<c38];let c52:Rat:=fK n (fun i=>int i64 (z i)) c35;let c28:Int:=eZ n (fun i=>int i64 (z i)) c35;let c15:Nat:=c44+c44+1;let c12:V3:=V3.mk c34 c26 cH;let c11:List Prop:=[c56<=64,Max.max 1 (bO (Int.natAbs (5:Int)))<=64,(1:Int)=1,(4:Nat)=4,(2:Nat)=2,∀(i:Nat),i<4->aC (rat (bk i) 64)=bk i,(↑(2:Int):Rat)=2,(↑(5:Int):Rat)=5];let c6:Int:=dY n (fun i=>int i64 (z i)) c35;let c53:Rat:=fK n (fun i=>int i64 (z i)) c28;let c48:Nat:=64+Max.max c15 (Max.max c15 c15);let c37:Int:=dY n (fun i=>int i64 (z i)) c6;let c36:Rat:=fK n (fun i=>int i64 (z i)) (eZ n (fun i=>int i64 (z i)) c28);let c9:V3:=V3.mk (fK n (fun i=>int i64 (z i)) c6) (fK n (fun i=>int i64 (z i)) (eZ n (fun i=>int i64 (z i)) c6)) (fK n (fun i=>int i64 (z i)) (eZ n (fun i=>int i64 (z i)) (eZ n (fun i=>int i64 (z i)) c6)));let c60:Int:=eZ n (fun i=>int i64 (z i)) c37;let c13:Int:=dY n (fun i=>int i64 (z i)) c37;let c7:V3:=V3.mk c52 c53 c36;let c5:Prop:=c44+Max.max c48 (Max.max c48 c48)+1<=300;let c54:Int:=cy n c13;let c46:Int:=eo n (fun i=>int i64 (z i)) c13 (4:Int);let c8:V3:=V3.mk (fK n (fun i=>int i64 (z i)) c37) (fK n (fun i=>int i64 (z i)) c60) (fK n (fun i=>int i64 (z i)) (eZ n (fun i=>int i64 (z i)) c60));let c4:AV:=agg [c40,c30,aq 12 2 fun i=>agg [agg [rat (dJ c12 c7 1 (i+0)).n.x 300,rat (dJ c12 c7 1 (i+0)).n.y 300,rat (dJ c12 c7 1 (i+0)).n.z 300],rat (dJ c12 c7 1 (i+0)).d 300]];let c3:AV:=agg [c40,c30,aq 12 2 fun i=>agg [agg [rat (bif i+0==c31 then c34 else(dJ c12 c7 1 (i+0)).n.x) (bif i+0==c31 then 300 else 300),rat (bif i+0==c31 then c26 else(dJ c12 c7 1 (i+0)).n.y) (bif i+0==c31 then 300 else 300),rat (bif i+0==c31 then cH else(dJ c12 c7 1 (i+0)).n.z) (bif i+0==c31 then 300 else 300)],rat (bif i+0==c31 then(↑(2:Int):Rat)else(dJ c12 c7 1 (i+0)).d) (bif i+0==c31 then c56 else 300)]];let c58:Prop:=dG n (fun i=>int i64 (z i)) c54;let c49:Bool:=eo n (fun i=>int i64 (z i)) (cy n c54) (3:Int)==2;let c47:Rat:=fK n (fun i=>int i64 (z i)) c54;let c45:List Prop:=[dG n (fun i=>int i64 (z i)) (cy n c54),(0:Int)<3,(3:Int)<c38];let c41:List Prop:=c29::dU (fun i=>aK (dJ c9 c8 1 (i+0)) 300) 2 1000::c11;let c33:Int:=eZ n (fun i=>int i64 (z i)) c54;let c25:Option az:=some (az.mk false true 2 1 fun x=>agg [c57,int i64 (cy n (cy n c54))]);let c24:List AV:=[agg [c40,c30,aq 12 2 fun i=>agg [agg [rat (dJ c9 c8 1 (i+0)).n.x 300,rat (dJ c9 c8 1 (i+0)).n.y 300,rat (dJ c9 c8 1 (i+0)).n.z 300],rat (dJ c9 c8 1 (i+0)).d 300]]];let c17:List AV:=[agg [c40,c39,aq 12 2 fun i=>agg [agg [rat (aC (rat (dJ c9 c8 1 (i+0)).n.x 300)) 1000,rat (aC (rat (dJ c9 c8 1 (i+0)).n.y 300)) 1000,rat (aC (rat (dJ c9 c8 1 (i+0)).n.z 300)) 1000],rat (aC (rat (dJ c9 c8 1 (i+0)).d 300)) 1000]]];let c51:Rat:=fK n (fun i=>int i64 (z i)) c33;let c10:Int:=eZ n (fun i=>int i64 (z i)) c33;let c2:V3:=V3.mk (c34+c47*(c52-c34)) (c26+c47*(c53-c26)) (cH+c47*(c36-cH));let c55:Bool:=eo n (fun i=>int i64 (z i)) c10 (6:Int)==5;let c50:List Prop:=dG n (fun i=>int i64 (z i)) c10::c59;let c32:Bool:=eo n (fun i=>int i64 (z i)) (cy n c10) (3:Int)==2;let c27:List Prop:=[dG n (fun i=>int i64 (z i)) (cy n c10),(0:Int)<3,(3:Int)<c38];let c14:Option az:=some (az.mk false true 2 1 fun x=>agg [c57,int i64 (cy n (cy n c10))]);let c1:V3:=V3.mk (c34+c51*(c52-c34)) (c26+c51*(c53-c26)) (cH+c51*(c36-cH));let c43:List Prop:=c29::dU (fun i=>aK (dJ c7 c1 1 (i+0)) 300) 2 1000::c11;let c42:List Prop:=c29::dU (fun i=>aK (dJ c2 c1 1 (i+0)) 300) 2 1000::c11;let c23:List AV:=[agg [c40,c30,aq 12 2 fun i=>agg [agg [rat (dJ c2 c1 1 (i+0)).n.x 300,rat (dJ c2 c1 1 (i+0)).n.y 300,rat (dJ c2 c1 1 (i+0)).n.z 300],rat (dJ c2 c1 1 (i+0)).d 300]]];let c22:List AV:=[agg [c40,c30,aq 12 2 fun i=>agg [agg [rat (dJ c7 c1 1 (i+0)).n.x 300,rat (dJ c7 c1 1 (i+0)).n.y 300,rat (dJ c7 c1 1 (i+0)).n.z 300],rat (dJ c7 c1 1 (i+0)).d 300]]];let c18:List AV:=[agg [c40,c39,aq 12 2 fun i=>agg [agg [rat (aC (rat (dJ c2 c1 1 (i+0)).n.x 300)) 1000,rat (aC (rat (dJ c2 c1 1 (i+0)).n.y 300)) 1000,rat (aC (rat (dJ c2 c1 1 (i+0)).n.z 300)) 1000],rat (aC (rat (dJ c2 c1 1 (i+0)).d 300)) 1000]]];let c16:List AV:=[agg [c40,c39,aq 12 2 fun i=>agg [agg [rat (aC (rat (dJ c7 c1 1 (i+0)).n.x 300)) 1000,rat (aC (rat (dJ c7 c1 1 (i+0)).n.y 300)) 1000,rat (aC (rat (dJ c7 c1 1 (i+0)).n.z 300)) 1000],rat (aC (rat (dJ c7 c1 1 (i+0)).d 300)) 1000]]];some (aj [dG n (fun i=>int i64 (z i)) a,dG n (fun i=>int i64 (z i)) c35,dG n (fun i=>int i64 (z i)) c6,dG n (fun i=>int i64 (z i)) c37] (aj [dG n (fun i=>int i64 (z i)) c13,(0:Int)<4,(4:Int)<c38] (fork (decide (c46>0)) (aj [c58,dG n (fun i=>int i64 (z i)) c33] (fork (c46==2) (aj [c19,c19,c19,c19,c19,c19,c19,c19,c19,c5,c5,c5] (aj c50 (fork c55 (aj c27 (fork c32 (aj c43 (aj c21 (leaf ret (c3::c16,c14)))) (aj c21 (leaf ret (c3::c22,c14))))) (aj c27 (fork c32 (aj c43 (aj c21 (leaf ret (c4::c16,c14)))) (aj c21 (leaf ret (c4::c22,c14)))))))) (aj [c19,c19,c19,c19,c19,c19,c5,c5,c5,c5,c5,c5] (aj c50 (fork c55 (aj c27 (fork c32 (aj c42 (aj c21 (leaf ret (c3::c18,c14)))) (aj c21 (leaf ret (c3::c23,c14))))) (aj c27 (fork c32 (aj c42 (aj c21 (leaf ret (c4::c18,c14)))) (aj c21 (leaf ret (c4::c23,c14)))))))))) (aj [c19,c19,c19,c19,c19,c19,c19,c19,c19,c19,c19,c19] (aj (c58::c59) (fork (eo n (fun i=>int i64 (z i)) c54 (6:Int)==5) (aj c45 (fork c49 (aj c41 (aj c21 (leaf ret (c3::c17,c25)))) (aj c21 (leaf ret (c3::c24,c25))))) (aj c45 (fork c49 (aj c41 (aj c21 (leaf ret (c4::c17,c25)))) (aj c21 (leaf ret (c4::c24,c25))))))))))):=ah
theorem UZ:aY P G0 54:=by
 refine qS fun K args r hk hs=>?_
 split at hs
 ·rename_i n f
  split at hs
  ·rename_i h1
   obtain⟨a1,a2,a3,a4⟩:=K1 h1
   simp only[ax]at hs
   subst hs
   refine eW (ji (r:=aI (.aq 3 n (fun i=>.rat ((intOf (f i):Int):Rat) 64)) []) hT DG rfl aV rfl (fun _ c h0=>I0 a1 aa a3 c (v5 h0) ?_) K []) hk a4 []
   obtain⟨m,rfl⟩:∃m,n=m+1:=⟨n-1,aa⟩
   refine ay.rF ((aJ.fin hT Ed hm 60 aaR ah ?_).mono fun _ _ h=>.inl h)
   simp only[ag.all,au]
   exact .refl _
  ·simp at hs
 ·simp at hs
theorem abW:aZ P EW:=ct (aE UZ (aE (cQ hT (ct kM) hm (aN func55) _ _) bA))
theorem Qy:aY P Fp 18:=by
 refine qS fun K args r hk hs=>?_
 split at hs
 ·rename_i u v
  split at hs
  ·rename_i a q b p hu hv
   simp only[ax]at hs
   subst hs
   refine Tn hT Hf (args0:=[vA a 300,vA b 300]) (fun hn=>ru hk (by cases u<;>cases v<;>first|rfl|simp[nO,oO]at hu hv) ⟨(nO 300).ok hu (dP.1 hn).1,(nO 300).ok hv (dP.1 hn).2,trivial⟩) aV fun hn c hkp=>?_
   refine ay.bE hT abW hm 200 [4] abv ah ?_
   simp only[ag.all,au]
   refine⟨⟨aa,aa⟩,fun s' hs'=>⟨.inr trivial,[4],_,[.agg [.int .i64 1,.aq 3 4 (fun i=>.rat ((intOf (nth [.int .i64 0,.int .i64 0,.int .i64 1,.int .i64 1] (.int .i64 0) (i+0)):Int):Rat) 64),.own 36864 12 0 2]],[0<1],_,36864,_,hs',ah,Nat.zero_lt_one,⟨⟨rfl,FO ⟨aQ,⟨rfl,kA rfl ?_⟩,⟨rfl,dw (by simp[bB,look]) rfl rfl⟩,trivial⟩⟩,trivial⟩,rfl,iX rfl fun i hi=>?_⟩⟩
   ·refine dI fun i hi=>?_
    match i,hi with
    |0,_|1,_|2,_|3,_=>exact bI (by decide+kernel) (by decide)
   ·match i,hi with
    |0,_|1,_=>exact kA rfl (cz ⟨cz ⟨.refl _,.refl _,.refl _,trivial⟩,bI rfl (by decide+kernel),trivial⟩)
  ·simp at hs
 ·simp at hs
theorem XI:aZ P ED:=eV (aE (O0 (by decide) (by decide)) bA)
theorem adP:aY P Gv 29:=cC fun⟨c,a,b,_⟩ K hn=>by
 obtain⟨h1,h2,h3,h4,h5,h6⟩:c.p=1/\c.n=4/\c.m=2/\(∀i,i<4->c.k i=bk i)/\a=2/\b=5:=hn
 dsimp only
 rw[h5,h6]
 refine bJ (r:=aI (.tuple [bh (aG mo c.f) 1000 1000,.int .i64 0]) []) hT XI hm agc rfl aV rfl 60 ad1 (fun _=>?_) K []
 have e0:jj 2 5=0:=by decide+kernel
 have e1:j7 c.n 2 5=4:=by rw[h2];decide+kernel
 simp only[ag.all,au,e0,e1,h1,h3]
 refine⟨⟨aa,aa,aa,dh bq,aa,aa,aa,aa⟩,fun h=>absurd h (by decide),fun _=>⟨⟨aa,aa,aa,aa,aa⟩,aa,?_⟩⟩
 refine⟨cz ⟨.refl _,dI fun i hi=>bI ?_ bq,.refl _,trivial⟩,.refl _,trivial⟩
 show(2:Rat)+(c.k i-c.k 0)/(c.k (c.n-1)-c.k 0)*(5-2)=mo i
 rw[h2,h4 i hi,h4 0 (by decide),h4 (4-1) (by decide)]
 match i,hi with
 |0,_|1,_|2,_|3,_=>decide+kernel
theorem VW:aZ P FI:=ct (aE R6 (aE JA (aE RM (aE Qy (aE adP FB)))))
theorem HP {F G:Nat->AV} {k:Nat->Rat} {p:Nat->Pl} (h1:∀i,i<4->bg (F i) (.rat (k i) 1000)) (h2:∀i,i<2->bg (G i) (aK (p i) 1000)):bg (.agg [.int .i64 1,.aq 3 4 F,.aq 12 2 G]) (bh (aG k p) 1000 1000):=
 cz ⟨.refl _,dI h1,dI h2,trivial⟩
theorem Ew {x y z d:Rat} {a b c e:Nat} {q:Pl} (h1:x=q.n.x) (h2:y=q.n.y) (h3:z=q.n.z) (h4:d=q.d) (ka:a<=1000) (kb:b<=1000) (kc:c<=1000) (ke:e<=1000):bg (.agg [.agg [.rat x a,.rat y b,.rat z c],.rat d e]) (aK q 1000):=
 cz ⟨cz ⟨bI h1 ka,bI h2 kb,bI h3 kc,trivial⟩,bI h4 ke,trivial⟩
theorem abN {k n:Nat} {z:Nat->Int} {a:Int} {o:az} (ho:∀ρ,dZ ρ o (iK n (fun i=>.int .i64 (z i)) a)) (h:dG n (fun i=>.int .i64 (z i)) a) (K:Nat):
  aO P 7 K [.ptr k 0 2 0 []] [(k,o)] ⟨.tuple [bh (cH n (fun i=>.int .i64 (z i)) a) 1000 1000,bh (d20 n (fun i=>.int .i64 (z i)) a) 1000 1000],[(k,iK n (fun i=>.int .i64 (z i)) (cy n (cy n (q9 n (fun i=>.int .i64 (z i)) a))))],[]⟩:=by
 refine vm hT VW hm X7 rfl rfl aV ho 200 S8 (fun _=>?_) K
 have d4:=h.mq.mq.mq.mq
 have t2:(2:Int)>0:=by decide
 simp only[ag.all,au,bz,bF,beq_iff_eq,beq_eq_false_iff_ne,ne_eq]
 (repeat' with_reducible first|refine And.intro ?_ ?_|intro _)
 all_goals first|(with_reducible first|exact h|exact h.mq|exact h.mq.mq|exact h.mq.mq.mq|exact d4|exact d4.next|exact d4.next.number|exact d4.next.number.number|exact d4.next.number.number.next|exact d4.next.next|rfl|exact dh bq|exact jb (by decide))|omega|skip
 all_goals first|exact trivial|(with_reducible exact v8)|(with_reducible decide+kernel)|skip
 all_goals first|exact⟨_,rfl,rfl,pT rfl (by unfold q9 qc;simp only[*,if_true,if_false,eq_self])⟩|skip
 all_goals
  simp only [cH, d20, q9, qc, *, if_true, if_false, eq_self]
  exact⟨HP (fun i hi=>bI rfl (by decide+kernel)) (fun i hi=>by
   match i,hi with
   |0,_|1,_=>exact Ew rfl rfl rfl rfl (by decide+kernel) (by decide+kernel) (by decide+kernel) (by decide+kernel)),HP (fun i hi=>bI rfl (by decide+kernel)) (fun i hi=>by
   match i,hi with
   |0,_|1,_=>exact Ew rfl rfl rfl rfl (by decide+kernel) (by decide+kernel) (by decide+kernel) (by decide+kernel)),trivial⟩
theorem aai:aY P (kK A7) 7:=by
 refine vU fun {k n z a l v b q o} K hg ho hd hq=>?_
 unfold A7 at hg
 split at hg
 ·simp only[ax,Prod.mk.injEq]at hg
  obtain⟨rfl,rfl,rfl⟩:=hg
  exact abN ho hd K
 ·simp at hg
end Go.Am.B
