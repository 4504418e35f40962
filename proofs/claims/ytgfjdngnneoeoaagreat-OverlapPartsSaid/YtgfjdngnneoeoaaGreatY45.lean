/- slices.Insert of one number uZ a list of just its capacity; gm.Insert, ref08.Insert. -/
import Derived.Test.YtgfjdngnneoeoaaGreatY42
import Derived.Test.YtgfjdngnneoeoaaGreatY44
import Derived.Test.YtgfjdngnneoeoaaGreatY41
import Derived.Test.YtgfjdngnneoeoaaGreatZ2
set_option linter.unusedVariables false
noncomputable section
namespace Go.Am.B
open Go Go.Am.N AV ag aq IntKind Proofs.Tryz
theorem abK {c:Nat} {u v:AV} (hv:v.isAgg=false) (h:bp u v):bp (.bS c u) (.bS c v):=by
 refine⟨rfl,fun M w cs hc=>?_⟩
 cases hc with
 |bS _ h1 h2=>cases h2;exact .bS hv (h.2 _ _ _ h1) .nil
def QS (s:Nat):Kind (Nat×(Nat->Rat)):=⟨fun v=>match v with
 |.bS c v=>match(kL s).read v with
  |some (a,q)=>some (a,(c=a.1)::q)
  |none=>none
 |_=>none,fun a=>.bS a.1 (bq a.2 a.1 s),fun {v a q} h hq=>by
  split at h
  ·split at h
   ·rename_i h1
    simp only[ax,Prod.mk.injEq]at h
    obtain⟨rfl,rfl⟩:=h
    obtain⟨q1,q2⟩:=AY.1 hq
    subst q1
    exact abK rfl ((kL s).ok h1 q2)
   ·simp at h
  ·simp at h⟩
abbrev zW:FuncId:=153
abbrev EB:Func:=f153
def gP (k:Nat->Rat) (t:Rat):Nat->Nat
 |0=>0
 |n+1=>if gP k t n=n/\k n<=t then n+1 else gP k t n
def js (k:Nat->Rat) (t:Rat) (p j:Nat):Rat:=if j<p then k j else if j=p then t else k (j-1)
abbrev uO:List Nat:=[3,9,10,11]
abbrev DB (n:Nat) (k:Nat->Rat) (s i:Nat):List AV:=[.bS n (.own 0 3 0 i),bq k n s,.int .i64 n,.int .i64 i]
abbrev yL:aV:=cG::eV
abbrev uL:List Nat:=[0,3,5]
abbrev Cs (n:Nat) (k:Nat->Rat) (s i:Nat):List AV:=[bq k n s,.ptr 0 0 3 0 [],.int .i64 i]
abbrev uX:Code:=aF f114
def Jh (w:Nat):Spec:=cF (kC (QS w) (kC kI (kC (kL w) kN))) (fun a=>bq (js a.1.2 (a.2.2.1.2 0) a.2.1.toNat) (a.1.1+1) w) fun a=>[0<=a.2.1,a.2.1<=a.1.1,a.2.2.1.1=1,a.1.1<2^40]
def Ow (s w:Nat):Spec:=cF (kC (kL s) kN) (fun a=>.bS a.1.1 (bq a.1.2 a.1.1 w)) fun a=>[a.1.1<2^40]
def yt (s w:Nat):aV:=cG::(152,Ow s w)::(zW,Jh w)::eV
theorem Zg:aX zW EB:=aM func153
theorem Xm:aX 114 f114:=aM func114
theorem ag8 {n i s:Nat} {k:Nat->Rat} {t:Rat}:bF T [cG] [22,100031] 60 EB (aF EB) ⟨aS 0 [.bS n (bq k n s),.int .i64 i,bq (fun _=>t) 1 s],[],0⟩=
  let c11:Nat:=Int.toNat (0:Int);let c9:Int:=(↑n:Int);let c7:Int:=(2:Int)^63;let c4:Int:=(↑i:Int);let c14:Nat:=c4.toNat-c11;let c13:Prop:=(0:Int)<=c4;let c12:Nat:=0+c4.toNat;let c3:Int:=c9+(↑(1:Nat):Int);let c2:Int:=c4+(↑(1:Nat):Int);let c10:Nat:=0+c2.toNat;let c1:Nat:=c14+(c3-c4).toNat;let c8:Int:=(↑c1:Int);let c6:Nat:=c12+Min.min 1 (c8.toNat-c4.toNat);let c5:Nat:=c10+Min.min (c9.toNat-c4.toNat) (c8.toNat-c2.toNat);some (aj [c13/\c4<=c9/\c9<=c9] (fork (c4==c9) (aj [n<n+1/\(n+1)*((56:Nat)+1)*2<=2^47] (leaf ret [ak 3 (n+1) fun i=>if i+0<n then rat (k (i+0)) s else rat t s])) (aj [-c7<=c3/\c3<c7] (aj [decide (c3>c9)=true] (aj [(0:Int)<=0/\c13/\c4<=c9,-c7<=c3/\c3<c7,-c7<=c3-c4/\c3-c4<c7,(0:Int)<c3-c4/\n-c11<c1/\c1*((56:Nat)+1)*2<=2^47] (aj [c13/\c4<=c8/\c8<=c8/\c8<=c8] (aj [-c7<=c2/\c2<c7,(0:Int)<=c2/\c2<=c8/\c8<=c8/\c8<=c8,c13/\c4<=c9/\c9<=c9] (leaf ret [ak 3 c1 fun i=>if c10<=i+0/\i+0<c5 then rat (k (i+0-c10+c4.toNat)) s else if c12<=i+0/\i+0<c6 then rat t s else if i+0<c14 then rat (k (i+0+c11)) s else rat 0 1])))))))):=ah
theorem afw {n s:Nat} {k:Nat->Rat}:aL T yL [] 60 uO (before nq [1,1,0,1]) ⟨aS 0 [bq k n s],[],0⟩=
  let c1:Int:=(↑n:Int);some (aj [(0:Int)<=0/\(0:Int)<=c1/\c1<=2^47/\c1*(↑(56:Nat):Int)<=2^47] (leaf normal ([bS c1.toNat (own 12288 3 0 0),ak 3 n fun i=>rat (k i) s,int i64 c1,int i64 0],[(12288,az.mk true true 3 0 fun x=>rat 0 1)]))):=ah
theorem afa {n i s w:Nat} {k x:Nat->Rat}:aL T yL [12] 60 uO [part nq [1,1,0,1,0,0]] ⟨aG uO (DB n k s i),[(0,nP i x w)],1⟩=
  let c5:Int:=(↑n:Int);let c3:Nat:=i+1;let c2:AV:=ak 3 n fun i=>rat (k i) s;let c1:Int:=(↑i:Int);let c4:Int:=c1+1;some (fork (decide (c1<c5)) (aj [(0:Int)<=c1/\c1.toNat<n,(0:Nat)<1] (aj [(0:Nat)<1,s<2^42,(1:Nat)<2^42,(1:Nat)*3<=2^24,c3<=n,c3*((56:Nat)+1)*2<=2^47] (aj [-(2:Int)^63<=c4/\c4<2^63] (leaf normal ([bS n (own 40961 3 0 c3),c2,int i64 c5,int i64 c4],[(40961,az.mk true true 3 c3 fun i_1=>if i_1<i then rat (x i_1) w else nth [rat (k c1.toNat+0) (s+1+1)] (rat 0 1) (i_1-i+0))]))))) (leaf (exit 0) ([bS n (own 0 3 0 i),c2,int i64 c5,int i64 c1],[(0,az.mk true true 3 i fun i=>rat (x i) w)]))):=ah
theorem abY {n i s w:Nat} {k x:Nat->Rat}:cP T yL [] 60 f152 [part nq [1,1,1]] ⟨aG uO (DB n k s i),[(0,nP i x w)],1⟩=
  some (leaf ret [bS n (ak 3 i fun i=>rat (x (i+0)) w)]):=ah
theorem Uc {n s r w:Nat} {k:Nat->Rat} {t:Rat}:aL T (yt s w) [] 60 uL (before uX [1,1,0]) ⟨aS 0 [bq k n s,.rat t r],[],0⟩=
  some (leaf normal ([ak 3 n fun i=>rat (k i) s,ptr 0 0 (bE (rat t r)).size 0 [],int i64 0],[(0,az.mk false true (bE (rat t r)).size 1 fun x=>rat t r)])):=ah
theorem aa1 {n i s r w:Nat} {k:Nat->Rat} {t:Rat}:aL T (yt s w) [10,18] 60 uL [part uX [1,1,0,0,0]] ⟨aG uL (Cs n k s i),[(0,tP t r)],1⟩=
  let c7:AV:=ak 3 n fun i=>rat (k i) s;let c5:AV:=ptr 0 0 3 0 [];let c4:Nat×az:=((0:Nat),bL fun x=>rat t r);let c3:Int:=(↑i:Int);let c8:Int:=c3+1;let c6:Bool:=decide (c3<(↑n:Int));let c2:ag (List AV×aD):=leaf (exit 0) ([c7,c5,int i64 c3],[c4]);let c1:ag (List AV×aD):=aj [-(2:Int)^63<=c8/\c8<2^63] (leaf normal ([c7,c5,int i64 c8],[c4]));some (fork c6 (aj [c6=true,(0:Int)<=c3/\c3.toNat<n,(0:Nat)<1,s<2^42,r<2^42] (fork (bif true then decide (dn (k c3.toNat) t<=0)else false) c1 c2)) (aj [c6=false] (fork false c1 c2))):=ah
theorem aeq {n i s r w:Nat} {k:Nat->Rat} {t:Rat}:cP T (yt s w) [] 60 f114 [part uX [1,1,1]] ⟨aG uL (Cs n k s i),[(0,tP t r)],1⟩=
  let c3:AV:=rat 0 1;let c2:Prop:=n<2^40;let c1:AV:=rat (t+0) (r+1+1);some (aj [bQ (fun i=>rat (k i) s) n s,c2,(0:Nat)<1,r<2^42,(1:Nat)<2^42,(1:Nat)*3<=2^24,n=n,bQ (fun i=>rat (aC (rat (k i) s)) w) n w,bQ (fun i=>nth [c1] c3 (i+0)) 1 w,(0:Int)<=(↑i:Int),(↑i:Int)<=(↑n:Int),(1:Nat)=1,c2] (leaf ret [ak 3 (n+1) fun i_1=>rat (js (fun i=>aC (rat (aC (rat (k i) s)) w)) (aC (nth [c1] c3 ((0:Nat)+0))) (↑i:Int).toNat i_1) w])):=ah
theorem Bc {Γ:aV} (h:bg P Γ):bg P (cG::Γ):=aE (fun _ _ _ _ h=>nomatch h) h
theorem U4 {a b:Rat}:dn a b<=0↔a<=b:=by
 have:=@qW a b
 constructor
 ·intro h
  exact Rat.not_lt.1 fun h'=>by have:=qW.2 h';omega
 ·intro h
  have:¬dn a b>0:=fun h'=>Rat.not_lt.2 h (qW.1 h')
  omega
theorem F5 {k:Nat->Rat} {t:Rat} {n:Nat} (h:gP k t n=n) (h2:k n<=t):gP k t (n+1)=n+1:=by unfold gP;rw[if_pos ⟨h,h2⟩]
theorem Dn {k:Nat->Rat} {t:Rat} {i:Nat} (h:gP k t i=i) (h2:t<k i):∀{n:Nat},i<=n->gP k t n=i
 |0,hn=>by
    have:i=0:=aa
    subst this;rfl
 |n+1,hn=>by
  by_cases he:i=n+1
  ·subst he;exact h
  ·have ih:=Dn h h2 (n:=n) aa
   unfold gP
   rw[if_neg,ih]
   rintro⟨g1,g2⟩
   have:i=n:=aa
   subst this
   exact absurd h2 (Rat.not_lt.2 g2)
theorem VL {n i s:Nat} {k:Nat->Rat} {t:Rat} (hi:i<=n) (hn:n<2^40) (K:Nat):aN P zW K [.bS n (bq k n s),.int .i64 i,bq (fun _=>t) 1 s] [] (aH (bq (js k t i) (n+1) s) []):=by
 refine bM (r:=aH (bq (js k t i) (n+1) s) []) hT (Bc bD) hm Zg rfl aW rfl 60 ag8 (fun _=>?_) K []
 simp only[ag.all,au,bz,bG]
 have w1:((1:Nat):Int)=1:=rfl
 simp only[w1,br,Int.toNat_zero,Nat.sub_zero,Nat.zero_add,Nat.add_zero,beq_iff_eq,beq_eq_false_iff_ne,ne_eq,Int.ofNat_inj]
 refine⟨aa,fun h=>⟨aa,dB fun j hj=>dX ?_⟩,fun h=>?_⟩
 ·subst h
  unfold js
  by_cases h1:j<i
  ·rw[if_pos h1,if_pos h1]
  ·rw[if_neg h1,if_neg h1,if_pos aa]
 ·have eN:i+((n:Int)+1-i).toNat=n+1:=aa
  have e2:((i:Int)+1).toNat=i+1:=aa
  simp only[eN,e2]
  refine⟨aa,aa,aa,aa,aa,dB fun j hj=>dX ?_⟩
  unfold js
  by_cases h1:j<i
  ·rw[if_neg aa,if_neg aa,if_pos h1,if_pos h1]
  ·by_cases h2:j=i
   ·rw[if_neg aa,if_pos aa,if_neg h1,if_pos h2]
   ·rw[if_pos aa,if_neg h1,if_neg h2,show j-(i+1)+i=j-1 by omega]
theorem TU:bg P yL:=Bc fB
theorem aee {n s w:Nat} {k:Nat->Rat} (h:s+2<=w) (hw:w<2^40) (hn:n<2^40) (K:Nat):aN P 152 K [bq k n s] [] (aH (.bS n (bq k n w)) []):=by
 refine iu (r:=aH (.bS n (bq k n w)) []) hT TU hm Ci rfl aW rfl [1,1,0,1] (i:=0) (y:=part nq [1,1,0,1,0,0]) (z:=part nq [1,1,1]) ah ah ah (f1:=[]) (f2:=[12]) (f3:=[]) 60 uO 1
  (fun i:Nat=>DB n k s i) (fun i=>[(0,nP i k w)]) (fun i=>i<=n) (fun i=>i=n) (fun i=>n-i) (fun _=>⟨⟨_,afw,?_⟩,fun i hi=>⟨_,afa,?_⟩,fun i hi=>⟨_,abY,?_⟩⟩) K []
 ·simp only[ag.all,au]
  exact⟨aa,0,Nat.zero_le _,[(0,12288)],rfl,by rw[br];rfl,rfl,cJ rfl rfl rfl (fun j hj=>absurd hj (Nat.not_lt_zero j)) trivial⟩
 ·simp only[ag.all,au,bz,bG,br,Nat.add_zero]
  exact⟨fun h1=>⟨aa,aa,aa,i+1,aa,by dsimp only;omega,[(0,40961)],rfl,rfl,rfl,cJ rfl rfl rfl (fun j hj=>m8 (fun _ _=>rfl) (Rat.add_zero _) aR aa hj) trivial⟩,
   fun h1=>⟨rfl,i,aa,[(0,0)],rfl,rfl,rfl,mI trivial⟩⟩
 ·subst hi
  simp only[ag.all,au]
  exact .refl _
theorem Ts {s w:Nat} (h:s+2<=w) (hw:w<2^40):bf P (Ow s w) 152:=cC fun⟨⟨n,k⟩,_⟩ K hn=>aee h hw hn K
theorem aip {w:Nat}:bf P (Jh w) zW:=cC fun⟨⟨n,k⟩,i,⟨m,g⟩,_⟩ K hn=>by
 obtain⟨h1,h2,h3,h4⟩:=hn
 simp only at h1 h2 h3 h4
 subst h3
 have:=eR (VL (k:=k) (t:=g 0) (s:=w) (i:=i.toNat) (n:=n) aa h4 K) (args:=[.bS n (bq k n w),.int .i64 i,bq g 1 w]) rfl ⟨.refl _,bW aa,dB fun j hj=>dX (by rw[Nat.lt_one_iff.1 hj]),trivial⟩ []
 exact this
theorem abm {s w:Nat} (h:s+2<=w) (hw:w<2^40):bg P (yt s w):=Bc (aE (Ts h hw) (aE aip fB))
theorem aaP {n s r w:Nat} {k:Nat->Rat} {t:Rat} (h:s+2<=w) (h2:r+2<=w) (hw:w<2^40) (hn:n<2^40) (K:Nat):aN P 114 K [bq k n s,.rat t r] [] (aH (bq (js k t (gP k t n)) (n+1) w) []):=by
 refine iu (r:=aH (bq (js k t (gP k t n)) (n+1) w) []) hT (abm h hw) hm Xm rfl aW rfl [1,1,0] (i:=0) (y:=part uX [1,1,0,0,0]) (z:=part uX [1,1,1]) ah ah ah (f1:=[]) (f2:=[10,18]) (f3:=[]) 60 uL 1
  (fun i:Nat=>Cs n k s i) (fun _=>[(0,tP t r)]) (fun i=>i<=n/\gP k t i=i) (fun i=>i<=n/\i=gP k t n) (fun i=>n-i) (fun _=>⟨⟨_,Uc,?_⟩,fun i hi=>⟨_,aa1,?_⟩,fun i hi=>⟨_,aeq,?_⟩⟩) K []
 ·simp only[ag.all,au]
  exact⟨0,⟨Nat.zero_le _,rfl⟩,[(0,0)],rfl,rfl,rfl,aY trivial⟩
 ·simp only[ag.all,au,bz,bG,br]
  simp only[cond_true,bz,bG,U4]
  exact⟨fun h1=>⟨⟨h1,aa,aa,aa,aa⟩,fun h2=>⟨aa,i+1,⟨aa,F5 hi.2 h2⟩,by dsimp only;omega,[(0,0)],rfl,rfl,rfl,aY trivial⟩,
    fun h2=>⟨rfl,i,⟨aa,(Dn hi.2 (Rat.not_le.1 h2) aa).symm⟩,[(0,0)],rfl,rfl,rfl,aY trivial⟩⟩,
   fun h1=>⟨h1,fun h=>absurd h (by decide),fun _=>⟨rfl,i,⟨hi.1,by rw[show n=i by omega];exact hi.2.symm⟩,[(0,0)],rfl,rfl,rfl,aY trivial⟩⟩⟩
 ·obtain⟨hi,rfl⟩:=hi
  simp only[ag.all,au]
  refine⟨⟨cV aR,aa,aa,aa,aa,aa,trivial,cV aR,fun j hj=>?_,aa,aa,trivial,aa⟩,dB fun j hj=>dX ?_⟩
  ·rw[Nat.lt_one_iff.1 hj];exact eE aa
  ·show AV.rat (js k (t+0) ((gP k t n:Nat):Int).toNat j) w=_
   rw[Rat.add_zero,br]
theorem TG:aX 189 f189:=aM func189
theorem V8:aX 156 f156:=aM func156
def pe (c:Cu) (n:Nat) (k:Nat->Rat) (j:Nat):Pl:=qA c (jK c.n c.k (k (iA k n j))) c.p.toNat (fun q=>k (q+(j+1)))
def l9 (c:Cu) (n:Nat) (k:Nat->Rat):Cu:=⟨c.p,n,k,n-c.p.toNat-1,pe c n k⟩
def AW:aV:=nG::(186,Ar)::(201,N3)::(202,u7)::(203,Od)::eV
abbrev xz:List Nat:=[1,2,4,5,17,18]
abbrev Dw (n m:Nat) (k:Nat->Rat) (j:Nat):List AV:=[ls k n,.ptr 0 0 3 0 [],.ptr 1 0 3 0 [],.ptr 2 0 3 0 [],.int .i64 m,.int .i64 j]
abbrev BI (c:Cu) (n:Nat) (k:Nat->Rat) (h:Nat->Pl) (j:Nat):aD:=[(3,⟨true,true,12,j,fun i=>b7 (h i) sB⟩),(2,⟨false,true,3,1,fun _=>.agg [.int .i64 c.p,ls k n,.own 3 12 0 j]⟩),(1,⟨false,true,3,1,fun _=>.agg [.int .i64 0,.nil,.nil]⟩),(0,AJ c sK)]
abbrev xj:Code:=aF f189
theorem EV {f:Nat->Pl} {m s s':Nat} (h:s<=s'):qx (fun i=>b7 (f i) s) m s':=fun _ _=>La rfl h
def K5:Spec:=cF (kC (xW sK sK) (kC (kL sK) kN)) (fun a=>fF (l9 a.1 a.2.1.1 a.2.1.2) sK sB) fun a=>[Kn a.1.n a.1.p.toNat a.1.k,1<=a.1.p,a.1.p<=6,a.1.n<2^40,a.1.m<2^40,a.2.1.1<2^29,a.1.p+1<=a.2.1.1]
abbrev vk:List Nat:=[2,3,13,14,15]
abbrev Dx (c:Cu) (i:Nat):List AV:=[.ptr 0 0 3 0 [],.ptr 1 0 3 0 [],p5 c.f c.m sB,.int .i64 c.m,.int .i64 i]
abbrev Eu (c:Cu) (i:Nat):aD:=[(2,⟨true,true,12,i,fun j=>aJ (iq (c.f j)) (sB+sB)⟩),(1,⟨false,true,3,1,fun _=>.agg [.int .i64 c.p,bq c.k c.n (sK+10),.own 2 12 0 i]⟩),(0,⟨false,true,3,1,fun _=>.agg [.int .i64 0,.nil,.nil]⟩)]
abbrev vp:Code:=aF f156
def HZ:Spec:=cF (kC (Mx sB) kN) (fun a=>aJ (iq a.1) (sB+sB)) fun _=>[]
def yC:aV:=nG::(149,Du sK (sK+10))::(188,HZ)::[]
theorem aaL {c:Cu} {n:Nat} {k:Nat->Rat}:aL T AW [] 60 xz (before xj [1,1,0,1]) ⟨aS 0 [fF c sK sK,ls k n],[],0⟩=
  let c3:Nat:=(bE (fF c sK sK)).size;let c2:Prop:=0<1;let c1:AV:=agg [int i64 0,nil,nil];some (aj [c2,c2] (aj [c2,bQ (fun i=>rat (k i) sK) n sK,n<2^40,-(2:Int)^40<c.p,c.p<2^40] (leaf normal ([ak 3 n fun i=>rat (k i) 4096,ptr 0 0 c3 0 [],ptr 4096 0 3 0 [],ptr 24576 0 3 0 [],int i64 ((↑n:Int)-c.p-1),int i64 0],[((24576:Nat),bL fun j=>if(j==0)=true then bE (agg ((c1.kids.set 0 (bE (int i64 c.p))).set 1 (bE (ls k n))))else c1),((4096:Nat),bL fun x=>c1),(0,az.mk false true c3 1 fun x=>agg [int i64 c.p,ak 3 c.n fun i=>rat (c.k i) 4096,ak 12 c.m fun i=>b7 (c.f i) 4096])])))):=ah
theorem VS {c:Cu} {n m j:Nat} {k:Nat->Rat} {h:Nat->Pl}:aL T AW [19] 60 xz [part xj [1,1,0,1,0,0]] ⟨aG xz (Dw n m k j),BI c n k h j,4⟩=
  let bK:Int:=(↑m:Int);let c18:Prop:=bQ (fun i=>rat (c.k i) sK) c.n sK;let c17:AV:=ptr 2 0 3 0 [];let c16:AV:=ptr 1 0 3 0 [];let c15:AV:=ptr 0 0 3 0 [];let c14:Nat:=2^40;let c13:AV:=rat 0 1;let c12:Int:=(↑j:Int);let c10:AV:=own 3 12 0 j;let c9:AV:=ak 3 n fun i=>rat (k i) 4096;let c8:Prop:=0<1;let c6:Int:=(2:Int)^63;let c5:Cu:=Cu.mk c.p c.n (fun i=>aC (rat (c.k i) sK)) c.m fun i=>qD (b7 (c.f i) sK);let c2:List (Nat×az):=[((1:Nat),bL fun x=>agg [int i64 0,nil,nil]),((0:Nat),bL fun x=>agg [int i64 c.p,ak 3 c.n fun i=>rat (c.k i) 4096,ak 12 c.m fun i=>b7 (c.f i) 4096])];let c19:AV:=agg [int i64 c.p,ls k n,c10];let c7:Int:=(↑(iA (fun i=>aC (rat (k i) sK)) n c12.toNat):Int);let c4:Int:=c12+c.p+1;let c3:Int:=c12+1;let c11:Nat:=c4.toNat-c3.toNat;let c1:Int:=(↑(jK c.n (fun i=>aC (rat (c.k i) sK)) (k c7.toNat)):Int);some (fork (decide (c12<bK)) (aj [bQ (fun i=>rat (k i) sK) n sK,(0:Int)<=c12,c12<=(↑n:Int),n<c14] (aj [c8,c8,(0:Int)<=c7/\c7.toNat<n,c18,sK<=sK,Kn c.n c.p.toNat fun i=>aC (rat (c.k i) sK),(0:Int)<=c.p,c.n<c14] (aj [c8,c8,-c6<=c3/\c3<c6,c8,-c6<=c12+c.p/\c12+c.p<c6,-c6<=c4/\c4<c6,(0:Int)<=c3/\c3<=c4/\c4<=c4/\c4<=(↑n:Int),c18,qx (fun i=>b7 (c.f i) sK) c.m sK,bQ (fun i=>rat (k (i+c3.toNat)) sK) c11 sK,(1:Int)<=c.p,c.p<=6,c.n<c14,c.m<c14,-(2:Int)^40<c1,c1<2^40,(1:Nat)*12<=2^24,(j+1)*((224:Nat)+1)*2<=2^47,c8] (aj [-c6<=c3/\c3<c6] (leaf normal ([c9,c15,c16,c17,int i64 bK,int i64 c3],(147460,az.mk true true 12 (j+1) fun i=>if i<j then b7 (h i) sB else nth [agg [rat (jc c5 c1 c11 (fun i=>aC (rat (k (i+c3.toNat)) sK)) 0) sB,rat (jc c5 c1 c11 (fun i=>aC (rat (k (i+c3.toNat)) sK)) 1) sB,rat (jc c5 c1 c11 (fun i=>aC (rat (k (i+c3.toNat)) sK)) 2) sB,rat (jc c5 c1 c11 (fun i=>aC (rat (k (i+c3.toNat)) sK)) 3) sB]] (agg [c13,c13,c13,c13]) (i-j+0))::((2:Nat),bL fun j_1=>if(j_1==0)=true then agg (c19.kids.set 2 (bE (own (nat_lit 147459+1) 12 0 (j+1))))else c19)::c2)))))) (leaf (exit 0) ([c9,c15,c16,c17,int i64 bK,int i64 c12],(3,az.mk true true 12 j fun i=>b7 (h i) 536870912)::((2:Nat),bL fun x=>agg [int i64 c.p,c9,c10])::c2))):=ah
theorem agV {c:Cu} {n m j:Nat} {k:Nat->Rat} {h:Nat->Pl}:cP T AW [] 60 f189 [part xj [1,1,1]] ⟨aG xz (Dw n m k j),BI c n k h j,4⟩=
  let c1:Prop:=0<1;some (aj [c1,c1] (aj [c1] (leaf ret [agg [int i64 c.p,ak 3 n fun i=>rat (k i) 4096,ak 12 j fun i=>b7 (h (i+0)) 536870912]]))):=ah
theorem ON {c:Cu}:aL T yC [] 60 vk (before vp [1,1,0,1]) ⟨aS 0 [fF c sK sB],[],0⟩=
  let c3:Nat:=sK+10;let c2:Prop:=0<1;let c1:AV:=agg [int i64 0,nil,nil];some (aj [c2,c2,bQ (fun i=>rat (c.k i) sK) c.n sK,c3<=c3,c3<2^40,c.n<2^40,c2] (aj [c2] (leaf normal ([ptr 4096 0 3 0 [],ptr 32768 0 3 0 [],ak 12 c.m fun i=>b7 (c.f i) 536870912,int i64 (↑c.m:Int),int i64 0],[((32768:Nat),bL fun j=>if(j==0)=true then bE (agg ((c1.kids.set 0 (bE (int i64 c.p))).set 1 (bE (bq (fun i=>aC (rat (c.k i) sK)) c.n c3))))else c1),((4096:Nat),bL fun x=>c1)])))):=ah
theorem ahm {c:Cu} {i:Nat}:aL T yC [16] 60 vk [part vp [1,1,0,1,0,0]] ⟨aG vk (Dx c i),Eu c i,3⟩=
  let c11:Int:=(↑c.m:Int);let c10:AV:=own 2 12 0 i;let c9:AV:=ptr 1 0 3 0 [];let c8:AV:=ptr 0 0 3 0 [];let c7:Prop:=0<1;let c6:Int:=(↑i:Int);let c5:AV:=rat 0 1;let c4:Nat×az:=((0:Nat),bL fun x=>agg [int i64 0,nil,nil]);let c1:AV:=ak 12 c.m fun i=>b7 (c.f i) 536870912;let c12:Int:=c6+1;let c3:AV:=agg [int i64 c.p,bq c.k c.n (sK+10),c10];let c2:Pl:=c.f c6.toNat;some (fork (decide (c6<c11)) (aj [(0:Int)<=c6/\c6.toNat<c.m,c7] (aj [c7,c7,sB<=sB,sB<=sB,sB<=sB,sB<=sB,(1:Nat)*12<=2^24,(i+1)*((224:Nat)+1)*2<=2^47,c7] (aj [-(2:Int)^63<=c12/\c12<2^63] (leaf normal ([c8,c9,c1,int i64 c11,int i64 c12],[(40963,az.mk true true 12 (i+1) fun i_1=>if i_1<i then aJ (iq (c.f i_1)) (sB+sB)else nth [agg [agg [rat (c2.n.x/c2.d) (sB+sB),rat (c2.n.y/c2.d) (sB+sB),rat (c2.n.z/c2.d) (sB+sB)],rat c2.d (sB+sB)]] (agg [agg [c5,c5,c5],c5]) (i_1-i+0)),((1:Nat),bL fun j=>if(j==0)=true then agg (c3.kids.set 2 (bE (own (nat_lit 40962+1) 12 0 (i+1))))else c3),c4]))))) (leaf (exit 0) ([c8,c9,c1,int i64 c11,int i64 c6],[(2,az.mk true true 12 i fun j=>agg [agg [rat ((c.f j).n.x/(c.f j).d) 1073741824,rat ((c.f j).n.y/(c.f j).d) 1073741824,rat ((c.f j).n.z/(c.f j).d) 1073741824],rat (c.f j).d 1073741824]),((1:Nat),bL fun x=>agg [int i64 c.p,ak 3 c.n fun i=>rat (c.k i) 4106,c10]),c4]))):=ah
theorem Ui {c:Cu} {i:Nat}:cP T yC [] 60 f156 [part vp [1,1,1]] ⟨aG vk (Dx c i),Eu c i,3⟩=
  let c1:Prop:=0<1;some (aj [c1,c1] (aj [c1] (leaf ret [agg [int i64 c.p,ak 3 c.n fun i=>rat (c.k i) 4106,ak 12 i fun i=>agg [agg [rat ((c.f (i+0)).n.x/(c.f (i+0)).d) 1073741824,rat ((c.f (i+0)).n.y/(c.f (i+0)).d) 1073741824,rat ((c.f (i+0)).n.z/(c.f (i+0)).d) 1073741824],rat (c.f (i+0)).d 1073741824]]]))):=ah
theorem Hs {k:Nat->Rat} {n:Nat}:∀{f i:Nat},i<n->rJ k n f i<n
 |0,_,h=>h
 |f+1,i,h=>by
  unfold rJ
  split
  ·exact Hs aa
  ·exact h
theorem Y4 {k:Nat->Rat} {n i:Nat} (h:i<n):iA k n i<n:=Hs h
theorem Pw {n p:Nat} {k:Nat->Rat} (h:Kn n p k) {t:Rat}:jK n k t<n:=by
 have hl:=h.len
 unfold jK
 split
 ·omega
 ·have:=h.vW ‹_›
  omega
theorem ac8:bg P AW:=eP (aE BG (aE af2 (aE ae2 (aE OT fB))))
theorem Uj {c:Cu} {n:Nat} {k:Nat->Rat} (hk:Kn c.n c.p.toNat c.k) (hp1:1<=c.p) (hp6:c.p<=6) (hn:c.n<2^40) (hm2:c.m<2^40) (hn2:n<2^29) (hpn:c.p+1<=n) (K:Nat):aN P 189 K [fF c sK sK,ls k n] [] (aH (fF (l9 c n k) sK sB) []):=by
 obtain⟨q,hq⟩:∃q,q=c.p.toNat:=⟨_,rfl⟩
 have hqp:c.p=(q:Int):=aa
 refine iu (r:=aH (fF (l9 c n k) sK sB) []) hT ac8 hm TG rfl aW rfl [1,1,0,1] (i:=0) (y:=part xj [1,1,0,1,0,0]) (z:=part xj [1,1,1]) ah ah ah (f1:=[]) (f2:=[19]) (f3:=[]) 60 xz 4
  (fun j:Nat=>Dw n (n-c.p.toNat-1) k j) (fun j=>BI c n k (pe c n k) j) (fun j=>j<=n-c.p.toNat-1) (fun j=>j=n-c.p.toNat-1) (fun j=>n-c.p.toNat-1-j) (fun _=>⟨⟨_,aaL,?_⟩,fun j hj=>⟨_,VS,?_⟩,fun j hj=>⟨_,agV,?_⟩⟩) K []
 ·have e1:(n:Int)-c.p-1=((n-c.p.toNat-1:Nat):Int):=aa
  simp only[ag.all,au,e1]
  exact⟨⟨aa,aa⟩,⟨aa,cV aR,aa,aa,aa⟩,0,Nat.zero_le _,[(0,0),(1,4096),(2,24576)],rfl,rfl,rfl,lO rfl aa aa (fj rfl rfl (mC ⟨aP,aP,⟨rfl,oO aa⟩,trivial⟩) (aY (aY trivial)))⟩
 ·have e1:((j:Int)+1).toNat=j+1:=aa
  have e2:((j:Int)+c.p+1).toNat=j+q+1:=aa
  have e3:j+q+1-(j+1)=q:=aa
  simp only[ag.all,au,bz,bG,br,e1,e2,e3,Nat.add_zero]
  have h7:iA (fun i=>aC (rat (k i) sK)) n j=iA k n j:=rfl
  have h8:∀t,jK c.n (fun i=>aC (rat (c.k i) sK)) t=jK c.n c.k t:=fun _=>rfl
  simp only[h7,h8]
  refine⟨fun h=>?_,fun h=>⟨rfl,j,aa,[(0,0),(1,1),(2,2),(3,3)],rfl,rfl,rfl,mI (fj rfl rfl (uA rfl rfl rfl) (aY (aY trivial)))⟩⟩
  have h1:=Y4 (k:=k) (n:=n) (i:=j) aa
  have h2:=Pw hk (t:=k (iA k n j))
  (repeat' with_reducible refine And.intro ?_ ?_)
  all_goals first|omega|exact cV aR|exact hk|exact fun _ _=>.refl _|skip
  refine⟨j+1,aa,by dsimp only;omega,[(0,0),(1,1),(2,2),(3,147460)],rfl,rfl,rfl,cJ rfl rfl rfl (fun j' hj'=>yu (g:=fun j=>b7 (pe c n k j) sB) (fun _ _=>⟨rfl,rfl⟩) rfl ?_ hj') (fj rfl rfl (uA rfl rfl rfl) (aY (aY trivial)))⟩
  exact La (h:=qA c (jK c.n c.k (k (iA k n j))) q (fun q=>k (q+(j+1)))) (by unfold pe;rw[hq]) aR
 ·subst hj
  simp only[ag.all,au]
  exact⟨⟨aa,aa⟩,aa,.refl _⟩
theorem agd:bf P K5 189:=cC fun⟨c,⟨n,k⟩,_⟩ K hn=>Uj hn.1 hn.2.1 hn.2.2.1 hn.2.2.2.1 hn.2.2.2.2.1 hn.2.2.2.2.2.1 hn.2.2.2.2.2.2 K
theorem aev:bf P HZ 188:=cC fun⟨h,_⟩ K _=>QU (by decide) (by decide) (by decide) K
theorem Qe:bg P yC:=eP (aE (NM _ _) (aE aev bD))
theorem Ss {c:Cu} (hn:c.n<2^40) (hm2:c.m<2^29) (K:Nat):aN P 156 K [fF c sK sB] [] (aH (bk ⟨c.p,c.n,c.k,c.m,fun i=>iq (c.f i)⟩ (sK+10) (sB+sB)) []):=by
 refine iu (r:=aH (bk ⟨c.p,c.n,c.k,c.m,fun i=>iq (c.f i)⟩ (sK+10) (sB+sB)) []) hT Qe hm V8 rfl aW rfl [1,1,0,1] (i:=0) (y:=part vp [1,1,0,1,0,0]) (z:=part vp [1,1,1]) ah ah ah (f1:=[]) (f2:=[16]) (f3:=[]) 60 vk 3
  (fun i:Nat=>Dx c i) (fun i=>Eu c i) (fun i=>i<=c.m) (fun i=>i=c.m) (fun i=>c.m-i) (fun _=>⟨⟨_,ON,?_⟩,fun i hi=>⟨_,ahm,?_⟩,fun i hi=>⟨_,Ui,?_⟩⟩) K []
 ·simp only[ag.all,au]
  exact⟨⟨aa,aa,cV aR,aa,by decide,aa,aa⟩,aa,0,Nat.zero_le _,[(0,4096),(1,32768)],rfl,rfl,rfl,lO rfl aa aa (fj rfl rfl (mC ⟨aP,aP,⟨rfl,oO aa⟩,trivial⟩) (aY trivial))⟩
 ·simp only[ag.all,au,bz,bG,br,Nat.add_zero]
  refine⟨fun h=>?_,fun h=>⟨rfl,i,aa,[(0,0),(1,1),(2,2)],rfl,rfl,rfl,mI (fj rfl rfl (uA rfl rfl rfl) (aY trivial))⟩⟩
  (repeat' with_reducible refine And.intro ?_ ?_)
  all_goals first|omega|exact Nat.le_refl _|skip
  exact⟨i+1,aa,by dsimp only;omega,[(0,0),(1,1),(2,40963)],rfl,rfl,rfl,cJ rfl rfl rfl (fun j hj=>yu (g:=fun j=>aJ (iq (c.f j)) (sB+sB)) (fun _ _=>⟨rfl,rfl⟩) rfl (.refl _) hj) (fj rfl rfl (uA rfl rfl rfl) (aY trivial))⟩
 ·subst hi
  simp only[ag.all,au]
  exact⟨⟨aa,aa⟩,aa,.refl _⟩
def Ma:Spec:=cF (kC (xW sK sB) kN) (fun a=>bk ⟨a.1.p,a.1.n,a.1.k,a.1.m,fun i=>iq (a.1.f i)⟩ (sK+10) (sB+sB)) fun a=>[a.1.n<2^40,a.1.m<2^29]
theorem YC:bf P Ma 156:=cC fun⟨c,_⟩ K hn=>Ss hn.1 hn.2 K
def E7:Spec:=cF (kC (gk 2000 2000) kN) (fun a=>fF ⟨a.1.p,a.1.n,a.1.k,a.1.m,fun i=>dg (a.1.f i)⟩ 2000 4000) fun a=>[a.1.n<2^40,a.1.m<2^30]
def jX (c:Cu) (t:Rat):Int:=if¬(c.k 0<t/\t<c.k (c.n-1))then 7 else if c.p<=(bU c.k t c.n:Int)then 5 else if 40<=c.m then 2 else 0
def Yv:Cu:=⟨0,0,fun _=>0,0,fun _=>⟨⟨0,0,0⟩,0⟩⟩
theorem O5:bf P E7 155:=cC fun⟨c,_⟩ K hn=>UL (by decide) (by decide) (by decide) hn.1 hn.2 K
def eH (k:Nat->Rat) (j:Nat):Nat->Int
 |0=>-1
 |l+1=>if k (j+l)=k (j+l+1)then eH k j l else(j+l:Nat)
theorem NC {k:Nat->Rat} {j:Nat}:∀{l:Nat},k j≠k (j+l)->∃P:Nat,eH k j l=(P:Int)/\j<=P/\P<j+l/\k P≠k (P+1)
 |0,h=>absurd rfl h
 |l+1,h=>by
  unfold eH
  by_cases he:k (j+l)=k (j+l+1)
  ·rw[if_pos he]
   obtain⟨P,h1,h2,h3,h4⟩:=NC (k:=k) (j:=j) (l:=l) (by rw[he];exact h)
   exact⟨P,h1,h2,by omega,h4⟩
  ·rw[if_neg he]
   exact⟨j+l,rfl,by omega,by omega,he⟩
theorem Kn.piece {n p:Nat} {k:Nat->Rat} (h:Kn n p k) {j:Nat} (hj:j+p+1<n):∃P:Nat,eH k j (p+1)=(P:Int)/\j<=P/\P<=j+p/\k P<k (P+1)/\p<=P/\P+p+1<n:=by
 have hp:=h.p1
 have hne:k j≠k (j+(p+1)):=by
  have hlt:k j<k (j+(p+1)):=by
   by_cases h0:j=0
   ·subst h0
    have hl:=h.len
    have a1:=h.mult 1 (by omega) (by omega)
    rw[h.first 1 (by omega),show 1+p=0+(p+1) by omega]at a1
    exact a1
   ·have a1:=h.mult j (by omega) (by omega)
    have a2:=h.mono (show j+p<=j+(p+1) by omega) (by omega)
    grind
  grind
 obtain⟨P,h1,h2,h3,h4⟩:=NC hne
 have hs:=h.sorted P (by omega)
 refine⟨P,h1,h2,by omega,by grind,?_,?_⟩
 ·rcases Nat.lt_or_ge P p with hh|hh
  ·exact absurd (by rw[h.first P (by omega),h.first (P+1) (by omega)]) h4
  ·exact hh
 ·rcases Nat.lt_or_ge (P+p+1) n with hh|hh
  ·exact hh
  ·exact absurd (by rw[h.last P (by omega) (by omega),h.last (P+1) (by omega) (by omega)]) h4
theorem DI {k:Nat->Rat} {c:Nat}:∀{l a:Nat},cm (fun i=>k (c+i)) a l=cm k (c+a) l
 |0,_=>rfl
 |l+1,a=>by rw[cm,cm,DI];rfl
theorem xN {f g:Nat->Rat}:∀{l a:Nat},(∀i,a<=i->i<a+l->f i=g i)->cm f a l=cm g a l
 |0,_,_=>rfl
 |l+1,a,h=>by rw[cm,cm,h a (by omega) (by omega),xN fun i h1 h2=>h i (by omega) (by omega)]
variable {k:Nat->Rat} {b p:Nat}
theorem agn {a c u v f:Rat}:fr a c (u+f*(v-u))=fr a c u+f*(fr a c v-fr a c u):=by
 unfold fr
 rw[Rat.div_def,Rat.div_def (u-a),Rat.div_def (v-a)]
 generalize (c-a)⁻¹=q
 grind
theorem FE {f:Rat}:∀{l:List Rat} {r:Nat} {x y:Nat->Rat} {j:Nat},bl k b p r (fun j=>x j+f*(y j-x j)) l j=bl k b p r x l j+f*(bl k b p r y l j-bl k b p r x l j)
 |[],_,_,_,_=>rfl
 |t::l,r,x,y,j=>by
  rw[bl,bl,bl,<-FE (l:=l)]
  congr 1
  funext j
  unfold gW
  split<;>grind
theorem Mq {u v f:Rat} {l:List Rat} {x:Nat->Rat} (hl:l.length+1=p):bl k b p 0 x ((u+f*(v-u))::l) p=bl k b p 0 x (u::l) p+f*(bl k b p 0 x (v::l) p-bl k b p 0 x (u::l) p):=by
 rw[bl,bl,bl,<-FE]
 refine DV (by omega) fun j h1 _=>?_
 simp only[gW]
 rw[if_pos (by omega),if_pos (by omega),if_pos (by omega),agn];grind
theorem A5 {a c t:Rat} (h:a<c):a+fr a c t*(c-a)=t:=by rw[mG h];grind
def dH (k:Nat->Rat) (t:Rat) (q j:Nat):Rat:=if j<q then k j else if j=q then t else k (j-1)
theorem iX {t:Rat} {q j:Nat} (h:j<q):dH k t q j=k j:=if_pos h
theorem mQ {t:Rat} {q:Nat}:dH k t q q=t:=by unfold dH;rw[if_neg (by omega),if_pos rfl]
theorem iQ {t:Rat} {q j:Nat} (h:q<j):dH k t q j=k (j-1):=by unfold dH;rw[if_neg (by omega),if_neg (by omega)]
theorem Ck {f g:Nat->Rat}:∀{l a:Nat},(∀i,a+1<=i->i<a+1+l->f i=g (i-1))->cm f (a+1) l=cm g a l
 |0,_,_=>rfl
 |l+1,a,h=>by
  rw[cm,cm,h (a+1) (Nat.le_refl _) (by omega),Ck (l:=l) (a:=a+1) fun i h1 h2=>h i (by omega) (by omega)];rfl
theorem vh {n:Nat} {P J:Nat} {x:Nat->Rat} (h:At n k P) (hP:p<=P) (hP2:P+p<n) (h1:P<=J+p) (h2:J<=P):bl k (P-p) p 0 (fun q=>x (P-p+q)) (cm k (J+1) p) p=x J:=by
 have:=ahO (k:=k) (b:=P-p) (p:=p) (n:=n) (by rwa [show P-p+p=P by omega]) (by omega) (J:=J-(P-p)) (by omega) (x:=fun q=>x (P-p+q))
 rw[show P-p+(J-(P-p))=J by omega]at this
 exact this
theorem Tb {n:Nat} {x:Nat->Rat} {t:Rat} {a j P:Nat} (hs:∀i,i+1<n->k i<=k (i+1)) (hp:1<=p) (hlo:k a<=t) (hhi:t<k (a+1)) (ha:p<=a) (h:At n k P) (hP:p<=P) (hP2:P+p<n)
  (h1:j+p<=a->j<=P/\P<=j+p) (h2:a<j->j<=P+1/\P+1<=j+p) (h3:a<j+p->j<=a->j<=P/\P+1<=j+p):
  bl k (P-p) p 0 (fun q=>x (P-p+q)) (cm (dH k t (a+1)) (j+1) p) p=if j+p<=a then x j else if a<j then x (j-1)else x (j-1)+fr (k j) (k (j+p)) t*(x j-x (j-1)):=by
 by_cases c1:j+p<=a
 ·obtain⟨g1,g2⟩:=h1 c1
  rw[if_pos c1,xN (g:=k) fun i _ hi=>iX (by omega)]
  exact vh h hP hP2 g2 g1
 ·rw[if_neg c1]
  by_cases c2:a<j
  ·obtain⟨g1,g2⟩:=h2 c2
   rw[if_pos c2,Ck (g:=k) fun i hi _=>iQ (by omega)]
   have:=vh (x:=x) (J:=j-1) h hP hP2 (by omega) (by omega)
   rwa [show j-1+1=j by omega]at this
  ·obtain⟨g1,g2⟩:=h3 (by omega) (by omega)
   rw[if_neg c2]
   have hA:At n k (P-p+p):=by rwa [show P-p+p=P by omega]
   have e1:cm (dH k t (a+1)) (j+1) p=cm k (j+1) (a-j)++t::cm k (a+1) (j+p-a-1):=by
    have:=Au (t:=dH k t (a+1)) (l:=a-j) (a:=j+1) (m:=(j+p-a-1)+1)
    rw[show a-j+(j+p-a-1+1)=p by omega,show j+1+(a-j)=a+1 by omega]at this
    rw[this,xN (g:=k) (fun i _ hi=>iX (by omega)),cm,mQ,Ck (g:=k) fun i hi _=>iQ (by omega)]
   have e2:cm k (j+1) (p-1)=cm k (j+1) (a-j)++cm k (a+1) (j+p-a-1):=by
    have:=Au (t:=k) (l:=a-j) (a:=j+1) (m:=j+p-a-1)
    rw[show a-j+(j+p-a-1)=p-1 by omega,show j+1+(a-j)=a+1 by omega]at this
    exact this
   have hw:k j<k (j+p):=by
    have m1:=gG hs (show j<=a by omega) (show a<n by omega)
    have m2:=gG hs (show a+1<=j+p by omega) (show j+p<n by omega)
    grind
   have q1:(cm (dH k t (a+1)) (j+1) p).Perm (t::cm k (j+1) (p-1)):=by rw[e1,e2];exact List.perm_middle
   rw[x7 hA (by omega) q1 (by rw[lM];omega),<-A5 (t:=t) hw,Mq (by rw[lM];omega)]
   have d1:=vh (x:=x) (J:=j-1) h hP hP2 (by omega) (by omega)
   rw[show j-1+1=j by omega,show p=p-1+1 by omega,cm]at d1
   have d2:=vh (x:=x) (J:=j) h hP hP2 (by omega) (by omega)
   have q2:(cm k (j+1) p).Perm (k (j+p)::cm k (j+1) (p-1)):=by
    have:=yS (t:=k) (l:=p-1) (a:=j+1)
    rw[show p-1+1=p by omega,show j+1+(p-1)=j+p by omega]at this
    rw[this];exact List.perm_append_singleton _ _
   rw[x7 hA (by omega) q2 (by rw[lM];omega)]at d2
   rw[show p-1+1=p by omega]at d1
   rw[d1,d2,A5 hw]
theorem KF {n:Nat} {G:List Rat->Rat} (hsym:∀{l m:List Rat},l.Perm m->l.length=p->G l=G m) (haff:∀{u v f:Rat} {l:List Rat},l.length+1=p->G ((u+f*(v-u))::l)=G (u::l)+f*(G (v::l)-G (u::l)))
  (h:At n k (b+p)) (hn:b+p+p<n):∀{l d:List Rat} {r:Nat} {y:Nat->Rat},d.length=r->r+l.length=p->(∀j,r<=j->j<=p->y j=G (d++cm k (b+j+1) (p-r)))->bl k b p r y l p=G (d++l)
 |[],d,r,y,hd,hl,hy=>by
  have:=hy p (by simp at hl;omega) (Nat.le_refl _)
  rw[show p-r=0 by simp at hl;omega]at this
  exact this
 |t::l,d,r,y,hd,hl,hy=>by
  simp only[List.length_cons]at hl
  have hdt:(d++[t]).length=r+1:=by simp[hd]
  have:=KF hsym haff h hn (l:=l) (d:=d++[t]) (r:=r+1) (y:=gW k b p r t y) hdt (by omega) fun j h1 h2=>by
   unfold gW
   rw[if_pos (by omega),hy j (by omega) h2,hy (j-1) (by omega) (by omega)]
   have hw:=h.around (a:=b+j) (b:=b+j+(p-r)) (by omega) (by omega) (by omega)
   have e1:(d++cm k (b+(j-1)+1) (p-r)).Perm (k (b+j)::(d++cm k (b+j+1) (p-(r+1)))):=by
    rw[show b+(j-1)+1=b+j by omega,show p-r=p-(r+1)+1 by omega,cm];exact List.perm_middle
   have e2:(d++cm k (b+j+1) (p-r)).Perm (k (b+j+(p-r))::(d++cm k (b+j+1) (p-(r+1)))):=by
    rw[show p-r=p-(r+1)+1 by omega,yS,show b+j+1+(p-(r+1))=b+j+(p-(r+1)+1) by omega,<-List.append_assoc];exact List.perm_append_singleton _ _
   have e3:(d++[t]++cm k (b+j+1) (p-(r+1))).Perm (t::(d++cm k (b+j+1) (p-(r+1)))):=by
    rw[List.append_assoc];exact List.perm_middle
   have hlen:(d++cm k (b+j+1) (p-(r+1))).length+1=p:=by rw[List.length_append,lM,hd];omega
   rw[hsym e1 (by rw[List.length_append,lM,hd];omega),hsym e2 (by rw[List.length_append,lM,hd];omega),hsym e3 (by rw[List.length_append,lM,hdt];omega),<-haff hlen,A5 hw]
  rw[bl,this,List.append_assoc];rfl
def j7 (k:Nat->Rat) (p:Nat) (x:Nat->Rat) (P:Nat) (l:List Rat):Rat:=bl k (P-p) p 0 (fun q=>x (P-p+q)) l p
theorem agf {n N:Nat} {K X x:Nat->Rat} {P Q:Nat} (h:At n k P) (hP:p<=P) (hP2:P+p<n) (H:At N K Q) (hQ:p<=Q) (hQ2:Q+p<N) (hx:∀J,J<=Q->Q<=J+p->X J=j7 k p x P (cm K (J+1) p)) {l:List Rat} (hl:l.length=p):j7 K p X Q l=j7 k p x P l:=by
 have hA:At n k (P-p+p):=by rwa [show P-p+p=P by omega]
 have:=KF (k:=K) (b:=Q-p) (p:=p) (n:=N) (G:=j7 k p x P) (fun {l m} hm hl=>x7 hA (by omega) hm (by omega)) (fun {u v f l} hl=>Mq hl) (by rwa [show Q-p+p=Q by omega]) (by omega) (l:=l) (d:=[]) (r:=0) (y:=fun q=>X (Q-p+q)) rfl (by omega) fun j _ h2=>by
  rw[hx (Q-p+j) (by omega) (by omega)];rfl
 exact this
def l7 (k:Nat->Rat) (p:Nat) (x:Nat->Rat) (t:Rat) (a j:Nat):Rat:=if j+p<=a then x j else if a<j then x (j-1)else x (j-1)+fr (k j) (k (j+p)) t*(x j-x (j-1))
def jT (a Q:Nat):Nat:=if Q<=a then Q else Q-1
theorem ZX {n:Nat} {x:Nat->Rat} {t:Rat} {a j Q:Nat} (hs:∀i,i+1<n->k i<=k (i+1)) (hp:1<=p) (hlo:k a<=t) (hhi:t<k (a+1)) (ha:p<=a) (h:At n k (jT a Q)) (hP:p<=jT a Q) (hP2:jT a Q+p<n) (h1:j<=Q) (h2:Q<=j+p):
  j7 k p x (jT a Q) (cm (dH k t (a+1)) (j+1) p)=l7 k p x t a j:=by
 refine Tb hs hp hlo hhi ha h hP hP2 ?_ ?_ ?_<;>unfold jT<;>split<;>omega
theorem Pe {n:Nat} {x:Nat->Rat} {t:Rat} {a Q:Nat} (hs:∀i,i+1<n->k i<=k (i+1)) (hp:1<=p) (hlo:k a<=t) (hhi:t<k (a+1)) (ha:p<=a) (h:At n k (jT a Q)) (hP:p<=jT a Q) (hP2:jT a Q+p<n) (H:At (n+1) (dH k t (a+1)) Q) (hQ:p<=Q) (hQ2:Q+p<n+1) {l:List Rat} (hl:l.length=p):
  j7 (dH k t (a+1)) p (l7 k p x t a) Q l=j7 k p x (jT a Q) l:=
 agf h hP hP2 H hQ hQ2 (fun J h1 h2=>(ZX hs hp hlo hhi ha h hP hP2 h1 h2).symm) hl
end Go.Am.B
namespace Go.Am.B
theorem j5 {k:Nat->Rat} {t:Rat} {n:Nat}:bU k t (n+1)=bU k t n+if k n=t then 1 else 0:=rfl
theorem Eo {k:Nat->Rat} {t:Rat} {n:Nat}:∀{m:Nat},bU k t n<=bU k t (n+m)
 |0=>Nat.le_refl _
 |m+1=>by
  have:=Eo (k:=k) (t:=t) (n:=n) (m:=m)
  rw[<-Nat.add_assoc,j5];omega
theorem Bz {k:Nat->Rat} {t:Rat} {i:Nat}:∀{l:Nat},(∀j,i<=j->j<i+l->k j=t)->l<=bU k t (i+l)
 |0,_=>Nat.zero_le _
 |l+1,h=>by
  have:=Bz (k:=k) (t:=t) (i:=i) (l:=l) fun j h1 h2=>h j h1 (by omega)
  rw[<-Nat.add_assoc,j5,if_pos (h (i+l) (by omega) (by omega))];omega
theorem ym {k:Nat->Rat} {t:Rat} {lo hi:Nat} (hlh:lo<=hi):∀{n:Nat},(∀j,j<n->k j=t->lo<=j/\j<hi)->bU k t n<=min n hi-lo
 |0,_=>by simp[bU]
 |n+1,h=>by
  have:=ym (k:=k) (t:=t) hlh (n:=n) fun j hj=>h j (by omega)
  rw[j5]
  by_cases hn:k n=t
  ·rw[if_pos hn]
   have:=h n (by omega) hn
   omega
  ·rw[if_neg hn];omega
theorem Fh {n a i:Nat} {k:Nat->Rat} {t:Rat} (hs:∀i,i+1<n->k i<=k (i+1)) (hhi:t<k (a+1)) (ha:a+1<n) (hlo:k a<=t) (hi:i<=a) (h:a<i+bU k t n):k i=t:=by
 by_cases he:k i=t
 ·exact he
 ·have h1:=gG hs hi (by omega)
  have hlt:k i<t:=by grind
  have:=ym (k:=k) (t:=t) (lo:=i+1) (hi:=a+1) (by omega) (n:=n) fun j hj hjt=>by
   constructor
   ·by_cases c:j<=i
    ·have:=gG hs c (by omega)
     grind
    ·omega
   ·by_cases c:a+1<=j
    ·have:=gG hs c hj
     grind
    ·omega
  omega
theorem Kn.rP {n p a:Nat} {k:Nat->Rat} {t:Rat} (h:Kn n p k) (h0:k 0<t) (h1:t<k (n-1)) (hlo:k a<=t) (hhi:t<k (a+1)) (ha:a+1<n):p<=a/\a+p+1<n:=by
 have hl:=h.len
 constructor
 ·by_cases c:p<=a
  ·exact c
  ·have:=h.first (a+1) (by omega)
   grind
 ·by_cases c:a+p+1<n
  ·exact c
  ·have:=h.last a (by omega) (by omega)
   grind
theorem Kn.dH {n p a:Nat} {k:Nat->Rat} {t:Rat} (h:Kn n p k) (h0:k 0<t) (h1:t<k (n-1)) (hlo:k a<=t) (hhi:t<k (a+1)) (ha:a+1<n) (ht:bU k t n<p):Kn (n+1) p (dH k t (a+1)):=by
 obtain⟨g1,g2⟩:=h.rP h0 h1 hlo hhi ha
 have hp:=h.p1
 have hl:=h.len
 refine⟨hp,by omega,fun i hi=>?_,fun i hi=>?_,fun i h2 h3=>?_,fun i h2 h3=>?_⟩
 ·by_cases c1:i<a
  ·rw[iX (by omega),iX (by omega)];exact h.sorted i (by omega)
  ·by_cases c2:i=a
   ·subst c2;rw[iX (by omega),mQ];exact hlo
   ·by_cases c3:i=a+1
    ·subst c3;rw[mQ,iQ (by omega)];exact Rat.le_of_lt hhi
    ·rw[iQ (by omega),iQ (by omega)]
     have:=h.sorted (i-1) (by omega)
     rwa [show i-1+1=i+1-1 by omega]at this
 ·rw[iX (by omega),iX (by omega)];exact h.first i hi
 ·rw[iQ (by omega),iQ (by omega),h.last (i-1) (by omega) (by omega),show n+1-1-1=n-1 by omega]
 ·by_cases c1:i+p<a+1
  ·rw[iX (by omega),iX (by omega)];exact h.mult i h2 (by omega)
  ·by_cases c2:i+p=a+1
   ·rw[c2,mQ,iX (by omega)]
    have m:=h.mono (show i<=a by omega) (by omega)
    by_cases e:k i=t
    ·exfalso
     have hb:∀j,i<=j->j<i+p->k j=t:=fun j hj1 hj2=>by
      have a1:=h.mono hj1 (by omega)
      have a2:=h.mono (show j<=a by omega) (by omega)
      grind
     have b1:=Bz hb
     have b2:=Eo (k:=k) (t:=t) (n:=i+p) (m:=n-(i+p))
     rw[show i+p+(n-(i+p))=n by omega]at b2
     omega
    ·grind
   ·by_cases c3:i<=a
    ·rw[iX (by omega),iQ (by omega)]
     have m1:=h.mono c3 (by omega)
     have m2:=h.mono (show a+1<=i+p-1 by omega) (by omega)
     grind
    ·by_cases c4:i=a+1
     ·subst c4;rw[mQ,iQ (by omega)]
      have m2:=h.mono (show a+1<=a+1+p-1 by omega) (by omega)
      grind
     ·rw[iQ (by omega),iQ (by omega)]
      have:=h.mult (i-1) (by omega) (by omega)
      rwa [show i-1+p=i+p-1 by omega]at this
theorem adU {k x:Nat->Rat} {p a j:Nat} {t:Rat} {n:Nat} (hs:∀i,i+1<n->k i<=k (i+1)) (hlo:k a<=t) (hhi:t<k (a+1)) (hn:a+p<n) (hx:∀j,0<x j):0<l7 k p x t a j:=by
 unfold l7
 split
 ·exact hx _
 ·split
  ·exact hx _
  ·have m1:=gG hs (show j<=a by omega) (by omega)
   have m2:=gG hs (show a+1<=j+p by omega) (by omega)
   have hw:k j<k (j+p):=by grind
   have f0:=Zj (t:=t) hw (by grind)
   have f1:=ag9 (t:=t) hw (by grind)
   generalize fr (k j) (k (j+p)) t=f at*
   have x0:=hx (j-1)
   have x1:=hx j
   by_cases e:f=1
   ·subst e;grind
   ·have:=Rat.mul_pos (a:=1-f) (b:=x (j-1)) (by grind) x0
    have:=Rat.mul_nonneg (a:=f) (b:=x j) f0 (by grind)
    grind
theorem Lc {n:Nat} {k:Nat->Rat} {pc:Nat->Nat->Nat} (h0:∀i,pc 0 i=i) (h1:∀f i,pc (f+1) i=if i+1<n/\k (i+1)<=k i then pc f (i+1)else i):∀{f i l:Nat},k i<k (i+l)->i+l<n->l<=f->i<=pc f i/\pc f i<i+l/\k (pc f i)<k (pc f i+1)
 |0,i,l,hk,hn,hl=>by
  have:l=0:=by omega
  subst this;exact absurd hk (by rw[Nat.add_zero];exact Rat.lt_irrefl)
 |f+1,i,l,hk,hn,hl=>by
  have hl0:l≠0:=fun e=>by subst e;rw[Nat.add_zero]at hk;exact absurd hk Rat.lt_irrefl
  rw[h1]
  by_cases c:i+1<n/\k (i+1)<=k i
  ·rw[if_pos c]
   have:=Lc h0 h1 (f:=f) (i:=i+1) (l:=l-1) (by rw[show i+1+(l-1)=i+l by omega];have:=c.2;grind) (by omega) (by omega)
   obtain⟨a1,a2,a3⟩:=this
   exact⟨by omega,by omega,a3⟩
  ·rw[if_neg c]
   exact⟨Nat.le_refl _,by omega,Rat.not_le.1 fun e=>c ⟨by omega,e⟩⟩
theorem yY {n i:Nat} {k:Nat->Rat} (h:At n k i):bY n k (k i)=i:=tv ⟨h,Rat.le_refl,Rat.le_of_lt h.wide,.inl h.wide⟩
theorem abZ {n a q:Nat} {k:Nat->Rat} {t:Rat} (hs:∀i,i+1<n->k i<=k (i+1)) (hlo:k a<=t) (hhi:t<k (a+1)) (ha:a+1<n) (hq:q+1<n+1) (hw:dH k t (a+1) q<dH k t (a+1) (q+1)):
  At n k (jT a q)/\bY n k (dH k t (a+1) q)=jT a q/\k 0<=dH k t (a+1) q/\dH k t (a+1) q<=k (n-1):=by
 have key:∀i,At n k i->k 0<=k i/\k i<=k (n-1):=fun i h=>⟨gG hs (Nat.zero_le _) (by have:=h.lt;omega),gG hs (by have:=h.lt;omega) (by omega)⟩
 by_cases c1:q<=a
 ·have e:jT a q=q:=if_pos c1
  rw[e,iX (by omega)]at*
  have hA:At n k q:=⟨by omega,hs,by
   by_cases c2:q=a
   ·subst c2;grind
   ·rwa [iX (by omega)]at hw⟩
  exact⟨hA,yY hA,key q hA⟩
 ·have e:jT a q=q-1:=if_neg c1
  rw[e]
  by_cases c2:q=a+1
  ·subst c2
   rw[mQ]
   have hA:At n k a:=⟨ha,hs,by grind⟩
   have:=key a hA
   have m:=gG hs (show a+1<=n-1 by omega) (by omega)
   exact⟨hA,tv ⟨hA,hlo,Rat.le_of_lt hhi,.inl hhi⟩,by grind,by grind⟩
  ·rw[iQ (by omega)]at hw ⊢
   rw[iQ (by omega)]at hw
   have hA:At n k (q-1):=⟨by omega,hs,by rwa [show q-1+1=q+1-1 by omega]⟩
   exact⟨hA,yY hA,key _ hA⟩
open Go Go.Am.N AV ag aq IntKind Proofs.Tryz
theorem KH {k:Nat->Rat} {t:Rat}:∀{i:Nat},(∀j,j<i->k j<=t)->gP k t i=i
 |0,_=>rfl
 |i+1,h=>F5 (KH fun j hj=>h j aa) (h i aa)
theorem R8 {n a:Nat} {k:Nat->Rat} {t:Rat} (hs:∀i,i+1<n->k i<=k (i+1)) (hlo:k a<=t) (hhi:t<k (a+1)) (ha:a+1<n):gP k t n=a+1:=
 Dn (KH fun j hj=>Rat.le_trans (gG hs (show j<=a by omega) aa) hlo) hhi aa
def mR (c:Cu) (t:Rat) (a j:Nat):Pl:=
 ⟨⟨l7 c.k c.p.toNat (fun q=>(dg (c.f q)).n.x) t a j,l7 c.k c.p.toNat (fun q=>(dg (c.f q)).n.y) t a j,l7 c.k c.p.toNat (fun q=>(dg (c.f q)).n.z) t a j⟩,l7 c.k c.p.toNat (fun q=>(dg (c.f q)).d) t a j⟩
theorem Kn.agC {n p j:Nat} {k:Nat->Rat} (h:Kn n p k) (hj:j+p+1<n):k j<k (j+(p+1)):=by
 have hp:=h.p1
 have hl:=h.len
 by_cases c:j=0
 ·subst c
  have m:=h.mult 1 aa aa
  rw[h.first 1 aa]at m
  rwa [show 0+(p+1)=1+p by omega]
 ·have m:=h.mult j aa hj
  have:=h.mono (show j+p<=j+(p+1) by omega) aa
  grind
theorem Kn.wide {n p P:Nat} {k:Nat->Rat} (h:Kn n p k) (hA:At n k P):p<=P/\P+p+1<n:=by
 have hw:=hA.wide
 have hlt:=hA.lt
 have hl:=h.len
 constructor
 ·by_cases c:p<=P
  ·exact c
  ·rw[h.first P aa,h.first (P+1) aa]at hw
   exact absurd hw Rat.lt_irrefl
 ·by_cases c:P+p+1<n
  ·exact c
  ·rw[h.last P aa aa,h.last (P+1) aa aa]at hw
   exact absurd hw Rat.lt_irrefl
theorem Vk {p:Pl} (h:p.d≠0):iq (dg p)=p:=by
 obtain⟨⟨x,y,z⟩,d⟩:=p
 have key:∀x:Rat,d*x/d=x:=fun x=>by rw[Rat.div_def,Rat.mul_comm d x,Rat.mul_assoc,Rat.mul_inv_cancel _ h,Rat.mul_one]
 unfold iq dg
 dsimp only
 rw[key,key,key]
def um (c:Cu) (t:Rat) (a:Nat):Cu:=⟨c.p,c.n+1,dH c.k t (a+1),c.m+1,fun j=>iq (mR c t a j)⟩
def jY (c:Cu) (t:Rat):Cu:=if jX c t=0 then um c t (bY c.n c.k t)else Yv
theorem rR {n p:Nat} {k:Nat->Rat} {t:Rat} (h:Kn n p k) (h0:k 0<t) (h1:t<k (n-1)):k (bY n k t)<=t/\t<k (bY n k t+1)/\bY n k t+1<n:=by
 obtain⟨g1,g2,g3⟩:=h.xX (Rat.le_of_lt h0) (Rat.le_of_lt h1)
 refine⟨g1.lo,?_,aa⟩
 rcases g1.Cx with e|e
 ·exact e
 ·rw[e];exact h1
theorem yU {c:Cu} {t:Rat} (h:jX c t=0):c.k 0<t/\t<c.k (c.n-1)/\bU c.k t c.n<c.p.toNat/\c.m<40:=by
 unfold jX at h
 split at h
 ·omega
 ·rename_i g1
  split at h
  ·omega
  ·split at h
   ·omega
   ·have g1:=Classical.not_not.1 g1
    exact⟨g1.1,g1.2,aa,aa⟩
open Go
theorem nD {x:Int} {n:Nat} (h:x.natAbs<2^n) (hn:1<=n):Sz (x:Rat) n:=
 ⟨by rw[Rat.num_intCast];exact h,by rw[Rat.den_intCast];exact Nat.lt_of_lt_of_le (show 1<2^1 by decide) (Nat.pow_le_pow_right (by decide) hn)⟩
def ju (x:Rat):Prop:=∃z:Int,(z:Rat)=x*55440/\-110880<=z/\z<=776160
theorem ju.sz {x:Rat} (h:ju x):Sz x 40:=by
 obtain⟨z,e,h1,h2⟩:=h
 have:x=(z:Rat)/((55440:Int):Rat):=by
  rw[e,Rat.div_def,Rat.mul_assoc,show(55440:Rat)=((55440:Int):Rat)from rfl,Rat.mul_inv_cancel _ (by decide+kernel),Rat.mul_one]
 rw[this]
 exact(nD (n:=20) aa (by decide)).div (nD (n:=20) (by decide) (by decide))
theorem ju.order {x y:Rat} {z w:Int} (h:(z:Rat)=x*55440) (h':(w:Rat)=y*55440) (hxy:x<=y):z<=w:=by
 have:(z:Rat)<=(w:Rat):=by rw[h,h'];exact Rat.mul_le_mul_of_nonneg_right hxy (by decide+kernel)
 exact Rat.intCast_le_intCast.1 this
theorem adA {x y f:Rat} {u v:Int} {s:Nat} (hf:f*(v:Rat)=(u:Rat)) (h0:0<=u) (h1:u<=v) (h2:0<v) (h3:v<2^20) (hx:Sz x s) (hy:Sz y s):Sz (x+f*(y-x)) (2*s+61):=by
 have hv:(v:Rat)≠0:=by
  intro e
  have:v=0:=by
   have e2:(v:Rat)=((0:Int):Rat):=e
   exact Rat.intCast_inj.1 e2
  omega
 have key:x+f*(y-x)=(((v-u:Int):Rat)*x+(u:Rat)*y)/(v:Rat):=by
  have e1:((v-u:Int):Rat)=(v:Rat)-(u:Rat):=by rw[Rat.intCast_sub]
  rw[e1,Rat.div_def,<-hf]
  have e2:((v:Rat)-f*(v:Rat))*x+f*(v:Rat)*y=(x+f*(y-x))*(v:Rat):=by grind
  rw[e2,Rat.mul_assoc,Rat.mul_inv_cancel _ hv,Rat.mul_one]
 rw[key]
 have a1:=(nD (x:=v-u) (n:=20) aa (by decide)).mul hx
 have a2:=(nD (x:=u) (n:=20) aa (by decide)).mul hy
 have a3:=(a1.add a2).div (nD (x:=v) (n:=20) aa (by decide))
 exact a3.more aa
theorem zD {k x:Nat->Rat} {p a j n s:Nat} {t:Rat} (hs:∀i,i+1<n->k i<=k (i+1)) (hlo:k a<=t) (hhi:t<k (a+1)) (hn:a+p<n) (hk:∀i,ju (k i)) (ht:ju t) (hx:∀i,Sz (x i) s):Sz (l7 k p x t a j) (2*s+61):=by
 unfold l7
 split
 ·exact(hx _).more aa
 ·split
  ·exact(hx _).more aa
  ·have m1:=gG hs (show j<=a by omega) aa
   have m2:=gG hs (show a+1<=j+p by omega) aa
   have hw:k j<k (j+p):=by grind
   obtain⟨z1,e1,b1,c1⟩:=hk j
   obtain⟨z2,e2,b2,c2⟩:=hk (j+p)
   obtain⟨z3,e3,b3,c3⟩:=ht
   have o1:=ju.order e1 e3 (by grind)
   have o2:=ju.order e3 e2 (by grind)
   have o3:z1<z2:=by
    have:(z1:Rat)<(z2:Rat):=by rw[e1,e2];exact Rat.mul_lt_mul_of_pos_right hw (by decide+kernel)
    exact Rat.intCast_lt_intCast.1 this
   refine adA (u:=z3-z1) (v:=z2-z1) ?_ aa aa aa aa (hx _) (hx _)
   have hf:=mG (t:=t) hw
   rw[Rat.intCast_sub,Rat.intCast_sub,e1,e2,e3]
   have:fr (k j) (k (j+p)) t*(k (j+p)*55440-k j*55440)=fr (k j) (k (j+p)) t*(k (j+p)-k j)*55440:=by grind
   rw[this,hf];grind
theorem agO {k:Nat->Rat} {t:Rat} {q:Nat} (hk:∀i,ju (k i)) (ht:ju t) (i:Nat):ju (dH k t q i):=by
 unfold dH
 split
 ·exact hk _
 ·split
  ·exact ht
  ·exact hk _
def nu (p n:Nat) (k:Nat->Rat) (x:Nat->Nat->Rat) (N:Nat) (K:Nat->Rat) (X:Nat->Nat->Rat):Prop:=
 ∀Q,At N K Q->∃P,At n k P/\k P<=K Q/\K (Q+1)<=k (P+1)/\∀e l,l.length=p->j7 K p (X e) Q l=j7 k p (x e) P l
theorem nu.refl {p n:Nat} {k:Nat->Rat} {x:Nat->Nat->Rat}:nu p n k x n k x:=fun Q h=>⟨Q,h,Rat.le_refl,Rat.le_refl,fun _ _ _=>rfl⟩
theorem Kn.qm {n p P:Nat} {k:Nat->Rat} (h:Kn n p k) (hA:At n k P):p<=P/\P+p+1<n:=by
 have hw:=hA.wide
 have hlt:=hA.lt
 have hl:=h.len
 constructor
 ·by_cases c:p<=P
  ·exact c
  ·rw[h.first P (by omega),h.first (P+1) (by omega)]at hw
   exact absurd hw Rat.lt_irrefl
 ·by_cases c:P+p+1<n
  ·exact c
  ·rw[h.last P (by omega) (by omega),h.last (P+1) (by omega) (by omega)]at hw
   exact absurd hw Rat.lt_irrefl
theorem nu.ins {p n N a:Nat} {k K:Nat->Rat} {x X:Nat->Nat->Rat} {t:Rat} (h:nu p n k x N K X) (hK:Kn N p K) (h0:K 0<t) (h1:t<K (N-1)) (hlo:K a<=t) (hhi:t<K (a+1)) (ha:a+1<N) (ht:bU K t N<p):
  nu p n k x (N+1) (dH K t (a+1)) fun e=>l7 K p (X e) t a:=by
 intro Q hQ
 have hK':=hK.dH h0 h1 hlo hhi ha ht
 obtain⟨g1,g2⟩:=hK.rP h0 h1 hlo hhi ha
 obtain⟨hA,_,_,_⟩:=abZ hK.sorted hlo hhi ha (by have:=hQ.lt;omega) hQ.wide
 obtain⟨w1,w2⟩:=hK.qm hA
 obtain⟨v1,v2⟩:=hK'.qm hQ
 obtain⟨P,p1,p2,p3,p4⟩:=h _ hA
 refine⟨P,p1,?_,?_,fun e l hl=>?_⟩
 ·refine Rat.le_trans p2 ?_
  unfold jT
  by_cases c1:Q<=a
  ·rw[if_pos c1,iX (by omega)];exact Rat.le_refl
  ·rw[if_neg c1]
   by_cases c2:Q=a+1
   ·subst c2;rw[mQ];exact hlo
   ·rw[iQ (by omega)];exact Rat.le_refl
 ·refine Rat.le_trans ?_ p3
  unfold jT
  by_cases c1:Q<=a
  ·rw[if_pos c1]
   by_cases c2:Q=a
   ·subst c2;rw[mQ];exact Rat.le_of_lt hhi
   ·rw[iX (by omega)];exact Rat.le_refl
  ·rw[if_neg c1,iQ (by omega),show Q+1-1=Q-1+1 by omega];exact Rat.le_refl
 ·rw[<-p4 e l hl]
  exact Pe (n:=N) hK.sorted hK.p1 hlo hhi g1 hA w1 (by omega) hQ v1 (by omega) hl
theorem nu.B7 {p n N j Q:Nat} {k K:Nat->Rat} {x X:Nat->Nat->Rat} (h:nu p n k x N K X) (hK:Kn N p K) (hQ:At N K Q) (h1:j<=Q) (h2:Q<=j+p):
  ∃P,At n k P/\bY n k (K Q)=P/\∀e,j7 k p (x e) P (cm K (j+1) p)=X e j:=by
 obtain⟨w1,w2⟩:=hK.qm hQ
 obtain⟨P,p1,p2,p3,p4⟩:=h Q hQ
 have hw:=hQ.wide
 refine⟨P,p1,tv ⟨p1,p2,by grind,.inl (by grind)⟩,fun e=>?_⟩
 rw[<-p4 e _ lM]
 exact vh hQ w1 (by omega) h2 h1
open Go Go.Am.N AV ag aq IntKind Proofs.Tryz
structure kr (c:Cu) (s:Nat):Prop where
 kn:qF c
 pos:∀i,0<(c.f i).d
 kd:∀i,ju (c.k i)
 sx:∀i,Sz (dg (c.f i)).n.x s
 sy:∀i,Sz (dg (c.f i)).n.y s
 sz:∀i,Sz (dg (c.f i)).n.z s
 sd:∀i,Sz (c.f i).d s
theorem GB {h:Pl} (hd:h.d≠0):dg (iq h)=h:=by
 obtain⟨⟨x,y,z⟩,d⟩:=h
 have key:∀x:Rat,d*(x/d)=x:=fun x=>by rw[Rat.div_def,Rat.mul_comm d,Rat.mul_assoc,Rat.inv_mul_cancel _ hd,Rat.mul_one]
 unfold iq dg
 dsimp only
 rw[key,key,key]
theorem H9 {c:Cu} {t:Rat} {a i:Nat} (hc:qF c) (hp:∀i,0<(c.f i).d) (h0:c.k 0<t) (h1:t<c.k (c.n-1)) (hlo:c.k a<=t) (hhi:t<c.k (a+1)) (ha:a+1<c.n):0<(mR c t a i).d:=by
 obtain⟨g1,g2⟩:=hc.1.rP h0 h1 hlo hhi ha
 exact adU (n:=c.n) hc.1.sorted hlo hhi aa fun i=>hp i
theorem Bh {x:Rat} (h:0<x):x≠0:=fun e=>by rw[e]at h;exact absurd h Rat.lt_irrefl
theorem kr.ins {c:Cu} {s:Nat} {t:Rat} (h:kr c s) (ht:ju t) (he:jX c t=0):kr (jY c t) (2*s+61):=by
 obtain⟨e1,e2,e3,e4⟩:=yU he
 obtain⟨k1,k2,k3,k4,k5⟩:=id h.kn
 obtain⟨a1,a2,a3⟩:=rR k1 e1 e2
 obtain⟨g1,g2⟩:=k1.rP e1 e2 a1 a2 a3
 rw[show jY c t=um c t (bY c.n c.k t)from if_pos he]
 have hpos:∀i,0<(mR c t (bY c.n c.k t) i).d:=fun i=>H9 h.kn h.pos e1 e2 a1 a2 a3
 have hl:∀i,dg (iq (mR c t (bY c.n c.k t) i))=mR c t (bY c.n c.k t) i:=fun i=>GB (Bh (hpos i))
 refine⟨⟨k1.dH e1 e2 a1 a2 a3 e3,k2,k3,show c.n+1<=c.p.toNat+41 by omega,show((c.m+1:Nat):Int)=((c.n+1:Nat):Int)-c.p-1 by omega⟩,hpos,agO h.kd ht,fun i=>?_,fun i=>?_,fun i=>?_,fun i=>?_⟩
 ·show Sz (dg (iq (mR c t (bY c.n c.k t) i))).n.x _
  rw[hl];exact zD (n:=c.n) k1.sorted a1 a2 aa h.kd ht h.sx
 ·show Sz (dg (iq (mR c t (bY c.n c.k t) i))).n.y _
  rw[hl];exact zD (n:=c.n) k1.sorted a1 a2 aa h.kd ht h.sy
 ·show Sz (dg (iq (mR c t (bY c.n c.k t) i))).n.z _
  rw[hl];exact zD (n:=c.n) k1.sorted a1 a2 aa h.kd ht h.sz
 ·exact zD (n:=c.n) k1.sorted a1 a2 aa h.kd ht h.sd
theorem kr.ND {c:Cu} {s r:Nat} (h:kr c s):bQ (fun i=>.rat (c.k i) r) c.n 2000:=fun i _=>en rfl ((h.kd i).sz.more (by decide))
theorem kr.x {c:Cu} {s:Nat} (h:kr c s) (i:Nat):Sz (c.f i).n.x (s+s)/\Sz (c.f i).n.y (s+s)/\Sz (c.f i).n.z (s+s):=by
 have e:=Vk (Bh (h.pos i))
 have d:(dg (c.f i)).d=(c.f i).d:=rfl
 refine⟨?_,?_,?_⟩
 ·rw[<-e];exact(h.sx i).div (d▸h.sd i)
 ·rw[<-e];exact(h.sy i).div (d▸h.sd i)
 ·rw[<-e];exact(h.sz i).div (d▸h.sd i)
def uw (c:Cu) (t:Nat->Rat):Nat->Cu
 |0=>c
 |r+1=>jY (uw c t r) (t r)
def mZ (c:Cu) (t:Nat->Rat):Nat->Int
 |0=>0
 |r+1=>if mZ c t r=0 then jX (uw c t r) (t r)else mZ c t r
def N4:Nat->Nat
 |0=>5
 |r+1=>2*N4 r+61
theorem WX {c:Cu} {t:Nat->Rat} {r:Nat} (h:mZ c t (r+1)=0):mZ c t r=0/\jX (uw c t r) (t r)=0:=by
 unfold mZ at h
 split at h
 ·rename_i g;exact⟨g,h⟩
 ·rename_i g;exact absurd h g
theorem MB {c:Cu} {t:Nat->Rat} (hc:kr c 5) (ht:∀i,ju (t i)):∀{r:Nat},mZ c t r=0->kr (uw c t r) (N4 r)
 |0,_=>hc
 |r+1,h=>by
  obtain⟨h1,h2⟩:=WX h
  exact(MB hc ht h1).ins (ht r) h2
theorem Ge {c:Cu} {t:Nat->Rat} {r:Nat} (h:mZ c t r=0) (he:jX (uw c t r) (t r)=0):mZ c t (r+1)=0:=(if_pos h:mZ c t (r+1)=_).trans he
def gC (g:Nat->Bool):Nat->Nat
 |0=>0
 |n+1=>if gC g n<n then gC g n else if g n then n else n+1
theorem Ab {g:Nat->Bool}:∀{n:Nat},(∀j,j<n->g j=false)->gC g n=n
 |0,_=>rfl
 |n+1,h=>by
  rw[gC,Ab fun j hj=>h j (by omega),if_neg (by omega),h n (by omega)];rfl
theorem xx {g:Nat->Bool} {i:Nat} (hi:g i=true) (hb:∀j,j<i->g j=false):∀{n:Nat},i<n->gC g n=i
 |0,h=>by omega
 |n+1,h=>by
  by_cases c:i=n
  ·subst c
   rw[gC,Ab hb,if_neg (by omega),if_pos hi]
  ·rw[gC,xx hi hb (n:=n) (by omega),if_pos (by omega)]
theorem Kn.split {N p a:Nat} {K:Nat->Rat} {t:Rat} (h:Kn N p K) (h0:K 0<t) (h1:t<K (N-1)) (hlo:K a<=t) (hhi:t<K (a+1)) (ha:a+1<N) (ht:bU K t N=p):
  (∀i,i<=a->a<i+p->K i=t)/\(∀i,i+p<=a->K i<t)/\p+p<=a:=by
 obtain⟨g1,g2⟩:=h.rP h0 h1 hlo hhi ha
 have hp:=h.p1
 have run:∀i,i<=a->a<i+p->K i=t:=fun i hi h2=>Fh h.sorted hhi ha hlo hi (by rw[ht];exact h2)
 refine⟨run,fun i hi=>?_,?_⟩
 ·have m:=h.mono (show i<=a by omega) (by omega)
  by_cases e:K i=t
  ·exfalso
   have hb:∀j,i<=j->j<i+(p+1)->K j=t:=fun j hj1 hj2=>by
    have a1:=h.mono hj1 (by omega)
    have a2:=h.mono (show j<=a by omega) (by omega)
    grind
   have b1:=Bz hb
   have b2:=Eo (k:=K) (t:=t) (n:=i+(p+1)) (m:=N-(i+(p+1)))
   rw[show i+(p+1)+(N-(i+(p+1)))=N by omega]at b2
   omega
  ·grind
 ·by_cases c:p+p<=a
  ·exact c
  ·have e:=run p g1 (by omega)
   rw[h.first p (Nat.le_refl _)]at e
   rw[e]at h0
   exact absurd h0 Rat.lt_irrefl
theorem D5 {k:Nat->Rat} {t:Rat} {q:Nat}:∀{m:Nat},bU (dH k t q) t (q+1+m)=bU k t (q+m)+1
 |0=>by
  have pre:∀i,i<=q->bU (dH k t q) t i=bU k t i:=fun i=>by
   induction i with
   |zero=>intro _;rfl
   |succ i ih=>intro h;rw[j5,j5,ih aa,iX aa]
  show bU (dH k t q) t (q+1)=bU k t q+1
  rw[j5,pre q aR,mQ,if_pos rfl]
 |m+1=>by
  rw[<-Nat.add_assoc,j5,D5 (m:=m),iQ aa,<-Nat.add_assoc,j5,show q+1+m-1=q+m by omega];omega
theorem Kn.abG {n p:Nat} {k:Nat->Rat} {t:Rat} (h:Kn n p k) (h0:k 0<t) (h1:t<k (n-1)):bU k t n<=p:=by
 obtain⟨a1,a2,a3⟩:=rR h h0 h1
 obtain⟨g1,g2⟩:=h.rP h0 h1 a1 a2 a3
 have hp:=h.p1
 generalize bY n k t=a at*
 have:=ym (k:=k) (t:=t) (lo:=a+1-p) (hi:=a+1) aa (n:=n) fun j hj hjt=>by
  constructor
  ·by_cases c:a+1-p<=j
   ·exact c
   ·exfalso
    have hj0:1<=j:=by
     by_cases c2:1<=j
     ·exact c2
     ·rw[show j=0 by omega]at hjt;rw[hjt]at h0;exact absurd h0 Rat.lt_irrefl
    have m:=h.mult j hj0 aa
    have m2:=h.mono (show j+p<=a by omega) aa
    grind
  ·by_cases c:j<a+1
   ·exact c
   ·have:=h.mono (show a+1<=j by omega) hj
    grind
 omega
abbrev dG (c:Cu) (t:Rat):Nat->Cu:=uw c fun _=>t
structure qG (c:Cu) (t:Rat) (r:Nat):Prop where
 e:mZ c (fun _=>t) r=0
 p:(dG c t r).p=c.p
 n:(dG c t r).n=c.n+r
 m:(dG c t r).m=c.m+r
 s:bU (dG c t r).k t (dG c t r).n=bU c.k t c.n+r
 k0:(dG c t r).k 0=c.k 0
 k1:(dG c t r).k ((dG c t r).n-1)=c.k (c.n-1)
theorem Bd {c:Cu} {t:Rat} (h0:c.k 0<t) (h1:t<c.k (c.n-1)) (h2:(bU c.k t c.n:Int)<c.p) (h3:c.m<40):jX c t=0:=by
 unfold jX;rw[if_neg (fun g=>g ⟨h0,h1⟩),if_neg aa,if_neg aa]
theorem Gl {d:Cu} {t:Rat} (hd:qF d) (hE:jX d t=0):(jY d t).p=d.p/\(jY d t).n=d.n+1/\(jY d t).m=d.m+1/\bU (jY d t).k t (jY d t).n=bU d.k t d.n+1/\(jY d t).k 0=d.k 0/\(jY d t).k ((jY d t).n-1)=d.k (d.n-1):=by
 obtain⟨b1,b2,b3,b4⟩:=yU hE
 obtain⟨i1,i2,i3⟩:=rR hd.1 b1 b2
 rw[show jY d t=um d t (bY d.n d.k t)from if_pos hE]
 generalize bY d.n d.k t=a at*
 have:=D5 (k:=d.k) (t:=t) (q:=a+1) (m:=d.n-(a+1))
 rw[show a+1+1+(d.n-(a+1))=d.n+1 by omega,show a+1+(d.n-(a+1))=d.n by omega]at this
 refine⟨rfl,rfl,rfl,this,(show dH d.k t (a+1) 0=_ from iX aa),?_⟩
 show dH d.k t (a+1) (d.n+1-1)=_
 rw[iQ aa];rfl
theorem qG.go {c:Cu} {t:Rat} {r:Nat} (h:qG c t r) (hc:kr c 5) (ht:ju t) (h0:c.k 0<t) (h1:t<c.k (c.n-1)) (h2:((bU c.k t c.n+r:Nat):Int)<c.p) (h3:c.m+r<40):jX (dG c t r) t=0/\qG c t (r+1):=by
 obtain⟨a1,a2,a3,a4,a5,a6,a7⟩:=h
 have hE:jX (dG c t r) t=0:=Bd (by rw[a6];exact h0) (by rw[a7];exact h1) (by rw[a5,a2];exact h2) (by rw[a4];exact h3)
 have hd:=MB hc (fun _=>ht) a1
 obtain⟨b1,b2,b3,b4,b5,b6⟩:=Gl hd.kn hE
 exact⟨hE,Ge a1 hE,b1.trans a2,by rw[show(dG c t (r+1)).n=(dG c t r).n+1 from b2,a3];rfl,by rw[show(dG c t (r+1)).m=(dG c t r).m+1 from b3,a4];rfl,b4.trans (by rw[a5];rfl),b5.trans a6,b6.trans a7⟩
theorem qG.all {c:Cu} {t:Rat} (hc:kr c 5) (ht:ju t) (h0:c.k 0<t) (h1:t<c.k (c.n-1)) (h40:c.m+c.p.toNat<=40):∀{r:Nat},((bU c.k t c.n+r:Nat):Int)<=c.p->qG c t r
 |0,_=>⟨rfl,rfl,rfl,rfl,rfl,rfl,rfl⟩
 |r+1,h=>((qG.all hc ht h0 h1 h40 (r:=r) aa).go hc ht h0 h1 aa aa).2
def oB (d:Cu) (t:Rat) (a:Nat):Cu:=⟨d.p,1+(d.n-(a+1-d.p.toNat)),fun i=>if i<1 then t else d.k (a+1-d.p.toNat+(i-1)),d.m-(a-d.p.toNat),fun i=>d.f (a-d.p.toNat+i)⟩
def QD:Kind FuncId:=⟨fun v=>match v with
 |.func f []=>some (f,[])
 |_=>none,fun g=>.func g [],fun {v a q} h _=>by
  split at h
  ·simp only[ax,Prod.mk.injEq]at h
   obtain⟨rfl,rfl⟩:=h
   exact .refl _
  ·simp at h⟩
theorem UI:aX 191 f191:=aM func191
theorem aaC:aX 192 f192:=aM func192
theorem Ok:aX 190 f190:=aM func190
theorem KD {u v:AV} (h:bp u v):bp (.bn u) (.bn v):=by
 refine⟨rfl,fun M w cs hc=>?_⟩
 cases hc with
 |bn h1 h2 h3=>cases h3;exact .bn (h.2 _ _ _ h1) h2 .nil
theorem adS {f:FuncId} {us vs:List AV} (h:dA us vs) (hv:(vs.all fun v=>!v.isAgg&&!v.isTuple)=true):bp (.func f us) (.func f vs):=by
 refine⟨rfl,fun M w cs hc=>?_⟩
 cases hc with
 |func h1 h2 h3=>cases h3;exact .func (EK h h1) hv .nil
def HU {α:Type} (k:Kind α):Kind α:=⟨fun v=>match v with
 |.bn v=>k.read v
 |_=>none,fun a=>.bn (k.make a),fun {v a q} h hq=>by
  split at h
  ·exact KD (k.ok h hq)
  ·simp at h⟩
def Gd {α:Type} (g:FuncId) (k:Kind α):Kind α:=⟨fun v=>match v with
 |.func f [.bn v]=>match Nat.beq f g with
  |true=>k.read v
  |false=>none
 |_=>none,fun a=>.func g [.bn (k.make a)],fun {v a q} h hq=>by
  split at h
  ·split at h
   ·rename_i hc
    have hc:=Nat.eq_of_beq_eq_true hc
    subst hc
    exact adS ⟨KD (k.ok h hq),trivial⟩ rfl
   ·simp at h
  ·simp at h⟩
def FI:Spec:=cF (kC (dQ 2000) (kC (HU (dQ 2000)) kN)) (fun a=>.bool (decide (a.2.1<a.1))) fun _=>[]
def IV:Spec:=cF (kC (dQ 2000) (kC (HU (dQ 2000)) kN)) (fun a=>.bool (decide (a.2.1<=a.1))) fun _=>[]
def wC:aV:=nG::(191,FI)::(192,IV)::[]
abbrev pZ:List Nat:=[4,0,1,7,8]
abbrev vq (n i:Nat) (k:Nat->Rat) (g:FuncId) (x:Rat):List AV:=[.int .i64 0,bq k n 2000,.func g [.bn (.rat x 2000)],.int .i64 n,.int .i64 i]
abbrev pQ:Code:=aF f190
def lP (x:Rat) (k:Nat->Rat) (i:Nat):Bool:=decide (x<k i)
def lS (x:Rat) (k:Nat->Rat) (i:Nat):Bool:=decide (x<=k i)
def IM:Spec:=cF (kC (kL 2000) (kC (Gd 191 (dQ 2000)) kN)) (fun a=>.int .i64 (gC (lP a.2.1 a.1.2) a.1.1:Nat)) fun a=>[a.1.1<2^40,gC (lP a.2.1 a.1.2) a.1.1<a.1.1]
def HV:Spec:=cF (kC (kL 2000) (kC (Gd 192 (dQ 2000)) kN)) (fun a=>.int .i64 (gC (lS a.2.1 a.1.2) a.1.1:Nat)) fun a=>[a.1.1<2^40,gC (lS a.2.1 a.1.2) a.1.1<a.1.1]
def Cj:Spec:=fun K args pre=>match IM K args pre with
 |some r=>some r
 |none=>HV K args pre
theorem O9 {x y:Rat}:bF T (nG::eV) [] 60 f191 (aF f191) ⟨aS 0 [.rat x 2000,.bn (.rat y 2000)],[],0⟩=
  let c1:Prop:=2000<2^42;some (aj [(0:Nat)<1,c1,c1] (leaf ret [AV.bool (decide (dn x y>0))])):=ah
theorem Z0 {x y:Rat}:bF T (nG::eV) [] 60 f192 (aF f192) ⟨aS 0 [.rat x 2000,.bn (.rat y 2000)],[],0⟩=
  let c1:Prop:=2000<2^42;some (aj [(0:Nat)<1,c1,c1] (leaf ret [AV.bool (decide (dn x y>=0))])):=ah
theorem Mc {n:Nat} {k:Nat->Rat} {g:FuncId} {x:Rat}:aL T wC [] 60 pZ (before pQ [1,0,1]) ⟨aS 0 [bq k n 2000,.func g [.bn (.rat x 2000)]],[],0⟩=
  some (leaf normal ([int i64 0,ak 3 n fun i=>rat (k i) 2000,func g [(rat x 2000).bn],int i64 (↑n:Int),int i64 0],[])):=ah
theorem abn {n i:Nat} {k:Nat->Rat} {x:Rat}:aL T wC [9,16] 60 pZ [part pQ [1,0,1,0,0]] ⟨aG pZ (vq n i k 191 x),[],0⟩=
  let c7:Int:=(↑n:Int);let c5:Prop:=2000<=2000;let c4:AV:=func 191 [(rat x 2000).bn];let c3:AV:=ak 3 n fun i=>rat (k i) 2000;let c2:Int:=(↑i:Int);let c6:Int:=c2+1;let c1:List AV:=[c3,c4,int i64 c7,int i64 c2];some (fork (decide (c2<c7)) (aj [(0:Int)<=c2/\c2.toNat<n,c5,c5] (fork (decide (x<k c2.toNat)) (leaf ret (int i64 c2::c1,[])) (aj [-(2:Int)^63<=c6/\c6<2^63] (leaf normal ([int i64 0,c3,c4,int i64 c7,int i64 c6],[]))))) (leaf (exit 0) (int i64 0::c1,[]))):=ah
theorem ae7 {n i:Nat} {k:Nat->Rat} {x:Rat}:aL T wC [9,16] 60 pZ [part pQ [1,0,1,0,0]] ⟨aG pZ (vq n i k 192 x),[],0⟩=
  let c7:Int:=(↑n:Int);let c5:Prop:=2000<=2000;let c4:AV:=func 192 [(rat x 2000).bn];let c3:AV:=ak 3 n fun i=>rat (k i) 2000;let c2:Int:=(↑i:Int);let c6:Int:=c2+1;let c1:List AV:=[c3,c4,int i64 c7,int i64 c2];some (fork (decide (c2<c7)) (aj [(0:Int)<=c2/\c2.toNat<n,c5,c5] (fork (decide (x<=k c2.toNat)) (leaf ret (int i64 c2::c1,[])) (aj [-(2:Int)^63<=c6/\c6<2^63] (leaf normal ([int i64 0,c3,c4,int i64 c7,int i64 c6],[]))))) (leaf (exit 0) (int i64 0::c1,[]))):=ah
theorem MN {n i:Nat} {k:Nat->Rat} {g:FuncId} {x:Rat}:cP T wC [] 60 f190 [part pQ [1,1]] ⟨aG pZ (vq n i k g x),[],0⟩=
  some (leaf ret [int i64 (-1:Int)]):=ah
theorem WC:bf P FI 191:=cC fun⟨x,y,_⟩ K _=>by
 refine bM (r:=aH (.bool (decide (y<x))) []) hT (eP fB) hm UI rfl aW rfl 60 O9 (fun _=>?_) K []
 simp only[ag.all,au]
 exact⟨⟨aa,aa,aa⟩,gZ (decide_eq_decide.2 qW)⟩
theorem Rm:bf P IV 192:=cC fun⟨x,y,_⟩ K _=>by
 refine bM (r:=aH (.bool (decide (y<=x))) []) hT (eP fB) hm aaC rfl aW rfl 60 Z0 (fun _=>?_) K []
 simp only[ag.all,au]
 exact⟨⟨aa,aa,aa⟩,gZ (decide_eq_decide.2 ta)⟩
theorem J7:bg P wC:=eP (aE WC (aE Rm bD))
theorem Xi:bf P IM 190:=cC fun⟨⟨n,k⟩,x,_⟩ K hn=>by
 have n1:n<2^40:=hn.1
 have n2:gC (lP x k) n<n:=hn.2
 refine iu (r:=aH (.int .i64 (gC (lP x k) n:Nat)) []) hT J7 hm Ok rfl aW rfl [1,0,1] (i:=0) (y:=part pQ [1,0,1,0,0]) (z:=part pQ [1,1]) ah ah ah (f1:=[]) (f2:=[9,16]) (f3:=[]) 60 pZ 0
  (fun i:Nat=>vq n i k 191 x) (fun _=>[]) (fun i=>i<=n/\∀j,j<i->lP x k j=false) (fun i=>i=n/\∀j,j<i->lP x k j=false) (fun i=>n-i) (fun _=>⟨⟨_,Mc,?_⟩,fun i ⟨h1,h2⟩=>⟨_,abn,?_⟩,fun i ⟨h1,h2⟩=>⟨_,MN,?_⟩⟩) K []
 ·exact⟨0,⟨Nat.zero_le _,fun j hj=>aa⟩,.vals rfl⟩
 ·simp only[ag.all,au,bz,bG,br]
  refine⟨fun h=>⟨aa,fun hb=>⟨[.int .i64 i],ah,?_⟩,fun hb=>⟨aa,i+1,⟨aa,fun j hj=>?_⟩,by dsimp only;omega,.vals rfl⟩⟩,fun h=>⟨rfl,i,⟨aa,h2⟩,.vals rfl⟩⟩
  ·exact bW (by rw[xx (g:=lP x k) (i:=i) (decide_eq_true hb) h2 (n:=n) aa])
  ·by_cases hji:j=i
   ·subst hji;exact decide_eq_false hb
   ·exact h2 j aa
 ·subst h1
  rw[Ab h2]at n2
  omega
theorem Uf:bf P HV 190:=cC fun⟨⟨n,k⟩,x,_⟩ K hn=>by
 have n1:n<2^40:=hn.1
 have n2:gC (lS x k) n<n:=hn.2
 refine iu (r:=aH (.int .i64 (gC (lS x k) n:Nat)) []) hT J7 hm Ok rfl aW rfl [1,0,1] (i:=0) (y:=part pQ [1,0,1,0,0]) (z:=part pQ [1,1]) ah ah ah (f1:=[]) (f2:=[9,16]) (f3:=[]) 60 pZ 0
  (fun i:Nat=>vq n i k 192 x) (fun _=>[]) (fun i=>i<=n/\∀j,j<i->lS x k j=false) (fun i=>i=n/\∀j,j<i->lS x k j=false) (fun i=>n-i) (fun _=>⟨⟨_,Mc,?_⟩,fun i ⟨h1,h2⟩=>⟨_,ae7,?_⟩,fun i ⟨h1,h2⟩=>⟨_,MN,?_⟩⟩) K []
 ·exact⟨0,⟨Nat.zero_le _,fun j hj=>aa⟩,.vals rfl⟩
 ·simp only[ag.all,au,bz,bG,br]
  refine⟨fun h=>⟨aa,fun hb=>⟨[.int .i64 i],ah,?_⟩,fun hb=>⟨aa,i+1,⟨aa,fun j hj=>?_⟩,by dsimp only;omega,.vals rfl⟩⟩,fun h=>⟨rfl,i,⟨aa,h2⟩,.vals rfl⟩⟩
  ·exact bW (by rw[xx (g:=lS x k) (i:=i) (decide_eq_true hb) h2 (n:=n) aa])
  ·by_cases hji:j=i
   ·subst hji;exact decide_eq_false hb
   ·exact h2 j aa
 ·subst h1
  rw[Ab h2]at n2
  omega
theorem Wn:bf P Cj 190:=by
 intro K args pre r h
 unfold Cj at h
 split at h
 ·rename_i g
  simp only[ax]at h
  subst h
  exact Xi _ _ _ _ g
 ·exact Uf _ _ _ _ h
theorem IJ:aX 157 f157:=aM func157
def fM (k:Nat->Rat) (n:Nat) (t:Rat):Nat->Nat->Rat
 |0=>k
 |r+1=>dH (fM k n t r) t (bY (n+r) (fM k n t r) t+1)
def Lb:Spec:=cF (kC (kL 2000) (kC (dQ 2000) kN)) (fun a=>bq (js a.1.2 a.2.1 (gP a.1.2 a.2.1 a.1.1)) (a.1.1+1) 2000) fun a=>[a.1.1<2^40,∀i,i<a.1.1+1->Sz (js a.1.2 a.2.1 (gP a.1.2 a.2.1 a.1.1) i) 2000]
def kD:aV:=nG::(113,xQ)::(114,Lb)::(189,K5)::(190,Cj)::eV
abbrev sU:Code:=aF f157
abbrev yy:Code:=part sU [1]
abbrev xq:Code:=part yy [1,0,1,0,0]
abbrev uQ:Code:=part xq [1,1,0,0]
abbrev qX:Code:=part sU [1,1,1]
abbrev rE:Code:=part qX [1,1,1,1,1,1]
abbrev wE:az:=⟨false,true,3,1,fun _=>.agg [.int .i64 0,.nil,.nil]⟩
abbrev wG (c:Cu):az:=⟨false,true,3,1,fun _=>fF c 2000 4000⟩
abbrev zZ:List Nat:=[3,4,5,6]
abbrev ack (a b:Rat):List AV:=[.ptr 0 0 3 0 [],.bn (.rat a 2000),.bn (.rat b 2000),.ptr 3 0 3 0 []]
abbrev Sv (c:Cu) (a b:Rat):aD:=[(3,wE),(2,⟨false,false,3,1,fun _=>.rat b 2000⟩),(1,⟨false,false,3,1,fun _=>.rat a 2000⟩),(0,wG c)]
abbrev oE:List Nat:=[3,4,5,6,7,19,20]
abbrev pE (a b:Rat) (n:Nat) (k:Nat->Rat) (j:Nat):List AV:=[.ptr 0 0 3 0 [],.bn (.rat a 2000),.bn (.rat b 2000),.ptr 1 0 3 0 [],bq k n 2000,.agg [.rat a 2000,.rat b 2000],.int .i64 j]
abbrev pN (c:Cu):aD:=[(1,wE),(0,wG c)]
abbrev uo:List Nat:=[3,4,5,6,7,19,20,9,10]
abbrev uJ (a b:Rat) (n:Nat) (k:Nat->Rat) (j:Nat) (e:Bool):List AV:=[.ptr 0 0 3 0 [],.bn (.rat a 2000),.bn (.rat b 2000),.ptr 1 0 3 0 [],bq k n 2000,.agg [.rat a 2000,.rat b 2000],.int .i64 j,.ptr 2 0 3 0 [],.bool e]
abbrev wk (c:Cu) (x:Rat):aD:=[(2,⟨false,true,3,1,fun _=>.rat x 2000⟩),(1,wE),(0,wG c)]
abbrev vR:List Nat:=[3,4,5,6,7,11,12,13,14,67,68]
abbrev CX (p:Int) (a b:Rat) (n:Nat) (k:Nat->Rat) (f l i:Nat):List AV:=[.ptr 0 0 3 0 [],.bn (.rat a 2000),.bn (.rat b 2000),.ptr 1 0 3 0 [],bq k n 2000,.ptr 2 0 3 0 [],.ptr 3 0 3 0 [],.int .i64 ((f:Int)-1),.int .i64 l,.int .i64 (p+1),.int .i64 i]
abbrev tc (c D:Cu) (x:Nat->Rat) (i:Nat):aD:=[(4,yV 2000 i x),(3,⟨false,true,3,1,fun _=>.agg [.int .i64 c.p,.own 4 3 0 i,.nil]⟩),(2,⟨false,true,3,1,fun _=>fF D sK sB⟩),(1,wE),(0,wG c)]
abbrev wS:List Nat:=[3,5,6,11,12,13,14,88,89]
abbrev A7 (p:Int) (b:Rat) (f l i:Nat):List AV:=[.ptr 0 0 3 0 [],.bn (.rat b 2000),.ptr 1 0 3 0 [],.ptr 2 0 3 0 [],.ptr 3 0 3 0 [],.int .i64 ((f:Int)-1),.int .i64 l,.int .i64 (p+1),.int .i64 i]
def pX (p:Nat) (a b:Rat) (k:Nat->Rat) (f l q:Nat):Rat:=if q<p+1 then a else if q<p+1+(l-f)then k (f+(q-(p+1)))else b
def xL (D:Cu) (a b:Rat) (f l:Nat):Cu:=⟨D.p,D.p.toNat+1+(l-f)+(D.p.toNat+1),pX D.p.toNat a b D.k f l,l-(f-1-D.p.toNat),fun q=>D.f (f-1-D.p.toNat+q)⟩
theorem aa7 {c:Cu} {a b:Rat}:aL T kD [] 60 zZ (before sU [1]) ⟨aS 0 [fF c 2000 4000,.rat a 2000,.rat b 2000],[],0⟩=
  let c3:AV:=rat b 2000;let c2:AV:=rat a 2000;let c1:Nat:=(bE (fF c 2000 4000)).size;some (leaf normal ([ptr 0 0 c1 0 [],ptr 4096 0 (bE c2).size 0 [],ptr 8192 0 (bE c3).size 0 [],ptr 12288 0 3 0 []],[((12288:Nat),bL fun x=>agg [int i64 0,nil,nil]),(8192,az.mk false true (bE c3).size 1 fun x=>c3),(4096,az.mk false true (bE c2).size 1 fun x=>c2),(0,az.mk false true c1 1 fun x=>agg [int i64 c.p,ak 3 c.n fun i=>rat (c.k i) 2000,ak 12 c.m fun i=>b7 (c.f i) 4000])])):=ah
theorem adP {c:Cu} {a b:Rat}:aL T kD [] 60 oE (before yy [1,0,1]) ⟨aG zZ (ack a b),Sv c a b,4⟩=
  let c1:AV:=ak 3 c.n fun i=>rat (c.k i) 2000;some (aj [(0:Nat)<1] (leaf normal ([ptr 0 0 3 0 [],(rat a 2000).bn,(rat b 2000).bn,ptr 3 0 3 0 [],c1,agg [rat a 2000,rat b 2000],int i64 0],[((3:Nat),bL fun x=>agg [int i64 0,nil,nil]),((0:Nat),bL fun x=>agg [int i64 c.p,c1,ak 12 c.m fun i=>b7 (c.f i) 4000])]))):=ah
theorem aaM {c:Cu} {a b:Rat} {n j:Nat} {k:Nat->Rat}:aL T kD [21] 60 oE (before xq [1,1,0]) ⟨aG oE (pE a b n k j),pN c,2⟩=
  let c1:List AV×aD:=([ptr 0 0 3 0 [],(rat a 2000).bn,(rat b 2000).bn,ptr 1 0 3 0 [],ak 3 n fun i=>rat (k i) 2000,agg [rat a 2000,rat b 2000],int i64 (↑j:Int)],[((1:Nat),bL fun x=>agg [int i64 0,nil,nil]),((0:Nat),bL fun x=>agg [int i64 c.p,ak 3 c.n fun i=>rat (c.k i) 2000,ak 12 c.m fun i=>b7 (c.f i) 4000])]);some (fork (decide ((↑j:Int)<2)) (leaf normal c1) (leaf (exit 0) c1)):=ah
theorem abr {c:Cu} {a b:Rat} {n:Nat} {k:Nat->Rat}:aL T kD [28] 60 uo (before uQ [1,1]) ⟨aG oE (pE a b n k 0),pN c,2⟩=
  let c12:AV:=int i64 0;let c11:AV:=ptr 1 0 3 0 [];let c10:AV:=ak 3 n fun i=>rat (k i) 2000;let c9:AV:=ptr 0 0 3 0 [];let c8:AV:=rat b 2000;let c7:AV:=ptr 4098 0 3 0 [];let c6:Prop:=0<1;let c5:AV:=rat a 2000;let c4:Int:=(↑n:Int)-1;let c3:Nat:=Int.toNat (0:Int);let c2:Prop:=2000<2^42;let c14:Prop:=(0:Int)<=0/\c3<n;let c13:Bool:=decide (a=k c3);let c1:List (Nat×az):=[((4098:Nat),bL fun j=>if(j==0)=true then bE c5 else rat 0 1),((1:Nat),bL fun x=>agg [c12,nil,nil]),((0:Nat),bL fun x=>agg [int i64 c.p,ak 3 c.n fun i=>rat (c.k i) 2000,ak 12 c.m fun i=>b7 (c.f i) 4000])];some (aj [(0:Int)<=(↑(0:Nat):Int)/\(↑(0:Nat):Int)<(↑(2:Nat):Int),c6] (fork c13 (aj [c6,c14,c2,c2,c13=true] (leaf normal ([c9,c5.bn,c8.bn,c11,c10,agg [c5,c8],c12,c7,AV.bool true],c1))) (aj [c6,c14,c2,c2,c13=false,c6,-(2:Int)^63<=c4/\c4<2^63,(0:Int)<=c4/\c4.toNat<n,c2,c2] (leaf normal ([c9,c5.bn,c8.bn,c11,c10,agg [c5,c8],c12,c7,AV.bool (bif false then true else decide (a=k c4.toNat))],c1))))):=ah
theorem Vs {c:Cu} {a b:Rat} {n:Nat} {k:Nat->Rat}:aL T kD [28] 60 uo (before uQ [1,1]) ⟨aG oE (pE a b n k 1),pN c,2⟩=
  let c11:AV:=ptr 1 0 3 0 [];let c10:AV:=ak 3 n fun i=>rat (k i) 2000;let c9:AV:=ptr 0 0 3 0 [];let c8:AV:=rat a 2000;let c7:AV:=ptr 4098 0 3 0 [];let c6:Prop:=0<1;let c5:AV:=rat b 2000;let c4:Int:=(↑n:Int)-1;let c3:Nat:=Int.toNat (0:Int);let c2:Prop:=2000<2^42;let c13:Prop:=(0:Int)<=0/\c3<n;let c12:Bool:=decide (b=k c3);let c1:List (Nat×az):=[((4098:Nat),bL fun j=>if(j==0)=true then bE c5 else rat 0 1),((1:Nat),bL fun x=>agg [int i64 0,nil,nil]),((0:Nat),bL fun x=>agg [int i64 c.p,ak 3 c.n fun i=>rat (c.k i) 2000,ak 12 c.m fun i=>b7 (c.f i) 4000])];some (aj [(0:Int)<=(↑(1:Nat):Int)/\(↑(1:Nat):Int)<(↑(2:Nat):Int),c6] (fork c12 (aj [c6,c13,c2,c2,c12=true] (leaf normal ([c9,c8.bn,c5.bn,c11,c10,agg [c8,c5],int i64 1,c7,AV.bool true],c1))) (aj [c6,c13,c2,c2,c12=false,c6,-(2:Int)^63<=c4/\c4<2^63,(0:Int)<=c4/\c4.toNat<n,c2,c2] (leaf normal ([c9,c8.bn,c5.bn,c11,c10,agg [c8,c5],int i64 1,c7,AV.bool (bif false then true else decide (b=k c4.toNat))],c1))))):=ah
theorem Xq {c:Cu} {a b x:Rat} {n j:Nat} {k:Nat->Rat} {e:Bool}:aL T kD [40,47] 60 uo [part uQ [1,1,0,0]] ⟨aG uo (uJ a b n k j e),wk c x,3⟩=
  let c11:Prop:=n<2^40;let c10:AV:=rat a 2000;let c9:AV:=rat b 2000;let c8:Prop:=0<1;let c7:AV:=ptr 1 0 3 0 [];let c6:AV:=ptr 0 0 3 0 [];let c5:Int:=(↑(bU (fun i=>aC (rat (k i) 2000)) x n):Int);let c1:List (Nat×az):=[((2:Nat),bL fun x_1=>rat x 2000),((1:Nat),bL fun x=>agg [int i64 0,nil,nil]),((0:Nat),bL fun x=>agg [int i64 c.p,ak 3 c.n fun i=>rat (c.k i) 2000,ak 12 c.m fun i=>b7 (c.f i) 4000])];let c4:List AV:=[agg [c10,c9],int i64 (↑j:Int),ptr 2 0 3 0 [],AV.bool e];let c3:ag (List AV×aD):=leaf (exit 2) (c6::c10.bn::c9.bn::c7::(ak 3 n fun i=>rat (k i) 2000)::c4,c1);let c2:ag (List AV×aD):=aj [c8,bQ (fun i=>rat (k i) 2000) n 2000,(2000:Nat)<=2000,c11,∀(i:Nat),i<n+1->Sz (js (fun i=>aC (rat (k i) 2000)) x (gP (fun i=>aC (rat (k i) 2000)) x n) i) 2000] (leaf normal (c6::c10.bn::c9.bn::c7::(ak 3 (n+1) fun i=>rat (js (fun i=>aC (rat (k i) 2000)) x (gP (fun i=>aC (rat (k i) 2000)) x n) i) 2000)::c4,c1));some (fork (!e) (aj [(!e)=true,c8,bQ (fun i=>rat (k i) 2000) n sK,(2000:Nat)<=sK,c11,c8] (fork (bif true then decide (c5<c.p)else false) c2 c3)) (aj [(!e)=false] (fork false c2 c3))):=ah
theorem Ww {c:Cu} {a b x:Rat} {n j:Nat} {k:Nat->Rat} {e:Bool}:aL T kD [] 60 oE [part xq [1,1,1]] ⟨aG uo (uJ a b n k j e),wk c x,3⟩=
  let c1:Int:=(↑j:Int)+1;some (aj [-(2:Int)^63<=c1/\c1<2^63] (leaf normal ([ptr 0 0 3 0 [],(rat a 2000).bn,(rat b 2000).bn,ptr 1 0 3 0 [],ak 3 n fun i=>rat (k i) 2000,agg [rat a 2000,rat b 2000],int i64 c1],[((1:Nat),bL fun x=>agg [int i64 0,nil,nil]),((0:Nat),bL fun x=>agg [int i64 c.p,ak 3 c.n fun i=>rat (c.k i) 2000,ak 12 c.m fun i=>b7 (c.f i) 4000])]))):=ah
theorem abL {c:Cu} {a b:Rat} {n j:Nat} {k:Nat->Rat}:aL T kD [] 60 vR (before qX [1,1,1,1,1,0,1]) ⟨aG oE (pE a b n k j),pN c,2⟩=
  let c10:Prop:=2000<=2000;let c9:Int:=c.p+1;let c7:Nat:=gC (lS b fun i=>aC (rat (k i) 2000)) n;let c6:Prop:=bQ (fun i=>rat (k i) 2000) n 2000;let c5:Nat:=2^40;let c4:Int:=(2:Int)^63;let c3:Prop:=0<1;let c2:AV:=agg [int i64 0,nil,nil];let c1:Nat:=gC (lP a fun i=>aC (rat (k i) 2000)) n;let c8:Int:=(↑c1:Int)-1;some (aj [c3,bQ (fun i=>rat (c.k i) 2000) c.n sK,qx (fun i=>b7 (c.f i) 4000) c.m sK,bQ (fun i=>rat (k i) 2000) n sK,Kn c.n c.p.toNat fun i=>aC (rat (c.k i) 2000),(1:Int)<=c.p,c.p<=6,c.n<c5,c.m<c5,n<2^29,c9<=(↑n:Int),c3] (aj [c3,c3] (aj [c6,c10,n<c5,c1<n,-c4<=c8/\c8<c4] (aj [c6,c10,n<c5,c7<n] (aj [c3,-c4<=c9/\c9<c4] (leaf normal ([ptr 0 0 3 0 [],(rat a 2000).bn,(rat b 2000).bn,ptr 1 0 3 0 [],ak 3 n fun i=>rat (k i) 2000,ptr 12290 0 3 0 [],ptr 20482 0 3 0 [],int i64 c8,int i64 (↑c7:Int),int i64 c9,int i64 0],[((20482:Nat),bL fun j=>if(j==0)=true then agg (c2.kids.set 0 (bE (int i64 c.p)))else c2),((12290:Nat),bL fun j=>if(j==0)=true then bE (fF (l9 (Cu.mk c.p c.n (fun i=>aC (rat (c.k i) 2000)) c.m fun i=>qD (b7 (c.f i) 4000)) n fun i=>aC (rat (k i) 2000)) sK sB)else c2),((1:Nat),bL fun x=>c2),((0:Nat),bL fun x=>agg [int i64 c.p,ak 3 c.n fun i=>rat (c.k i) 2000,ak 12 c.m fun i=>b7 (c.f i) 4000])]))))))):=ah
theorem Pp {c D:Cu} {a b:Rat} {n f l i:Nat} {k x:Nat->Rat}:aL T kD [69] 60 vR [part qX [1,1,1,1,1,0,1,0,0]] ⟨aG vR (CX c.p a b n k f l i),tc c D x i,5⟩=
  let c13:Int:=(↑i:Int);let c12:AV:=(rat b 2000).bn;let c11:AV:=int i64 ((↑f:Int)-1);let c10:AV:=rat a 2000;let c9:Int:=c.p+1;let c7:AV:=ptr 2 0 3 0 [];let c6:AV:=ptr 3 0 3 0 [];let c5:AV:=ptr 1 0 3 0 [];let c4:AV:=ak 3 n fun i=>rat (k i) 2000;let c3:AV:=ptr 0 0 3 0 [];let c2:AV:=agg [int i64 c.p,own 4 3 0 i,nil];let c1:List (Nat×az):=[((2:Nat),bL fun x=>agg [int i64 D.p,ak 3 D.n fun i=>rat (D.k i) 4096,ak 12 D.m fun i=>b7 (D.f i) 536870912]),((1:Nat),bL fun x=>agg [int i64 0,nil,nil]),((0:Nat),bL fun x=>agg [int i64 c.p,ak 3 c.n fun i=>rat (c.k i) 2000,ak 12 c.m fun i=>b7 (c.f i) 4000])];let c8:Int:=c13+1;some (fork (decide (c13<c9)) (aj [(0:Nat)<1,(1:Nat)*3<=2^24,(i+1)*((56:Nat)+1)*2<=2^47,(0:Nat)<1] (aj [-(2:Int)^63<=c8/\c8<2^63] (leaf normal ([c3,c10.bn,c12,c5,c4,c7,c6,c11,int i64 (↑l:Int),int i64 c9,int i64 c8],(20485,az.mk true true 3 (i+1) fun i_1=>if i_1<i then rat (x i_1) 2000 else nth [c10] (rat 0 1) (i_1-i+0))::((3:Nat),bL fun j=>if(j==0)=true then agg (c2.kids.set 1 (bE (own (nat_lit 20484+1) 3 0 (i+1))))else c2)::c1)))) (leaf (exit 4) ([c3,c10.bn,c12,c5,c4,c7,c6,c11,int i64 (↑l:Int),int i64 c9,int i64 c13],(4,az.mk true true 3 i fun i=>rat (x i) 2000)::((3:Nat),bL fun x=>c2)::c1))):=ah
theorem ab7 {c D:Cu} {a b:Rat} {n f l i:Nat} {k x:Nat->Rat}:aL T kD [] 60 wS (before rE [1,0,1]) ⟨aG vR (CX c.p a b n k f l i),tc c D x i,5⟩=
  let c7:Int:=c.p+1;let c6:Prop:=0<1;let c5:Int:=(↑l:Int);let c4:AV:=agg [int i64 c.p,own 4 3 0 i,nil];let c3:Int:=(2:Int)^63;let c1:Int:=(↑f:Int)-1+(1:Int);let c2:Nat:=i+(c5.toNat-c1.toNat);some (aj [c6,-c3<=c1/\c1<c3,(0:Int)<=c1/\c1<=c5/\c5<=c5/\c5<=(↑n:Int),c2*((56:Nat)+1)*2<=2^47,c6] (aj [c6,-c3<=c7/\c7<c3] (leaf normal ([ptr 0 0 3 0 [],(rat b 2000).bn,ptr 1 0 3 0 [],ptr 2 0 3 0 [],ptr 3 0 3 0 [],int i64 ((↑f:Int)-1),int i64 c5,int i64 c7,int i64 0],[(28677,az.mk true true 3 c2 fun i_1=>if i_1<i then rat (x i_1) 2000 else rat (k (i_1-i+c1.toNat)) 2000),((3:Nat),bL fun j=>if(j==0)=true then agg (c4.kids.set 1 (bE (own (nat_lit 28676+1) 3 0 c2)))else c4),((2:Nat),bL fun x=>agg [int i64 D.p,ak 3 D.n fun i=>rat (D.k i) 4096,ak 12 D.m fun i=>b7 (D.f i) 536870912]),((1:Nat),bL fun x=>agg [int i64 0,nil,nil]),((0:Nat),bL fun x=>agg [int i64 c.p,ak 3 c.n fun i=>rat (c.k i) 2000,ak 12 c.m fun i=>b7 (c.f i) 4000])])))):=ah
theorem Tu {c D:Cu} {b:Rat} {f l i m:Nat} {x:Nat->Rat}:aL T kD [90] 60 wS [part rE [1,0,1,0,0]] ⟨aG wS (A7 c.p b f l i),tc c D x m,5⟩=
  let c11:Int:=(↑i:Int);let c10:AV:=int i64 ((↑f:Int)-1);let c9:AV:=rat b 2000;let c8:Int:=c.p+1;let c6:AV:=ptr 2 0 3 0 [];let c5:AV:=ptr 3 0 3 0 [];let c4:AV:=ptr 1 0 3 0 [];let c3:AV:=ptr 0 0 3 0 [];let c2:AV:=agg [int i64 c.p,own 4 3 0 m,nil];let c1:List (Nat×az):=[((2:Nat),bL fun x=>agg [int i64 D.p,ak 3 D.n fun i=>rat (D.k i) 4096,ak 12 D.m fun i=>b7 (D.f i) 536870912]),((1:Nat),bL fun x=>agg [int i64 0,nil,nil]),((0:Nat),bL fun x=>agg [int i64 c.p,ak 3 c.n fun i=>rat (c.k i) 2000,ak 12 c.m fun i=>b7 (c.f i) 4000])];let c7:Int:=c11+1;some (fork (decide (c11<c8)) (aj [(0:Nat)<1,(1:Nat)*3<=2^24,(m+1)*((56:Nat)+1)*2<=2^47,(0:Nat)<1] (aj [-(2:Int)^63<=c7/\c7<2^63] (leaf normal ([c3,c9.bn,c4,c6,c5,c10,int i64 (↑l:Int),int i64 c8,int i64 c7],(20485,az.mk true true 3 (m+1) fun i=>if i<m then rat (x i) 2000 else nth [c9] (rat 0 1) (i-m+0))::((3:Nat),bL fun j=>if(j==0)=true then agg (c2.kids.set 1 (bE (own (nat_lit 20484+1) 3 0 (m+1))))else c2)::c1)))) (leaf (exit 6) ([c3,c9.bn,c4,c6,c5,c10,int i64 (↑l:Int),int i64 c8,int i64 c11],(4,az.mk true true 3 m fun i=>rat (x i) 2000)::((3:Nat),bL fun x=>c2)::c1))):=ah
theorem SK {c D:Cu} {b:Rat} {f l i m:Nat} {x:Nat->Rat}:cP T kD [] 60 f157 [part rE [1,1]] ⟨aG wS (A7 c.p b f l i),tc c D x m,5⟩=
  let c3:Int:=(↑l:Int);let c2:Prop:=0<1;let c1:Int:=(↑f:Int)-1-c.p;some (aj [c2,c2,-(2:Int)^63<=c1/\c1<2^63,(0:Int)<=c1/\c1<=c3/\c3<=c3/\c3<=(↑D.m:Int),c2] (aj [c2,c2] (aj [c2] (leaf ret [agg [int i64 c.p,ak 3 m fun i=>rat (x (i+0)) 2000,ak 12 (c3.toNat-c1.toNat) fun i=>b7 (D.f (i+c1.toNat)) 536870912]])))):=ah
theorem abe:bf P Lb 114:=cC fun⟨⟨n,k⟩,t,_⟩ K hn=>by
 have h1:n<2^40:=hn.1
 have h2:∀i,i<n+1->Sz (js k t (gP k t n) i) 2000:=hn.2
 exact nR (u:=bq (js k t (gP k t n)) (n+1) 2002) (l:=[]) (aaP aR aR (by decide) h1 K) (fun h=>trivial) rfl rfl (dB fun i hi=>en rfl (h2 i hi))
theorem wg:bg P kD:=eP (aE Dj (aE abe (aE agd (aE Wn fB))))
structure u6 (n p:Nat) (k:Nat->Rat) (t:Rat) (r:Nat):Prop where
 kn:Kn (n+r) p (fM k n t r)
 tm:bU (fM k n t r) t (n+r)=bU k t n+r
 f0:fM k n t r 0=k 0
 fl:fM k n t r (n+r-1)=k (n-1)
 sd:∀i,Sz (fM k n t r i) 60
theorem abf {k:Nat->Rat} {t:Rat} {q:Nat} (hk:∀i,Sz (k i) 60) (ht:Sz t 60) (i:Nat):Sz (dH k t q i) 60:=by
 unfold dH
 split
 ·exact hk _
 ·split
  ·exact ht
  ·exact hk _
theorem NK {n p:Nat} {k:Nat->Rat} {t:Rat} (h:Kn n p k) (h0:k 0<t) (h1:t<k (n-1)) (kd:∀i,Sz (k i) 60) (ht:Sz t 60):∀{r:Nat},bU k t n+r<=p->u6 n p k t r
 |0,_=>⟨h,rfl,rfl,rfl,kd⟩
 |r+1,hr=>by
  obtain⟨a1,a2,a3,a4,a5⟩:=NK h h0 h1 kd ht (r:=r) aa
  have g0:fM k n t r 0<t:=by rw[a3];exact h0
  have g1:t<fM k n t r (n+r-1):=by rw[a4];exact h1
  obtain⟨i1,i2,i3⟩:=rR a1 g0 g1
  have e:fM k n t (r+1)=dH (fM k n t r) t (bY (n+r) (fM k n t r) t+1):=rfl
  generalize bY (n+r) (fM k n t r) t=a at*
  generalize fM k n t r=K at*
  have tm:=D5 (k:=K) (t:=t) (q:=a+1) (m:=n+r-(a+1))
  rw[show a+1+1+(n+r-(a+1))=n+(r+1) by omega,show a+1+(n+r-(a+1))=n+r by omega]at tm
  have hK:=a1.dH g0 g1 i1 i2 i3 aa
  refine⟨?_,?_,?_,?_,?_⟩
  ·rw[e];exact hK
  ·rw[e,tm,a2];rfl
  ·rw[e,iX aa,a3]
  ·rw[e,show n+(r+1)-1=n+r by omega,iQ aa,a4]
  ·rw[e];exact abf a5 ht
theorem u6.next {n p r:Nat} {k:Nat->Rat} {t:Rat} (h:u6 n p k t r) (h0:k 0<t) (h1:t<k (n-1)):js (fM k n t r) t (gP (fM k n t r) t (n+r))=fM k n t (r+1):=by
 obtain⟨a1,a2,a3,a4,a5⟩:=h
 obtain⟨i1,i2,i3⟩:=rR a1 (by rw[a3];exact h0) (by rw[a4];exact h1)
 rw[R8 a1.sorted i1 i2 i3];rfl
theorem afY {c:Cu} {a b:Rat} {n f l j:Nat} {k:Nat->Rat} {cx:Ctx} {Q:aq->aK->Prop} (hk:Kept [] cx) (hc:Kn c.n c.p.toNat c.k) (hp1:1<=c.p) (hp6:c.p<=6) (hcn:c.n<2^28) (hcm:c.m<2^28) (hn:n<2^28) (hpn:c.p+1<=n) (hf:gC (lP a k) n=f) (hl:gC (lS b k) n=l) (h1:c.p.toNat+1<=f) (h2:f<=l) (h3:l+c.p.toNat+1<=n)
  (hQ:∀e s',eU cx (Fin T f157 (fF (xL (l9 c n k) a b f l) sK sB)) e s'->Q e s'):ay P cx f157.ntmps qX ⟨aG oE (pE a b n k j),pN c,2⟩ Q:=by
 have hv:∀{rl:List (Nat×Nat)} {k x y y':Nat},bA rl k=some x->y=y'->iz rl (.agg [.int .i64 c.p,.own x 3 0 y,.nil]) (.agg [.int .i64 c.p,.own k 3 0 y',.nil]):=fun h e=>mC ⟨aP,⟨rfl,dx h rfl e⟩,aP,trivial⟩
 refine ay.tY hT wg hm (x:=qX) [1,1,1,1,1,0,1] (i:=4) (y:=part qX [1,1,1,1,1,0,1,0,0]) (z:=rE) ah ah ah ah hk (f1:=[]) (f2:=[69]) 60 vR 5
  (fun i:Nat=>CX c.p a b n k f l i) (fun i=>tc c (l9 c n k) (fun _=>a) i) (fun i=>i<=c.p.toNat+1) (fun i=>i=c.p.toNat+1) (fun i=>c.p.toNat+1-i) (fun _=>False) ⟨_,abL,?_⟩ (fun i hi=>⟨_,Pp,?_⟩) (fun i hi=>?_) (fun _ _ h=>h.elim)
 ·have e1:gC (lP a fun i=>aC (rat (k i) 2000)) n=f:=hf
  have e2:gC (lS b fun i=>aC (rat (k i) 2000)) n=l:=hl
  simp only[ag.all,au,e1,e2]
  refine⟨⟨aa,cV (by decide),EV (by decide),cV (by decide),hc,hp1,hp6,aa,aa,aa,hpn,aa⟩,⟨aa,aa⟩,⟨cV aR,aa,aa,aa,aa⟩,⟨cV aR,aa,aa,aa⟩,⟨aa,aa⟩,0,Nat.zero_le _,[(0,0),(1,1),(2,12290),(3,20482)],rfl,rfl,rfl,lO rfl aa aa (fj rfl rfl (mC ⟨aP,⟨rfl,oO aa⟩,aP,trivial⟩) (aY (aY (aY trivial))))⟩
 ·simp only[ag.all,au,bz,bG,br]
  refine⟨fun h=>⟨⟨aa,aa,aa,aa⟩,aa,i+1,aa,by dsimp only;omega,[(0,0),(1,1),(2,2),(3,3),(4,20485)],rfl,rfl,rfl,cJ rfl rfl rfl (fun q hq=>m8 (y:=fun _=>a) (fun _ _=>rfl) rfl aR aR hq) (fj rfl rfl (hv rfl rfl) (aY (aY (aY trivial))))⟩,fun h=>⟨rfl,i,aa,[(0,0),(1,1),(2,2),(3,3),(4,4)],rfl,rfl,rfl,mI (fj rfl rfl (hv rfl rfl) (aY (aY (aY trivial))))⟩⟩
 ·subst hi
  refine ay.tY hT wg hm (x:=rE) [1,0,1] (i:=6) (y:=part rE [1,0,1,0,0]) (z:=part rE [1,1]) ah ah ah ah hk (f1:=[]) (f2:=[90]) 60 wS 5
   (fun i:Nat=>A7 c.p b f l i) (fun i=>tc c (l9 c n k) (pX c.p.toNat a b k f l) (c.p.toNat+1+(l-f)+i)) (fun i=>i<=c.p.toNat+1) (fun i=>i=c.p.toNat+1) (fun i=>c.p.toNat+1-i) (fun _=>False) ⟨_,ab7,?_⟩ (fun i hi=>⟨_,Tu,?_⟩) (fun i hi=>?_) (fun _ _ h=>h.elim)
  ·simp only[ag.all,au,br]
   have e1:((f:Int)-1+1).toNat=f:=aa
   simp only[e1]
   refine⟨⟨aa,aa,aa,aa,aa⟩,⟨aa,aa⟩,0,Nat.zero_le _,[(0,0),(1,1),(2,2),(3,3),(4,28677)],rfl,rfl,rfl,cJ rfl rfl rfl (fun q hq=>eJ (Ef rfl rfl) ?_) (fj rfl rfl (hv rfl rfl) (aY (aY (aY trivial))))⟩
   have hq:q<c.p.toNat+1+(l-f)+0:=hq
   unfold pX
   by_cases c1:q<c.p.toNat+1
   ·rw[if_pos c1,if_pos c1]
   ·rw[if_neg c1,if_neg c1,if_pos aa,Nat.add_comm]
  ·simp only[ag.all,au,bz,bG,br]
   refine⟨fun h=>⟨⟨aa,aa,aa,aa⟩,aa,i+1,aa,by dsimp only;omega,[(0,0),(1,1),(2,2),(3,3),(4,20485)],rfl,rfl,rfl,cJ rfl rfl rfl (fun q hq=>m8 (y:=pX c.p.toNat a b k f l) (fun _ _=>rfl) ?_ aR aR hq) (fj rfl rfl (hv rfl rfl) (aY (aY (aY trivial))))⟩,fun h=>⟨rfl,i,aa,[(0,0),(1,1),(2,2),(3,3),(4,4)],rfl,rfl,rfl,mI (fj rfl rfl (hv rfl rfl) (aY (aY (aY trivial))))⟩⟩
   unfold pX
   rw[if_neg aa,if_neg aa]
  ·subst hi
   refine ay.qQ ((aI.fin hT wg hm 60 SK ah ?_).mono fun _ _ h=>hQ _ _ (.inl h))
   simp only[ag.all,au,br]
   have e1:((f:Int)-1-c.p).toNat=f-1-c.p.toNat:=aa
   have e2:(l9 c n k).m=n-c.p.toNat-1:=rfl
   simp only[e1,e2]
   refine⟨⟨aa,aa,aa,aa,aa⟩,⟨aa,aa⟩,aa,cj ⟨.refl _,dB fun i hi=>bC rfl (by decide),tO rfl fun i _=>?_,trivial⟩⟩
   show b7 (pe c n k (i+(f-1-c.p.toNat))) sB=b7 (pe c n k (f-1-c.p.toNat+i)) sB
   rw[Nat.add_comm]
abbrev zz (z:Nat->Int):Nat->AV:=fun i=>.int .i64 (z i)
abbrev eZ (c:Cu):Cu:=⟨c.p,c.n,c.k,c.m,fun i=>dg (c.f i)⟩
abbrev Vt (c:Cu):Cu:=⟨c.p,c.n,c.k,c.m,fun i=>iq (c.f i)⟩
theorem Se {c:Cu} {P j e:Nat} {K:Nat->Rat} (hc:Kn c.n c.p.toNat c.k) (hp1:1<=c.p) (hm2:(c.m:Int)=(c.n:Int)-c.p-1) (hA:At c.n c.k P):
  jc c (P:Nat) c.p.toNat (fun i=>K (i+(j+1))) e=j7 c.k c.p.toNat (fun i=>iw (c.f i) e) P (cm K (j+1) c.p.toNat):=by
 obtain⟨w1,w2⟩:=hc.wide hA
 have hw:=hA.wide
 have hE:jg c.n c.k c.p.toNat c.m c.p.toNat (P:Nat)=0:=MY aa rfl (by
  rw[br]
  rintro(h|h|h)
  ·omega
  ·omega
  ·exact absurd h (Rat.not_le.2 hw))
 unfold jc mS
 rw[if_pos hE,br,agU]
 have e1:cm (fun i=>K (i+(j+1))) 0 c.p.toNat=cm K (j+1) c.p.toNat:=by
  have:=DI (k:=K) (c:=j+1) (l:=c.p.toNat) (a:=0)
  rw[Nat.add_zero]at this
  rw[<-this]
  exact xN fun i _ _=>by rw[Nat.add_comm i (j+1)]
 rw[e1];rfl
def wQ (x:Rat):Prop:=∃z:Int,x=(z:Rat)/2/\-4<=z/\z<=28
theorem afm {z:Int}:(z:Rat)/2*55440=((27720*z:Int):Rat):=by
 rw[Rat.intCast_mul,Rat.div_def,show((27720:Int):Rat)=2⁻¹*55440 by decide+kernel];grind
theorem wQ.isD {x:Rat} (h:wQ x):ju x:=by
 obtain⟨z,e,h1,h2⟩:=h
 exact⟨27720*z,by rw[e,afm],aa,aa⟩
theorem Tv {x y:Int} {k:Nat} (hx:x.natAbs<2^k) (hy:y≠0) (hy2:y.natAbs<2^k):Sz ((x:Rat)/(y:Rat)) k:=by
 rw[<-Cg hy];exact Al aa hx hy2
theorem xP {n:Nat} {f:Nat->AV} {a:Int}:Sz (eC n f a) 3:=by
 have a1:=qj (n:=n) (f:=f) (a:=a) (m:=13) aa
 have a2:=qh (n:=n) (f:=f) (a:=a) (m:=13) aa
 have b1:=qj (n:=n) (f:=f) (a:=b9 n (b9 n a)) (m:=4) aa
 have b2:=qh (n:=n) (f:=f) (a:=b9 n (b9 n a)) (m:=4) aa
 unfold eC
 split
 ·exact Tv aa aa aa
 ·exact nD aa (by decide)
open Go
def LQ:Int:=144403552893600
theorem ahD:∀v:Nat,v<33->v≠0->v∣144403552893600:=by decide
theorem OG {v:Int} (h:v.natAbs<33) (h0:v≠0):∃w:Int,LQ=v*w/\w.natAbs<=144403552893600:=by
 obtain⟨w,e⟩:=ahD v.natAbs h aa
 have hw:w<=144403552893600:=by
  rw[e];exact Nat.le_mul_of_pos_left _ aa
 rcases Int.natAbs_eq v with g|g
 ·refine⟨w,?_,by simpa using hw⟩
  rw[g]
  show(144403552893600:Int)=((v.natAbs:Nat):Int)*((w:Nat):Int)
  rw[<-Int.natCast_mul,<-e];rfl
 ·refine⟨-(w:Int),?_,by simpa using hw⟩
  rw[g]
  show(144403552893600:Int)=-((v.natAbs:Nat):Int)*(-((w:Nat):Int))
  rw[Int.neg_mul_neg,<-Int.natCast_mul,<-e];rfl
def l8 (t:Rat):Prop:=∃z:Int,t=(z:Rat)/2/\-4<=z/\z<=28
def gR (r:Nat) (x:Rat):Prop:=∃z:Int,(z:Rat)=x*((LQ^(r+1):Int):Rat)/\z.natAbs<=2^(53+54*r)
theorem T0 {r:Nat}:((LQ^r:Int):Rat)≠0:=fun h=>by
 have h:((LQ^r:Int):Rat)=((0:Int):Rat):=h
 have:=Rat.intCast_inj.1 h
 exact absurd this (Int.pow_ne_zero (by decide))
theorem gR.sz {r:Nat} {x:Rat} (h:gR r x):Sz x (102+102*r):=by
 obtain⟨z,e,b⟩:=h
 have hx:x=(z:Rat)/((LQ^(r+1):Int):Rat):=by rw[e,Rat.div_def,Rat.mul_assoc,Rat.mul_inv_cancel _ T0,Rat.mul_one]
 rw[hx]
 have s1:Sz (z:Rat) (54+54*r):=nD (Nat.lt_of_le_of_lt b (Nat.pow_lt_pow_right (by decide) aa)) aa
 have s2:Sz ((LQ^(r+1):Int):Rat) (48*(r+1)):=nD (by
  rw[Int.natAbs_pow,Nat.pow_mul]
  exact Nat.pow_lt_pow_left (by decide) aa) aa
 exact(s1.div s2).more aa
theorem gR.up {r:Nat} {x:Rat} (h:gR r x):gR (r+1) x:=by
 obtain⟨z,e,b⟩:=h
 refine⟨z*LQ,?_,?_⟩
 ·rw[Rat.intCast_mul,e,Int.pow_succ LQ (r+1),Rat.intCast_mul,Rat.mul_assoc]
 ·rw[Int.natAbs_mul,show 53+54*(r+1)=(53+54*r)+54 by omega,Nat.pow_add]
  exact Nat.mul_le_mul b (by decide)
theorem gR.zk {x:Rat} (h:Sz x 5):gR 0 x:=by
 obtain⟨h1,h2⟩:=h
 obtain⟨w,e,hw⟩:=OG (v:=(x.den:Int)) (by simpa using by omega) (by have:=x.den_nz;omega)
 refine⟨x.num*w,?_,?_⟩
 ·rw[show LQ^(0+1)=(x.den:Int)*w by rw[<-e];rfl,Rat.intCast_mul,Rat.intCast_mul,<-Rat.mul_assoc]
  congr 1
  have hd:((x.den:Int):Rat)≠0:=by exact_mod_cast x.den_nz
  have hx:x=(x.num:Rat)/((x.den:Int):Rat):=by rw[<-Rat.divInt_eq_div,Rat.num_divInt_den]
  have key:x*((x.den:Int):Rat)=(x.num:Rat):=by
   conv=>lhs;lhs;rw[hx]
   exact Rat.div_mul_cancel hd
  exact key.symm
 ·rw[Int.natAbs_mul]
  exact Nat.le_trans (Nat.mul_le_mul (show x.num.natAbs<=32 by omega) hw) (by decide)
theorem gR.mix {r:Nat} {x y a b t:Rat} (ha:l8 a) (hb:l8 b) (ht:l8 t) (hx:gR r x) (hy:gR r y):gR (r+1) (x+fr a b t*(y-x)):=by
 obtain⟨za,a1,a2,a3⟩:=ha
 obtain⟨zb,b1,b2,b3⟩:=hb
 obtain⟨zt,t1,t2,t3⟩:=ht
 have e1:b-a=((zb-za:Int):Rat)/2:=by rw[a1,b1,Rat.intCast_sub,Rat.div_def,Rat.div_def,Rat.div_def];grind
 have e2:t-a=((zt-za:Int):Rat)/2:=by rw[a1,t1,Rat.intCast_sub,Rat.div_def,Rat.div_def,Rat.div_def];grind
 by_cases hv:zb-za=0
 ·have:fr a b t=0:=by
   unfold fr
   rw[e1,hv,Rat.div_def,show((0:Int):Rat)/2=0 by decide+kernel,Rat.inv_zero,Rat.mul_zero]
  rw[this,Rat.zero_mul,Rat.add_zero]
  exact hx.up
 ·have hvq:((zb-za:Int):Rat)≠0:=fun h=>hv (Rat.intCast_inj.1 (show((zb-za:Int):Rat)=((0:Int):Rat)from h))
  have hf:fr a b t*((zb-za:Int):Rat)=((zt-za:Int):Rat):=by
   unfold fr
   have hn:b-a≠0:=by
    rw[e1]
    intro h
    apply hvq
    have:((zb-za:Int):Rat)=((zb-za:Int):Rat)/2*2:=by rw[Rat.div_mul_cancel (by decide)]
    rw[this,h,Rat.zero_mul]
   have h2:((zb-za:Int):Rat)=(b-a)*2:=by rw[e1,Rat.div_mul_cancel (by decide)]
   have h3:((zt-za:Int):Rat)=(t-a)*2:=by rw[e2,Rat.div_mul_cancel (by decide)]
   rw[h2,h3,<-Rat.mul_assoc,Rat.div_mul_cancel hn]
  obtain⟨w,hw,wb⟩:=OG (v:=zb-za) aa hv
  obtain⟨zx,x1,x2⟩:=hx
  obtain⟨zy,y1,y2⟩:=hy
  refine⟨zx*LQ+(zt-za)*w*(zy-zx),?_,?_⟩
  ·have hL:fr a b t*(LQ:Rat)=(((zt-za)*w:Int):Rat):=by
    rw[hw,Rat.intCast_mul,Rat.intCast_mul,<-Rat.mul_assoc,hf]
   rw[Rat.intCast_add,Rat.intCast_mul,Rat.intCast_mul ((zt-za)*w),<-hL,Rat.intCast_sub,x1,y1,Int.pow_succ LQ (r+1),Rat.intCast_mul]
   generalize ((LQ^(r+1):Int):Rat)=m
   generalize (LQ:Rat)=l
   generalize fr a b t=f
   grind
  ·have c1:(zy-zx).natAbs<=2^(53+54*r)+2^(53+54*r):=aa
   have c2:((zt-za)*w).natAbs<=32*144403552893600:=by
    rw[Int.natAbs_mul];exact Nat.mul_le_mul aa wb
   have c3:((zt-za)*w*(zy-zx)).natAbs<=32*144403552893600*(2^(53+54*r)+2^(53+54*r)):=by
    rw[Int.natAbs_mul];exact Nat.mul_le_mul c2 c1
   have c4:(zx*LQ).natAbs<=2^(53+54*r)*144403552893600:=by
    rw[Int.natAbs_mul];exact Nat.mul_le_mul x2 aR
   have c5:=Int.natAbs_add_le (zx*LQ) ((zt-za)*w*(zy-zx))
   rw[show 53+54*(r+1)=(53+54*r)+54 by omega,Nat.pow_add]
   generalize 2^(53+54*r)=B at*
   omega
theorem Jw {k:Nat->Rat} {b p:Nat} (hk:∀i,l8 (k i)):∀{l:List Rat} {r s:Nat} {x:Nat->Rat},(∀t∈l,l8 t)->(∀j,gR s (x j))->∀j,gR (s+l.length) (bl k b p r x l j)
 |[],_,_,_,_,hx,j=>hx j
 |t::l,r,s,x,hl,hx,j=>by
  rw[bl,List.length_cons,show s+(l.length+1)=s+1+l.length by omega]
  refine Jw hk (fun u hu=>hl u (List.mem_cons_of_mem _ hu)) (fun q=>?_) j
  unfold gW
  split
  ·exact(hx _).mix (hk _) (hk _) (hl t (List.mem_cons_self ..)) (hx _)
  ·exact(hx _).up
theorem PN {k x:Nat->Rat} {p P:Nat} {l:List Rat} (hk:∀i,l8 (k i)) (hl:∀t∈l,l8 t) (hx:∀j,gR 0 (x j)):gR l.length (j7 k p x P l):=by
 have:=Jw (b:=P-p) (p:=p) (r:=0) hk hl (fun j=>hx (P-p+j)) p
 rwa [Nat.zero_add]at this
open Go Go.Am.N AV ag aq IntKind Proofs.Tryz
theorem tB {t:Rat} (h:wQ t):l8 t:=h
theorem kr.aX {c:Cu} (h:kr c 5) (e:Nat) (i:Nat):gR 0 (iw (dg (c.f i)) e):=by
 match e with
 |0=>exact gR.zk (h.sx i)
 |1=>exact gR.zk (h.sy i)
 |2=>exact gR.zk (h.sz i)
 |e+3=>exact gR.zk (h.sd i)
theorem xR {t:Rat} (h:l8 t):Sz t 2000:=by
 obtain⟨z,e,h1,h2⟩:=h
 rw[e]
 exact((nD (x:=z) (n:=5) aa (by decide)).div (nD (x:=2) (n:=2) (by decide) (by decide))).more (by decide)
structure jR (c:Cu):Prop where
 d:kr c 5
 h:∀i,wQ (c.k i)
structure gz (c d:Cu):Prop where
 kn:qF d
 p:d.p=c.p
 pos:∀i,0<(d.f i).d
 sub:nu c.p.toNat c.n c.k (fun e i=>iw (dg (c.f i)) e) d.n d.k (fun e i=>iw (dg (d.f i)) e)
 kc:∀q,q<d.n->∃r,r<c.n/\d.k q=c.k r
theorem jR.self {c:Cu} (h:jR c):gz c c:=⟨h.d.kn,rfl,h.d.pos,nu.refl,fun q hq=>⟨q,hq,rfl⟩⟩
theorem Gt {f:Nat->Rat} {C:Rat->Prop}:∀{l a:Nat},(∀i,a<=i->i<a+l->C (f i))->∀t∈cm f a l,C t
 |0,_,_,t,ht=>by simp[cm]at ht
 |l+1,a,h,t,ht=>by
  rw[cm,List.mem_cons]at ht
  rcases ht with rfl|ht
  ·exact h a aR aa
  ·exact Gt (fun i h1 h2=>h i aa aa) t ht
theorem gz.hf {c d:Cu} (h:gz c d) (hb:jR c) {q:Nat} (hq:q<d.n):l8 (d.k q):=by
 obtain⟨r,_,e⟩:=h.kc q hq
 rw[e];exact tB (hb.h r)
theorem gz.q {c d:Cu} (h:gz c d) (hb:jR c) {j:Nat} (hj:j<d.m) (e:Nat):gR 6 (iw (dg (d.f j)) e):=by
 obtain⟨k1,k2,k3,k4,k5⟩:=id h.kn
 have hp:=h.p
 rw[hp]at k1 k5
 rw[hp]at k2 k3
 obtain⟨Q,_,g1,g2,g3,g4,g5⟩:=k1.piece (j:=j) aa
 obtain⟨P,hP,_,hE⟩:=h.sub.B7 k1 ⟨aa,k1.sorted,g3⟩ g1 g2
 have:=PN (k:=c.k) (x:=fun i=>iw (dg (c.f i)) e) (p:=c.p.toNat) (P:=P) (l:=cm d.k (j+1) c.p.toNat) (fun i=>tB (hb.h i)) (Gt fun i h1 h2=>h.hf hb aa) (fun j=>hb.d.aX e j)
 rw[lM,hE e]at this
 have up:∀{r s:Nat} {x:Rat},gR r x->gR (r+s) x:=fun {r s x} h=>by
  induction s with
  |zero=>exact h
  |succ s ih=>exact ih.up
 have:=up (s:=6-c.p.toNat) this
 rwa [show c.p.toNat+(6-c.p.toNat)=6 by omega]at this
theorem gz.ND {c d:Cu} {r:Nat} (h:gz c d) (hb:jR c):bQ (fun i=>.rat (d.k i) r) d.n 2000:=fun _ hi=>en rfl (xR (h.hf hb hi))
theorem gz.up {c d:Cu} {x y:Nat} (h:gz c d) (hb:jR c) (hy:y<=sE):bp (bk d x y) (bk d 2000 sE):=
 cj ⟨.refl _,dB fun i hi=>h.ND hb i hi,dB fun i _=>cj ⟨cj ⟨bC rfl hy,bC rfl hy,bC rfl hy,trivial⟩,bC rfl hy,trivial⟩,trivial⟩
theorem gz.ins {c d:Cu} {t:Rat} (h:gz c d) (ht:∃r,r<c.n/\t=c.k r) (he:jX d t=0):gz c (jY d t):=by
 obtain⟨e1,e2,e3,e4⟩:=yU he
 obtain⟨k1,k2,k3,k4,k5⟩:=id h.kn
 obtain⟨i1,i2,i3⟩:=rR k1 e1 e2
 have hp:=h.p
 rw[show jY d t=um d t (bY d.n d.k t)from if_pos he]
 have hpos:∀i,0<(mR d t (bY d.n d.k t) i).d:=fun i=>H9 h.kn h.pos e1 e2 i1 i2 i3
 refine⟨⟨k1.dH e1 e2 i1 i2 i3 e3,k2,k3,show d.n+1<=d.p.toNat+41 by omega,show((d.m+1:Nat):Int)=((d.n+1:Nat):Int)-d.p-1 by omega⟩,hp,hpos,?_,fun q hq=>?_⟩
 ·have key:=nu.ins (t:=t) h.sub (by rw[<-hp];exact k1) e1 e2 i1 i2 i3 (by rw[<-hp];exact e3)
  have ef:(fun e i=>iw (dg ((um d t (bY d.n d.k t)).f i)) e)=fun e=>l7 d.k c.p.toNat (fun i=>iw (dg (d.f i)) e) t (bY d.n d.k t):=by
   funext e i
   show iw (dg (iq (mR d t (bY d.n d.k t) i))) e=_
   rw[GB (Bh (hpos i)),<-hp]
   match e with
   |0=>rfl
   |1=>rfl
   |2=>rfl
   |e+3=>rfl
  rw[ef]
  exact key
 ·have hq:q<d.n+1:=hq
  show∃r,r<c.n/\dH d.k t (bY d.n d.k t+1) q=c.k r
  unfold dH
  split
  ·exact h.kc q aa
  ·split
   ·exact ht
   ·exact h.kc (q-1) aa
theorem Ct {c d:Cu} {t:Rat} (hq:gz c d) (ht:∃r,r<c.n/\t=c.k r) (h0:d.k 0<t) (h1:t<d.k (d.n-1)) (h40:d.m+d.p.toNat<=40):∀{r:Nat},((bU d.k t d.n+r:Nat):Int)<=d.p->qG d t r/\gz c (dG d t r)
 |0,_=>⟨⟨rfl,rfl,rfl,rfl,rfl,rfl,rfl⟩,hq⟩
 |r+1,h=>by
  obtain⟨⟨a1,a2,a3,a4,a5,a6,a7⟩,hr⟩:=Ct hq ht h0 h1 h40 (r:=r) aa
  have hE:jX (dG d t r) t=0:=Bd (by rw[a6];exact h0) (by rw[a7];exact h1) (by rw[a5,a2];omega) (by rw[a4];omega)
  obtain⟨b1,b2,b3,b4,b5,b6⟩:=Gl hr.kn hE
  exact⟨⟨Ge a1 hE,b1.trans a2,by rw[show(dG d t (r+1)).n=(dG d t r).n+1 from b2,a3];rfl,by rw[show(dG d t (r+1)).m=(dG d t r).m+1 from b3,a4];rfl,b4.trans (by rw[a5];rfl),b5.trans a6,b6.trans a7⟩,hr.ins ht hE⟩
theorem LX {k k':Nat->Rat} {b b' p:Nat} (h:∀i,1<=i->k' (b'+i)=k (b+i)):∀{l:List Rat} {r:Nat} {x:Nat->Rat},bl k' b' p r x l=bl k b p r x l
 |[],_,_=>rfl
 |t::l,r,x=>by
  rw[bl,bl,LX h (l:=l)]
  congr 1
  funext j
  unfold gW
  split
  ·rw[h j aa,Nat.add_assoc,h (j+(p-r)) aa,Nat.add_assoc]
  ·rfl
theorem gz.right {c d:Cu} {t:Rat} {a:Nat} (h:gz c d) (h0:d.k 0<t) (h1:t<d.k (d.n-1)) (hlo:d.k a<=t) (hhi:t<d.k (a+1)) (ha:a+1<d.n) (ht:bU d.k t d.n=d.p.toNat):gz c (oB d t a):=by
 obtain⟨k1,k2,k3,k4,k5⟩:=id h.kn
 obtain⟨r1,r2,r3⟩:=k1.split h0 h1 hlo hhi ha ht
 obtain⟨g1,g2⟩:=k1.rP h0 h1 hlo hhi ha
 have hp:=h.p
 have hl:=k1.len
 have hp1:=k1.p1
 have hK:∀i,1<=i->(oB d t a).k i=d.k (a-d.p.toNat+i):=fun i hi=>by
  show(if i<1 then t else d.k (a+1-d.p.toNat+(i-1)))=_
  rw[if_neg aa];congr 1;omega
 have hK0:(oB d t a).k 0=t:=(if_pos aa:(if 0<1 then t else d.k (a+1-d.p.toNat+(0-1)))=t)
 have hN:(oB d t a).n=d.n-(a-d.p.toNat):=by show 1+(d.n-(a+1-d.p.toNat))=_;omega
 have hS:∀i,1<=i->i<=d.p.toNat->d.k (a-d.p.toNat+i)=t:=fun i h1 h2=>r1 _ aa aa
 have hkn:Kn (oB d t a).n d.p.toNat (oB d t a).k:=by
  rw[hN]
  refine⟨hp1,aa,fun i hi=>?_,fun i hi=>?_,fun i h1 h2=>?_,fun i h1 h2=>?_⟩
  ·by_cases e:i=0
   ·subst e
    rw[hK0,hK _ aa,hS _ aa aa];exact Rat.le_refl
   ·rw[hK _ aa,hK _ aa];exact k1.sorted _ aa
  ·by_cases e:i=0
   ·subst e;rfl
   ·rw[hK _ aa,hK0,hS _ aa hi]
  ·rw[hK _ aa,hK _ aa,k1.last _ aa aa,k1.last (a-d.p.toNat+(d.n-(a-d.p.toNat)-1)) aa aa]
  ·rw[hK _ aa,hK _ aa,<-Nat.add_assoc];exact k1.mult _ aa aa
 refine⟨⟨hkn,k2,k3,show(oB d t a).n<=d.p.toNat+41 by omega,show((d.m-(a-d.p.toNat):Nat):Int)=((oB d t a).n:Int)-d.p-1 by omega⟩,hp,fun i=>h.pos _,fun Q hQ=>?_,fun q hq=>?_⟩
 ·obtain⟨v1,v2⟩:=hkn.qm hQ
  have hw:=hQ.wide
  rw[hK _ aa,hK _ aa]at hw
  obtain⟨P,p1,p2,p3,p4⟩:=h.sub (a-d.p.toNat+Q) ⟨aa,k1.sorted,hw⟩
  refine⟨P,p1,by rw[hK _ aa];exact p2,by rw[hK _ aa];exact p3,fun e l hl=>?_⟩
  rw[<-p4 e l hl,<-hp]
  show bl (oB d t a).k (Q-d.p.toNat) d.p.toNat 0 (fun q=>iw (dg (d.f (a-d.p.toNat+(Q-d.p.toNat+q)))) e) l d.p.toNat=bl d.k (a-d.p.toNat+Q-d.p.toNat) d.p.toNat 0 (fun q=>iw (dg (d.f (a-d.p.toNat+Q-d.p.toNat+q))) e) l d.p.toNat
  rw[LX (k:=d.k) (b:=a-d.p.toNat+Q-d.p.toNat) fun i hi=>by rw[hK _ aa];congr 1;omega]
  congr 1
  funext q
  rw[show a-d.p.toNat+(Q-d.p.toNat+q)=a-d.p.toNat+Q-d.p.toNat+q by omega]
 ·by_cases e:q=0
  ·subst e
   rw[hK0,<-hS 1 aa aa];exact h.kc _ aa
  ·rw[hK _ aa];exact h.kc _ aa
end Go.Am.B
