/- Spline.Elevate. -/
import Derived.Test.YtnniljlepppdpaaGreatY40
import Derived.Test.YtnniljlepppdpaaGreatY37
import Derived.Test.YtnniljlepppdpaaGreatY39
import Derived.Test.YtnniljlepppdpaaGreatY38
set_option linter.unusedVariables false
noncomputable section
namespace Go.Am.B
open Go Go.Am.N AV ah aq IntKind
theorem TY:aR P A7 sM (az sM):=aS Proofs.Tryz.func87 ag ag ag
def js:aX:=nG::(wz,Gq)::(Ct,IW)::(zU,Gi)::(Ad,GF)::(vc,CS)::(tF,uj)::(Bd,Qr)::fQ
abbrev xb:Code:=az sM
abbrev wq:Code:=part xb [1,1,1]
abbrev qT:Code:=part wq [1,0,1,0,0]
abbrev pZ:Code:=part qT [1,1,0,0]
abbrev zE:Code:=part pZ [1,1,1,1,0,1,0,0]
abbrev qO:Code:=part zE [1,1,0,0]
def dn:Nat:=8589934592
abbrev zf:List Nat:=[1,2,3,21,22,23]
abbrev wM (c:Cu) (i:Nat):List AV:=[.ptr 0 0 3 0 [],.ptr 1 0 3 0 [],.ptr 2 0 3 0 [],bD c.k c.n 2000,.int .i64 c.n,.int .i64 i]
abbrev vv (c:Cu) (q:Int) (m:Nat) (F:Nat->Rat):aF:=[(3,zl 2000 m F),(2,⟨false,true,3,1,fun _=>.agg [.int .i64 q,.own 3 3 0 m,.nil]⟩),(1,qK),(0,qn c)]
abbrev kY:List Nat:=[1,2,3,6,68,69]
abbrev qb (M j:Nat):List AV:=[.ptr 0 0 3 0 [],.ptr 1 0 3 0 [],.ptr 2 0 3 0 [],.ptr 4 0 3 0 [],.int .i64 M,.int .i64 j]
abbrev iG (c:Cu) (q:Int) (m:Nat) (F:Nat->Rat) (f:Rat) (j:Nat) (G:Nat->Pl):aF:=[(5,⟨true,true,12,j,fun i=>bG (G i) dn⟩),(4,tP f 64),(3,⟨true,false,3,m,fun i=>.rat (F i) 2000⟩),(2,⟨false,true,3,1,fun _=>.agg [.int .i64 q,.own 3 3 0 m,.own 5 12 0 j]⟩),(1,qK),(0,qn c)]
abbrev r6:List Nat:=[1,2,3,6,68,69,9,10,12,99,100]
abbrev AG (M j:Nat) (a:Int) (q i:Nat):List AV:=[.ptr 0 0 3 0 [],.ptr 1 0 3 0 [],.ptr 2 0 3 0 [],.ptr 4 0 3 0 [],.int .i64 M,.int .i64 j,.own 3 3 (j+1) q,.int .i64 a,.ptr 6 0 12 0 [],.int .i64 q,.int .i64 i]
abbrev lD:List Nat:=[1,2,3,6,68,69,9,10,12,99,100,14,112]
abbrev tK (M j:Nat) (a:Int) (q i b:Nat):List AV:=[.ptr 0 0 3 0 [],.ptr 1 0 3 0 [],.ptr 2 0 3 0 [],.ptr 4 0 3 0 [],.int .i64 M,.int .i64 j,.own 3 3 (j+1) q,.int .i64 a,.ptr 6 0 12 0 [],.int .i64 q,.int .i64 i,.ptr 7 0 12 0 [],.int .i64 b]
def iH (f:Rat) (x:Nat->Pl):Nat->Pl
 |0=>⟨⟨0,0,0⟩,0⟩
 |r+1=>⟨⟨(iH f x r).n.x+f*(x r).n.x,(iH f x r).n.y+f*(x r).n.y,(iH f x r).n.z+f*(x r).n.z⟩,(iH f x r).d+f*(x r).d⟩
def nq (c:Cu) (a:Int) (q:Nat) (F:Nat->Rat) (j i:Nat):Pl:=nB c a (q-1) fun u=>ju (fun v=>F (v+(j+1))) i q u
def HZ (c:Cu) (f:Rat) (N q:Nat) (F:Nat->Rat) (j:Nat):Pl:=iH f (nq c (fH c.n c.k (F (er F N j))) q F j) q
def pP (c:Cu):Nat:=c.n+bK c.k c.n c.n
def gr (c:Cu):Cu:=⟨c.p+1,pP c,bg c.k c.n c.n,pP c-(c.p.toNat+1)-1,HZ c (((1:Int):Rat)/((c.p+1:Int):Rat)) (pP c) (c.p.toNat+1) (bg c.k c.n c.n)⟩
def mz (r:Nat):Nat:=1+r*(64+sB+1)
def oY (S x:Pl) (f:Rat) (w b:Nat):AV:=.agg [.rat (if 0<b then S.n.x+f*x.n.x else S.n.x) (if 0<b then w+(64+sB)+1 else w),.rat (if 1<b then S.n.y+f*x.n.y else S.n.y) (if 1<b then w+(64+sB)+1 else w),.rat (if 2<b then S.n.z+f*x.n.z else S.n.z) (if 2<b then w+(64+sB)+1 else w),.rat (if 3<b then S.d+f*x.d else S.d) (if 3<b then w+(64+sB)+1 else w)]
abbrev r8 (S x:Pl) (f:Rat) (w b:Nat):aF:=[(7,jN x sB),(6,⟨false,true,12,1,fun _=>oY S x f w b⟩)]
theorem ak9 {c:Cu}:aI T js [] 60 zf (before xb [1,1,0,1]) ⟨aP 0 [dI c 2000 4000],[],0⟩=
  let c5:Int:=c.p+(1:Int);let c4:Prop:=0<1;let c3:Nat:=(bt (dI c 2000 4000)).size;let c2:AV:=ak 3 c.n fun i=>rat (c.k i) 2000;let c1:AV:=agg [int i64 0,nil,nil];some (aj [c4,-(2:Int)^63<=c5/\c5<(2:Int)^63,c4] (aj [c4] (leaf normal ([ptr 0 0 c3 0 [],ptr 4096 0 3 0 [],ptr 24576 0 3 0 [],c2,int i64 (↑c.n:Int),int i64 0],[((24576:Nat),aQ fun j=>if(j==0)=true then bt (agg (c1.kids.set 0 (bt (int i64 c5))))else c1),((4096:Nat),aQ fun x=>c1),(0,au.mk false true c3 1 fun x=>agg [int i64 c.p,c2,ak 12 c.m fun i=>bG (c.f i) 4000])])))):=ag
theorem Wp {c:Cu} {i m:Nat} {q:Int} {F:Nat->Rat}:aI T js [24,40,50] 60 zf [part xb [1,1,0,1,0,0]] ⟨aE zf (wM c i),vv c q m F,4⟩=
  let c20:Prop:=2000<2^42;let c19:AV:=rat 0 1;let c18:Prop:=1*3<=2^24;let c17:AV:=ptr 2 0 3 0 [];let c16:AV:=ptr 1 0 3 0 [];let c15:AV:=ptr 0 0 3 0 [];let c14:Int:=(↑c.n:Int);let c13:Int:=(↑i:Int);let c11:Nat:=m+1;let c10:AV:=ak 3 c.n fun i=>rat (c.k i) 2000;let c8:Prop:=0<1;let c7:AV:=agg [int i64 q,own 3 3 0 m,nil];let c21:Nat:=c11+1;let c12:AV:=rat (c.k c13.toNat) 2000;let c9:Int:=c13+(1:Int);let c5:AV:=agg (c7.kids.set 1 (bt (own (nat_lit 45059+1) 3 0 c11)));let c3:List (Nat×au):=[((1:Nat),aQ fun x=>agg [int i64 0,nil,nil]),((0:Nat),aQ fun x=>agg [int i64 c.p,c10,ak 12 c.m fun i=>bG (c.f i) 4000])];let c6:List AV:=[c15,c16,c17,c10,int i64 c14,int i64 c9];let c4:Prop:=-(2:Int)^63<=c9/\c9<(2:Int)^63;let c2:ah (List AV×aF):=aj [c4] (leaf normal (c6,(45060,au.mk true true 3 c11 fun i=>if i<m then rat (F i) 2000 else nth [c12] c19 (i-m+0))::((2:Nat),aQ fun j=>if(j==0)=true then c5 else c7)::c3));let c1:ah (List AV×aF):=aj [c8,c8,c18,c21*((56:Nat)+1)*2<=2^47,c8] (aj [c4] (leaf normal (c6,(143364,au.mk true true 3 c21 fun i=>if i<c11 then if i<m then rat (F i) 2000 else nth [c12] c19 (i-m+0)else nth [c12] c19 (i-c11+0))::((2:Nat),aQ fun j=>if(j==0)=true then agg ((if((0:Nat)==0)=true then c5 else c7).kids.set 1 (bt (own (nat_lit 143363+1) 3 0 c21)))else if(j==0)=true then c5 else c7)::c3)));some (fork (decide (c13<c14)) (aj [(0:Int)<=c13/\c13.toNat<c.n,c8] (aj [c8,c8,c18,c11*((56:Nat)+1)*2<=2^47,c8] (fork (c9==c14) (aj [c4,c8,(c9==c14)=true] (fork true c1 c2)) (aj [c4,c8,(c9==c14)=false,c8,c8,c4,(0:Int)<=c9/\c9.toNat<c.n,c20,c20] (fork (bif false then true else !decide (c.k c13.toNat=c.k c9.toNat)) c1 c2))))) (leaf (exit 0) ([c15,c16,c17,c10,int i64 c14,int i64 c13],(3,au.mk true true 3 m fun i=>rat (F i) 2000)::((2:Nat),aQ fun x=>c7)::c3))):=ag
theorem U0 {c:Cu} {i m:Nat} {q:Int} {F:Nat->Rat}:aI T js [] 60 kY (before wq [1,0,1]) ⟨aE zf (wM c i),vv c q m F,4⟩=
  let c2:Prop:=0<1;let c1:Int:=(2:Int)^63;some (aj [c2,-c1<=(1:Int),(1:Int)<c1,-c1<=q,q<c1,c2] (aj [c2,c2,bT (fun i=>rat (F (i+0)) 2000) m sK,m<2^40,-(2:Int)^40<q,q<(2:Int)^40] (leaf normal ([ptr 0 0 3 0 [],ptr 1 0 3 0 [],ptr 2 0 3 0 [],ptr 24580 0 3 0 [],int i64 ((↑m:Int)-q-(1:Int)),int i64 0],[(3,au.mk true false 3 m fun i=>rat (F i) 2000),((24580:Nat),aQ fun j=>if(j==0)=true then bt (rat ((↑(1:Int):Rat)/(↑q:Rat)) 64)else rat 0 1),((2:Nat),aQ fun x=>agg [int i64 q,own 3 3 0 m,nil]),((1:Nat),aQ fun x=>agg [int i64 0,nil,nil]),((0:Nat),aQ fun x=>agg [int i64 c.p,ak 3 c.n fun i=>rat (c.k i) 2000,ak 12 c.m fun i=>bG (c.f i) 4000])])))):=ag
theorem U9 {c:Cu} {M j m:Nat} {q:Int} {F:Nat->Rat} {f:Rat} {G:Nat->Pl}:aI T js [70] 60 kY (before qT [1,1,0]) ⟨aE kY (qb M j),iG c q m F f j G,6⟩=
  let c1:List AV×aF:=([ptr 0 0 3 0 [],ptr 1 0 3 0 [],ptr 2 0 3 0 [],ptr 4 0 3 0 [],int i64 (↑M:Int),int i64 (↑j:Int)],[(5,au.mk true true 12 j fun i=>bG (G i) 8589934592),(3,au.mk true false 3 m fun i=>rat (F i) 2000),((4:Nat),aQ fun x=>rat f 64),((2:Nat),aQ fun x=>agg [int i64 q,own 3 3 0 m,own 5 12 0 j]),((1:Nat),aQ fun x=>agg [int i64 0,nil,nil]),((0:Nat),aQ fun x=>agg [int i64 c.p,ak 3 c.n fun i=>rat (c.k i) 2000,ak 12 c.m fun i=>bG (c.f i) 4000])]);some (fork (decide ((↑j:Int)<(↑M:Int))) (leaf normal c1) (leaf (exit 2) c1)):=ag
theorem afj {c:Cu} {M j m:Nat} {q:Int} {F:Nat->Rat} {f:Rat} {G:Nat->Pl}:aI T js [] 60 r6 (before pZ [1,1,1,1,0,1]) ⟨aE kY (qb M j),iG c q m F f j G,6⟩=
  let c7:Int:=(↑j:Int);let c6:AV:=rat 0 1;let c5:Prop:=0<1;let c4:Int:=(2:Int)^63;let c3:Int:=c7+(1:Int);let c2:Int:=c7+q+(1:Int);let c1:Int:=(↑(er (fun i=>aV (rat (F (i+0)) 2000)) m c7.toNat):Int);some (aj [c5,-c4<=c3/\c3<c4,c5,-c4<=c7+q/\c7+q<c4,-c4<=c2/\c2<c4,(0:Int)<=c3/\c3<=c2/\c2<=c2/\c2<=(↑m:Int)] (aj [c5,c5,c5,c5,bT (fun i=>rat (F (i+0)) 2000) m sK,(0:Int)<=c7,c7<=(↑m:Int),m<2^40,(0:Int)<=c1/\c1.toNat<m,bT (fun i=>rat (c.k i) 2000) c.n sK,(2000:Nat)<=sK,Kn c.n c.p.toNat fun i=>aV (rat (c.k i) 2000),(0:Int)<=c.p,c.n<2^40] (leaf normal ([ptr 0 0 3 0 [],ptr 1 0 3 0 [],ptr 2 0 3 0 [],ptr 4 0 3 0 [],int i64 (↑M:Int),int i64 c7,own 3 3 ((0:Nat)+c3.toNat) (c2.toNat-c3.toNat),int i64 (↑(fH c.n (fun i=>aV (rat (c.k i) 2000)) (F (c1.toNat+0))):Int),ptr 126982 0 12 0 [],int i64 (↑(c2.toNat-c3.toNat):Int),int i64 0],[(5,au.mk true true 12 j fun i=>bG (G i) 8589934592),(3,au.mk true false 3 m fun i=>rat (F i) 2000),(126982,au.mk false true 12 1 fun x=>agg [c6,c6,c6,c6]),((4:Nat),aQ fun x=>rat f 64),((2:Nat),aQ fun x=>agg [int i64 q,own 3 3 0 m,own 5 12 0 j]),((1:Nat),aQ fun x=>agg [int i64 0,nil,nil]),((0:Nat),aQ fun x=>agg [int i64 c.p,ak 3 c.n fun i=>rat (c.k i) 2000,ak 12 c.m fun i=>bG (c.f i) 4000])])))):=ag
theorem ab4 {c:Cu} {M j m q i w:Nat} {a:Int} {F:Nat->Rat} {f:Rat} {G:Nat->Pl} {S:Pl}:aI T js [101] 60 r6 (before zE [1,1,0]) ⟨aE r6 (AG M j a q i),(6,jN S w)::iG c q m F f j G,7⟩=
  let c2:Int:=(↑q:Int);let c1:List AV×aF:=([ptr 0 0 3 0 [],ptr 1 0 3 0 [],ptr 2 0 3 0 [],ptr 4 0 3 0 [],int i64 (↑M:Int),int i64 (↑j:Int),own 3 3 (j+1) q,int i64 a,ptr 6 0 12 0 [],int i64 c2,int i64 (↑i:Int)],[(5,au.mk true true 12 j fun i=>bG (G i) 8589934592),(3,au.mk true false 3 m fun i=>rat (F i) 2000),(6,au.mk false true 12 1 fun x=>bG S w),((4:Nat),aQ fun x=>rat f 64),((2:Nat),aQ fun x=>agg [int i64 c2,own 3 3 0 m,own 5 12 0 j]),((1:Nat),aQ fun x=>agg [int i64 0,nil,nil]),((0:Nat),aQ fun x=>agg [int i64 c.p,ak 3 c.n fun i=>rat (c.k i) 2000,ak 12 c.m fun i=>bG (c.f i) 4000])]);some (fork (decide ((↑i:Int)<c2)) (leaf normal c1) (leaf (exit 4) c1)):=ag
theorem abQ {c:Cu} {M j m q i w:Nat} {a:Int} {F:Nat->Rat} {f:Rat} {G:Nat->Pl} {S:Pl}:aI T js [] 60 lD (before qO [1,1,1]) ⟨aE r6 (AG M j a q i),(6,jN S w)::iG c q m F f j G,7⟩=
  let c4:Int:=(↑i:Int);let c3:Nat:=j+1;let c1:AV:=rat 0 1;let c2:Int:=c4+(1:Int);some (aj [(0:Nat)<1,bT (fun i=>rat (F (i+c3)) 2000) q 2048,(1:Nat)<=q,q<2^30,-(2:Int)^63<=c2/\c2<(2:Int)^63,q=q,pF (fun i=>rat (aV (rat (F (i+c3)) 2000)) 2048) q 2048,(0:Int)<=c4,c4<(↑q:Int),c2=c2,bT (fun i=>rat (c.k i) 2000) c.n sK,j5 (fun i=>bG (c.f i) 4000) c.m sK,bT (fun i=>rat (ju (fun q=>aV (rat (aV (rat (F (q+c3)) 2000)) 2048)) c4.toNat q (i+0)) 2048) (q-1) sK,(1:Int)<=c.p,c.p<=(6:Int),c.n<2^40,c.m<2^40,-(2:Int)^40<a,a<(2:Int)^40,(0:Nat)<1] (leaf normal ([ptr 0 0 3 0 [],ptr 1 0 3 0 [],ptr 2 0 3 0 [],ptr 4 0 3 0 [],int i64 (↑M:Int),int i64 (↑j:Int),own 3 3 c3 q,int i64 a,ptr 6 0 12 0 [],int i64 (↑q:Int),int i64 c4,ptr 45063 0 12 0 [],int i64 0],[(5,au.mk true true 12 j fun i=>bG (G i) 8589934592),(3,au.mk true false 3 m fun i=>rat (F i) 2000),(45063,au.mk false true 12 1 fun j=>if(j==0)=true then bt (bG (nB (Cu.mk c.p c.n (fun i=>aV (rat (c.k i) 2000)) c.m fun i=>sD (bG (c.f i) 4000)) a (q-1) fun i=>aV (rat (ju (fun q=>aV (rat (aV (rat (F (q+c3)) 2000)) 2048)) c4.toNat q (i+0)) 2048)) sB)else agg [c1,c1,c1,c1]),(6,au.mk false true 12 1 fun x=>bG S w),((4:Nat),aQ fun x=>rat f 64),((2:Nat),aQ fun x=>agg [int i64 (↑q:Int),own 3 3 0 m,own 5 12 0 j]),((1:Nat),aQ fun x=>agg [int i64 0,nil,nil]),((0:Nat),aQ fun x=>agg [int i64 c.p,ak 3 c.n fun i=>rat (c.k i) 2000,ak 12 c.m fun i=>bG (c.f i) 4000])]))):=ag
theorem ag4 {c:Cu} {M j m q i w:Nat} {a:Int} {F:Nat->Rat} {f:Rat} {G:Nat->Pl} {S x:Pl}:aI T js [] 60 lD [part qO [1,1,1,0,0]] ⟨aE lD (tK M j a q i 0),r8 S x f w 0++iG c q m F f j G,8⟩=
  let c6:Nat:=64+sB;let c5:Prop:=0<1;let c4:Nat:=2^42;let c3:Int:=(↑(0:Nat):Int);let c2:Nat:=if 0<0 then w+c6+1 else w;let c1:Prop:=(0:Int)<=c3/\c3<(↑(4:Nat):Int);some (aj [c1,c5,c5,c1,c5,(64:Nat)<c4,sB<c4,c2<c4,c6<c4,c1,c5] (aj [-(2:Int)^63<=c3+(1:Int)/\c3+(1:Int)<(2:Int)^63] (leaf normal ([ptr 0 0 3 0 [],ptr 1 0 3 0 [],ptr 2 0 3 0 [],ptr 4 0 3 0 [],int i64 (↑M:Int),int i64 (↑j:Int),own 3 3 (j+1) q,int i64 a,ptr 6 0 12 0 [],int i64 (↑q:Int),int i64 (↑i:Int),ptr 7 0 12 0 [],int i64 1],[(5,au.mk true true 12 j fun i=>bG (G i) 8589934592),(3,au.mk true false 3 m fun i=>rat (F i) 2000),(7,au.mk false true 12 1 fun x_1=>bG x 536870912),(6,au.mk false true 12 1 fun j=>if(j==0)=true then agg ((oY S x f w 0).kids.set c3.toNat (bt (j9 (if 0<0 then S.n.x+f*x.n.x else S.n.x,c2) (f*x.n.x,c6))))else oY S x f w 0),((4:Nat),aQ fun x=>rat f 64),((2:Nat),aQ fun x=>agg [int i64 (↑q:Int),own 3 3 0 m,own 5 12 0 j]),((1:Nat),aQ fun x=>agg [int i64 0,nil,nil]),((0:Nat),aQ fun x=>agg [int i64 c.p,ak 3 c.n fun i=>rat (c.k i) 2000,ak 12 c.m fun i=>bG (c.f i) 4000])])))):=ag
theorem WO {c:Cu} {M j m q i w:Nat} {a:Int} {F:Nat->Rat} {f:Rat} {G:Nat->Pl} {S x:Pl}:aI T js [] 60 lD [part qO [1,1,1,0,0]] ⟨aE lD (tK M j a q i 1),r8 S x f w 1++iG c q m F f j G,8⟩=
  let c6:Nat:=64+sB;let c5:Prop:=0<1;let c4:Nat:=2^42;let c3:Int:=(↑(1:Nat):Int);let c2:Nat:=if 1<1 then w+c6+1 else w;let c1:Prop:=(0:Int)<=c3/\c3<(↑(4:Nat):Int);some (aj [c1,c5,c5,c1,c5,(64:Nat)<c4,sB<c4,c2<c4,c6<c4,c1,c5] (aj [-(2:Int)^63<=c3+(1:Int)/\c3+(1:Int)<(2:Int)^63] (leaf normal ([ptr 0 0 3 0 [],ptr 1 0 3 0 [],ptr 2 0 3 0 [],ptr 4 0 3 0 [],int i64 (↑M:Int),int i64 (↑j:Int),own 3 3 (j+1) q,int i64 a,ptr 6 0 12 0 [],int i64 (↑q:Int),int i64 (↑i:Int),ptr 7 0 12 0 [],int i64 2],[(5,au.mk true true 12 j fun i=>bG (G i) 8589934592),(3,au.mk true false 3 m fun i=>rat (F i) 2000),(7,au.mk false true 12 1 fun x_1=>bG x 536870912),(6,au.mk false true 12 1 fun j=>if(j==0)=true then agg ((oY S x f w 1).kids.set c3.toNat (bt (j9 (if 1<1 then S.n.y+f*x.n.y else S.n.y,c2) (f*x.n.y,c6))))else oY S x f w 1),((4:Nat),aQ fun x=>rat f 64),((2:Nat),aQ fun x=>agg [int i64 (↑q:Int),own 3 3 0 m,own 5 12 0 j]),((1:Nat),aQ fun x=>agg [int i64 0,nil,nil]),((0:Nat),aQ fun x=>agg [int i64 c.p,ak 3 c.n fun i=>rat (c.k i) 2000,ak 12 c.m fun i=>bG (c.f i) 4000])])))):=ag
theorem Wq {c:Cu} {M j m q i w:Nat} {a:Int} {F:Nat->Rat} {f:Rat} {G:Nat->Pl} {S x:Pl}:aI T js [] 60 lD [part qO [1,1,1,0,0]] ⟨aE lD (tK M j a q i 2),r8 S x f w 2++iG c q m F f j G,8⟩=
  let c6:Nat:=64+sB;let c5:Prop:=0<1;let c4:Nat:=2^42;let c3:Int:=(↑(2:Nat):Int);let c2:Nat:=if 2<2 then w+c6+1 else w;let c1:Prop:=(0:Int)<=c3/\c3<(↑(4:Nat):Int);some (aj [c1,c5,c5,c1,c5,(64:Nat)<c4,sB<c4,c2<c4,c6<c4,c1,c5] (aj [-(2:Int)^63<=c3+(1:Int)/\c3+(1:Int)<(2:Int)^63] (leaf normal ([ptr 0 0 3 0 [],ptr 1 0 3 0 [],ptr 2 0 3 0 [],ptr 4 0 3 0 [],int i64 (↑M:Int),int i64 (↑j:Int),own 3 3 (j+1) q,int i64 a,ptr 6 0 12 0 [],int i64 (↑q:Int),int i64 (↑i:Int),ptr 7 0 12 0 [],int i64 3],[(5,au.mk true true 12 j fun i=>bG (G i) 8589934592),(3,au.mk true false 3 m fun i=>rat (F i) 2000),(7,au.mk false true 12 1 fun x_1=>bG x 536870912),(6,au.mk false true 12 1 fun j=>if(j==0)=true then agg ((oY S x f w 2).kids.set c3.toNat (bt (j9 (if 2<2 then S.n.z+f*x.n.z else S.n.z,c2) (f*x.n.z,c6))))else oY S x f w 2),((4:Nat),aQ fun x=>rat f 64),((2:Nat),aQ fun x=>agg [int i64 (↑q:Int),own 3 3 0 m,own 5 12 0 j]),((1:Nat),aQ fun x=>agg [int i64 0,nil,nil]),((0:Nat),aQ fun x=>agg [int i64 c.p,ak 3 c.n fun i=>rat (c.k i) 2000,ak 12 c.m fun i=>bG (c.f i) 4000])])))):=ag
theorem ajn {c:Cu} {M j m q i w:Nat} {a:Int} {F:Nat->Rat} {f:Rat} {G:Nat->Pl} {S x:Pl}:aI T js [] 60 lD [part qO [1,1,1,0,0]] ⟨aE lD (tK M j a q i 3),r8 S x f w 3++iG c q m F f j G,8⟩=
  let c6:Nat:=64+sB;let c5:Prop:=0<1;let c4:Nat:=2^42;let c3:Int:=(↑(3:Nat):Int);let c2:Nat:=if 3<3 then w+c6+1 else w;let c1:Prop:=(0:Int)<=c3/\c3<(↑(4:Nat):Int);some (aj [c1,c5,c5,c1,c5,(64:Nat)<c4,sB<c4,c2<c4,c6<c4,c1,c5] (aj [-(2:Int)^63<=c3+(1:Int)/\c3+(1:Int)<(2:Int)^63] (leaf normal ([ptr 0 0 3 0 [],ptr 1 0 3 0 [],ptr 2 0 3 0 [],ptr 4 0 3 0 [],int i64 (↑M:Int),int i64 (↑j:Int),own 3 3 (j+1) q,int i64 a,ptr 6 0 12 0 [],int i64 (↑q:Int),int i64 (↑i:Int),ptr 7 0 12 0 [],int i64 4],[(5,au.mk true true 12 j fun i=>bG (G i) 8589934592),(3,au.mk true false 3 m fun i=>rat (F i) 2000),(7,au.mk false true 12 1 fun x_1=>bG x 536870912),(6,au.mk false true 12 1 fun j=>if(j==0)=true then agg ((oY S x f w 3).kids.set c3.toNat (bt (j9 (if 3<3 then S.d+f*x.d else S.d,c2) (f*x.d,c6))))else oY S x f w 3),((4:Nat),aQ fun x=>rat f 64),((2:Nat),aQ fun x=>agg [int i64 (↑q:Int),own 3 3 0 m,own 5 12 0 j]),((1:Nat),aQ fun x=>agg [int i64 0,nil,nil]),((0:Nat),aQ fun x=>agg [int i64 c.p,ak 3 c.n fun i=>rat (c.k i) 2000,ak 12 c.m fun i=>bG (c.f i) 4000])])))):=ag
theorem amy {c:Cu} {M j m q i w:Nat} {a:Int} {F:Nat->Rat} {f:Rat} {G:Nat->Pl} {S x:Pl}:aI T js [] 60 lD [part qO [1,1,1,0,0]] ⟨aE lD (tK M j a q i 4),r8 S x f w 4++iG c q m F f j G,8⟩=
  let c1:Nat:=w+((64:Nat)+sB)+1;some (leaf (exit 6) ([ptr 0 0 3 0 [],ptr 1 0 3 0 [],ptr 2 0 3 0 [],ptr 4 0 3 0 [],int i64 (↑M:Int),int i64 (↑j:Int),own 3 3 (j+1) q,int i64 a,ptr 6 0 12 0 [],int i64 (↑q:Int),int i64 (↑i:Int),ptr 7 0 12 0 [],int i64 4],[(5,au.mk true true 12 j fun i=>bG (G i) 8589934592),(3,au.mk true false 3 m fun i=>rat (F i) 2000),(7,au.mk false true 12 1 fun x_1=>bG x 536870912),(6,au.mk false true 12 1 fun x_1=>agg [rat (if 0<4 then S.n.x+f*x.n.x else S.n.x) (if 0<4 then c1 else w),rat (if 1<4 then S.n.y+f*x.n.y else S.n.y) (if 1<4 then c1 else w),rat (if 2<4 then S.n.z+f*x.n.z else S.n.z) (if 2<4 then c1 else w),rat (if 3<4 then S.d+f*x.d else S.d) (if 3<4 then c1 else w)]),((4:Nat),aQ fun x=>rat f 64),((2:Nat),aQ fun x=>agg [int i64 (↑q:Int),own 3 3 0 m,own 5 12 0 j]),((1:Nat),aQ fun x=>agg [int i64 0,nil,nil]),((0:Nat),aQ fun x=>agg [int i64 c.p,ak 3 c.n fun i=>rat (c.k i) 2000,ak 12 c.m fun i=>bG (c.f i) 4000])])):=ag
theorem ab3 {c:Cu} {M j m q i w:Nat} {a:Int} {F:Nat->Rat} {f:Rat} {G:Nat->Pl} {S x:Pl}:aI T js [] 60 r6 [part zE [1,1,1]] ⟨aE lD (tK M j a q i 4),r8 S x f w 4++iG c q m F f j G,8⟩=
  let c2:Int:=(↑i:Int)+(1:Int);let c1:Nat:=w+((64:Nat)+sB)+1;some (aj [-(2:Int)^63<=c2/\c2<(2:Int)^63] (leaf normal ([ptr 0 0 3 0 [],ptr 1 0 3 0 [],ptr 2 0 3 0 [],ptr 4 0 3 0 [],int i64 (↑M:Int),int i64 (↑j:Int),own 3 3 (j+1) q,int i64 a,ptr 6 0 12 0 [],int i64 (↑q:Int),int i64 c2],[(5,au.mk true true 12 j fun i=>bG (G i) 8589934592),(3,au.mk true false 3 m fun i=>rat (F i) 2000),(6,au.mk false true 12 1 fun x_1=>agg [rat (if 0<4 then S.n.x+f*x.n.x else S.n.x) (if 0<4 then c1 else w),rat (if 1<4 then S.n.y+f*x.n.y else S.n.y) (if 1<4 then c1 else w),rat (if 2<4 then S.n.z+f*x.n.z else S.n.z) (if 2<4 then c1 else w),rat (if 3<4 then S.d+f*x.d else S.d) (if 3<4 then c1 else w)]),((4:Nat),aQ fun x=>rat f 64),((2:Nat),aQ fun x=>agg [int i64 (↑q:Int),own 3 3 0 m,own 5 12 0 j]),((1:Nat),aQ fun x=>agg [int i64 0,nil,nil]),((0:Nat),aQ fun x=>agg [int i64 c.p,ak 3 c.n fun i=>rat (c.k i) 2000,ak 12 c.m fun i=>bG (c.f i) 4000])]))):=ag
theorem aki {c:Cu} {M j m q i w:Nat} {a:Int} {F:Nat->Rat} {f:Rat} {G:Nat->Pl} {S:Pl}:aI T js [] 60 kY [part pZ [1,1,1,1,1]] ⟨aE r6 (AG M j a q i),(6,jN S w)::iG c q m F f j G,7⟩=
  let c3:Prop:=0<1;let c2:AV:=rat 0 1;let c1:AV:=agg [int i64 (↑q:Int),own 3 3 0 m,own 5 12 0 j];some (aj [c3,c3,(1:Nat)*12<=2^24,(j+1)*((224:Nat)+1)*2<=2^47,c3] (leaf normal ([ptr 0 0 3 0 [],ptr 1 0 3 0 [],ptr 2 0 3 0 [],ptr 4 0 3 0 [],int i64 (↑M:Int),int i64 (↑j:Int)],[(16391,au.mk true true 12 (j+1) fun i=>if i<j then bG (G i) dn else nth [bG S w] (agg [c2,c2,c2,c2]) (i-j+0)),(3,au.mk true false 3 m fun i=>rat (F i) 2000),((4:Nat),aQ fun x=>rat f 64),((2:Nat),aQ fun j_1=>if(j_1==0)=true then agg (c1.kids.set 2 (bt (own (nat_lit 16390+1) 12 0 (j+1))))else c1),((1:Nat),aQ fun x=>agg [int i64 0,nil,nil]),((0:Nat),aQ fun x=>agg [int i64 c.p,ak 3 c.n fun i=>rat (c.k i) 2000,ak 12 c.m fun i=>bG (c.f i) 4000])]))):=ag
theorem ane {c:Cu} {M j m h:Nat} {q:Int} {F:Nat->Rat} {f:Rat} {G:Nat->Pl}:aI T js [] 60 kY [part qT [1,1,1]] ⟨aE kY (qb M j),iG c q m F f h G,6⟩=
  let c1:Int:=(↑j:Int)+(1:Int);some (aj [-(2:Int)^63<=c1/\c1<(2:Int)^63] (leaf normal ([ptr 0 0 3 0 [],ptr 1 0 3 0 [],ptr 2 0 3 0 [],ptr 4 0 3 0 [],int i64 (↑M:Int),int i64 c1],[(5,au.mk true true 12 h fun i=>bG (G i) 8589934592),(3,au.mk true false 3 m fun i=>rat (F i) 2000),((4:Nat),aQ fun x=>rat f 64),((2:Nat),aQ fun x=>agg [int i64 q,own 3 3 0 m,own 5 12 0 h]),((1:Nat),aQ fun x=>agg [int i64 0,nil,nil]),((0:Nat),aQ fun x=>agg [int i64 c.p,ak 3 c.n fun i=>rat (c.k i) 2000,ak 12 c.m fun i=>bG (c.f i) 4000])]))):=ag
theorem aab {c:Cu} {M j m:Nat} {q:Int} {F:Nat->Rat} {f:Rat} {G:Nat->Pl}:cJ T js [] 60 sM [part wq [1,1]] ⟨aE kY (qb M j),iG c q m F f j G,6⟩=
  let c1:Prop:=0<1;some (aj [c1,c1] (aj [c1] (leaf ret [agg [int i64 q,ak 3 m fun i=>rat (F (i+0)) 2000,ak 12 j fun i=>bG (G (i+0)) 8589934592]]))):=ag
theorem s5:bq P js:=dg (aH MK (aH ac3 (aH LZ (aH M0 (aH JT (aH yG (aH ajc gm)))))))
theorem acN {c:Cu} {M j m q:Nat} {F:Nat->Rat} {f:Rat} {G:Nat->Pl} {cx:Ctx} {Q:aq->aJ->Prop} (hk:Kept [] cx) (hc:Kn c.n c.p.toNat c.k) (hp1:1<=c.p) (hp6:c.p<=6) (hq:(q:Int)=c.p+1) (hn:c.n<2^20) (hm2:c.m<2^20) (hmn:m<2^20) (hj:j+q+1<m)
  (hG:HZ c f m q F j=G j)
  (hQ:∀s',(∃ρ,Le cx ρ s' ⟨aE kY (qb M j),iG c q m F f (j+1) G,6⟩)->ay P cx sM.ntmps (part qT [1,1,1]) s' Q):
  ay P cx sM.ntmps pZ ⟨aE kY (qb M j),iG c q m F f j G,6⟩ (inBlock 3 (dU (fun s'=>ay P cx sM.ntmps (part qT [1,1,1]) s' Q) Q)):=by
 have hSB:sB=536870912:=rfl
 have hSE:dn=8589934592:=rfl
 obtain⟨a,ha⟩:∃a:Nat,a=fH c.n c.k (F (er F m j)):=⟨_,rfl⟩
 have ha2:a<c.n:=by rw[ha];exact Mx hc
 have hpc:=N4 (k:=F) (n:=m) (i:=j) aa
 have hv:∀{rl:List (Nat×Nat)} {k x y y':Nat},bf rl 3=some 3->bf rl k=some x->y=y'->gn rl (.agg [.int .i64 q,.own 3 3 0 m,.own x 12 0 y]) (.agg [.int .i64 q,.own 3 3 0 m,.own k 12 0 y']):=fun h0 h e=>jg ⟨⟨rfl,aL rfl⟩,⟨rfl,cT h0 rfl rfl⟩,⟨rfl,cT h rfl e⟩,trivial⟩
 have wS:∀r,mz (r+1)=mz r+(64+sB)+1:=fun r=>by unfold mz;rw[hSB];omega
 have wL:∀r,r<=7->mz r<=dn:=fun r hr=>by unfold mz;rw[hSB,hSE];omega
 refine ay.Py hT s5 hm (x:=pZ) (y:=zE) (x1:=qO) (zb:=part zE [1,1,1]) (y2:=part qO [1,1,1,0,0]) [1,1,1,1,0,1] (i:=4) ag ag ag [1,1,0] (j:=5) ag ag ag [1,1,1] (i2:=6) ag ag rfl hk (f1:=[]) (f2:=[101]) (f3:=[]) (f4:=[]) (f5:=[]) 60 r6 lD 7 8
  (fun i:Nat=>AG M j a q i) (fun i=>(6,jN (iH f (nq c a q F j) i) (mz i))::iG c q m F f j G) (fun i=>i<=q) (fun i=>i=q) (fun i=>q-i) (fun i=>i<q) (fun _=>False) (fun _=>False)
  (fun i (b:Nat)=>tK M j a q i b) (fun i b=>r8 (iH f (nq c a q F j) i) (nq c a q F j i) f (mz i) b++iG c q m F f j G) (fun _ b=>b<=4) (fun _ b=>b=4) (fun _ b=>4-b)
  ⟨_,afj,?_⟩ (fun i hi=>⟨_,ab4,?_⟩) (fun i hi hG=>⟨_,abQ,?_⟩) (fun i hi hG b hb=>?_) (fun i hi hG b hb=>?_) (fun i s' hi hle=>?_) (fun _ _ h=>h.elim) (fun _ _ h=>h.elim)
 ·simp only[ah.all,aA]
  have e1:((j:Int)+1).toNat=j+1:=aa
  have e2:((j:Int)+q+1).toNat=j+q+1:=aa
  have e3:j+q+1-(j+1)=q:=aa
  have h7:er (fun i=>aV (rat (F i) 2000)) m j=er F m j:=rfl
  have h8:fH c.n (fun i=>aV (rat (c.k i) 2000)) (F (er F m j))=a:=ha.symm
  simp only[e1,e2,e3,Nat.zero_add,Nat.add_zero,aZ,h7,h8]
  exact⟨⟨aa,aa,aa,aa,aa,aa,aa,aa,aa⟩,⟨aa,aa,aa,aa,cz (by decide),aa,aa,aa,⟨aa,hpc⟩,cz (by decide),by decide,hc,aa,aa⟩,0,Nat.zero_le _,[(0,0),(1,1),(2,2),(3,3),(4,4),(5,5),(6,126982)],rfl,rfl,rfl,aM (eG (aM (eG (cD rfl rfl (hv rfl rfl rfl) (aM (aM trivial))))))⟩
 ·simp only[ah.all,aA,bh,bz]
  exact⟨fun h=>⟨aa,[(0,0),(1,1),(2,2),(3,3),(4,4),(5,5),(6,6)],rfl,rfl,rfl,aM (eG (aM (eG (cD rfl rfl (hv rfl rfl rfl) (aM (aM trivial))))))⟩,fun h=>⟨rfl,i,aa,[(0,0),(1,1),(2,2),(3,3),(4,4),(5,5),(6,6)],rfl,rfl,rfl,aM (eG (aM (eG (cD rfl rfl (hv rfl rfl rfl) (aM (aM trivial))))))⟩⟩
 ·simp only[ah.all,aA]
  have hG:i<q:=hG
  exact⟨⟨aa,cz (by decide),aa,aa,aa,trivial,QE aY,aa,aa,trivial,cz (by decide),nj (by decide),cz (by decide),hp1,hp6,aa,aa,aa,aa,aa⟩,0,aa,[(0,0),(1,1),(2,2),(3,3),(4,4),(5,5),(6,6),(7,45063)],rfl,rfl,rfl,aM (aM (eG (aM (eG (cD rfl rfl (hv rfl rfl rfl) (aM (aM trivial)))))))⟩
 ·have hG:i<q:=hG
  have hb:b<=4:=hb
  have hw:=wL i aa
  have u1:(0:Int)<4:=by decide
  rcases(show b=0\/b=1\/b=2\/b=3\/b=4 by omega)with rfl|rfl|rfl|rfl|rfl
  ·refine⟨_,ag4,?_⟩
   simp only[ah.all,aA]
   exact⟨⟨aa,aa,aa,aa,aa,aa,aa,by show mz i<2^42;omega,aa,aa,aa⟩,aa,1,aa,by dsimp only;omega,[(0,0),(1,1),(2,2),(3,3),(4,4),(5,5),(6,6),(7,7)],rfl,rfl,rfl,aM (aM (eG (aM (eG (cD rfl rfl (hv rfl rfl rfl) (aM (aM trivial)))))))⟩
  ·refine⟨_,WO,?_⟩
   simp only[ah.all,aA]
   exact⟨⟨aa,aa,aa,aa,aa,aa,aa,by show mz i<2^42;omega,aa,aa,aa⟩,aa,2,aa,by dsimp only;omega,[(0,0),(1,1),(2,2),(3,3),(4,4),(5,5),(6,6),(7,7)],rfl,rfl,rfl,aM (aM (eG (aM (eG (cD rfl rfl (hv rfl rfl rfl) (aM (aM trivial)))))))⟩
  ·refine⟨_,Wq,?_⟩
   simp only[ah.all,aA]
   exact⟨⟨aa,aa,aa,aa,aa,aa,aa,by show mz i<2^42;omega,aa,aa,aa⟩,aa,3,aa,by dsimp only;omega,[(0,0),(1,1),(2,2),(3,3),(4,4),(5,5),(6,6),(7,7)],rfl,rfl,rfl,aM (aM (eG (aM (eG (cD rfl rfl (hv rfl rfl rfl) (aM (aM trivial)))))))⟩
  ·refine⟨_,ajn,?_⟩
   simp only[ah.all,aA]
   exact⟨⟨aa,aa,aa,aa,aa,aa,aa,by show mz i<2^42;omega,aa,aa,aa⟩,aa,4,aa,by dsimp only;omega,[(0,0),(1,1),(2,2),(3,3),(4,4),(5,5),(6,6),(7,7)],rfl,rfl,rfl,aM (aM (eG (aM (eG (cD rfl rfl (hv rfl rfl rfl) (aM (aM trivial)))))))⟩
  ·exact⟨_,amy,rfl,4,rfl,[(0,0),(1,1),(2,2),(3,3),(4,4),(5,5),(6,6),(7,7)],rfl,rfl,rfl,aM (aM (eG (aM (eG (cD rfl rfl (hv rfl rfl rfl) (aM (aM trivial)))))))⟩
 ·have hb:b=4:=hb
  subst hb
  refine⟨_,ab3,?_⟩
  simp only[ah.all,aA]
  have hG:i<q:=hG
  have hw:=Nat.le_of_eq (wS i).symm
  exact⟨aa,i+1,aa,by dsimp only;omega,[(0,0),(1,1),(2,2),(3,3),(4,4),(5,5),(6,6)],rfl,rfl,rfl,cD rfl rfl (.inr ⟨rfl,ct (show ff [.rat _ _,.rat _ _,.rat _ _,.rat _ _] [.rat _ _,.rat _ _,.rat _ _,.rat _ _]from⟨bX rfl hw,bX rfl hw,bX rfl hw,bX rfl hw,trivial⟩)⟩) (eG (aM (eG (cD rfl rfl (hv rfl rfl rfl) (aM (aM trivial))))))⟩
 ·subst hi
  rw[show behind pZ [1,1,1,1,0,1]=[part pZ [1,1,1,1,1]]from by kernel_rfl]
  refine aG.weak rfl hle (aG.bB hT s5 hm 60 kY aki ag ?_)
  simp only[ah.all,aA]
  refine⟨⟨aa,aa,aa,aa,aa⟩,fun s'' hs''=>hQ s'' (ej.le ⟨[(0,0),(1,1),(2,2),(3,3),(4,4),(5,16391)],rfl,rfl,rfl,bZ rfl rfl rfl (fun u hu=>wT (g:=fun j=>bG (G j) dn) (fun _ _=>⟨rfl,rfl⟩) rfl ?_ hu) (aM (eG (cD rfl rfl (hv rfl rfl rfl) (aM (aM trivial)))))⟩ hs'' hk)⟩
  show bF (bG (iH f (nq c a i F j) i) (mz i)) (bG (G j) dn)
  exact xJ (by rw[<-hG,ha];rfl) (wL _ aa)
theorem PC {rl:List (Nat×Nat)} {l i s:Nat} {x:Nat->Rat} {t:Rat} (h1:t=x l) (h2:t=x (l+1)) (hi:i<l+1+1):gn rl (if i<l+1 then(if i<l then .rat (x i) s else nth [.rat t s] (.rat 0 1) (i-l+0))else nth [.rat t s] (.rat 0 1) (i-(l+1)+0)) (.rat (x i) s):=by
 by_cases h:i<l+1
 ·rw[if_pos h]
  exact pI (y:=x) (fun _ _=>rfl) h1 aY aY h
 ·have:i=l+1:=aa
  subst this
  rw[if_neg h,Nat.sub_self,h2]
  exact cQ rfl rfl
set_option maxHeartbeats 1000000 in
theorem Y0 {c:Cu} (hc:Kn c.n c.p.toNat c.k) (hp1:1<=c.p) (hp6:c.p<=6) (hn:c.n<2^18) (hm2:c.m<2^18) (K:Nat):aD P A7 K [dI c 2000 4000] [] (aK (dI (gr c) 2000 dn) []):=by
 refine iP (r:=aK (dI (gr c) 2000 dn) []) hT TY rfl aW rfl (fun _ cx h00=>?_) K []
 have hk:=qw h00
 have hl:=hc.len
 have hq:c.p+1=((c.p.toNat+1:Nat):Int):=aa
 have hK:=oW hc
 have hKl:=hK.len
 have hgl:=yI (k:=c.k) (n:=c.n) (i:=c.n)
 have hv:∀{rl:List (Nat×Nat)} {x y y':Nat} {q:Int},bf rl 3=some x->y=y'->gn rl (.agg [.int .i64 q,.own x 3 0 y,.nil]) (.agg [.int .i64 q,.own 3 3 0 y',.nil]):=fun h e=>jg ⟨⟨rfl,aL rfl⟩,⟨rfl,cT h rfl e⟩,⟨rfl,aL rfl⟩,trivial⟩
 refine ay.ni hT s5 hm (x:=xb) [1,1,0,1] (i:=0) (y:=part xb [1,1,0,1,0,0]) (z:=wq) ag ag ag TY.dst hk (f1:=[]) (f2:=[24,40,50]) 60 zf 4
  (fun i:Nat=>wM c i) (fun i=>vv c ((c.p.toNat+1:Nat):Int) (i+bK c.k c.n i) (bg c.k c.n c.n)) (fun i=>i<=c.n) (fun i=>i=c.n) (fun i=>c.n-i) (fun _=>False) ⟨_,ak9,?_⟩ (fun i hi=>⟨_,Wp,?_⟩) (fun i hi=>?_) (fun _ _ h=>h.elim)
 ·simp only[ah.all,aA,hq]
  exact⟨⟨aa,aa,aa⟩,aa,0,Nat.zero_le _,[(0,0),(1,4096),(2,24576)],rfl,rfl,rfl,mA rfl aa aa (cD rfl rfl (jg ⟨⟨rfl,aL rfl⟩,⟨rfl,mW aa⟩,⟨rfl,aL rfl⟩,trivial⟩) (aM (aM trivial)))⟩
 ·have e1:((i:Int)+1).toNat=i+1:=aa
  have hgi:=yI (k:=c.k) (n:=c.n) (i:=i)
  simp only[ah.all,aA,bh,bz,cond_false,Bool.not_eq_true',Bool.not_eq_false',e1,aZ]
  refine⟨fun h=>?_,fun h=>⟨rfl,i,aa,[(0,0),(1,1),(2,2),(3,3)],rfl,rfl,rfl,eG (cD rfl rfl (hv rfl rfl) (aM (aM trivial)))⟩⟩
  obtain⟨n1,n2⟩:=acG (k:=c.k) (n:=c.n) (i:=i) aa
  have dbl:(i+1=c.n\/c.k i≠c.k (i+1))->(i+1)+bK c.k c.n (i+1)=i+bK c.k c.n i+1+1/\c.k i=bg c.k c.n c.n (i+bK c.k c.n i+1):=fun g=>⟨by rw[tL g];omega,by rw[n2,if_pos g]⟩
  have one:¬(i+1=c.n\/c.k i≠c.k (i+1))->(i+1)+bK c.k c.n (i+1)=i+bK c.k c.n i+1:=fun g=>by rw[wB g];omega
  refine⟨⟨aa,aa⟩,⟨aa,aa,aa,aa,aa⟩,fun g=>⟨⟨aa,aa,g⟩,fun _=>⟨⟨aa,aa,aa,aa,aa⟩,aa,i+1,aa,by dsimp only;omega,?_⟩,fun g2=>absurd g2 (by decide)⟩,fun g=>⟨⟨aa,aa,g,aa,aa,aa,by have:=beq_eq_false_iff_ne.1 g;omega,aa,aa⟩,fun g2=>⟨⟨aa,aa,aa,aa,aa⟩,aa,i+1,aa,by dsimp only;omega,?_⟩,fun g2=>⟨aa,i+1,aa,by dsimp only;omega,?_⟩⟩⟩
  ·obtain⟨d1,d2⟩:=dbl (.inl (by have:=beq_iff_eq.1 g;omega))
   show ej [] _ (wM c (i+1)) (vv c ((c.p.toNat+1:Nat):Int) (i+1+bK c.k c.n (i+1)) (bg c.k c.n c.n)) 4
   rw[d1]
   exact⟨[(0,0),(1,1),(2,2),(3,143364)],rfl,rfl,rfl,bZ rfl rfl rfl (fun u hu=>PC n1.symm d2 hu) (cD rfl rfl (by exact hv rfl rfl) (aM (aM trivial)))⟩
  ·obtain⟨d1,d2⟩:=dbl (.inr g2)
   show ej [] _ (wM c (i+1)) (vv c ((c.p.toNat+1:Nat):Int) (i+1+bK c.k c.n (i+1)) (bg c.k c.n c.n)) 4
   rw[d1]
   exact⟨[(0,0),(1,1),(2,2),(3,143364)],rfl,rfl,rfl,bZ rfl rfl rfl (fun u hu=>PC n1.symm d2 hu) (cD rfl rfl (by exact hv rfl rfl) (aM (aM trivial)))⟩
  ·have g3:=one (fun g3=>g3.elim (fun g4=>beq_eq_false_iff_ne.1 g aa) fun g4=>g4 g2)
   show ej [] _ (wM c (i+1)) (vv c ((c.p.toNat+1:Nat):Int) (i+1+bK c.k c.n (i+1)) (bg c.k c.n c.n)) 4
   rw[g3]
   exact⟨[(0,0),(1,1),(2,2),(3,45060)],rfl,rfl,rfl,bZ rfl rfl rfl (fun u hu=>pI (y:=bg c.k c.n c.n) (fun _ _=>rfl) n1.symm aY aY hu) (cD rfl rfl (by exact hv rfl rfl) (aM (aM trivial)))⟩
 ·subst hi
  obtain⟨M,hM⟩:∃M,M=c.n+bK c.k c.n c.n-(c.p.toNat+1)-1:=⟨_,rfl⟩
  have eM:((c.n+bK c.k c.n c.n:Nat):Int)-((c.p.toNat+1:Nat):Int)-1=(M:Nat):=aa
  obtain⟨f,hf⟩:∃f:Rat,f=((1:Int):Rat)/(((c.p.toNat+1:Nat):Int):Rat):=⟨_,rfl⟩
  obtain⟨G,hG⟩:∃G:Nat->Pl,G=HZ c f (c.n+bK c.k c.n c.n) (c.p.toNat+1) (bg c.k c.n c.n):=⟨_,rfl⟩
  refine ay.yS hT s5 hm (x:=wq) [1,0,1] (i:=2) (y:=qT) (z:=part wq [1,1]) ag ag ag ag hk (f1:=[]) 60 kY 6
   (fun j:Nat=>qb M j) (fun j=>iG c ((c.p.toNat+1:Nat):Int) (c.n+bK c.k c.n c.n) (bg c.k c.n c.n) f j G) (fun j=>j<=M) (fun j=>j=M) (fun j=>M-j) (fun _=>False) ⟨_,U0,?_⟩ (fun j hj=>?_) (fun j hj=>?_) (fun _ _ h=>h.elim)
  ·simp only[ah.all,aA,eM,<-hf]
   refine⟨⟨aa,aa,aa,aa,aa,aa⟩,⟨aa,aa,cz (by decide),aa,aa,aa⟩,0,Nat.zero_le _,[(0,0),(1,1),(2,2),(3,3),(4,24580)],rfl,rfl,rfl,mA rfl aa aa (aM (eG (cD rfl rfl (jg ⟨⟨rfl,aL rfl⟩,⟨rfl,cT rfl rfl rfl⟩,⟨rfl,mW aa⟩,trivial⟩) (aM (aM trivial)))))⟩
  ·have hv2:∀{rl:List (Nat×Nat)} {y y':Nat},bf rl 3=some 3->bf rl 5=some 5->y=y'->gn rl (.agg [.int .i64 ((c.p.toNat+1:Nat):Int),.own 3 3 0 (c.n+bK c.k c.n c.n),.own 5 12 0 y]) (.agg [.int .i64 ((c.p.toNat+1:Nat):Int),.own 3 3 0 (c.n+bK c.k c.n c.n),.own 5 12 0 y']):=fun h0 h e=>jg ⟨⟨rfl,aL rfl⟩,⟨rfl,cT h0 rfl rfl⟩,⟨rfl,cT h rfl e⟩,trivial⟩
   have re:∀{V:List AV} {y:Nat},V.all (lG [(0,0),(1,1),(2,2),(3,3),(4,4),(5,5)])=true->V=V.map (mK [(0,0),(1,1),(2,2),(3,3),(4,4),(5,5)])->ej [] (V,[(5,⟨true,true,12,y,fun i=>bG (G i) dn⟩),(3,⟨true,false,3,c.n+bK c.k c.n c.n,fun i=>.rat (bg c.k c.n c.n i) 2000⟩),(4,tP f 64),(2,⟨false,true,3,1,fun _=>.agg [.int .i64 ((c.p.toNat+1:Nat):Int),.own 3 3 0 (c.n+bK c.k c.n c.n),.own 5 12 0 y]⟩),(1,qK),(0,qn c)]) V (iG c ((c.p.toNat+1:Nat):Int) (c.n+bK c.k c.n c.n) (bg c.k c.n c.n) f y G) 6:=fun {V y} h1 h2=>
    ⟨[(0,0),(1,1),(2,2),(3,3),(4,4),(5,5)],rfl,h2,h1,eG (aM (eG (cD rfl rfl (hv2 rfl rfl rfl) (aM (aM trivial)))))⟩
   refine ay.rL hT s5 hm (y:=qT) (x1:=pZ) (zb:=part qT [1,1,1]) [1,1,0] (j:=3) ag ag ag ag hk (f1:=[70]) 60 kY 6 (fun _:Unit=>qb M j) (fun _=>iG c ((c.p.toNat+1:Nat):Int) (c.n+bK c.k c.n c.n) (bg c.k c.n c.n) f j G) (fun _=>j<M) ⟨_,U9,?_⟩ (fun _ hj'=>?_)
   ·simp only[ah.all,aA,bh,bz]
    exact⟨fun h1=>⟨(),aa,re rfl rfl⟩,fun h1 s' hs'=>⟨rfl,j,aa,(re rfl rfl).le hs' hk⟩⟩
   have hj':j<M:=hj'
   refine acN hk hc hp1 hp6 aa aa aa aa aa (by rw[hG]) fun s' hle=>?_
   refine ay.kO hle (ay.bB hT s5 hm 60 kY ane ag ?_)
   simp only[ah.all,aA]
   exact⟨aa,fun s'' hs''=>⟨j+1,aa,by dsimp only;omega,ej.le (re rfl rfl) hs'' hk⟩⟩
  ·subst hj
   refine ay.m8 ((aG.fin hT s5 hm 60 aab ag ?_).mono fun _ _ h=>.inl h)
   simp only[ah.all,aA]
   refine⟨⟨aa,aa⟩,aa,ct ⟨bN hq.symm,fG fun i _=>.refl _,oQ hM fun i _=>?_,trivial⟩⟩
   rw[hG,hf,<-hq];rfl
def LO:Spec:=cI (kC (qd 2000 4000) kN) (fun a=>dI (gr a.1) 2000 dn) fun a=>[Kn a.1.n a.1.p.toNat a.1.k,1<=a.1.p,a.1.p<=6,a.1.n<2^18,a.1.m<2^18]
theorem Vg:∀K args pre q,LO K args pre=some q->aD P A7 K args pre q:=cL fun⟨c,_⟩ K hn=>Y0 hn.1 hn.2.1 hn.2.2.1 hn.2.2.2.1 hn.2.2.2.2 K
theorem aj1:aR P El DC (az DC):=aS Proofs.Tryz.func18 ag ag ag
def nT (c:Cu) (a b:Rat):Rat:=if a=c.k 0 then b else a
def qj (c:Cu) (a b:Rat):Nat:=c.n+(c.p.toNat-bu c.k (nT c a b) c.n)
def s9 (c:Cu) (a b:Rat):Nat->Rat:=dS c.k c.n (nT c a b) (c.p.toNat-bu c.k (nT c a b) c.n)
def tM (c:Cu) (a b:Rat):Nat:=eA (jO a (s9 c a b)) (qj c a b)
def sP (c:Cu) (a b:Rat):Nat:=eA (jI b (s9 c a b)) (qj c a b)
def oK (c:Cu) (a b:Rat):Cu:=zn (lW c (qj c a b) (s9 c a b)) a b (tM c a b) (sP c a b)
structure uH (c:Cu) (a b:Rat):Prop where
 kn:Kn c.n c.p.toNat c.k
 p1:1<=c.p
 p6:c.p<=6
 n:c.n<2^27
 m:c.m<2^28
 kd:∀i,dD (c.k i)
 td:dD (nT c a b)
 t0:c.k 0<nT c a b
 t1:nT c a b<c.k (c.n-1)
 ab:a=c.k 0\/b=c.k (c.n-1)
 f1:c.p.toNat+1<=tM c a b
 f2:tM c a b<=sP c a b
 f3:sP c a b+c.p.toNat+1<=qj c a b
def RL:Spec:=cI (kC (qd 2000 4000) (kC (fL 2000) (kC (fL 2000) kN))) (fun a=>dI (oK a.1 a.2.1 a.2.2.1) sK sB) fun a=>[uH a.1 a.2.1 a.2.2.1]
def Md:aX:=nG::(Fa,Jo)::(qh,Er)::(Fi,RL)::(pU,Ki)::[]
abbrev b9 (c:Cu):Cu:=⟨c.p,c.n,c.k,c.m,fun i=>bV (c.f i)⟩
abbrev kJ (c:Cu):Cu:=⟨c.p,c.n,c.k,c.m,fun i=>dX (c.f i)⟩
theorem afe {c:Cu} {t:Rat}:bS T Md [11] 60 DC (az DC) ⟨aP 0 [bQ c 2000 2000,.rat t 2000],[],0⟩=
  let o:Prop:=0<1;let k:Prop:=bT (fun i=>.rat (c.k i) 2000) c.n 2000;let f:Prop:=fj (fun i=>bH (c.f i) 2000) c.m 2000;let h:Prop:=j5 (fun i=>bG (bV (c.f i)) 4000) c.m 4000;let no:AV:=.agg [.int .i64 0,.nil,.nil];let e:Int:=(c.n:Int)-1
  let A:Cu:=oK (b9 c) (c.k 0) t;let B:Cu:=oK (b9 c) t (c.k e.toNat)
  some (aj [o,o,k,f,2000<=2000,dx c] (fork (!(decide (c.k 0<t)&&decide (t<c.k (c.n-1)))) (aj [o,o] (aj [o,o] (leaf .ret [no,no,.int .i64 7]))) (aj [o,k,f,c.n<2^40,c.m<2^30,o]
   (aj [o,o,(0:Int)<=0/\Int.toNat 0<c.n,o,k,h,2000<=2000,2000<=2000,uH (b9 c) (c.k 0) t,bT (fun i=>.rat (A.k i) sK) A.n sK,j5 (fun i=>bG (A.f i) sB) A.m sB,A.n<2^40,A.m<2^29,o,o,o,o,-(2:Int)^63<=e/\e<(2:Int)^63,(0:Int)<=e/\e.toNat<c.n,k,h,2000<=2000,2000<=2000,uH (b9 c) t (c.k e.toNat),bT (fun i=>.rat (B.k i) sK) B.n sK,j5 (fun i=>bG (B.f i) sB) B.m sB,B.n<2^40,B.m<2^29,o,o]
    (aj [o,o] (leaf .ret [bQ (kJ A) (sK+10) (sB+sB),bQ (kJ B) (sK+10) (sB+sB),.int .i64 0])))))):=ag
theorem Vk:∀K args pre r,RL K args pre=some r->aD P Fi K args pre r:=cL fun⟨c,a,b,_⟩ K hn=>by
 obtain⟨h1,h2,h3,h4,h5,h6,h7,h8,h9,h10,h11,h12,h13⟩:uH c a b:=hn
 have hle:=h1.yU h8 h9
 by_cases e:a=c.k 0
 ·exact RP (w:=1) h1 h2 h3 h4 h5 h6 h7 h8 h9 aa (.inl ⟨rfl,e,(if_pos e:nT c a b=b).symm⟩) rfl rfl h11 h12 h13 K
 ·exact RP (w:=0) h1 h2 h3 h4 h5 h6 h7 h8 h9 aa (.inr ⟨rfl,(if_neg e:nT c a b=a).symm,h10.resolve_left e⟩) rfl rfl h11 h12 h13 K
theorem aeR:bq P Md:=dg (aH Qw (aH IA (aH Vk (aH OW bC))))
theorem adQ {c:Cu} {P j e:Nat} {K:Nat->Rat} (hc:Kn c.n c.p.toNat c.k) (hp1:1<=c.p) (hm2:(c.m:Int)=(c.n:Int)-c.p-1) (hA:At c.n c.k P):
  ga c (P:Nat) c.p.toNat (fun i=>K (i+(j+1))) e=bO c.k c.p.toNat (fun i=>bW (c.f i) e) P (aT K (j+1) c.p.toNat):=by
 obtain⟨w1,w2⟩:=hc.wide hA
 have hw:=hA.wide
 have hE:gZ c.n c.k c.p.toNat c.m c.p.toNat (P:Nat)=0:=wW aa rfl (by
  rw[aZ]
  rintro(h|h|h)
  ·omega
  ·omega
  ·exact absurd h (Rat.not_le.2 hw))
 unfold ga lN
 rw[if_pos hE,aZ,yw]
 have e1:aT (fun i=>K (i+(j+1))) 0 c.p.toNat=aT K (j+1) c.p.toNat:=by
  have:=KJ (k:=K) (c:=j+1) (l:=c.p.toNat) (a:=0)
  rw[Nat.add_zero]at this
  rw[<-this]
  exact r5 fun i _ _=>by rw[Nat.add_comm i (j+1)]
 rw[e1];rfl
theorem Ru {c:Cu} {t:Rat} (hc:dm c 5) (ht:dD t) (h0:c.k 0<t) (h1:t<c.k (c.n-1)) (h40:c.m+c.p.toNat<=40):∀{r:Nat},((bu c.k t c.n+r:Nat):Int)<=c.p->(cj c t r).k=dS c.k c.n t r
 |0,_=>rfl
 |r+1,hr=>by
  have hs:=lR.all (r:=r) hc ht h0 h1 h40 aa
  obtain⟨hE,_⟩:=hs.go hc ht h0 h1 aa aa
  have e:cj c t (r+1)=nw (cj c t r) t (bJ (cj c t r).n (cj c t r).k t):=if_pos hE
  rw[e]
  show cW (cj c t r).k t (bJ (cj c t r).n (cj c t r).k t+1)=cW (dS c.k c.n t r) t (bJ (c.n+r) (dS c.k c.n t r) t+1)
  rw[Ru hc ht h0 h1 h40 (r:=r) aa,hs.n]
theorem HU {c:Cu} {t:Rat} (hc:dm c 5) (ht:dD t) (h0:c.k 0<t) (h1:t<c.k (c.n-1)) (h40:c.m+c.p.toNat<=40):∀{r:Nat},((bu c.k t c.n+r:Nat):Int)<=c.p->
  jj c.p.toNat c.n c.k (fun e i=>bW (bV (c.f i)) e) (cj c t r).n (cj c t r).k (fun e i=>bW (bV ((cj c t r).f i)) e)
 |0,_=>jj.refl
 |r+1,hr=>by
  have hs:=lR.all (r:=r) hc ht h0 h1 h40 aa
  obtain⟨hE,_⟩:=hs.go hc ht h0 h1 aa aa
  have e:cj c t (r+1)=nw (cj c t r) t (bJ (cj c t r).n (cj c t r).k t):=if_pos hE
  have ih:=HU hc ht h0 h1 h40 (r:=r) aa
  have hd:=rO hc (fun _=>ht) hs.e
  have g0:(cj c t r).k 0<t:=by rw[hs.k0];exact h0
  have g1:t<(cj c t r).k ((cj c t r).n-1):=by rw[hs.k1];exact h1
  have hp:=hs.p
  have hds:dm (cj c t r) (tT r):=hd
  obtain⟨i1,i2,i3⟩:=mX hds.kn.1 g0 g1
  have ht2:bu (cj c t r).k t (cj c t r).n<(cj c t r).p.toNat:=by rw[hs.s,hp];omega
  have key:=jj.ins (t:=t) ih (by rw[<-hp];exact hds.kn.1) g0 g1 i1 i2 i3 (by rw[<-hp];exact ht2)
  rw[e]
  have ef:(fun e i=>bW (bV ((nw (cj c t r) t (bJ (cj c t r).n (cj c t r).k t)).f i)) e)=fun e=>jJ (cj c t r).k c.p.toNat (fun i=>bW (bV ((cj c t r).f i)) e) t (bJ (cj c t r).n (cj c t r).k t):=by
   funext e i
   have hpos:=AU (i:=i) hds.kn hds.pos g0 g1 i1 i2 i3
   show bW (bV (dX (kS (cj c t r) t (bJ (cj c t r).n (cj c t r).k t) i))) e=_
   rw[Ac (o5 hpos),<-hp]
   match e with
   |0=>rfl
   |1=>rfl
   |2=>rfl
   |e+3=>rfl
  rw[ef]
  exact key
theorem aaS {c:Cu} {t:Rat} {j:Nat} (hc:dm c 5) (ht:dD t) (h0:c.k 0<t) (h1:t<c.k (c.n-1)) (h40:c.m+c.p.toNat<=40) (hj:j<(cN c t).m):dX (mJ (b9 c) (cN c t).n (cN c t).k j)=(cN c t).f j:=by
 obtain⟨k1,k2,k3,k4,k5⟩:=id hc.kn
 have hle:=k1.yU h0 h1
 have hR:((bu c.k t c.n+(c.p.toNat-bu c.k t c.n):Nat):Int)<=c.p:=aa
 have hs:=lR.all hc ht h0 h1 h40 hR
 have hsub:=HU hc ht h0 h1 h40 hR
 have hd:dm (cj c t (c.p.toNat-bu c.k t c.n)) (tT (c.p.toNat-bu c.k t c.n)):=rO hc (fun _=>ht) hs.e
 have hK:=hd.kn.1
 have hp:=hs.p
 have hm2:=hs.m
 have hn2:=hs.n
 have f0:=hs.k0
 have f1:=hs.k1
 have hpos:=hd.pos j
 show dX (mJ (b9 c) (cj c t (c.p.toNat-bu c.k t c.n)).n (cj c t (c.p.toNat-bu c.k t c.n)).k j)=(cj c t (c.p.toNat-bu c.k t c.n)).f j
 have hj:j<(cj c t (c.p.toNat-bu c.k t c.n)).m:=hj
 generalize cj c t (c.p.toNat-bu c.k t c.n)=d at*
 rw[hp]at hK
 have hl:=hK.len
 obtain⟨Q,hQ⟩:∃Q,Q=er d.k d.n j:=⟨_,rfl⟩
 obtain⟨g1,g2,g3⟩:j<=Q/\Q<j+(c.p.toNat+1)/\d.k Q<d.k (Q+1):=by
  rw[hQ]
  exact Cs (n:=d.n) (k:=d.k) (pc:=pM d.k d.n) (fun _=>rfl) (fun _ _=>rfl) (hK.yp aa) aa aa
 have hA:At d.n d.k Q:=⟨aa,hK.sorted,g3⟩
 obtain⟨P,hP,hI,hE⟩:=hsub.TA hK hA g1 aa
 have hI2:fH c.n c.k (d.k Q)=P:=by
  unfold fH
  rw[if_neg,hI]
  unfold cw
  have m1:=hK.mono (show 0<=Q by omega) aa
  have m2:=hK.mono (show Q<=d.n-1 by omega) aa
  rw[f0]at m1
  rw[f1]at m2
  rintro(h|h)<;>grind
 have key:∀e,ga (b9 c) (P:Nat) c.p.toNat (fun i=>d.k (i+(j+1))) e=bW (bV (d.f j)) e:=fun e=>(adQ (c:=b9 c) k1 k2 k5 hP).trans (hE e)
 have e1:mJ (b9 c) d.n d.k j=bV (d.f j):=by
  show nB (b9 c) (fH c.n c.k (d.k (er d.k d.n j))) c.p.toNat (fun q=>d.k (q+(j+1)))=_
  rw[<-hQ,hI2]
  unfold nB
  rw[key 0,key 1,key 2,key 3]
  rfl
 rw[e1]
 exact Ip (o5 hpos)
theorem ai1 {c:Cu} {t:Rat} (hc:dm c 5) (ht:dD t) (h0:c.k 0<t) (h1:t<c.k (c.n-1)) (h40:c.m+c.p.toNat<=40):uH (b9 c) (c.k 0) t/\uH (b9 c) t (c.k (c.n-1))/\bF (bQ (kJ (oK (b9 c) (c.k 0) t)) (sK+10) (sB+sB)) (bQ (ig c t) 2000 sE)/\bF (bQ (kJ (oK (b9 c) t (c.k (c.n-1)))) (sK+10) (sB+sB)) (bQ (iw c t) 2000 sE)/\(oK (b9 c) (c.k 0) t).n<2^28/\(oK (b9 c) (c.k 0) t).m<2^28/\(oK (b9 c) t (c.k (c.n-1))).n<2^28/\(oK (b9 c) t (c.k (c.n-1))).m<2^28:=by
 obtain⟨k1,k2,k3,k4,k5⟩:=id hc.kn
 have hle:=k1.yU h0 h1
 have hR:((bu c.k t c.n+(c.p.toNat-bu c.k t c.n):Nat):Int)<=c.p:=aa
 have hs:lR c t (c.p.toNat-bu c.k t c.n):=lR.all hc ht h0 h1 h40 hR
 have hd:dm (cN c t) (tT (c.p.toNat-bu c.k t c.n)):=rO hc (fun _=>ht) hs.e
 have hk:(cN c t).k=dS c.k c.n t (c.p.toNat-bu c.k t c.n):=Ru hc ht h0 h1 h40 hR
 have hn:(cN c t).n=c.n+(c.p.toNat-bu c.k t c.n):=hs.n
 have hpole:∀{j:Nat},j<(cN c t).m->dX (mJ (b9 c) (cN c t).n (cN c t).k j)=(cN c t).f j:=fun {j} hj=>aaS hc ht h0 h1 h40 hj
 have t1:nT (b9 c) (c.k 0) t=t:=if_pos rfl
 have t2:nT (b9 c) t (c.k (c.n-1))=t:=if_neg fun e=>by rw[show(b9 c).k 0=c.k 0 from rfl]at e;rw[e]at h0;exact Rat.lt_irrefl h0
 have n1:qj (b9 c) (c.k 0) t=(cN c t).n:=by unfold qj;rw[t1,hn]
 have n2:qj (b9 c) t (c.k (c.n-1))=(cN c t).n:=by unfold qj;rw[t2,hn]
 have q1:s9 (b9 c) (c.k 0) t=(cN c t).k:=by unfold s9;rw[t1,hk]
 have q2:s9 (b9 c) t (c.k (c.n-1))=(cN c t).k:=by unfold s9;rw[t2,hk]
 have f0:(cN c t).k 0=c.k 0:=hs.k0
 have f1:(cN c t).k ((cN c t).n-1)=c.k (c.n-1):=hs.k1
 have hp:(cN c t).p=c.p:=hs.p
 have hm2:=hd.kn.2.2.2.2
 have hK:=hd.kn.1
 have htm:bu (cN c t).k t (cN c t).n=(cN c t).p.toNat:=by
  rw[hp];exact hs.s.trans aa
 have u1:tM (b9 c) (c.k 0) t=eA (jO (c.k 0) (cN c t).k) (cN c t).n:=by unfold tM;rw[n1,q1]
 have u2:sP (b9 c) (c.k 0) t=eA (jI t (cN c t).k) (cN c t).n:=by unfold sP;rw[n1,q1]
 have u3:tM (b9 c) t (c.k (c.n-1))=eA (jO t (cN c t).k) (cN c t).n:=by unfold tM;rw[n2,q2]
 have u4:sP (b9 c) t (c.k (c.n-1))=eA (jI (c.k (c.n-1)) (cN c t).k) (cN c t).n:=by unfold sP;rw[n2,q2]
 have r1:ig c t=lY (cN c t) t (bJ (cN c t).n (cN c t).k t):=if_pos ⟨h0,h1⟩
 have r2:iw c t=gx (cN c t) t (bJ (cN c t).n (cN c t).k t):=if_pos ⟨h0,h1⟩
 obtain⟨i1,i2,i3⟩:=mX hK (by rw[f0];exact h0) (by rw[f1];exact h1)
 obtain⟨s1,s2,s3⟩:=hK.split (by rw[f0];exact h0) (by rw[f1];exact h1) i1 i2 i3 htm
 obtain⟨v1,v2,v3,v4⟩:=hK.firsts (by rw[f0];exact h0) (by rw[f1];exact h1) i1 i2 i3 htm
 obtain⟨w1,w2⟩:=hK.l7 (by rw[f0];exact h0) (by rw[f1];exact h1) i1 i2 i3
 have hfirst:=hK.first
 have hlast:=hK.last
 have hkd:=hd.kd
 have hl:=hK.len
 have hdn:(cN c t).n<=c.n+6:=by rw[hn];omega
 rw[hp]at s1 s2 s3 v1 v2 v4 hfirst hlast hl hm2
 have F1:eA (jO (c.k 0) (cN c t).k) (cN c t).n=c.p.toNat+1:=by rw[<-f0];exact v1
 have F2:eA (jI t (cN c t).k) (cN c t).n=bJ (cN c t).n (cN c t).k t+1-c.p.toNat:=v2
 have F3:eA (jO t (cN c t).k) (cN c t).n=bJ (cN c t).n (cN c t).k t+1:=v3
 have F4:eA (jI (c.k (c.n-1)) (cN c t).k) (cN c t).n=(cN c t).n-c.p.toNat-1:=by rw[<-f1];exact v4
 have hl2:=k1.len
 have hp5:(b9 c).p.toNat=c.p.toNat:=rfl
 rw[hp]at w1 w2
 refine⟨⟨k1,k2,k3,show c.n<2^27 by omega,show c.m<2^28 by omega,hc.kd,by rw[t1];exact ht,by rw[t1];exact h0,by rw[t1];exact h1,.inl rfl,by rw[u1,F1];exact Nat.le_refl _,by rw[u1,u2,F1,F2];omega,by rw[u2,n1,F2,hp5];omega⟩,⟨k1,k2,k3,show c.n<2^27 by omega,show c.m<2^28 by omega,hc.kd,by rw[t2];exact ht,by rw[t2];exact h0,by rw[t2];exact h1,.inr rfl,by rw[u3,F3,hp5];omega,by rw[u3,u4,F3,F4];omega,by rw[u4,n2,F4,hp5];omega⟩,?_⟩
 rw[r1,r2]
 unfold oK
 rw[u1,u2,u3,u4,n1,n2,q1,q2,F1,F2,F3,F4]
 clear u1 u2 u3 u4 n1 n2 q1 q2 F1 F2 F3 F4 r1 r2 t1 t2 v1 v2 v3 v4 hs hd hk hn
 generalize cN c t=d at*
 generalize bJ d.n d.k t=a at*
 have hdp:d.p.toNat=c.p.toNat:=by rw[hp]
 have up:∀{q:Pl},bF (bH q (sB+sB)) (bH q sE):=fun {q}=>ct ⟨ct ⟨bX rfl (by decide),bX rfl (by decide),bX rfl (by decide),trivial⟩,bX rfl (by decide),trivial⟩
 have kn:∀{x y:Rat},x=y->dD y->bF (.rat x (sK+10)) (.rat y 2000):=fun {x y} h hy=>by rw[h];exact dc rfl (hy.sz.more (by decide))
 refine⟨?_,?_,?_,?_,?_,?_⟩
 ·show bF (.agg [.int .i64 c.p,.ak 3 (c.p.toNat+1+(a+1-c.p.toNat-(c.p.toNat+1))+(c.p.toNat+1)) fun i=>.rat (pK c.p.toNat (c.k 0) t d.k (c.p.toNat+1) (a+1-c.p.toNat) i) (sK+10),.ak 12 (a+1-c.p.toNat-(c.p.toNat+1-1-c.p.toNat)) fun i=>bH (dX (mJ (b9 c) d.n d.k (c.p.toNat+1-1-c.p.toNat+i))) (sB+sB)]) (.agg [.int .i64 d.p,.ak 3 (a+1+1) fun i=>.rat (if i<a+1 then d.k i else t) 2000,.ak 12 (a+1-d.p.toNat) fun i=>bH (d.f i) sE])
  rw[hp,show c.p.toNat+1+(a+1-c.p.toNat-(c.p.toNat+1))+(c.p.toNat+1)=a+1+1 by omega,show a+1-c.p.toNat-(c.p.toNat+1-1-c.p.toNat)=a+1-c.p.toNat by omega]
  refine ct ⟨.refl _,fG fun i hi=>kn ?_ ?_,fG fun i hi=>?_,trivial⟩
  ·unfold pK
   by_cases c1:i<c.p.toNat+1
   ·rw[if_pos c1,if_pos aa,hfirst i aa,f0]
   ·rw[if_neg c1]
    by_cases c2:i<c.p.toNat+1+(a+1-c.p.toNat-(c.p.toNat+1))
    ·rw[if_pos c2,if_pos aa];congr 1;omega
    ·rw[if_neg c2]
     by_cases c3:i<a+1
     ·rw[if_pos c3,s1 i aa aa]
     ·rw[if_neg c3]
  ·split
   ·exact hkd i
   ·exact ht
  ·rw[show c.p.toNat+1-1-c.p.toNat+i=i by omega,hpole aa];exact up
 ·show bF (.agg [.int .i64 c.p,.ak 3 (c.p.toNat+1+(d.n-c.p.toNat-1-(a+1))+(c.p.toNat+1)) fun i=>.rat (pK c.p.toNat t (c.k (c.n-1)) d.k (a+1) (d.n-c.p.toNat-1) i) (sK+10),.ak 12 (d.n-c.p.toNat-1-(a+1-1-c.p.toNat)) fun i=>bH (dX (mJ (b9 c) d.n d.k (a+1-1-c.p.toNat+i))) (sB+sB)]) (.agg [.int .i64 d.p,.ak 3 (1+(d.n-(a+1-d.p.toNat))) fun i=>.rat (if i<1 then t else d.k (a+1-d.p.toNat+(i-1))) 2000,.ak 12 (d.m-(a-d.p.toNat)) fun i=>bH (d.f (a-d.p.toNat+i)) sE])
  rw[hp,show c.p.toNat+1+(d.n-c.p.toNat-1-(a+1))+(c.p.toNat+1)=1+(d.n-(a+1-c.p.toNat)) by omega,show d.n-c.p.toNat-1-(a+1-1-c.p.toNat)=d.m-(a-c.p.toNat) by omega]
  refine ct ⟨.refl _,fG fun i hi=>kn ?_ ?_,fG fun i hi=>?_,trivial⟩
  ·unfold pK
   by_cases c1:i<c.p.toNat+1
   ·rw[if_pos c1]
    by_cases c3:i<1
    ·rw[if_pos c3]
    ·rw[if_neg c3,s1 (a+1-c.p.toNat+(i-1)) aa aa]
   ·rw[if_neg c1,if_neg (show¬i<1 by omega)]
    by_cases c2:i<c.p.toNat+1+(d.n-c.p.toNat-1-(a+1))
    ·rw[if_pos c2];congr 1;omega
    ·rw[if_neg c2,hlast (a+1-c.p.toNat+(i-1)) aa aa,f1]
  ·split
   ·exact ht
   ·exact hkd _
  ·rw[show a+1-1-c.p.toNat+i=a-c.p.toNat+i by omega,hpole aa];exact up
 ·show c.p.toNat+1+(a+1-c.p.toNat-(c.p.toNat+1))+(c.p.toNat+1)<2^28
  omega
 ·show a+1-c.p.toNat-(c.p.toNat+1-1-c.p.toNat)<2^28
  omega
 ·show c.p.toNat+1+(d.n-c.p.toNat-1-(a+1))+(c.p.toNat+1)<2^28
  omega
 ·show d.n-c.p.toNat-1-(a+1-1-c.p.toNat)<2^28
  omega
theorem ZH:∀K args pre q,ajm K args pre=some q->aD P El K args pre q:=cL fun⟨c,t,_⟩ K hn=>by
 obtain⟨hc,ht,h40,hp5⟩:=hn
 have hc:dm c 5:=hc
 have ht:dD t:=ht
 have h40:c.m+c.p.toNat<=40:=h40
 obtain⟨k1,k2,k3,k4,k5⟩:=id hc.kn
 have hl:=k1.len
 refine bY (r:=aK (.tuple [bQ (ig c t) 2000 sE,bQ (iw c t) 2000 sE,.int .i64 (m7 c t)]) []) hT aeR hm aj1 rfl aW rfl 60 afe (fun _=>?_) K []
 have e1:((c.n:Int)-1).toNat=c.n-1:=aa
 simp only[ah.all,aA,bh,bz,Bool.not_eq_true',Bool.not_eq_false',Bool.and_eq_true,Bool.and_eq_false_iff,e1]
 refine⟨⟨aa,aa,cz aY,ir aY,aY,hc.kn⟩,fun ho=>⟨⟨aa,aa⟩,⟨aa,aa⟩,?_⟩,fun hi=>?_⟩
 ·have hno:¬(c.k 0<t/\t<c.k (c.n-1)):=fun h=>ho.elim (fun g=>g h.1) fun g=>g h.2
  rw[show ig c t=jC from if_neg hno,show iw c t=jC from if_neg hno,show m7 c t=7 from if_neg hno]
  exact⟨zV,zV,.refl _,trivial⟩
 ·obtain⟨g1,g2,g3,g4,g5,g6,g7,g8⟩:=ai1 hc ht hi.1 hi.2 h40
  refine⟨⟨aa,cz aY,ir aY,aa,aa,aa⟩,⟨aa,aa,⟨aa,by rw[Int.toNat_zero];omega⟩,aa,cz aY,nj aY,aY,aY,g1,cz aY,nj aY,aa,aa,aa,aa,aa,aa,aa,⟨aa,aa⟩,cz aY,nj aY,aY,aY,g2,cz aY,nj aY,aa,aa,aa,aa⟩,⟨aa,aa⟩,?_⟩
  rw[show m7 c t=0 from if_pos hi]
  exact⟨g3,g4,.refl _,trivial⟩
theorem abO:aR P Fx DN (az DN):=aS Proofs.Tryz.func16 ag ag ag
abbrev Gr (c:Cu) (i:Nat):List AV:=[.ptr 0 0 3 0 [],.ptr 1 0 3 0 [],ri c.f c.m dn,.int .i64 c.m,.int .i64 i]
abbrev Jt (c:Cu) (i:Nat):aF:=[(2,⟨true,true,12,i,fun j=>bH (dX (c.f j)) (dn+dn)⟩),(1,⟨false,true,3,1,fun _=>.agg [.int .i64 c.p,bD c.k c.n (sK+10),.own 2 12 0 i]⟩),(0,⟨false,true,3,1,fun _=>.agg [.int .i64 0,.nil,.nil]⟩)]
def LR:Spec:=cI (kC (K2 dn) kN) (fun a=>bH (dX a.1) (dn+dn)) fun _=>[]
def Bu:aX:=nG::(v8,AS sK (sK+10))::(qI,LR)::[]
def OP:Spec:=cI (kC (qd sK dn) kN) (fun a=>bQ ⟨a.1.p,a.1.n,a.1.k,a.1.m,fun i=>dX (a.1.f i)⟩ (sK+10) (dn+dn)) fun a=>[a.1.n<2^40,a.1.m<2^29]
def QA:aX:=nG::(Ak,Cx)::(Cm,Gk)::(qh,Er)::(A7,LO)::(pU,OP)::[]
def rq (c:Cu):Int:=if 6<=c.p then 7 else 0
def eP (c:Cu):Cu:=if 6<=c.p then jC else kJ (gr (b9 c))
theorem amN {c:Cu}:aI T Bu [] 60 ot (before nZ [1,1,0,1]) ⟨aP 0 [dI c sK dn],[],0⟩=
  let c3:Nat:=sK+10;let c2:Prop:=0<1;let c1:AV:=agg [int i64 0,nil,nil];some (aj [c2,c2,bT (fun i=>rat (c.k i) sK) c.n sK,c3<=c3,c3<2^40,c.n<2^40,c2] (aj [c2] (leaf normal ([ptr 4096 0 3 0 [],ptr 32768 0 3 0 [],ak 12 c.m fun i=>agg [rat (c.f i).n.x 8589934592,rat (c.f i).n.y 8589934592,rat (c.f i).n.z 8589934592,rat (c.f i).d 8589934592],int i64 (↑c.m:Int),int i64 0],[((32768:Nat),aQ fun j=>if(j==0)=true then bt (agg ((c1.kids.set 0 (bt (int i64 c.p))).set 1 (bt (bD (fun i=>aV (rat (c.k i) sK)) c.n c3))))else c1),((4096:Nat),aQ fun x=>c1)])))):=ag
theorem Wj {c:Cu} {i:Nat}:aI T Bu [16] 60 ot [part nZ [1,1,0,1,0,0]] ⟨aE ot (Gr c i),Jt c i,3⟩=
  let c12:Nat:=dn+dn;let c11:Int:=(↑c.m:Int);let c10:AV:=own 2 12 0 i;let c9:AV:=ptr 1 0 3 0 [];let c8:AV:=ptr 0 0 3 0 [];let c7:Prop:=0<1;let c6:Int:=(↑i:Int);let c5:AV:=rat 0 1;let c4:Nat×au:=((0:Nat),aQ fun x=>agg [int i64 0,nil,nil]);let c1:AV:=ak 12 c.m fun i=>agg [rat (c.f i).n.x 8589934592,rat (c.f i).n.y 8589934592,rat (c.f i).n.z 8589934592,rat (c.f i).d 8589934592];let c13:Int:=c6+(1:Int);let c3:AV:=agg [int i64 c.p,bD c.k c.n (sK+10),c10];let c2:Pl:=c.f c6.toNat;some (fork (decide (c6<c11)) (aj [(0:Int)<=c6/\c6.toNat<c.m,c7] (aj [c7,c7,dn<=dn,dn<=dn,dn<=dn,dn<=dn,(1:Nat)*12<=2^24,(i+1)*((224:Nat)+1)*2<=2^47,c7] (aj [-(2:Int)^63<=c13/\c13<(2:Int)^63] (leaf normal ([c8,c9,c1,int i64 c11,int i64 c13],[(40963,au.mk true true 12 (i+1) fun i_1=>if i_1<i then bH (dX (c.f i_1)) c12 else nth [agg [agg [rat (c2.n.x/c2.d) c12,rat (c2.n.y/c2.d) c12,rat (c2.n.z/c2.d) c12],rat c2.d c12]] (agg [agg [c5,c5,c5],c5]) (i_1-i+0)),((1:Nat),aQ fun j=>if(j==0)=true then agg (c3.kids.set 2 (bt (own (nat_lit 40962+1) 12 0 (i+1))))else c3),c4]))))) (leaf (exit 0) ([c8,c9,c1,int i64 c11,int i64 c6],[(2,au.mk true true 12 i fun j=>agg [agg [rat ((c.f j).n.x/(c.f j).d) 17179869184,rat ((c.f j).n.y/(c.f j).d) 17179869184,rat ((c.f j).n.z/(c.f j).d) 17179869184],rat (c.f j).d 17179869184]),((1:Nat),aQ fun x=>agg [int i64 c.p,ak 3 c.n fun i=>rat (c.k i) 4106,c10]),c4]))):=ag
theorem amX {c:Cu} {i:Nat}:cJ T Bu [] 60 Ai [part nZ [1,1,1]] ⟨aE ot (Gr c i),Jt c i,3⟩=
  let c1:Prop:=0<1;some (aj [c1,c1] (aj [c1] (leaf ret [agg [int i64 c.p,ak 3 c.n fun i=>rat (c.k i) 4106,ak 12 i fun i=>agg [agg [rat ((c.f (i+0)).n.x/(c.f (i+0)).d) 17179869184,rat ((c.f (i+0)).n.y/(c.f (i+0)).d) 17179869184,rat ((c.f (i+0)).n.z/(c.f (i+0)).d) 17179869184],rat (c.f (i+0)).d 17179869184]]]))):=ag
theorem VJ {c:Cu}:bS T QA [8,4,14] 60 DN (az DN) ⟨aP 0 [bQ c 2000 2000],[],0⟩=
  let o:Prop:=0<1;let b:Bool:=decide (c.p>=(6:Int));let e:Int:=(c.m:Int)+(cC c.k c.n:Nat);let no:Int->ah (List AV):=fun e=>aj [o] (aj [o] (leaf .ret [.agg [.int .i64 0,.nil,.nil],.int .i64 e]));let E:Cu:=gr (b9 c);let k:Prop:=bT (fun i=>.rat (c.k i) 2000) c.n 2000
  let r:ah (List AV):=aj [o,o,bT (fun i=>.rat (c.k i) 2000) c.n sJ,c.n<2^40,-(2:Int)^63<=e/\e<(2:Int)^63,-(2:Int)^63<=e-1/\e-1<(2:Int)^63] (fork (decide (e-1>(40:Int))) (no 2) (aj [o,k,fj (fun i=>bH (c.f i) 2000) c.m 2000,c.n<2^40,c.m<2^30,k,j5 (fun i=>bG (bV (c.f i)) 4000) c.m 4000,Kn c.n c.p.toNat c.k,1<=c.p,c.p<=6,c.n<2^18,c.m<2^18,bT (fun i=>.rat (E.k i) 2000) E.n sK,j5 (fun i=>bG (E.f i) dn) E.m dn,E.n<2^40,E.m<2^29,o]
   (aj [o] (leaf .ret [bQ (kJ E) (sK+10) (dn+dn),.int .i64 0]))))
  some (fork b (aj [o,b=true] (fork true (no 7) r)) (aj [o,b=false,o,bT (fun i=>.rat (c.k i) 2000) c.n sJ,fj (fun i=>bH (c.f i) 2000) c.m sJ,dx c] (fork false (no 7) r))):=ag
theorem VM:∀K args pre r,LR K args pre=some r->aD P qI K args pre r:=cL fun⟨h,_⟩ K _=>GZ (by decide) (by decide) (by decide) K
theorem T5:bq P Bu:=dg (aH (Ja _ _) (aH VM bC))
theorem agR {c:Cu} (hn:c.n<2^40) (hm2:c.m<2^29) (K:Nat):aD P pU K [dI c sK dn] [] (aK (bQ (kJ c) (sK+10) (dn+dn)) []):=by
 refine gV (r:=aK (bQ (kJ c) (sK+10) (dn+dn)) []) hT T5 hm O5 rfl aW rfl [1,1,0,1] (i:=0) (y:=part nZ [1,1,0,1,0,0]) (z:=part nZ [1,1,1]) ag ag ag (f1:=[]) (f2:=[16]) (f3:=[]) 60 ot 3
  (fun i:Nat=>Gr c i) (fun i=>Jt c i) (fun i=>i<=c.m) (fun i=>i=c.m) (fun i=>c.m-i) (fun _=>⟨⟨_,amN,?_⟩,fun i hi=>⟨_,Wj,?_⟩,fun i hi=>⟨_,amX,?_⟩⟩) K []
 ·simp only[ah.all,aA]
  exact⟨⟨aa,aa,cz aY,aa,by decide,aa,aa⟩,aa,0,Nat.zero_le _,[(0,4096),(1,32768)],rfl,rfl,rfl,mA rfl aa aa (cD rfl rfl (jg ⟨⟨rfl,aL rfl⟩,⟨rfl,aL rfl⟩,⟨rfl,mW aa⟩,trivial⟩) (aM trivial))⟩
 ·simp only[ah.all,aA,bh,bz,aZ,Nat.add_zero]
  refine⟨fun h=>?_,fun h=>⟨rfl,i,aa,[(0,0),(1,1),(2,2)],rfl,rfl,rfl,eG (cD rfl rfl (pS rfl rfl rfl) (aM trivial))⟩⟩
  (repeat' with_reducible refine And.intro ?_ ?_)
  all_goals first|omega|exact Nat.le_refl _|skip
  exact⟨i+1,aa,by dsimp only;omega,[(0,0),(1,1),(2,40963)],rfl,rfl,rfl,bZ rfl rfl rfl (fun j hj=>wT (g:=fun j=>bH (dX (c.f j)) (dn+dn)) (fun _ _=>⟨rfl,rfl⟩) rfl (.refl _) hj) (cD rfl rfl (pS rfl rfl rfl) (aM trivial))⟩
 ·subst hi
  simp only[ah.all,aA]
  exact⟨⟨aa,aa⟩,aa,.refl _⟩
theorem abY:∀K args pre r,OP K args pre=some r->aD P pU K args pre r:=cL fun⟨c,_⟩ K hn=>agR hn.1 hn.2 K
theorem amQ:bq P QA:=dg (aH Gh (aH Q6 (aH IA (aH Vg (aH abY bC)))))
def Vw:Spec:=cI (kC (gY 2000 2000) kN) (fun a=>.tuple [bQ (eP a.1) (sK+10) (dn+dn),.int .i64 (rq a.1)]) fun a=>[dx a.1,a.1.n<=20]
theorem UD:∀K args pre q,Vw K args pre=some q->aD P Fx K args pre q:=cL fun⟨c,_⟩ K hn=>by
 have hc:dx c:=hn.1
 have h20:c.n<=20:=hn.2
 obtain⟨k1,k2,k3,k4,k5⟩:=id hc
 have hl:=k1.len
 have hd:=sL (k:=c.k) (n:=c.n)
 have hg:=yI (k:=c.k) (n:=c.n) (i:=c.n)
 have eN:(gr (b9 c)).n=c.n+bK c.k c.n c.n:=rfl
 have eM:(gr (b9 c)).m=c.n+bK c.k c.n c.n-(c.p.toNat+1)-1:=rfl
 refine bY (r:=aK (.tuple [bQ (eP c) (sK+10) (dn+dn),.int .i64 (rq c)]) []) hT amQ hm abO rfl aW rfl 60 VJ (fun _=>?_) K []
 simp only[ah.all,aA,bh,bz,eN,eM]
 refine⟨fun h=>⟨⟨aa,h⟩,fun _=>⟨aa,aa,?_⟩,fun g=>absurd g (by decide)⟩,fun h=>⟨⟨aa,h,aa,cz (by decide),ir (by decide),hc⟩,fun g=>absurd g (by decide),fun _=>⟨⟨aa,aa,cz (by decide),aa,aa,aa⟩,fun g=>absurd g aa,fun _=>⟨⟨aa,cz (by decide),ir (by decide),aa,aa,cz (by decide),nj (by decide),k1,k2,k3,aa,aa,cz (by decide),nj (by decide),aa,aa,aa⟩,aa,?_⟩⟩⟩⟩
 ·rw[show eP c=jC from if_pos h,show rq c=7 from if_pos h]
  exact⟨zV,.refl _,trivial⟩
 ·rw[show eP c=kJ (gr (b9 c))from if_neg h,show rq c=0 from if_neg h]
  exact⟨.refl _,.refl _,trivial⟩
theorem al5 {d:Int}:0<=iX d/\iX d<=1:=by
 unfold iX
 have h1:1<=qJ d:=by
  unfold qJ
  have:=Int.emod_nonneg (i64.wrap (d.tdiv 17)) (show(12:Int)≠0 by omega)
  omega
 generalize qJ d=m at*
 have h2:=Int.emod_nonneg d (show m+1≠0 by omega)
 have h3:=Int.emod_lt_of_pos d (show 0<m+1 by omega)
 generalize d%(m+1)=x at*
 have e1:(0:Rat)<=(x:Rat):=by exact_mod_cast h2
 have e2:(x:Rat)<=(m:Rat):=by exact_mod_cast (show x<=m by omega)
 have e3:(0:Rat)<(m:Rat):=by exact_mod_cast (show 0<m by omega)
 have e4:(x:Rat)/(m:Rat)*(m:Rat)=(x:Rat):=Rat.div_mul_cancel (by intro h;rw[h]at e3;exact absurd e3 (by decide))
 generalize (x:Rat)/(m:Rat)=q at*
 generalize (x:Rat)=u at*
 generalize (m:Rat)=v at*
 refine⟨?_,?_⟩
 ·rcases Rat.le_total (a:=0) (b:=q)with h|h
  ·exact h
  ·by_cases hq:q=0
   ·rw[hq];exact Rat.le_refl
   ·have:=Rat.mul_pos (a:=-q) (b:=v) (by grind) e3
    grind
 ·rcases Rat.le_total (a:=q) (b:=1)with h|h
  ·exact h
  ·by_cases hq:q=1
   ·rw[hq];exact Rat.le_refl
   ·have:=Rat.mul_pos (a:=q-1) (b:=v) (by grind) e3
    grind
theorem UE {a b:Rat} {d:Int} (h:a<=b):a<=a+iX d*(b-a)/\a+iX d*(b-a)<=b:=by
 obtain⟨h1,h2⟩:=al5 (d:=d)
 generalize iX d=q at*
 have e1:=Rat.mul_nonneg h1 (show 0<=b-a by grind)
 have e2:=Rat.mul_nonneg (show 0<=1-q by grind) (show 0<=b-a by grind)
 constructor<;>grind
theorem Kn.X4 {n p:Nat} {k:Nat->Rat} (h:Kn n p k) {d:Int}:¬cw n k (k 0+iX d*(k (n-1)-k 0)):=by
 have hl:=h.len
 obtain⟨h1,h2⟩:=UE (d:=d) (h.mono (show 0<=n-1 by omega) (show n-1<n by omega))
 rintro(h3|h3)<;>grind
theorem Kn.vS {n p:Nat} {k:Nat->Rat} (h:Kn n p k) {t:Rat} (hin:¬cw n k t):CI n k t (bJ n k t):=by
 have h1:¬t<k 0:=fun h=>hin (.inl h)
 have h2:¬k (n-1)<t:=fun h=>hin (.inr h)
 exact(h.BB (by grind) (by grind)).1
theorem Kn.Oi {n p:Nat} {k:Nat->Rat} (h:Kn n p k):Kn n p (fo n k):=by
 have h1:=h.p1
 have hl:=h.len
 refine⟨h1,hl,fun i hi=>?_,fun i hi=>?_,fun i h2 h3=>?_,fun i h2 h3=>?_⟩
 ·have:=h.sorted (n-1-(i+1)) aa
  rw[show n-1-(i+1)+1=n-1-i by omega]at this
  unfold fo;grind
 ·unfold fo
  rw[h.last (n-1-i) aa aa,h.last (n-1-0) aa aa]
 ·unfold fo
  rw[h.first (n-1-i) aa,h.first (n-1-(n-1)) aa]
 ·have:=h.mult (n-1-(i+p)) aa aa
  rw[show n-1-(i+p)+p=n-1-i by omega]at this
  unfold fo;grind
theorem Kn.ends {n p:Nat} {k:Nat->Rat} (h:Kn n p k):k 0<k (n-1):=by
 have h1:=h.p1
 have hl:=h.len
 have:=h.mult 1 aa aa
 have e1:=h.mono (show 0<=1 by omega) (show 1<n by omega)
 have e2:=h.mono (show 1+p<=n-1 by omega) (show n-1<n by omega)
 grind
theorem xK {n:Nat} {k:Nat->Rat} {a b:Rat} {i:Nat}:fY n k a b i=a+(k i-k 0)*((k (n-1)-k 0)⁻¹*(b-a)):=by
 unfold fY;rw[Rat.div_def];grind
theorem Kn.Gj {n p:Nat} {k:Nat->Rat} {a b:Rat} (h:Kn n p k) (hab:a<b):Kn n p (fY n k a b):=by
 have he:=h.ends
 have hp:0<(k (n-1)-k 0)⁻¹*(b-a):=Rat.mul_pos (Rat.inv_pos.2 (by grind)) (by grind)
 have key:∀i j,k i<=k j->fY n k a b i<=fY n k a b j:=fun i j hij=>by
  rw[xK,xK]
  have:=Rat.mul_le_mul_of_nonneg_right (show k i-k 0<=k j-k 0 by grind) (Rat.le_of_lt hp)
  grind
 have keyL:∀i j,k i<k j->fY n k a b i<fY n k a b j:=fun i j hij=>by
  rw[xK,xK]
  have:=Rat.mul_lt_mul_of_pos_right (show k i-k 0<k j-k 0 by grind) hp
  grind
 have keyE:∀i j,k i=k j->fY n k a b i=fY n k a b j:=fun i j hij=>by unfold fY;rw[hij]
 exact⟨h.p1,h.len,fun i hi=>key _ _ (h.sorted i hi),fun i hi=>keyE _ _ (h.first i hi),fun i h2 h3=>keyE _ _ (h.last i h2 h3),fun i h2 h3=>keyL _ _ (h.mult i h2 h3)⟩
theorem UK {n:Nat} {k:Nat->Rat} {i:Nat} (hi:i<n):fo n (fo n k) i=k i:=by
 unfold fo
 rw[show n-1-(n-1-i)=i by omega,show n-1-0=n-1 by omega,show n-1-(n-1)=0 by omega]
 grind
theorem aib:aR P Es Dn (az Dn):=aS Proofs.Tryz.func20 ag ag ag
def Te:aX:=[(ae4,gX T (sG::tD) [] 100 adJ)]
def OD (x r s y w:Nat):Spec:=cI (kC (gY x r) (kC (acI s) kN)) (fun a=>bQ (FR a.2.1 a.1) y w) fun a=>[a.1.n<2^30,a.1.m<2^30]
def l6 (c:Cu) (a b:Rat):Cu:=⟨if b<=a then 0 else c.p,lI c.n a b,fY c.n c.k a b,lI c.m a b,c.f⟩
def S3:aX:=nG::(E2,RM 64 64 1000)::(EY,OD 64 64 64 100 1000)::Te
theorem UU {c:Cu} {a b:Rat}:bS T S3 [19] 60 Dn (az Dn) ⟨aP 0 [bQ c 64 64,.rat a 64,.rat b 64],[],0⟩=
  let c6 : Rat := (↑(1 : Int) : Rat); let c4 : Prop := bT (fun i => rat (c.k i) 64) c.n 64; let c3 : Prop := 1 <= 1; let c2 : Prop := 0 < 1; let c1 : Nat := Max.max 1 (bM (Int.natAbs (1 : Int))); let c5 : Prop := 1 <= c1; some (aj [c2, c2, c2, c4, (64 : Nat) <= 64, (64 : Nat) <= 64, (1 : Nat) <= c.n, c.n < 2 ^ 40] (fork (kj a b != (0 : Int)) (aj [c2] (aj [c2] (leaf ret [agg [int i64 (0 : Int), nil, nil], int i64 (kj a b)]))) (aj [c2, c2, c2, c4, fj (fun i => bH (c.f i) 64) c.m 64, Max.max c1 1 <= 64, c5, c5, c5, c5, c1 <= 1, c3, c3, c1 <= 1, c3, c3, c.n < 2 ^ 30, c.m < 2 ^ 30, c2] (aj [c2] (leaf ret [agg [int i64 c.p, ak 3 (lI c.n a b) fun i => rat (fY c.n (fun i => aV (rat (c.k i) 64)) a b i) 1000, ak 12 c.m fun i => agg [agg [rat (iZ (V3.mk c6 0 0) (V3.mk (aV (rat (c.f i).n.x 64)) (aV (rat (c.f i).n.y 64)) (aV (rat (c.f i).n.z 64))) 0) 1000, rat (iZ (V3.mk 0 c6 0) (V3.mk (aV (rat (c.f i).n.x 64)) (aV (rat (c.f i).n.y 64)) (aV (rat (c.f i).n.z 64))) 0) 1000, rat (iZ (V3.mk 0 0 c6) (V3.mk (aV (rat (c.f i).n.x 64)) (aV (rat (c.f i).n.y 64)) (aV (rat (c.f i).n.z 64))) 0) 1000], rat (aV (rat (c.f i).d 64)) 1000]], int i64 (0 : Int)]))))) := ag
theorem WV:bq P Te:=aH (iJ hT (kr v9) hm (aS Proofs.Tryz.func106 ag ag ag) _ _) bC
theorem amq {x r s y w:Nat} (hx:x+10<=y) (hy:y<2^40) (hw:4*s+3*r+10<=w) (hw2:w<2^40):∀K args pre q,OD x r s y w K args pre=some q->aD P EY K args pre q:=cL fun⟨c,m,_⟩ K hn=>ajb hx hy hw hw2 hn.1 hn.2 K
theorem afA:bq P S3:=dg (aH (afE (by decide) (by decide)) (aH (amq (by decide) (by decide) (by decide) (by decide)) WV))
theorem Io:((1:Int):Rat)=1:=rfl
theorem YT {v:V3}:iZ ⟨((1:Int):Rat),0,0⟩ v 0=v.x:=by unfold iZ;rw[Io];dsimp only;grind
theorem YC {v:V3}:iZ ⟨0,((1:Int):Rat),0⟩ v 0=v.y:=by unfold iZ;rw[Io];dsimp only;grind
theorem UQ {v:V3}:iZ ⟨0,0,((1:Int):Rat)⟩ v 0=v.z:=by unfold iZ;rw[Io];dsimp only;grind
theorem JR {c:Cu} {a b:Rat} (h:kj a b≠0):l6 c a b=⟨0,0,fY c.n c.k a b,0,c.f⟩:=by
 have hab:b<=a:=by
  by_cases h2:b<=a
  ·exact h2
  ·exact absurd (if_neg h2) h
 unfold l6 lI;simp only[if_pos hab]
theorem JL {c:Cu} {a b:Rat} (h:kj a b=0):l6 c a b=⟨c.p,c.n,fY c.n c.k a b,c.m,c.f⟩/\lI c.n a b=c.n:=by
 have hab:¬b<=a:=by
  intro h2
  unfold kj at h;rw[if_pos h2]at h;exact absurd h (by decide)
 unfold l6 lI;simp only[if_neg hab];exact⟨trivial,trivial⟩
theorem ae3 {c:Cu} {s r:Nat} (hp:c.p=0) (hn:c.n=0) (hm2:c.m=0):bF (.agg [.int .i64 0,.nil,.nil]) (bQ c s r):=by
 obtain⟨p,n,k,m,f⟩:=c
 dsimp only at hp hn hm2
 subst hp hn hm2
 exact ct ⟨.refl _,ki (by decide),ki (by decide),trivial⟩
theorem YH {c:Cu} {a b:Rat} (hn1:1<=c.n) (hn:c.n<2^30) (hm2:c.m<2^30) (K:Nat):aD P Es K [bQ c 64 64,.rat a 64,.rat b 64] [] (aK (.tuple [bQ (l6 c a b) 1000 1000,.int .i64 (kj a b)]) []):=by
 refine bY (r:=aK (.tuple [bQ (l6 c a b) 1000 1000,.int .i64 (kj a b)]) []) hT afA hm aib rfl aW rfl 60 UU (fun _=>?_) K []
 simp only[ah.all,aA,bne_iff_ne,ne_eq,bne_eq_false_iff_eq]
 refine⟨⟨aa,aa,aa,cz aY,aa,aa,hn1,aa⟩,fun hE=>⟨aa,aa,?_⟩,fun hE=>⟨?_,aa,?_⟩⟩
 ·exact⟨ae3 (by rw[JR hE]) (by rw[JR hE]) (by rw[JR hE]),.refl _,trivial⟩
 ·(repeat' with_reducible refine And.intro ?_ ?_)
  all_goals first|omega|decide|exact cz aY|exact ir aY
 ·obtain⟨e1,e2⟩:=JL (c:=c) hE
  rw[e1,e2,hE]
  exact⟨ct ⟨.refl _,.refl _,fG fun i _=>ct ⟨ct ⟨bX YT aY,bX YC aY,bX UQ aY,trivial⟩,.refl _,trivial⟩,trivial⟩,.refl _,trivial⟩
def Q7:Spec:=cI (kC (gY 64 64) (kC (fL 64) (kC (fL 64) kN))) (fun a=>.tuple [bQ (l6 a.1 a.2.1 a.2.2.1) 1000 1000,.int .i64 (kj a.2.1 a.2.2.1)]) fun a=>[1<=a.1.n,a.1.n<2^30,a.1.m<2^30]
theorem alf:∀K args pre q,Q7 K args pre=some q->aD P Es K args pre q:=cL fun⟨c,a,b,_⟩ K hn=>YH hn.1 hn.2.1 hn.2.2 K
theorem akU {x y f:Rat} (hx:0<x) (hy:0<y) (h0:0<=f) (h1:f<=1):0<x+f*(y-x):=by
 by_cases c:x<=y
 ·have:=Rat.mul_nonneg h0 (show 0<=y-x by grind)
  grind
 ·have:=Rat.mul_nonneg (show 0<=1-f by grind) (show 0<=x-y by grind)
  grind
theorem J7 {n p P:Nat} {k x:Nat->Rat} (hA:At n k P) (w1:p<=P) (w2:P+p+1<n) (hx:∀j,0<x j):∀{E:List Rat} {a c:Nat},E.length+(a+c)=p->(∀d∈E,k (P-a)<=d/\d<=k (P+c+1))->0<bO k p x P (E++aT k (P+1-a) (a+c))
 |[],a,c,hl,_=>by
  have hl:a+c=p:=by simpa using hl
  have:bO k p x P (aT k (P-a+1) p)=x (P-a):=qH hA w1 (by omega) (by omega) (by omega)
  rw[List.nil_append,hl,show P+1-a=P-a+1 by omega,this]
  exact hx _
 |d::E,a,c,hl,hb=>by
  have hl:E.length+1+(a+c)=p:=by simpa using hl
  have hA':At n k (P-p+p):=by rwa [show P-p+p=P by omega]
  obtain⟨b1,b2⟩:=hb d (List.mem_cons_self ..)
  have hlt:k (P-a)<k (P+c+1):=hA.around (by omega) (by omega) (by omega)
  have m1:k (P-(a+1))<=k (P-a):=fK hA.sorted (by omega) (by omega)
  have m2:k (P+c+1)<=k (P+(c+1)+1):=fK hA.sorted (by omega) (by omega)
  have i1:=J7 hA w1 w2 hx (E:=E) (a:=a+1) (c:=c) (by omega) fun e he=>⟨Rat.le_trans m1 (hb e (List.mem_cons_of_mem _ he)).1,(hb e (List.mem_cons_of_mem _ he)).2⟩
  have i2:=J7 hA w1 w2 hx (E:=E) (a:=a) (c:=c+1) (by omega) fun e he=>⟨(hb e (List.mem_cons_of_mem _ he)).1,Rat.le_trans (hb e (List.mem_cons_of_mem _ he)).2 m2⟩
  have hlen:(E++aT k (P+1-a) (a+c)).length+1=p:=by rw[List.length_append,gy];omega
  have p1:(k (P-a)::(E++aT k (P+1-a) (a+c))).Perm (E++aT k (P+1-(a+1)) (a+1+c)):=by
   rw[show P+1-(a+1)=P-a by omega,show a+1+c=a+c+1 by omega,show aT k (P-a) (a+c+1)=k (P-a)::aT k (P-a+1) (a+c)from rfl,show P-a+1=P+1-a by omega]
   exact List.perm_middle.symm
  have p2:(k (P+c+1)::(E++aT k (P+1-a) (a+c))).Perm (E++aT k (P+1-a) (a+(c+1))):=by
   rw[show a+(c+1)=a+c+1 by omega,vP,show P+1-a+(a+c)=P+c+1 by omega,<-List.append_assoc]
   exact List.perm_append_comm (l₁:=[k (P+c+1)])
  have q1:bO k p x P (k (P-a)::(E++aT k (P+1-a) (a+c)))=_:=pz hA' (by omega) p1 (by rw[List.length_cons];omega)
  have q2:bO k p x P (k (P+c+1)::(E++aT k (P+1-a) (a+c)))=_:=pz hA' (by omega) p2 (by rw[List.length_cons];omega)
  have key:=EU (k:=k) (b:=P-p) (x:=fun q=>x (P-p+q)) (u:=k (P-a)) (v:=k (P+c+1)) (f:=fr (k (P-a)) (k (P+c+1)) d) hlen
  rw[Bf hlt]at key
  show 0<bO k p x P (d::(E++aT k (P+1-a) (a+c)))
  have key:bO k p x P (d::(E++aT k (P+1-a) (a+c)))=bO k p x P (k (P-a)::(E++aT k (P+1-a) (a+c)))+fr (k (P-a)) (k (P+c+1)) d*(bO k p x P (k (P+c+1)::(E++aT k (P+1-a) (a+c)))-bO k p x P (k (P-a)::(E++aT k (P+1-a) (a+c)))):=key
  rw[key,q1,q2]
  exact akU i1 i2 (Nq hlt b1) (MP hlt b2)
inductive lU (k:Nat->Rat) (P:Nat):List Rat->Nat->Prop
 |nil:lU k P [] 0
 |blk {l:List Rat} {c:Nat}:lU k P l c->lU k P (k (P+c+1)::l) (c+1)
 |dup {l:List Rat} {c:Nat} {d:Rat}:lU k P l c->k P<=d->d<=k (P+c+1)->lU k P (d::l) c
theorem lU.le {k:Nat->Rat} {P c:Nat} {l:List Rat} (h:lU k P l c):c<=l.length:=by
 induction h with
 |nil=>exact Nat.le_refl _
 |blk _ ih=>rw[List.length_cons];omega
 |dup _ _ _ ih=>rw[List.length_cons];omega
theorem lU.split {n P:Nat} {k:Nat->Rat} (hs:∀i,i+1<n->k i<=k (i+1)) {l:List Rat} {c:Nat} (h:lU k P l c):P+l.length+1<n->∃E:List Rat,l.Perm (E++aT k (P+1) c)/\∀d∈E,k P<=d/\d<=k (P+c+1):=by
 induction h with
 |nil=>exact fun _=>⟨[],.refl _,fun d hd=>by simp at hd⟩
 |@blk l c hl ih=>
  intro hn
  rw[List.length_cons]at hn
  have:=hl.le
  obtain⟨E,h1,h2⟩:=ih (by omega)
  refine⟨E,?_,fun d hd=>⟨(h2 d hd).1,Rat.le_trans (h2 d hd).2 (fK hs (by omega) (by omega))⟩⟩
  rw[vP,show P+1+c=P+c+1 by omega,<-List.append_assoc]
  exact(h1.cons _).trans (List.perm_append_comm (l₁:=[k (P+c+1)]))
 |@dup l c d hl d1 d2 ih=>
  intro hn
  rw[List.length_cons]at hn
  obtain⟨E,h1,h2⟩:=ih (by omega)
  refine⟨d::E,h1.cons _,fun e he=>?_⟩
  rcases List.mem_cons.1 he with rfl|he
  ·exact⟨d1,d2⟩
  ·exact h2 e he
theorem lU.pos {n p P c:Nat} {k x:Nat->Rat} {l:List Rat} (hA:At n k P) (w1:p<=P) (w2:P+p+1<n) (hx:∀j,0<x j) (h:lU k P l c) (hl:l.length=p):0<bO k p x P l:=by
 obtain⟨E,h1,h2⟩:=h.split hA.sorted (by omega)
 have hA':At n k (P-p+p):=by rwa [show P-p+p=P by omega]
 have e:bO k p x P l=bO k p x P (E++aT k (P+1) c):=pz hA' (by omega) h1 (by omega)
 have hlen:=h1.length_eq
 rw[List.length_append,gy]at hlen
 have:=J7 hA w1 w2 hx (E:=E) (a:=0) (c:=c) (by omega) h2
 rw[e]
 rwa [Nat.zero_add]at this
def Src (k:Nat->Rat) (n Q i:Nat):Prop:=i<n/\i+bK k n i<=Q/\Q<i+1+bK k n (i+1)
theorem Src.val {k:Nat->Rat} {n Q i:Nat} (h:Src k n Q i):bg k n n Q=k i:=lf h.1 h.2.1 h.2.2
theorem Src.next {k:Nat->Rat} {n Q i:Nat} (h:Src k n Q i) (hQ:Q+1<n+bK k n n):Src k n (Q+1) i\/(Src k n (Q+1) (i+1)/\Q+1=i+1+bK k n (i+1)):=by
 obtain⟨h1,h2,h3⟩:=h
 by_cases c:Q+1<i+1+bK k n (i+1)
 ·exact .inl ⟨h1,by omega,c⟩
 ·have hlt:i+1<n:=by
   by_cases e:i+1<n
   ·exact e
   ·have:i+1=n:=by omega
    rw[this]at c
    omega
  have:=(oc (k:=k) (n:=n) (i:=i+1)).1
  exact .inr ⟨⟨hlt,by omega,by omega⟩,by omega⟩
theorem Src.last {k:Nat->Rat} {n Q i:Nat} (h:Src k n Q i) (hQ:Q+2<n+bK k n n) (hw:bg k n n (Q+1)≠bg k n n (Q+2)):Src k n (Q+1) i:=by
 rcases h.next (by omega)with h|⟨h,e⟩
 ·exact h
 ·exfalso
  have hv:=h.val
  obtain⟨h1,h2,h3⟩:=id h
  by_cases c:i+1+1=n\/k (i+1)≠k (i+1+1)
  ·have:=tL (k:=k) c
   exact hw (by rw[hv];exact(lf (k:=k) h1 (by omega) (by omega)).symm)
  ·have hg:=wB (k:=k) c
   have h4:k (i+1)=k (i+1+1):=Classical.not_not.1 fun g=>c (.inr g)
   have:=(oc (k:=k) (n:=n) (i:=i+1+1)).1
   exact hw (by rw[hv,h4];exact(lf (k:=k) (i:=i+1+1) (by omega) (by omega) (by omega)).symm)
def dY (f:Nat->Rat) (j i r:Nat):Rat:=if r<i then f (j+1+r)else f (j+2+r)
theorem aft {f:Nat->Rat} {j i:Nat} (h:f (j+1+i)=f (j+2+i)):dY f j i=dY f j (i+1):=by
 funext r
 unfold dY
 by_cases c:r<i
 ·rw[if_pos c,if_pos (by omega)]
 ·by_cases c2:r=i
  ·subst c2;rw[if_neg (by omega),if_pos (by omega),h]
  ·rw[if_neg c,if_neg (by omega)]
theorem J8 {n p P j s i:Nat} {k:Nat->Rat} (hA:At n k P) (w2:P+p+1<n) (hP:Src k n s P) (hjs:j<=s) (hj:j+p+2<n+bK k n n) (hflat:∀u,j<=u->u<=s->bg k n n u=bg k n n s) (hlast:i=p\/(i<p/\bg k n n (j+1+i)≠bg k n n (j+2+i))):
  ∀{t:Nat},t<=p+1->(i=p->t<=p)->∃c,lU k P (iB (dY (bg k n n) j i) 0 (if t<=i then t else t-1)) c/\(j+t<=s->c=0)/\(s<=j+t->Src k n (j+t) (P+c))
 |0,_,_=>⟨0,by rw[if_pos (Nat.zero_le _)];exact .nil,fun _=>rfl,fun h=>by rwa [show j+0=s by omega]⟩
 |t+1,ht,hti=>by
  obtain⟨c,c1,c2,c3⟩:=J8 hA w2 hP hjs hj hflat hlast (t:=t) (by omega) fun h=>by have:=hti h;omega
  have hs:=hA.sorted
  by_cases hd:t=i
  ·subst hd
   rw[if_pos (Nat.le_refl _)]at c1
   refine⟨c,by rw[if_neg (by omega)];exact c1,fun h=>c2 (by omega),fun h=>?_⟩
   by_cases h2:j+(t+1)<=s
   ·rw[show j+(t+1)=s by omega,c2 (by omega)];exact hP
   ·rcases hlast with h3|⟨h3,h4⟩
    ·have:=hti h3;omega
    ·have:=(c3 (by omega)).last (by omega) (by rw[show j+t+1=j+1+t by omega,show j+t+2=j+2+t by omega];exact h4)
     rwa [show j+(t+1)=j+t+1 by omega]
  ·have hcl:=c1.le
   have hl:(iB (dY (bg k n n) j i) 0 (if t<=i then t else t-1)).length<=p:=by
    rw[oE.length_eq,gy]
    split<;>omega
   have e:iB (dY (bg k n n) j i) 0 (if t+1<=i then t+1 else t+1-1)=bg k n n (j+t+1)::iB (dY (bg k n n) j i) 0 (if t<=i then t else t-1):=by
    by_cases h:t<i
    ·rw[if_pos (by omega),if_pos (by omega),iB]
     congr 1
     unfold dY
     rw[if_pos (by omega)]
     congr 1;omega
    ·obtain⟨u,rfl⟩:∃u,t=u+1:=⟨t-1,by omega⟩
     rw[if_neg (by omega),if_neg (by omega),show u+1+1-1=u+1 by omega,show u+1-1=u by omega,iB]
     congr 1
     unfold dY
     rw[if_neg (by omega)]
     congr 1;omega
   rw[e]
   by_cases h2:j+(t+1)<=s
   ·have hv:bg k n n (j+t+1)=k P:=by rw[hflat (j+t+1) (by omega) (by omega)];exact hP.val
    rw[hv]
    have h0:=c2 (by omega)
    refine⟨c,.dup c1 Rat.le_refl (fK hs (by omega) (by omega)),fun _=>h0,fun h=>?_⟩
    rw[show j+(t+1)=s by omega,h0];exact hP
   ·rcases(c3 (by omega)).next (by omega)with h|⟨h,_⟩
    ·rw[h.val]
     exact⟨c,.dup c1 (fK hs (by omega) (by omega)) (fK hs (by omega) (by omega)),fun h=>by omega,fun _=>h⟩
    ·rw[h.val]
     exact⟨c+1,.blk c1,fun h=>by omega,fun _=>h⟩
theorem L8 {n p P j s i:Nat} {k x:Nat->Rat} (hA:At n k P) (w1:p<=P) (w2:P+p+1<n) (hx:∀j,0<x j) (hP:Src k n s P) (hjs:j<=s) (hj:j+p+2<n+bK k n n) (hflat:∀u,j<=u->u<=s->bg k n n u=bg k n n s) (hlast:i=p\/(i<p/\bg k n n (j+1+i)≠bg k n n (j+2+i))):0<bO k p x P (aT (dY (bg k n n) j i) 0 p):=by
 have hA':At n k (P-p+p):=by rwa [show P-p+p=P by omega]
 have go:∀{l:List Rat} {c:Nat},lU k P l c->l.Perm (aT (dY (bg k n n) j i) 0 p)->0<bO k p x P (aT (dY (bg k n n) j i) 0 p):=fun {l c} h hp=>by
  have hl:=hp.length_eq
  rw[gy]at hl
  have e:bO k p x P l=bO k p x P (aT (dY (bg k n n) j i) 0 p):=pz hA' (by omega) hp (by omega)
  rw[<-e]
  exact h.pos hA w1 w2 hx hl
 by_cases e:i=p
 ·obtain⟨c,c1,_⟩:=J8 hA w2 hP hjs hj hflat hlast (t:=p) (by omega) fun _=>Nat.le_refl _
  rw[if_pos (by omega)]at c1
  exact go c1 oE
 ·obtain⟨c,c1,_⟩:=J8 hA w2 hP hjs hj hflat hlast (t:=p+1) (by omega) fun h=>absurd h e
  rw[if_neg (by omega),Nat.add_sub_cancel]at c1
  exact go c1 oE
theorem QZ {n p P j s:Nat} {k x:Nat->Rat} (hA:At n k P) (w1:p<=P) (w2:P+p+1<n) (hx:∀j,0<x j) (hP:Src k n s P) (hjs:j<=s) (hj:j+p+2<n+bK k n n) (hflat:∀u,j<=u->u<=s->bg k n n u=bg k n n s):∀{d i:Nat},i+d=p->0<bO k p x P (aT (dY (bg k n n) j i) 0 p)
 |0,i,hi=>L8 hA w1 w2 hx hP hjs hj hflat (.inl (by omega))
 |d+1,i,hi=>by
  by_cases c:bg k n n (j+1+i)=bg k n n (j+2+i)
  ·rw[aft c];exact QZ hA w1 w2 hx hP hjs hj hflat (d:=d) (by omega)
  ·exact L8 hA w1 w2 hx hP hjs hj hflat (.inr ⟨by omega,c⟩)
section
variable {k:Nat->Rat} {b p:Nat}
end
end Go.Am.B
namespace Go.Am.B
open Go Go.Am.N AV ah aq IntKind
theorem K8 {n:Nat} {k:Nat->Rat} (hs:∀i,i+1<n->k i<=k (i+1)):∀{d i:Nat},k i<k (i+d)->i+d<n->i<=er k n i/\er k n i<i+d/\k (er k n i)<k (er k n i+1)/\∀u,i<=u->u<=er k n i->k u=k (er k n i)
 |0,i,h,_=>absurd h Rat.lt_irrefl
 |d+1,i,h,hn=>by
  by_cases c:k (i+1)<=k i
  ·have e:k (i+1)=k i:=Rat.le_antisymm c (hs i aa)
   have:=K8 hs (d:=d) (i:=i+1) (by rw[e,show i+1+d=i+(d+1) by omega];exact h) aa
   rw[TO aa c]
   obtain⟨g1,g2,g3,g4⟩:=this
   refine⟨aa,aa,g3,fun u h1 h2=>?_⟩
   by_cases e2:u=i
   ·rw[e2,<-e];exact g4 _ aa g1
   ·exact g4 u aa h2
  ·rw[JA (fun g=>c g.2)]
   exact⟨aY,aa,Rat.not_le.1 c,fun u h1 h2=>by rw[show u=i by omega]⟩
theorem Sb {c:Cu} {P e:Nat} {g:Nat->Rat} (hc:Kn c.n c.p.toNat c.k) (hp1:1<=c.p) (hm2:(c.m:Int)=(c.n:Int)-c.p-1) (hA:At c.n c.k P):
  ga c (P:Nat) c.p.toNat g e=bO c.k c.p.toNat (fun i=>bW (c.f i) e) P (aT g 0 c.p.toNat):=by
 obtain⟨w1,w2⟩:=hc.jZ hA
 have hw:=hA.wide
 have hE:gZ c.n c.k c.p.toNat c.m c.p.toNat (P:Nat)=0:=wW aa rfl (by
  rw[aZ]
  rintro(h|h|h)
  ·omega
  ·omega
  ·exact absurd h (Rat.not_le.2 hw))
 unfold ga lN
 rw[if_pos hE,aZ,yw];rfl
theorem Po {f:Rat} {x:Nat->Pl} (hf:0<f):∀{r:Nat},(∀i,i<r+1->0<(x i).d)->0<(iH f x (r+1)).d
 |0,h=>by
  have:=Rat.mul_pos hf (h 0 aa)
  show 0<0+f*(x 0).d
  grind
 |r+1,h=>by
  have:=Po hf (x:=x) (r:=r) fun i hi=>h i aa
  have:=Rat.mul_pos hf (h (r+1) aa)
  rw[show(iH f x (r+1+1)).d=(iH f x (r+1)).d+f*(x (r+1)).d from rfl]
  grind
theorem LH {c:Cu} {j:Nat} (hc:dx c) (hw:∀i,0<(c.f i).d) (hj:j<(gr (b9 c)).m):0<((gr (b9 c)).f j).d:=by
 obtain⟨k1,k2,k3,k4,k5⟩:=id hc
 obtain⟨p,hp⟩:∃p,p=c.p.toNat:=⟨_,rfl⟩
 have hj:j<pP (b9 c)-(c.p.toNat+1)-1:=hj
 rw[<-hp]at hj
 have hN:pP (b9 c)=c.n+bK c.k c.n c.n:=rfl
 have hK:Kn (c.n+bK c.k c.n c.n) (p+1) (bg c.k c.n c.n):=by rw[hp];exact oW k1
 rw[hN]at hj
 have hsup:=hK.yp (j:=j) aa
 obtain⟨g1,g2,g3,g4⟩:=K8 hK.sorted hsup aa
 obtain⟨s,hs⟩:∃s,s=er (bg c.k c.n c.n) (c.n+bK c.k c.n c.n) j:=⟨_,rfl⟩
 rw[<-hs]at g1 g2 g3 g4
 obtain⟨P,hP⟩:∃P,Src c.k c.n s P:=by
  obtain⟨i,h1,h2,h3⟩:=yT (k:=c.k) (n:=c.n) (Q:=s) (m:=c.n) aa
  exact⟨i,h1,h2,h3⟩
 have hv:=hP.val
 have hA:At c.n c.k P:=by
  rcases hP.next aa with h|⟨h,_⟩
  ·rw[h.val,hv]at g3;exact absurd g3 Rat.lt_irrefl
  ·rw[h.val,hv]at g3;exact⟨h.1,k1.sorted,g3⟩
 obtain⟨w1,w2⟩:=k1.jZ hA
 have hI:fH c.n c.k (bg c.k c.n c.n s)=P:=by
  rw[hv]
  unfold fH
  rw[if_neg,zY hA]
  rintro(h|h)
  ·exact absurd (k1.mono (Nat.zero_le P) (by have:=hA.lt;omega)) (Rat.not_le.2 h)
  ·exact absurd (k1.mono (show P<=c.n-1 by omega) aa) (Rat.not_le.2 h)
 show 0<(iH _ (nq (b9 c) (fH c.n c.k (bg c.k c.n c.n (er (bg c.k c.n c.n) (c.n+bK c.k c.n c.n) j))) (c.p.toNat+1) (bg c.k c.n c.n) j) (c.p.toNat+1)).d
 rw[<-hs,hI]
 refine Po ?_ fun i hi=>?_
 ·show 0<((1:Int):Rat)/((c.p+1:Int):Rat)
  rw[Rat.div_def]
  exact Rat.mul_pos (by decide) (Rat.inv_pos.2 (by exact_mod_cast (show(0:Int)<c.p+1 by omega)))
 ·show 0<ga (b9 c) (P:Nat) (c.p.toNat+1-1) (fun u=>ju (fun v=>bg c.k c.n c.n (v+(j+1))) i (c.p.toNat+1) u) 3
  rw[Nat.add_sub_cancel,Sb (c:=b9 c) k1 k2 k5 hA]
  have:=QZ (p:=p) (x:=fun q=>(c.f q).d) hA aa aa hw hP g1 aa g4 (d:=p-i) (i:=i) aa
  have e:aT (fun u=>ju (fun v=>bg c.k c.n c.n (v+(j+1))) i (c.p.toNat+1) u) 0 p=aT (dY (bg c.k c.n c.n) j i) 0 p:=r5 fun u h1 h2=>by
   unfold ju dY
   rw[if_neg aa]
   by_cases c:u<i
   ·rw[if_neg aa,if_pos c,<-Nat.add_comm u (j+1)]
   ·rw[if_pos aa,if_neg c,<-show u+1+(j+1)=j+2+u by omega]
  rw[<-hp]at*
  show 0<bO c.k p (fun q=>(c.f q).d) P _
  rw[e]
  exact this
theorem XY {n p i:Nat} {k:Nat->Rat} (h:Kn n p k) (hi:i+1<n+bK k n n) (hw:bg k n n i<bg k n n (i+1)):At n k (fH n k (bg k n n i)):=by
 have hl:=h.len
 obtain⟨a,a1,a2,a3⟩:=yT (k:=k) (n:=n) (Q:=i) (m:=n) aa
 have v:bg k n n i=k a:=lf a1 a2 a3
 have hA:At n k a:=by
  by_cases c:i+1<a+1+bK k n (a+1)
  ·rw[v,lf (q:=i+1) a1 aa c]at hw
   exact absurd hw Rat.lt_irrefl
  ·have hlt:a+1<n:=by
    by_cases e:a+1<n
    ·exact e
    ·have:a+1=n:=aa
     rw[this]at c
     omega
   have:=(oc (k:=k) (n:=n) (i:=a+1)).1
   rw[v,lf (q:=i+1) hlt aa aa]at hw
   exact⟨hlt,h.sorted,hw⟩
 have hlt:=hA.lt
 rw[v]
 unfold fH
 rw[if_neg,zY hA]
 ·exact hA
 ·rintro(g|g)
  ·exact absurd (h.mono (Nat.zero_le a) aa) (Rat.not_le.2 g)
  ·exact absurd (h.mono (show a<=n-1 by omega) aa) (Rat.not_le.2 g)
def lz (x:Rat):Prop:=∃z:Int,x=(z:Rat)/2/\-4<=z/\z<=28
theorem Ef {z:Int}:(z:Rat)/2*55440=((27720*z:Int):Rat):=by
 rw[Rat.intCast_mul,Rat.div_def,show((27720:Int):Rat)=(2:Rat)⁻¹*55440 by decide+kernel];grind
theorem lz.Yc {x:Rat} (h:lz x):dD x:=by
 obtain⟨z,e,h1,h2⟩:=h
 exact⟨27720*z,by rw[e,Ef],aa,aa⟩
theorem QL {n m:Nat} {f:Nat->AV} {a d:Int} {b:Bool} (h:dr n f a) (hd:1<=d) (hm4:m<=4) (i:Nat):lz ((gN n f a d m b).k i):=by
 have a1:=jb (n:=n) (f:=f) (a:=a) (m:=d) aa
 have hJ:=KO (n:=n) (f:=f) (a:=bP n a) (m:=m)
 have hp:1<=kA n f a d:=by unfold kA;omega
 obtain⟨z,e,h1,h2⟩:=(xg (p:=kA n f a d) h.next hp (kK n f (bP n a) m)).1.Tx i
 exact⟨z,e,h1,aa⟩
theorem ZZ {x y:Int} {k:Nat} (hx:x.natAbs<2^k) (hy:y≠0) (hy2:y.natAbs<2^k):Sz ((x:Rat)/(y:Rat)) k:=by
 rw[<-FP hy];exact DS aa hx hy2
theorem K1 {n:Nat} {f:Nat->AV} {a:Int}:Sz (hU n f a) 3:=by
 have a1:=jb (n:=n) (f:=f) (a:=a) (m:=13) aa
 have a2:=jn (n:=n) (f:=f) (a:=a) (m:=13) aa
 have b1:=jb (n:=n) (f:=f) (a:=bP n (bP n a)) (m:=4) aa
 have b2:=jn (n:=n) (f:=f) (a:=bP n (bP n a)) (m:=4) aa
 unfold hU
 split
 ·exact ZZ aa aa aa
 ·exact nr aa (by decide)
theorem aam {n m:Nat} {f:Nat->AV} {a d:Int} (h:dr n f a) (hd:1<=d) (hd6:d<=6) (hm4:m<=4):dm (gN n f a d m false) 5:=by
 obtain⟨k1,k2,k3,k4,k5,k6⟩:=Pp (m:=m) (b:=false) h hd
 have hw:∀i,Sz ((gN n f a d m false).f i).d 2:=fun i=>by
  have b1:=jb (n:=n) (f:=f) (a:=kG n f (j3 n f (mT n f a d m) i)) (m:=3) aa
  have b2:=jn (n:=n) (f:=f) (a:=kG n f (j3 n f (mT n f a d m) i)) (m:=3) aa
  exact nr (x:=1+dz n f (kG n f (j3 n f (mT n f a d m) i)) 3) (n:=2) aa (by decide)
 refine⟨⟨k1,k2,aa,aa,k4⟩,fun i=>?_,fun i=>(QL h hd hm4 i).Yc,fun i=>?_,fun i=>?_,fun i=>?_,fun i=>(hw i).more (by decide)⟩
 ·have:=(k6 i).1
  grind
 ·exact(hw i).mul K1
 ·exact(hw i).mul K1
 ·have hz:((gN n f a d m false).f i).n.z=hU n f (gO n f (gO n f (j3 n f (mT n f a d m) i))):=rfl
  show Sz (((gN n f a d m false).f i).d*((gN n f a d m false).f i).n.z) 5
  rw[hz]
  exact(hw i).mul K1
theorem aaL {d:Int}:∃q:Int,iX d*27720=(q:Rat)/\0<=q/\q<=27720:=by
 have hv0:=Int.emod_nonneg (i64.wrap (d.tdiv 17)) (show(12:Int)≠0 by omega)
 have hv1:=Int.emod_lt_of_pos (i64.wrap (d.tdiv 17)) (show(0:Int)<12 by omega)
 obtain⟨v,hv⟩:∃v,v=qJ d:=⟨_,rfl⟩
 have hv2:1<=v/\v<=12:=by rw[hv];unfold qJ;omega
 have hu0:=Int.emod_nonneg d (show v+1≠0 by omega)
 have hu1:=Int.emod_lt_of_pos d (show 0<v+1 by omega)
 unfold iX
 rw[<-hv]
 generalize d%(v+1)=u at*
 obtain⟨w,hw⟩:∃w:Int,v*w=27720:=by
  rcases(show v=1\/v=2\/v=3\/v=4\/v=5\/v=6\/v=7\/v=8\/v=9\/v=10\/v=11\/v=12 by omega)with h|h|h|h|h|h|h|h|h|h|h|h<;>subst h
  ·exact⟨27720,rfl⟩
  ·exact⟨13860,rfl⟩
  ·exact⟨9240,rfl⟩
  ·exact⟨6930,rfl⟩
  ·exact⟨5544,rfl⟩
  ·exact⟨4620,rfl⟩
  ·exact⟨3960,rfl⟩
  ·exact⟨3465,rfl⟩
  ·exact⟨3080,rfl⟩
  ·exact⟨2772,rfl⟩
  ·exact⟨2520,rfl⟩
  ·exact⟨2310,rfl⟩
 have hw0:0<=w:=by
  by_cases c:0<=w
  ·exact c
  ·have:=Int.mul_le_mul_of_nonneg_left (show w<=-1 by omega) (show 0<=v by omega)
   omega
 refine⟨u*w,?_,Int.mul_nonneg hu0 hw0,?_⟩
 ·have hvr:(v:Rat)≠0:=by
   intro e
   have:v=0:=Rat.intCast_inj.1 (e:(v:Rat)=((0:Int):Rat))
   omega
  have e:(27720:Rat)=(v:Rat)*(w:Rat):=by rw[<-Rat.intCast_mul,hw];rfl
  rw[e,Rat.intCast_mul,Rat.div_def]
  have:(u:Rat)*(v:Rat)⁻¹*((v:Rat)*(w:Rat))=(u:Rat)*(((v:Rat)*(v:Rat)⁻¹)*(w:Rat)):=by grind
  rw[this,Rat.mul_inv_cancel _ hvr,Rat.one_mul]
 ·have:=Int.mul_le_mul_of_nonneg_right (show u<=v by omega) hw0
  omega
theorem Pk {x y:Rat} {d:Int} (hx:lz x) (hy:lz y) (hxy:x<=y):dD (x+iX d*(y-x)):=by
 obtain⟨z0,e0,a1,a2⟩:=hx
 obtain⟨z1,e1,b1,b2⟩:=hy
 obtain⟨q,hq,q1,q2⟩:=aaL (d:=d)
 have o:27720*z0<=27720*z1:=dD.order (by rw[<-Ef,e0]) (by rw[<-Ef,e1]) hxy
 have n1:=Int.mul_nonneg q1 (show 0<=z1-z0 by omega)
 have n2:=Int.mul_le_mul_of_nonneg_right q2 (show 0<=z1-z0 by omega)
 refine⟨27720*z0+q*(z1-z0),?_,aa,aa⟩
 rw[Rat.intCast_add,Rat.intCast_mul q,Rat.intCast_sub,<-hq,<-Ef,e0,e1]
 have e2:(z0:Rat)/2=(z0:Rat)*(1/2):=by rw[Rat.div_def,show((2:Rat)⁻¹)=1/2 by decide+kernel]
 have e3:(z1:Rat)/2=(z1:Rat)*(1/2):=by rw[Rat.div_def,show((2:Rat)⁻¹)=1/2 by decide+kernel]
 rw[e2,e3]
 grind
open Go
def LQ:Int:=144403552893600
theorem ack:∀v:Nat,v<33->v≠0->v∣144403552893600:=by decide
theorem HA {v:Int} (h:v.natAbs<33) (h0:v≠0):∃w:Int,LQ=v*w/\w.natAbs<=144403552893600:=by
 obtain⟨w,e⟩:=ack v.natAbs h aa
 have hw:w<=144403552893600:=by
  rw[e];exact Nat.le_mul_of_pos_left _ aa
 rcases Int.natAbs_eq v with g|g
 ·refine⟨w,?_,by simpa using hw⟩
  rw[g]
  show(144403552893600:Int)=((v.natAbs:Nat):Int)*((w:Nat):Int)
  rw[<-Int.natCast_mul,<-e];rfl
 ·refine⟨-(w:Int),?_,by simpa using hw⟩
  rw[g]
  show(144403552893600:Int)=-((v.natAbs:Nat):Int)*(-((w:Nat):Int))
  rw[Int.neg_mul_neg,<-Int.natCast_mul,<-e];rfl
def ke (t:Rat):Prop:=∃z:Int,t=(z:Rat)/2/\-4<=z/\z<=28
def eR (r:Nat) (x:Rat):Prop:=∃z:Int,(z:Rat)=x*((LQ^(r+1):Int):Rat)/\z.natAbs<=2^(53+54*r)
theorem aha {r:Nat}:((LQ^r:Int):Rat)≠0:=fun h=>by
 have h:((LQ^r:Int):Rat)=((0:Int):Rat):=h
 have:=Rat.intCast_inj.1 h
 exact absurd this (Int.pow_ne_zero (by decide))
theorem eR.sz {r:Nat} {x:Rat} (h:eR r x):Sz x (102+102*r):=by
 obtain⟨z,e,b⟩:=h
 have hx:x=(z:Rat)/((LQ^(r+1):Int):Rat):=by rw[e,Rat.div_def,Rat.mul_assoc,Rat.mul_inv_cancel _ aha,Rat.mul_one]
 rw[hx]
 have s1:Sz (z:Rat) (54+54*r):=nr (Nat.lt_of_le_of_lt b (Nat.pow_lt_pow_right (by decide) aa)) aa
 have s2:Sz ((LQ^(r+1):Int):Rat) (48*(r+1)):=nr (by
  rw[Int.natAbs_pow,Nat.pow_mul]
  exact Nat.pow_lt_pow_left (by decide) aa) aa
 exact(s1.div s2).more aa
theorem eR.up {r:Nat} {x:Rat} (h:eR r x):eR (r+1) x:=by
 obtain⟨z,e,b⟩:=h
 refine⟨z*LQ,?_,?_⟩
 ·rw[Rat.intCast_mul,e,Int.pow_succ LQ (r+1),Rat.intCast_mul,Rat.mul_assoc]
 ·rw[Int.natAbs_mul,show 53+54*(r+1)=(53+54*r)+54 by omega,Nat.pow_add]
  exact Nat.mul_le_mul b (by decide)
theorem eR.Fe {x:Rat} (h:Sz x 5):eR 0 x:=by
 obtain⟨h1,h2⟩:=h
 obtain⟨w,e,hw⟩:=HA (v:=(x.den:Int)) (by simpa using by omega) (by have:=x.den_nz;omega)
 refine⟨x.num*w,?_,?_⟩
 ·rw[show LQ^(0+1)=(x.den:Int)*w by rw[<-e];rfl,Rat.intCast_mul,Rat.intCast_mul,<-Rat.mul_assoc]
  congr 1
  have hd:((x.den:Int):Rat)≠0:=by exact_mod_cast x.den_nz
  have hx:x=(x.num:Rat)/((x.den:Int):Rat):=by rw[<-Rat.divInt_eq_div,Rat.num_divInt_den]
  have key:x*((x.den:Int):Rat)=(x.num:Rat):=by
   conv=>lhs;lhs;rw[hx]
   exact Rat.div_mul_cancel hd
  exact key.symm
 ·rw[Int.natAbs_mul]
  exact Nat.le_trans (Nat.mul_le_mul (show x.num.natAbs<=32 by omega) hw) (by decide)
theorem eR.mix {r:Nat} {x y a b t:Rat} (ha:ke a) (hb:ke b) (ht:ke t) (hx:eR r x) (hy:eR r y):eR (r+1) (x+fr a b t*(y-x)):=by
 obtain⟨za,a1,a2,a3⟩:=ha
 obtain⟨zb,b1,b2,b3⟩:=hb
 obtain⟨zt,t1,t2,t3⟩:=ht
 have e1:b-a=((zb-za:Int):Rat)/2:=by rw[a1,b1,Rat.intCast_sub,Rat.div_def,Rat.div_def,Rat.div_def];grind
 have e2:t-a=((zt-za:Int):Rat)/2:=by rw[a1,t1,Rat.intCast_sub,Rat.div_def,Rat.div_def,Rat.div_def];grind
 by_cases hv:zb-za=0
 ·have:fr a b t=0:=by
   unfold fr
   rw[e1,hv,Rat.div_def,show((0:Int):Rat)/2=0 by decide+kernel,Rat.inv_zero,Rat.mul_zero]
  rw[this,Rat.zero_mul,Rat.add_zero]
  exact hx.up
 ·have hvq:((zb-za:Int):Rat)≠0:=fun h=>hv (Rat.intCast_inj.1 (show((zb-za:Int):Rat)=((0:Int):Rat)from h))
  have hf:fr a b t*((zb-za:Int):Rat)=((zt-za:Int):Rat):=by
   unfold fr
   have hn:b-a≠0:=by
    rw[e1]
    intro h
    apply hvq
    have:((zb-za:Int):Rat)=((zb-za:Int):Rat)/2*2:=by rw[Rat.div_mul_cancel (by decide)]
    rw[this,h,Rat.zero_mul]
   have h2:((zb-za:Int):Rat)=(b-a)*2:=by rw[e1,Rat.div_mul_cancel (by decide)]
   have h3:((zt-za:Int):Rat)=(t-a)*2:=by rw[e2,Rat.div_mul_cancel (by decide)]
   rw[h2,h3,<-Rat.mul_assoc,Rat.div_mul_cancel hn]
  obtain⟨w,hw,wb⟩:=HA (v:=zb-za) aa hv
  obtain⟨zx,x1,x2⟩:=hx
  obtain⟨zy,y1,y2⟩:=hy
  refine⟨zx*LQ+(zt-za)*w*(zy-zx),?_,?_⟩
  ·have hL:fr a b t*(LQ:Rat)=(((zt-za)*w:Int):Rat):=by
    rw[hw,Rat.intCast_mul,Rat.intCast_mul,<-Rat.mul_assoc,hf]
   rw[Rat.intCast_add,Rat.intCast_mul,Rat.intCast_mul ((zt-za)*w),<-hL,Rat.intCast_sub,x1,y1,Int.pow_succ LQ (r+1),Rat.intCast_mul]
   generalize ((LQ^(r+1):Int):Rat)=m
   generalize (LQ:Rat)=l
   generalize fr a b t=f
   grind
  ·have c1:(zy-zx).natAbs<=2^(53+54*r)+2^(53+54*r):=aa
   have c2:((zt-za)*w).natAbs<=32*144403552893600:=by
    rw[Int.natAbs_mul];exact Nat.mul_le_mul aa wb
   have c3:((zt-za)*w*(zy-zx)).natAbs<=32*144403552893600*(2^(53+54*r)+2^(53+54*r)):=by
    rw[Int.natAbs_mul];exact Nat.mul_le_mul c2 c1
   have c4:(zx*LQ).natAbs<=2^(53+54*r)*144403552893600:=by
    rw[Int.natAbs_mul];exact Nat.mul_le_mul x2 aY
   have c5:=Int.natAbs_add_le (zx*LQ) ((zt-za)*w*(zy-zx))
   rw[show 53+54*(r+1)=(53+54*r)+54 by omega,Nat.pow_add]
   generalize 2^(53+54*r)=B at*
   omega
theorem Lm {k:Nat->Rat} {b p:Nat} (hk:∀i,ke (k i)):∀{l:List Rat} {r s:Nat} {x:Nat->Rat},(∀t∈l,ke t)->(∀j,eR s (x j))->∀j,eR (s+l.length) (bl k b p r x l j)
 |[],_,_,_,_,hx,j=>hx j
 |t::l,r,s,x,hl,hx,j=>by
  rw[bl,List.length_cons,show s+(l.length+1)=s+1+l.length by omega]
  refine Lm hk (fun u hu=>hl u (List.mem_cons_of_mem _ hu)) (fun q=>?_) j
  unfold gD
  split
  ·exact(hx _).mix (hk _) (hk _) (hl t (List.mem_cons_self ..)) (hx _)
  ·exact(hx _).up
theorem Pw {k x:Nat->Rat} {p P:Nat} {l:List Rat} (hk:∀i,ke (k i)) (hl:∀t∈l,ke t) (hx:∀j,eR 0 (x j)):eR l.length (bO k p x P l):=by
 have:=Lm (b:=P-p) (p:=p) (r:=0) hk hl (fun j=>hx (P-p+j)) p
 rwa [Nat.zero_add]at this
theorem Ox {f:Nat->Rat} {C:Rat->Prop} (h:∀i,C (f i)):∀{l a:Nat},∀t∈aT f a l,C t
 |0,_,t,ht=>by simp[aT]at ht
 |l+1,a,t,ht=>by
  rw[aT,List.mem_cons]at ht
  rcases ht with rfl|ht
  ·exact h a
  ·exact Ox h t ht
def mD (r n:Nat) (x:Rat):Prop:=∃z:Int,(z:Rat)=x*((LQ^(r+2):Int):Rat)/\z.natAbs<=n*(2^48*2^(53+54*r))
theorem mD.zero {r:Nat}:mD r 0 0:=⟨0,by rw[Rat.zero_mul];rfl,by simp⟩
theorem mD.next {r n:Nat} {x y:Rat} {q:Int} (hq:1<=q) (hq7:q<=7) (h:mD r n x) (hy:eR r y):mD r (n+1) (x+((1:Int):Rat)/(q:Rat)*y):=by
 obtain⟨zx,x1,x2⟩:=h
 obtain⟨zy,y1,y2⟩:=hy
 obtain⟨w,hw,wb⟩:=HA (v:=q) aa aa
 have hqq:(q:Rat)≠0:=fun h=>by
  have:=Rat.intCast_inj.1 (show(q:Rat)=((0:Int):Rat)from h)
  omega
 refine⟨zx+w*zy,?_,?_⟩
 ·have hL:((1:Int):Rat)/(q:Rat)*(LQ:Rat)=(w:Rat):=by
   rw[hw,Rat.intCast_mul,<-Rat.mul_assoc,Rat.div_mul_cancel hqq]
   exact Rat.one_mul _
  rw[Rat.intCast_add,Rat.intCast_mul,<-hL,x1,y1,Int.pow_succ LQ (r+1),Rat.intCast_mul]
  generalize ((LQ^(r+1):Int):Rat)=m
  generalize (LQ:Rat)=l
  generalize ((1:Int):Rat)/(q:Rat)=f
  grind
 ·have c1:(w*zy).natAbs<=2^48*2^(53+54*r):=by
   rw[Int.natAbs_mul];exact Nat.mul_le_mul (Nat.le_trans wb (by decide)) y2
  have c2:=Int.natAbs_add_le zx (w*zy)
  rw[Nat.succ_mul]
  omega
theorem mD.is {r n:Nat} {x:Rat} (h:mD r n x) (hn:n<=7):eR (r+1) x:=by
 obtain⟨z,e,b⟩:=h
 refine⟨z,e,Nat.le_trans b ?_⟩
 have h:n*(2^48*2^(53+54*r))<=7*(2^48*2^(53+54*r)):=Nat.mul_le_mul hn aY
 refine Nat.le_trans h ?_
 rw[show 53+54*(r+1)=(53+54*r)+54 by omega,Nat.pow_add 2 (53+54*r) 54,<-Nat.mul_assoc,Nat.mul_comm (2^(53+54*r))]
 exact Nat.mul_le_mul (by decide) aY
open Go Go.Am.N AV ah aq IntKind
theorem yY {t:Rat} (h:lz t):ke t:=h
theorem aho {c:Cu} {P e:Nat} {g:Nat->Rat} (hc:Kn c.n c.p.toNat c.k) (hp1:1<=c.p) (hm2:(c.m:Int)=(c.n:Int)-c.p-1) (hA:At c.n c.k P):
  ga c (P:Nat) c.p.toNat g e=bO c.k c.p.toNat (fun i=>bW (c.f i) e) P (aT g 0 c.p.toNat):=by
 obtain⟨w1,w2⟩:=hc.jZ hA
 have hw:=hA.wide
 have hE:gZ c.n c.k c.p.toNat c.m c.p.toNat (P:Nat)=0:=wW aa rfl (by
  rw[aZ]
  rintro(h|h|h)
  ·omega
  ·omega
  ·exact absurd h (Rat.not_le.2 hw))
 unfold ga lN
 rw[if_pos hE,aZ,yw];rfl
theorem R8:ke 0:=⟨0,by decide+kernel,by decide,by decide⟩
theorem Hv {k:Nat->Rat} {n:Nat} (h:∀i,ke (k i)):∀{m q:Nat},ke (bg k n m q)
 |0,_=>R8
 |m+1,q=>by
  rw[bg]
  split
  ·exact Hv h
  ·exact h m
theorem U3 {f:Nat->Rat} {i m q:Nat} (h:∀i,ke (f i)):ke (ju f i m q):=by
 unfold ju
 split
 ·exact R8
 ·split
  ·exact h _
  ·exact h _
theorem dm.PM {c:Cu} (h:dm c 5) (e:Nat) (i:Nat):eR 0 (bW (bV (c.f i)) e):=by
 match e with
 |0=>exact eR.Fe (h.sx i)
 |1=>exact eR.Fe (h.sy i)
 |2=>exact eR.Fe (h.sz i)
 |e+3=>exact eR.Fe (h.sd i)
theorem zu {r:Nat} {q:Int} {x:Nat->Pl} (hq:1<=q) (hq7:q<=7) (hx:∀i e,eR r (bW (x i) e)):∀{n:Nat} (e:Nat),mD r n (bW (iH (((1:Int):Rat)/(q:Rat)) x n) e)
 |0,0=>mD.zero
 |0,1=>mD.zero
 |0,2=>mD.zero
 |0,_+3=>mD.zero
 |n+1,0=>(zu hq hq7 hx (n:=n) 0).next hq hq7 (hx n 0)
 |n+1,1=>(zu hq hq7 hx (n:=n) 1).next hq hq7 (hx n 1)
 |n+1,2=>(zu hq hq7 hx (n:=n) 2).next hq hq7 (hx n 2)
 |n+1,e+3=>(zu hq hq7 hx (n:=n) 3).next hq hq7 (hx n 3)
theorem aa9 {c:Cu} {j:Nat} (hc:dm c 5) (hh:∀i,lz (c.k i)) (hj:j<(gr (b9 c)).m) (e:Nat):eR 7 (bW ((gr (b9 c)).f j) e):=by
 obtain⟨k1,k2,k3,k4,k5⟩:=id hc.kn
 have hN:pP (b9 c)=c.n+bK c.k c.n c.n:=rfl
 have hK:=oW k1
 have hj:j<pP (b9 c)-(c.p.toNat+1)-1:=hj
 rw[hN]at hj
 have hsup:=hK.yp (j:=j) aa
 obtain⟨s,hs⟩:∃s,s=er (bg c.k c.n c.n) (c.n+bK c.k c.n c.n) j:=⟨_,rfl⟩
 obtain⟨g1,g2,g3⟩:j<=s/\s<j+(c.p.toNat+1+1)/\bg c.k c.n c.n s<bg c.k c.n c.n (s+1):=by
  rw[hs]
  exact Cs (n:=c.n+bK c.k c.n c.n) (k:=bg c.k c.n c.n) (pc:=pM (bg c.k c.n c.n) (c.n+bK c.k c.n c.n)) (fun _=>rfl) (fun _ _=>rfl) hsup aa aa
 have hA:=XY k1 (i:=s) aa g3
 obtain⟨P,hP⟩:∃P,P=fH c.n c.k (bg c.k c.n c.n s):=⟨_,rfl⟩
 rw[<-hP]at hA
 have hx:∀i e,eR c.p.toNat (bW (nq (b9 c) (P:Nat) (c.p.toNat+1) (bg c.k c.n c.n) j i) e):=fun i e=>by
  have key:∀e,eR c.p.toNat (ga (b9 c) (P:Nat) c.p.toNat (fun u=>ju (fun v=>bg c.k c.n c.n (v+(j+1))) i (c.p.toNat+1) u) e):=fun e=>by
   rw[aho (c:=b9 c) k1 k2 k5 hA]
   have:=Pw (k:=c.k) (x:=fun i=>bW (bV (c.f i)) e) (p:=c.p.toNat) (P:=P) (l:=aT (fun u=>ju (fun v=>bg c.k c.n c.n (v+(j+1))) i (c.p.toNat+1) u) 0 c.p.toNat) (fun i=>yY (hh i)) (Ox fun u=>U3 fun v=>Hv fun i=>yY (hh i)) (fun j=>hc.PM e j)
   rwa [gy]at this
  match e with
  |0=>exact key 0
  |1=>exact key 1
  |2=>exact key 2
  |e+3=>exact key 3
 have hS:=(zu (q:=c.p+1) aa aa hx (n:=c.p.toNat+1) e).is aa
 have up:∀{r s:Nat} {x:Rat},eR r x->eR (r+s) x:=fun {r s x} h=>by
  induction s with
  |zero=>exact h
  |succ s ih=>exact ih.up
 have hS:=up (s:=6-c.p.toNat) hS
 rw[show c.p.toNat+1+(6-c.p.toNat)=7 by omega]at hS
 have ef:(gr (b9 c)).f j=iH (((1:Int):Rat)/((c.p+1:Int):Rat)) (nq (b9 c) (P:Nat) (c.p.toNat+1) (bg c.k c.n c.n) j) (c.p.toNat+1):=by
  rw[hP,hs];rfl
 rw[ef]
 exact hS
theorem Qp {t:Rat} (h:ke t):Sz t 2000:=by
 obtain⟨z,e,h1,h2⟩:=h
 rw[e]
 exact((nr (x:=z) (n:=5) aa (by decide)).div (nr (x:=2) (n:=2) (by decide) (by decide))).more (by decide)
theorem KP {x y:Rat} (hx:eR 7 x) (hy:eR 7 y):Sz (x/y) 2000:=(hx.sz.div hy.sz).more (by decide)
theorem agU {c:Cu} {x y:Nat} (hc:dm c 5) (hh:∀i,lz (c.k i)):bF (bQ (eP c) x y) (bQ (eP c) 2000 2000):=by
 unfold eP
 split
 ·exact ct ⟨.refl _,fG fun i hi=>absurd hi (Nat.not_lt_zero i),fG fun i hi=>absurd hi (Nat.not_lt_zero i),trivial⟩
 ·refine ct ⟨.refl _,fG fun i hi=>dc rfl (Qp (Hv fun i=>yY (hh i))),fG fun i hi=>?_,trivial⟩
  have hq:=aa9 hc hh hi
  exact ct ⟨ct ⟨dc rfl (KP (hq 0) (hq 3)),dc rfl (KP (hq 1) (hq 3)),dc rfl (KP (hq 2) (hq 3)),trivial⟩,dc rfl ((hq 3).sz.more (by decide)),trivial⟩
theorem HE {P:Program} {f:FuncId} {K:Nat} {args us vs:List AV} {l l':List Prop} (hf:aD P f K args [] ⟨.tuple us,[],l⟩) (hl:aA l'->aA l) (hk:bA us=[]) (hle:ff us vs):aD P f K args [] ⟨.tuple vs,[],l'⟩:=by
 intro need
 obtain⟨h1,h2⟩:=hf (hl need)
 refine⟨fun k o ho=>by simp[look]at ho,fun c D D' β w vs hw0 hMw hrel hD hK hv=>(h2 c D D' β w vs hw0 hMw hrel hD hK hv).mono ?_⟩
 rintro x w' ⟨β',g1,g2,xs,rfl,g3⟩
 exact⟨β',g1,g2,xs,rfl,(xC hle (g3.bn hk)).mono (fun b o h1 h2=>⟨h2,h1⟩) (β':=β') fun k x hx=>by simp[bn]at hx⟩
def LK:Spec:=cI (kC (gY 2000 2000) kN) (fun a=>.tuple [bQ (eP a.1) 2000 2000,.int .i64 (rq a.1)]) fun a=>[dm a.1 5,∀i,lz (a.1.k i),a.1.n<=20]
theorem Z3:∀K args pre q,LK K args pre=some q->aD P Fx K args pre q:=cL fun⟨c,_⟩ K hn=>by
 obtain⟨hc,hh,h20⟩:=hn
 have hc:dm c 5:=hc
 have hh:∀i,lz (c.k i):=hh
 exact HE (us:=[bQ (eP c) (sK+10) (dn+dn),.int .i64 (rq c)]) (UD K [bQ c 2000 2000] [] _ rfl) (fun _=>⟨cz aY,ir aY,hc.kn,h20⟩) rfl ⟨agU hc hh,.refl _,trivial⟩
structure rK (c:Cu):Prop where
 d:dm c 5
 h:∀i,lz (c.k i)
structure iW (c d:Cu):Prop where
 kn:dx d
 p:d.p=c.p
 pos:∀i,0<(d.f i).d
 sub:jj c.p.toNat c.n c.k (fun e i=>bW (bV (c.f i)) e) d.n d.k (fun e i=>bW (bV (d.f i)) e)
 kc:∀q,q<d.n->∃r,r<c.n/\d.k q=c.k r
theorem MW {f:Nat->Rat} {C:Rat->Prop}:∀{l a:Nat},(∀i,a<=i->i<a+l->C (f i))->∀t∈aT f a l,C t
 |0,_,_,t,ht=>by simp[aT]at ht
 |l+1,a,h,t,ht=>by
  rw[aT,List.mem_cons]at ht
  rcases ht with rfl|ht
  ·exact h a aY aa
  ·exact MW (fun i h1 h2=>h i aa aa) t ht
theorem iW.hf {c d:Cu} (h:iW c d) (hb:rK c) {q:Nat} (hq:q<d.n):ke (d.k q):=by
 obtain⟨r,_,e⟩:=h.kc q hq
 rw[e];exact yY (hb.h r)
theorem iW.q {c d:Cu} (h:iW c d) (hb:rK c) {j:Nat} (hj:j<d.m) (e:Nat):eR 6 (bW (bV (d.f j)) e):=by
 obtain⟨k1,k2,k3,k4,k5⟩:=id h.kn
 have hp:=h.p
 rw[hp]at k1 k5
 rw[hp]at k2 k3
 obtain⟨Q,_,g1,g2,g3,g4,g5⟩:=k1.piece (j:=j) aa
 obtain⟨P,hP,_,hE⟩:=h.sub.TA k1 ⟨aa,k1.sorted,g3⟩ g1 g2
 have:=Pw (k:=c.k) (x:=fun i=>bW (bV (c.f i)) e) (p:=c.p.toNat) (P:=P) (l:=aT d.k (j+1) c.p.toNat) (fun i=>yY (hb.h i)) (MW fun i h1 h2=>h.hf hb aa) (fun j=>hb.d.PM e j)
 rw[gy,hE e]at this
 have up:∀{r s:Nat} {x:Rat},eR r x->eR (r+s) x:=fun {r s x} h=>by
  induction s with
  |zero=>exact h
  |succ s ih=>exact ih.up
 have:=up (s:=6-c.p.toNat) this
 rwa [show c.p.toNat+(6-c.p.toNat)=6 by omega]at this
theorem J3 {x y:Rat} (hx:eR 6 x) (hy:eR 6 y):Sz (x/y) 2000:=(hx.sz.div hy.sz).more (by decide)
theorem iW.GB {c d:Cu} {r:Nat} (h:iW c d) (hb:rK c):bT (fun i=>.rat (d.k i) r) d.n 2000:=fun _ hi=>dc rfl (Qp (h.hf hb hi))
theorem iW.pl {c d:Cu} {r i:Nat} (h:iW c d) (hb:rK c) (hi:i<d.m):bF (bH (d.f i) r) (bH (d.f i) 2000):=by
 have e:=Ip (o5 (h.pos i))
 have q:=h.q hb hi
 have x1:Sz (d.f i).n.x 2000:=by rw[<-e];exact J3 (q 0) (q 3)
 have x2:Sz (d.f i).n.y 2000:=by rw[<-e];exact J3 (q 1) (q 3)
 have x3:Sz (d.f i).n.z 2000:=by rw[<-e];exact J3 (q 2) (q 3)
 have x4:Sz (d.f i).d 2000:=(q 3).sz.more (by decide)
 exact ct ⟨ct ⟨dc rfl x1,dc rfl x2,dc rfl x3,trivial⟩,dc rfl x4,trivial⟩
theorem iW.QT {c d:Cu} {r:Nat} (h:iW c d) (hb:rK c):fj (fun i=>bH (d.f i) r) d.m 2000:=fun _ hi=>h.pl hb hi
theorem iW.up {c d:Cu} {x y:Nat} (h:iW c d) (hb:rK c) (hy:y<=sE):bF (bQ d x y) (bQ d 2000 sE):=
 ct ⟨.refl _,fG fun i hi=>h.GB hb i hi,fG fun i _=>ct ⟨ct ⟨bX rfl hy,bX rfl hy,bX rfl hy,trivial⟩,bX rfl hy,trivial⟩,trivial⟩
theorem iW.ins {c d:Cu} {t:Rat} (h:iW c d) (ht:∃r,r<c.n/\t=c.k r) (he:dM d t=0):iW c (fA d t):=by
 obtain⟨e1,e2,e3,e4⟩:=yl he
 obtain⟨k1,k2,k3,k4,k5⟩:=id h.kn
 obtain⟨i1,i2,i3⟩:=mX k1 e1 e2
 have hp:=h.p
 rw[show fA d t=nw d t (bJ d.n d.k t)from if_pos he]
 have hpos:∀i,0<(kS d t (bJ d.n d.k t) i).d:=fun i=>AU h.kn h.pos e1 e2 i1 i2 i3
 refine⟨⟨k1.cW e1 e2 i1 i2 i3 e3,k2,k3,show d.n+1<=d.p.toNat+41 by omega,show((d.m+1:Nat):Int)=((d.n+1:Nat):Int)-d.p-1 by omega⟩,hp,hpos,?_,fun q hq=>?_⟩
 ·have key:=jj.ins (t:=t) h.sub (by rw[<-hp];exact k1) e1 e2 i1 i2 i3 (by rw[<-hp];exact e3)
  have ef:(fun e i=>bW (bV ((nw d t (bJ d.n d.k t)).f i)) e)=fun e=>jJ d.k c.p.toNat (fun i=>bW (bV (d.f i)) e) t (bJ d.n d.k t):=by
   funext e i
   show bW (bV (dX (kS d t (bJ d.n d.k t) i))) e=_
   rw[Ac (o5 (hpos i)),<-hp]
   match e with
   |0=>rfl
   |1=>rfl
   |2=>rfl
   |e+3=>rfl
  rw[ef]
  exact key
 ·have hq:q<d.n+1:=hq
  show∃r,r<c.n/\cW d.k t (bJ d.n d.k t+1) q=c.k r
  unfold cW
  split
  ·exact h.kc q aa
  ·split
   ·exact ht
   ·exact h.kc (q-1) aa
theorem JE {k k':Nat->Rat} {b b' p:Nat} (h:∀i,1<=i->k' (b'+i)=k (b+i)):∀{l:List Rat} {r:Nat} {x:Nat->Rat},bl k' b' p r x l=bl k b p r x l
 |[],_,_=>rfl
 |t::l,r,x=>by
  rw[bl,bl,JE h (l:=l)]
  congr 1
  funext j
  unfold gD
  split
  ·rw[h j aa,Nat.add_assoc,h (j+(p-r)) aa,Nat.add_assoc]
  ·rfl
theorem iW.right {c d:Cu} {t:Rat} {a:Nat} (h:iW c d) (h0:d.k 0<t) (h1:t<d.k (d.n-1)) (hlo:d.k a<=t) (hhi:t<d.k (a+1)) (ha:a+1<d.n) (ht:bu d.k t d.n=d.p.toNat):iW c (gx d t a):=by
 obtain⟨k1,k2,k3,k4,k5⟩:=id h.kn
 obtain⟨r1,r2,r3⟩:=k1.split h0 h1 hlo hhi ha ht
 obtain⟨g1,g2⟩:=k1.l7 h0 h1 hlo hhi ha
 have hp:=h.p
 have hl:=k1.len
 have hp1:=k1.p1
 have hK:∀i,1<=i->(gx d t a).k i=d.k (a-d.p.toNat+i):=fun i hi=>by
  show(if i<1 then t else d.k (a+1-d.p.toNat+(i-1)))=_
  rw[if_neg aa];congr 1;omega
 have hK0:(gx d t a).k 0=t:=(if_pos aa:(if 0<1 then t else d.k (a+1-d.p.toNat+(0-1)))=t)
 have hN:(gx d t a).n=d.n-(a-d.p.toNat):=by show 1+(d.n-(a+1-d.p.toNat))=_;omega
 have hS:∀i,1<=i->i<=d.p.toNat->d.k (a-d.p.toNat+i)=t:=fun i h1 h2=>r1 _ aa aa
 have hkn:Kn (gx d t a).n d.p.toNat (gx d t a).k:=by
  rw[hN]
  refine⟨hp1,aa,fun i hi=>?_,fun i hi=>?_,fun i h1 h2=>?_,fun i h1 h2=>?_⟩
  ·by_cases e:i=0
   ·subst e
    rw[hK0,hK _ aa,hS _ aa aa];exact Rat.le_refl
   ·rw[hK _ aa,hK _ aa];exact k1.sorted _ aa
  ·by_cases e:i=0
   ·subst e;rfl
   ·rw[hK _ aa,hK0,hS _ aa hi]
  ·rw[hK _ aa,hK _ aa,k1.last _ aa aa,k1.last (a-d.p.toNat+(d.n-(a-d.p.toNat)-1)) aa aa]
  ·rw[hK _ aa,hK _ aa,<-Nat.add_assoc];exact k1.mult _ aa aa
 refine⟨⟨hkn,k2,k3,show(gx d t a).n<=d.p.toNat+41 by omega,show((d.m-(a-d.p.toNat):Nat):Int)=((gx d t a).n:Int)-d.p-1 by omega⟩,hp,fun i=>h.pos _,fun Q hQ=>?_,fun q hq=>?_⟩
 ·obtain⟨v1,v2⟩:=hkn.jZ hQ
  have hw:=hQ.wide
  rw[hK _ aa,hK _ aa]at hw
  obtain⟨P,p1,p2,p3,p4⟩:=h.sub (a-d.p.toNat+Q) ⟨aa,k1.sorted,hw⟩
  refine⟨P,p1,by rw[hK _ aa];exact p2,by rw[hK _ aa];exact p3,fun e l hl=>?_⟩
  rw[<-p4 e l hl,<-hp]
  show bl (gx d t a).k (Q-d.p.toNat) d.p.toNat 0 (fun q=>bW (bV (d.f (a-d.p.toNat+(Q-d.p.toNat+q)))) e) l d.p.toNat=bl d.k (a-d.p.toNat+Q-d.p.toNat) d.p.toNat 0 (fun q=>bW (bV (d.f (a-d.p.toNat+Q-d.p.toNat+q))) e) l d.p.toNat
  rw[JE (k:=d.k) (b:=a-d.p.toNat+Q-d.p.toNat) fun i hi=>by rw[hK _ aa];congr 1;omega]
  congr 1
  funext q
  rw[show a-d.p.toNat+(Q-d.p.toNat+q)=a-d.p.toNat+Q-d.p.toNat+q by omega]
 ·by_cases e:q=0
  ·subst e
   rw[hK0,<-hS 1 aa aa];exact h.kc _ aa
  ·rw[hK _ aa];exact h.kc _ aa
end Go.Am.B
