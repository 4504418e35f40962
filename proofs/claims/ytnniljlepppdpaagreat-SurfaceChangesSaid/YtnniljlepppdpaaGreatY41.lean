/- Spline.Elevate. -/
import Derived.Test.YtnniljlepppdpaaGreatY40
import Derived.Test.YtnniljlepppdpaaGreatY37
import Derived.Test.YtnniljlepppdpaaGreatY39
set_option linter.unusedVariables false
noncomputable section
namespace Go.Am.B
open Go Go.Am.N AV ah ax IntKind
theorem QE:aT P uM sj (ay sj):=aU Proofs.Tryz.func87 ag ag ag
def kS:bf:=nG::(yD,Ti)::(DJ,Ln)::(zQ,Jv)::(yG,JK)::(vJ,sw)::(tc,qu)::(CZ,QB)::iR
abbrev zY:Code:=ay sj
abbrev uX:Code:=part zY [1,1,1]
abbrev pT:Code:=part uX [1,0,1,0,0]
abbrev ql:Code:=part pT [1,1,0,0]
abbrev Bo:Code:=part ql [1,1,1,1,0,1,0,0]
abbrev Az:Code:=part Bo [1,1,0,0]
def bX:Nat:=8589934592
abbrev Af:List Nat:=[1,2,3,21,22,23]
abbrev vh (c:Cu) (i:Nat):List AV:=[.ptr 0 0 3 0 [],.ptr 1 0 3 0 [],.ptr 2 0 3 0 [],br c.k c.n 2000,.int .i64 c.n,.int .i64 i]
abbrev xq (c:Cu) (q:Int) (m:Nat) (F:Nat->Rat):aE:=[(3,wh 2000 m F),(2,⟨false,true,3,1,fun _=>.agg [.int .i64 q,.own 3 3 0 m,.nil]⟩),(1,ID),(0,LN c)]
abbrev k8:List Nat:=[1,2,3,6,68,69]
abbrev qq (M j:Nat):List AV:=[.ptr 0 0 3 0 [],.ptr 1 0 3 0 [],.ptr 2 0 3 0 [],.ptr 4 0 3 0 [],.int .i64 M,.int .i64 j]
abbrev jq (c:Cu) (q:Int) (m:Nat) (F:Nat->Rat) (f:Rat) (j:Nat) (G:Nat->Pl):aE:=[(5,⟨true,true,12,j,fun i=>bD (G i) bX⟩),(4,tP f 64),(3,⟨true,false,3,m,fun i=>.rat (F i) 2000⟩),(2,⟨false,true,3,1,fun _=>.agg [.int .i64 q,.own 3 3 0 m,.own 5 12 0 j]⟩),(1,ID),(0,LN c)]
abbrev tR:List Nat:=[1,2,3,6,68,69,9,10,12,99,100]
abbrev FT (M j:Nat) (a:Int) (q i:Nat):List AV:=[.ptr 0 0 3 0 [],.ptr 1 0 3 0 [],.ptr 2 0 3 0 [],.ptr 4 0 3 0 [],.int .i64 M,.int .i64 j,.own 3 3 (j+1) q,.int .i64 a,.ptr 6 0 12 0 [],.int .i64 q,.int .i64 i]
abbrev tZ:List Nat:=[1,2,3,6,68,69,9,10,12,99,100,14,112]
abbrev FR (M j:Nat) (a:Int) (q i b:Nat):List AV:=[.ptr 0 0 3 0 [],.ptr 1 0 3 0 [],.ptr 2 0 3 0 [],.ptr 4 0 3 0 [],.int .i64 M,.int .i64 j,.own 3 3 (j+1) q,.int .i64 a,.ptr 6 0 12 0 [],.int .i64 q,.int .i64 i,.ptr 7 0 12 0 [],.int .i64 b]
def jG (f:Rat) (x:Nat->Pl):Nat->Pl
 |0=>⟨⟨0,0,0⟩,0⟩
 |r+1=>⟨⟨(jG f x r).n.x+f*(x r).n.x,(jG f x r).n.y+f*(x r).n.y,(jG f x r).n.z+f*(x r).n.z⟩,(jG f x r).d+f*(x r).d⟩
def iX (c:Cu) (a:Int) (q:Nat) (F:Nat->Rat) (j i:Nat):Pl:=oI c a (q-1) fun u=>lg (fun v=>F (v+(j+1))) i q u
def tX (c:Cu) (f:Rat) (N q:Nat) (F:Nat->Rat) (j:Nat):Pl:=jG f (iX c (fI c.n c.k (F (fC F N j))) q F j) q
def Ak (c:Cu):Nat:=c.n+bS c.k c.n c.n
def mJ (c:Cu):Cu:=⟨c.p+1,Ak c,cR c.k c.n c.n,Ak c-(c.p.toNat+1)-1,tX c (((1:Int):Rat)/((c.p+1:Int):Rat)) (Ak c) (c.p.toNat+1) (cR c.k c.n c.n)⟩
def iO (r:Nat):Nat:=1+r*(64+sB+1)
def uO (S x:Pl) (f:Rat) (w b:Nat):AV:=.agg [.rat (if 0<b then S.n.x+f*x.n.x else S.n.x) (if 0<b then w+(64+sB)+1 else w),.rat (if 1<b then S.n.y+f*x.n.y else S.n.y) (if 1<b then w+(64+sB)+1 else w),.rat (if 2<b then S.n.z+f*x.n.z else S.n.z) (if 2<b then w+(64+sB)+1 else w),.rat (if 3<b then S.d+f*x.d else S.d) (if 3<b then w+(64+sB)+1 else w)]
abbrev FP (S x:Pl) (f:Rat) (w b:Nat):aE:=[(7,fe x sB),(6,⟨false,true,12,1,fun _=>uO S x f w b⟩)]
theorem aiO {c:Cu}:aG T kS [] 60 Af (before zY [1,1,0,1]) ⟨aP 0 [dY c 2000 4000],[],0⟩=
  let c5:Int:=c.p+1;let c4:Prop:=0<1;let c3:Nat:=(aV (dY c 2000 4000)).size;let c2:AV:=aq 3 c.n fun i=>rat (c.k i) 2000;let c1:AV:=agg [int i64 0,nil,nil];some (aj [c4,-(2:Int)^63<=c5/\c5<2^63,c4] (aj [c4] (leaf normal ([ptr 0 0 c3 0 [],ptr 4096 0 3 0 [],ptr 24576 0 3 0 [],c2,int i64 (↑c.n:Int),int i64 0],[((24576:Nat),aS fun j=>if(j==0)=true then aV (agg (c1.kids.set 0 (aV (int i64 c5))))else c1),((4096:Nat),aS fun x=>c1),(0,ak.mk false true c3 1 fun x=>agg [int i64 c.p,c2,aq 12 c.m fun i=>bD (c.f i) 4000])])))):=ag
theorem Wn {c:Cu} {i m:Nat} {q:Int} {F:Nat->Rat}:aG T kS [24,40,50] 60 Af [part zY [1,1,0,1,0,0]] ⟨aB Af (vh c i),xq c q m F,4⟩=
  let c20:Prop:=2000<2^42;let c19:AV:=rat 0 1;let c18:Prop:=1*3<=2^24;let c17:AV:=ptr 2 0 3 0 [];let c16:AV:=ptr 1 0 3 0 [];let c15:AV:=ptr 0 0 3 0 [];let c14:Int:=(↑c.n:Int);let c13:Int:=(↑i:Int);let c11:Nat:=m+1;let c10:AV:=aq 3 c.n fun i=>rat (c.k i) 2000;let c8:Prop:=0<1;let c7:AV:=agg [int i64 q,own 3 3 0 m,nil];let c21:Nat:=c11+1;let c12:AV:=rat (c.k c13.toNat) 2000;let c9:Int:=c13+1;let c5:AV:=agg (c7.kids.set 1 (aV (own (nat_lit 45059+1) 3 0 c11)));let c3:List (Nat×ak):=[((1:Nat),aS fun x=>agg [int i64 0,nil,nil]),((0:Nat),aS fun x=>agg [int i64 c.p,c10,aq 12 c.m fun i=>bD (c.f i) 4000])];let c6:List AV:=[c15,c16,c17,c10,int i64 c14,int i64 c9];let c4:Prop:=-(2:Int)^63<=c9/\c9<2^63;let c2:ah (List AV×aE):=aj [c4] (leaf normal (c6,(45060,ak.mk true true 3 c11 fun i=>if i<m then rat (F i) 2000 else nth [c12] c19 (i-m+0))::((2:Nat),aS fun j=>if(j==0)=true then c5 else c7)::c3));let c1:ah (List AV×aE):=aj [c8,c8,c18,c21*((56:Nat)+1)*2<=2^47,c8] (aj [c4] (leaf normal (c6,(143364,ak.mk true true 3 c21 fun i=>if i<c11 then if i<m then rat (F i) 2000 else nth [c12] c19 (i-m+0)else nth [c12] c19 (i-c11+0))::((2:Nat),aS fun j=>if(j==0)=true then agg ((if((0:Nat)==0)=true then c5 else c7).kids.set 1 (aV (own (nat_lit 143363+1) 3 0 c21)))else if(j==0)=true then c5 else c7)::c3)));some (fork (decide (c13<c14)) (aj [(0:Int)<=c13/\c13.toNat<c.n,c8] (aj [c8,c8,c18,c11*((56:Nat)+1)*2<=2^47,c8] (fork (c9==c14) (aj [c4,c8,(c9==c14)=true] (fork true c1 c2)) (aj [c4,c8,(c9==c14)=false,c8,c8,c4,(0:Int)<=c9/\c9.toNat<c.n,c20,c20] (fork (bif false then true else !decide (c.k c13.toNat=c.k c9.toNat)) c1 c2))))) (leaf (exit 0) ([c15,c16,c17,c10,int i64 c14,int i64 c13],(3,ak.mk true true 3 m fun i=>rat (F i) 2000)::((2:Nat),aS fun x=>c7)::c3))):=ag
theorem aoD {c:Cu} {i m:Nat} {q:Int} {F:Nat->Rat}:aG T kS [] 60 k8 (before uX [1,0,1]) ⟨aB Af (vh c i),xq c q m F,4⟩=
  let c2:Prop:=0<1;let c1:Int:=(2:Int)^63;some (aj [c2,-c1<=1,(1:Int)<c1,-c1<=q,q<c1,c2] (aj [c2,c2,bt (fun i=>rat (F (i+0)) 2000) m sK,m<2^40,-(2:Int)^40<q,q<2^40] (leaf normal ([ptr 0 0 3 0 [],ptr 1 0 3 0 [],ptr 2 0 3 0 [],ptr 24580 0 3 0 [],int i64 ((↑m:Int)-q-1),int i64 0],[(3,ak.mk true false 3 m fun i=>rat (F i) 2000),((24580:Nat),aS fun j=>if(j==0)=true then aV (rat ((↑(1:Int):Rat)/(↑q:Rat)) 64)else rat 0 1),((2:Nat),aS fun x=>agg [int i64 q,own 3 3 0 m,nil]),((1:Nat),aS fun x=>agg [int i64 0,nil,nil]),((0:Nat),aS fun x=>agg [int i64 c.p,aq 3 c.n fun i=>rat (c.k i) 2000,aq 12 c.m fun i=>bD (c.f i) 4000])])))):=ag
theorem W0 {c:Cu} {M j m:Nat} {q:Int} {F:Nat->Rat} {f:Rat} {G:Nat->Pl}:aG T kS [70] 60 k8 (before pT [1,1,0]) ⟨aB k8 (qq M j),jq c q m F f j G,6⟩=
  let c1:List AV×aE:=([ptr 0 0 3 0 [],ptr 1 0 3 0 [],ptr 2 0 3 0 [],ptr 4 0 3 0 [],int i64 (↑M:Int),int i64 (↑j:Int)],[(5,ak.mk true true 12 j fun i=>bD (G i) 8589934592),(3,ak.mk true false 3 m fun i=>rat (F i) 2000),((4:Nat),aS fun x=>rat f 64),((2:Nat),aS fun x=>agg [int i64 q,own 3 3 0 m,own 5 12 0 j]),((1:Nat),aS fun x=>agg [int i64 0,nil,nil]),((0:Nat),aS fun x=>agg [int i64 c.p,aq 3 c.n fun i=>rat (c.k i) 2000,aq 12 c.m fun i=>bD (c.f i) 4000])]);some (fork (decide ((↑j:Int)<(↑M:Int))) (leaf normal c1) (leaf (exit 2) c1)):=ag
theorem agi {c:Cu} {M j m:Nat} {q:Int} {F:Nat->Rat} {f:Rat} {G:Nat->Pl}:aG T kS [] 60 tR (before ql [1,1,1,1,0,1]) ⟨aB k8 (qq M j),jq c q m F f j G,6⟩=
  let c7:Int:=(↑j:Int);let c6:AV:=rat 0 1;let c5:Prop:=0<1;let c4:Int:=(2:Int)^63;let c3:Int:=c7+1;let c2:Int:=c7+q+1;let c1:Int:=(↑(fC (fun i=>aL (rat (F (i+0)) 2000)) m c7.toNat):Int);some (aj [c5,-c4<=c3/\c3<c4,c5,-c4<=c7+q/\c7+q<c4,-c4<=c2/\c2<c4,(0:Int)<=c3/\c3<=c2/\c2<=c2/\c2<=(↑m:Int)] (aj [c5,c5,c5,c5,bt (fun i=>rat (F (i+0)) 2000) m sK,(0:Int)<=c7,c7<=(↑m:Int),m<2^40,(0:Int)<=c1/\c1.toNat<m,bt (fun i=>rat (c.k i) 2000) c.n sK,(2000:Nat)<=sK,Kn c.n c.p.toNat fun i=>aL (rat (c.k i) 2000),(0:Int)<=c.p,c.n<2^40] (leaf normal ([ptr 0 0 3 0 [],ptr 1 0 3 0 [],ptr 2 0 3 0 [],ptr 4 0 3 0 [],int i64 (↑M:Int),int i64 c7,own 3 3 ((0:Nat)+c3.toNat) (c2.toNat-c3.toNat),int i64 (↑(fI c.n (fun i=>aL (rat (c.k i) 2000)) (F (c1.toNat+0))):Int),ptr 126982 0 12 0 [],int i64 (↑(c2.toNat-c3.toNat):Int),int i64 0],[(5,ak.mk true true 12 j fun i=>bD (G i) 8589934592),(3,ak.mk true false 3 m fun i=>rat (F i) 2000),(126982,ak.mk false true 12 1 fun x=>agg [c6,c6,c6,c6]),((4:Nat),aS fun x=>rat f 64),((2:Nat),aS fun x=>agg [int i64 q,own 3 3 0 m,own 5 12 0 j]),((1:Nat),aS fun x=>agg [int i64 0,nil,nil]),((0:Nat),aS fun x=>agg [int i64 c.p,aq 3 c.n fun i=>rat (c.k i) 2000,aq 12 c.m fun i=>bD (c.f i) 4000])])))):=ag
theorem aje {c:Cu} {M j m q i w:Nat} {a:Int} {F:Nat->Rat} {f:Rat} {G:Nat->Pl} {S:Pl}:aG T kS [101] 60 tR (before Bo [1,1,0]) ⟨aB tR (FT M j a q i),(6,fe S w)::jq c q m F f j G,7⟩=
  let c2:Int:=(↑q:Int);let c1:List AV×aE:=([ptr 0 0 3 0 [],ptr 1 0 3 0 [],ptr 2 0 3 0 [],ptr 4 0 3 0 [],int i64 (↑M:Int),int i64 (↑j:Int),own 3 3 (j+1) q,int i64 a,ptr 6 0 12 0 [],int i64 c2,int i64 (↑i:Int)],[(5,ak.mk true true 12 j fun i=>bD (G i) 8589934592),(3,ak.mk true false 3 m fun i=>rat (F i) 2000),(6,ak.mk false true 12 1 fun x=>bD S w),((4:Nat),aS fun x=>rat f 64),((2:Nat),aS fun x=>agg [int i64 c2,own 3 3 0 m,own 5 12 0 j]),((1:Nat),aS fun x=>agg [int i64 0,nil,nil]),((0:Nat),aS fun x=>agg [int i64 c.p,aq 3 c.n fun i=>rat (c.k i) 2000,aq 12 c.m fun i=>bD (c.f i) 4000])]);some (fork (decide ((↑i:Int)<c2)) (leaf normal c1) (leaf (exit 4) c1)):=ag
theorem VT {c:Cu} {M j m q i w:Nat} {a:Int} {F:Nat->Rat} {f:Rat} {G:Nat->Pl} {S:Pl}:aG T kS [] 60 tZ (before Az [1,1,1]) ⟨aB tR (FT M j a q i),(6,fe S w)::jq c q m F f j G,7⟩=
  let c4:Int:=(↑i:Int);let c3:Nat:=j+1;let c1:AV:=rat 0 1;let c2:Int:=c4+1;some (aj [(0:Nat)<1,bt (fun i=>rat (F (i+c3)) 2000) q 2048,(1:Nat)<=q,q<2^30,-(2:Int)^63<=c2/\c2<2^63,q=q,oS (fun i=>rat (aL (rat (F (i+c3)) 2000)) 2048) q 2048,(0:Int)<=c4,c4<(↑q:Int),c2=c2,bt (fun i=>rat (c.k i) 2000) c.n sK,mA (fun i=>bD (c.f i) 4000) c.m sK,bt (fun i=>rat (lg (fun q=>aL (rat (aL (rat (F (q+c3)) 2000)) 2048)) c4.toNat q (i+0)) 2048) (q-1) sK,(1:Int)<=c.p,c.p<=6,c.n<2^40,c.m<2^40,-(2:Int)^40<a,a<2^40,(0:Nat)<1] (leaf normal ([ptr 0 0 3 0 [],ptr 1 0 3 0 [],ptr 2 0 3 0 [],ptr 4 0 3 0 [],int i64 (↑M:Int),int i64 (↑j:Int),own 3 3 c3 q,int i64 a,ptr 6 0 12 0 [],int i64 (↑q:Int),int i64 c4,ptr 45063 0 12 0 [],int i64 0],[(5,ak.mk true true 12 j fun i=>bD (G i) 8589934592),(3,ak.mk true false 3 m fun i=>rat (F i) 2000),(45063,ak.mk false true 12 1 fun j=>if(j==0)=true then aV (bD (oI (Cu.mk c.p c.n (fun i=>aL (rat (c.k i) 2000)) c.m fun i=>ux (bD (c.f i) 4000)) a (q-1) fun i=>aL (rat (lg (fun q=>aL (rat (aL (rat (F (q+c3)) 2000)) 2048)) c4.toNat q (i+0)) 2048)) sB)else agg [c1,c1,c1,c1]),(6,ak.mk false true 12 1 fun x=>bD S w),((4:Nat),aS fun x=>rat f 64),((2:Nat),aS fun x=>agg [int i64 (↑q:Int),own 3 3 0 m,own 5 12 0 j]),((1:Nat),aS fun x=>agg [int i64 0,nil,nil]),((0:Nat),aS fun x=>agg [int i64 c.p,aq 3 c.n fun i=>rat (c.k i) 2000,aq 12 c.m fun i=>bD (c.f i) 4000])]))):=ag
theorem Vo {c:Cu} {M j m q i w y:Nat} {a:Int} {F:Nat->Rat} {f:Rat} {G:Nat->Pl} {S x:Pl} (hy:y<4):aG T kS [] 60 tZ [part Az [1,1,1,0,0]] ⟨aB tZ (FR M j a q i y),FP S x f w y++jq c q m F f j G,8⟩=
  let c6:Nat:=64+sB;let c5:Prop:=0<1;let c4:Nat:=2^42;let c3:Int:=(↑y:Int);let c2:Nat:=w;let c1:Prop:=(0:Int)<=c3/\c3<(↑(4:Nat):Int);some (aj [c1,c5,c5,c1,c5,(64:Nat)<c4,sB<c4,c2<c4,c6<c4,c1,c5] (aj [-(2:Int)^63<=c3+1/\c3+1<(2:Int)^63] (leaf normal ([ptr 0 0 3 0 [],ptr 1 0 3 0 [],ptr 2 0 3 0 [],ptr 4 0 3 0 [],int i64 (↑M:Int),int i64 (↑j:Int),own 3 3 (j+1) q,int i64 a,ptr 6 0 12 0 [],int i64 (↑q:Int),int i64 (↑i:Int),ptr 7 0 12 0 [],int i64 (c3+1)],[(5,ak.mk true true 12 j fun i=>bD (G i) 8589934592),(3,ak.mk true false 3 m fun i=>rat (F i) 2000),(7,ak.mk false true 12 1 fun x_1=>bD x 536870912),(6,ak.mk false true 12 1 fun j=>if(j==0)=true then agg ((uO S x f w y).kids.set c3.toNat (aV (lH (gP S y,c2) (f*gP x y,c6))))else uO S x f w y),((4:Nat),aS fun x=>rat f 64),((2:Nat),aS fun x=>agg [int i64 (↑q:Int),own 3 3 0 m,own 5 12 0 j]),((1:Nat),aS fun x=>agg [int i64 0,nil,nil]),((0:Nat),aS fun x=>agg [int i64 c.p,aq 3 c.n fun i=>rat (c.k i) 2000,aq 12 c.m fun i=>bD (c.f i) 4000])])))):=by
 rcases four hy with rfl|rfl|rfl|rfl<;>kernel_rfl
theorem akU {c:Cu} {M j m q i w:Nat} {a:Int} {F:Nat->Rat} {f:Rat} {G:Nat->Pl} {S x:Pl}:aG T kS [] 60 tZ [part Az [1,1,1,0,0]] ⟨aB tZ (FR M j a q i 4),FP S x f w 4++jq c q m F f j G,8⟩=
  let c1:Nat:=w+((64:Nat)+sB)+1;some (leaf (exit 6) ([ptr 0 0 3 0 [],ptr 1 0 3 0 [],ptr 2 0 3 0 [],ptr 4 0 3 0 [],int i64 (↑M:Int),int i64 (↑j:Int),own 3 3 (j+1) q,int i64 a,ptr 6 0 12 0 [],int i64 (↑q:Int),int i64 (↑i:Int),ptr 7 0 12 0 [],int i64 4],[(5,ak.mk true true 12 j fun i=>bD (G i) 8589934592),(3,ak.mk true false 3 m fun i=>rat (F i) 2000),(7,ak.mk false true 12 1 fun x_1=>bD x 536870912),(6,ak.mk false true 12 1 fun x_1=>agg [rat (if 0<4 then S.n.x+f*x.n.x else S.n.x) (if 0<4 then c1 else w),rat (if 1<4 then S.n.y+f*x.n.y else S.n.y) (if 1<4 then c1 else w),rat (if 2<4 then S.n.z+f*x.n.z else S.n.z) (if 2<4 then c1 else w),rat (if 3<4 then S.d+f*x.d else S.d) (if 3<4 then c1 else w)]),((4:Nat),aS fun x=>rat f 64),((2:Nat),aS fun x=>agg [int i64 (↑q:Int),own 3 3 0 m,own 5 12 0 j]),((1:Nat),aS fun x=>agg [int i64 0,nil,nil]),((0:Nat),aS fun x=>agg [int i64 c.p,aq 3 c.n fun i=>rat (c.k i) 2000,aq 12 c.m fun i=>bD (c.f i) 4000])])):=ag
theorem alR {c:Cu} {M j m q i w:Nat} {a:Int} {F:Nat->Rat} {f:Rat} {G:Nat->Pl} {S x:Pl}:aG T kS [] 60 tR [part Bo [1,1,1]] ⟨aB tZ (FR M j a q i 4),FP S x f w 4++jq c q m F f j G,8⟩=
  let c2:Int:=(↑i:Int)+1;let c1:Nat:=w+((64:Nat)+sB)+1;some (aj [-(2:Int)^63<=c2/\c2<2^63] (leaf normal ([ptr 0 0 3 0 [],ptr 1 0 3 0 [],ptr 2 0 3 0 [],ptr 4 0 3 0 [],int i64 (↑M:Int),int i64 (↑j:Int),own 3 3 (j+1) q,int i64 a,ptr 6 0 12 0 [],int i64 (↑q:Int),int i64 c2],[(5,ak.mk true true 12 j fun i=>bD (G i) 8589934592),(3,ak.mk true false 3 m fun i=>rat (F i) 2000),(6,ak.mk false true 12 1 fun x_1=>agg [rat (if 0<4 then S.n.x+f*x.n.x else S.n.x) (if 0<4 then c1 else w),rat (if 1<4 then S.n.y+f*x.n.y else S.n.y) (if 1<4 then c1 else w),rat (if 2<4 then S.n.z+f*x.n.z else S.n.z) (if 2<4 then c1 else w),rat (if 3<4 then S.d+f*x.d else S.d) (if 3<4 then c1 else w)]),((4:Nat),aS fun x=>rat f 64),((2:Nat),aS fun x=>agg [int i64 (↑q:Int),own 3 3 0 m,own 5 12 0 j]),((1:Nat),aS fun x=>agg [int i64 0,nil,nil]),((0:Nat),aS fun x=>agg [int i64 c.p,aq 3 c.n fun i=>rat (c.k i) 2000,aq 12 c.m fun i=>bD (c.f i) 4000])]))):=ag
theorem abC {c:Cu} {M j m q i w:Nat} {a:Int} {F:Nat->Rat} {f:Rat} {G:Nat->Pl} {S:Pl}:aG T kS [] 60 k8 [part ql [1,1,1,1,1]] ⟨aB tR (FT M j a q i),(6,fe S w)::jq c q m F f j G,7⟩=
  let c3:Prop:=0<1;let c2:AV:=rat 0 1;let c1:AV:=agg [int i64 (↑q:Int),own 3 3 0 m,own 5 12 0 j];some (aj [c3,c3,(1:Nat)*12<=2^24,(j+1)*((224:Nat)+1)*2<=2^47,c3] (leaf normal ([ptr 0 0 3 0 [],ptr 1 0 3 0 [],ptr 2 0 3 0 [],ptr 4 0 3 0 [],int i64 (↑M:Int),int i64 (↑j:Int)],[(16391,ak.mk true true 12 (j+1) fun i=>if i<j then bD (G i) bX else nth [bD S w] (agg [c2,c2,c2,c2]) (i-j+0)),(3,ak.mk true false 3 m fun i=>rat (F i) 2000),((4:Nat),aS fun x=>rat f 64),((2:Nat),aS fun j_1=>if(j_1==0)=true then agg (c1.kids.set 2 (aV (own (nat_lit 16390+1) 12 0 (j+1))))else c1),((1:Nat),aS fun x=>agg [int i64 0,nil,nil]),((0:Nat),aS fun x=>agg [int i64 c.p,aq 3 c.n fun i=>rat (c.k i) 2000,aq 12 c.m fun i=>bD (c.f i) 4000])]))):=ag
theorem ac0 {c:Cu} {M j m h:Nat} {q:Int} {F:Nat->Rat} {f:Rat} {G:Nat->Pl}:aG T kS [] 60 k8 [part pT [1,1,1]] ⟨aB k8 (qq M j),jq c q m F f h G,6⟩=
  let c1:Int:=(↑j:Int)+1;some (aj [-(2:Int)^63<=c1/\c1<2^63] (leaf normal ([ptr 0 0 3 0 [],ptr 1 0 3 0 [],ptr 2 0 3 0 [],ptr 4 0 3 0 [],int i64 (↑M:Int),int i64 c1],[(5,ak.mk true true 12 h fun i=>bD (G i) 8589934592),(3,ak.mk true false 3 m fun i=>rat (F i) 2000),((4:Nat),aS fun x=>rat f 64),((2:Nat),aS fun x=>agg [int i64 q,own 3 3 0 m,own 5 12 0 h]),((1:Nat),aS fun x=>agg [int i64 0,nil,nil]),((0:Nat),aS fun x=>agg [int i64 c.p,aq 3 c.n fun i=>rat (c.k i) 2000,aq 12 c.m fun i=>bD (c.f i) 4000])]))):=ag
theorem anE {c:Cu} {M j m:Nat} {q:Int} {F:Nat->Rat} {f:Rat} {G:Nat->Pl}:cj T kS [] 60 sj [part uX [1,1]] ⟨aB k8 (qq M j),jq c q m F f j G,6⟩=
  let c1:Prop:=0<1;some (aj [c1,c1] (aj [c1] (leaf ret [agg [int i64 q,aq 3 m fun i=>rat (F (i+0)) 2000,aq 12 j fun i=>bD (G (i+0)) 8589934592]]))):=ag
theorem r5:bu P kS:=cz (aI ahJ (aI an8 (aI TS (aI QW (aI Ku (aI Ap (aI agw jU)))))))
theorem anw {c:Cu} {M j m q:Nat} {F:Nat->Rat} {f:Rat} {G:Nat->Pl} {cx:Ctx} {Q:ax->aK->Prop} (hk:Kept [] cx) (hc:Kn c.n c.p.toNat c.k) (hp1:1<=c.p) (hp6:c.p<=6) (hq:(q:Int)=c.p+1) (hn:c.n<2^20) (hm2:c.m<2^20) (hmn:m<2^20) (hj:j+q+1<m)
  (hG:tX c f m q F j=G j)
  (hQ:∀s',(∃ρ,Le cx ρ s' ⟨aB k8 (qq M j),jq c q m F f (j+1) G,6⟩)->au P cx sj.ntmps (part pT [1,1,1]) s' Q):
  au P cx sj.ntmps ql ⟨aB k8 (qq M j),jq c q m F f j G,6⟩ (inBlock 3 (dM (fun s'=>au P cx sj.ntmps (part pT [1,1,1]) s' Q) Q)):=by
 have hSB:sB=536870912:=rfl
 have hSE:bX=8589934592:=rfl
 obtain⟨a,ha⟩:∃a:Nat,a=fI c.n c.k (F (fC F m j)):=⟨_,rfl⟩
 have ha2:a<c.n:=by rw[ha];exact SP hc
 have hpc:=UY (k:=F) (n:=m) (i:=j) aa
 have hv:∀{rl:List (Nat×Nat)} {k x y y':Nat},bp rl 3=some 3->bp rl k=some x->y=y'->eZ rl (.agg [.int .i64 q,.own 3 3 0 m,.own x 12 0 y]) (.agg [.int .i64 q,.own 3 3 0 m,.own k 12 0 y']):=fun h0 h e=>gz ⟨aM,⟨rfl,bW h0 rfl rfl⟩,⟨rfl,bW h rfl e⟩,trivial⟩
 have wS:∀r,iO (r+1)=iO r+(64+sB)+1:=fun r=>by unfold iO;rw[hSB];omega
 have wL:∀r,r<=7->iO r<=bX:=fun r hr=>by unfold iO;rw[hSB,hSE];omega
 refine au.IG hT r5 hm (x:=ql) (y:=Bo) (x1:=Az) (zb:=part Bo [1,1,1]) (y2:=part Az [1,1,1,0,0]) [1,1,1,1,0,1] (i:=4) ag ag ag [1,1,0] (j:=5) ag ag ag [1,1,1] (i2:=6) ag ag rfl hk (f1:=[]) (f2:=[101]) (f3:=[]) (f4:=[]) (f5:=[]) 60 tR tZ 7 8
  (fun i:Nat=>FT M j a q i) (fun i=>(6,fe (jG f (iX c a q F j) i) (iO i))::jq c q m F f j G) (fun i=>i<=q) (fun i=>i=q) (fun i=>q-i) (fun i=>i<q) (fun _=>False) (fun _=>False)
  (fun i (b:Nat)=>FR M j a q i b) (fun i b=>FP (jG f (iX c a q F j) i) (iX c a q F j i) f (iO i) b++jq c q m F f j G) (fun _ b=>b<=4) (fun _ b=>b=4) (fun _ b=>4-b)
  ⟨_,agi,?_⟩ (fun i hi=>⟨_,aje,?_⟩) (fun i hi hG=>⟨_,VT,?_⟩) (fun i hi hG b hb=>?_) (fun i hi hG b hb=>?_) (fun i s' hi hle=>?_) (fun _ _ h=>h.elim) (fun _ _ h=>h.elim)
 ·simp only[ah.all,aA]
  have e1:((j:Int)+1).toNat=j+1:=aa
  have e2:((j:Int)+q+1).toNat=j+q+1:=aa
  have e3:j+q+1-(j+1)=q:=aa
  have h7:fC (fun i=>aL (rat (F i) 2000)) m j=fC F m j:=rfl
  have h8:fI c.n (fun i=>aL (rat (c.k i) 2000)) (F (fC F m j))=a:=ha.symm
  simp only[e1,e2,e3,Nat.zero_add,Nat.add_zero,bn,h7,h8]
  exact⟨⟨aa,aa,aa,aa,aa,aa,aa,aa,aa⟩,⟨aa,aa,aa,aa,bP (by decide),aa,aa,aa,⟨aa,hpc⟩,bP (by decide),by decide,hc,aa,aa⟩,0,Nat.zero_le _,[(0,0),(1,1),(2,2),(3,3),(4,4),(5,5),(6,126982)],rfl,rfl,rfl,aC (bk (aC (bk (bG rfl rfl (hv rfl rfl rfl) (aC (aC trivial))))))⟩
 ·simp only[ah.all,aA,bq,bw]
  exact⟨fun h=>⟨aa,[(0,0),(1,1),(2,2),(3,3),(4,4),(5,5),(6,6)],rfl,rfl,rfl,aC (bk (aC (bk (bG rfl rfl (hv rfl rfl rfl) (aC (aC trivial))))))⟩,fun h=>⟨rfl,i,aa,[(0,0),(1,1),(2,2),(3,3),(4,4),(5,5),(6,6)],rfl,rfl,rfl,aC (bk (aC (bk (bG rfl rfl (hv rfl rfl rfl) (aC (aC trivial))))))⟩⟩
 ·simp only[ah.all,aA]
  have hG:i<q:=hG
  exact⟨⟨aa,bP (by decide),aa,aa,aa,trivial,TN aY,aa,aa,trivial,bP (by decide),yb (by decide),bP (by decide),hp1,hp6,aa,aa,aa,aa,aa⟩,0,aa,[(0,0),(1,1),(2,2),(3,3),(4,4),(5,5),(6,6),(7,45063)],rfl,rfl,rfl,aC (aC (bk (aC (bk (bG rfl rfl (hv rfl rfl rfl) (aC (aC trivial)))))))⟩
 ·have hG:i<q:=hG
  have hb:b<=4:=hb
  have hw:=wL i aa
  have u1:(0:Int)<4:=by decide
  rcases(show b<4\/b=4 by omega)with hb4|rfl
  ·refine⟨_,Vo hb4,?_⟩
   simp only[ah.all,aA]
   exact⟨⟨aa,aa,aa,aa,aa,aa,aa,by show iO i<2^42;omega,aa,aa,aa⟩,aa,b+1,aa,by dsimp only;omega,[(0,0),(1,1),(2,2),(3,3),(4,4),(5,5),(6,6),(7,7)],rfl,rfl,rfl,aC (bG rfl rfl (cB (by rcases four hb4 with rfl|rfl|rfl|rfl<;>rfl) (by rcases four hb4 with rfl|rfl|rfl|rfl<;>rfl)) (bk (aC (bk (bG rfl rfl (hv rfl rfl rfl) (aC (aC trivial)))))))⟩
  ·exact⟨_,akU,rfl,4,rfl,[(0,0),(1,1),(2,2),(3,3),(4,4),(5,5),(6,6),(7,7)],rfl,rfl,rfl,aC (aC (bk (aC (bk (bG rfl rfl (hv rfl rfl rfl) (aC (aC trivial)))))))⟩
 ·have hb:b=4:=hb
  subst hb
  refine⟨_,alR,?_⟩
  simp only[ah.all,aA]
  have hG:i<q:=hG
  have hw:=Nat.le_of_eq (wS i).symm
  exact⟨aa,i+1,aa,by dsimp only;omega,[(0,0),(1,1),(2,2),(3,3),(4,4),(5,5),(6,6)],rfl,rfl,rfl,bG rfl rfl (.inr ⟨rfl,b7 (show fq [.rat _ _,.rat _ _,.rat _ _,.rat _ _] [.rat _ _,.rat _ _,.rat _ _,.rat _ _]from⟨bO rfl hw,bO rfl hw,bO rfl hw,bO rfl hw,trivial⟩)⟩) (bk (aC (bk (bG rfl rfl (hv rfl rfl rfl) (aC (aC trivial))))))⟩
 ·subst hi
  rw[show behind ql [1,1,1,1,0,1]=[part ql [1,1,1,1,1]]from by kernel_rfl]
  refine aH.weak rfl hle (aH.bC hT r5 hm 60 k8 abC ag ?_)
  simp only[ah.all,aA]
  refine⟨⟨aa,aa,aa,aa,aa⟩,fun s'' hs''=>hQ s'' (cU.le ⟨[(0,0),(1,1),(2,2),(3,3),(4,4),(5,16391)],rfl,rfl,rfl,bJ rfl rfl rfl (fun u hu=>pM (g:=fun j=>bD (G j) bX) (fun _ _=>⟨rfl,rfl⟩) rfl ?_ hu) (aC (bk (bG rfl rfl (hv rfl rfl rfl) (aC (aC trivial)))))⟩ hs'' hk)⟩
  show bN (bD (jG f (iX c a i F j) i) (iO i)) (bD (G j) bX)
  exact qO (by rw[<-hG,ha];rfl) (wL _ aa)
theorem FL {rl:List (Nat×Nat)} {l i s:Nat} {x:Nat->Rat} {t:Rat} (h1:t=x l) (h2:t=x (l+1)) (hi:i<l+1+1):eZ rl (if i<l+1 then(if i<l then .rat (x i) s else nth [.rat t s] (.rat 0 1) (i-l+0))else nth [.rat t s] (.rat 0 1) (i-(l+1)+0)) (.rat (x i) s):=by
 by_cases h:i<l+1
 ·rw[if_pos h]
  exact kU (y:=x) (fun _ _=>rfl) h1 aY aY h
 ·have:i=l+1:=aa
  subst this
  rw[if_neg h,Nat.sub_self,h2]
  exact cB rfl rfl
set_option maxHeartbeats 1000000 in
theorem Wy {c:Cu} (hc:Kn c.n c.p.toNat c.k) (hp1:1<=c.p) (hp6:c.p<=6) (hn:c.n<2^18) (hm2:c.m<2^18) (K:Nat):aQ P uM K [dY c 2000 4000] [] (aJ (dY (mJ c) 2000 bX) []):=by
 refine fc (r:=aJ (dY (mJ c) 2000 bX) []) hT QE rfl aX rfl (fun _ cx h00=>?_) K []
 have hk:=gV h00
 have hl:=hc.len
 have hq:c.p+1=((c.p.toNat+1:Nat):Int):=aa
 have hK:=B4 hc
 have hKl:=hK.len
 have hgl:=AL (k:=c.k) (n:=c.n) (i:=c.n)
 have hv:∀{rl:List (Nat×Nat)} {x y y':Nat} {q:Int},bp rl 3=some x->y=y'->eZ rl (.agg [.int .i64 q,.own x 3 0 y,.nil]) (.agg [.int .i64 q,.own 3 3 0 y',.nil]):=fun h e=>gz ⟨aM,⟨rfl,bW h rfl e⟩,aM,trivial⟩
 refine au.j4 hT r5 hm (x:=zY) [1,1,0,1] (i:=0) (y:=part zY [1,1,0,1,0,0]) (z:=uX) ag ag ag QE.dst hk (f1:=[]) (f2:=[24,40,50]) 60 Af 4
  (fun i:Nat=>vh c i) (fun i=>xq c ((c.p.toNat+1:Nat):Int) (i+bS c.k c.n i) (cR c.k c.n c.n)) (fun i=>i<=c.n) (fun i=>i=c.n) (fun i=>c.n-i) (fun _=>False) ⟨_,aiO,?_⟩ (fun i hi=>⟨_,Wn,?_⟩) (fun i hi=>?_) (fun _ _ h=>h.elim)
 ·simp only[ah.all,aA,hq]
  exact⟨⟨aa,aa,aa⟩,aa,0,Nat.zero_le _,[(0,0),(1,4096),(2,24576)],rfl,rfl,rfl,fV rfl aa aa (bG rfl rfl (gz ⟨aM,⟨rfl,jd aa⟩,aM,trivial⟩) (aC (aC trivial)))⟩
 ·have e1:((i:Int)+1).toNat=i+1:=aa
  have hgi:=AL (k:=c.k) (n:=c.n) (i:=i)
  simp only[ah.all,aA,bq,bw,cond_false,Bool.not_eq_true',Bool.not_eq_false',e1,bn]
  refine⟨fun h=>?_,fun h=>⟨rfl,i,aa,[(0,0),(1,1),(2,2),(3,3)],rfl,rfl,rfl,bk (bG rfl rfl (hv rfl rfl) (aC (aC trivial)))⟩⟩
  obtain⟨n1,n2⟩:=Q4 (k:=c.k) (n:=c.n) (i:=i) aa
  have dbl:(i+1=c.n\/c.k i≠c.k (i+1))->(i+1)+bS c.k c.n (i+1)=i+bS c.k c.n i+1+1/\c.k i=cR c.k c.n c.n (i+bS c.k c.n i+1):=fun g=>⟨by rw[zA g];omega,by rw[n2,if_pos g]⟩
  have one:¬(i+1=c.n\/c.k i≠c.k (i+1))->(i+1)+bS c.k c.n (i+1)=i+bS c.k c.n i+1:=fun g=>by rw[vi g];omega
  refine⟨⟨aa,aa⟩,⟨aa,aa,aa,aa,aa⟩,fun g=>⟨⟨aa,aa,g⟩,fun _=>⟨⟨aa,aa,aa,aa,aa⟩,aa,i+1,aa,by dsimp only;omega,?_⟩,fun g2=>absurd g2 (by decide)⟩,fun g=>⟨⟨aa,aa,g,aa,aa,aa,by have:=beq_eq_false_iff_ne.1 g;omega,aa,aa⟩,fun g2=>⟨⟨aa,aa,aa,aa,aa⟩,aa,i+1,aa,by dsimp only;omega,?_⟩,fun g2=>⟨aa,i+1,aa,by dsimp only;omega,?_⟩⟩⟩
  ·obtain⟨d1,d2⟩:=dbl (.inl (by have:=beq_iff_eq.1 g;omega))
   show cU [] _ (vh c (i+1)) (xq c ((c.p.toNat+1:Nat):Int) (i+1+bS c.k c.n (i+1)) (cR c.k c.n c.n)) 4
   rw[d1]
   exact⟨[(0,0),(1,1),(2,2),(3,143364)],rfl,rfl,rfl,bJ rfl rfl rfl (fun u hu=>FL n1.symm d2 hu) (bG rfl rfl (by exact hv rfl rfl) (aC (aC trivial)))⟩
  ·obtain⟨d1,d2⟩:=dbl (.inr g2)
   show cU [] _ (vh c (i+1)) (xq c ((c.p.toNat+1:Nat):Int) (i+1+bS c.k c.n (i+1)) (cR c.k c.n c.n)) 4
   rw[d1]
   exact⟨[(0,0),(1,1),(2,2),(3,143364)],rfl,rfl,rfl,bJ rfl rfl rfl (fun u hu=>FL n1.symm d2 hu) (bG rfl rfl (by exact hv rfl rfl) (aC (aC trivial)))⟩
  ·have g3:=one (fun g3=>g3.elim (fun g4=>beq_eq_false_iff_ne.1 g aa) fun g4=>g4 g2)
   show cU [] _ (vh c (i+1)) (xq c ((c.p.toNat+1:Nat):Int) (i+1+bS c.k c.n (i+1)) (cR c.k c.n c.n)) 4
   rw[g3]
   exact⟨[(0,0),(1,1),(2,2),(3,45060)],rfl,rfl,rfl,bJ rfl rfl rfl (fun u hu=>kU (y:=cR c.k c.n c.n) (fun _ _=>rfl) n1.symm aY aY hu) (bG rfl rfl (by exact hv rfl rfl) (aC (aC trivial)))⟩
 ·subst hi
  obtain⟨M,hM⟩:∃M,M=c.n+bS c.k c.n c.n-(c.p.toNat+1)-1:=⟨_,rfl⟩
  have eM:((c.n+bS c.k c.n c.n:Nat):Int)-((c.p.toNat+1:Nat):Int)-1=(M:Nat):=aa
  obtain⟨f,hf⟩:∃f:Rat,f=((1:Int):Rat)/(((c.p.toNat+1:Nat):Int):Rat):=⟨_,rfl⟩
  obtain⟨G,hG⟩:∃G:Nat->Pl,G=tX c f (c.n+bS c.k c.n c.n) (c.p.toNat+1) (cR c.k c.n c.n):=⟨_,rfl⟩
  refine au.tV hT r5 hm (x:=uX) [1,0,1] (i:=2) (y:=pT) (z:=part uX [1,1]) ag ag ag ag hk (f1:=[]) 60 k8 6
   (fun j:Nat=>qq M j) (fun j=>jq c ((c.p.toNat+1:Nat):Int) (c.n+bS c.k c.n c.n) (cR c.k c.n c.n) f j G) (fun j=>j<=M) (fun j=>j=M) (fun j=>M-j) (fun _=>False) ⟨_,aoD,?_⟩ (fun j hj=>?_) (fun j hj=>?_) (fun _ _ h=>h.elim)
  ·simp only[ah.all,aA,eM,<-hf]
   refine⟨⟨aa,aa,aa,aa,aa,aa⟩,⟨aa,aa,bP (by decide),aa,aa,aa⟩,0,Nat.zero_le _,[(0,0),(1,1),(2,2),(3,3),(4,24580)],rfl,rfl,rfl,fV rfl aa aa (aC (bk (bG rfl rfl (gz ⟨aM,⟨rfl,bW rfl rfl rfl⟩,⟨rfl,jd aa⟩,trivial⟩) (aC (aC trivial)))))⟩
  ·have hv2:∀{rl:List (Nat×Nat)} {y y':Nat},bp rl 3=some 3->bp rl 5=some 5->y=y'->eZ rl (.agg [.int .i64 ((c.p.toNat+1:Nat):Int),.own 3 3 0 (c.n+bS c.k c.n c.n),.own 5 12 0 y]) (.agg [.int .i64 ((c.p.toNat+1:Nat):Int),.own 3 3 0 (c.n+bS c.k c.n c.n),.own 5 12 0 y']):=fun h0 h e=>gz ⟨aM,⟨rfl,bW h0 rfl rfl⟩,⟨rfl,bW h rfl e⟩,trivial⟩
   have re:∀{V:List AV} {y:Nat},V.all (lG [(0,0),(1,1),(2,2),(3,3),(4,4),(5,5)])=true->V=V.map (mh [(0,0),(1,1),(2,2),(3,3),(4,4),(5,5)])->cU [] (V,[(5,⟨true,true,12,y,fun i=>bD (G i) bX⟩),(3,⟨true,false,3,c.n+bS c.k c.n c.n,fun i=>.rat (cR c.k c.n c.n i) 2000⟩),(4,tP f 64),(2,⟨false,true,3,1,fun _=>.agg [.int .i64 ((c.p.toNat+1:Nat):Int),.own 3 3 0 (c.n+bS c.k c.n c.n),.own 5 12 0 y]⟩),(1,ID),(0,LN c)]) V (jq c ((c.p.toNat+1:Nat):Int) (c.n+bS c.k c.n c.n) (cR c.k c.n c.n) f y G) 6:=fun {V y} h1 h2=>
    ⟨[(0,0),(1,1),(2,2),(3,3),(4,4),(5,5)],rfl,h2,h1,bk (aC (bk (bG rfl rfl (hv2 rfl rfl rfl) (aC (aC trivial)))))⟩
   refine au.ow hT r5 hm (y:=pT) (x1:=ql) (zb:=part pT [1,1,1]) [1,1,0] (j:=3) ag ag ag ag hk (f1:=[70]) 60 k8 6 (fun _:Unit=>qq M j) (fun _=>jq c ((c.p.toNat+1:Nat):Int) (c.n+bS c.k c.n c.n) (cR c.k c.n c.n) f j G) (fun _=>j<M) ⟨_,W0,?_⟩ (fun _ hj'=>?_)
   ·simp only[ah.all,aA,bq,bw]
    exact⟨fun h1=>⟨(),aa,re rfl rfl⟩,fun h1 s' hs'=>⟨rfl,j,aa,(re rfl rfl).le hs' hk⟩⟩
   have hj':j<M:=hj'
   refine anw hk hc hp1 hp6 aa aa aa aa aa (by rw[hG]) fun s' hle=>?_
   refine au.jn hle (au.bC hT r5 hm 60 k8 ac0 ag ?_)
   simp only[ah.all,aA]
   exact⟨aa,fun s'' hs''=>⟨j+1,aa,by dsimp only;omega,cU.le (re rfl rfl) hs'' hk⟩⟩
  ·subst hj
   refine au.gr ((aH.fin hT r5 hm 60 anE ag ?_).mono fun _ _ h=>.inl h)
   simp only[ah.all,aA]
   refine⟨⟨aa,aa⟩,aa,b7 ⟨bK hq.symm,dS fun i _=>.refl _,nv hM fun i _=>?_,trivial⟩⟩
   rw[hG,hf,<-hq];rfl
abbrev fZ (c:Cu):Cu:=⟨c.p,c.n,c.k,c.m,fun i=>cP (c.f i)⟩
abbrev Hv (c:Cu):Cu:=⟨c.p,c.n,c.k,c.m,fun i=>dU (c.f i)⟩
def O4:Spec:=cq (kC (Bw bX) kN) (fun a=>bh (dU a.1) (bX+bX)) fun _=>[]
def nJ (c:Cu):Int:=if 6<=c.p then 7 else 0
def eH (c:Cu):Cu:=if 6<=c.p then pz else Hv (mJ (fZ c))
theorem Wp:aW P O4 qJ:=ck fun⟨h,_⟩ K _=>LR (by decide) (by decide) (by decide) K
theorem Ut:aT P Dj Fo (ay Fo):=aU Proofs.Tryz.func130 ag ag ag
theorem abD:aT P pX EN (ay EN):=aU Proofs.Tryz.func131 ag ag ag
def j6 (c:Cu):Prop:=Kn c.n c.p.toNat c.k/\1<=c.p/\c.p<=6/\c.n<2^18/\c.m<2^18
def OK:bf:=nG::(MI,Qx)::[]
def O3:Spec:=cq (kC (sA 2000 4000) (kC (JU (gN 2000)) kN)) (fun a=>dY (qc a.1 a.2.1) sK bX) fun a=>[j6 a.1]
def Rh:Spec:=cq (kC (sA 2000 4000) kN) (fun a=>dY (mJ a.1) sK bX) fun a=>[j6 a.1]
def tE:bf:=nG::(vu,F3 sK 4200)::(Ag,HZ)::(pX,O3)::(uM,Rh)::(qJ,O4)::(ua,EB)::[]
abbrev iM (b:Bool) (t:Rat):AV:=bif b then .func pX [.b6 (.rat t 2000)]else .func uM []
abbrev fB (b:Bool) (t:Rat) (c:Cu):Cu:=bif b then qc c t else mJ c
abbrev Ai:Code:=ay Fo
abbrev xX:Code:=part Ai [1,1,1,0,1,0,0]
abbrev yP:Code:=part xX [1,1,0,0]
abbrev tM:List Nat:=[4,1,5,6,20,21,22]
abbrev sN (w:AV) (s:Sf) (j:Nat):List AV:=[.ptr 0 0 5 0 [],w,.ptr 1 0 5 0 [],.own 2 1 0 j,k9 s s.m,.int .i64 s.m,.int .i64 j]
abbrev ov (s:Sf) (u:Int) (a:Nat) (k:Nat->Rat) (n:Nat) (g:Nat->Nat->Pl) (j:Nat):aE:=[(2,⟨true,true,1,j,fun j=>bH (g j) n (bX+bX)⟩),(1,⟨false,true,5,1,fun _=>.agg [.int .i64 u,.int .i64 s.v,br k a 4200,br s.kv s.b 4200,.nil]⟩),(0,⟨false,true,5,1,fun _=>.agg [.int .i64 0,.int .i64 0,.nil,.nil,.nil]⟩)]
abbrev A7:List Nat:=[4,1,5,6,20,21,22,10,37,38,39]
abbrev Lm (w:AV) (s:Sf) (n:Nat) (h:Nat->Pl) (j i:Nat):List AV:=[.ptr 0 0 5 0 [],w,.ptr 1 0 5 0 [],.own 2 1 0 j,k9 s s.m,.int .i64 s.m,.int .i64 j,.own 3 12 0 i,pU h n bX,.int .i64 n,.int .i64 i]
abbrev BI (s:Sf) (u:Int) (a:Nat) (k:Nat->Rat) (n:Nat) (h:Nat->Pl) (g:Nat->Nat->Pl) (j i:Nat):aE:=(3,⟨true,true,12,i,fun i=>bh (dU (h i)) (bX+bX)⟩)::ov s u a k n g j
theorem YB {c:Cu} {t:Rat}:bU T OK [] 60 EN (ay EN) ⟨aP 0 [dY c 2000 4000,.b6 (.rat t 2000)],[],0⟩=
  let o:Prop:=0<1;some (aj [o,bt (fun i=>.rat (c.k i) 2000) c.n 2000,mA (fun i=>bD (c.f i) 4000) c.m 4000,2000<=2000,Kn c.n c.p.toNat c.k,1<=c.p,c.p<=6,c.n<2^28,c.m<2^40,o] (aj [o] (leaf .ret [dY (qc c t) sK sB]))):=ag
theorem aaJ {s:Sf} {t:Rat} {b:Bool}:aG T tE [] 60 tM (before Ai [1,1,1,0,1]) ⟨aP 0 [aZ s 2000 2000,iM b t],[],0⟩=
  let z:AV:=.agg [.int .i64 0,.int .i64 0,.nil,.nil,.nil];let o:Prop:=0<1;some (aj [o,o,bt (fun i=>.rat (s.kv i) 2000) s.b sK,sK+10<=4200,4200<2^40,s.b<2^40,o] (aj [o,bt (fun i=>.rat (s.ku i) 2000) s.a 2000,bt (fun i=>.rat (s.kv i) 2000) s.b 2000,ec (fun i=>bH (s.f i) s.m 2000) s.n 2000,1<=s.n,s.n<2^28,s.m<2^28] (leaf .normal ([.ptr 4096 0 5 0 [],iM b t,.ptr 32768 0 5 0 [],.nil,k9 s s.m,.int .i64 s.m,.int .i64 0],[(32768,⟨false,true,5,1,fun j=>if(j==0)=true then aV (.agg ((z.kids.set 1 (aV (.int .i64 s.v))).set 3 (aV (br s.kv s.b 4200))))else z⟩),(4096,⟨false,true,5,1,fun _=>z⟩)])))):=by cases b<;>kernel_rfl
theorem ZL {s:Sf} {t:Rat} {b:Bool} {u:Int} {a n j:Nat} {k:Nat->Rat} {g:Nat->Nat->Pl}:aG T tE [23] 60 tM (before xX [1,1,0]) ⟨aB tM (sN (iM b t) s j),ov s u a k n g j,3⟩=
  let x:List AV×aE:=(sN (iM b t) s j,ov s u a k n g j);some (fork (decide ((j:Int)<(s.m:Int))) (leaf .normal x) (leaf (.exit 0) x)):=by cases b<;>kernel_rfl
theorem ag6 {s:Sf} {t:Rat} {b:Bool} {u:Int} {a n j:Nat} {k:Nat->Rat} {g:Nat->Nat->Pl}:aG T tE [] 60 A7 (before yP [1,1,1,1,0,1]) ⟨aB tM (sN (iM b t) s j),ov s u a k n g j,3⟩=
  let c:=cC s j;let d:=fB b t c;let z:AV:=.agg [.int .i64 u,.int .i64 s.v,br k a 4200,br s.kv s.b 4200,.nil];let y:AV:=.agg (z.kids.set 0 (aV (.int .i64 d.p)));let o:Prop:=0<1;let R:=bt (fun i=>.rat (s.ku i) 2000) s.a 2000;let H:=mA (fun i=>bD (c.f i) 4000) s.n 4000;some (aj [(0:Int)<=j/\j<s.m,o] (aj (bif b then [o,R,H,2000<=2000,j6 c,o]else [o,R,H,j6 c,o]) (aj [o,o,bt (fun i=>.rat (d.k i) sK) d.n sK,sK+10<=4200,4200<2^40,d.n<2^40,o,o] (aj [o] (leaf .normal ([.ptr 0 0 5 0 [],iM b t,.ptr 1 0 5 0 [],.own 2 1 0 j,k9 s s.m,.int .i64 s.m,.int .i64 j,.nil,pU d.f d.m bX,.int .i64 d.m,.int .i64 0],[(2,⟨true,true,1,j,fun j=>bH (g j) n (bX+bX)⟩),(1,⟨false,true,5,1,fun j=>if(j==0)=true then .agg ((if((0:Nat)==0)=true then y else z).kids.set 2 (aV (br d.k d.n 4200)))else if(j==0)=true then y else z⟩),(0,⟨false,true,5,1,fun _=>.agg [.int .i64 0,.int .i64 0,.nil,.nil,.nil]⟩)])))))):=by cases b<;>kernel_rfl
theorem Y5 {s:Sf} {t:Rat} {b:Bool} {u:Int} {a n j i:Nat} {k:Nat->Rat} {h:Nat->Pl} {g:Nat->Nat->Pl}:aG T tE [40] 60 A7 [part yP [1,1,1,1,0,1,0,0]] ⟨aB A7 (Lm (iM b t) s n h j i),BI s u a k n h g j i,4⟩=
  let l:=bX+bX;let q:Int:=(i:Int)+1;let p:=h i;let o:Prop:=bX<=bX;let V:AV->Int->List AV:=fun x y=>[.ptr 0 0 5 0 [],iM b t,.ptr 1 0 5 0 [],.own 2 1 0 j,k9 s s.m,.int .i64 s.m,.int .i64 j,x,pU h n bX,.int .i64 n,.int .i64 y];some (fork (decide ((i:Int)<n)) (aj [(0:Int)<=i/\i<n,0<1] (aj [0<1,o,o,o,o,1*12<=2^24,(i+1)*(224+1)*2<=2^47] (aj [-2^63<=q/\q<2^63] (leaf .normal (V (.own 36868 12 0 (i+1)) q,(36868,⟨true,true,12,i+1,fun r=>if r<i then bh (dU (h r)) l else nth [bh (dU p) l] (.agg [.agg [.rat 0 1,.rat 0 1,.rat 0 1],.rat 0 1]) (r-i+0)⟩)::ov s u a k n g j))))) (leaf (.exit 2) (V (.own 3 12 0 i) i,BI s u a k n h g j i))):=by cases b<;>kernel_rfl
theorem ab2 {s:Sf} {t:Rat} {b:Bool} {u:Int} {a n j i:Nat} {k:Nat->Rat} {h:Nat->Pl} {g:Nat->Nat->Pl}:aG T tE [] 60 tM (behind yP [1,1,1,1,0,1]++[part xX [1,1,1]]) ⟨aB A7 (Lm (iM b t) s n h j i),BI s u a k n h g j i,4⟩=
  let y:Int:=(j:Int)+1;some (aj [1*1<=2^24,(j+1)*(24+1)*2<=2^47] (aj [-2^63<=y/\y<2^63] (leaf .normal ([.ptr 0 0 5 0 [],iM b t,.ptr 1 0 5 0 [],.own 12292 1 0 (j+1),k9 s s.m,.int .i64 s.m,.int .i64 y],(12292,⟨true,true,1,j+1,fun r=>if r<j then bH (g r) n (bX+bX)else nth [.aq 12 i fun i=>bh (dU (h (i+0))) (bX+bX)] .nil (r-j+0)⟩)::(ov s u a k n g j).tail)))):=by cases b<;>kernel_rfl
theorem adl {s:Sf} {t:Rat} {b:Bool} {u:Int} {a n j:Nat} {k:Nat->Rat} {g:Nat->Nat->Pl}:cj T tE [] 60 Fo [part Ai [1,1,1,1]] ⟨aB tM (sN (iM b t) s j),ov s u a k n g j,3⟩=
  let l:=bX+bX;let o:Prop:=0<1;some (aj [ec (fun i=>bH (g (i+0)) n l) j l,j=0->n=0,j<2^28,n<2^28,o] (aj [o,o] (aj [o] (leaf .ret [aZ ⟨u,s.v,a,k,s.b,s.kv,n,j,fun i j=>g (j+0) i⟩ 4200 l])))):=by cases b<;>kernel_rfl
theorem aa4:bu P OK:=cz (aI ak0 bz)
theorem aeR:aW P O3 pX:=ck fun⟨c,t,_⟩ K hn=>by
 obtain⟨h1,h2,h3,h4,h5⟩:j6 c:=hn
 refine bZ (r:=aJ (dY (qc c t) sK bX) []) hT aa4 hm abD rfl aX rfl 60 YB (fun _=>?_) K []
 simp only[ah.all,aA]
 (repeat' with_reducible refine And.intro ?_ ?_)
 all_goals first|omega|exact bP (by decide)|exact yb (by decide)|exact h1|skip
 exact b7 ⟨.refl _,.refl _,dS fun i _=>qO rfl (by decide),trivial⟩
theorem Xk:aW P Rh uM:=ck fun⟨c,_⟩ K hn=>by
 obtain⟨h1,h2,h3,h4,h5⟩:j6 c:=hn
 exact EO (u:=dY (mJ c) 2000 bX) (l:=[]) (Wy h1 h2 h3 h4 h5 K) (fun h=>trivial) rfl rfl (b7 ⟨.refl _,dS fun i _=>bO rfl (by decide),.refl _,trivial⟩)
theorem P2:bu P tE:=cz (aI (HF _ _) (aI PU (aI aeR (aI Xk (aI Wp (aI JH bz))))))
def nN {α:Type} (a b:α):Nat->α
 |0=>a
 |_+1=>b
theorem aoK {α:Type} {a b:α}:∀{n:Nat},1<=n->nN a b n=b
 |0,h=>absurd h aa
 |_+1,_=>rfl
def qi (b:Bool) (t:Rat) (s:Sf):Sf:=⟨(fB b t (cC s 0)).p,s.v,(fB b t (cC s 0)).n,(fB b t (cC s 0)).k,s.b,s.kv,(fB b t (cC s 0)).m,s.m,fun i j=>dU ((fB b t (cC s j)).f i)⟩
theorem vr {b:Bool} {t:Rat} {c:Cu}:(fB b t c).n<=c.n+c.n+1/\(fB b t c).m<=c.n+c.n+1:=by
 cases b
 ·have hg:=AL (k:=c.k) (n:=c.n) (i:=c.n)
  exact⟨show c.n+bS c.k c.n c.n<=_ by omega,show c.n+bS c.k c.n c.n-(c.p.toNat+1)-1<=_ by omega⟩
 ·exact⟨show c.n+1<=_ by omega,show c.n+1-c.p.toNat-1<=_ by omega⟩
theorem SQ {b:Bool} {t:Rat} {s:Sf} {j:Nat}:(fB b t (cC s j)).p=bif b then s.u else s.u+1:=by cases b<;>rfl
theorem SA {b:Bool} {t:Rat} {s:Sf} {j:Nat}:(fB b t (cC s j)).n=bif b then s.a+1 else s.a+bS s.ku s.a s.a:=by cases b<;>rfl
theorem BQ {b:Bool} {t:Rat} {s:Sf} {j:Nat}:(fB b t (cC s j)).m=bif b then s.a+1-s.u.toNat-1 else s.a+bS s.ku s.a s.a-(s.u.toNat+1)-1:=by cases b<;>rfl
theorem NM {b:Bool} {t:Rat} {s:Sf} {j:Nat}:(fB b t (cC s j)).k=bif b then dK s.ku t (dB s.ku t s.a)else cR s.ku s.a s.a:=by cases b<;>rfl
set_option maxHeartbeats 1000000 in
theorem Ou {b:Bool} {s:Sf} {t:Rat} (hs:j6 (cC s 0)) (hm1:1<=s.m) (hm2:s.m<2^28) (hb:s.b<2^28) (hn1:1<=s.n) (K:Nat):aQ P Dj K [aZ s 2000 2000,iM b t] [] (aJ (aZ (qi b t s) 4200 (bX+bX)) []):=by
 refine fc (r:=aJ (aZ (qi b t s) 4200 (bX+bX)) []) hT Ut (by cases b<;>rfl) aX rfl (fun _ cx h00=>?_) K []
 have hk:=gV h00
 obtain⟨q1,q2,q3,q4,q5⟩:=id hs
 have q4:s.a<2^18:=q4
 have q5:s.n<2^18:=q5
 obtain⟨z1,z2⟩:=vr (b:=b) (t:=t) (c:=cC s 0)
 have z1:(fB b t (cC s 0)).n<=s.a+s.a+1:=z1
 have z2:(fB b t (cC s 0)).m<=s.a+s.a+1:=z2
 obtain⟨d,hd⟩:∃d,d=fB b t (cC s 0):=⟨_,rfl⟩
 rw[<-hd]at z1 z2
 have eP:∀j,(fB b t (cC s j)).p=d.p:=fun j=>by rw[hd,SQ,SQ]
 have eN:∀j,(fB b t (cC s j)).n=d.n:=fun j=>by rw[hd,SA,SA]
 have eM:∀j,(fB b t (cC s j)).m=d.m:=fun j=>by rw[hd,BQ,BQ]
 have eK:∀j,(fB b t (cC s j)).k=d.k:=fun j=>by rw[hd,NM,NM]
 have ok1:∀rl,lG rl (iM b t)=true:=fun rl=>by cases b<;>rfl
 have PI:∀rl,mh rl (iM b t)=iM b t:=fun rl=>by cases b<;>rfl
 refine au.wR hT P2 hm (x:=Ai) [1,1,1,0,1] (i:=0) (y:=xX) (z:=part Ai [1,1,1,1]) ag ag ag Ut.dst [1,1,0] (j:=1) (x1:=yP) (zb:=part xX [1,1,1]) ag ag ag [1,1,1,1,0,1] (i2:=2) (y2:=part yP [1,1,1,1,0,1,0,0]) ag ag rfl
  hk (f1:=[]) (f2:=[23]) (f3:=[]) (f4:=[40]) (f5:=[]) 60 tM A7 3 4 (fun j:Nat=>sN (iM b t) s j) (fun j=>ov s (nN 0 d.p j) (nN 0 d.n j) (nN (fun _=>0) d.k j) d.m (fun j i=>dU ((fB b t (cC s j)).f i)) j) (fun j=>j<=s.m) (fun j=>j=s.m) (fun j=>s.m-j) (fun j=>j<s.m) (fun _=>False) (fun _=>False)
  (fun j (i:Nat)=>Lm (iM b t) s d.m (fB b t (cC s j)).f j i) (fun j i=>BI s d.p d.n d.k d.m (fB b t (cC s j)).f (fun j i=>dU ((fB b t (cC s j)).f i)) j i) (fun _ i=>i<=d.m) (fun _ i=>i=d.m) (fun _ i=>d.m-i) ⟨_,aaJ,?_⟩ (fun j hj=>⟨_,ZL,?_⟩) (fun j hj hg=>⟨_,ag6,?_⟩) (fun j hj hg i hi=>⟨_,Y5,?_⟩) (fun j hj hg i hi=>⟨_,ab2,?_⟩) (fun j hj=>?_) (fun _ _ h=>h.elim) (fun _ _ h=>h.elim)
 all_goals try simp only[ah.all,aA,bq,bw,bn,Nat.add_zero]
 ·exact⟨⟨aa,aa,bP (by decide),by decide,by decide,aa,aa⟩,⟨aa,bP (by decide),bP (by decide),gh (by decide),aa,aa,aa⟩,0,Nat.zero_le _,[(0,4096),(1,32768)],by cases b<;>rfl,by cases b<;>rfl,by cases b<;>rfl,fV rfl aa aa (bG rfl rfl (.inr ⟨rfl,b7 ⟨.refl _,.refl _,ic aa,.refl _,.refl _,trivial⟩⟩) (aC trivial))⟩
 ·have re:cU [] (sN (iM b t) s j,ov s (nN 0 d.p j) (nN 0 d.n j) (nN (fun x=>0) d.k j) d.m (fun j i=>dU ((fB b t (cC s j)).f i)) j) (sN (iM b t) s j) (ov s (nN 0 d.p j) (nN 0 d.n j) (nN (fun x=>0) d.k j) d.m (fun j i=>dU ((fB b t (cC s j)).f i)) j) 3:=⟨[(0,0),(1,1),(2,2)],by cases b<;>rfl,by cases b<;>rfl,by cases b<;>rfl,bk (aC (aC trivial))⟩
  exact⟨fun h=>⟨aa,re⟩,fun h=>⟨rfl,j,aa,re⟩⟩
 ·rw[eM,eN,eK,eP]
  refine⟨aa,?_,⟨aa,aa,bP (by decide),by decide,by decide,aa,aa,aa⟩,aa,0,Nat.zero_le _,[(0,0),(1,1),(2,2)],by cases b<;>rfl,by cases b<;>rfl,by cases b<;>rfl,fV rfl aa aa (bk (aC (aC trivial)))⟩
  cases b
  ·exact⟨Nat.zero_lt_one,bP (by decide),yb (by decide),hs,Nat.zero_lt_one⟩
  ·exact⟨Nat.zero_lt_one,bP (by decide),yb (by decide),aY,hs,Nat.zero_lt_one⟩
 ·refine⟨fun h=>⟨aa,⟨aa,aa,aa,aa,aa,aa,aa⟩,aa,i+1,aa,by dsimp only;omega,[(0,0),(1,1),(2,2),(3,36868)],by cases b<;>rfl,by cases b<;>rfl,by cases b<;>rfl,bJ rfl rfl rfl (fun k hk=>pM (g:=fun i=>bh (dU ((fB b t (cC s j)).f i)) (bX+bX)) (fun _ _=>⟨rfl,rfl⟩) rfl (.refl _) hk) (bk (aC (aC trivial)))⟩,
   fun h=>⟨rfl,i,aa,[(0,0),(1,1),(2,2),(3,3)],by cases b<;>rfl,by cases b<;>rfl,by cases b<;>rfl,bk (bk (aC (aC trivial)))⟩⟩
 ·subst hi
  exact⟨⟨aa,aa⟩,aa,j+1,aa,by dsimp only;omega,[(0,0),(1,1),(2,12292)],by cases b<;>rfl,by cases b<;>rfl,by cases b<;>rfl,bJ rfl rfl rfl (fun k hk=>rowAt (g:=fun j=>bH (fun i=>dU ((fB b t (cC s j)).f i)) d.m (bX+bX)) hk rfl rfl) (aC (aC trivial))⟩
 ·subst hj
  refine au.gr ((aH.fin hT P2 hm 60 adl (by cases b<;>kernel_rfl) ?_).mono fun _ _ h=>.inl h)
  simp only[ah.all,aA,aoK hm1,Nat.add_zero]
  refine⟨⟨gh aY,aa,aa,aa,aa⟩,aa,aa,?_⟩
  unfold qi
  rw[<-hd]
  exact .refl _
theorem T9:aT P Cx GI (ay GI):=aU Proofs.Tryz.func223 ag ag ag
def mT:bf:=nG::(IB++nY)
abbrev vm:Code:=ay GI
abbrev AE:Code:=part vm [1,1,0,1,0,0]
abbrev ru:Code:=part AE [1,0,0]
def cD (c:Cu) (a j:Nat):Rat:=gP (cP (c.f j)) a
abbrev Gs (c:Cu) (a n:Nat):ak:=⟨true,true,3,n,fun j=>.rat (cD c a j) 4000⟩
abbrev uv:List Nat:=[1,2,3,4]
abbrev DZ (i:Nat):List AV:=[.ptr 0 0 3 0 [],.ptr 1 0 4 0 [],.ptr 2 0 4 0 [],.int .i64 i]
abbrev nE (c:Cu) (n0 n1 n2 n3:Nat):aE:=[(6,Gs c 3 n3),(5,Gs c 2 n2),(4,Gs c 1 n1),(3,Gs c 0 n0),(2,⟨false,true,4,1,fun _=>.agg [.own 3 3 0 n0,.own 4 3 0 n1,.own 5 3 0 n2,.own 6 3 0 n3]⟩),(1,⟨false,true,4,1,fun _=>.agg [.nil,.nil,.nil,.nil]⟩),(0,⟨false,true,3,1,fun _=>bV c 2000 2000⟩)]
abbrev lT:List Nat:=[1,2,3,4,5,6]
abbrev rO (i b:Nat):List AV:=[.ptr 0 0 3 0 [],.ptr 1 0 4 0 [],.ptr 2 0 4 0 [],.int .i64 i,.ptr 7 0 12 0 [],.int .i64 b]
theorem Wc {c:Cu}:aG T mT [] 60 uv (before vm [1,1,0,1]) ⟨aP 0 [bV c 2000 2000],[],0⟩=
  let c2:Nat:=(aV (bV c 2000 2000)).size;let c1:ak:=ak.mk false true 4 1 fun x=>agg [nil,nil,nil,nil];some (leaf normal ([ptr 0 0 c2 0 [],ptr 4096 0 4 0 [],ptr 8192 0 4 0 [],int i64 0],[((8192:Nat),c1),((4096:Nat),c1),(0,ak.mk false true c2 1 fun x=>bV c 2000 2000)])):=ag
theorem ZI {c:Cu} {i:Nat}:aG T mT [11] 60 uv (before AE [1,0]) ⟨aB uv (DZ i),nE c i i i i,7⟩=
  let c1:List AV×aE:=([ptr 0 0 3 0 [],ptr 1 0 4 0 [],ptr 2 0 4 0 [],int i64 (↑i:Int)],[(6,ak.mk true true 3 i fun j=>rat (cD c 3 j) 4000),(5,ak.mk true true 3 i fun j=>rat (cD c 2 j) 4000),(4,ak.mk true true 3 i fun j=>rat (cD c 1 j) 4000),(3,ak.mk true true 3 i fun j=>rat (cD c 0 j) 4000),(2,ak.mk false true 4 1 fun x=>agg [own 3 3 0 i,own 4 3 0 i,own 5 3 0 i,own 6 3 0 i]),(1,ak.mk false true 4 1 fun x=>agg [nil,nil,nil,nil]),((0:Nat),aS fun x=>bV c 2000 2000)]);some (aj [(0:Nat)<1] (fork (decide ((↑i:Int)<(↑c.m:Int))) (leaf normal c1) (leaf (exit 0) c1))):=ag
theorem aiT {c:Cu} {i:Nat}:aG T mT [] 60 lT (before ru [1,1]) ⟨aB uv (DZ i),nE c i i i i,7⟩=
  let c5:Int:=(↑i:Int);let c4:Nat:=2000+2000;let c3:Prop:=0<1;let c2:AV:=rat 0 1;let c1:Pl:=c.f c5.toNat;some (aj [c3,(0:Int)<=c5/\c5.toNat<c.m,c3,c3,c3] (leaf normal ([ptr 0 0 3 0 [],ptr 1 0 4 0 [],ptr 2 0 4 0 [],int i64 c5,ptr 24583 0 12 0 [],int i64 0],[(6,ak.mk true true 3 i fun j=>rat (cD c 3 j) 4000),(5,ak.mk true true 3 i fun j=>rat (cD c 2 j) 4000),(4,ak.mk true true 3 i fun j=>rat (cD c 1 j) 4000),(3,ak.mk true true 3 i fun j=>rat (cD c 0 j) 4000),(24583,ak.mk false true 12 1 fun j=>if(j==0)=true then aV (agg [rat (c1.d*c1.n.x) c4,rat (c1.d*c1.n.y) c4,rat (c1.d*c1.n.z) c4,rat c1.d 2000])else agg [c2,c2,c2,c2]),(2,ak.mk false true 4 1 fun x=>agg [own 3 3 0 i,own 4 3 0 i,own 5 3 0 i,own 6 3 0 i]),(1,ak.mk false true 4 1 fun x=>agg [nil,nil,nil,nil]),((0:Nat),aS fun x=>bV c 2000 2000)]))):=ag
theorem ZC {c:Cu} {i:Nat} {h:Pl}:aG T mT [] 60 lT [part ru [1,1,0,0]] ⟨aB lT (rO i 0),(7,fe h 4000)::nE c i i i i,8⟩=
  let c4:Prop:=0<1;let c3:Int:=(↑(0:Nat):Int);let c1:AV:=agg [own 3 3 0 i,own 4 3 0 i,own 5 3 0 i,own 6 3 0 i];let c2:Prop:=(0:Int)<=c3/\c3<(↑(4:Nat):Int);some (aj [c2,c4,c2,c4,(1:Nat)*3<=2^24,(i+1)*((56:Nat)+1)*2<=2^47,c2,c4] (aj [-(2:Int)^63<=c3+1/\c3+1<(2:Int)^63] (leaf normal ([ptr 0 0 3 0 [],ptr 1 0 4 0 [],ptr 2 0 4 0 [],int i64 (↑i:Int),ptr 7 0 12 0 [],int i64 1],[(6,ak.mk true true 3 i fun j=>rat (cD c 3 j) 4000),(5,ak.mk true true 3 i fun j=>rat (cD c 2 j) 4000),(4,ak.mk true true 3 i fun j=>rat (cD c 1 j) 4000),(40968,ak.mk true true 3 (i+1) fun i_1=>if i_1<i then rat (cD c 0 i_1) 4000 else nth [rat h.n.x 4000] (rat 0 1) (i_1-i+0)),(7,ak.mk false true 12 1 fun x=>bD h 4000),(2,ak.mk false true 4 1 fun j=>if(j==0)=true then agg (c1.kids.set c3.toNat (aV (own (nat_lit 40967+1) 3 0 (i+1))))else c1),(1,ak.mk false true 4 1 fun x=>agg [nil,nil,nil,nil]),((0:Nat),aS fun x=>bV c 2000 2000)])))):=ag
theorem aoL {c:Cu} {i:Nat} {h:Pl}:aG T mT [] 60 lT [part ru [1,1,0,0]] ⟨aB lT (rO i 1),(7,fe h 4000)::nE c (i+1) i i i,8⟩=
  let c5:Prop:=0<1;let c4:Nat:=i+1;let c3:Int:=(↑(1:Nat):Int);let c2:Prop:=(0:Int)<=c3/\c3<(↑(4:Nat):Int);let c1:AV:=agg [own 3 3 0 c4,own 4 3 0 i,own 5 3 0 i,own 6 3 0 i];some (aj [c2,c5,c2,c5,(1:Nat)*3<=2^24,c4*((56:Nat)+1)*2<=2^47,c2,c5] (aj [-(2:Int)^63<=c3+1/\c3+1<(2:Int)^63] (leaf normal ([ptr 0 0 3 0 [],ptr 1 0 4 0 [],ptr 2 0 4 0 [],int i64 (↑i:Int),ptr 7 0 12 0 [],int i64 2],[(6,ak.mk true true 3 i fun j=>rat (cD c 3 j) 4000),(5,ak.mk true true 3 i fun j=>rat (cD c 2 j) 4000),(40968,ak.mk true true 3 c4 fun i_1=>if i_1<i then rat (cD c 1 i_1) 4000 else nth [rat h.n.y 4000] (rat 0 1) (i_1-i+0)),(3,ak.mk true true 3 c4 fun j=>rat (cD c 0 j) 4000),(7,ak.mk false true 12 1 fun x=>bD h 4000),(2,ak.mk false true 4 1 fun j=>if(j==0)=true then agg (c1.kids.set c3.toNat (aV (own (nat_lit 40967+1) 3 0 c4)))else c1),(1,ak.mk false true 4 1 fun x=>agg [nil,nil,nil,nil]),((0:Nat),aS fun x=>bV c 2000 2000)])))):=ag
theorem W2 {c:Cu} {i:Nat} {h:Pl}:aG T mT [] 60 lT [part ru [1,1,0,0]] ⟨aB lT (rO i 2),(7,fe h 4000)::nE c (i+1) (i+1) i i,8⟩=
  let c5:Prop:=0<1;let c4:Int:=(↑(2:Nat):Int);let c3:Nat:=i+1;let c2:Prop:=(0:Int)<=c4/\c4<(↑(4:Nat):Int);let c1:AV:=agg [own 3 3 0 c3,own 4 3 0 c3,own 5 3 0 i,own 6 3 0 i];some (aj [c2,c5,c2,c5,(1:Nat)*3<=2^24,c3*((56:Nat)+1)*2<=2^47,c2,c5] (aj [-(2:Int)^63<=c4+1/\c4+1<(2:Int)^63] (leaf normal ([ptr 0 0 3 0 [],ptr 1 0 4 0 [],ptr 2 0 4 0 [],int i64 (↑i:Int),ptr 7 0 12 0 [],int i64 3],[(6,ak.mk true true 3 i fun j=>rat (cD c 3 j) 4000),(40968,ak.mk true true 3 c3 fun i_1=>if i_1<i then rat (cD c 2 i_1) 4000 else nth [rat h.n.z 4000] (rat 0 1) (i_1-i+0)),(4,ak.mk true true 3 c3 fun j=>rat (cD c 1 j) 4000),(3,ak.mk true true 3 c3 fun j=>rat (cD c 0 j) 4000),(7,ak.mk false true 12 1 fun x=>bD h 4000),(2,ak.mk false true 4 1 fun j=>if(j==0)=true then agg (c1.kids.set c4.toNat (aV (own (nat_lit 40967+1) 3 0 c3)))else c1),(1,ak.mk false true 4 1 fun x=>agg [nil,nil,nil,nil]),((0:Nat),aS fun x=>bV c 2000 2000)])))):=ag
theorem akr {c:Cu} {i:Nat} {h:Pl}:aG T mT [] 60 lT [part ru [1,1,0,0]] ⟨aB lT (rO i 3),(7,fe h 4000)::nE c (i+1) (i+1) (i+1) i,8⟩=
  let c5:Prop:=0<1;let c4:Int:=(↑(3:Nat):Int);let c3:Nat:=i+1;let c2:Prop:=(0:Int)<=c4/\c4<(↑(4:Nat):Int);let c1:AV:=agg [own 3 3 0 c3,own 4 3 0 c3,own 5 3 0 c3,own 6 3 0 i];some (aj [c2,c5,c2,c5,(1:Nat)*3<=2^24,c3*((56:Nat)+1)*2<=2^47,c2,c5] (aj [-(2:Int)^63<=c4+1/\c4+1<(2:Int)^63] (leaf normal ([ptr 0 0 3 0 [],ptr 1 0 4 0 [],ptr 2 0 4 0 [],int i64 (↑i:Int),ptr 7 0 12 0 [],int i64 4],[(40968,ak.mk true true 3 c3 fun i_1=>if i_1<i then rat (cD c 3 i_1) 4000 else nth [rat h.d 4000] (rat 0 1) (i_1-i+0)),(5,ak.mk true true 3 c3 fun j=>rat (cD c 2 j) 4000),(4,ak.mk true true 3 c3 fun j=>rat (cD c 1 j) 4000),(3,ak.mk true true 3 c3 fun j=>rat (cD c 0 j) 4000),(7,ak.mk false true 12 1 fun x=>bD h 4000),(2,ak.mk false true 4 1 fun j=>if(j==0)=true then agg (c1.kids.set c4.toNat (aV (own (nat_lit 40967+1) 3 0 c3)))else c1),(1,ak.mk false true 4 1 fun x=>agg [nil,nil,nil,nil]),((0:Nat),aS fun x=>bV c 2000 2000)])))):=ag
theorem XF {c:Cu} {i:Nat} {h:Pl}:aG T mT [] 60 lT [part ru [1,1,0,0]] ⟨aB lT (rO i 4),(7,fe h 4000)::nE c (i+1) (i+1) (i+1) (i+1),8⟩=
  let c1:Nat:=i+1;some (leaf (exit 2) ([ptr 0 0 3 0 [],ptr 1 0 4 0 [],ptr 2 0 4 0 [],int i64 (↑i:Int),ptr 7 0 12 0 [],int i64 4],[(6,ak.mk true true 3 c1 fun j=>rat (cD c 3 j) 4000),(5,ak.mk true true 3 c1 fun j=>rat (cD c 2 j) 4000),(4,ak.mk true true 3 c1 fun j=>rat (cD c 1 j) 4000),(3,ak.mk true true 3 c1 fun j=>rat (cD c 0 j) 4000),(7,ak.mk false true 12 1 fun x=>bD h 4000),(2,ak.mk false true 4 1 fun x=>agg [own 3 3 0 c1,own 4 3 0 c1,own 5 3 0 c1,own 6 3 0 c1]),(1,ak.mk false true 4 1 fun x=>agg [nil,nil,nil,nil]),((0:Nat),aS fun x=>bV c 2000 2000)])):=ag
theorem ahK {c:Cu} {i:Nat} {h:Pl}:aG T mT [] 60 uv [part AE [1,1]] ⟨aB lT (rO i 4),(7,fe h 4000)::nE c (i+1) (i+1) (i+1) (i+1),8⟩=
  let c2:Int:=(↑i:Int)+1;let c1:Nat:=i+1;some (aj [-(2:Int)^63<=c2/\c2<2^63] (leaf normal ([ptr 0 0 3 0 [],ptr 1 0 4 0 [],ptr 2 0 4 0 [],int i64 c2],[(6,ak.mk true true 3 c1 fun j=>rat (cD c 3 j) 4000),(5,ak.mk true true 3 c1 fun j=>rat (cD c 2 j) 4000),(4,ak.mk true true 3 c1 fun j=>rat (cD c 1 j) 4000),(3,ak.mk true true 3 c1 fun j=>rat (cD c 0 j) 4000),(2,ak.mk false true 4 1 fun x=>agg [own 3 3 0 c1,own 4 3 0 c1,own 5 3 0 c1,own 6 3 0 c1]),(1,ak.mk false true 4 1 fun x=>agg [nil,nil,nil,nil]),((0:Nat),aS fun x=>bV c 2000 2000)]))):=ag
theorem aiv {c:Cu} {i:Nat}:cj T mT [] 60 GI [part vm [1,1,1]] ⟨aB uv (DZ i),nE c i i i i,7⟩=
  let c1:Prop:=0<1;some (aj [c1,c1] (aj [c1] (leaf ret [agg [aq 3 i fun i=>rat (cD c 0 (i+0)) 4000,aq 3 i fun i=>rat (cD c 1 (i+0)) 4000,aq 3 i fun i=>rat (cD c 2 (i+0)) 4000,aq 3 i fun i=>rat (cD c 3 (i+0)) 4000]]))):=ag
theorem PN:bu P mT:=cz (s8 Tb oW)
abbrev Vw (c:Cu) (i b:Nat):aE:=nE c (if 0<b then i+1 else i) (if 1<b then i+1 else i) (if 2<b then i+1 else i) (if 3<b then i+1 else i)
set_option maxHeartbeats 1000000 in
theorem VY {c:Cu} (hm2:c.m<2^20) (K:Nat):aQ P Cx K [bV c 2000 2000] [] (aJ (.agg [br (cD c 0) c.m 4000,br (cD c 1) c.m 4000,br (cD c 2) c.m 4000,br (cD c 3) c.m 4000]) []):=by
 refine fc (r:=aJ (.agg [br (cD c 0) c.m 4000,br (cD c 1) c.m 4000,br (cD c 2) c.m 4000,br (cD c 3) c.m 4000]) []) hT T9 rfl aX rfl (fun _ cx h00=>?_) K []
 have hk:=gV h00
 have hv:∀{rl:List (Nat×Nat)} {x0 x1 x2 x3 n0 n1 n2 n3 m0 m1 m2 m3:Nat},bp rl 3=some x0->n0=m0->bp rl 4=some x1->n1=m1->bp rl 5=some x2->n2=m2->bp rl 6=some x3->n3=m3->eZ rl (.agg [.own x0 3 0 n0,.own x1 3 0 n1,.own x2 3 0 n2,.own x3 3 0 n3]) (.agg [.own 3 3 0 m0,.own 4 3 0 m1,.own 5 3 0 m2,.own 6 3 0 m3]):=
  fun a0 b0 a1 b1 a2 b2 a3 b3=>gz ⟨⟨rfl,bW a0 rfl b0⟩,⟨rfl,bW a1 rfl b1⟩,⟨rfl,bW a2 rfl b2⟩,⟨rfl,bW a3 rfl b3⟩,trivial⟩
 refine au.IG hT PN hm (x:=vm) (y:=AE) (x1:=ru) (zb:=part AE [1,1]) (y2:=part ru [1,1,0,0]) [1,1,0,1] (i:=0) ag ag T9.dst [1,0] (j:=1) ag ag ag [1,1] (i2:=2) ag ag rfl hk (f1:=[]) (f2:=[11]) (f3:=[]) (f4:=[]) (f5:=[]) 60 uv lT 7 8
  (fun i:Nat=>DZ i) (fun i=>nE c i i i i) (fun i=>i<=c.m) (fun i=>i=c.m) (fun i=>c.m-i) (fun i=>i<c.m) (fun _=>False) (fun _=>False)
  (fun i (b:Nat)=>rO i b) (fun i b=>(7,fe (cP (c.f i)) 4000)::Vw c i b) (fun _ b=>b<=4) (fun _ b=>b=4) (fun _ b=>4-b)
  ⟨_,Wc,?_⟩ (fun i hi=>⟨_,ZI,?_⟩) (fun i hi hG=>⟨_,aiT,?_⟩) (fun i hi hG b hb=>?_) (fun i hi hG b hb=>?_) (fun i s' hi hle=>?_) (fun _ _ h=>h.elim) (fun _ _ h=>h.elim)
 ·simp only[ah.all,aA]
  exact⟨0,Nat.zero_le _,[(0,0),(1,4096),(2,8192)],rfl,rfl,rfl,fV rfl aa aa (fV rfl aa aa (fV rfl aa aa (fV rfl aa aa (bG rfl rfl (gz ⟨⟨rfl,jd aa⟩,⟨rfl,jd aa⟩,⟨rfl,jd aa⟩,⟨rfl,jd aa⟩,trivial⟩) (aC (aC trivial))))))⟩
 ·simp only[ah.all,aA,bq,bw]
  exact⟨aa,fun h=>⟨aa,[(0,0),(1,1),(2,2),(3,3),(4,4),(5,5),(6,6)],rfl,rfl,rfl,bk (bk (bk (bk (bG rfl rfl (by exact hv rfl rfl rfl rfl rfl rfl rfl rfl) (aC (aC trivial))))))⟩,fun h=>⟨rfl,i,aa,[(0,0),(1,1),(2,2),(3,3),(4,4),(5,5),(6,6)],rfl,rfl,rfl,bk (bk (bk (bk (bG rfl rfl (by exact hv rfl rfl rfl rfl rfl rfl rfl rfl) (aC (aC trivial))))))⟩⟩
 ·have hG:i<c.m:=hG
  simp only[ah.all,aA,bn]
  exact⟨⟨aa,aa,aa,aa,aa⟩,0,aa,[(0,0),(1,1),(2,2),(3,3),(4,4),(5,5),(6,6),(7,24583)],rfl,rfl,rfl,bG rfl rfl (.inr ⟨rfl,b7 (show fq [.rat _ _,.rat _ _,.rat _ _,.rat _ _] [.rat _ _,.rat _ _,.rat _ _,.rat _ _]from⟨bO rfl (by decide),bO rfl (by decide),bO rfl (by decide),bO rfl (by decide),trivial⟩)⟩) (bk (bk (bk (bk (bG rfl rfl (by exact hv rfl rfl rfl rfl rfl rfl rfl rfl) (aC (aC trivial)))))))⟩
 ·have hG:i<c.m:=hG
  have hb:b<=4:=hb
  rcases(show b=0\/b=1\/b=2\/b=3\/b=4 by omega)with rfl|rfl|rfl|rfl|rfl
  ·refine⟨_,ZC,?_⟩
   simp only[ah.all,aA]
   exact⟨⟨aa,aa,aa,aa,aa,aa,aa,aa⟩,aa,1,aa,by dsimp only;omega,[(0,0),(1,1),(2,2),(3,40968),(4,4),(5,5),(6,6),(7,7)],rfl,rfl,rfl,aC (bk (bk (bk (bJ rfl rfl rfl (fun u hu=>kU (y:=cD c 0) (fun _ _=>rfl) rfl aY aY hu) (bG rfl rfl (by exact hv rfl rfl rfl rfl rfl rfl rfl rfl) (aC (aC trivial)))))))⟩
  ·refine⟨_,aoL,?_⟩
   simp only[ah.all,aA]
   exact⟨⟨aa,aa,aa,aa,aa,aa,aa,aa⟩,aa,2,aa,by dsimp only;omega,[(0,0),(1,1),(2,2),(3,3),(4,40968),(5,5),(6,6),(7,7)],rfl,rfl,rfl,aC (bk (bk (bJ rfl rfl rfl (fun u hu=>kU (y:=cD c 1) (fun _ _=>rfl) rfl aY aY hu) (bk (bG rfl rfl (by exact hv rfl rfl rfl rfl rfl rfl rfl rfl) (aC (aC trivial)))))))⟩
  ·refine⟨_,W2,?_⟩
   simp only[ah.all,aA]
   exact⟨⟨aa,aa,aa,aa,aa,aa,aa,aa⟩,aa,3,aa,by dsimp only;omega,[(0,0),(1,1),(2,2),(3,3),(4,4),(5,40968),(6,6),(7,7)],rfl,rfl,rfl,aC (bk (bJ rfl rfl rfl (fun u hu=>kU (y:=cD c 2) (fun _ _=>rfl) rfl aY aY hu) (bk (bk (bG rfl rfl (by exact hv rfl rfl rfl rfl rfl rfl rfl rfl) (aC (aC trivial)))))))⟩
  ·refine⟨_,akr,?_⟩
   simp only[ah.all,aA]
   exact⟨⟨aa,aa,aa,aa,aa,aa,aa,aa⟩,aa,4,aa,by dsimp only;omega,[(0,0),(1,1),(2,2),(3,3),(4,4),(5,5),(6,40968),(7,7)],rfl,rfl,rfl,aC (bJ rfl rfl rfl (fun u hu=>kU (y:=cD c 3) (fun _ _=>rfl) rfl aY aY hu) (bk (bk (bk (bG rfl rfl (by exact hv rfl rfl rfl rfl rfl rfl rfl rfl) (aC (aC trivial)))))))⟩
  ·exact⟨_,XF,rfl,4,rfl,[(0,0),(1,1),(2,2),(3,3),(4,4),(5,5),(6,6),(7,7)],rfl,rfl,rfl,aC (bk (bk (bk (bk (bG rfl rfl (by exact hv rfl rfl rfl rfl rfl rfl rfl rfl) (aC (aC trivial)))))))⟩
 ·have hG:i<c.m:=hG
  have hb:b=4:=hb
  subst hb
  refine⟨_,ahK,?_⟩
  simp only[ah.all,aA]
  exact⟨aa,i+1,aa,by dsimp only;omega,[(0,0),(1,1),(2,2),(3,3),(4,4),(5,5),(6,6)],rfl,rfl,rfl,bk (bk (bk (bk (bG rfl rfl (by exact hv rfl rfl rfl rfl rfl rfl rfl rfl) (aC (aC trivial))))))⟩
 ·subst hi
  rw[show behind vm [1,1,0,1]=[part vm [1,1,1]]from by kernel_rfl]
  refine aH.weak rfl hle ((aH.fin hT PN hm 60 aiv ag ?_).mono fun _ _ h=>.inl h)
  simp only[ah.all,aA]
  exact⟨⟨aa,aa⟩,aa,.refl _⟩
def OE:Spec:=cq (kC (wH 2000 2000) kN) (fun a=>.agg [br (cD a.1 0) a.1.m 4000,br (cD a.1 1) a.1.m 4000,br (cD a.1 2) a.1.m 4000,br (cD a.1 3) a.1.m 4000]) fun a=>[a.1.m<2^20]
theorem Zb:aW P OE Cx:=ck fun⟨c,_⟩ K hn=>VY hn K
theorem Tn:aT P xL mP (ay mP):=aU Proofs.Tryz.func135 ag ag ag
def NF:Spec:=cq (kC (Bw bX) kN) (fun a=>.agg [vA (rm a.1) (bX+bX+1),.rat a.1.d bX]) fun _=>[]
def jc:bf:=nG::(LS,qu)::(Cx,OE)::(Ac,sw)::(pC,rT)::(Cy,So)::(wg,NF)::nY
abbrev Bv:Code:=ay mP
abbrev wO:Code:=part Bv [1,1,1,1,1]
abbrev qX:Code:=part wO [1,1,1,0,1,0,0]
abbrev p9:Code:=part qX [1,0,0]
abbrev sr:Code:=part p9 [1,1]
abbrev qf:Code:=part sr [1,1,0,1,0,0]
abbrev qQ:Code:=part qf [1,0,0]
abbrev sO:Code:=part qQ [1,1]
abbrev zR:List Nat:=[1,2,3,4,5,6]
abbrev sM (q:Int) (i:Nat):List AV:=[.ptr 0 0 3 0 [],.ptr 1 0 3 0 [],.int .i64 0,.int .i64 q,.ptr 2 0 3 0 [],.int .i64 i]
abbrev sX (c:Cu) (q:Int) (m:Nat) (F:Nat->Rat):aE:=[(3,wh 2000 m F),(2,⟨false,true,3,1,fun _=>.agg [.int .i64 q,.own 3 3 0 m,.nil]⟩),(1,Md),(0,⟨false,true,3,1,fun _=>bV c 2000 2000⟩)]
abbrev kW:List Nat:=[1,2,3,4,5,7,8,9]
abbrev oz (q:Int) (M j:Nat):List AV:=[.ptr 0 0 3 0 [],.ptr 1 0 3 0 [],.int .i64 0,.int .i64 q,.ptr 2 0 3 0 [],.int .i64 M,.ptr 4 0 4 0 [],.int .i64 j]
abbrev kZ (c:Cu):AV:=.agg [br (cD c 0) c.m 4000,br (cD c 1) c.m 4000,br (cD c 2) c.m 4000,br (cD c 3) c.m 4000]
abbrev fo (c:Cu) (q:Int) (m:Nat) (F:Nat->Rat) (j:Nat) (G:Nat->Pl):aE:=[(5,⟨true,true,12,j,fun i=>bh (G i) (bX+bX+1)⟩),(4,⟨false,true,4,1,fun _=>kZ c⟩),(3,⟨true,false,3,m,fun i=>.rat (F i) 2000⟩),(2,⟨false,true,3,1,fun _=>.agg [.int .i64 q,.own 3 3 0 m,.own 5 12 0 j]⟩),(1,Md),(0,⟨false,true,3,1,fun _=>bV c 2000 2000⟩)]
abbrev Ay:List Nat:=[1,2,3,4,5,7,8,9,10]
abbrev Ko (q:Int) (M j i:Nat):List AV:=[.ptr 0 0 3 0 [],.ptr 1 0 3 0 [],.int .i64 0,.int .i64 q,.ptr 2 0 3 0 [],.int .i64 M,.ptr 4 0 4 0 [],.int .i64 j,.int .i64 i]
abbrev mI:List Nat:=[1,2,3,4,5,7,8,9,11,13,14]
abbrev nH (q:Int) (M j a b:Nat):List AV:=[.ptr 0 0 3 0 [],.ptr 1 0 3 0 [],.int .i64 0,.int .i64 q,.ptr 2 0 3 0 [],.int .i64 M,.ptr 4 0 4 0 [],.int .i64 j,.int .i64 a,.ptr 6 0 12 0 [],.int .i64 b]
abbrev yB:List Nat:=[1,2,3,4,5,7,8,9,11,13,14,15,16]
abbrev oF (q:Int) (M j a b u x:Nat):List AV:=[.ptr 0 0 3 0 [],.ptr 1 0 3 0 [],.int .i64 0,.int .i64 q,.ptr 2 0 3 0 [],.int .i64 M,.ptr 4 0 4 0 [],.int .i64 j,.int .i64 a,.ptr 6 0 12 0 [],.int .i64 b,.own 7 3 0 u,.int .i64 x]
abbrev vG (S:Pl) (w u:Nat) (A:Nat->Rat):aE:=[(7,wh 2000 u A),(6,fe S w)]
abbrev s6:List Nat:=[1,2,3,4,5,7,8,9,11,13,14,15,17]
abbrev Db (S x:Pl) (f:Rat) (w u k:Nat) (A:Nat->Rat):aE:=[(7,⟨true,k==0,3,u,fun i=>.rat (A i) 2000⟩),(6,⟨false,true,12,1,fun _=>uO S x f w k⟩)]
theorem afJ {c:Cu}:aG T jc [20] 60 zR (before Bv [1,1,1,1,0,1]) ⟨aP 0 [bV c 2000 2000],[],0⟩=
  let c8:AV:=int i64 0;let c7:Int:=c.p+1;let c5:AV:=ptr 4096 0 3 0 [];let c4:Prop:=0<1;let c3:Nat:=(aV (bV c 2000 2000)).size;let c6:AV:=ptr 0 0 c3 0 [];let c2:AV:=agg [c8,nil,nil];let c1:List (Nat×ak):=[(0,ak.mk false true c3 1 fun x=>bV c 2000 2000)];some (aj [c4] (fork (decide (c.p>=6)) (aj [c4] (leaf ret ([c6,c5,int i64 7,tuple [],tuple [],tuple []],((4096:Nat),aS fun j=>if(j==0)=true then aV (agg c2.kids)else c2)::c1))) (aj [c4,-(2:Int)^63<=c7/\c7<2^63] (aj [c4] (leaf normal ([c6,c5,c8,int i64 c7,ptr 49152 0 3 0 [],c8],((49152:Nat),aS fun j=>if(j==0)=true then aV (agg (c2.kids.set 0 (aV (int i64 c7))))else c2)::((4096:Nat),aS fun x=>c2)::c1)))))):=ag
theorem ZF {c:Cu} {i m:Nat} {q:Int} {F:Nat->Rat}:aG T jc [31,36,50] 60 zR [part Bv [1,1,1,1,0,1,0,0]] ⟨aB zR (sM q i),sX c q m F,4⟩=
  let c22:AV:=int i64 0;let c21:Prop:=2000<2^41;let c20:AV:=rat 0 1;let c19:Prop:=1*3<=2^24;let c18:AV:=ptr 2 0 3 0 [];let c17:AV:=ptr 1 0 3 0 [];let c15:AV:=ptr 0 0 3 0 [];let c11:Nat:=m+1;let c10:Int:=(2:Int)^63;let c9:Prop:=0<1;let c8:Int:=(↑i:Int);let c6:AV:=agg [int i64 q,own 3 3 0 m,nil];let c24:Bool:=c8==0;let c23:Nat:=c11+1;let c16:Int:=c8+1;let c14:Int:=c8-1;let c13:Prop:=(0:Int)<=c8/\c8.toNat<c.n;let c12:AV:=rat (c.k c8.toNat) 2000;let c4:AV:=agg (c6.kids.set 1 (aV (own (nat_lit 122883+1) 3 0 c11)));let c3:List (Nat×ak):=[((1:Nat),aS fun x=>agg [c22,nil,nil]),((0:Nat),aS fun x=>bV c 2000 2000)];let c7:List AV:=[c15,c17,c22,int i64 q,c18,int i64 c16];let c5:List Prop:=[c9,c9,c13,c19,c11*((56:Nat)+1)*2<=2^47,c9];let c2:ah (List AV×aE):=aj c5 (aj [-c10<=c16/\c16<c10] (leaf normal (c7,(122884,ak.mk true true 3 c11 fun i=>if i<m then rat (F i) 2000 else nth [c12] c20 (i-m+0))::((2:Nat),aS fun j=>if(j==0)=true then c4 else c6)::c3)));let c1:ah (List AV×aE):=aj c5 (aj [c9,c9,c13,c19,c23*((56:Nat)+1)*2<=2^47,c9] (aj [-c10<=c16/\c16<c10] (leaf normal (c7,(167940,ak.mk true true 3 c23 fun i=>if i<c11 then if i<m then rat (F i) 2000 else nth [c12] c20 (i-m+0)else nth [c12] c20 (i-c11+0))::((2:Nat),aS fun j=>if(j==0)=true then agg ((if((0:Nat)==0)=true then c4 else c6).kids.set 1 (aV (own (nat_lit 167939+1) 3 0 c23)))else if(j==0)=true then c4 else c6)::c3))));some (aj [c9] (fork (decide (c8<(↑c.n:Int))) (fork c24 (aj [c24=true] (fork true c1 c2)) (aj [c24=false,c9,c13,c9,-c10<=c14/\c14<c10,(0:Int)<=c14/\c14.toNat<c.n,c21,c21] (fork (bif false then true else !decide (c.k c8.toNat=c.k c14.toNat)) c1 c2))) (leaf (exit 0) ([c15,c17,c22,int i64 q,c18,int i64 c8],(3,ak.mk true true 3 m fun i=>rat (F i) 2000)::((2:Nat),aS fun x=>c6)::c3)))):=ag
theorem aaK {c:Cu} {i m:Nat} {q:Int} {F:Nat->Rat}:aG T jc [76] 60 kW (before wO [1,1,1,0,1]) ⟨aB zR (sM q i),sX c q m F,4⟩=
  let c11:AV:=int i64 0;let c10:AV:=ptr 2 0 3 0 [];let c9:AV:=ptr 1 0 3 0 [];let c8:AV:=ptr 0 0 3 0 [];let c7:Prop:=0<1;let c5:Nat×ak:=(3,ak.mk true false 3 m fun i=>rat (F i) 2000);let c4:Int:=(↑m:Int)-q-1;let c3:Nat×ak:=((2:Nat),aS fun x=>agg [int i64 q,own 3 3 0 m,nil]);let c2:Cu:=Cu.mk c.p c.n (fun i=>aL (rat (c.k i) 2000)) c.m fun i=>lS (bh (c.f i) 2000);let c1:List (Nat×ak):=[((0:Nat),aS fun x=>bV c 2000 2000)];let c6:AV:=agg [c11,nil,nil];some (aj [c7,bt (fun i=>rat (F (i+0)) 2000) m sK,m<2^40,-(2:Int)^40<q,q<2^40] (fork (decide (c4>40)) (aj [c7] (leaf ret ([c8,c9,int i64 2,int i64 q,c10,int i64 c4,tuple [],tuple []],c5::c3::((1:Nat),aS fun j=>if(j==0)=true then aV (agg c6.kids)else c6)::c1))) (aj [c7,bt (fun i=>rat (c.k i) 2000) c.n 2000,ki (fun i=>bh (c.f i) 2000) c.m 2000,c.m<2^20,c7] (leaf normal ([c8,c9,c11,int i64 q,c10,int i64 c4,ptr 36868 0 4 0 [],c11],c5::(36868,ak.mk false true 4 1 fun j=>if(j==0)=true then aV (agg [br (cD c2 0) c.m 4000,br (cD c2 1) c.m 4000,br (cD c2 2) c.m 4000,br (cD c2 3) c.m 4000])else agg [nil,nil,nil,nil])::c3::((1:Nat),aS fun x=>c6)::c1))))):=ag
theorem ab9 {c:Cu} {M j m:Nat} {q:Int} {F:Nat->Rat} {G:Nat->Pl}:aG T jc [82] 60 kW (before qX [1,0]) ⟨aB kW (oz q M j),fo c q m F j G,6⟩=
  let c1:List AV×aE:=([ptr 0 0 3 0 [],ptr 1 0 3 0 [],int i64 0,int i64 q,ptr 2 0 3 0 [],int i64 (↑M:Int),ptr 4 0 4 0 [],int i64 (↑j:Int)],[(5,ak.mk true true 12 j fun i=>bh (G i) 17179869185),(3,ak.mk true false 3 m fun i=>rat (F i) 2000),(4,ak.mk false true 4 1 fun x=>kZ c),((2:Nat),aS fun x=>agg [int i64 q,own 3 3 0 m,own 5 12 0 j]),((1:Nat),aS fun x=>agg [int i64 0,nil,nil]),((0:Nat),aS fun x=>bV c 2000 2000)]);some (fork (decide ((↑j:Int)<(↑M:Int))) (leaf normal c1) (leaf (exit 2) c1)):=ag
theorem VS {c:Cu} {M j m:Nat} {q:Int} {F:Nat->Rat} {G:Nat->Pl}:aG T jc [] 60 Ay (before p9 [1,0]) ⟨aB kW (oz q M j),fo c q m F j G,6⟩=
  some (leaf normal ([ptr 0 0 3 0 [],ptr 1 0 3 0 [],int i64 0,int i64 q,ptr 2 0 3 0 [],int i64 (↑M:Int),ptr 4 0 4 0 [],int i64 (↑j:Int),int i64 (↑j:Int)],[(5,ak.mk true true 12 j fun i=>bh (G i) 17179869185),(3,ak.mk true false 3 m fun i=>rat (F i) 2000),(4,ak.mk false true 4 1 fun x=>kZ c),((2:Nat),aS fun x=>agg [int i64 q,own 3 3 0 m,own 5 12 0 j]),((1:Nat),aS fun x=>agg [int i64 0,nil,nil]),((0:Nat),aS fun x=>bV c 2000 2000)])):=ag
theorem aaU {c:Cu} {M j m i:Nat} {q:Int} {F:Nat->Rat} {G:Nat->Pl}:aG T jc [97] 60 Ay [part p9 [1,0,0,0]] ⟨aB Ay (Ko q M j i),fo c q m F j G,6⟩=
  let c10:AV:=int i64 0;let c9:Prop:=2000<2^41;let c8:Int:=(↑i:Int);let c7:AV:=ptr 2 0 3 0 [];let c6:AV:=ptr 1 0 3 0 [];let c5:AV:=ptr 4 0 4 0 [];let c4:AV:=ptr 0 0 3 0 [];let c3:Int:=(2:Int)^63;let c11:Rat:=F (c8.toNat+0);let c2:Int:=c8+1;let c1:List (Nat×ak):=[(5,ak.mk true true 12 j fun i=>bh (G i) 17179869185),(3,ak.mk true false 3 m fun i=>rat (F i) 2000),(4,ak.mk false true 4 1 fun x=>kZ c),((2:Nat),aS fun x=>agg [int i64 q,own 3 3 0 m,own 5 12 0 j]),((1:Nat),aS fun x=>agg [c10,nil,nil]),((0:Nat),aS fun x=>bV c 2000 2000)];let c12:Rat:=F (c2.toNat+0);some (aj [(0:Nat)<1,(0:Int)<=c8/\c8.toNat<m,(0:Nat)<1,-c3<=c2/\c2<c3,(0:Int)<=c2/\c2.toNat<m,c9,c9] (fork (decide (c11=c12)) (aj [-c3<=c2/\c2<c3] (leaf normal ([c4,c6,c10,int i64 q,c7,int i64 (↑M:Int),c5,int i64 (↑j:Int),int i64 c2],c1))) (leaf (exit 4) ([c4,c6,c10,int i64 q,c7,int i64 (↑M:Int),c5,int i64 (↑j:Int),int i64 c8],c1)))):=ag
theorem alN {c:Cu} {M j m i:Nat} {q:Int} {F:Nat->Rat} {G:Nat->Pl}:aG T jc [] 60 mI (before sr [1,1,0,1]) ⟨aB Ay (Ko q M j i),fo c q m F j G,6⟩=
  let c2:Prop:=0<1;let c1:AV:=rat 0 1;some (aj [c2,c2,c2,(0:Int)<=(↑i:Int)/\(↑i:Int).toNat<m,bt (fun i=>rat (c.k i) 2000) c.n sK,(2000:Nat)<=sK,Kn c.n c.p.toNat fun i=>aL (rat (c.k i) 2000),(0:Int)<=c.p,c.n<2^40] (leaf normal ([ptr 0 0 3 0 [],ptr 1 0 3 0 [],int i64 0,int i64 q,ptr 2 0 3 0 [],int i64 (↑M:Int),ptr 4 0 4 0 [],int i64 (↑j:Int),int i64 (↑(fI c.n (fun i=>aL (rat (c.k i) 2000)) (F ((↑i:Int).toNat+0))):Int),ptr 61446 0 12 0 [],int i64 1],[(5,ak.mk true true 12 j fun i=>bh (G i) 17179869185),(3,ak.mk true false 3 m fun i=>rat (F i) 2000),(61446,ak.mk false true 12 1 fun x=>agg [c1,c1,c1,c1]),(4,ak.mk false true 4 1 fun x=>kZ c),((2:Nat),aS fun x=>agg [int i64 q,own 3 3 0 m,own 5 12 0 j]),((1:Nat),aS fun x=>agg [int i64 0,nil,nil]),((0:Nat),aS fun x=>bV c 2000 2000)]))):=ag
theorem ao1 {c:Cu} {M j m a b w:Nat} {q:Int} {F:Nat->Rat} {G:Nat->Pl} {S:Pl}:aG T jc [115] 60 mI (before qf [1,0]) ⟨aB mI (nH q M j a b),(6,fe S w)::fo c q m F j G,7⟩=
  let c1:List AV×aE:=([ptr 0 0 3 0 [],ptr 1 0 3 0 [],int i64 0,int i64 q,ptr 2 0 3 0 [],int i64 (↑M:Int),ptr 4 0 4 0 [],int i64 (↑j:Int),int i64 (↑a:Int),ptr 6 0 12 0 [],int i64 (↑b:Int)],[(5,ak.mk true true 12 j fun i=>bh (G i) 17179869185),(3,ak.mk true false 3 m fun i=>rat (F i) 2000),(6,ak.mk false true 12 1 fun x=>bD S w),(4,ak.mk false true 4 1 fun x=>kZ c),((2:Nat),aS fun x=>agg [int i64 q,own 3 3 0 m,own 5 12 0 j]),((1:Nat),aS fun x=>agg [int i64 0,nil,nil]),((0:Nat),aS fun x=>bV c 2000 2000)]);some (fork (decide ((↑b:Int)<=q)) (leaf normal c1) (leaf (exit 6) c1)):=ag
theorem aiB {c:Cu} {M j m a b w:Nat} {q:Int} {F:Nat->Rat} {G:Nat->Pl} {S:Pl}:aG T jc [] 60 yB (before qQ [1,0,1]) ⟨aB mI (nH q M j a b),(6,fe S w)::fo c q m F j G,7⟩=
  some (leaf normal ([ptr 0 0 3 0 [],ptr 1 0 3 0 [],int i64 0,int i64 q,ptr 2 0 3 0 [],int i64 (↑M:Int),ptr 4 0 4 0 [],int i64 (↑j:Int),int i64 (↑a:Int),ptr 6 0 12 0 [],int i64 (↑b:Int),nil,int i64 1],[(5,ak.mk true true 12 j fun i=>bh (G i) 17179869185),(3,ak.mk true false 3 m fun i=>rat (F i) 2000),(6,ak.mk false true 12 1 fun x=>bD S w),(4,ak.mk false true 4 1 fun x=>kZ c),((2:Nat),aS fun x=>agg [int i64 q,own 3 3 0 m,own 5 12 0 j]),((1:Nat),aS fun x=>agg [int i64 0,nil,nil]),((0:Nat),aS fun x=>bV c 2000 2000)])):=ag
theorem aa0 {c:Cu} {M j m a b w u x:Nat} {q:Int} {F A:Nat->Rat} {G:Nat->Pl} {S:Pl}:aG T jc [120,125] 60 yB [part qQ [1,0,1,0,0]] ⟨aB yB (oF q M j a b u x),vG S w u A++fo c q m F j G,8⟩=
  let c18:AV:=int i64 (↑b:Int);let c17:AV:=int i64 (↑a:Int);let c16:AV:=int i64 (↑M:Int);let c15:AV:=own 7 3 0 u;let c14:AV:=int i64 0;let c13:Int:=(↑j:Int);let c11:Nat×ak:=(3,ak.mk true false 3 m fun i=>rat (F i) 2000);let c10:AV:=ptr 2 0 3 0 [];let c9:AV:=ptr 1 0 3 0 [];let c8:AV:=ptr 4 0 4 0 [];let c7:AV:=ptr 0 0 3 0 [];let c6:AV:=ptr 6 0 12 0 [];let c5:Int:=(2:Int)^63;let c4:Int:=(↑x:Int);let c2:Nat×ak:=(5,ak.mk true true 12 j fun i=>bh (G i) 17179869185);let c12:Int:=c4+1;let c1:List (Nat×ak):=[(6,ak.mk false true 12 1 fun x=>bD S w),(4,ak.mk false true 4 1 fun x=>kZ c),((2:Nat),aS fun x=>agg [int i64 q,own 3 3 0 m,own 5 12 0 j]),((1:Nat),aS fun x=>agg [c14,nil,nil]),((0:Nat),aS fun x=>bV c 2000 2000)];let c3:List (Nat×ak):=c2::c11::(7,ak.mk true true 3 u fun i=>rat (A i) 2000)::c1;some (fork (decide (c4<=q)) (fork (c4 !=(↑b:Int)) (aj [(0:Nat)<1,-c5<=c13+c4/\c13+c4<c5,(0:Int)<=c13+c4/\(c13+c4).toNat<m,(1:Nat)*3<=2^24,(u+1)*((56:Nat)+1)*2<=2^47] (aj [-c5<=c12/\c12<c5] (leaf normal ([c7,c9,c14,int i64 q,c10,c16,c8,int i64 c13,c17,c6,c18,own 61448 3 0 (u+1),int i64 c12],c2::c11::(61448,ak.mk true true 3 (u+1) fun i=>if i<u then rat (A i) 2000 else nth [rat (F ((c13+c4).toNat+0)) 2000] (rat 0 1) (i-u+0))::c1)))) (aj [-c5<=c12/\c12<c5] (leaf normal ([c7,c9,c14,int i64 q,c10,c16,c8,int i64 c13,c17,c6,c18,c15,int i64 c12],c3)))) (leaf (exit 8) ([c7,c9,c14,int i64 q,c10,c16,c8,int i64 c13,c17,c6,c18,c15,int i64 c4],c3))):=ag
theorem We {c:Cu} {M j m a b w u x:Nat} {q:Int} {F A:Nat->Rat} {G:Nat->Pl} {S:Pl}:aG T jc [] 60 s6 (before sO [1]) ⟨aB yB (oF q M j a b u x),vG S w u A++fo c q m F j G,8⟩=
  let c1:AV:=int i64 0;some (leaf normal ([ptr 0 0 3 0 [],ptr 1 0 3 0 [],c1,int i64 q,ptr 2 0 3 0 [],int i64 (↑M:Int),ptr 4 0 4 0 [],int i64 (↑j:Int),int i64 (↑a:Int),ptr 6 0 12 0 [],int i64 (↑b:Int),own 7 3 0 u,c1],[(5,ak.mk true true 12 j fun i=>bh (G i) 17179869185),(3,ak.mk true false 3 m fun i=>rat (F i) 2000),(7,ak.mk true true 3 u fun i=>rat (A i) 2000),(6,ak.mk false true 12 1 fun x=>bD S w),(4,ak.mk false true 4 1 fun x=>kZ c),((2:Nat),aS fun x=>agg [int i64 q,own 3 3 0 m,own 5 12 0 j]),((1:Nat),aS fun x=>agg [c1,nil,nil]),((0:Nat),aS fun x=>bV c 2000 2000)])):=ag
theorem aiW {c:Cu} {M j m a b w u y:Nat} {q:Int} {F A:Nat->Rat} {G:Nat->Pl} {S x:Pl} {f:Rat} (hy:y<4):aG T jc [] 60 s6 [part sO [1,0,0]] ⟨aB s6 (oF q M j a b u y),Db S x f w u y A++fo c q m F j G,8⟩=
  let c9:Nat:=64+sB;let c8:Nat:=c.p.toNat;let c7:Int:=(↑a:Int);let c6:Nat:=2^41;let c5:Int:=(↑y:Int);let c3:Prop:=0<1;let c2:Int:=(2:Int)^63;let c4:Nat:=w;let c1:Prop:=(0:Int)<=c5/\c5<(↑(4:Nat):Int);some (aj [c1,c3,-c2<=1,(1:Int)<c2,-c2<=q,q<c2,c3,c3,c1,c3,bt (fun i=>rat (c.k i) 2000) c.n sK,bt (fun i=>rat (cD c y i) 4000) c.m sK,bt (fun i=>rat (A (i+0)) 2000) u sK,(1:Int)<=c.p,c.p<=6,c.n<2^40,c.m<2^40,c.p<=c7,c7<(↑c.m:Int),c7+c.p<(↑c.n:Int),(↑u:Int)=c.p,(64:Nat)<c6,sB<c6,c4<c6,c9<c6,c1,c3] (aj [-c2<=c5+1/\c5+1<c2] (leaf normal ([ptr 0 0 3 0 [],ptr 1 0 3 0 [],int i64 0,int i64 q,ptr 2 0 3 0 [],int i64 (↑M:Int),ptr 4 0 4 0 [],int i64 (↑j:Int),int i64 c7,ptr 6 0 12 0 [],int i64 (↑b:Int),own 7 3 0 u,int i64 (c5+1)],[(5,ak.mk true true 12 j fun i=>bh (G i) 17179869185),(3,ak.mk true false 3 m fun i=>rat (F i) 2000),(7,ak.mk true false 3 u fun i=>rat (A i) 2000),(6,ak.mk false true 12 1 fun j=>if(j==0)=true then agg ((uO S x f w y).kids.set c5.toNat (aV (lH (gP S y,c4) ((↑(1:Int):Rat)/(↑q:Rat)*bR (fun i=>aL (rat (c.k i) 2000)) (c7.toNat-c8) c8 (fun i=>aL (rat (A (i+0)) 2000)) (fun j=>aL (rat (cD c y (c7.toNat-c8+j)) 4000)) c8 c8,c9))))else uO S x f w y),(4,ak.mk false true 4 1 fun x=>kZ c),((2:Nat),aS fun x=>agg [int i64 q,own 3 3 0 m,own 5 12 0 j]),((1:Nat),aS fun x=>agg [int i64 0,nil,nil]),((0:Nat),aS fun x=>bV c 2000 2000)])))):=by
 rcases four hy with rfl|rfl|rfl|rfl<;>kernel_rfl
theorem ZE {c:Cu} {M j m a b w u:Nat} {q:Int} {F A:Nat->Rat} {G:Nat->Pl} {S x:Pl} {f:Rat}:aG T jc [] 60 s6 [part sO [1,0,0]] ⟨aB s6 (oF q M j a b u 4),Db S x f w u 4 A++fo c q m F j G,8⟩=
  let c1:Nat:=w+((64:Nat)+sB)+1;some (leaf (exit 10) ([ptr 0 0 3 0 [],ptr 1 0 3 0 [],int i64 0,int i64 q,ptr 2 0 3 0 [],int i64 (↑M:Int),ptr 4 0 4 0 [],int i64 (↑j:Int),int i64 (↑a:Int),ptr 6 0 12 0 [],int i64 (↑b:Int),own 7 3 0 u,int i64 4],[(5,ak.mk true true 12 j fun i=>bh (G i) 17179869185),(3,ak.mk true false 3 m fun i=>rat (F i) 2000),(7,ak.mk true false 3 u fun i=>rat (A i) 2000),(6,ak.mk false true 12 1 fun x_1=>agg [rat (if 0<4 then S.n.x+f*x.n.x else S.n.x) (if 0<4 then c1 else w),rat (if 1<4 then S.n.y+f*x.n.y else S.n.y) (if 1<4 then c1 else w),rat (if 2<4 then S.n.z+f*x.n.z else S.n.z) (if 2<4 then c1 else w),rat (if 3<4 then S.d+f*x.d else S.d) (if 3<4 then c1 else w)]),(4,ak.mk false true 4 1 fun x=>kZ c),((2:Nat),aS fun x=>agg [int i64 q,own 3 3 0 m,own 5 12 0 j]),((1:Nat),aS fun x=>agg [int i64 0,nil,nil]),((0:Nat),aS fun x=>bV c 2000 2000)])):=ag
theorem Yo {c:Cu} {M j m a b w:Nat} {q:Int} {F:Nat->Rat} {G:Nat->Pl} {S:Pl}:aG T jc [] 60 kW [part sr [1,1,1]] ⟨aB mI (nH q M j a b),(6,fe S w)::fo c q m F j G,7⟩=
  let c5:Prop:=0<1;let c4:Rat:=(↑(1:Int):Rat)/S.d;let c3:Nat:=bX+bX+1;let c2:AV:=rat 0 1;let c1:AV:=agg [int i64 q,own 3 3 0 m,own 5 12 0 j];some (aj [c5,c5,w<=bX,w<=bX,w<=bX,w<=bX,(1:Nat)*12<=2^24,(j+1)*((224:Nat)+1)*2<=2^47,c5] (leaf normal ([ptr 0 0 3 0 [],ptr 1 0 3 0 [],int i64 0,int i64 q,ptr 2 0 3 0 [],int i64 (↑M:Int),ptr 4 0 4 0 [],int i64 (↑j:Int)],[(20487,ak.mk true true 12 (j+1) fun i=>if i<j then bh (G i) c3 else nth [agg [agg [rat (c4*S.n.x) c3,rat (c4*S.n.y) c3,rat (c4*S.n.z) c3],rat S.d bX]] (agg [agg [c2,c2,c2],c2]) (i-j+0)),(3,ak.mk true false 3 m fun i=>rat (F i) 2000),(4,ak.mk false true 4 1 fun x=>kZ c),((2:Nat),aS fun j_1=>if(j_1==0)=true then agg (c1.kids.set 2 (aV (own (nat_lit 20486+1) 12 0 (j+1))))else c1),((1:Nat),aS fun x=>agg [int i64 0,nil,nil]),((0:Nat),aS fun x=>bV c 2000 2000)]))):=ag
theorem aaA {c:Cu} {M j m h:Nat} {q:Int} {F:Nat->Rat} {G:Nat->Pl}:aG T jc [] 60 kW [part qX [1,1]] ⟨aB kW (oz q M j),fo c q m F h G,6⟩=
  let c1:Int:=(↑j:Int)+1;some (aj [-(2:Int)^63<=c1/\c1<2^63] (leaf normal ([ptr 0 0 3 0 [],ptr 1 0 3 0 [],int i64 0,int i64 q,ptr 2 0 3 0 [],int i64 (↑M:Int),ptr 4 0 4 0 [],int i64 c1],[(5,ak.mk true true 12 h fun i=>bh (G i) 17179869185),(3,ak.mk true false 3 m fun i=>rat (F i) 2000),(4,ak.mk false true 4 1 fun x=>kZ c),((2:Nat),aS fun x=>agg [int i64 q,own 3 3 0 m,own 5 12 0 h]),((1:Nat),aS fun x=>agg [int i64 0,nil,nil]),((0:Nat),aS fun x=>bV c 2000 2000)]))):=ag
theorem Vp {c:Cu} {M j m:Nat} {q:Int} {F:Nat->Rat} {G:Nat->Pl}:cj T jc [] 60 mP [part wO [1,1,1,1]] ⟨aB kW (oz q M j),fo c q m F j G,6⟩=
  let c1:Prop:=0<1;some (aj [c1,c1] (aj [c1] (leaf ret [agg [int i64 q,aq 3 m fun i=>rat (F (i+0)) 2000,aq 12 j fun i=>bh (G (i+0)) 17179869185],int i64 0]))):=ag
theorem ahz {c:Cu} {M j m a b w u:Nat} {q:Int} {F A:Nat->Rat} {G:Nat->Pl} {S x:Pl} {f:Rat}:aG T jc [] 60 mI [part qf [1,1]] ⟨aB s6 (oF q M j a b u 4),Db S x f w u 4 A++fo c q m F j G,8⟩=
  let c2:Int:=(↑b:Int)+1;let c1:Nat:=w+((64:Nat)+sB)+1;some (aj [-(2:Int)^63<=c2/\c2<2^63] (leaf normal ([ptr 0 0 3 0 [],ptr 1 0 3 0 [],int i64 0,int i64 q,ptr 2 0 3 0 [],int i64 (↑M:Int),ptr 4 0 4 0 [],int i64 (↑j:Int),int i64 (↑a:Int),ptr 6 0 12 0 [],int i64 c2],[(5,ak.mk true true 12 j fun i=>bh (G i) 17179869185),(3,ak.mk true false 3 m fun i=>rat (F i) 2000),(6,ak.mk false true 12 1 fun x_1=>agg [rat (if 0<4 then S.n.x+f*x.n.x else S.n.x) (if 0<4 then c1 else w),rat (if 1<4 then S.n.y+f*x.n.y else S.n.y) (if 1<4 then c1 else w),rat (if 2<4 then S.n.z+f*x.n.z else S.n.z) (if 2<4 then c1 else w),rat (if 3<4 then S.d+f*x.d else S.d) (if 3<4 then c1 else w)]),(4,ak.mk false true 4 1 fun x=>kZ c),((2:Nat),aS fun x=>agg [int i64 q,own 3 3 0 m,own 5 12 0 j]),((1:Nat),aS fun x=>agg [int i64 0,nil,nil]),((0:Nat),aS fun x=>bV c 2000 2000)]))):=ag
theorem aen {e:Int} {c:Cu}:jt T mP .ret ⟨aB [1,2,3] [.ptr 0 0 3 0 [],.ptr 4096 0 3 0 [],.int .i64 e],[(4096,⟨false,true,3,1,fun j=>if(j==0)=true then aV (.agg (AV.kids (.agg [.int .i64 0,.nil,.nil])))else .agg [.int .i64 0,.nil,.nil]⟩),(0,⟨false,true,3,1,fun _=>bV c 2000 2000⟩)],4097⟩=
  some (aj [(0:Nat)<1] (leaf ret [agg [int i64 0,nil,nil],int i64 e])):=ag
theorem Wu:aW P NF wg:=ck fun⟨h,_⟩ K _=>Tp (by decide) (by decide) K
theorem mH:bu P jc:=cz (aI acm (aI Zb (aI Us (aI vp (aI adG (aI Wu oW))))))
def gU (b x:Nat):Nat:=if x<=b then x-1 else x-2
abbrev DA (c:Cu) (a:Nat) (A:Nat->Rat) (e:Nat):Rat:=bR c.k (((a:Nat):Int).toNat-c.p.toNat) c.p.toNat A (fun y=>cD c e (((a:Nat):Int).toNat-c.p.toNat+y)) c.p.toNat c.p.toNat
abbrev O6 (c:Cu) (a:Nat) (A:Nat->Rat):Pl:=⟨⟨DA c a A 0,DA c a A 1,DA c a A 2⟩,DA c a A 3⟩
theorem acZ {c:Cu} {M j m a b w q:Nat} {F:Nat->Rat} {G:Nat->Pl} {S:Pl} {cx:Ctx} {Q:ax->aK->Prop} (hk:Kept [] cx) (hc:Kn c.n c.p.toNat c.k) (hp1:1<=c.p) (hp6:c.p<=6) (hq:(q:Int)=c.p+1) (hn:c.n<2^20) (hm2:(c.m:Int)=(c.n:Int)-c.p-1) (hmn:m<2^20) (hj:j+q<m) (hA:At c.n c.k a) (hb1:1<=b) (hb2:b<=q) (hw:w+(64+sB)+1<=bX)
  (hQ:∀s',(∃ρ,Le cx ρ s' ⟨aB mI (nH q M j a (b+1)),(6,fe ⟨⟨S.n.x+((1:Int):Rat)/((q:Int):Rat)*(iX (fZ c) (a:Nat) q F j (b-1)).n.x,S.n.y+((1:Int):Rat)/((q:Int):Rat)*(iX (fZ c) (a:Nat) q F j (b-1)).n.y,S.n.z+((1:Int):Rat)/((q:Int):Rat)*(iX (fZ c) (a:Nat) q F j (b-1)).n.z⟩,S.d+((1:Int):Rat)/((q:Int):Rat)*(iX (fZ c) (a:Nat) q F j (b-1)).d⟩ (w+(64+sB)+1))::fo c q m F j G,7⟩)->Q .normal s'):
  au P cx mP.ntmps qQ ⟨aB mI (nH q M j a b),(6,fe S w)::fo c q m F j G,7⟩ (inBlock 7 (dM (fun s'=>au P cx mP.ntmps (part qf [1,1]) s' Q) Q)):=by
 have hSB:sB=536870912:=rfl
 have hSE:bX=8589934592:=rfl
 obtain⟨A,hAd⟩:∃A:Nat->Rat,A=fun u=>lg (fun v=>F (v+(j+1))) (b-1) q u:=⟨_,rfl⟩
 obtain⟨w1,w2⟩:=hc.OY hA
 have hwd:=hA.wide
 have hAt:∀x,1<=x->x<=q->x≠b->F (j+x)=A (gU b x):=fun x h1 h2 h3=>by
  rw[hAd]
  show _=lg _ _ _ _
  unfold lg gU
  by_cases h:x<=b
  ·rw[if_pos h,if_neg aa,if_neg aa]
   show _=F (x-1+(j+1))
   rw[show x-1+(j+1)=j+x by omega]
  ·rw[if_neg h,if_neg aa,if_pos aa]
   show _=F (x-2+1+(j+1))
   rw[show x-2+1+(j+1)=j+x by omega]
 have hv:∀{rl:List (Nat×Nat)},bp rl 3=some 3->bp rl 5=some 5->eZ rl (.agg [.int .i64 q,.own 3 3 0 m,.own 5 12 0 j]) (.agg [.int .i64 q,.own 3 3 0 m,.own 5 12 0 j]):=fun h0 h=>gz ⟨aM,⟨rfl,bW h0 rfl rfl⟩,⟨rfl,bW h rfl rfl⟩,trivial⟩
 have hE:iF c.n c.k c.p.toNat c.m c.p.toNat (a:Nat)=0:=Dp aa rfl (by
  rw[bn]
  rintro(h|h|h)
  ·omega
  ·omega
  ·exact absurd h (Rat.not_le.2 hwd))
 have hX:iX (fZ c) (a:Nat) q F j (b-1)=O6 c a A:=by
  have e:∀e,hH (fZ c) (a:Nat) c.p.toNat A e=bR c.k (((a:Nat):Int).toNat-c.p.toNat) c.p.toNat A (fun y=>gP (cP (c.f (((a:Nat):Int).toNat-c.p.toNat+y))) e) c.p.toNat c.p.toNat:=fun e=>if_pos hE
  unfold iX
  rw[<-hAd,show q-1=c.p.toNat by omega]
  unfold oI
  rw[e,e,e,e];rfl
 refine au.oV hT mH hm (x:=qQ) [1,0,1] (i:=8) (y:=part qQ [1,0,1,0,0]) ag ag ag hk (f1:=[]) (f2:=[120,125]) 60 yB 8
  (fun x:Nat=>oF q M j a b (gU b x) x) (fun x=>vG S w (gU b x) A++fo c q m F j G) (fun x=>1<=x/\x<=q+1) (fun x=>x=q+1) (fun x=>q+1-x) (fun _=>False) ⟨_,aiB,?_⟩ (fun x hx=>⟨_,aa0,?_⟩) (fun x s' hx hle=>?_) (fun _ _ h=>h.elim)
 ·simp only[ah.all,aA]
  refine⟨1,⟨aY,aa⟩,?_⟩
  have e0:gU b 1=0:=by unfold gU;rw[if_pos hb1]
  show cU [] _ (oF q M j a b (gU b 1) 1) (vG S w (gU b 1) A++fo c q m F j G) 8
  rw[e0]
  exact⟨[(0,0),(1,1),(2,2),(3,3),(4,4),(5,5),(6,6)],rfl,rfl,rfl,fV rfl aa aa (aC (bk (aC (bk (bG rfl rfl (hv rfl rfl) (aC (aC trivial)))))))⟩
 ·obtain⟨x1,x2⟩:=hx
  have e1:((j:Int)+x).toNat=j+x:=aa
  have hu:gU b x<=x:=by unfold gU;split<;>omega
  simp only[ah.all,aA,bq,bw,bne_iff_ne,ne_eq,bne_eq_false_iff_eq,e1,Nat.add_zero]
  refine⟨fun h=>⟨fun g=>⟨⟨aa,aa,aa,aa,aa⟩,aa,x+1,⟨aa,aa⟩,by dsimp only;omega,?_⟩,fun g=>⟨aa,x+1,⟨aa,aa⟩,by dsimp only;omega,?_⟩⟩,fun h=>⟨rfl,x,by dsimp only;omega,[(0,0),(1,1),(2,2),(3,3),(4,4),(5,5),(6,6),(7,7)],rfl,rfl,rfl,bk (aC (bk (aC (bk (bG rfl rfl (hv rfl rfl) (aC (aC trivial)))))))⟩⟩
  ·show cU [] _ (oF q M j a b (gU b (x+1)) ((x+1:Nat))) (vG S w (gU b (x+1)) A++fo c q m F j G) 8
   rw[show gU b (x+1)=gU b x+1 by unfold gU;split<;>split<;>omega]
   exact⟨[(0,0),(1,1),(2,2),(3,3),(4,4),(5,5),(6,6),(7,61448)],rfl,rfl,rfl,bJ rfl rfl rfl (fun i hi=>kU (y:=A) (fun _ _=>rfl) (hAt x x1 aa aa) aY aY hi) (aC (bk (aC (bk (bG rfl rfl (hv rfl rfl) (aC (aC trivial)))))))⟩
  ·show cU [] _ (oF q M j a b (gU b (x+1)) ((x+1:Nat))) (vG S w (gU b (x+1)) A++fo c q m F j G) 8
   rw[show gU b (x+1)=gU b x by unfold gU;split<;>split<;>omega]
   exact⟨[(0,0),(1,1),(2,2),(3,3),(4,4),(5,5),(6,6),(7,7)],rfl,rfl,rfl,bk (aC (bk (aC (bk (bG rfl rfl (hv rfl rfl) (aC (aC trivial)))))))⟩
 ·have hx:x=q+1:=hx
  subst hx
  rw[show behind qQ [1,0,1]=[sO]from by kernel_rfl]
  refine aH.weak rfl hle (aH.one ?_)
  rw[show gU b (q+1)=q-1 by unfold gU;rw[if_neg aa];omega]
  refine au.oV hT mH hm (x:=sO) [1] (i:=10) (y:=part sO [1,0,0]) ag ag ag hk (f1:=[]) (f2:=[]) 60 s6 8
   (fun k:Nat=>oF q M j a b (q-1) k) (fun k=>Db S (O6 c a A) (((1:Int):Rat)/((q:Int):Rat)) w (q-1) k A++fo c q m F j G) (fun k=>k<=4) (fun k=>k=4) (fun k=>4-k) (fun _=>False) ⟨_,We,?_⟩ (fun k hk4=>?_) (fun k s2 hk4 hle2=>?_) (fun _ _ h=>h.elim)
  ·simp only[ah.all,aA]
   exact⟨0,Nat.zero_le _,[(0,0),(1,1),(2,2),(3,3),(4,4),(5,5),(6,6),(7,7)],rfl,rfl,rfl,bk (aC (bk (aC (bk (bG rfl rfl (hv rfl rfl) (aC (aC trivial)))))))⟩
  ·have hk4:k<=4:=hk4
   rcases(show k<4\/k=4 by omega)with hk|rfl
   ·refine⟨_,aiW hk,?_⟩
    simp only[ah.all,aA]
    exact⟨⟨aa,aa,aa,aa,aa,aa,aa,aa,aa,aa,bP (by decide),bP (by decide),bP (by decide),hp1,hp6,aa,aa,aa,aa,aa,aa,aa,aa,by show w<2^41;omega,aa,aa,aa⟩,aa,k+1,aa,by dsimp only;omega,[(0,0),(1,1),(2,2),(3,3),(4,4),(5,5),(6,6),(7,7)],rfl,rfl,rfl,bk (bG rfl rfl (cB (by rcases four hk with rfl|rfl|rfl|rfl<;>rfl) (by rcases four hk with rfl|rfl|rfl|rfl<;>rfl)) (bk (aC (bk (bG rfl rfl (hv rfl rfl) (aC (aC trivial)))))))⟩
   ·exact⟨_,ZE,rfl,4,rfl,[(0,0),(1,1),(2,2),(3,3),(4,4),(5,5),(6,6),(7,7)],rfl,rfl,rfl,bk (aC (bk (aC (bk (bG rfl rfl (hv rfl rfl) (aC (aC trivial)))))))⟩
  ·have hk4:k=4:=hk4
   subst hk4
   rw[show behind sO [1]=[]from by kernel_rfl]
   show au P cx _ (part qf [1,1]) s2 Q
   refine au.jn hle2 (au.bC hT mH hm 60 mI ahz ag ?_)
   simp only[ah.all,aA]
   rw[hX]at hQ
   exact⟨aa,fun s3 hs3=>hQ s3 (cU.le ⟨[(0,0),(1,1),(2,2),(3,3),(4,4),(5,5),(6,6)],rfl,rfl,rfl,aC (bk (aC (bk (bG rfl rfl (hv rfl rfl) (aC (aC trivial))))))⟩ hs3 hk)⟩
theorem Pb {n:Nat} {k:Nat->Rat}:∀{f i:Nat},i<=ng k n f i
 |0,i=>aY
 |f+1,i=>by
  rw[ng]
  split
  ·exact Nat.le_trans (Nat.le_succ i) Pb
  ·exact Nat.le_refl _
theorem Uo {n:Nat} {k:Nat->Rat} (hs:∀i,i+1<n->k i<=k (i+1)):∀{d i:Nat},k i<k (i+d)->i+d<n->i<=fC k n i/\fC k n i<i+d
 |0,i,h,_=>absurd h Rat.lt_irrefl
 |d+1,i,h,hn=>by
  by_cases c:k (i+1)<=k i
  ·have e:k (i+1)=k i:=Rat.le_antisymm c (hs i aa)
   have:=Uo hs (d:=d) (i:=i+1) (by rw[e,show i+1+d=i+(d+1) by omega];exact h) aa
   rw[Ic aa c]
   omega
  ·rw[Fg (fun g=>c g.2)]
   omega
theorem adB {c:Cu} {M j m q:Nat} {F:Nat->Rat} {G:Nat->Pl} {cx:Ctx} {Q:ax->aK->Prop} (hk:Kept [] cx) (hc:Kn c.n c.p.toNat c.k) (hp1:1<=c.p) (hp6:c.p<=6) (hq:(q:Int)=c.p+1) (hn:c.n<2^20) (hm2:(c.m:Int)=(c.n:Int)-c.p-1) (hmn:m<2^20) (hj:j+q+1<m) (hF:∀i,i+1<m->F i<=F (i+1)) (hsup:F j<F (j+(q+1))) (hA:∀i,i<m->F i<F (i+1)->i+1<m->At c.n c.k (fI c.n c.k (F i)))
  (hG:dU (tX (fZ c) (((1:Int):Rat)/((q:Int):Rat)) m q F j)=G j)
  (hQ:∀s',(∃ρ,Le cx ρ s' ⟨aB kW (oz q M j),fo c q m F (j+1) G,6⟩)->au P cx mP.ntmps (part qX [1,1]) s' Q):
  au P cx mP.ntmps p9 ⟨aB kW (oz q M j),fo c q m F j G,6⟩ (inBlock 3 (dM (fun s'=>au P cx mP.ntmps (part qX [1,1]) s' Q) Q)):=by
 have hSB:sB=536870912:=rfl
 have hSE:bX=8589934592:=rfl
 have hv:∀{rl:List (Nat×Nat)} {x y y':Nat},bp rl 3=some 3->bp rl 5=some x->y=y'->eZ rl (.agg [.int .i64 q,.own 3 3 0 m,.own x 12 0 y]) (.agg [.int .i64 q,.own 3 3 0 m,.own 5 12 0 y']):=fun h0 h e=>gz ⟨aM,⟨rfl,bW h0 rfl rfl⟩,⟨rfl,bW h rfl e⟩,trivial⟩
 obtain⟨s,hs⟩:∃s,s=fC F m j:=⟨_,rfl⟩
 obtain⟨g1,g2⟩:=Uo hF hsup aa
 rw[<-hs]at g1 g2
 have wS:∀r,iO (r+1)=iO r+(64+sB)+1:=fun r=>by unfold iO;rw[hSB];omega
 have wL:∀r,r<=7->iO r<=bX:=fun r hr=>by unfold iO;rw[hSB,hSE];omega
 refine au.oV hT mH hm (x:=p9) [1,0] (i:=4) (y:=part p9 [1,0,0,0]) ag ag ag hk (f1:=[]) (f2:=[97]) 60 Ay 6
  (fun i:Nat=>Ko q M j i) (fun i=>fo c q m F j G) (fun i=>j<=i/\i<=s/\fC F m i=s) (fun i=>i=s/\F s<F (s+1)) (fun i=>m-i) (fun _=>False) ⟨_,VS,?_⟩ (fun i hi=>⟨_,aaU,?_⟩) (fun i s' hi hle=>?_) (fun _ _ h=>h.elim)
 ·simp only[ah.all,aA]
  exact⟨j,⟨aY,g1,hs.symm⟩,[(0,0),(1,1),(2,2),(3,3),(4,4),(5,5)],rfl,rfl,rfl,bk (aC (bk (bG rfl rfl (hv rfl rfl rfl) (aC (aC trivial)))))⟩
 ·obtain⟨i1,i2,i3⟩:=hi
  have e1:((i:Int)+1).toNat=i+1:=aa
  simp only[ah.all,aA,bq,bw,e1,bn,Nat.add_zero]
  have hle:=hF i aa
  refine⟨⟨aa,aa,aa,aa,aa,aa,aa⟩,fun h=>?_,fun h=>?_⟩
  ·have e2:fC F m (i+1)=s:=by rw[<-Ic aa (by rw[h];exact Rat.le_refl)];exact i3
   have e3:i≠s:=fun e=>by
    have:=Pb (k:=F) (n:=m) (f:=m-(i+1)) (i:=i+1)
    have e4:ng F m (m-(i+1)) (i+1)=s:=e2
    omega
   exact⟨aa,i+1,⟨aa,aa,e2⟩,by dsimp only;omega,[(0,0),(1,1),(2,2),(3,3),(4,4),(5,5)],rfl,rfl,rfl,bk (aC (bk (bG rfl rfl (hv rfl rfl rfl) (aC (aC trivial)))))⟩
  ·have hlt:F i<F (i+1):=by grind
   have e2:i=s:=by rw[Fg (fun g=>absurd g.2 (Rat.not_le.2 hlt))]at i3;exact i3
   exact⟨rfl,i,⟨e2,by rw[<-e2];exact hlt⟩,[(0,0),(1,1),(2,2),(3,3),(4,4),(5,5)],rfl,rfl,rfl,bk (aC (bk (bG rfl rfl (hv rfl rfl rfl) (aC (aC trivial)))))⟩
 ·obtain⟨i1,i2⟩:=hi
  subst i1
  rw[show behind p9 [1,0]=[sr]from by kernel_rfl]
  refine aH.weak rfl hle (aH.one ?_)
  obtain⟨a,ha⟩:∃a,a=fI c.n c.k (F i):=⟨_,rfl⟩
  have hAa:=hA i aa i2 aa
  rw[<-ha]at hAa
  refine au.ada hT mH hm (x:=sr) [1,1,0,1] (i:=6) (y:=qf) ag ag ag hk (f1:=[]) 60 mI 7
   (fun b:Nat=>nH q M j a b) (fun b=>(6,fe (jG (((1:Int):Rat)/((q:Int):Rat)) (iX (fZ c) (a:Nat) q F j) (b-1)) (iO (b-1)))::fo c q m F j G) (fun b=>1<=b/\b<=q+1) (fun b=>b=q+1) (fun b=>q+1-b) (fun _=>False) ⟨_,alN,?_⟩ (fun b hb=>?_) (fun b s2 hb hle2=>?_) (fun _ _ h=>h.elim)
  ·simp only[ah.all,aA,bn,Nat.add_zero]
   have h8:fI c.n (fun i=>aL (rat (c.k i) 2000)) (F i)=a:=ha.symm
   rw[h8]
   exact⟨⟨aa,aa,aa,aa,bP (by decide),by decide,hc,aa,aa⟩,1,⟨aY,aa⟩,[(0,0),(1,1),(2,2),(3,3),(4,4),(5,5),(6,61446)],rfl,rfl,rfl,aC (bk (aC (bk (bG rfl rfl (hv rfl rfl rfl) (aC (aC trivial))))))⟩
  ·obtain⟨b1,b2⟩:=hb
   refine au.ow hT mH hm (y:=qf) (x1:=qQ) (zb:=part qf [1,1]) [1,0] (j:=7) ag ag ag ag hk (f1:=[115]) 60 mI 7 (fun _:Unit=>nH q M j a b) (fun _=>(6,fe (jG (((1:Int):Rat)/((q:Int):Rat)) (iX (fZ c) (a:Nat) q F j) (b-1)) (iO (b-1)))::fo c q m F j G) (fun _=>b<=q) ⟨_,ao1,?_⟩ (fun _ hb'=>?_)
   ·simp only[ah.all,aA,bq,bw]
    have re:cU [] (nH q M j a b,(6,fe (jG (((1:Int):Rat)/((q:Int):Rat)) (iX (fZ c) (a:Nat) q F j) (b-1)) (iO (b-1)))::fo c q m F j G) (nH q M j a b) ((6,fe (jG (((1:Int):Rat)/((q:Int):Rat)) (iX (fZ c) (a:Nat) q F j) (b-1)) (iO (b-1)))::fo c q m F j G) 7:=⟨[(0,0),(1,1),(2,2),(3,3),(4,4),(5,5),(6,6)],rfl,rfl,rfl,aC (bk (aC (bk (bG rfl rfl (hv rfl rfl rfl) (aC (aC trivial))))))⟩
    exact⟨fun h1=>⟨(),aa,[(0,0),(1,1),(2,2),(3,3),(4,4),(5,5),(6,6)],rfl,rfl,rfl,aC (bk (aC (bk (bG rfl rfl (hv rfl rfl rfl) (aC (aC trivial))))))⟩,fun h1 s' hs'=>⟨rfl,b,by dsimp only;omega,cU.le ⟨[(0,0),(1,1),(2,2),(3,3),(4,4),(5,5),(6,6)],rfl,rfl,rfl,aC (bk (aC (bk (bG rfl rfl (hv rfl rfl rfl) (aC (aC trivial))))))⟩ hs' hk⟩⟩
   ·have hb':b<=q:=hb'
    obtain⟨r,rfl⟩:∃r,b=r+1:=⟨b-1,aa⟩
    refine acZ hk hc hp1 hp6 hq hn hm2 hmn aa hAa b1 hb' (by rw[<-wS];exact wL (r+1) aa) fun s3 hle3=>?_
    refine⟨r+1+1,⟨aa,aa⟩,by dsimp only;omega,?_⟩
    show∃ρ,Le cx ρ s3 ⟨aB mI (nH q M j a (r+1+1)),(6,fe (jG (((1:Int):Rat)/((q:Int):Rat)) (iX (fZ c) (a:Nat) q F j) (r+1)) (iO (r+1)))::fo c q m F j G,7⟩
    rw[wS r]
    exact hle3
  ·have hb:b=q+1:=hb
   subst hb
   rw[show behind sr [1,1,0,1]=[part sr [1,1,1]]from by kernel_rfl]
   refine aH.weak rfl hle2 (aH.bC hT mH hm 60 kW Yo ag ?_)
   simp only[ah.all,aA]
   have hw:=wL q aa
   refine⟨⟨aa,aa,hw,hw,hw,hw,aa,aa,aa⟩,fun s3 hs3=>hQ s3 (cU.le ⟨[(0,0),(1,1),(2,2),(3,3),(4,4),(5,20487)],rfl,rfl,rfl,bJ rfl rfl rfl (fun u hu=>pM (g:=fun j=>bh (G j) (bX+bX+1)) (fun _ _=>⟨rfl,rfl⟩) rfl ?_ hu) (aC (bk (bG rfl rfl (hv rfl rfl rfl) (aC (aC trivial)))))⟩ hs3 hk)⟩
   have e:tX (fZ c) (((1:Int):Rat)/((q:Int):Rat)) m q F j=jG (((1:Int):Rat)/((q:Int):Rat)) (iX (fZ c) (a:Nat) q F j) q:=by
    unfold tX
    rw[<-hs,ha]
   rw[<-hG,e]
   exact b7 ⟨b7 ⟨bO (congrArg V3.x F4.symm) aY,bO (congrArg V3.y F4.symm) aY,bO (congrArg V3.z F4.symm) aY,trivial⟩,bO rfl aa,trivial⟩
theorem S1 {k:Nat->Rat}:∀{i:Nat},gE k i<=i
 |0=>aY
 |i+1=>by have:=S1 (k:=k) (i:=i);rw[gE];split<;>omega
theorem agf (c:Cu) (s r:Nat):(aV (bV c s r)).size=3:=ag
theorem R8 {n p i:Nat} {k:Nat->Rat} (h:Kn n p k) (hi:i+1<n+bS k n n) (hw:cR k n n i<cR k n n (i+1)):At n k (fI n k (cR k n n i)):=by
 have hl:=h.len
 obtain⟨a,a1,a2,a3⟩:=Hx (k:=k) (n:=n) (Q:=i) (m:=n) aa
 have v:cR k n n i=k a:=nD a1 a2 a3
 have hA:At n k a:=by
  by_cases c:i+1<a+1+bS k n (a+1)
  ·rw[v,nD (q:=i+1) a1 aa c]at hw
   exact absurd hw Rat.lt_irrefl
  ·have hlt:a+1<n:=by
    by_cases e:a+1<n
    ·exact e
    ·have:a+1=n:=aa
     rw[this]at c
     omega
   have:=(pN (k:=k) (n:=n) (i:=a+1)).1
   rw[v,nD (q:=i+1) hlt aa aa]at hw
   exact⟨hlt,h.sorted,hw⟩
 have hlt:=hA.lt
 rw[v]
 unfold fI
 rw[if_neg,IM hA]
 ·exact hA
 ·rintro(g|g)
  ·exact absurd (h.mono (Nat.zero_le a) aa) (Rat.not_le.2 g)
  ·exact absurd (h.mono (show a<=n-1 by omega) aa) (Rat.not_le.2 g)
theorem acf {c:Cu} (hc:kJ c) (h20:c.n<=20) (K:Nat):aQ P xL K [bV c 2000 2000] [] (aJ (.tuple [bV (eH c) 2000 (bX+bX+1),.int .i64 (nJ c)]) []):=by
 refine fc (r:=aJ (.tuple [bV (eH c) 2000 (bX+bX+1),.int .i64 (nJ c)]) []) hT Tn rfl aX rfl (fun _ cx h00=>?_) K []
 have hk:=gV h00
 obtain⟨k1,k2,k3,k4,k5⟩:=id hc
 have hl:=k1.len
 have hq:c.p+1=((c.p.toNat+1:Nat):Int):=aa
 have hK:=B4 k1
 have hKl:=hK.len
 have hgl:=AL (k:=c.k) (n:=c.n) (i:=c.n)
 have hv:∀{rl:List (Nat×Nat)} {x y y':Nat} {q:Int},bp rl 3=some x->y=y'->eZ rl (.agg [.int .i64 q,.own x 3 0 y,.nil]) (.agg [.int .i64 q,.own 3 3 0 y',.nil]):=fun h e=>gz ⟨aM,⟨rfl,bW h rfl e⟩,aM,trivial⟩
 refine au.j4 hT mH hm (x:=Bv) [1,1,1,1,0,1] (i:=0) (y:=part Bv [1,1,1,1,0,1,0,0]) (z:=wO) ag ag ag Tn.dst hk (f1:=[20]) (f2:=[31,36,50]) 60 zR 4
  (fun i:Nat=>sM ((c.p.toNat+1:Nat):Int) i) (fun i=>sX c ((c.p.toNat+1:Nat):Int) (i+gE c.k i) (cR c.k c.n c.n)) (fun i=>i<=c.n/\c.p<6) (fun i=>i=c.n/\c.p<6) (fun i=>c.n-i) (ou T mP [1,2,3] (.tuple [bV (eH c) 2000 (bX+bX+1),.int .i64 (nJ c)])) ⟨_,afJ,?_⟩ (fun i hi=>⟨_,ZF,?_⟩) (fun i hi=>?_) (fun v s' hv hs'=>hv.fin (L1:=[4,5,6]) hk hs')
 ·simp only[ah.all,aA,hq,bq,bw]
  rw[agf c 2000 2000]
  refine⟨aa,fun h=>⟨aa,?_⟩,fun h=>⟨⟨aa,aa⟩,aa,0,⟨Nat.zero_le _,aa⟩,[(0,0),(1,4096),(2,49152)],rfl,rfl,rfl,fV rfl aa aa (bG rfl rfl (gz ⟨aM,⟨rfl,jd aa⟩,aM,trivial⟩) (aC (aC trivial)))⟩⟩
  have hp:6<=c.p:=aa
  have r1:eH c=pz:=if_pos hp
  have r2:nJ c=7:=if_pos hp
  have hR:ou T mP [1,2,3] (.tuple [bV pz 2000 (bX+bX+1),.int .i64 7]) ([.ptr 0 0 3 0 [],.ptr 4096 0 3 0 [],.int .i64 7,.tuple [],.tuple [],.tuple []],[(4096,⟨false,true,3,1,fun j=>if(j==0)=true then aV (.agg (AV.kids (.agg [.int .i64 0,.nil,.nil])))else .agg [.int .i64 0,.nil,.nil]⟩),(0,⟨false,true,3,1,fun _=>bV c 2000 2000⟩)]):=
   ⟨[_,_,_],[_,_,_],4097,_,rfl,rfl,rfl,aen,rfl,⟨⟨aa,fun i _=>nQ rfl rfl⟩,⟨aa,fun i _=>rfl⟩,trivial⟩,Nat.zero_lt_one,Ud,.refl _,trivial⟩
  rw[r1,r2]
  exact hR
 ·obtain⟨i1,i2⟩:=hi
  have e1:((i:Int)-1).toNat=i-1:=aa
  simp only[ah.all,aA,bq,bw,cond_false,Bool.not_eq_true',Bool.not_eq_false',e1,bn]
  have hgr:=S1 (k:=c.k) (i:=i)
  refine⟨aa,fun h=>?_,fun h=>⟨rfl,i,⟨aa,i2⟩,[(0,0),(1,1),(2,2),(3,3)],rfl,rfl,rfl,bk (bG rfl rfl (hv rfl rfl) (aC (aC trivial)))⟩⟩
  obtain⟨n1,n2⟩:=ai5 (k:=c.k) (n:=c.n) (i:=i) aa
  have dbl:∀{v:List AV×aE},(i=0\/c.k i≠c.k (i-1))->(∀m,m=i+gE c.k i->c.k i=cR c.k c.n c.n m->c.k i=cR c.k c.n c.n (m+1)->cU [] v (sM ((c.p.toNat+1:Nat):Int) (i+1)) (sX c ((c.p.toNat+1:Nat):Int) (m+1+1) (cR c.k c.n c.n)) 4)->cU [] v (sM ((c.p.toNat+1:Nat):Int) (i+1)) (sX c ((c.p.toNat+1:Nat):Int) (i+1+gE c.k (i+1)) (cR c.k c.n c.n)) 4:=fun {v} g hh=>by
   have e:gE c.k (i+1)=gE c.k i+1:=by rw[gE,if_pos g]
   rw[e,show i+1+(gE c.k i+1)=i+gE c.k i+1+1 by omega]
   exact hh _ rfl n1.symm (n2 g).symm
  have one:∀{v:List AV×aE},¬(i=0\/c.k i≠c.k (i-1))->(∀m,m=i+gE c.k i->c.k i=cR c.k c.n c.n m->cU [] v (sM ((c.p.toNat+1:Nat):Int) (i+1)) (sX c ((c.p.toNat+1:Nat):Int) (m+1) (cR c.k c.n c.n)) 4)->cU [] v (sM ((c.p.toNat+1:Nat):Int) (i+1)) (sX c ((c.p.toNat+1:Nat):Int) (i+1+gE c.k (i+1)) (cR c.k c.n c.n)) 4:=fun {v} g hh=>by
   have e:gE c.k (i+1)=gE c.k i:=by rw[gE,if_neg g];rfl
   rw[e,show i+1+gE c.k i=i+gE c.k i+1 by omega]
   exact hh _ rfl n1.symm
  refine⟨fun g=>⟨g,fun _=>⟨⟨aa,aa,aa,aa,aa,aa⟩,⟨aa,aa,aa,aa,aa,aa⟩,aa,i+1,⟨aa,i2⟩,by dsimp only;omega,dbl (.inl (by have:=beq_iff_eq.1 g;omega)) fun m hm' d1 d2=>?_⟩,fun g2=>absurd g2 (by decide)⟩,fun g=>?_⟩
  ·subst hm';exact⟨[(0,0),(1,1),(2,2),(3,167940)],rfl,rfl,rfl,bJ rfl rfl rfl (fun u hu=>FL d1 d2 hu) (bG rfl rfl (by exact hv rfl rfl) (aC (aC trivial)))⟩
  ·have g0:i≠0:=by have:=beq_eq_false_iff_ne.1 g;omega
   refine⟨⟨g,aa,aa,aa,aa,aa,aa,aa⟩,fun g2=>⟨⟨aa,aa,aa,aa,aa,aa⟩,⟨aa,aa,aa,aa,aa,aa⟩,aa,i+1,⟨aa,i2⟩,by dsimp only;omega,dbl (.inr g2) fun m hm' d1 d2=>?_⟩,fun g2=>⟨⟨aa,aa,aa,aa,aa,aa⟩,aa,i+1,⟨aa,i2⟩,by dsimp only;omega,one (fun g3=>g3.elim g0 fun g4=>g4 g2) fun m hm' d1=>?_⟩⟩
   ·subst hm';exact⟨[(0,0),(1,1),(2,2),(3,167940)],rfl,rfl,rfl,bJ rfl rfl rfl (fun u hu=>FL d1 d2 hu) (bG rfl rfl (by exact hv rfl rfl) (aC (aC trivial)))⟩
   ·subst hm';exact⟨[(0,0),(1,1),(2,2),(3,122884)],rfl,rfl,rfl,bJ rfl rfl rfl (fun u hu=>kU (y:=cR c.k c.n c.n) (fun _ _=>rfl) d1 aY aY hu) (bG rfl rfl (by exact hv rfl rfl) (aC (aC trivial)))⟩
 ·obtain⟨hi,hp⟩:=hi
  subst hi
  rw[abB aa]
  obtain⟨M,hM⟩:∃M,M=c.n+bS c.k c.n c.n-(c.p.toNat+1)-1:=⟨_,rfl⟩
  have eM:((c.n+bS c.k c.n c.n:Nat):Int)-((c.p.toNat+1:Nat):Int)-1=(M:Nat):=aa
  obtain⟨G,hG⟩:∃G:Nat->Pl,G=fun j=>dU (tX (fZ c) (((1:Int):Rat)/(((c.p.toNat+1:Nat):Int):Rat)) (c.n+bS c.k c.n c.n) (c.p.toNat+1) (cR c.k c.n c.n) j):=⟨_,rfl⟩
  have hv2:∀{rl:List (Nat×Nat)} {x y y':Nat},bp rl 3=some 3->bp rl 5=some x->y=y'->eZ rl (.agg [.int .i64 ((c.p.toNat+1:Nat):Int),.own 3 3 0 (c.n+bS c.k c.n c.n),.own x 12 0 y]) (.agg [.int .i64 ((c.p.toNat+1:Nat):Int),.own 3 3 0 (c.n+bS c.k c.n c.n),.own 5 12 0 y']):=fun h0 h e=>gz ⟨aM,⟨rfl,bW h0 rfl rfl⟩,⟨rfl,bW h rfl e⟩,trivial⟩
  refine au.tV hT mH hm (x:=wO) [1,1,1,0,1] (i:=2) (y:=qX) (z:=part wO [1,1,1,1]) ag ag ag ag hk (f1:=[76]) 60 kW 6
   (fun j:Nat=>oz ((c.p.toNat+1:Nat):Int) M j) (fun j=>fo c ((c.p.toNat+1:Nat):Int) (c.n+bS c.k c.n c.n) (cR c.k c.n c.n) j G) (fun j=>j<=M) (fun j=>j=M) (fun j=>M-j) (fun _=>False) ⟨_,aaK,?_⟩ (fun j hj=>?_) (fun j hj=>?_) (fun _ _ h=>h.elim)
  ·simp only[ah.all,aA,eM,bq,bw]
   refine⟨⟨aa,bP (by decide),aa,aa,aa⟩,fun h=>absurd h aa,fun h=>⟨⟨aa,bP (by decide),nw (by decide),aa,aa⟩,0,Nat.zero_le _,[(0,0),(1,1),(2,2),(3,3),(4,36868)],rfl,rfl,rfl,fV rfl aa aa (aC (bk (bG rfl rfl (gz ⟨aM,⟨rfl,bW rfl rfl rfl⟩,⟨rfl,jd aa⟩,trivial⟩) (aC (aC trivial)))))⟩⟩
  ·have re:cU [] (oz ((c.p.toNat+1:Nat):Int) M j,fo c ((c.p.toNat+1:Nat):Int) (c.n+bS c.k c.n c.n) (cR c.k c.n c.n) j G) (oz ((c.p.toNat+1:Nat):Int) M j) (fo c ((c.p.toNat+1:Nat):Int) (c.n+bS c.k c.n c.n) (cR c.k c.n c.n) j G) 6:=⟨[(0,0),(1,1),(2,2),(3,3),(4,4),(5,5)],rfl,rfl,rfl,bk (aC (bk (bG rfl rfl (hv2 rfl rfl rfl) (aC (aC trivial)))))⟩
   refine au.ow hT mH hm (y:=qX) (x1:=p9) (zb:=part qX [1,1]) [1,0] (j:=3) ag ag ag ag hk (f1:=[82]) 60 kW 6 (fun _:Unit=>oz ((c.p.toNat+1:Nat):Int) M j) (fun _=>fo c ((c.p.toNat+1:Nat):Int) (c.n+bS c.k c.n c.n) (cR c.k c.n c.n) j G) (fun _=>j<M) ⟨_,ab9,?_⟩ (fun _ hj'=>?_)
   ·simp only[ah.all,aA,bq,bw]
    exact⟨fun h1=>⟨(),aa,[(0,0),(1,1),(2,2),(3,3),(4,4),(5,5)],rfl,rfl,rfl,bk (aC (bk (bG rfl rfl (hv2 rfl rfl rfl) (aC (aC trivial)))))⟩,fun h1 s' hs'=>⟨rfl,j,by dsimp only;omega,cU.le ⟨[(0,0),(1,1),(2,2),(3,3),(4,4),(5,5)],rfl,rfl,rfl,bk (aC (bk (bG rfl rfl (hv2 rfl rfl rfl) (aC (aC trivial)))))⟩ hs' hk⟩⟩
   have hj':j<M:=hj'
   refine adB hk k1 k2 k3 aa aa k5 aa aa hK.sorted (hK.KX aa) (fun i h1 h2 h3=>R8 k1 aa h2) (by rw[hG]) fun s' hle=>?_
   refine au.jn hle (au.bC hT mH hm 60 kW aaA ag ?_)
   simp only[ah.all,aA]
   exact⟨aa,fun s'' hs''=>⟨j+1,by dsimp only;omega,by dsimp only;omega,cU.le ⟨[(0,0),(1,1),(2,2),(3,3),(4,4),(5,5)],rfl,rfl,rfl,bk (aC (bk (bG rfl rfl (hv2 rfl rfl rfl) (aC (aC trivial)))))⟩ hs'' hk⟩⟩
  ·have hj:j=M:=hj
   subst hj
   refine au.gr ((aH.fin hT mH hm 60 Vp ag ?_).mono fun _ _ h=>.inl h)
   simp only[ah.all,aA]
   refine⟨⟨aa,aa⟩,aa,?_,?_,trivial⟩
   ·rw[show eH c=Hv (mJ (fZ c))from if_neg aa]
    refine b7 ⟨bK hq.symm,dS fun i _=>.refl _,nv hM fun i _=>?_,trivial⟩
    rw[hG,<-hq];exact .refl _
   ·rw[show nJ c=0 from if_neg aa];exact .refl _
def Xs:Spec:=cq (kC (wH 2000 2000) kN) (fun a=>.tuple [bV (eH a.1) 2000 (bX+bX+1),.int .i64 (nJ a.1)]) fun a=>[kJ a.1,a.1.n<=20]
theorem afG:aW P Xs xL:=ck fun⟨c,_⟩ K hn=>acf hn.1 hn.2 K
def oQ (x:Rat):Prop:=∃z:Int,x=(z:Rat)/2/\-4<=z/\z<=28
theorem CN {z:Int}:(z:Rat)/2*55440=((27720*z:Int):Rat):=by
 rw[Rat.intCast_mul,Rat.div_def,show((27720:Int):Rat)=2⁻¹*55440 by decide+kernel];grind
theorem oQ.EC {x:Rat} (h:oQ x):ej x:=by
 obtain⟨z,e,h1,h2⟩:=h
 exact⟨27720*z,by rw[e,CN],aa,aa⟩
theorem Pv {x y:Int} {k:Nat} (hx:x.natAbs<2^k) (hy:y≠0) (hy2:y.natAbs<2^k):Sz ((x:Rat)/(y:Rat)) k:=by
 rw[<-DO hy];exact Fy aa hx hy2
theorem CX {n:Nat} {f:Nat->AV} {a:Int}:Sz (gx n f a) 3:=by
 have a1:=gC (n:=n) (f:=f) (a:=a) (m:=13) aa
 have a2:=gH (n:=n) (f:=f) (a:=a) (m:=13) aa
 have b1:=gC (n:=n) (f:=f) (a:=aR n (aR n a)) (m:=4) aa
 have b2:=gH (n:=n) (f:=f) (a:=aR n (aR n a)) (m:=4) aa
 unfold gx
 split
 ·exact Pv aa aa aa
 ·exact lU aa (by decide)
theorem alO {d:Int}:∃q:Int,mY d*27720=(q:Rat)/\0<=q/\q<=27720:=by
 have hv0:=Int.emod_nonneg (i64.wrap (d.tdiv 17)) (show(12:Int)≠0 by omega)
 have hv1:=Int.emod_lt_of_pos (i64.wrap (d.tdiv 17)) (show(0:Int)<12 by omega)
 obtain⟨v,hv⟩:∃v,v=zF d:=⟨_,rfl⟩
 have hv2:1<=v/\v<=12:=by rw[hv];unfold zF;omega
 have hu0:=Int.emod_nonneg d (show v+1≠0 by omega)
 have hu1:=Int.emod_lt_of_pos d (show 0<v+1 by omega)
 unfold mY
 rw[<-hv]
 generalize d%(v+1)=u at*
 obtain⟨w,hw⟩:∃w:Int,v*w=27720:=by
  rcases(show v=1\/v=2\/v=3\/v=4\/v=5\/v=6\/v=7\/v=8\/v=9\/v=10\/v=11\/v=12 by omega)with h|h|h|h|h|h|h|h|h|h|h|h<;>subst h
  ·exact⟨27720,rfl⟩
  ·exact⟨13860,rfl⟩
  ·exact⟨9240,rfl⟩
  ·exact⟨6930,rfl⟩
  ·exact⟨5544,rfl⟩
  ·exact⟨4620,rfl⟩
  ·exact⟨3960,rfl⟩
  ·exact⟨3465,rfl⟩
  ·exact⟨3080,rfl⟩
  ·exact⟨2772,rfl⟩
  ·exact⟨2520,rfl⟩
  ·exact⟨2310,rfl⟩
 have hw0:0<=w:=by
  by_cases c:0<=w
  ·exact c
  ·have:=Int.mul_le_mul_of_nonneg_left (show w<=-1 by omega) (show 0<=v by omega)
   omega
 refine⟨u*w,?_,Int.mul_nonneg hu0 hw0,?_⟩
 ·have hvr:(v:Rat)≠0:=by
   intro e
   have:v=0:=Rat.intCast_inj.1 (e:(v:Rat)=((0:Int):Rat))
   omega
  have e:(27720:Rat)=(v:Rat)*(w:Rat):=by rw[<-Rat.intCast_mul,hw];rfl
  rw[e,Rat.intCast_mul,Rat.div_def]
  have:(u:Rat)*(v:Rat)⁻¹*((v:Rat)*(w:Rat))=(u:Rat)*(((v:Rat)*(v:Rat)⁻¹)*(w:Rat)):=by grind
  rw[this,Rat.mul_inv_cancel _ hvr,Rat.one_mul]
 ·have:=Int.mul_le_mul_of_nonneg_right (show u<=v by omega) hw0
  omega
theorem Rg {x y:Rat} {d:Int} (hx:oQ x) (hy:oQ y) (hxy:x<=y):ej (x+mY d*(y-x)):=by
 obtain⟨z0,e0,a1,a2⟩:=hx
 obtain⟨z1,e1,b1,b2⟩:=hy
 obtain⟨q,hq,q1,q2⟩:=alO (d:=d)
 have o:27720*z0<=27720*z1:=ej.order (by rw[<-CN,e0]) (by rw[<-CN,e1]) hxy
 have n1:=Int.mul_nonneg q1 (show 0<=z1-z0 by omega)
 have n2:=Int.mul_le_mul_of_nonneg_right q2 (show 0<=z1-z0 by omega)
 refine⟨27720*z0+q*(z1-z0),?_,aa,aa⟩
 rw[Rat.intCast_add,Rat.intCast_mul q,Rat.intCast_sub,<-hq,<-CN,e0,e1]
 have e2:(z0:Rat)/2=(z0:Rat)*(1/2):=by rw[Rat.div_def,show((2:Rat)⁻¹)=1/2 by decide+kernel]
 have e3:(z1:Rat)/2=(z1:Rat)*(1/2):=by rw[Rat.div_def,show((2:Rat)⁻¹)=1/2 by decide+kernel]
 rw[e2,e3]
 grind
end Go.Am.B
