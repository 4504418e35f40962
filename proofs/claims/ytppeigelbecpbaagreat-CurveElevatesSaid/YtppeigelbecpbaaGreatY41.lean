/- Spline. -/
import Derived.Test.YtppeigelbecpbaaGreatY40
import Derived.Test.YtppeigelbecpbaaGreatY38
set_option linter.unusedVariables false
noncomputable section
namespace Go.Am.B
open Go Go.Am.N AV ah au IntKind
theorem Tk:aT P E8 tv (aA tv):=aY Proofs.Tryz.func98 ag ag ag
def jc:bg:=nG::(wu,Lh)::(Cv,HT)::(xg,HK)::(wX,Lg)::(uY,r5)::(s9,pF)::(BO,P9)::gI
abbrev AQ:Code:=aA tv
abbrev vp:Code:=part AQ [1,1,1]
abbrev pS:Code:=part vp [1,0,1,0,0]
abbrev qO:Code:=part pS [1,1,0,0]
abbrev zI:Code:=part qO [1,1,1,1,0,1,0,0]
abbrev qP:Code:=part zI [1,1,0,0]
def bZ:Nat:=8589934592
abbrev zY:List Nat:=[1,2,3,21,22,23]
abbrev uS (c:Cu) (i:Nat):List AV:=[.ptr 0 0 3 0 [],.ptr 1 0 3 0 [],.ptr 2 0 3 0 [],bq c.k c.n 2000,.int .i64 c.n,.int .i64 i]
abbrev wE (c:Cu) (q:Int) (m:Nat) (F:Nat->Rat):aF:=[(3,oH 2000 m F),(2,⟨false,true,3,1,fun _=>.agg [.int .i64 q,.own 3 3 0 m,.nil]⟩),(1,qS),(0,qI c)]
abbrev ko:List Nat:=[1,2,3,6,68,69]
abbrev ql (M j:Nat):List AV:=[.ptr 0 0 3 0 [],.ptr 1 0 3 0 [],.ptr 2 0 3 0 [],.ptr 4 0 3 0 [],.int .i64 M,.int .i64 j]
abbrev gW (c:Cu) (q:Int) (m:Nat) (F:Nat->Rat) (f:Rat) (j:Nat) (G:Nat->Pl):aF:=[(5,⟨true,true,12,j,fun i=>bu (G i) bZ⟩),(4,tP f 64),(3,⟨true,false,3,m,fun i=>.rat (F i) 2000⟩),(2,⟨false,true,3,1,fun _=>.agg [.int .i64 q,.own 3 3 0 m,.own 5 12 0 j]⟩),(1,qS),(0,qI c)]
abbrev sj:List Nat:=[1,2,3,6,68,69,9,10,12,99,100]
abbrev Dx (M j:Nat) (a:Int) (q i:Nat):List AV:=[.ptr 0 0 3 0 [],.ptr 1 0 3 0 [],.ptr 2 0 3 0 [],.ptr 4 0 3 0 [],.int .i64 M,.int .i64 j,.own 3 3 (j+1) q,.int .i64 a,.ptr 6 0 12 0 [],.int .i64 q,.int .i64 i]
abbrev lF:List Nat:=[1,2,3,6,68,69,9,10,12,99,100,14,112]
abbrev tW (M j:Nat) (a:Int) (q i b:Nat):List AV:=[.ptr 0 0 3 0 [],.ptr 1 0 3 0 [],.ptr 2 0 3 0 [],.ptr 4 0 3 0 [],.int .i64 M,.int .i64 j,.own 3 3 (j+1) q,.int .i64 a,.ptr 6 0 12 0 [],.int .i64 q,.int .i64 i,.ptr 7 0 12 0 [],.int .i64 b]
def jC (f:Rat) (x:Nat->Pl):Nat->Pl
 |0=>⟨⟨0,0,0⟩,0⟩
 |r+1=>⟨⟨(jC f x r).n.x+f*(x r).n.x,(jC f x r).n.y+f*(x r).n.y,(jC f x r).n.z+f*(x r).n.z⟩,(jC f x r).d+f*(x r).d⟩
def iy (c:Cu) (a:Int) (q:Nat) (F:Nat->Rat) (j i:Nat):Pl:=oc c a (q-1) fun u=>kP (fun v=>F (v+(j+1))) i q u
def rK (c:Cu) (f:Rat) (N q:Nat) (F:Nat->Rat) (j:Nat):Pl:=jC f (iy c (fj c.n c.k (F (e9 F N j))) q F j) q
def yd (c:Cu):Nat:=c.n+bU c.k c.n c.n
def lY (c:Cu):Cu:=⟨c.p+1,yd c,cU c.k c.n c.n,yd c-(c.p.toNat+1)-1,rK c (((1:Int):Rat)/((c.p+1:Int):Rat)) (yd c) (c.p.toNat+1) (cU c.k c.n c.n)⟩
def gH (r:Nat):Nat:=1+r*(64+sB+1)
def iP (S x:Pl) (f:Rat) (w b:Nat):AV:=.agg [.rat (if 0<b then S.n.x+f*x.n.x else S.n.x) (if 0<b then w+(64+sB)+1 else w),.rat (if 1<b then S.n.y+f*x.n.y else S.n.y) (if 1<b then w+(64+sB)+1 else w),.rat (if 2<b then S.n.z+f*x.n.z else S.n.z) (if 2<b then w+(64+sB)+1 else w),.rat (if 3<b then S.d+f*x.d else S.d) (if 3<b then w+(64+sB)+1 else w)]
abbrev tE (S x:Pl) (f:Rat) (w b:Nat):aF:=[(7,eB x sB),(6,⟨false,true,12,1,fun _=>iP S x f w b⟩)]
theorem akf {c:Cu}:aH T jc [] 60 zY (before AQ [1,1,0,1]) ⟨aQ 0 [dj c 2000 4000],[],0⟩=
  let c5:Int:=c.p+(1:Int);let c4:Prop:=0<1;let c3:Nat:=(aV (dj c 2000 4000)).size;let c2:AV:=aq 3 c.n fun i=>rat (c.k i) 2000;let c1:AV:=agg [int i64 0,nil,nil];some (aj [c4,-(2:Int)^63<=c5/\c5<(2:Int)^63,c4] (aj [c4] (leaf normal ([ptr 0 0 c3 0 [],ptr 4096 0 3 0 [],ptr 24576 0 3 0 [],c2,int i64 (↑c.n:Int),int i64 0],[((24576:Nat),aJ fun j=>if(j==0)=true then aV (agg (c1.kids.set 0 (aV (int i64 c5))))else c1),((4096:Nat),aJ fun x=>c1),(0,ak.mk false true c3 1 fun x=>agg [int i64 c.p,c2,aq 12 c.m fun i=>bu (c.f i) 4000])])))):=ag
theorem aiR {c:Cu} {i m:Nat} {q:Int} {F:Nat->Rat}:aH T jc [24,40,50] 60 zY [part AQ [1,1,0,1,0,0]] ⟨aC zY (uS c i),wE c q m F,4⟩=
  let c20:Prop:=2000<2^42;let c19:AV:=rat 0 1;let c18:Prop:=1*3<=2^24;let c17:AV:=ptr 2 0 3 0 [];let c16:AV:=ptr 1 0 3 0 [];let c15:AV:=ptr 0 0 3 0 [];let c14:Int:=(↑c.n:Int);let c13:Int:=(↑i:Int);let c11:Nat:=m+1;let c10:AV:=aq 3 c.n fun i=>rat (c.k i) 2000;let c8:Prop:=0<1;let c7:AV:=agg [int i64 q,own 3 3 0 m,nil];let c21:Nat:=c11+1;let c12:AV:=rat (c.k c13.toNat) 2000;let c9:Int:=c13+(1:Int);let c5:AV:=agg (c7.kids.set 1 (aV (own (nat_lit 45059+1) 3 0 c11)));let c3:List (Nat×ak):=[((1:Nat),aJ fun x=>agg [int i64 0,nil,nil]),((0:Nat),aJ fun x=>agg [int i64 c.p,c10,aq 12 c.m fun i=>bu (c.f i) 4000])];let c6:List AV:=[c15,c16,c17,c10,int i64 c14,int i64 c9];let c4:Prop:=-(2:Int)^63<=c9/\c9<(2:Int)^63;let c2:ah (List AV×aF):=aj [c4] (leaf normal (c6,(45060,ak.mk true true 3 c11 fun i=>if i<m then rat (F i) 2000 else nth [c12] c19 (i-m+0))::((2:Nat),aJ fun j=>if(j==0)=true then c5 else c7)::c3));let c1:ah (List AV×aF):=aj [c8,c8,c18,c21*((56:Nat)+1)*2<=2^47,c8] (aj [c4] (leaf normal (c6,(143364,ak.mk true true 3 c21 fun i=>if i<c11 then if i<m then rat (F i) 2000 else nth [c12] c19 (i-m+0)else nth [c12] c19 (i-c11+0))::((2:Nat),aJ fun j=>if(j==0)=true then agg ((if((0:Nat)==0)=true then c5 else c7).kids.set 1 (aV (own (nat_lit 143363+1) 3 0 c21)))else if(j==0)=true then c5 else c7)::c3)));some (fork (decide (c13<c14)) (aj [(0:Int)<=c13/\c13.toNat<c.n,c8] (aj [c8,c8,c18,c11*((56:Nat)+1)*2<=2^47,c8] (fork (c9==c14) (aj [c4,c8,(c9==c14)=true] (fork true c1 c2)) (aj [c4,c8,(c9==c14)=false,c8,c8,c4,(0:Int)<=c9/\c9.toNat<c.n,c20,c20] (fork (bif false then true else !decide (c.k c13.toNat=c.k c9.toNat)) c1 c2))))) (leaf (exit 0) ([c15,c16,c17,c10,int i64 c14,int i64 c13],(3,ak.mk true true 3 m fun i=>rat (F i) 2000)::((2:Nat),aJ fun x=>c7)::c3))):=ag
theorem W6 {c:Cu} {i m:Nat} {q:Int} {F:Nat->Rat}:aH T jc [] 60 ko (before vp [1,0,1]) ⟨aC zY (uS c i),wE c q m F,4⟩=
  let c2:Prop:=0<1;let c1:Int:=(2:Int)^63;some (aj [c2,-c1<=(1:Int),(1:Int)<c1,-c1<=q,q<c1,c2] (aj [c2,c2,bP (fun i=>rat (F (i+0)) 2000) m sK,m<2^40,-(2:Int)^40<q,q<(2:Int)^40] (leaf normal ([ptr 0 0 3 0 [],ptr 1 0 3 0 [],ptr 2 0 3 0 [],ptr 24580 0 3 0 [],int i64 ((↑m:Int)-q-(1:Int)),int i64 0],[(3,ak.mk true false 3 m fun i=>rat (F i) 2000),((24580:Nat),aJ fun j=>if(j==0)=true then aV (rat ((↑(1:Int):Rat)/(↑q:Rat)) 64)else rat 0 1),((2:Nat),aJ fun x=>agg [int i64 q,own 3 3 0 m,nil]),((1:Nat),aJ fun x=>agg [int i64 0,nil,nil]),((0:Nat),aJ fun x=>agg [int i64 c.p,aq 3 c.n fun i=>rat (c.k i) 2000,aq 12 c.m fun i=>bu (c.f i) 4000])])))):=ag
theorem Vg {c:Cu} {M j m:Nat} {q:Int} {F:Nat->Rat} {f:Rat} {G:Nat->Pl}:aH T jc [70] 60 ko (before pS [1,1,0]) ⟨aC ko (ql M j),gW c q m F f j G,6⟩=
  let c1:List AV×aF:=([ptr 0 0 3 0 [],ptr 1 0 3 0 [],ptr 2 0 3 0 [],ptr 4 0 3 0 [],int i64 (↑M:Int),int i64 (↑j:Int)],[(5,ak.mk true true 12 j fun i=>bu (G i) 8589934592),(3,ak.mk true false 3 m fun i=>rat (F i) 2000),((4:Nat),aJ fun x=>rat f 64),((2:Nat),aJ fun x=>agg [int i64 q,own 3 3 0 m,own 5 12 0 j]),((1:Nat),aJ fun x=>agg [int i64 0,nil,nil]),((0:Nat),aJ fun x=>agg [int i64 c.p,aq 3 c.n fun i=>rat (c.k i) 2000,aq 12 c.m fun i=>bu (c.f i) 4000])]);some (fork (decide ((↑j:Int)<(↑M:Int))) (leaf normal c1) (leaf (exit 2) c1)):=ag
theorem Zz {c:Cu} {M j m:Nat} {q:Int} {F:Nat->Rat} {f:Rat} {G:Nat->Pl}:aH T jc [] 60 sj (before qO [1,1,1,1,0,1]) ⟨aC ko (ql M j),gW c q m F f j G,6⟩=
  let c7:Int:=(↑j:Int);let c6:AV:=rat 0 1;let c5:Prop:=0<1;let c4:Int:=(2:Int)^63;let c3:Int:=c7+(1:Int);let c2:Int:=c7+q+(1:Int);let c1:Int:=(↑(e9 (fun i=>aR (rat (F (i+0)) 2000)) m c7.toNat):Int);some (aj [c5,-c4<=c3/\c3<c4,c5,-c4<=c7+q/\c7+q<c4,-c4<=c2/\c2<c4,(0:Int)<=c3/\c3<=c2/\c2<=c2/\c2<=(↑m:Int)] (aj [c5,c5,c5,c5,bP (fun i=>rat (F (i+0)) 2000) m sK,(0:Int)<=c7,c7<=(↑m:Int),m<2^40,(0:Int)<=c1/\c1.toNat<m,bP (fun i=>rat (c.k i) 2000) c.n sK,(2000:Nat)<=sK,Kn c.n c.p.toNat fun i=>aR (rat (c.k i) 2000),(0:Int)<=c.p,c.n<2^40] (leaf normal ([ptr 0 0 3 0 [],ptr 1 0 3 0 [],ptr 2 0 3 0 [],ptr 4 0 3 0 [],int i64 (↑M:Int),int i64 c7,own 3 3 ((0:Nat)+c3.toNat) (c2.toNat-c3.toNat),int i64 (↑(fj c.n (fun i=>aR (rat (c.k i) 2000)) (F (c1.toNat+0))):Int),ptr 126982 0 12 0 [],int i64 (↑(c2.toNat-c3.toNat):Int),int i64 0],[(5,ak.mk true true 12 j fun i=>bu (G i) 8589934592),(3,ak.mk true false 3 m fun i=>rat (F i) 2000),(126982,ak.mk false true 12 1 fun x=>agg [c6,c6,c6,c6]),((4:Nat),aJ fun x=>rat f 64),((2:Nat),aJ fun x=>agg [int i64 q,own 3 3 0 m,own 5 12 0 j]),((1:Nat),aJ fun x=>agg [int i64 0,nil,nil]),((0:Nat),aJ fun x=>agg [int i64 c.p,aq 3 c.n fun i=>rat (c.k i) 2000,aq 12 c.m fun i=>bu (c.f i) 4000])])))):=ag
theorem VI {c:Cu} {M j m q i w:Nat} {a:Int} {F:Nat->Rat} {f:Rat} {G:Nat->Pl} {S:Pl}:aH T jc [101] 60 sj (before zI [1,1,0]) ⟨aC sj (Dx M j a q i),(6,eB S w)::gW c q m F f j G,7⟩=
  let c2:Int:=(↑q:Int);let c1:List AV×aF:=([ptr 0 0 3 0 [],ptr 1 0 3 0 [],ptr 2 0 3 0 [],ptr 4 0 3 0 [],int i64 (↑M:Int),int i64 (↑j:Int),own 3 3 (j+1) q,int i64 a,ptr 6 0 12 0 [],int i64 c2,int i64 (↑i:Int)],[(5,ak.mk true true 12 j fun i=>bu (G i) 8589934592),(3,ak.mk true false 3 m fun i=>rat (F i) 2000),(6,ak.mk false true 12 1 fun x=>bu S w),((4:Nat),aJ fun x=>rat f 64),((2:Nat),aJ fun x=>agg [int i64 c2,own 3 3 0 m,own 5 12 0 j]),((1:Nat),aJ fun x=>agg [int i64 0,nil,nil]),((0:Nat),aJ fun x=>agg [int i64 c.p,aq 3 c.n fun i=>rat (c.k i) 2000,aq 12 c.m fun i=>bu (c.f i) 4000])]);some (fork (decide ((↑i:Int)<c2)) (leaf normal c1) (leaf (exit 4) c1)):=ag
theorem U7 {c:Cu} {M j m q i w:Nat} {a:Int} {F:Nat->Rat} {f:Rat} {G:Nat->Pl} {S:Pl}:aH T jc [] 60 lF (before qP [1,1,1]) ⟨aC sj (Dx M j a q i),(6,eB S w)::gW c q m F f j G,7⟩=
  let c4:Int:=(↑i:Int);let c3:Nat:=j+1;let c1:AV:=rat 0 1;let c2:Int:=c4+(1:Int);some (aj [(0:Nat)<1,bP (fun i=>rat (F (i+c3)) 2000) q 2048,(1:Nat)<=q,q<2^30,-(2:Int)^63<=c2/\c2<(2:Int)^63,q=q,oA (fun i=>rat (aR (rat (F (i+c3)) 2000)) 2048) q 2048,(0:Int)<=c4,c4<(↑q:Int),c2=c2,bP (fun i=>rat (c.k i) 2000) c.n sK,ki (fun i=>bu (c.f i) 4000) c.m sK,bP (fun i=>rat (kP (fun q=>aR (rat (aR (rat (F (q+c3)) 2000)) 2048)) c4.toNat q (i+0)) 2048) (q-1) sK,(1:Int)<=c.p,c.p<=(6:Int),c.n<2^40,c.m<2^40,-(2:Int)^40<a,a<(2:Int)^40,(0:Nat)<1] (leaf normal ([ptr 0 0 3 0 [],ptr 1 0 3 0 [],ptr 2 0 3 0 [],ptr 4 0 3 0 [],int i64 (↑M:Int),int i64 (↑j:Int),own 3 3 c3 q,int i64 a,ptr 6 0 12 0 [],int i64 (↑q:Int),int i64 c4,ptr 45063 0 12 0 [],int i64 0],[(5,ak.mk true true 12 j fun i=>bu (G i) 8589934592),(3,ak.mk true false 3 m fun i=>rat (F i) 2000),(45063,ak.mk false true 12 1 fun j=>if(j==0)=true then aV (bu (oc (Cu.mk c.p c.n (fun i=>aR (rat (c.k i) 2000)) c.m fun i=>oC (bu (c.f i) 4000)) a (q-1) fun i=>aR (rat (kP (fun q=>aR (rat (aR (rat (F (q+c3)) 2000)) 2048)) c4.toNat q (i+0)) 2048)) sB)else agg [c1,c1,c1,c1]),(6,ak.mk false true 12 1 fun x=>bu S w),((4:Nat),aJ fun x=>rat f 64),((2:Nat),aJ fun x=>agg [int i64 (↑q:Int),own 3 3 0 m,own 5 12 0 j]),((1:Nat),aJ fun x=>agg [int i64 0,nil,nil]),((0:Nat),aJ fun x=>agg [int i64 c.p,aq 3 c.n fun i=>rat (c.k i) 2000,aq 12 c.m fun i=>bu (c.f i) 4000])]))):=ag
theorem akt {c:Cu} {M j m q i w:Nat} {a:Int} {F:Nat->Rat} {f:Rat} {G:Nat->Pl} {S x:Pl}:aH T jc [] 60 lF [part qP [1,1,1,0,0]] ⟨aC lF (tW M j a q i 0),tE S x f w 0++gW c q m F f j G,8⟩=
  let c6:Nat:=64+sB;let c5:Prop:=0<1;let c4:Nat:=2^42;let c3:Int:=(↑(0:Nat):Int);let c2:Nat:=if 0<0 then w+c6+1 else w;let c1:Prop:=(0:Int)<=c3/\c3<(↑(4:Nat):Int);some (aj [c1,c5,c5,c1,c5,(64:Nat)<c4,sB<c4,c2<c4,c6<c4,c1,c5] (aj [-(2:Int)^63<=c3+(1:Int)/\c3+(1:Int)<(2:Int)^63] (leaf normal ([ptr 0 0 3 0 [],ptr 1 0 3 0 [],ptr 2 0 3 0 [],ptr 4 0 3 0 [],int i64 (↑M:Int),int i64 (↑j:Int),own 3 3 (j+1) q,int i64 a,ptr 6 0 12 0 [],int i64 (↑q:Int),int i64 (↑i:Int),ptr 7 0 12 0 [],int i64 1],[(5,ak.mk true true 12 j fun i=>bu (G i) 8589934592),(3,ak.mk true false 3 m fun i=>rat (F i) 2000),(7,ak.mk false true 12 1 fun x_1=>bu x 536870912),(6,ak.mk false true 12 1 fun j=>if(j==0)=true then agg ((iP S x f w 0).kids.set c3.toNat (aV (ir (if 0<0 then S.n.x+f*x.n.x else S.n.x,c2) (f*x.n.x,c6))))else iP S x f w 0),((4:Nat),aJ fun x=>rat f 64),((2:Nat),aJ fun x=>agg [int i64 (↑q:Int),own 3 3 0 m,own 5 12 0 j]),((1:Nat),aJ fun x=>agg [int i64 0,nil,nil]),((0:Nat),aJ fun x=>agg [int i64 c.p,aq 3 c.n fun i=>rat (c.k i) 2000,aq 12 c.m fun i=>bu (c.f i) 4000])])))):=ag
theorem Vx {c:Cu} {M j m q i w:Nat} {a:Int} {F:Nat->Rat} {f:Rat} {G:Nat->Pl} {S x:Pl}:aH T jc [] 60 lF [part qP [1,1,1,0,0]] ⟨aC lF (tW M j a q i 1),tE S x f w 1++gW c q m F f j G,8⟩=
  let c6:Nat:=64+sB;let c5:Prop:=0<1;let c4:Nat:=2^42;let c3:Int:=(↑(1:Nat):Int);let c2:Nat:=if 1<1 then w+c6+1 else w;let c1:Prop:=(0:Int)<=c3/\c3<(↑(4:Nat):Int);some (aj [c1,c5,c5,c1,c5,(64:Nat)<c4,sB<c4,c2<c4,c6<c4,c1,c5] (aj [-(2:Int)^63<=c3+(1:Int)/\c3+(1:Int)<(2:Int)^63] (leaf normal ([ptr 0 0 3 0 [],ptr 1 0 3 0 [],ptr 2 0 3 0 [],ptr 4 0 3 0 [],int i64 (↑M:Int),int i64 (↑j:Int),own 3 3 (j+1) q,int i64 a,ptr 6 0 12 0 [],int i64 (↑q:Int),int i64 (↑i:Int),ptr 7 0 12 0 [],int i64 2],[(5,ak.mk true true 12 j fun i=>bu (G i) 8589934592),(3,ak.mk true false 3 m fun i=>rat (F i) 2000),(7,ak.mk false true 12 1 fun x_1=>bu x 536870912),(6,ak.mk false true 12 1 fun j=>if(j==0)=true then agg ((iP S x f w 1).kids.set c3.toNat (aV (ir (if 1<1 then S.n.y+f*x.n.y else S.n.y,c2) (f*x.n.y,c6))))else iP S x f w 1),((4:Nat),aJ fun x=>rat f 64),((2:Nat),aJ fun x=>agg [int i64 (↑q:Int),own 3 3 0 m,own 5 12 0 j]),((1:Nat),aJ fun x=>agg [int i64 0,nil,nil]),((0:Nat),aJ fun x=>agg [int i64 c.p,aq 3 c.n fun i=>rat (c.k i) 2000,aq 12 c.m fun i=>bu (c.f i) 4000])])))):=ag
theorem aaZ {c:Cu} {M j m q i w:Nat} {a:Int} {F:Nat->Rat} {f:Rat} {G:Nat->Pl} {S x:Pl}:aH T jc [] 60 lF [part qP [1,1,1,0,0]] ⟨aC lF (tW M j a q i 2),tE S x f w 2++gW c q m F f j G,8⟩=
  let c6:Nat:=64+sB;let c5:Prop:=0<1;let c4:Nat:=2^42;let c3:Int:=(↑(2:Nat):Int);let c2:Nat:=if 2<2 then w+c6+1 else w;let c1:Prop:=(0:Int)<=c3/\c3<(↑(4:Nat):Int);some (aj [c1,c5,c5,c1,c5,(64:Nat)<c4,sB<c4,c2<c4,c6<c4,c1,c5] (aj [-(2:Int)^63<=c3+(1:Int)/\c3+(1:Int)<(2:Int)^63] (leaf normal ([ptr 0 0 3 0 [],ptr 1 0 3 0 [],ptr 2 0 3 0 [],ptr 4 0 3 0 [],int i64 (↑M:Int),int i64 (↑j:Int),own 3 3 (j+1) q,int i64 a,ptr 6 0 12 0 [],int i64 (↑q:Int),int i64 (↑i:Int),ptr 7 0 12 0 [],int i64 3],[(5,ak.mk true true 12 j fun i=>bu (G i) 8589934592),(3,ak.mk true false 3 m fun i=>rat (F i) 2000),(7,ak.mk false true 12 1 fun x_1=>bu x 536870912),(6,ak.mk false true 12 1 fun j=>if(j==0)=true then agg ((iP S x f w 2).kids.set c3.toNat (aV (ir (if 2<2 then S.n.z+f*x.n.z else S.n.z,c2) (f*x.n.z,c6))))else iP S x f w 2),((4:Nat),aJ fun x=>rat f 64),((2:Nat),aJ fun x=>agg [int i64 (↑q:Int),own 3 3 0 m,own 5 12 0 j]),((1:Nat),aJ fun x=>agg [int i64 0,nil,nil]),((0:Nat),aJ fun x=>agg [int i64 c.p,aq 3 c.n fun i=>rat (c.k i) 2000,aq 12 c.m fun i=>bu (c.f i) 4000])])))):=ag
theorem Za {c:Cu} {M j m q i w:Nat} {a:Int} {F:Nat->Rat} {f:Rat} {G:Nat->Pl} {S x:Pl}:aH T jc [] 60 lF [part qP [1,1,1,0,0]] ⟨aC lF (tW M j a q i 3),tE S x f w 3++gW c q m F f j G,8⟩=
  let c6:Nat:=64+sB;let c5:Prop:=0<1;let c4:Nat:=2^42;let c3:Int:=(↑(3:Nat):Int);let c2:Nat:=if 3<3 then w+c6+1 else w;let c1:Prop:=(0:Int)<=c3/\c3<(↑(4:Nat):Int);some (aj [c1,c5,c5,c1,c5,(64:Nat)<c4,sB<c4,c2<c4,c6<c4,c1,c5] (aj [-(2:Int)^63<=c3+(1:Int)/\c3+(1:Int)<(2:Int)^63] (leaf normal ([ptr 0 0 3 0 [],ptr 1 0 3 0 [],ptr 2 0 3 0 [],ptr 4 0 3 0 [],int i64 (↑M:Int),int i64 (↑j:Int),own 3 3 (j+1) q,int i64 a,ptr 6 0 12 0 [],int i64 (↑q:Int),int i64 (↑i:Int),ptr 7 0 12 0 [],int i64 4],[(5,ak.mk true true 12 j fun i=>bu (G i) 8589934592),(3,ak.mk true false 3 m fun i=>rat (F i) 2000),(7,ak.mk false true 12 1 fun x_1=>bu x 536870912),(6,ak.mk false true 12 1 fun j=>if(j==0)=true then agg ((iP S x f w 3).kids.set c3.toNat (aV (ir (if 3<3 then S.d+f*x.d else S.d,c2) (f*x.d,c6))))else iP S x f w 3),((4:Nat),aJ fun x=>rat f 64),((2:Nat),aJ fun x=>agg [int i64 (↑q:Int),own 3 3 0 m,own 5 12 0 j]),((1:Nat),aJ fun x=>agg [int i64 0,nil,nil]),((0:Nat),aJ fun x=>agg [int i64 c.p,aq 3 c.n fun i=>rat (c.k i) 2000,aq 12 c.m fun i=>bu (c.f i) 4000])])))):=ag
theorem afY {c:Cu} {M j m q i w:Nat} {a:Int} {F:Nat->Rat} {f:Rat} {G:Nat->Pl} {S x:Pl}:aH T jc [] 60 lF [part qP [1,1,1,0,0]] ⟨aC lF (tW M j a q i 4),tE S x f w 4++gW c q m F f j G,8⟩=
  let c1:Nat:=w+((64:Nat)+sB)+1;some (leaf (exit 6) ([ptr 0 0 3 0 [],ptr 1 0 3 0 [],ptr 2 0 3 0 [],ptr 4 0 3 0 [],int i64 (↑M:Int),int i64 (↑j:Int),own 3 3 (j+1) q,int i64 a,ptr 6 0 12 0 [],int i64 (↑q:Int),int i64 (↑i:Int),ptr 7 0 12 0 [],int i64 4],[(5,ak.mk true true 12 j fun i=>bu (G i) 8589934592),(3,ak.mk true false 3 m fun i=>rat (F i) 2000),(7,ak.mk false true 12 1 fun x_1=>bu x 536870912),(6,ak.mk false true 12 1 fun x_1=>agg [rat (if 0<4 then S.n.x+f*x.n.x else S.n.x) (if 0<4 then c1 else w),rat (if 1<4 then S.n.y+f*x.n.y else S.n.y) (if 1<4 then c1 else w),rat (if 2<4 then S.n.z+f*x.n.z else S.n.z) (if 2<4 then c1 else w),rat (if 3<4 then S.d+f*x.d else S.d) (if 3<4 then c1 else w)]),((4:Nat),aJ fun x=>rat f 64),((2:Nat),aJ fun x=>agg [int i64 (↑q:Int),own 3 3 0 m,own 5 12 0 j]),((1:Nat),aJ fun x=>agg [int i64 0,nil,nil]),((0:Nat),aJ fun x=>agg [int i64 c.p,aq 3 c.n fun i=>rat (c.k i) 2000,aq 12 c.m fun i=>bu (c.f i) 4000])])):=ag
theorem afe {c:Cu} {M j m q i w:Nat} {a:Int} {F:Nat->Rat} {f:Rat} {G:Nat->Pl} {S x:Pl}:aH T jc [] 60 sj [part zI [1,1,1]] ⟨aC lF (tW M j a q i 4),tE S x f w 4++gW c q m F f j G,8⟩=
  let c2:Int:=(↑i:Int)+(1:Int);let c1:Nat:=w+((64:Nat)+sB)+1;some (aj [-(2:Int)^63<=c2/\c2<(2:Int)^63] (leaf normal ([ptr 0 0 3 0 [],ptr 1 0 3 0 [],ptr 2 0 3 0 [],ptr 4 0 3 0 [],int i64 (↑M:Int),int i64 (↑j:Int),own 3 3 (j+1) q,int i64 a,ptr 6 0 12 0 [],int i64 (↑q:Int),int i64 c2],[(5,ak.mk true true 12 j fun i=>bu (G i) 8589934592),(3,ak.mk true false 3 m fun i=>rat (F i) 2000),(6,ak.mk false true 12 1 fun x_1=>agg [rat (if 0<4 then S.n.x+f*x.n.x else S.n.x) (if 0<4 then c1 else w),rat (if 1<4 then S.n.y+f*x.n.y else S.n.y) (if 1<4 then c1 else w),rat (if 2<4 then S.n.z+f*x.n.z else S.n.z) (if 2<4 then c1 else w),rat (if 3<4 then S.d+f*x.d else S.d) (if 3<4 then c1 else w)]),((4:Nat),aJ fun x=>rat f 64),((2:Nat),aJ fun x=>agg [int i64 (↑q:Int),own 3 3 0 m,own 5 12 0 j]),((1:Nat),aJ fun x=>agg [int i64 0,nil,nil]),((0:Nat),aJ fun x=>agg [int i64 c.p,aq 3 c.n fun i=>rat (c.k i) 2000,aq 12 c.m fun i=>bu (c.f i) 4000])]))):=ag
theorem agn {c:Cu} {M j m q i w:Nat} {a:Int} {F:Nat->Rat} {f:Rat} {G:Nat->Pl} {S:Pl}:aH T jc [] 60 ko [part qO [1,1,1,1,1]] ⟨aC sj (Dx M j a q i),(6,eB S w)::gW c q m F f j G,7⟩=
  let c3:Prop:=0<1;let c2:AV:=rat 0 1;let c1:AV:=agg [int i64 (↑q:Int),own 3 3 0 m,own 5 12 0 j];some (aj [c3,c3,(1:Nat)*12<=2^24,(j+1)*((224:Nat)+1)*2<=2^47,c3] (leaf normal ([ptr 0 0 3 0 [],ptr 1 0 3 0 [],ptr 2 0 3 0 [],ptr 4 0 3 0 [],int i64 (↑M:Int),int i64 (↑j:Int)],[(16391,ak.mk true true 12 (j+1) fun i=>if i<j then bu (G i) bZ else nth [bu S w] (agg [c2,c2,c2,c2]) (i-j+0)),(3,ak.mk true false 3 m fun i=>rat (F i) 2000),((4:Nat),aJ fun x=>rat f 64),((2:Nat),aJ fun j_1=>if(j_1==0)=true then agg (c1.kids.set 2 (aV (own (nat_lit 16390+1) 12 0 (j+1))))else c1),((1:Nat),aJ fun x=>agg [int i64 0,nil,nil]),((0:Nat),aJ fun x=>agg [int i64 c.p,aq 3 c.n fun i=>rat (c.k i) 2000,aq 12 c.m fun i=>bu (c.f i) 4000])]))):=ag
theorem ae4 {c:Cu} {M j m h:Nat} {q:Int} {F:Nat->Rat} {f:Rat} {G:Nat->Pl}:aH T jc [] 60 ko [part pS [1,1,1]] ⟨aC ko (ql M j),gW c q m F f h G,6⟩=
  let c1:Int:=(↑j:Int)+(1:Int);some (aj [-(2:Int)^63<=c1/\c1<(2:Int)^63] (leaf normal ([ptr 0 0 3 0 [],ptr 1 0 3 0 [],ptr 2 0 3 0 [],ptr 4 0 3 0 [],int i64 (↑M:Int),int i64 c1],[(5,ak.mk true true 12 h fun i=>bu (G i) 8589934592),(3,ak.mk true false 3 m fun i=>rat (F i) 2000),((4:Nat),aJ fun x=>rat f 64),((2:Nat),aJ fun x=>agg [int i64 q,own 3 3 0 m,own 5 12 0 h]),((1:Nat),aJ fun x=>agg [int i64 0,nil,nil]),((0:Nat),aJ fun x=>agg [int i64 c.p,aq 3 c.n fun i=>rat (c.k i) 2000,aq 12 c.m fun i=>bu (c.f i) 4000])]))):=ag
theorem XJ {c:Cu} {M j m:Nat} {q:Int} {F:Nat->Rat} {f:Rat} {G:Nat->Pl}:cw T jc [] 60 tv [part vp [1,1]] ⟨aC ko (ql M j),gW c q m F f j G,6⟩=
  let c1:Prop:=0<1;some (aj [c1,c1] (aj [c1] (leaf ret [agg [int i64 q,aq 3 m fun i=>rat (F (i+0)) 2000,aq 12 j fun i=>bu (G (i+0)) 8589934592]]))):=ag
theorem r4:bz P jc:=cZ (aL Ni (aL aiP (aL Ms (aL Tt (aL Io (aL zA (aL acY iG)))))))
theorem YO {c:Cu} {M j m q:Nat} {F:Nat->Rat} {f:Rat} {G:Nat->Pl} {cx:Ctx} {Q:au->aM->Prop} (hk:Kept [] cx) (hc:Kn c.n c.p.toNat c.k) (hp1:1<=c.p) (hp6:c.p<=6) (hq:(q:Int)=c.p+1) (hn:c.n<2^20) (hm2:c.m<2^20) (hmn:m<2^20) (hj:j+q+1<m)
  (hG:rK c f m q F j=G j)
  (hQ:∀s',(∃ρ,Le cx ρ s' ⟨aC ko (ql M j),gW c q m F f (j+1) G,6⟩)->ax P cx tv.ntmps (part pS [1,1,1]) s' Q):
  ax P cx tv.ntmps qO ⟨aC ko (ql M j),gW c q m F f j G,6⟩ (inBlock 3 (dH (fun s'=>ax P cx tv.ntmps (part pS [1,1,1]) s' Q) Q)):=by
 have hSB:sB=536870912:=rfl
 have hSE:bZ=8589934592:=rfl
 obtain⟨a,ha⟩:∃a:Nat,a=fj c.n c.k (F (e9 F m j)):=⟨_,rfl⟩
 have ha2:a<c.n:=by rw[ha];exact P3 hc
 have hpc:=SR (k:=F) (n:=m) (i:=j) aa
 have hv:∀{rl:List (Nat×Nat)} {k x y y':Nat},bh rl 3=some 3->bh rl k=some x->y=y'->eG rl (.agg [.int .i64 q,.own 3 3 0 m,.own x 12 0 y]) (.agg [.int .i64 q,.own 3 3 0 m,.own k 12 0 y']):=fun h0 h e=>fW ⟨⟨rfl,aN rfl⟩,⟨rfl,cD h0 rfl rfl⟩,⟨rfl,cD h rfl e⟩,trivial⟩
 have wS:∀r,gH (r+1)=gH r+(64+sB)+1:=fun r=>by unfold gH;rw[hSB];omega
 have wL:∀r,r<=7->gH r<=bZ:=fun r hr=>by unfold gH;rw[hSB,hSE];omega
 refine ax.JH hT r4 hm (x:=qO) (y:=zI) (x1:=qP) (zb:=part zI [1,1,1]) (y2:=part qP [1,1,1,0,0]) [1,1,1,1,0,1] (i:=4) ag ag ag [1,1,0] (j:=5) ag ag ag [1,1,1] (i2:=6) ag ag rfl hk (f1:=[]) (f2:=[101]) (f3:=[]) (f4:=[]) (f5:=[]) 60 sj lF 7 8
  (fun i:Nat=>Dx M j a q i) (fun i=>(6,eB (jC f (iy c a q F j) i) (gH i))::gW c q m F f j G) (fun i=>i<=q) (fun i=>i=q) (fun i=>q-i) (fun i=>i<q) (fun _=>False) (fun _=>False)
  (fun i (b:Nat)=>tW M j a q i b) (fun i b=>tE (jC f (iy c a q F j) i) (iy c a q F j i) f (gH i) b++gW c q m F f j G) (fun _ b=>b<=4) (fun _ b=>b=4) (fun _ b=>4-b)
  ⟨_,Zz,?_⟩ (fun i hi=>⟨_,VI,?_⟩) (fun i hi hG=>⟨_,U7,?_⟩) (fun i hi hG b hb=>?_) (fun i hi hG b hb=>?_) (fun i s' hi hle=>?_) (fun _ _ h=>h.elim) (fun _ _ h=>h.elim)
 ·simp only[ah.all,az]
  have e1:((j:Int)+1).toNat=j+1:=aa
  have e2:((j:Int)+q+1).toNat=j+q+1:=aa
  have e3:j+q+1-(j+1)=q:=aa
  have h7:e9 (fun i=>aR (rat (F i) 2000)) m j=e9 F m j:=rfl
  have h8:fj c.n (fun i=>aR (rat (c.k i) 2000)) (F (e9 F m j))=a:=ha.symm
  simp only[e1,e2,e3,Nat.zero_add,Nat.add_zero,aW,h7,h8]
  exact⟨⟨aa,aa,aa,aa,aa,aa,aa,aa,aa⟩,⟨aa,aa,aa,aa,bY (by decide),aa,aa,aa,⟨aa,hpc⟩,bY (by decide),by decide,hc,aa,aa⟩,0,Nat.zero_le _,[(0,0),(1,1),(2,2),(3,3),(4,4),(5,5),(6,126982)],rfl,rfl,rfl,aB (bp (aB (bp (bD rfl rfl (hv rfl rfl rfl) (aB (aB trivial))))))⟩
 ·simp only[ah.all,az,aZ,bk]
  exact⟨fun h=>⟨aa,[(0,0),(1,1),(2,2),(3,3),(4,4),(5,5),(6,6)],rfl,rfl,rfl,aB (bp (aB (bp (bD rfl rfl (hv rfl rfl rfl) (aB (aB trivial))))))⟩,fun h=>⟨rfl,i,aa,[(0,0),(1,1),(2,2),(3,3),(4,4),(5,5),(6,6)],rfl,rfl,rfl,aB (bp (aB (bp (bD rfl rfl (hv rfl rfl rfl) (aB (aB trivial))))))⟩⟩
 ·simp only[ah.all,az]
  have hG:i<q:=hG
  exact⟨⟨aa,bY (by decide),aa,aa,aa,trivial,NH aU,aa,aa,trivial,bY (by decide),pL (by decide),bY (by decide),hp1,hp6,aa,aa,aa,aa,aa⟩,0,aa,[(0,0),(1,1),(2,2),(3,3),(4,4),(5,5),(6,6),(7,45063)],rfl,rfl,rfl,aB (aB (bp (aB (bp (bD rfl rfl (hv rfl rfl rfl) (aB (aB trivial)))))))⟩
 ·have hG:i<q:=hG
  have hb:b<=4:=hb
  have hw:=wL i aa
  have u1:(0:Int)<4:=by decide
  rcases(show b=0\/b=1\/b=2\/b=3\/b=4 by omega)with rfl|rfl|rfl|rfl|rfl
  ·refine⟨_,akt,?_⟩
   simp only[ah.all,az]
   exact⟨⟨aa,aa,aa,aa,aa,aa,aa,by show gH i<2^42;omega,aa,aa,aa⟩,aa,1,aa,by dsimp only;omega,[(0,0),(1,1),(2,2),(3,3),(4,4),(5,5),(6,6),(7,7)],rfl,rfl,rfl,aB (aB (bp (aB (bp (bD rfl rfl (hv rfl rfl rfl) (aB (aB trivial)))))))⟩
  ·refine⟨_,Vx,?_⟩
   simp only[ah.all,az]
   exact⟨⟨aa,aa,aa,aa,aa,aa,aa,by show gH i<2^42;omega,aa,aa,aa⟩,aa,2,aa,by dsimp only;omega,[(0,0),(1,1),(2,2),(3,3),(4,4),(5,5),(6,6),(7,7)],rfl,rfl,rfl,aB (aB (bp (aB (bp (bD rfl rfl (hv rfl rfl rfl) (aB (aB trivial)))))))⟩
  ·refine⟨_,aaZ,?_⟩
   simp only[ah.all,az]
   exact⟨⟨aa,aa,aa,aa,aa,aa,aa,by show gH i<2^42;omega,aa,aa,aa⟩,aa,3,aa,by dsimp only;omega,[(0,0),(1,1),(2,2),(3,3),(4,4),(5,5),(6,6),(7,7)],rfl,rfl,rfl,aB (aB (bp (aB (bp (bD rfl rfl (hv rfl rfl rfl) (aB (aB trivial)))))))⟩
  ·refine⟨_,Za,?_⟩
   simp only[ah.all,az]
   exact⟨⟨aa,aa,aa,aa,aa,aa,aa,by show gH i<2^42;omega,aa,aa,aa⟩,aa,4,aa,by dsimp only;omega,[(0,0),(1,1),(2,2),(3,3),(4,4),(5,5),(6,6),(7,7)],rfl,rfl,rfl,aB (aB (bp (aB (bp (bD rfl rfl (hv rfl rfl rfl) (aB (aB trivial)))))))⟩
  ·exact⟨_,afY,rfl,4,rfl,[(0,0),(1,1),(2,2),(3,3),(4,4),(5,5),(6,6),(7,7)],rfl,rfl,rfl,aB (aB (bp (aB (bp (bD rfl rfl (hv rfl rfl rfl) (aB (aB trivial)))))))⟩
 ·have hb:b=4:=hb
  subst hb
  refine⟨_,afe,?_⟩
  simp only[ah.all,az]
  have hG:i<q:=hG
  have hw:=Nat.le_of_eq (wS i).symm
  exact⟨aa,i+1,aa,by dsimp only;omega,[(0,0),(1,1),(2,2),(3,3),(4,4),(5,5),(6,6)],rfl,rfl,rfl,bD rfl rfl (.inr ⟨rfl,cC (show eH [.rat _ _,.rat _ _,.rat _ _,.rat _ _] [.rat _ _,.rat _ _,.rat _ _,.rat _ _]from⟨bM rfl hw,bM rfl hw,bM rfl hw,bM rfl hw,trivial⟩)⟩) (bp (aB (bp (bD rfl rfl (hv rfl rfl rfl) (aB (aB trivial))))))⟩
 ·subst hi
  rw[show behind qO [1,1,1,1,0,1]=[part qO [1,1,1,1,1]]from by kernel_rfl]
  refine aI.weak rfl hle (aI.bA hT r4 hm 60 ko agn ag ?_)
  simp only[ah.all,az]
  refine⟨⟨aa,aa,aa,aa,aa⟩,fun s'' hs''=>hQ s'' (cP.le ⟨[(0,0),(1,1),(2,2),(3,3),(4,4),(5,16391)],rfl,rfl,rfl,bL rfl rfl rfl (fun u hu=>qL (g:=fun j=>bu (G j) bZ) (fun _ _=>⟨rfl,rfl⟩) rfl ?_ hu) (aB (bp (bD rfl rfl (hv rfl rfl rfl) (aB (aB trivial)))))⟩ hs'' hk)⟩
  show bG (bu (jC f (iy c a i F j) i) (gH i)) (bu (G j) bZ)
  exact AX (by rw[<-hG,ha];rfl) (wL _ aa)
theorem Fm {rl:List (Nat×Nat)} {l i s:Nat} {x:Nat->Rat} {t:Rat} (h1:t=x l) (h2:t=x (l+1)) (hi:i<l+1+1):eG rl (if i<l+1 then(if i<l then .rat (x i) s else nth [.rat t s] (.rat 0 1) (i-l+0))else nth [.rat t s] (.rat 0 1) (i-(l+1)+0)) (.rat (x i) s):=by
 by_cases h:i<l+1
 ·rw[if_pos h]
  exact gM (y:=x) (fun _ _=>rfl) h1 aU aU h
 ·have:i=l+1:=aa
  subst this
  rw[if_neg h,Nat.sub_self,h2]
  exact cL rfl rfl
set_option maxHeartbeats 1000000 in
theorem Y7 {c:Cu} (hc:Kn c.n c.p.toNat c.k) (hp1:1<=c.p) (hp6:c.p<=6) (hn:c.n<2^18) (hm2:c.m<2^18) (K:Nat):aE P E8 K [dj c 2000 4000] [] (aK (dj (lY c) 2000 bZ) []):=by
 refine gr (r:=aK (dj (lY c) 2000 bZ) []) hT Tk rfl aX rfl (fun _ cx h00=>?_) K []
 have hk:=m7 h00
 have hl:=hc.len
 have hq:c.p+1=((c.p.toNat+1:Nat):Int):=aa
 have hK:=Jq hc
 have hKl:=hK.len
 have hgl:=vj (k:=c.k) (n:=c.n) (i:=c.n)
 have hv:∀{rl:List (Nat×Nat)} {x y y':Nat} {q:Int},bh rl 3=some x->y=y'->eG rl (.agg [.int .i64 q,.own x 3 0 y,.nil]) (.agg [.int .i64 q,.own 3 3 0 y',.nil]):=fun h e=>fW ⟨⟨rfl,aN rfl⟩,⟨rfl,cD h rfl e⟩,⟨rfl,aN rfl⟩,trivial⟩
 refine ax.kG hT r4 hm (x:=AQ) [1,1,0,1] (i:=0) (y:=part AQ [1,1,0,1,0,0]) (z:=vp) ag ag ag Tk.dst hk (f1:=[]) (f2:=[24,40,50]) 60 zY 4
  (fun i:Nat=>uS c i) (fun i=>wE c ((c.p.toNat+1:Nat):Int) (i+bU c.k c.n i) (cU c.k c.n c.n)) (fun i=>i<=c.n) (fun i=>i=c.n) (fun i=>c.n-i) (fun _=>False) ⟨_,akf,?_⟩ (fun i hi=>⟨_,aiR,?_⟩) (fun i hi=>?_) (fun _ _ h=>h.elim)
 ·simp only[ah.all,az,hq]
  exact⟨⟨aa,aa,aa⟩,aa,0,Nat.zero_le _,[(0,0),(1,4096),(2,24576)],rfl,rfl,rfl,gU rfl aa aa (bD rfl rfl (fW ⟨⟨rfl,aN rfl⟩,⟨rfl,iZ aa⟩,⟨rfl,aN rfl⟩,trivial⟩) (aB (aB trivial)))⟩
 ·have e1:((i:Int)+1).toNat=i+1:=aa
  have hgi:=vj (k:=c.k) (n:=c.n) (i:=i)
  simp only[ah.all,az,aZ,bk,cond_false,Bool.not_eq_true',Bool.not_eq_false',e1,aW]
  refine⟨fun h=>?_,fun h=>⟨rfl,i,aa,[(0,0),(1,1),(2,2),(3,3)],rfl,rfl,rfl,bp (bD rfl rfl (hv rfl rfl) (aB (aB trivial)))⟩⟩
  obtain⟨n1,n2⟩:=SP (k:=c.k) (n:=c.n) (i:=i) aa
  have dbl:(i+1=c.n\/c.k i≠c.k (i+1))->(i+1)+bU c.k c.n (i+1)=i+bU c.k c.n i+1+1/\c.k i=cU c.k c.n c.n (i+bU c.k c.n i+1):=fun g=>⟨by rw[Eo g];omega,by rw[n2,if_pos g]⟩
  have one:¬(i+1=c.n\/c.k i≠c.k (i+1))->(i+1)+bU c.k c.n (i+1)=i+bU c.k c.n i+1:=fun g=>by rw[yB g];omega
  refine⟨⟨aa,aa⟩,⟨aa,aa,aa,aa,aa⟩,fun g=>⟨⟨aa,aa,g⟩,fun _=>⟨⟨aa,aa,aa,aa,aa⟩,aa,i+1,aa,by dsimp only;omega,?_⟩,fun g2=>absurd g2 (by decide)⟩,fun g=>⟨⟨aa,aa,g,aa,aa,aa,by have:=beq_eq_false_iff_ne.1 g;omega,aa,aa⟩,fun g2=>⟨⟨aa,aa,aa,aa,aa⟩,aa,i+1,aa,by dsimp only;omega,?_⟩,fun g2=>⟨aa,i+1,aa,by dsimp only;omega,?_⟩⟩⟩
  ·obtain⟨d1,d2⟩:=dbl (.inl (by have:=beq_iff_eq.1 g;omega))
   show cP [] _ (uS c (i+1)) (wE c ((c.p.toNat+1:Nat):Int) (i+1+bU c.k c.n (i+1)) (cU c.k c.n c.n)) 4
   rw[d1]
   exact⟨[(0,0),(1,1),(2,2),(3,143364)],rfl,rfl,rfl,bL rfl rfl rfl (fun u hu=>Fm n1.symm d2 hu) (bD rfl rfl (by exact hv rfl rfl) (aB (aB trivial)))⟩
  ·obtain⟨d1,d2⟩:=dbl (.inr g2)
   show cP [] _ (uS c (i+1)) (wE c ((c.p.toNat+1:Nat):Int) (i+1+bU c.k c.n (i+1)) (cU c.k c.n c.n)) 4
   rw[d1]
   exact⟨[(0,0),(1,1),(2,2),(3,143364)],rfl,rfl,rfl,bL rfl rfl rfl (fun u hu=>Fm n1.symm d2 hu) (bD rfl rfl (by exact hv rfl rfl) (aB (aB trivial)))⟩
  ·have g3:=one (fun g3=>g3.elim (fun g4=>beq_eq_false_iff_ne.1 g aa) fun g4=>g4 g2)
   show cP [] _ (uS c (i+1)) (wE c ((c.p.toNat+1:Nat):Int) (i+1+bU c.k c.n (i+1)) (cU c.k c.n c.n)) 4
   rw[g3]
   exact⟨[(0,0),(1,1),(2,2),(3,45060)],rfl,rfl,rfl,bL rfl rfl rfl (fun u hu=>gM (y:=cU c.k c.n c.n) (fun _ _=>rfl) n1.symm aU aU hu) (bD rfl rfl (by exact hv rfl rfl) (aB (aB trivial)))⟩
 ·subst hi
  obtain⟨M,hM⟩:∃M,M=c.n+bU c.k c.n c.n-(c.p.toNat+1)-1:=⟨_,rfl⟩
  have eM:((c.n+bU c.k c.n c.n:Nat):Int)-((c.p.toNat+1:Nat):Int)-1=(M:Nat):=aa
  obtain⟨f,hf⟩:∃f:Rat,f=((1:Int):Rat)/(((c.p.toNat+1:Nat):Int):Rat):=⟨_,rfl⟩
  obtain⟨G,hG⟩:∃G:Nat->Pl,G=rK c f (c.n+bU c.k c.n c.n) (c.p.toNat+1) (cU c.k c.n c.n):=⟨_,rfl⟩
  refine ax.tY hT r4 hm (x:=vp) [1,0,1] (i:=2) (y:=pS) (z:=part vp [1,1]) ag ag ag ag hk (f1:=[]) 60 ko 6
   (fun j:Nat=>ql M j) (fun j=>gW c ((c.p.toNat+1:Nat):Int) (c.n+bU c.k c.n c.n) (cU c.k c.n c.n) f j G) (fun j=>j<=M) (fun j=>j=M) (fun j=>M-j) (fun _=>False) ⟨_,W6,?_⟩ (fun j hj=>?_) (fun j hj=>?_) (fun _ _ h=>h.elim)
  ·simp only[ah.all,az,eM,<-hf]
   refine⟨⟨aa,aa,aa,aa,aa,aa⟩,⟨aa,aa,bY (by decide),aa,aa,aa⟩,0,Nat.zero_le _,[(0,0),(1,1),(2,2),(3,3),(4,24580)],rfl,rfl,rfl,gU rfl aa aa (aB (bp (bD rfl rfl (fW ⟨⟨rfl,aN rfl⟩,⟨rfl,cD rfl rfl rfl⟩,⟨rfl,iZ aa⟩,trivial⟩) (aB (aB trivial)))))⟩
  ·have hv2:∀{rl:List (Nat×Nat)} {y y':Nat},bh rl 3=some 3->bh rl 5=some 5->y=y'->eG rl (.agg [.int .i64 ((c.p.toNat+1:Nat):Int),.own 3 3 0 (c.n+bU c.k c.n c.n),.own 5 12 0 y]) (.agg [.int .i64 ((c.p.toNat+1:Nat):Int),.own 3 3 0 (c.n+bU c.k c.n c.n),.own 5 12 0 y']):=fun h0 h e=>fW ⟨⟨rfl,aN rfl⟩,⟨rfl,cD h0 rfl rfl⟩,⟨rfl,cD h rfl e⟩,trivial⟩
   have re:∀{V:List AV} {y:Nat},V.all (lX [(0,0),(1,1),(2,2),(3,3),(4,4),(5,5)])=true->V=V.map (mQ [(0,0),(1,1),(2,2),(3,3),(4,4),(5,5)])->cP [] (V,[(5,⟨true,true,12,y,fun i=>bu (G i) bZ⟩),(3,⟨true,false,3,c.n+bU c.k c.n c.n,fun i=>.rat (cU c.k c.n c.n i) 2000⟩),(4,tP f 64),(2,⟨false,true,3,1,fun _=>.agg [.int .i64 ((c.p.toNat+1:Nat):Int),.own 3 3 0 (c.n+bU c.k c.n c.n),.own 5 12 0 y]⟩),(1,qS),(0,qI c)]) V (gW c ((c.p.toNat+1:Nat):Int) (c.n+bU c.k c.n c.n) (cU c.k c.n c.n) f y G) 6:=fun {V y} h1 h2=>
    ⟨[(0,0),(1,1),(2,2),(3,3),(4,4),(5,5)],rfl,h2,h1,bp (aB (bp (bD rfl rfl (hv2 rfl rfl rfl) (aB (aB trivial)))))⟩
   refine ax.nP hT r4 hm (y:=pS) (x1:=qO) (zb:=part pS [1,1,1]) [1,1,0] (j:=3) ag ag ag ag hk (f1:=[70]) 60 ko 6 (fun _:Unit=>ql M j) (fun _=>gW c ((c.p.toNat+1:Nat):Int) (c.n+bU c.k c.n c.n) (cU c.k c.n c.n) f j G) (fun _=>j<M) ⟨_,Vg,?_⟩ (fun _ hj'=>?_)
   ·simp only[ah.all,az,aZ,bk]
    exact⟨fun h1=>⟨(),aa,re rfl rfl⟩,fun h1 s' hs'=>⟨rfl,j,aa,(re rfl rfl).le hs' hk⟩⟩
   have hj':j<M:=hj'
   refine YO hk hc hp1 hp6 aa aa aa aa aa (by rw[hG]) fun s' hle=>?_
   refine ax.jA hle (ax.bA hT r4 hm 60 ko ae4 ag ?_)
   simp only[ah.all,az]
   exact⟨aa,fun s'' hs''=>⟨j+1,aa,by dsimp only;omega,cP.le (re rfl rfl) hs'' hk⟩⟩
  ·subst hj
   refine ax.j3 ((aI.fin hT r4 hm 60 XJ ag ?_).mono fun _ _ h=>.inl h)
   simp only[ah.all,az]
   refine⟨⟨aa,aa⟩,aa,cC ⟨bQ hq.symm,fq fun i _=>.refl _,mC hM fun i _=>?_,trivial⟩⟩
   rw[hG,hf,<-hq];rfl
def P8:Spec:=cN (kC (rE 2000 4000) kN) (fun a=>dj (lY a.1) 2000 bZ) fun a=>[Kn a.1.n a.1.p.toNat a.1.k,1<=a.1.p,a.1.p<=6,a.1.n<2^18,a.1.m<2^18]
theorem aiL:∀K args pre q,P8 K args pre=some q->aE P E8 K args pre q:=cy fun⟨c,_⟩ K hn=>Y7 hn.1 hn.2.1 hn.2.2.1 hn.2.2.2.1 hn.2.2.2.2 K
def uK (c:Cu) (a b:Rat):Rat:=if a=c.k 0 then b else a
def GF (c:Cu) (a b:Rat):Nat:=c.n+(c.p.toNat-bw c.k (uK c a b) c.n)
def NC (c:Cu) (a b:Rat):Nat->Rat:=fu c.k c.n (uK c a b) (c.p.toNat-bw c.k (uK c a b) c.n)
def O0 (c:Cu) (a b:Rat):Nat:=fQ (lK a (NC c a b)) (GF c a b)
def Ly (c:Cu) (a b:Rat):Nat:=fQ (lD b (NC c a b)) (GF c a b)
structure CutOK (c:Cu) (a b:Rat):Prop where
 kn:Kn c.n c.p.toNat c.k
 p1:1<=c.p
 p6:c.p<=6
 n:c.n<2^27
 m:c.m<2^28
 kd:∀i,gl (c.k i)
 td:gl (uK c a b)
 t0:c.k 0<uK c a b
 t1:uK c a b<c.k (c.n-1)
 ab:a=c.k 0\/b=c.k (c.n-1)
 f1:c.p.toNat+1<=O0 c a b
 f2:O0 c a b<=Ly c a b
 f3:Ly c a b+c.p.toNat+1<=GF c a b
abbrev b7 (c:Cu):Cu:=⟨c.p,c.n,c.k,c.m,fun i=>cE (c.f i)⟩
abbrev nT (c:Cu):Cu:=⟨c.p,c.n,c.k,c.m,fun i=>eI (c.f i)⟩
theorem ajf {c:Cu} {P j e:Nat} {K:Nat->Rat} (hc:Kn c.n c.p.toNat c.k) (hp1:1<=c.p) (hm2:(c.m:Int)=(c.n:Int)-c.p-1) (hA:At c.n c.k P):
  gE c (P:Nat) c.p.toNat (fun i=>K (i+(j+1))) e=jX c.k c.p.toNat (fun i=>ff (c.f i) e) P (b9 K (j+1) c.p.toNat):=by
 obtain⟨w1,w2⟩:=hc.wide hA
 have hw:=hA.wide
 have hE:ig c.n c.k c.p.toNat c.m c.p.toNat (P:Nat)=0:=Dr aa rfl (by
  rw[aW]
  rintro(h|h|h)
  ·omega
  ·omega
  ·exact absurd h (Rat.not_le.2 hw))
 unfold gE mM
 rw[if_pos hE,aW,Rb]
 have e1:b9 (fun i=>K (i+(j+1))) 0 c.p.toNat=b9 K (j+1) c.p.toNat:=by
  have:=G3 (k:=K) (c:=j+1) (l:=c.p.toNat) (a:=0)
  rw[Nat.add_zero]at this
  rw[<-this]
  exact yA fun i _ _=>by rw[Nat.add_comm i (j+1)]
 rw[e1];rfl
theorem ZZ:aT P DC Ft (aA Ft):=aY Proofs.Tryz.func38 ag ag ag
abbrev Jz (c:Cu) (i:Nat):List AV:=[.ptr 0 0 3 0 [],.ptr 1 0 3 0 [],qf c.f c.m bZ,.int .i64 c.m,.int .i64 i]
abbrev Ko (c:Cu) (i:Nat):aF:=[(2,⟨true,true,12,i,fun j=>bE (eI (c.f j)) (bZ+bZ)⟩),(1,⟨false,true,3,1,fun _=>.agg [.int .i64 c.p,bq c.k c.n (sK+10),.own 2 12 0 i]⟩),(0,⟨false,true,3,1,fun _=>.agg [.int .i64 0,.nil,.nil]⟩)]
def SV:Spec:=cN (kC (yF bZ) kN) (fun a=>bE (eI a.1) (bZ+bZ)) fun _=>[]
def FQ:bg:=nG::(An,Jo sK (sK+10))::(qg,SV)::[]
def N6:Spec:=cN (kC (rE sK bZ) kN) (fun a=>aS ⟨a.1.p,a.1.n,a.1.k,a.1.m,fun i=>eI (a.1.f i)⟩ (sK+10) (bZ+bZ)) fun a=>[a.1.n<2^40,a.1.m<2^29]
def Ns:bg:=nG::(wk,xK)::(vu,CJ)::(pV,CK)::(E8,P8)::(qM,N6)::[]
def jE (c:Cu):Int:=if 6<=c.p then 7 else 0
def fc (c:Cu):Cu:=if 6<=c.p then kq else nT (lY (b7 c))
theorem ai3 {c:Cu}:aH T FQ [] 60 ny (before ow [1,1,0,1]) ⟨aQ 0 [dj c sK bZ],[],0⟩=
  let c3:Nat:=sK+10;let c2:Prop:=0<1;let c1:AV:=agg [int i64 0,nil,nil];some (aj [c2,c2,bP (fun i=>rat (c.k i) sK) c.n sK,c3<=c3,c3<2^40,c.n<2^40,c2] (aj [c2] (leaf normal ([ptr 4096 0 3 0 [],ptr 32768 0 3 0 [],aq 12 c.m fun i=>agg [rat (c.f i).n.x 8589934592,rat (c.f i).n.y 8589934592,rat (c.f i).n.z 8589934592,rat (c.f i).d 8589934592],int i64 (↑c.m:Int),int i64 0],[((32768:Nat),aJ fun j=>if(j==0)=true then aV (agg ((c1.kids.set 0 (aV (int i64 c.p))).set 1 (aV (bq (fun i=>aR (rat (c.k i) sK)) c.n c3))))else c1),((4096:Nat),aJ fun x=>c1)])))):=ag
theorem aak {c:Cu} {i:Nat}:aH T FQ [16] 60 ny [part ow [1,1,0,1,0,0]] ⟨aC ny (Jz c i),Ko c i,3⟩=
  let c12:Nat:=bZ+bZ;let c11:Int:=(↑c.m:Int);let c10:AV:=own 2 12 0 i;let c9:AV:=ptr 1 0 3 0 [];let c8:AV:=ptr 0 0 3 0 [];let c7:Prop:=0<1;let c6:Int:=(↑i:Int);let c5:AV:=rat 0 1;let c4:Nat×ak:=((0:Nat),aJ fun x=>agg [int i64 0,nil,nil]);let c1:AV:=aq 12 c.m fun i=>agg [rat (c.f i).n.x 8589934592,rat (c.f i).n.y 8589934592,rat (c.f i).n.z 8589934592,rat (c.f i).d 8589934592];let c13:Int:=c6+(1:Int);let c3:AV:=agg [int i64 c.p,bq c.k c.n (sK+10),c10];let c2:Pl:=c.f c6.toNat;some (fork (decide (c6<c11)) (aj [(0:Int)<=c6/\c6.toNat<c.m,c7] (aj [c7,c7,bZ<=bZ,bZ<=bZ,bZ<=bZ,bZ<=bZ,(1:Nat)*12<=2^24,(i+1)*((224:Nat)+1)*2<=2^47,c7] (aj [-(2:Int)^63<=c13/\c13<(2:Int)^63] (leaf normal ([c8,c9,c1,int i64 c11,int i64 c13],[(40963,ak.mk true true 12 (i+1) fun i_1=>if i_1<i then bE (eI (c.f i_1)) c12 else nth [agg [agg [rat (c2.n.x/c2.d) c12,rat (c2.n.y/c2.d) c12,rat (c2.n.z/c2.d) c12],rat c2.d c12]] (agg [agg [c5,c5,c5],c5]) (i_1-i+0)),((1:Nat),aJ fun j=>if(j==0)=true then agg (c3.kids.set 2 (aV (own (nat_lit 40962+1) 12 0 (i+1))))else c3),c4]))))) (leaf (exit 0) ([c8,c9,c1,int i64 c11,int i64 c6],[(2,ak.mk true true 12 i fun j=>agg [agg [rat ((c.f j).n.x/(c.f j).d) 17179869184,rat ((c.f j).n.y/(c.f j).d) 17179869184,rat ((c.f j).n.z/(c.f j).d) 17179869184],rat (c.f j).d 17179869184]),((1:Nat),aJ fun x=>agg [int i64 c.p,aq 3 c.n fun i=>rat (c.k i) 4106,c10]),c4]))):=ag
theorem adC {c:Cu} {i:Nat}:cw T FQ [] 60 AO [part ow [1,1,1]] ⟨aC ny (Jz c i),Ko c i,3⟩=
  let c1:Prop:=0<1;some (aj [c1,c1] (aj [c1] (leaf ret [agg [int i64 c.p,aq 3 c.n fun i=>rat (c.k i) 4106,aq 12 i fun i=>agg [agg [rat ((c.f (i+0)).n.x/(c.f (i+0)).d) 17179869184,rat ((c.f (i+0)).n.y/(c.f (i+0)).d) 17179869184,rat ((c.f (i+0)).n.z/(c.f (i+0)).d) 17179869184],rat (c.f (i+0)).d 17179869184]]]))):=ag
theorem aaN {c:Cu}:bW T Ns [8,4,14] 60 Ft (aA Ft) ⟨aQ 0 [aS c 2000 2000],[],0⟩=
  let o:Prop:=0<1;let b:Bool:=decide (c.p>=(6:Int));let e:Int:=(c.m:Int)+(bn c.k c.n:Nat);let no:Int->ah (List AV):=fun e=>aj [o] (aj [o] (leaf .ret [.agg [.int .i64 0,.nil,.nil],.int .i64 e]));let E:Cu:=lY (b7 c);let k:Prop:=bP (fun i=>.rat (c.k i) 2000) c.n 2000
  let r:ah (List AV):=aj [o,o,bP (fun i=>.rat (c.k i) 2000) c.n sJ,c.n<2^40,-(2:Int)^63<=e/\e<(2:Int)^63,-(2:Int)^63<=e-1/\e-1<(2:Int)^63] (fork (decide (e-1>(40:Int))) (no 2) (aj [o,k,fT (fun i=>bE (c.f i) 2000) c.m 2000,c.n<2^40,c.m<2^30,k,ki (fun i=>bu (cE (c.f i)) 4000) c.m 4000,Kn c.n c.p.toNat c.k,1<=c.p,c.p<=6,c.n<2^18,c.m<2^18,bP (fun i=>.rat (E.k i) 2000) E.n sK,ki (fun i=>bu (E.f i) bZ) E.m bZ,E.n<2^40,E.m<2^29,o]
   (aj [o] (leaf .ret [aS (nT E) (sK+10) (bZ+bZ),.int .i64 0]))))
  some (fork b (aj [o,b=true] (fork true (no 7) r)) (aj [o,b=false,o,bP (fun i=>.rat (c.k i) 2000) c.n sJ,fT (fun i=>bE (c.f i) 2000) c.m sJ,fe c] (fork false (no 7) r))):=ag
theorem WK:∀K args pre r,SV K args pre=some r->aE P qg K args pre r:=cy fun⟨h,_⟩ K _=>GH (by decide) (by decide) (by decide) K
theorem WA:bz P FQ:=cZ (aL (SZ _ _) (aL WK bO))
theorem Zi {c:Cu} (hn:c.n<2^40) (hm2:c.m<2^29) (K:Nat):aE P qM K [dj c sK bZ] [] (aK (aS (nT c) (sK+10) (bZ+bZ)) []):=by
 refine fI (r:=aK (aS (nT c) (sK+10) (bZ+bZ)) []) hT WA hm LR rfl aX rfl [1,1,0,1] (i:=0) (y:=part ow [1,1,0,1,0,0]) (z:=part ow [1,1,1]) ag ag ag (f1:=[]) (f2:=[16]) (f3:=[]) 60 ny 3
  (fun i:Nat=>Jz c i) (fun i=>Ko c i) (fun i=>i<=c.m) (fun i=>i=c.m) (fun i=>c.m-i) (fun _=>⟨⟨_,ai3,?_⟩,fun i hi=>⟨_,aak,?_⟩,fun i hi=>⟨_,adC,?_⟩⟩) K []
 ·simp only[ah.all,az]
  exact⟨⟨aa,aa,bY aU,aa,by decide,aa,aa⟩,aa,0,Nat.zero_le _,[(0,4096),(1,32768)],rfl,rfl,rfl,gU rfl aa aa (bD rfl rfl (fW ⟨⟨rfl,aN rfl⟩,⟨rfl,aN rfl⟩,⟨rfl,iZ aa⟩,trivial⟩) (aB trivial))⟩
 ·simp only[ah.all,az,aZ,bk,aW,Nat.add_zero]
  refine⟨fun h=>?_,fun h=>⟨rfl,i,aa,[(0,0),(1,1),(2,2)],rfl,rfl,rfl,bp (bD rfl rfl (pT rfl rfl rfl) (aB trivial))⟩⟩
  (repeat' with_reducible refine And.intro ?_ ?_)
  all_goals first|omega|exact Nat.le_refl _|skip
  exact⟨i+1,aa,by dsimp only;omega,[(0,0),(1,1),(2,40963)],rfl,rfl,rfl,bL rfl rfl rfl (fun j hj=>qL (g:=fun j=>bE (eI (c.f j)) (bZ+bZ)) (fun _ _=>⟨rfl,rfl⟩) rfl (.refl _) hj) (bD rfl rfl (pT rfl rfl rfl) (aB trivial))⟩
 ·subst hi
  simp only[ah.all,az]
  exact⟨⟨aa,aa⟩,aa,.refl _⟩
theorem aiD:∀K args pre r,N6 K args pre=some r->aE P qM K args pre r:=cy fun⟨c,_⟩ K hn=>Zi hn.1 hn.2 K
theorem abZ:bz P Ns:=cZ (aL EY (aL Ip (aL Jd (aL aiL (aL aiD bO)))))
def akD:Spec:=cN (kC (jb 2000 2000) kN) (fun a=>.tuple [aS (fc a.1) (sK+10) (bZ+bZ),.int .i64 (jE a.1)]) fun a=>[fe a.1,a.1.n<=20]
theorem ahn:∀K args pre q,akD K args pre=some q->aE P DC K args pre q:=cy fun⟨c,_⟩ K hn=>by
 have hc:fe c:=hn.1
 have h20:c.n<=20:=hn.2
 obtain⟨k1,k2,k3,k4,k5⟩:=id hc
 have hl:=k1.len
 have hd:=mW (k:=c.k) (n:=c.n)
 have hg:=vj (k:=c.k) (n:=c.n) (i:=c.n)
 have eN:(lY (b7 c)).n=c.n+bU c.k c.n c.n:=rfl
 have eM:(lY (b7 c)).m=c.n+bU c.k c.n c.n-(c.p.toNat+1)-1:=rfl
 refine cj (r:=aK (.tuple [aS (fc c) (sK+10) (bZ+bZ),.int .i64 (jE c)]) []) hT abZ hm ZZ rfl aX rfl 60 aaN (fun _=>?_) K []
 simp only[ah.all,az,aZ,bk,eN,eM]
 refine⟨fun h=>⟨⟨aa,h⟩,fun _=>⟨aa,aa,?_⟩,fun g=>absurd g (by decide)⟩,fun h=>⟨⟨aa,h,aa,bY (by decide),iM (by decide),hc⟩,fun g=>absurd g (by decide),fun _=>⟨⟨aa,aa,bY (by decide),aa,aa,aa⟩,fun g=>absurd g aa,fun _=>⟨⟨aa,bY (by decide),iM (by decide),aa,aa,bY (by decide),pL (by decide),k1,k2,k3,aa,aa,bY (by decide),pL (by decide),aa,aa,aa⟩,aa,?_⟩⟩⟩⟩
 ·rw[show fc c=kq from if_pos h,show jE c=7 from if_pos h]
  exact⟨yh,.refl _,trivial⟩
 ·rw[show fc c=nT (lY (b7 c))from if_neg h,show jE c=0 from if_neg h]
  exact⟨.refl _,.refl _,trivial⟩
theorem Qo:aT P CL B7 (aA B7):=aY Proofs.Tryz.func113 ag ag ag
def mV:bg:=nG::(HJ++nI)
abbrev wO:Code:=aA B7
abbrev yX:Code:=part wO [1,1,0,1,0,0]
abbrev qn:Code:=part yX [1,0,0]
def cq (c:Cu) (a j:Nat):Rat:=ff (cE (c.f j)) a
abbrev A4 (c:Cu) (a n:Nat):ak:=⟨true,true,3,n,fun j=>.rat (cq c a j) 4000⟩
abbrev ua:List Nat:=[1,2,3,4]
abbrev Fy (i:Nat):List AV:=[.ptr 0 0 3 0 [],.ptr 1 0 4 0 [],.ptr 2 0 4 0 [],.int .i64 i]
abbrev mJ (c:Cu) (n0 n1 n2 n3:Nat):aF:=[(6,A4 c 3 n3),(5,A4 c 2 n2),(4,A4 c 1 n1),(3,A4 c 0 n0),(2,⟨false,true,4,1,fun _=>.agg [.own 3 3 0 n0,.own 4 3 0 n1,.own 5 3 0 n2,.own 6 3 0 n3]⟩),(1,⟨false,true,4,1,fun _=>.agg [.nil,.nil,.nil,.nil]⟩),(0,⟨false,true,3,1,fun _=>aS c 2000 2000⟩)]
abbrev k9:List Nat:=[1,2,3,4,5,6]
abbrev tQ (i b:Nat):List AV:=[.ptr 0 0 3 0 [],.ptr 1 0 4 0 [],.ptr 2 0 4 0 [],.int .i64 i,.ptr 7 0 12 0 [],.int .i64 b]
theorem XM {c:Cu}:aH T mV [] 60 ua (before wO [1,1,0,1]) ⟨aQ 0 [aS c 2000 2000],[],0⟩=
  let c2:Nat:=(aV (aS c 2000 2000)).size;let c1:ak:=ak.mk false true 4 1 fun x=>agg [nil,nil,nil,nil];some (leaf normal ([ptr 0 0 c2 0 [],ptr 4096 0 4 0 [],ptr 8192 0 4 0 [],int i64 0],[((8192:Nat),c1),((4096:Nat),c1),(0,ak.mk false true c2 1 fun x=>aS c 2000 2000)])):=ag
theorem afa {c:Cu} {i:Nat}:aH T mV [11] 60 ua (before yX [1,0]) ⟨aC ua (Fy i),mJ c i i i i,7⟩=
  let c1:List AV×aF:=([ptr 0 0 3 0 [],ptr 1 0 4 0 [],ptr 2 0 4 0 [],int i64 (↑i:Int)],[(6,ak.mk true true 3 i fun j=>rat (cq c 3 j) 4000),(5,ak.mk true true 3 i fun j=>rat (cq c 2 j) 4000),(4,ak.mk true true 3 i fun j=>rat (cq c 1 j) 4000),(3,ak.mk true true 3 i fun j=>rat (cq c 0 j) 4000),(2,ak.mk false true 4 1 fun x=>agg [own 3 3 0 i,own 4 3 0 i,own 5 3 0 i,own 6 3 0 i]),(1,ak.mk false true 4 1 fun x=>agg [nil,nil,nil,nil]),((0:Nat),aJ fun x=>aS c 2000 2000)]);some (aj [(0:Nat)<1] (fork (decide ((↑i:Int)<(↑c.m:Int))) (leaf normal c1) (leaf (exit 0) c1))):=ag
theorem acT {c:Cu} {i:Nat}:aH T mV [] 60 k9 (before qn [1,1]) ⟨aC ua (Fy i),mJ c i i i i,7⟩=
  let c5:Int:=(↑i:Int);let c4:Nat:=2000+2000;let c3:Prop:=0<1;let c2:AV:=rat 0 1;let c1:Pl:=c.f c5.toNat;some (aj [c3,(0:Int)<=c5/\c5.toNat<c.m,c3,c3,c3] (leaf normal ([ptr 0 0 3 0 [],ptr 1 0 4 0 [],ptr 2 0 4 0 [],int i64 c5,ptr 24583 0 12 0 [],int i64 0],[(6,ak.mk true true 3 i fun j=>rat (cq c 3 j) 4000),(5,ak.mk true true 3 i fun j=>rat (cq c 2 j) 4000),(4,ak.mk true true 3 i fun j=>rat (cq c 1 j) 4000),(3,ak.mk true true 3 i fun j=>rat (cq c 0 j) 4000),(24583,ak.mk false true 12 1 fun j=>if(j==0)=true then aV (agg [rat (c1.d*c1.n.x) c4,rat (c1.d*c1.n.y) c4,rat (c1.d*c1.n.z) c4,rat c1.d 2000])else agg [c2,c2,c2,c2]),(2,ak.mk false true 4 1 fun x=>agg [own 3 3 0 i,own 4 3 0 i,own 5 3 0 i,own 6 3 0 i]),(1,ak.mk false true 4 1 fun x=>agg [nil,nil,nil,nil]),((0:Nat),aJ fun x=>aS c 2000 2000)]))):=ag
theorem alI {c:Cu} {i:Nat} {h:Pl}:aH T mV [] 60 k9 [part qn [1,1,0,0]] ⟨aC k9 (tQ i 0),(7,eB h 4000)::mJ c i i i i,8⟩=
  let c4:Prop:=0<1;let c3:Int:=(↑(0:Nat):Int);let c1:AV:=agg [own 3 3 0 i,own 4 3 0 i,own 5 3 0 i,own 6 3 0 i];let c2:Prop:=(0:Int)<=c3/\c3<(↑(4:Nat):Int);some (aj [c2,c4,c2,c4,(1:Nat)*3<=2^24,(i+1)*((56:Nat)+1)*2<=2^47,c2,c4] (aj [-(2:Int)^63<=c3+(1:Int)/\c3+(1:Int)<(2:Int)^63] (leaf normal ([ptr 0 0 3 0 [],ptr 1 0 4 0 [],ptr 2 0 4 0 [],int i64 (↑i:Int),ptr 7 0 12 0 [],int i64 1],[(6,ak.mk true true 3 i fun j=>rat (cq c 3 j) 4000),(5,ak.mk true true 3 i fun j=>rat (cq c 2 j) 4000),(4,ak.mk true true 3 i fun j=>rat (cq c 1 j) 4000),(40968,ak.mk true true 3 (i+1) fun i_1=>if i_1<i then rat (cq c 0 i_1) 4000 else nth [rat h.n.x 4000] (rat 0 1) (i_1-i+0)),(7,ak.mk false true 12 1 fun x=>bu h 4000),(2,ak.mk false true 4 1 fun j=>if(j==0)=true then agg (c1.kids.set c3.toNat (aV (own (nat_lit 40967+1) 3 0 (i+1))))else c1),(1,ak.mk false true 4 1 fun x=>agg [nil,nil,nil,nil]),((0:Nat),aJ fun x=>aS c 2000 2000)])))):=ag
theorem aeX {c:Cu} {i:Nat} {h:Pl}:aH T mV [] 60 k9 [part qn [1,1,0,0]] ⟨aC k9 (tQ i 1),(7,eB h 4000)::mJ c (i+1) i i i,8⟩=
  let c5:Prop:=0<1;let c4:Nat:=i+1;let c3:Int:=(↑(1:Nat):Int);let c2:Prop:=(0:Int)<=c3/\c3<(↑(4:Nat):Int);let c1:AV:=agg [own 3 3 0 c4,own 4 3 0 i,own 5 3 0 i,own 6 3 0 i];some (aj [c2,c5,c2,c5,(1:Nat)*3<=2^24,c4*((56:Nat)+1)*2<=2^47,c2,c5] (aj [-(2:Int)^63<=c3+(1:Int)/\c3+(1:Int)<(2:Int)^63] (leaf normal ([ptr 0 0 3 0 [],ptr 1 0 4 0 [],ptr 2 0 4 0 [],int i64 (↑i:Int),ptr 7 0 12 0 [],int i64 2],[(6,ak.mk true true 3 i fun j=>rat (cq c 3 j) 4000),(5,ak.mk true true 3 i fun j=>rat (cq c 2 j) 4000),(40968,ak.mk true true 3 c4 fun i_1=>if i_1<i then rat (cq c 1 i_1) 4000 else nth [rat h.n.y 4000] (rat 0 1) (i_1-i+0)),(3,ak.mk true true 3 c4 fun j=>rat (cq c 0 j) 4000),(7,ak.mk false true 12 1 fun x=>bu h 4000),(2,ak.mk false true 4 1 fun j=>if(j==0)=true then agg (c1.kids.set c3.toNat (aV (own (nat_lit 40967+1) 3 0 c4)))else c1),(1,ak.mk false true 4 1 fun x=>agg [nil,nil,nil,nil]),((0:Nat),aJ fun x=>aS c 2000 2000)])))):=ag
theorem alM {c:Cu} {i:Nat} {h:Pl}:aH T mV [] 60 k9 [part qn [1,1,0,0]] ⟨aC k9 (tQ i 2),(7,eB h 4000)::mJ c (i+1) (i+1) i i,8⟩=
  let c5:Prop:=0<1;let c4:Int:=(↑(2:Nat):Int);let c3:Nat:=i+1;let c2:Prop:=(0:Int)<=c4/\c4<(↑(4:Nat):Int);let c1:AV:=agg [own 3 3 0 c3,own 4 3 0 c3,own 5 3 0 i,own 6 3 0 i];some (aj [c2,c5,c2,c5,(1:Nat)*3<=2^24,c3*((56:Nat)+1)*2<=2^47,c2,c5] (aj [-(2:Int)^63<=c4+(1:Int)/\c4+(1:Int)<(2:Int)^63] (leaf normal ([ptr 0 0 3 0 [],ptr 1 0 4 0 [],ptr 2 0 4 0 [],int i64 (↑i:Int),ptr 7 0 12 0 [],int i64 3],[(6,ak.mk true true 3 i fun j=>rat (cq c 3 j) 4000),(40968,ak.mk true true 3 c3 fun i_1=>if i_1<i then rat (cq c 2 i_1) 4000 else nth [rat h.n.z 4000] (rat 0 1) (i_1-i+0)),(4,ak.mk true true 3 c3 fun j=>rat (cq c 1 j) 4000),(3,ak.mk true true 3 c3 fun j=>rat (cq c 0 j) 4000),(7,ak.mk false true 12 1 fun x=>bu h 4000),(2,ak.mk false true 4 1 fun j=>if(j==0)=true then agg (c1.kids.set c4.toNat (aV (own (nat_lit 40967+1) 3 0 c3)))else c1),(1,ak.mk false true 4 1 fun x=>agg [nil,nil,nil,nil]),((0:Nat),aJ fun x=>aS c 2000 2000)])))):=ag
theorem WU {c:Cu} {i:Nat} {h:Pl}:aH T mV [] 60 k9 [part qn [1,1,0,0]] ⟨aC k9 (tQ i 3),(7,eB h 4000)::mJ c (i+1) (i+1) (i+1) i,8⟩=
  let c5:Prop:=0<1;let c4:Int:=(↑(3:Nat):Int);let c3:Nat:=i+1;let c2:Prop:=(0:Int)<=c4/\c4<(↑(4:Nat):Int);let c1:AV:=agg [own 3 3 0 c3,own 4 3 0 c3,own 5 3 0 c3,own 6 3 0 i];some (aj [c2,c5,c2,c5,(1:Nat)*3<=2^24,c3*((56:Nat)+1)*2<=2^47,c2,c5] (aj [-(2:Int)^63<=c4+(1:Int)/\c4+(1:Int)<(2:Int)^63] (leaf normal ([ptr 0 0 3 0 [],ptr 1 0 4 0 [],ptr 2 0 4 0 [],int i64 (↑i:Int),ptr 7 0 12 0 [],int i64 4],[(40968,ak.mk true true 3 c3 fun i_1=>if i_1<i then rat (cq c 3 i_1) 4000 else nth [rat h.d 4000] (rat 0 1) (i_1-i+0)),(5,ak.mk true true 3 c3 fun j=>rat (cq c 2 j) 4000),(4,ak.mk true true 3 c3 fun j=>rat (cq c 1 j) 4000),(3,ak.mk true true 3 c3 fun j=>rat (cq c 0 j) 4000),(7,ak.mk false true 12 1 fun x=>bu h 4000),(2,ak.mk false true 4 1 fun j=>if(j==0)=true then agg (c1.kids.set c4.toNat (aV (own (nat_lit 40967+1) 3 0 c3)))else c1),(1,ak.mk false true 4 1 fun x=>agg [nil,nil,nil,nil]),((0:Nat),aJ fun x=>aS c 2000 2000)])))):=ag
theorem aeH {c:Cu} {i:Nat} {h:Pl}:aH T mV [] 60 k9 [part qn [1,1,0,0]] ⟨aC k9 (tQ i 4),(7,eB h 4000)::mJ c (i+1) (i+1) (i+1) (i+1),8⟩=
  let c1:Nat:=i+1;some (leaf (exit 2) ([ptr 0 0 3 0 [],ptr 1 0 4 0 [],ptr 2 0 4 0 [],int i64 (↑i:Int),ptr 7 0 12 0 [],int i64 4],[(6,ak.mk true true 3 c1 fun j=>rat (cq c 3 j) 4000),(5,ak.mk true true 3 c1 fun j=>rat (cq c 2 j) 4000),(4,ak.mk true true 3 c1 fun j=>rat (cq c 1 j) 4000),(3,ak.mk true true 3 c1 fun j=>rat (cq c 0 j) 4000),(7,ak.mk false true 12 1 fun x=>bu h 4000),(2,ak.mk false true 4 1 fun x=>agg [own 3 3 0 c1,own 4 3 0 c1,own 5 3 0 c1,own 6 3 0 c1]),(1,ak.mk false true 4 1 fun x=>agg [nil,nil,nil,nil]),((0:Nat),aJ fun x=>aS c 2000 2000)])):=ag
theorem agK {c:Cu} {i:Nat} {h:Pl}:aH T mV [] 60 ua [part yX [1,1]] ⟨aC k9 (tQ i 4),(7,eB h 4000)::mJ c (i+1) (i+1) (i+1) (i+1),8⟩=
  let c2:Int:=(↑i:Int)+(1:Int);let c1:Nat:=i+1;some (aj [-(2:Int)^63<=c2/\c2<(2:Int)^63] (leaf normal ([ptr 0 0 3 0 [],ptr 1 0 4 0 [],ptr 2 0 4 0 [],int i64 c2],[(6,ak.mk true true 3 c1 fun j=>rat (cq c 3 j) 4000),(5,ak.mk true true 3 c1 fun j=>rat (cq c 2 j) 4000),(4,ak.mk true true 3 c1 fun j=>rat (cq c 1 j) 4000),(3,ak.mk true true 3 c1 fun j=>rat (cq c 0 j) 4000),(2,ak.mk false true 4 1 fun x=>agg [own 3 3 0 c1,own 4 3 0 c1,own 5 3 0 c1,own 6 3 0 c1]),(1,ak.mk false true 4 1 fun x=>agg [nil,nil,nil,nil]),((0:Nat),aJ fun x=>aS c 2000 2000)]))):=ag
theorem Ys {c:Cu} {i:Nat}:cw T mV [] 60 B7 [part wO [1,1,1]] ⟨aC ua (Fy i),mJ c i i i i,7⟩=
  let c1:Prop:=0<1;some (aj [c1,c1] (aj [c1] (leaf ret [agg [aq 3 i fun i=>rat (cq c 0 (i+0)) 4000,aq 3 i fun i=>rat (cq c 1 (i+0)) 4000,aq 3 i fun i=>rat (cq c 2 (i+0)) 4000,aq 3 i fun i=>rat (cq c 3 (i+0)) 4000]]))):=ag
theorem SJ:bz P mV:=cZ (DE LS pI)
abbrev Zw (c:Cu) (i b:Nat):aF:=mJ c (if 0<b then i+1 else i) (if 1<b then i+1 else i) (if 2<b then i+1 else i) (if 3<b then i+1 else i)
set_option maxHeartbeats 1000000 in
theorem akT {c:Cu} (hm2:c.m<2^20) (K:Nat):aE P CL K [aS c 2000 2000] [] (aK (.agg [bq (cq c 0) c.m 4000,bq (cq c 1) c.m 4000,bq (cq c 2) c.m 4000,bq (cq c 3) c.m 4000]) []):=by
 refine gr (r:=aK (.agg [bq (cq c 0) c.m 4000,bq (cq c 1) c.m 4000,bq (cq c 2) c.m 4000,bq (cq c 3) c.m 4000]) []) hT Qo rfl aX rfl (fun _ cx h00=>?_) K []
 have hk:=m7 h00
 have hv:∀{rl:List (Nat×Nat)} {x0 x1 x2 x3 n0 n1 n2 n3 m0 m1 m2 m3:Nat},bh rl 3=some x0->n0=m0->bh rl 4=some x1->n1=m1->bh rl 5=some x2->n2=m2->bh rl 6=some x3->n3=m3->eG rl (.agg [.own x0 3 0 n0,.own x1 3 0 n1,.own x2 3 0 n2,.own x3 3 0 n3]) (.agg [.own 3 3 0 m0,.own 4 3 0 m1,.own 5 3 0 m2,.own 6 3 0 m3]):=
  fun a0 b0 a1 b1 a2 b2 a3 b3=>fW ⟨⟨rfl,cD a0 rfl b0⟩,⟨rfl,cD a1 rfl b1⟩,⟨rfl,cD a2 rfl b2⟩,⟨rfl,cD a3 rfl b3⟩,trivial⟩
 refine ax.JH hT SJ hm (x:=wO) (y:=yX) (x1:=qn) (zb:=part yX [1,1]) (y2:=part qn [1,1,0,0]) [1,1,0,1] (i:=0) ag ag Qo.dst [1,0] (j:=1) ag ag ag [1,1] (i2:=2) ag ag rfl hk (f1:=[]) (f2:=[11]) (f3:=[]) (f4:=[]) (f5:=[]) 60 ua k9 7 8
  (fun i:Nat=>Fy i) (fun i=>mJ c i i i i) (fun i=>i<=c.m) (fun i=>i=c.m) (fun i=>c.m-i) (fun i=>i<c.m) (fun _=>False) (fun _=>False)
  (fun i (b:Nat)=>tQ i b) (fun i b=>(7,eB (cE (c.f i)) 4000)::Zw c i b) (fun _ b=>b<=4) (fun _ b=>b=4) (fun _ b=>4-b)
  ⟨_,XM,?_⟩ (fun i hi=>⟨_,afa,?_⟩) (fun i hi hG=>⟨_,acT,?_⟩) (fun i hi hG b hb=>?_) (fun i hi hG b hb=>?_) (fun i s' hi hle=>?_) (fun _ _ h=>h.elim) (fun _ _ h=>h.elim)
 ·simp only[ah.all,az]
  exact⟨0,Nat.zero_le _,[(0,0),(1,4096),(2,8192)],rfl,rfl,rfl,gU rfl aa aa (gU rfl aa aa (gU rfl aa aa (gU rfl aa aa (bD rfl rfl (fW ⟨⟨rfl,iZ aa⟩,⟨rfl,iZ aa⟩,⟨rfl,iZ aa⟩,⟨rfl,iZ aa⟩,trivial⟩) (aB (aB trivial))))))⟩
 ·simp only[ah.all,az,aZ,bk]
  exact⟨aa,fun h=>⟨aa,[(0,0),(1,1),(2,2),(3,3),(4,4),(5,5),(6,6)],rfl,rfl,rfl,bp (bp (bp (bp (bD rfl rfl (by exact hv rfl rfl rfl rfl rfl rfl rfl rfl) (aB (aB trivial))))))⟩,fun h=>⟨rfl,i,aa,[(0,0),(1,1),(2,2),(3,3),(4,4),(5,5),(6,6)],rfl,rfl,rfl,bp (bp (bp (bp (bD rfl rfl (by exact hv rfl rfl rfl rfl rfl rfl rfl rfl) (aB (aB trivial))))))⟩⟩
 ·have hG:i<c.m:=hG
  simp only[ah.all,az,aW]
  exact⟨⟨aa,aa,aa,aa,aa⟩,0,aa,[(0,0),(1,1),(2,2),(3,3),(4,4),(5,5),(6,6),(7,24583)],rfl,rfl,rfl,bD rfl rfl (.inr ⟨rfl,cC (show eH [.rat _ _,.rat _ _,.rat _ _,.rat _ _] [.rat _ _,.rat _ _,.rat _ _,.rat _ _]from⟨bM rfl (by decide),bM rfl (by decide),bM rfl (by decide),bM rfl (by decide),trivial⟩)⟩) (bp (bp (bp (bp (bD rfl rfl (by exact hv rfl rfl rfl rfl rfl rfl rfl rfl) (aB (aB trivial)))))))⟩
 ·have hG:i<c.m:=hG
  have hb:b<=4:=hb
  rcases(show b=0\/b=1\/b=2\/b=3\/b=4 by omega)with rfl|rfl|rfl|rfl|rfl
  ·refine⟨_,alI,?_⟩
   simp only[ah.all,az]
   exact⟨⟨aa,aa,aa,aa,aa,aa,aa,aa⟩,aa,1,aa,by dsimp only;omega,[(0,0),(1,1),(2,2),(3,40968),(4,4),(5,5),(6,6),(7,7)],rfl,rfl,rfl,aB (bp (bp (bp (bL rfl rfl rfl (fun u hu=>gM (y:=cq c 0) (fun _ _=>rfl) rfl aU aU hu) (bD rfl rfl (by exact hv rfl rfl rfl rfl rfl rfl rfl rfl) (aB (aB trivial)))))))⟩
  ·refine⟨_,aeX,?_⟩
   simp only[ah.all,az]
   exact⟨⟨aa,aa,aa,aa,aa,aa,aa,aa⟩,aa,2,aa,by dsimp only;omega,[(0,0),(1,1),(2,2),(3,3),(4,40968),(5,5),(6,6),(7,7)],rfl,rfl,rfl,aB (bp (bp (bL rfl rfl rfl (fun u hu=>gM (y:=cq c 1) (fun _ _=>rfl) rfl aU aU hu) (bp (bD rfl rfl (by exact hv rfl rfl rfl rfl rfl rfl rfl rfl) (aB (aB trivial)))))))⟩
  ·refine⟨_,alM,?_⟩
   simp only[ah.all,az]
   exact⟨⟨aa,aa,aa,aa,aa,aa,aa,aa⟩,aa,3,aa,by dsimp only;omega,[(0,0),(1,1),(2,2),(3,3),(4,4),(5,40968),(6,6),(7,7)],rfl,rfl,rfl,aB (bp (bL rfl rfl rfl (fun u hu=>gM (y:=cq c 2) (fun _ _=>rfl) rfl aU aU hu) (bp (bp (bD rfl rfl (by exact hv rfl rfl rfl rfl rfl rfl rfl rfl) (aB (aB trivial)))))))⟩
  ·refine⟨_,WU,?_⟩
   simp only[ah.all,az]
   exact⟨⟨aa,aa,aa,aa,aa,aa,aa,aa⟩,aa,4,aa,by dsimp only;omega,[(0,0),(1,1),(2,2),(3,3),(4,4),(5,5),(6,40968),(7,7)],rfl,rfl,rfl,aB (bL rfl rfl rfl (fun u hu=>gM (y:=cq c 3) (fun _ _=>rfl) rfl aU aU hu) (bp (bp (bp (bD rfl rfl (by exact hv rfl rfl rfl rfl rfl rfl rfl rfl) (aB (aB trivial)))))))⟩
  ·exact⟨_,aeH,rfl,4,rfl,[(0,0),(1,1),(2,2),(3,3),(4,4),(5,5),(6,6),(7,7)],rfl,rfl,rfl,aB (bp (bp (bp (bp (bD rfl rfl (by exact hv rfl rfl rfl rfl rfl rfl rfl rfl) (aB (aB trivial)))))))⟩
 ·have hG:i<c.m:=hG
  have hb:b=4:=hb
  subst hb
  refine⟨_,agK,?_⟩
  simp only[ah.all,az]
  exact⟨aa,i+1,aa,by dsimp only;omega,[(0,0),(1,1),(2,2),(3,3),(4,4),(5,5),(6,6)],rfl,rfl,rfl,bp (bp (bp (bp (bD rfl rfl (by exact hv rfl rfl rfl rfl rfl rfl rfl rfl) (aB (aB trivial))))))⟩
 ·subst hi
  rw[show behind wO [1,1,0,1]=[part wO [1,1,1]]from by kernel_rfl]
  refine aI.weak rfl hle ((aI.fin hT SJ hm 60 Ys ag ?_).mono fun _ _ h=>.inl h)
  simp only[ah.all,az]
  exact⟨⟨aa,aa⟩,aa,.refl _⟩
def Nk:Spec:=cN (kC (jb 2000 2000) kN) (fun a=>.agg [bq (cq a.1 0) a.1.m 4000,bq (cq a.1 1) a.1.m 4000,bq (cq a.1 2) a.1.m 4000,bq (cq a.1 3) a.1.m 4000]) fun a=>[a.1.m<2^20]
theorem akS:∀K args pre q,Nk K args pre=some q->aE P CL K args pre q:=cy fun⟨c,_⟩ K hn=>akT hn K
end Go.Am.B
