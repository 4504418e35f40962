/- Spline.Elevate. -/
import Derived.Test.YtppeigelbecpbaaGreatY40
import Derived.Test.YtppeigelbecpbaaGreatY37
import Derived.Test.YtppeigelbecpbaaGreatY39
import Derived.Test.YtppeigelbecpbaaGreatY38
set_option linter.unusedVariables false
namespace Go.Am.B
open Go Go.Am.N AV aa aj IntKind
theorem NY:aO P zx o5 (au o5):=aQ ak5 (by kernel_rfl) (by kernel_rfl) (by kernel_rfl)
noncomputable def iF:aR:=nG::(p9,D8)::(x8,FC)::(uQ,H7)::(u9,Hw)::(qQ,B8)::(pJ,uS)::(wN,N7)::fI
noncomputable abbrev A6:Code:=au o5
noncomputable abbrev uZ:Code:=part A6 [1,1,1]
noncomputable abbrev pz:Code:=part uZ [1,0,1,0,0]
noncomputable abbrev pG:Code:=part pz [1,1,0,0]
noncomputable abbrev zD:Code:=part pG [1,1,1,1,0,1,0,0]
noncomputable abbrev pL:Code:=part zD [1,1,0,0]
def cK:Nat:=8589934592
abbrev yZ:List Nat:=[1,2,3,21,22,23]
abbrev tK (c:Cu) (i:Nat):List AV:=[.ptr 0 0 3 0 [],.ptr 1 0 3 0 [],.ptr 2 0 3 0 [],bt c.k c.n 2000,.int .i64 c.n,.int .i64 i]
abbrev tZ (c:Cu) (q:Int) (m:Nat) (F:Nat→Rat):aC:=[(3,CB 2000 m F),(2,⟨false,true,3,1,fun _=>.agg [.int .i64 q,.own 3 3 0 m,.nil]⟩),(1,Ez),(0,Ik c)]
abbrev jS:List Nat:=[1,2,3,6,68,69]
abbrev pK (M j:Nat):List AV:=[.ptr 0 0 3 0 [],.ptr 1 0 3 0 [],.ptr 2 0 3 0 [],.ptr 4 0 3 0 [],.int .i64 M,.int .i64 j]
abbrev gI (c:Cu) (q:Int) (m:Nat) (F:Nat→Rat) (f:Rat) (j:Nat) (G:Nat→Pl):aC:=[(5,⟨true,true,12,j,fun i=>cL (G i) cK⟩),(4,tP f 64),(3,⟨true,false,3,m,fun i=>.rat (F i) 2000⟩),(2,⟨false,true,3,1,fun _=>.agg [.int .i64 q,.own 3 3 0 m,.own 5 12 0 j]⟩),(1,Ez),(0,Ik c)]
abbrev qo:List Nat:=[1,2,3,6,68,69,9,10,12,99,100]
abbrev BN (M j:Nat) (a:Int) (q i:Nat):List AV:=[.ptr 0 0 3 0 [],.ptr 1 0 3 0 [],.ptr 2 0 3 0 [],.ptr 4 0 3 0 [],.int .i64 M,.int .i64 j,.own 3 3 (j+1) q,.int .i64 a,.ptr 6 0 12 0 [],.int .i64 q,.int .i64 i]
abbrev jW:List Nat:=[1,2,3,6,68,69,9,10,12,99,100,14,112]
abbrev rS (M j:Nat) (a:Int) (q i b:Nat):List AV:=[.ptr 0 0 3 0 [],.ptr 1 0 3 0 [],.ptr 2 0 3 0 [],.ptr 4 0 3 0 [],.int .i64 M,.int .i64 j,.own 3 3 (j+1) q,.int .i64 a,.ptr 6 0 12 0 [],.int .i64 q,.int .i64 i,.ptr 7 0 12 0 [],.int .i64 b]
def iP (f:Rat) (x:Nat→Pl):Nat→Pl
 |0=>⟨⟨0,0,0⟩,0⟩
 |r+1=>⟨⟨(iP f x r).n.x+f*(x r).n.x,(iP f x r).n.y+f*(x r).n.y,(iP f x r).n.z+f*(x r).n.z⟩,(iP f x r).d+f*(x r).d⟩
def uh (c:Cu) (a:Int) (q:Nat) (F:Nat→Rat) (j i:Nat):Pl:=l8 c a (q-1) fun u=>m8 (fun v=>F (v+(j+1))) i q u
def o9 (c:Cu) (f:Rat) (N q:Nat) (F:Nat→Rat) (j:Nat):Pl:=iP f (uh c (fW c.n c.k (F (ej F N j))) q F j) q
def lH (c:Cu):Nat:=c.n+bE c.k c.n c.n
def jC (c:Cu):Cu:=⟨c.p+1,lH c,b9 c.k c.n c.n,lH c-(c.p.toNat+1)-1,o9 c (((1:Int):Rat)/((c.p+1:Int):Rat)) (lH c) (c.p.toNat+1) (b9 c.k c.n c.n)⟩
def k7 (r:Nat):Nat:=1+r*(64+sB+1)
def nH (S x:Pl) (f:Rat) (w b:Nat):AV:=.agg [.rat (if 0<b then S.n.x+f*x.n.x else S.n.x) (if 0<b then w+(64+sB)+1 else w),.rat (if 1<b then S.n.y+f*x.n.y else S.n.y) (if 1<b then w+(64+sB)+1 else w),.rat (if 2<b then S.n.z+f*x.n.z else S.n.z) (if 2<b then w+(64+sB)+1 else w),.rat (if 3<b then S.d+f*x.d else S.d) (if 3<b then w+(64+sB)+1 else w)]
abbrev rF (S x:Pl) (f:Rat) (w b:Nat):aC:=[(7,jc x sB),(6,⟨false,true,12,1,fun _=>nH S x f w b⟩)]
theorem WQ {c:Cu}:aH T iF [] 60 yZ (before A6 [1,1,0,1]) ⟨aN 0 [eB c 2000 4000],[],0⟩=
  let c5:Int:=c.p+(1:Int);let c4:Prop:=0<1;let c3:Nat:=(bn (eB c 2000 4000)).size;let c2:AV:=ak 3 c.n fun i↦rat (c.k i) 2000;let c1:AV:=agg [int i64 (0:Int),nil,nil];some (ag [c4,-(2:Int)^63≤c5∧c5<(2:Int)^63,c4] (ag [c4] (leaf normal ([ptr 0 0 c3 0 [],ptr 4096 0 3 0 [],ptr 24576 0 3 0 [],c2,int i64 (↑c.n:Int),int i64 (0:Int)],[((24576:Nat),ah.mk false true 3 1 fun j↦if(j==0)=true then bn (agg (c1.kids.set 0 (bn (int i64 c5))))else c1),((4096:Nat),ah.mk false true 3 1 fun x↦c1),((0:Nat),ah.mk false true c3 1 fun x↦agg [int i64 c.p,c2,ak 12 c.m fun i↦agg [rat (c.f i).n.x 4000,rat (c.f i).n.y 4000,rat (c.f i).n.z 4000,rat (c.f i).d 4000]])])))):=by kernel_rfl
theorem ac9 {c:Cu} {i m:Nat} {q:Int} {F:Nat→Rat}:aH T iF [24,40,50] 60 yZ [part A6 [1,1,0,1,0,0]] ⟨aA yZ (tK c i),tZ c q m F,4⟩=
  let c20:Prop:=2000<2^42;let c19:AV:=rat 0 1;let c18:Prop:=1*3≤2^24;let c17:AV:=ptr 2 0 3 0 [];let c16:AV:=ptr 1 0 3 0 [];let c15:AV:=ptr 0 0 3 0 [];let c14:Int:=(↑c.n:Int);let c13:Int:=(↑i:Int);let c11:Nat:=m+1;let c10:AV:=ak 3 c.n fun i↦rat (c.k i) 2000;let c8:Prop:=0<1;let c7:AV:=agg [int i64 q,own 3 3 0 m,nil];let c21:Nat:=c11+1;let c12:AV:=rat (c.k c13.toNat) 2000;let c9:Int:=c13+(1:Int);let c5:AV:=agg (c7.kids.set 1 (bn (own (nat_lit 45059+1) 3 0 c11)));let c3:List (Nat×ah):=[((1:Nat),ah.mk false true 3 1 fun x↦agg [int i64 (0:Int),nil,nil]),((0:Nat),ah.mk false true 3 1 fun x↦agg [int i64 c.p,c10,ak 12 c.m fun i↦agg [rat (c.f i).n.x 4000,rat (c.f i).n.y 4000,rat (c.f i).n.z 4000,rat (c.f i).d 4000]])];let c6:List AV:=[c15,c16,c17,c10,int i64 c14,int i64 c9];let c4:Prop:=-(2:Int)^63≤c9∧c9<(2:Int)^63;let c2:aa (List AV×aC):=ag [c4] (leaf normal (c6,((45060:Nat),ah.mk true true 3 c11 fun i↦if i<m then rat (F i) 2000 else nth [c12] c19 (i-m+0))::((2:Nat),ah.mk false true 3 1 fun j↦if(j==0)=true then c5 else c7)::c3));let c1:aa (List AV×aC):=ag [c8,c8,c18,c21*((56:Nat)+1)*2≤2^47,c8] (ag [c4] (leaf normal (c6,((143364:Nat),ah.mk true true 3 c21 fun i↦if i<c11 then if i<m then rat (F i) 2000 else nth [c12] c19 (i-m+0)else nth [c12] c19 (i-c11+0))::((2:Nat),ah.mk false true 3 1 fun j↦if(j==0)=true then agg ((if((0:Nat)==0)=true then c5 else c7).kids.set 1 (bn (own (nat_lit 143363+1) 3 0 c21)))else if(j==0)=true then c5 else c7)::c3)));some (fork (decide (c13<c14)) (ag [(0:Int)≤c13∧c13.toNat<c.n,c8] (ag [c8,c8,c18,c11*((56:Nat)+1)*2≤2^47,c8] (fork (c9==c14) (ag [c4,c8,(c9==c14)=true] (fork true c1 c2)) (ag [c4,c8,(c9==c14)=false,c8,c8,c4,(0:Int)≤c9∧c9.toNat<c.n,c20,c20] (fork (bif false then true else !decide (c.k c13.toNat=c.k c9.toNat)) c1 c2))))) (leaf (exit 0) ([c15,c16,c17,c10,int i64 c14,int i64 c13],((3:Nat),ah.mk true true 3 m fun i↦rat (F i) 2000)::((2:Nat),ah.mk false true 3 1 fun x↦c7)::c3))):=by kernel_rfl
theorem Zo {c:Cu} {i m:Nat} {q:Int} {F:Nat→Rat}:aH T iF [] 60 jS (before uZ [1,0,1]) ⟨aA yZ (tK c i),tZ c q m F,4⟩=
  let c2:Prop:=0<1;let c1:Int:=(2:Int)^63;some (ag [c2,-c1≤(1:Int),(1:Int)<c1,-c1≤q,q<c1,c2] (ag [c2,c2,bG (fun i↦rat (F (i+0)) 2000) m sK,m<2^40,-(2:Int)^40<q,q<(2:Int)^40] (leaf normal ([ptr 0 0 3 0 [],ptr 1 0 3 0 [],ptr 2 0 3 0 [],ptr 24580 0 3 0 [],int i64 ((↑m:Int)-q-(1:Int)),int i64 (0:Int)],[((3:Nat),ah.mk true false 3 m fun i↦rat (F i) 2000),((24580:Nat),ah.mk false true 3 1 fun j↦if(j==0)=true then bn (rat ((↑(1:Int):Rat)/(↑q:Rat)) 64)else rat 0 1),((2:Nat),ah.mk false true 3 1 fun x↦agg [int i64 q,own 3 3 0 m,nil]),((1:Nat),ah.mk false true 3 1 fun x↦agg [int i64 (0:Int),nil,nil]),((0:Nat),ah.mk false true 3 1 fun x↦agg [int i64 c.p,ak 3 c.n fun i↦rat (c.k i) 2000,ak 12 c.m fun i↦agg [rat (c.f i).n.x 4000,rat (c.f i).n.y 4000,rat (c.f i).n.z 4000,rat (c.f i).d 4000]])])))):=by kernel_rfl
theorem Ta {c:Cu} {M j m:Nat} {q:Int} {F:Nat→Rat} {f:Rat} {G:Nat→Pl}:aH T iF [70] 60 jS (before pz [1,1,0]) ⟨aA jS (pK M j),gI c q m F f j G,6⟩=
  let c1:List AV×aC:=([ptr 0 0 3 0 [],ptr 1 0 3 0 [],ptr 2 0 3 0 [],ptr 4 0 3 0 [],int i64 (↑M:Int),int i64 (↑j:Int)],[((5:Nat),ah.mk true true 12 j fun i↦agg [rat (G i).n.x 8589934592,rat (G i).n.y 8589934592,rat (G i).n.z 8589934592,rat (G i).d 8589934592]),((3:Nat),ah.mk true false 3 m fun i↦rat (F i) 2000),((4:Nat),ah.mk false true 3 1 fun x↦rat f 64),((2:Nat),ah.mk false true 3 1 fun x↦agg [int i64 q,own 3 3 0 m,own 5 12 0 j]),((1:Nat),ah.mk false true 3 1 fun x↦agg [int i64 (0:Int),nil,nil]),((0:Nat),ah.mk false true 3 1 fun x↦agg [int i64 c.p,ak 3 c.n fun i↦rat (c.k i) 2000,ak 12 c.m fun i↦agg [rat (c.f i).n.x 4000,rat (c.f i).n.y 4000,rat (c.f i).n.z 4000,rat (c.f i).d 4000]])]);some (fork (decide ((↑j:Int)<(↑M:Int))) (leaf normal c1) (leaf (exit 2) c1)):=by kernel_rfl
theorem Zn {c:Cu} {M j m:Nat} {q:Int} {F:Nat→Rat} {f:Rat} {G:Nat→Pl}:aH T iF [] 60 qo (before pG [1,1,1,1,0,1]) ⟨aA jS (pK M j),gI c q m F f j G,6⟩=
  let c7:Int:=(↑j:Int);let c6:AV:=rat 0 1;let c5:Prop:=0<1;let c4:Int:=(2:Int)^63;let c3:Int:=c7+(1:Int);let c2:Int:=c7+q+(1:Int);let c1:Int:=(↑(ej (fun i↦aS (rat (F (i+0)) 2000)) m c7.toNat):Int);some (ag [c5,-c4≤c3∧c3<c4,c5,-c4≤c7+q∧c7+q<c4,-c4≤c2∧c2<c4,(0:Int)≤c3∧c3≤c2∧c2≤c2∧c2≤(↑m:Int)] (ag [c5,c5,c5,c5,bG (fun i↦rat (F (i+0)) 2000) m sK,(0:Int)≤c7,c7≤(↑m:Int),m<2^40,(0:Int)≤c1∧c1.toNat<m,bG (fun i↦rat (c.k i) 2000) c.n sK,(2000:Nat)≤sK,Kn c.n c.p.toNat fun i↦aS (rat (c.k i) 2000),(0:Int)≤c.p,c.n<2^40] (leaf normal ([ptr 0 0 3 0 [],ptr 1 0 3 0 [],ptr 2 0 3 0 [],ptr 4 0 3 0 [],int i64 (↑M:Int),int i64 c7,own 3 3 ((0:Nat)+c3.toNat) (c2.toNat-c3.toNat),int i64 (↑(fW c.n (fun i↦aS (rat (c.k i) 2000)) (F (c1.toNat+0))):Int),ptr 126982 0 12 0 [],int i64 (↑(c2.toNat-c3.toNat):Int),int i64 (0:Int)],[((5:Nat),ah.mk true true 12 j fun i↦agg [rat (G i).n.x 8589934592,rat (G i).n.y 8589934592,rat (G i).n.z 8589934592,rat (G i).d 8589934592]),((3:Nat),ah.mk true false 3 m fun i↦rat (F i) 2000),((126982:Nat),ah.mk false true 12 1 fun x↦agg [c6,c6,c6,c6]),((4:Nat),ah.mk false true 3 1 fun x↦rat f 64),((2:Nat),ah.mk false true 3 1 fun x↦agg [int i64 q,own 3 3 0 m,own 5 12 0 j]),((1:Nat),ah.mk false true 3 1 fun x↦agg [int i64 (0:Int),nil,nil]),((0:Nat),ah.mk false true 3 1 fun x↦agg [int i64 c.p,ak 3 c.n fun i↦rat (c.k i) 2000,ak 12 c.m fun i↦agg [rat (c.f i).n.x 4000,rat (c.f i).n.y 4000,rat (c.f i).n.z 4000,rat (c.f i).d 4000]])])))):=by kernel_rfl
theorem aiI {c:Cu} {M j m q i w:Nat} {a:Int} {F:Nat→Rat} {f:Rat} {G:Nat→Pl} {S:Pl}:aH T iF [101] 60 qo (before zD [1,1,0]) ⟨aA qo (BN M j a q i),(6,jc S w)::gI c q m F f j G,7⟩=
  let c2:Int:=(↑q:Int);let c1:List AV×aC:=([ptr 0 0 3 0 [],ptr 1 0 3 0 [],ptr 2 0 3 0 [],ptr 4 0 3 0 [],int i64 (↑M:Int),int i64 (↑j:Int),own 3 3 (j+1) q,int i64 a,ptr 6 0 12 0 [],int i64 c2,int i64 (↑i:Int)],[((5:Nat),ah.mk true true 12 j fun i↦agg [rat (G i).n.x 8589934592,rat (G i).n.y 8589934592,rat (G i).n.z 8589934592,rat (G i).d 8589934592]),((3:Nat),ah.mk true false 3 m fun i↦rat (F i) 2000),((6:Nat),ah.mk false true 12 1 fun x↦agg [rat S.n.x w,rat S.n.y w,rat S.n.z w,rat S.d w]),((4:Nat),ah.mk false true 3 1 fun x↦rat f 64),((2:Nat),ah.mk false true 3 1 fun x↦agg [int i64 c2,own 3 3 0 m,own 5 12 0 j]),((1:Nat),ah.mk false true 3 1 fun x↦agg [int i64 (0:Int),nil,nil]),((0:Nat),ah.mk false true 3 1 fun x↦agg [int i64 c.p,ak 3 c.n fun i↦rat (c.k i) 2000,ak 12 c.m fun i↦agg [rat (c.f i).n.x 4000,rat (c.f i).n.y 4000,rat (c.f i).n.z 4000,rat (c.f i).d 4000]])]);some (fork (decide ((↑i:Int)<c2)) (leaf normal c1) (leaf (exit 4) c1)):=by kernel_rfl
theorem aav {c:Cu} {M j m q i w:Nat} {a:Int} {F:Nat→Rat} {f:Rat} {G:Nat→Pl} {S:Pl}:aH T iF [] 60 jW (before pL [1,1,1]) ⟨aA qo (BN M j a q i),(6,jc S w)::gI c q m F f j G,7⟩=
  let c4:Int:=(↑i:Int);let c3:Nat:=j+1;let c1:AV:=rat 0 1;let c2:Int:=c4+(1:Int);some (ag [(0:Nat)<1,bG (fun i↦rat (F (i+c3)) 2000) q 2048,(1:Nat)≤q,q<2^30,-(2:Int)^63≤c2∧c2<(2:Int)^63,q=q,nR (fun i↦rat (aS (rat (F (i+c3)) 2000)) 2048) q 2048,(0:Int)≤c4,c4<(↑q:Int),c2=c2,bG (fun i↦rat (c.k i) 2000) c.n sK,lI (fun i↦cL (c.f i) 4000) c.m sK,bG (fun i↦rat (m8 (fun q↦aS (rat (aS (rat (F (q+c3)) 2000)) 2048)) c4.toNat q (i+0)) 2048) (q-1) sK,(1:Int)≤c.p,c.p≤(6:Int),c.n<2^40,c.m<2^40,-(2:Int)^40<a,a<(2:Int)^40,(0:Nat)<1] (leaf normal ([ptr 0 0 3 0 [],ptr 1 0 3 0 [],ptr 2 0 3 0 [],ptr 4 0 3 0 [],int i64 (↑M:Int),int i64 (↑j:Int),own 3 3 c3 q,int i64 a,ptr 6 0 12 0 [],int i64 (↑q:Int),int i64 c4,ptr 45063 0 12 0 [],int i64 (0:Int)],[((5:Nat),ah.mk true true 12 j fun i↦agg [rat (G i).n.x 8589934592,rat (G i).n.y 8589934592,rat (G i).n.z 8589934592,rat (G i).d 8589934592]),((3:Nat),ah.mk true false 3 m fun i↦rat (F i) 2000),((45063:Nat),ah.mk false true 12 1 fun j↦if(j==0)=true then bn (cL (l8 (Cu.mk c.p c.n (fun i↦aS (rat (c.k i) 2000)) c.m fun i↦su (cL (c.f i) 4000)) a (q-1) fun i↦aS (rat (m8 (fun q↦aS (rat (aS (rat (F (q+c3)) 2000)) 2048)) c4.toNat q (i+0)) 2048)) sB)else agg [c1,c1,c1,c1]),((6:Nat),ah.mk false true 12 1 fun x↦agg [rat S.n.x w,rat S.n.y w,rat S.n.z w,rat S.d w]),((4:Nat),ah.mk false true 3 1 fun x↦rat f 64),((2:Nat),ah.mk false true 3 1 fun x↦agg [int i64 (↑q:Int),own 3 3 0 m,own 5 12 0 j]),((1:Nat),ah.mk false true 3 1 fun x↦agg [int i64 (0:Int),nil,nil]),((0:Nat),ah.mk false true 3 1 fun x↦agg [int i64 c.p,ak 3 c.n fun i↦rat (c.k i) 2000,ak 12 c.m fun i↦agg [rat (c.f i).n.x 4000,rat (c.f i).n.y 4000,rat (c.f i).n.z 4000,rat (c.f i).d 4000]])]))):=by kernel_rfl
theorem Sc {c:Cu} {M j m q i w:Nat} {a:Int} {F:Nat→Rat} {f:Rat} {G:Nat→Pl} {S x:Pl}:aH T iF [] 60 jW [part pL [1,1,1,0,0]] ⟨aA jW (rS M j a q i 0),rF S x f w 0++gI c q m F f j G,8⟩=
  let c6:Nat:=64+sB;let c5:Prop:=0<1;let c4:Nat:=2^42;let c3:Int:=(↑(0:Nat):Int);let c2:Nat:=if 0<0 then w+c6+1 else w;let c1:Prop:=(0:Int)≤c3∧c3<(↑(4:Nat):Int);some (ag [c1,c5,c5,c1,c5,(64:Nat)<c4,sB<c4,c2<c4,c6<c4,c1,c5] (ag [-(2:Int)^63≤c3+(1:Int)∧c3+(1:Int)<(2:Int)^63] (leaf normal ([ptr 0 0 3 0 [],ptr 1 0 3 0 [],ptr 2 0 3 0 [],ptr 4 0 3 0 [],int i64 (↑M:Int),int i64 (↑j:Int),own 3 3 (j+1) q,int i64 a,ptr 6 0 12 0 [],int i64 (↑q:Int),int i64 (↑i:Int),ptr 7 0 12 0 [],int i64 (1:Int)],[((5:Nat),ah.mk true true 12 j fun i↦agg [rat (G i).n.x 8589934592,rat (G i).n.y 8589934592,rat (G i).n.z 8589934592,rat (G i).d 8589934592]),((3:Nat),ah.mk true false 3 m fun i↦rat (F i) 2000),((7:Nat),ah.mk false true 12 1 fun x_1↦agg [rat x.n.x 536870912,rat x.n.y 536870912,rat x.n.z 536870912,rat x.d 536870912]),((6:Nat),ah.mk false true 12 1 fun j↦if(j==0)=true then agg ((nH S x f w 0).kids.set c3.toNat (bn (jq (if 0<0 then S.n.x+f*x.n.x else S.n.x,c2) (f*x.n.x,c6))))else nH S x f w 0),((4:Nat),ah.mk false true 3 1 fun x↦rat f 64),((2:Nat),ah.mk false true 3 1 fun x↦agg [int i64 (↑q:Int),own 3 3 0 m,own 5 12 0 j]),((1:Nat),ah.mk false true 3 1 fun x↦agg [int i64 (0:Int),nil,nil]),((0:Nat),ah.mk false true 3 1 fun x↦agg [int i64 c.p,ak 3 c.n fun i↦rat (c.k i) 2000,ak 12 c.m fun i↦agg [rat (c.f i).n.x 4000,rat (c.f i).n.y 4000,rat (c.f i).n.z 4000,rat (c.f i).d 4000]])])))):=by kernel_rfl
theorem TM {c:Cu} {M j m q i w:Nat} {a:Int} {F:Nat→Rat} {f:Rat} {G:Nat→Pl} {S x:Pl}:aH T iF [] 60 jW [part pL [1,1,1,0,0]] ⟨aA jW (rS M j a q i 1),rF S x f w 1++gI c q m F f j G,8⟩=
  let c6:Nat:=64+sB;let c5:Prop:=0<1;let c4:Nat:=2^42;let c3:Int:=(↑(1:Nat):Int);let c2:Nat:=if 1<1 then w+c6+1 else w;let c1:Prop:=(0:Int)≤c3∧c3<(↑(4:Nat):Int);some (ag [c1,c5,c5,c1,c5,(64:Nat)<c4,sB<c4,c2<c4,c6<c4,c1,c5] (ag [-(2:Int)^63≤c3+(1:Int)∧c3+(1:Int)<(2:Int)^63] (leaf normal ([ptr 0 0 3 0 [],ptr 1 0 3 0 [],ptr 2 0 3 0 [],ptr 4 0 3 0 [],int i64 (↑M:Int),int i64 (↑j:Int),own 3 3 (j+1) q,int i64 a,ptr 6 0 12 0 [],int i64 (↑q:Int),int i64 (↑i:Int),ptr 7 0 12 0 [],int i64 (2:Int)],[((5:Nat),ah.mk true true 12 j fun i↦agg [rat (G i).n.x 8589934592,rat (G i).n.y 8589934592,rat (G i).n.z 8589934592,rat (G i).d 8589934592]),((3:Nat),ah.mk true false 3 m fun i↦rat (F i) 2000),((7:Nat),ah.mk false true 12 1 fun x_1↦agg [rat x.n.x 536870912,rat x.n.y 536870912,rat x.n.z 536870912,rat x.d 536870912]),((6:Nat),ah.mk false true 12 1 fun j↦if(j==0)=true then agg ((nH S x f w 1).kids.set c3.toNat (bn (jq (if 1<1 then S.n.y+f*x.n.y else S.n.y,c2) (f*x.n.y,c6))))else nH S x f w 1),((4:Nat),ah.mk false true 3 1 fun x↦rat f 64),((2:Nat),ah.mk false true 3 1 fun x↦agg [int i64 (↑q:Int),own 3 3 0 m,own 5 12 0 j]),((1:Nat),ah.mk false true 3 1 fun x↦agg [int i64 (0:Int),nil,nil]),((0:Nat),ah.mk false true 3 1 fun x↦agg [int i64 c.p,ak 3 c.n fun i↦rat (c.k i) 2000,ak 12 c.m fun i↦agg [rat (c.f i).n.x 4000,rat (c.f i).n.y 4000,rat (c.f i).n.z 4000,rat (c.f i).d 4000]])])))):=by kernel_rfl
theorem UL {c:Cu} {M j m q i w:Nat} {a:Int} {F:Nat→Rat} {f:Rat} {G:Nat→Pl} {S x:Pl}:aH T iF [] 60 jW [part pL [1,1,1,0,0]] ⟨aA jW (rS M j a q i 2),rF S x f w 2++gI c q m F f j G,8⟩=
  let c6:Nat:=64+sB;let c5:Prop:=0<1;let c4:Nat:=2^42;let c3:Int:=(↑(2:Nat):Int);let c2:Nat:=if 2<2 then w+c6+1 else w;let c1:Prop:=(0:Int)≤c3∧c3<(↑(4:Nat):Int);some (ag [c1,c5,c5,c1,c5,(64:Nat)<c4,sB<c4,c2<c4,c6<c4,c1,c5] (ag [-(2:Int)^63≤c3+(1:Int)∧c3+(1:Int)<(2:Int)^63] (leaf normal ([ptr 0 0 3 0 [],ptr 1 0 3 0 [],ptr 2 0 3 0 [],ptr 4 0 3 0 [],int i64 (↑M:Int),int i64 (↑j:Int),own 3 3 (j+1) q,int i64 a,ptr 6 0 12 0 [],int i64 (↑q:Int),int i64 (↑i:Int),ptr 7 0 12 0 [],int i64 (3:Int)],[((5:Nat),ah.mk true true 12 j fun i↦agg [rat (G i).n.x 8589934592,rat (G i).n.y 8589934592,rat (G i).n.z 8589934592,rat (G i).d 8589934592]),((3:Nat),ah.mk true false 3 m fun i↦rat (F i) 2000),((7:Nat),ah.mk false true 12 1 fun x_1↦agg [rat x.n.x 536870912,rat x.n.y 536870912,rat x.n.z 536870912,rat x.d 536870912]),((6:Nat),ah.mk false true 12 1 fun j↦if(j==0)=true then agg ((nH S x f w 2).kids.set c3.toNat (bn (jq (if 2<2 then S.n.z+f*x.n.z else S.n.z,c2) (f*x.n.z,c6))))else nH S x f w 2),((4:Nat),ah.mk false true 3 1 fun x↦rat f 64),((2:Nat),ah.mk false true 3 1 fun x↦agg [int i64 (↑q:Int),own 3 3 0 m,own 5 12 0 j]),((1:Nat),ah.mk false true 3 1 fun x↦agg [int i64 (0:Int),nil,nil]),((0:Nat),ah.mk false true 3 1 fun x↦agg [int i64 c.p,ak 3 c.n fun i↦rat (c.k i) 2000,ak 12 c.m fun i↦agg [rat (c.f i).n.x 4000,rat (c.f i).n.y 4000,rat (c.f i).n.z 4000,rat (c.f i).d 4000]])])))):=by kernel_rfl
theorem ag1 {c:Cu} {M j m q i w:Nat} {a:Int} {F:Nat→Rat} {f:Rat} {G:Nat→Pl} {S x:Pl}:aH T iF [] 60 jW [part pL [1,1,1,0,0]] ⟨aA jW (rS M j a q i 3),rF S x f w 3++gI c q m F f j G,8⟩=
  let c6:Nat:=64+sB;let c5:Prop:=0<1;let c4:Nat:=2^42;let c3:Int:=(↑(3:Nat):Int);let c2:Nat:=if 3<3 then w+c6+1 else w;let c1:Prop:=(0:Int)≤c3∧c3<(↑(4:Nat):Int);some (ag [c1,c5,c5,c1,c5,(64:Nat)<c4,sB<c4,c2<c4,c6<c4,c1,c5] (ag [-(2:Int)^63≤c3+(1:Int)∧c3+(1:Int)<(2:Int)^63] (leaf normal ([ptr 0 0 3 0 [],ptr 1 0 3 0 [],ptr 2 0 3 0 [],ptr 4 0 3 0 [],int i64 (↑M:Int),int i64 (↑j:Int),own 3 3 (j+1) q,int i64 a,ptr 6 0 12 0 [],int i64 (↑q:Int),int i64 (↑i:Int),ptr 7 0 12 0 [],int i64 (4:Int)],[((5:Nat),ah.mk true true 12 j fun i↦agg [rat (G i).n.x 8589934592,rat (G i).n.y 8589934592,rat (G i).n.z 8589934592,rat (G i).d 8589934592]),((3:Nat),ah.mk true false 3 m fun i↦rat (F i) 2000),((7:Nat),ah.mk false true 12 1 fun x_1↦agg [rat x.n.x 536870912,rat x.n.y 536870912,rat x.n.z 536870912,rat x.d 536870912]),((6:Nat),ah.mk false true 12 1 fun j↦if(j==0)=true then agg ((nH S x f w 3).kids.set c3.toNat (bn (jq (if 3<3 then S.d+f*x.d else S.d,c2) (f*x.d,c6))))else nH S x f w 3),((4:Nat),ah.mk false true 3 1 fun x↦rat f 64),((2:Nat),ah.mk false true 3 1 fun x↦agg [int i64 (↑q:Int),own 3 3 0 m,own 5 12 0 j]),((1:Nat),ah.mk false true 3 1 fun x↦agg [int i64 (0:Int),nil,nil]),((0:Nat),ah.mk false true 3 1 fun x↦agg [int i64 c.p,ak 3 c.n fun i↦rat (c.k i) 2000,ak 12 c.m fun i↦agg [rat (c.f i).n.x 4000,rat (c.f i).n.y 4000,rat (c.f i).n.z 4000,rat (c.f i).d 4000]])])))):=by kernel_rfl
theorem ahb {c:Cu} {M j m q i w:Nat} {a:Int} {F:Nat→Rat} {f:Rat} {G:Nat→Pl} {S x:Pl}:aH T iF [] 60 jW [part pL [1,1,1,0,0]] ⟨aA jW (rS M j a q i 4),rF S x f w 4++gI c q m F f j G,8⟩=
  let c1:Nat:=w+((64:Nat)+sB)+1;some (leaf (exit 6) ([ptr 0 0 3 0 [],ptr 1 0 3 0 [],ptr 2 0 3 0 [],ptr 4 0 3 0 [],int i64 (↑M:Int),int i64 (↑j:Int),own 3 3 (j+1) q,int i64 a,ptr 6 0 12 0 [],int i64 (↑q:Int),int i64 (↑i:Int),ptr 7 0 12 0 [],int i64 (4:Int)],[((5:Nat),ah.mk true true 12 j fun i↦agg [rat (G i).n.x 8589934592,rat (G i).n.y 8589934592,rat (G i).n.z 8589934592,rat (G i).d 8589934592]),((3:Nat),ah.mk true false 3 m fun i↦rat (F i) 2000),((7:Nat),ah.mk false true 12 1 fun x_1↦agg [rat x.n.x 536870912,rat x.n.y 536870912,rat x.n.z 536870912,rat x.d 536870912]),((6:Nat),ah.mk false true 12 1 fun x_1↦agg [rat (if 0<4 then S.n.x+f*x.n.x else S.n.x) (if 0<4 then c1 else w),rat (if 1<4 then S.n.y+f*x.n.y else S.n.y) (if 1<4 then c1 else w),rat (if 2<4 then S.n.z+f*x.n.z else S.n.z) (if 2<4 then c1 else w),rat (if 3<4 then S.d+f*x.d else S.d) (if 3<4 then c1 else w)]),((4:Nat),ah.mk false true 3 1 fun x↦rat f 64),((2:Nat),ah.mk false true 3 1 fun x↦agg [int i64 (↑q:Int),own 3 3 0 m,own 5 12 0 j]),((1:Nat),ah.mk false true 3 1 fun x↦agg [int i64 (0:Int),nil,nil]),((0:Nat),ah.mk false true 3 1 fun x↦agg [int i64 c.p,ak 3 c.n fun i↦rat (c.k i) 2000,ak 12 c.m fun i↦agg [rat (c.f i).n.x 4000,rat (c.f i).n.y 4000,rat (c.f i).n.z 4000,rat (c.f i).d 4000]])])):=by kernel_rfl
theorem Y0 {c:Cu} {M j m q i w:Nat} {a:Int} {F:Nat→Rat} {f:Rat} {G:Nat→Pl} {S x:Pl}:aH T iF [] 60 qo [part zD [1,1,1]] ⟨aA jW (rS M j a q i 4),rF S x f w 4++gI c q m F f j G,8⟩=
  let c2:Int:=(↑i:Int)+(1:Int);let c1:Nat:=w+((64:Nat)+sB)+1;some (ag [-(2:Int)^63≤c2∧c2<(2:Int)^63] (leaf normal ([ptr 0 0 3 0 [],ptr 1 0 3 0 [],ptr 2 0 3 0 [],ptr 4 0 3 0 [],int i64 (↑M:Int),int i64 (↑j:Int),own 3 3 (j+1) q,int i64 a,ptr 6 0 12 0 [],int i64 (↑q:Int),int i64 c2],[((5:Nat),ah.mk true true 12 j fun i↦agg [rat (G i).n.x 8589934592,rat (G i).n.y 8589934592,rat (G i).n.z 8589934592,rat (G i).d 8589934592]),((3:Nat),ah.mk true false 3 m fun i↦rat (F i) 2000),((6:Nat),ah.mk false true 12 1 fun x_1↦agg [rat (if 0<4 then S.n.x+f*x.n.x else S.n.x) (if 0<4 then c1 else w),rat (if 1<4 then S.n.y+f*x.n.y else S.n.y) (if 1<4 then c1 else w),rat (if 2<4 then S.n.z+f*x.n.z else S.n.z) (if 2<4 then c1 else w),rat (if 3<4 then S.d+f*x.d else S.d) (if 3<4 then c1 else w)]),((4:Nat),ah.mk false true 3 1 fun x↦rat f 64),((2:Nat),ah.mk false true 3 1 fun x↦agg [int i64 (↑q:Int),own 3 3 0 m,own 5 12 0 j]),((1:Nat),ah.mk false true 3 1 fun x↦agg [int i64 (0:Int),nil,nil]),((0:Nat),ah.mk false true 3 1 fun x↦agg [int i64 c.p,ak 3 c.n fun i↦rat (c.k i) 2000,ak 12 c.m fun i↦agg [rat (c.f i).n.x 4000,rat (c.f i).n.y 4000,rat (c.f i).n.z 4000,rat (c.f i).d 4000]])]))):=by kernel_rfl
theorem XY {c:Cu} {M j m q i w:Nat} {a:Int} {F:Nat→Rat} {f:Rat} {G:Nat→Pl} {S:Pl}:aH T iF [] 60 jS [part pG [1,1,1,1,1]] ⟨aA qo (BN M j a q i),(6,jc S w)::gI c q m F f j G,7⟩=
  let c3:Prop:=0<1;let c2:AV:=rat 0 1;let c1:AV:=agg [int i64 (↑q:Int),own 3 3 0 m,own 5 12 0 j];some (ag [c3,c3,(1:Nat)*12≤2^24,(j+1)*((224:Nat)+1)*2≤2^47,c3] (leaf normal ([ptr 0 0 3 0 [],ptr 1 0 3 0 [],ptr 2 0 3 0 [],ptr 4 0 3 0 [],int i64 (↑M:Int),int i64 (↑j:Int)],[((16391:Nat),ah.mk true true 12 (j+1) fun i↦if i<j then cL (G i) cK else nth [agg [rat S.n.x w,rat S.n.y w,rat S.n.z w,rat S.d w]] (agg [c2,c2,c2,c2]) (i-j+0)),((3:Nat),ah.mk true false 3 m fun i↦rat (F i) 2000),((4:Nat),ah.mk false true 3 1 fun x↦rat f 64),((2:Nat),ah.mk false true 3 1 fun j_1↦if(j_1==0)=true then agg (c1.kids.set 2 (bn (own (nat_lit 16390+1) 12 0 (j+1))))else c1),((1:Nat),ah.mk false true 3 1 fun x↦agg [int i64 (0:Int),nil,nil]),((0:Nat),ah.mk false true 3 1 fun x↦agg [int i64 c.p,ak 3 c.n fun i↦rat (c.k i) 2000,ak 12 c.m fun i↦agg [rat (c.f i).n.x 4000,rat (c.f i).n.y 4000,rat (c.f i).n.z 4000,rat (c.f i).d 4000]])]))):=by kernel_rfl
theorem afa {c:Cu} {M j m h:Nat} {q:Int} {F:Nat→Rat} {f:Rat} {G:Nat→Pl}:aH T iF [] 60 jS [part pz [1,1,1]] ⟨aA jS (pK M j),gI c q m F f h G,6⟩=
  let c1:Int:=(↑j:Int)+(1:Int);some (ag [-(2:Int)^63≤c1∧c1<(2:Int)^63] (leaf normal ([ptr 0 0 3 0 [],ptr 1 0 3 0 [],ptr 2 0 3 0 [],ptr 4 0 3 0 [],int i64 (↑M:Int),int i64 c1],[((5:Nat),ah.mk true true 12 h fun i↦agg [rat (G i).n.x 8589934592,rat (G i).n.y 8589934592,rat (G i).n.z 8589934592,rat (G i).d 8589934592]),((3:Nat),ah.mk true false 3 m fun i↦rat (F i) 2000),((4:Nat),ah.mk false true 3 1 fun x↦rat f 64),((2:Nat),ah.mk false true 3 1 fun x↦agg [int i64 q,own 3 3 0 m,own 5 12 0 h]),((1:Nat),ah.mk false true 3 1 fun x↦agg [int i64 (0:Int),nil,nil]),((0:Nat),ah.mk false true 3 1 fun x↦agg [int i64 c.p,ak 3 c.n fun i↦rat (c.k i) 2000,ak 12 c.m fun i↦agg [rat (c.f i).n.x 4000,rat (c.f i).n.y 4000,rat (c.f i).n.z 4000,rat (c.f i).d 4000]])]))):=by kernel_rfl
theorem Zj {c:Cu} {M j m:Nat} {q:Int} {F:Nat→Rat} {f:Rat} {G:Nat→Pl}:cm T iF [] 60 o5 [part uZ [1,1]] ⟨aA jS (pK M j),gI c q m F f j G,6⟩=
  let c1:Prop:=0<1;some (ag [c1,c1] (ag [c1] (leaf ret [agg [int i64 q,ak 3 m fun i↦rat (F (i+0)) 2000,ak 12 j fun i↦agg [rat (G (i+0)).n.x 8589934592,rat (G (i+0)).n.y 8589934592,rat (G (i+0)).n.z 8589934592,rat (G (i+0)).d 8589934592]]]))):=by kernel_rfl
theorem rU:aY P iF:=dr (aG MQ (aG Yh (aG NL (aG LD (aG EM (aG xw (aG RU ga)))))))
theorem ahQ {c:Cu} {M j m q:Nat} {F:Nat→Rat} {f:Rat} {G:Nat→Pl} {cx:Ctx} {Q:aj→aF→Prop} (hk:Kept [] cx) (hc:Kn c.n c.p.toNat c.k) (hp1:1≤c.p) (hp6:c.p≤6) (hq:(q:Int)=c.p+1) (hn:c.n<2^20) (hm2:c.m<2^20) (hmn:m<2^20) (hj:j+q+1<m)
  (hG:o9 c f m q F j=G j)
  (hQ:∀s',(∃ρ,Le cx ρ s' ⟨aA jS (pK M j),gI c q m F f (j+1) G,6⟩)→aq P cx o5.ntmps (part pz [1,1,1]) s' Q):
  aq P cx o5.ntmps pG ⟨aA jS (pK M j),gI c q m F f j G,6⟩ (inBlock 3 (dz (fun s'=>aq P cx o5.ntmps (part pz [1,1,1]) s' Q) Q)):=by
 have hSB:sB=536870912:=rfl
 have hSE:cK=8589934592:=rfl
 obtain⟨a,ha⟩:∃a:Nat,a=fW c.n c.k (F (ej F m j)):=⟨_,rfl⟩
 have ha2:a<c.n:=by rw[ha];exact KK hc
 have hpc:=Qq (k:=F) (n:=m) (i:=j) (by omega)
 have hv:∀{rl:List (Nat×Nat)} {k x y y':Nat},aT rl 3=some 3→aT rl k=some x→y=y'→fD rl (.agg [.int .i64 q,.own 3 3 0 m,.own x 12 0 y]) (.agg [.int .i64 q,.own 3 3 0 m,.own k 12 0 y']):=fun h0 h e=>jd ⟨⟨rfl,aI rfl⟩,⟨rfl,cw h0 rfl rfl⟩,⟨rfl,cw h rfl e⟩,trivial⟩
 have wS:∀r,k7 (r+1)=k7 r+(64+sB)+1:=fun r=>by unfold k7;rw[hSB];omega
 have wL:∀r,r≤7→k7 r≤cK:=fun r hr=>by unfold k7;rw[hSB,hSE];omega
 refine aq.VL hT rU hm (x:=pG) (y:=zD) (x1:=pL) (zb:=part zD [1,1,1]) (y2:=part pL [1,1,1,0,0]) [1,1,1,1,0,1] (i:=4) (by kernel_rfl) (by kernel_rfl) (by kernel_rfl) [1,1,0] (j:=5) (by kernel_rfl) (by kernel_rfl) (by kernel_rfl) [1,1,1] (i2:=6) (by kernel_rfl) (by kernel_rfl) rfl hk (f1:=[]) (f2:=[101]) (f3:=[]) (f4:=[]) (f5:=[]) 60 qo jW 7 8
  (fun i:Nat=>BN M j a q i) (fun i=>(6,jc (iP f (uh c a q F j) i) (k7 i))::gI c q m F f j G) (fun i=>i≤q) (fun i=>i=q) (fun i=>q-i) (fun i=>i<q) (fun _=>False) (fun _=>False)
  (fun i (b:Nat)=>rS M j a q i b) (fun i b=>rF (iP f (uh c a q F j) i) (uh c a q F j i) f (k7 i) b++gI c q m F f j G) (fun _ b=>b≤4) (fun _ b=>b=4) (fun _ b=>4-b)
  ⟨_,Zn,?_⟩ (fun i hi=>⟨_,aiI,?_⟩) (fun i hi hG=>⟨_,aav,?_⟩) (fun i hi hG b hb=>?_) (fun i hi hG b hb=>?_) (fun i s' hi hle=>?_) (fun _ _ h=>h.elim) (fun _ _ h=>h.elim)
 ·simp only[aa.all,ax]
  have e1:((j:Int)+1).toNat=j+1:=by omega
  have e2:((j:Int)+q+1).toNat=j+q+1:=by omega
  have e3:j+q+1-(j+1)=q:=by omega
  have h7:ej (fun i=>aS (rat (F i) 2000)) m j=ej F m j:=rfl
  have h8:fW c.n (fun i=>aS (rat (c.k i) 2000)) (F (ej F m j))=a:=ha.symm
  simp only[e1,e2,e3,Nat.zero_add,Nat.add_zero,Int.toNat_natCast,h7,h8]
  exact⟨⟨by omega,by omega,by omega,by omega,by omega,by omega,by omega,by omega,by omega⟩,⟨by omega,by omega,by omega,by omega,cM (by decide),by omega,by omega,by omega,⟨by omega,hpc⟩,cM (by decide),by decide,hc,by omega,by omega⟩,0,Nat.zero_le _,[(0,0),(1,1),(2,2),(3,3),(4,4),(5,5),(6,126982)],rfl,rfl,rfl,aJ rfl rfl (aE rfl rfl) (bh rfl rfl rfl (fun _ _=>aE rfl rfl) (aJ rfl rfl (aE rfl rfl) (bh rfl rfl rfl (fun _ _=>aE rfl rfl) (aJ rfl rfl (hv rfl rfl rfl) (aJ rfl rfl (aE rfl rfl) (aJ rfl rfl (aE rfl rfl) trivial))))))⟩
 ·simp only[aa.all,ax,decide_eq_true_eq,decide_eq_false_iff_not]
  exact⟨fun h=>⟨by omega,[(0,0),(1,1),(2,2),(3,3),(4,4),(5,5),(6,6)],rfl,rfl,rfl,aJ rfl rfl (aE rfl rfl) (bh rfl rfl rfl (fun _ _=>aE rfl rfl) (aJ rfl rfl (aE rfl rfl) (bh rfl rfl rfl (fun _ _=>aE rfl rfl) (aJ rfl rfl (hv rfl rfl rfl) (aJ rfl rfl (aE rfl rfl) (aJ rfl rfl (aE rfl rfl) trivial))))))⟩,fun h=>⟨rfl,i,by omega,[(0,0),(1,1),(2,2),(3,3),(4,4),(5,5),(6,6)],rfl,rfl,rfl,aJ rfl rfl (aE rfl rfl) (bh rfl rfl rfl (fun _ _=>aE rfl rfl) (aJ rfl rfl (aE rfl rfl) (bh rfl rfl rfl (fun _ _=>aE rfl rfl) (aJ rfl rfl (hv rfl rfl rfl) (aJ rfl rfl (aE rfl rfl) (aJ rfl rfl (aE rfl rfl) trivial))))))⟩⟩
 ·simp only[aa.all,ax]
  have hG:i<q:=hG
  exact⟨⟨by omega,cM (by decide),by omega,by omega,by omega,trivial,Nr (Nat.le_refl _),by omega,by omega,trivial,cM (by decide),sS (by decide),cM (by decide),hp1,hp6,by omega,by omega,by omega,by omega,by omega⟩,0,by omega,[(0,0),(1,1),(2,2),(3,3),(4,4),(5,5),(6,6),(7,45063)],rfl,rfl,rfl,aJ rfl rfl (aE rfl rfl) (aJ rfl rfl (aE rfl rfl) (bh rfl rfl rfl (fun _ _=>aE rfl rfl) (aJ rfl rfl (aE rfl rfl) (bh rfl rfl rfl (fun _ _=>aE rfl rfl) (aJ rfl rfl (hv rfl rfl rfl) (aJ rfl rfl (aE rfl rfl) (aJ rfl rfl (aE rfl rfl) trivial)))))))⟩
 ·have hG:i<q:=hG
  have hb:b≤4:=hb
  have hw:=wL i (by omega)
  have u1:(0:Int)<4:=by decide
  rcases(show b=0∨b=1∨b=2∨b=3∨b=4 by omega)with rfl|rfl|rfl|rfl|rfl
  ·refine⟨_,Sc,?_⟩
   simp only[aa.all,ax]
   exact⟨⟨by omega,by omega,by omega,by omega,by omega,by omega,by omega,by show k7 i<2^42;omega,by omega,by omega,by omega⟩,by omega,1,by omega,by dsimp only;omega,[(0,0),(1,1),(2,2),(3,3),(4,4),(5,5),(6,6),(7,7)],rfl,rfl,rfl,aJ rfl rfl (aE rfl rfl) (aJ rfl rfl (aE rfl rfl) (bh rfl rfl rfl (fun _ _=>aE rfl rfl) (aJ rfl rfl (aE rfl rfl) (bh rfl rfl rfl (fun _ _=>aE rfl rfl) (aJ rfl rfl (hv rfl rfl rfl) (aJ rfl rfl (aE rfl rfl) (aJ rfl rfl (aE rfl rfl) trivial)))))))⟩
  ·refine⟨_,TM,?_⟩
   simp only[aa.all,ax]
   exact⟨⟨by omega,by omega,by omega,by omega,by omega,by omega,by omega,by show k7 i<2^42;omega,by omega,by omega,by omega⟩,by omega,2,by omega,by dsimp only;omega,[(0,0),(1,1),(2,2),(3,3),(4,4),(5,5),(6,6),(7,7)],rfl,rfl,rfl,aJ rfl rfl (aE rfl rfl) (aJ rfl rfl (aE rfl rfl) (bh rfl rfl rfl (fun _ _=>aE rfl rfl) (aJ rfl rfl (aE rfl rfl) (bh rfl rfl rfl (fun _ _=>aE rfl rfl) (aJ rfl rfl (hv rfl rfl rfl) (aJ rfl rfl (aE rfl rfl) (aJ rfl rfl (aE rfl rfl) trivial)))))))⟩
  ·refine⟨_,UL,?_⟩
   simp only[aa.all,ax]
   exact⟨⟨by omega,by omega,by omega,by omega,by omega,by omega,by omega,by show k7 i<2^42;omega,by omega,by omega,by omega⟩,by omega,3,by omega,by dsimp only;omega,[(0,0),(1,1),(2,2),(3,3),(4,4),(5,5),(6,6),(7,7)],rfl,rfl,rfl,aJ rfl rfl (aE rfl rfl) (aJ rfl rfl (aE rfl rfl) (bh rfl rfl rfl (fun _ _=>aE rfl rfl) (aJ rfl rfl (aE rfl rfl) (bh rfl rfl rfl (fun _ _=>aE rfl rfl) (aJ rfl rfl (hv rfl rfl rfl) (aJ rfl rfl (aE rfl rfl) (aJ rfl rfl (aE rfl rfl) trivial)))))))⟩
  ·refine⟨_,ag1,?_⟩
   simp only[aa.all,ax]
   exact⟨⟨by omega,by omega,by omega,by omega,by omega,by omega,by omega,by show k7 i<2^42;omega,by omega,by omega,by omega⟩,by omega,4,by omega,by dsimp only;omega,[(0,0),(1,1),(2,2),(3,3),(4,4),(5,5),(6,6),(7,7)],rfl,rfl,rfl,aJ rfl rfl (aE rfl rfl) (aJ rfl rfl (aE rfl rfl) (bh rfl rfl rfl (fun _ _=>aE rfl rfl) (aJ rfl rfl (aE rfl rfl) (bh rfl rfl rfl (fun _ _=>aE rfl rfl) (aJ rfl rfl (hv rfl rfl rfl) (aJ rfl rfl (aE rfl rfl) (aJ rfl rfl (aE rfl rfl) trivial)))))))⟩
  ·exact⟨_,ahb,rfl,4,rfl,[(0,0),(1,1),(2,2),(3,3),(4,4),(5,5),(6,6),(7,7)],rfl,rfl,rfl,aJ rfl rfl (aE rfl rfl) (aJ rfl rfl (aE rfl rfl) (bh rfl rfl rfl (fun _ _=>aE rfl rfl) (aJ rfl rfl (aE rfl rfl) (bh rfl rfl rfl (fun _ _=>aE rfl rfl) (aJ rfl rfl (hv rfl rfl rfl) (aJ rfl rfl (aE rfl rfl) (aJ rfl rfl (aE rfl rfl) trivial)))))))⟩
 ·have hb:b=4:=hb
  subst hb
  refine⟨_,Y0,?_⟩
  simp only[aa.all,ax]
  have hG:i<q:=hG
  have hw:=Nat.le_of_eq (wS i).symm
  exact⟨by omega,i+1,by omega,by dsimp only;omega,[(0,0),(1,1),(2,2),(3,3),(4,4),(5,5),(6,6)],rfl,rfl,rfl,aJ rfl rfl (.inr ⟨rfl,dn (show eJ [.rat _ _,.rat _ _,.rat _ _,.rat _ _] [.rat _ _,.rat _ _,.rat _ _,.rat _ _]from⟨bS rfl hw,bS rfl hw,bS rfl hw,bS rfl hw,trivial⟩)⟩) (bh rfl rfl rfl (fun _ _=>aE rfl rfl) (aJ rfl rfl (aE rfl rfl) (bh rfl rfl rfl (fun _ _=>aE rfl rfl) (aJ rfl rfl (hv rfl rfl rfl) (aJ rfl rfl (aE rfl rfl) (aJ rfl rfl (aE rfl rfl) trivial))))))⟩
 ·subst hi
  rw[show behind pG [1,1,1,1,0,1]=[part pG [1,1,1,1,1]]from by kernel_rfl]
  refine aD.weak rfl hle (aD.bf hT rU hm 60 jS XY (by kernel_rfl) ?_)
  simp only[aa.all,ax]
  refine⟨⟨by omega,by omega,by omega,by omega,by omega⟩,fun s'' hs''=>hQ s'' (dU.le ⟨[(0,0),(1,1),(2,2),(3,3),(4,4),(5,16391)],rfl,rfl,rfl,bh rfl rfl rfl (fun u hu=>Av (g:=fun j=>cL (G j) cK) (fun _ _=>⟨rfl,rfl⟩) rfl ?_ hu) (aJ rfl rfl (aE rfl rfl) (bh rfl rfl rfl (fun _ _=>aE rfl rfl) (aJ rfl rfl (hv rfl rfl rfl) (aJ rfl rfl (aE rfl rfl) (aJ rfl rfl (aE rfl rfl) trivial)))))⟩ hs'' hk)⟩
  show bB (cL (iP f (uh c a i F j) i) (k7 i)) (cL (G j) cK)
  exact AJ (by rw[←hG,ha];rfl) (wL _ (by omega))
theorem Jj {rl:List (Nat×Nat)} {l i s:Nat} {x:Nat→Rat} {t:Rat} (h1:t=x l) (h2:t=x (l+1)) (hi:i<l+1+1):fD rl (if i<l+1 then(if i<l then .rat (x i) s else nth [.rat t s] (.rat 0 1) (i-l+0))else nth [.rat t s] (.rat 0 1) (i-(l+1)+0)) (.rat (x i) s):=by
 by_cases h:i<l+1
 ·rw[if_pos h]
  exact tc (y:=x) (fun _ _=>rfl) h1 (Nat.le_refl _) (Nat.le_refl _) h
 ·have:i=l+1:=by omega
  subst this
  rw[if_neg h,Nat.sub_self,h2]
  exact aE rfl rfl
set_option maxHeartbeats 1000000 in
theorem ajE {c:Cu} (hc:Kn c.n c.p.toNat c.k) (hp1:1≤c.p) (hp6:c.p≤6) (hn:c.n<2^18) (hm2:c.m<2^18) (K:Nat):aB P zx K [eB c 2000 4000] [] (aK (eB (jC c) 2000 cK) []):=by
 refine iq (r:=aK (eB (jC c) 2000 cK) []) hT NY rfl (of_decide_eq_true (by kernel_rfl)) rfl (fun _ cx h00=>?_) K []
 have hk:=qv h00
 have hl:=hc.len
 have hq:c.p+1=((c.p.toNat+1:Nat):Int):=by omega
 have hK:=LN hc
 have hKl:=hK.len
 have hgl:=zf (k:=c.k) (n:=c.n) (i:=c.n)
 have hv:∀{rl:List (Nat×Nat)} {x y y':Nat} {q:Int},aT rl 3=some x→y=y'→fD rl (.agg [.int .i64 q,.own x 3 0 y,.nil]) (.agg [.int .i64 q,.own 3 3 0 y',.nil]):=fun h e=>jd ⟨⟨rfl,aI rfl⟩,⟨rfl,cw h rfl e⟩,⟨rfl,aI rfl⟩,trivial⟩
 refine aq.nN hT rU hm (x:=A6) [1,1,0,1] (i:=0) (y:=part A6 [1,1,0,1,0,0]) (z:=uZ) (by kernel_rfl) (by kernel_rfl) (by kernel_rfl) NY.dst hk (f1:=[]) (f2:=[24,40,50]) 60 yZ 4
  (fun i:Nat=>tK c i) (fun i=>tZ c ((c.p.toNat+1:Nat):Int) (i+bE c.k c.n i) (b9 c.k c.n c.n)) (fun i=>i≤c.n) (fun i=>i=c.n) (fun i=>c.n-i) (fun _=>False) ⟨_,WQ,?_⟩ (fun i hi=>⟨_,ac9,?_⟩) (fun i hi=>?_) (fun _ _ h=>h.elim)
 ·simp only[aa.all,ax,hq]
  exact⟨⟨by omega,by omega,by omega⟩,by omega,0,Nat.zero_le _,[(0,0),(1,4096),(2,24576)],rfl,rfl,rfl,mw rfl (by omega) (by omega) (aJ rfl rfl (jd ⟨⟨rfl,aI rfl⟩,⟨rfl,mo (by omega)⟩,⟨rfl,aI rfl⟩,trivial⟩) (aJ rfl rfl (aE rfl rfl) (aJ rfl rfl (aE rfl rfl) trivial)))⟩
 ·have e1:((i:Int)+1).toNat=i+1:=by omega
  have hgi:=zf (k:=c.k) (n:=c.n) (i:=i)
  simp only[aa.all,ax,decide_eq_true_eq,decide_eq_false_iff_not,cond_false,Bool.not_eq_true',Bool.not_eq_false',e1,Int.toNat_natCast]
  refine⟨fun h=>?_,fun h=>⟨rfl,i,by omega,[(0,0),(1,1),(2,2),(3,3)],rfl,rfl,rfl,bh rfl rfl rfl (fun _ _=>aE rfl rfl) (aJ rfl rfl (hv rfl rfl) (aJ rfl rfl (aE rfl rfl) (aJ rfl rfl (aE rfl rfl) trivial)))⟩⟩
  obtain⟨n1,n2⟩:=afK (k:=c.k) (n:=c.n) (i:=i) (by omega)
  have dbl:(i+1=c.n∨c.k i≠c.k (i+1))→(i+1)+bE c.k c.n (i+1)=i+bE c.k c.n i+1+1∧c.k i=b9 c.k c.n c.n (i+bE c.k c.n i+1):=fun g=>⟨by rw[zH g];omega,by rw[n2,if_pos g]⟩
  have one:¬(i+1=c.n∨c.k i≠c.k (i+1))→(i+1)+bE c.k c.n (i+1)=i+bE c.k c.n i+1:=fun g=>by rw[tF g];omega
  refine⟨⟨by omega,by omega⟩,⟨by omega,by omega,by omega,by omega,by omega⟩,fun g=>⟨⟨by omega,by omega,g⟩,fun _=>⟨⟨by omega,by omega,by omega,by omega,by omega⟩,by omega,i+1,by omega,by dsimp only;omega,?_⟩,fun g2=>absurd g2 (by decide)⟩,fun g=>⟨⟨by omega,by omega,g,by omega,by omega,by omega,by have:=beq_eq_false_iff_ne.1 g;omega,by omega,by omega⟩,fun g2=>⟨⟨by omega,by omega,by omega,by omega,by omega⟩,by omega,i+1,by omega,by dsimp only;omega,?_⟩,fun g2=>⟨by omega,i+1,by omega,by dsimp only;omega,?_⟩⟩⟩
  ·obtain⟨d1,d2⟩:=dbl (.inl (by have:=beq_iff_eq.1 g;omega))
   show dU [] _ (tK c (i+1)) (tZ c ((c.p.toNat+1:Nat):Int) (i+1+bE c.k c.n (i+1)) (b9 c.k c.n c.n)) 4
   rw[d1]
   exact⟨[(0,0),(1,1),(2,2),(3,143364)],rfl,rfl,rfl,bh rfl rfl rfl (fun u hu=>Jj n1.symm d2 hu) (aJ rfl rfl (by exact hv rfl rfl) (aJ rfl rfl (aE rfl rfl) (aJ rfl rfl (aE rfl rfl) trivial)))⟩
  ·obtain⟨d1,d2⟩:=dbl (.inr g2)
   show dU [] _ (tK c (i+1)) (tZ c ((c.p.toNat+1:Nat):Int) (i+1+bE c.k c.n (i+1)) (b9 c.k c.n c.n)) 4
   rw[d1]
   exact⟨[(0,0),(1,1),(2,2),(3,143364)],rfl,rfl,rfl,bh rfl rfl rfl (fun u hu=>Jj n1.symm d2 hu) (aJ rfl rfl (by exact hv rfl rfl) (aJ rfl rfl (aE rfl rfl) (aJ rfl rfl (aE rfl rfl) trivial)))⟩
  ·have g3:=one (fun g3=>g3.elim (fun g4=>beq_eq_false_iff_ne.1 g (by omega)) fun g4=>g4 g2)
   show dU [] _ (tK c (i+1)) (tZ c ((c.p.toNat+1:Nat):Int) (i+1+bE c.k c.n (i+1)) (b9 c.k c.n c.n)) 4
   rw[g3]
   exact⟨[(0,0),(1,1),(2,2),(3,45060)],rfl,rfl,rfl,bh rfl rfl rfl (fun u hu=>tc (y:=b9 c.k c.n c.n) (fun _ _=>rfl) n1.symm (Nat.le_refl _) (Nat.le_refl _) hu) (aJ rfl rfl (by exact hv rfl rfl) (aJ rfl rfl (aE rfl rfl) (aJ rfl rfl (aE rfl rfl) trivial)))⟩
 ·subst hi
  obtain⟨M,hM⟩:∃M,M=c.n+bE c.k c.n c.n-(c.p.toNat+1)-1:=⟨_,rfl⟩
  have eM:((c.n+bE c.k c.n c.n:Nat):Int)-((c.p.toNat+1:Nat):Int)-1=(M:Nat):=by omega
  obtain⟨f,hf⟩:∃f:Rat,f=((1:Int):Rat)/(((c.p.toNat+1:Nat):Int):Rat):=⟨_,rfl⟩
  obtain⟨G,hG⟩:∃G:Nat→Pl,G=o9 c f (c.n+bE c.k c.n c.n) (c.p.toNat+1) (b9 c.k c.n c.n):=⟨_,rfl⟩
  refine aq.yY hT rU hm (x:=uZ) [1,0,1] (i:=2) (y:=pz) (z:=part uZ [1,1]) (by kernel_rfl) (by kernel_rfl) (by kernel_rfl) (by kernel_rfl) hk (f1:=[]) 60 jS 6
   (fun j:Nat=>pK M j) (fun j=>gI c ((c.p.toNat+1:Nat):Int) (c.n+bE c.k c.n c.n) (b9 c.k c.n c.n) f j G) (fun j=>j≤M) (fun j=>j=M) (fun j=>M-j) (fun _=>False) ⟨_,Zo,?_⟩ (fun j hj=>?_) (fun j hj=>?_) (fun _ _ h=>h.elim)
  ·simp only[aa.all,ax,eM,←hf]
   refine⟨⟨by omega,by omega,by omega,by omega,by omega,by omega⟩,⟨by omega,by omega,cM (by decide),by omega,by omega,by omega⟩,0,Nat.zero_le _,[(0,0),(1,1),(2,2),(3,3),(4,24580)],rfl,rfl,rfl,mw rfl (by omega) (by omega) (aJ rfl rfl (aE rfl rfl) (bh rfl rfl rfl (fun _ _=>aE rfl rfl) (aJ rfl rfl (jd ⟨⟨rfl,aI rfl⟩,⟨rfl,cw rfl rfl rfl⟩,⟨rfl,mo (by omega)⟩,trivial⟩) (aJ rfl rfl (aE rfl rfl) (aJ rfl rfl (aE rfl rfl) trivial)))))⟩
  ·have hv2:∀{rl:List (Nat×Nat)} {y y':Nat},aT rl 3=some 3→aT rl 5=some 5→y=y'→fD rl (.agg [.int .i64 ((c.p.toNat+1:Nat):Int),.own 3 3 0 (c.n+bE c.k c.n c.n),.own 5 12 0 y]) (.agg [.int .i64 ((c.p.toNat+1:Nat):Int),.own 3 3 0 (c.n+bE c.k c.n c.n),.own 5 12 0 y']):=fun h0 h e=>jd ⟨⟨rfl,aI rfl⟩,⟨rfl,cw h0 rfl rfl⟩,⟨rfl,cw h rfl e⟩,trivial⟩
   have re:∀{V:List AV} {y:Nat},V.all (jY [(0,0),(1,1),(2,2),(3,3),(4,4),(5,5)])=true→V=V.map (kD [(0,0),(1,1),(2,2),(3,3),(4,4),(5,5)])→dU [] (V,[(5,⟨true,true,12,y,fun i=>cL (G i) cK⟩),(3,⟨true,false,3,c.n+bE c.k c.n c.n,fun i=>.rat (b9 c.k c.n c.n i) 2000⟩),(4,tP f 64),(2,⟨false,true,3,1,fun _=>.agg [.int .i64 ((c.p.toNat+1:Nat):Int),.own 3 3 0 (c.n+bE c.k c.n c.n),.own 5 12 0 y]⟩),(1,Ez),(0,Ik c)]) V (gI c ((c.p.toNat+1:Nat):Int) (c.n+bE c.k c.n c.n) (b9 c.k c.n c.n) f y G) 6:=fun {V y} h1 h2=>
    ⟨[(0,0),(1,1),(2,2),(3,3),(4,4),(5,5)],rfl,h2,h1,bh rfl rfl rfl (fun _ _=>aE rfl rfl) (aJ rfl rfl (aE rfl rfl) (bh rfl rfl rfl (fun _ _=>aE rfl rfl) (aJ rfl rfl (hv2 rfl rfl rfl) (aJ rfl rfl (aE rfl rfl) (aJ rfl rfl (aE rfl rfl) trivial)))))⟩
   refine aq.qi hT rU hm (y:=pz) (x1:=pG) (zb:=part pz [1,1,1]) [1,1,0] (j:=3) (by kernel_rfl) (by kernel_rfl) (by kernel_rfl) (by kernel_rfl) hk (f1:=[70]) 60 jS 6 (fun _:Unit=>pK M j) (fun _=>gI c ((c.p.toNat+1:Nat):Int) (c.n+bE c.k c.n c.n) (b9 c.k c.n c.n) f j G) (fun _=>j<M) ⟨_,Ta,?_⟩ (fun _ hj'=>?_)
   ·simp only[aa.all,ax,decide_eq_true_eq,decide_eq_false_iff_not]
    exact⟨fun h1=>⟨(),by omega,re rfl rfl⟩,fun h1 s' hs'=>⟨rfl,j,by omega,(re rfl rfl).le hs' hk⟩⟩
   have hj':j<M:=hj'
   refine ahQ hk hc hp1 hp6 (by omega) (by omega) (by omega) (by omega) (by omega) (by rw[hG]) fun s' hle=>?_
   refine aq.kg hle (aq.bf hT rU hm 60 jS afa (by kernel_rfl) ?_)
   simp only[aa.all,ax]
   exact⟨by omega,fun s'' hs''=>⟨j+1,by omega,by dsimp only;omega,dU.le (re rfl rfl) hs'' hk⟩⟩
  ·subst hj
   refine aq.mD ((aD.fin hT rU hm 60 Zj (by kernel_rfl) ?_).mono fun _ _ h=>.inl h)
   simp only[aa.all,ax]
   refine⟨⟨by omega,by omega⟩,by omega,dn ⟨bw hq.symm,mN fun i _=>.refl _,p5 hM fun i _=>?_,trivial⟩⟩
   rw[hG,hf,←hq];rfl
def Py:Spec:=cQ (kC (qZ 2000 4000) kN) (fun a=>eB (jC a.1) 2000 cK) fun a=>[Kn a.1.n a.1.p.toNat a.1.k,1≤a.1.p,a.1.p≤6,a.1.n<2^18,a.1.m<2^18]
theorem ahr:∀K args pre q,Py K args pre=some q→aB P zx K args pre q:=cU fun⟨c,_⟩ K hn=>ajE hn.1 hn.2.1 hn.2.2.1 hn.2.2.2.1 hn.2.2.2.2 K
end Go.Am.B

/- curve.Split. -/
namespace Go.Am.B
open Go Go.Am.N AV aa aj IntKind
def uc (c:Cu) (a b:Rat):Rat:=if a=c.k 0 then b else a
def IL (c:Cu) (a b:Rat):Nat:=c.n+(c.p.toNat-bT c.k (uc c a b) c.n)
def O8 (c:Cu) (a b:Rat):Nat→Rat:=l7 c.k c.n (uc c a b) (c.p.toNat-bT c.k (uc c a b) c.n)
def IP (c:Cu) (a b:Rat):Nat:=Ce (gtG a (O8 c a b)) (IL c a b)
def MZ (c:Cu) (a b:Rat):Nat:=Ce (geG b (O8 c a b)) (IL c a b)
structure CutOK (c:Cu) (a b:Rat):Prop where
 kn:Kn c.n c.p.toNat c.k
 p1:1≤c.p
 p6:c.p≤6
 n:c.n<2^27
 m:c.m<2^28
 kd:∀i,g9 (c.k i)
 td:g9 (uc c a b)
 t0:c.k 0<uc c a b
 t1:uc c a b<c.k (c.n-1)
 ab:a=c.k 0∨b=c.k (c.n-1)
 f1:c.p.toNat+1≤IP c a b
 f2:IP c a b≤MZ c a b
 f3:MZ c a b+c.p.toNat+1≤IL c a b
abbrev iT (c:Cu):Cu:=⟨c.p,c.n,c.k,c.m,fun i=>cF (c.f i)⟩
abbrev qT (c:Cu):Cu:=⟨c.p,c.n,c.k,c.m,fun i=>eo (c.f i)⟩
end Go.Am.B

/- curve.Elevate. -/
namespace Go.Am.B
open Go Go.Am.N AV aa aj IntKind
theorem ajs:aO P BS yF (au yF):=aQ Up (by kernel_rfl) (by kernel_rfl) (by kernel_rfl)
abbrev F7 (c:Cu) (i:Nat):List AV:=[.ptr 0 0 3 0 [],.ptr 1 0 3 0 [],oy c.f c.m cK,.int .i64 c.m,.int .i64 i]
abbrev GV (c:Cu) (i:Nat):aC:=[(2,⟨true,true,12,i,fun j=>bu (eo (c.f j)) (cK+cK)⟩),(1,⟨false,true,3,1,fun _=>.agg [.int .i64 c.p,bt c.k c.n (sK+10),.own 2 12 0 i]⟩),(0,⟨false,true,3,1,fun _=>.agg [.int .i64 0,.nil,.nil]⟩)]
def P4:Spec:=cQ (kC (Fb cK) kN) (fun a=>bu (eo a.1) (cK+cK)) fun _=>[]
def BA:aR:=nG::(rz,Bs sK (sK+10))::(nY,P4)::[]
def Rh:Spec:=cQ (kC (qZ sK cK) kN) (fun a=>cI ⟨a.1.p,a.1.n,a.1.k,a.1.m,fun i=>eo (a.1.f i)⟩ (sK+10) (cK+cK)) fun a=>[a.1.n<2^40,a.1.m<2^29]
noncomputable def Jm:aR:=nG::(vf,Bv)::(AE,HH)::(ot,II)::(zx,Py)::(pe,Rh)::[]
def l9 (c:Cu):Int:=if 6≤c.p then 7 else 0
def ep (c:Cu):Cu:=if 6≤c.p then qP else qT (jC (iT c))
theorem aaM {c:Cu}:aH T BA [] 60 mR (before mY [1,1,0,1]) ⟨aN 0 [eB c sK cK],[],0⟩=
  let c3:Nat:=sK+10;let c2:Prop:=0<1;let c1:AV:=agg [int i64 (0:Int),nil,nil];some (ag [c2,c2,bG (fun i↦rat (c.k i) sK) c.n sK,c3≤c3,c3<2^40,c.n<2^40,c2] (ag [c2] (leaf normal ([ptr 4096 0 3 0 [],ptr 32768 0 3 0 [],ak 12 c.m fun i↦agg [rat (c.f i).n.x 8589934592,rat (c.f i).n.y 8589934592,rat (c.f i).n.z 8589934592,rat (c.f i).d 8589934592],int i64 (↑c.m:Int),int i64 (0:Int)],[((32768:Nat),ah.mk false true 3 1 fun j↦if(j==0)=true then bn (agg ((c1.kids.set 0 (bn (int i64 c.p))).set 1 (bn (bt (fun i↦aS (rat (c.k i) sK)) c.n c3))))else c1),((4096:Nat),ah.mk false true 3 1 fun x↦c1)])))):=by kernel_rfl
theorem TN {c:Cu} {i:Nat}:aH T BA [16] 60 mR [part mY [1,1,0,1,0,0]] ⟨aA mR (F7 c i),GV c i,3⟩=
  let c12:Nat:=cK+cK;let c11:Int:=(↑c.m:Int);let c10:AV:=own 2 12 0 i;let c9:AV:=ptr 1 0 3 0 [];let c8:AV:=ptr 0 0 3 0 [];let c7:Prop:=0<1;let c6:Int:=(↑i:Int);let c5:AV:=rat 0 1;let c4:Nat×ah:=((0:Nat),ah.mk false true 3 1 fun x↦agg [int i64 (0:Int),nil,nil]);let c1:AV:=ak 12 c.m fun i↦agg [rat (c.f i).n.x 8589934592,rat (c.f i).n.y 8589934592,rat (c.f i).n.z 8589934592,rat (c.f i).d 8589934592];let c13:Int:=c6+(1:Int);let c3:AV:=agg [int i64 c.p,bt c.k c.n (sK+10),c10];let c2:Pl:=c.f c6.toNat;some (fork (decide (c6<c11)) (ag [(0:Int)≤c6∧c6.toNat<c.m,c7] (ag [c7,c7,cK≤cK,cK≤cK,cK≤cK,cK≤cK,(1:Nat)*12≤2^24,(i+1)*((224:Nat)+1)*2≤2^47,c7] (ag [-(2:Int)^63≤c13∧c13<(2:Int)^63] (leaf normal ([c8,c9,c1,int i64 c11,int i64 c13],[((40963:Nat),ah.mk true true 12 (i+1) fun i_1↦if i_1<i then bu (eo (c.f i_1)) c12 else nth [agg [agg [rat (c2.n.x/c2.d) c12,rat (c2.n.y/c2.d) c12,rat (c2.n.z/c2.d) c12],rat c2.d c12]] (agg [agg [c5,c5,c5],c5]) (i_1-i+0)),((1:Nat),ah.mk false true 3 1 fun j↦if(j==0)=true then agg (c3.kids.set 2 (bn (own (nat_lit 40962+1) 12 0 (i+1))))else c3),c4]))))) (leaf (exit 0) ([c8,c9,c1,int i64 c11,int i64 c6],[((2:Nat),ah.mk true true 12 i fun j↦agg [agg [rat ((c.f j).n.x/(c.f j).d) 17179869184,rat ((c.f j).n.y/(c.f j).d) 17179869184,rat ((c.f j).n.z/(c.f j).d) 17179869184],rat (c.f j).d 17179869184]),((1:Nat),ah.mk false true 3 1 fun x↦agg [int i64 c.p,ak 3 c.n fun i↦rat (c.k i) 4106,c10]),c4]))):=by kernel_rfl
theorem Uc {c:Cu} {i:Nat}:cm T BA [] 60 uH [part mY [1,1,1]] ⟨aA mR (F7 c i),GV c i,3⟩=
  let c1:Prop:=0<1;some (ag [c1,c1] (ag [c1] (leaf ret [agg [int i64 c.p,ak 3 c.n fun i↦rat (c.k i) 4106,ak 12 i fun i↦agg [agg [rat ((c.f (i+0)).n.x/(c.f (i+0)).d) 17179869184,rat ((c.f (i+0)).n.y/(c.f (i+0)).d) 17179869184,rat ((c.f (i+0)).n.z/(c.f (i+0)).d) 17179869184],rat (c.f (i+0)).d 17179869184]]]))):=by kernel_rfl
theorem aat {c:Cu}:bF T Jm [8,4,14] 60 yF (au yF) ⟨aN 0 [cI c 2000 2000],[],0⟩=
  let o:Prop:=0<1;let b:Bool:=decide (c.p≥(6:Int));let e:Int:=(c.m:Int)+(bX c.k c.n:Nat);let no:Int→aa (List AV):=fun e=>ag [o] (ag [o] (leaf .ret [.agg [.int .i64 0,.nil,.nil],.int .i64 e]));let E:Cu:=jC (iT c);let k:Prop:=bG (fun i=>.rat (c.k i) 2000) c.n 2000
  let r:aa (List AV):=ag [o,o,bG (fun i=>.rat (c.k i) 2000) c.n sJ,c.n<2^40,-(2:Int)^63≤e∧e<(2:Int)^63,-(2:Int)^63≤e-1∧e-1<(2:Int)^63] (fork (decide (e-1>(40:Int))) (no 2) (ag [o,k,eI (fun i=>bu (c.f i) 2000) c.m 2000,c.n<2^40,c.m<2^30,k,lI (fun i=>cL (cF (c.f i)) 4000) c.m 4000,Kn c.n c.p.toNat c.k,1≤c.p,c.p≤6,c.n<2^18,c.m<2^18,bG (fun i=>.rat (E.k i) 2000) E.n sK,lI (fun i=>cL (E.f i) cK) E.m cK,E.n<2^40,E.m<2^29,o]
   (ag [o] (leaf .ret [cI (qT E) (sK+10) (cK+cK),.int .i64 0]))))
  some (fork b (ag [o,b=true] (fork true (no 7) r)) (ag [o,b=false,o,bG (fun i=>.rat (c.k i) 2000) c.n sJ,eI (fun i=>bu (c.f i) 2000) c.m sJ,dy c] (fork false (no 7) r))):=by kernel_rfl
theorem Xx:∀K args pre r,P4 K args pre=some r→aB P nY K args pre r:=cU fun⟨h,_⟩ K _=>EH (by decide) (by decide) (by decide) K
theorem agM:aY P BA:=dr (aG (HM _ _) (aG Xx bk))
theorem X0 {c:Cu} (hn:c.n<2^40) (hm2:c.m<2^29) (K:Nat):aB P pe K [eB c sK cK] [] (aK (cI (qT c) (sK+10) (cK+cK)) []):=by
 refine gO (r:=aK (cI (qT c) (sK+10) (cK+cK)) []) hT agM hm Kh rfl (of_decide_eq_true (by kernel_rfl)) rfl [1,1,0,1] (i:=0) (y:=part mY [1,1,0,1,0,0]) (z:=part mY [1,1,1]) (by kernel_rfl) (by kernel_rfl) (by kernel_rfl) (f1:=[]) (f2:=[16]) (f3:=[]) 60 mR 3
  (fun i:Nat=>F7 c i) (fun i=>GV c i) (fun i=>i≤c.m) (fun i=>i=c.m) (fun i=>c.m-i) (fun _=>⟨⟨_,aaM,?_⟩,fun i hi=>⟨_,TN,?_⟩,fun i hi=>⟨_,Uc,?_⟩⟩) K []
 ·simp only[aa.all,ax]
  exact⟨⟨by omega,by omega,cM (Nat.le_refl _),by omega,by decide,by omega,by omega⟩,by omega,0,Nat.zero_le _,[(0,4096),(1,32768)],rfl,rfl,rfl,mw rfl (by omega) (by omega) (aJ rfl rfl (jd ⟨⟨rfl,aI rfl⟩,⟨rfl,aI rfl⟩,⟨rfl,mo (by omega)⟩,trivial⟩) (aJ rfl rfl (aE rfl rfl) trivial))⟩
 ·simp only[aa.all,ax,decide_eq_true_eq,decide_eq_false_iff_not,Int.toNat_natCast,Nat.add_zero]
  refine⟨fun h=>?_,fun h=>⟨rfl,i,by omega,[(0,0),(1,1),(2,2)],rfl,rfl,rfl,bh rfl rfl rfl (fun _ _=>aE rfl rfl) (aJ rfl rfl (oP rfl rfl rfl) (aJ rfl rfl (aE rfl rfl) trivial))⟩⟩
  (repeat' with_reducible refine And.intro ?_ ?_)
  all_goals first|omega|exact Nat.le_refl _|skip
  exact⟨i+1,by omega,by dsimp only;omega,[(0,0),(1,1),(2,40963)],rfl,rfl,rfl,bh rfl rfl rfl (fun j hj=>Av (g:=fun j=>bu (eo (c.f j)) (cK+cK)) (fun _ _=>⟨rfl,rfl⟩) rfl (.refl _) hj) (aJ rfl rfl (oP rfl rfl rfl) (aJ rfl rfl (aE rfl rfl) trivial))⟩
 ·subst hi
  simp only[aa.all,ax]
  exact⟨⟨by omega,by omega⟩,by omega,.refl _⟩
theorem Ti:∀K args pre r,Rh K args pre=some r→aB P pe K args pre r:=cU fun⟨c,_⟩ K hn=>X0 hn.1 hn.2 K
theorem ag2:aY P Jm:=dr (aG Fa (aG Ld (aG N3 (aG ahr (aG Ti bk)))))
def Qd:Spec:=cQ (kC (jF 2000 2000) kN) (fun a=>.tuple [cI (ep a.1) (sK+10) (cK+cK),.int .i64 (l9 a.1)]) fun a=>[dy a.1,a.1.n≤20]
theorem aeZ:∀K args pre q,Qd K args pre=some q→aB P BS K args pre q:=cU fun⟨c,_⟩ K hn=>by
 have hc:dy c:=hn.1
 have h20:c.n≤20:=hn.2
 obtain⟨k1,k2,k3,k4,k5⟩:=id hc
 have hl:=k1.len
 have hd:=rm (k:=c.k) (n:=c.n)
 have hg:=zf (k:=c.k) (n:=c.n) (i:=c.n)
 have eN:(jC (iT c)).n=c.n+bE c.k c.n c.n:=rfl
 have eM:(jC (iT c)).m=c.n+bE c.k c.n c.n-(c.p.toNat+1)-1:=rfl
 refine bJ (r:=aK (.tuple [cI (ep c) (sK+10) (cK+cK),.int .i64 (l9 c)]) []) hT ag2 hm ajs rfl (of_decide_eq_true (by kernel_rfl)) rfl 60 aat (fun _=>?_) K []
 simp only[aa.all,ax,decide_eq_true_eq,decide_eq_false_iff_not,eN,eM]
 refine⟨fun h=>⟨⟨by omega,h⟩,fun _=>⟨by omega,by omega,?_⟩,fun g=>absurd g (by decide)⟩,fun h=>⟨⟨by omega,h,by omega,cM (by decide),jO (by decide),hc⟩,fun g=>absurd g (by decide),fun _=>⟨⟨by omega,by omega,cM (by decide),by omega,by omega,by omega⟩,fun g=>absurd g (by omega),fun _=>⟨⟨by omega,cM (by decide),jO (by decide),by omega,by omega,cM (by decide),sS (by decide),k1,k2,k3,by omega,by omega,cM (by decide),sS (by decide),by omega,by omega,by omega⟩,by omega,?_⟩⟩⟩⟩
 ·rw[show ep c=qP from if_pos h,show l9 c=7 from if_pos h]
  exact⟨HG,.refl _,trivial⟩
 ·rw[show ep c=qT (jC (iT c))from if_neg h,show l9 c=0 from if_neg h]
  exact⟨.refl _,.refl _,trivial⟩
end Go.Am.B

/- Polar forms of arguments without gaps are positive; elevated coefficients; sums (plain). -/
namespace Go.Am.B
theorem Zq {x y f:Rat} (hx:0<x) (hy:0<y) (h0:0≤f) (h1:f≤1):0<x+f*(y-x):=by
 by_cases c:x≤y
 ·have:=Rat.mul_nonneg h0 (show 0≤y-x by grind)
  grind
 ·have:=Rat.mul_nonneg (show 0≤1-f by grind) (show 0≤x-y by grind)
  grind
theorem Is {n p P:Nat} {k x:Nat→Rat} (hA:At n k P) (w1:p≤P) (w2:P+p+1<n) (hx:∀j,0<x j):∀{E:List Rat} {a c:Nat},E.length+(a+c)=p→(∀d∈E,k (P-a)≤d∧d≤k (P+c+1))→0<fj k p x P (E++bz k (P+1-a) (a+c))
 |[],a,c,hl,_=>by
  have hl:a+c=p:=by simpa using hl
  have:fj k p x P (bz k (P-a+1) p)=x (P-a):=vu hA w1 (by omega) (by omega) (by omega)
  rw[List.nil_append,hl,show P+1-a=P-a+1 by omega,this]
  exact hx _
 |d::E,a,c,hl,hb=>by
  have hl:E.length+1+(a+c)=p:=by simpa using hl
  have hA':At n k (P-p+p):=by rwa [show P-p+p=P by omega]
  obtain⟨b1,b2⟩:=hb d (List.mem_cons_self ..)
  have hlt:k (P-a)<k (P+c+1):=hA.around (by omega) (by omega) (by omega)
  have m1:k (P-(a+1))≤k (P-a):=eL hA.sorted (by omega) (by omega)
  have m2:k (P+c+1)≤k (P+(c+1)+1):=eL hA.sorted (by omega) (by omega)
  have i1:=Is hA w1 w2 hx (E:=E) (a:=a+1) (c:=c) (by omega) fun e he=>⟨Rat.le_trans m1 (hb e (List.mem_cons_of_mem _ he)).1,(hb e (List.mem_cons_of_mem _ he)).2⟩
  have i2:=Is hA w1 w2 hx (E:=E) (a:=a) (c:=c+1) (by omega) fun e he=>⟨(hb e (List.mem_cons_of_mem _ he)).1,Rat.le_trans (hb e (List.mem_cons_of_mem _ he)).2 m2⟩
  have hlen:(E++bz k (P+1-a) (a+c)).length+1=p:=by rw[List.length_append,jG];omega
  have p1:(k (P-a)::(E++bz k (P+1-a) (a+c))).Perm (E++bz k (P+1-(a+1)) (a+1+c)):=by
   rw[show P+1-(a+1)=P-a by omega,show a+1+c=a+c+1 by omega,show bz k (P-a) (a+c+1)=k (P-a)::bz k (P-a+1) (a+c)from rfl,show P-a+1=P+1-a by omega]
   exact List.perm_middle.symm
  have p2:(k (P+c+1)::(E++bz k (P+1-a) (a+c))).Perm (E++bz k (P+1-a) (a+(c+1))):=by
   rw[show a+(c+1)=a+c+1 by omega,tU,show P+1-a+(a+c)=P+c+1 by omega,←List.append_assoc]
   exact List.perm_append_comm (l₁:=[k (P+c+1)])
  have q1:fj k p x P (k (P-a)::(E++bz k (P+1-a) (a+c)))=_:=pI hA' (by omega) p1 (by rw[List.length_cons];omega)
  have q2:fj k p x P (k (P+c+1)::(E++bz k (P+1-a) (a+c)))=_:=pI hA' (by omega) p2 (by rw[List.length_cons];omega)
  have key:=Eg (k:=k) (b:=P-p) (x:=fun q=>x (P-p+q)) (u:=k (P-a)) (v:=k (P+c+1)) (f:=fr (k (P-a)) (k (P+c+1)) d) hlen
  rw[BK hlt]at key
  show 0<fj k p x P (d::(E++bz k (P+1-a) (a+c)))
  have key:fj k p x P (d::(E++bz k (P+1-a) (a+c)))=fj k p x P (k (P-a)::(E++bz k (P+1-a) (a+c)))+fr (k (P-a)) (k (P+c+1)) d*(fj k p x P (k (P+c+1)::(E++bz k (P+1-a) (a+c)))-fj k p x P (k (P-a)::(E++bz k (P+1-a) (a+c)))):=key
  rw[key,q1,q2]
  exact Zq i1 i2 (HA hlt b1) (Hu hlt b2)
inductive jT (k:Nat→Rat) (P:Nat):List Rat→Nat→Prop
 |nil:jT k P [] 0
 |blk {l:List Rat} {c:Nat}:jT k P l c→jT k P (k (P+c+1)::l) (c+1)
 |dup {l:List Rat} {c:Nat} {d:Rat}:jT k P l c→k P≤d→d≤k (P+c+1)→jT k P (d::l) c
theorem jT.le {k:Nat→Rat} {P c:Nat} {l:List Rat} (h:jT k P l c):c≤l.length:=by
 induction h with
 |nil=>exact Nat.le_refl _
 |blk _ ih=>rw[List.length_cons];omega
 |dup _ _ _ ih=>rw[List.length_cons];omega
theorem jT.split {n P:Nat} {k:Nat→Rat} (hs:∀i,i+1<n→k i≤k (i+1)) {l:List Rat} {c:Nat} (h:jT k P l c):P+l.length+1<n→∃E:List Rat,l.Perm (E++bz k (P+1) c)∧∀d∈E,k P≤d∧d≤k (P+c+1):=by
 induction h with
 |nil=>exact fun _=>⟨[],.refl _,fun d hd=>by simp at hd⟩
 |@blk l c hl ih=>
  intro hn
  rw[List.length_cons]at hn
  have:=hl.le
  obtain⟨E,h1,h2⟩:=ih (by omega)
  refine⟨E,?_,fun d hd=>⟨(h2 d hd).1,Rat.le_trans (h2 d hd).2 (eL hs (by omega) (by omega))⟩⟩
  rw[tU,show P+1+c=P+c+1 by omega,←List.append_assoc]
  exact(h1.cons _).trans (List.perm_append_comm (l₁:=[k (P+c+1)]))
 |@dup l c d hl d1 d2 ih=>
  intro hn
  rw[List.length_cons]at hn
  obtain⟨E,h1,h2⟩:=ih (by omega)
  refine⟨d::E,h1.cons _,fun e he=>?_⟩
  rcases List.mem_cons.1 he with rfl|he
  ·exact⟨d1,d2⟩
  ·exact h2 e he
theorem jT.pos {n p P c:Nat} {k x:Nat→Rat} {l:List Rat} (hA:At n k P) (w1:p≤P) (w2:P+p+1<n) (hx:∀j,0<x j) (h:jT k P l c) (hl:l.length=p):0<fj k p x P l:=by
 obtain⟨E,h1,h2⟩:=h.split hA.sorted (by omega)
 have hA':At n k (P-p+p):=by rwa [show P-p+p=P by omega]
 have e:fj k p x P l=fj k p x P (E++bz k (P+1) c):=pI hA' (by omega) h1 (by omega)
 have hlen:=h1.length_eq
 rw[List.length_append,jG]at hlen
 have:=Is hA w1 w2 hx (E:=E) (a:=0) (c:=c) (by omega) h2
 rw[e]
 rwa [Nat.zero_add]at this
def Src (k:Nat→Rat) (n Q i:Nat):Prop:=i<n∧i+bE k n i≤Q∧Q<i+1+bE k n (i+1)
theorem Src.val {k:Nat→Rat} {n Q i:Nat} (h:Src k n Q i):b9 k n n Q=k i:=pO h.1 h.2.1 h.2.2
theorem Src.next {k:Nat→Rat} {n Q i:Nat} (h:Src k n Q i) (hQ:Q+1<n+bE k n n):Src k n (Q+1) i∨(Src k n (Q+1) (i+1)∧Q+1=i+1+bE k n (i+1)):=by
 obtain⟨h1,h2,h3⟩:=h
 by_cases c:Q+1<i+1+bE k n (i+1)
 ·exact .inl ⟨h1,by omega,c⟩
 ·have hlt:i+1<n:=by
   by_cases e:i+1<n
   ·exact e
   ·have:i+1=n:=by omega
    rw[this]at c
    omega
  have:=(oE (k:=k) (n:=n) (i:=i+1)).1
  exact .inr ⟨⟨hlt,by omega,by omega⟩,by omega⟩
theorem Src.last {k:Nat→Rat} {n Q i:Nat} (h:Src k n Q i) (hQ:Q+2<n+bE k n n) (hw:b9 k n n (Q+1)≠b9 k n n (Q+2)):Src k n (Q+1) i:=by
 rcases h.next (by omega)with h|⟨h,e⟩
 ·exact h
 ·exfalso
  have hv:=h.val
  obtain⟨h1,h2,h3⟩:=id h
  by_cases c:i+1+1=n∨k (i+1)≠k (i+1+1)
  ·have:=zH (k:=k) c
   exact hw (by rw[hv];exact(pO (k:=k) h1 (by omega) (by omega)).symm)
  ·have hg:=tF (k:=k) c
   have h4:k (i+1)=k (i+1+1):=Classical.not_not.1 fun g=>c (.inr g)
   have:=(oE (k:=k) (n:=n) (i:=i+1+1)).1
   exact hw (by rw[hv,h4];exact(pO (k:=k) (i:=i+1+1) (by omega) (by omega) (by omega)).symm)
def ja (f:Nat→Rat) (j i r:Nat):Rat:=if r<i then f (j+1+r)else f (j+2+r)
theorem ae6 {f:Nat→Rat} {j i:Nat} (h:f (j+1+i)=f (j+2+i)):ja f j i=ja f j (i+1):=by
 funext r
 unfold ja
 by_cases c:r<i
 ·rw[if_pos c,if_pos (by omega)]
 ·by_cases c2:r=i
  ·subst c2;rw[if_neg (by omega),if_pos (by omega),h]
  ·rw[if_neg c,if_neg (by omega)]
theorem Hg {n p P j s i:Nat} {k:Nat→Rat} (hA:At n k P) (w2:P+p+1<n) (hP:Src k n s P) (hjs:j≤s) (hj:j+p+2<n+bE k n n) (hflat:∀u,j≤u→u≤s→b9 k n n u=b9 k n n s) (hlast:i=p∨(i<p∧b9 k n n (j+1+i)≠b9 k n n (j+2+i))):
  ∀{t:Nat},t≤p+1→(i=p→t≤p)→∃c,jT k P (jR (ja (b9 k n n) j i) 0 (if t≤i then t else t-1)) c∧(j+t≤s→c=0)∧(s≤j+t→Src k n (j+t) (P+c))
 |0,_,_=>⟨0,by rw[if_pos (Nat.zero_le _)];exact .nil,fun _=>rfl,fun h=>by rwa [show j+0=s by omega]⟩
 |t+1,ht,hti=>by
  obtain⟨c,c1,c2,c3⟩:=Hg hA w2 hP hjs hj hflat hlast (t:=t) (by omega) fun h=>by have:=hti h;omega
  have hs:=hA.sorted
  by_cases hd:t=i
  ·subst hd
   rw[if_pos (Nat.le_refl _)]at c1
   refine⟨c,by rw[if_neg (by omega)];exact c1,fun h=>c2 (by omega),fun h=>?_⟩
   by_cases h2:j+(t+1)≤s
   ·rw[show j+(t+1)=s by omega,c2 (by omega)];exact hP
   ·rcases hlast with h3|⟨h3,h4⟩
    ·have:=hti h3;omega
    ·have:=(c3 (by omega)).last (by omega) (by rw[show j+t+1=j+1+t by omega,show j+t+2=j+2+t by omega];exact h4)
     rwa [show j+(t+1)=j+t+1 by omega]
  ·have hcl:=c1.le
   have hl:(jR (ja (b9 k n n) j i) 0 (if t≤i then t else t-1)).length≤p:=by
    rw[vi.length_eq,jG]
    split<;>omega
   have e:jR (ja (b9 k n n) j i) 0 (if t+1≤i then t+1 else t+1-1)=b9 k n n (j+t+1)::jR (ja (b9 k n n) j i) 0 (if t≤i then t else t-1):=by
    by_cases h:t<i
    ·rw[if_pos (by omega),if_pos (by omega),jR]
     congr 1
     unfold ja
     rw[if_pos (by omega)]
     congr 1;omega
    ·obtain⟨u,rfl⟩:∃u,t=u+1:=⟨t-1,by omega⟩
     rw[if_neg (by omega),if_neg (by omega),show u+1+1-1=u+1 by omega,show u+1-1=u by omega,jR]
     congr 1
     unfold ja
     rw[if_neg (by omega)]
     congr 1;omega
   rw[e]
   by_cases h2:j+(t+1)≤s
   ·have hv:b9 k n n (j+t+1)=k P:=by rw[hflat (j+t+1) (by omega) (by omega)];exact hP.val
    rw[hv]
    have h0:=c2 (by omega)
    refine⟨c,.dup c1 Rat.le_refl (eL hs (by omega) (by omega)),fun _=>h0,fun h=>?_⟩
    rw[show j+(t+1)=s by omega,h0];exact hP
   ·rcases(c3 (by omega)).next (by omega)with h|⟨h,_⟩
    ·rw[h.val]
     exact⟨c,.dup c1 (eL hs (by omega) (by omega)) (eL hs (by omega) (by omega)),fun h=>by omega,fun _=>h⟩
    ·rw[h.val]
     exact⟨c+1,.blk c1,fun h=>by omega,fun _=>h⟩
theorem Mz {n p P j s i:Nat} {k x:Nat→Rat} (hA:At n k P) (w1:p≤P) (w2:P+p+1<n) (hx:∀j,0<x j) (hP:Src k n s P) (hjs:j≤s) (hj:j+p+2<n+bE k n n) (hflat:∀u,j≤u→u≤s→b9 k n n u=b9 k n n s) (hlast:i=p∨(i<p∧b9 k n n (j+1+i)≠b9 k n n (j+2+i))):0<fj k p x P (bz (ja (b9 k n n) j i) 0 p):=by
 have hA':At n k (P-p+p):=by rwa [show P-p+p=P by omega]
 have go:∀{l:List Rat} {c:Nat},jT k P l c→l.Perm (bz (ja (b9 k n n) j i) 0 p)→0<fj k p x P (bz (ja (b9 k n n) j i) 0 p):=fun {l c} h hp=>by
  have hl:=hp.length_eq
  rw[jG]at hl
  have e:fj k p x P l=fj k p x P (bz (ja (b9 k n n) j i) 0 p):=pI hA' (by omega) hp (by omega)
  rw[←e]
  exact h.pos hA w1 w2 hx hl
 by_cases e:i=p
 ·obtain⟨c,c1,_⟩:=Hg hA w2 hP hjs hj hflat hlast (t:=p) (by omega) fun _=>Nat.le_refl _
  rw[if_pos (by omega)]at c1
  exact go c1 vi
 ·obtain⟨c,c1,_⟩:=Hg hA w2 hP hjs hj hflat hlast (t:=p+1) (by omega) fun h=>absurd h e
  rw[if_neg (by omega),Nat.add_sub_cancel]at c1
  exact go c1 vi
theorem I7 {n p P j s:Nat} {k x:Nat→Rat} (hA:At n k P) (w1:p≤P) (w2:P+p+1<n) (hx:∀j,0<x j) (hP:Src k n s P) (hjs:j≤s) (hj:j+p+2<n+bE k n n) (hflat:∀u,j≤u→u≤s→b9 k n n u=b9 k n n s):∀{d i:Nat},i+d=p→0<fj k p x P (bz (ja (b9 k n n) j i) 0 p)
 |0,i,hi=>Mz hA w1 w2 hx hP hjs hj hflat (.inl (by omega))
 |d+1,i,hi=>by
  by_cases c:b9 k n n (j+1+i)=b9 k n n (j+2+i)
  ·rw[ae6 c];exact I7 hA w1 w2 hx hP hjs hj hflat (d:=d) (by omega)
  ·exact Mz hA w1 w2 hx hP hjs hj hflat (.inr ⟨by omega,c⟩)
section
variable {k:Nat→Rat} {b p:Nat}
theorem D3:∀{l:List Rat} {r:Nat} {x y:Nat→Rat} {j:Nat},bl k b p r (fun j=>x j+y j) l j=bl k b p r x l j+bl k b p r y l j
 |[],_,_,_,_=>rfl
 |t::l,r,x,y,j=>by
  rw[bl,bl,bl,←D3 (l:=l)]
  congr 1
  funext j
  unfold gi
  split<;>grind
theorem yz {a:Rat}:∀{l:List Rat} {r:Nat} {x:Nat→Rat} {j:Nat},bl k b p r (fun j=>a*x j) l j=a*bl k b p r x l j
 |[],_,_,_=>rfl
 |t::l,r,x,j=>by
  rw[bl,bl,←yz (l:=l)]
  congr 1
  funext j
  unfold gi
  split<;>grind
end
end Go.Am.B

/- Moved curves: points, insertions, elevations (what the program computes). -/
namespace Go.Am.B
open Go Go.Am.N AV aa aj IntKind
def iw (r:V3) (t:Rat) (g:Nat→Rat):Rat:=r.x*g 0+r.y*g 1+r.z*g 2+t*g 3
def jb (m:Mp) (h:Pl):Pl:=⟨⟨iw m.m.a m.t.x (fz h),iw m.m.b m.t.y (fz h),iw m.m.c m.t.z (fz h)⟩,h.d⟩
def ug (m:Mp) (c:Cu):Cu:=⟨c.p,c.n,c.k,c.m,fun i=>jb m (c.f i)⟩
theorem pB {r:V3} {t:Rat} {h:Pl}:iw r t (fz h)=r.x*h.n.x+r.y*h.n.y+r.z*h.n.z+t*h.d:=rfl
theorem tR {r:V3} {t:Rat}:iw r t (fz ⟨⟨0,0,0⟩,0⟩)=0:=by rw[pB];grind
theorem pA {a b c d x y z w:Rat} (h1:a=x) (h2:b=y) (h3:c=z) (h4:d=w):(⟨⟨a,b,c⟩,d⟩:Pl)=⟨⟨x,y,z⟩,w⟩:=by rw[h1,h2,h3,h4]
theorem uC {r v:V3} {t d:Rat}:d*ig r v t=r.x*(d*v.x)+r.y*(d*v.y)+r.z*(d*v.z)+t*d:=by unfold ig;grind
theorem L6 {m:Mp} {p:Pl}:cF (gy m p)=jb m (cF p):=pA uC uC uC rfl
theorem FW {r v:V3} {t d:Rat} (hd:d≠0):(r.x*v.x+r.y*v.y+r.z*v.z+t*d)/d=ig r ⟨v.x/d,v.y/d,v.z/d⟩ t:=by
 unfold ig
 simp only[Rat.div_def]
 have:=Rat.mul_inv_cancel d hd
 generalize d⁻¹=q at*
 grind
theorem J4 {m:Mp} {h:Pl} (hd:h.d≠0):eo (jb m h)=gy m (eo h):=pA (FW hd) (FW hd) (FW hd) rfl
theorem H6 {r v:V3} {t d:Rat} (hd:d≠0):((1:Int):Rat)/d*(r.x*v.x+r.y*v.y+r.z*v.z+t*d)=ig r ⟨((1:Int):Rat)/d*v.x,((1:Int):Rat)/d*v.y,((1:Int):Rat)/d*v.z⟩ t:=by
 unfold ig
 have h1:((1:Int):Rat)/d*d=1:=Rat.div_mul_cancel hd
 generalize ((1:Int):Rat)/d=q at*
 grind
theorem aa2 {a b c x y z:Rat} (h1:a=x) (h2:b=y) (h3:c=z):(⟨a,b,c⟩:V3)=⟨x,y,z⟩:=by rw[h1,h2,h3]
theorem ag4 {m:Mp} {h:Pl} (hd:h.d≠0):tu (jb m h)=ta m (tu h):=aa2 (H6 hd) (H6 hd) (H6 hd)
theorem adH {m:Mp} {c:Cu}:iT (dg m c)=ug m (iT c):=by
 show(⟨c.p,c.n,c.k,c.m,fun i=>cF (gy m (c.f i))⟩:Cu)=⟨c.p,c.n,c.k,c.m,fun i=>jb m (cF (c.f i))⟩
 rw[show(fun i=>cF (gy m (c.f i)))=fun i=>jb m (cF (c.f i))from funext fun i=>L6]
theorem akU {k:Nat→Rat} {b p:Nat} {r:V3} {t:Rat} {l:List Rat} {q j:Nat} {x:Nat→Nat→Rat}:bl k b p q (fun j=>iw r t fun e=>x e j) l j=iw r t fun e=>bl k b p q (x e) l j:=by
 unfold iw
 rw[D3 (x:=fun j=>r.x*x 0 j+r.y*x 1 j+r.z*x 2 j),D3 (x:=fun j=>r.x*x 0 j+r.y*x 1 j),D3 (x:=fun j=>r.x*x 0 j),yz,yz,yz,yz]
theorem Il {n p m:Nat} {k:Nat→Rat} {r:V3} {t:Rat} {i:Int} {l:Nat} {a:Nat→Rat} {x:Nat→Nat→Rat}:jN n k p m (fun j=>iw r t fun e=>x e j) i l a=iw r t fun e=>jN n k p m (x e) i l a:=by
 unfold jN
 split
 ·simp only[Hv]
  exact akU (x:=fun e j=>x e (i.toNat-p+j))
 ·unfold iw;grind
theorem aky {m:Mp} {c:Cu} {i:Int} {l:Nat} {g:Nat→Rat}:l8 (ug m c) i l g=jb m (l8 c i l g):=
 pA (Il (x:=fun e j=>fz (c.f j) e)) (Il (x:=fun e j=>fz (c.f j) e)) (Il (x:=fun e j=>fz (c.f j) e)) rfl
theorem K9 {m:Mp} {f:Rat} {x:Nat→Pl}:∀{r:Nat},iP f (fun i=>jb m (x i)) r=jb m (iP f x r)
 |0=>pA tR.symm tR.symm tR.symm rfl
 |r+1=>by
  rw[iP,K9 (r:=r)]
  refine pA ?_ ?_ ?_ rfl
  all_goals
   simp only[jb,pB,iP]
   grind
theorem XQ {m:Mp} {c:Cu} {f:Rat} {N q:Nat} {F:Nat→Rat} {j:Nat}:o9 (ug m c) f N q F j=jb m (o9 c f N q F j):=by
 unfold o9
 rw[←K9]
 congr 1
 funext i
 exact aky
theorem RT {m:Mp} {c:Cu}:jC (ug m c)=ug m (jC c):=by
 show(⟨c.p+1,lH c,b9 c.k c.n c.n,lH c-(c.p.toNat+1)-1,fun j=>o9 (ug m c) (((1:Int):Rat)/((c.p+1:Int):Rat)) (lH c) (c.p.toNat+1) (b9 c.k c.n c.n) j⟩:Cu)=⟨c.p+1,lH c,b9 c.k c.n c.n,lH c-(c.p.toNat+1)-1,fun j=>jb m (o9 c (((1:Int):Rat)/((c.p+1:Int):Rat)) (lH c) (c.p.toNat+1) (b9 c.k c.n c.n) j)⟩
 congr 1
 funext j
 exact XQ
theorem Kq {m:Mp} {c:Cu} {x:Nat→Rat} {b:Nat}:∀{j:Nat},gq (dg m c) x b j=jb m (gq c x b j)
 |0=>pA tR.symm tR.symm tR.symm rfl
 |j+1=>by
  have ih:=Kq (m:=m) (c:=c) (x:=x) (b:=b) (j:=j)
  have i1:(gq (dg m c) x b j).n.x=iw m.m.a m.t.x (fz (gq c x b j)):=congrArg (fun h:Pl=>h.n.x) ih
  have i2:(gq (dg m c) x b j).n.y=iw m.m.b m.t.y (fz (gq c x b j)):=congrArg (fun h:Pl=>h.n.y) ih
  have i3:(gq (dg m c) x b j).n.z=iw m.m.c m.t.z (fz (gq c x b j)):=congrArg (fun h:Pl=>h.n.z) ih
  have e1:∀{d:Cu},(gq d x b (j+1)).n.x=(gq d x b j).n.x+x j*((d.f (b+j)).d*(d.f (b+j)).n.x):=fun {d}=>rfl
  have e2:∀{d:Cu},(gq d x b (j+1)).n.y=(gq d x b j).n.y+x j*((d.f (b+j)).d*(d.f (b+j)).n.y):=fun {d}=>rfl
  have e3:∀{d:Cu},(gq d x b (j+1)).n.z=(gq d x b j).n.z+x j*((d.f (b+j)).d*(d.f (b+j)).n.z):=fun {d}=>rfl
  have e4:∀{d:Cu},(gq d x b (j+1)).d=(gq d x b j).d+x j*(d.f (b+j)).d:=fun {d}=>rfl
  have m1:((dg m c).f (b+j)).n.x=ig m.m.a (c.f (b+j)).n m.t.x:=rfl
  have m2:((dg m c).f (b+j)).n.y=ig m.m.b (c.f (b+j)).n m.t.y:=rfl
  have m3:((dg m c).f (b+j)).n.z=ig m.m.c (c.f (b+j)).n m.t.z:=rfl
  have m4:((dg m c).f (b+j)).d=(c.f (b+j)).d:=rfl
  refine pA (a:=(gq (dg m c) x b (j+1)).n.x) (b:=(gq (dg m c) x b (j+1)).n.y) (c:=(gq (dg m c) x b (j+1)).n.z) (d:=(gq (dg m c) x b (j+1)).d) ?_ ?_ ?_ rfl
  ·rw[e1,i1,m1,m4,uC,pB,pB,e1,e2,e3,e4];grind
  ·rw[e2,i2,m2,m4,uC,pB,pB,e1,e2,e3,e4];grind
  ·rw[e3,i3,m3,m4,uC,pB,pB,e1,e2,e3,e4];grind
theorem QB {x v:Nat→Rat}:∀{n:Nat},(∀j,j<n→0≤x j)→(∀j,j<n→0<v j)→0<cD n x→0<cD n fun j=>x j*v j
 |0,_,_,h=>absurd h (by simp only[cD];exact Rat.lt_irrefl)
 |n+1,h0,hv,h=>by
  have a0:∀{m:Nat},m≤n+1→0≤cD m x:=fun {m} hm=>by
   induction m with
   |zero=>exact Rat.le_refl
   |succ m ih=>have:=ih (by omega);have:=h0 m (by omega);simp only[cD];grind
  have b0:∀{m:Nat},m≤n+1→0≤cD m fun j=>x j*v j:=fun {m} hm=>by
   induction m with
   |zero=>exact Rat.le_refl
   |succ m ih=>
    have:=ih (by omega)
    have:=Rat.mul_nonneg (h0 m (by omega)) (Rat.le_of_lt (hv m (by omega)))
    simp only[cD];grind
  simp only[cD]at h ⊢
  by_cases e:0<x n
  ·have:=Rat.mul_pos e (hv n (by omega))
   have:=b0 (m:=n) (by omega)
   grind
  ·have e0:x n=0:=by have:=h0 n (by omega);grind
   have:=QB (x:=x) (v:=v) (n:=n) (fun j hj=>h0 j (by omega)) (fun j hj=>hv j (by omega)) (by rw[e0]at h;grind)
   rw[e0];grind
theorem afd {m:Mp} {c:Cu} {t:Rat} (hc:dy c) (hw:∀i,0<(c.f i).d) (hin:¬ek c.n c.k t):iR (dg m c) t=ta m (iR c t):=by
 obtain⟨h1,h2,h3,h4,h5⟩:=hc
 have hiv:=h1.Bm hin
 have hIs:=h1.ae0 hin
 have e1:iR (dg m c) t=tu (tH (dg m c) t):=if_neg hin
 have e2:iR c t=tu (tH c t):=if_neg hin
 have e3:tH (dg m c) t=jb m (tH c t):=Kq
 have hpos:0<(tH c t).d:=QB (fun j hj=>Ml hIs.at_ hIs.lo hIs.hi hiv.1 (by omega) j) (fun j hj=>hw _) (by rw[Pd];decide)
 rw[e1,e2,e3]
 exact ag4 (zZ hpos)
theorem FD {k:Nat→Rat} {p:Nat} {r:V3} {t u:Rat} {a j:Nat} {x:Nat→Nat→Rat}:jh k p (fun q=>iw r t fun e=>x e q) u a j=iw r t fun e=>jh k p (x e) u a j:=by
 unfold jh
 split
 ·rfl
 ·split
  ·rfl
  ·unfold iw;grind
theorem adY {m:Mp} {c:Cu} {t:Rat} {a j:Nat}:jJ (dg m c) t a j=jb m (jJ c t a j):=by
 have e:∀q,cF ((dg m c).f q)=jb m (cF (c.f q)):=fun q=>L6
 unfold jJ
 simp only[e]
 exact pA (FD (x:=fun e q=>fz (cF (c.f q)) e)) (FD (x:=fun e q=>fz (cF (c.f q)) e)) (FD (x:=fun e q=>fz (cF (c.f q)) e)) rfl
theorem aaF {m:Mp} {c:Cu} {t:Rat} (hc:dy c) (hw:∀i,0<(c.f i).d) (he:dw c t=0):dg m (ey c t)=ey (dg m c) t:=by
 obtain⟨e1,e2,e3,e4⟩:=B9 he
 obtain⟨a1,a2,a3⟩:=vP hc.1 e1 e2
 have hp:=fun i=>P9 (i:=i) hc hw e1 e2 a1 a2 a3
 rw[show ey c t=uP c t (bP c.n c.k t)from if_pos he,show ey (dg m c) t=uP (dg m c) t (bP c.n c.k t)from if_pos he]
 show(⟨c.p,c.n+1,cP c.k t (bP c.n c.k t+1),c.m+1,fun j=>gy m (eo (jJ c t (bP c.n c.k t) j))⟩:Cu)=⟨c.p,c.n+1,cP c.k t (bP c.n c.k t+1),c.m+1,fun j=>eo (jJ (dg m c) t (bP c.n c.k t) j)⟩
 congr 1
 funext j
 rw[adY,J4 (zZ (hp j))]
theorem LX {n:Nat} {k:Nat→Rat} (hs:∀i,i+1<n→k i≤k (i+1)):∀{d i:Nat},k i<k (i+d)→i+d<n→i≤ej k n i∧ej k n i<i+d∧k (ej k n i)<k (ej k n i+1)∧∀u,i≤u→u≤ej k n i→k u=k (ej k n i)
 |0,i,h,_=>absurd h Rat.lt_irrefl
 |d+1,i,h,hn=>by
  by_cases c:k (i+1)≤k i
  ·have e:k (i+1)=k i:=Rat.le_antisymm c (hs i (by omega))
   have:=LX hs (d:=d) (i:=i+1) (by rw[e,show i+1+d=i+(d+1) by omega];exact h) (by omega)
   rw[IX (by omega) c]
   obtain⟨g1,g2,g3,g4⟩:=this
   refine⟨by omega,by omega,g3,fun u h1 h2=>?_⟩
   by_cases e2:u=i
   ·rw[e2,←e];exact g4 _ (by omega) g1
   ·exact g4 u (by omega) h2
  ·rw[EU (fun g=>c g.2)]
   exact⟨Nat.le_refl _,by omega,Rat.not_le.1 c,fun u h1 h2=>by rw[show u=i by omega]⟩
theorem aks {c:Cu} {P e:Nat} {g:Nat→Rat} (hc:Kn c.n c.p.toNat c.k) (hp1:1≤c.p) (hm2:(c.m:Int)=(c.n:Int)-c.p-1) (hA:At c.n c.k P):
  gr c (P:Nat) c.p.toNat g e=fj c.k c.p.toNat (fun i=>fz (c.f i) e) P (bz g 0 c.p.toNat):=by
 obtain⟨w1,w2⟩:=hc.Cz hA
 have hw:=hA.wide
 have hE:gR c.n c.k c.p.toNat c.m c.p.toNat (P:Nat)=0:=HY (by omega) rfl (by
  rw[Int.toNat_natCast]
  rintro(h|h|h)
  ·omega
  ·omega
  ·exact absurd h (Rat.not_le.2 hw))
 unfold gr jN
 rw[if_pos hE,Int.toNat_natCast,Hv];rfl
theorem PN {f:Rat} {x:Nat→Pl} (hf:0<f):∀{r:Nat},(∀i,i<r+1→0<(x i).d)→0<(iP f x (r+1)).d
 |0,h=>by
  have:=Rat.mul_pos hf (h 0 (by omega))
  show 0<0+f*(x 0).d
  grind
 |r+1,h=>by
  have:=PN hf (x:=x) (r:=r) fun i hi=>h i (by omega)
  have:=Rat.mul_pos hf (h (r+1) (by omega))
  rw[show(iP f x (r+1+1)).d=(iP f x (r+1)).d+f*(x (r+1)).d from rfl]
  grind
theorem Ve {c:Cu} {j:Nat} (hc:dy c) (hw:∀i,0<(c.f i).d) (hj:j<(jC (iT c)).m):0<((jC (iT c)).f j).d:=by
 obtain⟨k1,k2,k3,k4,k5⟩:=id hc
 obtain⟨p,hp⟩:∃p,p=c.p.toNat:=⟨_,rfl⟩
 have hj:j<lH (iT c)-(c.p.toNat+1)-1:=hj
 rw[←hp]at hj
 have hN:lH (iT c)=c.n+bE c.k c.n c.n:=rfl
 have hK:Kn (c.n+bE c.k c.n c.n) (p+1) (b9 c.k c.n c.n):=by rw[hp];exact LN k1
 rw[hN]at hj
 have hsup:=hK.Jo (j:=j) (by omega)
 obtain⟨g1,g2,g3,g4⟩:=LX hK.sorted hsup (by omega)
 obtain⟨s,hs⟩:∃s,s=ej (b9 c.k c.n c.n) (c.n+bE c.k c.n c.n) j:=⟨_,rfl⟩
 rw[←hs]at g1 g2 g3 g4
 obtain⟨P,hP⟩:∃P,Src c.k c.n s P:=by
  obtain⟨i,h1,h2,h3⟩:=ES (k:=c.k) (n:=c.n) (Q:=s) (m:=c.n) (by omega)
  exact⟨i,h1,h2,h3⟩
 have hv:=hP.val
 have hA:At c.n c.k P:=by
  rcases hP.next (by omega)with h|⟨h,_⟩
  ·rw[h.val,hv]at g3;exact absurd g3 Rat.lt_irrefl
  ·rw[h.val,hv]at g3;exact⟨h.1,k1.sorted,g3⟩
 obtain⟨w1,w2⟩:=k1.Cz hA
 have hI:fW c.n c.k (b9 c.k c.n c.n s)=P:=by
  rw[hv]
  unfold fW
  rw[if_neg,F8 hA]
  rintro(h|h)
  ·exact absurd (k1.mono (Nat.zero_le P) (by have:=hA.lt;omega)) (Rat.not_le.2 h)
  ·exact absurd (k1.mono (show P≤c.n-1 by omega) (by omega)) (Rat.not_le.2 h)
 show 0<(iP _ (uh (iT c) (fW c.n c.k (b9 c.k c.n c.n (ej (b9 c.k c.n c.n) (c.n+bE c.k c.n c.n) j))) (c.p.toNat+1) (b9 c.k c.n c.n) j) (c.p.toNat+1)).d
 rw[←hs,hI]
 refine PN ?_ fun i hi=>?_
 ·show 0<((1:Int):Rat)/((c.p+1:Int):Rat)
  rw[Rat.div_def]
  exact Rat.mul_pos (by decide) (Rat.inv_pos.2 (by exact_mod_cast (show(0:Int)<c.p+1 by omega)))
 ·show 0<gr (iT c) (P:Nat) (c.p.toNat+1-1) (fun u=>m8 (fun v=>b9 c.k c.n c.n (v+(j+1))) i (c.p.toNat+1) u) 3
  rw[Nat.add_sub_cancel,aks (c:=iT c) k1 k2 k5 hA]
  have:=I7 (p:=p) (x:=fun q=>(c.f q).d) hA (by omega) (by omega) hw hP g1 (by omega) g4 (d:=p-i) (i:=i) (by omega)
  have e:bz (fun u=>m8 (fun v=>b9 c.k c.n c.n (v+(j+1))) i (c.p.toNat+1) u) 0 p=bz (ja (b9 c.k c.n c.n) j i) 0 p:=zW fun u h1 h2=>by
   unfold m8 ja
   rw[if_neg (by omega)]
   by_cases c:u<i
   ·rw[if_neg (by omega),if_pos c,←Nat.add_comm u (j+1)]
   ·rw[if_pos (by omega),if_neg c,←show u+1+(j+1)=j+2+u by omega]
  rw[←hp]at*
  show 0<fj c.k p (fun q=>(c.f q).d) P _
  rw[e]
  exact this
theorem ado {m:Mp} {c:Cu} (hc:dy c) (hw:∀i,0<(c.f i).d) (hp:¬6≤c.p):pN (dg m (ep c)) (ep (dg m c)):=by
 rw[show ep c=qT (jC (iT c))from if_neg hp,show ep (dg m c)=qT (jC (iT (dg m c)))from if_neg hp,adH,RT]
 refine⟨rfl,rfl,fun _ _=>rfl,rfl,fun j hj=>?_⟩
 exact(J4 (zZ (Ve hc hw hj))).symm
theorem Sa {m:Mp} {c:Cu}:pN (Ar (dg m c)) (dg m (Ar c)):=⟨rfl,rfl,fun _ _=>rfl,rfl,fun _ _=>rfl⟩
end Go.Am.B

/- brepkernelmade: pole, Curve. -/
namespace Go.Am.B
open Go Go.Am.N AV aa aj IntKind
theorem ae8:aO P De vX (au vX):=aQ afm (by kernel_rfl) (by kernel_rfl) (by kernel_rfl)
theorem PT:aO P zm Bd (au Bd):=aQ ah8 (by kernel_rfl) (by kernel_rfl) (by kernel_rfl)
def Q2:aR:=[(oL,gJ r8),(y8,gJ CU),(m9,v8)]
def uJ (n:Nat) (f:Nat→AV) (a:Int) (b:Bool):Pl:=⟨⟨dS n f a,dS n f (dA n f a),if b=true then 0 else dS n f (dA n f (dA n f a))⟩,((1+cS n f (bD n f a) 3:Int):Rat)⟩
def Gz (n:Nat) (f:Nat→AV) (a:Int):Int:=bA n (bD n f a)
def FK (n:Nat) (f:Nat→AV) (a:Int) (l:List AV):Option (AV×Int×List Prop):=match l with
 |[.bool b]=>some (bu (uJ n f a b) 64,Gz n f a,[])
 |_=>none
def CS:aR:=nG::(oL,gJ r8)::(Bb,gJ Fm)::(De,gJ FK)::[]
abbrev xX:List Nat:=[0,3,8,9,10]
abbrev GU (b:Bool) (i:Nat):List AV:=[.ptr 0 0 2 0 [],.bool b,.ptr 1 0 3 0 [],.ptr 2 0 3 0 [],.int .i64 i]
abbrev Eb (n:Nat) (z:Nat→Int) (a p:Int) (N:Nat) (k:Nat→Rat) (f:Nat→Pl) (j:Nat):aC:=
 [(3,⟨true,true,12,j,fun i=>bu (f i) 64⟩),(2,⟨false,true,3,1,fun _=>.agg [.int .i64 p,bt k N 64,.own 3 12 0 j]⟩),(1,⟨false,true,3,1,fun _=>.agg [.int .i64 0,.nil,.nil]⟩),(0,lz n z a)]
noncomputable abbrev xU:Code:=au Bd
theorem X4 {n:Nat} {z:Nat→Int} {a:Int} {b:Bool}:qh T Q2 [8] 60 vX (au vX) ⟨aN 0 [.ptr 0 0 2 0 [],.bool b],[(0,lz n z a)],1⟩=
  let c9:Int:=dA n (fun i↦int i64 (z i)) a;let c8:AV:=rat (dS n (fun i↦int i64 (z i)) a) 64;let c6:Int:=bD n (fun i↦int i64 (z i)) a;let c4:Prop:=0<1;let c5:AV:=rat (dS n (fun i↦int i64 (z i)) c9) 64;let c3:Option ah:=some (ah.mk false true 2 1 fun x↦agg [ak 1 n fun i↦int i64 (z i),int i64 (bA n c6)]);let c1:Int:=i64.wrap ((1:Int)+(cS n (fun i↦int i64 (z i)) c6 (3:Int)).tmod (3:Int));let c7:AV:=rat (↑c1:Rat) (Max.max 1 (br c1.natAbs));let c2:List Prop:=[c4,cC n (fun i↦int i64 (z i)) c6,(0:Int)<(3:Int),(3:Int)<(2:Int)^62,(3:Int)≠(0:Int),-(2:Int)^63≤c1,c1<(2:Int)^63,c4];some (ag [cC n (fun i↦int i64 (z i)) a,c4] (fork b (ag [(0:Int)≤(2:Int)∧(2:Int)<(↑(3:Nat):Int),c4] (ag c2 (ag [c4] (leaf ret ([agg [agg [c8,c5,agg [AV.bool false,mag 0,mag 0]],c7]],c3))))) (ag c2 (ag [c4] (leaf ret ([agg [agg [c8,c5,rat (dS n (fun i↦int i64 (z i)) (dA n (fun i↦int i64 (z i)) c9)) 64],c7]],c3)))))):=by kernel_rfl
theorem SP {n:Nat} {z:Nat→Int} {a p m:Int} {b:Bool}:aH T CS [] 60 xX (before xU [1,1,1,0,1]) ⟨aN 0 [.ptr 0 0 2 0 [],.int .i64 p,.int .i64 m,.bool b],[(0,lz n z a)],1⟩=
  let c4:Prop:=0<1;let c2:AV:=agg [int i64 (0:Int),nil,nil];let c1:Int:=(1:Int)+cS n (fun i↦int i64 (z i)) a p;let c3:AV:=bn (agg (c2.kids.set 0 (bn (int i64 c1))));some (ag [cC n (fun i↦int i64 (z i)) a,(0:Int)<p,p<(2:Int)^62,-(2:Int)^63≤c1∧c1<(2:Int)^63,c4] (ag [c4,cC n (fun i↦int i64 (z i)) (bA n a),(1:Int)≤c1,c1<(1000:Int),(0:Int)≤m,m<(1000:Int),c4] (leaf normal ([ptr 0 0 2 0 [],AV.bool b,ptr 1 0 3 0 [],ptr 24577 0 3 0 [],int i64 (0:Int)],[((24577:Nat),ah.mk false true 3 1 fun j↦if(j==0)=true then agg ((if((0:Nat)==0)=true then c3 else c2).kids.set 1 (bn (bt (nX n (fun i↦int i64 (z i)) (bA n a) c1.toNat m.toNat) (nq n (fun i↦int i64 (z i)) (bA n a) c1.toNat m.toNat) 64)))else if(j==0)=true then c3 else c2),((1:Nat),ah.mk false true 3 1 fun x↦c2),((0:Nat),ah.mk false true 2 1 fun x↦agg [ak 1 n fun i↦int i64 (z i),int i64 (qS n (fun i↦int i64 (z i)) (bA n a) c1.toNat m.toNat)])])))):=by kernel_rfl
theorem Td {n N j:Nat} {z:Nat→Int} {a p:Int} {k:Nat→Rat} {f:Nat→Pl} {b:Bool}:aH T CS [30] 60 xX [part xU [1,1,1,0,1,0,0]] ⟨aA xX (GU b j),Eb n z a p N k f j,4⟩=
  let c15:Int:=(↑j:Int);let c14:Int:=(↑N:Int)-p;let c13:Int:=dA n (fun i↦int i64 (z i)) a;let c12:AV:=own 3 12 0 j;let c11:AV:=ak 1 n fun i↦int i64 (z i);let c9:AV:=ptr 2 0 3 0 [];let c8:AV:=ptr 1 0 3 0 [];let c7:AV:=ptr 0 0 2 0 [];let c6:Prop:=0<1;let c5:AV:=rat 0 1;let c2:Nat×ah:=((1:Nat),ah.mk false true 3 1 fun x↦agg [int i64 (0:Int),nil,nil]);let c1:Int:=(2:Int)^63;let c10:Int:=c15+(1:Int);let c4:Int:=c14-(1:Int);let c3:AV:=agg [int i64 p,bt k N 64,c12];some (ag [c6,c6,-c1≤c14∧c14<c1,-c1≤c4∧c4<c1] (fork (decide (c15<c4)) (ag [c6,cC n (fun i↦int i64 (z i)) a,(1:Nat)*12≤2^24,(j+1)*((224:Nat)+1)*2≤2^47,c6] (ag [-c1≤c10∧c10<c1] (leaf normal ([c7,AV.bool b,c8,c9,int i64 c10],[((61444:Nat),ah.mk true true 12 (j+1) fun i↦if i<j then bu (f i) 64 else nth [agg [agg [rat (dS n (fun i↦int i64 (z i)) a) 64,rat (dS n (fun i↦int i64 (z i)) c13) 64,rat (if b=true then 0 else dS n (fun i↦int i64 (z i)) (dA n (fun i↦int i64 (z i)) c13)) 64],rat (↑((1:Int)+cS n (fun i↦int i64 (z i)) (bD n (fun i↦int i64 (z i)) a) (3:Int)):Rat) 64]] (agg [agg [c5,c5,c5],c5]) (i-j+0)),((2:Nat),ah.mk false true 3 1 fun j_1↦if(j_1==0)=true then agg (c3.kids.set 2 (bn (own (nat_lit 61443+1) 12 0 (j+1))))else c3),c2,((0:Nat),ah.mk false true 2 1 fun x↦agg [c11,int i64 (Gz n (fun i↦int i64 (z i)) a)])])))) (leaf (exit 0) ([c7,AV.bool b,c8,c9,int i64 c15],[((3:Nat),ah.mk true true 12 j fun i↦agg [agg [rat (f i).n.x 64,rat (f i).n.y 64,rat (f i).n.z 64],rat (f i).d 64]),((2:Nat),ah.mk false true 3 1 fun x↦agg [int i64 p,ak 3 N fun i↦rat (k i) 64,c12]),c2,((0:Nat),ah.mk false true 2 1 fun x↦agg [c11,int i64 a])])))):=by kernel_rfl
theorem Uw {n N j:Nat} {z:Nat→Int} {a p:Int} {k:Nat→Rat} {f:Nat→Pl} {b:Bool}:DZ T CS [] 60 Bd [part xU [1,1,1,1]] ⟨aA xX (GU b j),Eb n z a p N k f j,4⟩=
  let c1:Prop:=0<1;some (ag [c1,c1] (ag [c1] (leaf ret ([agg [int i64 p,ak 3 N fun i↦rat (k i) 64,ak 12 j fun i↦agg [agg [rat (f (i+0)).n.x 64,rat (f (i+0)).n.y 64,rat (f (i+0)).n.z 64],rat (f (i+0)).d 64]]],some (ah.mk false true 2 1 fun x↦agg [ak 1 n fun i↦int i64 (z i),int i64 a]))))):=by kernel_rfl
theorem ai7:aY P Q2:=aG Df (aG Pt (aG Dn bk))
theorem Yv:∀K args pre r,gJ FK K args pre=some r→aB P De K args pre r:=by
 refine rP fun {k n z a l v b q o} K hg ho hd hq=>?_
 unfold FK at hg
 split at hg
 ·rename_i b
  simp only[Option.some.injEq,Prod.mk.injEq]at hg
  obtain⟨rfl,rfl,rfl⟩:=hg
  refine Ay hT ai7 hm ae8 rfl rfl (of_decide_eq_true (by kernel_rfl)) ho 60 X4 (fun _=>?_) K
  have a1:=jL (n:=n) (f:=fun i=>.int .i64 (z i)) (a:=bD n (fun i=>.int .i64 (z i)) a) (m:=3) (by omega)
  have a2:=jK (n:=n) (f:=fun i=>.int .i64 (z i)) (a:=bD n (fun i=>.int .i64 (z i)) a) (m:=3) (by omega)
  unfold uJ
  generalize cS n (fun i=>.int .i64 (z i)) (bD n (fun i=>.int .i64 (z i)) a) 3=x at*
  have e1:x.tmod 3=x:=by rw[Int.tmod_eq_of_lt a1 a2]
  have e2:i64.wrap (1+x)=1+x:=wrap_i64 (by omega) (by omega)
  simp only[aa.all,ax,e1,e2]
  have hw:bB (.rat ((1+x:Int):Rat) (max 1 (br (1+x).natAbs))) (.rat ((1+x:Int):Rat) 64):=fS rfl (OH (y:=0) (by omega) (by omega))
  refine⟨⟨hd,by omega⟩,fun hb=>⟨by omega,⟨by omega,hd.kj,by omega,by omega,by omega,by omega,by omega,by omega⟩,by omega,?_,_,rfl,rfl,mT rfl rfl⟩,fun hb=>⟨⟨by omega,hd.kj,by omega,by omega,by omega,by omega,by omega,by omega⟩,by omega,?_,_,rfl,rfl,mT rfl rfl⟩⟩
  ·rw[if_pos hb]
   exact dn ⟨dn ⟨.refl _,.refl _,rO (q:=(0:Rat)) ⟨by decide,by decide⟩ rfl rfl rfl,trivial⟩,hw,trivial⟩
  ·rw[if_neg (by rw[hb];decide)]
   exact dn ⟨.refl _,hw,trivial⟩
 ·simp at hg
theorem NA:aY P CS:=dr (aG Df (aG S4 (aG Yv bk)))
def mI (n:Nat) (f:Nat→AV) (a:Int):Nat→Int
 |0=>a
 |j+1=>Gz n f (mI n f a j)
theorem cC.we {n:Nat} {f:Nat→AV} {a:Int} (h:cC n f a):∀j,cC n f (mI n f a j)
 |0=>h
 |j+1=>(h.we j).kj.next
theorem cC.fF {n:Nat} {f:Nat→AV} {a:Int} {p m:Nat} (h:cC n f a) (hp:1≤p):cC n f (qS n f a p m):=(Dg h hp _).2
def kM (n:Nat) (f:Nat→AV) (a d:Int):Nat:=(1+cS n f a d).toNat
def sP (n:Nat) (f:Nat→AV) (a d:Int) (m:Nat):Int:=qS n f (bA n a) (kM n f a d) m
def gU (n:Nat) (f:Nat→AV) (a d:Int) (m:Nat) (b:Bool):Cu:=
 ⟨(kM n f a d:Nat),nq n f (bA n a) (kM n f a d) m,nX n f (bA n a) (kM n f a d) m,kM n f a d+1+kH n f (bA n a) m,fun i=>uJ n f (mI n f (sP n f a d m) i) b⟩
def F6 (n:Nat) (f:Nat→AV) (a d:Int) (m:Nat):Int:=mI n f (sP n f a d m) (kM n f a d+1+kH n f (bA n a) m)
def Ho (n:Nat) (f:Nat→AV) (a:Int) (l:List AV):Option (AV×Int×List Prop):=match l with
 |[.int .i64 d,.int .i64 m,.bool b]=>some (cI (gU n f a d m.toNat b) 64 64,F6 n f a d m.toNat,[1≤d,d<900,0≤m,m<900])
 |_=>none
theorem K6 {n:Nat} {f:Nat→AV} {a:Int} {m:Nat}:kH n f a m≤m:=by
 have h1:=jL (n:=n) (f:=f) (a:=bA n a) (m:=m+1) (by omega)
 have h2:=jK (n:=n) (f:=f) (a:=bA n a) (m:=m+1) (by omega)
 unfold kH;omega
theorem RY {k n m:Nat} {z:Nat→Int} {a d:Int} {b:Bool} {o:ah} (ho:∀ρ,cu ρ o (lz n z a)) (h:cC n (fun i=>.int .i64 (z i)) a) (hd1:1≤d) (hd2:d<900) (hm2:m<900) (K:Nat):
  aB P zm K [.ptr k 0 2 0 [],.int .i64 d,.int .i64 m,.bool b] [(k,o)] ⟨cI (gU n (fun i=>.int .i64 (z i)) a d m b) 64 64,[(k,lz n z (F6 n (fun i=>.int .i64 (z i)) a d m))],[]⟩:=by
 refine QG hT PT rfl rfl (of_decide_eq_true (by kernel_rfl)) ho (fun _ c hk=>?_) K
 have a1:=jL (n:=n) (f:=fun i=>.int .i64 (z i)) (a:=a) (m:=d) (by omega)
 have a2:=jK (n:=n) (f:=fun i=>.int .i64 (z i)) (a:=a) (m:=d) (by omega)
 have hJ:=K6 (n:=n) (f:=fun i=>.int .i64 (z i)) (a:=bA n a) (m:=m)
 unfold gU F6 sP kM
 obtain⟨p,hp⟩:∃p,p=(1+cS n (fun i=>.int .i64 (z i)) a d).toNat:=⟨_,rfl⟩
 have hp2:1+cS n (fun i=>.int .i64 (z i)) a d=(p:Int):=by omega
 rw[←hp]
 have hB:=(h.next.fF (p:=p) (m:=m) (by omega))
 obtain⟨N,hN⟩:∃N,N=nq n (fun i=>.int .i64 (z i)) (bA n a) p m:=⟨_,rfl⟩
 obtain⟨kk,hkk⟩:∃kk,kk=nX n (fun i=>.int .i64 (z i)) (bA n a) p m:=⟨_,rfl⟩
 obtain⟨B,hB2⟩:∃B,B=qS n (fun i=>.int .i64 (z i)) (bA n a) p m:=⟨_,rfl⟩
 have hN2:N=2*p+2+kH n (fun i=>.int .i64 (z i)) (bA n a) m:=hN
 rw[←hN,←hkk,←hB2]
 rw[←hB2]at hB
 generalize kH n (fun i=>.int .i64 (z i)) (bA n a) m=J at*
 refine aq.nN hT NA hm [1,1,1,0,1] (i:=0) (y:=part xU [1,1,1,0,1,0,0]) (z:=part xU [1,1,1,1]) (by kernel_rfl) (by kernel_rfl) (by kernel_rfl) PT.dst hk (f1:=[]) (f2:=[30]) 60 xX 4 (fun j:Nat=>GU b j)
  (fun j=>Eb n z (mI n (fun i=>.int .i64 (z i)) B j) p N kk (fun i=>uJ n (fun i=>.int .i64 (z i)) (mI n (fun i=>.int .i64 (z i)) B i) b) j) (fun j=>j≤p+1+J) (fun j=>j=p+1+J) (fun j=>p+1+J-j) (fun _=>False) ⟨_,SP,?_⟩ (fun j hj=>⟨_,Td,?_⟩) (fun j hj=>?_) (fun _ _ h=>h.elim)
 ·simp only[aa.all,ax,hp2,Int.toNat_natCast]
  rw[←hN,←hkk,←hB2]
  exact⟨⟨h,by omega,by omega,by omega,by omega⟩,⟨by omega,h.next,by omega,by omega,by omega,by omega,by omega⟩,0,Nat.zero_le _,[(0,0),(1,1),(2,24577)],rfl,rfl,rfl,
   mw rfl (by omega) (by omega) (aJ rfl rfl (jd ⟨⟨rfl,aI rfl⟩,⟨rfl,aI rfl⟩,⟨rfl,mo (by omega)⟩,trivial⟩) (aJ rfl rfl (aE rfl rfl) (aJ rfl rfl (aE rfl rfl) trivial)))⟩
 ·simp only[aa.all,ax,decide_eq_true_eq,decide_eq_false_iff_not]
  have hv:∀{rl:List (Nat×Nat)} {a l:Nat},aT rl 3=some a→fD rl (.agg [.int .i64 p,bt kk N 64,.own a 12 0 l]) (.agg [.int .i64 p,bt kk N 64,.own 3 12 0 l]):=fun h=>jd ⟨⟨rfl,aI rfl⟩,⟨rfl,aI rfl⟩,⟨rfl,cw h rfl rfl⟩,trivial⟩
  refine⟨⟨by omega,by omega,by omega,by omega⟩,fun h=>⟨⟨by omega,hB.we j,by omega,by omega,by omega⟩,by omega,j+1,by omega,by dsimp only;omega,[(0,0),(1,1),(2,2),(3,61444)],rfl,rfl,rfl,
   bh rfl rfl rfl (fun i hi=>FB (y:=fun i=>uJ n (fun i=>.int .i64 (z i)) (mI n (fun i=>.int .i64 (z i)) B i) b) (fun _ _=>rfl) (.refl _) rfl (Nat.le_refl _) (Nat.le_refl _) hi) (aJ rfl rfl (hv rfl) (aJ rfl rfl (aE rfl rfl) (aJ rfl rfl (aE rfl rfl) trivial)))⟩,
   fun h=>⟨rfl,j,by omega,[(0,0),(1,1),(2,2),(3,3)],rfl,rfl,rfl,bh rfl rfl rfl (fun _ _=>aE rfl rfl) (aJ rfl rfl (hv rfl) (aJ rfl rfl (aE rfl rfl) (aJ rfl rfl (aE rfl rfl) trivial)))⟩⟩
 ·subst hj
  refine aq.mD (aD.P2 hT NA hm 60 Uw (by kernel_rfl) ?_)
  simp only[aa.all,ax]
  exact⟨by omega,by omega,.refl _,_,rfl,rfl,mT rfl rfl⟩
theorem UZ:∀K args pre r,gJ Ho K args pre=some r→aB P zm K args pre r:=by
 refine rP fun {k n z a l v b q o} K hg ho hd hq=>?_
 unfold Ho at hg
 split at hg
 ·rename_i d m b
  simp only[Option.some.injEq,Prod.mk.injEq]at hg
  obtain⟨rfl,rfl,rfl⟩:=hg
  obtain⟨h1,h2,h3,h4⟩:=hq
  have h4:m<900:=h4
  have:=RY (k:=k) (m:=m.toNat) (b:=b) ho hd h1 h2 (by omega) K
  rw[Int.toNat_of_nonneg h3]at this
  exact this
 ·simp at hg
theorem ahI {n m:Nat} {f:Nat→AV} {a d:Int} {b:Bool} (h:cC n f a) (hd:1≤d):Kn (gU n f a d m b).n (gU n f a d m b).p.toNat (gU n f a d m b).k∧1≤(gU n f a d m b).p∧(gU n f a d m b).p≤d∧((gU n f a d m b).m:Int)=((gU n f a d m b).n:Int)-(gU n f a d m b).p-1∧
  (gU n f a d m b).m≤(gU n f a d m b).p.toNat+1+m∧∀i,1≤((gU n f a d m b).f i).d∧((gU n f a d m b).f i).d≤3:=by
 have a1:=jL (n:=n) (f:=f) (a:=a) (m:=d) (by omega)
 have a2:=jK (n:=n) (f:=f) (a:=a) (m:=d) (by omega)
 have hJ:=K6 (n:=n) (f:=f) (a:=bA n a) (m:=m)
 unfold gU
 obtain⟨p,hp⟩:∃p,p=kM n f a d:=⟨_,rfl⟩
 have hp2:1+cS n f a d=(p:Int):=by rw[hp];unfold kM;omega
 rw[←hp]
 dsimp only
 refine⟨?_,by omega,by omega,?_,by omega,fun i=>?_⟩
 ·rw[Int.toNat_natCast]
  exact(Dg h.next (by omega) _).1.done
 ·have:nq n f (bA n a) p m=2*p+2+kH n f (bA n a) m:=rfl
  omega
 ·have c1:=jL (n:=n) (f:=f) (a:=bD n f (mI n f (sP n f a d m) i)) (m:=3) (by omega)
  have c2:=jK (n:=n) (f:=f) (a:=bD n f (mI n f (sP n f a d m) i)) (m:=3) (by omega)
  unfold uJ
  dsimp only
  generalize cS n f (bD n f (mI n f (sP n f a d m) i)) 3=x at*
  exact⟨by exact_mod_cast (show 1≤1+x by omega),by exact_mod_cast (show 1+x≤3 by omega)⟩
end Go.Am.B
