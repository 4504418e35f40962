/- Spline.Cut. -/
import Derived.Test.YtfjlccdmhpdiiaaGreatY10
import Derived.Test.YtfjlccdmhpdiiaaGreatZ2
import Derived.Test.YtfjlccdmhpdiiaaGreatY8
import Derived.Test.YtfjlccdmhpdiiaaGreatY9
import Derived.TacticsIn
set_option linter.unusedVariables false
noncomputable section
namespace Go.Am.B
open Go Go.Am.N AV ag aq IntKind Proofs.Tryz
theorem PD:aW 56 f56:=aT func56
def ee (k:Nat->Rat) (n:Nat) (t:Rat):Nat->Nat->Rat
 |0=>k
 |r+1=>dg (ee k n t r) t (bL (n+r) (ee k n t r) t+1)
def HY:Spec:=cA (kC (kL 2000) (kC (gp 2000) kN)) (fun a=>bD (jB a.1.2 a.2.1 (gY a.1.2 a.2.1 a.1.1)) (a.1.1+1) 2000) fun a=>[a.1.1<2^40,∀i,i<a.1.1+1->Sz (jB a.1.2 a.2.1 (gY a.1.2 a.2.1 a.1.1) i) 2000]
def lZ:aX:=nG::(109,Fk)::(136,HY)::(137,Pn)::(138,Gq)::gW
abbrev uc:Code:=aF f56
abbrev Ce:Code:=part uc [1]
abbrev y5:Code:=part Ce [1,0,1,0,0]
abbrev yd:Code:=part y5 [1,1,0,0]
abbrev s4:Code:=part uc [1,1,1]
abbrev rE:Code:=part s4 [1,1,1,1,1,1]
abbrev xQ:au:=⟨false,true,3,1,fun _=>.agg [.int .i64 0,.nil,.nil]⟩
abbrev yN (c:Cu):au:=⟨false,true,3,1,fun _=>dD c 2000 4000⟩
abbrev Au:List Nat:=[3,4,5,6]
abbrev ahs (a b:Rat):List AV:=[.ptr 0 0 3 0 [],.bg (.rat a 2000),.bg (.rat b 2000),.ptr 3 0 3 0 []]
abbrev Uh (c:Cu) (a b:Rat):aC:=[(3,xQ),(2,⟨false,false,3,1,fun _=>.rat b 2000⟩),(1,⟨false,false,3,1,fun _=>.rat a 2000⟩),(0,yN c)]
abbrev oN:List Nat:=[3,4,5,6,7,19,20]
abbrev q9 (a b:Rat) (n:Nat) (k:Nat->Rat) (j:Nat):List AV:=[.ptr 0 0 3 0 [],.bg (.rat a 2000),.bg (.rat b 2000),.ptr 1 0 3 0 [],bD k n 2000,.agg [.rat a 2000,.rat b 2000],.int .i64 j]
abbrev ri (c:Cu):aC:=[(1,xQ),(0,yN c)]
abbrev uh:List Nat:=[3,4,5,6,7,19,20,9,10]
abbrev zk (a b:Rat) (n:Nat) (k:Nat->Rat) (j:Nat) (e:Bool):List AV:=[.ptr 0 0 3 0 [],.bg (.rat a 2000),.bg (.rat b 2000),.ptr 1 0 3 0 [],bD k n 2000,.agg [.rat a 2000,.rat b 2000],.int .i64 j,.ptr 2 0 3 0 [],.bool e]
abbrev yL (c:Cu) (x:Rat):aC:=[(2,⟨false,true,3,1,fun _=>.rat x 2000⟩),(1,xQ),(0,yN c)]
abbrev yh:List Nat:=[3,4,5,6,7,11,12,13,14,67,68]
abbrev Fq (p:Int) (a b:Rat) (n:Nat) (k:Nat->Rat) (f l i:Nat):List AV:=[.ptr 0 0 3 0 [],.bg (.rat a 2000),.bg (.rat b 2000),.ptr 1 0 3 0 [],bD k n 2000,.ptr 2 0 3 0 [],.ptr 3 0 3 0 [],.int .i64 ((f:Int)-1),.int .i64 l,.int .i64 (p+1),.int .i64 i]
abbrev vF (c D:Cu) (x:Nat->Rat) (i:Nat):aC:=[(4,Ct 2000 i x),(3,⟨false,true,3,1,fun _=>.agg [.int .i64 c.p,.own 4 3 0 i,.nil]⟩),(2,⟨false,true,3,1,fun _=>dD D sK sB⟩),(1,xQ),(0,yN c)]
abbrev wL:List Nat:=[3,5,6,11,12,13,14,88,89]
abbrev Dd (p:Int) (b:Rat) (f l i:Nat):List AV:=[.ptr 0 0 3 0 [],.bg (.rat b 2000),.ptr 1 0 3 0 [],.ptr 2 0 3 0 [],.ptr 3 0 3 0 [],.int .i64 ((f:Int)-1),.int .i64 l,.int .i64 (p+1),.int .i64 i]
def jw (p:Nat) (a b:Rat) (k:Nat->Rat) (f l q:Nat):Rat:=if q<p+1 then a else if q<p+1+(l-f)then k (f+(q-(p+1)))else b
def xF (D:Cu) (a b:Rat) (f l:Nat):Cu:=⟨D.p,D.p.toNat+1+(l-f)+(D.p.toNat+1),jw D.p.toNat a b D.k f l,l-(f-1-D.p.toNat),fun q=>D.f (f-1-D.p.toNat+q)⟩
theorem abA {c:Cu} {a b:Rat}:aH T lZ [] 60 Au (before uc [1]) ⟨aQ 0 [dD c 2000 4000,.rat a 2000,.rat b 2000],[],0⟩=
  let c3:AV:=rat b 2000;let c2:AV:=rat a 2000;let c1:Nat:=(bp (dD c 2000 4000)).size;some (leaf normal ([ptr 0 0 c1 0 [],ptr 4096 0 (bp c2).size 0 [],ptr 8192 0 (bp c3).size 0 [],ptr 12288 0 3 0 []],[((12288:Nat),bP fun x=>agg [int i64 0,nil,nil]),(8192,au.mk false true (bp c3).size 1 fun x=>c3),(4096,au.mk false true (bp c2).size 1 fun x=>c2),(0,au.mk false true c1 1 fun x=>agg [int i64 c.p,ak 3 c.n fun i=>rat (c.k i) 2000,ak 12 c.m fun i=>bV (c.f i) 4000])])):=ah
theorem ad9 {c:Cu} {a b:Rat}:aH T lZ [] 60 oN (before Ce [1,0,1]) ⟨aA Au (ahs a b),Uh c a b,4⟩=
  let c1:AV:=ak 3 c.n fun i=>rat (c.k i) 2000;some (aj [(0:Nat)<1] (leaf normal ([ptr 0 0 3 0 [],(rat a 2000).bg,(rat b 2000).bg,ptr 3 0 3 0 [],c1,agg [rat a 2000,rat b 2000],int i64 0],[((3:Nat),bP fun x=>agg [int i64 0,nil,nil]),((0:Nat),bP fun x=>agg [int i64 c.p,c1,ak 12 c.m fun i=>bV (c.f i) 4000])]))):=ah
theorem Wh {c:Cu} {a b:Rat} {n j:Nat} {k:Nat->Rat}:aH T lZ [21] 60 oN (before y5 [1,1,0]) ⟨aA oN (q9 a b n k j),ri c,2⟩=
  let c1:List AV×aC:=([ptr 0 0 3 0 [],(rat a 2000).bg,(rat b 2000).bg,ptr 1 0 3 0 [],ak 3 n fun i=>rat (k i) 2000,agg [rat a 2000,rat b 2000],int i64 (↑j:Int)],[((1:Nat),bP fun x=>agg [int i64 0,nil,nil]),((0:Nat),bP fun x=>agg [int i64 c.p,ak 3 c.n fun i=>rat (c.k i) 2000,ak 12 c.m fun i=>bV (c.f i) 4000])]);some (fork (decide ((↑j:Int)<2)) (leaf normal c1) (leaf (exit 0) c1)):=ah
theorem ajb {c:Cu} {a b:Rat} {n:Nat} {k:Nat->Rat}:aH T lZ [28] 60 uh (before yd [1,1]) ⟨aA oN (q9 a b n k 0),ri c,2⟩=
  let c12:AV:=int i64 0;let c11:AV:=ptr 1 0 3 0 [];let c10:AV:=ak 3 n fun i=>rat (k i) 2000;let c9:AV:=ptr 0 0 3 0 [];let c8:AV:=rat b 2000;let c7:AV:=ptr 4098 0 3 0 [];let c6:Prop:=0<1;let c5:AV:=rat a 2000;let c4:Int:=(↑n:Int)-1;let c3:Nat:=Int.toNat (0:Int);let c2:Prop:=2000<2^42;let c14:Prop:=(0:Int)<=0/\c3<n;let c13:Bool:=decide (a=k c3);let c1:List (Nat×au):=[((4098:Nat),bP fun j=>if(j==0)=true then bp c5 else rat 0 1),((1:Nat),bP fun x=>agg [c12,nil,nil]),((0:Nat),bP fun x=>agg [int i64 c.p,ak 3 c.n fun i=>rat (c.k i) 2000,ak 12 c.m fun i=>bV (c.f i) 4000])];some (aj [(0:Int)<=(↑(0:Nat):Int)/\(↑(0:Nat):Int)<(↑(2:Nat):Int),c6] (fork c13 (aj [c6,c14,c2,c2,c13=true] (leaf normal ([c9,c5.bg,c8.bg,c11,c10,agg [c5,c8],c12,c7,AV.bool true],c1))) (aj [c6,c14,c2,c2,c13=false,c6,-(2:Int)^63<=c4/\c4<2^63,(0:Int)<=c4/\c4.toNat<n,c2,c2] (leaf normal ([c9,c5.bg,c8.bg,c11,c10,agg [c5,c8],c12,c7,AV.bool (bif false then true else decide (a=k c4.toNat))],c1))))):=ah
theorem aeg {c:Cu} {a b:Rat} {n:Nat} {k:Nat->Rat}:aH T lZ [28] 60 uh (before yd [1,1]) ⟨aA oN (q9 a b n k 1),ri c,2⟩=
  let c11:AV:=ptr 1 0 3 0 [];let c10:AV:=ak 3 n fun i=>rat (k i) 2000;let c9:AV:=ptr 0 0 3 0 [];let c8:AV:=rat a 2000;let c7:AV:=ptr 4098 0 3 0 [];let c6:Prop:=0<1;let c5:AV:=rat b 2000;let c4:Int:=(↑n:Int)-1;let c3:Nat:=Int.toNat (0:Int);let c2:Prop:=2000<2^42;let c13:Prop:=(0:Int)<=0/\c3<n;let c12:Bool:=decide (b=k c3);let c1:List (Nat×au):=[((4098:Nat),bP fun j=>if(j==0)=true then bp c5 else rat 0 1),((1:Nat),bP fun x=>agg [int i64 0,nil,nil]),((0:Nat),bP fun x=>agg [int i64 c.p,ak 3 c.n fun i=>rat (c.k i) 2000,ak 12 c.m fun i=>bV (c.f i) 4000])];some (aj [(0:Int)<=(↑(1:Nat):Int)/\(↑(1:Nat):Int)<(↑(2:Nat):Int),c6] (fork c12 (aj [c6,c13,c2,c2,c12=true] (leaf normal ([c9,c8.bg,c5.bg,c11,c10,agg [c8,c5],int i64 1,c7,AV.bool true],c1))) (aj [c6,c13,c2,c2,c12=false,c6,-(2:Int)^63<=c4/\c4<2^63,(0:Int)<=c4/\c4.toNat<n,c2,c2] (leaf normal ([c9,c8.bg,c5.bg,c11,c10,agg [c8,c5],int i64 1,c7,AV.bool (bif false then true else decide (b=k c4.toNat))],c1))))):=ah
theorem Sc {c:Cu} {a b x:Rat} {n j:Nat} {k:Nat->Rat} {e:Bool}:aH T lZ [40,47] 60 uh [part yd [1,1,0,0]] ⟨aA uh (zk a b n k j e),yL c x,3⟩=
  let c11:Prop:=n<2^40;let c10:AV:=rat a 2000;let c9:AV:=rat b 2000;let c8:Prop:=0<1;let c7:AV:=ptr 1 0 3 0 [];let c6:AV:=ptr 0 0 3 0 [];let c5:Int:=(↑(bW (fun i=>aE (rat (k i) 2000)) x n):Int);let c1:List (Nat×au):=[((2:Nat),bP fun x_1=>rat x 2000),((1:Nat),bP fun x=>agg [int i64 0,nil,nil]),((0:Nat),bP fun x=>agg [int i64 c.p,ak 3 c.n fun i=>rat (c.k i) 2000,ak 12 c.m fun i=>bV (c.f i) 4000])];let c4:List AV:=[agg [c10,c9],int i64 (↑j:Int),ptr 2 0 3 0 [],AV.bool e];let c3:ag (List AV×aC):=leaf (exit 2) (c6::c10.bg::c9.bg::c7::(ak 3 n fun i=>rat (k i) 2000)::c4,c1);let c2:ag (List AV×aC):=aj [c8,bn (fun i=>rat (k i) 2000) n 2000,(2000:Nat)<=2000,c11,∀(i:Nat),i<n+1->Sz (jB (fun i=>aE (rat (k i) 2000)) x (gY (fun i=>aE (rat (k i) 2000)) x n) i) 2000] (leaf normal (c6::c10.bg::c9.bg::c7::(ak 3 (n+1) fun i=>rat (jB (fun i=>aE (rat (k i) 2000)) x (gY (fun i=>aE (rat (k i) 2000)) x n) i) 2000)::c4,c1));some (fork (!e) (aj [(!e)=true,c8,bn (fun i=>rat (k i) 2000) n sK,(2000:Nat)<=sK,c11,c8] (fork (bif true then decide (c5<c.p)else false) c2 c3)) (aj [(!e)=false] (fork false c2 c3))):=ah
theorem UF {c:Cu} {a b x:Rat} {n j:Nat} {k:Nat->Rat} {e:Bool}:aH T lZ [] 60 oN [part y5 [1,1,1]] ⟨aA uh (zk a b n k j e),yL c x,3⟩=
  let c1:Int:=(↑j:Int)+1;some (aj [-(2:Int)^63<=c1/\c1<2^63] (leaf normal ([ptr 0 0 3 0 [],(rat a 2000).bg,(rat b 2000).bg,ptr 1 0 3 0 [],ak 3 n fun i=>rat (k i) 2000,agg [rat a 2000,rat b 2000],int i64 c1],[((1:Nat),bP fun x=>agg [int i64 0,nil,nil]),((0:Nat),bP fun x=>agg [int i64 c.p,ak 3 c.n fun i=>rat (c.k i) 2000,ak 12 c.m fun i=>bV (c.f i) 4000])]))):=ah
theorem TF {c:Cu} {a b:Rat} {n j:Nat} {k:Nat->Rat}:aH T lZ [] 60 yh (before s4 [1,1,1,1,1,0,1]) ⟨aA oN (q9 a b n k j),ri c,2⟩=
  let c10:Prop:=2000<=2000;let c9:Int:=c.p+1;let c7:Nat:=e9 (jf b fun i=>aE (rat (k i) 2000)) n;let c6:Prop:=bn (fun i=>rat (k i) 2000) n 2000;let c5:Nat:=2^40;let c4:Int:=(2:Int)^63;let c3:Prop:=0<1;let c2:AV:=agg [int i64 0,nil,nil];let c1:Nat:=e9 (iX a fun i=>aE (rat (k i) 2000)) n;let c8:Int:=(↑c1:Int)-1;some (aj [c3,bn (fun i=>rat (c.k i) 2000) c.n sK,l9 (fun i=>bV (c.f i) 4000) c.m sK,bn (fun i=>rat (k i) 2000) n sK,Kn c.n c.p.toNat fun i=>aE (rat (c.k i) 2000),(1:Int)<=c.p,c.p<=6,c.n<c5,c.m<c5,n<2^29,c9<=(↑n:Int),c3] (aj [c3,c3] (aj [c6,c10,n<c5,c1<n,-c4<=c8/\c8<c4] (aj [c6,c10,n<c5,c7<n] (aj [c3,-c4<=c9/\c9<c4] (leaf normal ([ptr 0 0 3 0 [],(rat a 2000).bg,(rat b 2000).bg,ptr 1 0 3 0 [],ak 3 n fun i=>rat (k i) 2000,ptr 12290 0 3 0 [],ptr 20482 0 3 0 [],int i64 c8,int i64 (↑c7:Int),int i64 c9,int i64 0],[((20482:Nat),bP fun j=>if(j==0)=true then agg (c2.kids.set 0 (bp (int i64 c.p)))else c2),((12290:Nat),bP fun j=>if(j==0)=true then bp (dD (mG (Cu.mk c.p c.n (fun i=>aE (rat (c.k i) 2000)) c.m fun i=>r7 (bV (c.f i) 4000)) n fun i=>aE (rat (k i) 2000)) sK sB)else c2),((1:Nat),bP fun x=>c2),((0:Nat),bP fun x=>agg [int i64 c.p,ak 3 c.n fun i=>rat (c.k i) 2000,ak 12 c.m fun i=>bV (c.f i) 4000])]))))))):=ah
theorem XC {c D:Cu} {a b:Rat} {n f l i:Nat} {k x:Nat->Rat}:aH T lZ [69] 60 yh [part s4 [1,1,1,1,1,0,1,0,0]] ⟨aA yh (Fq c.p a b n k f l i),vF c D x i,5⟩=
  let c13:Int:=(↑i:Int);let c12:AV:=(rat b 2000).bg;let c11:AV:=int i64 ((↑f:Int)-1);let c10:AV:=rat a 2000;let c9:Int:=c.p+1;let c7:AV:=ptr 2 0 3 0 [];let c6:AV:=ptr 3 0 3 0 [];let c5:AV:=ptr 1 0 3 0 [];let c4:AV:=ak 3 n fun i=>rat (k i) 2000;let c3:AV:=ptr 0 0 3 0 [];let c2:AV:=agg [int i64 c.p,own 4 3 0 i,nil];let c1:List (Nat×au):=[((2:Nat),bP fun x=>agg [int i64 D.p,ak 3 D.n fun i=>rat (D.k i) 4096,ak 12 D.m fun i=>bV (D.f i) 536870912]),((1:Nat),bP fun x=>agg [int i64 0,nil,nil]),((0:Nat),bP fun x=>agg [int i64 c.p,ak 3 c.n fun i=>rat (c.k i) 2000,ak 12 c.m fun i=>bV (c.f i) 4000])];let c8:Int:=c13+1;some (fork (decide (c13<c9)) (aj [(0:Nat)<1,(1:Nat)*3<=2^24,(i+1)*((56:Nat)+1)*2<=2^47,(0:Nat)<1] (aj [-(2:Int)^63<=c8/\c8<2^63] (leaf normal ([c3,c10.bg,c12,c5,c4,c7,c6,c11,int i64 (↑l:Int),int i64 c9,int i64 c8],(20485,au.mk true true 3 (i+1) fun i_1=>if i_1<i then rat (x i_1) 2000 else nth [c10] (rat 0 1) (i_1-i+0))::((3:Nat),bP fun j=>if(j==0)=true then agg (c2.kids.set 1 (bp (own (nat_lit 20484+1) 3 0 (i+1))))else c2)::c1)))) (leaf (exit 4) ([c3,c10.bg,c12,c5,c4,c7,c6,c11,int i64 (↑l:Int),int i64 c9,int i64 c13],(4,au.mk true true 3 i fun i=>rat (x i) 2000)::((3:Nat),bP fun x=>c2)::c1))):=ah
theorem UW {c D:Cu} {a b:Rat} {n f l i:Nat} {k x:Nat->Rat}:aH T lZ [] 60 wL (before rE [1,0,1]) ⟨aA yh (Fq c.p a b n k f l i),vF c D x i,5⟩=
  let c7:Int:=c.p+1;let c6:Prop:=0<1;let c5:Int:=(↑l:Int);let c4:AV:=agg [int i64 c.p,own 4 3 0 i,nil];let c3:Int:=(2:Int)^63;let c1:Int:=(↑f:Int)-1+(1:Int);let c2:Nat:=i+(c5.toNat-c1.toNat);some (aj [c6,-c3<=c1/\c1<c3,(0:Int)<=c1/\c1<=c5/\c5<=c5/\c5<=(↑n:Int),c2*((56:Nat)+1)*2<=2^47,c6] (aj [c6,-c3<=c7/\c7<c3] (leaf normal ([ptr 0 0 3 0 [],(rat b 2000).bg,ptr 1 0 3 0 [],ptr 2 0 3 0 [],ptr 3 0 3 0 [],int i64 ((↑f:Int)-1),int i64 c5,int i64 c7,int i64 0],[(28677,au.mk true true 3 c2 fun i_1=>if i_1<i then rat (x i_1) 2000 else rat (k (i_1-i+c1.toNat)) 2000),((3:Nat),bP fun j=>if(j==0)=true then agg (c4.kids.set 1 (bp (own (nat_lit 28676+1) 3 0 c2)))else c4),((2:Nat),bP fun x=>agg [int i64 D.p,ak 3 D.n fun i=>rat (D.k i) 4096,ak 12 D.m fun i=>bV (D.f i) 536870912]),((1:Nat),bP fun x=>agg [int i64 0,nil,nil]),((0:Nat),bP fun x=>agg [int i64 c.p,ak 3 c.n fun i=>rat (c.k i) 2000,ak 12 c.m fun i=>bV (c.f i) 4000])])))):=ah
theorem VI {c D:Cu} {b:Rat} {f l i m:Nat} {x:Nat->Rat}:aH T lZ [90] 60 wL [part rE [1,0,1,0,0]] ⟨aA wL (Dd c.p b f l i),vF c D x m,5⟩=
  let c11:Int:=(↑i:Int);let c10:AV:=int i64 ((↑f:Int)-1);let c9:AV:=rat b 2000;let c8:Int:=c.p+1;let c6:AV:=ptr 2 0 3 0 [];let c5:AV:=ptr 3 0 3 0 [];let c4:AV:=ptr 1 0 3 0 [];let c3:AV:=ptr 0 0 3 0 [];let c2:AV:=agg [int i64 c.p,own 4 3 0 m,nil];let c1:List (Nat×au):=[((2:Nat),bP fun x=>agg [int i64 D.p,ak 3 D.n fun i=>rat (D.k i) 4096,ak 12 D.m fun i=>bV (D.f i) 536870912]),((1:Nat),bP fun x=>agg [int i64 0,nil,nil]),((0:Nat),bP fun x=>agg [int i64 c.p,ak 3 c.n fun i=>rat (c.k i) 2000,ak 12 c.m fun i=>bV (c.f i) 4000])];let c7:Int:=c11+1;some (fork (decide (c11<c8)) (aj [(0:Nat)<1,(1:Nat)*3<=2^24,(m+1)*((56:Nat)+1)*2<=2^47,(0:Nat)<1] (aj [-(2:Int)^63<=c7/\c7<2^63] (leaf normal ([c3,c9.bg,c4,c6,c5,c10,int i64 (↑l:Int),int i64 c8,int i64 c7],(20485,au.mk true true 3 (m+1) fun i=>if i<m then rat (x i) 2000 else nth [c9] (rat 0 1) (i-m+0))::((3:Nat),bP fun j=>if(j==0)=true then agg (c2.kids.set 1 (bp (own (nat_lit 20484+1) 3 0 (m+1))))else c2)::c1)))) (leaf (exit 6) ([c3,c9.bg,c4,c6,c5,c10,int i64 (↑l:Int),int i64 c8,int i64 c11],(4,au.mk true true 3 m fun i=>rat (x i) 2000)::((3:Nat),bP fun x=>c2)::c1))):=ah
theorem aak {c D:Cu} {b:Rat} {f l i m:Nat} {x:Nat->Rat}:cy T lZ [] 60 f56 [part rE [1,1]] ⟨aA wL (Dd c.p b f l i),vF c D x m,5⟩=
  let c3:Int:=(↑l:Int);let c2:Prop:=0<1;let c1:Int:=(↑f:Int)-1-c.p;some (aj [c2,c2,-(2:Int)^63<=c1/\c1<2^63,(0:Int)<=c1/\c1<=c3/\c3<=c3/\c3<=(↑D.m:Int),c2] (aj [c2,c2] (aj [c2] (leaf ret [agg [int i64 c.p,ak 3 m fun i=>rat (x (i+0)) 2000,ak 12 (c3.toNat-c1.toNat) fun i=>bV (D.f (i+c1.toNat)) 536870912]])))):=ah
theorem ajC:aU P HY 136:=ct fun⟨⟨n,k⟩,t,_⟩ K hn=>by
 have h1:n<2^40:=hn.1
 have h2:∀i,i<n+1->Sz (jB k t (gY k t n) i) 2000:=hn.2
 exact sP (u:=bD (jB k t (gY k t n)) (n+1) 2002) (l:=[]) (aag bz bz (by decide) h1 K) (fun h=>trivial) rfl rfl (fB fun i hi=>dU rfl (h2 i hi))
theorem wk:bq P lZ:=cz (aI Mt (aI ajC (aI aed (aI Sr iN))))
structure sM (n p:Nat) (k:Nat->Rat) (t:Rat) (r:Nat):Prop where
 kn:Kn (n+r) p (ee k n t r)
 tm:bW (ee k n t r) t (n+r)=bW k t n+r
 f0:ee k n t r 0=k 0
 fl:ee k n t r (n+r-1)=k (n-1)
 sd:∀i,Sz (ee k n t r i) 60
theorem Z6 {k:Nat->Rat} {t:Rat} {q:Nat} (hk:∀i,Sz (k i) 60) (ht:Sz t 60) (i:Nat):Sz (dg k t q i) 60:=by
 unfold dg
 split
 ·exact hk _
 ·split
  ·exact ht
  ·exact hk _
theorem ON {n p:Nat} {k:Nat->Rat} {t:Rat} (h:Kn n p k) (h0:k 0<t) (h1:t<k (n-1)) (kd:∀i,Sz (k i) 60) (ht:Sz t 60):∀{r:Nat},bW k t n+r<=p->sM n p k t r
 |0,_=>⟨h,rfl,rfl,rfl,kd⟩
 |r+1,hr=>by
  obtain⟨a1,a2,a3,a4,a5⟩:=ON h h0 h1 kd ht (r:=r) aa
  have g0:ee k n t r 0<t:=by rw[a3];exact h0
  have g1:t<ee k n t r (n+r-1):=by rw[a4];exact h1
  obtain⟨i1,i2,i3⟩:=qF a1 g0 g1
  have e:ee k n t (r+1)=dg (ee k n t r) t (bL (n+r) (ee k n t r) t+1):=rfl
  generalize bL (n+r) (ee k n t r) t=a at*
  generalize ee k n t r=K at*
  have tm:=DX (k:=K) (t:=t) (q:=a+1) (m:=n+r-(a+1))
  rw[show a+1+1+(n+r-(a+1))=n+(r+1) by omega,show a+1+(n+r-(a+1))=n+r by omega]at tm
  have hK:=a1.dg g0 g1 i1 i2 i3 aa
  refine⟨?_,?_,?_,?_,?_⟩
  ·rw[e];exact hK
  ·rw[e,tm,a2];rfl
  ·rw[e,gv aa,a3]
  ·rw[e,show n+(r+1)-1=n+r by omega,hH aa,a4]
  ·rw[e];exact Z6 a5 ht
theorem sM.next {n p r:Nat} {k:Nat->Rat} {t:Rat} (h:sM n p k t r) (h0:k 0<t) (h1:t<k (n-1)):jB (ee k n t r) t (gY (ee k n t r) t (n+r))=ee k n t (r+1):=by
 obtain⟨a1,a2,a3,a4,a5⟩:=h
 obtain⟨i1,i2,i3⟩:=qF a1 (by rw[a3];exact h0) (by rw[a4];exact h1)
 rw[afi a1.sorted i1 i2 i3];rfl
theorem Rf {c:Cu} {a b:Rat} {n f l j:Nat} {k:Nat->Rat} {cx:Ctx} {Q:aq->aK->Prop} (hk:Kept [] cx) (hc:Kn c.n c.p.toNat c.k) (hp1:1<=c.p) (hp6:c.p<=6) (hcn:c.n<2^28) (hcm:c.m<2^28) (hn:n<2^28) (hpn:c.p+1<=n) (hf:e9 (iX a k) n=f) (hl:e9 (jf b k) n=l) (h1:c.p.toNat+1<=f) (h2:f<=l) (h3:l+c.p.toNat+1<=n)
  (hQ:∀e s',dH cx (Fin T f56 (dD (xF (mG c n k) a b f l) sK sB)) e s'->Q e s'):ax P cx f56.ntmps s4 ⟨aA oN (q9 a b n k j),ri c,2⟩ Q:=by
 have hv:∀{rl:List (Nat×Nat)} {k x y y':Nat},bC rl k=some x->y=y'->ia rl (.agg [.int .i64 c.p,.own x 3 0 y,.nil]) (.agg [.int .i64 c.p,.own k 3 0 y',.nil]):=fun h e=>nF ⟨aL,⟨rfl,cP h rfl e⟩,aL,trivial⟩
 refine ax.lQ hT wk hm (x:=s4) [1,1,1,1,1,0,1] (i:=4) (y:=part s4 [1,1,1,1,1,0,1,0,0]) (z:=rE) ah ah ah ah hk (f1:=[]) (f2:=[69]) 60 yh 5
  (fun i:Nat=>Fq c.p a b n k f l i) (fun i=>vF c (mG c n k) (fun _=>a) i) (fun i=>i<=c.p.toNat+1) (fun i=>i=c.p.toNat+1) (fun i=>c.p.toNat+1-i) (fun _=>False) ⟨_,TF,?_⟩ (fun i hi=>⟨_,XC,?_⟩) (fun i hi=>?_) (fun _ _ h=>h.elim)
 ·have e1:e9 (iX a fun i=>aE (rat (k i) 2000)) n=f:=hf
  have e2:e9 (jf b fun i=>aE (rat (k i) 2000)) n=l:=hl
  simp only[ag.all,az,e1,e2]
  refine⟨⟨aa,bI (by decide),BS (by decide),bI (by decide),hc,hp1,hp6,aa,aa,aa,hpn,aa⟩,⟨aa,aa⟩,⟨bI bz,aa,aa,aa,aa⟩,⟨bI bz,aa,aa,aa⟩,⟨aa,aa⟩,0,Nat.zero_le _,[(0,0),(1,1),(2,12290),(3,20482)],rfl,rfl,rfl,ko rfl aa aa (dh rfl rfl (nF ⟨aL,⟨rfl,qc aa⟩,aL,trivial⟩) (aM (aM (aM trivial))))⟩
 ·simp only[ag.all,az,bk,bt,bf]
  refine⟨fun h=>⟨⟨aa,aa,aa,aa⟩,aa,i+1,aa,by dsimp only;omega,[(0,0),(1,1),(2,2),(3,3),(4,20485)],rfl,rfl,rfl,b7 rfl rfl rfl (fun q hq=>v9 (y:=fun _=>a) (fun _ _=>rfl) rfl bz bz hq) (dh rfl rfl (hv rfl rfl) (aM (aM (aM trivial))))⟩,fun h=>⟨rfl,i,aa,[(0,0),(1,1),(2,2),(3,3),(4,4)],rfl,rfl,rfl,dQ (dh rfl rfl (hv rfl rfl) (aM (aM (aM trivial))))⟩⟩
 ·subst hi
  refine ax.lQ hT wk hm (x:=rE) [1,0,1] (i:=6) (y:=part rE [1,0,1,0,0]) (z:=part rE [1,1]) ah ah ah ah hk (f1:=[]) (f2:=[90]) 60 wL 5
   (fun i:Nat=>Dd c.p b f l i) (fun i=>vF c (mG c n k) (jw c.p.toNat a b k f l) (c.p.toNat+1+(l-f)+i)) (fun i=>i<=c.p.toNat+1) (fun i=>i=c.p.toNat+1) (fun i=>c.p.toNat+1-i) (fun _=>False) ⟨_,UW,?_⟩ (fun i hi=>⟨_,VI,?_⟩) (fun i hi=>?_) (fun _ _ h=>h.elim)
  ·simp only[ag.all,az,bf]
   have e1:((f:Int)-1+1).toNat=f:=aa
   simp only[e1]
   refine⟨⟨aa,aa,aa,aa,aa⟩,⟨aa,aa⟩,0,Nat.zero_le _,[(0,0),(1,1),(2,2),(3,3),(4,28677)],rfl,rfl,rfl,b7 rfl rfl rfl (fun q hq=>cR (th rfl rfl) ?_) (dh rfl rfl (hv rfl rfl) (aM (aM (aM trivial))))⟩
   have hq:q<c.p.toNat+1+(l-f)+0:=hq
   unfold jw
   by_cases c1:q<c.p.toNat+1
   ·rw[if_pos c1,if_pos c1]
   ·rw[if_neg c1,if_neg c1,if_pos aa,Nat.add_comm]
  ·simp only[ag.all,az,bk,bt,bf]
   refine⟨fun h=>⟨⟨aa,aa,aa,aa⟩,aa,i+1,aa,by dsimp only;omega,[(0,0),(1,1),(2,2),(3,3),(4,20485)],rfl,rfl,rfl,b7 rfl rfl rfl (fun q hq=>v9 (y:=jw c.p.toNat a b k f l) (fun _ _=>rfl) ?_ bz bz hq) (dh rfl rfl (hv rfl rfl) (aM (aM (aM trivial))))⟩,fun h=>⟨rfl,i,aa,[(0,0),(1,1),(2,2),(3,3),(4,4)],rfl,rfl,rfl,dQ (dh rfl rfl (hv rfl rfl) (aM (aM (aM trivial))))⟩⟩
   unfold jw
   rw[if_neg aa,if_neg aa]
  ·subst hi
   refine ax.gZ ((aG.fin hT wk hm 60 aak ah ?_).mono fun _ _ h=>hQ _ _ (.inl h))
   simp only[ag.all,az,bf]
   have e1:((f:Int)-1-c.p).toNat=f-1-c.p.toNat:=aa
   have e2:(mG c n k).m=n-c.p.toNat-1:=rfl
   simp only[e1,e2]
   refine⟨⟨aa,aa,aa,aa,aa⟩,⟨aa,aa⟩,aa,cL ⟨.refl _,fB fun i hi=>cB rfl (by decide),tu rfl fun i _=>?_,trivial⟩⟩
   show bV (jF c n k (i+(f-1-c.p.toNat))) sB=bV (jF c n k (f-1-c.p.toNat+i)) sB
   rw[Nat.add_comm]
abbrev zz (z:Nat->Int):Nat->AV:=fun i=>.int .i64 (z i)
def g8 (k:Nat->Rat) (n:Nat):Nat->Nat
 |0=>0
 |i+1=>g8 k n i+if i+1=n\/k i≠k (i+1)then 1 else 0
def sr (k:Nat->Rat) (n:Nat):Nat->Nat->Rat
 |0,_=>0
 |i+1,q=>if q<i+g8 k n i then sr k n i q else k i
section
variable {k:Nat->Rat} {n:Nat}
theorem YV {i:Nat} (h:i+1=n\/k i≠k (i+1)):g8 k n (i+1)=g8 k n i+1:=by rw[g8,if_pos h]
theorem XV {i:Nat} (h:¬(i+1=n\/k i≠k (i+1))):g8 k n (i+1)=g8 k n i:=by rw[g8,if_neg h];rfl
theorem F5 {i:Nat}:g8 k n i<=g8 k n (i+1)/\g8 k n (i+1)<=g8 k n i+1:=by
 rw[g8];split<;>omega
theorem K9 {i:Nat}:∀{j:Nat},i<=j->g8 k n i<=g8 k n j
 |0,h=>by rw[show i=0 by omega];exact Nat.le_refl _
 |j+1,h=>by
  by_cases e:i=j+1
  ·rw[e];exact Nat.le_refl _
  ·exact Nat.le_trans (K9 (j:=j) (by omega)) F5.1
theorem BL {i q:Nat}:∀{m:Nat},i<m->i+g8 k n i<=q->q<i+1+g8 k n (i+1)->sr k n m q=k i
 |0,h,_,_=>by omega
 |m+1,h,h1,h2=>by
  by_cases e:i=m
  ·subst e;rw[sr,if_neg (by omega)]
  ·have:=K9 (k:=k) (n:=n) (show i+1<=m by omega)
   rw[sr,if_pos (by omega),BL (m:=m) (by omega) h1 h2]
end
end Go.Am.B
namespace Go.Am.B
open Go Go.Am.N AV ag aq IntKind Proofs.Tryz
def er:Nat:=8589934592
abbrev kB (c:Cu):Cu:=⟨c.p,c.n,c.k,c.m,fun i=>bM (c.f i)⟩
theorem aff {c:Cu} {P j e:Nat} {K:Nat->Rat} (hc:Kn c.n c.p.toNat c.k) (hp1:1<=c.p) (hm2:(c.m:Int)=(c.n:Int)-c.p-1) (hA:At c.n c.k P):
  jo c (P:Nat) c.p.toNat (fun i=>K (i+(j+1))) e=eI c.k c.p.toNat (fun i=>ck (c.f i) e) P (bZ K (j+1) c.p.toNat):=by
 obtain⟨w1,w2⟩:=hc.wide hA
 have hw:=hA.wide
 have hE:jh c.n c.k c.p.toNat c.m c.p.toNat (P:Nat)=0:=IB aa rfl (by
  rw[bf]
  rintro(h|h|h)
  ·omega
  ·omega
  ·exact absurd h (Rat.not_le.2 hw))
 unfold jo nL
 rw[if_pos hE,bf,Nr]
 have e1:bZ (fun i=>K (i+(j+1))) 0 c.p.toNat=bZ K (j+1) c.p.toNat:=by
  have:=Ll (k:=K) (c:=j+1) (l:=c.p.toNat) (a:=0)
  rw[Nat.add_zero]at this
  rw[<-this]
  exact um fun i _ _=>by rw[Nat.add_comm i (j+1)]
 rw[e1];rfl
def KC:Spec:=cA (kC (FI er) kN) (fun a=>bJ (dJ a.1) (er+er)) fun _=>[]
theorem Ya:aU P KC 115:=ct fun⟨h,_⟩ K _=>EM (by decide) (by decide) (by decide) K
theorem IC:aW 54 f54:=aT func54
abbrev xB:Code:=aF f54
abbrev yT:Code:=part xB [1,1,1,0,1,0,0]
abbrev ym:Code:=part yT [1,1,0,0]
abbrev tT:List Nat:=[4,1,5,6,20,21,22]
abbrev tX (w:AV) (s:Sf) (j:Nat):List AV:=[.ptr 0 0 5 0 [],w,.ptr 1 0 5 0 [],.own 2 1 0 j,lD s s.m,.int .i64 s.m,.int .i64 j]
abbrev oc (s:Sf) (u:Int) (a:Nat) (k:Nat->Rat) (n:Nat) (g:Nat->Nat->Pl) (j:Nat):aC:=[(2,⟨true,true,1,j,fun j=>aZ (g j) n (er+er)⟩),(1,⟨false,true,5,1,fun _=>.agg [.int .i64 u,.int .i64 s.v,bD k a 4200,bD s.kv s.b 4200,.nil]⟩),(0,⟨false,true,5,1,fun _=>.agg [.int .i64 0,.int .i64 0,.nil,.nil,.nil]⟩)]
abbrev wI:List Nat:=[4,1,5,6,20,21,22,10,37,38,39]
abbrev En (w:AV) (s:Sf) (n:Nat) (h:Nat->Pl) (j i:Nat):List AV:=[.ptr 0 0 5 0 [],w,.ptr 1 0 5 0 [],.own 2 1 0 j,lD s s.m,.int .i64 s.m,.int .i64 j,.own 3 12 0 i,qD h n er,.int .i64 n,.int .i64 i]
abbrev AK (s:Sf) (u:Int) (a:Nat) (k:Nat->Rat) (n:Nat) (h:Nat->Pl) (g:Nat->Nat->Pl) (j i:Nat):aC:=(3,⟨true,true,12,i,fun i=>bJ (dJ (h i)) (er+er)⟩)::oc s u a k n g j
def nE {α:Type} (a b:α):Nat->α
 |0=>a
 |_+1=>b
theorem agj {α:Type} {a b:α}:∀{n:Nat},1<=n->nE a b n=b
 |0,h=>absurd h aa
 |_+1,_=>rfl
def rC (x:Rat):Prop:=∃z:Int,x=(z:Rat)/2/\-4<=z/\z<=28
theorem Al {z:Int}:(z:Rat)/2*55440=((27720*z:Int):Rat):=by
 rw[Rat.intCast_mul,Rat.div_def,show((27720:Int):Rat)=2⁻¹*55440 by decide+kernel];grind
theorem rC.Ar {x:Rat} (h:rC x):fC x:=by
 obtain⟨z,e,h1,h2⟩:=h
 exact⟨27720*z,by rw[e,Al],aa,aa⟩
theorem NR {x y:Int} {k:Nat} (hx:x.natAbs<2^k) (hy:y≠0) (hy2:y.natAbs<2^k):Sz ((x:Rat)/(y:Rat)) k:=by
 rw[<-DY hy];exact B0 aa hx hy2
theorem Cr {n:Nat} {f:Nat->AV} {a:Int}:Sz (gD n f a) 3:=by
 have a1:=gJ (n:=n) (f:=f) (a:=a) (m:=13) aa
 have a2:=gT (n:=n) (f:=f) (a:=a) (m:=13) aa
 have b1:=gJ (n:=n) (f:=f) (a:=aR n (aR n a)) (m:=4) aa
 have b2:=gT (n:=n) (f:=f) (a:=aR n (aR n a)) (m:=4) aa
 unfold gD
 split
 ·exact NR aa aa aa
 ·exact ke aa (by decide)
theorem agI {d:Int}:∃q:Int,gN d*27720=(q:Rat)/\0<=q/\q<=27720:=by
 have hv0:=Int.emod_nonneg (i64.wrap (d.tdiv 17)) (show(12:Int)≠0 by omega)
 have hv1:=Int.emod_lt_of_pos (i64.wrap (d.tdiv 17)) (show(0:Int)<12 by omega)
 obtain⟨v,hv⟩:∃v,v=qJ d:=⟨_,rfl⟩
 have hv2:1<=v/\v<=12:=by rw[hv];unfold qJ;omega
 have hu0:=Int.emod_nonneg d (show v+1≠0 by omega)
 have hu1:=Int.emod_lt_of_pos d (show 0<v+1 by omega)
 unfold gN
 rw[<-hv]
 generalize d%(v+1)=u at*
 obtain⟨w,hw⟩:∃w:Int,v*w=27720:=by
  rcases(show v=1\/v=2\/v=3\/v=4\/v=5\/v=6\/v=7\/v=8\/v=9\/v=10\/v=11\/v=12 by omega)with h|h|h|h|h|h|h|h|h|h|h|h<;>subst h
  ·exact⟨27720,rfl⟩
  ·exact⟨13860,rfl⟩
  ·exact⟨9240,rfl⟩
  ·exact⟨6930,rfl⟩
  ·exact⟨5544,rfl⟩
  ·exact⟨4620,rfl⟩
  ·exact⟨3960,rfl⟩
  ·exact⟨3465,rfl⟩
  ·exact⟨3080,rfl⟩
  ·exact⟨2772,rfl⟩
  ·exact⟨2520,rfl⟩
  ·exact⟨2310,rfl⟩
 have hw0:0<=w:=by
  by_cases c:0<=w
  ·exact c
  ·have:=Int.mul_le_mul_of_nonneg_left (show w<=-1 by omega) (show 0<=v by omega)
   omega
 refine⟨u*w,?_,Int.mul_nonneg hu0 hw0,?_⟩
 ·have hvr:(v:Rat)≠0:=by
   intro e
   have:v=0:=Rat.intCast_inj.1 (e:(v:Rat)=((0:Int):Rat))
   omega
  have e:(27720:Rat)=(v:Rat)*(w:Rat):=by rw[<-Rat.intCast_mul,hw];rfl
  rw[e,Rat.intCast_mul,Rat.div_def]
  have:(u:Rat)*(v:Rat)⁻¹*((v:Rat)*(w:Rat))=(u:Rat)*(((v:Rat)*(v:Rat)⁻¹)*(w:Rat)):=by grind
  rw[this,Rat.mul_inv_cancel _ hvr,Rat.one_mul]
 ·have:=Int.mul_le_mul_of_nonneg_right (show u<=v by omega) hw0
  omega
theorem Qm {x y:Rat} {d:Int} (hx:rC x) (hy:rC y) (hxy:x<=y):fC (x+gN d*(y-x)):=by
 obtain⟨z0,e0,a1,a2⟩:=hx
 obtain⟨z1,e1,b1,b2⟩:=hy
 obtain⟨q,hq,q1,q2⟩:=agI (d:=d)
 have o:27720*z0<=27720*z1:=fC.order (by rw[<-Al,e0]) (by rw[<-Al,e1]) hxy
 have n1:=Int.mul_nonneg q1 (show 0<=z1-z0 by omega)
 have n2:=Int.mul_le_mul_of_nonneg_right q2 (show 0<=z1-z0 by omega)
 refine⟨27720*z0+q*(z1-z0),?_,aa,aa⟩
 rw[Rat.intCast_add,Rat.intCast_mul q,Rat.intCast_sub,<-hq,<-Al,e0,e1]
 have e2:(z0:Rat)/2=(z0:Rat)*(1/2):=by rw[Rat.div_def,show((2:Rat)⁻¹)=1/2 by decide+kernel]
 have e3:(z1:Rat)/2=(z1:Rat)*(1/2):=by rw[Rat.div_def,show((2:Rat)⁻¹)=1/2 by decide+kernel]
 rw[e2,e3]
 grind
open Go IntKind
def LQ:Int:=144403552893600
theorem Zz:∀v:Nat,v<33->v≠0->v∣144403552893600:=by decide
theorem B8 {v:Int} (h:v.natAbs<33) (h0:v≠0):∃w:Int,LQ=v*w/\w.natAbs<=144403552893600:=by
 obtain⟨w,e⟩:=Zz v.natAbs h aa
 have hw:w<=144403552893600:=by
  rw[e];exact Nat.le_mul_of_pos_left _ aa
 rcases Int.natAbs_eq v with g|g
 ·refine⟨w,?_,by simpa using hw⟩
  rw[g]
  show(144403552893600:Int)=((v.natAbs:Nat):Int)*((w:Nat):Int)
  rw[<-Int.natCast_mul,<-e];rfl
 ·refine⟨-(w:Int),?_,by simpa using hw⟩
  rw[g]
  show(144403552893600:Int)=-((v.natAbs:Nat):Int)*(-((w:Nat):Int))
  rw[Int.neg_mul_neg,<-Int.natCast_mul,<-e];rfl
def og (t:Rat):Prop:=∃z:Int,t=(z:Rat)/2/\-4<=z/\z<=28
def gB (r:Nat) (x:Rat):Prop:=∃z:Int,(z:Rat)=x*((LQ^(r+1):Int):Rat)/\z.natAbs<=2^(53+54*r)
theorem XH {r:Nat}:((LQ^r:Int):Rat)≠0:=fun h=>by
 have h:((LQ^r:Int):Rat)=((0:Int):Rat):=h
 have:=Rat.intCast_inj.1 h
 exact absurd this (Int.pow_ne_zero (by decide))
theorem gB.sz {r:Nat} {x:Rat} (h:gB r x):Sz x (102+102*r):=by
 obtain⟨z,e,b⟩:=h
 have hx:x=(z:Rat)/((LQ^(r+1):Int):Rat):=by rw[e,Rat.div_def,Rat.mul_assoc,Rat.mul_inv_cancel _ XH,Rat.mul_one]
 rw[hx]
 have s1:Sz (z:Rat) (54+54*r):=ke (Nat.lt_of_le_of_lt b (Nat.pow_lt_pow_right (by decide) aa)) aa
 have s2:Sz ((LQ^(r+1):Int):Rat) (48*(r+1)):=ke (by
  rw[Int.natAbs_pow,Nat.pow_mul]
  exact Nat.pow_lt_pow_left (by decide) aa) aa
 exact(s1.div s2).more aa
theorem gB.up {r:Nat} {x:Rat} (h:gB r x):gB (r+1) x:=by
 obtain⟨z,e,b⟩:=h
 refine⟨z*LQ,?_,?_⟩
 ·rw[Rat.intCast_mul,e,Int.pow_succ LQ (r+1),Rat.intCast_mul,Rat.mul_assoc]
 ·rw[Int.natAbs_mul,show 53+54*(r+1)=(53+54*r)+54 by omega,Nat.pow_add]
  exact Nat.mul_le_mul b (by decide)
theorem gB.pG {x:Rat} (h:Sz x 5):gB 0 x:=by
 obtain⟨h1,h2⟩:=h
 obtain⟨w,e,hw⟩:=B8 (v:=(x.den:Int)) (by simpa using by omega) (by have:=x.den_nz;omega)
 refine⟨x.num*w,?_,?_⟩
 ·rw[show LQ^(0+1)=(x.den:Int)*w by rw[<-e];rfl,Rat.intCast_mul,Rat.intCast_mul,<-Rat.mul_assoc]
  congr 1
  have hd:((x.den:Int):Rat)≠0:=by exact_mod_cast x.den_nz
  have hx:x=(x.num:Rat)/((x.den:Int):Rat):=by rw[<-Rat.divInt_eq_div,Rat.num_divInt_den]
  have key:x*((x.den:Int):Rat)=(x.num:Rat):=by
   conv=>lhs;lhs;rw[hx]
   exact Rat.div_mul_cancel hd
  exact key.symm
 ·rw[Int.natAbs_mul]
  exact Nat.le_trans (Nat.mul_le_mul (show x.num.natAbs<=32 by omega) hw) (by decide)
theorem gB.mix {r:Nat} {x y a b t:Rat} (ha:og a) (hb:og b) (ht:og t) (hx:gB r x) (hy:gB r y):gB (r+1) (x+fr a b t*(y-x)):=by
 obtain⟨za,a1,a2,a3⟩:=ha
 obtain⟨zb,b1,b2,b3⟩:=hb
 obtain⟨zt,t1,t2,t3⟩:=ht
 have e1:b-a=((zb-za:Int):Rat)/2:=by rw[a1,b1,Rat.intCast_sub,Rat.div_def,Rat.div_def,Rat.div_def];grind
 have e2:t-a=((zt-za:Int):Rat)/2:=by rw[a1,t1,Rat.intCast_sub,Rat.div_def,Rat.div_def,Rat.div_def];grind
 by_cases hv:zb-za=0
 ·have:fr a b t=0:=by
   unfold fr
   rw[e1,hv,Rat.div_def,show((0:Int):Rat)/2=0 by decide+kernel,Rat.inv_zero,Rat.mul_zero]
  rw[this,Rat.zero_mul,Rat.add_zero]
  exact hx.up
 ·have hvq:((zb-za:Int):Rat)≠0:=fun h=>hv (Rat.intCast_inj.1 (show((zb-za:Int):Rat)=((0:Int):Rat)from h))
  have hf:fr a b t*((zb-za:Int):Rat)=((zt-za:Int):Rat):=by
   unfold fr
   have hn:b-a≠0:=by
    rw[e1]
    intro h
    apply hvq
    have:((zb-za:Int):Rat)=((zb-za:Int):Rat)/2*2:=by rw[Rat.div_mul_cancel (by decide)]
    rw[this,h,Rat.zero_mul]
   have h2:((zb-za:Int):Rat)=(b-a)*2:=by rw[e1,Rat.div_mul_cancel (by decide)]
   have h3:((zt-za:Int):Rat)=(t-a)*2:=by rw[e2,Rat.div_mul_cancel (by decide)]
   rw[h2,h3,<-Rat.mul_assoc,Rat.div_mul_cancel hn]
  obtain⟨w,hw,wb⟩:=B8 (v:=zb-za) aa hv
  obtain⟨zx,x1,x2⟩:=hx
  obtain⟨zy,y1,y2⟩:=hy
  refine⟨zx*LQ+(zt-za)*w*(zy-zx),?_,?_⟩
  ·have hL:fr a b t*(LQ:Rat)=(((zt-za)*w:Int):Rat):=by
    rw[hw,Rat.intCast_mul,Rat.intCast_mul,<-Rat.mul_assoc,hf]
   rw[Rat.intCast_add,Rat.intCast_mul,Rat.intCast_mul ((zt-za)*w),<-hL,Rat.intCast_sub,x1,y1,Int.pow_succ LQ (r+1),Rat.intCast_mul]
   generalize ((LQ^(r+1):Int):Rat)=m
   generalize (LQ:Rat)=l
   generalize fr a b t=f
   grind
  ·have c1:(zy-zx).natAbs<=2^(53+54*r)+2^(53+54*r):=aa
   have c2:((zt-za)*w).natAbs<=32*144403552893600:=by
    rw[Int.natAbs_mul];exact Nat.mul_le_mul aa wb
   have c3:((zt-za)*w*(zy-zx)).natAbs<=32*144403552893600*(2^(53+54*r)+2^(53+54*r)):=by
    rw[Int.natAbs_mul];exact Nat.mul_le_mul c2 c1
   have c4:(zx*LQ).natAbs<=2^(53+54*r)*144403552893600:=by
    rw[Int.natAbs_mul];exact Nat.mul_le_mul x2 bz
   have c5:=Int.natAbs_add_le (zx*LQ) ((zt-za)*w*(zy-zx))
   rw[show 53+54*(r+1)=(53+54*r)+54 by omega,Nat.pow_add]
   generalize 2^(53+54*r)=B at*
   omega
theorem Gt {f:Nat->Rat} {C:Rat->Prop} (h:∀i,C (f i)):∀{l a:Nat},∀t∈bZ f a l,C t
 |0,_,t,ht=>by simp[bZ]at ht
 |l+1,a,t,ht=>by
  rw[bZ,List.mem_cons]at ht
  rcases ht with rfl|ht
  ·exact h a
  ·exact Gt h t ht
open Go Go.Am.N AV ag aq IntKind Proofs.Tryz
theorem Bz {t:Rat} (h:rC t):og t:=h
theorem mF.aW {c:Cu} (h:mF c 5) (e:Nat) (i:Nat):gB 0 (ck (bM (c.f i)) e):=by
 match e with
 |0=>exact gB.pG (h.sx i)
 |1=>exact gB.pG (h.sy i)
 |2=>exact gB.pG (h.sz i)
 |e+3=>exact gB.pG (h.sd i)
structure NV (c:Cu):Prop where
 d:mF c 20
 h:∀i,rC (c.k i)
 q:∀i e,gB 0 (ck (bM (c.f i)) e)
abbrev eE (s:Sf) (j:Nat):Cu:=⟨s.u,s.a,s.ku,s.n,fun i=>s.f i j⟩
abbrev af1 (s:Sf) (i:Nat):Cu:=⟨s.v,s.b,s.kv,s.m,fun j=>s.f i j⟩
structure jW (s:Sf):Prop where
 ok:de s
 z:ny s
 c:∀j,NV (eE s j)
 r:∀i,NV (af1 s i)
 lI:s.a<=20
 nq:s.b<=20
def Gh:Sf:=⟨0,0,0,fun _=>0,0,fun _=>0,0,0,fun _ _=>⟨⟨0,0,0⟩,0⟩⟩
def lT (F:Cu->Cu) (s:Sf):Sf:=⟨(F (eE s 0)).p,s.v,(F (eE s 0)).n,(F (eE s 0)).k,s.b,s.kv,(F (eE s 0)).m,s.m,fun i j=>(F (eE s j)).f i⟩
def Dp:aX:=[(70,iZ T (nG::LJ) [200005] 60 f70)]
theorem OI:bq P Dp:=aI (jn hT (cz WG) hm (aT func70) _ _) bB
theorem Ms (s:Sf):(bp (bu s 2000 2000)).size=5:=ah
theorem WQ {x y:Nat}:bh (.agg [.int .i64 0,.int .i64 0,.nil,.nil,.nil]) (bu Gh x y):=cL ⟨.refl _,.refl _,iJ aa,iJ aa,iJ aa,trivial⟩
abbrev A9 (x:Sf):List Prop:=[bn (fun i=>.rat (x.ku i) 2000) x.a 2000,bn (fun i=>.rat (x.kv i) 2000) x.b 2000,dG (fun i=>aZ (x.f i) x.m 2000) x.n 2000]
abbrev oJ (x:Sf):List Prop:=A9 x++[x.n=0->x.m=0,x.a<2^28,x.b<2^28,x.n<2^28,x.m<2^28,ny x]
theorem jW.swap {s:Sf} (h:jW s):jW (fU s):=⟨h.ok.swap,h.z.swap,h.r,h.c,h.nq,h.lI⟩
theorem Qj {s:Sf} {l:List Prop} (h:az l):az (A9 s++l):=fD.2 ⟨⟨bI (by decide),bI (by decide),fc (by decide)⟩,h⟩
theorem KI {s:Sf} {l:List Prop} (h0:s.n=0->s.m=0) (h1:s.a<2^28) (h2:s.b<2^28) (h3:s.n<2^28) (h4:s.m<2^28) (hz:ny s) (h:az l):az (oJ s++l):=fD.2 ⟨⟨bI (by decide),bI (by decide),fc (by decide),h0,h1,h2,h3,h4,hz⟩,h⟩
theorem jW.oJ {s:Sf} {l:List Prop} (hs:jW s) (h:az l):az (oJ s++l):=by
 have k2:=(hs.c 0).d.kn.2.2.2.2
 have k3:=(hs.r 0).d.kn.2.2.2.2
 have k2:(s.n:Int)=(s.a:Int)-s.u-1:=k2
 have k3:(s.m:Int)=(s.b:Int)-s.v-1:=k3
 have lI:=hs.lI
 have nq:=hs.nq
 have u0:=hs.ok.u0
 have v0:=hs.ok.v0
 have la:=hs.ok.ku.len
 exact KI (fun h=>by have:=hs.ok.u6;omega) aa aa aa aa hs.z h
def acv (F:Cu->Cu) (s:Sf):Sf:=fU (lT F (fU s))
structure AQ (s t:Sf):Prop where
 u:s.u=t.u
 v:s.v=t.v
 a:s.a=t.a
 ku:∀i,i<s.a->s.ku i=t.ku i
 b:s.b=t.b
 kv:∀i,i<s.b->s.kv i=t.kv i
 n:s.n=t.n
 m:s.m=t.m
 f:∀i j,i<s.n->j<s.m->s.f i j=t.f i j
abbrev Fb:FuncId:=64
abbrev D3:Func:=f64
theorem agd:aW Fb D3:=aT func64
abbrev xO:Code:=aF D3
abbrev kg:List Nat:=[0,1,2,6,15,16,17]
theorem aan {d:Int}:0<=gN d/\gN d<=1:=by
 unfold gN
 have h1:1<=qJ d:=by
  unfold qJ
  have:=Int.emod_nonneg (i64.wrap (d.tdiv 17)) (show(12:Int)≠0 by omega)
  omega
 generalize qJ d=m at*
 have h2:=Int.emod_nonneg d (show m+1≠0 by omega)
 have h3:=Int.emod_lt_of_pos d (show 0<m+1 by omega)
 generalize d%(m+1)=x at*
 have e1:(0:Rat)<=(x:Rat):=by exact_mod_cast h2
 have e2:(x:Rat)<=(m:Rat):=by exact_mod_cast (show x<=m by omega)
 have e3:(0:Rat)<(m:Rat):=by exact_mod_cast (show 0<m by omega)
 have e4:(x:Rat)/(m:Rat)*(m:Rat)=(x:Rat):=Rat.div_mul_cancel (by intro h;rw[h]at e3;exact absurd e3 (by decide))
 generalize (x:Rat)/(m:Rat)=q at*
 generalize (x:Rat)=u at*
 generalize (m:Rat)=v at*
 refine⟨?_,?_⟩
 ·rcases Rat.le_total (a:=0) (b:=q)with h|h
  ·exact h
  ·by_cases hq:q=0
   ·rw[hq];exact Rat.le_refl
   ·have:=Rat.mul_pos (a:=-q) (b:=v) (by grind) e3
    grind
 ·rcases Rat.le_total (a:=q) (b:=1)with h|h
  ·exact h
  ·by_cases hq:q=1
   ·rw[hq];exact Rat.le_refl
   ·have:=Rat.mul_pos (a:=q-1) (b:=v) (by grind) e3
    grind
theorem BD {a b:Rat} {d:Int} (h:a<=b):a<=a+gN d*(b-a)/\a+gN d*(b-a)<=b:=by
 obtain⟨h1,h2⟩:=aan (d:=d)
 generalize gN d=q at*
 have e1:=Rat.mul_nonneg h1 (show 0<=b-a by grind)
 have e2:=Rat.mul_nonneg (show 0<=1-q by grind) (show 0<=b-a by grind)
 constructor<;>grind
theorem Kn.wh {n p:Nat} {k:Nat->Rat} (h:Kn n p k) {t:Rat} (hin:¬bQ n k t):Bv n k t (bL n k t):=by
 have h1:¬t<k 0:=fun h=>hin (.inl h)
 have h2:¬k (n-1)<t:=fun h=>hin (.inr h)
 exact(h.CP (by grind) (by grind)).1
theorem Kn.ends {n p:Nat} {k:Nat->Rat} (h:Kn n p k):k 0<k (n-1):=by
 have h1:=h.p1
 have hl:=h.len
 have:=h.mult 1 aa aa
 have e1:=h.mono (show 0<=1 by omega) (show 1<n by omega)
 have e2:=h.mono (show 1+p<=n-1 by omega) (show n-1<n by omega)
 grind
theorem Bs {n:Nat} {k:Nat->Rat} {a b:Rat} {i:Nat}:nW n k a b i=a+(k i-k 0)*((k (n-1)-k 0)⁻¹*(b-a)):=by
 unfold nW;rw[Rat.div_def];grind
theorem Kn.aaJ {n p:Nat} {k:Nat->Rat} {a b:Rat} (h:Kn n p k) (hab:a<b):Kn n p (nW n k a b):=by
 have he:=h.ends
 have hp:0<(k (n-1)-k 0)⁻¹*(b-a):=Rat.mul_pos (Rat.inv_pos.2 (by grind)) (by grind)
 have key:∀i j,k i<=k j->nW n k a b i<=nW n k a b j:=fun i j hij=>by
  rw[Bs,Bs]
  have:=Rat.mul_le_mul_of_nonneg_right (show k i-k 0<=k j-k 0 by grind) (Rat.le_of_lt hp)
  grind
 have keyL:∀i j,k i<k j->nW n k a b i<nW n k a b j:=fun i j hij=>by
  rw[Bs,Bs]
  have:=Rat.mul_lt_mul_of_pos_right (show k i-k 0<k j-k 0 by grind) hp
  grind
 have keyE:∀i j,k i=k j->nW n k a b i=nW n k a b j:=fun i j hij=>by unfold nW;rw[hij]
 exact⟨h.p1,h.len,fun i hi=>key _ _ (h.sorted i hi),fun i hi=>keyE _ _ (h.first i hi),fun i h2 h3=>keyE _ _ (h.last i h2 h3),fun i h2 h3=>keyL _ _ (h.mult i h2 h3)⟩
def Src (k:Nat->Rat) (n Q i:Nat):Prop:=i<n/\i+g8 k n i<=Q/\Q<i+1+g8 k n (i+1)
theorem Src.val {k:Nat->Rat} {n Q i:Nat} (h:Src k n Q i):sr k n n Q=k i:=BL h.1 h.2.1 h.2.2
theorem Src.next {k:Nat->Rat} {n Q i:Nat} (h:Src k n Q i) (hQ:Q+1<n+g8 k n n):Src k n (Q+1) i\/(Src k n (Q+1) (i+1)/\Q+1=i+1+g8 k n (i+1)):=by
 obtain⟨h1,h2,h3⟩:=h
 by_cases c:Q+1<i+1+g8 k n (i+1)
 ·exact .inl ⟨h1,by omega,c⟩
 ·have hlt:i+1<n:=by
   by_cases e:i+1<n
   ·exact e
   ·have:i+1=n:=by omega
    rw[this]at c
    omega
  have:=(F5 (k:=k) (n:=n) (i:=i+1)).1
  exact .inr ⟨⟨hlt,by omega,by omega⟩,by omega⟩
theorem Src.last {k:Nat->Rat} {n Q i:Nat} (h:Src k n Q i) (hQ:Q+2<n+g8 k n n) (hw:sr k n n (Q+1)≠sr k n n (Q+2)):Src k n (Q+1) i:=by
 rcases h.next (by omega)with h|⟨h,e⟩
 ·exact h
 ·exfalso
  have hv:=h.val
  obtain⟨h1,h2,h3⟩:=id h
  by_cases c:i+1+1=n\/k (i+1)≠k (i+1+1)
  ·have:=YV (k:=k) c
   exact hw (by rw[hv];exact(BL (k:=k) h1 (by omega) (by omega)).symm)
  ·have hg:=XV (k:=k) c
   have h4:k (i+1)=k (i+1+1):=Classical.not_not.1 fun g=>c (.inr g)
   have:=(F5 (k:=k) (n:=n) (i:=i+1+1)).1
   exact hw (by rw[hv,h4];exact(BL (k:=k) (i:=i+1+1) (by omega) (by omega) (by omega)).symm)
section
variable {k:Nat->Rat} {b p:Nat}
end
end Go.Am.B
namespace Go.Am.B
open Go Go.Am.N AV ag aq IntKind Proofs.Tryz
theorem DQ {k k':Nat->Rat} {b b' p:Nat} (h:∀i,1<=i->k' (b'+i)=k (b+i)):∀{l:List Rat} {r:Nat} {x:Nat->Rat},bl k' b' p r x l=bl k b p r x l
 |[],_,_=>rfl
 |t::l,r,x=>by
  rw[bl,bl,DQ h (l:=l)]
  congr 1
  funext j
  unfold gm
  split
  ·rw[h j aa,Nat.add_assoc,h (j+(p-r)) aa,Nat.add_assoc]
  ·rfl
theorem HT {k:Nat->Rat} {v:Rat}:∀{l a:Nat},(∀i,a<=i->i<a+l->k i=v)->bZ k a l=List.replicate l v
 |0,_,_=>rfl
 |l+1,a,h=>by
  rw[bZ,h a (Nat.le_refl _) (by omega),HT fun i h1 h2=>h i (by omega) (by omega)];rfl
theorem aih {a b t α β:Rat} (hα:α≠0):fr (α*a+β) (α*b+β) (α*t+β)=fr a b t:=by
 unfold fr
 rw[show α*t+β-(α*a+β)=α*(t-a) by grind,show α*b+β-(α*a+β)=α*(b-a) by grind]
 by_cases h:b-a=0
 ·rw[h,Rat.mul_zero,Rat.div_def,Rat.div_def,Rat.inv_zero,Rat.mul_zero,Rat.mul_zero]
 ·have hne:α*(b-a)≠0:=fun e=>(Rat.mul_eq_zero.1 e).elim hα h
  have e1:α*(t-a)/(α*(b-a))*(α*(b-a))=α*(t-a):=Rat.div_mul_cancel hne
  have e2:(t-a)/(b-a)*(b-a)=t-a:=Rat.div_mul_cancel h
  generalize α*(t-a)/(α*(b-a))=q at*
  generalize (t-a)/(b-a)=r at*
  have:(q-r)*(α*(b-a))=0:=by grind
  rcases Rat.mul_eq_zero.1 this with g|g
  ·grind
  ·exact absurd g hne
theorem LZ {k k':Nat->Rat} {α β:Rat} (hα:α≠0) {b p:Nat} (hk:∀i,b<i->i<=b+p+p->k' i=α*k i+β):∀{l:List Rat} {r:Nat} {x y:Nat->Rat},r+l.length=p->(∀j,r<=j->j<=p->x j=y j)->bl k' b p r x (l.map fun t=>α*t+β) p=bl k b p r y l p
 |[],r,x,y,hl,h=>h p (by simp at hl;omega) (Nat.le_refl _)
 |t::l,r,x,y,hl,h=>by
  rw[List.map_cons,bl,bl]
  rw[List.length_cons]at hl
  refine LZ hα hk (by omega) fun j h1 h2=>?_
  unfold gm
  rw[if_pos (by omega),if_pos (by omega),hk _ (by omega) (by omega),hk _ (by omega) (by omega),aih hα,h j (by omega) h2,h (j-1) (by omega) (by omega)]
theorem WR {k k' x:Nat->Rat} {α β:Rat} {p P:Nat} (hα:α≠0) (w1:p<=P) (hk:∀i,P<i+p->i<=P+p->k' i=α*k i+β) {l:List Rat} (hl:l.length=p):eI k' p x P (l.map fun t=>α*t+β)=eI k p x P l:=
 LZ hα (fun i h1 h2=>hk i (by omega) (by omega)) (by omega) fun _ _ _=>rfl
theorem JS {k x y:Nat->Rat} {p P:Nat} {l:List Rat} (hl:l.length=p) (h:∀q,q<=p->x (P-p+q)=y (P-p+q)):eI k p x P l=eI k p y P l:=
 Cb aa fun j _ hj=>h j hj
theorem wO {f g:Nat->Rat}:∀{n:Nat},(∀j,j<n->f j=g j)->cj n f=cj n g
 |0,_=>rfl
 |n+1,h=>by rw[cj,cj,wO fun j hj=>h j aa,h n aa]
theorem Hu {k x:Nat->Rat} {p P:Nat} {t:Rat} (w1:p<=P):eI k p x P (List.replicate p t)=cj (p+1) fun j=>x (P-p+j)*vB k P t p j:=by
 have e:=adQ (k:=k) (b:=P-p) (p:=p) P aa t (x:=fun q=>x (P-p+q))
 rw[Nr,HT fun _ _ _=>rfl]at e
 exact e
theorem Du {n p P:Nat} {k x:Nat->Rat} {t:Rat} (h:Kn n p k) (hA:At n k P) (h0:k P<=t) (h1:t<=k (P+1)) (hin:¬bQ n k t):eI k p x P (List.replicate p t)=eI k p x (bL n k t) (List.replicate p t):=by
 obtain⟨w1,w2⟩:=h.nk hA
 have hi:=h.wh hin
 have hv:=h.qZ hin
 rw[Hu w1,Hu hv.1]
 exact ZI h w1 w2 hA.wide h0 h1 hi hv.1 hv.2
theorem Bt {c:Cu} {t:Rat} (h:Kn c.n c.p.toNat c.k) (hin:¬bQ c.n c.k t) (e:Nat):ck (gF c t) e=eI c.k c.p.toNat (fun i=>ck (bM (c.f i)) e) (bL c.n c.k t) (List.replicate c.p.toNat t):=by
 have hv:=h.qZ hin
 rw[Hu hv.1]
 match e with
 |0=>exact wO fun j _=>Rat.mul_comm _ _
 |1=>exact wO fun j _=>Rat.mul_comm _ _
 |2=>exact wO fun j _=>Rat.mul_comm _ _
 |e+3=>exact wO fun j _=>Rat.mul_comm _ _
theorem IU {c d:Cu} {t u:Rat} (hc:¬bQ c.n c.k t) (hd:¬bQ d.n d.k u) (h:∀e,ck (gF d u) e=ck (gF c t) e):lf d u=lf c t:=by
 have e1:lf d u=tL (gF d u):=if_neg hd
 have e2:lf c t=tL (gF c t):=if_neg hc
 have e3:gF d u=gF c t:=by
  show(⟨⟨ck (gF d u) 0,ck (gF d u) 1,ck (gF d u) 2⟩,ck (gF d u) 3⟩:Pl)=⟨⟨ck (gF c t) 0,ck (gF c t) 1,ck (gF c t) 2⟩,ck (gF c t) 3⟩
  rw[h 0,h 1,h 2,h 3]
 rw[e1,e2,e3]
theorem acP {c d:Cu} {t:Rat} (hc:Kn c.n c.p.toNat c.k) (hd:Kn d.n c.p.toNat d.k) (hp:d.p=c.p) (hs:jY c.p.toNat c.n c.k (fun e i=>ck (bM (c.f i)) e) d.n d.k (fun e i=>ck (bM (d.f i)) e)) (h1:¬bQ c.n c.k t) (h2:¬bQ d.n d.k t) (e:Nat):ck (gF d t) e=ck (gF c t) e:=by
 have hd':Kn d.n d.p.toNat d.k:=by rw[hp];exact hd
 rw[Bt hc h1,Bt hd' h2,hp]
 have hi:=hd.wh h2
 obtain⟨P,p1,p2,p3,p4⟩:=hs _ hi.at_
 rw[p4 e _ List.length_replicate]
 exact Du hc p1 (Rat.le_trans p2 hi.lo) (Rat.le_trans hi.hi p3) h1
theorem ahE {c d:Cu} {t:Rat} (hc:Kn c.n c.p.toNat c.k) (hd:Kn d.n c.p.toNat d.k) (hp:d.p=c.p) (hs:jY c.p.toNat c.n c.k (fun e i=>ck (bM (c.f i)) e) d.n d.k (fun e i=>ck (bM (d.f i)) e)) (h1:¬bQ c.n c.k t) (h2:¬bQ d.n d.k t):lf d t=lf c t:=IU h1 h2 (acP hc hd hp hs h1 h2)
theorem B6 {n:Nat} {k:Nat->Rat} {t:Rat} (h0:k 0<=t) (h1:t<=k (n-1)):¬bQ n k t:=fun h=>h.elim (fun g=>absurd h0 (Rat.not_le.2 g)) fun g=>absurd h1 (Rat.not_le.2 g)
structure gj (c d:Cu):Prop where
 kn:nD d
 p:d.p=c.p
 pos:∀i,0<(d.f i).d
 sub:jY c.p.toNat c.n c.k (fun e i=>ck (bM (c.f i)) e) d.n d.k (fun e i=>ck (bM (d.f i)) e)
theorem Ly {k k' x:Nat->Rat} {p P:Nat} (w1:p<=P) (hk:∀i,P<i+p->i<=P+p->k' i=k i) {l:List Rat} (hl:l.length=p):eI k' p x P l=eI k p x P l:=by
 have:=WR (k:=k) (k':=k') (x:=x) (α:=1) (β:=0) (by decide) w1 (fun i h1 h2=>by rw[hk i h1 h2];grind) hl
 rwa [show(l.map fun t=>(1:Rat)*t+0)=l by
  conv=>rhs;rw[<-List.map_id l]
  exact List.map_congr_left fun t _=>by show(1:Rat)*t+0=t;grind]at this
theorem gj.right {c d:Cu} {t:Rat} {a:Nat} (h:gj c d) (h0:d.k 0<t) (h1:t<d.k (d.n-1)) (hlo:d.k a<=t) (hhi:t<d.k (a+1)) (ha:a+1<d.n) (ht:bW d.k t d.n=d.p.toNat):gj c (mh d t a)/\(mh d t a).k 0=t/\(mh d t a).k ((mh d t a).n-1)=d.k (d.n-1):=by
 obtain⟨k1,k2,k3,k4,k5⟩:=id h.kn
 obtain⟨r1,r2,r3⟩:=k1.split h0 h1 hlo hhi ha ht
 obtain⟨g1,g2⟩:=k1.qW h0 h1 hlo hhi ha
 have hp:=h.p
 have hl:=k1.len
 have hp1:=k1.p1
 have hK:∀i,1<=i->(mh d t a).k i=d.k (a-d.p.toNat+i):=fun i hi=>by
  show(if i<1 then t else d.k (a+1-d.p.toNat+(i-1)))=_
  rw[if_neg aa];congr 1;omega
 have hK0:(mh d t a).k 0=t:=(if_pos aa:(if 0<1 then t else d.k (a+1-d.p.toNat+(0-1)))=t)
 have hN:(mh d t a).n=d.n-(a-d.p.toNat):=by show 1+(d.n-(a+1-d.p.toNat))=_;omega
 have hS:∀i,1<=i->i<=d.p.toNat->d.k (a-d.p.toNat+i)=t:=fun i h1 h2=>r1 _ aa aa
 have hkn:Kn (mh d t a).n d.p.toNat (mh d t a).k:=by
  rw[hN]
  refine⟨hp1,aa,fun i hi=>?_,fun i hi=>?_,fun i h1 h2=>?_,fun i h1 h2=>?_⟩
  ·by_cases e:i=0
   ·subst e
    rw[hK0,hK _ aa,hS _ aa aa];exact Rat.le_refl
   ·rw[hK _ aa,hK _ aa];exact k1.sorted _ aa
  ·by_cases e:i=0
   ·subst e;rfl
   ·rw[hK _ aa,hK0,hS _ aa hi]
  ·rw[hK _ aa,hK _ aa,k1.last _ aa aa,k1.last (a-d.p.toNat+(d.n-(a-d.p.toNat)-1)) aa aa]
  ·rw[hK _ aa,hK _ aa,<-Nat.add_assoc];exact k1.mult _ aa aa
 refine⟨⟨⟨hkn,k2,k3,show(mh d t a).n<=d.p.toNat+41 by omega,show((d.m-(a-d.p.toNat):Nat):Int)=((mh d t a).n:Int)-d.p-1 by omega⟩,hp,fun i=>h.pos _,fun Q hQ=>?_⟩,hK0,?_⟩
 ·obtain⟨v1,v2⟩:=hkn.nk hQ
  have hw:=hQ.wide
  rw[hK _ aa,hK _ aa]at hw
  obtain⟨P,p1,p2,p3,p4⟩:=h.sub (a-d.p.toNat+Q) ⟨aa,k1.sorted,hw⟩
  refine⟨P,p1,by rw[hK _ aa];exact p2,by rw[hK _ aa];exact p3,fun e l hl=>?_⟩
  rw[<-p4 e l hl,<-hp]
  show bl (mh d t a).k (Q-d.p.toNat) d.p.toNat 0 (fun q=>ck (bM (d.f (a-d.p.toNat+(Q-d.p.toNat+q)))) e) l d.p.toNat=bl d.k (a-d.p.toNat+Q-d.p.toNat) d.p.toNat 0 (fun q=>ck (bM (d.f (a-d.p.toNat+Q-d.p.toNat+q))) e) l d.p.toNat
  rw[DQ (k:=d.k) (b:=a-d.p.toNat+Q-d.p.toNat) fun i hi=>by rw[hK _ aa];congr 1;omega]
  congr 1
  funext q
  rw[show a-d.p.toNat+(Q-d.p.toNat+q)=a-d.p.toNat+Q-d.p.toNat+q by omega]
 ·rw[hN,hK _ aa];congr 1;omega
theorem gj.left {c d:Cu} {t:Rat} {a:Nat} (h:gj c d) (h0:d.k 0<t) (h1:t<d.k (d.n-1)) (hlo:d.k a<=t) (hhi:t<d.k (a+1)) (ha:a+1<d.n) (ht:bW d.k t d.n=d.p.toNat):gj c (oT d t a)/\(oT d t a).k 0=d.k 0/\(oT d t a).k ((oT d t a).n-1)=t:=by
 obtain⟨k1,k2,k3,k4,k5⟩:=id h.kn
 obtain⟨r1,r2,r3⟩:=k1.split h0 h1 hlo hhi ha ht
 obtain⟨g1,g2⟩:=k1.qW h0 h1 hlo hhi ha
 have hp:=h.p
 have hl:=k1.len
 have hp1:=k1.p1
 have hK:∀i,i<a+1->(oT d t a).k i=d.k i:=fun i hi=>if_pos hi
 have hK1:(oT d t a).k (a+1)=t:=if_neg (Nat.lt_irrefl (a+1))
 have hN:(oT d t a).n=a+1+1:=rfl
 have hkn:Kn (oT d t a).n d.p.toNat (oT d t a).k:=by
  rw[hN]
  refine⟨hp1,aa,fun i hi=>?_,fun i hi=>?_,fun i h1 h2=>?_,fun i h1 h2=>?_⟩
  ·by_cases e:i+1<a+1
   ·rw[hK _ aa,hK _ e];exact k1.sorted _ aa
   ·rw[hK _ aa,show i+1=a+1 by omega,hK1,show i=a by omega];exact hlo
  ·rw[hK _ aa,hK _ aa];exact k1.first i hi
  ·rw[show a+1+1-1=a+1 by omega,hK1]
   by_cases e:i<a+1
   ·rw[hK _ e];exact r1 i aa aa
   ·rw[show i=a+1 by omega,hK1]
  ·rw[hK _ aa,hK _ aa];exact k1.mult i h1 aa
 refine⟨⟨⟨hkn,k2,k3,show a+1+1<=d.p.toNat+41 by omega,show((a+1-d.p.toNat:Nat):Int)=((a+1+1:Nat):Int)-d.p-1 by omega⟩,hp,h.pos,fun Q hQ=>?_⟩,hK 0 aa,hK1⟩
 obtain⟨v1,v2⟩:=hkn.nk hQ
 rw[hN]at v2
 have hw:=hQ.wide
 rw[hK _ aa,hK _ aa]at hw
 obtain⟨P,p1,p2,p3,p4⟩:=h.sub Q ⟨aa,k1.sorted,hw⟩
 refine⟨P,p1,by rw[hK _ aa];exact p2,by rw[hK _ aa];exact p3,fun e l hl=>?_⟩
 rw[<-p4 e l hl,<-hp]
 exact Ly v1 (fun i _ h2=>hK i aa) (by rw[hl,hp])
theorem gj.ev {c d:Cu} {t:Rat} (hc:nD c) (h:gj c d) (h1:¬bQ c.n c.k t) (h2:¬bQ d.n d.k t):lf d t=lf c t:=
 ahE hc.1 (by rw[<-h.p];exact h.kn.1) h.p h.sub h1 h2
theorem Kf:aW 22 f22:=aT func22
def qf:aX:=nG::(85,jD uf)::(86,jD FP)::(87,jD E2)::(45,tA)::rV
abbrev pF:List Nat:=[0,6,7,8,9]
abbrev vk (b:Bool) (i:Nat):List AV:=[.ptr 0 0 2 0 [],.ptr 1 0 5 0 [],.ptr 2 0 5 0 [],.bool b,.int .i64 i]
abbrev yu:List Nat:=[0,6,7,8,9,10,11]
abbrev GZ (b:Bool) (i j:Nat):List AV:=[.ptr 0 0 2 0 [],.ptr 1 0 5 0 [],.ptr 2 0 5 0 [],.bool b,.int .i64 i,.own 4 12 0 j,.int .i64 j]
abbrev sY (n:Nat) (z:Nat->Int) (a:Int) (u v:Nat) (na nb:Nat) (ku kv:Nat->Rat) (f:Nat->Nat->Pl) (m i:Nat):aC:=
 [(3,⟨true,true,1,i,fun i=>aZ (f i) m 200⟩),(2,⟨false,true,5,1,fun _=>.agg [.int .i64 u,.int .i64 v,bD ku na 64,bD kv nb 64,.own 3 1 0 i]⟩),(1,⟨false,true,5,1,fun _=>.agg [.int .i64 0,.int .i64 0,.nil,.nil,.nil]⟩),(0,mo n z a)]
abbrev D9 (n:Nat) (z:Nat->Int) (a:Int) (u v:Nat) (na nb:Nat) (ku kv:Nat->Rat) (f:Nat->Nat->Pl) (m i j:Nat):aC:=(4,⟨true,true,12,j,fun j=>bJ (f i j) 200⟩)::sY n z a u v na nb ku kv f m i
abbrev qG:Code:=aF f22
abbrev zR:Code:=part qG [1,1,1,1,0,1,0,0]
abbrev xq:Code:=part zR [1,0,0]
theorem aju {n:Nat} {z:Nat->Int} {a d m:Int}:aH T qf [] 60 pF (before qG [1,1,1,1,0,1]) ⟨aQ 0 [.ptr 0 0 2 0 [],.int .i64 d,.int .i64 m],[(0,mo n z a)],1⟩=
  let c13:AV:=int i64 0;let c12:Int:=(2:Int)^62;let c11:Int:=aR n (aR n a);let c10:Int:=(2:Int)^63;let c9:Prop:=0<1;let c7:Bool:=0==0;let c3:Int:=(1:Int)+cC n (fun i=>int i64 (z i)) (aR n a) d;let c2:Int:=(1:Int)+cC n (fun i=>int i64 (z i)) a d;let c6:AV:=agg [c13,c13,nil,nil,nil];let c4:Int:=gk n (fun i=>int i64 (z i)) c11 c2.toNat m.toNat;let c8:Int:=gk n (fun i=>int i64 (z i)) c4 c3.toNat m.toNat;let c1:AV:=bp (agg ((c6.kids.set 0 (bp (int i64 c2))).set 1 (bp (int i64 c3))));let c14:AV:=if c7=true then c1 else c6;let c5:AV:=agg (c14.kids.set 2 (bp (bD (m9 n (fun i=>int i64 (z i)) c11 c2.toNat m.toNat) (j9 n (fun i=>int i64 (z i)) c11 c2.toNat m.toNat) 64)));some (aj [dc n (fun i=>int i64 (z i)) a,(0:Int)<d,d<c12,-c10<=c2/\c2<c10,dc n (fun i=>int i64 (z i)) (aR n a),(0:Int)<d,d<c12,-c10<=c3/\c3<c10,c9] (aj [c9,dc n (fun i=>int i64 (z i)) c11,(1:Int)<=c2,c2<1000,(0:Int)<=m,m<1000,c9,dc n (fun i=>int i64 (z i)) c4,(1:Int)<=c3,c3<1000,(0:Int)<=m,m<1000,c9,c9] (aj [dc n (fun i=>int i64 (z i)) c8,(0:Int)<3,(3:Int)<c12] (leaf normal ([ptr 0 0 2 0 [],ptr 1 0 5 0 [],ptr 40961 0 5 0 [],AV.bool (cC n (fun i=>int i64 (z i)) c8 (3:Int)==2),c13],[(40961,au.mk false true 5 1 fun j=>if(j==0)=true then agg ((if c7=true then c5 else c14).kids.set 3 (bp (bD (m9 n (fun i=>int i64 (z i)) c4 c3.toNat m.toNat) (j9 n (fun i=>int i64 (z i)) c4 c3.toNat m.toNat) 64)))else if(j==0)=true then c5 else if(j==0)=true then c1 else c6),(1,au.mk false true 5 1 fun x=>c6),(0,au.mk false true 2 1 fun x=>agg [ak 1 n fun i=>int i64 (z i),int i64 (aR n c8)])]))))):=ah
theorem Wy {n u v na nb m i:Nat} {z:Nat->Int} {a:Int} {ku kv:Nat->Rat} {f:Nat->Nat->Pl} {b:Bool}:aH T qf [45] 60 pF (before zR [1,0]) ⟨aA pF (vk b i),sY n z a u v na nb ku kv f m i,4⟩=
  let c3:Int:=(2:Int)^63;let c2:Int:=(↑na:Int)-(↑u:Int);let c1:List AV×aC:=([ptr 0 0 2 0 [],ptr 1 0 5 0 [],ptr 2 0 5 0 [],AV.bool b,int i64 (↑i:Int)],[(3,au.mk true true 1 i fun i=>ak 12 m fun i_1=>bJ (f i i_1) 200),(2,au.mk false true 5 1 fun x=>agg [int i64 (↑u:Int),int i64 (↑v:Int),ak 3 na fun i=>rat (ku i) 64,ak 3 nb fun i=>rat (kv i) 64,own 3 1 0 i]),(1,au.mk false true 5 1 fun x=>agg [int i64 0,int i64 0,nil,nil,nil]),(0,au.mk false true 2 1 fun x=>agg [ak 1 n fun i=>int i64 (z i),int i64 a])]);let c4:Int:=c2-1;some (aj [(0:Nat)<1,(0:Nat)<1,-c3<=c2/\c2<c3,-c3<=c4/\c4<c3] (fork (decide ((↑i:Int)<c4)) (leaf normal c1) (leaf (exit 0) c1))):=ah
theorem ac0 {n u v na nb m i:Nat} {z:Nat->Int} {a:Int} {ku kv:Nat->Rat} {f:Nat->Nat->Pl} {b:Bool}:aH T qf [] 60 yu (before xq [1,0,1]) ⟨aA pF (vk b i),sY n z a u v na nb ku kv f m i,4⟩=
  let c1:AV:=int i64 0;some (leaf normal ([ptr 0 0 2 0 [],ptr 1 0 5 0 [],ptr 2 0 5 0 [],AV.bool b,int i64 (↑i:Int),nil,c1],[(3,au.mk true true 1 i fun i=>ak 12 m fun i_1=>bJ (f i i_1) 200),(2,au.mk false true 5 1 fun x=>agg [int i64 (↑u:Int),int i64 (↑v:Int),ak 3 na fun i=>rat (ku i) 64,ak 3 nb fun i=>rat (kv i) 64,own 3 1 0 i]),(1,au.mk false true 5 1 fun x=>agg [c1,c1,nil,nil,nil]),(0,au.mk false true 2 1 fun x=>agg [ak 1 n fun i=>int i64 (z i),int i64 a])])):=ah
theorem Th {n u v na nb m i j:Nat} {z:Nat->Int} {a:Int} {ku kv:Nat->Rat} {f:Nat->Nat->Pl} {b:Bool}:aH T qf [56,62] 60 yu [part xq [1,0,1,0,0]] ⟨aA yu (GZ b i j),D9 n z a u v na nb ku kv f m i j,5⟩=
  let c35:Int:=(↑j:Int);let c34:Int:=gR n (fun i=>int i64 (z i)) a;let c33:Rat:=gD n (fun i=>int i64 (z i)) a;let c32:AV:=int i64 (↑i:Int);let c29:AV:=ak 1 n fun i=>int i64 (z i);let c24:Rat:=(↑(1:Int):Rat)/(↑(8:Int):Rat);let c23:Nat:=j+1;let c20:Int:=(↑(3:Nat):Int);let c19:Nat:=64+64;let c18:AV:=ptr 0 0 2 0 [];let c17:AV:=ptr 1 0 5 0 [];let c16:AV:=ptr 2 0 5 0 [];let c14:Int:=(↑nb:Int)-(↑v:Int);let c13:Nat×au:=(1,au.mk false true 5 1 fun x=>agg [int i64 0,int i64 0,nil,nil,nil]);let c12:AV:=rat (↑((1:Int)+cC n (fun i=>int i64 (z i)) (jj n (fun i=>int i64 (z i)) a) (3:Int)):Rat) 64;let c10:Int:=(2:Int)*(↑i:Int);let c7:AV:=rat 0 1;let c6:Nat:=2^41;let c5:Prop:=0<1;let c4:Nat×au:=(2,au.mk false true 5 1 fun x=>agg [int i64 (↑u:Int),int i64 (↑v:Int),ak 3 na fun i=>rat (ku i) 64,ak 3 nb fun i=>rat (kv i) 64,own 3 1 0 i]);let c3:Nat×au:=(3,au.mk true true 1 i fun i=>ak 12 m fun i_1=>bJ (f i i_1) 200);let c2:Int:=(2:Int)^63;let c38:Prop:=(1:Int)<c2;let c37:Prop:=-c2<=1;let c36:AV:=agg [agg [c7,c7,c7],c7];let c30:Nat:=Max.max 1 (bN c10.natAbs);let c28:Prop:=(0:Int)<=0/\(0:Int)<c20;let c27:Prop:=(0:Int)<=1/\(1:Int)<c20;let c26:Prop:=(0:Int)<=2/\(2:Int)<c20;let c25:Int:=c14-1;let c22:Prop:=64<c6;let c21:Rat:=gD n (fun i=>int i64 (z i)) c34;let c15:Int:=c35+1;let c11:Int:=(2:Int)*c35;let c9:List Prop:=[c5,(1:Nat)*12<=2^24,c23*((224:Nat)+1)*2<=2^47];let c8:Rat:=if false=true then 0 else gD n (fun i=>int i64 (z i)) (gR n (fun i=>int i64 (z i)) c34);let c1:List (Nat×au):=[c4,c13,(0,au.mk false true 2 1 fun x=>agg [c29,int i64 (ES n (fun i=>int i64 (z i)) a)])];let c31:Nat:=Max.max 1 (bN c11.natAbs);some (aj [c5,c5,-c2<=c14/\c14<c2,-c2<=c25/\c25<c2] (fork (decide (c35<c25)) (aj [dc n (fun i=>int i64 (z i)) a,c5] (fork (!b) (aj [-c2<=c10/\c10<c2,-c2<=c10,c10<c2,c28,c5,c37,c38,-c2<=8,(8:Int)<c2,c22,c22,c30<c6,c19<c6,c28,c5] (aj [-c2<=c11/\c11<c2,-c2<=c11,c11<c2,c27,c5,c37,c38,-c2<=8,(8:Int)<c2,c22,c22,c31<c6,c19<c6,c27,c5] (aj [c26,c5,c37,c38,-c2<=4,(4:Int)<c2,c22,c22,c26,c5] (aj c9 (aj [-c2<=c15/\c15<c2] (leaf normal ([c18,c17,c16,AV.bool b,c32,own 204805 12 0 c23,int i64 c15],c3::(204805,au.mk true true 12 c23 fun i_1=>if i_1<j then bJ (f i i_1) 200 else nth [agg [agg [rat ((↑c10:Rat)+c33*c24) (c30+c19+1),rat ((↑c11:Rat)+c21*c24) (c31+c19+1),rat (c8*((↑(1:Int):Rat)/(↑(4:Int):Rat))) c19],c12]] c36 (i_1-j+0))::c1))))))) (aj c9 (aj [-c2<=c15/\c15<c2] (leaf normal ([c18,c17,c16,AV.bool b,c32,own 73733 12 0 c23,int i64 c15],c3::(73733,au.mk true true 12 c23 fun i_1=>if i_1<j then bJ (f i i_1) 200 else nth [agg [agg [rat c33 64,rat c21 64,rat c8 64],c12]] c36 (i_1-j+0))::c1)))))) (leaf (exit 2) ([c18,c17,c16,AV.bool b,c32,own 4 12 0 j,int i64 c35],[c3,(4,au.mk true true 12 j fun j=>bJ (f i j) 200),c4,c13,(0,au.mk false true 2 1 fun x=>agg [c29,int i64 a])])))):=ah
theorem ab5 {n u v na nb m i j:Nat} {z:Nat->Int} {a:Int} {ku kv:Nat->Rat} {f:Nat->Nat->Pl} {b:Bool}:aH T qf [] 60 pF (behind xq [1,0,1]++[part zR [1,1]]) ⟨aA yu (GZ b i j),D9 n z a u v na nb ku kv f m i j,5⟩=
  let c2:Int:=(↑i:Int)+1;let c1:AV:=agg [int i64 (↑u:Int),int i64 (↑v:Int),bD ku na 64,bD kv nb 64,own 3 1 0 i];some (aj [(0:Nat)<1,(1:Nat)*1<=2^24,(i+1)*((24:Nat)+1)*2<=2^47,(0:Nat)<1] (aj [-(2:Int)^63<=c2/\c2<2^63] (leaf normal ([ptr 0 0 2 0 [],ptr 1 0 5 0 [],ptr 2 0 5 0 [],AV.bool b,int i64 c2],[(16389,au.mk true true 1 (i+1) fun i_1=>if i_1<i then aZ (f i_1) m 200 else nth [ak 12 j fun i_2=>bJ (f i (i_2+0)) 200] nil (i_1-i+0)),(2,au.mk false true 5 1 fun j=>if(j==0)=true then agg (c1.kids.set 4 (bp (own (nat_lit 16388+1) 1 0 (i+1))))else c1),(1,au.mk false true 5 1 fun x=>agg [int i64 0,int i64 0,nil,nil,nil]),(0,au.mk false true 2 1 fun x=>agg [ak 1 n fun i=>int i64 (z i),int i64 a])])))):=ah
theorem XG {n u v na nb m i:Nat} {z:Nat->Int} {a:Int} {ku kv:Nat->Rat} {f:Nat->Nat->Pl} {b:Bool}:BC T qf [] 60 f22 [part qG [1,1,1,1,1]] ⟨aA pF (vk b i),sY n z a u v na nb ku kv f m i,4⟩=
  let c1:Prop:=0<1;some (aj [c1,c1] (aj [c1] (leaf ret ([agg [int i64 (↑u:Int),int i64 (↑v:Int),ak 3 na fun i=>rat (ku i) 64,ak 3 nb fun i=>rat (kv i) 64,ak 1 i fun i=>ak 12 m fun i_1=>bJ (f (i+0) i_1) 200]],some (au.mk false true 2 1 fun x=>agg [ak 1 n fun i=>int i64 (z i),int i64 a]))))):=ah
def lP (b:Bool) (n:Nat) (f:Nat->AV) (a:Int) (i j:Nat):Pl:=
 if b=true then pB n f a false else⟨⟨((2*(i:Int):Int):Rat)+(pB n f a false).n.x*(((1:Int):Rat)/((8:Int):Rat)),((2*(j:Int):Int):Rat)+(pB n f a false).n.y*(((1:Int):Rat)/((8:Int):Rat)),(pB n f a false).n.z*(((1:Int):Rat)/((4:Int):Rat))⟩,(pB n f a false).d⟩
theorem KV:bq P qf:=cz (aI BK (aI afB (aI abN (aI vH vu))))
theorem Yx {n u v na nb m mm:Nat} {z:Nat->Int} {B:Int} {ku kv:Nat->Rat} {b:Bool} {cx:Ctx} {s0:aK} {Q:aq->aK->Prop} {d M:Int} {a0:Int} (hk:Kept [0] cx) (hB:dc n (fun i=>.int .i64 (z i)) B) (hu:(mm:Int)=(na:Int)-u-1) (hv:(m:Int)=(nb:Int)-v-1) (h1:mm<2^20) (h2:m<2^20) (hna:na<2^20) (hnb:nb<2^20) (hu2:u<2^20) (hv2:v<2^20)
  (hp:∃t,aH T qf [] 60 pF (before qG [1,1,1,1,0,1]) s0=some t/\t.all (Start [0] (fun i:Nat=>vk b i) (fun i=>sY n z (j0 n (fun i=>.int .i64 (z i)) B (i*m)) u v na nb ku kv (fun i j=>lP b n (fun i=>.int .i64 (z i)) (j0 n (fun i=>.int .i64 (z i)) B (i*m+j)) i j) m i) 4 (fun i=>i<=mm) (fun _=>False)))
  (hD:ax P cx f22.ntmps (part qG [1,1,1,1,1]) ⟨aA pF (vk b mm),sY n z (j0 n (fun i=>.int .i64 (z i)) B (mm*m)) u v na nb ku kv (fun i j=>lP b n (fun i=>.int .i64 (z i)) (j0 n (fun i=>.int .i64 (z i)) B (i*m+j)) i j) m mm,4⟩ Q):
  ax P cx f22.ntmps qG s0 Q:=by
 have hv3:∀{rl:List (Nat×Nat)} {l:Nat} {w:AV},w.isTuple=false->gz (bC rl) w (.own 3 1 0 l)->ia rl (.agg [.int .i64 u,.int .i64 v,bD ku na 64,bD kv nb 64,w]) (.agg [.int .i64 u,.int .i64 v,bD ku na 64,bD kv nb 64,.own 3 1 0 l]):=
  fun h5 h6=>nF ⟨aL,aL,aL,aL,⟨h5,h6⟩,trivial⟩
 refine ax.r6 hT KV hm (x:=qG) [1,1,1,1,0,1] (i:=0) (y:=zR) (z:=part qG [1,1,1,1,1]) ah ah ah Kf.dst [1,0] (j:=1) (x1:=xq) (zb:=part zR [1,1]) ah ah ah [1,0,1] (i2:=2) (y2:=part xq [1,0,1,0,0]) ah ah rfl
  hk (f1:=[]) (f2:=[45]) (f3:=[]) (f4:=[56,62]) (f5:=[]) 60 pF yu 4 5 (fun i:Nat=>vk b i) (fun i=>sY n z (j0 n (fun i=>.int .i64 (z i)) B (i*m)) u v na nb ku kv (fun i j=>lP b n (fun i=>.int .i64 (z i)) (j0 n (fun i=>.int .i64 (z i)) B (i*m+j)) i j) m i) (fun i=>i<=mm) (fun i=>i=mm) (fun i=>mm-i) (fun i=>i<mm) (fun _=>False) (fun _=>False)
  (fun i (j:Nat)=>GZ b i j) (fun i j=>D9 n z (j0 n (fun i=>.int .i64 (z i)) B (i*m+j)) u v na nb ku kv (fun i j=>lP b n (fun i=>.int .i64 (z i)) (j0 n (fun i=>.int .i64 (z i)) B (i*m+j)) i j) m i j) (fun _ j=>j<=m) (fun _ j=>j=m) (fun _ j=>m-j) hp (fun i hi=>⟨_,Wy,?_⟩) (fun i hi hg=>⟨_,ac0,?_⟩) (fun i hi hg j hj=>⟨_,Th,?_⟩) (fun i hi hg j hj=>⟨_,ab5,?_⟩) (fun i hi=>by rw[hi];exact hD) (fun _ _ h=>h.elim) (fun _ _ h=>h.elim)
 all_goals try simp only[ag.all,az,bk,bt,bf,Nat.add_zero]
 ·exact⟨⟨aa,aa,aa,aa⟩,fun h=>⟨aa,[(0,0),(1,1),(2,2),(3,3)],rfl,rfl,rfl,dQ (dh rfl rfl (hv3 rfl (cP rfl rfl rfl)) (aM (aM trivial)))⟩,
   fun h=>⟨rfl,i,aa,[(0,0),(1,1),(2,2),(3,3)],rfl,rfl,rfl,dQ (dh rfl rfl (hv3 rfl (cP rfl rfl rfl)) (aM (aM trivial)))⟩⟩
 ·exact⟨0,Nat.zero_le _,[(0,0),(1,1),(2,2),(3,3)],rfl,rfl,rfl,ko rfl aa aa (dQ (dh rfl rfl (hv3 rfl (cP rfl rfl rfl)) (aM (aM trivial))))⟩
 ·have hd:=hB.ye (i*m+j)
  have b1:bN (2*(i:Int)).natAbs<=64:=jr.2 aa
  have b2:bN (2*(j:Int)).natAbs<=64:=jr.2 aa
  refine⟨⟨aa,aa,aa,aa⟩,fun h=>⟨⟨hd,aa⟩,fun hb=>?_,fun hb=>?_⟩,fun h=>⟨rfl,j,aa,[(0,0),(1,1),(2,2),(3,3),(4,4)],rfl,rfl,rfl,dQ (dQ (dh rfl rfl (hv3 rfl (cP rfl rfl rfl)) (aM (aM trivial))))⟩⟩
  ·have hb:b=false:=by cases b<;>simp_all
   subst hb
   refine⟨⟨aa,aa,aa,aa,aa,aa,aa,aa,aa,aa,aa,aa,aa,aa,aa⟩,⟨aa,aa,aa,aa,aa,aa,aa,aa,aa,aa,aa,aa,aa,aa,aa⟩,⟨aa,aa,aa,aa,aa,aa,aa,aa,aa,aa⟩,⟨aa,aa,aa⟩,aa,j+1,aa,by dsimp only;omega,[(0,0),(1,1),(2,2),(3,3),(4,204805)],rfl,rfl,rfl,b7 rfl rfl rfl (fun k hk=>qS (g:=fun k=>bJ (lP false n (fun i=>.int .i64 (z i)) (j0 n (fun i=>.int .i64 (z i)) B (i*m+k)) i k) 200) (fun _ _=>⟨rfl,rfl⟩) rfl (cL ⟨cL ⟨cB rfl aa,cB rfl aa,cB rfl aa,trivial⟩,cB rfl aa,trivial⟩) hk) (dQ (dh rfl rfl (hv3 rfl (cP rfl rfl rfl)) (aM (aM trivial))))⟩
  ·have hb:b=true:=by cases b<;>simp_all
   subst hb
   refine⟨⟨aa,aa,aa⟩,aa,j+1,aa,by dsimp only;omega,[(0,0),(1,1),(2,2),(3,3),(4,73733)],rfl,rfl,rfl,b7 rfl rfl rfl (fun k hk=>qS (g:=fun k=>bJ (lP true n (fun i=>.int .i64 (z i)) (j0 n (fun i=>.int .i64 (z i)) B (i*m+k)) i k) 200) (fun _ _=>⟨rfl,rfl⟩) rfl (cL ⟨cL ⟨cB rfl aa,cB rfl aa,cB rfl aa,trivial⟩,cB rfl aa,trivial⟩) hk) (dQ (dh rfl rfl (hv3 rfl (cP rfl rfl rfl)) (aM (aM trivial))))⟩
 ·subst hj
  exact⟨⟨aa,aa,aa,aa⟩,aa,i+1,aa,by dsimp only;omega,[(0,0),(1,1),(2,2),(3,16389)],rfl,rfl,rfl,b7 rfl rfl rfl (fun k hk=>rowAt (g:=fun i=>aZ (fun k=>lP b n (fun i=>.int .i64 (z i)) (j0 n (fun i=>.int .i64 (z i)) B (i*j+k)) i k) j 200) hk rfl rfl) (dh rfl rfl (hv3 rfl (cP rfl rfl rfl)) (aM (dh rfl rfl (cR rfl (by rw[Nat.succ_mul])) trivial)))⟩
def eC (n:Nat) (f:Nat->AV) (a d:Int):Nat:=(1+cC n f a d).toNat
def wX (n:Nat) (f:Nat->AV) (a d:Int) (m:Nat):Int:=gk n f (gk n f (aR n (aR n a)) (eC n f a d) m) (eC n f (aR n a) d) m
def iE (n:Nat) (f:Nat->AV) (a d:Int) (m:Nat):Sf:=
 ⟨(eC n f a d:Nat),(eC n f (aR n a) d:Nat),j9 n f (aR n (aR n a)) (eC n f a d) m,m9 n f (aR n (aR n a)) (eC n f a d) m,
  j9 n f (gk n f (aR n (aR n a)) (eC n f a d) m) (eC n f (aR n a) d) m,m9 n f (gk n f (aR n (aR n a)) (eC n f a d) m) (eC n f (aR n a) d) m,
  eC n f a d+1+ig n f (aR n (aR n a)) m,eC n f (aR n a) d+1+ig n f (gk n f (aR n (aR n a)) (eC n f a d) m) m,
  fun i j=>lP (cC n f (wX n f a d m) 3==2) n f (j0 n f (aR n (wX n f a d m)) (i*(eC n f (aR n a) d+1+ig n f (gk n f (aR n (aR n a)) (eC n f a d) m) m)+j)) i j⟩
def C3 (n:Nat) (f:Nat->AV) (a d:Int) (m:Nat):Int:=j0 n f (aR n (wX n f a d m)) ((iE n f a d m).n*(iE n f a d m).m)
def EP (n:Nat) (f:Nat->AV) (a:Int) (l:List AV):Option (AV×Int×List Prop):=match l with
 |[.int .i64 d,.int .i64 m]=>some (bu (iE n f a d m.toNat) 64 200,C3 n f a d m.toNat,[1<=d,d<900,0<=m,m<900])
 |_=>none
theorem ZC {k n m:Nat} {z:Nat->Int} {a d:Int} {o:au} (ho:∀ρ,dK ρ o (mo n z a)) (h:dc n (fun i=>.int .i64 (z i)) a) (hd1:1<=d) (hd2:d<900) (hm2:m<900) (K:Nat):
  aS P 22 K [.ptr k 0 2 0 [],.int .i64 d,.int .i64 m] [(k,o)] ⟨bu (iE n (fun i=>.int .i64 (z i)) a d m) 64 200,[(k,mo n z (C3 n (fun i=>.int .i64 (z i)) a d m))],[]⟩:=by
 refine Qp hT Kf rfl rfl aV ho (fun _ c hk=>?_) K
 have a1:=gJ (n:=n) (f:=fun i=>.int .i64 (z i)) (a:=a) (m:=d) aa
 have a2:=gT (n:=n) (f:=fun i=>.int .i64 (z i)) (a:=a) (m:=d) aa
 have a3:=gJ (n:=n) (f:=fun i=>.int .i64 (z i)) (a:=aR n a) (m:=d) aa
 have a4:=gT (n:=n) (f:=fun i=>.int .i64 (z i)) (a:=aR n a) (m:=d) aa
 have hJ1:=uA (n:=n) (f:=fun i=>.int .i64 (z i)) (a:=aR n (aR n a)) (m:=m)
 obtain⟨u,eu⟩:∃u,u=eC n (fun i=>.int .i64 (z i)) a d:=⟨_,rfl⟩
 obtain⟨v,ev⟩:∃v,v=eC n (fun i=>.int .i64 (z i)) (aR n a) d:=⟨_,rfl⟩
 have hu:1+cC n (fun i=>.int .i64 (z i)) a d=(u:Int):=by rw[eu];unfold eC;omega
 have hv:1+cC n (fun i=>.int .i64 (z i)) (aR n a) d=(v:Int):=by rw[ev];unfold eC;omega
 have k1:=h.next.next
 have k2:=k1.fT (p:=u) (m:=m) aa
 have k3:=k2.fT (p:=v) (m:=m) aa
 have k4:=k3.next
 have hJ2:=uA (n:=n) (f:=fun i=>.int .i64 (z i)) (a:=gk n (fun i=>.int .i64 (z i)) (aR n (aR n a)) u m) (m:=m)
 have n1:j9 n (fun i=>.int .i64 (z i)) (aR n (aR n a)) u m=2*u+2+ig n (fun i=>.int .i64 (z i)) (aR n (aR n a)) m:=rfl
 have n2:j9 n (fun i=>.int .i64 (z i)) (gk n (fun i=>.int .i64 (z i)) (aR n (aR n a)) u m) v m=2*v+2+ig n (fun i=>.int .i64 (z i)) (gk n (fun i=>.int .i64 (z i)) (aR n (aR n a)) u m) m:=rfl
 unfold C3 iE wX
 rw[<-eu,<-ev]
 dsimp only
 refine Yx (B:=aR n (gk n (fun i=>.int .i64 (z i)) (gk n (fun i=>.int .i64 (z i)) (aR n (aR n a)) u m) v m)) (b:=cC n (fun i=>.int .i64 (z i)) (gk n (fun i=>.int .i64 (z i)) (gk n (fun i=>.int .i64 (z i)) (aR n (aR n a)) u m) v m) 3==2)
  (mm:=u+1+ig n (fun i=>.int .i64 (z i)) (aR n (aR n a)) m) (m:=v+1+ig n (fun i=>.int .i64 (z i)) (gk n (fun i=>.int .i64 (z i)) (aR n (aR n a)) u m) m) (ku:=m9 n (fun i=>.int .i64 (z i)) (aR n (aR n a)) u m) (kv:=m9 n (fun i=>.int .i64 (z i)) (gk n (fun i=>.int .i64 (z i)) (aR n (aR n a)) u m) v m)
  (na:=j9 n (fun i=>.int .i64 (z i)) (aR n (aR n a)) u m) (nb:=j9 n (fun i=>.int .i64 (z i)) (gk n (fun i=>.int .i64 (z i)) (aR n (aR n a)) u m) v m) (u:=u) (v:=v) (d:=d) (M:=d) (a0:=a) hk k4 aa aa aa aa aa aa aa aa ⟨_,aju,?_⟩ ?_
 ·simp only[ag.all,az,hu,hv,bf]
  exact⟨⟨h,aa,aa,aa,h.next,aa,aa,aa,aa⟩,⟨aa,k1,aa,aa,aa,aa,aa,k2,aa,aa,aa,aa,aa,aa⟩,⟨k3,aa,aa⟩,0,Nat.zero_le _,[(0,0),(1,1),(2,40961)],rfl,rfl,rfl,ko rfl aa aa (dh rfl rfl (nF ⟨aL,aL,aL,aL,⟨rfl,qc aa⟩,trivial⟩) (aM (dh rfl rfl (cR rfl (by rw[Nat.zero_mul];rfl)) trivial)))⟩
 ·refine ax.gZ (aG.J7 hT KV hm 60 XG ah ?_)
  simp only[ag.all,az]
  exact⟨⟨aa,aa⟩,aa,.refl _,_,rfl,rfl,oK rfl rfl⟩
theorem ajf:aU P (jD EP) 22:=by
 refine ua fun {k n z a l v b q o} K hg ho hd hq=>?_
 unfold EP at hg
 split at hg
 ·rename_i d m
  simp only[ay,Prod.mk.injEq]at hg
  obtain⟨rfl,rfl,rfl⟩:=hg
  obtain⟨h1,h2,h3,h4⟩:1<=d/\d<900/\0<=m/\m<900:=hq
  have:=ZC (k:=k) (m:=m.toNat) ho hd h1 h2 aa K
  rw[Int.toNat_of_nonneg h3]at this
  exact this
 ·simp at hg
theorem IZ {b:Bool} {n:Nat} {f:Nat->AV} {a:Int} {i j:Nat}:0<(lP b n f a i j).d:=by
 have c1:=gJ (n:=n) (f:=f) (a:=jj n f a) (m:=3) aa
 have key:0<(pB n f a false).d:=by
  unfold pB
  dsimp only
  generalize cC n f (jj n f a) 3=x at*
  exact_mod_cast (show 0<1+x by omega)
 unfold lP
 split
 ·exact key
 ·exact key
theorem Tb {n m:Nat} {f:Nat->AV} {a d:Int} (h:dc n f a) (hd:1<=d) (hd2:d<=6) (hm2:m<=20):de (iE n f a d m):=by
 have a1:=gJ (n:=n) (f:=f) (a:=a) (m:=d) aa
 have a2:=gT (n:=n) (f:=f) (a:=a) (m:=d) aa
 have a3:=gJ (n:=n) (f:=f) (a:=aR n a) (m:=d) aa
 have a4:=gT (n:=n) (f:=f) (a:=aR n a) (m:=d) aa
 have hJ1:=uA (n:=n) (f:=f) (a:=aR n (aR n a)) (m:=m)
 unfold iE
 obtain⟨u,eu⟩:∃u,u=eC n f a d:=⟨_,rfl⟩
 obtain⟨v,ev⟩:∃v,v=eC n f (aR n a) d:=⟨_,rfl⟩
 have hu:1+cC n f a d=(u:Int):=by rw[eu];unfold eC;omega
 have hv:1+cC n f (aR n a) d=(v:Int):=by rw[ev];unfold eC;omega
 have k1:=h.next.next
 have k2:=k1.fT (p:=u) (m:=m) aa
 have hJ2:=uA (n:=n) (f:=f) (a:=gk n f (aR n (aR n a)) u m) (m:=m)
 have n1:j9 n f (aR n (aR n a)) u m=2*u+2+ig n f (aR n (aR n a)) m:=rfl
 have n2:j9 n f (gk n f (aR n (aR n a)) u m) v m=2*v+2+ig n f (gk n f (aR n (aR n a)) u m) m:=rfl
 rw[<-eu,<-ev]
 refine⟨?_,?_,by dsimp only;omega,by dsimp only;omega,by dsimp only;omega,by dsimp only;omega,by dsimp only;rw[bf];omega,by dsimp only;rw[bf];omega,by dsimp only;omega,by dsimp only;omega,fun i j _ _=>IZ⟩
 ·dsimp only
  rw[bf]
  exact(sR k1 aa _).1.done
 ·dsimp only
  rw[bf]
  exact(sR k2 aa _).1.done
structure pO (p:Pl):Prop where
 d:0<p.d
 x:Sz (bM p).n.x 20
 y:Sz (bM p).n.y 20
 z:Sz (bM p).n.z 20
 w:Sz p.d 20
 q:∀e,gB 0 (ck (bM p) e)
theorem pO.Lb {p:Pl} (h:0<p.d) (hx:Sz (bM p).n.x 5) (hy:Sz (bM p).n.y 5) (hz:Sz (bM p).n.z 5) (hw:Sz p.d 5):pO p:=
 ⟨h,hx.more (by decide),hy.more (by decide),hz.more (by decide),hw.more (by decide),fun e=>match e with
  |0=>gB.pG hx
  |1=>gB.pG hy
  |2=>gB.pG hz
  |_+3=>gB.pG hw⟩
theorem ac4 {n:Nat} {f:Nat->AV} {a:Int}:∃N q:Int,gD n f a*(q:Rat)=(N:Rat)/\N.natAbs<=6/\1<=q/\q<=4:=by
 have a1:=gJ (n:=n) (f:=f) (a:=a) (m:=13) aa
 have a2:=gT (n:=n) (f:=f) (a:=a) (m:=13) aa
 have b1:=gJ (n:=n) (f:=f) (a:=aR n (aR n a)) (m:=4) aa
 have b2:=gT (n:=n) (f:=f) (a:=aR n (aR n a)) (m:=4) aa
 unfold gD
 split
 ·refine⟨cC n f a 13-6,1+cC n f (aR n (aR n a)) 4,Rat.div_mul_cancel (fun h=>?_),aa,aa,aa⟩
  have h:((1+cC n f (aR n (aR n a)) 4:Int):Rat)=((0:Int):Rat):=h
  have:=Rat.intCast_inj.1 h
  omega
 ·exact⟨cC n f a 13-6,1,by rw[show((1:Int):Rat)=1 from rfl,Rat.mul_one],aa,aa,aa⟩
theorem GH {n:Nat} {f:Nat->AV} {a:Int} {D I e:Int} (hD:1<=D) (hD3:D<=3) (hI:0<=I) (hI2:I<=10) (he:e=4\/e=8):gB 0 ((D:Rat)*((I:Rat)+gD n f a*(((1:Int):Rat)/(e:Rat))))/\Sz ((D:Rat)*((I:Rat)+gD n f a*(((1:Int):Rat)/(e:Rat)))) 20:=by
 obtain⟨N,q,h1,h2,h3,h4⟩:=ac4 (n:=n) (f:=f) (a:=a)
 have he0:(e:Rat)≠0:=fun h=>by
  have h:(e:Rat)=((0:Int):Rat):=h
  have:=Rat.intCast_inj.1 h
  omega
 constructor
 ·obtain⟨w,ew,hw⟩:=B8 (v:=e*q) (by rcases he with rfl|rfl<;>omega) (by rcases he with rfl|rfl<;>omega)
  refine⟨D*(I*LQ+N*w),?_,?_⟩
  ·rw[show LQ^(0+1)=LQ by rfl]
   have e1:(LQ:Rat)=(e:Rat)*(q:Rat)*(w:Rat):=by rw[ew,Rat.intCast_mul,Rat.intCast_mul]
   have e2:gD n f a*(((1:Int):Rat)/(e:Rat))*(LQ:Rat)=(N:Rat)*(w:Rat):=by
    rw[e1,<-h1,Rat.div_def,show((1:Int):Rat)=1 from rfl,Rat.one_mul]
    have:=Rat.inv_mul_cancel (e:Rat) he0
    grind
   rw[Rat.intCast_mul,Rat.intCast_add,Rat.intCast_mul,Rat.intCast_mul]
   grind
  ·have hL:LQ=144403552893600:=rfl
   have hNw:(N*w).natAbs<=6*36100888223400:=by
    rw[Int.natAbs_mul]
    refine Nat.mul_le_mul h2 ?_
    have h5:(e*q).natAbs*w.natAbs=144403552893600:=by rw[<-Int.natAbs_mul,<-ew];rfl
    have h6:4<=(e*q).natAbs:=by rcases he with rfl|rfl<;>omega
    have:=Nat.mul_le_mul_right w.natAbs h6
    omega
   rw[Int.natAbs_mul]
   refine Nat.le_trans (Nat.mul_le_mul (show D.natAbs<=3 by omega) (show(I*LQ+N*w).natAbs<=1444035528936000+216605329340400 by rw[hL];omega)) (by decide)
 ·have s1:Sz (I:Rat) 4:=ke aa (by decide)
  have s2:Sz (gD n f a*(((1:Int):Rat)/(e:Rat))) (3+5):=Cr.mul (NR aa aa aa)
  exact((ke (x:=D) (n:=2) aa (by decide)).mul (s1.add s2)).more (by decide)
theorem TM {b:Bool} {n:Nat} {f:Nat->AV} {a:Int} {i j:Nat} (hi:i<=5) (hj:j<=5):pO (lP b n f a i j):=by
 have b1:=gJ (n:=n) (f:=f) (a:=jj n f a) (m:=3) aa
 have b2:=gT (n:=n) (f:=f) (a:=jj n f a) (m:=3) aa
 have hw:Sz ((1+cC n f (jj n f a) 3:Int):Rat) 2:=ke (x:=1+cC n f (jj n f a) 3) (n:=2) aa (by decide)
 have hp:=IZ (b:=b) (n:=n) (f:=f) (a:=a) (i:=i) (j:=j)
 cases b
 ·have w5:Sz (lP false n f a i j).d 5:=hw.more (by decide)
  obtain⟨x1,x2⟩:=GH (n:=n) (f:=f) (a:=a) (D:=1+cC n f (jj n f a) 3) (I:=2*(i:Int)) (e:=8) aa aa aa aa (.inr rfl)
  obtain⟨y1,y2⟩:=GH (n:=n) (f:=f) (a:=gR n f a) (D:=1+cC n f (jj n f a) 3) (I:=2*(j:Int)) (e:=8) aa aa aa aa (.inr rfl)
  obtain⟨z1,z2⟩:=GH (n:=n) (f:=f) (a:=gR n f (gR n f a)) (D:=1+cC n f (jj n f a) 3) (I:=0) (e:=4) aa aa aa aa (.inl rfl)
  rw[show((0:Int):Rat)=0 from rfl,Rat.zero_add]at z1 z2
  exact⟨hp,x2,y2,z2,w5.more (by decide),fun e=>match e with
   |0=>x1
   |1=>y1
   |2=>z1
   |_+3=>gB.pG w5⟩
 ·exact .Lb hp (hw.mul Cr) (hw.mul Cr) (hw.mul Cr) (hw.more (by decide))
def Ay (s:Sf):Sf:=⟨s.u,s.v,s.a,s.ku,s.b,s.kv,s.n,s.m,fun i j=>if i<s.n/\j<s.m then s.f i j else⟨⟨0,0,0⟩,1⟩⟩
theorem UE {s:Sf} {x y:Nat}:bh (bu s x y) (bu (Ay s) x y):=
 cL ⟨.refl _,.refl _,.refl _,.refl _,fB fun i hi=>fB fun j hj=>yF (show s.f i j=if i<s.n/\j<s.m then s.f i j else _ from(if_pos ⟨hi,hj⟩).symm) bz,trivial⟩
theorem pO.ZO {s:Sf} (hs:de s) (u1:1<=s.u) (v1:1<=s.v) (lI:s.a<=20) (nq:s.b<=20) (hu:∀i,rC (s.ku i)) (hv:∀i,rC (s.kv i)) (hp:∀i j,pO (s.f i j)):jW s:=by
 have d:∀i j,Sz (s.f i j).n.x 2000/\Sz (s.f i j).n.y 2000/\Sz (s.f i j).n.z 2000:=fun i j=>by
  have e:=uz (pM (hp i j).d)
  have hd:(bM (s.f i j)).d=(s.f i j).d:=rfl
  rw[<-e]
  exact⟨((hp i j).x.div (hd▸(hp i j).w)).more (by decide),((hp i j).y.div (hd▸(hp i j).w)).more (by decide),((hp i j).z.div (hd▸(hp i j).w)).more (by decide)⟩
 refine⟨hs,⟨fun i _=>(hu i).Ar.sz.more (by decide),fun i _=>(hv i).Ar.sz.more (by decide),fun i j _ _=>(d i j).1,fun i j _ _=>(d i j).2.1,fun i j _ _=>(d i j).2.2,fun i j _ _=>(hp i j).w.more (by decide)⟩,fun j=>?_,fun i=>?_,lI,nq⟩
 ·exact⟨⟨⟨hs.ku,u1,hs.u6,hs.a,hs.n⟩,fun i=>(hp i j).d,fun i=>(hu i).Ar,fun i=>(hp i j).x,fun i=>(hp i j).y,fun i=>(hp i j).z,fun i=>(hp i j).w⟩,hu,fun i e=>(hp i j).q e⟩
 ·exact⟨⟨⟨hs.kv,v1,hs.v6,hs.b,hs.m⟩,fun j=>(hp i j).d,fun j=>(hv j).Ar,fun j=>(hp i j).x,fun j=>(hp i j).y,fun j=>(hp i j).z,fun j=>(hp i j).w⟩,hv,fun j e=>(hp i j).q e⟩
theorem Zj {n m:Nat} {f:Nat->AV} {a d:Int} (h:dc n f a) (hd:1<=d) (hd3:d<=3) (hm2:m<=2):jW (Ay (iE n f a d m)):=by
 have hs:=Tb (m:=m) h hd aa aa
 have a1:=gJ (n:=n) (f:=f) (a:=a) (m:=d) aa
 have a2:=gT (n:=n) (f:=f) (a:=a) (m:=d) aa
 have a3:=gJ (n:=n) (f:=f) (a:=aR n a) (m:=d) aa
 have a4:=gT (n:=n) (f:=f) (a:=aR n a) (m:=d) aa
 have hJ1:=uA (n:=n) (f:=f) (a:=aR n (aR n a)) (m:=m)
 have hJ2:=uA (n:=n) (f:=f) (a:=gk n f (aR n (aR n a)) (eC n f a d) m) (m:=m)
 have hu:(eC n f a d:Int)=1+cC n f a d:=by unfold eC;omega
 have hv:(eC n f (aR n a) d:Int)=1+cC n f (aR n a) d:=by unfold eC;omega
 have k1:=h.next.next
 have k2:=k1.fT (p:=eC n f a d) (m:=m) aa
 have eu:(iE n f a d m).u=(eC n f a d:Nat):=rfl
 have ev:(iE n f a d m).v=(eC n f (aR n a) d:Nat):=rfl
 have en:(iE n f a d m).n=eC n f a d+1+ig n f (aR n (aR n a)) m:=rfl
 have em:(iE n f a d m).m=eC n f (aR n a) d+1+ig n f (gk n f (aR n (aR n a)) (eC n f a d) m) m:=rfl
 have qn:=hs.n
 have qm:=hs.m
 have hP:∀i j,pO ((Ay (iE n f a d m)).f i j):=fun i j=>by
  show pO (if i<(iE n f a d m).n/\j<(iE n f a d m).m then(iE n f a d m).f i j else⟨⟨0,0,0⟩,1⟩)
  split
  ·rename_i g
   exact TM aa aa
  ·exact .Lb (by decide) ⟨by decide+kernel,by decide+kernel⟩ ⟨by decide+kernel,by decide+kernel⟩ ⟨by decide+kernel,by decide+kernel⟩ ⟨by decide+kernel,by decide+kernel⟩
 refine pO.ZO ⟨hs.ku,hs.kv,hs.u0,hs.u6,hs.v0,hs.v6,hs.a,hs.b,hs.n,hs.m,fun i j _ _=>(hP i j).d⟩ (show 1<=(iE n f a d m).u by omega) (show 1<=(iE n f a d m).v by omega) (show(iE n f a d m).a<=20 by omega) (show(iE n f a d m).b<=20 by omega) (fun i=>?_) (fun i=>?_) hP
 ·obtain⟨z,e,h1,h2⟩:=(sR (p:=eC n f a d) k1 aa (ig n f (aR n (aR n a)) m)).1.FT i
  exact⟨z,e,h1,aa⟩
 ·obtain⟨z,e,h1,h2⟩:=(sR (p:=eC n f (aR n a) d) k2 aa (ig n f (gk n f (aR n (aR n a)) (eC n f a d) m) m)).1.FT i
  exact⟨z,e,h1,aa⟩
end Go.Am.B
