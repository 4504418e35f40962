/- Spline.Elevate. -/
import Derived.Test.YtfjlccdmhpdiiaaGreatY11
import Derived.Test.YtfjlccdmhpdiiaaGreatY8
import Derived.Test.YtfjlccdmhpdiiaaGreatY10
import Derived.Test.YtfjlccdmhpdiiaaGreatY9
import Derived.Test.YtfjlccdmhpdiiaaGreatZ2
set_option linter.unusedVariables false
variable {M Q c i j m n q r s w:Nat}{f t y:Rat}{F g x:Nat->Rat}{a d u:Int}{l:List Rat}
noncomputable section
namespace Go.Am.B
open Go Go.Am.N AV ag au IntKind Proofs.Tryz
theorem Ma:aU 171 f171:=aS func171
def kW:aX:=nG::(220,P5)::(219,Gs)::(196,H7)::(194,HS)::(195,r5)::(152,pB)::(218,Rx)::iZ
abbrev wM:Code:=aE f171
abbrev vT:Code:=part wM [1,1,1]
abbrev qL:Code:=part vT [1,0,1,0,0]
abbrev qx:Code:=part qL [1,1,0,0]
abbrev z9:Code:=part qx [1,1,1,1,0,1,0,0]
abbrev xK:Code:=part z9 [1,1,0,0]
def dx:Nat:=8589934592
abbrev yy:List Nat:=[1,2,3,21,22,23]
abbrev vG (c:Cu) (i:Nat):List AV:=[.ptr 0 0 3 0 [],.ptr 1 0 3 0 [],.ptr 2 0 3 0 [],bu c.k c.n 2000,.int .i64 c.n,.int .i64 i]
abbrev ux (c:Cu) (q:Int) (m:Nat) (F:Nat->Rat):aC:=[(3,Bp 2000 m F),(2,⟨false,true,3,1,fun _=>.agg [.int .i64 q,.own 3 3 0 m,.nil]⟩),(1,FB),(0,Ia c)]
abbrev lF:List Nat:=[1,2,3,6,68,69]
abbrev qh (M j:Nat):List AV:=[.ptr 0 0 3 0 [],.ptr 1 0 3 0 [],.ptr 2 0 3 0 [],.ptr 4 0 3 0 [],.int .i64 M,.int .i64 j]
abbrev jy (c:Cu) (q:Int) (m:Nat) (F:Nat->Rat) (f:Rat) (j:Nat) (G:Nat->Pl):aC:=[(5,⟨true,true,12,j,fun i=>bI (G i) dx⟩),(4,tP f 64),(3,⟨true,false,3,m,fun i=>.rat (F i) 2000⟩),(2,⟨false,true,3,1,fun _=>.agg [.int .i64 q,.own 3 3 0 m,.own 5 12 0 j]⟩),(1,FB),(0,Ia c)]
abbrev sX:List Nat:=[1,2,3,6,68,69,9,10,12,99,100]
abbrev B3 (M j:Nat) (a:Int) (q i:Nat):List AV:=[.ptr 0 0 3 0 [],.ptr 1 0 3 0 [],.ptr 2 0 3 0 [],.ptr 4 0 3 0 [],.int .i64 M,.int .i64 j,.own 3 3 (j+1) q,.int .i64 a,.ptr 6 0 12 0 [],.int .i64 q,.int .i64 i]
abbrev rU:List Nat:=[1,2,3,6,68,69,9,10,12,99,100,14,112]
abbrev Dj (M j:Nat) (a:Int) (q i b:Nat):List AV:=[.ptr 0 0 3 0 [],.ptr 1 0 3 0 [],.ptr 2 0 3 0 [],.ptr 4 0 3 0 [],.int .i64 M,.int .i64 j,.own 3 3 (j+1) q,.int .i64 a,.ptr 6 0 12 0 [],.int .i64 q,.int .i64 i,.ptr 7 0 12 0 [],.int .i64 b]
def ja (f:Rat) (x:Nat->Pl):Nat->Pl
 |0=>⟨⟨0,0,0⟩,0⟩
 |r+1=>⟨⟨(ja f x r).n.x+f*(x r).n.x,(ja f x r).n.y+f*(x r).n.y,(ja f x r).n.z+f*(x r).n.z⟩,(ja f x r).d+f*(x r).d⟩
def nL (c:Cu) (a:Int) (q:Nat) (F:Nat->Rat) (j i:Nat):Pl:=oX c a (q-1) fun u=>jH (fun v=>F (v+(j+1))) i q u
def E7 (c:Cu) (f:Rat) (N q:Nat) (F:Nat->Rat) (j:Nat):Pl:=ja f (nL c (fY c.n c.k (F (fj F N j))) q F j) q
def oR (c:Cu):Nat:=c.n+bS c.k c.n c.n
def gJ (c:Cu):Cu:=⟨c.p+1,oR c,bt c.k c.n c.n,oR c-(c.p.toNat+1)-1,E7 c (((1:Int):Rat)/((c.p+1:Int):Rat)) (oR c) (c.p.toNat+1) (bt c.k c.n c.n)⟩
def pC (r:Nat):Nat:=1+r*(64+sB+1)
def Ht (S x:Pl) (f:Rat) (w b:Nat):AV:=.agg [.rat (if 0<b then S.n.x+f*x.n.x else S.n.x) (if 0<b then w+(64+sB)+1 else w),.rat (if 1<b then S.n.y+f*x.n.y else S.n.y) (if 1<b then w+(64+sB)+1 else w),.rat (if 2<b then S.n.z+f*x.n.z else S.n.z) (if 2<b then w+(64+sB)+1 else w),.rat (if 3<b then S.d+f*x.d else S.d) (if 3<b then w+(64+sB)+1 else w)]
abbrev AM (S x:Pl) (f:Rat) (w b:Nat):aC:=[(7,iC x sB),(6,⟨false,true,12,1,fun _=>Ht S x f w b⟩)]
theorem SW {c:Cu}:aI T kW [] 60 yy (before wM [1,1,0,1]) ⟨aN 0 [eo c 2000 4000],[],0⟩=
  let d:=c.p+1;let b:=0<1;let g:=(bp (eo c 2000 4000)).size;let e:=ak 3 c.n fun i=>rat (c.k i) 2000;let a:=agg [int i64 0,nil,nil];some (aj [b,-(2:Int)^63<=d/\d<2^63,b] (aj [b] (leaf normal ([ptr 0 0 g 0 [],ptr 4096 0 3 0 [],ptr 24576 0 3 0 [],e,int i64 (↑c.n:Int),int i64 0],[((24576:Nat),bG fun j=>if(j==0)=true then bp (agg (a.kids.set 0 (bp (int i64 d))))else a),((4096:Nat),bG fun x=>a),(0,aq.mk false true g 1 fun x=>agg [int i64 c.p,e,ak 12 c.m fun i=>bI (c.f i) 4000])])))):=ah
theorem adx {c:Cu} {q:Int}:aI T kW [24,40,50] 60 yy [part wM [1,1,0,1,0,0]] ⟨aA yy (vG c i),ux c q m F,4⟩=
  let w:=2000<2^42;let o:=rat 0 1;let v:=1*3<=2^24;let u:=ptr 2 0 3 0 [];let t:=ptr 1 0 3 0 [];let s:=ptr 0 0 3 0 [];let d:=(↑c.n:Int);let a:=(↑i:Int);let b:=m+1;let h:=ak 3 c.n fun i=>rat (c.k i) 2000;let e:=0<1;let z:=agg [int i64 q,own 3 3 0 m,nil];let r:=b+1;let l:=rat (c.k a.toNat) 2000;let g:=a+1;let B:=agg (z.kids.set 1 (bp (own (nat_lit 45059+1) 3 0 b)));let A:List (Nat×aq):=[((1:Nat),bG fun x=>agg [int i64 0,nil,nil]),((0:Nat),bG fun x=>agg [int i64 c.p,h,ak 12 c.m fun i=>bI (c.f i) 4000])];let E:=[s,t,u,h,int i64 d,int i64 g];let y:=-(2:Int)^63<=g/\g<2^63;let D:ag (List AV×aC):=aj [y] (leaf normal (E,(45060,aq.mk true true 3 b fun i=>if i<m then rat (F i) 2000 else nth [l] o (i-m+0))::((2:Nat),bG fun j=>if(j==0)=true then B else z)::A));let C:ag (List AV×aC):=aj [e,e,v,r*((56:Nat)+1)*2<=2^47,e] (aj [y] (leaf normal (E,(143364,aq.mk true true 3 r fun i=>if i<b then if i<m then rat (F i) 2000 else nth [l] o (i-m+0)else nth [l] o (i-b+0))::((2:Nat),bG fun j=>if(j==0)=true then agg ((if((0:Nat)==0)=true then B else z).kids.set 1 (bp (own (nat_lit 143363+1) 3 0 r)))else if(j==0)=true then B else z)::A)));some (fork (decide (a<d)) (aj [(0:Int)<=a/\a.toNat<c.n,e] (aj [e,e,v,b*((56:Nat)+1)*2<=2^47,e] (fork (g==d) (aj [y,e,(g==d)=true] (fork true C D)) (aj [y,e,(g==d)=false,e,e,y,(0:Int)<=g/\g.toNat<c.n,w,w] (fork (bif false then true else !decide (c.k a.toNat=c.k g.toNat)) C D))))) (leaf (exit 0) ([s,t,u,h,int i64 d,int i64 a],(3,aq.mk true true 3 m fun i=>rat (F i) 2000)::((2:Nat),bG fun x=>z)::A))):=ah
theorem acL {c:Cu} {q:Int}:aI T kW [] 60 lF (before vT [1,0,1]) ⟨aA yy (vG c i),ux c q m F,4⟩=
  let b:=0<1;let a:=(2:Int)^63;some (aj [b,-a<=1,(1:Int)<a,-a<=q,q<a,b] (aj [b,b,bh (fun i=>rat (F (i+0)) 2000) m sK,m<2^40,-(2:Int)^40<q,q<2^40] (leaf normal ([ptr 0 0 3 0 [],ptr 1 0 3 0 [],ptr 2 0 3 0 [],ptr 24580 0 3 0 [],int i64 ((↑m:Int)-q-1),int i64 0],[(3,aq.mk true false 3 m fun i=>rat (F i) 2000),((24580:Nat),bG fun j=>if(j==0)=true then bp (rat ((↑(1:Int):Rat)/(↑q:Rat)) 64)else rat 0 1),((2:Nat),bG fun x=>agg [int i64 q,own 3 3 0 m,nil]),((1:Nat),bG fun x=>agg [int i64 0,nil,nil]),((0:Nat),bG fun x=>agg [int i64 c.p,ak 3 c.n fun i=>rat (c.k i) 2000,ak 12 c.m fun i=>bI (c.f i) 4000])])))):=ah
theorem acy {c:Cu} {q:Int} {G:Nat->Pl}:aI T kW [70] 60 lF (before qL [1,1,0]) ⟨aA lF (qh M j),jy c q m F f j G,6⟩=
  let a:List AV×aC:=([ptr 0 0 3 0 [],ptr 1 0 3 0 [],ptr 2 0 3 0 [],ptr 4 0 3 0 [],int i64 (↑M:Int),int i64 (↑j:Int)],[(5,aq.mk true true 12 j fun i=>bI (G i) 8589934592),(3,aq.mk true false 3 m fun i=>rat (F i) 2000),((4:Nat),bG fun x=>rat f 64),((2:Nat),bG fun x=>agg [int i64 q,own 3 3 0 m,own 5 12 0 j]),((1:Nat),bG fun x=>agg [int i64 0,nil,nil]),((0:Nat),bG fun x=>agg [int i64 c.p,ak 3 c.n fun i=>rat (c.k i) 2000,ak 12 c.m fun i=>bI (c.f i) 4000])]);some (fork (decide ((↑j:Int)<(↑M:Int))) (leaf normal a) (leaf (exit 2) a)):=ah
theorem TL {c:Cu} {q:Int} {G:Nat->Pl}:aI T kW [] 60 sX (before qx [1,1,1,1,0,1]) ⟨aA lF (qh M j),jy c q m F f j G,6⟩=
  let b:=(↑j:Int);let h:=rat 0 1;let g:=0<1;let e:=(2:Int)^63;let d:=b+1;let a:=b+q+1;let l:=(↑(fj (fun i=>aF (rat (F (i+0)) 2000)) m b.toNat):Int);some (aj [g,-e<=d/\d<e,g,-e<=b+q/\b+q<e,-e<=a/\a<e,(0:Int)<=d/\d<=a/\a<=a/\a<=(↑m:Int)] (aj [g,g,g,g,bh (fun i=>rat (F (i+0)) 2000) m sK,(0:Int)<=b,b<=(↑m:Int),m<2^40,(0:Int)<=l/\l.toNat<m,bh (fun i=>rat (c.k i) 2000) c.n sK,(2000:Nat)<=sK,Kn c.n c.p.toNat fun i=>aF (rat (c.k i) 2000),(0:Int)<=c.p,c.n<2^40] (leaf normal ([ptr 0 0 3 0 [],ptr 1 0 3 0 [],ptr 2 0 3 0 [],ptr 4 0 3 0 [],int i64 (↑M:Int),int i64 b,own 3 3 ((0:Nat)+d.toNat) (a.toNat-d.toNat),int i64 (↑(fY c.n (fun i=>aF (rat (c.k i) 2000)) (F (l.toNat+0))):Int),ptr 126982 0 12 0 [],int i64 (↑(a.toNat-d.toNat):Int),int i64 0],[(5,aq.mk true true 12 j fun i=>bI (G i) 8589934592),(3,aq.mk true false 3 m fun i=>rat (F i) 2000),(126982,aq.mk false true 12 1 fun x=>agg [h,h,h,h]),((4:Nat),bG fun x=>rat f 64),((2:Nat),bG fun x=>agg [int i64 q,own 3 3 0 m,own 5 12 0 j]),((1:Nat),bG fun x=>agg [int i64 0,nil,nil]),((0:Nat),bG fun x=>agg [int i64 c.p,ak 3 c.n fun i=>rat (c.k i) 2000,ak 12 c.m fun i=>bI (c.f i) 4000])])))):=ah
theorem Vi {c:Cu} {G:Nat->Pl} {S:Pl}:aI T kW [101] 60 sX (before z9 [1,1,0]) ⟨aA sX (B3 M j a q i),(6,iC S w)::jy c q m F f j G,7⟩=
  let b:=(↑q:Int);let d:List AV×aC:=([ptr 0 0 3 0 [],ptr 1 0 3 0 [],ptr 2 0 3 0 [],ptr 4 0 3 0 [],int i64 (↑M:Int),int i64 (↑j:Int),own 3 3 (j+1) q,int i64 a,ptr 6 0 12 0 [],int i64 b,int i64 (↑i:Int)],[(5,aq.mk true true 12 j fun i=>bI (G i) 8589934592),(3,aq.mk true false 3 m fun i=>rat (F i) 2000),(6,aq.mk false true 12 1 fun x=>bI S w),((4:Nat),bG fun x=>rat f 64),((2:Nat),bG fun x=>agg [int i64 b,own 3 3 0 m,own 5 12 0 j]),((1:Nat),bG fun x=>agg [int i64 0,nil,nil]),((0:Nat),bG fun x=>agg [int i64 c.p,ak 3 c.n fun i=>rat (c.k i) 2000,ak 12 c.m fun i=>bI (c.f i) 4000])]);some (fork (decide ((↑i:Int)<b)) (leaf normal d) (leaf (exit 4) d)):=ah
theorem Su {c:Cu} {G:Nat->Pl} {S:Pl}:aI T kW [] 60 rU (before xK [1,1,1]) ⟨aA sX (B3 M j a q i),(6,iC S w)::jy c q m F f j G,7⟩=
  let b:=(↑i:Int);let d:=j+1;let e:=rat 0 1;let g:=b+1;some (aj [(0:Nat)<1,bh (fun i=>rat (F (i+d)) 2000) q 2048,(1:Nat)<=q,q<2^30,-(2:Int)^63<=g/\g<2^63,q=q,pH (fun i=>rat (aF (rat (F (i+d)) 2000)) 2048) q 2048,(0:Int)<=b,b<(↑q:Int),g=g,bh (fun i=>rat (c.k i) 2000) c.n sK,mJ (fun i=>bI (c.f i) 4000) c.m sK,bh (fun i=>rat (jH (fun q=>aF (rat (aF (rat (F (q+d)) 2000)) 2048)) b.toNat q (i+0)) 2048) (q-1) sK,(1:Int)<=c.p,c.p<=6,c.n<2^40,c.m<2^40,-(2:Int)^40<a,a<2^40,(0:Nat)<1] (leaf normal ([ptr 0 0 3 0 [],ptr 1 0 3 0 [],ptr 2 0 3 0 [],ptr 4 0 3 0 [],int i64 (↑M:Int),int i64 (↑j:Int),own 3 3 d q,int i64 a,ptr 6 0 12 0 [],int i64 (↑q:Int),int i64 b,ptr 45063 0 12 0 [],int i64 0],[(5,aq.mk true true 12 j fun i=>bI (G i) 8589934592),(3,aq.mk true false 3 m fun i=>rat (F i) 2000),(45063,aq.mk false true 12 1 fun j=>if(j==0)=true then bp (bI (oX (Cu.mk c.p c.n (fun i=>aF (rat (c.k i) 2000)) c.m fun i=>uo (bI (c.f i) 4000)) a (q-1) fun i=>aF (rat (jH (fun q=>aF (rat (aF (rat (F (q+d)) 2000)) 2048)) b.toNat q (i+0)) 2048)) sB)else agg [e,e,e,e]),(6,aq.mk false true 12 1 fun x=>bI S w),((4:Nat),bG fun x=>rat f 64),((2:Nat),bG fun x=>agg [int i64 (↑q:Int),own 3 3 0 m,own 5 12 0 j]),((1:Nat),bG fun x=>agg [int i64 0,nil,nil]),((0:Nat),bG fun x=>agg [int i64 c.p,ak 3 c.n fun i=>rat (c.k i) 2000,ak 12 c.m fun i=>bI (c.f i) 4000])]))):=ah
theorem abK {c:Cu} {y:Nat} {G:Nat->Pl} {S x:Pl} (hy:y<4):aI T kW [] 60 rU [part xK [1,1,1,0,0]] ⟨aA rU (Dj M j a q i y),AM S x f w y++jy c q m F f j G,8⟩=
  let c6:Nat:=64+sB;let c5:Prop:=0<1;let c4:Nat:=2^42;let c3:Int:=(↑y:Int);let c2:Nat:=w;let c1:Prop:=(0:Int)<=c3/\c3<(↑(4:Nat):Int);some (aj [c1,c5,c5,c1,c5,(64:Nat)<c4,sB<c4,c2<c4,c6<c4,c1,c5] (aj [-(2:Int)^63<=c3+1/\c3+1<(2:Int)^63] (leaf normal ([ptr 0 0 3 0 [],ptr 1 0 3 0 [],ptr 2 0 3 0 [],ptr 4 0 3 0 [],int i64 (↑M:Int),int i64 (↑j:Int),own 3 3 (j+1) q,int i64 a,ptr 6 0 12 0 [],int i64 (↑q:Int),int i64 (↑i:Int),ptr 7 0 12 0 [],int i64 (c3+1)],[(5,aq.mk true true 12 j fun i=>bI (G i) 8589934592),(3,aq.mk true false 3 m fun i=>rat (F i) 2000),(7,aq.mk false true 12 1 fun x_1=>bI x 536870912),(6,aq.mk false true 12 1 fun j=>if(j==0)=true then agg ((Ht S x f w y).kids.set c3.toNat (bp (kj (bY S y,c2) (f*bY x y,c6))))else Ht S x f w y),((4:Nat),bG fun x=>rat f 64),((2:Nat),bG fun x=>agg [int i64 (↑q:Int),own 3 3 0 m,own 5 12 0 j]),((1:Nat),bG fun x=>agg [int i64 0,nil,nil]),((0:Nat),bG fun x=>agg [int i64 c.p,ak 3 c.n fun i=>rat (c.k i) 2000,ak 12 c.m fun i=>bI (c.f i) 4000])])))):=by
 rcases four hy with rfl|rfl|rfl|rfl<;>kernel_rfl
theorem ac2 {c:Cu} {G:Nat->Pl} {S x:Pl}:aI T kW [] 60 rU [part xK [1,1,1,0,0]] ⟨aA rU (Dj M j a q i 4),AM S x f w 4++jy c q m F f j G,8⟩=
  let b:=w+((64:Nat)+sB)+1;some (leaf (exit 6) ([ptr 0 0 3 0 [],ptr 1 0 3 0 [],ptr 2 0 3 0 [],ptr 4 0 3 0 [],int i64 (↑M:Int),int i64 (↑j:Int),own 3 3 (j+1) q,int i64 a,ptr 6 0 12 0 [],int i64 (↑q:Int),int i64 (↑i:Int),ptr 7 0 12 0 [],int i64 4],[(5,aq.mk true true 12 j fun i=>bI (G i) 8589934592),(3,aq.mk true false 3 m fun i=>rat (F i) 2000),(7,aq.mk false true 12 1 fun x_1=>bI x 536870912),(6,aq.mk false true 12 1 fun x_1=>agg [rat (if 0<4 then S.n.x+f*x.n.x else S.n.x) (if 0<4 then b else w),rat (if 1<4 then S.n.y+f*x.n.y else S.n.y) (if 1<4 then b else w),rat (if 2<4 then S.n.z+f*x.n.z else S.n.z) (if 2<4 then b else w),rat (if 3<4 then S.d+f*x.d else S.d) (if 3<4 then b else w)]),((4:Nat),bG fun x=>rat f 64),((2:Nat),bG fun x=>agg [int i64 (↑q:Int),own 3 3 0 m,own 5 12 0 j]),((1:Nat),bG fun x=>agg [int i64 0,nil,nil]),((0:Nat),bG fun x=>agg [int i64 c.p,ak 3 c.n fun i=>rat (c.k i) 2000,ak 12 c.m fun i=>bI (c.f i) 4000])])):=ah
theorem ad9 {c:Cu} {G:Nat->Pl} {S x:Pl}:aI T kW [] 60 sX [part z9 [1,1,1]] ⟨aA rU (Dj M j a q i 4),AM S x f w 4++jy c q m F f j G,8⟩=
  let e:=(↑i:Int)+1;let b:=w+((64:Nat)+sB)+1;some (aj [-(2:Int)^63<=e/\e<2^63] (leaf normal ([ptr 0 0 3 0 [],ptr 1 0 3 0 [],ptr 2 0 3 0 [],ptr 4 0 3 0 [],int i64 (↑M:Int),int i64 (↑j:Int),own 3 3 (j+1) q,int i64 a,ptr 6 0 12 0 [],int i64 (↑q:Int),int i64 e],[(5,aq.mk true true 12 j fun i=>bI (G i) 8589934592),(3,aq.mk true false 3 m fun i=>rat (F i) 2000),(6,aq.mk false true 12 1 fun x_1=>agg [rat (if 0<4 then S.n.x+f*x.n.x else S.n.x) (if 0<4 then b else w),rat (if 1<4 then S.n.y+f*x.n.y else S.n.y) (if 1<4 then b else w),rat (if 2<4 then S.n.z+f*x.n.z else S.n.z) (if 2<4 then b else w),rat (if 3<4 then S.d+f*x.d else S.d) (if 3<4 then b else w)]),((4:Nat),bG fun x=>rat f 64),((2:Nat),bG fun x=>agg [int i64 (↑q:Int),own 3 3 0 m,own 5 12 0 j]),((1:Nat),bG fun x=>agg [int i64 0,nil,nil]),((0:Nat),bG fun x=>agg [int i64 c.p,ak 3 c.n fun i=>rat (c.k i) 2000,ak 12 c.m fun i=>bI (c.f i) 4000])]))):=ah
theorem Ss {c:Cu} {G:Nat->Pl} {S:Pl}:aI T kW [] 60 lF [part qx [1,1,1,1,1]] ⟨aA sX (B3 M j a q i),(6,iC S w)::jy c q m F f j G,7⟩=
  let d:=0<1;let b:=rat 0 1;let e:=agg [int i64 (↑q:Int),own 3 3 0 m,own 5 12 0 j];some (aj [d,d,(1:Nat)*12<=2^24,(j+1)*((224:Nat)+1)*2<=2^47,d] (leaf normal ([ptr 0 0 3 0 [],ptr 1 0 3 0 [],ptr 2 0 3 0 [],ptr 4 0 3 0 [],int i64 (↑M:Int),int i64 (↑j:Int)],[(16391,aq.mk true true 12 (j+1) fun i=>if i<j then bI (G i) dx else nth [bI S w] (agg [b,b,b,b]) (i-j+0)),(3,aq.mk true false 3 m fun i=>rat (F i) 2000),((4:Nat),bG fun x=>rat f 64),((2:Nat),bG fun j_1=>if(j_1==0)=true then agg (e.kids.set 2 (bp (own (nat_lit 16390+1) 12 0 (j+1))))else e),((1:Nat),bG fun x=>agg [int i64 0,nil,nil]),((0:Nat),bG fun x=>agg [int i64 c.p,ak 3 c.n fun i=>rat (c.k i) 2000,ak 12 c.m fun i=>bI (c.f i) 4000])]))):=ah
theorem Y6 {c:Cu} {h:Nat} {q:Int} {G:Nat->Pl}:aI T kW [] 60 lF [part qL [1,1,1]] ⟨aA lF (qh M j),jy c q m F f h G,6⟩=
  let a:=(↑j:Int)+1;some (aj [-(2:Int)^63<=a/\a<2^63] (leaf normal ([ptr 0 0 3 0 [],ptr 1 0 3 0 [],ptr 2 0 3 0 [],ptr 4 0 3 0 [],int i64 (↑M:Int),int i64 a],[(5,aq.mk true true 12 h fun i=>bI (G i) 8589934592),(3,aq.mk true false 3 m fun i=>rat (F i) 2000),((4:Nat),bG fun x=>rat f 64),((2:Nat),bG fun x=>agg [int i64 q,own 3 3 0 m,own 5 12 0 h]),((1:Nat),bG fun x=>agg [int i64 0,nil,nil]),((0:Nat),bG fun x=>agg [int i64 c.p,ak 3 c.n fun i=>rat (c.k i) 2000,ak 12 c.m fun i=>bI (c.f i) 4000])]))):=ah
theorem amy {c:Cu} {q:Int} {G:Nat->Pl}:ct T kW [] 60 f171 [part vT [1,1]] ⟨aA lF (qh M j),jy c q m F f j G,6⟩=
  let a:=0<1;some (aj [a,a] (aj [a] (leaf ret [agg [int i64 q,ak 3 m fun i=>rat (F (i+0)) 2000,ak 12 j fun i=>bI (G (i+0)) 8589934592]]))):=ah
theorem tH:bn P kW:=cB (aH Uy (aH Yg (aH Ra (aH Nq (aH H9 (aH y9 (aH alN jA)))))))
theorem ac4 {c:Cu} {G:Nat->Pl} {cx:Ctx} {Q:au->aK->Prop} (hk:Kept [] cx) (hc:Kn c.n c.p.toNat c.k) (hp1:1<=c.p) (hp6:c.p<=6) (hq:(q:Int)=c.p+1) (hn:c.n<2^20) (hm2:c.m<2^20) (hmn:m<2^20) (hj:j+q+1<m)
  (hG:E7 c f m q F j=G j)
  (hQ:∀s',(∃ρ,Le cx ρ s' ⟨aA lF (qh M j),jy c q m F f (j+1) G,6⟩)->ax P cx f171.ntmps (part qL [1,1,1]) s' Q):
  ax P cx f171.ntmps qx ⟨aA lF (qh M j),jy c q m F f j G,6⟩ (inBlock 3 (eH (fun s'=>ax P cx f171.ntmps (part qL [1,1,1]) s' Q) Q)):=by
 have hSB:sB=536870912:=rfl;have hSE:dx=8589934592:=rfl;obtain⟨a,ha⟩:∃a:Nat,a=fY c.n c.k (F (fj F m j)):=⟨_,rfl⟩
 have ha2:a<c.n:=by rw[ha];exact NN hc
 have hpc:=Ka (k:=F) (n:=m) (i:=j) aa;have hv:∀{rl:List (Nat×Nat)} {k x y y':Nat},bk rl 3=some 3->bk rl k=some x->y=y'->gD rl (.agg [.int .i64 q,.own 3 3 0 m,.own x 12 0 y]) (.agg [.int .i64 q,.own 3 3 0 m,.own k 12 0 y']):=fun h0 h e=>lP ⟨aM,⟨rfl,cN h0 rfl rfl⟩,⟨rfl,cN h rfl e⟩,trivial⟩;have wS:∀r,pC (r+1)=pC r+(64+sB)+1:=fun r=>by unfold pC;rw[hSB];omega
 have wL:∀r,r<=7->pC r<=dx:=fun r hr=>by unfold pC;rw[hSB,hSE];omega
 refine ax.RH hT tH hm (x:=qx) (y:=z9) (x1:=xK) (zb:=part z9 [1,1,1]) (y2:=part xK [1,1,1,0,0]) [1,1,1,1,0,1] (i:=4) ah ah ah [1,1,0] (j:=5) ah ah ah [1,1,1] (i2:=6) ah ah rfl hk (f1:=[]) (f2:=[101]) (f3:=[]) (f4:=[]) (f5:=[]) 60 sX rU 7 8
  (fun i:Nat=>B3 M j a q i) (fun i=>(6,iC (ja f (nL c a q F j) i) (pC i))::jy c q m F f j G) (fun i=>i<=q) (fun i=>i=q) (fun i=>q-i) (fun i=>i<q) (fun _=>False) (fun _=>False)
  (fun i (b:Nat)=>Dj M j a q i b) (fun i b=>AM (ja f (nL c a q F j) i) (nL c a q F j i) f (pC i) b++jy c q m F f j G) (fun _ b=>b<=4) (fun _ b=>b=4) (fun _ b=>4-b)
  ⟨_,TL,?_⟩ (fun i hi=>⟨_,Vi,?_⟩) (fun i hi hG=>⟨_,Su,?_⟩) (fun i hi hG b hb=>?_) (fun i hi hG b hb=>?_) (fun i s' hi hle=>?_) (fun _ _ h=>h.elim) (fun _ _ h=>h.elim)
 ·simp only[ag.all,ay];have e1:((j:Int)+1).toNat=j+1:=aa;have e2:((j:Int)+q+1).toNat=j+q+1:=aa;have e3:j+q+1-(j+1)=q:=aa;have h7:fj (fun i=>aF (rat (F i) 2000)) m j=fj F m j:=rfl;have h8:fY c.n (fun i=>aF (rat (c.k i) 2000)) (F (fj F m j))=a:=ha.symm;simp only[e1,e2,e3,Nat.zero_add,Nat.add_zero,bg,h7,h8];exact⟨⟨aa,aa,aa,aa,aa,aa,aa,aa,aa⟩,⟨aa,aa,aa,aa,bL (by decide),aa,aa,aa,⟨aa,hpc⟩,bL (by decide),by decide,hc,aa,aa⟩,0,Nat.zero_le _,[(0,0),(1,1),(2,2),(3,3),(4,4),(5,5),(6,126982)],rfl,rfl,rfl,aL (cX (aL (cX (cP rfl rfl (hv rfl rfl rfl) (aL (aL trivial))))))⟩
 ·simp only[ag.all,ay,br,bC];exact⟨fun h=>⟨aa,[(0,0),(1,1),(2,2),(3,3),(4,4),(5,5),(6,6)],rfl,rfl,rfl,aL (cX (aL (cX (cP rfl rfl (hv rfl rfl rfl) (aL (aL trivial))))))⟩,fun h=>⟨rfl,i,aa,[(0,0),(1,1),(2,2),(3,3),(4,4),(5,5),(6,6)],rfl,rfl,rfl,aL (cX (aL (cX (cP rfl rfl (hv rfl rfl rfl) (aL (aL trivial))))))⟩⟩
 ·simp only[ag.all,ay];have hG:i<q:=hG;exact⟨⟨aa,bL (by decide),aa,aa,aa,trivial,P4 bq,aa,aa,trivial,bL (by decide),Af (by decide),bL (by decide),hp1,hp6,aa,aa,aa,aa,aa⟩,0,aa,[(0,0),(1,1),(2,2),(3,3),(4,4),(5,5),(6,6),(7,45063)],rfl,rfl,rfl,aL (aL (cX (aL (cX (cP rfl rfl (hv rfl rfl rfl) (aL (aL trivial)))))))⟩
 ·have hG:i<q:=hG;have hb:b<=4:=hb;have hw:=wL i aa;have u1:(0:Int)<4:=by decide
  rcases(show b<4\/b=4 by omega)with hb4|rfl
  ·refine⟨_,abK hb4,?_⟩;simp only[ag.all,ay];exact⟨⟨aa,aa,aa,aa,aa,aa,aa,by show pC i<2^42;omega,aa,aa,aa⟩,aa,b+1,aa,by dsimp only;omega,[(0,0),(1,1),(2,2),(3,3),(4,4),(5,5),(6,6),(7,7)],rfl,rfl,rfl,aL (cP rfl rfl (cW (by rcases four hb4 with rfl|rfl|rfl|rfl<;>rfl) (by rcases four hb4 with rfl|rfl|rfl|rfl<;>rfl)) (cX (aL (cX (cP rfl rfl (hv rfl rfl rfl) (aL (aL trivial)))))))⟩
  ·exact⟨_,ac2,rfl,4,rfl,[(0,0),(1,1),(2,2),(3,3),(4,4),(5,5),(6,6),(7,7)],rfl,rfl,rfl,aL (aL (cX (aL (cX (cP rfl rfl (hv rfl rfl rfl) (aL (aL trivial)))))))⟩
 ·have hb:b=4:=hb;subst hb;refine⟨_,ad9,?_⟩;simp only[ag.all,ay];have hG:i<q:=hG;have hw:=Nat.le_of_eq (wS i).symm;exact⟨aa,i+1,aa,by dsimp only;omega,[(0,0),(1,1),(2,2),(3,3),(4,4),(5,5),(6,6)],rfl,rfl,rfl,cP rfl rfl (.inr ⟨rfl,cM (show fP [.rat _ _,.rat _ _,.rat _ _,.rat _ _] [.rat _ _,.rat _ _,.rat _ _,.rat _ _]from⟨cm rfl hw,cm rfl hw,cm rfl hw,cm rfl hw,trivial⟩)⟩) (cX (aL (cX (cP rfl rfl (hv rfl rfl rfl) (aL (aL trivial))))))⟩
 ·subst hi;rw[show behind qx [1,1,1,1,0,1]=[part qx [1,1,1,1,1]]from by kernel_rfl];refine aG.weak rfl hle (aG.bE hT tH hm 60 lF Ss ah ?_);simp only[ag.all,ay];refine⟨⟨aa,aa,aa,aa,aa⟩,fun s'' hs''=>hQ s'' (cT.le ⟨[(0,0),(1,1),(2,2),(3,3),(4,4),(5,16391)],rfl,rfl,rfl,cj rfl rfl rfl (fun u hu=>qe (g:=fun j=>bI (G j) dx) (fun _ _=>⟨rfl,rfl⟩) rfl ?_ hu) (aL (cX (cP rfl rfl (hv rfl rfl rfl) (aL (aL trivial)))))⟩ hs'' hk)⟩;show bV (bI (ja f (nL c a i F j) i) (pC i)) (bI (G j) dx);exact rM (by rw[<-hG,ha];rfl) (wL _ aa)
theorem Ly {rl:List (Nat×Nat)} {l:Nat} (h1:t=x l) (h2:t=x (l+1)) (hi:i<l+1+1):gD rl (if i<l+1 then(if i<l then .rat (x i) s else nth [.rat t s] (.rat 0 1) (i-l+0))else nth [.rat t s] (.rat 0 1) (i-(l+1)+0)) (.rat (x i) s):=by
 by_cases h:i<l+1
 ·rw[if_pos h];exact rD (y:=x) (fun _ _=>rfl) h1 bq bq h
 ·have:i=l+1:=aa;subst this;rw[if_neg h,Nat.sub_self,h2];exact cW rfl rfl
set_option maxHeartbeats 1000000 in
theorem ac3 {c:Cu} (hc:Kn c.n c.p.toNat c.k) (hp1:1<=c.p) (hp6:c.p<=6) (hn:c.n<2^18) (hm2:c.m<2^18) (K:Nat):aQ P 171 K [eo c 2000 4000] [] (aJ (eo (gJ c) 2000 dx) []):=by
 refine fV (r:=aJ (eo (gJ c) 2000 dx) []) hT Ma rfl aV rfl (fun _ cx h00=>?_) K [];have hk:=iL h00;have hl:=hc.len;have hq:c.p+1=((c.p.toNat+1:Nat):Int):=aa;have hK:=oB hc;have hKl:=hK.len;have hgl:=yB (k:=c.k) (n:=c.n) (i:=c.n);have hv:∀{rl:List (Nat×Nat)} {x y y':Nat} {q:Int},bk rl 3=some x->y=y'->gD rl (.agg [.int .i64 q,.own x 3 0 y,.nil]) (.agg [.int .i64 q,.own 3 3 0 y',.nil]):=fun h e=>lP ⟨aM,⟨rfl,cN h rfl e⟩,aM,trivial⟩;refine ax.mY hT tH hm (x:=wM) [1,1,0,1] (i:=0) (y:=part wM [1,1,0,1,0,0]) (z:=vT) ah ah ah Ma.dst hk (f1:=[]) (f2:=[24,40,50]) 60 yy 4
  (fun i:Nat=>vG c i) (fun i=>ux c ((c.p.toNat+1:Nat):Int) (i+bS c.k c.n i) (bt c.k c.n c.n)) (fun i=>i<=c.n) (fun i=>i=c.n) (fun i=>c.n-i) (fun _=>False) ⟨_,SW,?_⟩ (fun i hi=>⟨_,adx,?_⟩) (fun i hi=>?_) (fun _ _ h=>h.elim)
 ·simp only[ag.all,ay,hq];exact⟨⟨aa,aa,aa⟩,aa,0,Nat.zero_le _,[(0,0),(1,4096),(2,24576)],rfl,rfl,rfl,jP rfl aa aa (cP rfl rfl (lP ⟨aM,⟨rfl,pY aa⟩,aM,trivial⟩) (aL (aL trivial)))⟩
 ·have e1:((i:Int)+1).toNat=i+1:=aa;have hgi:=yB (k:=c.k) (n:=c.n) (i:=i);simp only[ag.all,ay,br,bC,cond_false,Bool.not_eq_true',Bool.not_eq_false',e1,bg];refine⟨fun h=>?_,fun h=>⟨rfl,i,aa,[(0,0),(1,1),(2,2),(3,3)],rfl,rfl,rfl,cX (cP rfl rfl (hv rfl rfl) (aL (aL trivial)))⟩⟩;obtain⟨n1,n2⟩:=XE (k:=c.k) (n:=c.n) (i:=i) aa;have dbl:(i+1=c.n\/c.k i≠c.k (i+1))->(i+1)+bS c.k c.n (i+1)=i+bS c.k c.n i+1+1/\c.k i=bt c.k c.n c.n (i+bS c.k c.n i+1):=fun g=>⟨by rw[rW g];omega,by rw[n2,if_pos g]⟩
  have one:¬(i+1=c.n\/c.k i≠c.k (i+1))->(i+1)+bS c.k c.n (i+1)=i+bS c.k c.n i+1:=fun g=>by rw[uV g];omega
  refine⟨⟨aa,aa⟩,⟨aa,aa,aa,aa,aa⟩,fun g=>⟨⟨aa,aa,g⟩,fun _=>⟨⟨aa,aa,aa,aa,aa⟩,aa,i+1,aa,by dsimp only;omega,?_⟩,fun g2=>absurd g2 (by decide)⟩,fun g=>⟨⟨aa,aa,g,aa,aa,aa,by have:=beq_eq_false_iff_ne.1 g;omega,aa,aa⟩,fun g2=>⟨⟨aa,aa,aa,aa,aa⟩,aa,i+1,aa,by dsimp only;omega,?_⟩,fun g2=>⟨aa,i+1,aa,by dsimp only;omega,?_⟩⟩⟩
  ·obtain⟨d1,d2⟩:=dbl (.inl (by have:=beq_iff_eq.1 g;omega));show cT [] _ (vG c (i+1)) (ux c ((c.p.toNat+1:Nat):Int) (i+1+bS c.k c.n (i+1)) (bt c.k c.n c.n)) 4;rw[d1];exact⟨[(0,0),(1,1),(2,2),(3,143364)],rfl,rfl,rfl,cj rfl rfl rfl (fun u hu=>Ly n1.symm d2 hu) (cP rfl rfl (by exact hv rfl rfl) (aL (aL trivial)))⟩
  ·obtain⟨d1,d2⟩:=dbl (.inr g2);show cT [] _ (vG c (i+1)) (ux c ((c.p.toNat+1:Nat):Int) (i+1+bS c.k c.n (i+1)) (bt c.k c.n c.n)) 4;rw[d1];exact⟨[(0,0),(1,1),(2,2),(3,143364)],rfl,rfl,rfl,cj rfl rfl rfl (fun u hu=>Ly n1.symm d2 hu) (cP rfl rfl (by exact hv rfl rfl) (aL (aL trivial)))⟩
  ·have g3:=one (fun g3=>g3.elim (fun g4=>beq_eq_false_iff_ne.1 g aa) fun g4=>g4 g2);show cT [] _ (vG c (i+1)) (ux c ((c.p.toNat+1:Nat):Int) (i+1+bS c.k c.n (i+1)) (bt c.k c.n c.n)) 4;rw[g3];exact⟨[(0,0),(1,1),(2,2),(3,45060)],rfl,rfl,rfl,cj rfl rfl rfl (fun u hu=>rD (y:=bt c.k c.n c.n) (fun _ _=>rfl) n1.symm bq bq hu) (cP rfl rfl (by exact hv rfl rfl) (aL (aL trivial)))⟩
 ·subst hi;obtain⟨M,hM⟩:∃M,M=c.n+bS c.k c.n c.n-(c.p.toNat+1)-1:=⟨_,rfl⟩
  have eM:((c.n+bS c.k c.n c.n:Nat):Int)-((c.p.toNat+1:Nat):Int)-1=(M:Nat):=aa;obtain⟨f,hf⟩:∃f:Rat,f=((1:Int):Rat)/(((c.p.toNat+1:Nat):Int):Rat):=⟨_,rfl⟩
  obtain⟨G,hG⟩:∃G:Nat->Pl,G=E7 c f (c.n+bS c.k c.n c.n) (c.p.toNat+1) (bt c.k c.n c.n):=⟨_,rfl⟩
  refine ax.ym hT tH hm (x:=vT) [1,0,1] (i:=2) (y:=qL) (z:=part vT [1,1]) ah ah ah ah hk (f1:=[]) 60 lF 6
   (fun j:Nat=>qh M j) (fun j=>jy c ((c.p.toNat+1:Nat):Int) (c.n+bS c.k c.n c.n) (bt c.k c.n c.n) f j G) (fun j=>j<=M) (fun j=>j=M) (fun j=>M-j) (fun _=>False) ⟨_,acL,?_⟩ (fun j hj=>?_) (fun j hj=>?_) (fun _ _ h=>h.elim)
  ·simp only[ag.all,ay,eM,<-hf];refine⟨⟨aa,aa,aa,aa,aa,aa⟩,⟨aa,aa,bL (by decide),aa,aa,aa⟩,0,Nat.zero_le _,[(0,0),(1,1),(2,2),(3,3),(4,24580)],rfl,rfl,rfl,jP rfl aa aa (aL (cX (cP rfl rfl (lP ⟨aM,⟨rfl,cN rfl rfl rfl⟩,⟨rfl,pY aa⟩,trivial⟩) (aL (aL trivial)))))⟩
  ·have hv2:∀{rl:List (Nat×Nat)} {y y':Nat},bk rl 3=some 3->bk rl 5=some 5->y=y'->gD rl (.agg [.int .i64 ((c.p.toNat+1:Nat):Int),.own 3 3 0 (c.n+bS c.k c.n c.n),.own 5 12 0 y]) (.agg [.int .i64 ((c.p.toNat+1:Nat):Int),.own 3 3 0 (c.n+bS c.k c.n c.n),.own 5 12 0 y']):=fun h0 h e=>lP ⟨aM,⟨rfl,cN h0 rfl rfl⟩,⟨rfl,cN h rfl e⟩,trivial⟩;have re:∀{V:List AV} {y:Nat},V.all (lJ [(0,0),(1,1),(2,2),(3,3),(4,4),(5,5)])=true->V=V.map (l8 [(0,0),(1,1),(2,2),(3,3),(4,4),(5,5)])->cT [] (V,[(5,⟨true,true,12,y,fun i=>bI (G i) dx⟩),(3,⟨true,false,3,c.n+bS c.k c.n c.n,fun i=>.rat (bt c.k c.n c.n i) 2000⟩),(4,tP f 64),(2,⟨false,true,3,1,fun _=>.agg [.int .i64 ((c.p.toNat+1:Nat):Int),.own 3 3 0 (c.n+bS c.k c.n c.n),.own 5 12 0 y]⟩),(1,FB),(0,Ia c)]) V (jy c ((c.p.toNat+1:Nat):Int) (c.n+bS c.k c.n c.n) (bt c.k c.n c.n) f y G) 6:=fun {V y} h1 h2=>
    ⟨[(0,0),(1,1),(2,2),(3,3),(4,4),(5,5)],rfl,h2,h1,cX (aL (cX (cP rfl rfl (hv2 rfl rfl rfl) (aL (aL trivial)))))⟩
   refine ax.su hT tH hm (y:=qL) (x1:=qx) (zb:=part qL [1,1,1]) [1,1,0] (j:=3) ah ah ah ah hk (f1:=[70]) 60 lF 6 (fun _:Unit=>qh M j) (fun _=>jy c ((c.p.toNat+1:Nat):Int) (c.n+bS c.k c.n c.n) (bt c.k c.n c.n) f j G) (fun _=>j<M) ⟨_,acy,?_⟩ (fun _ hj'=>?_)
   ·simp only[ag.all,ay,br,bC];exact⟨fun h1=>⟨(),aa,re rfl rfl⟩,fun h1 s' hs'=>⟨rfl,j,aa,(re rfl rfl).le hs' hk⟩⟩
   have hj':j<M:=hj';refine ac4 hk hc hp1 hp6 aa aa aa aa aa (by rw[hG]) fun s' hle=>?_;refine ax.jh hle (ax.bE hT tH hm 60 lF Y6 ah ?_);simp only[ag.all,ay];exact⟨aa,fun s'' hs''=>⟨j+1,aa,by dsimp only;omega,cT.le (re rfl rfl) hs'' hk⟩⟩
  ·subst hj;refine ax.hH ((aG.fin hT tH hm 60 amy ah ?_).mono fun _ _ h=>.inl h);simp only[ag.all,ay];refine⟨⟨aa,aa⟩,aa,cM ⟨bP hq.symm,fI fun i _=>.refl _,tw hM fun i _=>?_,trivial⟩⟩;rw[hG,hf,<-hq];rfl
abbrev eR (c:Cu):Cu:=⟨c.p,c.n,c.k,c.m,fun i=>cy (c.f i)⟩
abbrev qu (c:Cu):Cu:=⟨c.p,c.n,c.k,c.m,fun i=>dG (c.f i)⟩
def Qj:Spec:=cz (kC (Br dx) kN) (fun a=>bH (dG a.1) (dx+dx)) fun _=>[]
def fC (c:Cu):Cu:=if 6<=c.p then Pp else qu (gJ (eR c))
theorem aaY:aW P Qj 115:=cr fun⟨h,_⟩ K _=>EY (by decide) (by decide) (by decide) K
theorem Rz:aU 54 f54:=aS func54
theorem ady:aU 110 f110:=aS func110
def kT (c:Cu):Prop:=Kn c.n c.p.toNat c.k/\1<=c.p/\c.p<=6/\c.n<2^18/\c.m<2^18
def PT:aX:=nG::(111,NT)::[]
def Nh:Spec:=cz (kC (sI 2000 4000) (kC (BW (gv 2000)) kN)) (fun a=>eo (qD a.1 a.2.1) sK dx) fun a=>[kT a.1]
def NB:Spec:=cz (kC (sI 2000 4000) kN) (fun a=>eo (gJ a.1) sK dx) fun a=>[kT a.1]
def tD:aX:=nG::(116,AQ sK 4200)::(135,Gq)::(110,Nh)::(171,NB)::(115,Qj)::(97,Dh)::[]
abbrev jd (b:Bool) (t:Rat):AV:=bif b then .func 110 [.bZ (.rat t 2000)]else .func 171 []
abbrev fH (b:Bool) (t:Rat) (c:Cu):Cu:=bif b then qD c t else gJ c
abbrev zD:Code:=aE f54
abbrev y7:Code:=part zD [1,1,1,0,1,0,0]
abbrev xJ:Code:=part y7 [1,1,0,0]
abbrev sR:List Nat:=[4,1,5,6,20,21,22]
abbrev td (w:AV) (s:Sf) (j:Nat):List AV:=[.ptr 0 0 5 0 [],w,.ptr 1 0 5 0 [],.own 2 1 0 j,lS s s.m,.int .i64 s.m,.int .i64 j]
abbrev ou (s:Sf) (u:Int) (a:Nat) (k:Nat->Rat) (n:Nat) (g:Nat->Nat->Pl) (j:Nat):aC:=[(2,⟨true,true,1,j,fun j=>aT (g j) n (dx+dx)⟩),(1,⟨false,true,5,1,fun _=>.agg [.int .i64 u,.int .i64 s.v,bu k a 4200,bu s.kv s.b 4200,.nil]⟩),(0,⟨false,true,5,1,fun _=>.agg [.int .i64 0,.int .i64 0,.nil,.nil,.nil]⟩)]
abbrev Ai:List Nat:=[4,1,5,6,20,21,22,10,37,38,39]
abbrev GZ (w:AV) (s:Sf) (n:Nat) (h:Nat->Pl) (j i:Nat):List AV:=[.ptr 0 0 5 0 [],w,.ptr 1 0 5 0 [],.own 2 1 0 j,lS s s.m,.int .i64 s.m,.int .i64 j,.own 3 12 0 i,qY h n dx,.int .i64 n,.int .i64 i]
abbrev Cj (s:Sf) (u:Int) (a:Nat) (k:Nat->Rat) (n:Nat) (h:Nat->Pl) (g:Nat->Nat->Pl) (j i:Nat):aC:=(3,⟨true,true,12,i,fun i=>bH (dG (h i)) (dx+dx)⟩)::ou s u a k n g j
theorem afv {c:Cu}:bX T PT [] 60 f110 (aE f110) ⟨aN 0 [eo c 2000 4000,.bZ (.rat t 2000)],[],0⟩=
  let o:Prop:=0<1;some (aj [o,bh (fun i=>.rat (c.k i) 2000) c.n 2000,mJ (fun i=>bI (c.f i) 4000) c.m 4000,2000<=2000,Kn c.n c.p.toNat c.k,1<=c.p,c.p<=6,c.n<2^28,c.m<2^40,o] (aj [o] (leaf .ret [eo (qD c t) sK sB]))):=ah
theorem afZ {s:Sf} {b:Bool}:aI T tD [] 60 sR (before zD [1,1,1,0,1]) ⟨aN 0 [bM s 2000 2000,jd b t],[],0⟩=
  let z:AV:=.agg [.int .i64 0,.int .i64 0,.nil,.nil,.nil];let o:Prop:=0<1;some (aj [o,o,bh (fun i=>.rat (s.kv i) 2000) s.b sK,sK+10<=4200,4200<2^40,s.b<2^40,o] (aj [o,bh (fun i=>.rat (s.ku i) 2000) s.a 2000,bh (fun i=>.rat (s.kv i) 2000) s.b 2000,dN (fun i=>aT (s.f i) s.m 2000) s.n 2000,1<=s.n,s.n<2^28,s.m<2^28] (leaf .normal ([.ptr 4096 0 5 0 [],jd b t,.ptr 32768 0 5 0 [],.nil,lS s s.m,.int .i64 s.m,.int .i64 0],[(32768,⟨false,true,5,1,fun j=>if(j==0)=true then bp (.agg ((z.kids.set 1 (bp (.int .i64 s.v))).set 3 (bp (bu s.kv s.b 4200))))else z⟩),(4096,⟨false,true,5,1,fun _=>z⟩)])))):=by cases b<;>kernel_rfl
theorem TZ {s:Sf} {b:Bool} {a:Nat} {k:Nat->Rat} {g:Nat->Nat->Pl}:aI T tD [23] 60 sR (before y7 [1,1,0]) ⟨aA sR (td (jd b t) s j),ou s u a k n g j,3⟩=
  let x:List AV×aC:=(td (jd b t) s j,ou s u a k n g j);some (fork (decide ((j:Int)<(s.m:Int))) (leaf .normal x) (leaf (.exit 0) x)):=by cases b<;>kernel_rfl
theorem VC {s:Sf} {b:Bool} {a:Nat} {k:Nat->Rat} {g:Nat->Nat->Pl}:aI T tD [] 60 Ai (before xJ [1,1,1,1,0,1]) ⟨aA sR (td (jd b t) s j),ou s u a k n g j,3⟩=
  let c:=cq s j;let d:=fH b t c;let z:AV:=.agg [.int .i64 u,.int .i64 s.v,bu k a 4200,bu s.kv s.b 4200,.nil];let y:AV:=.agg (z.kids.set 0 (bp (.int .i64 d.p)));let o:Prop:=0<1;let R:=bh (fun i=>.rat (s.ku i) 2000) s.a 2000;let H:=mJ (fun i=>bI (c.f i) 4000) s.n 4000;some (aj [(0:Int)<=j/\j<s.m,o] (aj (bif b then [o,R,H,2000<=2000,kT c,o]else [o,R,H,kT c,o]) (aj [o,o,bh (fun i=>.rat (d.k i) sK) d.n sK,sK+10<=4200,4200<2^40,d.n<2^40,o,o] (aj [o] (leaf .normal ([.ptr 0 0 5 0 [],jd b t,.ptr 1 0 5 0 [],.own 2 1 0 j,lS s s.m,.int .i64 s.m,.int .i64 j,.nil,qY d.f d.m dx,.int .i64 d.m,.int .i64 0],[(2,⟨true,true,1,j,fun j=>aT (g j) n (dx+dx)⟩),(1,⟨false,true,5,1,fun j=>if(j==0)=true then .agg ((if((0:Nat)==0)=true then y else z).kids.set 2 (bp (bu d.k d.n 4200)))else if(j==0)=true then y else z⟩),(0,⟨false,true,5,1,fun _=>.agg [.int .i64 0,.int .i64 0,.nil,.nil,.nil]⟩)])))))):=by cases b<;>kernel_rfl
theorem ab0 {s:Sf} {b:Bool} {a:Nat} {k:Nat->Rat} {h:Nat->Pl} {g:Nat->Nat->Pl}:aI T tD [40] 60 Ai [part xJ [1,1,1,1,0,1,0,0]] ⟨aA Ai (GZ (jd b t) s n h j i),Cj s u a k n h g j i,4⟩=
  let l:=dx+dx;let q:Int:=(i:Int)+1;let p:=h i;let o:Prop:=dx<=dx;let V:AV->Int->List AV:=fun x y=>[.ptr 0 0 5 0 [],jd b t,.ptr 1 0 5 0 [],.own 2 1 0 j,lS s s.m,.int .i64 s.m,.int .i64 j,x,qY h n dx,.int .i64 n,.int .i64 y];some (fork (decide ((i:Int)<n)) (aj [(0:Int)<=i/\i<n,0<1] (aj [0<1,o,o,o,o,1*12<=2^24,(i+1)*(224+1)*2<=2^47] (aj [-2^63<=q/\q<2^63] (leaf .normal (V (.own 36868 12 0 (i+1)) q,(36868,⟨true,true,12,i+1,fun r=>if r<i then bH (dG (h r)) l else nth [bH (dG p) l] (.agg [.agg [.rat 0 1,.rat 0 1,.rat 0 1],.rat 0 1]) (r-i+0)⟩)::ou s u a k n g j))))) (leaf (.exit 2) (V (.own 3 12 0 i) i,Cj s u a k n h g j i))):=by cases b<;>kernel_rfl
theorem alX {s:Sf} {b:Bool} {a:Nat} {k:Nat->Rat} {h:Nat->Pl} {g:Nat->Nat->Pl}:aI T tD [] 60 sR (behind xJ [1,1,1,1,0,1]++[part y7 [1,1,1]]) ⟨aA Ai (GZ (jd b t) s n h j i),Cj s u a k n h g j i,4⟩=
  let y:Int:=(j:Int)+1;some (aj [1*1<=2^24,(j+1)*(24+1)*2<=2^47] (aj [-2^63<=y/\y<2^63] (leaf .normal ([.ptr 0 0 5 0 [],jd b t,.ptr 1 0 5 0 [],.own 12292 1 0 (j+1),lS s s.m,.int .i64 s.m,.int .i64 y],(12292,⟨true,true,1,j+1,fun r=>if r<j then aT (g r) n (dx+dx)else nth [.ak 12 i fun i=>bH (dG (h (i+0))) (dx+dx)] .nil (r-j+0)⟩)::(ou s u a k n g j).tail)))):=by cases b<;>kernel_rfl
theorem alZ {s:Sf} {b:Bool} {a:Nat} {k:Nat->Rat} {g:Nat->Nat->Pl}:ct T tD [] 60 f54 [part zD [1,1,1,1]] ⟨aA sR (td (jd b t) s j),ou s u a k n g j,3⟩=
  let l:=dx+dx;let o:Prop:=0<1;some (aj [dN (fun i=>aT (g (i+0)) n l) j l,j=0->n=0,j<2^28,n<2^28,o] (aj [o,o] (aj [o] (leaf .ret [bM ⟨u,s.v,a,k,s.b,s.kv,n,j,fun i j=>g (j+0) i⟩ 4200 l])))):=by cases b<;>kernel_rfl
theorem ahY:bn P PT:=cB (aH ajg bw)
theorem W6:aW P Nh 110:=cr fun⟨c,t,_⟩ K hn=>by
 obtain⟨h1,h2,h3,h4,h5⟩:kT c:=hn;refine b9 (r:=aJ (eo (qD c t) sK dx) []) hT ahY hm ady rfl aV rfl 60 afv (fun _=>?_) K [];simp only[ag.all,ay]
 (repeat' with_reducible refine And.intro ?_ ?_)
 all_goals first|omega|exact bL (by decide)|exact Af (by decide)|exact h1|skip
 exact cM ⟨.refl _,.refl _,fI fun i _=>rM rfl (by decide),trivial⟩
theorem Tu:aW P NB 171:=cr fun⟨c,_⟩ K hn=>by
 obtain⟨h1,h2,h3,h4,h5⟩:kT c:=hn;exact DA (u:=eo (gJ c) 2000 dx) (l:=[]) (ac3 h1 h2 h3 h4 h5 K) (fun h=>trivial) rfl rfl (cM ⟨.refl _,fI fun i _=>cm rfl (by decide),.refl _,trivial⟩)
theorem Q9:bn P tD:=cB (aH (DI _ _) (aH PC (aH W6 (aH Tu (aH aaY (aH Fi bw))))))
def og {α:Type} (a b:α):Nat->α
 |0=>a
 |_+1=>b
theorem ado {α:Type} {a b:α}:∀{n:Nat},1<=n->og a b n=b
 |0,h=>absurd h aa
 |_+1,_=>rfl
def rG (b:Bool) (t:Rat) (s:Sf):Sf:=⟨(fH b t (cq s 0)).p,s.v,(fH b t (cq s 0)).n,(fH b t (cq s 0)).k,s.b,s.kv,(fH b t (cq s 0)).m,s.m,fun i j=>dG ((fH b t (cq s j)).f i)⟩
theorem Qb {b:Bool} {c:Cu}:(fH b t c).n<=c.n+c.n+1/\(fH b t c).m<=c.n+c.n+1:=by
 cases b
 ·have hg:=yB (k:=c.k) (n:=c.n) (i:=c.n);exact⟨show c.n+bS c.k c.n c.n<=_ by omega,show c.n+bS c.k c.n c.n-(c.p.toNat+1)-1<=_ by omega⟩
 ·exact⟨show c.n+1<=_ by omega,show c.n+1-c.p.toNat-1<=_ by omega⟩
theorem Bl {b:Bool} {s:Sf}:(fH b t (cq s j)).p=bif b then s.u else s.u+1:=by cases b<;>rfl
theorem CQ {b:Bool} {s:Sf}:(fH b t (cq s j)).n=bif b then s.a+1 else s.a+bS s.ku s.a s.a:=by cases b<;>rfl
theorem vU {b:Bool} {s:Sf}:(fH b t (cq s j)).m=bif b then s.a+1-s.u.toNat-1 else s.a+bS s.ku s.a s.a-(s.u.toNat+1)-1:=by cases b<;>rfl
theorem CW {b:Bool} {s:Sf}:(fH b t (cq s j)).k=bif b then jo s.ku t (ia s.ku t s.a)else bt s.ku s.a s.a:=by cases b<;>rfl
set_option maxHeartbeats 1000000 in
theorem Q7 {b:Bool} {s:Sf} (hs:kT (cq s 0)) (hm1:1<=s.m) (hm2:s.m<2^28) (hb:s.b<2^28) (hn1:1<=s.n) (K:Nat):aQ P 54 K [bM s 2000 2000,jd b t] [] (aJ (bM (rG b t s) 4200 (dx+dx)) []):=by
 refine fV (r:=aJ (bM (rG b t s) 4200 (dx+dx)) []) hT Rz (by cases b<;>rfl) aV rfl (fun _ cx h00=>?_) K [];have hk:=iL h00;obtain⟨q1,q2,q3,q4,q5⟩:=id hs;have q4:s.a<2^18:=q4;have q5:s.n<2^18:=q5;obtain⟨z1,z2⟩:=Qb (b:=b) (t:=t) (c:=cq s 0);have z1:(fH b t (cq s 0)).n<=s.a+s.a+1:=z1;have z2:(fH b t (cq s 0)).m<=s.a+s.a+1:=z2;obtain⟨d,hd⟩:∃d,d=fH b t (cq s 0):=⟨_,rfl⟩
 rw[<-hd]at z1 z2;have eP:∀j,(fH b t (cq s j)).p=d.p:=fun j=>by rw[hd,Bl,Bl]
 have eN:∀j,(fH b t (cq s j)).n=d.n:=fun j=>by rw[hd,CQ,CQ]
 have eM:∀j,(fH b t (cq s j)).m=d.m:=fun j=>by rw[hd,vU,vU]
 have eK:∀j,(fH b t (cq s j)).k=d.k:=fun j=>by rw[hd,CW,CW]
 have ok1:∀rl,lJ rl (jd b t)=true:=fun rl=>by cases b<;>rfl
 have IW:∀rl,l8 rl (jd b t)=jd b t:=fun rl=>by cases b<;>rfl
 refine ax.vP hT Q9 hm (x:=zD) [1,1,1,0,1] (i:=0) (y:=y7) (z:=part zD [1,1,1,1]) ah ah ah Rz.dst [1,1,0] (j:=1) (x1:=xJ) (zb:=part y7 [1,1,1]) ah ah ah [1,1,1,1,0,1] (i2:=2) (y2:=part xJ [1,1,1,1,0,1,0,0]) ah ah rfl
  hk (f1:=[]) (f2:=[23]) (f3:=[]) (f4:=[40]) (f5:=[]) 60 sR Ai 3 4 (fun j:Nat=>td (jd b t) s j) (fun j=>ou s (og 0 d.p j) (og 0 d.n j) (og (fun _=>0) d.k j) d.m (fun j i=>dG ((fH b t (cq s j)).f i)) j) (fun j=>j<=s.m) (fun j=>j=s.m) (fun j=>s.m-j) (fun j=>j<s.m) (fun _=>False) (fun _=>False)
  (fun j (i:Nat)=>GZ (jd b t) s d.m (fH b t (cq s j)).f j i) (fun j i=>Cj s d.p d.n d.k d.m (fH b t (cq s j)).f (fun j i=>dG ((fH b t (cq s j)).f i)) j i) (fun _ i=>i<=d.m) (fun _ i=>i=d.m) (fun _ i=>d.m-i) ⟨_,afZ,?_⟩ (fun j hj=>⟨_,TZ,?_⟩) (fun j hj hg=>⟨_,VC,?_⟩) (fun j hj hg i hi=>⟨_,ab0,?_⟩) (fun j hj hg i hi=>⟨_,alX,?_⟩) (fun j hj=>?_) (fun _ _ h=>h.elim) (fun _ _ h=>h.elim)
 all_goals try simp only[ag.all,ay,br,bC,bg,Nat.add_zero]
 ·exact⟨⟨aa,aa,bL (by decide),by decide,by decide,aa,aa⟩,⟨aa,bL (by decide),bL (by decide),fo (by decide),aa,aa,aa⟩,0,Nat.zero_le _,[(0,4096),(1,32768)],by cases b<;>rfl,by cases b<;>rfl,by cases b<;>rfl,jP rfl aa aa (cP rfl rfl (.inr ⟨rfl,cM ⟨.refl _,.refl _,iT aa,.refl _,.refl _,trivial⟩⟩) (aL trivial))⟩
 ·have re:cT [] (td (jd b t) s j,ou s (og 0 d.p j) (og 0 d.n j) (og (fun x=>0) d.k j) d.m (fun j i=>dG ((fH b t (cq s j)).f i)) j) (td (jd b t) s j) (ou s (og 0 d.p j) (og 0 d.n j) (og (fun x=>0) d.k j) d.m (fun j i=>dG ((fH b t (cq s j)).f i)) j) 3:=⟨[(0,0),(1,1),(2,2)],by cases b<;>rfl,by cases b<;>rfl,by cases b<;>rfl,cX (aL (aL trivial))⟩
  exact⟨fun h=>⟨aa,re⟩,fun h=>⟨rfl,j,aa,re⟩⟩
 ·rw[eM,eN,eK,eP];refine⟨aa,?_,⟨aa,aa,bL (by decide),by decide,by decide,aa,aa,aa⟩,aa,0,Nat.zero_le _,[(0,0),(1,1),(2,2)],by cases b<;>rfl,by cases b<;>rfl,by cases b<;>rfl,jP rfl aa aa (cX (aL (aL trivial)))⟩;cases b
  ·exact⟨Nat.zero_lt_one,bL (by decide),Af (by decide),hs,Nat.zero_lt_one⟩
  ·exact⟨Nat.zero_lt_one,bL (by decide),Af (by decide),bq,hs,Nat.zero_lt_one⟩
 ·refine⟨fun h=>⟨aa,⟨aa,aa,aa,aa,aa,aa,aa⟩,aa,i+1,aa,by dsimp only;omega,[(0,0),(1,1),(2,2),(3,36868)],by cases b<;>rfl,by cases b<;>rfl,by cases b<;>rfl,cj rfl rfl rfl (fun k hk=>qe (g:=fun i=>bH (dG ((fH b t (cq s j)).f i)) (dx+dx)) (fun _ _=>⟨rfl,rfl⟩) rfl (.refl _) hk) (cX (aL (aL trivial)))⟩,
   fun h=>⟨rfl,i,aa,[(0,0),(1,1),(2,2),(3,3)],by cases b<;>rfl,by cases b<;>rfl,by cases b<;>rfl,cX (cX (aL (aL trivial)))⟩⟩
 ·subst hi;exact⟨⟨aa,aa⟩,aa,j+1,aa,by dsimp only;omega,[(0,0),(1,1),(2,12292)],by cases b<;>rfl,by cases b<;>rfl,by cases b<;>rfl,cj rfl rfl rfl (fun k hk=>rowAt (g:=fun j=>aT (fun i=>dG ((fH b t (cq s j)).f i)) d.m (dx+dx)) hk rfl rfl) (aL (aL trivial))⟩
 ·subst hj;refine ax.hH ((aG.fin hT Q9 hm 60 alZ (by cases b<;>kernel_rfl) ?_).mono fun _ _ h=>.inl h);simp only[ag.all,ay,ado hm1,Nat.add_zero];refine⟨⟨fo bq,aa,aa,aa,aa⟩,aa,aa,?_⟩;unfold rG;rw[<-hd];exact .refl _
theorem aco {p:Nat} {k:Nat->Rat} (h:Kn n p k) (hi:i+1<n+bS k n n) (hw:bt k n n i<bt k n n (i+1)):At n k (fY n k (bt k n n i)):=by
 have hl:=h.len;obtain⟨a,a1,a2,a3⟩:=yN (k:=k) (n:=n) (Q:=i) (m:=n) aa;have v:bt k n n i=k a:=k7 a1 a2 a3;have hA:At n k a:=by
  by_cases c:i+1<a+1+bS k n (a+1)
  ·rw[v,k7 (q:=i+1) a1 aa c]at hw;exact absurd hw Rat.lt_irrefl
  ·have hlt:a+1<n:=by
    by_cases e:a+1<n
    ·exact e
    ·have:a+1=n:=aa;rw[this]at c;omega
   have:=(nY (k:=k) (n:=n) (i:=a+1)).1;rw[v,k7 (q:=i+1) hlt aa aa]at hw;exact⟨hlt,h.sorted,hw⟩
 have hlt:=hA.lt;rw[v];unfold fY;rw[if_neg,yQ hA]
 ·exact hA
 ·rintro(g|g)
  ·exact absurd (h.mono (Nat.zero_le a) aa) (Rat.not_le.2 g)
  ·exact absurd (h.mono (show a<=n-1 by omega) aa) (Rat.not_le.2 g)
def m7 (x:Rat):Prop:=∃z:Int,x=(z:Rat)/2/\-4<=z/\z<=28
theorem vm {z:Int}:(z:Rat)/2*55440=((27720*z:Int):Rat):=by
 rw[Rat.intCast_mul,Rat.div_def,show((27720:Int):Rat)=2⁻¹*55440 by decide+kernel];grind
theorem m7.zn {x:Rat} (h:m7 x):e9 x:=by
 obtain⟨z,e,h1,h2⟩:=h;exact⟨27720*z,by rw[e,vm],aa,aa⟩
theorem Q6 {x y:Int} {k:Nat} (hx:x.natAbs<2^k) (hy:y≠0) (hy2:y.natAbs<2^k):Sz ((x:Rat)/(y:Rat)) k:=by
 rw[<-C7 hy];exact A2 aa hx hy2
theorem BX {f:Nat->AV}:Sz (gG n f a) 3:=by
 have a1:=gM (n:=n) (f:=f) (a:=a) (m:=13) aa;have a2:=gR (n:=n) (f:=f) (a:=a) (m:=13) aa;have b1:=gM (n:=n) (f:=f) (a:=aR n (aR n a)) (m:=4) aa;have b2:=gR (n:=n) (f:=f) (a:=aR n (aR n a)) (m:=4) aa;unfold gG;split
 ·exact Q6 aa aa aa
 ·exact ko aa (by decide)
theorem Ur:∃q:Int,ic d*27720=(q:Rat)/\0<=q/\q<=27720:=by
 have hv0:=Int.emod_nonneg (i64.wrap (d.tdiv 17)) (show(12:Int)≠0 by omega);have hv1:=Int.emod_lt_of_pos (i64.wrap (d.tdiv 17)) (show(0:Int)<12 by omega);obtain⟨v,hv⟩:∃v,v=qb d:=⟨_,rfl⟩
 have hv2:1<=v/\v<=12:=by rw[hv];unfold qb;omega
 have hu0:=Int.emod_nonneg d (show v+1≠0 by omega);have hu1:=Int.emod_lt_of_pos d (show 0<v+1 by omega);unfold ic;rw[<-hv];generalize d%(v+1)=u at*;obtain⟨w,hw⟩:∃w:Int,v*w=27720:=by
  rcases(show v=1\/v=2\/v=3\/v=4\/v=5\/v=6\/v=7\/v=8\/v=9\/v=10\/v=11\/v=12 by omega)with h|h|h|h|h|h|h|h|h|h|h|h<;>subst h
  ·exact⟨27720,rfl⟩
  ·exact⟨13860,rfl⟩
  ·exact⟨9240,rfl⟩
  ·exact⟨6930,rfl⟩
  ·exact⟨5544,rfl⟩
  ·exact⟨4620,rfl⟩
  ·exact⟨3960,rfl⟩
  ·exact⟨3465,rfl⟩
  ·exact⟨3080,rfl⟩
  ·exact⟨2772,rfl⟩
  ·exact⟨2520,rfl⟩
  ·exact⟨2310,rfl⟩
 have hw0:0<=w:=by
  by_cases c:0<=w
  ·exact c
  ·have:=Int.mul_le_mul_of_nonneg_left (show w<=-1 by omega) (show 0<=v by omega);omega
 refine⟨u*w,?_,Int.mul_nonneg hu0 hw0,?_⟩
 ·have hvr:(v:Rat)≠0:=by
   intro e;have:v=0:=Rat.intCast_inj.1 (e:(v:Rat)=((0:Int):Rat));omega
  have e:(27720:Rat)=(v:Rat)*(w:Rat):=by rw[<-Rat.intCast_mul,hw];rfl
  rw[e,Rat.intCast_mul,Rat.div_def];have:(u:Rat)*(v:Rat)⁻¹*((v:Rat)*(w:Rat))=(u:Rat)*(((v:Rat)*(v:Rat)⁻¹)*(w:Rat)):=by grind
  rw[this,Rat.mul_inv_cancel _ hvr,Rat.one_mul]
 ·have:=Int.mul_le_mul_of_nonneg_right (show u<=v by omega) hw0;omega
theorem KK {x:Rat} (hx:m7 x) (hy:m7 y) (hxy:x<=y):e9 (x+ic d*(y-x)):=by
 obtain⟨z0,e0,a1,a2⟩:=hx;obtain⟨z1,e1,b1,b2⟩:=hy;obtain⟨q,hq,q1,q2⟩:=Ur (d:=d);have o:27720*z0<=27720*z1:=e9.order (by rw[<-vm,e0]) (by rw[<-vm,e1]) hxy;have n1:=Int.mul_nonneg q1 (show 0<=z1-z0 by omega);have n2:=Int.mul_le_mul_of_nonneg_right q2 (show 0<=z1-z0 by omega);refine⟨27720*z0+q*(z1-z0),?_,aa,aa⟩;rw[Rat.intCast_add,Rat.intCast_mul q,Rat.intCast_sub,<-hq,<-vm,e0,e1];have e2:(z0:Rat)/2=(z0:Rat)*(1/2):=by rw[Rat.div_def,show((2:Rat)⁻¹)=1/2 by decide+kernel]
 have e3:(z1:Rat)/2=(z1:Rat)*(1/2):=by rw[Rat.div_def,show((2:Rat)⁻¹)=1/2 by decide+kernel]
 rw[e2,e3];grind
open Go IntKind
def LQ:Int:=144403552893600
theorem afw:∀v:Nat,v<33->v≠0->v∣144403552893600:=by decide
theorem Bv {v:Int} (h:v.natAbs<33) (h0:v≠0):∃w:Int,LQ=v*w/\w.natAbs<=144403552893600:=by
 obtain⟨w,e⟩:=afw v.natAbs h aa;have hw:w<=144403552893600:=by
  rw[e];exact Nat.le_mul_of_pos_left _ aa
 rcases Int.natAbs_eq v with g|g
 ·refine⟨w,?_,by simpa using hw⟩;rw[g];show(144403552893600:Int)=((v.natAbs:Nat):Int)*((w:Nat):Int);rw[<-Int.natCast_mul,<-e];rfl
 ·refine⟨-(w:Int),?_,by simpa using hw⟩;rw[g];show(144403552893600:Int)=-((v.natAbs:Nat):Int)*(-((w:Nat):Int));rw[Int.neg_mul_neg,<-Int.natCast_mul,<-e];rfl
def kX (t:Rat):Prop:=∃z:Int,t=(z:Rat)/2/\-4<=z/\z<=28
def eO (r:Nat) (x:Rat):Prop:=∃z:Int,(z:Rat)=x*((LQ^(r+1):Int):Rat)/\z.natAbs<=2^(53+54*r)
theorem aeX:((LQ^r:Int):Rat)≠0:=fun h=>by
 have h:((LQ^r:Int):Rat)=((0:Int):Rat):=h;have:=Rat.intCast_inj.1 h;exact absurd this (Int.pow_ne_zero (by decide))
theorem eO.sz {x:Rat} (h:eO r x):Sz x (102+102*r):=by
 obtain⟨z,e,b⟩:=h;have hx:x=(z:Rat)/((LQ^(r+1):Int):Rat):=by rw[e,Rat.div_def,Rat.mul_assoc,Rat.mul_inv_cancel _ aeX,Rat.mul_one]
 rw[hx];have s1:Sz (z:Rat) (54+54*r):=ko (Nat.lt_of_le_of_lt b (Nat.pow_lt_pow_right (by decide) aa)) aa;have s2:Sz ((LQ^(r+1):Int):Rat) (48*(r+1)):=ko (by
  rw[Int.natAbs_pow,Nat.pow_mul];exact Nat.pow_lt_pow_left (by decide) aa) aa
 exact(s1.div s2).more aa
theorem eO.up {x:Rat} (h:eO r x):eO (r+1) x:=by
 obtain⟨z,e,b⟩:=h;refine⟨z*LQ,?_,?_⟩
 ·rw[Rat.intCast_mul,e,Int.pow_succ LQ (r+1),Rat.intCast_mul,Rat.mul_assoc]
 ·rw[Int.natAbs_mul,show 53+54*(r+1)=(53+54*r)+54 by omega,Nat.pow_add];exact Nat.mul_le_mul b (by decide)
theorem eO.p7 {x:Rat} (h:Sz x 5):eO 0 x:=by
 obtain⟨h1,h2⟩:=h;obtain⟨w,e,hw⟩:=Bv (v:=(x.den:Int)) (by simpa using by omega) (by have:=x.den_nz;omega);refine⟨x.num*w,?_,?_⟩
 ·rw[show LQ^(0+1)=(x.den:Int)*w by rw[<-e];rfl,Rat.intCast_mul,Rat.intCast_mul,<-Rat.mul_assoc];congr 1;have hd:((x.den:Int):Rat)≠0:=by exact_mod_cast x.den_nz
  have hx:x=(x.num:Rat)/((x.den:Int):Rat):=by rw[<-Rat.divInt_eq_div,Rat.num_divInt_den]
  have key:x*((x.den:Int):Rat)=(x.num:Rat):=by
   conv=>lhs;lhs;rw[hx]
   exact Rat.div_mul_cancel hd
  exact key.symm
 ·rw[Int.natAbs_mul];exact Nat.le_trans (Nat.mul_le_mul (show x.num.natAbs<=32 by omega) hw) (by decide)
theorem eO.mix {x a b:Rat} (ha:kX a) (hb:kX b) (ht:kX t) (hx:eO r x) (hy:eO r y):eO (r+1) (x+fr a b t*(y-x)):=by
 obtain⟨za,a1,a2,a3⟩:=ha;obtain⟨zb,b1,b2,b3⟩:=hb;obtain⟨zt,t1,t2,t3⟩:=ht;have e1:b-a=((zb-za:Int):Rat)/2:=by rw[a1,b1,Rat.intCast_sub,Rat.div_def,Rat.div_def,Rat.div_def];grind
 have e2:t-a=((zt-za:Int):Rat)/2:=by rw[a1,t1,Rat.intCast_sub,Rat.div_def,Rat.div_def,Rat.div_def];grind
 by_cases hv:zb-za=0
 ·have:fr a b t=0:=by
   unfold fr;rw[e1,hv,Rat.div_def,show((0:Int):Rat)/2=0 by decide+kernel,Rat.inv_zero,Rat.mul_zero]
  rw[this,Rat.zero_mul,Rat.add_zero];exact hx.up
 ·have hvq:((zb-za:Int):Rat)≠0:=fun h=>hv (Rat.intCast_inj.1 (show((zb-za:Int):Rat)=((0:Int):Rat)from h));have hf:fr a b t*((zb-za:Int):Rat)=((zt-za:Int):Rat):=by
   unfold fr;have hn:b-a≠0:=by
    rw[e1];intro h;apply hvq;have:((zb-za:Int):Rat)=((zb-za:Int):Rat)/2*2:=by rw[Rat.div_mul_cancel (by decide)]
    rw[this,h,Rat.zero_mul]
   have h2:((zb-za:Int):Rat)=(b-a)*2:=by rw[e1,Rat.div_mul_cancel (by decide)]
   have h3:((zt-za:Int):Rat)=(t-a)*2:=by rw[e2,Rat.div_mul_cancel (by decide)]
   rw[h2,h3,<-Rat.mul_assoc,Rat.div_mul_cancel hn]
  obtain⟨w,hw,wb⟩:=Bv (v:=zb-za) aa hv;obtain⟨zx,x1,x2⟩:=hx;obtain⟨zy,y1,y2⟩:=hy;refine⟨zx*LQ+(zt-za)*w*(zy-zx),?_,?_⟩
  ·have hL:fr a b t*(LQ:Rat)=(((zt-za)*w:Int):Rat):=by
    rw[hw,Rat.intCast_mul,Rat.intCast_mul,<-Rat.mul_assoc,hf]
   rw[Rat.intCast_add,Rat.intCast_mul,Rat.intCast_mul ((zt-za)*w),<-hL,Rat.intCast_sub,x1,y1,Int.pow_succ LQ (r+1),Rat.intCast_mul];generalize ((LQ^(r+1):Int):Rat)=m;generalize (LQ:Rat)=l;generalize fr a b t=f;grind
  ·have c1:(zy-zx).natAbs<=2^(53+54*r)+2^(53+54*r):=aa;have c2:((zt-za)*w).natAbs<=32*144403552893600:=by
    rw[Int.natAbs_mul];exact Nat.mul_le_mul aa wb
   have c3:((zt-za)*w*(zy-zx)).natAbs<=32*144403552893600*(2^(53+54*r)+2^(53+54*r)):=by
    rw[Int.natAbs_mul];exact Nat.mul_le_mul c2 c1
   have c4:(zx*LQ).natAbs<=2^(53+54*r)*144403552893600:=by
    rw[Int.natAbs_mul];exact Nat.mul_le_mul x2 bq
   have c5:=Int.natAbs_add_le (zx*LQ) ((zt-za)*w*(zy-zx));rw[show 53+54*(r+1)=(53+54*r)+54 by omega,Nat.pow_add];generalize 2^(53+54*r)=B at*;omega
theorem JC {k:Nat->Rat} {b p:Nat} (hk:∀i,kX (k i)):∀{l:List Rat} {r s:Nat} {x:Nat->Rat},(∀t∈l,kX t)->(∀j,eO s (x j))->∀j,eO (s+l.length) (bl k b p r x l j)
 |[],_,_,_,_,hx,j=>hx j
 |t::l,r,s,x,hl,hx,j=>by
  rw[bl,List.length_cons,show s+(l.length+1)=s+1+l.length by omega];refine JC hk (fun u hu=>hl u (List.mem_cons_of_mem _ hu)) (fun q=>?_) j;unfold ir;split
  ·exact(hx _).mix (hk _) (hk _) (hl t (List.mem_cons_self ..)) (hx _)
  ·exact(hx _).up
theorem akk {k:Nat->Rat} {p P:Nat} (hk:∀i,kX (k i)) (hl:∀t∈l,kX t) (hx:∀j,eO 0 (x j)):eO l.length (b7 k p x P l):=by
 have:=JC (b:=P-p) (p:=p) (r:=0) hk hl (fun j=>hx (P-p+j)) p;rwa [Nat.zero_add]at this
theorem K8 {f:Nat->Rat} {C:Rat->Prop} (h:∀i,C (f i)):∀{l a:Nat},∀t∈aZ f a l,C t
 |0,_,t,ht=>by simp[aZ]at ht
 |l+1,a,t,ht=>by
  rw[aZ,List.mem_cons]at ht;rcases ht with rfl|ht
  ·exact h a
  ·exact K8 h t ht
def mG (r n:Nat) (x:Rat):Prop:=∃z:Int,(z:Rat)=x*((LQ^(r+2):Int):Rat)/\z.natAbs<=n*(2^48*2^(53+54*r))
theorem mG.zero:mG r 0 0:=⟨0,by rw[Rat.zero_mul];rfl,by simp⟩
theorem mG.next {x:Rat} {q:Int} (hq:1<=q) (hq7:q<=7) (h:mG r n x) (hy:eO r y):mG r (n+1) (x+((1:Int):Rat)/(q:Rat)*y):=by
 obtain⟨zx,x1,x2⟩:=h;obtain⟨zy,y1,y2⟩:=hy;obtain⟨w,hw,wb⟩:=Bv (v:=q) aa aa;have hqq:(q:Rat)≠0:=fun h=>by
  have:=Rat.intCast_inj.1 (show(q:Rat)=((0:Int):Rat)from h);omega
 refine⟨zx+w*zy,?_,?_⟩
 ·have hL:((1:Int):Rat)/(q:Rat)*(LQ:Rat)=(w:Rat):=by
   rw[hw,Rat.intCast_mul,<-Rat.mul_assoc,Rat.div_mul_cancel hqq];exact Rat.one_mul _
  rw[Rat.intCast_add,Rat.intCast_mul,<-hL,x1,y1,Int.pow_succ LQ (r+1),Rat.intCast_mul];generalize ((LQ^(r+1):Int):Rat)=m;generalize (LQ:Rat)=l;generalize ((1:Int):Rat)/(q:Rat)=f;grind
 ·have c1:(w*zy).natAbs<=2^48*2^(53+54*r):=by
   rw[Int.natAbs_mul];exact Nat.mul_le_mul (Nat.le_trans wb (by decide)) y2
  have c2:=Int.natAbs_add_le zx (w*zy);rw[Nat.succ_mul];omega
theorem mG.is {x:Rat} (h:mG r n x) (hn:n<=7):eO (r+1) x:=by
 obtain⟨z,e,b⟩:=h;refine⟨z,e,Nat.le_trans b ?_⟩;have h:n*(2^48*2^(53+54*r))<=7*(2^48*2^(53+54*r)):=Nat.mul_le_mul hn bq;refine Nat.le_trans h ?_;rw[show 53+54*(r+1)=(53+54*r)+54 by omega,Nat.pow_add 2 (53+54*r) 54,<-Nat.mul_assoc,Nat.mul_comm (2^(53+54*r))];exact Nat.mul_le_mul (by decide) bq
open Go Go.Am.N AV ag au IntKind Proofs.Tryz
theorem D8 (h:m7 t):kX t:=h
theorem SO {c:Cu} {P e:Nat} (hc:Kn c.n c.p.toNat c.k) (hp1:1<=c.p) (hm2:(c.m:Int)=(c.n:Int)-c.p-1) (hA:At c.n c.k P):
  gO c (P:Nat) c.p.toNat g e=b7 c.k c.p.toNat (fun i=>bY (c.f i) e) P (aZ g 0 c.p.toNat):=by
 obtain⟨w1,w2⟩:=hc.nu hA;have hw:=hA.wide;have hE:iO c.n c.k c.p.toNat c.m c.p.toNat (P:Nat)=0:=BO aa rfl (by
  rw[bg];rintro(h|h|h)
  ·omega
  ·omega
  ·exact absurd h (Rat.not_le.2 hw))
 unfold gO mD;rw[if_pos hE,bg,BL];rfl
theorem Rp:kX 0:=⟨0,by decide+kernel,by decide,by decide⟩
theorem Hv {k:Nat->Rat} {n:Nat} (h:∀i,kX (k i)):∀{m q:Nat},kX (bt k n m q)
 |0,_=>Rp
 |m+1,q=>by
  rw[bt];split
  ·exact Hv h
  ·exact h m
theorem agx {f:Nat->Rat} (h:∀i,kX (f i)):kX (jH f i m q):=by
 unfold jH;split
 ·exact Rp
 ·split
  ·exact h _
  ·exact h _
theorem nr.aU {c:Cu} (h:nr c 5) (e:Nat) (i:Nat):eO 0 (bY (cy (c.f i)) e):=by
 match e with
 |0=>exact eO.p7 (h.sx i)
 |1=>exact eO.p7 (h.sy i)
 |2=>exact eO.p7 (h.sz i)
 |e+3=>exact eO.p7 (h.sd i)
theorem zc {r:Nat} {q:Int} {x:Nat->Pl} (hq:1<=q) (hq7:q<=7) (hx:∀i e,eO r (bY (x i) e)):∀{n:Nat} (e:Nat),mG r n (bY (ja (((1:Int):Rat)/(q:Rat)) x n) e)
 |0,0=>mG.zero
 |0,1=>mG.zero
 |0,2=>mG.zero
 |0,_+3=>mG.zero
 |n+1,0=>(zc hq hq7 hx (n:=n) 0).next hq hq7 (hx n 0)
 |n+1,1=>(zc hq hq7 hx (n:=n) 1).next hq hq7 (hx n 1)
 |n+1,2=>(zc hq hq7 hx (n:=n) 2).next hq hq7 (hx n 2)
 |n+1,e+3=>(zc hq hq7 hx (n:=n) 3).next hq hq7 (hx n 3)
theorem uf {c:Cu} (hc:nr c w) (hq0:∀i e,eO 0 (bY (cy (c.f i)) e)) (hh:∀i,m7 (c.k i)) (hj:j<(gJ (eR c)).m) (e:Nat):eO 7 (bY ((gJ (eR c)).f j) e):=by
 obtain⟨k1,k2,k3,k4,k5⟩:=id hc.kn;have hN:oR (eR c)=c.n+bS c.k c.n c.n:=rfl;have hK:=oB k1;have hj:j<oR (eR c)-(c.p.toNat+1)-1:=hj;rw[hN]at hj;have hsup:=hK.Bb (j:=j) aa;obtain⟨s,hs⟩:∃s,s=fj (bt c.k c.n c.n) (c.n+bS c.k c.n c.n) j:=⟨_,rfl⟩
 obtain⟨g1,g2,g3⟩:j<=s/\s<j+(c.p.toNat+1+1)/\bt c.k c.n c.n s<bt c.k c.n c.n (s+1):=by
  rw[hs];exact Fm (n:=c.n+bS c.k c.n c.n) (k:=bt c.k c.n c.n) (pc:=qc (bt c.k c.n c.n) (c.n+bS c.k c.n c.n)) (fun _=>rfl) (fun _ _=>rfl) hsup aa aa
 have hA:=aco k1 (i:=s) aa g3;obtain⟨P,hP⟩:∃P,P=fY c.n c.k (bt c.k c.n c.n s):=⟨_,rfl⟩
 rw[<-hP]at hA;have hx:∀i e,eO c.p.toNat (bY (nL (eR c) (P:Nat) (c.p.toNat+1) (bt c.k c.n c.n) j i) e):=fun i e=>by
  have key:∀e,eO c.p.toNat (gO (eR c) (P:Nat) c.p.toNat (fun u=>jH (fun v=>bt c.k c.n c.n (v+(j+1))) i (c.p.toNat+1) u) e):=fun e=>by
   rw[SO (c:=eR c) k1 k2 k5 hA];have:=akk (k:=c.k) (x:=fun i=>bY (cy (c.f i)) e) (p:=c.p.toNat) (P:=P) (l:=aZ (fun u=>jH (fun v=>bt c.k c.n c.n (v+(j+1))) i (c.p.toNat+1) u) 0 c.p.toNat) (fun i=>D8 (hh i)) (K8 fun u=>agx fun v=>Hv fun i=>D8 (hh i)) (fun j=>hq0 j e);rwa [iy]at this
  match e with
  |0=>exact key 0
  |1=>exact key 1
  |2=>exact key 2
  |e+3=>exact key 3
 have hS:=(zc (q:=c.p+1) aa aa hx (n:=c.p.toNat+1) e).is aa;have up:∀{r s:Nat} {x:Rat},eO r x->eO (r+s) x:=fun {r s x} h=>by
  induction s with
  |zero=>exact h
  |succ s ih=>exact ih.up
 have hS:=up (s:=6-c.p.toNat) hS;rw[show c.p.toNat+1+(6-c.p.toNat)=7 by omega]at hS;have ef:(gJ (eR c)).f j=ja (((1:Int):Rat)/((c.p+1:Int):Rat)) (nL (eR c) (P:Nat) (c.p.toNat+1) (bt c.k c.n c.n) j) (c.p.toNat+1):=by
  rw[hP,hs];rfl
 rw[ef];exact hS
theorem acC (h:kX t):Sz t 2000:=by
 obtain⟨z,e,h1,h2⟩:=h;rw[e];exact((ko (x:=z) (n:=5) aa (by decide)).div (ko (x:=2) (n:=2) (by decide) (by decide))).more (by decide)
theorem HK {x:Rat} (hx:eO 7 x) (hy:eO 7 y):Sz (x/y) 2000:=(hx.sz.div hy.sz).more (by decide)
theorem RG {P:Program} {f:FuncId} {K:Nat} {args us vs:List AV} {l l':List Prop} (hf:aQ P f K args [] ⟨.tuple us,[],l⟩) (hl:ay l'->ay l) (hk:bN us=[]) (hle:fP us vs):aQ P f K args [] ⟨.tuple vs,[],l'⟩:=by
 intro need;obtain⟨h1,h2⟩:=hf (hl need);refine⟨fun k o ho=>by simp[look]at ho,fun c D D' β w vs hw0 hMw hrel hD hK hv=>(h2 c D D' β w vs hw0 hMw hrel hD hK hv).mono ?_⟩;rintro x w' ⟨β',g1,g2,xs,rfl,g3⟩;exact⟨β',g1,g2,xs,rfl,(yX hle (g3.bB hk)).mono (fun b o h1 h2=>⟨h2,h1⟩) (β':=β') fun k x hx=>by simp[bB]at hx⟩
structure wG (c:Cu):Prop where
 k:∀i,i<c.n->Sz (c.k i) 2000
 x:∀i,i<c.m->Sz (c.f i).n.x 2000
 y:∀i,i<c.m->Sz (c.f i).n.y 2000
 z:∀i,i<c.m->Sz (c.f i).n.z 2000
 d:∀i,i<c.m->Sz (c.f i).d 2000
theorem wG.up {c:Cu} {x y:Nat} (h:wG c):bV (gC c x y) (gC c 2000 2000):=
 cM ⟨.refl _,fI fun i hi=>dB rfl (h.k i hi),fI fun i hi=>cM ⟨cM ⟨dB rfl (h.x i hi),dB rfl (h.y i hi),dB rfl (h.z i hi),trivial⟩,dB rfl (h.d i hi),trivial⟩,trivial⟩
theorem nr.cuS {c:Cu} (h:nr c s) (hs:s<=1000):wG c:=
 ⟨fun i _=>(h.kd i).sz.more (by decide),fun i _=>(h.x i).1.more aa,fun i _=>(h.x i).2.1.more aa,fun i _=>(h.x i).2.2.more aa,fun i _=>(h.sd i).more aa⟩
structure C9 (c:Cu):Prop where
 d:nr c 20
 h:∀i,m7 (c.k i)
 q:∀i e,eO 0 (bY (cy (c.f i)) e)
theorem af8 {c:Cu} (hb:C9 c):wG (fC c):=by
 obtain⟨hc,hh,hq⟩:=hb;unfold fC;split
 ·exact⟨fun i hi=>absurd hi (Nat.not_lt_zero i),fun i hi=>absurd hi (Nat.not_lt_zero i),fun i hi=>absurd hi (Nat.not_lt_zero i),fun i hi=>absurd hi (Nat.not_lt_zero i),fun i hi=>absurd hi (Nat.not_lt_zero i)⟩
 ·exact⟨fun i _=>acC (Hv fun i=>D8 (hh i)),fun i hi=>HK (uf hc hq hh hi 0) (uf hc hq hh hi 3),fun i hi=>HK (uf hc hq hh hi 1) (uf hc hq hh hi 3),fun i hi=>HK (uf hc hq hh hi 2) (uf hc hq hh hi 3),fun i hi=>(uf hc hq hh hi 3).sz.more (by decide)⟩
theorem Kv:aU 35 f35:=aS func35
theorem aa9:aU 112 f112:=aS func112
theorem VO:aU 36 f36:=aS func36
abbrev bK (s:Sf) (j:Nat):Cu:=⟨s.u,s.a,s.ku,s.n,fun i=>s.f i j⟩
abbrev RC (s:Sf) (i:Nat):Cu:=⟨s.v,s.b,s.kv,s.m,fun j=>s.f i j⟩
structure fc (s:Sf):Prop where
 ok:cO s
 z:gI s
 c:∀j,C9 (bK s j)
 r:∀i,C9 (RC s i)
 kQ:s.a<=20
 lI:s.b<=20
def Iq:Sf:=⟨0,0,0,fun _=>0,0,fun _=>0,0,0,fun _ _=>⟨⟨0,0,0⟩,0⟩⟩
def gp (F:Cu->Cu) (s:Sf):Sf:=⟨(F (bK s 0)).p,s.v,(F (bK s 0)).n,(F (bK s 0)).k,s.b,s.kv,(F (bK s 0)).m,s.m,fun i j=>(F (bK s j)).f i⟩
def ju (s:Sf) (t:Rat):Sf:=if ig (bK s 0) t=0 then gp (fun c=>gx c t) s else Iq
def Hq:Spec:=fun K args pre=>match args with
 |[_,.func _ (_::_)]=>cz (kC (gh 2000 2000) (kC (Bk (gv 2000)) kN)) (fun a=>bM (rG true a.2.1.2 a.1) 4200 (dx+dx)) (fun a=>[a.2.1.1=110,kT (cq a.1 0),1<=a.1.m,a.1.m<2^28,a.1.b<2^28,1<=a.1.n]) K args pre
 |_=>cz (kC (gh 2000 2000) (kC (kF 171) kN)) (fun a=>bM (rG false 0 a.1) 4200 (dx+dx)) (fun a=>[kT (cq a.1 0),1<=a.1.m,a.1.m<2^28,a.1.b<2^28,1<=a.1.n]) K args pre
def IJ:aX:=[(70,iR T (nG::Sg) [200005] 60 f70)]
def BU:aX:=nG::(52,EO)::(54,Hq)::(109,Ao)::(68,xg)::(IJ++iZ)
abbrev uU:List Nat:=[4,5,2,3]
theorem afs {s:Sf}:aI T BU [21,10,29,38] 60 uU (before (aE f35) [1,1,1]) ⟨aN 0 [bM s 2000 2000,.rat t 2000],[],0⟩=
  let p:=int i64 0;let o:=rat t 2000;let l:=Int.toNat (0:Int);let A:=(bp (bM s 2000 2000)).size;let z:=bh (fun i=>rat (s.ku i) 2000) s.a sJ;let y:=bh (fun i=>rat (s.kv i) 2000) s.b sJ;let w:=dN (fun i=>aT (s.f i) s.m 2000) s.n sJ;let F:=(↑(cJ (fun i=>aF (rat (s.ku i) 2000)) t s.a):Int);let k:=2000<2^42;let e:=Max.max 2000 2000<2^42;let q:=(↑s.a:Int)-1;let D:=ptr 8192 0 5 0 [];let J:=cO (Sf.mk s.u s.v s.a (fun i=>aF (rat (s.ku i) 2000)) s.b (fun i=>aF (rat (s.kv i) 2000)) s.n (dn (aT (s.f 0) s.m 2000)) (dh fun i=>aT (s.f i) s.m 2000));let d:=0<1;let G:=fQ t (nN (s.ku l) (s.ku q.toNat));let r:Nat×aq:=(4096,aq.mk false true (bp o).size 1 fun x=>o);let g:=agg [p,p,nil,nil,nil];let K:=fQ t (nH (s.ku l) (s.ku q.toNat));let I:Nat×aq:=(0,aq.mk false true A 1 fun x=>bM s 2000 2000);let C:=[ptr 0 0 A 0 [],ptr 4096 0 (bp o).size 0 []];let h:=bif !true then true else decide (K<=0);let E:List (Nat×aq):=[r,I,(8192,aq.mk false true 5 1 fun j=>if(j==0)=true then bp (agg g.kids)else g)];let B:ag (List AV×aC):=aj [d] (leaf ret (D::int i64 7::C,E));let H:ag (List AV×aC):=aj [d,d,bh (fun i=>rat (s.ku i) 2000) s.a sK,(2000:Nat)<=sK,s.a<2^40,d] (fork (decide (F>=s.u)) (aj [d] (leaf ret (D::int i64 5::C,E))) (aj [d] (fork (decide ((↑s.n:Int)>=40)) (aj [d] (leaf ret (D::int i64 2::C,E))) (leaf normal (D::p::C,[r,I,(8192,aq.mk false true 5 1 fun x=>g)])))));some (aj [d,((↑s.a:Int)==0)=false,(0:Int)<=0/\l<s.a,-(2:Int)^63<=q/\q<2^63,(0:Int)<=q/\q.toNat<s.a,d,d,d,d] (fork h (aj [d,z,y,w,J,d,d,k,e,h=true] (fork true B H)) (aj [d,z,y,w,J,d,d,k,e,h=false,d,d,k,e] (fork (bif false then true else decide (G>=0)) B H)))):=ah
theorem abm {s:Sf}:ct T BU [] 60 f35 [part (aE f35) [1,1,1]] ⟨aA uU [.ptr 0 0 5 0 [],.int .i64 0,.ptr 1 0 5 0 [],.bZ (.rat t 2000)],[(2,⟨false,false,3,1,fun _=>.rat t 2000⟩),(1,⟨false,true,5,1,fun _=>bM s 2000 2000⟩),(0,⟨false,true,5,1,fun _=>.agg [.int .i64 0,.int .i64 0,.nil,.nil,.nil]⟩)],3⟩=
  let o:Prop:=0<1;some (aj [o,bh (fun i=>.rat (s.ku i) 2000) s.a 2000,bh (fun i=>.rat (s.kv i) 2000) s.b 2000,dN (fun i=>aT (s.f i) s.m 2000) s.n 2000,2000<=2000,110=110,kT (cq s 0),1<=s.m,s.m<2^28,s.b<2^28,1<=s.n,o] (aj [o] (leaf .ret [bM (rG true t s) 4200 (dx+dx),.int .i64 0]))):=ah
theorem aha {s:Sf}:bX T BU [200008,200004,200014] 60 f112 (aE f112) ⟨aN 0 [bM s 2000 2000],[],0⟩=
  let o:Prop:=0<1;let R:=fun x=>bh (fun i=>.rat (s.ku i) 2000) s.a x;let H:=fun x=>bh (fun i=>.rat (s.kv i) 2000) s.b x;let W:=fun x=>dN (fun i=>aT (s.f i) s.m 2000) s.n x;let l:Int:=(s.n:Int)+(bF s.ku s.a:Int);let z:=l-1;some (aj [o,decide (s.u>=6)=false,o,R sJ,H sJ,W sJ,cO s] (aj [(bif false then true else !true)=false] (aj [o,o,R sJ,s.a<2^40,-2^63<=l/\l<2^63,-2^63<=z/\z<2^63] (aj [decide (z>40)=false] (aj [o,R 2000,H 2000,W 2000,kT (cq s 0),1<=s.m,s.m<2^28,s.b<2^28,1<=s.n,o] (aj [o] (leaf .ret [bM (rG false 0 s) 4200 (dx+dx),.int .i64 0]))))))):=ah
theorem Wp {s:Sf} {e:Int}:kM T f35 .ret ⟨aA uU [.ptr 8192 0 5 0 [],.int .i64 e,.ptr 0 0 5 0 [],.ptr 4096 0 3 0 []],[(4096,tP t 2000),(0,⟨false,true,5,1,fun _=>bM s 2000 2000⟩),(8192,⟨false,true,5,1,fun j=>if(j==0)=true then bp (.agg (AV.kids (.agg [.int .i64 0,.int .i64 0,.nil,.nil,.nil])))else .agg [.int .i64 0,.int .i64 0,.nil,.nil,.nil]⟩)],8193⟩=
  some (aj [(0:Nat)<1] (leaf ret [agg [int i64 0,int i64 0,nil,nil,nil],int i64 e])):=ah
theorem Qp:bn P IJ:=aH (je hT (cB alG) hm (aS func70) _ _) bw
theorem Xb:aW P Hq 54:=fun K args pre q h=>by
 unfold Hq at h;split at h
 ·refine cr (fun⟨s,⟨g,t⟩,_⟩ K hn=>?_) K _ pre q h;obtain⟨rfl,h1,h2,h3,h4,h5⟩:g=110/\kT (cq s 0)/\1<=s.m/\s.m<2^28/\s.b<2^28/\1<=s.n:=hn;exact Q7 (b:=true) h1 h2 h3 h4 h5 K
 ·refine cr (fun⟨s,_,_⟩ K hn=>?_) K _ pre q h;obtain⟨h1,h2,h3,h4,h5⟩:kT (cq s 0)/\1<=s.m/\s.m<2^28/\s.b<2^28/\1<=s.n:=hn;exact Q7 (b:=false) (t:=0) h1 h2 h3 h4 h5 K
theorem E0:bn P BU:=cB (aH Rq (aH Xb (aH O4 (aH Na (s9 Qp jA)))))
theorem Om {es:Nat} {f g:Nat->AV} (h:n=m) (H:∀i,i<n->bV (f i) (g i)):bV (.ak es n f) (.ak es m g):=by
 subst h;exact fI H
structure j5 (F:Cu->Cu) (b:Bool) (t:Rat) (s:Sf):Prop where
 p:∀j,(fH b t (cq s j)).p=(F (bK s j)).p
 n:∀j,(fH b t (cq s j)).n=(F (bK s j)).n
 k:∀j i,(fH b t (cq s j)).k i=(F (bK s j)).k i
 m:∀j,(fH b t (cq s j)).m=(F (bK s j)).m
 f:∀j i,i<(F (bK s j)).m->dG ((fH b t (cq s j)).f i)=(F (bK s j)).f i
 s:∀j,wG (F (bK s j))
theorem j5.mm {F:Cu->Cu} {b:Bool} {s:Sf} (h:j5 F b t s) (j:Nat):(F (bK s j)).m=(F (bK s 0)).m:=by
 rw[<-h.m,<-h.m,vU,vU]
theorem j5.S {F:Cu->Cu} {b:Bool} {s:Sf} (h:j5 F b t s) (hz:gI s):gI (gp F s):=by
 have e:∀{i j:Nat},i<(F (bK s 0)).m->i<(F (bK s j)).m:=fun {i j} hi=>by rw[h.mm j];exact hi
 exact⟨(h.s 0).k,hz.kv,fun i j hi _=>(h.s j).x i (e hi),fun i j hi _=>(h.s j).y i (e hi),fun i j hi _=>(h.s j).z i (e hi),fun i j hi _=>(h.s j).d i (e hi)⟩
theorem j5.up {F:Cu->Cu} {b:Bool} {s:Sf} {x y:Nat} (h:j5 F b t s) (hz:gI s):bV (bM (rG b t s) x y) (bM (gp F s) 2000 2000):=by
 have hS:=h.S hz;refine cM ⟨bP (h.p 0),.refl _,Om (h.n 0) fun i hi=>?_,fI fun i hi=>dB rfl (hz.kv i hi),Om (h.m 0) fun i hi=>fI fun j hj=>?_,trivial⟩
 ·have hi:i<(F (bK s 0)).n:=by rw[<-h.n 0];exact hi
  exact dB (h.k 0 i) ((h.s 0).k i hi)
 ·have hi0:i<(F (bK s 0)).m:=by rw[<-h.m 0];exact hi
  have hi:i<(F (bK s j)).m:=by rw[h.mm j];exact hi0
  have e:=h.f j i hi;show bV (bH (dG ((fH b t (cq s j)).f i)) y) (bH ((F (bK s j)).f i) 2000);rw[e];exact cM ⟨cM ⟨dB rfl ((h.s j).x i hi),dB rfl ((h.s j).y i hi),dB rfl ((h.s j).z i hi),trivial⟩,dB rfl ((h.s j).d i hi),trivial⟩
theorem N6 {s:Sf} (hs:fc s) (ht:e9 t) (he:ig (bK s 0) t=0):j5 (fun c=>gx c t) true t s:=by
 have hm0:(s.n:Int)=(s.a:Int)-s.u-1:=hs.ok.n;have hkn:∀j,jM (bK s j):=fun j=>(hs.c j).d.kn;have he':∀j,ig (bK s j) t=0:=fun j=>he;have hR:∀j,gx (bK s j) t=vr (bK s j) t (bJ s.a s.ku t):=fun j=>if_pos (he' j);obtain⟨e1,e2,e3,e4⟩:=CN he;obtain⟨h1,h2,h3,h4,h5⟩:=hkn 0;obtain⟨a1,a2,a3⟩:=B1 h1 e1 e2;have hu1:1<=s.u:=h2;refine⟨fun j=>by rw[hR];rfl,fun j=>by rw[hR];rfl,fun j i=>?_,fun j=>?_,fun j i hi=>?_,fun j=>((hs.c j).d.ins ht (he' j)).cuS (by decide)⟩
 ·rw[hR];show jo s.ku t (ia s.ku t s.a) i=_;rw[Nr h1.sorted a1 a2 a3];rfl
 ·rw[hR];show s.a+1-s.u.toNat-1=s.n+1;omega
 ·rw[hR]at hi ⊢;exact congrArg dG (V9 (hkn j) e1 e2 a1 a2 a3 e3 (show i<s.n+1 from hi))
theorem B0 {s:Sf} (hs:fc s) (h5:s.u<=5):j5 fC false 0 s:=by
 have hR:∀j,fC (bK s j)=qu (gJ (eR (bK s j))):=fun j=>if_neg (show¬6<=s.u by omega);exact⟨fun j=>by rw[hR];rfl,fun j=>by rw[hR];rfl,fun j i=>by rw[hR];rfl,fun j=>by rw[hR];rfl,fun j i _=>by rw[hR];rfl,fun j=>af8 (hs.c j)⟩
theorem aav (s:Sf):(bp (bM s 2000 2000)).size=5:=ah
theorem agp (t:Rat):(bp (.rat t 2000)).size=3:=ah
theorem aaj {x y:Nat}:bV (.agg [.int .i64 0,.int .i64 0,.nil,.nil,.nil]) (bM Iq x y):=cM ⟨.refl _,.refl _,iT aa,iT aa,iT aa,trivial⟩
set_option maxHeartbeats 1000000 in
theorem aay {s:Sf} (hs:fc s) (ht:e9 t) (K:Nat):aQ P 35 K [bM s 2000 2000,.rat t 2000] [] (aJ (.tuple [bM (ju s t) 2000 2000,.int .i64 (ig (bK s 0) t)]) []):=by
 refine fV (r:=aJ (.tuple [bM (ju s t) 2000 2000,.int .i64 (ig (bK s 0) t)]) []) hT Kv rfl aV rfl (fun _ cx h00=>?_) K [];have hk:=iL h00;obtain⟨ku,kv,u0,u6,v0,v6,ha,hb,hn,hm2,hw⟩:=id hs.ok;have kQ:=hs.kQ;have lI:=hs.lI;have la:=ku.len;have lb:=kv.len;have pu:=ku.p1;have pv:=kv.p1;have e1:((s.a:Int)-1).toNat=s.a-1:=aa;have hle:s.ku 0<=s.ku (s.a-1):=ku.mono (Nat.zero_le _) aa;have hmin:nH (s.ku 0) (s.ku (s.a-1))=s.ku 0:=by unfold nH;split<;>grind
 have hmax:nN (s.ku 0) (s.ku (s.a-1))=s.ku (s.a-1):=by unfold nN;split<;>grind
 have lv:dn (aT (s.f 0) s.m 2000)=s.m:=rfl;have hr:∀e:Int,ig (bK s 0) t=e->e≠0->vw T f35 uU (.tuple [bM (ju s t) 2000 2000,.int .i64 (ig (bK s 0) t)]) ([.ptr 8192 0 5 0 [],.int .i64 e,.ptr 0 0 5 0 [],.ptr 4096 0 3 0 []],
   [(4096,tP t 2000),(0,⟨false,true,5,1,fun _=>bM s 2000 2000⟩),(8192,⟨false,true,5,1,fun j=>if(j==0)=true then bp (.agg (AV.kids (.agg [.int .i64 0,.int .i64 0,.nil,.nil,.nil])))else .agg [.int .i64 0,.int .i64 0,.nil,.nil,.nil]⟩)]):=fun e he h0=>by
  refine⟨[_,_,_,_],[],8193,_,rfl,rfl,rfl,Wp,rfl,⟨⟨aa,fun i _=>rfl⟩,⟨aa,fun i _=>rfl⟩,⟨aa,fun i _=>qX rfl rfl⟩,trivial⟩,?_⟩;simp only[ag.all,ay];refine⟨Nat.zero_lt_one,?_,bP he.symm,trivial⟩;rw[show ju s t=Iq from if_neg (by rw[he];exact h0)];exact aaj
 refine ax.hole [1,1,1] ah (aG.bE hT E0 hm 60 uU afs (kZ Kv.dst) ?_);simp only[ag.all,ay,br,bC,Bool.not_true,cond_false,e1,Int.toNat_zero,hmin,hmax,lv,aav,agp];have m1:max 2000 2000<2^42:=by decide
 have hout:¬(s.ku 0<t/\t<s.ku (s.a-1))->ig (bK s 0) t=7:=fun h=>if_pos h;refine⟨⟨aa,beq_eq_false_iff_ne.2 aa,aa,aa,aa,aa,aa,aa,aa⟩,
  fun h1=>⟨⟨aa,bL (by decide),bL (by decide),fo (by decide),hs.ok,aa,aa,aa,m1,h1⟩,fun _=>⟨aa,fun s' hs'=>(hr 7 (hout fun g=>Rat.not_lt.2 (EJ.1 h1) g.1) (by decide)).fin (L1:=[]) hk hs'⟩,fun h=>absurd h (by decide)⟩,
  fun h1=>⟨⟨aa,bL (by decide),bL (by decide),fo (by decide),hs.ok,aa,aa,aa,m1,h1,aa,aa,aa,m1⟩,fun h2=>⟨aa,fun s' hs'=>(hr 7 (hout fun g=>Rat.not_lt.2 (zG.1 h2) g.2) (by decide)).fin (L1:=[]) hk hs'⟩,
   fun h2=>⟨⟨aa,aa,bL (by decide),by decide,aa,aa⟩,fun h3=>⟨aa,fun s' hs'=>(hr 5 ?_ (by decide)).fin (L1:=[]) hk hs'⟩,fun h3=>⟨aa,fun h4=>⟨aa,fun s' hs'=>(hr 2 ?_ (by decide)).fin (L1:=[]) hk hs'⟩,fun h4 s' hs'=>?_⟩⟩⟩⟩
 all_goals have hi:s.ku 0<t/\t<s.ku (s.a-1):=⟨Rat.not_le.1 fun g=>h1 (EJ.2 g),Rat.not_le.1 fun g=>h2 (zG.2 g)⟩
 ·exact(if_neg (fun g=>g hi)).trans (if_pos h3)
 ·exact(if_neg (fun g=>g hi)).trans ((if_neg h3).trans (if_pos (show 40<=s.n by omega)))
 have he:ig (bK s 0) t=0:=(if_neg (fun g=>g hi)).trans ((if_neg h3).trans (if_neg (show¬40<=s.n by omega)));rw[show behind (aE f35) [1,1,1]=[]from by kernel_rfl];refine ax.jh (s2:=⟨aA uU [.ptr 0 0 5 0 [],.int .i64 0,.ptr 1 0 5 0 [],.ptr 2 0 3 0 []],[(2,tP t 2000),(1,⟨false,true,5,1,fun _=>bM s 2000 2000⟩),(0,⟨false,true,5,1,fun _=>.agg [.int .i64 0,.int .i64 0,.nil,.nil,.nil]⟩)],3⟩) (cT.le ⟨[(0,8192),(1,0),(2,4096)],rfl,rfl,rfl,aL (aL (aL trivial))⟩ hs' hk) ((?_:ax P cx f35.ntmps (part (aE f35) [1,1,1]) _ (ej cx (Fin T f35 (.tuple [bM (ju s t) 2000 2000,.int .i64 (ig (bK s 0) t)])))).mono fun e s' h=>by cases e<;>exact h);refine ax.Dn (t:=3) (k:=2) rfl rfl rfl rfl rfl ?_;refine ax.hH ((aG.fin hT E0 hm 60 abm ah ?_).mono fun _ _ h=>.inl h);simp only[ag.all,ay];have hc:kT (cq s 0):=⟨ku,show 1<=s.u by omega,u6,show s.a<2^18 by omega,show s.n<2^18 by omega⟩
 refine⟨⟨aa,bL (by decide),bL (by decide),fo (by decide),by decide,trivial,hc,aa,aa,aa,aa,aa⟩,aa,?_,bP he.symm,trivial⟩;rw[show ju s t=gp (fun c=>gx c t) s from if_pos he];exact(N6 hs ht he).up hs.z
def FN:Spec:=cz (kC (gh 2000 2000) (kC (gv 2000) kN)) (fun a=>.tuple [bM (ju a.1 a.2.1) 2000 2000,.int .i64 (ig (bK a.1 0) a.2.1)]) fun a=>[fc a.1,e9 a.2.1]
def MW:Spec:=cz (kC (gh 2000 2000) kN) (fun a=>.tuple [bM (gp fC a.1) 2000 2000,.int .i64 0]) fun a=>[fc a.1,a.1.u<=5]
abbrev E6 (x:Sf):List Prop:=[bh (fun i=>.rat (x.ku i) 2000) x.a 2000,bh (fun i=>.rat (x.kv i) 2000) x.b 2000,dN (fun i=>aT (x.f i) x.m 2000) x.n 2000]
abbrev pW (x:Sf):List Prop:=E6 x++[x.n=0->x.m=0,x.a<2^28,x.b<2^28,x.n<2^28,x.m<2^28,gI x]
def Mh:aX:=nG::(27,Bz)::(35,FN)::(112,MW)::[]
theorem af3 {s:Sf}:bX T Mh [] 60 f36 (aE f36) ⟨aN 0 [bM s 2000 2000],[],0⟩=
  let o:Prop:=0<1;let c:=gp fC (dc s);some (aj (o::(pW s++(E6 (dc s)++[fc (dc s),s.v<=5,o]))) (aj (o::(pW c++[o])) (aj [o] (leaf .ret [bM (dc c) 2000 2000,.int .i64 0])))):=ah
theorem Jw:aW P FN 35:=cr fun⟨s,t,_⟩ K hn=>aay hn.1 hn.2 K
theorem Uh:aW P MW 112:=cr fun⟨s,_⟩ K hn=>by
 obtain⟨hs,h5⟩:fc s/\s.u<=5:=hn;refine b9 (r:=aJ (.tuple [bM (gp fC s) 2000 2000,.int .i64 0]) []) hT E0 hm aa9 rfl aV rfl 60 aha (fun _=>?_) K [];obtain⟨ku,kv,u0,u6,v0,v6,ha,hb,hn,hm2,hw⟩:=id hs.ok;have kQ:=hs.kQ;have lI:=hs.lI;have la:=ku.len;have lb:=kv.len;have pu:=ku.p1;have pv:=kv.p1;have hN:=o7 (k:=s.ku) (n:=s.a);have hc:kT (cq s 0):=⟨ku,show 1<=s.u by omega,u6,show s.a<2^18 by omega,show s.n<2^18 by omega⟩
 simp only[ag.all,ay]
 (repeat' with_reducible refine And.intro ?_ ?_)
 all_goals first|omega|exact bL (by decide)|exact fo (by decide)|exact hs.ok|exact hc|exact decide_eq_false aa|rfl|skip
 exact⟨(B0 hs h5).up hs.z,.refl _,trivial⟩
theorem Wc:bn P Mh:=cB (aH ES (aH Jw (aH Uh bw)))
theorem fc.swap {s:Sf} (h:fc s):fc (dc s):=⟨h.ok.swap,h.z.swap,h.r,h.c,h.lI,h.kQ⟩
theorem ajX {s:Sf} {l:List Prop} (h:ay l):ay (E6 s++l):=dS.2 ⟨⟨bL (by decide),bL (by decide),fo (by decide)⟩,h⟩
theorem Pq {s:Sf} {l:List Prop} (h0:s.n=0->s.m=0) (h1:s.a<2^28) (h2:s.b<2^28) (h3:s.n<2^28) (h4:s.m<2^28) (hz:gI s) (h:ay l):ay (pW s++l):=dS.2 ⟨⟨bL (by decide),bL (by decide),fo (by decide),h0,h1,h2,h3,h4,hz⟩,h⟩
theorem fc.pW {s:Sf} {l:List Prop} (hs:fc s) (h:ay l):ay (pW s++l):=by
 have k2:=(hs.c 0).d.kn.2.2.2.2;have k3:=(hs.r 0).d.kn.2.2.2.2;have k2:(s.n:Int)=(s.a:Int)-s.u-1:=k2;have k3:(s.m:Int)=(s.b:Int)-s.v-1:=k3;have kQ:=hs.kQ;have lI:=hs.lI;have u0:=hs.ok.u0;have v0:=hs.ok.v0;have la:=hs.ok.ku.len;exact Pq (fun h=>by have:=hs.ok.u6;omega) aa aa aa aa hs.z h
theorem j5.pW {F:Cu->Cu} {b:Bool} {s:Sf} {l:List Prop} (h:j5 F b t s) (hs:fc s) (h0:1<=(F (bK s 0)).m) (hl:ay l):ay (pW (gp F s)++l):=by
 obtain⟨z1,z2⟩:=Qb (b:=b) (t:=t) (c:=cq s 0);rw[h.n]at z1;rw[h.m]at z2;have z1:(F (bK s 0)).n<=s.a+s.a+1:=z1;have z2:(F (bK s 0)).m<=s.a+s.a+1:=z2;have k3:(s.m:Int)=(s.b:Int)-s.v-1:=(hs.r 0).d.kn.2.2.2.2;have kQ:=hs.kQ;have lI:=hs.lI;have v0:=hs.ok.v0;exact Pq (fun g=>absurd (show(F (bK s 0)).m=0 from g) aa) (show(F (bK s 0)).n<2^28 by omega) (show s.b<2^28 by omega) (show(F (bK s 0)).m<2^28 by omega) (show s.m<2^28 by omega) (h.S hs.z) hl
theorem ahc {s:Sf} (hs:fc s) (h5:s.u<=5):1<=(fC (bK s 0)).m:=by
 have k2:(s.n:Int)=(s.a:Int)-s.u-1:=hs.ok.n;have hg:=oB hs.ok.ku;have la:=hg.len;rw[show fC (bK s 0)=qu (gJ (eR (bK s 0)))from if_neg (show¬6<=s.u by omega)];show 1<=s.a+bS s.ku s.a s.a-(s.u.toNat+1)-1;omega
def Ox:Spec:=cz (kC (gh 2000 2000) kN) (fun a=>.tuple [bM (dc (gp fC (dc a.1))) 2000 2000,.int .i64 0]) fun a=>[fc a.1,a.1.v<=5]
theorem alT:aW P Ox 36:=cr fun⟨s,_⟩ K hn=>by
 obtain⟨hs,h5⟩:fc s/\s.v<=5:=hn;refine b9 (r:=aJ (.tuple [bM (dc (gp fC (dc s))) 2000 2000,.int .i64 0]) []) hT Wc hm VO rfl aV rfl 60 af3 (fun _=>?_) K [];simp only[ag.all];exact⟨⟨Nat.zero_lt_one,hs.pW (ajX ⟨hs.swap,h5,Nat.zero_lt_one⟩)⟩,⟨Nat.zero_lt_one,(B0 hs.swap h5).pW hs.swap (ahc hs.swap h5) Nat.zero_lt_one⟩,Nat.zero_lt_one,.refl _,.refl _,trivial⟩
def wrS (s:Sf) (n:Nat) (c:Nat->Cu):Sf:=⟨s.u,(c 0).p,s.a,s.ku,(c 0).n,(c 0).k,n,(c 0).m,fun i=>(c i).f⟩
structure EF (s t:Sf):Prop where
 u:s.u=t.u
 v:s.v=t.v
 a:s.a=t.a
 ku:∀i,i<s.a->s.ku i=t.ku i
 b:s.b=t.b
 kv:∀i,i<s.b->s.kv i=t.kv i
 n:s.n=t.n
 m:s.m=t.m
 f:∀i j,i<s.n->j<s.m->s.f i j=t.f i j
abbrev H6:FuncId:=64
abbrev Gc:Func:=f64
theorem ak2:aU H6 Gc:=aS func64
abbrev x3:Code:=aE Gc
abbrev kE:List Nat:=[0,1,2,6,15,16,17]
abbrev I8:FuncId:=162
abbrev A5:FuncId:=209
abbrev uG:Code:=aE f209
theorem agt:aU I8 f162:=aS func162
theorem IB:aU A5 f209:=aS func209
theorem MQ:aU 98 f98:=aS func98
def loadT (o:Oper):Nat:=match o.op with
 |.load t _=>t
 |_=>0
def V7 (o:Oper):Nat:=match o.op with
 |.binOp _ t _ _ _=>t
 |_=>0
abbrev ND:Nat:=loadT (eG uG [0] 0)
abbrev I9:Nat:=loadT (eG uG [1,0,0,1,0,0,0] 5)
abbrev bkI:Nat:=V7 (eG uG [0] 2)
def ags (o:Oper):Array TypeId:=match o.op with
 |.call c=>c.argTypes
 |_=>#[]
def Ts (o:Oper):Nat:=match o.op with
 |.unOp _ t _=>t
 |_=>0
theorem Tg:NF uG ND I9 bkI:=⟨ah,⟨ah,ah,ah⟩,⟨ah,ah,ah⟩,⟨ah,ah,ah⟩,⟨ah,ah,ah⟩,⟨ah,ah,ah⟩,⟨ah,ah,ah⟩,⟨ah,ah,ah⟩,⟨ah,ah,ah⟩,⟨ah,ah,ah⟩,⟨ah,ah,ah⟩,⟨ah,ah,ah⟩,⟨ah,ah,ah⟩,
 ⟨ags (eG uG [1,0,0,1,0,0,0] 6),ah,ah,ah⟩,⟨Ts (eG uG [1,0,0,1,0,0,0] 7),ah,ah,ah⟩,⟨ah,ah,ah⟩,⟨ah,ah,ah⟩,⟨ah,ah,ah⟩⟩
theorem afu {k:Nat->Rat} (hn:n<2^62):CP P A5 [.bZ (bu k n s)] n (fun i=>.int .i64 ((n:Int)-1-i)) (fun i=>.rat (k (n-1-i)) s):=
 akS hT (tiS:=(look ND T).getD ⟨.bool,0,0,.nil⟩) (tiE:=(look I9 T).getD ⟨.bool,0,0,.nil⟩) ah ah ah ah IB.get IB.body ah ah Tg (f:=fun i=>.rat (k i) s) hn ah fun i hi=>⟨rfl,rfl⟩
def yz:aX:=nG::(I8,iR T [sG] [] 20 f162)::iZ
abbrev x4:List Nat:=[1,3,7]
abbrev DE (n:Nat) (k:Nat->Rat) (s:Nat):List AV:=[.ptr 0 0 1 0 [],.ptr 1 0 1 0 [],.func A5 [.bZ (bu k n s)]]
abbrev yF (n:Nat) (k:Nat->Rat) (s i:Nat) (x:Nat->Rat) (w:Nat):aC:=[(2,CK i x w),(1,⟨false,true,1,1,fun _=>.own 2 3 0 i⟩),(0,⟨false,true,1,1,fun _=>bu k n s⟩)]
abbrev HH:List Nat:=[1,3,7,5]
abbrev Mr (n:Nat) (k:Nat->Rat) (s:Nat):List AV:=[.ptr 0 0 1 0 [],.ptr 1 0 1 0 [],.func A5 [.bZ (bu k n s)],.ptr 3 0 3 0 []]
abbrev uc:Code:=aE f98
def IV:Code->Code×Code
 |.block _ (.rangeFunc _ _ x y)=>(x,y)
 |_=>(.skip,.skip)
abbrev LI:Code:=(IV (part uc [1,1,0,1])).1
abbrev O8:Code:=(IV (part uc [1,1,0,1])).2
theorem ad7 {k:Nat->Rat}:aI T yz [] 60 x4 (before uc [1,1,0,1]) ⟨aN 0 [bu k n s],[],0⟩=
  let a:=ak 3 n fun i=>rat (k i) s;some (aj [(0:Nat)<1] (leaf normal ([ptr 0 0 (bp (bu k n s)).size 0 [],ptr 8192 0 1 0 [],func 209 [a.bZ]],[(8192,aq.mk false true 1 1 fun x=>nil),(0,aq.mk false true (bp (bu k n s)).size 1 fun x=>a)]))):=ah
theorem amJ {k:Nat->Rat} {v:Rat}:aI T yz [] 60 HH [LI] ⟨aA (x4++[8,9]) (DE n k s++[.int .i64 u,.rat v s]),yF n k s i x w,3⟩=
  let a:=ak 3 n fun i=>rat (k i) s;some (aj [(0:Nat)<1] (leaf normal ([ptr 0 0 1 0 [],ptr 1 0 1 0 [],func 209 [a.bZ],ptr 3 0 3 0 []],[(2,aq.mk true true 3 i fun i=>rat (x i) w),((3:Nat),bG fun j=>if(j==0)=true then bp (rat v s)else rat 0 1),(1,aq.mk false true 1 1 fun x=>own 2 3 0 i),(0,aq.mk false true 1 1 fun x=>a)]))):=ah
theorem afW {k:Nat->Rat} {v:Rat}:aI T yz [] 60 x4 [O8] ⟨aA HH (Mr n k s),(3,tP v s)::yF n k s i x w,4⟩=
  let e:=ak 3 n fun i=>rat (k i) s;let d:=2^42;let b:=(↑n:Int)-1;let a:=0<1;some (aj [a,a,(0:Int)<=0/\Int.toNat (0:Int)<n,a,a,-(2:Int)^63<=b/\b<2^63,(0:Int)<=b/\b.toNat<n,s<d,s<d,a,s+s+1<d,s<d,(1:Nat)*3<=2^24,(i+1)*((56:Nat)+1)*2<=2^47,a] (leaf normal ([ptr 0 0 1 0 [],ptr 1 0 1 0 [],func 209 [e.bZ]],[(57348,aq.mk true true 3 (i+1) fun i_1=>if i_1<i then rat (x i_1) w else nth [rat (k (Int.toNat (0:Int))+k b.toNat-v) (s+s+1+s+1)] (rat 0 1) (i_1-i+0)),(1,aq.mk false true 1 1 fun j=>if(j==0)=true then bp (own (nat_lit 57347+1) 3 0 (i+1))else own 2 3 0 i),(0,aq.mk false true 1 1 fun x=>e)]))):=ah
theorem WL {k:Nat->Rat}:ct T yz [] 60 f98 [part uc [1,1,1]] ⟨aA x4 (DE n k s),yF n k s i x w,3⟩=
  some (aj [(0:Nat)<1] (leaf ret [ak 3 i fun i=>rat (x (i+0)) w])):=ah
theorem RJ:bn P yz:=cB (aH (je hT (kq bw) hm agt _ _) jA)
theorem ZX {k:Nat->Rat} (h:3*s+2<=w) (hw:w<2^40) (hn:n<2^40) (K:Nat):aQ P 98 K [bu k n s] [] (aJ (bu (iJ n k) n w) []):=by
 refine amg (r:=aJ (bu (iJ n k) n w) []) hT MQ rfl aV rfl (fun _ cx hro hk=>?_) K [];refine ax.ahP hT RJ hm (x:=uc) (assign:=LI) (body:=O8) (g:=7) (p0:=8) (p1:=9) [1,1,0,1] (i:=0) ah ah MQ.dst hro hk IB.enters (afu (s:=s) (k:=k) aa) aV aV (by decide) (f1:=[]) (f2:=[]) (f3:=[])
  60 x4 HH (DE n k s) (fun _=>rfl) rfl (fun i=>yF n k s i (iJ n k) w) 3 4 (fun _=>Mr n k s) (fun i=>(3,tP (k (n-1-i)) s)::yF n k s i (iJ n k) w) [0,1] ⟨_,ad7,?_⟩ (fun i hi=>⟨_,amJ,?_⟩) (fun i hi=>⟨_,afW,?_⟩) ?_
 ·simp only[ag.all,ay];exact⟨aa,trivial,[(0,0),(1,8192)],rfl,rfl,rfl,jP rfl aa aa (cP rfl rfl (.inl (.inl ⟨rfl,rfl⟩)) (aL trivial))⟩
 ·simp only[ag.all,ay];exact⟨aa,trivial,[(0,0),(1,1),(2,2),(3,3)],rfl,rfl,rfl,aL (cX (cP rfl rfl (.inl (.inl ⟨rfl,rfl⟩)) (aL trivial)))⟩
 ·simp only[ag.all,ay,Int.toNat_zero];refine⟨aa,trivial,[(0,0),(1,1),(2,57348)],rfl,rfl,rfl,cj rfl rfl rfl (fun j hj=>rD (fun _ _=>rfl) ?_ bq aa hj) (cP rfl rfl (.inl (.inl ⟨rfl,rfl⟩)) (aL trivial))⟩;rw[show((n:Int)-1).toNat=n-1 by omega];rfl
 ·rw[show behind uc [1,1,0,1]=[part uc [1,1,1]]from by kernel_rfl];exact(aG.fin hT RJ hm 60 WL ah (by simp only[ag.all,ay];exact⟨aa,.refl _⟩)).mono fun _ _ h=>.inl h
def qS (c:Cu):Cu:=⟨c.p,c.n,iJ c.n c.k,c.m,fun j=>c.f (c.m-1-j)⟩
theorem XK:0<=ic d/\ic d<=1:=by
 unfold ic;have h1:1<=qb d:=by
  unfold qb;have:=Int.emod_nonneg (i64.wrap (d.tdiv 17)) (show(12:Int)≠0 by omega);omega
 generalize qb d=m at*;have h2:=Int.emod_nonneg d (show m+1≠0 by omega);have h3:=Int.emod_lt_of_pos d (show 0<m+1 by omega);generalize d%(m+1)=x at*;have e1:(0:Rat)<=(x:Rat):=by exact_mod_cast h2
 have e2:(x:Rat)<=(m:Rat):=by exact_mod_cast (show x<=m by omega)
 have e3:(0:Rat)<(m:Rat):=by exact_mod_cast (show 0<m by omega)
 have e4:(x:Rat)/(m:Rat)*(m:Rat)=(x:Rat):=Rat.div_mul_cancel (by intro h;rw[h]at e3;exact absurd e3 (by decide));generalize (x:Rat)/(m:Rat)=q at*;generalize (x:Rat)=u at*;generalize (m:Rat)=v at*;refine⟨?_,?_⟩
 ·rcases Rat.le_total (a:=0) (b:=q)with h|h
  ·exact h
  ·by_cases hq:q=0
   ·rw[hq];exact Rat.le_refl
   ·have:=Rat.mul_pos (a:=-q) (b:=v) (by grind) e3;grind
 ·rcases Rat.le_total (a:=q) (b:=1)with h|h
  ·exact h
  ·by_cases hq:q=1
   ·rw[hq];exact Rat.le_refl
   ·have:=Rat.mul_pos (a:=q-1) (b:=v) (by grind) e3;grind
theorem Zb {a b:Rat} (h:a<=b):a<=a+ic d*(b-a)/\a+ic d*(b-a)<=b:=by
 obtain⟨h1,h2⟩:=XK (d:=d);generalize ic d=q at*;have e1:=Rat.mul_nonneg h1 (show 0<=b-a by grind);have e2:=Rat.mul_nonneg (show 0<=1-q by grind) (show 0<=b-a by grind);constructor<;>grind
theorem Kn.JQ {p:Nat} {k:Nat->Rat} (h:Kn n p k):¬bf n k (k 0+ic d*(k (n-1)-k 0)):=by
 have hl:=h.len;obtain⟨h1,h2⟩:=Zb (d:=d) (h.mono (show 0<=n-1 by omega) (show n-1<n by omega));rintro(h3|h3)<;>grind
theorem Kn.xp {p:Nat} {k:Nat->Rat} (h:Kn n p k) (hin:¬bf n k t):CM n k t (bJ n k t):=by
 have h1:¬t<k 0:=fun h=>hin (.inl h);have h2:¬k (n-1)<t:=fun h=>hin (.inr h);exact(h.yg (by grind) (by grind)).1
theorem Kn.Ln {p:Nat} {k:Nat->Rat} (h:Kn n p k):Kn n p (iJ n k):=by
 have h1:=h.p1;have hl:=h.len;refine⟨h1,hl,fun i hi=>?_,fun i hi=>?_,fun i h2 h3=>?_,fun i h2 h3=>?_⟩
 ·have:=h.sorted (n-1-(i+1)) aa;rw[show n-1-(i+1)+1=n-1-i by omega]at this;unfold iJ;grind
 ·unfold iJ;rw[h.last (n-1-i) aa aa,h.last (n-1-0) aa aa]
 ·unfold iJ;rw[h.first (n-1-i) aa,h.first (n-1-(n-1)) aa]
 ·have:=h.mult (n-1-(i+p)) aa aa;rw[show n-1-(i+p)+p=n-1-i by omega]at this;unfold iJ;grind
theorem Kn.ends {p:Nat} {k:Nat->Rat} (h:Kn n p k):k 0<k (n-1):=by
 have h1:=h.p1;have hl:=h.len;have:=h.mult 1 aa aa;have e1:=h.mono (show 0<=1 by omega) (show 1<n by omega);have e2:=h.mono (show 1+p<=n-1 by omega) (show n-1<n by omega);grind
theorem Dq {k:Nat->Rat} {a b:Rat}:oo n k a b i=a+(k i-k 0)*((k (n-1)-k 0)⁻¹*(b-a)):=by
 unfold oo;rw[Rat.div_def];grind
theorem Kn.Yp {p:Nat} {k:Nat->Rat} {a b:Rat} (h:Kn n p k) (hab:a<b):Kn n p (oo n k a b):=by
 have he:=h.ends;have hp:0<(k (n-1)-k 0)⁻¹*(b-a):=Rat.mul_pos (Rat.inv_pos.2 (by grind)) (by grind);have key:∀i j,k i<=k j->oo n k a b i<=oo n k a b j:=fun i j hij=>by
  rw[Dq,Dq];have:=Rat.mul_le_mul_of_nonneg_right (show k i-k 0<=k j-k 0 by grind) (Rat.le_of_lt hp);grind
 have keyL:∀i j,k i<k j->oo n k a b i<oo n k a b j:=fun i j hij=>by
  rw[Dq,Dq];have:=Rat.mul_lt_mul_of_pos_right (show k i-k 0<k j-k 0 by grind) hp;grind
 have keyE:∀i j,k i=k j->oo n k a b i=oo n k a b j:=fun i j hij=>by unfold oo;rw[hij]
 exact⟨h.p1,h.len,fun i hi=>key _ _ (h.sorted i hi),fun i hi=>keyE _ _ (h.first i hi),fun i h2 h3=>keyE _ _ (h.last i h2 h3),fun i h2 h3=>keyL _ _ (h.mult i h2 h3)⟩
theorem aaG {x:Rat} (hx:0<x) (hy:0<y) (h0:0<=f) (h1:f<=1):0<x+f*(y-x):=by
 by_cases c:x<=y
 ·have:=Rat.mul_nonneg h0 (show 0<=y-x by grind);grind
 ·have:=Rat.mul_nonneg (show 0<=1-f by grind) (show 0<=x-y by grind);grind
theorem F0 {n p P:Nat} {k x:Nat->Rat} (hA:At n k P) (w1:p<=P) (w2:P+p+1<n) (hx:∀j,0<x j):∀{E:List Rat} {a c:Nat},E.length+(a+c)=p->(∀d∈E,k (P-a)<=d/\d<=k (P+c+1))->0<b7 k p x P (E++aZ k (P+1-a) (a+c))
 |[],a,c,hl,_=>by
  have hl:a+c=p:=by simpa using hl
  have:b7 k p x P (aZ k (P-a+1) p)=x (P-a):=tY hA w1 (by omega) (by omega) (by omega);rw[List.nil_append,hl,show P+1-a=P-a+1 by omega,this];exact hx _
 |d::E,a,c,hl,hb=>by
  have hl:E.length+1+(a+c)=p:=by simpa using hl
  have hA':At n k (P-p+p):=by rwa [show P-p+p=P by omega]
  obtain⟨b1,b2⟩:=hb d (List.mem_cons_self ..);have hlt:k (P-a)<k (P+c+1):=hA.around (by omega) (by omega) (by omega);have m1:k (P-(a+1))<=k (P-a):=fT hA.sorted (by omega) (by omega);have m2:k (P+c+1)<=k (P+(c+1)+1):=fT hA.sorted (by omega) (by omega);have i1:=F0 hA w1 w2 hx (E:=E) (a:=a+1) (c:=c) (by omega) fun e he=>⟨Rat.le_trans m1 (hb e (List.mem_cons_of_mem _ he)).1,(hb e (List.mem_cons_of_mem _ he)).2⟩
  have i2:=F0 hA w1 w2 hx (E:=E) (a:=a) (c:=c+1) (by omega) fun e he=>⟨(hb e (List.mem_cons_of_mem _ he)).1,Rat.le_trans (hb e (List.mem_cons_of_mem _ he)).2 m2⟩
  have hlen:(E++aZ k (P+1-a) (a+c)).length+1=p:=by rw[List.length_append,iy];omega
  have p1:(k (P-a)::(E++aZ k (P+1-a) (a+c))).Perm (E++aZ k (P+1-(a+1)) (a+1+c)):=by
   rw[show P+1-(a+1)=P-a by omega,show a+1+c=a+c+1 by omega,show aZ k (P-a) (a+c+1)=k (P-a)::aZ k (P-a+1) (a+c)from rfl,show P-a+1=P+1-a by omega];exact List.perm_middle.symm
  have p2:(k (P+c+1)::(E++aZ k (P+1-a) (a+c))).Perm (E++aZ k (P+1-a) (a+(c+1))):=by
   rw[show a+(c+1)=a+c+1 by omega,wI,show P+1-a+(a+c)=P+c+1 by omega,<-List.append_assoc];exact List.perm_append_comm (l₁:=[k (P+c+1)])
  have q1:b7 k p x P (k (P-a)::(E++aZ k (P+1-a) (a+c)))=_:=o8 hA' (by omega) p1 (by rw[List.length_cons];omega);have q2:b7 k p x P (k (P+c+1)::(E++aZ k (P+1-a) (a+c)))=_:=o8 hA' (by omega) p2 (by rw[List.length_cons];omega);have key:=AP (k:=k) (b:=P-p) (x:=fun q=>x (P-p+q)) (u:=k (P-a)) (v:=k (P+c+1)) (f:=fr (k (P-a)) (k (P+c+1)) d) hlen;rw[Bm hlt]at key;show 0<b7 k p x P (d::(E++aZ k (P+1-a) (a+c)));have key:b7 k p x P (d::(E++aZ k (P+1-a) (a+c)))=b7 k p x P (k (P-a)::(E++aZ k (P+1-a) (a+c)))+fr (k (P-a)) (k (P+c+1)) d*(b7 k p x P (k (P+c+1)::(E++aZ k (P+1-a) (a+c)))-b7 k p x P (k (P-a)::(E++aZ k (P+1-a) (a+c)))):=key;rw[key,q1,q2];exact aaG i1 i2 (Dz hlt b1) (Iz hlt b2)
inductive mc (k:Nat->Rat) (P:Nat):List Rat->Nat->Prop
 |nil:mc k P [] 0
 |blk {l:List Rat} {c:Nat}:mc k P l c->mc k P (k (P+c+1)::l) (c+1)
 |dup {l:List Rat} {c:Nat} {d:Rat}:mc k P l c->k P<=d->d<=k (P+c+1)->mc k P (d::l) c
theorem mc.le {k:Nat->Rat} {P:Nat} (h:mc k P l c):c<=l.length:=by
 induction h with
 |nil=>exact Nat.le_refl _
 |blk _ ih=>rw[List.length_cons];omega
 |dup _ _ _ ih=>rw[List.length_cons];omega
theorem mc.split {P:Nat} {k:Nat->Rat} (hs:∀i,i+1<n->k i<=k (i+1)) (h:mc k P l c):P+l.length+1<n->∃E:List Rat,l.Perm (E++aZ k (P+1) c)/\∀d∈E,k P<=d/\d<=k (P+c+1):=by
 induction h with
 |nil=>exact fun _=>⟨[],.refl _,fun d hd=>by simp at hd⟩
 |@blk l c hl ih=>
  intro hn;rw[List.length_cons]at hn;have:=hl.le;obtain⟨E,h1,h2⟩:=ih (by omega);refine⟨E,?_,fun d hd=>⟨(h2 d hd).1,Rat.le_trans (h2 d hd).2 (fT hs (by omega) (by omega))⟩⟩;rw[wI,show P+1+c=P+c+1 by omega,<-List.append_assoc];exact(h1.cons _).trans (List.perm_append_comm (l₁:=[k (P+c+1)]))
 |@dup l c d hl d1 d2 ih=>
  intro hn;rw[List.length_cons]at hn;obtain⟨E,h1,h2⟩:=ih (by omega);refine⟨d::E,h1.cons _,fun e he=>?_⟩;rcases List.mem_cons.1 he with rfl|he
  ·exact⟨d1,d2⟩
  ·exact h2 e he
theorem mc.pos {p P:Nat} {k:Nat->Rat} (hA:At n k P) (w1:p<=P) (w2:P+p+1<n) (hx:∀j,0<x j) (h:mc k P l c) (hl:l.length=p):0<b7 k p x P l:=by
 obtain⟨E,h1,h2⟩:=h.split hA.sorted (by omega);have hA':At n k (P-p+p):=by rwa [show P-p+p=P by omega]
 have e:b7 k p x P l=b7 k p x P (E++aZ k (P+1) c):=o8 hA' (by omega) h1 (by omega);have hlen:=h1.length_eq;rw[List.length_append,iy]at hlen;have:=F0 hA w1 w2 hx (E:=E) (a:=0) (c:=c) (by omega) h2;rw[e];rwa [Nat.zero_add]at this
def Src (k:Nat->Rat) (n Q i:Nat):Prop:=i<n/\i+bS k n i<=Q/\Q<i+1+bS k n (i+1)
theorem Src.val {k:Nat->Rat} (h:Src k n Q i):bt k n n Q=k i:=k7 h.1 h.2.1 h.2.2
theorem Src.next {k:Nat->Rat} (h:Src k n Q i) (hQ:Q+1<n+bS k n n):Src k n (Q+1) i\/(Src k n (Q+1) (i+1)/\Q+1=i+1+bS k n (i+1)):=by
 obtain⟨h1,h2,h3⟩:=h;by_cases c:Q+1<i+1+bS k n (i+1)
 ·exact .inl ⟨h1,by omega,c⟩
 ·have hlt:i+1<n:=by
   by_cases e:i+1<n
   ·exact e
   ·have:i+1=n:=by omega
    rw[this]at c;omega
  have:=(nY (k:=k) (n:=n) (i:=i+1)).1;exact .inr ⟨⟨hlt,by omega,by omega⟩,by omega⟩
theorem Src.last {k:Nat->Rat} (h:Src k n Q i) (hQ:Q+2<n+bS k n n) (hw:bt k n n (Q+1)≠bt k n n (Q+2)):Src k n (Q+1) i:=by
 rcases h.next (by omega)with h|⟨h,e⟩
 ·exact h
 ·exfalso;have hv:=h.val;obtain⟨h1,h2,h3⟩:=id h;by_cases c:i+1+1=n\/k (i+1)≠k (i+1+1)
  ·have:=rW (k:=k) c;exact hw (by rw[hv];exact(k7 (k:=k) h1 (by omega) (by omega)).symm)
  ·have hg:=uV (k:=k) c;have h4:k (i+1)=k (i+1+1):=Classical.not_not.1 fun g=>c (.inr g);have:=(nY (k:=k) (n:=n) (i:=i+1+1)).1;exact hw (by rw[hv,h4];exact(k7 (k:=k) (i:=i+1+1) (by omega) (by omega) (by omega)).symm)
def ey (f:Nat->Rat) (j i r:Nat):Rat:=if r<i then f (j+1+r)else f (j+2+r)
theorem TY {f:Nat->Rat} (h:f (j+1+i)=f (j+2+i)):ey f j i=ey f j (i+1):=by
 funext r;unfold ey;by_cases c:r<i
 ·rw[if_pos c,if_pos (by omega)]
 ·by_cases c2:r=i
  ·subst c2;rw[if_neg (by omega),if_pos (by omega),h]
  ·rw[if_neg c,if_neg (by omega)]
theorem FZ {n p P j s i:Nat} {k:Nat->Rat} (hA:At n k P) (w2:P+p+1<n) (hP:Src k n s P) (hjs:j<=s) (hj:j+p+2<n+bS k n n) (hflat:∀u,j<=u->u<=s->bt k n n u=bt k n n s) (hlast:i=p\/(i<p/\bt k n n (j+1+i)≠bt k n n (j+2+i))):
  ∀{t:Nat},t<=p+1->(i=p->t<=p)->∃c,mc k P (jc (ey (bt k n n) j i) 0 (if t<=i then t else t-1)) c/\(j+t<=s->c=0)/\(s<=j+t->Src k n (j+t) (P+c))
 |0,_,_=>⟨0,by rw[if_pos (Nat.zero_le _)];exact .nil,fun _=>rfl,fun h=>by rwa [show j+0=s by omega]⟩
 |t+1,ht,hti=>by
  obtain⟨c,c1,c2,c3⟩:=FZ hA w2 hP hjs hj hflat hlast (t:=t) (by omega) fun h=>by have:=hti h;omega
  have hs:=hA.sorted;by_cases hd:t=i
  ·subst hd;rw[if_pos (Nat.le_refl _)]at c1;refine⟨c,by rw[if_neg (by omega)];exact c1,fun h=>c2 (by omega),fun h=>?_⟩;by_cases h2:j+(t+1)<=s
   ·rw[show j+(t+1)=s by omega,c2 (by omega)];exact hP
   ·rcases hlast with h3|⟨h3,h4⟩
    ·have:=hti h3;omega
    ·have:=(c3 (by omega)).last (by omega) (by rw[show j+t+1=j+1+t by omega,show j+t+2=j+2+t by omega];exact h4);rwa [show j+(t+1)=j+t+1 by omega]
  ·have hcl:=c1.le;have hl:(jc (ey (bt k n n) j i) 0 (if t<=i then t else t-1)).length<=p:=by
    rw[oe.length_eq,iy];split<;>omega
   have e:jc (ey (bt k n n) j i) 0 (if t+1<=i then t+1 else t+1-1)=bt k n n (j+t+1)::jc (ey (bt k n n) j i) 0 (if t<=i then t else t-1):=by
    by_cases h:t<i
    ·rw[if_pos (by omega),if_pos (by omega),jc];congr 1;unfold ey;rw[if_pos (by omega)];congr 1;omega
    ·obtain⟨u,rfl⟩:∃u,t=u+1:=⟨t-1,by omega⟩
     rw[if_neg (by omega),if_neg (by omega),show u+1+1-1=u+1 by omega,show u+1-1=u by omega,jc];congr 1;unfold ey;rw[if_neg (by omega)];congr 1;omega
   rw[e];by_cases h2:j+(t+1)<=s
   ·have hv:bt k n n (j+t+1)=k P:=by rw[hflat (j+t+1) (by omega) (by omega)];exact hP.val
    rw[hv];have h0:=c2 (by omega);refine⟨c,.dup c1 Rat.le_refl (fT hs (by omega) (by omega)),fun _=>h0,fun h=>?_⟩;rw[show j+(t+1)=s by omega,h0];exact hP
   ·rcases(c3 (by omega)).next (by omega)with h|⟨h,_⟩
    ·rw[h.val];exact⟨c,.dup c1 (fT hs (by omega) (by omega)) (fT hs (by omega) (by omega)),fun h=>by omega,fun _=>h⟩
    ·rw[h.val];exact⟨c+1,.blk c1,fun h=>by omega,fun _=>h⟩
theorem RM {p P:Nat} {k:Nat->Rat} (hA:At n k P) (w1:p<=P) (w2:P+p+1<n) (hx:∀j,0<x j) (hP:Src k n s P) (hjs:j<=s) (hj:j+p+2<n+bS k n n) (hflat:∀u,j<=u->u<=s->bt k n n u=bt k n n s) (hlast:i=p\/(i<p/\bt k n n (j+1+i)≠bt k n n (j+2+i))):0<b7 k p x P (aZ (ey (bt k n n) j i) 0 p):=by
 have hA':At n k (P-p+p):=by rwa [show P-p+p=P by omega]
 have go:∀{l:List Rat} {c:Nat},mc k P l c->l.Perm (aZ (ey (bt k n n) j i) 0 p)->0<b7 k p x P (aZ (ey (bt k n n) j i) 0 p):=fun {l c} h hp=>by
  have hl:=hp.length_eq;rw[iy]at hl;have e:b7 k p x P l=b7 k p x P (aZ (ey (bt k n n) j i) 0 p):=o8 hA' (by omega) hp (by omega);rw[<-e];exact h.pos hA w1 w2 hx hl
 by_cases e:i=p
 ·obtain⟨c,c1,_⟩:=FZ hA w2 hP hjs hj hflat hlast (t:=p) (by omega) fun _=>Nat.le_refl _;rw[if_pos (by omega)]at c1;exact go c1 oe
 ·obtain⟨c,c1,_⟩:=FZ hA w2 hP hjs hj hflat hlast (t:=p+1) (by omega) fun h=>absurd h e;rw[if_neg (by omega),Nat.add_sub_cancel]at c1;exact go c1 oe
theorem J2 {n p P j s:Nat} {k x:Nat->Rat} (hA:At n k P) (w1:p<=P) (w2:P+p+1<n) (hx:∀j,0<x j) (hP:Src k n s P) (hjs:j<=s) (hj:j+p+2<n+bS k n n) (hflat:∀u,j<=u->u<=s->bt k n n u=bt k n n s):∀{d i:Nat},i+d=p->0<b7 k p x P (aZ (ey (bt k n n) j i) 0 p)
 |0,i,hi=>RM hA w1 w2 hx hP hjs hj hflat (.inl (by omega))
 |d+1,i,hi=>by
  by_cases c:bt k n n (j+1+i)=bt k n n (j+2+i)
  ·rw[TY c];exact J2 hA w1 w2 hx hP hjs hj hflat (d:=d) (by omega)
  ·exact RM hA w1 w2 hx hP hjs hj hflat (.inr ⟨by omega,c⟩)
section
variable {k:Nat->Rat} {b p:Nat}
end
end Go.Am.B
namespace Go.Am.B
open Go Go.Am.N AV ag au IntKind Proofs.Tryz
theorem Gl {n:Nat} {k:Nat->Rat} (hs:∀i,i+1<n->k i<=k (i+1)):∀{d i:Nat},k i<k (i+d)->i+d<n->i<=fj k n i/\fj k n i<i+d/\k (fj k n i)<k (fj k n i+1)/\∀u,i<=u->u<=fj k n i->k u=k (fj k n i)
 |0,i,h,_=>absurd h Rat.lt_irrefl
 |d+1,i,h,hn=>by
  by_cases c:k (i+1)<=k i
  ·have e:k (i+1)=k i:=Rat.le_antisymm c (hs i aa);have:=Gl hs (d:=d) (i:=i+1) (by rw[e,show i+1+d=i+(d+1) by omega];exact h) aa;rw[Q4 aa c];obtain⟨g1,g2,g3,g4⟩:=this;refine⟨aa,aa,g3,fun u h1 h2=>?_⟩;by_cases e2:u=i
   ·rw[e2,<-e];exact g4 _ aa g1
   ·exact g4 u aa h2
  ·rw[DO (fun g=>c g.2)];exact⟨bq,aa,Rat.not_le.1 c,fun u h1 h2=>by rw[show u=i by omega]⟩
theorem KS {c:Cu} {P e:Nat} (hc:Kn c.n c.p.toNat c.k) (hp1:1<=c.p) (hm2:(c.m:Int)=(c.n:Int)-c.p-1) (hA:At c.n c.k P):
  gO c (P:Nat) c.p.toNat g e=b7 c.k c.p.toNat (fun i=>bY (c.f i) e) P (aZ g 0 c.p.toNat):=by
 obtain⟨w1,w2⟩:=hc.nu hA;have hw:=hA.wide;have hE:iO c.n c.k c.p.toNat c.m c.p.toNat (P:Nat)=0:=BO aa rfl (by
  rw[bg];rintro(h|h|h)
  ·omega
  ·omega
  ·exact absurd h (Rat.not_le.2 hw))
 unfold gO mD;rw[if_pos hE,bg,BL];rfl
theorem Ow {f:Rat} {x:Nat->Pl} (hf:0<f):∀{r:Nat},(∀i,i<r+1->0<(x i).d)->0<(ja f x (r+1)).d
 |0,h=>by
  have:=Rat.mul_pos hf (h 0 aa);show 0<0+f*(x 0).d;grind
 |r+1,h=>by
  have:=Ow hf (x:=x) (r:=r) fun i hi=>h i aa;have:=Rat.mul_pos hf (h (r+1) aa);rw[show(ja f x (r+1+1)).d=(ja f x (r+1)).d+f*(x (r+1)).d from rfl];grind
theorem Ld {c:Cu} (hc:jM c) (hw:∀i,0<(c.f i).d) (hj:j<(gJ (eR c)).m):0<((gJ (eR c)).f j).d:=by
 obtain⟨k1,k2,k3,k4,k5⟩:=id hc;obtain⟨p,hp⟩:∃p,p=c.p.toNat:=⟨_,rfl⟩
 have hj:j<oR (eR c)-(c.p.toNat+1)-1:=hj;rw[<-hp]at hj;have hN:oR (eR c)=c.n+bS c.k c.n c.n:=rfl;have hK:Kn (c.n+bS c.k c.n c.n) (p+1) (bt c.k c.n c.n):=by rw[hp];exact oB k1
 rw[hN]at hj;have hsup:=hK.Bb (j:=j) aa;obtain⟨g1,g2,g3,g4⟩:=Gl hK.sorted hsup aa;obtain⟨s,hs⟩:∃s,s=fj (bt c.k c.n c.n) (c.n+bS c.k c.n c.n) j:=⟨_,rfl⟩
 rw[<-hs]at g1 g2 g3 g4;obtain⟨P,hP⟩:∃P,Src c.k c.n s P:=by
  obtain⟨i,h1,h2,h3⟩:=yN (k:=c.k) (n:=c.n) (Q:=s) (m:=c.n) aa;exact⟨i,h1,h2,h3⟩
 have hv:=hP.val;have hA:At c.n c.k P:=by
  rcases hP.next aa with h|⟨h,_⟩
  ·rw[h.val,hv]at g3;exact absurd g3 Rat.lt_irrefl
  ·rw[h.val,hv]at g3;exact⟨h.1,k1.sorted,g3⟩
 obtain⟨w1,w2⟩:=k1.nu hA;have hI:fY c.n c.k (bt c.k c.n c.n s)=P:=by
  rw[hv];unfold fY;rw[if_neg,yQ hA];rintro(h|h)
  ·exact absurd (k1.mono (Nat.zero_le P) (by have:=hA.lt;omega)) (Rat.not_le.2 h)
  ·exact absurd (k1.mono (show P<=c.n-1 by omega) aa) (Rat.not_le.2 h)
 show 0<(ja _ (nL (eR c) (fY c.n c.k (bt c.k c.n c.n (fj (bt c.k c.n c.n) (c.n+bS c.k c.n c.n) j))) (c.p.toNat+1) (bt c.k c.n c.n) j) (c.p.toNat+1)).d;rw[<-hs,hI];refine Ow ?_ fun i hi=>?_
 ·show 0<((1:Int):Rat)/((c.p+1:Int):Rat);rw[Rat.div_def];exact Rat.mul_pos (by decide) (Rat.inv_pos.2 (by exact_mod_cast (show(0:Int)<c.p+1 by omega)))
 ·show 0<gO (eR c) (P:Nat) (c.p.toNat+1-1) (fun u=>jH (fun v=>bt c.k c.n c.n (v+(j+1))) i (c.p.toNat+1) u) 3;rw[Nat.add_sub_cancel,KS (c:=eR c) k1 k2 k5 hA];have:=J2 (p:=p) (x:=fun q=>(c.f q).d) hA aa aa hw hP g1 aa g4 (d:=p-i) (i:=i) aa;have e:aZ (fun u=>jH (fun v=>bt c.k c.n c.n (v+(j+1))) i (c.p.toNat+1) u) 0 p=aZ (ey (bt c.k c.n c.n) j i) 0 p:=uW fun u h1 h2=>by
   unfold jH ey;rw[if_neg aa];by_cases c:u<i
   ·rw[if_neg aa,if_pos c,<-Nat.add_comm u (j+1)]
   ·rw[if_pos aa,if_neg c,<-show u+1+(j+1)=j+2+u by omega]
  rw[<-hp]at*;show 0<b7 c.k p (fun q=>(c.f q).d) P _;rw[e];exact this
end Go.Am.B
