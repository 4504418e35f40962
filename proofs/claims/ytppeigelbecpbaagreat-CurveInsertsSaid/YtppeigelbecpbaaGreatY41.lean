/- ref10.Split. -/
import Derived.Test.YtppeigelbecpbaaGreatY40
import Derived.Test.YtppeigelbecpbaaGreatY39
import Derived.Test.YtppeigelbecpbaaGreatZ2
import Derived.Test.YtppeigelbecpbaaGreatY37
set_option linter.unusedVariables false
namespace Go.Am.B
open Go Go.Am.N AV aa ak IntKind
theorem M6:aP P vQ lZ (au lZ):=aQ Ru (by kernel_rfl) (by kernel_rfl) (by kernel_rfl)
noncomputable def s7:aS:=nG::(vc,GC)::(rX,oX)::(s9,Gh)::(Ck,pU)::o7
noncomputable abbrev yD:Code:=au lZ
noncomputable abbrev o4:Code:=part yD [1,1,1]
abbrev rY:List Nat:=[4,5,6,2,3]
abbrev CK:List AV:=[.ptr 0 0 3 0 [],.ptr 1 0 3 0 [],.int .i64 0,.ptr 2 0 3 0 [],.ptr 3 0 3 0 []]
abbrev Bw (c:Cu) (t:Rat):aC:=[(3,tP t 2000),(2,⟨false,true,3,1,fun _=>bh c 2000 sE⟩),(1,ta),(0,ta)]
abbrev yU:List Nat:=[4,5,6,2,3,7,8,9]
abbrev EI (i:Nat):List AV:=[.ptr 0 0 3 0 [],.ptr 1 0 3 0 [],.int .i64 0,.ptr 2 0 3 0 [],.ptr 3 0 3 0 [],.ptr 4 0 3 0 [],.ptr 5 0 3 0 [],.int .i64 i]
abbrev qD (c:Cu) (t:Rat) (f g:Nat→Rat) (x y:Nat):aC:=[(6,qM 2000 x f),(7,qM 2000 y g),(5,⟨false,true,3,1,fun _=>.agg [.int .i64 c.p,.own 7 3 0 y,.nil]⟩),(4,⟨false,true,3,1,fun _=>.agg [.int .i64 c.p,.own 6 3 0 x,.nil]⟩),(3,tP t 2000),(2,⟨false,true,3,1,fun _=>bh c 2000 sE⟩),(1,ta),(0,ta)]
theorem U4 {c:Cu} {t:Rat}:aJ T s7 [16] 60 rY (before yD [1,1,0]) ⟨aN 0 [bh c 2000 2000,.rat t 2000],[],0⟩=
  let c13:AV:=rat t 2000;let c12:Rat:=aO (rat (c.k 0) 2000);let c11:Nat:=(aT (bh c 2000 2000)).size;let c10:Rat:=aO (rat (c.k (c.n-1)) 2000);let c8:AV:=ptr 8192 0 3 0 [];let c7:AV:=ptr 12288 0 3 0 [];let c6:Prop:=0<1;let c5:AV:=agg [int i64 (0:Int),nil,nil];let c9:ah:=ah.mk false true 3 1 fun x↦c5;let c4:Nat×ah:=((4096:Nat),ah.mk false true (aT c13).size 1 fun x↦c13);let c3:List AV:=[ptr 0 0 c11 0 [],ptr 4096 0 (aT c13).size 0 []];let c2:ah:=ah.mk false true 3 1 fun j↦if(j==0)=true then aT (agg c5.kids)else c5;let c1:Nat×ah:=((0:Nat),ah.mk false true c11 1 fun x↦agg [int i64 c.p,aj 3 c.n fun i↦rat (c.k i) 2000,aj 12 c.m fun i↦agg [agg [rat (c.f i).n.x 2000,rat (c.f i).n.y 2000,rat (c.f i).n.z 2000],rat (c.f i).d 2000]]);some (ag [c6,c6,bK (fun i↦rat (c.k i) 2000) c.n 2000,(2000:Nat)≤2000,(1:Nat)≤c.n,c.n<2^40] (fork (!(decide (c12<t)&&decide (t<c10))) (ag [c6,c6] (leaf ret (c8::c7::int i64 (7:Int)::c3,[c4,c1,((12288:Nat),c2),((8192:Nat),c2)]))) (leaf normal (c8::c7::int i64 (0:Int)::c3,[c4,c1,((12288:Nat),c9),((8192:Nat),c9)])))):=by kernel_rfl
theorem U5 {c:Cu} {t:Rat}:aJ T s7 [25] 60 rY [part yD [1,1,0,0,0]] ⟨aB rY CK,Bw c t,4⟩=
  let c6:Int:=(↑(aU (fun i↦aO (rat (c.k i) 2000)) t c.n):Int);let c5:Nat×ah:=((3:Nat),ah.mk false true 3 1 fun x↦rat t 2000);let c4:Cu:=Cu.mk c.p c.n (fun i↦aO (rat (c.k i) 2000)) c.m fun i↦fI (bI (c.f i) sE);let c3:Prop:=0<1;let c2:List AV:=[ptr 0 0 3 0 [],ptr 1 0 3 0 [],int i64 (0:Int),ptr 2 0 3 0 [],ptr 3 0 3 0 []];let c1:ah:=ah.mk false true 3 1 fun x↦agg [int i64 (0:Int),nil,nil];some (ag [c3,c3,bK (fun i↦rat (c.k i) 2000) c.n sK,(2000:Nat)≤sK,c.n<2^40,c3] (fork (decide (c6<c.p)) (ag [c3,c3,bK (fun i↦rat (c.k i) 2000) c.n 2000,fj (fun i↦bI (c.f i) sE) c.m 2000,(2000:Nat)≤2000,dU c4,aO (rat (c.k 0) 2000)<t,t<aO (rat (c.k (c.n-1)) 2000),∀(i:Nat),aO (rat (c.f i).d sE)≠0,c3] (leaf normal (c2,[c5,((2:Nat),ah.mk false true 3 1 fun j↦if(j==0)=true then aT (bh (kM c4 t (bz c.n (fun i↦aO (rat (c.k i) 2000)) t)) 2002 sE)else bh c 2000 sE),((1:Nat),c1),((0:Nat),c1)]))) (leaf (exit 0) (c2,[c5,((2:Nat),ah.mk false true 3 1 fun x↦agg [int i64 c.p,aj 3 c.n fun i↦rat (c.k i) 2000,aj 12 c.m fun i↦agg [agg [rat (c.f i).n.x 4294967298,rat (c.f i).n.y 4294967298,rat (c.f i).n.z 4294967298],rat (c.f i).d 4294967298]]),((1:Nat),c1),((0:Nat),c1)])))):=by kernel_rfl
theorem R7 {c:Cu} {t:Rat}:aJ T s7 [] 60 yU (before o4 [1,0,1]) ⟨aB rY CK,Bw c t,4⟩=
  let c5:AV:=int i64 (0:Int);let c2:Prop:=0<1;let c1:AV:=agg [c5,nil,nil];let c4:List AV:=c1.kids.set 0 (aT (int i64 c.p));let c3:ah:=ah.mk false true 3 1 fun x↦c1;some (ag [c2,c2,c2,(1:Nat)*3≤2^24,c2,c2] (leaf normal ([ptr 0 0 3 0 [],ptr 1 0 3 0 [],c5,ptr 2 0 3 0 [],ptr 3 0 3 0 [],ptr 32772 0 3 0 [],ptr 36868 0 3 0 [],c5],[((24580:Nat),ah.mk true true 3 1 fun i↦nth [rat t 2000] (rat 0 1) i),((36868:Nat),ah.mk false true 3 1 fun j↦if(j==0)=true then aT (agg (c4.set 1 (aT (own (nat_lit 24579+1) 3 0 1))))else c1),((32772:Nat),ah.mk false true 3 1 fun j↦if(j==0)=true then aT (agg c4)else c1),((3:Nat),ah.mk false true 3 1 fun x↦rat t 2000),((2:Nat),ah.mk false true 3 1 fun x↦agg [int i64 c.p,aj 3 c.n fun i↦rat (c.k i) 2000,aj 12 c.m fun i↦agg [agg [rat (c.f i).n.x 4294967298,rat (c.f i).n.y 4294967298,rat (c.f i).n.z 4294967298],rat (c.f i).d 4294967298]]),((1:Nat),c3),((0:Nat),c3)]))):=by kernel_rfl
theorem Xh {c:Cu} {t:Rat} {f g:Nat→Rat} {x y i:Nat}:aJ T s7 [41,52,64] 60 yU [part o4 [1,0,1,0,0]] ⟨aB yU (EI i),qD c t f g x y,8⟩=
  let c32:AV:=rat 0 1;let c30:AV:=int i64 (0:Int);let c29:Nat:=y+1;let c27:Prop:=2000<2^41;let c26:Prop:=1*3≤2^24;let c25:AV:=ptr 2 0 3 0 [];let c24:AV:=ptr 3 0 3 0 [];let c23:AV:=ptr 1 0 3 0 [];let c22:AV:=ptr 0 0 3 0 [];let c21:AV:=ptr 5 0 3 0 [];let c20:AV:=ptr 4 0 3 0 [];let c16:Nat×ah:=((7:Nat),ah.mk true true 3 y fun i↦rat (g i) 2000);let c15:Nat×ah:=((6:Nat),ah.mk true true 3 x fun i↦rat (f i) 2000);let c12:Int:=(↑i:Int);let c11:Prop:=0<1;let c10:AV:=agg [int i64 c.p,own 6 3 0 x,nil];let c6:AV:=agg [int i64 c.p,own 7 3 0 y,nil];let c31:Int:=c12+(1:Int);let c28:AV:=rat (c.k c12.toNat) 2000;let c19:Nat×ah:=((5:Nat),ah.mk false true 3 1 fun x↦c6);let c18:Nat×ah:=((4:Nat),ah.mk false true 3 1 fun x↦c10);let c17:Prop:=(0:Int)≤c12∧c12.toNat<c.n;let c14:ah:=ah.mk false true 3 1 fun x↦agg [c30,nil,nil];let c13:Int:=dc (c.k c12.toNat) t;let c9:ah:=ah.mk true true 3 c29 fun i↦if i<y then rat (g i) 2000 else nth [c28] c32 (i-y+0);let c8:Nat×ah:=((94216:Nat),ah.mk true true 3 (x+1) fun i↦if i<x then rat (f i) 2000 else nth [c28] c32 (i-x+0));let c7:List Prop:=[c11,c11,c17,c26,c29*((56:Nat)+1)*2≤2^47,c11];let c5:List Prop:=[-(2:Int)^63≤c31∧c31<(2:Int)^63];let c2:List AV:=[c22,c23,c30,c25,c24,c20,c21,int i64 c31];let c1:List (Nat×ah):=[((3:Nat),ah.mk false true 3 1 fun x↦rat t 2000),((2:Nat),ah.mk false true 3 1 fun x↦agg [int i64 c.p,aj 3 c.n fun i↦rat (c.k i) 2000,aj 12 c.m fun i↦agg [agg [rat (c.f i).n.x 4294967298,rat (c.f i).n.y 4294967298,rat (c.f i).n.z 4294967298],rat (c.f i).d 4294967298]]),((1:Nat),c14),((0:Nat),c14)];let c4:List (Nat×ah):=((4:Nat),ah.mk false true 3 1 fun j↦if(j==0)=true then agg (c10.kids.set 1 (aT (own (nat_lit 94215+1) 3 0 (x+1))))else c10)::c1;let c3:List (Nat×ah):=c16::c15::c19::c18::c1;some (ag [c11] (fork (decide (c12<(↑c.n:Int))) (ag [c11,c17,c11,c27,c27] (fork (decide (c13≤(0:Int))) (ag [c11,c11,c17,c26,(x+1)*((56:Nat)+1)*2≤2^47,c11] (fork (decide (c13≥(0:Int))) (ag c7 (ag c5 (leaf normal (c2,((147464:Nat),c9)::c8::((5:Nat),ah.mk false true 3 1 fun j↦if(j==0)=true then agg (c6.kids.set 1 (aT (own (nat_lit 147463+1) 3 0 c29)))else c6)::c4)))) (ag c5 (leaf normal (c2,c16::c8::c19::c4))))) (fork (decide (c13≥(0:Int))) (ag c7 (ag c5 (leaf normal (c2,((102408:Nat),c9)::c15::((5:Nat),ah.mk false true 3 1 fun j↦if(j==0)=true then agg (c6.kids.set 1 (aT (own (nat_lit 102407+1) 3 0 c29)))else c6)::c18::c1)))) (ag c5 (leaf normal (c2,c3)))))) (leaf (exit 2) ([c22,c23,c30,c25,c24,c20,c21,int i64 c12],c3)))):=by kernel_rfl
theorem aib {c:Cu} {t:Rat} {f g:Nat→Rat} {x y i:Nat}:bY T s7 [] 60 lZ [part o4 [1,1]] ⟨aB yU (EI i),qD c t f g x y,8⟩=
  let c9:AV:=rat 0 1;let c8:Nat:=2^47;let c7:Nat:=x+1;let c5:Int:=(↑c.m:Int);let c4:Nat:=Int.toNat (0:Int);let c2:Prop:=0<1;let c1:Int:=(↑c7:Int)-c.p-(1:Int);let c6:Int:=c1-(1:Int);let c3:Nat:=c6.toNat;some (ag [c2,c2,(1:Nat)*3≤2^24,c7*((56:Nat)+1)*2≤c8,c2] (ag [c2,c2,bK (fun i↦if i+0<x then rat (f (i+0)) 2000 else nth [rat t 2000] c9 (i+0-x+0)) c7 sK,c7<2^40,-(2:Int)^40<c.p,c.p<(2:Int)^40] (ag [c2,c2,(0:Int)≤(0:Int)∧(0:Int)≤c1∧c1≤c1∧c1≤c5,(0:Nat)<c1.toNat-c4∧(c1.toNat-c4)*((224:Nat)+1)*2≤c8,c2] (ag [c2,c2,-(2:Int)^63≤c6∧c6<(2:Int)^63,(0:Int)≤c6∧c6≤c5∧c5≤c5∧c5≤c5,(0:Nat)<c5.toNat-c3∧(c5.toNat-c3)*((224:Nat)+1)*2≤c8,c2] (ag [c2,c2,c2,c2] (ag [c2,c2] (leaf ret [agg [int i64 c.p,aj 3 c7 fun i↦if i+0<x then rat (f (i+0)) 2000 else nth [rat t 2000] c9 (i+0-x+0),aj 12 (c1.toNat-c4) fun i↦agg [agg [rat (c.f (i+0+c4)).n.x 4294967298,rat (c.f (i+0+c4)).n.y 4294967298,rat (c.f (i+0+c4)).n.z 4294967298],rat (c.f (i+0+c4)).d 4294967298]],agg [int i64 c.p,aj 3 y fun i↦rat (g (i+0)) 2000,aj 12 (c5.toNat-c3) fun i↦agg [agg [rat (c.f (i+0+c3)).n.x 4294967298,rat (c.f (i+0+c3)).n.y 4294967298,rat (c.f (i+0+c3)).n.z 4294967298],rat (c.f (i+0+c3)).d 4294967298]],int i64 (0:Int)]))))))):=by kernel_rfl
theorem aai {c:Cu} {t:Rat}:ji T lZ .ret ⟨aB [4,5,6,2,3] [.ptr 8192 0 3 0 [],.ptr 12288 0 3 0 [],.int .i64 7,.ptr 0 0 3 0 [],.ptr 4096 0 3 0 []],[(4096,tP t 2000),(0,⟨false,true,3,1,fun _=>bh c 2000 2000⟩),(12288,⟨false,true,3,1,fun j=>if(j==0)=true then aT (.agg (AV.kids (.agg [.int .i64 0,.nil,.nil])))else .agg [.int .i64 0,.nil,.nil]⟩),(8192,⟨false,true,3,1,fun j=>if(j==0)=true then aT (.agg (AV.kids (.agg [.int .i64 0,.nil,.nil])))else .agg [.int .i64 0,.nil,.nil]⟩)],12289⟩=
  let c1:AV:=agg [int i64 (0:Int),nil,nil];some (ag [(0:Nat)<1,(0:Nat)<1] (leaf ret [c1,c1,int i64 (7:Int)])):=by kernel_rfl
theorem FG:aW P s7:=cL (aH LB (aH Gu (aH MV (aH ahc qJ))))
theorem Ib {k:Nat→Rat} {t:Rat} {q:Nat}:∀{m:Nat},aU (cK k t q) t (q+1+m)=aU k t (q+m)+1
 |0=>by
  have pre:∀i,i≤q→aU (cK k t q) t i=aU k t i:=fun i=>by
   induction i with
   |zero=>intro _;rfl
   |succ i ih=>intro h;rw[pB,pB,ih (by omega),gP (by omega)]
  show aU (cK k t q) t (q+1)=aU k t q+1
  rw[pB,pre q (Nat.le_refl _),nQ,if_pos rfl]
 |m+1=>by
  rw[←Nat.add_assoc,pB,Ib (m:=m),gW (by omega),←Nat.add_assoc,pB,show q+1+m-1=q+m by omega];omega
theorem Kn.Bc {n p:Nat} {k:Nat→Rat} {t:Rat} (h:Kn n p k) (h0:k 0<t) (h1:t<k (n-1)):aU k t n≤p:=by
 obtain⟨a1,a2,a3⟩:=lK h h0 h1
 obtain⟨g1,g2⟩:=h.k9 h0 h1 a1 a2 a3
 have hp:=h.p1
 generalize bz n k t=a at*
 have:=Fa (k:=k) (t:=t) (lo:=a+1-p) (hi:=a+1) (by omega) (n:=n) fun j hj hjt=>by
  constructor
  ·by_cases c:a+1-p≤j
   ·exact c
   ·exfalso
    have hj0:1≤j:=by
     by_cases c2:1≤j
     ·exact c2
     ·rw[show j=0 by omega]at hjt;rw[hjt]at h0;exact absurd h0 Rat.lt_irrefl
    have m:=h.mult j hj0 (by omega)
    have m2:=h.mono (show j+p≤a by omega) (by omega)
    grind
  ·by_cases c:j<a+1
   ·exact c
   ·have:=h.mono (show a+1≤j by omega) hj
    grind
 omega
abbrev bH (c:Cu) (t:Rat):Nat→Cu:=gB c fun _=>t
structure iY (c:Cu) (t:Rat) (r:Nat):Prop where
 e:eL c (fun _=>t) r=0
 p:(bH c t r).p=c.p
 n:(bH c t r).n=c.n+r
 m:(bH c t r).m=c.m+r
 s:aU (bH c t r).k t (bH c t r).n=aU c.k t c.n+r
 k0:(bH c t r).k 0=c.k 0
 k1:(bH c t r).k ((bH c t r).n-1)=c.k (c.n-1)
theorem TY {c:Cu} {t:Rat} (h0:c.k 0<t) (h1:t<c.k (c.n-1)) (h2:(aU c.k t c.n:Int)<c.p) (h3:c.m<40):cw c t=0:=by
 unfold cw;rw[if_neg (fun g=>g ⟨h0,h1⟩),if_neg (by omega),if_neg (by omega)]
theorem ahe {d:Cu} {t:Rat} (hd:dU d) (hE:cw d t=0):(dJ d t).p=d.p∧(dJ d t).n=d.n+1∧(dJ d t).m=d.m+1∧aU (dJ d t).k t (dJ d t).n=aU d.k t d.n+1∧(dJ d t).k 0=d.k 0∧(dJ d t).k ((dJ d t).n-1)=d.k (d.n-1):=by
 obtain⟨b1,b2,b3,b4⟩:=Ev hE
 obtain⟨i1,i2,i3⟩:=lK hd.1 b1 b2
 rw[show dJ d t=kM d t (bz d.n d.k t)from if_pos hE]
 generalize bz d.n d.k t=a at*
 have:=Ib (k:=d.k) (t:=t) (q:=a+1) (m:=d.n-(a+1))
 rw[show a+1+1+(d.n-(a+1))=d.n+1 by omega,show a+1+(d.n-(a+1))=d.n by omega]at this
 refine⟨rfl,rfl,rfl,this,(show cK d.k t (a+1) 0=_ from gP (by omega)),?_⟩
 show cK d.k t (a+1) (d.n+1-1)=_
 rw[gW (by omega)];rfl
theorem iY.go {c:Cu} {t:Rat} {r:Nat} (h:iY c t r) (hc:dG c 5) (ht:cO t) (h0:c.k 0<t) (h1:t<c.k (c.n-1)) (h2:((aU c.k t c.n+r:Nat):Int)<c.p) (h3:c.m+r<40):cw (bH c t r) t=0∧iY c t (r+1):=by
 obtain⟨a1,a2,a3,a4,a5,a6,a7⟩:=h
 have hE:cw (bH c t r) t=0:=TY (by rw[a6];exact h0) (by rw[a7];exact h1) (by rw[a5,a2];exact h2) (by rw[a4];exact h3)
 have hd:=lQ hc (fun _=>ht) a1
 obtain⟨b1,b2,b3,b4,b5,b6⟩:=ahe hd.kn hE
 exact⟨hE,Ie a1 hE,b1.trans a2,by rw[show(bH c t (r+1)).n=(bH c t r).n+1 from b2,a3];rfl,by rw[show(bH c t (r+1)).m=(bH c t r).m+1 from b3,a4];rfl,b4.trans (by rw[a5];rfl),b5.trans a6,b6.trans a7⟩
theorem iY.all {c:Cu} {t:Rat} (hc:dG c 5) (ht:cO t) (h0:c.k 0<t) (h1:t<c.k (c.n-1)) (h40:c.m+c.p.toNat≤40):∀{r:Nat},((aU c.k t c.n+r:Nat):Int)≤c.p→iY c t r
 |0,_=>⟨rfl,rfl,rfl,rfl,rfl,rfl,rfl⟩
 |r+1,h=>((iY.all hc ht h0 h1 h40 (r:=r) (by omega)).go hc ht h0 h1 (by omega) (by omega)).2
def s8 (d:Cu) (t:Rat) (a:Nat):Cu:=⟨d.p,a+1+1,fun i=>if i<a+1 then d.k i else t,a+1-d.p.toNat,d.f⟩
def uh (d:Cu) (t:Rat) (a:Nat):Cu:=⟨d.p,1+(d.n-(a+1-d.p.toNat)),fun i=>if i<1 then t else d.k (a+1-d.p.toNat+(i-1)),d.m-(a-d.p.toNat),fun i=>d.f (a-d.p.toNat+i)⟩
def bM (c:Cu) (t:Rat):Cu:=bH c t (c.p.toNat-aU c.k t c.n)
def iU (c:Cu) (t:Rat):Cu:=if c.k 0<t∧t<c.k (c.n-1)then s8 (bM c t) t (bz (bM c t).n (bM c t).k t)else gM
def iT (c:Cu) (t:Rat):Cu:=if c.k 0<t∧t<c.k (c.n-1)then uh (bM c t) t (bz (bM c t).n (bM c t).k t)else gM
def lN (c:Cu) (t:Rat):Int:=if c.k 0<t∧t<c.k (c.n-1)then 0 else 7
def j5 (a i:Nat):Nat:=if i≤a then i else a
theorem Zn {d:Cu} {t:Rat} {a:Nat} {cx:Ctx} {Q:ak→aI→Prop} (hk:Kept [] cx) (hd:Kn d.n d.p.toNat d.k) (hp1:1≤d.p) (hp6:d.p≤6) (hm2:(d.m:Int)=(d.n:Int)-d.p-1) (hn:d.n<2^20) (h0:d.k 0<t) (h1:t<d.k (d.n-1)) (hlo:d.k a≤t) (hhi:t<d.k (a+1)) (ha:a+1<d.n) (ht:aU d.k t d.n=d.p.toNat)
  (hQ:∀e s',de cx (Fin T lZ (.tuple [bh (s8 d t a) 2000 sE,bh (uh d t a) 2000 sE,.int .i64 0])) e s'→Q e s'):aq P cx lZ.ntmps o4 ⟨aB rY CK,Bw d t,4⟩ Q:=by
 obtain⟨r1,r2,r3⟩:=hd.split h0 h1 hlo hhi ha ht
 obtain⟨g1,g2⟩:=hd.k9 h0 h1 hlo hhi ha
 have hv:∀{rl:List (Nat×Nat)} {k x y y':Nat},aV rl k=some x→y=y'→fz rl (.agg [.int .i64 d.p,.own x 3 0 y,.nil]) (.agg [.int .i64 d.p,.own k 3 0 y',.nil]):=fun h e=>kP ⟨⟨rfl,aK rfl⟩,⟨rfl,cV h rfl e⟩,⟨rfl,aK rfl⟩,trivial⟩
 have ka:∀i,i<d.n→(dc (d.k i) t≤0↔i≤a):=fun i hi=>by
  rw[Ju]
  constructor
  ·intro h
   by_cases c1:i≤a
   ·exact c1
   ·have:=hd.mono (show a+1≤i by omega) hi
    grind
  ·intro h
   have:=hd.mono h (by omega)
   grind
 have kb:∀i,i<d.n→(dc (d.k i) t≥0↔a+1-d.p.toNat≤i):=fun i hi=>by
  rw[w7]
  constructor
  ·intro h
   by_cases c1:a+1-d.p.toNat≤i
   ·exact c1
   ·have:=r2 i (by omega)
    grind
  ·intro h
   by_cases c1:i≤a
   ·rw[r1 i c1 (by omega)];exact Rat.le_refl
   ·have:=hd.mono (show a+1≤i by omega) hi
    grind
 refine aq.jE hT FG hm (x:=o4) [1,0,1] (i:=2) (y:=part o4 [1,0,1,0,0]) (z:=part o4 [1,1]) (by kernel_rfl) (by kernel_rfl) (by kernel_rfl) (by kernel_rfl) hk (f1:=[]) (f2:=[41,52,64]) 60 yU 8
  (fun i:Nat=>EI i) (fun i=>qD d t d.k (fun q=>if q<1 then t else d.k (a+1-d.p.toNat+(q-1))) (j5 (a+1) i) (1+(i-(a+1-d.p.toNat)))) (fun i=>i≤d.n) (fun i=>i=d.n) (fun i=>d.n-i) (fun _=>False) ⟨_,R7,?_⟩ (fun i hi=>⟨_,Xh,?_⟩) (fun i hi=>?_) (fun _ _ h=>h.elim)
 ·simp only[aa.all,ax]
  refine⟨by omega,0,Nat.zero_le _,[(0,0),(1,1),(2,2),(3,3),(4,32772),(5,36868),(7,24580)],rfl,rfl,rfl,?_⟩
  show jm _ _ _ (qD d t d.k (fun q=>if q<1 then t else d.k (a+1-d.p.toNat+(q-1))) 0 (1+(0-(a+1-d.p.toNat))))
  rw[show 1+(0-(a+1-d.p.toNat))=1 by omega]
  refine nT rfl (by omega) (by omega) (bB rfl rfl rfl (fun q hq=>?_) (aF rfl rfl (hv rfl rfl) (aF rfl rfl (kP ⟨⟨rfl,aK rfl⟩,⟨rfl,oW (by omega)⟩,⟨rfl,aK rfl⟩,trivial⟩) (aF rfl rfl (aE rfl rfl) (aF rfl rfl (aE rfl rfl) (aF rfl rfl (aE rfl rfl) (aF rfl rfl (aE rfl rfl) trivial)))))))
  exact RU (y:=fun q=>if q<1 then t else d.k (a+1-d.p.toNat+(q-1))) rfl (Nat.le_refl _) hq
 ·have cA:j5 (a+1) i≤a+1:=by unfold j5;split<;>omega
  have hA1:i≤a→j5 (a+1) i=i∧j5 (a+1) (i+1)=i+1:=fun h=>⟨if_pos (by omega),if_pos (by omega)⟩
  have hA2:a<i→j5 (a+1) i=a+1∧j5 (a+1) (i+1)=a+1:=fun h=>by
   refine⟨?_,if_neg (by omega)⟩
   unfold j5;split<;>omega
  simp only[aa.all,ax,decide_eq_true_eq,decide_eq_false_iff_not,Int.toNat_natCast]
  refine⟨by omega,fun h1=>⟨by omega,fun g1=>⟨by omega,fun g2=>⟨by omega,by omega,i+1,by omega,by dsimp only;omega,[(0,0),(1,1),(2,2),(3,3),(4,4),(5,5),(6,94216),(7,147464)],rfl,rfl,rfl,?_⟩,fun g2=>⟨by omega,i+1,by omega,by dsimp only;omega,[(0,0),(1,1),(2,2),(3,3),(4,4),(5,5),(6,94216),(7,7)],rfl,rfl,rfl,?_⟩⟩,
   fun g1=>⟨fun g2=>⟨by omega,by omega,i+1,by omega,by dsimp only;omega,[(0,0),(1,1),(2,2),(3,3),(4,4),(5,5),(6,6),(7,102408)],rfl,rfl,rfl,?_⟩,fun g2=>?_⟩⟩,fun h1=>⟨rfl,i,by omega,[(0,0),(1,1),(2,2),(3,3),(4,4),(5,5),(6,6),(7,7)],rfl,rfl,rfl,?_⟩⟩
  ·have g1:=(ka i (by omega)).1 g1
   have g2:=(kb i (by omega)).1 g2
   obtain⟨e1,e2⟩:=hA1 g1
   show jm 8 _ _ (qD d t d.k (fun q=>if q<1 then t else d.k (a+1-d.p.toNat+(q-1))) (j5 (a+1) (i+1)) (1+(i+1-(a+1-d.p.toNat))))
   rw[e1,e2,show 1+(i+1-(a+1-d.p.toNat))=1+(i-(a+1-d.p.toNat))+1 by omega]
   exact bB rfl rfl rfl (fun q hq=>jL (y:=d.k) (fun _ _=>rfl) rfl (Nat.le_refl _) (Nat.le_refl _) hq) (bB rfl rfl rfl (fun q hq=>jL (y:=fun q=>if q<1 then t else d.k (a+1-d.p.toNat+(q-1))) (fun _ _=>rfl) (by rw[if_neg (by omega)];congr 1;omega) (Nat.le_refl _) (Nat.le_refl _) hq) (aF rfl rfl (hv rfl rfl) (aF rfl rfl (hv rfl rfl) (aF rfl rfl (aE rfl rfl) (aF rfl rfl (aE rfl rfl) (aF rfl rfl (aE rfl rfl) (aF rfl rfl (aE rfl rfl) trivial)))))))
  ·have g1:=(ka i (by omega)).1 g1
   have g2:¬(a+1-d.p.toNat≤i):=fun h=>g2 ((kb i (by omega)).2 h)
   obtain⟨e1,e2⟩:=hA1 g1
   show jm 8 _ _ (qD d t d.k (fun q=>if q<1 then t else d.k (a+1-d.p.toNat+(q-1))) (j5 (a+1) (i+1)) (1+(i+1-(a+1-d.p.toNat))))
   rw[e1,e2,show 1+(i+1-(a+1-d.p.toNat))=1+(i-(a+1-d.p.toNat)) by omega]
   exact bB rfl rfl rfl (fun q hq=>jL (y:=d.k) (fun _ _=>rfl) rfl (Nat.le_refl _) (Nat.le_refl _) hq) (bB rfl rfl rfl (fun _ _=>aE rfl rfl) (aF rfl rfl (hv rfl rfl) (aF rfl rfl (hv rfl rfl) (aF rfl rfl (aE rfl rfl) (aF rfl rfl (aE rfl rfl) (aF rfl rfl (aE rfl rfl) (aF rfl rfl (aE rfl rfl) trivial)))))))
  ·have g1:a<i:=Nat.not_le.1 fun h=>g1 ((ka i (by omega)).2 h)
   obtain⟨e1,e2⟩:=hA2 g1
   show jm 8 _ _ (qD d t d.k (fun q=>if q<1 then t else d.k (a+1-d.p.toNat+(q-1))) (j5 (a+1) (i+1)) (1+(i+1-(a+1-d.p.toNat))))
   rw[e1,e2,show 1+(i+1-(a+1-d.p.toNat))=1+(i-(a+1-d.p.toNat))+1 by omega]
   exact bB rfl rfl rfl (fun _ _=>aE rfl rfl) (bB rfl rfl rfl (fun q hq=>jL (y:=fun q=>if q<1 then t else d.k (a+1-d.p.toNat+(q-1))) (fun _ _=>rfl) (by rw[if_neg (by omega)];congr 1;omega) (Nat.le_refl _) (Nat.le_refl _) hq) (aF rfl rfl (hv rfl rfl) (aF rfl rfl (hv rfl rfl) (aF rfl rfl (aE rfl rfl) (aF rfl rfl (aE rfl rfl) (aF rfl rfl (aE rfl rfl) (aF rfl rfl (aE rfl rfl) trivial)))))))
  ·have g1:a<i:=Nat.not_le.1 fun h=>g1 ((ka i (by omega)).2 h)
   exact absurd ((kb i (by omega)).2 (by omega)) g2
  ·exact bB rfl rfl rfl (fun _ _=>aE rfl rfl) (bB rfl rfl rfl (fun _ _=>aE rfl rfl) (aF rfl rfl (hv rfl rfl) (aF rfl rfl (hv rfl rfl) (aF rfl rfl (aE rfl rfl) (aF rfl rfl (aE rfl rfl) (aF rfl rfl (aE rfl rfl) (aF rfl rfl (aE rfl rfl) trivial)))))))
 ·subst hi
  rw[show j5 (a+1) d.n=a+1 from if_neg (by omega)]
  refine aq.jK ((aD.fin hT FG hm 60 aib (by kernel_rfl) ?_).mono fun _ _ h=>hQ _ _ (.inl h))
  have e1:((a+1+1:Nat):Int)-d.p-1=((a+1-d.p.toNat:Nat):Int):=by omega
  have e2:((a+1-d.p.toNat:Nat):Int)-1=((a-d.p.toNat:Nat):Int):=by omega
  simp only[aa.all,ax,e1,e2,Int.toNat_natCast,Int.toNat_zero]
  have row:∀i,i<a+1+1→bw (if i+0<a+1 then AV.rat (d.k (i+0)) 2000 else nth [AV.rat t 2000] (.rat 0 1) (i+0-(a+1)+0)) (.rat (if i<a+1 then d.k i else t) 2000):=fun i hi=>by
   by_cases c1:i<a+1
   ·rw[if_pos (show i+0<a+1 from c1),if_pos c1];exact .refl _
   ·rw[if_neg (show¬i+0<a+1 from c1),if_neg c1,show i+0-(a+1)+0=0 by omega];exact .refl _
  have hL:0<a+1-d.p.toNat:=by omega
  (repeat' with_reducible refine And.intro ?_ ?_)
  all_goals first|omega|skip
  ·intro i hi
   have h:=row i hi
   by_cases c1:i<a+1
   ·show bw (if i+0<a+1 then AV.rat (d.k (i+0)) 2000 else _) (.rat (aO (if i+0<a+1 then AV.rat (d.k (i+0)) 2000 else _)) sK)
    rw[if_pos (show i+0<a+1 from c1)];exact bG rfl (by decide)
   ·show bw (if i+0<a+1 then AV.rat (d.k (i+0)) 2000 else nth [AV.rat t 2000] (.rat 0 1) (i+0-(a+1)+0)) (.rat (aO (if i+0<a+1 then AV.rat (d.k (i+0)) 2000 else nth [AV.rat t 2000] (.rat 0 1) (i+0-(a+1)+0))) sK)
    rw[if_neg (show¬i+0<a+1 from c1),show i+0-(a+1)+0=0 by omega];exact bG rfl (by decide)
  ·exact⟨cB ⟨.refl _,fT row,.refl _,trivial⟩,cB ⟨.refl _,.refl _,lH rfl fun i _=>by show bI (d.f (i+0+(a-d.p.toNat))) _=bI (d.f (a-d.p.toNat+i)) _;rw[Nat.add_zero,Nat.add_comm],trivial⟩,.refl _,trivial⟩
theorem T5 {c:Cu} {t:Rat} (hc:dG c 5) (ht:cO t) (h40:c.m+c.p.toNat≤40) (hp5:c.p≤5) (K:Nat):aA P vQ K [bh c 2000 2000,.rat t 2000] [] (aG (.tuple [bh (iU c t) 2000 sE,bh (iT c t) 2000 sE,.int .i64 (lN c t)]) []):=by
 refine gk (r:=aG (.tuple [bh (iU c t) 2000 sE,bh (iT c t) 2000 sE,.int .i64 (lN c t)]) []) hT M6 rfl (of_decide_eq_true (by kernel_rfl)) rfl (fun _ cx h00=>?_) K []
 have hk:=nP h00
 obtain⟨k1,k2,k3,k4,k5⟩:=id hc.kn
 have hl:=k1.len
 refine aq.jE hT FG hm (x:=yD) [1,1,0] (i:=0) (y:=part yD [1,1,0,0,0]) (z:=o4) (by kernel_rfl) (by kernel_rfl) (by kernel_rfl) M6.dst hk (f1:=[16]) (f2:=[25]) 60 rY 4
  (fun _:Nat=>CK) (fun r=>Bw (bH c t r) t) (fun r=>((aU c.k t c.n+r:Nat):Int)≤c.p∧c.k 0<t∧t<c.k (c.n-1)) (fun r=>((aU c.k t c.n+r:Nat):Int)=c.p∧c.k 0<t∧t<c.k (c.n-1)) (fun r=>c.p.toNat-aU c.k t c.n-r)
  (q9 T lZ [4,5,6,2,3] (.tuple [bh (iU c t) 2000 sE,bh (iT c t) 2000 sE,.int .i64 (lN c t)])) ⟨_,U4,?_⟩ (fun r hr=>⟨_,U5,?_⟩) (fun r hr=>?_) (fun v s' hv hs'=>hv.fin (L1:=[]) hk hs')
 ·simp only[aa.all,ax,Bool.not_eq_true',Bool.not_eq_false',Bool.and_eq_true,Bool.and_eq_false_iff,decide_eq_true_eq,decide_eq_false_iff_not]
  rw[O5 c 2000 2000]
  refine⟨⟨by omega,by omega,ct (Nat.le_refl _),by omega,by omega,by omega⟩,fun ho=>⟨by omega,?_⟩,fun hi=>⟨0,⟨?_,hi⟩,[(0,8192),(1,12288),(2,0),(3,4096)],rfl,rfl,rfl,aF rfl rfl (aE rfl rfl) (aF rfl rfl (.inr ⟨rfl,rP hc (by decide)⟩) (aF rfl rfl (aE rfl rfl) (aF rfl rfl (aE rfl rfl) trivial)))⟩⟩
  ·have hno:¬(c.k 0<t∧t<c.k (c.n-1)):=fun h=>ho.elim (fun g=>g h.1) fun g=>g h.2
   have r1:iU c t=gM:=if_neg hno
   have r2:iT c t=gM:=if_neg hno
   have r3:lN c t=7:=if_neg hno
   have hR:q9 T lZ [4,5,6,2,3] (.tuple [bh gM 2000 sE,bh gM 2000 sE,.int .i64 7]) ([.ptr 8192 0 3 0 [],.ptr 12288 0 3 0 [],.int .i64 7,.ptr 0 0 3 0 [],.ptr 4096 0 3 0 []],[(4096,tP t 2000),(0,⟨false,true,3,1,fun _=>bh c 2000 2000⟩),(12288,⟨false,true,3,1,fun j=>if(j==0)=true then aT (.agg (AV.kids (.agg [.int .i64 0,.nil,.nil])))else .agg [.int .i64 0,.nil,.nil]⟩),(8192,⟨false,true,3,1,fun j=>if(j==0)=true then aT (.agg (AV.kids (.agg [.int .i64 0,.nil,.nil])))else .agg [.int .i64 0,.nil,.nil]⟩)]):=
    ⟨[_,_,_,_,_],[],12289,_,rfl,rfl,rfl,aai,rfl,⟨⟨by omega,fun i _=>rfl⟩,⟨by omega,fun i _=>rfl⟩,⟨by omega,fun i _=>oD rfl rfl⟩,⟨by omega,fun i _=>oD rfl rfl⟩,trivial⟩,⟨Nat.zero_lt_one,Nat.zero_lt_one⟩,mQ,mQ,.refl _,trivial⟩
   rw[r1,r2,r3]
   exact hR
  ·have:=k1.Bc hi.1 hi.2
   omega
 ·obtain⟨i1,i2,i3⟩:=hr
  have hs:=iY.all hc ht i2 i3 h40 i1
  have hd:=lQ hc (fun _=>ht) hs.e
  have e1:(aU (fun i=>aO (rat ((bH c t r).k i) 2000)) t (bH c t r).n:Int)=((aU c.k t c.n+r:Nat):Int):=by
   show((aU (bH c t r).k t (bH c t r).n:Nat):Int)=_
   rw[hs.s]
  simp only[aa.all,ax,decide_eq_true_eq,decide_eq_false_iff_not]
  refine⟨⟨by omega,by omega,fun i _=>ew rfl ((hd.kd i).sz.more (by decide)),by decide,by rw[hs.n];omega,by omega⟩,fun h1=>?_,fun h1=>⟨rfl,r,⟨?_,i2,i3⟩,[(0,0),(1,1),(2,2),(3,3)],rfl,rfl,rfl,aF rfl rfl (aE rfl rfl) (aF rfl rfl (aE rfl rfl) (aF rfl rfl (aE rfl rfl) (aF rfl rfl (aE rfl rfl) trivial)))⟩⟩
  ·rw[e1,hs.p]at h1
   obtain⟨hE,hs2⟩:=hs.go hc ht i2 i3 h1 (by omega)
   have hd2:=lQ hc (fun _=>ht) hs2.e
   refine⟨⟨by omega,by omega,hd.Ij,hd.Gi (Gf (by omega)),by omega,hd.kn,by show(bH c t r).k 0<t;rw[hs.k0];exact i2,by show t<(bH c t r).k ((bH c t r).n-1);rw[hs.k1];exact i3,fun i=>pK (hd.pos i),by omega⟩,r+1,⟨by omega,i2,i3⟩,by dsimp only;omega,[(0,0),(1,1),(2,2),(3,3)],rfl,rfl,rfl,aF rfl rfl (aE rfl rfl) (aF rfl rfl (.inr ⟨rfl,?_⟩) (aF rfl rfl (aE rfl rfl) (aF rfl rfl (aE rfl rfl) trivial)))⟩
   have e2:bH c t (r+1)=kM (bH c t r) t (bz (bH c t r).n (bH c t r).k t):=if_pos hE
   have:=rP (x:=2002) (y:=sE) hd2 (Nat.le_refl _)
   show bw (bh (kM (bH c t r) t (bz (bH c t r).n (bH c t r).k t)) 2002 sE) (bh (bH c t (r+1)) 2000 sE)
   rw[←e2]
   exact this
  ·rw[e1,hs.p]at h1
   omega
 ·obtain⟨i1,i2,i3⟩:=hr
  have hs:=iY.all (r:=r) hc ht i2 i3 h40 (by omega)
  have hd:=lQ hc (fun _=>ht) hs.e
  have e0:bM c t=bH c t r:=by unfold bM;rw[show c.p.toNat-aU c.k t c.n=r by omega]
  obtain⟨a1,a2,a3⟩:=lK hd.kn.1 (by rw[hs.k0];exact i2) (by rw[hs.k1];exact i3)
  refine Zn (a:=bz (bH c t r).n (bH c t r).k t) hk hd.kn.1 (by rw[hs.p];exact k2) (by rw[hs.p];exact k3) hd.kn.2.2.2.2 (by rw[hs.n];omega) (by rw[hs.k0];exact i2) (by rw[hs.k1];exact i3) a1 a2 a3 (by rw[hs.s,hs.p];omega) fun e s' h=>?_
  have r1:iU c t=s8 (bH c t r) t (bz (bH c t r).n (bH c t r).k t):=by rw[←e0];exact if_pos ⟨i2,i3⟩
  have r2:iT c t=uh (bH c t r) t (bz (bH c t r).n (bH c t r).k t):=by rw[←e0];exact if_pos ⟨i2,i3⟩
  have r3:lN c t=0:=if_pos ⟨i2,i3⟩
  rw[r1,r2,r3]
  exact h
def Eg:Spec:=cD (kC (ij 2000 2000) (kC (fq 2000) kN)) (fun a=>.tuple [bh (iU a.1 a.2.1) 2000 sE,bh (iT a.1 a.2.1) 2000 sE,.int .i64 (lN a.1 a.2.1)]) fun a=>[dG a.1 5,cO a.2.1,a.1.m+a.1.p.toNat≤40,a.1.p≤5]
theorem YQ:∀K args pre q,Eg K args pre=some q→aA P vQ K args pre q:=cj fun⟨c,t,_⟩ K hn=>T5 hn.1 hn.2.1 hn.2.2.1 hn.2.2.2 K
end Go.Am.B

/- slices.IndexFunc of numbers by the closures of Spline.Cut. -/
namespace Go.Am.B
open Go Go.Am.N AV aa ak IntKind
theorem XN:aP P oF zH (au zH):=aQ adY (by kernel_rfl) (by kernel_rfl) (by kernel_rfl)
theorem afQ:aP P od A5 (au A5):=aQ ajd (by kernel_rfl) (by kernel_rfl) (by kernel_rfl)
theorem M8:aP P mq m7 (au m7):=aQ Jh (by kernel_rfl) (by kernel_rfl) (by kernel_rfl)
theorem OS {u v:AV} (h:bw u v):bw (.bg u) (.bg v):=by
 refine⟨rfl,fun M w cs hc=>?_⟩
 cases hc with
 |bg h1 h2 h3=>cases h3;exact .bg (h.2 _ _ _ h1) h2 .nil
theorem ahE {f:FuncId} {us vs:List AV} (h:eC us vs) (hv:(vs.all fun v=>!v.isAgg&&!v.isTuple)=true):bw (.func f us) (.func f vs):=by
 refine⟨rfl,fun M w cs hc=>?_⟩
 cases hc with
 |func h1 h2 h3=>cases h3;exact .func (GK h h1) hv .nil
def Mh {α:Type} (k:Kind α):Kind α:=⟨fun v=>match v with
 |.bg v=>k.read v
 |_=>none,fun a=>.bg (k.make a),fun {v a q} h hq=>by
  split at h
  ·exact OS (k.ok h hq)
  ·simp at h⟩
def I9 {α:Type} (g:FuncId) (k:Kind α):Kind α:=⟨fun v=>match v with
 |.func f [.bg v]=>match Nat.beq f g with
  |true=>k.read v
  |false=>none
 |_=>none,fun a=>.func g [.bg (k.make a)],fun {v a q} h hq=>by
  split at h
  ·split at h
   ·rename_i hc
    have hc:=Nat.eq_of_beq_eq_true hc
    subst hc
    exact ahE ⟨OS (k.ok h hq),trivial⟩ rfl
   ·simp at h
  ·simp at h⟩
def PE:Spec:=cD (kC (fq 2000) (kC (Mh (fq 2000)) kN)) (fun a=>.bool (decide (a.2.1<a.1))) fun _=>[]
def OX:Spec:=cD (kC (fq 2000) (kC (Mh (fq 2000)) kN)) (fun a=>.bool (decide (a.2.1≤a.1))) fun _=>[]
def A9:aS:=nG::(oF,PE)::(od,OX)::[]
abbrev o8:List Nat:=[4,0,1,7,8]
abbrev xS (n i:Nat) (k:Nat→Rat) (g:FuncId) (x:Rat):List AV:=[.int .i64 0,bq k n 2000,.func g [.bg (.rat x 2000)],.int .i64 n,.int .i64 i]
noncomputable abbrev oS:Code:=au m7
def iG (x:Rat) (k:Nat→Rat) (i:Nat):Bool:=decide (x<k i)
def iE (x:Rat) (k:Nat→Rat) (i:Nat):Bool:=decide (x≤k i)
def N5:Spec:=cD (kC (kL 2000) (kC (I9 oF (fq 2000)) kN)) (fun a=>.int .i64 (dD (iG a.2.1 a.1.2) a.1.1:Nat)) fun a=>[a.1.1<2^40,dD (iG a.2.1 a.1.2) a.1.1<a.1.1]
def Pc:Spec:=cD (kC (kL 2000) (kC (I9 od (fq 2000)) kN)) (fun a=>.int .i64 (dD (iE a.2.1 a.1.2) a.1.1:Nat)) fun a=>[a.1.1<2^40,dD (iE a.2.1 a.1.2) a.1.1<a.1.1]
def G6:Spec:=fun K args pre=>match N5 K args pre with
 |some r=>some r
 |none=>Pc K args pre
theorem R6 {x y:Rat}:bC T (nG::gb) [] 60 zH (au zH) ⟨aN 0 [.rat x 2000,.bg (.rat y 2000)],[],0⟩=
  let c1:Prop:=2000<2^42;some (ag [(0:Nat)<1,c1,c1] (leaf ret [AV.bool (decide (dc x y>(0:Int)))])):=by kernel_rfl
theorem aje {x y:Rat}:bC T (nG::gb) [] 60 A5 (au A5) ⟨aN 0 [.rat x 2000,.bg (.rat y 2000)],[],0⟩=
  let c1:Prop:=2000<2^42;some (ag [(0:Nat)<1,c1,c1] (leaf ret [AV.bool (decide (dc x y≥(0:Int)))])):=by kernel_rfl
theorem NR {n:Nat} {k:Nat→Rat} {g:FuncId} {x:Rat}:aJ T A9 [] 60 o8 (before oS [1,0,1]) ⟨aN 0 [bq k n 2000,.func g [.bg (.rat x 2000)]],[],0⟩=
  some (leaf normal ([int i64 (0:Int),aj 3 n fun i↦rat (k i) 2000,func g [(rat x 2000).bg],int i64 (↑n:Int),int i64 (0:Int)],[])):=by kernel_rfl
theorem agO {n i:Nat} {k:Nat→Rat} {x:Rat}:aJ T A9 [9,16] 60 o8 [part oS [1,0,1,0,0]] ⟨aB o8 (xS n i k oF x),[],0⟩=
  let c7:Int:=(↑n:Int);let c5:Prop:=2000≤2000;let c4:AV:=func oF [(rat x 2000).bg];let c3:AV:=aj 3 n fun i↦rat (k i) 2000;let c2:Int:=(↑i:Int);let c6:Int:=c2+(1:Int);let c1:List AV:=[c3,c4,int i64 c7,int i64 c2];some (fork (decide (c2<c7)) (ag [(0:Int)≤c2∧c2.toNat<n,c5,c5] (fork (decide (x<k c2.toNat)) (leaf ret (int i64 c2::c1,[])) (ag [-(2:Int)^63≤c6∧c6<(2:Int)^63] (leaf normal ([int i64 (0:Int),c3,c4,int i64 c7,int i64 c6],[]))))) (leaf (exit 0) (int i64 (0:Int)::c1,[]))):=by kernel_rfl
theorem aha {n i:Nat} {k:Nat→Rat} {x:Rat}:aJ T A9 [9,16] 60 o8 [part oS [1,0,1,0,0]] ⟨aB o8 (xS n i k od x),[],0⟩=
  let c7:Int:=(↑n:Int);let c5:Prop:=2000≤2000;let c4:AV:=func od [(rat x 2000).bg];let c3:AV:=aj 3 n fun i↦rat (k i) 2000;let c2:Int:=(↑i:Int);let c6:Int:=c2+(1:Int);let c1:List AV:=[c3,c4,int i64 c7,int i64 c2];some (fork (decide (c2<c7)) (ag [(0:Int)≤c2∧c2.toNat<n,c5,c5] (fork (decide (x≤k c2.toNat)) (leaf ret (int i64 c2::c1,[])) (ag [-(2:Int)^63≤c6∧c6<(2:Int)^63] (leaf normal ([int i64 (0:Int),c3,c4,int i64 c7,int i64 c6],[]))))) (leaf (exit 0) (int i64 (0:Int)::c1,[]))):=by kernel_rfl
theorem NG {n i:Nat} {k:Nat→Rat} {g:FuncId} {x:Rat}:bY T A9 [] 60 m7 [part oS [1,1]] ⟨aB o8 (xS n i k g x),[],0⟩=
  some (leaf ret [int i64 (-1:Int)]):=by kernel_rfl
theorem agQ:∀K args pre r,PE K args pre=some r→aA P oF K args pre r:=cj fun⟨x,y,_⟩ K _=>by
 refine bJ (r:=aG (.bool (decide (y<x))) []) hT (cL gY) hm XN rfl (of_decide_eq_true (by kernel_rfl)) rfl 60 R6 (fun _=>?_) K []
 simp only[aa.all,ax]
 exact⟨⟨by omega,by omega,by omega⟩,eP (decide_eq_decide.2 qe)⟩
theorem Ri:∀K args pre r,OX K args pre=some r→aA P od K args pre r:=cj fun⟨x,y,_⟩ K _=>by
 refine bJ (r:=aG (.bool (decide (y≤x))) []) hT (cL gY) hm afQ rfl (of_decide_eq_true (by kernel_rfl)) rfl 60 aje (fun _=>?_) K []
 simp only[aa.all,ax]
 exact⟨⟨by omega,by omega,by omega⟩,eP (decide_eq_decide.2 w7)⟩
theorem PW:aW P A9:=cL (aH agQ (aH Ri bp))
theorem adK:∀K args pre r,N5 K args pre=some r→aA P mq K args pre r:=cj fun⟨⟨n,k⟩,x,_⟩ K hn=>by
 have n1:n<2^40:=hn.1
 have n2:dD (iG x k) n<n:=hn.2
 refine fD (r:=aG (.int .i64 (dD (iG x k) n:Nat)) []) hT PW hm M8 rfl (of_decide_eq_true (by kernel_rfl)) rfl [1,0,1] (i:=0) (y:=part oS [1,0,1,0,0]) (z:=part oS [1,1]) (by kernel_rfl) (by kernel_rfl) (by kernel_rfl) (f1:=[]) (f2:=[9,16]) (f3:=[]) 60 o8 0
  (fun i:Nat=>xS n i k oF x) (fun _=>[]) (fun i=>i≤n∧∀j,j<i→iG x k j=false) (fun i=>i=n∧∀j,j<i→iG x k j=false) (fun i=>n-i) (fun _=>⟨⟨_,NR,?_⟩,fun i ⟨h1,h2⟩=>⟨_,agO,?_⟩,fun i ⟨h1,h2⟩=>⟨_,NG,?_⟩⟩) K []
 ·exact⟨0,⟨Nat.zero_le _,fun j hj=>by omega⟩,.vals rfl⟩
 ·simp only[aa.all,ax,decide_eq_true_eq,decide_eq_false_iff_not,Int.toNat_natCast]
  refine⟨fun h=>⟨by omega,fun hb=>⟨[.int .i64 i],by kernel_rfl,?_⟩,fun hb=>⟨by omega,i+1,⟨by omega,fun j hj=>?_⟩,by dsimp only;omega,.vals rfl⟩⟩,fun h=>⟨rfl,i,⟨by omega,h2⟩,.vals rfl⟩⟩
  ·exact bt (by rw[qB (g:=iG x k) (i:=i) (decide_eq_true hb) h2 (n:=n) (by omega)])
  ·by_cases hji:j=i
   ·subst hji;exact decide_eq_false hb
   ·exact h2 j (by omega)
 ·subst h1
  rw[Bu h2]at n2
  omega
theorem acd:∀K args pre r,Pc K args pre=some r→aA P mq K args pre r:=cj fun⟨⟨n,k⟩,x,_⟩ K hn=>by
 have n1:n<2^40:=hn.1
 have n2:dD (iE x k) n<n:=hn.2
 refine fD (r:=aG (.int .i64 (dD (iE x k) n:Nat)) []) hT PW hm M8 rfl (of_decide_eq_true (by kernel_rfl)) rfl [1,0,1] (i:=0) (y:=part oS [1,0,1,0,0]) (z:=part oS [1,1]) (by kernel_rfl) (by kernel_rfl) (by kernel_rfl) (f1:=[]) (f2:=[9,16]) (f3:=[]) 60 o8 0
  (fun i:Nat=>xS n i k od x) (fun _=>[]) (fun i=>i≤n∧∀j,j<i→iE x k j=false) (fun i=>i=n∧∀j,j<i→iE x k j=false) (fun i=>n-i) (fun _=>⟨⟨_,NR,?_⟩,fun i ⟨h1,h2⟩=>⟨_,aha,?_⟩,fun i ⟨h1,h2⟩=>⟨_,NG,?_⟩⟩) K []
 ·exact⟨0,⟨Nat.zero_le _,fun j hj=>by omega⟩,.vals rfl⟩
 ·simp only[aa.all,ax,decide_eq_true_eq,decide_eq_false_iff_not,Int.toNat_natCast]
  refine⟨fun h=>⟨by omega,fun hb=>⟨[.int .i64 i],by kernel_rfl,?_⟩,fun hb=>⟨by omega,i+1,⟨by omega,fun j hj=>?_⟩,by dsimp only;omega,.vals rfl⟩⟩,fun h=>⟨rfl,i,⟨by omega,h2⟩,.vals rfl⟩⟩
  ·exact bt (by rw[qB (g:=iE x k) (i:=i) (decide_eq_true hb) h2 (n:=n) (by omega)])
  ·by_cases hji:j=i
   ·subst hji;exact decide_eq_false hb
   ·exact h2 j (by omega)
 ·subst h1
  rw[Bu h2]at n2
  omega
theorem adk:∀K args pre r,G6 K args pre=some r→aA P mq K args pre r:=by
 intro K args pre r h
 unfold G6 at h
 split at h
 ·rename_i g
  simp only[Option.some.injEq]at h
  subst h
  exact adK _ _ _ _ g
 ·exact acd _ _ _ _ h
end Go.Am.B

/- Spline.Cut. -/
namespace Go.Am.B
open Go Go.Am.N AV aa ak IntKind
theorem Mq:aP P x6 nF (au nF):=aQ ZX (by kernel_rfl) (by kernel_rfl) (by kernel_rfl)
def dr (k:Nat→Rat) (n:Nat) (t:Rat):Nat→Nat→Rat
 |0=>k
 |r+1=>cK (dr k n t r) t (bz (n+r) (dr k n t r) t+1)
def Jl:Spec:=cD (kC (kL 2000) (kC (fq 2000) kN)) (fun a=>bq (cF a.1.2 a.2.1 (cy a.1.2 a.2.1 a.1.1)) (a.1.1+1) 2000) fun a=>[a.1.1<2^40,∀i,i<a.1.1+1→Sz (cF a.1.2 a.2.1 (cy a.1.2 a.2.1 a.1.1) i) 2000]
noncomputable def jY:aS:=nG::(qc,oX)::(pY,Jl)::(sL,FP)::(mq,G6)::gb
noncomputable abbrev uN:Code:=au nF
noncomputable abbrev Cm:Code:=part uN [1]
noncomputable abbrev Ar:Code:=part Cm [1,0,1,0,0]
noncomputable abbrev Bh:Code:=part Ar [1,1,0,0]
noncomputable abbrev rL:Code:=part uN [1,1,1]
noncomputable abbrev rH:Code:=part rL [1,1,1,1,1,1]
abbrev yT:ah:=⟨false,true,3,1,fun _=>.agg [.int .i64 0,.nil,.nil]⟩
abbrev x8 (c:Cu):ah:=⟨false,true,3,1,fun _=>dQ c 2000 4000⟩
abbrev D0:List Nat:=[3,4,5,6]
abbrev WB (a b:Rat):List AV:=[.ptr 0 0 3 0 [],.bg (.rat a 2000),.bg (.rat b 2000),.ptr 3 0 3 0 []]
abbrev adh (c:Cu) (a b:Rat):aC:=[(3,yT),(2,⟨false,false,3,1,fun _=>.rat b 2000⟩),(1,⟨false,false,3,1,fun _=>.rat a 2000⟩),(0,x8 c)]
abbrev nW:List Nat:=[3,4,5,6,7,19,20]
abbrev uT (a b:Rat) (n:Nat) (k:Nat→Rat) (j:Nat):List AV:=[.ptr 0 0 3 0 [],.bg (.rat a 2000),.bg (.rat b 2000),.ptr 1 0 3 0 [],bq k n 2000,.agg [.rat a 2000,.rat b 2000],.int .i64 j]
abbrev su (c:Cu):aC:=[(1,yT),(0,x8 c)]
abbrev tT:List Nat:=[3,4,5,6,7,19,20,9,10]
abbrev yd (a b:Rat) (n:Nat) (k:Nat→Rat) (j:Nat) (e:Bool):List AV:=[.ptr 0 0 3 0 [],.bg (.rat a 2000),.bg (.rat b 2000),.ptr 1 0 3 0 [],bq k n 2000,.agg [.rat a 2000,.rat b 2000],.int .i64 j,.ptr 2 0 3 0 [],.bool e]
abbrev Bd (c:Cu) (x:Rat):aC:=[(2,⟨false,true,3,1,fun _=>.rat x 2000⟩),(1,yT),(0,x8 c)]
abbrev xX:List Nat:=[3,4,5,6,7,11,12,13,14,67,68]
abbrev Fh (p:Int) (a b:Rat) (n:Nat) (k:Nat→Rat) (f l i:Nat):List AV:=[.ptr 0 0 3 0 [],.bg (.rat a 2000),.bg (.rat b 2000),.ptr 1 0 3 0 [],bq k n 2000,.ptr 2 0 3 0 [],.ptr 3 0 3 0 [],.int .i64 ((f:Int)-1),.int .i64 l,.int .i64 (p+1),.int .i64 i]
abbrev tH (c D:Cu) (x:Nat→Rat) (i:Nat):aC:=[(4,qM 2000 i x),(3,⟨false,true,3,1,fun _=>.agg [.int .i64 c.p,.own 4 3 0 i,.nil]⟩),(2,⟨false,true,3,1,fun _=>dQ D sK sB⟩),(1,yT),(0,x8 c)]
abbrev Ax:List Nat:=[3,5,6,11,12,13,14,88,89]
abbrev HO (p:Int) (b:Rat) (f l i:Nat):List AV:=[.ptr 0 0 3 0 [],.bg (.rat b 2000),.ptr 1 0 3 0 [],.ptr 2 0 3 0 [],.ptr 3 0 3 0 [],.int .i64 ((f:Int)-1),.int .i64 l,.int .i64 (p+1),.int .i64 i]
def nU (p:Nat) (a b:Rat) (k:Nat→Rat) (f l q:Nat):Rat:=if q<p+1 then a else if q<p+1+(l-f)then k (f+(q-(p+1)))else b
def xo (D:Cu) (a b:Rat) (f l:Nat):Cu:=⟨D.p,D.p.toNat+1+(l-f)+(D.p.toNat+1),nU D.p.toNat a b D.k f l,l-(f-1-D.p.toNat),fun q=>D.f (f-1-D.p.toNat+q)⟩
theorem Vi {c:Cu} {a b:Rat}:aJ T jY [] 60 D0 (before uN [1]) ⟨aN 0 [dQ c 2000 4000,.rat a 2000,.rat b 2000],[],0⟩=
  let c3:AV:=rat b 2000;let c2:AV:=rat a 2000;let c1:Nat:=(aT (dQ c 2000 4000)).size;some (leaf normal ([ptr 0 0 c1 0 [],ptr 4096 0 (aT c2).size 0 [],ptr 8192 0 (aT c3).size 0 [],ptr 12288 0 3 0 []],[((12288:Nat),ah.mk false true 3 1 fun x↦agg [int i64 (0:Int),nil,nil]),((8192:Nat),ah.mk false true (aT c3).size 1 fun x↦c3),((4096:Nat),ah.mk false true (aT c2).size 1 fun x↦c2),((0:Nat),ah.mk false true c1 1 fun x↦agg [int i64 c.p,aj 3 c.n fun i↦rat (c.k i) 2000,aj 12 c.m fun i↦agg [rat (c.f i).n.x 4000,rat (c.f i).n.y 4000,rat (c.f i).n.z 4000,rat (c.f i).d 4000]])])):=by kernel_rfl
theorem aj6 {c:Cu} {a b:Rat}:aJ T jY [] 60 nW (before Cm [1,0,1]) ⟨aB D0 (WB a b),adh c a b,4⟩=
  let c1:AV:=aj 3 c.n fun i↦rat (c.k i) 2000;some (ag [(0:Nat)<1] (leaf normal ([ptr 0 0 3 0 [],(rat a 2000).bg,(rat b 2000).bg,ptr 3 0 3 0 [],c1,agg [rat a 2000,rat b 2000],int i64 (0:Int)],[((3:Nat),ah.mk false true 3 1 fun x↦agg [int i64 (0:Int),nil,nil]),((0:Nat),ah.mk false true 3 1 fun x↦agg [int i64 c.p,c1,aj 12 c.m fun i↦agg [rat (c.f i).n.x 4000,rat (c.f i).n.y 4000,rat (c.f i).n.z 4000,rat (c.f i).d 4000]])]))):=by kernel_rfl
theorem aiQ {c:Cu} {a b:Rat} {n j:Nat} {k:Nat→Rat}:aJ T jY [21] 60 nW (before Ar [1,1,0]) ⟨aB nW (uT a b n k j),su c,2⟩=
  let c1:List AV×aC:=([ptr 0 0 3 0 [],(rat a 2000).bg,(rat b 2000).bg,ptr 1 0 3 0 [],aj 3 n fun i↦rat (k i) 2000,agg [rat a 2000,rat b 2000],int i64 (↑j:Int)],[((1:Nat),ah.mk false true 3 1 fun x↦agg [int i64 (0:Int),nil,nil]),((0:Nat),ah.mk false true 3 1 fun x↦agg [int i64 c.p,aj 3 c.n fun i↦rat (c.k i) 2000,aj 12 c.m fun i↦agg [rat (c.f i).n.x 4000,rat (c.f i).n.y 4000,rat (c.f i).n.z 4000,rat (c.f i).d 4000]])]);some (fork (decide ((↑j:Int)<(2:Int))) (leaf normal c1) (leaf (exit 0) c1)):=by kernel_rfl
theorem RC {c:Cu} {a b:Rat} {n:Nat} {k:Nat→Rat}:aJ T jY [28] 60 tT (before Bh [1,1]) ⟨aB nW (uT a b n k 0),su c,2⟩=
  let c12:AV:=int i64 (0:Int);let c11:AV:=ptr 1 0 3 0 [];let c10:AV:=aj 3 n fun i↦rat (k i) 2000;let c9:AV:=ptr 0 0 3 0 [];let c8:AV:=rat b 2000;let c7:AV:=ptr 4098 0 3 0 [];let c6:Prop:=0<1;let c5:AV:=rat a 2000;let c4:Int:=(↑n:Int)-(1:Int);let c3:Nat:=Int.toNat (0:Int);let c2:Prop:=2000<2^42;let c14:Prop:=(0:Int)≤(0:Int)∧c3<n;let c13:Bool:=decide (a=k c3);let c1:List (Nat×ah):=[((4098:Nat),ah.mk false true 3 1 fun j↦if(j==0)=true then aT c5 else rat 0 1),((1:Nat),ah.mk false true 3 1 fun x↦agg [c12,nil,nil]),((0:Nat),ah.mk false true 3 1 fun x↦agg [int i64 c.p,aj 3 c.n fun i↦rat (c.k i) 2000,aj 12 c.m fun i↦agg [rat (c.f i).n.x 4000,rat (c.f i).n.y 4000,rat (c.f i).n.z 4000,rat (c.f i).d 4000]])];some (ag [(0:Int)≤(↑(0:Nat):Int)∧(↑(0:Nat):Int)<(↑(2:Nat):Int),c6] (fork c13 (ag [c6,c14,c2,c2,c13=true] (leaf normal ([c9,c5.bg,c8.bg,c11,c10,agg [c5,c8],c12,c7,AV.bool true],c1))) (ag [c6,c14,c2,c2,c13=false,c6,-(2:Int)^63≤c4∧c4<(2:Int)^63,(0:Int)≤c4∧c4.toNat<n,c2,c2] (leaf normal ([c9,c5.bg,c8.bg,c11,c10,agg [c5,c8],c12,c7,AV.bool (bif false then true else decide (a=k c4.toNat))],c1))))):=by kernel_rfl
theorem acu {c:Cu} {a b:Rat} {n:Nat} {k:Nat→Rat}:aJ T jY [28] 60 tT (before Bh [1,1]) ⟨aB nW (uT a b n k 1),su c,2⟩=
  let c11:AV:=ptr 1 0 3 0 [];let c10:AV:=aj 3 n fun i↦rat (k i) 2000;let c9:AV:=ptr 0 0 3 0 [];let c8:AV:=rat a 2000;let c7:AV:=ptr 4098 0 3 0 [];let c6:Prop:=0<1;let c5:AV:=rat b 2000;let c4:Int:=(↑n:Int)-(1:Int);let c3:Nat:=Int.toNat (0:Int);let c2:Prop:=2000<2^42;let c13:Prop:=(0:Int)≤(0:Int)∧c3<n;let c12:Bool:=decide (b=k c3);let c1:List (Nat×ah):=[((4098:Nat),ah.mk false true 3 1 fun j↦if(j==0)=true then aT c5 else rat 0 1),((1:Nat),ah.mk false true 3 1 fun x↦agg [int i64 (0:Int),nil,nil]),((0:Nat),ah.mk false true 3 1 fun x↦agg [int i64 c.p,aj 3 c.n fun i↦rat (c.k i) 2000,aj 12 c.m fun i↦agg [rat (c.f i).n.x 4000,rat (c.f i).n.y 4000,rat (c.f i).n.z 4000,rat (c.f i).d 4000]])];some (ag [(0:Int)≤(↑(1:Nat):Int)∧(↑(1:Nat):Int)<(↑(2:Nat):Int),c6] (fork c12 (ag [c6,c13,c2,c2,c12=true] (leaf normal ([c9,c8.bg,c5.bg,c11,c10,agg [c8,c5],int i64 (1:Int),c7,AV.bool true],c1))) (ag [c6,c13,c2,c2,c12=false,c6,-(2:Int)^63≤c4∧c4<(2:Int)^63,(0:Int)≤c4∧c4.toNat<n,c2,c2] (leaf normal ([c9,c8.bg,c5.bg,c11,c10,agg [c8,c5],int i64 (1:Int),c7,AV.bool (bif false then true else decide (b=k c4.toNat))],c1))))):=by kernel_rfl
theorem ae1 {c:Cu} {a b x:Rat} {n j:Nat} {k:Nat→Rat} {e:Bool}:aJ T jY [40,47] 60 tT [part Bh [1,1,0,0]] ⟨aB tT (yd a b n k j e),Bd c x,3⟩=
  let c11:Prop:=n<2^40;let c10:AV:=rat a 2000;let c9:AV:=rat b 2000;let c8:Prop:=0<1;let c7:AV:=ptr 1 0 3 0 [];let c6:AV:=ptr 0 0 3 0 [];let c5:Int:=(↑(aU (fun i↦aO (rat (k i) 2000)) x n):Int);let c1:List (Nat×ah):=[((2:Nat),ah.mk false true 3 1 fun x_1↦rat x 2000),((1:Nat),ah.mk false true 3 1 fun x↦agg [int i64 (0:Int),nil,nil]),((0:Nat),ah.mk false true 3 1 fun x↦agg [int i64 c.p,aj 3 c.n fun i↦rat (c.k i) 2000,aj 12 c.m fun i↦agg [rat (c.f i).n.x 4000,rat (c.f i).n.y 4000,rat (c.f i).n.z 4000,rat (c.f i).d 4000]])];let c4:List AV:=[agg [c10,c9],int i64 (↑j:Int),ptr 2 0 3 0 [],AV.bool e];let c3:aa (List AV×aC):=leaf (exit 2) (c6::c10.bg::c9.bg::c7::(aj 3 n fun i↦rat (k i) 2000)::c4,c1);let c2:aa (List AV×aC):=ag [c8,bK (fun i↦rat (k i) 2000) n 2000,(2000:Nat)≤2000,c11,∀(i:Nat),i<n+1→Sz (cF (fun i↦aO (rat (k i) 2000)) x (cy (fun i↦aO (rat (k i) 2000)) x n) i) 2000] (leaf normal (c6::c10.bg::c9.bg::c7::(aj 3 (n+1) fun i↦rat (cF (fun i↦aO (rat (k i) 2000)) x (cy (fun i↦aO (rat (k i) 2000)) x n) i) 2000)::c4,c1));some (fork (!e) (ag [(!e)=true,c8,bK (fun i↦rat (k i) 2000) n sK,(2000:Nat)≤sK,c11,c8] (fork (bif true then decide (c5<c.p)else false) c2 c3)) (ag [(!e)=false] (fork false c2 c3))):=by kernel_rfl
theorem ab7 {c:Cu} {a b x:Rat} {n j:Nat} {k:Nat→Rat} {e:Bool}:aJ T jY [] 60 nW [part Ar [1,1,1]] ⟨aB tT (yd a b n k j e),Bd c x,3⟩=
  let c1:Int:=(↑j:Int)+(1:Int);some (ag [-(2:Int)^63≤c1∧c1<(2:Int)^63] (leaf normal ([ptr 0 0 3 0 [],(rat a 2000).bg,(rat b 2000).bg,ptr 1 0 3 0 [],aj 3 n fun i↦rat (k i) 2000,agg [rat a 2000,rat b 2000],int i64 c1],[((1:Nat),ah.mk false true 3 1 fun x↦agg [int i64 (0:Int),nil,nil]),((0:Nat),ah.mk false true 3 1 fun x↦agg [int i64 c.p,aj 3 c.n fun i↦rat (c.k i) 2000,aj 12 c.m fun i↦agg [rat (c.f i).n.x 4000,rat (c.f i).n.y 4000,rat (c.f i).n.z 4000,rat (c.f i).d 4000]])]))):=by kernel_rfl
theorem ael {c:Cu} {a b:Rat} {n j:Nat} {k:Nat→Rat}:aJ T jY [] 60 xX (before rL [1,1,1,1,1,0,1]) ⟨aB nW (uT a b n k j),su c,2⟩=
  let c10:Prop:=2000≤2000;let c9:Int:=c.p+(1:Int);let c7:Nat:=dD (iE b fun i↦aO (rat (k i) 2000)) n;let c6:Prop:=bK (fun i↦rat (k i) 2000) n 2000;let c5:Nat:=2^40;let c4:Int:=(2:Int)^63;let c3:Prop:=0<1;let c2:AV:=agg [int i64 (0:Int),nil,nil];let c1:Nat:=dD (iG a fun i↦aO (rat (k i) 2000)) n;let c8:Int:=(↑c1:Int)-(1:Int);some (ag [c3,bK (fun i↦rat (c.k i) 2000) c.n sK,jF (fun i↦cP (c.f i) 4000) c.m sK,bK (fun i↦rat (k i) 2000) n sK,Kn c.n c.p.toNat fun i↦aO (rat (c.k i) 2000),(1:Int)≤c.p,c.p≤(6:Int),c.n<c5,c.m<c5,n<2^29,c9≤(↑n:Int),c3] (ag [c3,c3] (ag [c6,c10,n<c5,c1<n,-c4≤c8∧c8<c4] (ag [c6,c10,n<c5,c7<n] (ag [c3,-c4≤c9∧c9<c4] (leaf normal ([ptr 0 0 3 0 [],(rat a 2000).bg,(rat b 2000).bg,ptr 1 0 3 0 [],aj 3 n fun i↦rat (k i) 2000,ptr 12290 0 3 0 [],ptr 20482 0 3 0 [],int i64 c8,int i64 (↑c7:Int),int i64 c9,int i64 (0:Int)],[((20482:Nat),ah.mk false true 3 1 fun j↦if(j==0)=true then agg (c2.kids.set 0 (aT (int i64 c.p)))else c2),((12290:Nat),ah.mk false true 3 1 fun j↦if(j==0)=true then aT (dQ (jQ (Cu.mk c.p c.n (fun i↦aO (rat (c.k i) 2000)) c.m fun i↦qW (cP (c.f i) 4000)) n fun i↦aO (rat (k i) 2000)) sK sB)else c2),((1:Nat),ah.mk false true 3 1 fun x↦c2),((0:Nat),ah.mk false true 3 1 fun x↦agg [int i64 c.p,aj 3 c.n fun i↦rat (c.k i) 2000,aj 12 c.m fun i↦agg [rat (c.f i).n.x 4000,rat (c.f i).n.y 4000,rat (c.f i).n.z 4000,rat (c.f i).d 4000]])]))))))):=by kernel_rfl
theorem ag9 {c D:Cu} {a b:Rat} {n f l i:Nat} {k x:Nat→Rat}:aJ T jY [69] 60 xX [part rL [1,1,1,1,1,0,1,0,0]] ⟨aB xX (Fh c.p a b n k f l i),tH c D x i,5⟩=
  let c13:Int:=(↑i:Int);let c12:AV:=(rat b 2000).bg;let c11:AV:=int i64 ((↑f:Int)-(1:Int));let c10:AV:=rat a 2000;let c9:Int:=c.p+(1:Int);let c7:AV:=ptr 2 0 3 0 [];let c6:AV:=ptr 3 0 3 0 [];let c5:AV:=ptr 1 0 3 0 [];let c4:AV:=aj 3 n fun i↦rat (k i) 2000;let c3:AV:=ptr 0 0 3 0 [];let c2:AV:=agg [int i64 c.p,own 4 3 0 i,nil];let c1:List (Nat×ah):=[((2:Nat),ah.mk false true 3 1 fun x↦agg [int i64 D.p,aj 3 D.n fun i↦rat (D.k i) 4096,aj 12 D.m fun i↦agg [rat (D.f i).n.x 536870912,rat (D.f i).n.y 536870912,rat (D.f i).n.z 536870912,rat (D.f i).d 536870912]]),((1:Nat),ah.mk false true 3 1 fun x↦agg [int i64 (0:Int),nil,nil]),((0:Nat),ah.mk false true 3 1 fun x↦agg [int i64 c.p,aj 3 c.n fun i↦rat (c.k i) 2000,aj 12 c.m fun i↦agg [rat (c.f i).n.x 4000,rat (c.f i).n.y 4000,rat (c.f i).n.z 4000,rat (c.f i).d 4000]])];let c8:Int:=c13+(1:Int);some (fork (decide (c13<c9)) (ag [(0:Nat)<1,(1:Nat)*3≤2^24,(i+1)*((56:Nat)+1)*2≤2^47,(0:Nat)<1] (ag [-(2:Int)^63≤c8∧c8<(2:Int)^63] (leaf normal ([c3,c10.bg,c12,c5,c4,c7,c6,c11,int i64 (↑l:Int),int i64 c9,int i64 c8],((20485:Nat),ah.mk true true 3 (i+1) fun i_1↦if i_1<i then rat (x i_1) 2000 else nth [c10] (rat 0 1) (i_1-i+0))::((3:Nat),ah.mk false true 3 1 fun j↦if(j==0)=true then agg (c2.kids.set 1 (aT (own (nat_lit 20484+1) 3 0 (i+1))))else c2)::c1)))) (leaf (exit 4) ([c3,c10.bg,c12,c5,c4,c7,c6,c11,int i64 (↑l:Int),int i64 c9,int i64 c13],((4:Nat),ah.mk true true 3 i fun i↦rat (x i) 2000)::((3:Nat),ah.mk false true 3 1 fun x↦c2)::c1))):=by kernel_rfl
theorem Up {c D:Cu} {a b:Rat} {n f l i:Nat} {k x:Nat→Rat}:aJ T jY [] 60 Ax (before rH [1,0,1]) ⟨aB xX (Fh c.p a b n k f l i),tH c D x i,5⟩=
  let c7:Int:=c.p+(1:Int);let c6:Prop:=0<1;let c5:Int:=(↑l:Int);let c4:AV:=agg [int i64 c.p,own 4 3 0 i,nil];let c3:Int:=(2:Int)^63;let c1:Int:=(↑f:Int)-(1:Int)+(1:Int);let c2:Nat:=i+(c5.toNat-c1.toNat);some (ag [c6,-c3≤c1∧c1<c3,(0:Int)≤c1∧c1≤c5∧c5≤c5∧c5≤(↑n:Int),c2*((56:Nat)+1)*2≤2^47,c6] (ag [c6,-c3≤c7∧c7<c3] (leaf normal ([ptr 0 0 3 0 [],(rat b 2000).bg,ptr 1 0 3 0 [],ptr 2 0 3 0 [],ptr 3 0 3 0 [],int i64 ((↑f:Int)-(1:Int)),int i64 c5,int i64 c7,int i64 (0:Int)],[((28677:Nat),ah.mk true true 3 c2 fun i_1↦if i_1<i then rat (x i_1) 2000 else rat (k (i_1-i+c1.toNat)) 2000),((3:Nat),ah.mk false true 3 1 fun j↦if(j==0)=true then agg (c4.kids.set 1 (aT (own (nat_lit 28676+1) 3 0 c2)))else c4),((2:Nat),ah.mk false true 3 1 fun x↦agg [int i64 D.p,aj 3 D.n fun i↦rat (D.k i) 4096,aj 12 D.m fun i↦agg [rat (D.f i).n.x 536870912,rat (D.f i).n.y 536870912,rat (D.f i).n.z 536870912,rat (D.f i).d 536870912]]),((1:Nat),ah.mk false true 3 1 fun x↦agg [int i64 (0:Int),nil,nil]),((0:Nat),ah.mk false true 3 1 fun x↦agg [int i64 c.p,aj 3 c.n fun i↦rat (c.k i) 2000,aj 12 c.m fun i↦agg [rat (c.f i).n.x 4000,rat (c.f i).n.y 4000,rat (c.f i).n.z 4000,rat (c.f i).d 4000]])])))):=by kernel_rfl
theorem XH {c D:Cu} {b:Rat} {f l i m:Nat} {x:Nat→Rat}:aJ T jY [90] 60 Ax [part rH [1,0,1,0,0]] ⟨aB Ax (HO c.p b f l i),tH c D x m,5⟩=
  let c11:Int:=(↑i:Int);let c10:AV:=int i64 ((↑f:Int)-(1:Int));let c9:AV:=rat b 2000;let c8:Int:=c.p+(1:Int);let c6:AV:=ptr 2 0 3 0 [];let c5:AV:=ptr 3 0 3 0 [];let c4:AV:=ptr 1 0 3 0 [];let c3:AV:=ptr 0 0 3 0 [];let c2:AV:=agg [int i64 c.p,own 4 3 0 m,nil];let c1:List (Nat×ah):=[((2:Nat),ah.mk false true 3 1 fun x↦agg [int i64 D.p,aj 3 D.n fun i↦rat (D.k i) 4096,aj 12 D.m fun i↦agg [rat (D.f i).n.x 536870912,rat (D.f i).n.y 536870912,rat (D.f i).n.z 536870912,rat (D.f i).d 536870912]]),((1:Nat),ah.mk false true 3 1 fun x↦agg [int i64 (0:Int),nil,nil]),((0:Nat),ah.mk false true 3 1 fun x↦agg [int i64 c.p,aj 3 c.n fun i↦rat (c.k i) 2000,aj 12 c.m fun i↦agg [rat (c.f i).n.x 4000,rat (c.f i).n.y 4000,rat (c.f i).n.z 4000,rat (c.f i).d 4000]])];let c7:Int:=c11+(1:Int);some (fork (decide (c11<c8)) (ag [(0:Nat)<1,(1:Nat)*3≤2^24,(m+1)*((56:Nat)+1)*2≤2^47,(0:Nat)<1] (ag [-(2:Int)^63≤c7∧c7<(2:Int)^63] (leaf normal ([c3,c9.bg,c4,c6,c5,c10,int i64 (↑l:Int),int i64 c8,int i64 c7],((20485:Nat),ah.mk true true 3 (m+1) fun i↦if i<m then rat (x i) 2000 else nth [c9] (rat 0 1) (i-m+0))::((3:Nat),ah.mk false true 3 1 fun j↦if(j==0)=true then agg (c2.kids.set 1 (aT (own (nat_lit 20484+1) 3 0 (m+1))))else c2)::c1)))) (leaf (exit 6) ([c3,c9.bg,c4,c6,c5,c10,int i64 (↑l:Int),int i64 c8,int i64 c11],((4:Nat),ah.mk true true 3 m fun i↦rat (x i) 2000)::((3:Nat),ah.mk false true 3 1 fun x↦c2)::c1))):=by kernel_rfl
theorem Vp {c D:Cu} {b:Rat} {f l i m:Nat} {x:Nat→Rat}:bY T jY [] 60 nF [part rH [1,1]] ⟨aB Ax (HO c.p b f l i),tH c D x m,5⟩=
  let c3:Int:=(↑l:Int);let c2:Prop:=0<1;let c1:Int:=(↑f:Int)-(1:Int)-c.p;some (ag [c2,c2,-(2:Int)^63≤c1∧c1<(2:Int)^63,(0:Int)≤c1∧c1≤c3∧c3≤c3∧c3≤(↑D.m:Int),c2] (ag [c2,c2] (ag [c2] (leaf ret [agg [int i64 c.p,aj 3 m fun i↦rat (x (i+0)) 2000,aj 12 (c3.toNat-c1.toNat) fun i↦agg [rat (D.f (i+c1.toNat)).n.x 536870912,rat (D.f (i+c1.toNat)).n.y 536870912,rat (D.f (i+c1.toNat)).n.z 536870912,rat (D.f (i+c1.toNat)).d 536870912]]])))):=by kernel_rfl
theorem Wb:∀K args pre r,Jl K args pre=some r→aA P pY K args pre r:=cj fun⟨⟨n,k⟩,t,_⟩ K hn=>by
 have h1:n<2^40:=hn.1
 have h2:∀i,i<n+1→Sz (cF k t (cy k t n) i) 2000:=hn.2
 exact Cj (u:=bq (cF k t (cy k t n)) (n+1) 2002) (l:=[]) (Mr (Nat.le_refl _) (Nat.le_refl _) (by decide) h1 K) (fun h=>trivial) rfl rfl (fT fun i hi=>ew rfl (h2 i hi))
theorem yz:aW P jY:=cL (aH Im (aH Wb (aH PM (aH adk gY))))
structure Cq (n p:Nat) (k:Nat→Rat) (t:Rat) (r:Nat):Prop where
 kn:Kn (n+r) p (dr k n t r)
 tm:aU (dr k n t r) t (n+r)=aU k t n+r
 f0:dr k n t r 0=k 0
 fl:dr k n t r (n+r-1)=k (n-1)
 sd:∀i,cO (dr k n t r i)
theorem Kp {n p:Nat} {k:Nat→Rat} {t:Rat} (h:Kn n p k) (h0:k 0<t) (h1:t<k (n-1)) (kd:∀i,cO (k i)) (ht:cO t):∀{r:Nat},aU k t n+r≤p→Cq n p k t r
 |0,_=>⟨h,rfl,rfl,rfl,kd⟩
 |r+1,hr=>by
  obtain⟨a1,a2,a3,a4,a5⟩:=Kp h h0 h1 kd ht (r:=r) (by omega)
  have g0:dr k n t r 0<t:=by rw[a3];exact h0
  have g1:t<dr k n t r (n+r-1):=by rw[a4];exact h1
  obtain⟨i1,i2,i3⟩:=lK a1 g0 g1
  have e:dr k n t (r+1)=cK (dr k n t r) t (bz (n+r) (dr k n t r) t+1):=rfl
  generalize bz (n+r) (dr k n t r) t=a at*
  generalize dr k n t r=K at*
  have tm:=Ib (k:=K) (t:=t) (q:=a+1) (m:=n+r-(a+1))
  rw[show a+1+1+(n+r-(a+1))=n+(r+1) by omega,show a+1+(n+r-(a+1))=n+r by omega]at tm
  have hK:=a1.cK g0 g1 i1 i2 i3 (by omega)
  refine⟨?_,?_,?_,?_,?_⟩
  ·rw[e];exact hK
  ·rw[e,tm,a2];rfl
  ·rw[e,gP (by omega),a3]
  ·rw[e,show n+(r+1)-1=n+r by omega,gW (by omega),a4]
  ·rw[e];exact OJ a5 ht
theorem Cq.next {n p r:Nat} {k:Nat→Rat} {t:Rat} (h:Cq n p k t r) (h0:k 0<t) (h1:t<k (n-1)):cF (dr k n t r) t (cy (dr k n t r) t (n+r))=dr k n t (r+1):=by
 obtain⟨a1,a2,a3,a4,a5⟩:=h
 obtain⟨i1,i2,i3⟩:=lK a1 (by rw[a3];exact h0) (by rw[a4];exact h1)
 rw[CR a1.sorted i1 i2 i3];rfl
theorem aaa {c:Cu} {a b:Rat} {n f l j:Nat} {k:Nat→Rat} {cx:Ctx} {Q:ak→aI→Prop} (hk:Kept [] cx) (hc:Kn c.n c.p.toNat c.k) (hp1:1≤c.p) (hp6:c.p≤6) (hcn:c.n<2^28) (hcm:c.m<2^28) (hn:n<2^28) (hpn:c.p+1≤n) (hf:dD (iG a k) n=f) (hl:dD (iE b k) n=l) (h1:c.p.toNat+1≤f) (h2:f≤l) (h3:l+c.p.toNat+1≤n)
  (hQ:∀e s',de cx (Fin T nF (dQ (xo (jQ c n k) a b f l) sK sB)) e s'→Q e s'):aq P cx nF.ntmps rL ⟨aB nW (uT a b n k j),su c,2⟩ Q:=by
 have hv:∀{rl:List (Nat×Nat)} {k x y y':Nat},aV rl k=some x→y=y'→fz rl (.agg [.int .i64 c.p,.own x 3 0 y,.nil]) (.agg [.int .i64 c.p,.own k 3 0 y',.nil]):=fun h e=>kP ⟨⟨rfl,aK rfl⟩,⟨rfl,cV h rfl e⟩,⟨rfl,aK rfl⟩,trivial⟩
 refine aq.jE hT yz hm (x:=rL) [1,1,1,1,1,0,1] (i:=4) (y:=part rL [1,1,1,1,1,0,1,0,0]) (z:=rH) (by kernel_rfl) (by kernel_rfl) (by kernel_rfl) (by kernel_rfl) hk (f1:=[]) (f2:=[69]) 60 xX 5
  (fun i:Nat=>Fh c.p a b n k f l i) (fun i=>tH c (jQ c n k) (fun _=>a) i) (fun i=>i≤c.p.toNat+1) (fun i=>i=c.p.toNat+1) (fun i=>c.p.toNat+1-i) (fun _=>False) ⟨_,ael,?_⟩ (fun i hi=>⟨_,ag9,?_⟩) (fun i hi=>?_) (fun _ _ h=>h.elim)
 ·have e1:dD (iG a fun i=>aO (rat (k i) 2000)) n=f:=hf
  have e2:dD (iE b fun i=>aO (rat (k i) 2000)) n=l:=hl
  simp only[aa.all,ax,e1,e2]
  refine⟨⟨by omega,ct (by decide),m9 (by decide),ct (by decide),hc,hp1,hp6,by omega,by omega,by omega,hpn,by omega⟩,⟨by omega,by omega⟩,⟨ct (Nat.le_refl _),by omega,by omega,by omega,by omega⟩,⟨ct (Nat.le_refl _),by omega,by omega,by omega⟩,⟨by omega,by omega⟩,0,Nat.zero_le _,[(0,0),(1,1),(2,12290),(3,20482)],rfl,rfl,rfl,nT rfl (by omega) (by omega) (aF rfl rfl (kP ⟨⟨rfl,aK rfl⟩,⟨rfl,oW (by omega)⟩,⟨rfl,aK rfl⟩,trivial⟩) (aF rfl rfl (aE rfl rfl) (aF rfl rfl (aE rfl rfl) (aF rfl rfl (aE rfl rfl) trivial))))⟩
 ·simp only[aa.all,ax,decide_eq_true_eq,decide_eq_false_iff_not,Int.toNat_natCast]
  refine⟨fun h=>⟨⟨by omega,by omega,by omega,by omega⟩,by omega,i+1,by omega,by dsimp only;omega,[(0,0),(1,1),(2,2),(3,3),(4,20485)],rfl,rfl,rfl,bB rfl rfl rfl (fun q hq=>jL (y:=fun _=>a) (fun _ _=>rfl) rfl (Nat.le_refl _) (Nat.le_refl _) hq) (aF rfl rfl (hv rfl rfl) (aF rfl rfl (aE rfl rfl) (aF rfl rfl (aE rfl rfl) (aF rfl rfl (aE rfl rfl) trivial))))⟩,fun h=>⟨rfl,i,by omega,[(0,0),(1,1),(2,2),(3,3),(4,4)],rfl,rfl,rfl,bB rfl rfl rfl (fun _ _=>aE rfl rfl) (aF rfl rfl (hv rfl rfl) (aF rfl rfl (aE rfl rfl) (aF rfl rfl (aE rfl rfl) (aF rfl rfl (aE rfl rfl) trivial))))⟩⟩
 ·subst hi
  refine aq.jE hT yz hm (x:=rH) [1,0,1] (i:=6) (y:=part rH [1,0,1,0,0]) (z:=part rH [1,1]) (by kernel_rfl) (by kernel_rfl) (by kernel_rfl) (by kernel_rfl) hk (f1:=[]) (f2:=[90]) 60 Ax 5
   (fun i:Nat=>HO c.p b f l i) (fun i=>tH c (jQ c n k) (nU c.p.toNat a b k f l) (c.p.toNat+1+(l-f)+i)) (fun i=>i≤c.p.toNat+1) (fun i=>i=c.p.toNat+1) (fun i=>c.p.toNat+1-i) (fun _=>False) ⟨_,Up,?_⟩ (fun i hi=>⟨_,XH,?_⟩) (fun i hi=>?_) (fun _ _ h=>h.elim)
  ·simp only[aa.all,ax,Int.toNat_natCast]
   have e1:((f:Int)-1+1).toNat=f:=by omega
   simp only[e1]
   refine⟨⟨by omega,by omega,by omega,by omega,by omega⟩,⟨by omega,by omega⟩,0,Nat.zero_le _,[(0,0),(1,1),(2,2),(3,3),(4,28677)],rfl,rfl,rfl,bB rfl rfl rfl (fun q hq=>aE (oD rfl rfl) ?_) (aF rfl rfl (hv rfl rfl) (aF rfl rfl (aE rfl rfl) (aF rfl rfl (aE rfl rfl) (aF rfl rfl (aE rfl rfl) trivial))))⟩
   have hq:q<c.p.toNat+1+(l-f)+0:=hq
   unfold nU
   by_cases c1:q<c.p.toNat+1
   ·rw[if_pos c1,if_pos c1]
   ·rw[if_neg c1,if_neg c1,if_pos (by omega),Nat.add_comm]
  ·simp only[aa.all,ax,decide_eq_true_eq,decide_eq_false_iff_not,Int.toNat_natCast]
   refine⟨fun h=>⟨⟨by omega,by omega,by omega,by omega⟩,by omega,i+1,by omega,by dsimp only;omega,[(0,0),(1,1),(2,2),(3,3),(4,20485)],rfl,rfl,rfl,bB rfl rfl rfl (fun q hq=>jL (y:=nU c.p.toNat a b k f l) (fun _ _=>rfl) ?_ (Nat.le_refl _) (Nat.le_refl _) hq) (aF rfl rfl (hv rfl rfl) (aF rfl rfl (aE rfl rfl) (aF rfl rfl (aE rfl rfl) (aF rfl rfl (aE rfl rfl) trivial))))⟩,fun h=>⟨rfl,i,by omega,[(0,0),(1,1),(2,2),(3,3),(4,4)],rfl,rfl,rfl,bB rfl rfl rfl (fun _ _=>aE rfl rfl) (aF rfl rfl (hv rfl rfl) (aF rfl rfl (aE rfl rfl) (aF rfl rfl (aE rfl rfl) (aF rfl rfl (aE rfl rfl) trivial))))⟩⟩
   unfold nU
   rw[if_neg (by omega),if_neg (by omega)]
  ·subst hi
   refine aq.jK ((aD.fin hT yz hm 60 Vp (by kernel_rfl) ?_).mono fun _ _ h=>hQ _ _ (.inl h))
   simp only[aa.all,ax,Int.toNat_natCast]
   have e1:((f:Int)-1-c.p).toNat=f-1-c.p.toNat:=by omega
   have e2:(jQ c n k).m=n-c.p.toNat-1:=rfl
   simp only[e1,e2]
   refine⟨⟨by omega,by omega,by omega,by omega,by omega⟩,⟨by omega,by omega⟩,by omega,cB ⟨.refl _,fT fun i hi=>bG rfl (by decide),lH rfl fun i _=>?_,trivial⟩⟩
   show cP (j7 c n k (i+(f-1-c.p.toNat))) sB=cP (j7 c n k (f-1-c.p.toNat+i)) sB
   rw[Nat.add_comm]
def eA (w R j:Nat):Nat:=if w<j then R else 0
set_option maxHeartbeats 1000000 in
theorem Nq {c:Cu} {a b t:Rat} {w R f l:Nat} (hc:Kn c.n c.p.toNat c.k) (hp1:1≤c.p) (hp6:c.p≤6) (hcn:c.n<2^27) (hcm:c.m<2^28) (kd:∀i,cO (c.k i)) (ht:cO t) (h0:c.k 0<t) (h1:t<c.k (c.n-1)) (hR:aU c.k t c.n+R=c.p.toNat)
  (hab:w=1∧a=c.k 0∧b=t∨w=0∧a=t∧b=c.k (c.n-1)) (hf:dD (iG a (dr c.k c.n t R)) (c.n+R)=f) (hl:dD (iE b (dr c.k c.n t R)) (c.n+R)=l) (g1:c.p.toNat+1≤f) (g2:f≤l) (g3:l+c.p.toNat+1≤c.n+R) (K:Nat):
  aA P x6 K [dQ c 2000 4000,.rat a 2000,.rat b 2000] [] (aG (dQ (xo (jQ c (c.n+R) (dr c.k c.n t R)) a b f l) sK sB) []):=by
 refine gk (r:=aG (dQ (xo (jQ c (c.n+R) (dr c.k c.n t R)) a b f l) sK sB) []) hT Mq rfl (of_decide_eq_true (by kernel_rfl)) rfl (fun _ cx h00=>?_) K []
 have hk:=nP h00
 have hl4:=hc.len
 refine aq.hole [1] (by kernel_rfl) (aD.bk hT yz hm 60 D0 Vi (nM Mq.dst) ?_)
 intro s' hs'
 show aq _ _ _ (part uN [1]) s' _
 rw[show behind uN [1]=[]from by kernel_rfl]
 refine aq.kK (s2:=⟨aB D0 [.ptr 0 0 3 0 [],.ptr 1 0 3 0 [],.ptr 2 0 3 0 [],.ptr 3 0 3 0 []],[(3,yT),(2,tP b 2000),(1,tP a 2000),(0,x8 c)],4⟩) (dN.le ⟨[(0,0),(1,4096),(2,8192),(3,12288)],rfl,rfl,rfl,aF rfl rfl (aE rfl rfl) (aF rfl rfl (aE rfl rfl) (aF rfl rfl (aE rfl rfl) (aF rfl rfl (aE rfl rfl) trivial)))⟩ hs' hk)
  ((?_:aq P cx nF.ntmps (part uN [1]) _ (de cx (Fin T nF (dQ (xo (jQ c (c.n+R) (dr c.k c.n t R)) a b f l) sK sB)))).mono fun e s' h=>by cases e<;>exact h)
 refine aq.OR (t:=4) (k:=1) rfl rfl rfl rfl rfl ?_
 refine aq.OR (t:=5) (k:=2) rfl rfl rfl rfl rfl ?_
 have hx:∀{j:Nat},w=j→(if j=0 then a else b)=t:=fun {j} h=>by
  subst h
  rcases hab with⟨rfl,_,hb⟩|⟨rfl,ha,_⟩
  ·exact hb
  ·exact ha
 have hx2:∀{j:Nat},j<2→w≠j→(if j=0 then a else b)=c.k 0∨(if j=0 then a else b)=c.k (c.n-1):=fun {j} hj h=>by
  rcases hab with⟨rfl,ha,_⟩|⟨rfl,_,hb⟩
  ·left;rw[show j=0 by omega];exact ha
  ·right;rw[show j=1 by omega];exact hb
 have hK:∀{r:Nat},r≤R→Cq c.n c.p.toNat c.k t r:=fun {r} hr=>Kp hc h0 h1 kd ht (by omega)
 have hrr:∀{j:Nat},eA w R j≤R:=fun {j}=>by unfold eA;split<;>omega
 refine aq.St hT yz hm (x:=Cm) (y:=Ar) (x1:=Bh) (zb:=part Ar [1,1,1]) (y2:=part Bh [1,1,0,0]) [1,0,1] (i:=0) (by kernel_rfl) (by kernel_rfl) (by kernel_rfl) [1,1,0] (j:=1) (by kernel_rfl) (by kernel_rfl) (by kernel_rfl) [1,1] (i2:=2) (by kernel_rfl) (by kernel_rfl) rfl hk (f1:=[]) (f2:=[21]) (f3:=[28]) (f4:=[40,47]) (f5:=[]) 60 nW tT 2 3
  (fun j:Nat=>uT a b (c.n+eA w R j) (dr c.k c.n t (eA w R j)) j) (fun _=>su c) (fun j=>j≤2) (fun j=>j=2) (fun j=>2-j) (fun j=>j<2) (fun _=>False) (fun _=>False)
  (fun j (q:Nat×Bool)=>yd a b (c.n+q.1) (dr c.k c.n t q.1) j q.2) (fun j _=>Bd c (if j=0 then a else b)) (fun j q=>q.2=false∧w=j∧q.1≤R∨q.2=true∧w≠j∧q.1=eA w R j) (fun j q=>q.1=eA w R (j+1)) (fun _ q=>R-q.1)
  ⟨_,aj6,?_⟩ (fun j hj=>⟨_,aiQ,?_⟩) (fun j hj hG=>?_) (fun j hj hG q hq=>⟨_,ae1,?_⟩) (fun j hj hG q hq=>⟨_,ab7,?_⟩) (fun j s' hj hle=>?_) (fun _ _ h=>h.elim) (fun _ _ h=>h.elim)
 ·simp only[aa.all,ax]
  exact⟨by omega,0,Nat.zero_le _,[(0,0),(1,3)],rfl,rfl,rfl,aF rfl rfl (aE rfl rfl) (aF rfl rfl (aE rfl rfl) trivial)⟩
 ·simp only[aa.all,ax,decide_eq_true_eq,decide_eq_false_iff_not]
  exact⟨fun h=>⟨by omega,[(0,0),(1,1)],rfl,rfl,rfl,aF rfl rfl (aE rfl rfl) (aF rfl rfl (aE rfl rfl) trivial)⟩,fun h=>⟨rfl,j,by omega,[(0,0),(1,1)],rfl,rfl,rfl,aF rfl rfl (aE rfl rfl) (aF rfl rfl (aE rfl rfl) trivial)⟩⟩
 ·have hG:j<2:=hG
  rcases(show j=0∨j=1 by omega)with rfl|rfl
  ·refine⟨_,RC,?_⟩
   have z1:w=0→a=t:=hx (j:=0)
   have z2:w≠0→a=c.k 0∨a=c.k (c.n-1):=hx2 (j:=0) (by omega)
   have h:=hK (hrr (j:=0))
   have hR:=hrr (j:=0)
   have e1:((c.n+eA w R 0:Nat)-1:Int).toNat=c.n+eA w R 0-1:=by omega
   simp only[aa.all,ax,decide_eq_true_eq,decide_eq_false_iff_not,cond_false,Int.toNat_zero,e1]
   refine⟨⟨by omega,by omega⟩,fun g=>⟨⟨by omega,by omega,by omega,by omega,g⟩,(eA w R 0,true),.inr ⟨rfl,fun e=>?_,rfl⟩,[(0,0),(1,1),(2,4098)],rfl,rfl,rfl,aF rfl rfl (aE rfl rfl) (aF rfl rfl (aE rfl rfl) (aF rfl rfl (aE rfl rfl) trivial))⟩,fun g=>⟨⟨by omega,by omega,by omega,by omega,g,by omega,by omega,by omega,by omega,by omega⟩,?_⟩⟩
   ·rw[h.f0,z1 e]at g
    rw[g]at h0
    exact Rat.lt_irrefl h0
   ·by_cases e:w=0
    ·have e2:decide (a=dr c.k c.n t (eA w R 0) (c.n+eA w R 0-1))=false:=decide_eq_false fun g2=>by
      rw[h.fl,z1 e]at g2
      rw[g2]at h1
      exact Rat.lt_irrefl h1
     rw[e2]
     exact⟨(eA w R 0,false),.inl ⟨rfl,e,hR⟩,[(0,0),(1,1),(2,4098)],rfl,rfl,rfl,aF rfl rfl (aE rfl rfl) (aF rfl rfl (aE rfl rfl) (aF rfl rfl (aE rfl rfl) trivial))⟩
    ·have e2:decide (a=dr c.k c.n t (eA w R 0) (c.n+eA w R 0-1))=true:=decide_eq_true (by
      rw[h.fl]
      exact(z2 e).resolve_left fun g2=>g (by rw[h.f0];exact g2))
     rw[e2]
     exact⟨(eA w R 0,true),.inr ⟨rfl,e,rfl⟩,[(0,0),(1,1),(2,4098)],rfl,rfl,rfl,aF rfl rfl (aE rfl rfl) (aF rfl rfl (aE rfl rfl) (aF rfl rfl (aE rfl rfl) trivial))⟩
  ·refine⟨_,acu,?_⟩
   have z1:w=1→b=t:=hx (j:=1)
   have z2:w≠1→b=c.k 0∨b=c.k (c.n-1):=hx2 (j:=1) (by omega)
   have h:=hK (hrr (j:=1))
   have hR:=hrr (j:=1)
   have e1:((c.n+eA w R 1:Nat)-1:Int).toNat=c.n+eA w R 1-1:=by omega
   simp only[aa.all,ax,decide_eq_true_eq,decide_eq_false_iff_not,cond_false,Int.toNat_zero,e1]
   refine⟨⟨by omega,by omega⟩,fun g=>⟨⟨by omega,by omega,by omega,by omega,g⟩,(eA w R 1,true),.inr ⟨rfl,fun e=>?_,rfl⟩,[(0,0),(1,1),(2,4098)],rfl,rfl,rfl,aF rfl rfl (aE rfl rfl) (aF rfl rfl (aE rfl rfl) (aF rfl rfl (aE rfl rfl) trivial))⟩,fun g=>⟨⟨by omega,by omega,by omega,by omega,g,by omega,by omega,by omega,by omega,by omega⟩,?_⟩⟩
   ·rw[h.f0,z1 e]at g
    rw[g]at h0
    exact Rat.lt_irrefl h0
   ·by_cases e:w=1
    ·have e2:decide (b=dr c.k c.n t (eA w R 1) (c.n+eA w R 1-1))=false:=decide_eq_false fun g2=>by
      rw[h.fl,z1 e]at g2
      rw[g2]at h1
      exact Rat.lt_irrefl h1
     rw[e2]
     exact⟨(eA w R 1,false),.inl ⟨rfl,e,hR⟩,[(0,0),(1,1),(2,4098)],rfl,rfl,rfl,aF rfl rfl (aE rfl rfl) (aF rfl rfl (aE rfl rfl) (aF rfl rfl (aE rfl rfl) trivial))⟩
    ·have e2:decide (b=dr c.k c.n t (eA w R 1) (c.n+eA w R 1-1))=true:=decide_eq_true (by
      rw[h.fl]
      exact(z2 e).resolve_left fun g2=>g (by rw[h.f0];exact g2))
     rw[e2]
     exact⟨(eA w R 1,true),.inr ⟨rfl,e,rfl⟩,[(0,0),(1,1),(2,4098)],rfl,rfl,rfl,aF rfl rfl (aE rfl rfl) (aF rfl rfl (aE rfl rfl) (aF rfl rfl (aE rfl rfl) trivial))⟩
 ·obtain⟨r,e⟩:=q
  have same:dN [] (yd a b (c.n+r) (dr c.k c.n t r) j e,Bd c (if j=0 then a else b)) (yd a b (c.n+r) (dr c.k c.n t r) j e) (Bd c (if j=0 then a else b)) 3:=⟨[(0,0),(1,1),(2,2)],rfl,rfl,rfl,aF rfl rfl (aE rfl rfl) (aF rfl rfl (aE rfl rfl) (aF rfl rfl (aE rfl rfl) trivial))⟩
  simp only[aa.all,ax,cond_true,decide_eq_true_eq,decide_eq_false_iff_not]
  rcases hq with⟨he,hw,hr⟩|⟨he,hw,hr⟩
  ·have he:e=false:=he
   have hr:r≤R:=hr
   subst he
   have xt:=hx hw
   have h:=hK hr
   have e1:(aU (fun i=>aO (rat (dr c.k c.n t r i) 2000)) t (c.n+r):Int)=((aU c.k t c.n+r:Nat):Int):=congrArg Nat.cast h.tm
   simp only[xt]at same ⊢
   have e2:cF (fun i=>aO (rat (dr c.k c.n t r i) 2000)) t (cy (fun i=>aO (rat (dr c.k c.n t r i) 2000)) t (c.n+r))=dr c.k c.n t (r+1):=h.next h0 h1
   simp only[e1,e2]
   refine⟨fun _=>⟨⟨rfl,by omega,ct (by decide),by decide,by omega,by omega⟩,fun g=>⟨⟨by omega,ct (Nat.le_refl _),by omega,by omega,fun i _=>((hK (r:=r+1) (by omega)).sd i).sz.more (by decide)⟩,(r+1,false),.inl ⟨rfl,hw,show r+1≤R by omega⟩,show R-(r+1)<R-r by omega,[(0,0),(1,1),(2,2)],rfl,rfl,rfl,aF rfl rfl (aE rfl ?_) (aF rfl rfl (aE rfl rfl) (aF rfl rfl (aE rfl rfl) trivial))⟩,fun g=>⟨rfl,(r,false),?_,?_⟩⟩,fun g=>absurd g (by decide)⟩
   ·rfl
   ·have g:¬((aU c.k t c.n+r:Nat):Int)<c.p:=g
    show r=eA w R (j+1)
    unfold eA
    rw[if_pos (by omega)];omega
   ·exact same
  ·have he:e=true:=he
   have hr:r=eA w R j:=hr
   subst he
   refine⟨fun g=>absurd g (by decide),fun _=>⟨rfl,fun g=>absurd g (by decide),fun _=>⟨rfl,(r,true),?_,same⟩⟩⟩
   show r=eA w R (j+1)
   refine hr.trans ?_
   unfold eA
   by_cases c1:w<j
   ·rw[if_pos c1,if_pos (by omega)]
   ·rw[if_neg c1,if_neg (by omega)]
 ·have hG:j<2:=hG
  obtain⟨r,e⟩:=q
  have hq:r=eA w R (j+1):=hq
  subst hq
  simp only[aa.all,ax]
  exact⟨by omega,j+1,by omega,by dsimp only;omega,[(0,0),(1,1)],rfl,rfl,rfl,aF rfl rfl (aE rfl rfl) (aF rfl rfl (aE rfl rfl) trivial)⟩
 ·subst hj
  have e:eA w R 2=R:=by unfold eA;rw[if_pos (by rcases hab with⟨rfl,_⟩|⟨rfl,_⟩<;>omega)]
  simp only[e]at hle
  rw[show behind Cm [1,0,1]=[rL]from by kernel_rfl]
  exact aD.weak rfl hle (aD.one (aaa hk hc hp1 hp6 (by omega) hcm (by omega) (by omega) hf hl g1 g2 g3 fun _ _ h=>h))
end Go.Am.B

/- curve.Split. -/
namespace Go.Am.B
open Go Go.Am.N AV aa ak IntKind
theorem abf:aP P Cv wV (au wV):=aQ aiK (by kernel_rfl) (by kernel_rfl) (by kernel_rfl)
def mI (c:Cu) (a b:Rat):Rat:=if a=c.k 0 then b else a
def oP (c:Cu) (a b:Rat):Nat:=c.n+(c.p.toNat-aU c.k (mI c a b) c.n)
def ri (c:Cu) (a b:Rat):Nat→Rat:=dr c.k c.n (mI c a b) (c.p.toNat-aU c.k (mI c a b) c.n)
def rO (c:Cu) (a b:Rat):Nat:=dD (iG a (ri c a b)) (oP c a b)
def qb (c:Cu) (a b:Rat):Nat:=dD (iE b (ri c a b)) (oP c a b)
def mu (c:Cu) (a b:Rat):Cu:=xo (jQ c (oP c a b) (ri c a b)) a b (rO c a b) (qb c a b)
structure uR (c:Cu) (a b:Rat):Prop where
 kn:Kn c.n c.p.toNat c.k
 p1:1≤c.p
 p6:c.p≤6
 n:c.n<2^27
 m:c.m<2^28
 kd:∀i,cO (c.k i)
 td:cO (mI c a b)
 t0:c.k 0<mI c a b
 t1:mI c a b<c.k (c.n-1)
 ab:a=c.k 0∨b=c.k (c.n-1)
 f1:c.p.toNat+1≤rO c a b
 f2:rO c a b≤qb c a b
 f3:qb c a b+c.p.toNat+1≤oP c a b
noncomputable def K1:Spec:=cD (kC (tw 2000 4000) (kC (fq 2000) (kC (fq 2000) kN))) (fun a=>dQ (mu a.1 a.2.1 a.2.2.1) sK sB) fun a=>[uR a.1 a.2.1 a.2.2.1]
noncomputable def Jr:aS:=nG::(yN,H8)::(mY,HI)::(x6,K1)::(p7,Bp)::[]
abbrev ej (c:Cu):Cu:=⟨c.p,c.n,c.k,c.m,fun i=>b9 (c.f i)⟩
abbrev CL (c:Cu):Cu:=⟨c.p,c.n,c.k,c.m,fun i=>dZ (c.f i)⟩
theorem aaQ {c:Cu} {t:Rat}:bC T Jr [11] 60 wV (au wV) ⟨aN 0 [bh c 2000 2000,.rat t 2000],[],0⟩=
  let o:Prop:=0<1;let k:Prop:=bK (fun i=>.rat (c.k i) 2000) c.n 2000;let f:Prop:=fj (fun i=>bI (c.f i) 2000) c.m 2000;let h:Prop:=jF (fun i=>cP (b9 (c.f i)) 4000) c.m 4000;let no:AV:=.agg [.int .i64 0,.nil,.nil];let e:Int:=(c.n:Int)-1
  let A:Cu:=mu (ej c) (c.k 0) t;let B:Cu:=mu (ej c) t (c.k e.toNat)
  some (ag [o,o,k,f,2000≤2000,dU c] (fork (!(decide (c.k 0<t)&&decide (t<c.k (c.n-1)))) (ag [o,o] (ag [o,o] (leaf .ret [no,no,.int .i64 7]))) (ag [o,k,f,c.n<2^40,c.m<2^30,o]
   (ag [o,o,(0:Int)≤0∧Int.toNat 0<c.n,o,k,h,2000≤2000,2000≤2000,uR (ej c) (c.k 0) t,bK (fun i=>.rat (A.k i) sK) A.n sK,jF (fun i=>cP (A.f i) sB) A.m sB,A.n<2^40,A.m<2^29,o,o,o,o,-(2:Int)^63≤e∧e<(2:Int)^63,(0:Int)≤e∧e.toNat<c.n,k,h,2000≤2000,2000≤2000,uR (ej c) t (c.k e.toNat),bK (fun i=>.rat (B.k i) sK) B.n sK,jF (fun i=>cP (B.f i) sB) B.m sB,B.n<2^40,B.m<2^29,o,o]
    (ag [o,o] (leaf .ret [bh (CL A) (sK+10) (sB+sB),bh (CL B) (sK+10) (sB+sB),.int .i64 0])))))):=by kernel_rfl
theorem aft:∀K args pre r,K1 K args pre=some r→aA P x6 K args pre r:=cj fun⟨c,a,b,_⟩ K hn=>by
 obtain⟨h1,h2,h3,h4,h5,h6,h7,h8,h9,h10,h11,h12,h13⟩:uR c a b:=hn
 have hle:=h1.Bc h8 h9
 by_cases e:a=c.k 0
 ·exact Nq (w:=1) h1 h2 h3 h4 h5 h6 h7 h8 h9 (by omega) (.inl ⟨rfl,e,(if_pos e:mI c a b=b).symm⟩) rfl rfl h11 h12 h13 K
 ·exact Nq (w:=0) h1 h2 h3 h4 h5 h6 h7 h8 h9 (by omega) (.inr ⟨rfl,(if_neg e:mI c a b=a).symm,h10.resolve_left e⟩) rfl rfl h11 h12 h13 K
theorem WT:aW P Jr:=cL (aH Jk (aH Lf (aH aft (aH Hv bp))))
theorem VJ {c:Cu} {P j e:Nat} {K:Nat→Rat} (hc:Kn c.n c.p.toNat c.k) (hp1:1≤c.p) (hm2:(c.m:Int)=(c.n:Int)-c.p-1) (hA:At c.n c.k P):
  fY c (P:Nat) c.p.toNat (fun i=>K (i+(j+1))) e=lO c.k c.p.toNat (fun i=>gV (c.f i) e) P (bQ K (j+1) c.p.toNat):=by
 obtain⟨w1,w2⟩:=hc.wide hA
 have hw:=hA.wide
 have hE:gH c.n c.k c.p.toNat c.m c.p.toNat (P:Nat)=0:=E3 (by omega) rfl (by
  rw[Int.toNat_natCast]
  rintro(h|h|h)
  ·omega
  ·omega
  ·exact absurd h (Rat.not_le.2 hw))
 unfold fY kV
 rw[if_pos hE,Int.toNat_natCast,QB]
 have e1:bQ (fun i=>K (i+(j+1))) 0 c.p.toNat=bQ K (j+1) c.p.toNat:=by
  have:=HV (k:=K) (c:=j+1) (l:=c.p.toNat) (a:=0)
  rw[Nat.add_zero]at this
  rw[←this]
  exact AO fun i _ _=>by rw[Nat.add_comm i (j+1)]
 rw[e1];rfl
theorem NN {c:Cu} {t:Rat} (hc:dG c 5) (ht:cO t) (h0:c.k 0<t) (h1:t<c.k (c.n-1)) (h40:c.m+c.p.toNat≤40):∀{r:Nat},((aU c.k t c.n+r:Nat):Int)≤c.p→(bH c t r).k=dr c.k c.n t r
 |0,_=>rfl
 |r+1,hr=>by
  have hs:=iY.all (r:=r) hc ht h0 h1 h40 (by omega)
  obtain⟨hE,_⟩:=hs.go hc ht h0 h1 (by omega) (by omega)
  have e:bH c t (r+1)=kM (bH c t r) t (bz (bH c t r).n (bH c t r).k t):=if_pos hE
  rw[e]
  show cK (bH c t r).k t (bz (bH c t r).n (bH c t r).k t+1)=cK (dr c.k c.n t r) t (bz (c.n+r) (dr c.k c.n t r) t+1)
  rw[NN hc ht h0 h1 h40 (r:=r) (by omega),hs.n]
theorem Kl {c:Cu} {t:Rat} (hc:dG c 5) (ht:cO t) (h0:c.k 0<t) (h1:t<c.k (c.n-1)) (h40:c.m+c.p.toNat≤40):∀{r:Nat},((aU c.k t c.n+r:Nat):Int)≤c.p→
  mM c.p.toNat c.n c.k (fun e i=>gV (b9 (c.f i)) e) (bH c t r).n (bH c t r).k (fun e i=>gV (b9 ((bH c t r).f i)) e)
 |0,_=>mM.refl
 |r+1,hr=>by
  have hs:=iY.all (r:=r) hc ht h0 h1 h40 (by omega)
  obtain⟨hE,_⟩:=hs.go hc ht h0 h1 (by omega) (by omega)
  have e:bH c t (r+1)=kM (bH c t r) t (bz (bH c t r).n (bH c t r).k t):=if_pos hE
  have ih:=Kl hc ht h0 h1 h40 (r:=r) (by omega)
  have hd:=lQ hc (fun _=>ht) hs.e
  have g0:(bH c t r).k 0<t:=by rw[hs.k0];exact h0
  have g1:t<(bH c t r).k ((bH c t r).n-1):=by rw[hs.k1];exact h1
  have hp:=hs.p
  have hds:dG (bH c t r) (qz r):=hd
  obtain⟨i1,i2,i3⟩:=lK hds.kn.1 g0 g1
  have ht2:aU (bH c t r).k t (bH c t r).n<(bH c t r).p.toNat:=by rw[hs.s,hp];omega
  have key:=mM.ins (t:=t) ih (by rw[←hp];exact hds.kn.1) g0 g1 i1 i2 i3 (by rw[←hp];exact ht2)
  rw[e]
  have ef:(fun e i=>gV (b9 ((kM (bH c t r) t (bz (bH c t r).n (bH c t r).k t)).f i)) e)=fun e=>fU (bH c t r).k c.p.toNat (fun i=>gV (b9 ((bH c t r).f i)) e) t (bz (bH c t r).n (bH c t r).k t):=by
   funext e i
   have hpos:=Qd (i:=i) hds.kn hds.pos g0 g1 i1 i2 i3
   show gV (b9 (dZ (j0 (bH c t r) t (bz (bH c t r).n (bH c t r).k t) i))) e=_
   rw[MM (pK hpos),←hp]
   match e with
   |0=>rfl
   |1=>rfl
   |2=>rfl
   |e+3=>rfl
  rw[ef]
  exact key
theorem So {c:Cu} {t:Rat} {j:Nat} (hc:dG c 5) (ht:cO t) (h0:c.k 0<t) (h1:t<c.k (c.n-1)) (h40:c.m+c.p.toNat≤40) (hj:j<(bM c t).m):dZ (j7 (ej c) (bM c t).n (bM c t).k j)=(bM c t).f j:=by
 obtain⟨k1,k2,k3,k4,k5⟩:=id hc.kn
 have hle:=k1.Bc h0 h1
 have hR:((aU c.k t c.n+(c.p.toNat-aU c.k t c.n):Nat):Int)≤c.p:=by omega
 have hs:=iY.all hc ht h0 h1 h40 hR
 have hsub:=Kl hc ht h0 h1 h40 hR
 have hd:dG (bH c t (c.p.toNat-aU c.k t c.n)) (qz (c.p.toNat-aU c.k t c.n)):=lQ hc (fun _=>ht) hs.e
 have hK:=hd.kn.1
 have hp:=hs.p
 have hm2:=hs.m
 have hn2:=hs.n
 have f0:=hs.k0
 have f1:=hs.k1
 have hpos:=hd.pos j
 show dZ (j7 (ej c) (bH c t (c.p.toNat-aU c.k t c.n)).n (bH c t (c.p.toNat-aU c.k t c.n)).k j)=(bH c t (c.p.toNat-aU c.k t c.n)).f j
 have hj:j<(bH c t (c.p.toNat-aU c.k t c.n)).m:=hj
 generalize bH c t (c.p.toNat-aU c.k t c.n)=d at*
 rw[hp]at hK
 have hl:=hK.len
 obtain⟨Q,hQ⟩:∃Q,Q=fR d.k d.n j:=⟨_,rfl⟩
 obtain⟨g1,g2,g3⟩:j≤Q∧Q<j+(c.p.toNat+1)∧d.k Q<d.k (Q+1):=by
  rw[hQ]
  exact Ft (n:=d.n) (k:=d.k) (pc:=oN d.k d.n) (fun _=>rfl) (fun _ _=>rfl) (hK.K5 (by omega)) (by omega) (by omega)
 have hA:At d.n d.k Q:=⟨by omega,hK.sorted,g3⟩
 obtain⟨P,hP,hI,hE⟩:=hsub.ajq hK hA g1 (by omega)
 have hI2:fK c.n c.k (d.k Q)=P:=by
  unfold fK
  rw[if_neg,hI]
  unfold dM
  have m1:=hK.mono (show 0≤Q by omega) (by omega)
  have m2:=hK.mono (show Q≤d.n-1 by omega) (by omega)
  rw[f0]at m1
  rw[f1]at m2
  rintro(h|h)<;>grind
 have key:∀e,fY (ej c) (P:Nat) c.p.toNat (fun i=>d.k (i+(j+1))) e=gV (b9 (d.f j)) e:=fun e=>(VJ (c:=ej c) k1 k2 k5 hP).trans (hE e)
 have e1:j7 (ej c) d.n d.k j=b9 (d.f j):=by
  show nh (ej c) (fK c.n c.k (d.k (fR d.k d.n j))) c.p.toNat (fun q=>d.k (q+(j+1)))=_
  rw[←hQ,hI2]
  unfold nh
  rw[key 0,key 1,key 2,key 3]
  rfl
 rw[e1]
 exact tN (pK hpos)
theorem abU {c:Cu} {t:Rat} (hc:dG c 5) (ht:cO t) (h0:c.k 0<t) (h1:t<c.k (c.n-1)) (h40:c.m+c.p.toNat≤40):uR (ej c) (c.k 0) t∧uR (ej c) t (c.k (c.n-1))∧bw (bh (CL (mu (ej c) (c.k 0) t)) (sK+10) (sB+sB)) (bh (iU c t) 2000 sE)∧bw (bh (CL (mu (ej c) t (c.k (c.n-1)))) (sK+10) (sB+sB)) (bh (iT c t) 2000 sE)∧(mu (ej c) (c.k 0) t).n<2^28∧(mu (ej c) (c.k 0) t).m<2^28∧(mu (ej c) t (c.k (c.n-1))).n<2^28∧(mu (ej c) t (c.k (c.n-1))).m<2^28:=by
 obtain⟨k1,k2,k3,k4,k5⟩:=id hc.kn
 have hle:=k1.Bc h0 h1
 have hR:((aU c.k t c.n+(c.p.toNat-aU c.k t c.n):Nat):Int)≤c.p:=by omega
 have hs:iY c t (c.p.toNat-aU c.k t c.n):=iY.all hc ht h0 h1 h40 hR
 have hd:dG (bM c t) (qz (c.p.toNat-aU c.k t c.n)):=lQ hc (fun _=>ht) hs.e
 have hk:(bM c t).k=dr c.k c.n t (c.p.toNat-aU c.k t c.n):=NN hc ht h0 h1 h40 hR
 have hn:(bM c t).n=c.n+(c.p.toNat-aU c.k t c.n):=hs.n
 have hpole:∀{j:Nat},j<(bM c t).m→dZ (j7 (ej c) (bM c t).n (bM c t).k j)=(bM c t).f j:=fun {j} hj=>So hc ht h0 h1 h40 hj
 have t1:mI (ej c) (c.k 0) t=t:=if_pos rfl
 have t2:mI (ej c) t (c.k (c.n-1))=t:=if_neg fun e=>by rw[show(ej c).k 0=c.k 0 from rfl]at e;rw[e]at h0;exact Rat.lt_irrefl h0
 have n1:oP (ej c) (c.k 0) t=(bM c t).n:=by unfold oP;rw[t1,hn]
 have n2:oP (ej c) t (c.k (c.n-1))=(bM c t).n:=by unfold oP;rw[t2,hn]
 have q1:ri (ej c) (c.k 0) t=(bM c t).k:=by unfold ri;rw[t1,hk]
 have q2:ri (ej c) t (c.k (c.n-1))=(bM c t).k:=by unfold ri;rw[t2,hk]
 have f0:(bM c t).k 0=c.k 0:=hs.k0
 have f1:(bM c t).k ((bM c t).n-1)=c.k (c.n-1):=hs.k1
 have hp:(bM c t).p=c.p:=hs.p
 have hm2:=hd.kn.2.2.2.2
 have hK:=hd.kn.1
 have htm:aU (bM c t).k t (bM c t).n=(bM c t).p.toNat:=by
  rw[hp];exact hs.s.trans (by omega)
 have u1:rO (ej c) (c.k 0) t=dD (iG (c.k 0) (bM c t).k) (bM c t).n:=by unfold rO;rw[n1,q1]
 have u2:qb (ej c) (c.k 0) t=dD (iE t (bM c t).k) (bM c t).n:=by unfold qb;rw[n1,q1]
 have u3:rO (ej c) t (c.k (c.n-1))=dD (iG t (bM c t).k) (bM c t).n:=by unfold rO;rw[n2,q2]
 have u4:qb (ej c) t (c.k (c.n-1))=dD (iE (c.k (c.n-1)) (bM c t).k) (bM c t).n:=by unfold qb;rw[n2,q2]
 have r1:iU c t=s8 (bM c t) t (bz (bM c t).n (bM c t).k t):=if_pos ⟨h0,h1⟩
 have r2:iT c t=uh (bM c t) t (bz (bM c t).n (bM c t).k t):=if_pos ⟨h0,h1⟩
 obtain⟨i1,i2,i3⟩:=lK hK (by rw[f0];exact h0) (by rw[f1];exact h1)
 obtain⟨s1,s2,s3⟩:=hK.split (by rw[f0];exact h0) (by rw[f1];exact h1) i1 i2 i3 htm
 obtain⟨v1,v2,v3,v4⟩:=hK.firsts (by rw[f0];exact h0) (by rw[f1];exact h1) i1 i2 i3 htm
 obtain⟨w1,w2⟩:=hK.k9 (by rw[f0];exact h0) (by rw[f1];exact h1) i1 i2 i3
 have hfirst:=hK.first
 have hlast:=hK.last
 have hkd:=hd.kd
 have hl:=hK.len
 have hdn:(bM c t).n≤c.n+6:=by rw[hn];omega
 rw[hp]at s1 s2 s3 v1 v2 v4 hfirst hlast hl hm2
 have F1:dD (iG (c.k 0) (bM c t).k) (bM c t).n=c.p.toNat+1:=by rw[←f0];exact v1
 have F2:dD (iE t (bM c t).k) (bM c t).n=bz (bM c t).n (bM c t).k t+1-c.p.toNat:=v2
 have F3:dD (iG t (bM c t).k) (bM c t).n=bz (bM c t).n (bM c t).k t+1:=v3
 have F4:dD (iE (c.k (c.n-1)) (bM c t).k) (bM c t).n=(bM c t).n-c.p.toNat-1:=by rw[←f1];exact v4
 have hl2:=k1.len
 have hp5:(ej c).p.toNat=c.p.toNat:=rfl
 rw[hp]at w1 w2
 refine⟨⟨k1,k2,k3,show c.n<2^27 by omega,show c.m<2^28 by omega,hc.kd,by rw[t1];exact ht,by rw[t1];exact h0,by rw[t1];exact h1,.inl rfl,by rw[u1,F1];exact Nat.le_refl _,by rw[u1,u2,F1,F2];omega,by rw[u2,n1,F2,hp5];omega⟩,⟨k1,k2,k3,show c.n<2^27 by omega,show c.m<2^28 by omega,hc.kd,by rw[t2];exact ht,by rw[t2];exact h0,by rw[t2];exact h1,.inr rfl,by rw[u3,F3,hp5];omega,by rw[u3,u4,F3,F4];omega,by rw[u4,n2,F4,hp5];omega⟩,?_⟩
 rw[r1,r2]
 unfold mu
 rw[u1,u2,u3,u4,n1,n2,q1,q2,F1,F2,F3,F4]
 clear u1 u2 u3 u4 n1 n2 q1 q2 F1 F2 F3 F4 r1 r2 t1 t2 v1 v2 v3 v4 hs hd hk hn
 generalize bM c t=d at*
 generalize bz d.n d.k t=a at*
 have hdp:d.p.toNat=c.p.toNat:=by rw[hp]
 have up:∀{q:Pl},bw (bI q (sB+sB)) (bI q sE):=fun {q}=>cB ⟨cB ⟨bG rfl (by decide),bG rfl (by decide),bG rfl (by decide),trivial⟩,bG rfl (by decide),trivial⟩
 have kn:∀{x y:Rat},x=y→cO y→bw (.rat x (sK+10)) (.rat y 2000):=fun {x y} h hy=>by rw[h];exact ew rfl (hy.sz.more (by decide))
 refine⟨?_,?_,?_,?_,?_,?_⟩
 ·show bw (.agg [.int .i64 c.p,.aj 3 (c.p.toNat+1+(a+1-c.p.toNat-(c.p.toNat+1))+(c.p.toNat+1)) fun i=>.rat (nU c.p.toNat (c.k 0) t d.k (c.p.toNat+1) (a+1-c.p.toNat) i) (sK+10),.aj 12 (a+1-c.p.toNat-(c.p.toNat+1-1-c.p.toNat)) fun i=>bI (dZ (j7 (ej c) d.n d.k (c.p.toNat+1-1-c.p.toNat+i))) (sB+sB)]) (.agg [.int .i64 d.p,.aj 3 (a+1+1) fun i=>.rat (if i<a+1 then d.k i else t) 2000,.aj 12 (a+1-d.p.toNat) fun i=>bI (d.f i) sE])
  rw[hp,show c.p.toNat+1+(a+1-c.p.toNat-(c.p.toNat+1))+(c.p.toNat+1)=a+1+1 by omega,show a+1-c.p.toNat-(c.p.toNat+1-1-c.p.toNat)=a+1-c.p.toNat by omega]
  refine cB ⟨.refl _,fT fun i hi=>kn ?_ ?_,fT fun i hi=>?_,trivial⟩
  ·unfold nU
   by_cases c1:i<c.p.toNat+1
   ·rw[if_pos c1,if_pos (by omega),hfirst i (by omega),f0]
   ·rw[if_neg c1]
    by_cases c2:i<c.p.toNat+1+(a+1-c.p.toNat-(c.p.toNat+1))
    ·rw[if_pos c2,if_pos (by omega)];congr 1;omega
    ·rw[if_neg c2]
     by_cases c3:i<a+1
     ·rw[if_pos c3,s1 i (by omega) (by omega)]
     ·rw[if_neg c3]
  ·split
   ·exact hkd i
   ·exact ht
  ·rw[show c.p.toNat+1-1-c.p.toNat+i=i by omega,hpole (by omega)];exact up
 ·show bw (.agg [.int .i64 c.p,.aj 3 (c.p.toNat+1+(d.n-c.p.toNat-1-(a+1))+(c.p.toNat+1)) fun i=>.rat (nU c.p.toNat t (c.k (c.n-1)) d.k (a+1) (d.n-c.p.toNat-1) i) (sK+10),.aj 12 (d.n-c.p.toNat-1-(a+1-1-c.p.toNat)) fun i=>bI (dZ (j7 (ej c) d.n d.k (a+1-1-c.p.toNat+i))) (sB+sB)]) (.agg [.int .i64 d.p,.aj 3 (1+(d.n-(a+1-d.p.toNat))) fun i=>.rat (if i<1 then t else d.k (a+1-d.p.toNat+(i-1))) 2000,.aj 12 (d.m-(a-d.p.toNat)) fun i=>bI (d.f (a-d.p.toNat+i)) sE])
  rw[hp,show c.p.toNat+1+(d.n-c.p.toNat-1-(a+1))+(c.p.toNat+1)=1+(d.n-(a+1-c.p.toNat)) by omega,show d.n-c.p.toNat-1-(a+1-1-c.p.toNat)=d.m-(a-c.p.toNat) by omega]
  refine cB ⟨.refl _,fT fun i hi=>kn ?_ ?_,fT fun i hi=>?_,trivial⟩
  ·unfold nU
   by_cases c1:i<c.p.toNat+1
   ·rw[if_pos c1]
    by_cases c3:i<1
    ·rw[if_pos c3]
    ·rw[if_neg c3,s1 (a+1-c.p.toNat+(i-1)) (by omega) (by omega)]
   ·rw[if_neg c1,if_neg (show¬i<1 by omega)]
    by_cases c2:i<c.p.toNat+1+(d.n-c.p.toNat-1-(a+1))
    ·rw[if_pos c2];congr 1;omega
    ·rw[if_neg c2,hlast (a+1-c.p.toNat+(i-1)) (by omega) (by omega),f1]
  ·split
   ·exact ht
   ·exact hkd _
  ·rw[show a+1-1-c.p.toNat+i=a-c.p.toNat+i by omega,hpole (by omega)];exact up
 ·show c.p.toNat+1+(a+1-c.p.toNat-(c.p.toNat+1))+(c.p.toNat+1)<2^28
  omega
 ·show a+1-c.p.toNat-(c.p.toNat+1-1-c.p.toNat)<2^28
  omega
 ·show c.p.toNat+1+(d.n-c.p.toNat-1-(a+1))+(c.p.toNat+1)<2^28
  omega
 ·show d.n-c.p.toNat-1-(a+1-1-c.p.toNat)<2^28
  omega
theorem ab9:∀K args pre q,Eg K args pre=some q→aA P Cv K args pre q:=cj fun⟨c,t,_⟩ K hn=>by
 obtain⟨hc,ht,h40,hp5⟩:=hn
 have hc:dG c 5:=hc
 have ht:cO t:=ht
 have h40:c.m+c.p.toNat≤40:=h40
 obtain⟨k1,k2,k3,k4,k5⟩:=id hc.kn
 have hl:=k1.len
 refine bJ (r:=aG (.tuple [bh (iU c t) 2000 sE,bh (iT c t) 2000 sE,.int .i64 (lN c t)]) []) hT WT hm abf rfl (of_decide_eq_true (by kernel_rfl)) rfl 60 aaQ (fun _=>?_) K []
 have e1:((c.n:Int)-1).toNat=c.n-1:=by omega
 simp only[aa.all,ax,decide_eq_true_eq,decide_eq_false_iff_not,Bool.not_eq_true',Bool.not_eq_false',Bool.and_eq_true,Bool.and_eq_false_iff,e1]
 refine⟨⟨by omega,by omega,ct (Nat.le_refl _),gU (Nat.le_refl _),Nat.le_refl _,hc.kn⟩,fun ho=>⟨⟨by omega,by omega⟩,⟨by omega,by omega⟩,?_⟩,fun hi=>?_⟩
 ·have hno:¬(c.k 0<t∧t<c.k (c.n-1)):=fun h=>ho.elim (fun g=>g h.1) fun g=>g h.2
  rw[show iU c t=gM from if_neg hno,show iT c t=gM from if_neg hno,show lN c t=7 from if_neg hno]
  exact⟨mQ,mQ,.refl _,trivial⟩
 ·obtain⟨g1,g2,g3,g4,g5,g6,g7,g8⟩:=abU hc ht hi.1 hi.2 h40
  refine⟨⟨by omega,ct (Nat.le_refl _),gU (Nat.le_refl _),by omega,by omega,by omega⟩,⟨by omega,by omega,⟨by omega,by rw[Int.toNat_zero];omega⟩,by omega,ct (Nat.le_refl _),m9 (Nat.le_refl _),Nat.le_refl _,Nat.le_refl _,g1,ct (Nat.le_refl _),m9 (Nat.le_refl _),by omega,by omega,by omega,by omega,by omega,by omega,by omega,⟨by omega,by omega⟩,ct (Nat.le_refl _),m9 (Nat.le_refl _),Nat.le_refl _,Nat.le_refl _,g2,ct (Nat.le_refl _),m9 (Nat.le_refl _),by omega,by omega,by omega,by omega⟩,⟨by omega,by omega⟩,?_⟩
  rw[show lN c t=0 from if_pos hi]
  exact⟨g3,g4,.refl _,trivial⟩
end Go.Am.B

/- The numbers of drawn curves are short; parameters within their domains. -/
namespace Go.Am.B
open Go Go.Am.N AV aa ak IntKind
def Af (x:Rat):Prop:=∃z:Int,x=(z:Rat)/2∧-4≤z∧z≤28
theorem BK {z:Int}:(z:Rat)/2*55440=((27720*z:Int):Rat):=by
 rw[Rat.intCast_mul,Rat.div_def,show((27720:Int):Rat)=(2:Rat)⁻¹*55440 by decide+kernel];grind
theorem Af.isD {x:Rat} (h:Af x):cO x:=by
 obtain⟨z,e,h1,h2⟩:=h
 exact⟨27720*z,by rw[e,BK],by omega,by omega⟩
theorem Ex {n m:Nat} {f:Nat→AV} {a d:Int} {b:Bool} (h:cN n f a) (hd:1≤d) (hm4:m≤4) (i:Nat):Af ((fo n f a d m b).k i):=by
 have a1:=gX (n:=n) (f:=f) (a:=a) (m:=d) (by omega)
 have hJ:=FO (n:=n) (f:=f) (a:=bA n a) (m:=m)
 have hp:1≤jb n f a d:=by unfold jb;omega
 obtain⟨z,e,h1,h2⟩:=(vh (p:=jb n f a d) h.next hp (jv n f (bA n a) m)).1.M0 i
 exact⟨z,e,h1,by omega⟩
theorem Xr {x y:Int} {k:Nat} (hx:x.natAbs<2^k) (hy:y≠0) (hy2:y.natAbs<2^k):Sz ((x:Rat)/(y:Rat)) k:=by
 rw[←IL hy];exact Ed (by omega) hx hy2
theorem EF {n:Nat} {f:Nat→AV} {a:Int}:Sz (gi n f a) 3:=by
 have a1:=gX (n:=n) (f:=f) (a:=a) (m:=13) (by omega)
 have a2:=ia (n:=n) (f:=f) (a:=a) (m:=13) (by omega)
 have b1:=gX (n:=n) (f:=f) (a:=bA n (bA n a)) (m:=4) (by omega)
 have b2:=ia (n:=n) (f:=f) (a:=bA n (bA n a)) (m:=4) (by omega)
 unfold gi
 split
 ·exact Xr (by omega) (by omega) (by omega)
 ·exact qZ (by omega) (by decide)
theorem Mb {n m:Nat} {f:Nat→AV} {a d:Int} (h:cN n f a) (hd:1≤d) (hd6:d≤6) (hm4:m≤4):dG (fo n f a d m false) 5:=by
 obtain⟨k1,k2,k3,k4,k5,k6⟩:=Hp (m:=m) (b:=false) h hd
 have hw:∀i,Sz ((fo n f a d m false).f i).d 2:=fun i=>by
  have b1:=gX (n:=n) (f:=f) (a:=jk n f (jh n f (lp n f a d m) i)) (m:=3) (by omega)
  have b2:=ia (n:=n) (f:=f) (a:=jk n f (jh n f (lp n f a d m) i)) (m:=3) (by omega)
  exact qZ (x:=1+cS n f (jk n f (jh n f (lp n f a d m) i)) 3) (n:=2) (by omega) (by decide)
 refine⟨⟨k1,k2,by omega,by omega,k4⟩,fun i=>?_,fun i=>(Ex h hd hm4 i).isD,fun i=>?_,fun i=>?_,fun i=>?_,fun i=>(hw i).more (by decide)⟩
 ·have:=(k6 i).1
  grind
 ·exact(hw i).mul EF
 ·exact(hw i).mul EF
 ·have hz:((fo n f a d m false).f i).n.z=gi n f (fM n f (fM n f (jh n f (lp n f a d m) i))):=rfl
  show Sz (((fo n f a d m false).f i).d*((fo n f a d m false).f i).n.z) 5
  rw[hz]
  exact(hw i).mul EF
theorem Rz {d:Int}:∃q:Int,nD d*27720=(q:Rat)∧0≤q∧q≤27720:=by
 have hv0:=Int.emod_nonneg (IntKind.i64.wrap (d.tdiv 17)) (show(12:Int)≠0 by omega)
 have hv1:=Int.emod_lt_of_pos (IntKind.i64.wrap (d.tdiv 17)) (show(0:Int)<12 by omega)
 obtain⟨v,hv⟩:∃v,v=Ay d:=⟨_,rfl⟩
 have hv2:1≤v∧v≤12:=by rw[hv];unfold Ay;omega
 have hu0:=Int.emod_nonneg d (show v+1≠0 by omega)
 have hu1:=Int.emod_lt_of_pos d (show 0<v+1 by omega)
 unfold nD
 rw[←hv]
 generalize d%(v+1)=u at*
 obtain⟨w,hw⟩:∃w:Int,v*w=27720:=by
  rcases(show v=1∨v=2∨v=3∨v=4∨v=5∨v=6∨v=7∨v=8∨v=9∨v=10∨v=11∨v=12 by omega)with h|h|h|h|h|h|h|h|h|h|h|h<;>subst h
  ·exact⟨27720,rfl⟩
  ·exact⟨13860,rfl⟩
  ·exact⟨9240,rfl⟩
  ·exact⟨6930,rfl⟩
  ·exact⟨5544,rfl⟩
  ·exact⟨4620,rfl⟩
  ·exact⟨3960,rfl⟩
  ·exact⟨3465,rfl⟩
  ·exact⟨3080,rfl⟩
  ·exact⟨2772,rfl⟩
  ·exact⟨2520,rfl⟩
  ·exact⟨2310,rfl⟩
 have hw0:0≤w:=by
  by_cases c:0≤w
  ·exact c
  ·have:=Int.mul_le_mul_of_nonneg_left (show w≤-1 by omega) (show 0≤v by omega)
   omega
 refine⟨u*w,?_,Int.mul_nonneg hu0 hw0,?_⟩
 ·have hvr:(v:Rat)≠0:=by
   intro e
   have:v=0:=Rat.intCast_inj.1 (e:(v:Rat)=((0:Int):Rat))
   omega
  have e:(27720:Rat)=(v:Rat)*(w:Rat):=by rw[←Rat.intCast_mul,hw];rfl
  rw[e,Rat.intCast_mul,Rat.div_def]
  have:(u:Rat)*(v:Rat)⁻¹*((v:Rat)*(w:Rat))=(u:Rat)*(((v:Rat)*(v:Rat)⁻¹)*(w:Rat)):=by grind
  rw[this,Rat.mul_inv_cancel _ hvr,Rat.one_mul]
 ·have:=Int.mul_le_mul_of_nonneg_right (show u≤v by omega) hw0
  omega
theorem LY {x y:Rat} {d:Int} (hx:Af x) (hy:Af y) (hxy:x≤y):cO (x+nD d*(y-x)):=by
 obtain⟨z0,e0,a1,a2⟩:=hx
 obtain⟨z1,e1,b1,b2⟩:=hy
 obtain⟨q,hq,q1,q2⟩:=Rz (d:=d)
 have o:27720*z0≤27720*z1:=cO.order (by rw[←BK,e0]) (by rw[←BK,e1]) hxy
 have n1:=Int.mul_nonneg q1 (show 0≤z1-z0 by omega)
 have n2:=Int.mul_le_mul_of_nonneg_right q2 (show 0≤z1-z0 by omega)
 refine⟨27720*z0+q*(z1-z0),?_,by omega,by omega⟩
 rw[Rat.intCast_add,Rat.intCast_mul q,Rat.intCast_sub,←hq,←BK,e0,e1]
 have e2:(z0:Rat)/2=(z0:Rat)*(1/2):=by rw[Rat.div_def,show((2:Rat)⁻¹)=1/2 by decide+kernel]
 have e3:(z1:Rat)/2=(z1:Rat)*(1/2):=by rw[Rat.div_def,show((2:Rat)⁻¹)=1/2 by decide+kernel]
 rw[e2,e3]
 grind
end Go.Am.B

/- made.Ts. -/
namespace Go.Am.B
open Go Go.Am.N AV aa ak IntKind
theorem adv:aP P xq xl (au xl):=aQ ahG (by kernel_rfl) (by kernel_rfl) (by kernel_rfl)
abbrev tr (w:Nat→Int) (m:Nat):AV:=.aj 1 m fun i=>.int .i64 (w i)
def LA (f:Nat→AV) (n:Nat):Prop:=∀i,i<n→f i=.int .i64 (intOf (f i))
def Po:AV→Option (Nat×(Nat→AV))
 |.aj 1 n f=>some (n,f)
 |_=>none
def ZL:Kind (Nat×(Nat→Int)):=⟨fun v=>match Po v with
 |some (n,f)=>some ((n,fun i=>intOf (f i)),[LA f n])
 |none=>none,fun a=>tr a.2 a.1,fun {v a q} h hq=>by
  split at h
  ·rename_i h1
   simp only[Option.some.injEq,Prod.mk.injEq]at h
   obtain⟨rfl,rfl⟩:=h
   unfold Po at h1
   split at h1
   ·simp only[Option.some.injEq,Prod.mk.injEq]at h1
    obtain⟨rfl,rfl⟩:=h1
    exact fT fun i hi=>cX (hq i hi)
   ·simp at h1
  ·simp at h⟩
noncomputable def Ff:aS:=[(Pe,kX T [nG] [] 60 Od)]
noncomputable def CT:aS:=nG::(Ff++Ge)
noncomputable abbrev wK:Code:=au xl
abbrev xL:List Nat:=[2,1,5,6]
abbrev xZ (n:Nat) (z:Nat→Int) (i:Nat):List AV:=[.ptr 0 0 3 0 [],tr z n,.own 1 3 0 i,.int .i64 i]
abbrev vm (c:Cu) (t:Nat→Rat) (i:Nat):aC:=[(1,qM 2000 i t),(0,⟨false,true,3,1,fun _=>bh c 64 64⟩)]
def jf (c:Cu) (d:Int):Rat:=c.k 0+nD d*(c.k (c.n-1)-c.k 0)
theorem ahN {c:Cu} {n:Nat} {z:Nat→Int}:aJ T CT [] 60 xL (before wK [1,1,0,1]) ⟨aN 0 [bh c 64 64,tr z n],[],0⟩=
  let c1:Nat:=(aT (bh c 64 64)).size;some (leaf normal ([ptr 0 0 c1 0 [],aj 1 n fun i↦int i64 (z i),nil,int i64 (0:Int)],[((0:Nat),ah.mk false true c1 1 fun x↦agg [int i64 c.p,aj 3 c.n fun i↦rat (c.k i) 64,aj 12 c.m fun i↦agg [agg [rat (c.f i).n.x 64,rat (c.f i).n.y 64,rat (c.f i).n.z 64],rat (c.f i).d 64]])])):=by kernel_rfl
theorem SY {c:Cu} {n i:Nat} {z:Nat→Int} {t:Nat→Rat}:aJ T CT [11,14] 60 xL [part wK [1,1,0,1,0,0]] ⟨aB xL (xZ n z i),vm c t i,2⟩=
  let c11:Nat:=Int.toNat (0:Int);let c10:AV:=aj 1 n fun i↦int i64 (z i);let c8:AV:=ptr 0 0 3 0 [];let c7:Int:=(2:Int)^63;let c6:Int:=(↑c.n:Int)-(1:Int);let c5:Int:=(↑i:Int);let c4:Prop:=0<1;let c2:List (Nat×ah):=[((0:Nat),ah.mk false true 3 1 fun x↦agg [int i64 c.p,aj 3 c.n fun i↦rat (c.k i) 64,aj 12 c.m fun i↦agg [agg [rat (c.f i).n.x 64,rat (c.f i).n.y 64,rat (c.f i).n.z 64],rat (c.f i).d 64]])];let c12:Int:=c5+(1:Int);let c9:Bool:=decide (c5<(↑n:Int));let c3:aa (List AV×aC):=leaf (exit 0) ([c8,c10,own 1 3 0 i,int i64 c5],((1:Nat),ah.mk true true 3 i fun i↦rat (t i) 2000)::c2);let c1:aa (List AV×aC):=ag [c4,c4,(0:Int)≤(0:Int)∧c11<c.n,c4,c4,-c7≤c6∧c6<c7,(0:Int)≤c6∧c6.toNat<c.n,c4,c4,(0:Int)≤c5∧c5.toNat<n,c4,(1:Nat)*3≤2^24,(i+1)*((56:Nat)+1)*2≤2^47] (ag [-c7≤c12∧c12<c7] (leaf normal ([c8,c10,own 69634 3 0 (i+1),int i64 c12],((69634:Nat),ah.mk true true 3 (i+1) fun i_1↦if i_1<i then rat (t i_1) 2000 else nth [rat (c.k c11+nD (z c5.toNat)*(c.k c6.toNat-c.k c11)) ((64:Nat)+((64:Nat)+((64:Nat)+64+1))+1)] (rat 0 1) (i_1-i+0))::c2)));some (fork c9 (ag [c9=true] (fork (bif true then decide (c5<(6:Int))else false) c1 c3)) (ag [c9=false] (fork false c1 c3))):=by kernel_rfl
theorem adH {c:Cu} {n i:Nat} {z:Nat→Int} {t:Nat→Rat}:bY T CT [] 60 xl [part wK [1,1,1]] ⟨aB xL (xZ n z i),vm c t i,2⟩=
  some (leaf ret [aj 3 i fun i↦rat (t (i+0)) 2000]):=by kernel_rfl
theorem Km:aW P Ff:=aH (mE hT (cL bp) hm (aQ WS (by kernel_rfl) (by kernel_rfl) (by kernel_rfl)) _ _) bp
theorem Za:aW P CT:=cL (sO Km Qc)
theorem agv {c:Cu} {n:Nat} {z:Nat→Int} (h2:1≤c.n) (h3:c.n<2^40) (hn:n≤6) (K:Nat):aA P xq K [bh c 64 64,tr z n] [] (aG (bq (fun i=>jf c (z i)) n 2000) []):=by
 refine fD (r:=aG (bq (fun i=>jf c (z i)) n 2000) []) hT Za hm adv rfl (of_decide_eq_true (by kernel_rfl)) rfl [1,1,0,1] (i:=0) (y:=part wK [1,1,0,1,0,0]) (z:=part wK [1,1,1]) (by kernel_rfl) (by kernel_rfl) (by kernel_rfl) (f1:=[]) (f2:=[11,14]) (f3:=[]) 60 xL 2
  (fun i:Nat=>xZ n z i) (fun i=>vm c (fun i=>jf c (z i)) i) (fun i=>i≤n) (fun i=>i=n) (fun i=>n-i) (fun _=>⟨⟨_,ahN,?_⟩,fun i hi=>⟨_,SY,?_⟩,fun i hi=>⟨_,adH,?_⟩⟩) K []
 ·simp only[aa.all,ax]
  exact⟨0,Nat.zero_le _,[(0,0)],rfl,rfl,rfl,nT rfl (by omega) (by omega) (aF rfl rfl (aE rfl rfl) trivial)⟩
 ·simp only[aa.all,ax,cond_true,decide_eq_true_eq,decide_eq_false_iff_not,Int.toNat_natCast]
  have e1:((c.n:Int)-1).toNat=c.n-1:=by omega
  have st:∀k,k=0→(k=0∧∃b,b=n∧dN [] (xZ n z i,vm c (fun i=>jf c (z i)) i) (xZ n z b) (vm c (fun i=>jf c (z i)) b) 2)∨i<n:=fun k hk=>by
   by_cases c1:i<n
   ·exact .inr c1
   ·exact .inl ⟨hk,i,by omega,[(0,0),(1,1)],rfl,rfl,rfl,bB rfl rfl rfl (fun _ _=>aE rfl rfl) (aF rfl rfl (aE rfl rfl) trivial)⟩
  refine⟨fun h=>⟨h,fun h6=>⟨⟨by omega,by omega,⟨by omega,by rw[Int.toNat_zero];omega⟩,by omega,by omega,by omega,by omega,by omega,by omega,by omega,by omega,by omega,by omega⟩,by omega,i+1,by omega,by dsimp only;omega,[(0,0),(1,69634)],rfl,rfl,rfl,bB rfl rfl rfl (fun q hq=>jL (y:=fun i=>jf c (z i)) (fun _ _=>rfl) (by rw[e1];rfl) (Nat.le_refl _) (by decide) hq) (aF rfl rfl (aE rfl rfl) trivial)⟩,fun h6=>absurd h6 (by omega)⟩,fun h=>⟨h,fun g=>absurd g (by decide),fun _=>(st 0 rfl).resolve_right (by omega)⟩⟩
 ·simp only[aa.all,ax]
  subst hi
  exact .refl _
def I5:Spec:=cD (kC (ij 64 64) (kC ZL kN)) (fun a=>bq (fun i=>jf a.1 (a.2.1.2 i)) a.2.1.1 2000) fun a=>[1≤a.1.n,a.1.n<2^40,a.2.1.1≤6]
theorem af2:∀K args pre q,I5 K args pre=some q→aA P xq K args pre q:=cj fun⟨c,⟨n,z⟩,_⟩ K hn=>agv hn.1 hn.2.1 hn.2.2 K
end Go.Am.B
