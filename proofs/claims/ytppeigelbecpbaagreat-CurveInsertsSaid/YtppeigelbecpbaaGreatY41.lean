/- ref10.Split. -/
import Derived.Test.YtppeigelbecpbaaGreatY40
import Derived.Test.YtppeigelbecpbaaGreatY39
import Derived.Test.YtppeigelbecpbaaGreatZ2
import Derived.Test.YtppeigelbecpbaaGreatY37
set_option linter.unusedVariables false
namespace Go.Am.B
open Go Go.Am.N AV aa ak IntKind
theorem Ox:aP P zC l6 (au l6):=aQ ace (by kernel_rfl) (by kernel_rfl) (by kernel_rfl)
noncomputable def r5:aS:=nG::(wk,FA)::(qe,pE)::(sC,F8)::(CT,pX)::pI
noncomputable abbrev xZ:Code:=au l6
noncomputable abbrev oM:Code:=part xZ [1,1,1]
abbrev sA:List Nat:=[4,5,6,2,3]
abbrev BQ:List AV:=[.ptr 0 0 3 0 [],.ptr 1 0 3 0 [],.int .i64 0,.ptr 2 0 3 0 [],.ptr 3 0 3 0 []]
abbrev Dg (c:Cu) (t:Rat):aC:=[(3,tP t 2000),(2,⟨false,true,3,1,fun _=>bg c 2000 sE⟩),(1,uc),(0,uc)]
abbrev xW:List Nat:=[4,5,6,2,3,7,8,9]
abbrev HV (i:Nat):List AV:=[.ptr 0 0 3 0 [],.ptr 1 0 3 0 [],.int .i64 0,.ptr 2 0 3 0 [],.ptr 3 0 3 0 [],.ptr 4 0 3 0 [],.ptr 5 0 3 0 [],.int .i64 i]
abbrev qw (c:Cu) (t:Rat) (f g:Nat→Rat) (x y:Nat):aC:=[(6,qc 2000 x f),(7,qc 2000 y g),(5,⟨false,true,3,1,fun _=>.agg [.int .i64 c.p,.own 7 3 0 y,.nil]⟩),(4,⟨false,true,3,1,fun _=>.agg [.int .i64 c.p,.own 6 3 0 x,.nil]⟩),(3,tP t 2000),(2,⟨false,true,3,1,fun _=>bg c 2000 sE⟩),(1,uc),(0,uc)]
theorem afc {c:Cu} {t:Rat}:aJ T r5 [16] 60 sA (before xZ [1,1,0]) ⟨aN 0 [bg c 2000 2000,.rat t 2000],[],0⟩=
  let c13:AV:=rat t 2000;let c12:Rat:=aO (rat (c.k 0) 2000);let c11:Nat:=(aT (bg c 2000 2000)).size;let c10:Rat:=aO (rat (c.k (c.n-1)) 2000);let c8:AV:=ptr 8192 0 3 0 [];let c7:AV:=ptr 12288 0 3 0 [];let c6:Prop:=0<1;let c5:AV:=agg [int i64 (0:Int),nil,nil];let c9:ah:=ah.mk false true 3 1 fun x↦c5;let c4:Nat×ah:=((4096:Nat),ah.mk false true (aT c13).size 1 fun x↦c13);let c3:List AV:=[ptr 0 0 c11 0 [],ptr 4096 0 (aT c13).size 0 []];let c2:ah:=ah.mk false true 3 1 fun j↦if(j==0)=true then aT (agg c5.kids)else c5;let c1:Nat×ah:=((0:Nat),ah.mk false true c11 1 fun x↦agg [int i64 c.p,aj 3 c.n fun i↦rat (c.k i) 2000,aj 12 c.m fun i↦agg [agg [rat (c.f i).n.x 2000,rat (c.f i).n.y 2000,rat (c.f i).n.z 2000],rat (c.f i).d 2000]]);some (ag [c6,c6,bK (fun i↦rat (c.k i) 2000) c.n 2000,(2000:Nat)≤2000,(1:Nat)≤c.n,c.n<2^40] (fork (!(decide (c12<t)&&decide (t<c10))) (ag [c6,c6] (leaf ret (c8::c7::int i64 (7:Int)::c3,[c4,c1,((12288:Nat),c2),((8192:Nat),c2)]))) (leaf normal (c8::c7::int i64 (0:Int)::c3,[c4,c1,((12288:Nat),c9),((8192:Nat),c9)])))):=by kernel_rfl
theorem adD {c:Cu} {t:Rat}:aJ T r5 [25] 60 sA [part xZ [1,1,0,0,0]] ⟨aB sA BQ,Dg c t,4⟩=
  let c6:Int:=(↑(aU (fun i↦aO (rat (c.k i) 2000)) t c.n):Int);let c5:Nat×ah:=((3:Nat),ah.mk false true 3 1 fun x↦rat t 2000);let c4:Cu:=Cu.mk c.p c.n (fun i↦aO (rat (c.k i) 2000)) c.m fun i↦fA (bI (c.f i) sE);let c3:Prop:=0<1;let c2:List AV:=[ptr 0 0 3 0 [],ptr 1 0 3 0 [],int i64 (0:Int),ptr 2 0 3 0 [],ptr 3 0 3 0 []];let c1:ah:=ah.mk false true 3 1 fun x↦agg [int i64 (0:Int),nil,nil];some (ag [c3,c3,bK (fun i↦rat (c.k i) 2000) c.n sK,(2000:Nat)≤sK,c.n<2^40,c3] (fork (decide (c6<c.p)) (ag [c3,c3,bK (fun i↦rat (c.k i) 2000) c.n 2000,fo (fun i↦bI (c.f i) sE) c.m 2000,(2000:Nat)≤2000,ec c4,aO (rat (c.k 0) 2000)<t,t<aO (rat (c.k (c.n-1)) 2000),∀(i:Nat),aO (rat (c.f i).d sE)≠0,c3] (leaf normal (c2,[c5,((2:Nat),ah.mk false true 3 1 fun j↦if(j==0)=true then aT (bg (kH c4 t (bz c.n (fun i↦aO (rat (c.k i) 2000)) t)) 2002 sE)else bg c 2000 sE),((1:Nat),c1),((0:Nat),c1)]))) (leaf (exit 0) (c2,[c5,((2:Nat),ah.mk false true 3 1 fun x↦agg [int i64 c.p,aj 3 c.n fun i↦rat (c.k i) 2000,aj 12 c.m fun i↦agg [agg [rat (c.f i).n.x 4294967298,rat (c.f i).n.y 4294967298,rat (c.f i).n.z 4294967298],rat (c.f i).d 4294967298]]),((1:Nat),c1),((0:Nat),c1)])))):=by kernel_rfl
theorem acZ {c:Cu} {t:Rat}:aJ T r5 [] 60 xW (before oM [1,0,1]) ⟨aB sA BQ,Dg c t,4⟩=
  let c5:AV:=int i64 (0:Int);let c2:Prop:=0<1;let c1:AV:=agg [c5,nil,nil];let c4:List AV:=c1.kids.set 0 (aT (int i64 c.p));let c3:ah:=ah.mk false true 3 1 fun x↦c1;some (ag [c2,c2,c2,(1:Nat)*3≤2^24,c2,c2] (leaf normal ([ptr 0 0 3 0 [],ptr 1 0 3 0 [],c5,ptr 2 0 3 0 [],ptr 3 0 3 0 [],ptr 32772 0 3 0 [],ptr 36868 0 3 0 [],c5],[((24580:Nat),ah.mk true true 3 1 fun i↦nth [rat t 2000] (rat 0 1) i),((36868:Nat),ah.mk false true 3 1 fun j↦if(j==0)=true then aT (agg (c4.set 1 (aT (own (nat_lit 24579+1) 3 0 1))))else c1),((32772:Nat),ah.mk false true 3 1 fun j↦if(j==0)=true then aT (agg c4)else c1),((3:Nat),ah.mk false true 3 1 fun x↦rat t 2000),((2:Nat),ah.mk false true 3 1 fun x↦agg [int i64 c.p,aj 3 c.n fun i↦rat (c.k i) 2000,aj 12 c.m fun i↦agg [agg [rat (c.f i).n.x 4294967298,rat (c.f i).n.y 4294967298,rat (c.f i).n.z 4294967298],rat (c.f i).d 4294967298]]),((1:Nat),c3),((0:Nat),c3)]))):=by kernel_rfl
theorem X0 {c:Cu} {t:Rat} {f g:Nat→Rat} {x y i:Nat}:aJ T r5 [41,52,64] 60 xW [part oM [1,0,1,0,0]] ⟨aB xW (HV i),qw c t f g x y,8⟩=
  let c32:AV:=rat 0 1;let c30:AV:=int i64 (0:Int);let c29:Nat:=y+1;let c27:Prop:=2000<2^41;let c26:Prop:=1*3≤2^24;let c25:AV:=ptr 2 0 3 0 [];let c24:AV:=ptr 3 0 3 0 [];let c23:AV:=ptr 1 0 3 0 [];let c22:AV:=ptr 0 0 3 0 [];let c21:AV:=ptr 5 0 3 0 [];let c20:AV:=ptr 4 0 3 0 [];let c16:Nat×ah:=((7:Nat),ah.mk true true 3 y fun i↦rat (g i) 2000);let c15:Nat×ah:=((6:Nat),ah.mk true true 3 x fun i↦rat (f i) 2000);let c12:Int:=(↑i:Int);let c11:Prop:=0<1;let c10:AV:=agg [int i64 c.p,own 6 3 0 x,nil];let c6:AV:=agg [int i64 c.p,own 7 3 0 y,nil];let c31:Int:=c12+(1:Int);let c28:AV:=rat (c.k c12.toNat) 2000;let c19:Nat×ah:=((5:Nat),ah.mk false true 3 1 fun x↦c6);let c18:Nat×ah:=((4:Nat),ah.mk false true 3 1 fun x↦c10);let c17:Prop:=(0:Int)≤c12∧c12.toNat<c.n;let c14:ah:=ah.mk false true 3 1 fun x↦agg [c30,nil,nil];let c13:Int:=dc (c.k c12.toNat) t;let c9:ah:=ah.mk true true 3 c29 fun i↦if i<y then rat (g i) 2000 else nth [c28] c32 (i-y+0);let c8:Nat×ah:=((94216:Nat),ah.mk true true 3 (x+1) fun i↦if i<x then rat (f i) 2000 else nth [c28] c32 (i-x+0));let c7:List Prop:=[c11,c11,c17,c26,c29*((56:Nat)+1)*2≤2^47,c11];let c5:List Prop:=[-(2:Int)^63≤c31∧c31<(2:Int)^63];let c2:List AV:=[c22,c23,c30,c25,c24,c20,c21,int i64 c31];let c1:List (Nat×ah):=[((3:Nat),ah.mk false true 3 1 fun x↦rat t 2000),((2:Nat),ah.mk false true 3 1 fun x↦agg [int i64 c.p,aj 3 c.n fun i↦rat (c.k i) 2000,aj 12 c.m fun i↦agg [agg [rat (c.f i).n.x 4294967298,rat (c.f i).n.y 4294967298,rat (c.f i).n.z 4294967298],rat (c.f i).d 4294967298]]),((1:Nat),c14),((0:Nat),c14)];let c4:List (Nat×ah):=((4:Nat),ah.mk false true 3 1 fun j↦if(j==0)=true then agg (c10.kids.set 1 (aT (own (nat_lit 94215+1) 3 0 (x+1))))else c10)::c1;let c3:List (Nat×ah):=c16::c15::c19::c18::c1;some (ag [c11] (fork (decide (c12<(↑c.n:Int))) (ag [c11,c17,c11,c27,c27] (fork (decide (c13≤(0:Int))) (ag [c11,c11,c17,c26,(x+1)*((56:Nat)+1)*2≤2^47,c11] (fork (decide (c13≥(0:Int))) (ag c7 (ag c5 (leaf normal (c2,((147464:Nat),c9)::c8::((5:Nat),ah.mk false true 3 1 fun j↦if(j==0)=true then agg (c6.kids.set 1 (aT (own (nat_lit 147463+1) 3 0 c29)))else c6)::c4)))) (ag c5 (leaf normal (c2,c16::c8::c19::c4))))) (fork (decide (c13≥(0:Int))) (ag c7 (ag c5 (leaf normal (c2,((102408:Nat),c9)::c15::((5:Nat),ah.mk false true 3 1 fun j↦if(j==0)=true then agg (c6.kids.set 1 (aT (own (nat_lit 102407+1) 3 0 c29)))else c6)::c18::c1)))) (ag c5 (leaf normal (c2,c3)))))) (leaf (exit 2) ([c22,c23,c30,c25,c24,c20,c21,int i64 c12],c3)))):=by kernel_rfl
theorem Sv {c:Cu} {t:Rat} {f g:Nat→Rat} {x y i:Nat}:bY T r5 [] 60 l6 [part oM [1,1]] ⟨aB xW (HV i),qw c t f g x y,8⟩=
  let c9:AV:=rat 0 1;let c8:Nat:=2^47;let c7:Nat:=x+1;let c5:Int:=(↑c.m:Int);let c4:Nat:=Int.toNat (0:Int);let c2:Prop:=0<1;let c1:Int:=(↑c7:Int)-c.p-(1:Int);let c6:Int:=c1-(1:Int);let c3:Nat:=c6.toNat;some (ag [c2,c2,(1:Nat)*3≤2^24,c7*((56:Nat)+1)*2≤c8,c2] (ag [c2,c2,bK (fun i↦if i+0<x then rat (f (i+0)) 2000 else nth [rat t 2000] c9 (i+0-x+0)) c7 sK,c7<2^40,-(2:Int)^40<c.p,c.p<(2:Int)^40] (ag [c2,c2,(0:Int)≤(0:Int)∧(0:Int)≤c1∧c1≤c1∧c1≤c5,(0:Nat)<c1.toNat-c4∧(c1.toNat-c4)*((224:Nat)+1)*2≤c8,c2] (ag [c2,c2,-(2:Int)^63≤c6∧c6<(2:Int)^63,(0:Int)≤c6∧c6≤c5∧c5≤c5∧c5≤c5,(0:Nat)<c5.toNat-c3∧(c5.toNat-c3)*((224:Nat)+1)*2≤c8,c2] (ag [c2,c2,c2,c2] (ag [c2,c2] (leaf ret [agg [int i64 c.p,aj 3 c7 fun i↦if i+0<x then rat (f (i+0)) 2000 else nth [rat t 2000] c9 (i+0-x+0),aj 12 (c1.toNat-c4) fun i↦agg [agg [rat (c.f (i+0+c4)).n.x 4294967298,rat (c.f (i+0+c4)).n.y 4294967298,rat (c.f (i+0+c4)).n.z 4294967298],rat (c.f (i+0+c4)).d 4294967298]],agg [int i64 c.p,aj 3 y fun i↦rat (g (i+0)) 2000,aj 12 (c5.toNat-c3) fun i↦agg [agg [rat (c.f (i+0+c3)).n.x 4294967298,rat (c.f (i+0+c3)).n.y 4294967298,rat (c.f (i+0+c3)).n.z 4294967298],rat (c.f (i+0+c3)).d 4294967298]],int i64 (0:Int)]))))))):=by kernel_rfl
theorem aad {c:Cu} {t:Rat}:jc T l6 .ret ⟨aB [4,5,6,2,3] [.ptr 8192 0 3 0 [],.ptr 12288 0 3 0 [],.int .i64 7,.ptr 0 0 3 0 [],.ptr 4096 0 3 0 []],[(4096,tP t 2000),(0,⟨false,true,3,1,fun _=>bg c 2000 2000⟩),(12288,⟨false,true,3,1,fun j=>if(j==0)=true then aT (.agg (AV.kids (.agg [.int .i64 0,.nil,.nil])))else .agg [.int .i64 0,.nil,.nil]⟩),(8192,⟨false,true,3,1,fun j=>if(j==0)=true then aT (.agg (AV.kids (.agg [.int .i64 0,.nil,.nil])))else .agg [.int .i64 0,.nil,.nil]⟩)],12289⟩=
  let c1:AV:=agg [int i64 (0:Int),nil,nil];some (ag [(0:Nat)<1,(0:Nat)<1] (leaf ret [c1,c1,int i64 (7:Int)])):=by kernel_rfl
theorem Hl:aY P r5:=cK (aG Lz (aG F7 (aG PA (aG ae0 qp))))
theorem Ht {k:Nat→Rat} {t:Rat} {q:Nat}:∀{m:Nat},aU (cL k t q) t (q+1+m)=aU k t (q+m)+1
 |0=>by
  have pre:∀i,i≤q→aU (cL k t q) t i=aU k t i:=fun i=>by
   induction i with
   |zero=>intro _;rfl
   |succ i ih=>intro h;rw[pz,pz,ih (by omega),gW (by omega)]
  show aU (cL k t q) t (q+1)=aU k t q+1
  rw[pz,pre q (Nat.le_refl _),mV,if_pos rfl]
 |m+1=>by
  rw[←Nat.add_assoc,pz,Ht (m:=m),gT (by omega),←Nat.add_assoc,pz,show q+1+m-1=q+m by omega];omega
theorem Kn.vQ {n p:Nat} {k:Nat→Rat} {t:Rat} (h:Kn n p k) (h0:k 0<t) (h1:t<k (n-1)):aU k t n≤p:=by
 obtain⟨a1,a2,a3⟩:=lN h h0 h1
 obtain⟨g1,g2⟩:=h.kU h0 h1 a1 a2 a3
 have hp:=h.p1
 generalize bz n k t=a at*
 have:=HP (k:=k) (t:=t) (lo:=a+1-p) (hi:=a+1) (by omega) (n:=n) fun j hj hjt=>by
  constructor
  ·by_cases c:a+1-p≤j
   ·exact c
   ·exfalso
    have hj0:1≤j:=by
     by_cases c2:1≤j
     ·exact c2
     ·rw[show j=0 by omega]at hjt;rw[hjt]at h0;exact absurd h0 Rat.lt_irrefl
    have m:=h.mult j hj0 (by omega)
    have m2:=h.mono (show j+p≤a by omega) (by omega)
    grind
  ·by_cases c:j<a+1
   ·exact c
   ·have:=h.mono (show a+1≤j by omega) hj
    grind
 omega
abbrev bH (c:Cu) (t:Rat):Nat→Cu:=gF c fun _=>t
structure ja (c:Cu) (t:Rat) (r:Nat):Prop where
 e:eI c (fun _=>t) r=0
 p:(bH c t r).p=c.p
 n:(bH c t r).n=c.n+r
 m:(bH c t r).m=c.m+r
 s:aU (bH c t r).k t (bH c t r).n=aU c.k t c.n+r
 k0:(bH c t r).k 0=c.k 0
 k1:(bH c t r).k ((bH c t r).n-1)=c.k (c.n-1)
theorem adv {c:Cu} {t:Rat} (h0:c.k 0<t) (h1:t<c.k (c.n-1)) (h2:(aU c.k t c.n:Int)<c.p) (h3:c.m<40):cr c t=0:=by
 unfold cr;rw[if_neg (fun g=>g ⟨h0,h1⟩),if_neg (by omega),if_neg (by omega)]
theorem YN {d:Cu} {t:Rat} (hd:ec d) (hE:cr d t=0):(dJ d t).p=d.p∧(dJ d t).n=d.n+1∧(dJ d t).m=d.m+1∧aU (dJ d t).k t (dJ d t).n=aU d.k t d.n+1∧(dJ d t).k 0=d.k 0∧(dJ d t).k ((dJ d t).n-1)=d.k (d.n-1):=by
 obtain⟨b1,b2,b3,b4⟩:=IE hE
 obtain⟨i1,i2,i3⟩:=lN hd.1 b1 b2
 rw[show dJ d t=kH d t (bz d.n d.k t)from if_pos hE]
 generalize bz d.n d.k t=a at*
 have:=Ht (k:=d.k) (t:=t) (q:=a+1) (m:=d.n-(a+1))
 rw[show a+1+1+(d.n-(a+1))=d.n+1 by omega,show a+1+(d.n-(a+1))=d.n by omega]at this
 refine⟨rfl,rfl,rfl,this,(show cL d.k t (a+1) 0=_ from gW (by omega)),?_⟩
 show cL d.k t (a+1) (d.n+1-1)=_
 rw[gT (by omega)];rfl
theorem ja.go {c:Cu} {t:Rat} {r:Nat} (h:ja c t r) (hc:dH c 5) (ht:cO t) (h0:c.k 0<t) (h1:t<c.k (c.n-1)) (h2:((aU c.k t c.n+r:Nat):Int)<c.p) (h3:c.m+r<40):cr (bH c t r) t=0∧ja c t (r+1):=by
 obtain⟨a1,a2,a3,a4,a5,a6,a7⟩:=h
 have hE:cr (bH c t r) t=0:=adv (by rw[a6];exact h0) (by rw[a7];exact h1) (by rw[a5,a2];exact h2) (by rw[a4];exact h3)
 have hd:=lJ hc (fun _=>ht) a1
 obtain⟨b1,b2,b3,b4,b5,b6⟩:=YN hd.kn hE
 exact⟨hE,H7 a1 hE,b1.trans a2,by rw[show(bH c t (r+1)).n=(bH c t r).n+1 from b2,a3];rfl,by rw[show(bH c t (r+1)).m=(bH c t r).m+1 from b3,a4];rfl,b4.trans (by rw[a5];rfl),b5.trans a6,b6.trans a7⟩
theorem ja.all {c:Cu} {t:Rat} (hc:dH c 5) (ht:cO t) (h0:c.k 0<t) (h1:t<c.k (c.n-1)) (h40:c.m+c.p.toNat≤40):∀{r:Nat},((aU c.k t c.n+r:Nat):Int)≤c.p→ja c t r
 |0,_=>⟨rfl,rfl,rfl,rfl,rfl,rfl,rfl⟩
 |r+1,h=>((ja.all hc ht h0 h1 h40 (r:=r) (by omega)).go hc ht h0 h1 (by omega) (by omega)).2
def uP (d:Cu) (t:Rat) (a:Nat):Cu:=⟨d.p,a+1+1,fun i=>if i<a+1 then d.k i else t,a+1-d.p.toNat,d.f⟩
def tC (d:Cu) (t:Rat) (a:Nat):Cu:=⟨d.p,1+(d.n-(a+1-d.p.toNat)),fun i=>if i<1 then t else d.k (a+1-d.p.toNat+(i-1)),d.m-(a-d.p.toNat),fun i=>d.f (a-d.p.toNat+i)⟩
def bM (c:Cu) (t:Rat):Cu:=bH c t (c.p.toNat-aU c.k t c.n)
def iZ (c:Cu) (t:Rat):Cu:=if c.k 0<t∧t<c.k (c.n-1)then uP (bM c t) t (bz (bM c t).n (bM c t).k t)else gJ
def iV (c:Cu) (t:Rat):Cu:=if c.k 0<t∧t<c.k (c.n-1)then tC (bM c t) t (bz (bM c t).n (bM c t).k t)else gJ
def lO (c:Cu) (t:Rat):Int:=if c.k 0<t∧t<c.k (c.n-1)then 0 else 7
def kq (a i:Nat):Nat:=if i≤a then i else a
theorem acq {d:Cu} {t:Rat} {a:Nat} {cx:Ctx} {Q:ak→aI→Prop} (hk:Kept [] cx) (hd:Kn d.n d.p.toNat d.k) (hp1:1≤d.p) (hp6:d.p≤6) (hm2:(d.m:Int)=(d.n:Int)-d.p-1) (hn:d.n<2^20) (h0:d.k 0<t) (h1:t<d.k (d.n-1)) (hlo:d.k a≤t) (hhi:t<d.k (a+1)) (ha:a+1<d.n) (ht:aU d.k t d.n=d.p.toNat)
  (hQ:∀e s',dh cx (Fin T l6 (.tuple [bg (uP d t a) 2000 sE,bg (tC d t a) 2000 sE,.int .i64 0])) e s'→Q e s'):aq P cx l6.ntmps oM ⟨aB sA BQ,Dg d t,4⟩ Q:=by
 obtain⟨r1,r2,r3⟩:=hd.split h0 h1 hlo hhi ha ht
 obtain⟨g1,g2⟩:=hd.kU h0 h1 hlo hhi ha
 have hv:∀{rl:List (Nat×Nat)} {k x y y':Nat},aV rl k=some x→y=y'→fu rl (.agg [.int .i64 d.p,.own x 3 0 y,.nil]) (.agg [.int .i64 d.p,.own k 3 0 y',.nil]):=fun h e=>kG ⟨⟨rfl,aK rfl⟩,⟨rfl,cT h rfl e⟩,⟨rfl,aK rfl⟩,trivial⟩
 have ka:∀i,i<d.n→(dc (d.k i) t≤0↔i≤a):=fun i hi=>by
  rw[LC]
  constructor
  ·intro h
   by_cases c1:i≤a
   ·exact c1
   ·have:=hd.mono (show a+1≤i by omega) hi
    grind
  ·intro h
   have:=hd.mono h (by omega)
   grind
 have kb:∀i,i<d.n→(dc (d.k i) t≥0↔a+1-d.p.toNat≤i):=fun i hi=>by
  rw[yE]
  constructor
  ·intro h
   by_cases c1:a+1-d.p.toNat≤i
   ·exact c1
   ·have:=r2 i (by omega)
    grind
  ·intro h
   by_cases c1:i≤a
   ·rw[r1 i c1 (by omega)];exact Rat.le_refl
   ·have:=hd.mono (show a+1≤i by omega) hi
    grind
 refine aq.jC hT Hl hm (x:=oM) [1,0,1] (i:=2) (y:=part oM [1,0,1,0,0]) (z:=part oM [1,1]) (by kernel_rfl) (by kernel_rfl) (by kernel_rfl) (by kernel_rfl) hk (f1:=[]) (f2:=[41,52,64]) 60 xW 8
  (fun i:Nat=>HV i) (fun i=>qw d t d.k (fun q=>if q<1 then t else d.k (a+1-d.p.toNat+(q-1))) (kq (a+1) i) (1+(i-(a+1-d.p.toNat)))) (fun i=>i≤d.n) (fun i=>i=d.n) (fun i=>d.n-i) (fun _=>False) ⟨_,acZ,?_⟩ (fun i hi=>⟨_,X0,?_⟩) (fun i hi=>?_) (fun _ _ h=>h.elim)
 ·simp only[aa.all,ax]
  refine⟨by omega,0,Nat.zero_le _,[(0,0),(1,1),(2,2),(3,3),(4,32772),(5,36868),(7,24580)],rfl,rfl,rfl,?_⟩
  show jb _ _ _ (qw d t d.k (fun q=>if q<1 then t else d.k (a+1-d.p.toNat+(q-1))) 0 (1+(0-(a+1-d.p.toNat))))
  rw[show 1+(0-(a+1-d.p.toNat))=1 by omega]
  refine nQ rfl (by omega) (by omega) (bB rfl rfl rfl (fun q hq=>?_) (aF rfl rfl (hv rfl rfl) (aF rfl rfl (kG ⟨⟨rfl,aK rfl⟩,⟨rfl,pe (by omega)⟩,⟨rfl,aK rfl⟩,trivial⟩) (aF rfl rfl (aE rfl rfl) (aF rfl rfl (aE rfl rfl) (aF rfl rfl (aE rfl rfl) (aF rfl rfl (aE rfl rfl) trivial)))))))
  exact RD (y:=fun q=>if q<1 then t else d.k (a+1-d.p.toNat+(q-1))) rfl (Nat.le_refl _) hq
 ·have cA:kq (a+1) i≤a+1:=by unfold kq;split<;>omega
  have hA1:i≤a→kq (a+1) i=i∧kq (a+1) (i+1)=i+1:=fun h=>⟨if_pos (by omega),if_pos (by omega)⟩
  have hA2:a<i→kq (a+1) i=a+1∧kq (a+1) (i+1)=a+1:=fun h=>by
   refine⟨?_,if_neg (by omega)⟩
   unfold kq;split<;>omega
  simp only[aa.all,ax,decide_eq_true_eq,decide_eq_false_iff_not,Int.toNat_natCast]
  refine⟨by omega,fun h1=>⟨by omega,fun g1=>⟨by omega,fun g2=>⟨by omega,by omega,i+1,by omega,by dsimp only;omega,[(0,0),(1,1),(2,2),(3,3),(4,4),(5,5),(6,94216),(7,147464)],rfl,rfl,rfl,?_⟩,fun g2=>⟨by omega,i+1,by omega,by dsimp only;omega,[(0,0),(1,1),(2,2),(3,3),(4,4),(5,5),(6,94216),(7,7)],rfl,rfl,rfl,?_⟩⟩,
   fun g1=>⟨fun g2=>⟨by omega,by omega,i+1,by omega,by dsimp only;omega,[(0,0),(1,1),(2,2),(3,3),(4,4),(5,5),(6,6),(7,102408)],rfl,rfl,rfl,?_⟩,fun g2=>?_⟩⟩,fun h1=>⟨rfl,i,by omega,[(0,0),(1,1),(2,2),(3,3),(4,4),(5,5),(6,6),(7,7)],rfl,rfl,rfl,?_⟩⟩
  ·have g1:=(ka i (by omega)).1 g1
   have g2:=(kb i (by omega)).1 g2
   obtain⟨e1,e2⟩:=hA1 g1
   show jb 8 _ _ (qw d t d.k (fun q=>if q<1 then t else d.k (a+1-d.p.toNat+(q-1))) (kq (a+1) (i+1)) (1+(i+1-(a+1-d.p.toNat))))
   rw[e1,e2,show 1+(i+1-(a+1-d.p.toNat))=1+(i-(a+1-d.p.toNat))+1 by omega]
   exact bB rfl rfl rfl (fun q hq=>jG (y:=d.k) (fun _ _=>rfl) rfl (Nat.le_refl _) (Nat.le_refl _) hq) (bB rfl rfl rfl (fun q hq=>jG (y:=fun q=>if q<1 then t else d.k (a+1-d.p.toNat+(q-1))) (fun _ _=>rfl) (by rw[if_neg (by omega)];congr 1;omega) (Nat.le_refl _) (Nat.le_refl _) hq) (aF rfl rfl (hv rfl rfl) (aF rfl rfl (hv rfl rfl) (aF rfl rfl (aE rfl rfl) (aF rfl rfl (aE rfl rfl) (aF rfl rfl (aE rfl rfl) (aF rfl rfl (aE rfl rfl) trivial)))))))
  ·have g1:=(ka i (by omega)).1 g1
   have g2:¬(a+1-d.p.toNat≤i):=fun h=>g2 ((kb i (by omega)).2 h)
   obtain⟨e1,e2⟩:=hA1 g1
   show jb 8 _ _ (qw d t d.k (fun q=>if q<1 then t else d.k (a+1-d.p.toNat+(q-1))) (kq (a+1) (i+1)) (1+(i+1-(a+1-d.p.toNat))))
   rw[e1,e2,show 1+(i+1-(a+1-d.p.toNat))=1+(i-(a+1-d.p.toNat)) by omega]
   exact bB rfl rfl rfl (fun q hq=>jG (y:=d.k) (fun _ _=>rfl) rfl (Nat.le_refl _) (Nat.le_refl _) hq) (bB rfl rfl rfl (fun _ _=>aE rfl rfl) (aF rfl rfl (hv rfl rfl) (aF rfl rfl (hv rfl rfl) (aF rfl rfl (aE rfl rfl) (aF rfl rfl (aE rfl rfl) (aF rfl rfl (aE rfl rfl) (aF rfl rfl (aE rfl rfl) trivial)))))))
  ·have g1:a<i:=Nat.not_le.1 fun h=>g1 ((ka i (by omega)).2 h)
   obtain⟨e1,e2⟩:=hA2 g1
   show jb 8 _ _ (qw d t d.k (fun q=>if q<1 then t else d.k (a+1-d.p.toNat+(q-1))) (kq (a+1) (i+1)) (1+(i+1-(a+1-d.p.toNat))))
   rw[e1,e2,show 1+(i+1-(a+1-d.p.toNat))=1+(i-(a+1-d.p.toNat))+1 by omega]
   exact bB rfl rfl rfl (fun _ _=>aE rfl rfl) (bB rfl rfl rfl (fun q hq=>jG (y:=fun q=>if q<1 then t else d.k (a+1-d.p.toNat+(q-1))) (fun _ _=>rfl) (by rw[if_neg (by omega)];congr 1;omega) (Nat.le_refl _) (Nat.le_refl _) hq) (aF rfl rfl (hv rfl rfl) (aF rfl rfl (hv rfl rfl) (aF rfl rfl (aE rfl rfl) (aF rfl rfl (aE rfl rfl) (aF rfl rfl (aE rfl rfl) (aF rfl rfl (aE rfl rfl) trivial)))))))
  ·have g1:a<i:=Nat.not_le.1 fun h=>g1 ((ka i (by omega)).2 h)
   exact absurd ((kb i (by omega)).2 (by omega)) g2
  ·exact bB rfl rfl rfl (fun _ _=>aE rfl rfl) (bB rfl rfl rfl (fun _ _=>aE rfl rfl) (aF rfl rfl (hv rfl rfl) (aF rfl rfl (hv rfl rfl) (aF rfl rfl (aE rfl rfl) (aF rfl rfl (aE rfl rfl) (aF rfl rfl (aE rfl rfl) (aF rfl rfl (aE rfl rfl) trivial)))))))
 ·subst hi
  rw[show kq (a+1) d.n=a+1 from if_neg (by omega)]
  refine aq.jJ ((aD.fin hT Hl hm 60 Sv (by kernel_rfl) ?_).mono fun _ _ h=>hQ _ _ (.inl h))
  have e1:((a+1+1:Nat):Int)-d.p-1=((a+1-d.p.toNat:Nat):Int):=by omega
  have e2:((a+1-d.p.toNat:Nat):Int)-1=((a-d.p.toNat:Nat):Int):=by omega
  simp only[aa.all,ax,e1,e2,Int.toNat_natCast,Int.toNat_zero]
  have row:∀i,i<a+1+1→bw (if i+0<a+1 then AV.rat (d.k (i+0)) 2000 else nth [AV.rat t 2000] (.rat 0 1) (i+0-(a+1)+0)) (.rat (if i<a+1 then d.k i else t) 2000):=fun i hi=>by
   by_cases c1:i<a+1
   ·rw[if_pos (show i+0<a+1 from c1),if_pos c1];exact .refl _
   ·rw[if_neg (show¬i+0<a+1 from c1),if_neg c1,show i+0-(a+1)+0=0 by omega];exact .refl _
  have hL:0<a+1-d.p.toNat:=by omega
  (repeat' with_reducible refine And.intro ?_ ?_)
  all_goals first|omega|skip
  ·intro i hi
   have h:=row i hi
   by_cases c1:i<a+1
   ·show bw (if i+0<a+1 then AV.rat (d.k (i+0)) 2000 else _) (.rat (aO (if i+0<a+1 then AV.rat (d.k (i+0)) 2000 else _)) sK)
    rw[if_pos (show i+0<a+1 from c1)];exact bF rfl (by decide)
   ·show bw (if i+0<a+1 then AV.rat (d.k (i+0)) 2000 else nth [AV.rat t 2000] (.rat 0 1) (i+0-(a+1)+0)) (.rat (aO (if i+0<a+1 then AV.rat (d.k (i+0)) 2000 else nth [AV.rat t 2000] (.rat 0 1) (i+0-(a+1)+0))) sK)
    rw[if_neg (show¬i+0<a+1 from c1),show i+0-(a+1)+0=0 by omega];exact bF rfl (by decide)
  ·exact⟨cC ⟨.refl _,fT row,.refl _,trivial⟩,cC ⟨.refl _,.refl _,lg rfl fun i _=>by show bI (d.f (i+0+(a-d.p.toNat))) _=bI (d.f (a-d.p.toNat+i)) _;rw[Nat.add_zero,Nat.add_comm],trivial⟩,.refl _,trivial⟩
theorem ab2 {c:Cu} {t:Rat} (hc:dH c 5) (ht:cO t) (h40:c.m+c.p.toNat≤40) (hp5:c.p≤5) (K:Nat):aA P zC K [bg c 2000 2000,.rat t 2000] [] (aH (.tuple [bg (iZ c t) 2000 sE,bg (iV c t) 2000 sE,.int .i64 (lO c t)]) []):=by
 refine gi (r:=aH (.tuple [bg (iZ c t) 2000 sE,bg (iV c t) 2000 sE,.int .i64 (lO c t)]) []) hT Ox rfl (of_decide_eq_true (by kernel_rfl)) rfl (fun _ cx h00=>?_) K []
 have hk:=nw h00
 obtain⟨k1,k2,k3,k4,k5⟩:=id hc.kn
 have hl:=k1.len
 refine aq.jC hT Hl hm (x:=xZ) [1,1,0] (i:=0) (y:=part xZ [1,1,0,0,0]) (z:=oM) (by kernel_rfl) (by kernel_rfl) (by kernel_rfl) Ox.dst hk (f1:=[16]) (f2:=[25]) 60 sA 4
  (fun _:Nat=>BQ) (fun r=>Dg (bH c t r) t) (fun r=>((aU c.k t c.n+r:Nat):Int)≤c.p∧c.k 0<t∧t<c.k (c.n-1)) (fun r=>((aU c.k t c.n+r:Nat):Int)=c.p∧c.k 0<t∧t<c.k (c.n-1)) (fun r=>c.p.toNat-aU c.k t c.n-r)
  (qd T l6 [4,5,6,2,3] (.tuple [bg (iZ c t) 2000 sE,bg (iV c t) 2000 sE,.int .i64 (lO c t)])) ⟨_,afc,?_⟩ (fun r hr=>⟨_,adD,?_⟩) (fun r hr=>?_) (fun v s' hv hs'=>hv.fin (L1:=[]) hk hs')
 ·simp only[aa.all,ax,Bool.not_eq_true',Bool.not_eq_false',Bool.and_eq_true,Bool.and_eq_false_iff,decide_eq_true_eq,decide_eq_false_iff_not]
  rw[Lu c 2000 2000]
  refine⟨⟨by omega,by omega,ct (Nat.le_refl _),by omega,by omega,by omega⟩,fun ho=>⟨by omega,?_⟩,fun hi=>⟨0,⟨?_,hi⟩,[(0,8192),(1,12288),(2,0),(3,4096)],rfl,rfl,rfl,aF rfl rfl (aE rfl rfl) (aF rfl rfl (.inr ⟨rfl,ri hc (by decide)⟩) (aF rfl rfl (aE rfl rfl) (aF rfl rfl (aE rfl rfl) trivial)))⟩⟩
  ·have hno:¬(c.k 0<t∧t<c.k (c.n-1)):=fun h=>ho.elim (fun g=>g h.1) fun g=>g h.2
   have r1:iZ c t=gJ:=if_neg hno
   have r2:iV c t=gJ:=if_neg hno
   have r3:lO c t=7:=if_neg hno
   have hR:qd T l6 [4,5,6,2,3] (.tuple [bg gJ 2000 sE,bg gJ 2000 sE,.int .i64 7]) ([.ptr 8192 0 3 0 [],.ptr 12288 0 3 0 [],.int .i64 7,.ptr 0 0 3 0 [],.ptr 4096 0 3 0 []],[(4096,tP t 2000),(0,⟨false,true,3,1,fun _=>bg c 2000 2000⟩),(12288,⟨false,true,3,1,fun j=>if(j==0)=true then aT (.agg (AV.kids (.agg [.int .i64 0,.nil,.nil])))else .agg [.int .i64 0,.nil,.nil]⟩),(8192,⟨false,true,3,1,fun j=>if(j==0)=true then aT (.agg (AV.kids (.agg [.int .i64 0,.nil,.nil])))else .agg [.int .i64 0,.nil,.nil]⟩)]):=
    ⟨[_,_,_,_,_],[],12289,_,rfl,rfl,rfl,aad,rfl,⟨⟨by omega,fun i _=>rfl⟩,⟨by omega,fun i _=>rfl⟩,⟨by omega,fun i _=>pC rfl rfl⟩,⟨by omega,fun i _=>pC rfl rfl⟩,trivial⟩,⟨Nat.zero_lt_one,Nat.zero_lt_one⟩,mY,mY,.refl _,trivial⟩
   rw[r1,r2,r3]
   exact hR
  ·have:=k1.vQ hi.1 hi.2
   omega
 ·obtain⟨i1,i2,i3⟩:=hr
  have hs:=ja.all hc ht i2 i3 h40 i1
  have hd:=lJ hc (fun _=>ht) hs.e
  have e1:(aU (fun i=>aO (rat ((bH c t r).k i) 2000)) t (bH c t r).n:Int)=((aU c.k t c.n+r:Nat):Int):=by
   show((aU (bH c t r).k t (bH c t r).n:Nat):Int)=_
   rw[hs.s]
  simp only[aa.all,ax,decide_eq_true_eq,decide_eq_false_iff_not]
  refine⟨⟨by omega,by omega,fun i _=>ey rfl ((hd.kd i).sz.more (by decide)),by decide,by rw[hs.n];omega,by omega⟩,fun h1=>?_,fun h1=>⟨rfl,r,⟨?_,i2,i3⟩,[(0,0),(1,1),(2,2),(3,3)],rfl,rfl,rfl,aF rfl rfl (aE rfl rfl) (aF rfl rfl (aE rfl rfl) (aF rfl rfl (aE rfl rfl) (aF rfl rfl (aE rfl rfl) trivial)))⟩⟩
  ·rw[e1,hs.p]at h1
   obtain⟨hE,hs2⟩:=hs.go hc ht i2 i3 h1 (by omega)
   have hd2:=lJ hc (fun _=>ht) hs2.e
   refine⟨⟨by omega,by omega,hd.Hf,hd.HZ (Ie (by omega)),by omega,hd.kn,by show(bH c t r).k 0<t;rw[hs.k0];exact i2,by show t<(bH c t r).k ((bH c t r).n-1);rw[hs.k1];exact i3,fun i=>pS (hd.pos i),by omega⟩,r+1,⟨by omega,i2,i3⟩,by dsimp only;omega,[(0,0),(1,1),(2,2),(3,3)],rfl,rfl,rfl,aF rfl rfl (aE rfl rfl) (aF rfl rfl (.inr ⟨rfl,?_⟩) (aF rfl rfl (aE rfl rfl) (aF rfl rfl (aE rfl rfl) trivial)))⟩
   have e2:bH c t (r+1)=kH (bH c t r) t (bz (bH c t r).n (bH c t r).k t):=if_pos hE
   have:=ri (x:=2002) (y:=sE) hd2 (Nat.le_refl _)
   show bw (bg (kH (bH c t r) t (bz (bH c t r).n (bH c t r).k t)) 2002 sE) (bg (bH c t (r+1)) 2000 sE)
   rw[←e2]
   exact this
  ·rw[e1,hs.p]at h1
   omega
 ·obtain⟨i1,i2,i3⟩:=hr
  have hs:=ja.all (r:=r) hc ht i2 i3 h40 (by omega)
  have hd:=lJ hc (fun _=>ht) hs.e
  have e0:bM c t=bH c t r:=by unfold bM;rw[show c.p.toNat-aU c.k t c.n=r by omega]
  obtain⟨a1,a2,a3⟩:=lN hd.kn.1 (by rw[hs.k0];exact i2) (by rw[hs.k1];exact i3)
  refine acq (a:=bz (bH c t r).n (bH c t r).k t) hk hd.kn.1 (by rw[hs.p];exact k2) (by rw[hs.p];exact k3) hd.kn.2.2.2.2 (by rw[hs.n];omega) (by rw[hs.k0];exact i2) (by rw[hs.k1];exact i3) a1 a2 a3 (by rw[hs.s,hs.p];omega) fun e s' h=>?_
  have r1:iZ c t=uP (bH c t r) t (bz (bH c t r).n (bH c t r).k t):=by rw[←e0];exact if_pos ⟨i2,i3⟩
  have r2:iV c t=tC (bH c t r) t (bz (bH c t r).n (bH c t r).k t):=by rw[←e0];exact if_pos ⟨i2,i3⟩
  have r3:lO c t=0:=if_pos ⟨i2,i3⟩
  rw[r1,r2,r3]
  exact h
def Eg:Spec:=cB (kC (hH 2000 2000) (kC (fk 2000) kN)) (fun a=>.tuple [bg (iZ a.1 a.2.1) 2000 sE,bg (iV a.1 a.2.1) 2000 sE,.int .i64 (lO a.1 a.2.1)]) fun a=>[dH a.1 5,cO a.2.1,a.1.m+a.1.p.toNat≤40,a.1.p≤5]
theorem abZ:∀K args pre q,Eg K args pre=some q→aA P zC K args pre q:=cj fun⟨c,t,_⟩ K hn=>ab2 hn.1 hn.2.1 hn.2.2.1 hn.2.2.2 K
end Go.Am.B

/- slices.IndexFunc of numbers by the closures of Spline.Cut. -/
namespace Go.Am.B
open Go Go.Am.N AV aa ak IntKind
theorem U3:aP P ot z9 (au z9):=aQ ahv (by kernel_rfl) (by kernel_rfl) (by kernel_rfl)
theorem ab4:aP P oT yF (au yF):=aQ ait (by kernel_rfl) (by kernel_rfl) (by kernel_rfl)
theorem Ol:aP P mK mQ (au mQ):=aQ Ja (by kernel_rfl) (by kernel_rfl) (by kernel_rfl)
theorem K2 {u v:AV} (h:bw u v):bw (.bh u) (.bh v):=by
 refine⟨rfl,fun M w cs hc=>?_⟩
 cases hc with
 |bh h1 h2 h3=>cases h3;exact .bh (h.2 _ _ _ h1) h2 .nil
theorem aiU {f:FuncId} {us vs:List AV} (h:eC us vs) (hv:(vs.all fun v=>!v.isAgg&&!v.isTuple)=true):bw (.func f us) (.func f vs):=by
 refine⟨rfl,fun M w cs hc=>?_⟩
 cases hc with
 |func h1 h2 h3=>cases h3;exact .func (EJ h h1) hv .nil
def Nu {α:Type} (k:Kind α):Kind α:=⟨fun v=>match v with
 |.bh v=>k.read v
 |_=>none,fun a=>.bh (k.make a),fun {v a q} h hq=>by
  split at h
  ·exact K2 (k.ok h hq)
  ·simp at h⟩
def Ow {α:Type} (g:FuncId) (k:Kind α):Kind α:=⟨fun v=>match v with
 |.func f [.bh v]=>match Nat.beq f g with
  |true=>k.read v
  |false=>none
 |_=>none,fun a=>.func g [.bh (k.make a)],fun {v a q} h hq=>by
  split at h
  ·split at h
   ·rename_i hc
    have hc:=Nat.eq_of_beq_eq_true hc
    subst hc
    exact aiU ⟨K2 (k.ok h hq),trivial⟩ rfl
   ·simp at h
  ·simp at h⟩
def KV:Spec:=cB (kC (fk 2000) (kC (Nu (fk 2000)) kN)) (fun a=>.bool (decide (a.2.1<a.1))) fun _=>[]
def N9:Spec:=cB (kC (fk 2000) (kC (Nu (fk 2000)) kN)) (fun a=>.bool (decide (a.2.1≤a.1))) fun _=>[]
def Bk:aS:=nG::(ot,KV)::(oT,N9)::[]
abbrev pQ:List Nat:=[4,0,1,7,8]
abbrev zG (n i:Nat) (k:Nat→Rat) (g:FuncId) (x:Rat):List AV:=[.int .i64 0,bp k n 2000,.func g [.bh (.rat x 2000)],.int .i64 n,.int .i64 i]
noncomputable abbrev oA:Code:=au mQ
def iN (x:Rat) (k:Nat→Rat) (i:Nat):Bool:=decide (x<k i)
def iP (x:Rat) (k:Nat→Rat) (i:Nat):Bool:=decide (x≤k i)
def Qg:Spec:=cB (kC (kL 2000) (kC (Ow ot (fk 2000)) kN)) (fun a=>.int .i64 (dG (iN a.2.1 a.1.2) a.1.1:Nat)) fun a=>[a.1.1<2^40,dG (iN a.2.1 a.1.2) a.1.1<a.1.1]
def QE:Spec:=cB (kC (kL 2000) (kC (Ow oT (fk 2000)) kN)) (fun a=>.int .i64 (dG (iP a.2.1 a.1.2) a.1.1:Nat)) fun a=>[a.1.1<2^40,dG (iP a.2.1 a.1.2) a.1.1<a.1.1]
def FD:Spec:=fun K args pre=>match Qg K args pre with
 |some r=>some r
 |none=>QE K args pre
theorem ZS {x y:Rat}:bC T (nG::ga) [] 60 z9 (au z9) ⟨aN 0 [.rat x 2000,.bh (.rat y 2000)],[],0⟩=
  let c1:Prop:=2000<2^42;some (ag [(0:Nat)<1,c1,c1] (leaf ret [AV.bool (decide (dc x y>(0:Int)))])):=by kernel_rfl
theorem UA {x y:Rat}:bC T (nG::ga) [] 60 yF (au yF) ⟨aN 0 [.rat x 2000,.bh (.rat y 2000)],[],0⟩=
  let c1:Prop:=2000<2^42;some (ag [(0:Nat)<1,c1,c1] (leaf ret [AV.bool (decide (dc x y≥(0:Int)))])):=by kernel_rfl
theorem Mk {n:Nat} {k:Nat→Rat} {g:FuncId} {x:Rat}:aJ T Bk [] 60 pQ (before oA [1,0,1]) ⟨aN 0 [bp k n 2000,.func g [.bh (.rat x 2000)]],[],0⟩=
  some (leaf normal ([int i64 (0:Int),aj 3 n fun i↦rat (k i) 2000,func g [(rat x 2000).bh],int i64 (↑n:Int),int i64 (0:Int)],[])):=by kernel_rfl
theorem ajA {n i:Nat} {k:Nat→Rat} {x:Rat}:aJ T Bk [9,16] 60 pQ [part oA [1,0,1,0,0]] ⟨aB pQ (zG n i k ot x),[],0⟩=
  let c7:Int:=(↑n:Int);let c5:Prop:=2000≤2000;let c4:AV:=func ot [(rat x 2000).bh];let c3:AV:=aj 3 n fun i↦rat (k i) 2000;let c2:Int:=(↑i:Int);let c6:Int:=c2+(1:Int);let c1:List AV:=[c3,c4,int i64 c7,int i64 c2];some (fork (decide (c2<c7)) (ag [(0:Int)≤c2∧c2.toNat<n,c5,c5] (fork (decide (x<k c2.toNat)) (leaf ret (int i64 c2::c1,[])) (ag [-(2:Int)^63≤c6∧c6<(2:Int)^63] (leaf normal ([int i64 (0:Int),c3,c4,int i64 c7,int i64 c6],[]))))) (leaf (exit 0) (int i64 (0:Int)::c1,[]))):=by kernel_rfl
theorem RA {n i:Nat} {k:Nat→Rat} {x:Rat}:aJ T Bk [9,16] 60 pQ [part oA [1,0,1,0,0]] ⟨aB pQ (zG n i k oT x),[],0⟩=
  let c7:Int:=(↑n:Int);let c5:Prop:=2000≤2000;let c4:AV:=func oT [(rat x 2000).bh];let c3:AV:=aj 3 n fun i↦rat (k i) 2000;let c2:Int:=(↑i:Int);let c6:Int:=c2+(1:Int);let c1:List AV:=[c3,c4,int i64 c7,int i64 c2];some (fork (decide (c2<c7)) (ag [(0:Int)≤c2∧c2.toNat<n,c5,c5] (fork (decide (x≤k c2.toNat)) (leaf ret (int i64 c2::c1,[])) (ag [-(2:Int)^63≤c6∧c6<(2:Int)^63] (leaf normal ([int i64 (0:Int),c3,c4,int i64 c7,int i64 c6],[]))))) (leaf (exit 0) (int i64 (0:Int)::c1,[]))):=by kernel_rfl
theorem Kh {n i:Nat} {k:Nat→Rat} {g:FuncId} {x:Rat}:bY T Bk [] 60 mQ [part oA [1,1]] ⟨aB pQ (zG n i k g x),[],0⟩=
  some (leaf ret [int i64 (-1:Int)]):=by kernel_rfl
theorem ah1:∀K args pre r,KV K args pre=some r→aA P ot K args pre r:=cj fun⟨x,y,_⟩ K _=>by
 refine bJ (r:=aH (.bool (decide (y<x))) []) hT (cK gY) hm U3 rfl (of_decide_eq_true (by kernel_rfl)) rfl 60 ZS (fun _=>?_) K []
 simp only[aa.all,ax]
 exact⟨⟨by omega,by omega,by omega⟩,eM (decide_eq_decide.2 qf)⟩
theorem ah8:∀K args pre r,N9 K args pre=some r→aA P oT K args pre r:=cj fun⟨x,y,_⟩ K _=>by
 refine bJ (r:=aH (.bool (decide (y≤x))) []) hT (cK gY) hm ab4 rfl (of_decide_eq_true (by kernel_rfl)) rfl 60 UA (fun _=>?_) K []
 simp only[aa.all,ax]
 exact⟨⟨by omega,by omega,by omega⟩,eM (decide_eq_decide.2 yE)⟩
theorem L5:aY P Bk:=cK (aG ah1 (aG ah8 bq))
theorem XO:∀K args pre r,Qg K args pre=some r→aA P mK K args pre r:=cj fun⟨⟨n,k⟩,x,_⟩ K hn=>by
 have n1:n<2^40:=hn.1
 have n2:dG (iN x k) n<n:=hn.2
 refine fH (r:=aH (.int .i64 (dG (iN x k) n:Nat)) []) hT L5 hm Ol rfl (of_decide_eq_true (by kernel_rfl)) rfl [1,0,1] (i:=0) (y:=part oA [1,0,1,0,0]) (z:=part oA [1,1]) (by kernel_rfl) (by kernel_rfl) (by kernel_rfl) (f1:=[]) (f2:=[9,16]) (f3:=[]) 60 pQ 0
  (fun i:Nat=>zG n i k ot x) (fun _=>[]) (fun i=>i≤n∧∀j,j<i→iN x k j=false) (fun i=>i=n∧∀j,j<i→iN x k j=false) (fun i=>n-i) (fun _=>⟨⟨_,Mk,?_⟩,fun i ⟨h1,h2⟩=>⟨_,ajA,?_⟩,fun i ⟨h1,h2⟩=>⟨_,Kh,?_⟩⟩) K []
 ·exact⟨0,⟨Nat.zero_le _,fun j hj=>by omega⟩,.vals rfl⟩
 ·simp only[aa.all,ax,decide_eq_true_eq,decide_eq_false_iff_not,Int.toNat_natCast]
  refine⟨fun h=>⟨by omega,fun hb=>⟨[.int .i64 i],by kernel_rfl,?_⟩,fun hb=>⟨by omega,i+1,⟨by omega,fun j hj=>?_⟩,by dsimp only;omega,.vals rfl⟩⟩,fun h=>⟨rfl,i,⟨by omega,h2⟩,.vals rfl⟩⟩
  ·exact bt (by rw[pU (g:=iN x k) (i:=i) (decide_eq_true hb) h2 (n:=n) (by omega)])
  ·by_cases hji:j=i
   ·subst hji;exact decide_eq_false hb
   ·exact h2 j (by omega)
 ·subst h1
  rw[D7 h2]at n2
  omega
theorem ai2:∀K args pre r,QE K args pre=some r→aA P mK K args pre r:=cj fun⟨⟨n,k⟩,x,_⟩ K hn=>by
 have n1:n<2^40:=hn.1
 have n2:dG (iP x k) n<n:=hn.2
 refine fH (r:=aH (.int .i64 (dG (iP x k) n:Nat)) []) hT L5 hm Ol rfl (of_decide_eq_true (by kernel_rfl)) rfl [1,0,1] (i:=0) (y:=part oA [1,0,1,0,0]) (z:=part oA [1,1]) (by kernel_rfl) (by kernel_rfl) (by kernel_rfl) (f1:=[]) (f2:=[9,16]) (f3:=[]) 60 pQ 0
  (fun i:Nat=>zG n i k oT x) (fun _=>[]) (fun i=>i≤n∧∀j,j<i→iP x k j=false) (fun i=>i=n∧∀j,j<i→iP x k j=false) (fun i=>n-i) (fun _=>⟨⟨_,Mk,?_⟩,fun i ⟨h1,h2⟩=>⟨_,RA,?_⟩,fun i ⟨h1,h2⟩=>⟨_,Kh,?_⟩⟩) K []
 ·exact⟨0,⟨Nat.zero_le _,fun j hj=>by omega⟩,.vals rfl⟩
 ·simp only[aa.all,ax,decide_eq_true_eq,decide_eq_false_iff_not,Int.toNat_natCast]
  refine⟨fun h=>⟨by omega,fun hb=>⟨[.int .i64 i],by kernel_rfl,?_⟩,fun hb=>⟨by omega,i+1,⟨by omega,fun j hj=>?_⟩,by dsimp only;omega,.vals rfl⟩⟩,fun h=>⟨rfl,i,⟨by omega,h2⟩,.vals rfl⟩⟩
  ·exact bt (by rw[pU (g:=iP x k) (i:=i) (decide_eq_true hb) h2 (n:=n) (by omega)])
  ·by_cases hji:j=i
   ·subst hji;exact decide_eq_false hb
   ·exact h2 j (by omega)
 ·subst h1
  rw[D7 h2]at n2
  omega
theorem age:∀K args pre r,FD K args pre=some r→aA P mK K args pre r:=by
 intro K args pre r h
 unfold FD at h
 split at h
 ·rename_i g
  simp only[Option.some.injEq]at h
  subst h
  exact XO _ _ _ _ g
 ·exact ai2 _ _ _ _ h
end Go.Am.B

/- Spline.Cut. -/
namespace Go.Am.B
open Go Go.Am.N AV aa ak IntKind
theorem Ls:aP P vr nM (au nM):=aQ agj (by kernel_rfl) (by kernel_rfl) (by kernel_rfl)
def dm (k:Nat→Rat) (n:Nat) (t:Rat):Nat→Nat→Rat
 |0=>k
 |r+1=>cL (dm k n t r) t (bz (n+r) (dm k n t r) t+1)
def IT:Spec:=cB (kC (kL 2000) (kC (fk 2000) kN)) (fun a=>bp (cE a.1.2 a.2.1 (cq a.1.2 a.2.1 a.1.1)) (a.1.1+1) 2000) fun a=>[a.1.1<2^40,∀i,i<a.1.1+1→Sz (cE a.1.2 a.2.1 (cq a.1.2 a.2.1 a.1.1) i) 2000]
noncomputable def jR:aS:=nG::(rP,pE)::(p8,IT)::(uF,HQ)::(mK,FD)::ga
noncomputable abbrev sk:Code:=au nM
noncomputable abbrev DL:Code:=part sk [1]
noncomputable abbrev zH:Code:=part DL [1,0,1,0,0]
noncomputable abbrev yx:Code:=part zH [1,1,0,0]
noncomputable abbrev qU:Code:=part sk [1,1,1]
noncomputable abbrev rV:Code:=part qU [1,1,1,1,1,1]
abbrev zo:ah:=⟨false,true,3,1,fun _=>.agg [.int .i64 0,.nil,.nil]⟩
abbrev wO (c:Cu):ah:=⟨false,true,3,1,fun _=>dY c 2000 4000⟩
abbrev CS:List Nat:=[3,4,5,6]
abbrev af6 (a b:Rat):List AV:=[.ptr 0 0 3 0 [],.bh (.rat a 2000),.bh (.rat b 2000),.ptr 3 0 3 0 []]
abbrev Sh (c:Cu) (a b:Rat):aC:=[(3,zo),(2,⟨false,false,3,1,fun _=>.rat b 2000⟩),(1,⟨false,false,3,1,fun _=>.rat a 2000⟩),(0,wO c)]
abbrev nq:List Nat:=[3,4,5,6,7,19,20]
abbrev uK (a b:Rat) (n:Nat) (k:Nat→Rat) (j:Nat):List AV:=[.ptr 0 0 3 0 [],.bh (.rat a 2000),.bh (.rat b 2000),.ptr 1 0 3 0 [],bp k n 2000,.agg [.rat a 2000,.rat b 2000],.int .i64 j]
abbrev uR (c:Cu):aC:=[(1,zo),(0,wO c)]
abbrev tc:List Nat:=[3,4,5,6,7,19,20,9,10]
abbrev y5 (a b:Rat) (n:Nat) (k:Nat→Rat) (j:Nat) (e:Bool):List AV:=[.ptr 0 0 3 0 [],.bh (.rat a 2000),.bh (.rat b 2000),.ptr 1 0 3 0 [],bp k n 2000,.agg [.rat a 2000,.rat b 2000],.int .i64 j,.ptr 2 0 3 0 [],.bool e]
abbrev zQ (c:Cu) (x:Rat):aC:=[(2,⟨false,true,3,1,fun _=>.rat x 2000⟩),(1,zo),(0,wO c)]
abbrev zE:List Nat:=[3,4,5,6,7,11,12,13,14,67,68]
abbrev FN (p:Int) (a b:Rat) (n:Nat) (k:Nat→Rat) (f l i:Nat):List AV:=[.ptr 0 0 3 0 [],.bh (.rat a 2000),.bh (.rat b 2000),.ptr 1 0 3 0 [],bp k n 2000,.ptr 2 0 3 0 [],.ptr 3 0 3 0 [],.int .i64 ((f:Int)-1),.int .i64 l,.int .i64 (p+1),.int .i64 i]
abbrev ux (c D:Cu) (x:Nat→Rat) (i:Nat):aC:=[(4,qc 2000 i x),(3,⟨false,true,3,1,fun _=>.agg [.int .i64 c.p,.own 4 3 0 i,.nil]⟩),(2,⟨false,true,3,1,fun _=>dY D sK sB⟩),(1,zo),(0,wO c)]
abbrev zD:List Nat:=[3,5,6,11,12,13,14,88,89]
abbrev FT (p:Int) (b:Rat) (f l i:Nat):List AV:=[.ptr 0 0 3 0 [],.bh (.rat b 2000),.ptr 1 0 3 0 [],.ptr 2 0 3 0 [],.ptr 3 0 3 0 [],.int .i64 ((f:Int)-1),.int .i64 l,.int .i64 (p+1),.int .i64 i]
def m7 (p:Nat) (a b:Rat) (k:Nat→Rat) (f l q:Nat):Rat:=if q<p+1 then a else if q<p+1+(l-f)then k (f+(q-(p+1)))else b
def yT (D:Cu) (a b:Rat) (f l:Nat):Cu:=⟨D.p,D.p.toNat+1+(l-f)+(D.p.toNat+1),m7 D.p.toNat a b D.k f l,l-(f-1-D.p.toNat),fun q=>D.f (f-1-D.p.toNat+q)⟩
theorem ai0 {c:Cu} {a b:Rat}:aJ T jR [] 60 CS (before sk [1]) ⟨aN 0 [dY c 2000 4000,.rat a 2000,.rat b 2000],[],0⟩=
  let c3:AV:=rat b 2000;let c2:AV:=rat a 2000;let c1:Nat:=(aT (dY c 2000 4000)).size;some (leaf normal ([ptr 0 0 c1 0 [],ptr 4096 0 (aT c2).size 0 [],ptr 8192 0 (aT c3).size 0 [],ptr 12288 0 3 0 []],[((12288:Nat),ah.mk false true 3 1 fun x↦agg [int i64 (0:Int),nil,nil]),((8192:Nat),ah.mk false true (aT c3).size 1 fun x↦c3),((4096:Nat),ah.mk false true (aT c2).size 1 fun x↦c2),((0:Nat),ah.mk false true c1 1 fun x↦agg [int i64 c.p,aj 3 c.n fun i↦rat (c.k i) 2000,aj 12 c.m fun i↦agg [rat (c.f i).n.x 4000,rat (c.f i).n.y 4000,rat (c.f i).n.z 4000,rat (c.f i).d 4000]])])):=by kernel_rfl
theorem afY {c:Cu} {a b:Rat}:aJ T jR [] 60 nq (before DL [1,0,1]) ⟨aB CS (af6 a b),Sh c a b,4⟩=
  let c1:AV:=aj 3 c.n fun i↦rat (c.k i) 2000;some (ag [(0:Nat)<1] (leaf normal ([ptr 0 0 3 0 [],(rat a 2000).bh,(rat b 2000).bh,ptr 3 0 3 0 [],c1,agg [rat a 2000,rat b 2000],int i64 (0:Int)],[((3:Nat),ah.mk false true 3 1 fun x↦agg [int i64 (0:Int),nil,nil]),((0:Nat),ah.mk false true 3 1 fun x↦agg [int i64 c.p,c1,aj 12 c.m fun i↦agg [rat (c.f i).n.x 4000,rat (c.f i).n.y 4000,rat (c.f i).n.z 4000,rat (c.f i).d 4000]])]))):=by kernel_rfl
theorem adC {c:Cu} {a b:Rat} {n j:Nat} {k:Nat→Rat}:aJ T jR [21] 60 nq (before zH [1,1,0]) ⟨aB nq (uK a b n k j),uR c,2⟩=
  let c1:List AV×aC:=([ptr 0 0 3 0 [],(rat a 2000).bh,(rat b 2000).bh,ptr 1 0 3 0 [],aj 3 n fun i↦rat (k i) 2000,agg [rat a 2000,rat b 2000],int i64 (↑j:Int)],[((1:Nat),ah.mk false true 3 1 fun x↦agg [int i64 (0:Int),nil,nil]),((0:Nat),ah.mk false true 3 1 fun x↦agg [int i64 c.p,aj 3 c.n fun i↦rat (c.k i) 2000,aj 12 c.m fun i↦agg [rat (c.f i).n.x 4000,rat (c.f i).n.y 4000,rat (c.f i).n.z 4000,rat (c.f i).d 4000]])]);some (fork (decide ((↑j:Int)<(2:Int))) (leaf normal c1) (leaf (exit 0) c1)):=by kernel_rfl
theorem XH {c:Cu} {a b:Rat} {n:Nat} {k:Nat→Rat}:aJ T jR [28] 60 tc (before yx [1,1]) ⟨aB nq (uK a b n k 0),uR c,2⟩=
  let c12:AV:=int i64 (0:Int);let c11:AV:=ptr 1 0 3 0 [];let c10:AV:=aj 3 n fun i↦rat (k i) 2000;let c9:AV:=ptr 0 0 3 0 [];let c8:AV:=rat b 2000;let c7:AV:=ptr 4098 0 3 0 [];let c6:Prop:=0<1;let c5:AV:=rat a 2000;let c4:Int:=(↑n:Int)-(1:Int);let c3:Nat:=Int.toNat (0:Int);let c2:Prop:=2000<2^42;let c14:Prop:=(0:Int)≤(0:Int)∧c3<n;let c13:Bool:=decide (a=k c3);let c1:List (Nat×ah):=[((4098:Nat),ah.mk false true 3 1 fun j↦if(j==0)=true then aT c5 else rat 0 1),((1:Nat),ah.mk false true 3 1 fun x↦agg [c12,nil,nil]),((0:Nat),ah.mk false true 3 1 fun x↦agg [int i64 c.p,aj 3 c.n fun i↦rat (c.k i) 2000,aj 12 c.m fun i↦agg [rat (c.f i).n.x 4000,rat (c.f i).n.y 4000,rat (c.f i).n.z 4000,rat (c.f i).d 4000]])];some (ag [(0:Int)≤(↑(0:Nat):Int)∧(↑(0:Nat):Int)<(↑(2:Nat):Int),c6] (fork c13 (ag [c6,c14,c2,c2,c13=true] (leaf normal ([c9,c5.bh,c8.bh,c11,c10,agg [c5,c8],c12,c7,AV.bool true],c1))) (ag [c6,c14,c2,c2,c13=false,c6,-(2:Int)^63≤c4∧c4<(2:Int)^63,(0:Int)≤c4∧c4.toNat<n,c2,c2] (leaf normal ([c9,c5.bh,c8.bh,c11,c10,agg [c5,c8],c12,c7,AV.bool (bif false then true else decide (a=k c4.toNat))],c1))))):=by kernel_rfl
theorem ai9 {c:Cu} {a b:Rat} {n:Nat} {k:Nat→Rat}:aJ T jR [28] 60 tc (before yx [1,1]) ⟨aB nq (uK a b n k 1),uR c,2⟩=
  let c11:AV:=ptr 1 0 3 0 [];let c10:AV:=aj 3 n fun i↦rat (k i) 2000;let c9:AV:=ptr 0 0 3 0 [];let c8:AV:=rat a 2000;let c7:AV:=ptr 4098 0 3 0 [];let c6:Prop:=0<1;let c5:AV:=rat b 2000;let c4:Int:=(↑n:Int)-(1:Int);let c3:Nat:=Int.toNat (0:Int);let c2:Prop:=2000<2^42;let c13:Prop:=(0:Int)≤(0:Int)∧c3<n;let c12:Bool:=decide (b=k c3);let c1:List (Nat×ah):=[((4098:Nat),ah.mk false true 3 1 fun j↦if(j==0)=true then aT c5 else rat 0 1),((1:Nat),ah.mk false true 3 1 fun x↦agg [int i64 (0:Int),nil,nil]),((0:Nat),ah.mk false true 3 1 fun x↦agg [int i64 c.p,aj 3 c.n fun i↦rat (c.k i) 2000,aj 12 c.m fun i↦agg [rat (c.f i).n.x 4000,rat (c.f i).n.y 4000,rat (c.f i).n.z 4000,rat (c.f i).d 4000]])];some (ag [(0:Int)≤(↑(1:Nat):Int)∧(↑(1:Nat):Int)<(↑(2:Nat):Int),c6] (fork c12 (ag [c6,c13,c2,c2,c12=true] (leaf normal ([c9,c8.bh,c5.bh,c11,c10,agg [c8,c5],int i64 (1:Int),c7,AV.bool true],c1))) (ag [c6,c13,c2,c2,c12=false,c6,-(2:Int)^63≤c4∧c4<(2:Int)^63,(0:Int)≤c4∧c4.toNat<n,c2,c2] (leaf normal ([c9,c8.bh,c5.bh,c11,c10,agg [c8,c5],int i64 (1:Int),c7,AV.bool (bif false then true else decide (b=k c4.toNat))],c1))))):=by kernel_rfl
theorem agK {c:Cu} {a b x:Rat} {n j:Nat} {k:Nat→Rat} {e:Bool}:aJ T jR [40,47] 60 tc [part yx [1,1,0,0]] ⟨aB tc (y5 a b n k j e),zQ c x,3⟩=
  let c11:Prop:=n<2^40;let c10:AV:=rat a 2000;let c9:AV:=rat b 2000;let c8:Prop:=0<1;let c7:AV:=ptr 1 0 3 0 [];let c6:AV:=ptr 0 0 3 0 [];let c5:Int:=(↑(aU (fun i↦aO (rat (k i) 2000)) x n):Int);let c1:List (Nat×ah):=[((2:Nat),ah.mk false true 3 1 fun x_1↦rat x 2000),((1:Nat),ah.mk false true 3 1 fun x↦agg [int i64 (0:Int),nil,nil]),((0:Nat),ah.mk false true 3 1 fun x↦agg [int i64 c.p,aj 3 c.n fun i↦rat (c.k i) 2000,aj 12 c.m fun i↦agg [rat (c.f i).n.x 4000,rat (c.f i).n.y 4000,rat (c.f i).n.z 4000,rat (c.f i).d 4000]])];let c4:List AV:=[agg [c10,c9],int i64 (↑j:Int),ptr 2 0 3 0 [],AV.bool e];let c3:aa (List AV×aC):=leaf (exit 2) (c6::c10.bh::c9.bh::c7::(aj 3 n fun i↦rat (k i) 2000)::c4,c1);let c2:aa (List AV×aC):=ag [c8,bK (fun i↦rat (k i) 2000) n 2000,(2000:Nat)≤2000,c11,∀(i:Nat),i<n+1→Sz (cE (fun i↦aO (rat (k i) 2000)) x (cq (fun i↦aO (rat (k i) 2000)) x n) i) 2000] (leaf normal (c6::c10.bh::c9.bh::c7::(aj 3 (n+1) fun i↦rat (cE (fun i↦aO (rat (k i) 2000)) x (cq (fun i↦aO (rat (k i) 2000)) x n) i) 2000)::c4,c1));some (fork (!e) (ag [(!e)=true,c8,bK (fun i↦rat (k i) 2000) n sK,(2000:Nat)≤sK,c11,c8] (fork (bif true then decide (c5<c.p)else false) c2 c3)) (ag [(!e)=false] (fork false c2 c3))):=by kernel_rfl
theorem Yl {c:Cu} {a b x:Rat} {n j:Nat} {k:Nat→Rat} {e:Bool}:aJ T jR [] 60 nq [part zH [1,1,1]] ⟨aB tc (y5 a b n k j e),zQ c x,3⟩=
  let c1:Int:=(↑j:Int)+(1:Int);some (ag [-(2:Int)^63≤c1∧c1<(2:Int)^63] (leaf normal ([ptr 0 0 3 0 [],(rat a 2000).bh,(rat b 2000).bh,ptr 1 0 3 0 [],aj 3 n fun i↦rat (k i) 2000,agg [rat a 2000,rat b 2000],int i64 c1],[((1:Nat),ah.mk false true 3 1 fun x↦agg [int i64 (0:Int),nil,nil]),((0:Nat),ah.mk false true 3 1 fun x↦agg [int i64 c.p,aj 3 c.n fun i↦rat (c.k i) 2000,aj 12 c.m fun i↦agg [rat (c.f i).n.x 4000,rat (c.f i).n.y 4000,rat (c.f i).n.z 4000,rat (c.f i).d 4000]])]))):=by kernel_rfl
theorem Vy {c:Cu} {a b:Rat} {n j:Nat} {k:Nat→Rat}:aJ T jR [] 60 zE (before qU [1,1,1,1,1,0,1]) ⟨aB nq (uK a b n k j),uR c,2⟩=
  let c10:Prop:=2000≤2000;let c9:Int:=c.p+(1:Int);let c7:Nat:=dG (iP b fun i↦aO (rat (k i) 2000)) n;let c6:Prop:=bK (fun i↦rat (k i) 2000) n 2000;let c5:Nat:=2^40;let c4:Int:=(2:Int)^63;let c3:Prop:=0<1;let c2:AV:=agg [int i64 (0:Int),nil,nil];let c1:Nat:=dG (iN a fun i↦aO (rat (k i) 2000)) n;let c8:Int:=(↑c1:Int)-(1:Int);some (ag [c3,bK (fun i↦rat (c.k i) 2000) c.n sK,jV (fun i↦cP (c.f i) 4000) c.m sK,bK (fun i↦rat (k i) 2000) n sK,Kn c.n c.p.toNat fun i↦aO (rat (c.k i) 2000),(1:Int)≤c.p,c.p≤(6:Int),c.n<c5,c.m<c5,n<2^29,c9≤(↑n:Int),c3] (ag [c3,c3] (ag [c6,c10,n<c5,c1<n,-c4≤c8∧c8<c4] (ag [c6,c10,n<c5,c7<n] (ag [c3,-c4≤c9∧c9<c4] (leaf normal ([ptr 0 0 3 0 [],(rat a 2000).bh,(rat b 2000).bh,ptr 1 0 3 0 [],aj 3 n fun i↦rat (k i) 2000,ptr 12290 0 3 0 [],ptr 20482 0 3 0 [],int i64 c8,int i64 (↑c7:Int),int i64 c9,int i64 (0:Int)],[((20482:Nat),ah.mk false true 3 1 fun j↦if(j==0)=true then agg (c2.kids.set 0 (aT (int i64 c.p)))else c2),((12290:Nat),ah.mk false true 3 1 fun j↦if(j==0)=true then aT (dY (jO (Cu.mk c.p c.n (fun i↦aO (rat (c.k i) 2000)) c.m fun i↦qB (cP (c.f i) 4000)) n fun i↦aO (rat (k i) 2000)) sK sB)else c2),((1:Nat),ah.mk false true 3 1 fun x↦c2),((0:Nat),ah.mk false true 3 1 fun x↦agg [int i64 c.p,aj 3 c.n fun i↦rat (c.k i) 2000,aj 12 c.m fun i↦agg [rat (c.f i).n.x 4000,rat (c.f i).n.y 4000,rat (c.f i).n.z 4000,rat (c.f i).d 4000]])]))))))):=by kernel_rfl
theorem agY {c D:Cu} {a b:Rat} {n f l i:Nat} {k x:Nat→Rat}:aJ T jR [69] 60 zE [part qU [1,1,1,1,1,0,1,0,0]] ⟨aB zE (FN c.p a b n k f l i),ux c D x i,5⟩=
  let c13:Int:=(↑i:Int);let c12:AV:=(rat b 2000).bh;let c11:AV:=int i64 ((↑f:Int)-(1:Int));let c10:AV:=rat a 2000;let c9:Int:=c.p+(1:Int);let c7:AV:=ptr 2 0 3 0 [];let c6:AV:=ptr 3 0 3 0 [];let c5:AV:=ptr 1 0 3 0 [];let c4:AV:=aj 3 n fun i↦rat (k i) 2000;let c3:AV:=ptr 0 0 3 0 [];let c2:AV:=agg [int i64 c.p,own 4 3 0 i,nil];let c1:List (Nat×ah):=[((2:Nat),ah.mk false true 3 1 fun x↦agg [int i64 D.p,aj 3 D.n fun i↦rat (D.k i) 4096,aj 12 D.m fun i↦agg [rat (D.f i).n.x 536870912,rat (D.f i).n.y 536870912,rat (D.f i).n.z 536870912,rat (D.f i).d 536870912]]),((1:Nat),ah.mk false true 3 1 fun x↦agg [int i64 (0:Int),nil,nil]),((0:Nat),ah.mk false true 3 1 fun x↦agg [int i64 c.p,aj 3 c.n fun i↦rat (c.k i) 2000,aj 12 c.m fun i↦agg [rat (c.f i).n.x 4000,rat (c.f i).n.y 4000,rat (c.f i).n.z 4000,rat (c.f i).d 4000]])];let c8:Int:=c13+(1:Int);some (fork (decide (c13<c9)) (ag [(0:Nat)<1,(1:Nat)*3≤2^24,(i+1)*((56:Nat)+1)*2≤2^47,(0:Nat)<1] (ag [-(2:Int)^63≤c8∧c8<(2:Int)^63] (leaf normal ([c3,c10.bh,c12,c5,c4,c7,c6,c11,int i64 (↑l:Int),int i64 c9,int i64 c8],((20485:Nat),ah.mk true true 3 (i+1) fun i_1↦if i_1<i then rat (x i_1) 2000 else nth [c10] (rat 0 1) (i_1-i+0))::((3:Nat),ah.mk false true 3 1 fun j↦if(j==0)=true then agg (c2.kids.set 1 (aT (own (nat_lit 20484+1) 3 0 (i+1))))else c2)::c1)))) (leaf (exit 4) ([c3,c10.bh,c12,c5,c4,c7,c6,c11,int i64 (↑l:Int),int i64 c9,int i64 c13],((4:Nat),ah.mk true true 3 i fun i↦rat (x i) 2000)::((3:Nat),ah.mk false true 3 1 fun x↦c2)::c1))):=by kernel_rfl
theorem aaF {c D:Cu} {a b:Rat} {n f l i:Nat} {k x:Nat→Rat}:aJ T jR [] 60 zD (before rV [1,0,1]) ⟨aB zE (FN c.p a b n k f l i),ux c D x i,5⟩=
  let c7:Int:=c.p+(1:Int);let c6:Prop:=0<1;let c5:Int:=(↑l:Int);let c4:AV:=agg [int i64 c.p,own 4 3 0 i,nil];let c3:Int:=(2:Int)^63;let c1:Int:=(↑f:Int)-(1:Int)+(1:Int);let c2:Nat:=i+(c5.toNat-c1.toNat);some (ag [c6,-c3≤c1∧c1<c3,(0:Int)≤c1∧c1≤c5∧c5≤c5∧c5≤(↑n:Int),c2*((56:Nat)+1)*2≤2^47,c6] (ag [c6,-c3≤c7∧c7<c3] (leaf normal ([ptr 0 0 3 0 [],(rat b 2000).bh,ptr 1 0 3 0 [],ptr 2 0 3 0 [],ptr 3 0 3 0 [],int i64 ((↑f:Int)-(1:Int)),int i64 c5,int i64 c7,int i64 (0:Int)],[((28677:Nat),ah.mk true true 3 c2 fun i_1↦if i_1<i then rat (x i_1) 2000 else rat (k (i_1-i+c1.toNat)) 2000),((3:Nat),ah.mk false true 3 1 fun j↦if(j==0)=true then agg (c4.kids.set 1 (aT (own (nat_lit 28676+1) 3 0 c2)))else c4),((2:Nat),ah.mk false true 3 1 fun x↦agg [int i64 D.p,aj 3 D.n fun i↦rat (D.k i) 4096,aj 12 D.m fun i↦agg [rat (D.f i).n.x 536870912,rat (D.f i).n.y 536870912,rat (D.f i).n.z 536870912,rat (D.f i).d 536870912]]),((1:Nat),ah.mk false true 3 1 fun x↦agg [int i64 (0:Int),nil,nil]),((0:Nat),ah.mk false true 3 1 fun x↦agg [int i64 c.p,aj 3 c.n fun i↦rat (c.k i) 2000,aj 12 c.m fun i↦agg [rat (c.f i).n.x 4000,rat (c.f i).n.y 4000,rat (c.f i).n.z 4000,rat (c.f i).d 4000]])])))):=by kernel_rfl
theorem agI {c D:Cu} {b:Rat} {f l i m:Nat} {x:Nat→Rat}:aJ T jR [90] 60 zD [part rV [1,0,1,0,0]] ⟨aB zD (FT c.p b f l i),ux c D x m,5⟩=
  let c11:Int:=(↑i:Int);let c10:AV:=int i64 ((↑f:Int)-(1:Int));let c9:AV:=rat b 2000;let c8:Int:=c.p+(1:Int);let c6:AV:=ptr 2 0 3 0 [];let c5:AV:=ptr 3 0 3 0 [];let c4:AV:=ptr 1 0 3 0 [];let c3:AV:=ptr 0 0 3 0 [];let c2:AV:=agg [int i64 c.p,own 4 3 0 m,nil];let c1:List (Nat×ah):=[((2:Nat),ah.mk false true 3 1 fun x↦agg [int i64 D.p,aj 3 D.n fun i↦rat (D.k i) 4096,aj 12 D.m fun i↦agg [rat (D.f i).n.x 536870912,rat (D.f i).n.y 536870912,rat (D.f i).n.z 536870912,rat (D.f i).d 536870912]]),((1:Nat),ah.mk false true 3 1 fun x↦agg [int i64 (0:Int),nil,nil]),((0:Nat),ah.mk false true 3 1 fun x↦agg [int i64 c.p,aj 3 c.n fun i↦rat (c.k i) 2000,aj 12 c.m fun i↦agg [rat (c.f i).n.x 4000,rat (c.f i).n.y 4000,rat (c.f i).n.z 4000,rat (c.f i).d 4000]])];let c7:Int:=c11+(1:Int);some (fork (decide (c11<c8)) (ag [(0:Nat)<1,(1:Nat)*3≤2^24,(m+1)*((56:Nat)+1)*2≤2^47,(0:Nat)<1] (ag [-(2:Int)^63≤c7∧c7<(2:Int)^63] (leaf normal ([c3,c9.bh,c4,c6,c5,c10,int i64 (↑l:Int),int i64 c8,int i64 c7],((20485:Nat),ah.mk true true 3 (m+1) fun i↦if i<m then rat (x i) 2000 else nth [c9] (rat 0 1) (i-m+0))::((3:Nat),ah.mk false true 3 1 fun j↦if(j==0)=true then agg (c2.kids.set 1 (aT (own (nat_lit 20484+1) 3 0 (m+1))))else c2)::c1)))) (leaf (exit 6) ([c3,c9.bh,c4,c6,c5,c10,int i64 (↑l:Int),int i64 c8,int i64 c11],((4:Nat),ah.mk true true 3 m fun i↦rat (x i) 2000)::((3:Nat),ah.mk false true 3 1 fun x↦c2)::c1))):=by kernel_rfl
theorem aiW {c D:Cu} {b:Rat} {f l i m:Nat} {x:Nat→Rat}:bY T jR [] 60 nM [part rV [1,1]] ⟨aB zD (FT c.p b f l i),ux c D x m,5⟩=
  let c3:Int:=(↑l:Int);let c2:Prop:=0<1;let c1:Int:=(↑f:Int)-(1:Int)-c.p;some (ag [c2,c2,-(2:Int)^63≤c1∧c1<(2:Int)^63,(0:Int)≤c1∧c1≤c3∧c3≤c3∧c3≤(↑D.m:Int),c2] (ag [c2,c2] (ag [c2] (leaf ret [agg [int i64 c.p,aj 3 m fun i↦rat (x (i+0)) 2000,aj 12 (c3.toNat-c1.toNat) fun i↦agg [rat (D.f (i+c1.toNat)).n.x 536870912,rat (D.f (i+c1.toNat)).n.y 536870912,rat (D.f (i+c1.toNat)).n.z 536870912,rat (D.f (i+c1.toNat)).d 536870912]]])))):=by kernel_rfl
theorem SA:∀K args pre r,IT K args pre=some r→aA P p8 K args pre r:=cj fun⟨⟨n,k⟩,t,_⟩ K hn=>by
 have h1:n<2^40:=hn.1
 have h2:∀i,i<n+1→Sz (cE k t (cq k t n) i) 2000:=hn.2
 exact Cr (u:=bp (cE k t (cq k t n)) (n+1) 2002) (l:=[]) (OQ (Nat.le_refl _) (Nat.le_refl _) (by decide) h1 K) (fun h=>trivial) rfl rfl (fT fun i hi=>ey rfl (h2 i hi))
theorem yU:aY P jR:=cK (aG EU (aG SA (aG Jn (aG age gY))))
structure CD (n p:Nat) (k:Nat→Rat) (t:Rat) (r:Nat):Prop where
 kn:Kn (n+r) p (dm k n t r)
 tm:aU (dm k n t r) t (n+r)=aU k t n+r
 f0:dm k n t r 0=k 0
 fl:dm k n t r (n+r-1)=k (n-1)
 sd:∀i,cO (dm k n t r i)
theorem JA {n p:Nat} {k:Nat→Rat} {t:Rat} (h:Kn n p k) (h0:k 0<t) (h1:t<k (n-1)) (kd:∀i,cO (k i)) (ht:cO t):∀{r:Nat},aU k t n+r≤p→CD n p k t r
 |0,_=>⟨h,rfl,rfl,rfl,kd⟩
 |r+1,hr=>by
  obtain⟨a1,a2,a3,a4,a5⟩:=JA h h0 h1 kd ht (r:=r) (by omega)
  have g0:dm k n t r 0<t:=by rw[a3];exact h0
  have g1:t<dm k n t r (n+r-1):=by rw[a4];exact h1
  obtain⟨i1,i2,i3⟩:=lN a1 g0 g1
  have e:dm k n t (r+1)=cL (dm k n t r) t (bz (n+r) (dm k n t r) t+1):=rfl
  generalize bz (n+r) (dm k n t r) t=a at*
  generalize dm k n t r=K at*
  have tm:=Ht (k:=K) (t:=t) (q:=a+1) (m:=n+r-(a+1))
  rw[show a+1+1+(n+r-(a+1))=n+(r+1) by omega,show a+1+(n+r-(a+1))=n+r by omega]at tm
  have hK:=a1.cL g0 g1 i1 i2 i3 (by omega)
  refine⟨?_,?_,?_,?_,?_⟩
  ·rw[e];exact hK
  ·rw[e,tm,a2];rfl
  ·rw[e,gW (by omega),a3]
  ·rw[e,show n+(r+1)-1=n+r by omega,gT (by omega),a4]
  ·rw[e];exact JN a5 ht
theorem CD.next {n p r:Nat} {k:Nat→Rat} {t:Rat} (h:CD n p k t r) (h0:k 0<t) (h1:t<k (n-1)):cE (dm k n t r) t (cq (dm k n t r) t (n+r))=dm k n t (r+1):=by
 obtain⟨a1,a2,a3,a4,a5⟩:=h
 obtain⟨i1,i2,i3⟩:=lN a1 (by rw[a3];exact h0) (by rw[a4];exact h1)
 rw[DD a1.sorted i1 i2 i3];rfl
theorem Vs {c:Cu} {a b:Rat} {n f l j:Nat} {k:Nat→Rat} {cx:Ctx} {Q:ak→aI→Prop} (hk:Kept [] cx) (hc:Kn c.n c.p.toNat c.k) (hp1:1≤c.p) (hp6:c.p≤6) (hcn:c.n<2^28) (hcm:c.m<2^28) (hn:n<2^28) (hpn:c.p+1≤n) (hf:dG (iN a k) n=f) (hl:dG (iP b k) n=l) (h1:c.p.toNat+1≤f) (h2:f≤l) (h3:l+c.p.toNat+1≤n)
  (hQ:∀e s',dh cx (Fin T nM (dY (yT (jO c n k) a b f l) sK sB)) e s'→Q e s'):aq P cx nM.ntmps qU ⟨aB nq (uK a b n k j),uR c,2⟩ Q:=by
 have hv:∀{rl:List (Nat×Nat)} {k x y y':Nat},aV rl k=some x→y=y'→fu rl (.agg [.int .i64 c.p,.own x 3 0 y,.nil]) (.agg [.int .i64 c.p,.own k 3 0 y',.nil]):=fun h e=>kG ⟨⟨rfl,aK rfl⟩,⟨rfl,cT h rfl e⟩,⟨rfl,aK rfl⟩,trivial⟩
 refine aq.jC hT yU hm (x:=qU) [1,1,1,1,1,0,1] (i:=4) (y:=part qU [1,1,1,1,1,0,1,0,0]) (z:=rV) (by kernel_rfl) (by kernel_rfl) (by kernel_rfl) (by kernel_rfl) hk (f1:=[]) (f2:=[69]) 60 zE 5
  (fun i:Nat=>FN c.p a b n k f l i) (fun i=>ux c (jO c n k) (fun _=>a) i) (fun i=>i≤c.p.toNat+1) (fun i=>i=c.p.toNat+1) (fun i=>c.p.toNat+1-i) (fun _=>False) ⟨_,Vy,?_⟩ (fun i hi=>⟨_,agY,?_⟩) (fun i hi=>?_) (fun _ _ h=>h.elim)
 ·have e1:dG (iN a fun i=>aO (rat (k i) 2000)) n=f:=hf
  have e2:dG (iP b fun i=>aO (rat (k i) 2000)) n=l:=hl
  simp only[aa.all,ax,e1,e2]
  refine⟨⟨by omega,ct (by decide),nF (by decide),ct (by decide),hc,hp1,hp6,by omega,by omega,by omega,hpn,by omega⟩,⟨by omega,by omega⟩,⟨ct (Nat.le_refl _),by omega,by omega,by omega,by omega⟩,⟨ct (Nat.le_refl _),by omega,by omega,by omega⟩,⟨by omega,by omega⟩,0,Nat.zero_le _,[(0,0),(1,1),(2,12290),(3,20482)],rfl,rfl,rfl,nQ rfl (by omega) (by omega) (aF rfl rfl (kG ⟨⟨rfl,aK rfl⟩,⟨rfl,pe (by omega)⟩,⟨rfl,aK rfl⟩,trivial⟩) (aF rfl rfl (aE rfl rfl) (aF rfl rfl (aE rfl rfl) (aF rfl rfl (aE rfl rfl) trivial))))⟩
 ·simp only[aa.all,ax,decide_eq_true_eq,decide_eq_false_iff_not,Int.toNat_natCast]
  refine⟨fun h=>⟨⟨by omega,by omega,by omega,by omega⟩,by omega,i+1,by omega,by dsimp only;omega,[(0,0),(1,1),(2,2),(3,3),(4,20485)],rfl,rfl,rfl,bB rfl rfl rfl (fun q hq=>jG (y:=fun _=>a) (fun _ _=>rfl) rfl (Nat.le_refl _) (Nat.le_refl _) hq) (aF rfl rfl (hv rfl rfl) (aF rfl rfl (aE rfl rfl) (aF rfl rfl (aE rfl rfl) (aF rfl rfl (aE rfl rfl) trivial))))⟩,fun h=>⟨rfl,i,by omega,[(0,0),(1,1),(2,2),(3,3),(4,4)],rfl,rfl,rfl,bB rfl rfl rfl (fun _ _=>aE rfl rfl) (aF rfl rfl (hv rfl rfl) (aF rfl rfl (aE rfl rfl) (aF rfl rfl (aE rfl rfl) (aF rfl rfl (aE rfl rfl) trivial))))⟩⟩
 ·subst hi
  refine aq.jC hT yU hm (x:=rV) [1,0,1] (i:=6) (y:=part rV [1,0,1,0,0]) (z:=part rV [1,1]) (by kernel_rfl) (by kernel_rfl) (by kernel_rfl) (by kernel_rfl) hk (f1:=[]) (f2:=[90]) 60 zD 5
   (fun i:Nat=>FT c.p b f l i) (fun i=>ux c (jO c n k) (m7 c.p.toNat a b k f l) (c.p.toNat+1+(l-f)+i)) (fun i=>i≤c.p.toNat+1) (fun i=>i=c.p.toNat+1) (fun i=>c.p.toNat+1-i) (fun _=>False) ⟨_,aaF,?_⟩ (fun i hi=>⟨_,agI,?_⟩) (fun i hi=>?_) (fun _ _ h=>h.elim)
  ·simp only[aa.all,ax,Int.toNat_natCast]
   have e1:((f:Int)-1+1).toNat=f:=by omega
   simp only[e1]
   refine⟨⟨by omega,by omega,by omega,by omega,by omega⟩,⟨by omega,by omega⟩,0,Nat.zero_le _,[(0,0),(1,1),(2,2),(3,3),(4,28677)],rfl,rfl,rfl,bB rfl rfl rfl (fun q hq=>aE (pC rfl rfl) ?_) (aF rfl rfl (hv rfl rfl) (aF rfl rfl (aE rfl rfl) (aF rfl rfl (aE rfl rfl) (aF rfl rfl (aE rfl rfl) trivial))))⟩
   have hq:q<c.p.toNat+1+(l-f)+0:=hq
   unfold m7
   by_cases c1:q<c.p.toNat+1
   ·rw[if_pos c1,if_pos c1]
   ·rw[if_neg c1,if_neg c1,if_pos (by omega),Nat.add_comm]
  ·simp only[aa.all,ax,decide_eq_true_eq,decide_eq_false_iff_not,Int.toNat_natCast]
   refine⟨fun h=>⟨⟨by omega,by omega,by omega,by omega⟩,by omega,i+1,by omega,by dsimp only;omega,[(0,0),(1,1),(2,2),(3,3),(4,20485)],rfl,rfl,rfl,bB rfl rfl rfl (fun q hq=>jG (y:=m7 c.p.toNat a b k f l) (fun _ _=>rfl) ?_ (Nat.le_refl _) (Nat.le_refl _) hq) (aF rfl rfl (hv rfl rfl) (aF rfl rfl (aE rfl rfl) (aF rfl rfl (aE rfl rfl) (aF rfl rfl (aE rfl rfl) trivial))))⟩,fun h=>⟨rfl,i,by omega,[(0,0),(1,1),(2,2),(3,3),(4,4)],rfl,rfl,rfl,bB rfl rfl rfl (fun _ _=>aE rfl rfl) (aF rfl rfl (hv rfl rfl) (aF rfl rfl (aE rfl rfl) (aF rfl rfl (aE rfl rfl) (aF rfl rfl (aE rfl rfl) trivial))))⟩⟩
   unfold m7
   rw[if_neg (by omega),if_neg (by omega)]
  ·subst hi
   refine aq.jJ ((aD.fin hT yU hm 60 aiW (by kernel_rfl) ?_).mono fun _ _ h=>hQ _ _ (.inl h))
   simp only[aa.all,ax,Int.toNat_natCast]
   have e1:((f:Int)-1-c.p).toNat=f-1-c.p.toNat:=by omega
   have e2:(jO c n k).m=n-c.p.toNat-1:=rfl
   simp only[e1,e2]
   refine⟨⟨by omega,by omega,by omega,by omega,by omega⟩,⟨by omega,by omega⟩,by omega,cC ⟨.refl _,fT fun i hi=>bF rfl (by decide),lg rfl fun i _=>?_,trivial⟩⟩
   show cP (kD c n k (i+(f-1-c.p.toNat))) sB=cP (kD c n k (f-1-c.p.toNat+i)) sB
   rw[Nat.add_comm]
def eu (w R j:Nat):Nat:=if w<j then R else 0
set_option maxHeartbeats 1000000 in
theorem LS {c:Cu} {a b t:Rat} {w R f l:Nat} (hc:Kn c.n c.p.toNat c.k) (hp1:1≤c.p) (hp6:c.p≤6) (hcn:c.n<2^27) (hcm:c.m<2^28) (kd:∀i,cO (c.k i)) (ht:cO t) (h0:c.k 0<t) (h1:t<c.k (c.n-1)) (hR:aU c.k t c.n+R=c.p.toNat)
  (hab:w=1∧a=c.k 0∧b=t∨w=0∧a=t∧b=c.k (c.n-1)) (hf:dG (iN a (dm c.k c.n t R)) (c.n+R)=f) (hl:dG (iP b (dm c.k c.n t R)) (c.n+R)=l) (g1:c.p.toNat+1≤f) (g2:f≤l) (g3:l+c.p.toNat+1≤c.n+R) (K:Nat):
  aA P vr K [dY c 2000 4000,.rat a 2000,.rat b 2000] [] (aH (dY (yT (jO c (c.n+R) (dm c.k c.n t R)) a b f l) sK sB) []):=by
 refine gi (r:=aH (dY (yT (jO c (c.n+R) (dm c.k c.n t R)) a b f l) sK sB) []) hT Ls rfl (of_decide_eq_true (by kernel_rfl)) rfl (fun _ cx h00=>?_) K []
 have hk:=nw h00
 have hl4:=hc.len
 refine aq.hole [1] (by kernel_rfl) (aD.bk hT yU hm 60 CS ai0 (nA Ls.dst) ?_)
 intro s' hs'
 show aq _ _ _ (part sk [1]) s' _
 rw[show behind sk [1]=[]from by kernel_rfl]
 refine aq.j6 (s2:=⟨aB CS [.ptr 0 0 3 0 [],.ptr 1 0 3 0 [],.ptr 2 0 3 0 [],.ptr 3 0 3 0 []],[(3,zo),(2,tP b 2000),(1,tP a 2000),(0,wO c)],4⟩) (dM.le ⟨[(0,0),(1,4096),(2,8192),(3,12288)],rfl,rfl,rfl,aF rfl rfl (aE rfl rfl) (aF rfl rfl (aE rfl rfl) (aF rfl rfl (aE rfl rfl) (aF rfl rfl (aE rfl rfl) trivial)))⟩ hs' hk)
  ((?_:aq P cx nM.ntmps (part sk [1]) _ (dh cx (Fin T nM (dY (yT (jO c (c.n+R) (dm c.k c.n t R)) a b f l) sK sB)))).mono fun e s' h=>by cases e<;>exact h)
 refine aq.NX (t:=4) (k:=1) rfl rfl rfl rfl rfl ?_
 refine aq.NX (t:=5) (k:=2) rfl rfl rfl rfl rfl ?_
 have hx:∀{j:Nat},w=j→(if j=0 then a else b)=t:=fun {j} h=>by
  subst h
  rcases hab with⟨rfl,_,hb⟩|⟨rfl,ha,_⟩
  ·exact hb
  ·exact ha
 have hx2:∀{j:Nat},j<2→w≠j→(if j=0 then a else b)=c.k 0∨(if j=0 then a else b)=c.k (c.n-1):=fun {j} hj h=>by
  rcases hab with⟨rfl,ha,_⟩|⟨rfl,_,hb⟩
  ·left;rw[show j=0 by omega];exact ha
  ·right;rw[show j=1 by omega];exact hb
 have hK:∀{r:Nat},r≤R→CD c.n c.p.toNat c.k t r:=fun {r} hr=>JA hc h0 h1 kd ht (by omega)
 have hrr:∀{j:Nat},eu w R j≤R:=fun {j}=>by unfold eu;split<;>omega
 refine aq.Sl hT yU hm (x:=DL) (y:=zH) (x1:=yx) (zb:=part zH [1,1,1]) (y2:=part yx [1,1,0,0]) [1,0,1] (i:=0) (by kernel_rfl) (by kernel_rfl) (by kernel_rfl) [1,1,0] (j:=1) (by kernel_rfl) (by kernel_rfl) (by kernel_rfl) [1,1] (i2:=2) (by kernel_rfl) (by kernel_rfl) rfl hk (f1:=[]) (f2:=[21]) (f3:=[28]) (f4:=[40,47]) (f5:=[]) 60 nq tc 2 3
  (fun j:Nat=>uK a b (c.n+eu w R j) (dm c.k c.n t (eu w R j)) j) (fun _=>uR c) (fun j=>j≤2) (fun j=>j=2) (fun j=>2-j) (fun j=>j<2) (fun _=>False) (fun _=>False)
  (fun j (q:Nat×Bool)=>y5 a b (c.n+q.1) (dm c.k c.n t q.1) j q.2) (fun j _=>zQ c (if j=0 then a else b)) (fun j q=>q.2=false∧w=j∧q.1≤R∨q.2=true∧w≠j∧q.1=eu w R j) (fun j q=>q.1=eu w R (j+1)) (fun _ q=>R-q.1)
  ⟨_,afY,?_⟩ (fun j hj=>⟨_,adC,?_⟩) (fun j hj hG=>?_) (fun j hj hG q hq=>⟨_,agK,?_⟩) (fun j hj hG q hq=>⟨_,Yl,?_⟩) (fun j s' hj hle=>?_) (fun _ _ h=>h.elim) (fun _ _ h=>h.elim)
 ·simp only[aa.all,ax]
  exact⟨by omega,0,Nat.zero_le _,[(0,0),(1,3)],rfl,rfl,rfl,aF rfl rfl (aE rfl rfl) (aF rfl rfl (aE rfl rfl) trivial)⟩
 ·simp only[aa.all,ax,decide_eq_true_eq,decide_eq_false_iff_not]
  exact⟨fun h=>⟨by omega,[(0,0),(1,1)],rfl,rfl,rfl,aF rfl rfl (aE rfl rfl) (aF rfl rfl (aE rfl rfl) trivial)⟩,fun h=>⟨rfl,j,by omega,[(0,0),(1,1)],rfl,rfl,rfl,aF rfl rfl (aE rfl rfl) (aF rfl rfl (aE rfl rfl) trivial)⟩⟩
 ·have hG:j<2:=hG
  rcases(show j=0∨j=1 by omega)with rfl|rfl
  ·refine⟨_,XH,?_⟩
   have z1:w=0→a=t:=hx (j:=0)
   have z2:w≠0→a=c.k 0∨a=c.k (c.n-1):=hx2 (j:=0) (by omega)
   have h:=hK (hrr (j:=0))
   have hR:=hrr (j:=0)
   have e1:((c.n+eu w R 0:Nat)-1:Int).toNat=c.n+eu w R 0-1:=by omega
   simp only[aa.all,ax,decide_eq_true_eq,decide_eq_false_iff_not,cond_false,Int.toNat_zero,e1]
   refine⟨⟨by omega,by omega⟩,fun g=>⟨⟨by omega,by omega,by omega,by omega,g⟩,(eu w R 0,true),.inr ⟨rfl,fun e=>?_,rfl⟩,[(0,0),(1,1),(2,4098)],rfl,rfl,rfl,aF rfl rfl (aE rfl rfl) (aF rfl rfl (aE rfl rfl) (aF rfl rfl (aE rfl rfl) trivial))⟩,fun g=>⟨⟨by omega,by omega,by omega,by omega,g,by omega,by omega,by omega,by omega,by omega⟩,?_⟩⟩
   ·rw[h.f0,z1 e]at g
    rw[g]at h0
    exact Rat.lt_irrefl h0
   ·by_cases e:w=0
    ·have e2:decide (a=dm c.k c.n t (eu w R 0) (c.n+eu w R 0-1))=false:=decide_eq_false fun g2=>by
      rw[h.fl,z1 e]at g2
      rw[g2]at h1
      exact Rat.lt_irrefl h1
     rw[e2]
     exact⟨(eu w R 0,false),.inl ⟨rfl,e,hR⟩,[(0,0),(1,1),(2,4098)],rfl,rfl,rfl,aF rfl rfl (aE rfl rfl) (aF rfl rfl (aE rfl rfl) (aF rfl rfl (aE rfl rfl) trivial))⟩
    ·have e2:decide (a=dm c.k c.n t (eu w R 0) (c.n+eu w R 0-1))=true:=decide_eq_true (by
      rw[h.fl]
      exact(z2 e).resolve_left fun g2=>g (by rw[h.f0];exact g2))
     rw[e2]
     exact⟨(eu w R 0,true),.inr ⟨rfl,e,rfl⟩,[(0,0),(1,1),(2,4098)],rfl,rfl,rfl,aF rfl rfl (aE rfl rfl) (aF rfl rfl (aE rfl rfl) (aF rfl rfl (aE rfl rfl) trivial))⟩
  ·refine⟨_,ai9,?_⟩
   have z1:w=1→b=t:=hx (j:=1)
   have z2:w≠1→b=c.k 0∨b=c.k (c.n-1):=hx2 (j:=1) (by omega)
   have h:=hK (hrr (j:=1))
   have hR:=hrr (j:=1)
   have e1:((c.n+eu w R 1:Nat)-1:Int).toNat=c.n+eu w R 1-1:=by omega
   simp only[aa.all,ax,decide_eq_true_eq,decide_eq_false_iff_not,cond_false,Int.toNat_zero,e1]
   refine⟨⟨by omega,by omega⟩,fun g=>⟨⟨by omega,by omega,by omega,by omega,g⟩,(eu w R 1,true),.inr ⟨rfl,fun e=>?_,rfl⟩,[(0,0),(1,1),(2,4098)],rfl,rfl,rfl,aF rfl rfl (aE rfl rfl) (aF rfl rfl (aE rfl rfl) (aF rfl rfl (aE rfl rfl) trivial))⟩,fun g=>⟨⟨by omega,by omega,by omega,by omega,g,by omega,by omega,by omega,by omega,by omega⟩,?_⟩⟩
   ·rw[h.f0,z1 e]at g
    rw[g]at h0
    exact Rat.lt_irrefl h0
   ·by_cases e:w=1
    ·have e2:decide (b=dm c.k c.n t (eu w R 1) (c.n+eu w R 1-1))=false:=decide_eq_false fun g2=>by
      rw[h.fl,z1 e]at g2
      rw[g2]at h1
      exact Rat.lt_irrefl h1
     rw[e2]
     exact⟨(eu w R 1,false),.inl ⟨rfl,e,hR⟩,[(0,0),(1,1),(2,4098)],rfl,rfl,rfl,aF rfl rfl (aE rfl rfl) (aF rfl rfl (aE rfl rfl) (aF rfl rfl (aE rfl rfl) trivial))⟩
    ·have e2:decide (b=dm c.k c.n t (eu w R 1) (c.n+eu w R 1-1))=true:=decide_eq_true (by
      rw[h.fl]
      exact(z2 e).resolve_left fun g2=>g (by rw[h.f0];exact g2))
     rw[e2]
     exact⟨(eu w R 1,true),.inr ⟨rfl,e,rfl⟩,[(0,0),(1,1),(2,4098)],rfl,rfl,rfl,aF rfl rfl (aE rfl rfl) (aF rfl rfl (aE rfl rfl) (aF rfl rfl (aE rfl rfl) trivial))⟩
 ·obtain⟨r,e⟩:=q
  have same:dM [] (y5 a b (c.n+r) (dm c.k c.n t r) j e,zQ c (if j=0 then a else b)) (y5 a b (c.n+r) (dm c.k c.n t r) j e) (zQ c (if j=0 then a else b)) 3:=⟨[(0,0),(1,1),(2,2)],rfl,rfl,rfl,aF rfl rfl (aE rfl rfl) (aF rfl rfl (aE rfl rfl) (aF rfl rfl (aE rfl rfl) trivial))⟩
  simp only[aa.all,ax,cond_true,decide_eq_true_eq,decide_eq_false_iff_not]
  rcases hq with⟨he,hw,hr⟩|⟨he,hw,hr⟩
  ·have he:e=false:=he
   have hr:r≤R:=hr
   subst he
   have xt:=hx hw
   have h:=hK hr
   have e1:(aU (fun i=>aO (rat (dm c.k c.n t r i) 2000)) t (c.n+r):Int)=((aU c.k t c.n+r:Nat):Int):=congrArg Nat.cast h.tm
   simp only[xt]at same ⊢
   have e2:cE (fun i=>aO (rat (dm c.k c.n t r i) 2000)) t (cq (fun i=>aO (rat (dm c.k c.n t r i) 2000)) t (c.n+r))=dm c.k c.n t (r+1):=h.next h0 h1
   simp only[e1,e2]
   refine⟨fun _=>⟨⟨rfl,by omega,ct (by decide),by decide,by omega,by omega⟩,fun g=>⟨⟨by omega,ct (Nat.le_refl _),by omega,by omega,fun i _=>((hK (r:=r+1) (by omega)).sd i).sz.more (by decide)⟩,(r+1,false),.inl ⟨rfl,hw,show r+1≤R by omega⟩,show R-(r+1)<R-r by omega,[(0,0),(1,1),(2,2)],rfl,rfl,rfl,aF rfl rfl (aE rfl ?_) (aF rfl rfl (aE rfl rfl) (aF rfl rfl (aE rfl rfl) trivial))⟩,fun g=>⟨rfl,(r,false),?_,?_⟩⟩,fun g=>absurd g (by decide)⟩
   ·rfl
   ·have g:¬((aU c.k t c.n+r:Nat):Int)<c.p:=g
    show r=eu w R (j+1)
    unfold eu
    rw[if_pos (by omega)];omega
   ·exact same
  ·have he:e=true:=he
   have hr:r=eu w R j:=hr
   subst he
   refine⟨fun g=>absurd g (by decide),fun _=>⟨rfl,fun g=>absurd g (by decide),fun _=>⟨rfl,(r,true),?_,same⟩⟩⟩
   show r=eu w R (j+1)
   refine hr.trans ?_
   unfold eu
   by_cases c1:w<j
   ·rw[if_pos c1,if_pos (by omega)]
   ·rw[if_neg c1,if_neg (by omega)]
 ·have hG:j<2:=hG
  obtain⟨r,e⟩:=q
  have hq:r=eu w R (j+1):=hq
  subst hq
  simp only[aa.all,ax]
  exact⟨by omega,j+1,by omega,by dsimp only;omega,[(0,0),(1,1)],rfl,rfl,rfl,aF rfl rfl (aE rfl rfl) (aF rfl rfl (aE rfl rfl) trivial)⟩
 ·subst hj
  have e:eu w R 2=R:=by unfold eu;rw[if_pos (by rcases hab with⟨rfl,_⟩|⟨rfl,_⟩<;>omega)]
  simp only[e]at hle
  rw[show behind DL [1,0,1]=[qU]from by kernel_rfl]
  exact aD.weak rfl hle (aD.one (Vs hk hc hp1 hp6 (by omega) hcm (by omega) (by omega) hf hl g1 g2 g3 fun _ _ h=>h))
end Go.Am.B

/- curve.Split. -/
namespace Go.Am.B
open Go Go.Am.N AV aa ak IntKind
theorem ac8:aP P C4 AR (au AR):=aQ YI (by kernel_rfl) (by kernel_rfl) (by kernel_rfl)
def mc (c:Cu) (a b:Rat):Rat:=if a=c.k 0 then b else a
def oX (c:Cu) (a b:Rat):Nat:=c.n+(c.p.toNat-aU c.k (mc c a b) c.n)
def qX (c:Cu) (a b:Rat):Nat→Rat:=dm c.k c.n (mc c a b) (c.p.toNat-aU c.k (mc c a b) c.n)
def qY (c:Cu) (a b:Rat):Nat:=dG (iN a (qX c a b)) (oX c a b)
def rS (c:Cu) (a b:Rat):Nat:=dG (iP b (qX c a b)) (oX c a b)
def lU (c:Cu) (a b:Rat):Cu:=yT (jO c (oX c a b) (qX c a b)) a b (qY c a b) (rS c a b)
structure tE (c:Cu) (a b:Rat):Prop where
 kn:Kn c.n c.p.toNat c.k
 p1:1≤c.p
 p6:c.p≤6
 n:c.n<2^27
 m:c.m<2^28
 kd:∀i,cO (c.k i)
 td:cO (mc c a b)
 t0:c.k 0<mc c a b
 t1:mc c a b<c.k (c.n-1)
 ab:a=c.k 0∨b=c.k (c.n-1)
 f1:c.p.toNat+1≤qY c a b
 f2:qY c a b≤rS c a b
 f3:rS c a b+c.p.toNat+1≤oX c a b
noncomputable def Pu:Spec:=cB (kC (uQ 2000 4000) (kC (fk 2000) (kC (fk 2000) kN))) (fun a=>dY (lU a.1 a.2.1 a.2.2.1) sK sB) fun a=>[tE a.1 a.2.1 a.2.2.1]
noncomputable def PX:aS:=nG::(wG,Gl)::(nJ,Gd)::(vr,Pu)::(pT,DT)::[]
abbrev ek (c:Cu):Cu:=⟨c.p,c.n,c.k,c.m,fun i=>b9 (c.f i)⟩
abbrev Bp (c:Cu):Cu:=⟨c.p,c.n,c.k,c.m,fun i=>dN (c.f i)⟩
theorem X1 {c:Cu} {t:Rat}:bC T PX [11] 60 AR (au AR) ⟨aN 0 [bg c 2000 2000,.rat t 2000],[],0⟩=
  let o:Prop:=0<1;let k:Prop:=bK (fun i=>.rat (c.k i) 2000) c.n 2000;let f:Prop:=fo (fun i=>bI (c.f i) 2000) c.m 2000;let h:Prop:=jV (fun i=>cP (b9 (c.f i)) 4000) c.m 4000;let no:AV:=.agg [.int .i64 0,.nil,.nil];let e:Int:=(c.n:Int)-1
  let A:Cu:=lU (ek c) (c.k 0) t;let B:Cu:=lU (ek c) t (c.k e.toNat)
  some (ag [o,o,k,f,2000≤2000,ec c] (fork (!(decide (c.k 0<t)&&decide (t<c.k (c.n-1)))) (ag [o,o] (ag [o,o] (leaf .ret [no,no,.int .i64 7]))) (ag [o,k,f,c.n<2^40,c.m<2^30,o]
   (ag [o,o,(0:Int)≤0∧Int.toNat 0<c.n,o,k,h,2000≤2000,2000≤2000,tE (ek c) (c.k 0) t,bK (fun i=>.rat (A.k i) sK) A.n sK,jV (fun i=>cP (A.f i) sB) A.m sB,A.n<2^40,A.m<2^29,o,o,o,o,-(2:Int)^63≤e∧e<(2:Int)^63,(0:Int)≤e∧e.toNat<c.n,k,h,2000≤2000,2000≤2000,tE (ek c) t (c.k e.toNat),bK (fun i=>.rat (B.k i) sK) B.n sK,jV (fun i=>cP (B.f i) sB) B.m sB,B.n<2^40,B.m<2^29,o,o]
    (ag [o,o] (leaf .ret [bg (Bp A) (sK+10) (sB+sB),bg (Bp B) (sK+10) (sB+sB),.int .i64 0])))))):=by kernel_rfl
theorem RM:∀K args pre r,Pu K args pre=some r→aA P vr K args pre r:=cj fun⟨c,a,b,_⟩ K hn=>by
 obtain⟨h1,h2,h3,h4,h5,h6,h7,h8,h9,h10,h11,h12,h13⟩:tE c a b:=hn
 have hle:=h1.vQ h8 h9
 by_cases e:a=c.k 0
 ·exact LS (w:=1) h1 h2 h3 h4 h5 h6 h7 h8 h9 (by omega) (.inl ⟨rfl,e,(if_pos e:mc c a b=b).symm⟩) rfl rfl h11 h12 h13 K
 ·exact LS (w:=0) h1 h2 h3 h4 h5 h6 h7 h8 h9 (by omega) (.inr ⟨rfl,(if_neg e:mc c a b=a).symm,h10.resolve_left e⟩) rfl rfl h11 h12 h13 K
theorem akm:aY P PX:=cK (aG Mj (aG Ld (aG RM (aG GI bq))))
theorem ajv {c:Cu} {P j e:Nat} {K:Nat→Rat} (hc:Kn c.n c.p.toNat c.k) (hp1:1≤c.p) (hm2:(c.m:Int)=(c.n:Int)-c.p-1) (hA:At c.n c.k P):
  gd c (P:Nat) c.p.toNat (fun i=>K (i+(j+1))) e=lE c.k c.p.toNat (fun i=>gX (c.f i) e) P (bQ K (j+1) c.p.toNat):=by
 obtain⟨w1,w2⟩:=hc.wide hA
 have hw:=hA.wide
 have hE:gL c.n c.k c.p.toNat c.m c.p.toNat (P:Nat)=0:=Io (by omega) rfl (by
  rw[Int.toNat_natCast]
  rintro(h|h|h)
  ·omega
  ·omega
  ·exact absurd h (Rat.not_le.2 hw))
 unfold gd lC
 rw[if_pos hE,Int.toNat_natCast,OS]
 have e1:bQ (fun i=>K (i+(j+1))) 0 c.p.toNat=bQ K (j+1) c.p.toNat:=by
  have:=EK (k:=K) (c:=j+1) (l:=c.p.toNat) (a:=0)
  rw[Nat.add_zero]at this
  rw[←this]
  exact Aw fun i _ _=>by rw[Nat.add_comm i (j+1)]
 rw[e1];rfl
theorem MK {c:Cu} {t:Rat} (hc:dH c 5) (ht:cO t) (h0:c.k 0<t) (h1:t<c.k (c.n-1)) (h40:c.m+c.p.toNat≤40):∀{r:Nat},((aU c.k t c.n+r:Nat):Int)≤c.p→(bH c t r).k=dm c.k c.n t r
 |0,_=>rfl
 |r+1,hr=>by
  have hs:=ja.all (r:=r) hc ht h0 h1 h40 (by omega)
  obtain⟨hE,_⟩:=hs.go hc ht h0 h1 (by omega) (by omega)
  have e:bH c t (r+1)=kH (bH c t r) t (bz (bH c t r).n (bH c t r).k t):=if_pos hE
  rw[e]
  show cL (bH c t r).k t (bz (bH c t r).n (bH c t r).k t+1)=cL (dm c.k c.n t r) t (bz (c.n+r) (dm c.k c.n t r) t+1)
  rw[MK hc ht h0 h1 h40 (r:=r) (by omega),hs.n]
theorem Jm {c:Cu} {t:Rat} (hc:dH c 5) (ht:cO t) (h0:c.k 0<t) (h1:t<c.k (c.n-1)) (h40:c.m+c.p.toNat≤40):∀{r:Nat},((aU c.k t c.n+r:Nat):Int)≤c.p→
  l8 c.p.toNat c.n c.k (fun e i=>gX (b9 (c.f i)) e) (bH c t r).n (bH c t r).k (fun e i=>gX (b9 ((bH c t r).f i)) e)
 |0,_=>l8.refl
 |r+1,hr=>by
  have hs:=ja.all (r:=r) hc ht h0 h1 h40 (by omega)
  obtain⟨hE,_⟩:=hs.go hc ht h0 h1 (by omega) (by omega)
  have e:bH c t (r+1)=kH (bH c t r) t (bz (bH c t r).n (bH c t r).k t):=if_pos hE
  have ih:=Jm hc ht h0 h1 h40 (r:=r) (by omega)
  have hd:=lJ hc (fun _=>ht) hs.e
  have g0:(bH c t r).k 0<t:=by rw[hs.k0];exact h0
  have g1:t<(bH c t r).k ((bH c t r).n-1):=by rw[hs.k1];exact h1
  have hp:=hs.p
  have hds:dH (bH c t r) (rF r):=hd
  obtain⟨i1,i2,i3⟩:=lN hds.kn.1 g0 g1
  have ht2:aU (bH c t r).k t (bH c t r).n<(bH c t r).p.toNat:=by rw[hs.s,hp];omega
  have key:=l8.ins (t:=t) ih (by rw[←hp];exact hds.kn.1) g0 g1 i1 i2 i3 (by rw[←hp];exact ht2)
  rw[e]
  have ef:(fun e i=>gX (b9 ((kH (bH c t r) t (bz (bH c t r).n (bH c t r).k t)).f i)) e)=fun e=>fR (bH c t r).k c.p.toNat (fun i=>gX (b9 ((bH c t r).f i)) e) t (bz (bH c t r).n (bH c t r).k t):=by
   funext e i
   have hpos:=Kb (i:=i) hds.kn hds.pos g0 g1 i1 i2 i3
   show gX (b9 (dN (j8 (bH c t r) t (bz (bH c t r).n (bH c t r).k t) i))) e=_
   rw[EW (pS hpos),←hp]
   match e with
   |0=>rfl
   |1=>rfl
   |2=>rfl
   |e+3=>rfl
  rw[ef]
  exact key
theorem TQ {c:Cu} {t:Rat} {j:Nat} (hc:dH c 5) (ht:cO t) (h0:c.k 0<t) (h1:t<c.k (c.n-1)) (h40:c.m+c.p.toNat≤40) (hj:j<(bM c t).m):dN (kD (ek c) (bM c t).n (bM c t).k j)=(bM c t).f j:=by
 obtain⟨k1,k2,k3,k4,k5⟩:=id hc.kn
 have hle:=k1.vQ h0 h1
 have hR:((aU c.k t c.n+(c.p.toNat-aU c.k t c.n):Nat):Int)≤c.p:=by omega
 have hs:=ja.all hc ht h0 h1 h40 hR
 have hsub:=Jm hc ht h0 h1 h40 hR
 have hd:dH (bH c t (c.p.toNat-aU c.k t c.n)) (rF (c.p.toNat-aU c.k t c.n)):=lJ hc (fun _=>ht) hs.e
 have hK:=hd.kn.1
 have hp:=hs.p
 have hm2:=hs.m
 have hn2:=hs.n
 have f0:=hs.k0
 have f1:=hs.k1
 have hpos:=hd.pos j
 show dN (kD (ek c) (bH c t (c.p.toNat-aU c.k t c.n)).n (bH c t (c.p.toNat-aU c.k t c.n)).k j)=(bH c t (c.p.toNat-aU c.k t c.n)).f j
 have hj:j<(bH c t (c.p.toNat-aU c.k t c.n)).m:=hj
 generalize bH c t (c.p.toNat-aU c.k t c.n)=d at*
 rw[hp]at hK
 have hl:=hK.len
 obtain⟨Q,hQ⟩:∃Q,Q=fU d.k d.n j:=⟨_,rfl⟩
 obtain⟨g1,g2,g3⟩:j≤Q∧Q<j+(c.p.toNat+1)∧d.k Q<d.k (Q+1):=by
  rw[hQ]
  exact Fe (n:=d.n) (k:=d.k) (pc:=pK d.k d.n) (fun _=>rfl) (fun _ _=>rfl) (hK.Lf (by omega)) (by omega) (by omega)
 have hA:At d.n d.k Q:=⟨by omega,hK.sorted,g3⟩
 obtain⟨P,hP,hI,hE⟩:=hsub.UG hK hA g1 (by omega)
 have hI2:fJ c.n c.k (d.k Q)=P:=by
  unfold fJ
  rw[if_neg,hI]
  unfold dP
  have m1:=hK.mono (show 0≤Q by omega) (by omega)
  have m2:=hK.mono (show Q≤d.n-1 by omega) (by omega)
  rw[f0]at m1
  rw[f1]at m2
  rintro(h|h)<;>grind
 have key:∀e,gd (ek c) (P:Nat) c.p.toNat (fun i=>d.k (i+(j+1))) e=gX (b9 (d.f j)) e:=fun e=>(ajv (c:=ek c) k1 k2 k5 hP).trans (hE e)
 have e1:kD (ek c) d.n d.k j=b9 (d.f j):=by
  show nE (ek c) (fJ c.n c.k (d.k (fU d.k d.n j))) c.p.toNat (fun q=>d.k (q+(j+1)))=_
  rw[←hQ,hI2]
  unfold nE
  rw[key 0,key 1,key 2,key 3]
  rfl
 rw[e1]
 exact r8 (pS hpos)
theorem SI {c:Cu} {t:Rat} (hc:dH c 5) (ht:cO t) (h0:c.k 0<t) (h1:t<c.k (c.n-1)) (h40:c.m+c.p.toNat≤40):tE (ek c) (c.k 0) t∧tE (ek c) t (c.k (c.n-1))∧bw (bg (Bp (lU (ek c) (c.k 0) t)) (sK+10) (sB+sB)) (bg (iZ c t) 2000 sE)∧bw (bg (Bp (lU (ek c) t (c.k (c.n-1)))) (sK+10) (sB+sB)) (bg (iV c t) 2000 sE)∧(lU (ek c) (c.k 0) t).n<2^28∧(lU (ek c) (c.k 0) t).m<2^28∧(lU (ek c) t (c.k (c.n-1))).n<2^28∧(lU (ek c) t (c.k (c.n-1))).m<2^28:=by
 obtain⟨k1,k2,k3,k4,k5⟩:=id hc.kn
 have hle:=k1.vQ h0 h1
 have hR:((aU c.k t c.n+(c.p.toNat-aU c.k t c.n):Nat):Int)≤c.p:=by omega
 have hs:ja c t (c.p.toNat-aU c.k t c.n):=ja.all hc ht h0 h1 h40 hR
 have hd:dH (bM c t) (rF (c.p.toNat-aU c.k t c.n)):=lJ hc (fun _=>ht) hs.e
 have hk:(bM c t).k=dm c.k c.n t (c.p.toNat-aU c.k t c.n):=MK hc ht h0 h1 h40 hR
 have hn:(bM c t).n=c.n+(c.p.toNat-aU c.k t c.n):=hs.n
 have hpole:∀{j:Nat},j<(bM c t).m→dN (kD (ek c) (bM c t).n (bM c t).k j)=(bM c t).f j:=fun {j} hj=>TQ hc ht h0 h1 h40 hj
 have t1:mc (ek c) (c.k 0) t=t:=if_pos rfl
 have t2:mc (ek c) t (c.k (c.n-1))=t:=if_neg fun e=>by rw[show(ek c).k 0=c.k 0 from rfl]at e;rw[e]at h0;exact Rat.lt_irrefl h0
 have n1:oX (ek c) (c.k 0) t=(bM c t).n:=by unfold oX;rw[t1,hn]
 have n2:oX (ek c) t (c.k (c.n-1))=(bM c t).n:=by unfold oX;rw[t2,hn]
 have q1:qX (ek c) (c.k 0) t=(bM c t).k:=by unfold qX;rw[t1,hk]
 have q2:qX (ek c) t (c.k (c.n-1))=(bM c t).k:=by unfold qX;rw[t2,hk]
 have f0:(bM c t).k 0=c.k 0:=hs.k0
 have f1:(bM c t).k ((bM c t).n-1)=c.k (c.n-1):=hs.k1
 have hp:(bM c t).p=c.p:=hs.p
 have hm2:=hd.kn.2.2.2.2
 have hK:=hd.kn.1
 have htm:aU (bM c t).k t (bM c t).n=(bM c t).p.toNat:=by
  rw[hp];exact hs.s.trans (by omega)
 have u1:qY (ek c) (c.k 0) t=dG (iN (c.k 0) (bM c t).k) (bM c t).n:=by unfold qY;rw[n1,q1]
 have u2:rS (ek c) (c.k 0) t=dG (iP t (bM c t).k) (bM c t).n:=by unfold rS;rw[n1,q1]
 have u3:qY (ek c) t (c.k (c.n-1))=dG (iN t (bM c t).k) (bM c t).n:=by unfold qY;rw[n2,q2]
 have u4:rS (ek c) t (c.k (c.n-1))=dG (iP (c.k (c.n-1)) (bM c t).k) (bM c t).n:=by unfold rS;rw[n2,q2]
 have r1:iZ c t=uP (bM c t) t (bz (bM c t).n (bM c t).k t):=if_pos ⟨h0,h1⟩
 have r2:iV c t=tC (bM c t) t (bz (bM c t).n (bM c t).k t):=if_pos ⟨h0,h1⟩
 obtain⟨i1,i2,i3⟩:=lN hK (by rw[f0];exact h0) (by rw[f1];exact h1)
 obtain⟨s1,s2,s3⟩:=hK.split (by rw[f0];exact h0) (by rw[f1];exact h1) i1 i2 i3 htm
 obtain⟨v1,v2,v3,v4⟩:=hK.firsts (by rw[f0];exact h0) (by rw[f1];exact h1) i1 i2 i3 htm
 obtain⟨w1,w2⟩:=hK.kU (by rw[f0];exact h0) (by rw[f1];exact h1) i1 i2 i3
 have hfirst:=hK.first
 have hlast:=hK.last
 have hkd:=hd.kd
 have hl:=hK.len
 have hdn:(bM c t).n≤c.n+6:=by rw[hn];omega
 rw[hp]at s1 s2 s3 v1 v2 v4 hfirst hlast hl hm2
 have F1:dG (iN (c.k 0) (bM c t).k) (bM c t).n=c.p.toNat+1:=by rw[←f0];exact v1
 have F2:dG (iP t (bM c t).k) (bM c t).n=bz (bM c t).n (bM c t).k t+1-c.p.toNat:=v2
 have F3:dG (iN t (bM c t).k) (bM c t).n=bz (bM c t).n (bM c t).k t+1:=v3
 have F4:dG (iP (c.k (c.n-1)) (bM c t).k) (bM c t).n=(bM c t).n-c.p.toNat-1:=by rw[←f1];exact v4
 have hl2:=k1.len
 have hp5:(ek c).p.toNat=c.p.toNat:=rfl
 rw[hp]at w1 w2
 refine⟨⟨k1,k2,k3,show c.n<2^27 by omega,show c.m<2^28 by omega,hc.kd,by rw[t1];exact ht,by rw[t1];exact h0,by rw[t1];exact h1,.inl rfl,by rw[u1,F1];exact Nat.le_refl _,by rw[u1,u2,F1,F2];omega,by rw[u2,n1,F2,hp5];omega⟩,⟨k1,k2,k3,show c.n<2^27 by omega,show c.m<2^28 by omega,hc.kd,by rw[t2];exact ht,by rw[t2];exact h0,by rw[t2];exact h1,.inr rfl,by rw[u3,F3,hp5];omega,by rw[u3,u4,F3,F4];omega,by rw[u4,n2,F4,hp5];omega⟩,?_⟩
 rw[r1,r2]
 unfold lU
 rw[u1,u2,u3,u4,n1,n2,q1,q2,F1,F2,F3,F4]
 clear u1 u2 u3 u4 n1 n2 q1 q2 F1 F2 F3 F4 r1 r2 t1 t2 v1 v2 v3 v4 hs hd hk hn
 generalize bM c t=d at*
 generalize bz d.n d.k t=a at*
 have hdp:d.p.toNat=c.p.toNat:=by rw[hp]
 have up:∀{q:Pl},bw (bI q (sB+sB)) (bI q sE):=fun {q}=>cC ⟨cC ⟨bF rfl (by decide),bF rfl (by decide),bF rfl (by decide),trivial⟩,bF rfl (by decide),trivial⟩
 have kn:∀{x y:Rat},x=y→cO y→bw (.rat x (sK+10)) (.rat y 2000):=fun {x y} h hy=>by rw[h];exact ey rfl (hy.sz.more (by decide))
 refine⟨?_,?_,?_,?_,?_,?_⟩
 ·show bw (.agg [.int .i64 c.p,.aj 3 (c.p.toNat+1+(a+1-c.p.toNat-(c.p.toNat+1))+(c.p.toNat+1)) fun i=>.rat (m7 c.p.toNat (c.k 0) t d.k (c.p.toNat+1) (a+1-c.p.toNat) i) (sK+10),.aj 12 (a+1-c.p.toNat-(c.p.toNat+1-1-c.p.toNat)) fun i=>bI (dN (kD (ek c) d.n d.k (c.p.toNat+1-1-c.p.toNat+i))) (sB+sB)]) (.agg [.int .i64 d.p,.aj 3 (a+1+1) fun i=>.rat (if i<a+1 then d.k i else t) 2000,.aj 12 (a+1-d.p.toNat) fun i=>bI (d.f i) sE])
  rw[hp,show c.p.toNat+1+(a+1-c.p.toNat-(c.p.toNat+1))+(c.p.toNat+1)=a+1+1 by omega,show a+1-c.p.toNat-(c.p.toNat+1-1-c.p.toNat)=a+1-c.p.toNat by omega]
  refine cC ⟨.refl _,fT fun i hi=>kn ?_ ?_,fT fun i hi=>?_,trivial⟩
  ·unfold m7
   by_cases c1:i<c.p.toNat+1
   ·rw[if_pos c1,if_pos (by omega),hfirst i (by omega),f0]
   ·rw[if_neg c1]
    by_cases c2:i<c.p.toNat+1+(a+1-c.p.toNat-(c.p.toNat+1))
    ·rw[if_pos c2,if_pos (by omega)];congr 1;omega
    ·rw[if_neg c2]
     by_cases c3:i<a+1
     ·rw[if_pos c3,s1 i (by omega) (by omega)]
     ·rw[if_neg c3]
  ·split
   ·exact hkd i
   ·exact ht
  ·rw[show c.p.toNat+1-1-c.p.toNat+i=i by omega,hpole (by omega)];exact up
 ·show bw (.agg [.int .i64 c.p,.aj 3 (c.p.toNat+1+(d.n-c.p.toNat-1-(a+1))+(c.p.toNat+1)) fun i=>.rat (m7 c.p.toNat t (c.k (c.n-1)) d.k (a+1) (d.n-c.p.toNat-1) i) (sK+10),.aj 12 (d.n-c.p.toNat-1-(a+1-1-c.p.toNat)) fun i=>bI (dN (kD (ek c) d.n d.k (a+1-1-c.p.toNat+i))) (sB+sB)]) (.agg [.int .i64 d.p,.aj 3 (1+(d.n-(a+1-d.p.toNat))) fun i=>.rat (if i<1 then t else d.k (a+1-d.p.toNat+(i-1))) 2000,.aj 12 (d.m-(a-d.p.toNat)) fun i=>bI (d.f (a-d.p.toNat+i)) sE])
  rw[hp,show c.p.toNat+1+(d.n-c.p.toNat-1-(a+1))+(c.p.toNat+1)=1+(d.n-(a+1-c.p.toNat)) by omega,show d.n-c.p.toNat-1-(a+1-1-c.p.toNat)=d.m-(a-c.p.toNat) by omega]
  refine cC ⟨.refl _,fT fun i hi=>kn ?_ ?_,fT fun i hi=>?_,trivial⟩
  ·unfold m7
   by_cases c1:i<c.p.toNat+1
   ·rw[if_pos c1]
    by_cases c3:i<1
    ·rw[if_pos c3]
    ·rw[if_neg c3,s1 (a+1-c.p.toNat+(i-1)) (by omega) (by omega)]
   ·rw[if_neg c1,if_neg (show¬i<1 by omega)]
    by_cases c2:i<c.p.toNat+1+(d.n-c.p.toNat-1-(a+1))
    ·rw[if_pos c2];congr 1;omega
    ·rw[if_neg c2,hlast (a+1-c.p.toNat+(i-1)) (by omega) (by omega),f1]
  ·split
   ·exact ht
   ·exact hkd _
  ·rw[show a+1-1-c.p.toNat+i=a-c.p.toNat+i by omega,hpole (by omega)];exact up
 ·show c.p.toNat+1+(a+1-c.p.toNat-(c.p.toNat+1))+(c.p.toNat+1)<2^28
  omega
 ·show a+1-c.p.toNat-(c.p.toNat+1-1-c.p.toNat)<2^28
  omega
 ·show c.p.toNat+1+(d.n-c.p.toNat-1-(a+1))+(c.p.toNat+1)<2^28
  omega
 ·show d.n-c.p.toNat-1-(a+1-1-c.p.toNat)<2^28
  omega
theorem XP:∀K args pre q,Eg K args pre=some q→aA P C4 K args pre q:=cj fun⟨c,t,_⟩ K hn=>by
 obtain⟨hc,ht,h40,hp5⟩:=hn
 have hc:dH c 5:=hc
 have ht:cO t:=ht
 have h40:c.m+c.p.toNat≤40:=h40
 obtain⟨k1,k2,k3,k4,k5⟩:=id hc.kn
 have hl:=k1.len
 refine bJ (r:=aH (.tuple [bg (iZ c t) 2000 sE,bg (iV c t) 2000 sE,.int .i64 (lO c t)]) []) hT akm hm ac8 rfl (of_decide_eq_true (by kernel_rfl)) rfl 60 X1 (fun _=>?_) K []
 have e1:((c.n:Int)-1).toNat=c.n-1:=by omega
 simp only[aa.all,ax,decide_eq_true_eq,decide_eq_false_iff_not,Bool.not_eq_true',Bool.not_eq_false',Bool.and_eq_true,Bool.and_eq_false_iff,e1]
 refine⟨⟨by omega,by omega,ct (Nat.le_refl _),gO (Nat.le_refl _),Nat.le_refl _,hc.kn⟩,fun ho=>⟨⟨by omega,by omega⟩,⟨by omega,by omega⟩,?_⟩,fun hi=>?_⟩
 ·have hno:¬(c.k 0<t∧t<c.k (c.n-1)):=fun h=>ho.elim (fun g=>g h.1) fun g=>g h.2
  rw[show iZ c t=gJ from if_neg hno,show iV c t=gJ from if_neg hno,show lO c t=7 from if_neg hno]
  exact⟨mY,mY,.refl _,trivial⟩
 ·obtain⟨g1,g2,g3,g4,g5,g6,g7,g8⟩:=SI hc ht hi.1 hi.2 h40
  refine⟨⟨by omega,ct (Nat.le_refl _),gO (Nat.le_refl _),by omega,by omega,by omega⟩,⟨by omega,by omega,⟨by omega,by rw[Int.toNat_zero];omega⟩,by omega,ct (Nat.le_refl _),nF (Nat.le_refl _),Nat.le_refl _,Nat.le_refl _,g1,ct (Nat.le_refl _),nF (Nat.le_refl _),by omega,by omega,by omega,by omega,by omega,by omega,by omega,⟨by omega,by omega⟩,ct (Nat.le_refl _),nF (Nat.le_refl _),Nat.le_refl _,Nat.le_refl _,g2,ct (Nat.le_refl _),nF (Nat.le_refl _),by omega,by omega,by omega,by omega⟩,⟨by omega,by omega⟩,?_⟩
  rw[show lO c t=0 from if_pos hi]
  exact⟨g3,g4,.refl _,trivial⟩
end Go.Am.B

/- The numbers of drawn curves are short; parameters within their domains. -/
namespace Go.Am.B
open Go Go.Am.N AV aa ak IntKind
def xI (x:Rat):Prop:=∃z:Int,x=(z:Rat)/2∧-4≤z∧z≤28
theorem DY {z:Int}:(z:Rat)/2*55440=((27720*z:Int):Rat):=by
 rw[Rat.intCast_mul,Rat.div_def,show((27720:Int):Rat)=(2:Rat)⁻¹*55440 by decide+kernel];grind
theorem xI.isD {x:Rat} (h:xI x):cO x:=by
 obtain⟨z,e,h1,h2⟩:=h
 exact⟨27720*z,by rw[e,DY],by omega,by omega⟩
theorem Ho {n m:Nat} {f:Nat→AV} {a d:Int} {b:Bool} (h:cM n f a) (hd:1≤d) (hm4:m≤4) (i:Nat):xI ((fm n f a d m b).k i):=by
 have a1:=gR (n:=n) (f:=f) (a:=a) (m:=d) (by omega)
 have hJ:=HW (n:=n) (f:=f) (a:=bA n a) (m:=m)
 have hp:1≤jh n f a d:=by unfold jh;omega
 obtain⟨z,e,h1,h2⟩:=(xV (p:=jh n f a d) h.next hp (jt n f (bA n a) m)).1.ME i
 exact⟨z,e,h1,by omega⟩
theorem aeT {x y:Int} {k:Nat} (hx:x.natAbs<2^k) (hy:y≠0) (hy2:y.natAbs<2^k):Sz ((x:Rat)/(y:Rat)) k:=by
 rw[←ES hy];exact CA (by omega) hx hy2
theorem E2 {n:Nat} {f:Nat→AV} {a:Int}:Sz (gb n f a) 3:=by
 have a1:=gR (n:=n) (f:=f) (a:=a) (m:=13) (by omega)
 have a2:=iq (n:=n) (f:=f) (a:=a) (m:=13) (by omega)
 have b1:=gR (n:=n) (f:=f) (a:=bA n (bA n a)) (m:=4) (by omega)
 have b2:=iq (n:=n) (f:=f) (a:=bA n (bA n a)) (m:=4) (by omega)
 unfold gb
 split
 ·exact aeT (by omega) (by omega) (by omega)
 ·exact qS (by omega) (by decide)
theorem JM {n m:Nat} {f:Nat→AV} {a d:Int} (h:cM n f a) (hd:1≤d) (hd6:d≤6) (hm4:m≤4):dH (fm n f a d m false) 5:=by
 obtain⟨k1,k2,k3,k4,k5,k6⟩:=FF (m:=m) (b:=false) h hd
 have hw:∀i,Sz ((fm n f a d m false).f i).d 2:=fun i=>by
  have b1:=gR (n:=n) (f:=f) (a:=iX n f (jg n f (kT n f a d m) i)) (m:=3) (by omega)
  have b2:=iq (n:=n) (f:=f) (a:=iX n f (jg n f (kT n f a d m) i)) (m:=3) (by omega)
  exact qS (x:=1+cS n f (iX n f (jg n f (kT n f a d m) i)) 3) (n:=2) (by omega) (by decide)
 refine⟨⟨k1,k2,by omega,by omega,k4⟩,fun i=>?_,fun i=>(Ho h hd hm4 i).isD,fun i=>?_,fun i=>?_,fun i=>?_,fun i=>(hw i).more (by decide)⟩
 ·have:=(k6 i).1
  grind
 ·exact(hw i).mul E2
 ·exact(hw i).mul E2
 ·have hz:((fm n f a d m false).f i).n.z=gb n f (fL n f (fL n f (jg n f (kT n f a d m) i))):=rfl
  show Sz (((fm n f a d m false).f i).d*((fm n f a d m false).f i).n.z) 5
  rw[hz]
  exact(hw i).mul E2
theorem ahh {d:Int}:∃q:Int,mZ d*27720=(q:Rat)∧0≤q∧q≤27720:=by
 have hv0:=Int.emod_nonneg (IntKind.i64.wrap (d.tdiv 17)) (show(12:Int)≠0 by omega)
 have hv1:=Int.emod_lt_of_pos (IntKind.i64.wrap (d.tdiv 17)) (show(0:Int)<12 by omega)
 obtain⟨v,hv⟩:∃v,v=AY d:=⟨_,rfl⟩
 have hv2:1≤v∧v≤12:=by rw[hv];unfold AY;omega
 have hu0:=Int.emod_nonneg d (show v+1≠0 by omega)
 have hu1:=Int.emod_lt_of_pos d (show 0<v+1 by omega)
 unfold mZ
 rw[←hv]
 generalize d%(v+1)=u at*
 obtain⟨w,hw⟩:∃w:Int,v*w=27720:=by
  rcases(show v=1∨v=2∨v=3∨v=4∨v=5∨v=6∨v=7∨v=8∨v=9∨v=10∨v=11∨v=12 by omega)with h|h|h|h|h|h|h|h|h|h|h|h<;>subst h
  ·exact⟨27720,rfl⟩
  ·exact⟨13860,rfl⟩
  ·exact⟨9240,rfl⟩
  ·exact⟨6930,rfl⟩
  ·exact⟨5544,rfl⟩
  ·exact⟨4620,rfl⟩
  ·exact⟨3960,rfl⟩
  ·exact⟨3465,rfl⟩
  ·exact⟨3080,rfl⟩
  ·exact⟨2772,rfl⟩
  ·exact⟨2520,rfl⟩
  ·exact⟨2310,rfl⟩
 have hw0:0≤w:=by
  by_cases c:0≤w
  ·exact c
  ·have:=Int.mul_le_mul_of_nonneg_left (show w≤-1 by omega) (show 0≤v by omega)
   omega
 refine⟨u*w,?_,Int.mul_nonneg hu0 hw0,?_⟩
 ·have hvr:(v:Rat)≠0:=by
   intro e
   have:v=0:=Rat.intCast_inj.1 (e:(v:Rat)=((0:Int):Rat))
   omega
  have e:(27720:Rat)=(v:Rat)*(w:Rat):=by rw[←Rat.intCast_mul,hw];rfl
  rw[e,Rat.intCast_mul,Rat.div_def]
  have:(u:Rat)*(v:Rat)⁻¹*((v:Rat)*(w:Rat))=(u:Rat)*(((v:Rat)*(v:Rat)⁻¹)*(w:Rat)):=by grind
  rw[this,Rat.mul_inv_cancel _ hvr,Rat.one_mul]
 ·have:=Int.mul_le_mul_of_nonneg_right (show u≤v by omega) hw0
  omega
theorem MH {x y:Rat} {d:Int} (hx:xI x) (hy:xI y) (hxy:x≤y):cO (x+mZ d*(y-x)):=by
 obtain⟨z0,e0,a1,a2⟩:=hx
 obtain⟨z1,e1,b1,b2⟩:=hy
 obtain⟨q,hq,q1,q2⟩:=ahh (d:=d)
 have o:27720*z0≤27720*z1:=cO.order (by rw[←DY,e0]) (by rw[←DY,e1]) hxy
 have n1:=Int.mul_nonneg q1 (show 0≤z1-z0 by omega)
 have n2:=Int.mul_le_mul_of_nonneg_right q2 (show 0≤z1-z0 by omega)
 refine⟨27720*z0+q*(z1-z0),?_,by omega,by omega⟩
 rw[Rat.intCast_add,Rat.intCast_mul q,Rat.intCast_sub,←hq,←DY,e0,e1]
 have e2:(z0:Rat)/2=(z0:Rat)*(1/2):=by rw[Rat.div_def,show((2:Rat)⁻¹)=1/2 by decide+kernel]
 have e3:(z1:Rat)/2=(z1:Rat)*(1/2):=by rw[Rat.div_def,show((2:Rat)⁻¹)=1/2 by decide+kernel]
 rw[e2,e3]
 grind
end Go.Am.B

/- made.Ts. -/
namespace Go.Am.B
open Go Go.Am.N AV aa ak IntKind
theorem Yc:aP P vX yu (au yu):=aQ ab3 (by kernel_rfl) (by kernel_rfl) (by kernel_rfl)
abbrev sw (w:Nat→Int) (m:Nat):AV:=.aj 1 m fun i=>.int .i64 (w i)
def IU (f:Nat→AV) (n:Nat):Prop:=∀i,i<n→f i=.int .i64 (intOf (f i))
def LK:AV→Option (Nat×(Nat→AV))
 |.aj 1 n f=>some (n,f)
 |_=>none
def kIn:Kind (Nat×(Nat→Int)):=⟨fun v=>match LK v with
 |some (n,f)=>some ((n,fun i=>intOf (f i)),[IU f n])
 |none=>none,fun a=>sw a.2 a.1,fun {v a q} h hq=>by
  split at h
  ·rename_i h1
   simp only[Option.some.injEq,Prod.mk.injEq]at h
   obtain⟨rfl,rfl⟩:=h
   unfold LK at h1
   split at h1
   ·simp only[Option.some.injEq,Prod.mk.injEq]at h1
    obtain⟨rfl,rfl⟩:=h1
    exact fT fun i hi=>cY (hq i hi)
   ·simp at h1
  ·simp at h⟩
noncomputable def HI:aS:=[(LA,kZ T [nG] [] 60 J1)]
noncomputable def B0:aS:=nG::(HI++Gm)
noncomputable abbrev AK:Code:=au yu
abbrev zK:List Nat:=[2,1,5,6]
abbrev vf (n:Nat) (z:Nat→Int) (i:Nat):List AV:=[.ptr 0 0 3 0 [],sw z n,.own 1 3 0 i,.int .i64 i]
abbrev vY (c:Cu) (t:Nat→Rat) (i:Nat):aC:=[(1,qc 2000 i t),(0,⟨false,true,3,1,fun _=>bg c 64 64⟩)]
def jf (c:Cu) (d:Int):Rat:=c.k 0+mZ d*(c.k (c.n-1)-c.k 0)
theorem aj9 {c:Cu} {n:Nat} {z:Nat→Int}:aJ T B0 [] 60 zK (before AK [1,1,0,1]) ⟨aN 0 [bg c 64 64,sw z n],[],0⟩=
  let c1:Nat:=(aT (bg c 64 64)).size;some (leaf normal ([ptr 0 0 c1 0 [],aj 1 n fun i↦int i64 (z i),nil,int i64 (0:Int)],[((0:Nat),ah.mk false true c1 1 fun x↦agg [int i64 c.p,aj 3 c.n fun i↦rat (c.k i) 64,aj 12 c.m fun i↦agg [agg [rat (c.f i).n.x 64,rat (c.f i).n.y 64,rat (c.f i).n.z 64],rat (c.f i).d 64]])])):=by kernel_rfl
theorem aik {c:Cu} {n i:Nat} {z:Nat→Int} {t:Nat→Rat}:aJ T B0 [11,14] 60 zK [part AK [1,1,0,1,0,0]] ⟨aB zK (vf n z i),vY c t i,2⟩=
  let c11:Nat:=Int.toNat (0:Int);let c10:AV:=aj 1 n fun i↦int i64 (z i);let c8:AV:=ptr 0 0 3 0 [];let c7:Int:=(2:Int)^63;let c6:Int:=(↑c.n:Int)-(1:Int);let c5:Int:=(↑i:Int);let c4:Prop:=0<1;let c2:List (Nat×ah):=[((0:Nat),ah.mk false true 3 1 fun x↦agg [int i64 c.p,aj 3 c.n fun i↦rat (c.k i) 64,aj 12 c.m fun i↦agg [agg [rat (c.f i).n.x 64,rat (c.f i).n.y 64,rat (c.f i).n.z 64],rat (c.f i).d 64]])];let c12:Int:=c5+(1:Int);let c9:Bool:=decide (c5<(↑n:Int));let c3:aa (List AV×aC):=leaf (exit 0) ([c8,c10,own 1 3 0 i,int i64 c5],((1:Nat),ah.mk true true 3 i fun i↦rat (t i) 2000)::c2);let c1:aa (List AV×aC):=ag [c4,c4,(0:Int)≤(0:Int)∧c11<c.n,c4,c4,-c7≤c6∧c6<c7,(0:Int)≤c6∧c6.toNat<c.n,c4,c4,(0:Int)≤c5∧c5.toNat<n,c4,(1:Nat)*3≤2^24,(i+1)*((56:Nat)+1)*2≤2^47] (ag [-c7≤c12∧c12<c7] (leaf normal ([c8,c10,own 69634 3 0 (i+1),int i64 c12],((69634:Nat),ah.mk true true 3 (i+1) fun i_1↦if i_1<i then rat (t i_1) 2000 else nth [rat (c.k c11+mZ (z c5.toNat)*(c.k c6.toNat-c.k c11)) ((64:Nat)+((64:Nat)+((64:Nat)+64+1))+1)] (rat 0 1) (i_1-i+0))::c2)));some (fork c9 (ag [c9=true] (fork (bif true then decide (c5<(6:Int))else false) c1 c3)) (ag [c9=false] (fork false c1 c3))):=by kernel_rfl
theorem ady {c:Cu} {n i:Nat} {z:Nat→Int} {t:Nat→Rat}:bY T B0 [] 60 yu [part AK [1,1,1]] ⟨aB zK (vf n z i),vY c t i,2⟩=
  some (leaf ret [aj 3 i fun i↦rat (t (i+0)) 2000]):=by kernel_rfl
theorem Qe:aY P HI:=aG (mC hT (cK bq) hm (aQ TL (by kernel_rfl) (by kernel_rfl) (by kernel_rfl)) _ _) bq
theorem Tb:aY P B0:=cK (r6 Qe NY)
theorem aiw {c:Cu} {n:Nat} {z:Nat→Int} (h2:1≤c.n) (h3:c.n<2^40) (hn:n≤6) (K:Nat):aA P vX K [bg c 64 64,sw z n] [] (aH (bp (fun i=>jf c (z i)) n 2000) []):=by
 refine fH (r:=aH (bp (fun i=>jf c (z i)) n 2000) []) hT Tb hm Yc rfl (of_decide_eq_true (by kernel_rfl)) rfl [1,1,0,1] (i:=0) (y:=part AK [1,1,0,1,0,0]) (z:=part AK [1,1,1]) (by kernel_rfl) (by kernel_rfl) (by kernel_rfl) (f1:=[]) (f2:=[11,14]) (f3:=[]) 60 zK 2
  (fun i:Nat=>vf n z i) (fun i=>vY c (fun i=>jf c (z i)) i) (fun i=>i≤n) (fun i=>i=n) (fun i=>n-i) (fun _=>⟨⟨_,aj9,?_⟩,fun i hi=>⟨_,aik,?_⟩,fun i hi=>⟨_,ady,?_⟩⟩) K []
 ·simp only[aa.all,ax]
  exact⟨0,Nat.zero_le _,[(0,0)],rfl,rfl,rfl,nQ rfl (by omega) (by omega) (aF rfl rfl (aE rfl rfl) trivial)⟩
 ·simp only[aa.all,ax,cond_true,decide_eq_true_eq,decide_eq_false_iff_not,Int.toNat_natCast]
  have e1:((c.n:Int)-1).toNat=c.n-1:=by omega
  have st:∀k,k=0→(k=0∧∃b,b=n∧dM [] (vf n z i,vY c (fun i=>jf c (z i)) i) (vf n z b) (vY c (fun i=>jf c (z i)) b) 2)∨i<n:=fun k hk=>by
   by_cases c1:i<n
   ·exact .inr c1
   ·exact .inl ⟨hk,i,by omega,[(0,0),(1,1)],rfl,rfl,rfl,bB rfl rfl rfl (fun _ _=>aE rfl rfl) (aF rfl rfl (aE rfl rfl) trivial)⟩
  refine⟨fun h=>⟨h,fun h6=>⟨⟨by omega,by omega,⟨by omega,by rw[Int.toNat_zero];omega⟩,by omega,by omega,by omega,by omega,by omega,by omega,by omega,by omega,by omega,by omega⟩,by omega,i+1,by omega,by dsimp only;omega,[(0,0),(1,69634)],rfl,rfl,rfl,bB rfl rfl rfl (fun q hq=>jG (y:=fun i=>jf c (z i)) (fun _ _=>rfl) (by rw[e1];rfl) (Nat.le_refl _) (by decide) hq) (aF rfl rfl (aE rfl rfl) trivial)⟩,fun h6=>absurd h6 (by omega)⟩,fun h=>⟨h,fun g=>absurd g (by decide),fun _=>(st 0 rfl).resolve_right (by omega)⟩⟩
 ·simp only[aa.all,ax]
  subst hi
  exact .refl _
def NL:Spec:=cB (kC (hH 64 64) (kC kIn kN)) (fun a=>bp (fun i=>jf a.1 (a.2.1.2 i)) a.2.1.1 2000) fun a=>[1≤a.1.n,a.1.n<2^40,a.2.1.1≤6]
theorem abN:∀K args pre q,NL K args pre=some q→aA P vX K args pre q:=cj fun⟨c,⟨n,z⟩,_⟩ K hn=>aiw hn.1 hn.2.1 hn.2.2 K
end Go.Am.B
