/- brepkernelmade: number, Point, Map, Light, Roll. -/
import Derived.Test.YtnniljlepppdpaaGreatB32
set_option linter.unusedVariables false
namespace Go.Am.B
open Go Go.Am.N AV
theorem alb:aR P Bh En (az En):=aS Proofs.Tryz.func243 ag ag ag
theorem WR:aR P Gd EK (az EK):=aS Proofs.Tryz.func166 ag ag ag
def GN:aX:=[(sw,jm uw),(sN,yN),(rC,zZ)]
def hU (n:Nat) (f:Nat->AV) (a:Int):Rat:=if dz n f (bP n a) 4=3 then((dz n f a 13-6:Int):Rat)/((1+dz n f (bP n (bP n a)) 4:Int):Rat)else((dz n f a 13-6:Int):Rat)
def gO (n:Nat) (f:Nat->AV) (a:Int):Int:=if dz n f (bP n a) 4=3 then bP n (bP n (bP n a))else bP n (bP n a)
def FV (n:Nat) (f:Nat->AV) (a:Int) (l:List AV):Option (AV×Int×List Prop):=match l with
 |[]=>some (.rat (hU n f a) 64,gO n f a,[])
 |_=>none
def GP:aX:=[(Bh,jm FV)]
def kG (n:Nat) (f:Nat->AV) (a:Int):Int:=gO n f (gO n f (gO n f a))
def IY (n:Nat) (f:Nat->AV) (a:Int) (l:List AV):Option (AV×Int×List Prop):=match l with
 |[]=>some (.agg [.rat (hU n f a) 64,.rat (hU n f (gO n f a)) 64,.rat (hU n f (gO n f (gO n f a))) 64],kG n f a,[])
 |_=>none
theorem ajg:bq P GN:=aH DX (aH Fu (aH D9 bC))
theorem Vt {n:Nat} {z:Nat->Int} {a:Int}:uY T GN [8] 60 En (az En) ⟨aP 0 [.ptr 0 0 2 0 []],[(0,jx n (fun i=>.int .i64 (z i)) a)],1⟩=
  let c7:Int:=(2:Int)^62;let c6:AV:=ak 1 n fun i=>int IntKind.i64 (z i);let c5:Int:=bP n (bP n a);let c4:List Prop:=[(0:Nat)<1];let c3:Int:=(2:Int)^63;let c1:Int:=IntKind.i64.wrap (dz n (fun i=>int IntKind.i64 (z i)) a (13:Int)-(6:Int));let c2:Int:=IntKind.i64.wrap ((1:Int)+dz n (fun i=>int IntKind.i64 (z i)) c5 (4:Int));some (ah.aj [dr n (fun i=>int IntKind.i64 (z i)) a,(0:Int)<(13:Int),(13:Int)<c7] (ah.aj [dr n (fun i=>int IntKind.i64 (z i)) (bP n a),(0:Int)<(4:Int),(4:Int)<c7] (ah.fork (dz n (fun i=>int IntKind.i64 (z i)) (bP n a) (4:Int)==(3:Int)) (ah.aj (dr n (fun i=>int IntKind.i64 (z i)) c5::((0:Int)<(4:Int))::((4:Int)<c7)::(-c3<=c1)::(c1<c3)::(-c3<=c2)::(c2<c3)::c4) (ah.aj c4 (ah.leaf aq.ret ([rat ((↑c1:Rat)/(↑c2:Rat)) 64],some (au.mk false true 2 1 fun x=>agg [c6,int IntKind.i64 (bP n c5)]))))) (ah.aj ((-c3<=c1)::(c1<c3)::c4) (ah.aj c4 (ah.leaf aq.ret ([rat (↑c1:Rat) (max 1 (bM c1.natAbs))],some (au.mk false true 2 1 fun x=>agg [c6,int IntKind.i64 c5])))))))):=ag
theorem Uu {n:Nat} {z:Nat->Int} {a:Int}:uY T GP [] 60 EK (az EK) ⟨aP 0 [.ptr 0 0 2 0 []],[(0,jx n (fun i=>.int .i64 (z i)) a)],1⟩=
  let c2:Int:=gO n (fun i=>int IntKind.i64 (z i)) a;let c1:Int:=gO n (fun i=>int IntKind.i64 (z i)) c2;some (ah.aj [dr n (fun i=>int IntKind.i64 (z i)) a,dr n (fun i=>int IntKind.i64 (z i)) c2,dr n (fun i=>int IntKind.i64 (z i)) c1,(0:Nat)<1] (ah.aj [(0:Nat)<1] (ah.leaf aq.ret ([agg [rat (hU n (fun i=>int IntKind.i64 (z i)) a) 64,rat (hU n (fun i=>int IntKind.i64 (z i)) c2) 64,rat (hU n (fun i=>int IntKind.i64 (z i)) c1) 64]],some (au.mk false true 2 1 fun x=>agg [ak 1 n fun i=>int IntKind.i64 (z i),int IntKind.i64 (gO n (fun i=>int IntKind.i64 (z i)) c1)]))))):=ag
theorem dr.number {n:Nat} {f:Nat->AV} {a:Int} (h:dr n f a):dr n f (gO n f a):=by
 unfold gO;split
 ·exact h.next.next.next
 ·exact h.next.next
theorem dr.HH {n:Nat} {f:Nat->AV} {a:Int} (h:dr n f a):dr n f (kG n f a):=h.number.number.number
theorem RC {x y:Int} (h1:-2^63<=x) (h2:x<2^63):Sz (x:Rat) 64:=I6.more (by
 have:bM x.natAbs<=64:=jz.2 aa
 omega)
theorem aa4 {k n:Nat} {z:Nat->Int} {a:Int} {o:au} (ho:∀ρ,cU ρ o (jx n (fun i=>.int .i64 (z i)) a)) (h:dr n (fun i=>.int .i64 (z i)) a) (K:Nat):
  aD P Bh K [.ptr k 0 2 0 []] [(k,o)] ⟨.rat (hU n (fun i=>.int .i64 (z i)) a) 64,[(k,jx n (fun i=>.int .i64 (z i)) (gO n (fun i=>.int .i64 (z i)) a))],[]⟩:=by
 refine Eg hT ajg hm alb rfl rfl aW ho 60 Vt (fun _=>?_) K
 have a1:=jb (n:=n) (f:=fun i=>.int .i64 (z i)) (a:=a) (m:=13) aa
 have a2:=jn (n:=n) (f:=fun i=>.int .i64 (z i)) (a:=a) (m:=13) aa
 have b1:=jb (n:=n) (f:=fun i=>.int .i64 (z i)) (a:=bP n (bP n a)) (m:=4) aa
 have b2:=jn (n:=n) (f:=fun i=>.int .i64 (z i)) (a:=bP n (bP n a)) (m:=4) aa
 unfold hU gO
 generalize dz n (fun i=>.int .i64 (z i)) a 13=x at*
 generalize dz n (fun i=>.int .i64 (z i)) (bP n (bP n a)) 4=y at*
 generalize dz n (fun i=>.int .i64 (z i)) (bP n a) 4=w at*
 have e1:IntKind.i64.wrap (x-6)=x-6:=wrap_i64 aa aa
 have e2:IntKind.i64.wrap (1+y)=1+y:=wrap_i64 aa aa
 rw[e1,e2]
 simp only[ah.all,aA,beq_iff_eq,beq_eq_false_iff_ne,ne_eq]
 refine⟨⟨h,aa,aa⟩,⟨h.next,aa,aa⟩,fun hw=>⟨⟨h.next.next,aa,aa,aa,aa,aa,aa,aa⟩,aa,dL (by rw[if_pos hw]),_,rfl,rfl,oS rfl (by rw[if_pos hw])⟩,fun hw=>⟨⟨aa,aa,aa⟩,aa,?_,_,rfl,rfl,oS rfl (by rw[if_neg hw])⟩⟩
 rw[if_neg hw]
 exact dc rfl (RC (y:=0) aa aa)
theorem ahK:∀K args pre r,jm FV K args pre=some r->aD P Bh K args pre r:=by
 refine wG fun {k n z a l v b q o} K hg ho hd hq=>?_
 unfold FV at hg
 split at hg
 ·simp only[ax,Prod.mk.injEq]at hg
  obtain⟨rfl,rfl,rfl⟩:=hg
  exact aa4 ho hd K
 ·simp at hg
theorem Wn:bq P GP:=aH ahK bC
theorem abc:∀K args pre r,jm IY K args pre=some r->aD P Gd K args pre r:=by
 refine wG fun {k n z a l v b q o} K hg ho hd hq=>?_
 unfold IY at hg
 split at hg
 ·simp only[ax,Prod.mk.injEq]at hg
  obtain⟨rfl,rfl,rfl⟩:=hg
  refine Eg hT Wn hm WR rfl rfl aW ho 60 Uu (fun _=>?_) K
  simp only[ah.all,aA]
  exact⟨⟨hd,hd.number,hd.number.number,aa⟩,aa,.refl _,_,rfl,rfl,oS rfl rfl⟩
 ·simp at hg
def SI:Spec:=bU fun l=>match l with
 |[.ak 1 n _]=>some (aK (.bool (decide ((n:Int)<=500))) [])
 |_=>none
theorem Y1:∀K args pre r,SI K args pre=some r->aD P Gx K args pre r:=by
 refine cB fun K args r hk hs _=>?_
 split at hs
 ·simp only[ax]at hs
  subst hs
  refine bY hT bC hm adp rfl aW rfl 60 aev (fun _=>?_) K []
  exact .refl _
 ·simp at hs
def Ph:Spec:=uO fun K l=>match l with
 |[.ak 1 n f]=>some ⟨.ptr K 0 2 0 [],[(K,jx n f 0)],[]⟩
 |_=>none
theorem amR:∀K args pre r,Ph K args pre=some r->aD P Hw K args pre r:=by
 refine C0 fun K args r hk hs=>?_
 split at hs
 ·simp only[ax]at hs
  subst hs
  exact aat hT bC hm amw hk rfl aW ag (q:=[]) 60 W9 (.inr rfl) (fun ρ=>oS rfl rfl) K
 ·simp at hs
end Go.Am.B
