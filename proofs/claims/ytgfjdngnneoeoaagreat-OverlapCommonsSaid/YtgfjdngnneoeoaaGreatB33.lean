/- brepkernelmade: number, Point, Map, Light, Roll. -/
import Derived.Test.YtgfjdngnneoeoaaGreatB32
set_option linter.unusedVariables false
namespace Go.Am.B
open Go Go.Am.N AV Proofs.Tryz IntKind
theorem WR:aW 66 f66:=aN func66
theorem X4:aW 24 f24:=aN func24
def GN:aU:=[(25,kK Ad),(123,KQ),(20,yO)]
def fK (n:Nat) (f:Nat->AV) (a:Int):Rat:=if eo n f (cy n a) 4=3 then((eo n f a 13-6:Int):Rat)/((1+eo n f (cy n (cy n a)) 4:Int):Rat)else((eo n f a 13-6:Int):Rat)
def eZ (n:Nat) (f:Nat->AV) (a:Int):Int:=if eo n f (cy n a) 4=3 then cy n (cy n (cy n a))else cy n (cy n a)
def sW (n:Nat) (f:Nat->AV) (a:Int) (l:List AV):Option (AV×Int×List Prop):=match l with
 |[]=>some (.rat (fK n f a) 64,eZ n f a,[])
 |_=>none
def GP:aU:=[(66,kK sW)]
def dY (n:Nat) (f:Nat->AV) (a:Int):Int:=eZ n f (eZ n f (eZ n f a))
def DM (n:Nat) (f:Nat->AV) (a:Int) (l:List AV):Option (AV×Int×List Prop):=match l with
 |[]=>some (.agg [.rat (fK n f a) 64,.rat (fK n f (eZ n f a)) 64,.rat (fK n f (eZ n f (eZ n f a))) 64],dY n f a,[])
 |_=>none
theorem XO:aZ P GN:=aE JA (aE ab5 (aE B5 bA))
theorem Sh {n:Nat} {z:Nat->Int} {a:Int}:qf T GN [8] 60 f66 (aF f66) ⟨aT 0 [.ptr 0 0 2 0 []],[(0,iK n (fun i=>.int .i64 (z i)) a)],1⟩=
  let c7:Int:=(2:Int)^62;let c6:AV:=aq 1 n fun i=>int .i64 (z i);let c5:Int:=cy n (cy n a);let c4:List Prop:=[(0:Nat)<1];let c3:Int:=(2:Int)^63;let c1:Int:=i64.wrap (eo n (fun i=>int .i64 (z i)) a (13:Int)-6);let c2:Int:=i64.wrap ((1:Int)+eo n (fun i=>int .i64 (z i)) c5 (4:Int));some (ag.aj [dG n (fun i=>int .i64 (z i)) a,(0:Int)<13,(13:Int)<c7] (ag.aj [dG n (fun i=>int .i64 (z i)) (cy n a),(0:Int)<4,(4:Int)<c7] (ag.fork (eo n (fun i=>int .i64 (z i)) (cy n a) (4:Int)==3) (ag.aj (dG n (fun i=>int .i64 (z i)) c5::((0:Int)<4)::((4:Int)<c7)::(-c3<=c1)::(c1<c3)::(-c3<=c2)::(c2<c3)::c4) (ag.aj c4 (ag.leaf ak.ret ([rat ((↑c1:Rat)/(↑c2:Rat)) 64],some (az.mk false true 2 1 fun x=>agg [c6,int .i64 (cy n c5)]))))) (ag.aj ((-c3<=c1)::(c1<c3)::c4) (ag.aj c4 (ag.leaf ak.ret ([rat (↑c1:Rat) (max 1 (bO c1.natAbs))],some (az.mk false true 2 1 fun x=>agg [c6,int .i64 c5])))))))):=ah
theorem agA {n:Nat} {z:Nat->Int} {a:Int}:qf T GP [] 60 f24 (aF f24) ⟨aT 0 [.ptr 0 0 2 0 []],[(0,iK n (fun i=>.int .i64 (z i)) a)],1⟩=
  let c2:Int:=eZ n (fun i=>int .i64 (z i)) a;let c1:Int:=eZ n (fun i=>int .i64 (z i)) c2;some (ag.aj [dG n (fun i=>int .i64 (z i)) a,dG n (fun i=>int .i64 (z i)) c2,dG n (fun i=>int .i64 (z i)) c1,(0:Nat)<1] (ag.aj [(0:Nat)<1] (ag.leaf ak.ret ([agg [rat (fK n (fun i=>int .i64 (z i)) a) 64,rat (fK n (fun i=>int .i64 (z i)) c2) 64,rat (fK n (fun i=>int .i64 (z i)) c1) 64]],some (az.mk false true 2 1 fun x=>agg [aq 1 n fun i=>int .i64 (z i),int .i64 (eZ n (fun i=>int .i64 (z i)) c1)]))))):=ah
theorem dG.number {n:Nat} {f:Nat->AV} {a:Int} (h:dG n f a):dG n f (eZ n f a):=by
 unfold eZ;split
 ·exact h.next.next.next
 ·exact h.next.next
theorem dG.mq {n:Nat} {f:Nat->AV} {a:Int} (h:dG n f a):dG n f (dY n f a):=h.number.number.number
theorem Nr {x y:Int} (h1:-2^63<=x) (h2:x<2^63):Sz (x:Rat) 64:=Dx.more (by
 have:bO x.natAbs<=64:=j5.2 aa
 omega)
theorem OH {k n:Nat} {z:Nat->Int} {a:Int} {o:az} (ho:∀ρ,dZ ρ o (iK n (fun i=>.int .i64 (z i)) a)) (h:dG n (fun i=>.int .i64 (z i)) a) (K:Nat):
  aO P 66 K [.ptr k 0 2 0 []] [(k,o)] ⟨.rat (fK n (fun i=>.int .i64 (z i)) a) 64,[(k,iK n (fun i=>.int .i64 (z i)) (eZ n (fun i=>.int .i64 (z i)) a))],[]⟩:=by
 refine vm hT XO hm WR rfl rfl aV ho 60 Sh (fun _=>?_) K
 have a1:=uF (n:=n) (f:=fun i=>.int .i64 (z i)) (a:=a) (m:=13) aa
 have a2:=ue (n:=n) (f:=fun i=>.int .i64 (z i)) (a:=a) (m:=13) aa
 have b1:=uF (n:=n) (f:=fun i=>.int .i64 (z i)) (a:=cy n (cy n a)) (m:=4) aa
 have b2:=ue (n:=n) (f:=fun i=>.int .i64 (z i)) (a:=cy n (cy n a)) (m:=4) aa
 unfold fK eZ
 generalize eo n (fun i=>.int .i64 (z i)) a 13=x at*
 generalize eo n (fun i=>.int .i64 (z i)) (cy n (cy n a)) 4=y at*
 generalize eo n (fun i=>.int .i64 (z i)) (cy n a) 4=w at*
 have e1:i64.wrap (x-6)=x-6:=wrap_i64 aa aa
 have e2:i64.wrap (1+y)=1+y:=wrap_i64 aa aa
 rw[e1,e2]
 simp only[ag.all,au,beq_iff_eq,beq_eq_false_iff_ne,ne_eq]
 refine⟨⟨h,aa,aa⟩,⟨h.next,aa,aa⟩,fun hw=>⟨⟨h.next.next,aa,aa,aa,aa,aa,aa,aa⟩,aa,dM (by rw[if_pos hw]),_,rfl,rfl,pT rfl (by rw[if_pos hw])⟩,fun hw=>⟨⟨aa,aa,aa⟩,aa,?_,_,rfl,rfl,pT rfl (by rw[if_neg hw])⟩⟩
 rw[if_neg hw]
 exact er rfl (Nr (y:=0) aa aa)
theorem QG:aY P (kK sW) 66:=by
 refine vU fun {k n z a l v b q o} K hg ho hd hq=>?_
 unfold sW at hg
 split at hg
 ·simp only[ax,Prod.mk.injEq]at hg
  obtain⟨rfl,rfl,rfl⟩:=hg
  exact OH ho hd K
 ·simp at hg
theorem Nd:aZ P GP:=aE QG bA
theorem R6:aY P (kK DM) 24:=by
 refine vU fun {k n z a l v b q o} K hg ho hd hq=>?_
 unfold DM at hg
 split at hg
 ·simp only[ax,Prod.mk.injEq]at hg
  obtain⟨rfl,rfl,rfl⟩:=hg
  refine vm hT Nd hm X4 rfl rfl aV ho 60 agA (fun _=>?_) K
  simp only[ag.all,au]
  exact⟨⟨hd,hd.number,hd.number.number,aa⟩,aa,.refl _,_,rfl,rfl,pT rfl rfl⟩
 ·simp at hg
def HQ:Spec:=bY fun l=>match l with
 |[.aq 1 n _]=>some (aI (.bool (decide ((n:Int)<=500))) [])
 |_=>none
theorem af5:aY P HQ 5:=by
 refine cJ fun K args r hk hs _=>?_
 split at hs
 ·simp only[ax]at hs
  subst hs
  refine bJ hT bA hm TP rfl aV rfl 60 NP (fun _=>?_) K []
  exact .refl _
 ·simp at hs
def Ji:Spec:=nM fun K l=>match l with
 |[.aq 1 n f]=>some ⟨.ptr K 0 2 0 [],[(K,iK n f 0)],[]⟩
 |_=>none
theorem adA:aY P Ji 8:=by
 refine qS fun K args r hk hs=>?_
 split at hs
 ·simp only[ax]at hs
  subst hs
  exact TQ hT bA hm Pq hk rfl aV ah (q:=[]) 60 ae5 (.inr rfl) (fun ρ=>pT rfl rfl) K
 ·simp at hs
end Go.Am.B
