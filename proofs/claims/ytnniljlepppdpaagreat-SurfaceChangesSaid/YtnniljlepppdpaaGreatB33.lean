/- brepkernelmade: number, Point, Map, Light, Roll. -/
import Derived.Test.YtnniljlepppdpaaGreatB32
set_option linter.unusedVariables false
namespace Go.Am.B
open Go Go.Am.N AV
theorem Xc:aT P DQ Hs (ay Hs):=aU Proofs.Tryz.func243 ag ag ag
theorem aj4:aT P KZ CI (ay CI):=aU Proofs.Tryz.func166 ag ag ag
def GN:bf:=[(tG,jD uF),(pC,rT),(qd,yL)]
def gx (n:Nat) (f:Nat->AV) (a:Int):Rat:=if cF n f (aR n a) 4=3 then((cF n f a 13-6:Int):Rat)/((1+cF n f (aR n (aR n a)) 4:Int):Rat)else((cF n f a 13-6:Int):Rat)
def gM (n:Nat) (f:Nat->AV) (a:Int):Int:=if cF n f (aR n a) 4=3 then aR n (aR n (aR n a))else aR n (aR n a)
def My (n:Nat) (f:Nat->AV) (a:Int) (l:List AV):Option (AV×Int×List Prop):=match l with
 |[]=>some (.rat (gx n f a) 64,gM n f a,[])
 |_=>none
def GP:bf:=[(DQ,jD My)]
def jk (n:Nat) (f:Nat->AV) (a:Int):Int:=gM n f (gM n f (gM n f a))
def Jb (n:Nat) (f:Nat->AV) (a:Int) (l:List AV):Option (AV×Int×List Prop):=match l with
 |[]=>some (.agg [.rat (gx n f a) 64,.rat (gx n f (gM n f a)) 64,.rat (gx n f (gM n f (gM n f a))) 64],jk n f a,[])
 |_=>none
theorem anF:bu P GN:=aI BK (aI vp (aI Cw bz))
theorem afF {n:Nat} {z:Nat->Int} {a:Int}:uQ T GN [8] 60 Hs (ay Hs) ⟨aP 0 [.ptr 0 0 2 0 []],[(0,jK n (fun i=>.int .i64 (z i)) a)],1⟩=
  let c7:Int:=(2:Int)^62;let c6:AV:=aq 1 n fun i=>int .i64 (z i);let c5:Int:=aR n (aR n a);let c4:List Prop:=[(0:Nat)<1];let c3:Int:=(2:Int)^63;let c1:Int:=IntKind.i64.wrap (cF n (fun i=>int .i64 (z i)) a (13:Int)-6);let c2:Int:=IntKind.i64.wrap ((1:Int)+cF n (fun i=>int .i64 (z i)) c5 (4:Int));some (ah.aj [dj n (fun i=>int .i64 (z i)) a,(0:Int)<13,(13:Int)<c7] (ah.aj [dj n (fun i=>int .i64 (z i)) (aR n a),(0:Int)<4,(4:Int)<c7] (ah.fork (cF n (fun i=>int .i64 (z i)) (aR n a) (4:Int)==3) (ah.aj (dj n (fun i=>int .i64 (z i)) c5::((0:Int)<4)::((4:Int)<c7)::(-c3<=c1)::(c1<c3)::(-c3<=c2)::(c2<c3)::c4) (ah.aj c4 (ah.leaf ax.ret ([rat ((↑c1:Rat)/(↑c2:Rat)) 64],some (ak.mk false true 2 1 fun x=>agg [c6,int .i64 (aR n c5)]))))) (ah.aj ((-c3<=c1)::(c1<c3)::c4) (ah.aj c4 (ah.leaf ax.ret ([rat (↑c1:Rat) (max 1 (bQ c1.natAbs))],some (ak.mk false true 2 1 fun x=>agg [c6,int .i64 c5])))))))):=ag
theorem YU {n:Nat} {z:Nat->Int} {a:Int}:uQ T GP [] 60 CI (ay CI) ⟨aP 0 [.ptr 0 0 2 0 []],[(0,jK n (fun i=>.int .i64 (z i)) a)],1⟩=
  let c2:Int:=gM n (fun i=>int .i64 (z i)) a;let c1:Int:=gM n (fun i=>int .i64 (z i)) c2;some (ah.aj [dj n (fun i=>int .i64 (z i)) a,dj n (fun i=>int .i64 (z i)) c2,dj n (fun i=>int .i64 (z i)) c1,(0:Nat)<1] (ah.aj [(0:Nat)<1] (ah.leaf ax.ret ([agg [rat (gx n (fun i=>int .i64 (z i)) a) 64,rat (gx n (fun i=>int .i64 (z i)) c2) 64,rat (gx n (fun i=>int .i64 (z i)) c1) 64]],some (ak.mk false true 2 1 fun x=>agg [aq 1 n fun i=>int .i64 (z i),int .i64 (gM n (fun i=>int .i64 (z i)) c1)]))))):=ag
theorem dj.number {n:Nat} {f:Nat->AV} {a:Int} (h:dj n f a):dj n f (gM n f a):=by
 unfold gM;split
 ·exact h.next.next.next
 ·exact h.next.next
theorem dj.L9 {n:Nat} {f:Nat->AV} {a:Int} (h:dj n f a):dj n f (jk n f a):=h.number.number.number
theorem OJ {x y:Int} (h1:-2^63<=x) (h2:x<2^63):Sz (x:Rat) 64:=Hz.more (by
 have:bQ x.natAbs<=64:=jg.2 aa
 omega)
theorem WQ {k n:Nat} {z:Nat->Int} {a:Int} {o:ak} (ho:∀ρ,dw ρ o (jK n (fun i=>.int .i64 (z i)) a)) (h:dj n (fun i=>.int .i64 (z i)) a) (K:Nat):
  aQ P DQ K [.ptr k 0 2 0 []] [(k,o)] ⟨.rat (gx n (fun i=>.int .i64 (z i)) a) 64,[(k,jK n (fun i=>.int .i64 (z i)) (gM n (fun i=>.int .i64 (z i)) a))],[]⟩:=by
 refine Gm hT anF hm Xc rfl rfl aX ho 60 afF (fun _=>?_) K
 have a1:=gC (n:=n) (f:=fun i=>.int .i64 (z i)) (a:=a) (m:=13) aa
 have a2:=gH (n:=n) (f:=fun i=>.int .i64 (z i)) (a:=a) (m:=13) aa
 have b1:=gC (n:=n) (f:=fun i=>.int .i64 (z i)) (a:=aR n (aR n a)) (m:=4) aa
 have b2:=gH (n:=n) (f:=fun i=>.int .i64 (z i)) (a:=aR n (aR n a)) (m:=4) aa
 unfold gx gM
 generalize cF n (fun i=>.int .i64 (z i)) a 13=x at*
 generalize cF n (fun i=>.int .i64 (z i)) (aR n (aR n a)) 4=y at*
 generalize cF n (fun i=>.int .i64 (z i)) (aR n a) 4=w at*
 have e1:IntKind.i64.wrap (x-6)=x-6:=wrap_i64 aa aa
 have e2:IntKind.i64.wrap (1+y)=1+y:=wrap_i64 aa aa
 rw[e1,e2]
 simp only[ah.all,aA,beq_iff_eq,beq_eq_false_iff_ne,ne_eq]
 refine⟨⟨h,aa,aa⟩,⟨h.next,aa,aa⟩,fun hw=>⟨⟨h.next.next,aa,aa,aa,aa,aa,aa,aa⟩,aa,dO (by rw[if_pos hw]),_,rfl,rfl,pI rfl (by rw[if_pos hw])⟩,fun hw=>⟨⟨aa,aa,aa⟩,aa,?_,_,rfl,rfl,pI rfl (by rw[if_neg hw])⟩⟩
 rw[if_neg hw]
 exact dn rfl (OJ (y:=0) aa aa)
theorem akB:aW P (jD My) DQ:=by
 refine wN fun {k n z a l v b q o} K hg ho hd hq=>?_
 unfold My at hg
 split at hg
 ·simp only[az,Prod.mk.injEq]at hg
  obtain⟨rfl,rfl,rfl⟩:=hg
  exact WQ ho hd K
 ·simp at hg
theorem aiP:bu P GP:=aI akB bz
theorem afi:aW P (jD Jb) KZ:=by
 refine wN fun {k n z a l v b q o} K hg ho hd hq=>?_
 unfold Jb at hg
 split at hg
 ·simp only[az,Prod.mk.injEq]at hg
  obtain⟨rfl,rfl,rfl⟩:=hg
  refine Gm hT aiP hm aj4 rfl rfl aX ho 60 YU (fun _=>?_) K
  simp only[ah.all,aA]
  exact⟨⟨hd,hd.number,hd.number.number,aa⟩,aa,.refl _,_,rfl,rfl,pI rfl rfl⟩
 ·simp at hg
def QJ:Spec:=bY fun l=>match l with
 |[.aq 1 n _]=>some (aJ (.bool (decide ((n:Int)<=500))) [])
 |_=>none
theorem aom:aW P QJ I9:=by
 refine cJ fun K args r hk hs _=>?_
 split at hs
 ·simp only[az]at hs
  subst hs
  refine bZ hT bz hm V8 rfl aX rfl 60 acJ (fun _=>?_) K []
  exact .refl _
 ·simp at hs
def Pn:Spec:=pR fun K l=>match l with
 |[.aq 1 n f]=>some ⟨.ptr K 0 2 0 [],[(K,jK n f 0)],[]⟩
 |_=>none
theorem Xi:aW P Pn K6:=by
 refine wJ fun K args r hk hs=>?_
 split at hs
 ·simp only[az]at hs
  subst hs
  exact aiZ hT bz hm acA hk rfl aX ag (q:=[]) 60 ajK (.inr rfl) (fun ρ=>pI rfl rfl) K
 ·simp at hs
end Go.Am.B
