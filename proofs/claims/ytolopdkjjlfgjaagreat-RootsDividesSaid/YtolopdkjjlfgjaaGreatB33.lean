/- brepkernelmade: number, Point, Map, Light, Roll. -/
import Derived.Test.YtolopdkjjlfgjaaGreatB32
set_option linter.unusedVariables false
namespace Go.Am.B
open Go Go.Am.N AV Proofs.Tryz IntKind
theorem NP:aX 87 f87:=aZ func87
def GN:bh:=[(44,kS vY),(46,yd),(23,Ef)]
def qC (n:Nat) (f:Nat->AV) (a:Int):Rat:=if cC n f (bC n a) 4=3 then((cC n f a 13-6:Int):Rat)/((1+cC n f (bC n (bC n a)) 4:Int):Rat)else((cC n f a 13-6:Int):Rat)
def me (n:Nat) (f:Nat->AV) (a:Int):Int:=if cC n f (bC n a) 4=3 then bC n (bC n (bC n a))else bC n (bC n a)
def E1 (n:Nat) (f:Nat->AV) (a:Int) (l:List AV):Option (AV×Int×List Prop):=match l with
 |[]=>some (.rat (qC n f a) 64,me n f a,[])
 |_=>none
def Je (n:Nat) (f:Nat->AV) (a:Int):Int:=me n f (me n f (me n f a))
theorem Ox:bI P GN:=aL Cf (aL CK (aL Ii b9))
theorem Tc {n:Nat} {z:Nat->Int} {a:Int}:AJ T GN [8] 60 f87 (aH f87) ⟨aT 0 [.ptr 0 0 2 0 []],[(0,js n (fun i=>.int .i64 (z i)) a)],1⟩=
  let c7:Int:=(2:Int)^62;let c6:AV:=ak 1 n fun i=>int .i64 (z i);let c5:Int:=bC n (bC n a);let c4:List Prop:=[(0:Nat)<1];let c3:Int:=(2:Int)^63;let c1:Int:=i64.wrap (cC n (fun i=>int .i64 (z i)) a (13:Int)-6);let c2:Int:=i64.wrap ((1:Int)+cC n (fun i=>int .i64 (z i)) c5 (4:Int));some (af.aj [cU n (fun i=>int .i64 (z i)) a,(0:Int)<13,(13:Int)<c7] (af.aj [cU n (fun i=>int .i64 (z i)) (bC n a),(0:Int)<4,(4:Int)<c7] (af.fork (cC n (fun i=>int .i64 (z i)) (bC n a) (4:Int)==3) (af.aj (cU n (fun i=>int .i64 (z i)) c5::((0:Int)<4)::((4:Int)<c7)::(-c3<=c1)::(c1<c3)::(-c3<=c2)::(c2<c3)::c4) (af.aj c4 (af.leaf aq.ret ([rat ((↑c1:Rat)/(↑c2:Rat)) 64],some (ax.mk false true 2 1 fun x=>agg [c6,int .i64 (bC n c5)]))))) (af.aj ((-c3<=c1)::(c1<c3)::c4) (af.aj c4 (af.leaf aq.ret ([rat (↑c1:Rat) (max 1 (bK c1.natAbs))],some (ax.mk false true 2 1 fun x=>agg [c6,int .i64 c5])))))))):=ah
theorem cU.number {n:Nat} {f:Nat->AV} {a:Int} (h:cU n f a):cU n f (me n f a):=by
 unfold me;split
 ·exact h.next.next.next
 ·exact h.next.next
theorem cU.Zr {n:Nat} {f:Nat->AV} {a:Int} (h:cU n f a):cU n f (Je n f a):=h.number.number.number
theorem yg {x y:Int} (h1:-2^63<=x) (h2:x<2^63):Sz (x:Rat) 64:=BZ.more (by
 have:bK x.natAbs<=64:=ji.2 aa
 omega)
theorem YU {k n:Nat} {z:Nat->Int} {a:Int} {o:ax} (ho:∀ρ,dr ρ o (js n (fun i=>.int .i64 (z i)) a)) (h:cU n (fun i=>.int .i64 (z i)) a) (K:Nat):
  aP P 87 K [.ptr k 0 2 0 []] [(k,o)] ⟨.rat (qC n (fun i=>.int .i64 (z i)) a) 64,[(k,js n (fun i=>.int .i64 (z i)) (me n (fun i=>.int .i64 (z i)) a))],[]⟩:=by
 refine Mx hT Ox hm NP rfl rfl aW ho 60 Tc (fun _=>?_) K
 have a1:=iS (n:=n) (f:=fun i=>.int .i64 (z i)) (a:=a) (m:=13) aa
 have a2:=iP (n:=n) (f:=fun i=>.int .i64 (z i)) (a:=a) (m:=13) aa
 have b1:=iS (n:=n) (f:=fun i=>.int .i64 (z i)) (a:=bC n (bC n a)) (m:=4) aa
 have b2:=iP (n:=n) (f:=fun i=>.int .i64 (z i)) (a:=bC n (bC n a)) (m:=4) aa
 unfold qC me
 generalize cC n (fun i=>.int .i64 (z i)) a 13=x at*
 generalize cC n (fun i=>.int .i64 (z i)) (bC n (bC n a)) 4=y at*
 generalize cC n (fun i=>.int .i64 (z i)) (bC n a) 4=w at*
 have e1:i64.wrap (x-6)=x-6:=wrap_i64 aa aa
 have e2:i64.wrap (1+y)=1+y:=wrap_i64 aa aa
 rw[e1,e2]
 simp only[af.all,aA,beq_iff_eq,beq_eq_false_iff_ne,ne_eq]
 refine⟨⟨h,aa,aa⟩,⟨h.next,aa,aa⟩,fun hw=>⟨⟨h.next.next,aa,aa,aa,aa,aa,aa,aa⟩,aa,ef (by rw[if_pos hw]),_,rfl,rfl,rS rfl (by rw[if_pos hw])⟩,fun hw=>⟨⟨aa,aa,aa⟩,aa,?_,_,rfl,rfl,rS rfl (by rw[if_neg hw])⟩⟩
 rw[if_neg hw]
 exact dK rfl (yg (y:=0) aa aa)
theorem Tu:bf P (kS E1) 87:=by
 refine yJ fun {k n z a l v b q o} K hg ho hd hq=>?_
 unfold E1 at hg
 split at hg
 ·simp only[ay,Prod.mk.injEq]at hg
  obtain⟨rfl,rfl,rfl⟩:=hg
  exact YU ho hd K
 ·simp at hg
def LG:Spec:=bU fun l=>match l with
 |[.ak 1 n _]=>some (aK (.bool (decide ((n:Int)<=500))) [])
 |_=>none
theorem RU:bf P LG 11:=by
 refine cJ fun K args r hk hs _=>?_
 split at hs
 ·simp only[ay]at hs
  subst hs
  refine bZ hT b9 hm TD rfl aW rfl 60 VC (fun _=>?_) K []
  exact .refl _
 ·simp at hs
def IF:Spec:=qE fun K l=>match l with
 |[.ak 1 n f]=>some ⟨.ptr K 0 2 0 [],[(K,js n f 0)],[]⟩
 |_=>none
theorem XH:bf P IF 14:=by
 refine wq fun K args r hk hs=>?_
 split at hs
 ·simp only[ay]at hs
  subst hs
  exact Pw hT b9 hm Ti hk rfl aW ah (q:=[]) 60 SD (.inr rfl) (fun ρ=>rS rfl rfl) K
 ·simp at hs
end Go.Am.B
