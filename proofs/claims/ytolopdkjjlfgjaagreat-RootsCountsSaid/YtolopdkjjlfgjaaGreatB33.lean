/- brepkernelmade: number, Point, Map, Light, Roll. -/
import Derived.Test.YtolopdkjjlfgjaaGreatB32
set_option linter.unusedVariables false
namespace Go.Am.B
open Go Go.Am.N AV Proofs.Tryz IntKind
theorem Uu:aZ 87 f87:=bf func87
def GN:bp:=[(44,kn wm),(46,yd),(23,CV)]
def pS (n:Nat) (f:Nat->AV) (a:Int):Rat:=if ct n f (bC n a) 4=3 then((ct n f a 13-6:Int):Rat)/((1+ct n f (bC n (bC n a)) 4:Int):Rat)else((ct n f a 13-6:Int):Rat)
def mu (n:Nat) (f:Nat->AV) (a:Int):Int:=if ct n f (bC n a) 4=3 then bC n (bC n (bC n a))else bC n (bC n a)
def Em (n:Nat) (f:Nat->AV) (a:Int) (l:List AV):Option (AV×Int×List Prop):=match l with
 |[]=>some (.rat (pS n f a) 64,mu n f a,[])
 |_=>none
def JU (n:Nat) (f:Nat->AV) (a:Int):Int:=mu n f (mu n f (mu n f a))
theorem T0:bI P GN:=aI Dg (aI yV (aI FI bY))
theorem acD {n:Nat} {z:Nat->Int} {a:Int}:zf T GN [8] 60 f87 (aG f87) ⟨aQ 0 [.ptr 0 0 2 0 []],[(0,ju n (fun i=>.int .i64 (z i)) a)],1⟩=
  let c7:Int:=(2:Int)^62;let c6:AV:=ak 1 n fun i=>int .i64 (z i);let c5:Int:=bC n (bC n a);let c4:List Prop:=[(0:Nat)<1];let c3:Int:=(2:Int)^63;let c1:Int:=i64.wrap (ct n (fun i=>int .i64 (z i)) a (13:Int)-6);let c2:Int:=i64.wrap ((1:Int)+ct n (fun i=>int .i64 (z i)) c5 (4:Int));some (af.aj [cY n (fun i=>int .i64 (z i)) a,(0:Int)<13,(13:Int)<c7] (af.aj [cY n (fun i=>int .i64 (z i)) (bC n a),(0:Int)<4,(4:Int)<c7] (af.fork (ct n (fun i=>int .i64 (z i)) (bC n a) (4:Int)==3) (af.aj (cY n (fun i=>int .i64 (z i)) c5::((0:Int)<4)::((4:Int)<c7)::(-c3<=c1)::(c1<c3)::(-c3<=c2)::(c2<c3)::c4) (af.aj c4 (af.leaf aq.ret ([rat ((↑c1:Rat)/(↑c2:Rat)) 64],some (ax.mk false true 2 1 fun x=>agg [c6,int .i64 (bC n c5)]))))) (af.aj ((-c3<=c1)::(c1<c3)::c4) (af.aj c4 (af.leaf aq.ret ([rat (↑c1:Rat) (max 1 (bJ c1.natAbs))],some (ax.mk false true 2 1 fun x=>agg [c6,int .i64 c5])))))))):=ah
theorem cY.number {n:Nat} {f:Nat->AV} {a:Int} (h:cY n f a):cY n f (mu n f a):=by
 unfold mu;split
 ·exact h.next.next.next
 ·exact h.next.next
theorem cY.My {n:Nat} {f:Nat->AV} {a:Int} (h:cY n f a):cY n f (JU n f a):=h.number.number.number
theorem zI {x y:Int} (h1:-2^63<=x) (h2:x<2^63):Sz (x:Rat) 64:=DS.more (by
 have:bJ x.natAbs<=64:=jh.2 aa
 omega)
theorem acs {k n:Nat} {z:Nat->Int} {a:Int} {o:ax} (ho:∀ρ,de ρ o (ju n (fun i=>.int .i64 (z i)) a)) (h:cY n (fun i=>.int .i64 (z i)) a) (K:Nat):
  aO P 87 K [.ptr k 0 2 0 []] [(k,o)] ⟨.rat (pS n (fun i=>.int .i64 (z i)) a) 64,[(k,ju n (fun i=>.int .i64 (z i)) (mu n (fun i=>.int .i64 (z i)) a))],[]⟩:=by
 refine Hg hT T0 hm Uu rfl rfl aX ho 60 acD (fun _=>?_) K
 have a1:=iO (n:=n) (f:=fun i=>.int .i64 (z i)) (a:=a) (m:=13) aa
 have a2:=iP (n:=n) (f:=fun i=>.int .i64 (z i)) (a:=a) (m:=13) aa
 have b1:=iO (n:=n) (f:=fun i=>.int .i64 (z i)) (a:=bC n (bC n a)) (m:=4) aa
 have b2:=iP (n:=n) (f:=fun i=>.int .i64 (z i)) (a:=bC n (bC n a)) (m:=4) aa
 unfold pS mu
 generalize ct n (fun i=>.int .i64 (z i)) a 13=x at*
 generalize ct n (fun i=>.int .i64 (z i)) (bC n (bC n a)) 4=y at*
 generalize ct n (fun i=>.int .i64 (z i)) (bC n a) 4=w at*
 have e1:i64.wrap (x-6)=x-6:=wrap_i64 aa aa
 have e2:i64.wrap (1+y)=1+y:=wrap_i64 aa aa
 rw[e1,e2]
 simp only[af.all,az,beq_iff_eq,beq_eq_false_iff_ne,ne_eq]
 refine⟨⟨h,aa,aa⟩,⟨h.next,aa,aa⟩,fun hw=>⟨⟨h.next.next,aa,aa,aa,aa,aa,aa,aa⟩,aa,dZ (by rw[if_pos hw]),_,rfl,rfl,sN rfl (by rw[if_pos hw])⟩,fun hw=>⟨⟨aa,aa,aa⟩,aa,?_,_,rfl,rfl,sN rfl (by rw[if_neg hw])⟩⟩
 rw[if_neg hw]
 exact dF rfl (zI (y:=0) aa aa)
theorem Ta:aY P (kn Em) 87:=by
 refine y9 fun {k n z a l v b q o} K hg ho hd hq=>?_
 unfold Em at hg
 split at hg
 ·simp only[ay,Prod.mk.injEq]at hg
  obtain⟨rfl,rfl,rfl⟩:=hg
  exact acs ho hd K
 ·simp at hg
def HK:Spec:=bR fun l=>match l with
 |[.ak 1 n _]=>some (aJ (.bool (decide ((n:Int)<=500))) [])
 |_=>none
theorem QO:aY P HK 11:=by
 refine cD fun K args r hk hs _=>?_
 split at hs
 ·simp only[ay]at hs
  subst hs
  refine cj hT bY hm SO rfl aX rfl 60 PJ (fun _=>?_) K []
  exact .refl _
 ·simp at hs
def Ig:Spec:=qh fun K l=>match l with
 |[.ak 1 n f]=>some ⟨.ptr K 0 2 0 [],[(K,ju n f 0)],[]⟩
 |_=>none
theorem NC:aY P Ig 14:=by
 refine tU fun K args r hk hs=>?_
 split at hs
 ·simp only[ay]at hs
  subst hs
  exact QZ hT bY hm XQ hk rfl aX ah (q:=[]) 60 ZS (.inr rfl) (fun ρ=>sN rfl rfl) K
 ·simp at hs
end Go.Am.B
