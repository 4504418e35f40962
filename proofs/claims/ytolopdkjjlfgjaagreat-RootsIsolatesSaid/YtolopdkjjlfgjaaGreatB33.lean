/- brepkernelmade: number, Point, Map, Light, Roll. -/
import Derived.Test.YtolopdkjjlfgjaaGreatB32
set_option linter.unusedVariables false
namespace Go.Am.B
open Go Go.Am.N AV Proofs.Tryz IntKind
theorem UW:br 87 f87:=bu func87
def GN:bz:=[(44,mH yo),(46,B5),(23,Ek)]
def r9 (n:Nat) (f:Nat->AV) (a:Int):Rat:=if cU n f (bM n a) 4=3 then((cU n f a 13-6:Int):Rat)/((1+cU n f (bM n (bM n a)) 4:Int):Rat)else((cU n f a 13-6:Int):Rat)
def oo (n:Nat) (f:Nat->AV) (a:Int):Int:=if cU n f (bM n a) 4=3 then bM n (bM n (bM n a))else bM n (bM n a)
def Gs (n:Nat) (f:Nat->AV) (a:Int) (l:List AV):Option (AV×Int×List Prop):=match l with
 |[]=>some (.rat (r9 n f a) 64,oo n f a,[])
 |_=>none
def KL (n:Nat) (f:Nat->AV) (a:Int):Int:=oo n f (oo n f (oo n f a))
theorem agn:bU P GN:=aL Ey (aL HH (aL Jj cG))
theorem Vp {n:Nat} {z:Nat->Int} {a:Int}:BO T GN [8] 60 f87 (aI f87) ⟨aU 0 [.ptr 0 0 2 0 []],[(0,ko n (fun i=>.int .i64 (z i)) a)],1⟩=
  let c7:Int:=(2:Int)^62;let c6:AV:=ak 1 n fun i=>int .i64 (z i);let c5:Int:=bM n (bM n a);let c4:List Prop:=[(0:Nat)<1];let c3:Int:=(2:Int)^63;let c1:Int:=i64.wrap (cU n (fun i=>int .i64 (z i)) a (13:Int)-6);let c2:Int:=i64.wrap ((1:Int)+cU n (fun i=>int .i64 (z i)) c5 (4:Int));some (af.aj [dN n (fun i=>int .i64 (z i)) a,(0:Int)<13,(13:Int)<c7] (af.aj [dN n (fun i=>int .i64 (z i)) (bM n a),(0:Int)<4,(4:Int)<c7] (af.fork (cU n (fun i=>int .i64 (z i)) (bM n a) (4:Int)==3) (af.aj (dN n (fun i=>int .i64 (z i)) c5::((0:Int)<4)::((4:Int)<c7)::(-c3<=c1)::(c1<c3)::(-c3<=c2)::(c2<c3)::c4) (af.aj c4 (af.leaf aq.ret ([rat ((↑c1:Rat)/(↑c2:Rat)) 64],some (ax.mk false true 2 1 fun x=>agg [c6,int .i64 (bM n c5)]))))) (af.aj ((-c3<=c1)::(c1<c3)::c4) (af.aj c4 (af.leaf aq.ret ([rat (↑c1:Rat) (max 1 (bX c1.natAbs))],some (ax.mk false true 2 1 fun x=>agg [c6,int .i64 c5])))))))):=ah
theorem dN.number {n:Nat} {f:Nat->AV} {a:Int} (h:dN n f a):dN n f (oo n f a):=by
 unfold oo;split
 ·exact h.next.next.next
 ·exact h.next.next
theorem dN.ad2 {n:Nat} {f:Nat->AV} {a:Int} (h:dN n f a):dN n f (KL n f a):=h.number.number.number
theorem ze {x y:Int} (h1:-2^63<=x) (h2:x<2^63):Sz (x:Rat) 64:=Hr.more (by
 have:bX x.natAbs<=64:=j6.2 aa
 omega)
theorem TN {k n:Nat} {z:Nat->Int} {a:Int} {o:ax} (ho:∀ρ,dL ρ o (ko n (fun i=>.int .i64 (z i)) a)) (h:dN n (fun i=>.int .i64 (z i)) a) (K:Nat):
  aS P 87 K [.ptr k 0 2 0 []] [(k,o)] ⟨.rat (r9 n (fun i=>.int .i64 (z i)) a) 64,[(k,ko n (fun i=>.int .i64 (z i)) (oo n (fun i=>.int .i64 (z i)) a))],[]⟩:=by
 refine JM hT agn hm UW rfl rfl aZ ho 60 Vp (fun _=>?_) K
 have a1:=jM (n:=n) (f:=fun i=>.int .i64 (z i)) (a:=a) (m:=13) aa
 have a2:=jL (n:=n) (f:=fun i=>.int .i64 (z i)) (a:=a) (m:=13) aa
 have b1:=jM (n:=n) (f:=fun i=>.int .i64 (z i)) (a:=bM n (bM n a)) (m:=4) aa
 have b2:=jL (n:=n) (f:=fun i=>.int .i64 (z i)) (a:=bM n (bM n a)) (m:=4) aa
 unfold r9 oo
 generalize cU n (fun i=>.int .i64 (z i)) a 13=x at*
 generalize cU n (fun i=>.int .i64 (z i)) (bM n (bM n a)) 4=y at*
 generalize cU n (fun i=>.int .i64 (z i)) (bM n a) 4=w at*
 have e1:i64.wrap (x-6)=x-6:=wrap_i64 aa aa
 have e2:i64.wrap (1+y)=1+y:=wrap_i64 aa aa
 rw[e1,e2]
 simp only[af.all,az,beq_iff_eq,beq_eq_false_iff_ne,ne_eq]
 refine⟨⟨h,aa,aa⟩,⟨h.next,aa,aa⟩,fun hw=>⟨⟨h.next.next,aa,aa,aa,aa,aa,aa,aa⟩,aa,eU (by rw[if_pos hw]),_,rfl,rfl,wB rfl (by rw[if_pos hw])⟩,fun hw=>⟨⟨aa,aa,aa⟩,aa,?_,_,rfl,rfl,wB rfl (by rw[if_neg hw])⟩⟩
 rw[if_neg hw]
 exact dY rfl (ze (y:=0) aa aa)
theorem agy:bf P (mH Gs) 87:=by
 refine C4 fun {k n z a l v b q o} K hg ho hd hq=>?_
 unfold Gs at hg
 split at hg
 ·simp only[ay,Prod.mk.injEq]at hg
  obtain⟨rfl,rfl,rfl⟩:=hg
  exact TN ho hd K
 ·simp at hg
def NL:Spec:=cw fun l=>match l with
 |[.ak 1 n _]=>some (aM (.bool (decide ((n:Int)<=500))) [])
 |_=>none
theorem ae6:bf P NL 11:=by
 refine dc fun K args r hk hs _=>?_
 split at hs
 ·simp only[ay]at hs
  subst hs
  refine cF hT cG hm adY rfl aZ rfl 60 SJ (fun _=>?_) K []
  exact .refl _
 ·simp at hs
def J6:Spec:=rJ fun K l=>match l with
 |[.ak 1 n f]=>some ⟨.ptr K 0 2 0 [],[(K,ko n f 0)],[]⟩
 |_=>none
theorem agG:bf P J6 14:=by
 refine wv fun K args r hk hs=>?_
 split at hs
 ·simp only[ay]at hs
  subst hs
  exact adn hT cG hm ae9 hk rfl aZ ah (q:=[]) 60 Z5 (.inr rfl) (fun ρ=>wB rfl rfl) K
 ·simp at hs
end Go.Am.B
