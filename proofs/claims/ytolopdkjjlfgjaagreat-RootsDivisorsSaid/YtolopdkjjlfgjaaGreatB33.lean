/- brepkernelmade: number, Point, Map, Light, Roll. -/
import Derived.Test.YtolopdkjjlfgjaaGreatB32
set_option linter.unusedVariables false
namespace Go.Am.B
open Go Go.Am.N AV Proofs.Tryz IntKind
theorem Om:aX 87 f87:=aY func87
def GN:bg:=[(44,kW ur),(46,wZ),(23,DY)]
def rC (n:Nat) (f:Nat->AV) (a:Int):Rat:=if cz n f (bA n a) 4=3 then((cz n f a 13-6:Int):Rat)/((1+cz n f (bA n (bA n a)) 4:Int):Rat)else((cz n f a 13-6:Int):Rat)
def mq (n:Nat) (f:Nat->AV) (a:Int):Int:=if cz n f (bA n a) 4=3 then bA n (bA n (bA n a))else bA n (bA n a)
def DQ (n:Nat) (f:Nat->AV) (a:Int) (l:List AV):Option (AV×Int×List Prop):=match l with
 |[]=>some (.rat (rC n f a) 64,mq n f a,[])
 |_=>none
def HB (n:Nat) (f:Nat->AV) (a:Int):Int:=mq n f (mq n f (mq n f a))
theorem Vk:bK P GN:=aK CP (aK Al (aK LS bU))
theorem aaw {n:Nat} {z:Nat->Int} {a:Int}:AN T GN [8] 60 f87 (aG f87) ⟨aS 0 [.ptr 0 0 2 0 []],[(0,jM n (fun i=>.int .i64 (z i)) a)],1⟩=
  let c7:Int:=(2:Int)^62;let c6:AV:=ak 1 n fun i=>int .i64 (z i);let c5:Int:=bA n (bA n a);let c4:List Prop:=[(0:Nat)<1];let c3:Int:=(2:Int)^63;let c1:Int:=i64.wrap (cz n (fun i=>int .i64 (z i)) a (13:Int)-6);let c2:Int:=i64.wrap ((1:Int)+cz n (fun i=>int .i64 (z i)) c5 (4:Int));some (af.aj [cL n (fun i=>int .i64 (z i)) a,(0:Int)<13,(13:Int)<c7] (af.aj [cL n (fun i=>int .i64 (z i)) (bA n a),(0:Int)<4,(4:Int)<c7] (af.fork (cz n (fun i=>int .i64 (z i)) (bA n a) (4:Int)==3) (af.aj (cL n (fun i=>int .i64 (z i)) c5::((0:Int)<4)::((4:Int)<c7)::(-c3<=c1)::(c1<c3)::(-c3<=c2)::(c2<c3)::c4) (af.aj c4 (af.leaf aq.ret ([rat ((↑c1:Rat)/(↑c2:Rat)) 64],some (ay.mk false true 2 1 fun x=>agg [c6,int .i64 (bA n c5)]))))) (af.aj ((-c3<=c1)::(c1<c3)::c4) (af.aj c4 (af.leaf aq.ret ([rat (↑c1:Rat) (max 1 (bI c1.natAbs))],some (ay.mk false true 2 1 fun x=>agg [c6,int .i64 c5])))))))):=ag
theorem cL.number {n:Nat} {f:Nat->AV} {a:Int} (h:cL n f a):cL n f (mq n f a):=by
 unfold mq;split
 ·exact h.next.next.next
 ·exact h.next.next
theorem cL.N6 {n:Nat} {f:Nat->AV} {a:Int} (h:cL n f a):cL n f (HB n f a):=h.number.number.number
theorem zX {x y:Int} (h1:-2^63<=x) (h2:x<2^63):Sz (x:Rat) 64:=Dg.more (by
 have:bI x.natAbs<=64:=jW.2 aa
 omega)
theorem YI {k n:Nat} {z:Nat->Int} {a:Int} {o:ay} (ho:∀ρ,cW ρ o (jM n (fun i=>.int .i64 (z i)) a)) (h:cL n (fun i=>.int .i64 (z i)) a) (K:Nat):
  aO P 87 K [.ptr k 0 2 0 []] [(k,o)] ⟨.rat (rC n (fun i=>.int .i64 (z i)) a) 64,[(k,jM n (fun i=>.int .i64 (z i)) (mq n (fun i=>.int .i64 (z i)) a))],[]⟩:=by
 refine Lj hT Vk hm Om rfl rfl aW ho 60 aaw (fun _=>?_) K
 have a1:=iY (n:=n) (f:=fun i=>.int .i64 (z i)) (a:=a) (m:=13) aa
 have a2:=ja (n:=n) (f:=fun i=>.int .i64 (z i)) (a:=a) (m:=13) aa
 have b1:=iY (n:=n) (f:=fun i=>.int .i64 (z i)) (a:=bA n (bA n a)) (m:=4) aa
 have b2:=ja (n:=n) (f:=fun i=>.int .i64 (z i)) (a:=bA n (bA n a)) (m:=4) aa
 unfold rC mq
 generalize cz n (fun i=>.int .i64 (z i)) a 13=x at*
 generalize cz n (fun i=>.int .i64 (z i)) (bA n (bA n a)) 4=y at*
 generalize cz n (fun i=>.int .i64 (z i)) (bA n a) 4=w at*
 have e1:i64.wrap (x-6)=x-6:=wrap_i64 aa aa
 have e2:i64.wrap (1+y)=1+y:=wrap_i64 aa aa
 rw[e1,e2]
 simp only[af.all,az,beq_iff_eq,beq_eq_false_iff_ne,ne_eq]
 refine⟨⟨h,aa,aa⟩,⟨h.next,aa,aa⟩,fun hw=>⟨⟨h.next.next,aa,aa,aa,aa,aa,aa,aa⟩,aa,en (by rw[if_pos hw]),_,rfl,rfl,sw rfl (by rw[if_pos hw])⟩,fun hw=>⟨⟨aa,aa,aa⟩,aa,?_,_,rfl,rfl,sw rfl (by rw[if_neg hw])⟩⟩
 rw[if_neg hw]
 exact ee rfl (zX (y:=0) aa aa)
theorem XY:bf P (kW DQ) 87:=by
 refine zS fun {k n z a l v b q o} K hg ho hd hq=>?_
 unfold DQ at hg
 split at hg
 ·simp only[ax,Prod.mk.injEq]at hg
  obtain⟨rfl,rfl,rfl⟩:=hg
  exact YI ho hd K
 ·simp at hg
def LM:Spec:=bR fun l=>match l with
 |[.ak 1 n _]=>some (aJ (.bool (decide ((n:Int)<=500))) [])
 |_=>none
theorem Ow:bf P LM 11:=by
 refine cE fun K args r hk hs _=>?_
 split at hs
 ·simp only[ax]at hs
  subst hs
  refine bW hT bU hm XI rfl aW rfl 60 ZA (fun _=>?_) K []
  exact .refl _
 ·simp at hs
def E4:Spec:=qu fun K l=>match l with
 |[.ak 1 n f]=>some ⟨.ptr K 0 2 0 [],[(K,jM n f 0)],[]⟩
 |_=>none
theorem T7:bf P E4 14:=by
 refine wI fun K args r hk hs=>?_
 split at hs
 ·simp only[ax]at hs
  subst hs
  exact SZ hT bU hm YK hk rfl aW ag (q:=[]) 60 VT (.inr rfl) (fun ρ=>sw rfl rfl) K
 ·simp at hs
end Go.Am.B
