/- brepkernelmade: number, Point, Map, Light, Roll. -/
import Derived.Test.YtolopdkjjlfgjaaGreatB32
set_option linter.unusedVariables false
namespace Go.Am.B
open Go Go.Am.N AV Proofs.Tryz IntKind
theorem Yq:bf 87 f87:=bg func87
def GN:bk:=[(44,kj vW),(46,zk),(23,Ep)]
def kM (n:Nat) (f:Nat->AV) (a:Int):Rat:=if cT n f (bP n a) 4=3 then((cT n f a 13-6:Int):Rat)/((1+cT n f (bP n (bP n a)) 4:Int):Rat)else((cT n f a 13-6:Int):Rat)
def jX (n:Nat) (f:Nat->AV) (a:Int):Int:=if cT n f (bP n a) 4=3 then bP n (bP n (bP n a))else bP n (bP n a)
def Bt (n:Nat) (f:Nat->AV) (a:Int) (l:List AV):Option (AV×Int×List Prop):=match l with
 |[]=>some (.rat (kM n f a) 64,jX n f a,[])
 |_=>none
def Nx (n:Nat) (f:Nat->AV) (a:Int):Int:=jX n f (jX n f (jX n f a))
theorem Sn:bR P GN:=aJ Bk (aJ A8 (aJ J0 cz))
theorem WB {n:Nat} {z:Nat->Int} {a:Int}:zL T GN [8] 60 f87 (aH f87) ⟨aU 0 [.ptr 0 0 2 0 []],[(0,j9 n (fun i=>.int .i64 (z i)) a)],1⟩=
  let c7:Int:=(2:Int)^62;let c6:AV:=ak 1 n fun i=>int .i64 (z i);let c5:Int:=bP n (bP n a);let c4:List Prop:=[(0:Nat)<1];let c3:Int:=(2:Int)^63;let c1:Int:=i64.wrap (cT n (fun i=>int .i64 (z i)) a (13:Int)-6);let c2:Int:=i64.wrap ((1:Int)+cT n (fun i=>int .i64 (z i)) c5 (4:Int));some (ag.aj [dh n (fun i=>int .i64 (z i)) a,(0:Int)<13,(13:Int)<c7] (ag.aj [dh n (fun i=>int .i64 (z i)) (bP n a),(0:Int)<4,(4:Int)<c7] (ag.fork (cT n (fun i=>int .i64 (z i)) (bP n a) (4:Int)==3) (ag.aj (dh n (fun i=>int .i64 (z i)) c5::((0:Int)<4)::((4:Int)<c7)::(-c3<=c1)::(c1<c3)::(-c3<=c2)::(c2<c3)::c4) (ag.aj c4 (ag.leaf aq.ret ([rat ((↑c1:Rat)/(↑c2:Rat)) 64],some (au.mk false true 2 1 fun x=>agg [c6,int .i64 (bP n c5)]))))) (ag.aj ((-c3<=c1)::(c1<c3)::c4) (ag.aj c4 (ag.leaf aq.ret ([rat (↑c1:Rat) (max 1 (bV c1.natAbs))],some (au.mk false true 2 1 fun x=>agg [c6,int .i64 c5])))))))):=ah
theorem dh.number {n:Nat} {f:Nat->AV} {a:Int} (h:dh n f a):dh n f (jX n f a):=by
 unfold jX;split
 ·exact h.next.next.next
 ·exact h.next.next
theorem dh.abf {n:Nat} {f:Nat->AV} {a:Int} (h:dh n f a):dh n f (Nx n f a):=h.number.number.number
theorem AK {x y:Int} (h1:-2^63<=x) (h2:x<2^63):Sz (x:Rat) 64:=Is.more (by
 have:bV x.natAbs<=64:=jZ.2 aa
 omega)
theorem Sv {k n:Nat} {z:Nat->Int} {a:Int} {o:au} (ho:∀ρ,dU ρ o (j9 n (fun i=>.int .i64 (z i)) a)) (h:dh n (fun i=>.int .i64 (z i)) a) (K:Nat):
  aQ P 87 K [.ptr k 0 2 0 []] [(k,o)] ⟨.rat (kM n (fun i=>.int .i64 (z i)) a) 64,[(k,j9 n (fun i=>.int .i64 (z i)) (jX n (fun i=>.int .i64 (z i)) a))],[]⟩:=by
 refine DZ hT Sn hm Yq rfl rfl aX ho 60 WB (fun _=>?_) K
 have a1:=jI (n:=n) (f:=fun i=>.int .i64 (z i)) (a:=a) (m:=13) aa
 have a2:=jW (n:=n) (f:=fun i=>.int .i64 (z i)) (a:=a) (m:=13) aa
 have b1:=jI (n:=n) (f:=fun i=>.int .i64 (z i)) (a:=bP n (bP n a)) (m:=4) aa
 have b2:=jW (n:=n) (f:=fun i=>.int .i64 (z i)) (a:=bP n (bP n a)) (m:=4) aa
 unfold kM jX
 generalize cT n (fun i=>.int .i64 (z i)) a 13=x at*
 generalize cT n (fun i=>.int .i64 (z i)) (bP n (bP n a)) 4=y at*
 generalize cT n (fun i=>.int .i64 (z i)) (bP n a) 4=w at*
 have e1:i64.wrap (x-6)=x-6:=wrap_i64 aa aa
 have e2:i64.wrap (1+y)=1+y:=wrap_i64 aa aa
 rw[e1,e2]
 simp only[ag.all,az,beq_iff_eq,beq_eq_false_iff_ne,ne_eq]
 refine⟨⟨h,aa,aa⟩,⟨h.next,aa,aa⟩,fun hw=>⟨⟨h.next.next,aa,aa,aa,aa,aa,aa,aa⟩,aa,fk (by rw[if_pos hw]),_,rfl,rfl,tA rfl (by rw[if_pos hw])⟩,fun hw=>⟨⟨aa,aa,aa⟩,aa,?_,_,rfl,rfl,tA rfl (by rw[if_neg hw])⟩⟩
 rw[if_neg hw]
 exact ej rfl (AK (y:=0) aa aa)
theorem MX:aY P (kj Bt) 87:=by
 refine yZ fun {k n z a l v b q o} K hg ho hd hq=>?_
 unfold Bt at hg
 split at hg
 ·simp only[ay,Prod.mk.injEq]at hg
  obtain⟨rfl,rfl,rfl⟩:=hg
  exact Sv ho hd K
 ·simp at hg
def J8:Spec:=cu fun l=>match l with
 |[.ak 1 n _]=>some (aL (.bool (decide ((n:Int)<=500))) [])
 |_=>none
theorem aiX:aY P J8 11:=by
 refine cW fun K args r hk hs _=>?_
 split at hs
 ·simp only[ay]at hs
  subst hs
  refine ck hT cz hm WY rfl aX rfl 60 aaN (fun _=>?_) K []
  exact .refl _
 ·simp at hs
def PX:Spec:=rK fun K l=>match l with
 |[.ak 1 n f]=>some ⟨.ptr K 0 2 0 [],[(K,j9 n f 0)],[]⟩
 |_=>none
theorem VQ:aY P PX 14:=by
 refine uX fun K args r hk hs=>?_
 split at hs
 ·simp only[ay]at hs
  subst hs
  exact Xv hT cz hm TZ hk rfl aX ah (q:=[]) 60 Vd (.inr rfl) (fun ρ=>tA rfl rfl) K
 ·simp at hs
end Go.Am.B
