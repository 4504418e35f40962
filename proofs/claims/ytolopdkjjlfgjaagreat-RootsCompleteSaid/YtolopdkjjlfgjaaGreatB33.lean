/- brepkernelmade: number, Point, Map, Light, Roll. -/
import Derived.Test.YtolopdkjjlfgjaaGreatB32
set_option linter.unusedVariables false
namespace Go.Am.B
open Go Go.Am.N AV Proofs.Tryz IntKind
theorem WV:bu 87 f87:=bz func87
def GN:bB:=[(44,mw xl),(46,BQ),(23,BX)]
def qR (n:Nat) (f:Nat->AV) (a:Int):Rat:=if cJ n f (bF n a) 4=3 then((cJ n f a 13-6:Int):Rat)/((1+cJ n f (bF n (bF n a)) 4:Int):Rat)else((cJ n f a 13-6:Int):Rat)
def nP (n:Nat) (f:Nat->AV) (a:Int):Int:=if cJ n f (bF n a) 4=3 then bF n (bF n (bF n a))else bF n (bF n a)
def CK (n:Nat) (f:Nat->AV) (a:Int) (l:List AV):Option (AV×Int×List Prop):=match l with
 |[]=>some (.rat (qR n f a) 64,nP n f a,[])
 |_=>none
def Jx (n:Nat) (f:Nat->AV) (a:Int):Int:=nP n f (nP n f (nP n f a))
theorem aeA:bT P GN:=aN Ct (aN D4 (aN Nx ct))
theorem TU {n:Nat} {z:Nat->Int} {a:Int}:zu T GN [8] 60 f87 (aG f87) ⟨aV 0 [.ptr 0 0 2 0 []],[(0,j6 n (fun i=>.int .i64 (z i)) a)],1⟩=
  let c7:Int:=(2:Int)^62;let c6:AV:=aq 1 n fun i=>int .i64 (z i);let c5:Int:=bF n (bF n a);let c4:List Prop:=[(0:Nat)<1];let c3:Int:=(2:Int)^63;let c1:Int:=i64.wrap (cJ n (fun i=>int .i64 (z i)) a (13:Int)-6);let c2:Int:=i64.wrap ((1:Int)+cJ n (fun i=>int .i64 (z i)) c5 (4:Int));some (af.aj [dB n (fun i=>int .i64 (z i)) a,(0:Int)<13,(13:Int)<c7] (af.aj [dB n (fun i=>int .i64 (z i)) (bF n a),(0:Int)<4,(4:Int)<c7] (af.fork (cJ n (fun i=>int .i64 (z i)) (bF n a) (4:Int)==3) (af.aj (dB n (fun i=>int .i64 (z i)) c5::((0:Int)<4)::((4:Int)<c7)::(-c3<=c1)::(c1<c3)::(-c3<=c2)::(c2<c3)::c4) (af.aj c4 (af.leaf ak.ret ([rat ((↑c1:Rat)/(↑c2:Rat)) 64],some (ay.mk false true 2 1 fun x=>agg [c6,int .i64 (bF n c5)]))))) (af.aj ((-c3<=c1)::(c1<c3)::c4) (af.aj c4 (af.leaf ak.ret ([rat (↑c1:Rat) (max 1 (bP c1.natAbs))],some (ay.mk false true 2 1 fun x=>agg [c6,int .i64 c5])))))))):=ag
theorem dB.number {n:Nat} {f:Nat->AV} {a:Int} (h:dB n f a):dB n f (nP n f a):=by
 unfold nP;split
 ·exact h.next.next.next
 ·exact h.next.next
theorem dB.ZH {n:Nat} {f:Nat->AV} {a:Int} (h:dB n f a):dB n f (Jx n f a):=h.number.number.number
theorem zR {x y:Int} (h1:-2^63<=x) (h2:x<2^63):Sz (x:Rat) 64:=Dx.more (by
 have:bP x.natAbs<=64:=j5.2 aa
 omega)
theorem aej {k n:Nat} {z:Nat->Int} {a:Int} {o:ay} (ho:∀ρ,dG ρ o (j6 n (fun i=>.int .i64 (z i)) a)) (h:dB n (fun i=>.int .i64 (z i)) a) (K:Nat):
  aQ P 87 K [.ptr k 0 2 0 []] [(k,o)] ⟨.rat (qR n (fun i=>.int .i64 (z i)) a) 64,[(k,j6 n (fun i=>.int .i64 (z i)) (nP n (fun i=>.int .i64 (z i)) a))],[]⟩:=by
 refine J9 hT aeA hm WV rfl rfl bp ho 60 TU (fun _=>?_) K
 have a1:=jE (n:=n) (f:=fun i=>.int .i64 (z i)) (a:=a) (m:=13) aa
 have a2:=jF (n:=n) (f:=fun i=>.int .i64 (z i)) (a:=a) (m:=13) aa
 have b1:=jE (n:=n) (f:=fun i=>.int .i64 (z i)) (a:=bF n (bF n a)) (m:=4) aa
 have b2:=jF (n:=n) (f:=fun i=>.int .i64 (z i)) (a:=bF n (bF n a)) (m:=4) aa
 unfold qR nP
 generalize cJ n (fun i=>.int .i64 (z i)) a 13=x at*
 generalize cJ n (fun i=>.int .i64 (z i)) (bF n (bF n a)) 4=y at*
 generalize cJ n (fun i=>.int .i64 (z i)) (bF n a) 4=w at*
 have e1:i64.wrap (x-6)=x-6:=wrap_i64 aa aa
 have e2:i64.wrap (1+y)=1+y:=wrap_i64 aa aa
 rw[e1,e2]
 simp only[af.all,aA,beq_iff_eq,beq_eq_false_iff_ne,ne_eq]
 refine⟨⟨h,aa,aa⟩,⟨h.next,aa,aa⟩,fun hw=>⟨⟨h.next.next,aa,aa,aa,aa,aa,aa,aa⟩,aa,eO (by rw[if_pos hw]),_,rfl,rfl,uP rfl (by rw[if_pos hw])⟩,fun hw=>⟨⟨aa,aa,aa⟩,aa,?_,_,rfl,rfl,uP rfl (by rw[if_neg hw])⟩⟩
 rw[if_neg hw]
 exact fj rfl (zR (y:=0) aa aa)
theorem Yv:bA P (mw CK) 87:=by
 refine zI fun {k n z a l v b q o} K hg ho hd hq=>?_
 unfold CK at hg
 split at hg
 ·simp only[ax,Prod.mk.injEq]at hg
  obtain⟨rfl,rfl,rfl⟩:=hg
  exact aej ho hd K
 ·simp at hg
def KQ:Spec:=b7 fun l=>match l with
 |[.aq 1 n _]=>some (aM (.bool (decide ((n:Int)<=500))) [])
 |_=>none
theorem acd:bA P KQ 11:=by
 refine cP fun K args r hk hs _=>?_
 split at hs
 ·simp only[ax]at hs
  subst hs
  refine cA hT ct hm Y9 rfl bp rfl 60 Pv (fun _=>?_) K []
  exact .refl _
 ·simp at hs
def HF:Spec:=ur fun K l=>match l with
 |[.aq 1 n f]=>some ⟨.ptr K 0 2 0 [],[(K,j6 n f 0)],[]⟩
 |_=>none
theorem RB:bA P HF 14:=by
 refine Ai fun K args r hk hs=>?_
 split at hs
 ·simp only[ax]at hs
  subst hs
  exact Yq hT ct hm T6 hk rfl bp ag (q:=[]) 60 abf (.inr rfl) (fun ρ=>uP rfl rfl) K
 ·simp at hs
end Go.Am.B
