/- brepkernelmade: number, Point, Map, Light, Roll. -/
import Derived.Test.YtgfjdngnneoeoaaGreatB32
set_option linter.unusedVariables false
namespace Go.Am.B
open Go Go.Am.N AV Proofs.Tryz IntKind
theorem ag0:aX 66 f66:=aM func66
theorem Yy:aX 24 f24:=aM func24
def GN:aV:=[(25,kW zI),(123,Ht),(20,z7)]
def eC (n:Nat) (f:Nat->AV) (a:Int):Rat:=if dU n f (b9 n a) 4=3 then((dU n f a 13-6:Int):Rat)/((1+dU n f (b9 n (b9 n a)) 4:Int):Rat)else((dU n f a 13-6:Int):Rat)
def ew (n:Nat) (f:Nat->AV) (a:Int):Int:=if dU n f (b9 n a) 4=3 then b9 n (b9 n (b9 n a))else b9 n (b9 n a)
def sD (n:Nat) (f:Nat->AV) (a:Int) (l:List AV):Option (AV×Int×List Prop):=match l with
 |[]=>some (.rat (eC n f a) 64,ew n f a,[])
 |_=>none
def GP:aV:=[(66,kW sD)]
def cU (n:Nat) (f:Nat->AV) (a:Int):Int:=ew n f (ew n f (ew n f a))
def DH (n:Nat) (f:Nat->AV) (a:Int) (l:List AV):Option (AV×Int×List Prop):=match l with
 |[]=>some (.agg [.rat (eC n f a) 64,.rat (eC n f (ew n f a)) 64,.rat (eC n f (ew n f (ew n f a))) 64],cU n f a,[])
 |_=>none
theorem Vh:bg P GN:=aE LV (aE ZG (aE CN bD))
theorem aal {n:Nat} {z:Nat->Int} {a:Int}:p7 T GN [8] 60 f66 (aF f66) ⟨aS 0 [.ptr 0 0 2 0 []],[(0,iR n (fun i=>.int .i64 (z i)) a)],1⟩=
  let c7:Int:=(2:Int)^62;let c6:AV:=ak 1 n fun i=>int .i64 (z i);let c5:Int:=b9 n (b9 n a);let c4:List Prop:=[(0:Nat)<1];let c3:Int:=(2:Int)^63;let c1:Int:=i64.wrap (dU n (fun i=>int .i64 (z i)) a (13:Int)-6);let c2:Int:=i64.wrap ((1:Int)+dU n (fun i=>int .i64 (z i)) c5 (4:Int));some (ag.aj [dK n (fun i=>int .i64 (z i)) a,(0:Int)<13,(13:Int)<c7] (ag.aj [dK n (fun i=>int .i64 (z i)) (b9 n a),(0:Int)<4,(4:Int)<c7] (ag.fork (dU n (fun i=>int .i64 (z i)) (b9 n a) (4:Int)==3) (ag.aj (dK n (fun i=>int .i64 (z i)) c5::((0:Int)<4)::((4:Int)<c7)::(-c3<=c1)::(c1<c3)::(-c3<=c2)::(c2<c3)::c4) (ag.aj c4 (ag.leaf aq.ret ([rat ((↑c1:Rat)/(↑c2:Rat)) 64],some (az.mk false true 2 1 fun x=>agg [c6,int .i64 (b9 n c5)]))))) (ag.aj ((-c3<=c1)::(c1<c3)::c4) (ag.aj c4 (ag.leaf aq.ret ([rat (↑c1:Rat) (max 1 (bN c1.natAbs))],some (az.mk false true 2 1 fun x=>agg [c6,int .i64 c5])))))))):=ah
theorem ad9 {n:Nat} {z:Nat->Int} {a:Int}:p7 T GP [] 60 f24 (aF f24) ⟨aS 0 [.ptr 0 0 2 0 []],[(0,iR n (fun i=>.int .i64 (z i)) a)],1⟩=
  let c2:Int:=ew n (fun i=>int .i64 (z i)) a;let c1:Int:=ew n (fun i=>int .i64 (z i)) c2;some (ag.aj [dK n (fun i=>int .i64 (z i)) a,dK n (fun i=>int .i64 (z i)) c2,dK n (fun i=>int .i64 (z i)) c1,(0:Nat)<1] (ag.aj [(0:Nat)<1] (ag.leaf aq.ret ([agg [rat (eC n (fun i=>int .i64 (z i)) a) 64,rat (eC n (fun i=>int .i64 (z i)) c2) 64,rat (eC n (fun i=>int .i64 (z i)) c1) 64]],some (az.mk false true 2 1 fun x=>agg [ak 1 n fun i=>int .i64 (z i),int .i64 (ew n (fun i=>int .i64 (z i)) c1)]))))):=ah
theorem dK.number {n:Nat} {f:Nat->AV} {a:Int} (h:dK n f a):dK n f (ew n f a):=by
 unfold ew;split
 ·exact h.next.next.next
 ·exact h.next.next
theorem dK.mK {n:Nat} {f:Nat->AV} {a:Int} (h:dK n f a):dK n f (cU n f a):=h.number.number.number
theorem It {x y:Int} (h1:-2^63<=x) (h2:x<2^63):Sz (x:Rat) 64:=B0.more (by
 have:bN x.natAbs<=64:=ki.2 aa
 omega)
theorem RF {k n:Nat} {z:Nat->Int} {a:Int} {o:az} (ho:∀ρ,eA ρ o (iR n (fun i=>.int .i64 (z i)) a)) (h:dK n (fun i=>.int .i64 (z i)) a) (K:Nat):
  aN P 66 K [.ptr k 0 2 0 []] [(k,o)] ⟨.rat (eC n (fun i=>.int .i64 (z i)) a) 64,[(k,iR n (fun i=>.int .i64 (z i)) (ew n (fun i=>.int .i64 (z i)) a))],[]⟩:=by
 refine uH hT Vh hm ag0 rfl rfl aW ho 60 aal (fun _=>?_) K
 have a1:=qj (n:=n) (f:=fun i=>.int .i64 (z i)) (a:=a) (m:=13) aa
 have a2:=qh (n:=n) (f:=fun i=>.int .i64 (z i)) (a:=a) (m:=13) aa
 have b1:=qj (n:=n) (f:=fun i=>.int .i64 (z i)) (a:=b9 n (b9 n a)) (m:=4) aa
 have b2:=qh (n:=n) (f:=fun i=>.int .i64 (z i)) (a:=b9 n (b9 n a)) (m:=4) aa
 unfold eC ew
 generalize dU n (fun i=>.int .i64 (z i)) a 13=x at*
 generalize dU n (fun i=>.int .i64 (z i)) (b9 n (b9 n a)) 4=y at*
 generalize dU n (fun i=>.int .i64 (z i)) (b9 n a) 4=w at*
 have e1:i64.wrap (x-6)=x-6:=wrap_i64 aa aa
 have e2:i64.wrap (1+y)=1+y:=wrap_i64 aa aa
 rw[e1,e2]
 simp only[ag.all,au,beq_iff_eq,beq_eq_false_iff_ne,ne_eq]
 refine⟨⟨h,aa,aa⟩,⟨h.next,aa,aa⟩,fun hw=>⟨⟨h.next.next,aa,aa,aa,aa,aa,aa,aa⟩,aa,dX (by rw[if_pos hw]),_,rfl,rfl,qM rfl (by rw[if_pos hw])⟩,fun hw=>⟨⟨aa,aa,aa⟩,aa,?_,_,rfl,rfl,qM rfl (by rw[if_neg hw])⟩⟩
 rw[if_neg hw]
 exact en rfl (It (y:=0) aa aa)
theorem aik:bf P (kW sD) 66:=by
 refine xw fun {k n z a l v b q o} K hg ho hd hq=>?_
 unfold sD at hg
 split at hg
 ·simp only[ax,Prod.mk.injEq]at hg
  obtain⟨rfl,rfl,rfl⟩:=hg
  exact RF ho hd K
 ·simp at hg
theorem MO:bg P GP:=aE aik bD
theorem agv:bf P (kW DH) 24:=by
 refine xw fun {k n z a l v b q o} K hg ho hd hq=>?_
 unfold DH at hg
 split at hg
 ·simp only[ax,Prod.mk.injEq]at hg
  obtain⟨rfl,rfl,rfl⟩:=hg
  refine uH hT MO hm Yy rfl rfl aW ho 60 ad9 (fun _=>?_) K
  simp only[ag.all,au]
  exact⟨⟨hd,hd.number,hd.number.number,aa⟩,aa,.refl _,_,rfl,rfl,qM rfl rfl⟩
 ·simp at hg
def Hx:Spec:=bX fun l=>match l with
 |[.ak 1 n _]=>some (aH (.bool (decide ((n:Int)<=500))) [])
 |_=>none
theorem agJ:bf P Hx 5:=by
 refine cM fun K args r hk hs _=>?_
 split at hs
 ·simp only[ax]at hs
  subst hs
  refine bM hT bD hm ail rfl aW rfl 60 ZD (fun _=>?_) K []
  exact .refl _
 ·simp at hs
def JB:Spec:=oF fun K l=>match l with
 |[.ak 1 n f]=>some ⟨.ptr K 0 2 0 [],[(K,iR n f 0)],[]⟩
 |_=>none
theorem RT:bf P JB 8:=by
 refine qd fun K args r hk hs=>?_
 split at hs
 ·simp only[ax]at hs
  subst hs
  exact ahs hT bD hm aaB hk rfl aW ah (q:=[]) 60 ab2 (.inr rfl) (fun ρ=>qM rfl rfl) K
 ·simp at hs
end Go.Am.B
