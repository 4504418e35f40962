/- brepkernelmade: number, Point, Map, Light, Roll. -/
import Derived.Test.YtppeigelbecpbaaGreatB32
set_option linter.unusedVariables false
namespace Go.Am.B
open Go Go.Am.N AV
theorem Vs:aP P AH vT (au vT):=aQ Ua (by kernel_rfl) (by kernel_rfl) (by kernel_rfl)
theorem aaD:aP P DM Ax (au Ax):=aQ ajL (by kernel_rfl) (by kernel_rfl) (by kernel_rfl)
theorem Zf:aP P An Bd (au Bd):=aQ Sv (by kernel_rfl) (by kernel_rfl) (by kernel_rfl)
def GN:aR:=[(oB,gH su),(oT,yV),(od,yl)]
def dU (n:Nat) (f:Nat→AV) (a:Int):Rat:=if cU n f (bA n a) 4=3 then((cU n f a 13-6:Int):Rat)/((1+cU n f (bA n (bA n a)) 4:Int):Rat)else((cU n f a 13-6:Int):Rat)
def dz (n:Nat) (f:Nat→AV) (a:Int):Int:=if cU n f (bA n a) 4=3 then bA n (bA n (bA n a))else bA n (bA n a)
def Fb (n:Nat) (f:Nat→AV) (a:Int) (l:List AV):Option (AV×Int×List Prop):=match l with
 |[]=>some (.rat (dU n f a) 64,dz n f a,[])
 |_=>none
def GP:aR:=[(AH,gH Fb)]
def bD (n:Nat) (f:Nat→AV) (a:Int):Int:=dz n f (dz n f (dz n f a))
def DV (n:Nat) (f:Nat→AV) (a:Int) (l:List AV):Option (AV×Int×List Prop):=match l with
 |[]=>some (.agg [.rat (dU n f a) 64,.rat (dU n f (dz n f a)) 64,.rat (dU n f (dz n f (dz n f a))) 64],bD n f a,[])
 |_=>none
def PB:aR:=[(An,gH DV)]
abbrev pV (n:Nat) (f:Nat→AV) (a:Int):AV:=.agg [.rat (dU n f a) 64,.rat (dU n f (dz n f a)) 64,.rat (dU n f (dz n f (dz n f a))) 64]
def Gp (n:Nat) (f:Nat→AV) (a:Int) (l:List AV):Option (AV×Int×List Prop):=match l with
 |[]=>some (.agg [.agg [pV n f a,pV n f (bD n f a),pV n f (bD n f (bD n f a))],pV n f (bD n f (bD n f (bD n f a)))],bD n f (bD n f (bD n f (bD n f a))),[])
 |_=>none
theorem Z1:aY P GN:=aG Cr (aG B9 (aG DF bh))
theorem aej {n:Nat} {z:Nat→Int} {a:Int}:rU T GN [8] 60 vT (au vT) ⟨aN 0 [.ptr 0 0 2 0 []],[(0,iw n (fun i=>.int .i64 (z i)) a)],1⟩=
  let c7:Int:=(2:Int)^62;let c6:AV:=ak 1 n fun i↦int IntKind.i64 (z i);let c5:Int:=bA n (bA n a);let c4:List Prop:=[(0:Nat)<1];let c3:Int:=(2:Int)^63;let c1:Int:=IntKind.i64.wrap (cU n (fun i↦int IntKind.i64 (z i)) a (13:Int)-(6:Int));let c2:Int:=IntKind.i64.wrap ((1:Int)+cU n (fun i↦int IntKind.i64 (z i)) c5 (4:Int));some (aa.ag [cB n (fun i↦int IntKind.i64 (z i)) a,(0:Int)<(13:Int),(13:Int)<c7] (aa.ag [cB n (fun i↦int IntKind.i64 (z i)) (bA n a),(0:Int)<(4:Int),(4:Int)<c7] (aa.fork (cU n (fun i↦int IntKind.i64 (z i)) (bA n a) (4:Int)==(3:Int)) (aa.ag (cB n (fun i↦int IntKind.i64 (z i)) c5::((0:Int)<(4:Int))::((4:Int)<c7)::(-c3≤c1)::(c1<c3)::(-c3≤c2)::(c2<c3)::c4) (aa.ag c4 (aa.leaf aj.ret ([rat ((↑c1:Rat)/(↑c2:Rat)) 64],some (ah.mk false true 2 1 fun x↦agg [c6,int IntKind.i64 (bA n c5)]))))) (aa.ag ((-c3≤c1)::(c1<c3)::c4) (aa.ag c4 (aa.leaf aj.ret ([rat (↑c1:Rat) (max 1 (br c1.natAbs))],some (ah.mk false true 2 1 fun x↦agg [c6,int IntKind.i64 c5])))))))):=by kernel_rfl
theorem agY {n:Nat} {z:Nat→Int} {a:Int}:rU T GP [] 60 Bd (au Bd) ⟨aN 0 [.ptr 0 0 2 0 []],[(0,iw n (fun i=>.int .i64 (z i)) a)],1⟩=
  let c2:Int:=dz n (fun i↦int IntKind.i64 (z i)) a;let c1:Int:=dz n (fun i↦int IntKind.i64 (z i)) c2;some (aa.ag [cB n (fun i↦int IntKind.i64 (z i)) a,cB n (fun i↦int IntKind.i64 (z i)) c2,cB n (fun i↦int IntKind.i64 (z i)) c1,(0:Nat)<1] (aa.ag [(0:Nat)<1] (aa.leaf aj.ret ([agg [rat (dU n (fun i↦int IntKind.i64 (z i)) a) 64,rat (dU n (fun i↦int IntKind.i64 (z i)) c2) 64,rat (dU n (fun i↦int IntKind.i64 (z i)) c1) 64]],some (ah.mk false true 2 1 fun x↦agg [ak 1 n fun i↦int IntKind.i64 (z i),int IntKind.i64 (dz n (fun i↦int IntKind.i64 (z i)) c1)]))))):=by kernel_rfl
theorem Tj {n:Nat} {z:Nat→Int} {a:Int}:rU T PB [] 60 Ax (au Ax) ⟨aN 0 [.ptr 0 0 2 0 []],[(0,iw n (fun i=>.int .i64 (z i)) a)],1⟩=
  some (aa.ag [cB n (fun(i:Nat)↦int IntKind.i64 (z i)) a,cB n (fun(i:Nat)↦int IntKind.i64 (z i)) (bD n (fun(i:Nat)↦int IntKind.i64 (z i)) a),cB n (fun(i:Nat)↦int IntKind.i64 (z i)) (bD n (fun(i:Nat)↦int IntKind.i64 (z i)) (bD n (fun(i:Nat)↦int IntKind.i64 (z i)) a)),cB n (fun(i:Nat)↦int IntKind.i64 (z i)) (bD n (fun(i:Nat)↦int IntKind.i64 (z i)) (bD n (fun(i:Nat)↦int IntKind.i64 (z i)) (bD n (fun(i:Nat)↦int IntKind.i64 (z i)) a))),(0:Nat)<1] (aa.ag [(0:Nat)<1] (aa.leaf aj.ret ([agg [agg [agg [rat (dU n (fun(i:Nat)↦int IntKind.i64 (z i)) a) 64,rat (dU n (fun(i:Nat)↦int IntKind.i64 (z i)) (dz n (fun(i:Nat)↦int IntKind.i64 (z i)) a)) 64,rat (dU n (fun(i:Nat)↦int IntKind.i64 (z i)) (dz n (fun(i:Nat)↦int IntKind.i64 (z i)) (dz n (fun(i:Nat)↦int IntKind.i64 (z i)) a))) 64],agg [rat (dU n (fun(i:Nat)↦int IntKind.i64 (z i)) (bD n (fun(i:Nat)↦int IntKind.i64 (z i)) a)) 64,rat (dU n (fun(i:Nat)↦int IntKind.i64 (z i)) (dz n (fun(i:Nat)↦int IntKind.i64 (z i)) (bD n (fun(i:Nat)↦int IntKind.i64 (z i)) a))) 64,rat (dU n (fun(i:Nat)↦int IntKind.i64 (z i)) (dz n (fun(i:Nat)↦int IntKind.i64 (z i)) (dz n (fun(i:Nat)↦int IntKind.i64 (z i)) (bD n (fun(i:Nat)↦int IntKind.i64 (z i)) a)))) 64],agg [rat (dU n (fun(i:Nat)↦int IntKind.i64 (z i)) (bD n (fun(i:Nat)↦int IntKind.i64 (z i)) (bD n (fun(i:Nat)↦int IntKind.i64 (z i)) a))) 64,rat (dU n (fun(i:Nat)↦int IntKind.i64 (z i)) (dz n (fun(i:Nat)↦int IntKind.i64 (z i)) (bD n (fun(i:Nat)↦int IntKind.i64 (z i)) (bD n (fun(i:Nat)↦int IntKind.i64 (z i)) a)))) 64,rat (dU n (fun(i:Nat)↦int IntKind.i64 (z i)) (dz n (fun(i:Nat)↦int IntKind.i64 (z i)) (dz n (fun(i:Nat)↦int IntKind.i64 (z i)) (bD n (fun(i:Nat)↦int IntKind.i64 (z i)) (bD n (fun(i:Nat)↦int IntKind.i64 (z i)) a))))) 64]],agg [rat (dU n (fun(i:Nat)↦int IntKind.i64 (z i)) (bD n (fun(i:Nat)↦int IntKind.i64 (z i)) (bD n (fun(i:Nat)↦int IntKind.i64 (z i)) (bD n (fun(i:Nat)↦int IntKind.i64 (z i)) a)))) 64,rat (dU n (fun(i:Nat)↦int IntKind.i64 (z i)) (dz n (fun(i:Nat)↦int IntKind.i64 (z i)) (bD n (fun(i:Nat)↦int IntKind.i64 (z i)) (bD n (fun(i:Nat)↦int IntKind.i64 (z i)) (bD n (fun(i:Nat)↦int IntKind.i64 (z i)) a))))) 64,rat (dU n (fun(i:Nat)↦int IntKind.i64 (z i)) (dz n (fun(i:Nat)↦int IntKind.i64 (z i)) (dz n (fun(i:Nat)↦int IntKind.i64 (z i)) (bD n (fun(i:Nat)↦int IntKind.i64 (z i)) (bD n (fun(i:Nat)↦int IntKind.i64 (z i)) (bD n (fun(i:Nat)↦int IntKind.i64 (z i)) a)))))) 64]]],some ⟨false,true,2,1,fun(x:Nat)↦agg [ak 1 n fun(i:Nat)↦int IntKind.i64 (z i),int IntKind.i64 (bD n (fun(i:Nat)↦int IntKind.i64 (z i)) (bD n (fun(i:Nat)↦int IntKind.i64 (z i)) (bD n (fun(i:Nat)↦int IntKind.i64 (z i)) (bD n (fun(i:Nat)↦int IntKind.i64 (z i)) a))))]⟩)))):=by kernel_rfl
theorem cB.number {n:Nat} {f:Nat→AV} {a:Int} (h:cB n f a):cB n f (dz n f a):=by
 unfold dz;split
 ·exact h.next.next.next
 ·exact h.next.next
theorem cB.j5 {n:Nat} {f:Nat→AV} {a:Int} (h:cB n f a):cB n f (bD n f a):=h.number.number.number
theorem Mt {x y:Int} (h1:-2^63≤x) (h2:x<2^63):Sz (x:Rat) 64:=Iw.more (by
 have:br x.natAbs≤64:=iL.2 (by omega)
 omega)
theorem Wq {k n:Nat} {z:Nat→Int} {a:Int} {o:ah} (ho:∀ρ,cu ρ o (iw n (fun i=>.int .i64 (z i)) a)) (h:cB n (fun i=>.int .i64 (z i)) a) (K:Nat):
  aA P AH K [.ptr k 0 2 0 []] [(k,o)] ⟨.rat (dU n (fun i=>.int .i64 (z i)) a) 64,[(k,iw n (fun i=>.int .i64 (z i)) (dz n (fun i=>.int .i64 (z i)) a))],[]⟩:=by
 refine yL hT Z1 hm Vs rfl rfl (of_decide_eq_true (by kernel_rfl)) ho 60 aej (fun _=>?_) K
 have a1:=ju (n:=n) (f:=fun i=>.int .i64 (z i)) (a:=a) (m:=13) (by omega)
 have a2:=jv (n:=n) (f:=fun i=>.int .i64 (z i)) (a:=a) (m:=13) (by omega)
 have b1:=ju (n:=n) (f:=fun i=>.int .i64 (z i)) (a:=bA n (bA n a)) (m:=4) (by omega)
 have b2:=jv (n:=n) (f:=fun i=>.int .i64 (z i)) (a:=bA n (bA n a)) (m:=4) (by omega)
 unfold dU dz
 generalize cU n (fun i=>.int .i64 (z i)) a 13=x at*
 generalize cU n (fun i=>.int .i64 (z i)) (bA n (bA n a)) 4=y at*
 generalize cU n (fun i=>.int .i64 (z i)) (bA n a) 4=w at*
 have e1:IntKind.i64.wrap (x-6)=x-6:=wrap_i64 (by omega) (by omega)
 have e2:IntKind.i64.wrap (1+y)=1+y:=wrap_i64 (by omega) (by omega)
 rw[e1,e2]
 simp only[aa.all,ax,beq_iff_eq,beq_eq_false_iff_ne,ne_eq]
 refine⟨⟨h,by omega,by omega⟩,⟨h.next,by omega,by omega⟩,fun hw=>⟨⟨h.next.next,by omega,by omega,by omega,by omega,by omega,by omega,by omega⟩,by omega,dh (by rw[if_pos hw]),_,rfl,rfl,mm rfl (by rw[if_pos hw])⟩,fun hw=>⟨⟨by omega,by omega,by omega⟩,by omega,?_,_,rfl,rfl,mm rfl (by rw[if_neg hw])⟩⟩
 rw[if_neg hw]
 exact fZ rfl (Mt (y:=0) (by omega) (by omega))
theorem WR:∀K args pre r,gH Fb K args pre=some r→aA P AH K args pre r:=by
 refine rj fun {k n z a l v b q o} K hg ho hd hq=>?_
 unfold Fb at hg
 split at hg
 ·simp only[Option.some.injEq,Prod.mk.injEq]at hg
  obtain⟨rfl,rfl,rfl⟩:=hg
  exact Wq ho hd K
 ·simp at hg
theorem agf:aY P GP:=aG WR bh
theorem Qa:∀K args pre r,gH DV K args pre=some r→aA P An K args pre r:=by
 refine rj fun {k n z a l v b q o} K hg ho hd hq=>?_
 unfold DV at hg
 split at hg
 ·simp only[Option.some.injEq,Prod.mk.injEq]at hg
  obtain⟨rfl,rfl,rfl⟩:=hg
  refine yL hT agf hm Zf rfl rfl (of_decide_eq_true (by kernel_rfl)) ho 60 agY (fun _=>?_) K
  simp only[aa.all,ax]
  exact⟨⟨hd,hd.number,hd.number.number,by omega⟩,by omega,.refl _,_,rfl,rfl,mm rfl rfl⟩
 ·simp at hg
theorem T6:aY P PB:=aG Qa bh
theorem UP:∀K args pre r,gH Gp K args pre=some r→aA P DM K args pre r:=by
 refine rj fun {k n z a l v b q o} K hg ho hd hq=>?_
 unfold Gp at hg
 split at hg
 ·simp only[Option.some.injEq,Prod.mk.injEq]at hg
  obtain⟨rfl,rfl,rfl⟩:=hg
  refine yL hT T6 hm aaD rfl rfl (of_decide_eq_true (by kernel_rfl)) ho 60 Tj (fun _=>?_) K
  simp only[aa.all,ax]
  exact⟨⟨hd,hd.j5,hd.j5.j5,hd.j5.j5.j5,by omega⟩,by omega,.refl _,_,rfl,rfl,mm rfl rfl⟩
 ·simp at hg
def IX:Spec:=bC fun l=>match l with
 |[.ak 1 n _]=>some (aK (.bool (decide ((n:Int)≤500))) [])
 |_=>none
theorem agU:∀K args pre r,IX K args pre=some r→aA P Di K args pre r:=by
 refine bW fun K args r hk hs _=>?_
 split at hs
 ·simp only[Option.some.injEq]at hs
  subst hs
  refine bJ hT bh hm ajr rfl (of_decide_eq_true (by kernel_rfl)) rfl 60 RE (fun _=>?_) K []
  exact .refl _
 ·simp at hs
def Og:Spec:=u9 fun K l=>match l with
 |[.ak 1 n f]=>some ⟨.ptr K 0 2 0 [],[(K,iw n f 0)],[]⟩
 |_=>none
theorem agG:∀K args pre r,Og K args pre=some r→aA P DZ K args pre r:=by
 refine Cs fun K args r hk hs=>?_
 split at hs
 ·simp only[Option.some.injEq]at hs
  subst hs
  exact abk hT bh hm Wc hk rfl (of_decide_eq_true (by kernel_rfl)) (by kernel_rfl) (q:=[]) 60 Zn (.inr rfl) (fun ρ=>mm rfl rfl) K
 ·simp at hs
end Go.Am.B
