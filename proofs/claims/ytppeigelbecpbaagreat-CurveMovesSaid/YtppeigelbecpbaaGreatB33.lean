/- brepkernelmade: number, Point, Map, Light, Roll. -/
import Derived.Test.YtppeigelbecpbaaGreatB32
set_option linter.unusedVariables false
namespace Go.Am.B
open Go Go.Am.N AV
theorem QZ:aO P yo xx (au xx):=aP WL (by kernel_rfl) (by kernel_rfl) (by kernel_rfl)
theorem X9:aO P Dl uJ (au uJ):=aP Rr (by kernel_rfl) (by kernel_rfl) (by kernel_rfl)
theorem agH:aO P xh vC (au vC):=aP YW (by kernel_rfl) (by kernel_rfl) (by kernel_rfl)
def GN:aR:=[(oy,gG tM),(oI,yL),(lJ,tL)]
def cQ (n:Nat) (f:Nat→AV) (a:Int):Rat:=if cB n f (bz n a) 4=3 then((cB n f a 13-6:Int):Rat)/((1+cB n f (bz n (bz n a)) 4:Int):Rat)else((cB n f a 13-6:Int):Rat)
def cI (n:Nat) (f:Nat→AV) (a:Int):Int:=if cB n f (bz n a) 4=3 then bz n (bz n (bz n a))else bz n (bz n a)
def Fy (n:Nat) (f:Nat→AV) (a:Int) (l:List AV):Option (AV×Int×List Prop):=match l with
 |[]=>some (.rat (cQ n f a) 64,cI n f a,[])
 |_=>none
def GP:aR:=[(yo,gG Fy)]
def bT (n:Nat) (f:Nat→AV) (a:Int):Int:=cI n f (cI n f (cI n f a))
def C1 (n:Nat) (f:Nat→AV) (a:Int) (l:List AV):Option (AV×Int×List Prop):=match l with
 |[]=>some (.agg [.rat (cQ n f a) 64,.rat (cQ n f (cI n f a)) 64,.rat (cQ n f (cI n f (cI n f a))) 64],bT n f a,[])
 |_=>none
def Ok:aR:=[(xh,gG C1)]
abbrev oF (n:Nat) (f:Nat→AV) (a:Int):AV:=.agg [.rat (cQ n f a) 64,.rat (cQ n f (cI n f a)) 64,.rat (cQ n f (cI n f (cI n f a))) 64]
def DM (n:Nat) (f:Nat→AV) (a:Int) (l:List AV):Option (AV×Int×List Prop):=match l with
 |[]=>some (.agg [.agg [oF n f a,oF n f (bT n f a),oF n f (bT n f (bT n f a))],oF n f (bT n f (bT n f (bT n f a)))],bT n f (bT n f (bT n f (bT n f a))),[])
 |_=>none
theorem ac0:aX P GN:=aJ AX (aJ A8 (aJ zo bn))
theorem adY {n:Nat} {z:Nat→Int} {a:Int}:qo T GN [8] 60 xx (au xx) ⟨aN 0 [.ptr 0 0 2 0 []],[(0,gM n (fun i=>.int .i64 (z i)) a)],1⟩=
  let c7:Int:=(2:Int)^62;let c6:AV:=aj 1 n fun i↦int IntKind.i64 (z i);let c5:Int:=bz n (bz n a);let c4:List Prop:=[(0:Nat)<1];let c3:Int:=(2:Int)^63;let c1:Int:=IntKind.i64.wrap (cB n (fun i↦int IntKind.i64 (z i)) a (13:Int)-(6:Int));let c2:Int:=IntKind.i64.wrap ((1:Int)+cB n (fun i↦int IntKind.i64 (z i)) c5 (4:Int));some (aa.ag [b6 n (fun i↦int IntKind.i64 (z i)) a,(0:Int)<(13:Int),(13:Int)<c7] (aa.ag [b6 n (fun i↦int IntKind.i64 (z i)) (bz n a),(0:Int)<(4:Int),(4:Int)<c7] (aa.fork (cB n (fun i↦int IntKind.i64 (z i)) (bz n a) (4:Int)==(3:Int)) (aa.ag (b6 n (fun i↦int IntKind.i64 (z i)) c5::((0:Int)<(4:Int))::((4:Int)<c7)::(-c3≤c1)::(c1<c3)::(-c3≤c2)::(c2<c3)::c4) (aa.ag c4 (aa.leaf ak.ret ([rat ((↑c1:Rat)/(↑c2:Rat)) 64],some (ah.mk false true 2 1 fun x↦agg [c6,int IntKind.i64 (bz n c5)]))))) (aa.ag ((-c3≤c1)::(c1<c3)::c4) (aa.ag c4 (aa.leaf ak.ret ([rat (↑c1:Rat) (max 1 (br c1.natAbs))],some (ah.mk false true 2 1 fun x↦agg [c6,int IntKind.i64 c5])))))))):=by kernel_rfl
theorem RW {n:Nat} {z:Nat→Int} {a:Int}:qo T GP [] 60 vC (au vC) ⟨aN 0 [.ptr 0 0 2 0 []],[(0,gM n (fun i=>.int .i64 (z i)) a)],1⟩=
  let c2:Int:=cI n (fun i↦int IntKind.i64 (z i)) a;let c1:Int:=cI n (fun i↦int IntKind.i64 (z i)) c2;some (aa.ag [b6 n (fun i↦int IntKind.i64 (z i)) a,b6 n (fun i↦int IntKind.i64 (z i)) c2,b6 n (fun i↦int IntKind.i64 (z i)) c1,(0:Nat)<1] (aa.ag [(0:Nat)<1] (aa.leaf ak.ret ([agg [rat (cQ n (fun i↦int IntKind.i64 (z i)) a) 64,rat (cQ n (fun i↦int IntKind.i64 (z i)) c2) 64,rat (cQ n (fun i↦int IntKind.i64 (z i)) c1) 64]],some (ah.mk false true 2 1 fun x↦agg [aj 1 n fun i↦int IntKind.i64 (z i),int IntKind.i64 (cI n (fun i↦int IntKind.i64 (z i)) c1)]))))):=by kernel_rfl
theorem ahB {n:Nat} {z:Nat→Int} {a:Int}:qo T Ok [] 60 uJ (au uJ) ⟨aN 0 [.ptr 0 0 2 0 []],[(0,gM n (fun i=>.int .i64 (z i)) a)],1⟩=
  some (aa.ag [b6 n (fun(i:Nat)↦int IntKind.i64 (z i)) a,b6 n (fun(i:Nat)↦int IntKind.i64 (z i)) (bT n (fun(i:Nat)↦int IntKind.i64 (z i)) a),b6 n (fun(i:Nat)↦int IntKind.i64 (z i)) (bT n (fun(i:Nat)↦int IntKind.i64 (z i)) (bT n (fun(i:Nat)↦int IntKind.i64 (z i)) a)),b6 n (fun(i:Nat)↦int IntKind.i64 (z i)) (bT n (fun(i:Nat)↦int IntKind.i64 (z i)) (bT n (fun(i:Nat)↦int IntKind.i64 (z i)) (bT n (fun(i:Nat)↦int IntKind.i64 (z i)) a))),(0:Nat)<1] (aa.ag [(0:Nat)<1] (aa.leaf ak.ret ([agg [agg [agg [rat (cQ n (fun(i:Nat)↦int IntKind.i64 (z i)) a) 64,rat (cQ n (fun(i:Nat)↦int IntKind.i64 (z i)) (cI n (fun(i:Nat)↦int IntKind.i64 (z i)) a)) 64,rat (cQ n (fun(i:Nat)↦int IntKind.i64 (z i)) (cI n (fun(i:Nat)↦int IntKind.i64 (z i)) (cI n (fun(i:Nat)↦int IntKind.i64 (z i)) a))) 64],agg [rat (cQ n (fun(i:Nat)↦int IntKind.i64 (z i)) (bT n (fun(i:Nat)↦int IntKind.i64 (z i)) a)) 64,rat (cQ n (fun(i:Nat)↦int IntKind.i64 (z i)) (cI n (fun(i:Nat)↦int IntKind.i64 (z i)) (bT n (fun(i:Nat)↦int IntKind.i64 (z i)) a))) 64,rat (cQ n (fun(i:Nat)↦int IntKind.i64 (z i)) (cI n (fun(i:Nat)↦int IntKind.i64 (z i)) (cI n (fun(i:Nat)↦int IntKind.i64 (z i)) (bT n (fun(i:Nat)↦int IntKind.i64 (z i)) a)))) 64],agg [rat (cQ n (fun(i:Nat)↦int IntKind.i64 (z i)) (bT n (fun(i:Nat)↦int IntKind.i64 (z i)) (bT n (fun(i:Nat)↦int IntKind.i64 (z i)) a))) 64,rat (cQ n (fun(i:Nat)↦int IntKind.i64 (z i)) (cI n (fun(i:Nat)↦int IntKind.i64 (z i)) (bT n (fun(i:Nat)↦int IntKind.i64 (z i)) (bT n (fun(i:Nat)↦int IntKind.i64 (z i)) a)))) 64,rat (cQ n (fun(i:Nat)↦int IntKind.i64 (z i)) (cI n (fun(i:Nat)↦int IntKind.i64 (z i)) (cI n (fun(i:Nat)↦int IntKind.i64 (z i)) (bT n (fun(i:Nat)↦int IntKind.i64 (z i)) (bT n (fun(i:Nat)↦int IntKind.i64 (z i)) a))))) 64]],agg [rat (cQ n (fun(i:Nat)↦int IntKind.i64 (z i)) (bT n (fun(i:Nat)↦int IntKind.i64 (z i)) (bT n (fun(i:Nat)↦int IntKind.i64 (z i)) (bT n (fun(i:Nat)↦int IntKind.i64 (z i)) a)))) 64,rat (cQ n (fun(i:Nat)↦int IntKind.i64 (z i)) (cI n (fun(i:Nat)↦int IntKind.i64 (z i)) (bT n (fun(i:Nat)↦int IntKind.i64 (z i)) (bT n (fun(i:Nat)↦int IntKind.i64 (z i)) (bT n (fun(i:Nat)↦int IntKind.i64 (z i)) a))))) 64,rat (cQ n (fun(i:Nat)↦int IntKind.i64 (z i)) (cI n (fun(i:Nat)↦int IntKind.i64 (z i)) (cI n (fun(i:Nat)↦int IntKind.i64 (z i)) (bT n (fun(i:Nat)↦int IntKind.i64 (z i)) (bT n (fun(i:Nat)↦int IntKind.i64 (z i)) (bT n (fun(i:Nat)↦int IntKind.i64 (z i)) a)))))) 64]]],some ⟨false,true,2,1,fun(x:Nat)↦agg [aj 1 n fun(i:Nat)↦int IntKind.i64 (z i),int IntKind.i64 (bT n (fun(i:Nat)↦int IntKind.i64 (z i)) (bT n (fun(i:Nat)↦int IntKind.i64 (z i)) (bT n (fun(i:Nat)↦int IntKind.i64 (z i)) (bT n (fun(i:Nat)↦int IntKind.i64 (z i)) a))))]⟩)))):=by kernel_rfl
theorem b6.number {n:Nat} {f:Nat→AV} {a:Int} (h:b6 n f a):b6 n f (cI n f a):=by
 unfold cI;split
 ·exact h.next.next.next
 ·exact h.next.next
theorem b6.nk {n:Nat} {f:Nat→AV} {a:Int} (h:b6 n f a):b6 n f (bT n f a):=h.number.number.number
theorem LM {x y:Int} (h1:-2^63≤x) (h2:x<2^63):Sz (x:Rat) 64:=GL.more (by
 have:br x.natAbs≤64:=hG.2 (by omega)
 omega)
theorem adN {k n:Nat} {z:Nat→Int} {a:Int} {o:ah} (ho:∀ρ,ck ρ o (gM n (fun i=>.int .i64 (z i)) a)) (h:b6 n (fun i=>.int .i64 (z i)) a) (K:Nat):
  aA P yo K [.ptr k 0 2 0 []] [(k,o)] ⟨.rat (cQ n (fun i=>.int .i64 (z i)) a) 64,[(k,gM n (fun i=>.int .i64 (z i)) (cI n (fun i=>.int .i64 (z i)) a))],[]⟩:=by
 refine u7 hT ac0 hm QZ rfl rfl (of_decide_eq_true (by kernel_rfl)) ho 60 adY (fun _=>?_) K
 have a1:=iR (n:=n) (f:=fun i=>.int .i64 (z i)) (a:=a) (m:=13) (by omega)
 have a2:=jo (n:=n) (f:=fun i=>.int .i64 (z i)) (a:=a) (m:=13) (by omega)
 have b1:=iR (n:=n) (f:=fun i=>.int .i64 (z i)) (a:=bz n (bz n a)) (m:=4) (by omega)
 have b2:=jo (n:=n) (f:=fun i=>.int .i64 (z i)) (a:=bz n (bz n a)) (m:=4) (by omega)
 unfold cQ cI
 generalize cB n (fun i=>.int .i64 (z i)) a 13=x at*
 generalize cB n (fun i=>.int .i64 (z i)) (bz n (bz n a)) 4=y at*
 generalize cB n (fun i=>.int .i64 (z i)) (bz n a) 4=w at*
 have e1:IntKind.i64.wrap (x-6)=x-6:=wrap_i64 (by omega) (by omega)
 have e2:IntKind.i64.wrap (1+y)=1+y:=wrap_i64 (by omega) (by omega)
 rw[e1,e2]
 simp only[aa.all,ax,beq_iff_eq,beq_eq_false_iff_ne,ne_eq]
 refine⟨⟨h,by omega,by omega⟩,⟨h.next,by omega,by omega⟩,fun hw=>⟨⟨h.next.next,by omega,by omega,by omega,by omega,by omega,by omega,by omega⟩,by omega,cT (by rw[if_pos hw]),_,rfl,rfl,lF rfl (by rw[if_pos hw])⟩,fun hw=>⟨⟨by omega,by omega,by omega⟩,by omega,?_,_,rfl,rfl,lF rfl (by rw[if_neg hw])⟩⟩
 rw[if_neg hw]
 exact fI rfl (LM (y:=0) (by omega) (by omega))
theorem ahu:∀K args pre r,gG Fy K args pre=some r→aA P yo K args pre r:=by
 refine rO fun {k n z a l v b q o} K hg ho hd hq=>?_
 unfold Fy at hg
 split at hg
 ·simp only[Option.some.injEq,Prod.mk.injEq]at hg
  obtain⟨rfl,rfl,rfl⟩:=hg
  exact adN ho hd K
 ·simp at hg
theorem WO:aX P GP:=aJ ahu bn
theorem O8:∀K args pre r,gG C1 K args pre=some r→aA P xh K args pre r:=by
 refine rO fun {k n z a l v b q o} K hg ho hd hq=>?_
 unfold C1 at hg
 split at hg
 ·simp only[Option.some.injEq,Prod.mk.injEq]at hg
  obtain⟨rfl,rfl,rfl⟩:=hg
  refine u7 hT WO hm agH rfl rfl (of_decide_eq_true (by kernel_rfl)) ho 60 RW (fun _=>?_) K
  simp only[aa.all,ax]
  exact⟨⟨hd,hd.number,hd.number.number,by omega⟩,by omega,.refl _,_,rfl,rfl,lF rfl rfl⟩
 ·simp at hg
theorem ahK:aX P Ok:=aJ O8 bn
theorem ajC:∀K args pre r,gG DM K args pre=some r→aA P Dl K args pre r:=by
 refine rO fun {k n z a l v b q o} K hg ho hd hq=>?_
 unfold DM at hg
 split at hg
 ·simp only[Option.some.injEq,Prod.mk.injEq]at hg
  obtain⟨rfl,rfl,rfl⟩:=hg
  refine u7 hT ahK hm X9 rfl rfl (of_decide_eq_true (by kernel_rfl)) ho 60 ahB (fun _=>?_) K
  simp only[aa.all,ax]
  exact⟨⟨hd,hd.nk,hd.nk.nk,hd.nk.nk.nk,by omega⟩,by omega,.refl _,_,rfl,rfl,lF rfl rfl⟩
 ·simp at hg
def MK:Spec:=bB fun l=>match l with
 |[.aj 1 n _]=>some (aI (.bool (decide ((n:Int)≤500))) [])
 |_=>none
theorem Zf:∀K args pre r,MK K args pre=some r→aA P BA K args pre r:=by
 refine bS fun K args r hk hs _=>?_
 split at hs
 ·simp only[Option.some.injEq]at hs
  subst hs
  refine bF hT bn hm aiQ rfl (of_decide_eq_true (by kernel_rfl)) rfl 60 ai0 (fun _=>?_) K []
  exact .refl _
 ·simp at hs
def Ky:Spec:=oM fun K l=>match l with
 |[.aj 1 n f]=>some ⟨.ptr K 0 2 0 [],[(K,gM n f 0)],[]⟩
 |_=>none
theorem ajz:∀K args pre r,Ky K args pre=some r→aA P A4 K args pre r:=by
 refine ry fun K args r hk hs=>?_
 split at hs
 ·simp only[Option.some.injEq]at hs
  subst hs
  exact Qk hT bn hm QY hk rfl (of_decide_eq_true (by kernel_rfl)) (by kernel_rfl) (q:=[]) 60 Y2 (.inr rfl) (fun ρ=>lF rfl rfl) K
 ·simp at hs
end Go.Am.B
