/- brepkernelmade: number, Point, Map, Light, Roll. -/
import Derived.Test.YtppeigelbecpbaaGreatB32
set_option linter.unusedVariables false
namespace Go.Am.B
open Go Go.Am.N AV
theorem Ue:aO P An vL (au vL):=aQ SQ (by kernel_rfl) (by kernel_rfl) (by kernel_rfl)
theorem agC:aO P CX yT (au yT):=aQ Yi (by kernel_rfl) (by kernel_rfl) (by kernel_rfl)
theorem VW:aO P y8 zG (au zG):=aQ TJ (by kernel_rfl) (by kernel_rfl) (by kernel_rfl)
def GN:aR:=[(oL,gJ r8),(oK,yG),(m9,v8)]
def dS (n:Nat) (f:Nat→AV) (a:Int):Rat:=if cS n f (bA n a) 4=3 then((cS n f a 13-6:Int):Rat)/((1+cS n f (bA n (bA n a)) 4:Int):Rat)else((cS n f a 13-6:Int):Rat)
def dA (n:Nat) (f:Nat→AV) (a:Int):Int:=if cS n f (bA n a) 4=3 then bA n (bA n (bA n a))else bA n (bA n a)
def Gp (n:Nat) (f:Nat→AV) (a:Int) (l:List AV):Option (AV×Int×List Prop):=match l with
 |[]=>some (.rat (dS n f a) 64,dA n f a,[])
 |_=>none
def GP:aR:=[(An,gJ Gp)]
def bD (n:Nat) (f:Nat→AV) (a:Int):Int:=dA n f (dA n f (dA n f a))
def CU (n:Nat) (f:Nat→AV) (a:Int) (l:List AV):Option (AV×Int×List Prop):=match l with
 |[]=>some (.agg [.rat (dS n f a) 64,.rat (dS n f (dA n f a)) 64,.rat (dS n f (dA n f (dA n f a))) 64],bD n f a,[])
 |_=>none
def IS:aR:=[(y8,gJ CU)]
abbrev ow (n:Nat) (f:Nat→AV) (a:Int):AV:=.agg [.rat (dS n f a) 64,.rat (dS n f (dA n f a)) 64,.rat (dS n f (dA n f (dA n f a))) 64]
def Ef (n:Nat) (f:Nat→AV) (a:Int) (l:List AV):Option (AV×Int×List Prop):=match l with
 |[]=>some (.agg [.agg [ow n f a,ow n f (bD n f a),ow n f (bD n f (bD n f a))],ow n f (bD n f (bD n f (bD n f a)))],bD n f (bD n f (bD n f (bD n f a))),[])
 |_=>none
theorem adI:aY P GN:=aG Df (aG B3 (aG Dn bk))
theorem R3 {n:Nat} {z:Nat→Int} {a:Int}:qh T GN [8] 60 vL (au vL) ⟨aN 0 [.ptr 0 0 2 0 []],[(0,iG n (fun i=>.int .i64 (z i)) a)],1⟩=
  let c7:Int:=(2:Int)^62;let c6:AV:=ak 1 n fun i↦int IntKind.i64 (z i);let c5:Int:=bA n (bA n a);let c4:List Prop:=[(0:Nat)<1];let c3:Int:=(2:Int)^63;let c1:Int:=IntKind.i64.wrap (cS n (fun i↦int IntKind.i64 (z i)) a (13:Int)-(6:Int));let c2:Int:=IntKind.i64.wrap ((1:Int)+cS n (fun i↦int IntKind.i64 (z i)) c5 (4:Int));some (aa.ag [cC n (fun i↦int IntKind.i64 (z i)) a,(0:Int)<(13:Int),(13:Int)<c7] (aa.ag [cC n (fun i↦int IntKind.i64 (z i)) (bA n a),(0:Int)<(4:Int),(4:Int)<c7] (aa.fork (cS n (fun i↦int IntKind.i64 (z i)) (bA n a) (4:Int)==(3:Int)) (aa.ag (cC n (fun i↦int IntKind.i64 (z i)) c5::((0:Int)<(4:Int))::((4:Int)<c7)::(-c3≤c1)::(c1<c3)::(-c3≤c2)::(c2<c3)::c4) (aa.ag c4 (aa.leaf aj.ret ([rat ((↑c1:Rat)/(↑c2:Rat)) 64],some (ah.mk false true 2 1 fun x↦agg [c6,int IntKind.i64 (bA n c5)]))))) (aa.ag ((-c3≤c1)::(c1<c3)::c4) (aa.ag c4 (aa.leaf aj.ret ([rat (↑c1:Rat) (max 1 (br c1.natAbs))],some (ah.mk false true 2 1 fun x↦agg [c6,int IntKind.i64 c5])))))))):=by kernel_rfl
theorem YN {n:Nat} {z:Nat→Int} {a:Int}:qh T GP [] 60 zG (au zG) ⟨aN 0 [.ptr 0 0 2 0 []],[(0,iG n (fun i=>.int .i64 (z i)) a)],1⟩=
  let c2:Int:=dA n (fun i↦int IntKind.i64 (z i)) a;let c1:Int:=dA n (fun i↦int IntKind.i64 (z i)) c2;some (aa.ag [cC n (fun i↦int IntKind.i64 (z i)) a,cC n (fun i↦int IntKind.i64 (z i)) c2,cC n (fun i↦int IntKind.i64 (z i)) c1,(0:Nat)<1] (aa.ag [(0:Nat)<1] (aa.leaf aj.ret ([agg [rat (dS n (fun i↦int IntKind.i64 (z i)) a) 64,rat (dS n (fun i↦int IntKind.i64 (z i)) c2) 64,rat (dS n (fun i↦int IntKind.i64 (z i)) c1) 64]],some (ah.mk false true 2 1 fun x↦agg [ak 1 n fun i↦int IntKind.i64 (z i),int IntKind.i64 (dA n (fun i↦int IntKind.i64 (z i)) c1)]))))):=by kernel_rfl
theorem adr {n:Nat} {z:Nat→Int} {a:Int}:qh T IS [] 60 yT (au yT) ⟨aN 0 [.ptr 0 0 2 0 []],[(0,iG n (fun i=>.int .i64 (z i)) a)],1⟩=
  some (aa.ag [cC n (fun(i:Nat)↦int IntKind.i64 (z i)) a,cC n (fun(i:Nat)↦int IntKind.i64 (z i)) (bD n (fun(i:Nat)↦int IntKind.i64 (z i)) a),cC n (fun(i:Nat)↦int IntKind.i64 (z i)) (bD n (fun(i:Nat)↦int IntKind.i64 (z i)) (bD n (fun(i:Nat)↦int IntKind.i64 (z i)) a)),cC n (fun(i:Nat)↦int IntKind.i64 (z i)) (bD n (fun(i:Nat)↦int IntKind.i64 (z i)) (bD n (fun(i:Nat)↦int IntKind.i64 (z i)) (bD n (fun(i:Nat)↦int IntKind.i64 (z i)) a))),(0:Nat)<1] (aa.ag [(0:Nat)<1] (aa.leaf aj.ret ([agg [agg [agg [rat (dS n (fun(i:Nat)↦int IntKind.i64 (z i)) a) 64,rat (dS n (fun(i:Nat)↦int IntKind.i64 (z i)) (dA n (fun(i:Nat)↦int IntKind.i64 (z i)) a)) 64,rat (dS n (fun(i:Nat)↦int IntKind.i64 (z i)) (dA n (fun(i:Nat)↦int IntKind.i64 (z i)) (dA n (fun(i:Nat)↦int IntKind.i64 (z i)) a))) 64],agg [rat (dS n (fun(i:Nat)↦int IntKind.i64 (z i)) (bD n (fun(i:Nat)↦int IntKind.i64 (z i)) a)) 64,rat (dS n (fun(i:Nat)↦int IntKind.i64 (z i)) (dA n (fun(i:Nat)↦int IntKind.i64 (z i)) (bD n (fun(i:Nat)↦int IntKind.i64 (z i)) a))) 64,rat (dS n (fun(i:Nat)↦int IntKind.i64 (z i)) (dA n (fun(i:Nat)↦int IntKind.i64 (z i)) (dA n (fun(i:Nat)↦int IntKind.i64 (z i)) (bD n (fun(i:Nat)↦int IntKind.i64 (z i)) a)))) 64],agg [rat (dS n (fun(i:Nat)↦int IntKind.i64 (z i)) (bD n (fun(i:Nat)↦int IntKind.i64 (z i)) (bD n (fun(i:Nat)↦int IntKind.i64 (z i)) a))) 64,rat (dS n (fun(i:Nat)↦int IntKind.i64 (z i)) (dA n (fun(i:Nat)↦int IntKind.i64 (z i)) (bD n (fun(i:Nat)↦int IntKind.i64 (z i)) (bD n (fun(i:Nat)↦int IntKind.i64 (z i)) a)))) 64,rat (dS n (fun(i:Nat)↦int IntKind.i64 (z i)) (dA n (fun(i:Nat)↦int IntKind.i64 (z i)) (dA n (fun(i:Nat)↦int IntKind.i64 (z i)) (bD n (fun(i:Nat)↦int IntKind.i64 (z i)) (bD n (fun(i:Nat)↦int IntKind.i64 (z i)) a))))) 64]],agg [rat (dS n (fun(i:Nat)↦int IntKind.i64 (z i)) (bD n (fun(i:Nat)↦int IntKind.i64 (z i)) (bD n (fun(i:Nat)↦int IntKind.i64 (z i)) (bD n (fun(i:Nat)↦int IntKind.i64 (z i)) a)))) 64,rat (dS n (fun(i:Nat)↦int IntKind.i64 (z i)) (dA n (fun(i:Nat)↦int IntKind.i64 (z i)) (bD n (fun(i:Nat)↦int IntKind.i64 (z i)) (bD n (fun(i:Nat)↦int IntKind.i64 (z i)) (bD n (fun(i:Nat)↦int IntKind.i64 (z i)) a))))) 64,rat (dS n (fun(i:Nat)↦int IntKind.i64 (z i)) (dA n (fun(i:Nat)↦int IntKind.i64 (z i)) (dA n (fun(i:Nat)↦int IntKind.i64 (z i)) (bD n (fun(i:Nat)↦int IntKind.i64 (z i)) (bD n (fun(i:Nat)↦int IntKind.i64 (z i)) (bD n (fun(i:Nat)↦int IntKind.i64 (z i)) a)))))) 64]]],some ⟨false,true,2,1,fun(x:Nat)↦agg [ak 1 n fun(i:Nat)↦int IntKind.i64 (z i),int IntKind.i64 (bD n (fun(i:Nat)↦int IntKind.i64 (z i)) (bD n (fun(i:Nat)↦int IntKind.i64 (z i)) (bD n (fun(i:Nat)↦int IntKind.i64 (z i)) (bD n (fun(i:Nat)↦int IntKind.i64 (z i)) a))))]⟩)))):=by kernel_rfl
theorem cC.number {n:Nat} {f:Nat→AV} {a:Int} (h:cC n f a):cC n f (dA n f a):=by
 unfold dA;split
 ·exact h.next.next.next
 ·exact h.next.next
theorem cC.kj {n:Nat} {f:Nat→AV} {a:Int} (h:cC n f a):cC n f (bD n f a):=h.number.number.number
theorem OH {x y:Int} (h1:-2^63≤x) (h2:x<2^63):Sz (x:Rat) 64:=Iu.more (by
 have:br x.natAbs≤64:=iI.2 (by omega)
 omega)
theorem RC {k n:Nat} {z:Nat→Int} {a:Int} {o:ah} (ho:∀ρ,cu ρ o (iG n (fun i=>.int .i64 (z i)) a)) (h:cC n (fun i=>.int .i64 (z i)) a) (K:Nat):
  aB P An K [.ptr k 0 2 0 []] [(k,o)] ⟨.rat (dS n (fun i=>.int .i64 (z i)) a) 64,[(k,iG n (fun i=>.int .i64 (z i)) (dA n (fun i=>.int .i64 (z i)) a))],[]⟩:=by
 refine Ay hT adI hm Ue rfl rfl (of_decide_eq_true (by kernel_rfl)) ho 60 R3 (fun _=>?_) K
 have a1:=jL (n:=n) (f:=fun i=>.int .i64 (z i)) (a:=a) (m:=13) (by omega)
 have a2:=jK (n:=n) (f:=fun i=>.int .i64 (z i)) (a:=a) (m:=13) (by omega)
 have b1:=jL (n:=n) (f:=fun i=>.int .i64 (z i)) (a:=bA n (bA n a)) (m:=4) (by omega)
 have b2:=jK (n:=n) (f:=fun i=>.int .i64 (z i)) (a:=bA n (bA n a)) (m:=4) (by omega)
 unfold dS dA
 generalize cS n (fun i=>.int .i64 (z i)) a 13=x at*
 generalize cS n (fun i=>.int .i64 (z i)) (bA n (bA n a)) 4=y at*
 generalize cS n (fun i=>.int .i64 (z i)) (bA n a) 4=w at*
 have e1:IntKind.i64.wrap (x-6)=x-6:=wrap_i64 (by omega) (by omega)
 have e2:IntKind.i64.wrap (1+y)=1+y:=wrap_i64 (by omega) (by omega)
 rw[e1,e2]
 simp only[aa.all,ax,beq_iff_eq,beq_eq_false_iff_ne,ne_eq]
 refine⟨⟨h,by omega,by omega⟩,⟨h.next,by omega,by omega⟩,fun hw=>⟨⟨h.next.next,by omega,by omega,by omega,by omega,by omega,by omega,by omega⟩,by omega,dc (by rw[if_pos hw]),_,rfl,rfl,mT rfl (by rw[if_pos hw])⟩,fun hw=>⟨⟨by omega,by omega,by omega⟩,by omega,?_,_,rfl,rfl,mT rfl (by rw[if_neg hw])⟩⟩
 rw[if_neg hw]
 exact fS rfl (OH (y:=0) (by omega) (by omega))
theorem ZZ:∀K args pre r,gJ Gp K args pre=some r→aB P An K args pre r:=by
 refine rP fun {k n z a l v b q o} K hg ho hd hq=>?_
 unfold Gp at hg
 split at hg
 ·simp only[Option.some.injEq,Prod.mk.injEq]at hg
  obtain⟨rfl,rfl,rfl⟩:=hg
  exact RC ho hd K
 ·simp at hg
theorem Ui:aY P GP:=aG ZZ bk
theorem Pt:∀K args pre r,gJ CU K args pre=some r→aB P y8 K args pre r:=by
 refine rP fun {k n z a l v b q o} K hg ho hd hq=>?_
 unfold CU at hg
 split at hg
 ·simp only[Option.some.injEq,Prod.mk.injEq]at hg
  obtain⟨rfl,rfl,rfl⟩:=hg
  refine Ay hT Ui hm VW rfl rfl (of_decide_eq_true (by kernel_rfl)) ho 60 YN (fun _=>?_) K
  simp only[aa.all,ax]
  exact⟨⟨hd,hd.number,hd.number.number,by omega⟩,by omega,.refl _,_,rfl,rfl,mT rfl rfl⟩
 ·simp at hg
theorem YZ:aY P IS:=aG Pt bk
theorem acG:∀K args pre r,gJ Ef K args pre=some r→aB P CX K args pre r:=by
 refine rP fun {k n z a l v b q o} K hg ho hd hq=>?_
 unfold Ef at hg
 split at hg
 ·simp only[Option.some.injEq,Prod.mk.injEq]at hg
  obtain⟨rfl,rfl,rfl⟩:=hg
  refine Ay hT YZ hm agC rfl rfl (of_decide_eq_true (by kernel_rfl)) ho 60 adr (fun _=>?_) K
  simp only[aa.all,ax]
  exact⟨⟨hd,hd.kj,hd.kj.kj,hd.kj.kj.kj,by omega⟩,by omega,.refl _,_,rfl,rfl,mT rfl rfl⟩
 ·simp at hg
def PI:Spec:=bC fun l=>match l with
 |[.ak 1 n _]=>some (aK (.bool (decide ((n:Int)≤500))) [])
 |_=>none
theorem X8:∀K args pre r,PI K args pre=some r→aB P Db K args pre r:=by
 refine bV fun K args r hk hs _=>?_
 split at hs
 ·simp only[Option.some.injEq]at hs
  subst hs
  refine bJ hT bk hm Uq rfl (of_decide_eq_true (by kernel_rfl)) rfl 60 akT (fun _=>?_) K []
  exact .refl _
 ·simp at hs
def NG:Spec:=sN fun K l=>match l with
 |[.ak 1 n f]=>some ⟨.ptr K 0 2 0 [],[(K,iG n f 0)],[]⟩
 |_=>none
theorem W9:∀K args pre r,NG K args pre=some r→aB P DV K args pre r:=by
 refine DT fun K args r hk hs=>?_
 split at hs
 ·simp only[Option.some.injEq]at hs
  subst hs
  exact ZJ hT bk hm ai3 hk rfl (of_decide_eq_true (by kernel_rfl)) (by kernel_rfl) (q:=[]) 60 ZD (.inr rfl) (fun ρ=>mT rfl rfl) K
 ·simp at hs
end Go.Am.B
