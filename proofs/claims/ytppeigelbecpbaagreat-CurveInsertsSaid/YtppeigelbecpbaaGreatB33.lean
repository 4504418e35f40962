/- brepkernelmade: number, Point, Map, Light, Roll. -/
import Derived.Test.YtppeigelbecpbaaGreatB32
set_option linter.unusedVariables false
namespace Go.Am.B
open Go Go.Am.N AV
theorem abJ:aP P zg As (au As):=aQ aaS (by kernel_rfl) (by kernel_rfl) (by kernel_rfl)
theorem SF:aP P CO yW (au yW):=aQ adS (by kernel_rfl) (by kernel_rfl) (by kernel_rfl)
def GN:aS:=[(oE,iy uy),(pO,x8),(nu,y7)]
def gb (n:Nat) (f:Nat→AV) (a:Int):Rat:=if cS n f (bA n a) 4=3 then((cS n f a 13-6:Int):Rat)/((1+cS n f (bA n (bA n a)) 4:Int):Rat)else((cS n f a 13-6:Int):Rat)
def fL (n:Nat) (f:Nat→AV) (a:Int):Int:=if cS n f (bA n a) 4=3 then bA n (bA n (bA n a))else bA n (bA n a)
def Hh (n:Nat) (f:Nat→AV) (a:Int) (l:List AV):Option (AV×Int×List Prop):=match l with
 |[]=>some (.rat (gb n f a) 64,fL n f a,[])
 |_=>none
def GP:aS:=[(zg,iy Hh)]
def iX (n:Nat) (f:Nat→AV) (a:Int):Int:=fL n f (fL n f (fL n f a))
def GF (n:Nat) (f:Nat→AV) (a:Int) (l:List AV):Option (AV×Int×List Prop):=match l with
 |[]=>some (.agg [.rat (gb n f a) 64,.rat (gb n f (fL n f a)) 64,.rat (gb n f (fL n f (fL n f a))) 64],iX n f a,[])
 |_=>none
theorem afR:aY P GN:=aG CJ (aG BN (aG B9 bq))
theorem UL {n:Nat} {z:Nat→Int} {a:Int}:rZ T GN [8] 60 As (au As) ⟨aN 0 [.ptr 0 0 2 0 []],[(0,iR n (fun i=>.int .i64 (z i)) a)],1⟩=
  let c7:Int:=(2:Int)^62;let c6:AV:=aj 1 n fun i↦int IntKind.i64 (z i);let c5:Int:=bA n (bA n a);let c4:List Prop:=[(0:Nat)<1];let c3:Int:=(2:Int)^63;let c1:Int:=IntKind.i64.wrap (cS n (fun i↦int IntKind.i64 (z i)) a (13:Int)-(6:Int));let c2:Int:=IntKind.i64.wrap ((1:Int)+cS n (fun i↦int IntKind.i64 (z i)) c5 (4:Int));some (aa.ag [cM n (fun i↦int IntKind.i64 (z i)) a,(0:Int)<(13:Int),(13:Int)<c7] (aa.ag [cM n (fun i↦int IntKind.i64 (z i)) (bA n a),(0:Int)<(4:Int),(4:Int)<c7] (aa.fork (cS n (fun i↦int IntKind.i64 (z i)) (bA n a) (4:Int)==(3:Int)) (aa.ag (cM n (fun i↦int IntKind.i64 (z i)) c5::((0:Int)<(4:Int))::((4:Int)<c7)::(-c3≤c1)::(c1<c3)::(-c3≤c2)::(c2<c3)::c4) (aa.ag c4 (aa.leaf ak.ret ([rat ((↑c1:Rat)/(↑c2:Rat)) 64],some (ah.mk false true 2 1 fun x↦agg [c6,int IntKind.i64 (bA n c5)]))))) (aa.ag ((-c3≤c1)::(c1<c3)::c4) (aa.ag c4 (aa.leaf ak.ret ([rat (↑c1:Rat) (max 1 (bu c1.natAbs))],some (ah.mk false true 2 1 fun x↦agg [c6,int IntKind.i64 c5])))))))):=by kernel_rfl
theorem WY {n:Nat} {z:Nat→Int} {a:Int}:rZ T GP [] 60 yW (au yW) ⟨aN 0 [.ptr 0 0 2 0 []],[(0,iR n (fun i=>.int .i64 (z i)) a)],1⟩=
  let c2:Int:=fL n (fun i↦int IntKind.i64 (z i)) a;let c1:Int:=fL n (fun i↦int IntKind.i64 (z i)) c2;some (aa.ag [cM n (fun i↦int IntKind.i64 (z i)) a,cM n (fun i↦int IntKind.i64 (z i)) c2,cM n (fun i↦int IntKind.i64 (z i)) c1,(0:Nat)<1] (aa.ag [(0:Nat)<1] (aa.leaf ak.ret ([agg [rat (gb n (fun i↦int IntKind.i64 (z i)) a) 64,rat (gb n (fun i↦int IntKind.i64 (z i)) c2) 64,rat (gb n (fun i↦int IntKind.i64 (z i)) c1) 64]],some (ah.mk false true 2 1 fun x↦agg [aj 1 n fun i↦int IntKind.i64 (z i),int IntKind.i64 (fL n (fun i↦int IntKind.i64 (z i)) c1)]))))):=by kernel_rfl
theorem cM.number {n:Nat} {f:Nat→AV} {a:Int} (h:cM n f a):cM n f (fL n f a):=by
 unfold fL;split
 ·exact h.next.next.next
 ·exact h.next.next
theorem cM.IA {n:Nat} {f:Nat→AV} {a:Int} (h:cM n f a):cM n f (iX n f a):=h.number.number.number
theorem I3 {x y:Int} (h1:-2^63≤x) (h2:x<2^63):Sz (x:Rat) 64:=IG.more (by
 have:bu x.natAbs≤64:=iJ.2 (by omega)
 omega)
theorem Yd {k n:Nat} {z:Nat→Int} {a:Int} {o:ah} (ho:∀ρ,cI ρ o (iR n (fun i=>.int .i64 (z i)) a)) (h:cM n (fun i=>.int .i64 (z i)) a) (K:Nat):
  aA P zg K [.ptr k 0 2 0 []] [(k,o)] ⟨.rat (gb n (fun i=>.int .i64 (z i)) a) 64,[(k,iR n (fun i=>.int .i64 (z i)) (fL n (fun i=>.int .i64 (z i)) a))],[]⟩:=by
 refine BG hT afR hm abJ rfl rfl (of_decide_eq_true (by kernel_rfl)) ho 60 UL (fun _=>?_) K
 have a1:=gR (n:=n) (f:=fun i=>.int .i64 (z i)) (a:=a) (m:=13) (by omega)
 have a2:=iq (n:=n) (f:=fun i=>.int .i64 (z i)) (a:=a) (m:=13) (by omega)
 have b1:=gR (n:=n) (f:=fun i=>.int .i64 (z i)) (a:=bA n (bA n a)) (m:=4) (by omega)
 have b2:=iq (n:=n) (f:=fun i=>.int .i64 (z i)) (a:=bA n (bA n a)) (m:=4) (by omega)
 unfold gb fL
 generalize cS n (fun i=>.int .i64 (z i)) a 13=x at*
 generalize cS n (fun i=>.int .i64 (z i)) (bA n (bA n a)) 4=y at*
 generalize cS n (fun i=>.int .i64 (z i)) (bA n a) 4=w at*
 have e1:IntKind.i64.wrap (x-6)=x-6:=wrap_i64 (by omega) (by omega)
 have e2:IntKind.i64.wrap (1+y)=1+y:=wrap_i64 (by omega) (by omega)
 rw[e1,e2]
 simp only[aa.all,ax,beq_iff_eq,beq_eq_false_iff_ne,ne_eq]
 refine⟨⟨h,by omega,by omega⟩,⟨h.next,by omega,by omega⟩,fun hw=>⟨⟨h.next.next,by omega,by omega,by omega,by omega,by omega,by omega,by omega⟩,by omega,cY (by rw[if_pos hw]),_,rfl,rfl,nV rfl (by rw[if_pos hw])⟩,fun hw=>⟨⟨by omega,by omega,by omega⟩,by omega,?_,_,rfl,rfl,nV rfl (by rw[if_neg hw])⟩⟩
 rw[if_neg hw]
 exact ey rfl (I3 (y:=0) (by omega) (by omega))
theorem afd:∀K args pre r,iy Hh K args pre=some r→aA P zg K args pre r:=by
 refine tI fun {k n z a l v b q o} K hg ho hd hq=>?_
 unfold Hh at hg
 split at hg
 ·simp only[Option.some.injEq,Prod.mk.injEq]at hg
  obtain⟨rfl,rfl,rfl⟩:=hg
  exact Yd ho hd K
 ·simp at hg
theorem aes:aY P GP:=aG afd bq
theorem UI:∀K args pre r,iy GF K args pre=some r→aA P CO K args pre r:=by
 refine tI fun {k n z a l v b q o} K hg ho hd hq=>?_
 unfold GF at hg
 split at hg
 ·simp only[Option.some.injEq,Prod.mk.injEq]at hg
  obtain⟨rfl,rfl,rfl⟩:=hg
  refine BG hT aes hm SF rfl rfl (of_decide_eq_true (by kernel_rfl)) ho 60 WY (fun _=>?_) K
  simp only[aa.all,ax]
  exact⟨⟨hd,hd.number,hd.number.number,by omega⟩,by omega,.refl _,_,rfl,rfl,nV rfl rfl⟩
 ·simp at hg
def Ng:Spec:=bE fun l=>match l with
 |[.aj 1 n _]=>some (aH (.bool (decide ((n:Int)≤500))) [])
 |_=>none
theorem aa7:∀K args pre r,Ng K args pre=some r→aA P Bm K args pre r:=by
 refine bV fun K args r hk hs _=>?_
 split at hs
 ·simp only[Option.some.injEq]at hs
  subst hs
  refine bJ hT bq hm ahn rfl (of_decide_eq_true (by kernel_rfl)) rfl 60 XA (fun _=>?_) K []
  exact .refl _
 ·simp at hs
def Mv:Spec:=sN fun K l=>match l with
 |[.aj 1 n f]=>some ⟨.ptr K 0 2 0 [],[(K,iR n f 0)],[]⟩
 |_=>none
theorem aar:∀K args pre r,Mv K args pre=some r→aA P Bt K args pre r:=by
 refine DJ fun K args r hk hs=>?_
 split at hs
 ·simp only[Option.some.injEq]at hs
  subst hs
  exact ajJ hT bq hm ac9 hk rfl (of_decide_eq_true (by kernel_rfl)) (by kernel_rfl) (q:=[]) 60 TF (.inr rfl) (fun ρ=>nV rfl rfl) K
 ·simp at hs
end Go.Am.B
