/- brepkernelmade: number, Point, Map, Light, Roll. -/
import Derived.Test.YtppeigelbecpbaaGreatB32
set_option linter.unusedVariables false
namespace Go.Am.B
open Go Go.Am.N AV
theorem R3:aP P wZ Ap (au Ap):=aQ afK (by kernel_rfl) (by kernel_rfl) (by kernel_rfl)
theorem aeB:aP P BC yE (au yE):=aQ aaP (by kernel_rfl) (by kernel_rfl) (by kernel_rfl)
def GN:aS:=[(pS,iy sw),(oR,uZ),(mR,AG)]
def gi (n:Nat) (f:Nat→AV) (a:Int):Rat:=if cS n f (bA n a) 4=3 then((cS n f a 13-6:Int):Rat)/((1+cS n f (bA n (bA n a)) 4:Int):Rat)else((cS n f a 13-6:Int):Rat)
def fM (n:Nat) (f:Nat→AV) (a:Int):Int:=if cS n f (bA n a) 4=3 then bA n (bA n (bA n a))else bA n (bA n a)
def Gp (n:Nat) (f:Nat→AV) (a:Int) (l:List AV):Option (AV×Int×List Prop):=match l with
 |[]=>some (.rat (gi n f a) 64,fM n f a,[])
 |_=>none
def GP:aS:=[(wZ,iy Gp)]
def jk (n:Nat) (f:Nat→AV) (a:Int):Int:=fM n f (fM n f (fM n f a))
def E5 (n:Nat) (f:Nat→AV) (a:Int) (l:List AV):Option (AV×Int×List Prop):=match l with
 |[]=>some (.agg [.rat (gi n f a) 64,.rat (gi n f (fM n f a)) 64,.rat (gi n f (fM n f (fM n f a))) 64],jk n f a,[])
 |_=>none
theorem RG:aW P GN:=aH DI (aH DU (aH D8 bp))
theorem ajh {n:Nat} {z:Nat→Int} {a:Int}:ur T GN [8] 60 Ap (au Ap) ⟨aN 0 [.ptr 0 0 2 0 []],[(0,iS n (fun i=>.int .i64 (z i)) a)],1⟩=
  let c7:Int:=(2:Int)^62;let c6:AV:=aj 1 n fun i↦int IntKind.i64 (z i);let c5:Int:=bA n (bA n a);let c4:List Prop:=[(0:Nat)<1];let c3:Int:=(2:Int)^63;let c1:Int:=IntKind.i64.wrap (cS n (fun i↦int IntKind.i64 (z i)) a (13:Int)-(6:Int));let c2:Int:=IntKind.i64.wrap ((1:Int)+cS n (fun i↦int IntKind.i64 (z i)) c5 (4:Int));some (aa.ag [cN n (fun i↦int IntKind.i64 (z i)) a,(0:Int)<(13:Int),(13:Int)<c7] (aa.ag [cN n (fun i↦int IntKind.i64 (z i)) (bA n a),(0:Int)<(4:Int),(4:Int)<c7] (aa.fork (cS n (fun i↦int IntKind.i64 (z i)) (bA n a) (4:Int)==(3:Int)) (aa.ag (cN n (fun i↦int IntKind.i64 (z i)) c5::((0:Int)<(4:Int))::((4:Int)<c7)::(-c3≤c1)::(c1<c3)::(-c3≤c2)::(c2<c3)::c4) (aa.ag c4 (aa.leaf ak.ret ([rat ((↑c1:Rat)/(↑c2:Rat)) 64],some (ah.mk false true 2 1 fun x↦agg [c6,int IntKind.i64 (bA n c5)]))))) (aa.ag ((-c3≤c1)::(c1<c3)::c4) (aa.ag c4 (aa.leaf ak.ret ([rat (↑c1:Rat) (max 1 (bu c1.natAbs))],some (ah.mk false true 2 1 fun x↦agg [c6,int IntKind.i64 c5])))))))):=by kernel_rfl
theorem akn {n:Nat} {z:Nat→Int} {a:Int}:ur T GP [] 60 yE (au yE) ⟨aN 0 [.ptr 0 0 2 0 []],[(0,iS n (fun i=>.int .i64 (z i)) a)],1⟩=
  let c2:Int:=fM n (fun i↦int IntKind.i64 (z i)) a;let c1:Int:=fM n (fun i↦int IntKind.i64 (z i)) c2;some (aa.ag [cN n (fun i↦int IntKind.i64 (z i)) a,cN n (fun i↦int IntKind.i64 (z i)) c2,cN n (fun i↦int IntKind.i64 (z i)) c1,(0:Nat)<1] (aa.ag [(0:Nat)<1] (aa.leaf ak.ret ([agg [rat (gi n (fun i↦int IntKind.i64 (z i)) a) 64,rat (gi n (fun i↦int IntKind.i64 (z i)) c2) 64,rat (gi n (fun i↦int IntKind.i64 (z i)) c1) 64]],some (ah.mk false true 2 1 fun x↦agg [aj 1 n fun i↦int IntKind.i64 (z i),int IntKind.i64 (fM n (fun i↦int IntKind.i64 (z i)) c1)]))))):=by kernel_rfl
theorem cN.number {n:Nat} {f:Nat→AV} {a:Int} (h:cN n f a):cN n f (fM n f a):=by
 unfold fM;split
 ·exact h.next.next.next
 ·exact h.next.next
theorem cN.GU {n:Nat} {f:Nat→AV} {a:Int} (h:cN n f a):cN n f (jk n f a):=h.number.number.number
theorem LL {x y:Int} (h1:-2^63≤x) (h2:x<2^63):Sz (x:Rat) 64:=IJ.more (by
 have:bu x.natAbs≤64:=iH.2 (by omega)
 omega)
theorem ac1 {k n:Nat} {z:Nat→Int} {a:Int} {o:ah} (ho:∀ρ,cJ ρ o (iS n (fun i=>.int .i64 (z i)) a)) (h:cN n (fun i=>.int .i64 (z i)) a) (K:Nat):
  aA P wZ K [.ptr k 0 2 0 []] [(k,o)] ⟨.rat (gi n (fun i=>.int .i64 (z i)) a) 64,[(k,iS n (fun i=>.int .i64 (z i)) (fM n (fun i=>.int .i64 (z i)) a))],[]⟩:=by
 refine CA hT RG hm R3 rfl rfl (of_decide_eq_true (by kernel_rfl)) ho 60 ajh (fun _=>?_) K
 have a1:=gX (n:=n) (f:=fun i=>.int .i64 (z i)) (a:=a) (m:=13) (by omega)
 have a2:=ia (n:=n) (f:=fun i=>.int .i64 (z i)) (a:=a) (m:=13) (by omega)
 have b1:=gX (n:=n) (f:=fun i=>.int .i64 (z i)) (a:=bA n (bA n a)) (m:=4) (by omega)
 have b2:=ia (n:=n) (f:=fun i=>.int .i64 (z i)) (a:=bA n (bA n a)) (m:=4) (by omega)
 unfold gi fM
 generalize cS n (fun i=>.int .i64 (z i)) a 13=x at*
 generalize cS n (fun i=>.int .i64 (z i)) (bA n (bA n a)) 4=y at*
 generalize cS n (fun i=>.int .i64 (z i)) (bA n a) 4=w at*
 have e1:IntKind.i64.wrap (x-6)=x-6:=wrap_i64 (by omega) (by omega)
 have e2:IntKind.i64.wrap (1+y)=1+y:=wrap_i64 (by omega) (by omega)
 rw[e1,e2]
 simp only[aa.all,ax,beq_iff_eq,beq_eq_false_iff_ne,ne_eq]
 refine⟨⟨h,by omega,by omega⟩,⟨h.next,by omega,by omega⟩,fun hw=>⟨⟨h.next.next,by omega,by omega,by omega,by omega,by omega,by omega,by omega⟩,by omega,cX (by rw[if_pos hw]),_,rfl,rfl,nO rfl (by rw[if_pos hw])⟩,fun hw=>⟨⟨by omega,by omega,by omega⟩,by omega,?_,_,rfl,rfl,nO rfl (by rw[if_neg hw])⟩⟩
 rw[if_neg hw]
 exact ew rfl (LL (y:=0) (by omega) (by omega))
theorem Yz:∀K args pre r,iy Gp K args pre=some r→aA P wZ K args pre r:=by
 refine s6 fun {k n z a l v b q o} K hg ho hd hq=>?_
 unfold Gp at hg
 split at hg
 ·simp only[Option.some.injEq,Prod.mk.injEq]at hg
  obtain⟨rfl,rfl,rfl⟩:=hg
  exact ac1 ho hd K
 ·simp at hg
theorem agN:aW P GP:=aH Yz bp
theorem SO:∀K args pre r,iy E5 K args pre=some r→aA P BC K args pre r:=by
 refine s6 fun {k n z a l v b q o} K hg ho hd hq=>?_
 unfold E5 at hg
 split at hg
 ·simp only[Option.some.injEq,Prod.mk.injEq]at hg
  obtain⟨rfl,rfl,rfl⟩:=hg
  refine CA hT agN hm aeB rfl rfl (of_decide_eq_true (by kernel_rfl)) ho 60 akn (fun _=>?_) K
  simp only[aa.all,ax]
  exact⟨⟨hd,hd.number,hd.number.number,by omega⟩,by omega,.refl _,_,rfl,rfl,nO rfl rfl⟩
 ·simp at hg
def KM:Spec:=bE fun l=>match l with
 |[.aj 1 n _]=>some (aG (.bool (decide ((n:Int)≤500))) [])
 |_=>none
theorem aaf:∀K args pre r,KM K args pre=some r→aA P Ch K args pre r:=by
 refine bX fun K args r hk hs _=>?_
 split at hs
 ·simp only[Option.some.injEq]at hs
  subst hs
  refine bJ hT bp hm aa1 rfl (of_decide_eq_true (by kernel_rfl)) rfl 60 ad7 (fun _=>?_) K []
  exact .refl _
 ·simp at hs
def NK:Spec:=tG fun K l=>match l with
 |[.aj 1 n f]=>some ⟨.ptr K 0 2 0 [],[(K,iS n f 0)],[]⟩
 |_=>none
theorem US:∀K args pre r,NK K args pre=some r→aA P By K args pre r:=by
 refine Bo fun K args r hk hs=>?_
 split at hs
 ·simp only[Option.some.injEq]at hs
  subst hs
  exact afH hT bp hm Tk hk rfl (of_decide_eq_true (by kernel_rfl)) (by kernel_rfl) (q:=[]) 60 agu (.inr rfl) (fun ρ=>nO rfl rfl) K
 ·simp at hs
end Go.Am.B
