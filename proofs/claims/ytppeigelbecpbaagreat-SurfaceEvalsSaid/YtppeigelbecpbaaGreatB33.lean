/- brepkernelmade: number, Point, Map, Light, Roll. -/
import Derived.Test.YtppeigelbecpbaaGreatB32
set_option linter.unusedVariables false
namespace Go.Am.B
open Go Go.Am.N AV
theorem aeZ:aO P yy tF (aq tF):=aP QX (by kernel_rfl) (by kernel_rfl) (by kernel_rfl)
theorem af6:aO P Aq sW (aq sW):=aP aei (by kernel_rfl) (by kernel_rfl) (by kernel_rfl)
def GN:aS:=[(mI,gA r6),(lY,qg),(jE,yS)]
def gr (n:Nat) (f:Nat→AV) (a:Int):Rat:=if cy n f (aR n a) 4=3 then((cy n f a 13-6:Int):Rat)/((1+cy n f (aR n (aR n a)) 4:Int):Rat)else((cy n f a 13-6:Int):Rat)
def fB (n:Nat) (f:Nat→AV) (a:Int):Int:=if cy n f (aR n a) 4=3 then aR n (aR n (aR n a))else aR n (aR n a)
def C8 (n:Nat) (f:Nat→AV) (a:Int) (l:List AV):Option (AV×Int×List Prop):=match l with
 |[]=>some (.rat (gr n f a) 64,fB n f a,[])
 |_=>none
def GP:aS:=[(yy,gA C8)]
def j9 (n:Nat) (f:Nat→AV) (a:Int):Int:=fB n f (fB n f (fB n f a))
def Ec (n:Nat) (f:Nat→AV) (a:Int) (l:List AV):Option (AV×Int×List Prop):=match l with
 |[]=>some (.agg [.rat (gr n f a) 64,.rat (gr n f (fB n f a)) 64,.rat (gr n f (fB n f (fB n f a))) 64],j9 n f a,[])
 |_=>none
theorem adt:aW P GN:=aD A6 (aD r9 (aD AM aX))
theorem afJ {n:Nat} {z:Nat→Int} {a:Int}:qH T GN [8] 60 tF (aq tF) ⟨aM 0 [.ptr 0 0 2 0 []],[(0,gY n (fun i=>.int .i64 (z i)) a)],1⟩=
  let c7:Int:=(2:Int)^62;let c6:AV:=ag 1 n fun i↦int IntKind.i64 (z i);let c5:Int:=aR n (aR n a);let c4:List Prop:=[(0:Nat)<1];let c3:Int:=(2:Int)^63;let c1:Int:=IntKind.i64.wrap (cy n (fun i↦int IntKind.i64 (z i)) a (13:Int)-(6:Int));let c2:Int:=IntKind.i64.wrap ((1:Int)+cy n (fun i↦int IntKind.i64 (z i)) c5 (4:Int));some (aa.af [cB n (fun i↦int IntKind.i64 (z i)) a,(0:Int)<(13:Int),(13:Int)<c7] (aa.af [cB n (fun i↦int IntKind.i64 (z i)) (aR n a),(0:Int)<(4:Int),(4:Int)<c7] (aa.fork (cy n (fun i↦int IntKind.i64 (z i)) (aR n a) (4:Int)==(3:Int)) (aa.af (cB n (fun i↦int IntKind.i64 (z i)) c5::((0:Int)<(4:Int))::((4:Int)<c7)::(-c3≤c1)::(c1<c3)::(-c3≤c2)::(c2<c3)::c4) (aa.af c4 (aa.leaf aj.ret ([rat ((↑c1:Rat)/(↑c2:Rat)) 64],some (ah.mk false true 2 1 fun x↦agg [c6,int IntKind.i64 (aR n c5)]))))) (aa.af ((-c3≤c1)::(c1<c3)::c4) (aa.af c4 (aa.leaf aj.ret ([rat (↑c1:Rat) (max 1 (bp c1.natAbs))],some (ah.mk false true 2 1 fun x↦agg [c6,int IntKind.i64 c5])))))))):=by kernel_rfl
theorem ac6 {n:Nat} {z:Nat→Int} {a:Int}:qH T GP [] 60 sW (aq sW) ⟨aM 0 [.ptr 0 0 2 0 []],[(0,gY n (fun i=>.int .i64 (z i)) a)],1⟩=
  let c2:Int:=fB n (fun i↦int IntKind.i64 (z i)) a;let c1:Int:=fB n (fun i↦int IntKind.i64 (z i)) c2;some (aa.af [cB n (fun i↦int IntKind.i64 (z i)) a,cB n (fun i↦int IntKind.i64 (z i)) c2,cB n (fun i↦int IntKind.i64 (z i)) c1,(0:Nat)<1] (aa.af [(0:Nat)<1] (aa.leaf aj.ret ([agg [rat (gr n (fun i↦int IntKind.i64 (z i)) a) 64,rat (gr n (fun i↦int IntKind.i64 (z i)) c2) 64,rat (gr n (fun i↦int IntKind.i64 (z i)) c1) 64]],some (ah.mk false true 2 1 fun x↦agg [ag 1 n fun i↦int IntKind.i64 (z i),int IntKind.i64 (fB n (fun i↦int IntKind.i64 (z i)) c1)]))))):=by kernel_rfl
theorem cB.number {n:Nat} {f:Nat→AV} {a:Int} (h:cB n f a):cB n f (fB n f a):=by
 unfold fB;split
 ·exact h.next.next.next
 ·exact h.next.next
theorem cB.DX {n:Nat} {f:Nat→AV} {a:Int} (h:cB n f a):cB n f (j9 n f a):=h.number.number.number
theorem Fv {x y:Int} (h1:-2^63≤x) (h2:x<2^63):Sz (x:Rat) 64:=CA.more (by
 have:bp x.natAbs≤64:=gq.2 (by omega)
 omega)
theorem ZA {k n:Nat} {z:Nat→Int} {a:Int} {o:ah} (ho:∀ρ,cD ρ o (gY n (fun i=>.int .i64 (z i)) a)) (h:cB n (fun i=>.int .i64 (z i)) a) (K:Nat):
  az P yy K [.ptr k 0 2 0 []] [(k,o)] ⟨.rat (gr n (fun i=>.int .i64 (z i)) a) 64,[(k,gY n (fun i=>.int .i64 (z i)) (fB n (fun i=>.int .i64 (z i)) a))],[]⟩:=by
 refine A7 hT adt hm aeZ rfl rfl (of_decide_eq_true (by kernel_rfl)) ho 60 afJ (fun _=>?_) K
 have a1:=g7 (n:=n) (f:=fun i=>.int .i64 (z i)) (a:=a) (m:=13) (by omega)
 have a2:=iz (n:=n) (f:=fun i=>.int .i64 (z i)) (a:=a) (m:=13) (by omega)
 have b1:=g7 (n:=n) (f:=fun i=>.int .i64 (z i)) (a:=aR n (aR n a)) (m:=4) (by omega)
 have b2:=iz (n:=n) (f:=fun i=>.int .i64 (z i)) (a:=aR n (aR n a)) (m:=4) (by omega)
 unfold gr fB
 generalize cy n (fun i=>.int .i64 (z i)) a 13=x at*
 generalize cy n (fun i=>.int .i64 (z i)) (aR n (aR n a)) 4=y at*
 generalize cy n (fun i=>.int .i64 (z i)) (aR n a) 4=w at*
 have e1:IntKind.i64.wrap (x-6)=x-6:=wrap_i64 (by omega) (by omega)
 have e2:IntKind.i64.wrap (1+y)=1+y:=wrap_i64 (by omega) (by omega)
 rw[e1,e2]
 simp only[aa.all,ax,beq_iff_eq,beq_eq_false_iff_ne,ne_eq]
 refine⟨⟨h,by omega,by omega⟩,⟨h.next,by omega,by omega⟩,fun hw=>⟨⟨h.next.next,by omega,by omega,by omega,by omega,by omega,by omega,by omega⟩,by omega,de (by rw[if_pos hw]),_,rfl,rfl,lC rfl (by rw[if_pos hw])⟩,fun hw=>⟨⟨by omega,by omega,by omega⟩,by omega,?_,_,rfl,rfl,lC rfl (by rw[if_neg hw])⟩⟩
 rw[if_neg hw]
 exact fl rfl (Fv (y:=0) (by omega) (by omega))
theorem N9:∀K args pre r,gA C8 K args pre=some r→az P yy K args pre r:=by
 refine qn fun {k n z a l v b q o} K hg ho hd hq=>?_
 unfold C8 at hg
 split at hg
 ·simp only[Option.some.injEq,Prod.mk.injEq]at hg
  obtain⟨rfl,rfl,rfl⟩:=hg
  exact ZA ho hd K
 ·simp at hg
theorem Qf:aW P GP:=aD N9 aX
theorem WB:∀K args pre r,gA Ec K args pre=some r→az P Aq K args pre r:=by
 refine qn fun {k n z a l v b q o} K hg ho hd hq=>?_
 unfold Ec at hg
 split at hg
 ·simp only[Option.some.injEq,Prod.mk.injEq]at hg
  obtain⟨rfl,rfl,rfl⟩:=hg
  refine A7 hT Qf hm af6 rfl rfl (of_decide_eq_true (by kernel_rfl)) ho 60 ac6 (fun _=>?_) K
  simp only[aa.all,ax]
  exact⟨⟨hd,hd.number,hd.number.number,by omega⟩,by omega,.refl _,_,rfl,rfl,lC rfl rfl⟩
 ·simp at hg
def Gu:Spec:=bA fun l=>match l with
 |[.ag 1 n _]=>some (aF (.bool (decide ((n:Int)≤500))) [])
 |_=>none
theorem UF:∀K args pre r,Gu K args pre=some r→az P Bv K args pre r:=by
 refine bS fun K args r hk hs _=>?_
 split at hs
 ·simp only[Option.some.injEq]at hs
  subst hs
  refine bC hT aX hm P8 rfl (of_decide_eq_true (by kernel_rfl)) rfl 60 WV (fun _=>?_) K []
  exact .refl _
 ·simp at hs
def GU:Spec:=n6 fun K l=>match l with
 |[.ag 1 n f]=>some ⟨.ptr K 0 2 0 [],[(K,gY n f 0)],[]⟩
 |_=>none
theorem ad9:∀K args pre r,GU K args pre=some r→az P A1 K args pre r:=by
 refine s8 fun K args r hk hs=>?_
 split at hs
 ·simp only[Option.some.injEq]at hs
  subst hs
  exact ZB hT aX hm Sl hk rfl (of_decide_eq_true (by kernel_rfl)) (by kernel_rfl) (q:=[]) 60 afu (.inr rfl) (fun ρ=>lC rfl rfl) K
 ·simp at hs
end Go.Am.B
