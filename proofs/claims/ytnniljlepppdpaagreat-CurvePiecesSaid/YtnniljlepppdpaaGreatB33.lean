/- brepkernelmade: number, Point, Map, Light, Roll. -/
import Derived.Test.YtnniljlepppdpaaGreatB32
set_option linter.unusedVariables false
namespace Go.Am.B
open Go Go.Am.N AV
theorem aeK:aU P zw Bg (az Bg):=aT Proofs.Tryz.func243 ah ah ah
theorem agx:aU P Hv Dc (az Dc):=aT Proofs.Tryz.func166 ah ah ah
def GN:aV:=[(r7,iS uu),(qX,wX),(o5,ye)]
def gB (n:Nat) (f:Nat->AV) (a:Int):Rat:=if dg n f (bK n a) 4=3 then((dg n f a 13-6:Int):Rat)/((1+dg n f (bK n (bK n a)) 4:Int):Rat)else((dg n f a 13-6:Int):Rat)
def gl (n:Nat) (f:Nat->AV) (a:Int):Int:=if dg n f (bK n a) 4=3 then bK n (bK n (bK n a))else bK n (bK n a)
def Hp (n:Nat) (f:Nat->AV) (a:Int) (l:List AV):Option (AV×Int×List Prop):=match l with
 |[]=>some (.rat (gB n f a) 64,gl n f a,[])
 |_=>none
def GP:aV:=[(zw,iS Hp)]
def jK (n:Nat) (f:Nat->AV) (a:Int):Int:=gl n f (gl n f (gl n f a))
def HY (n:Nat) (f:Nat->AV) (a:Int) (l:List AV):Option (AV×Int×List Prop):=match l with
 |[]=>some (.agg [.rat (gB n f a) 64,.rat (gB n f (gl n f a)) 64,.rat (gB n f (gl n f (gl n f a))) 64],jK n f a,[])
 |_=>none
theorem aao:bn P GN:=aI Au (aI D8 (aI BY bE))
theorem agD {n:Nat} {z:Nat->Int} {a:Int}:uj T GN [8] 60 Bg (az Bg) ⟨aQ 0 [.ptr 0 0 2 0 []],[(0,jr n (fun i=>.int .i64 (z i)) a)],1⟩=
  let c7:Int:=(2:Int)^62;let c6:AV:=aq 1 n fun i=>int IntKind.i64 (z i);let c5:Int:=bK n (bK n a);let c4:List Prop:=[(0:Nat)<1];let c3:Int:=(2:Int)^63;let c1:Int:=IntKind.i64.wrap (dg n (fun i=>int IntKind.i64 (z i)) a (13:Int)-(6:Int));let c2:Int:=IntKind.i64.wrap ((1:Int)+dg n (fun i=>int IntKind.i64 (z i)) c5 (4:Int));some (ag.aj [cW n (fun i=>int IntKind.i64 (z i)) a,(0:Int)<(13:Int),(13:Int)<c7] (ag.aj [cW n (fun i=>int IntKind.i64 (z i)) (bK n a),(0:Int)<(4:Int),(4:Int)<c7] (ag.fork (dg n (fun i=>int IntKind.i64 (z i)) (bK n a) (4:Int)==(3:Int)) (ag.aj (cW n (fun i=>int IntKind.i64 (z i)) c5::((0:Int)<(4:Int))::((4:Int)<c7)::(-c3<=c1)::(c1<c3)::(-c3<=c2)::(c2<c3)::c4) (ag.aj c4 (ag.leaf ak.ret ([rat ((↑c1:Rat)/(↑c2:Rat)) 64],some (ax.mk false true 2 1 fun x=>agg [c6,int IntKind.i64 (bK n c5)]))))) (ag.aj ((-c3<=c1)::(c1<c3)::c4) (ag.aj c4 (ag.leaf ak.ret ([rat (↑c1:Rat) (max 1 (bG c1.natAbs))],some (ax.mk false true 2 1 fun x=>agg [c6,int IntKind.i64 c5])))))))):=ah
theorem afv {n:Nat} {z:Nat->Int} {a:Int}:uj T GP [] 60 Dc (az Dc) ⟨aQ 0 [.ptr 0 0 2 0 []],[(0,jr n (fun i=>.int .i64 (z i)) a)],1⟩=
  let c2:Int:=gl n (fun i=>int IntKind.i64 (z i)) a;let c1:Int:=gl n (fun i=>int IntKind.i64 (z i)) c2;some (ag.aj [cW n (fun i=>int IntKind.i64 (z i)) a,cW n (fun i=>int IntKind.i64 (z i)) c2,cW n (fun i=>int IntKind.i64 (z i)) c1,(0:Nat)<1] (ag.aj [(0:Nat)<1] (ag.leaf ak.ret ([agg [rat (gB n (fun i=>int IntKind.i64 (z i)) a) 64,rat (gB n (fun i=>int IntKind.i64 (z i)) c2) 64,rat (gB n (fun i=>int IntKind.i64 (z i)) c1) 64]],some (ax.mk false true 2 1 fun x=>agg [aq 1 n fun i=>int IntKind.i64 (z i),int IntKind.i64 (gl n (fun i=>int IntKind.i64 (z i)) c1)]))))):=ah
theorem cW.number {n:Nat} {f:Nat->AV} {a:Int} (h:cW n f a):cW n f (gl n f a):=by
 unfold gl;split
 ·exact h.next.next.next
 ·exact h.next.next
theorem cW.FN {n:Nat} {f:Nat->AV} {a:Int} (h:cW n f a):cW n f (jK n f a):=h.number.number.number
theorem Ns {x y:Int} (h1:-2^63<=x) (h2:x<2^63):Sz (x:Rat) 64:=FT.more (by
 have:bG x.natAbs<=64:=je.2 aa
 omega)
theorem T2 {k n:Nat} {z:Nat->Int} {a:Int} {o:ax} (ho:∀ρ,cM ρ o (jr n (fun i=>.int .i64 (z i)) a)) (h:cW n (fun i=>.int .i64 (z i)) a) (K:Nat):
  aD P zw K [.ptr k 0 2 0 []] [(k,o)] ⟨.rat (gB n (fun i=>.int .i64 (z i)) a) 64,[(k,jr n (fun i=>.int .i64 (z i)) (gl n (fun i=>.int .i64 (z i)) a))],[]⟩:=by
 refine Dm hT aao hm aeK rfl rfl aW ho 60 agD (fun _=>?_) K
 have a1:=iE (n:=n) (f:=fun i=>.int .i64 (z i)) (a:=a) (m:=13) aa
 have a2:=iP (n:=n) (f:=fun i=>.int .i64 (z i)) (a:=a) (m:=13) aa
 have b1:=iE (n:=n) (f:=fun i=>.int .i64 (z i)) (a:=bK n (bK n a)) (m:=4) aa
 have b2:=iP (n:=n) (f:=fun i=>.int .i64 (z i)) (a:=bK n (bK n a)) (m:=4) aa
 unfold gB gl
 generalize dg n (fun i=>.int .i64 (z i)) a 13=x at*
 generalize dg n (fun i=>.int .i64 (z i)) (bK n (bK n a)) 4=y at*
 generalize dg n (fun i=>.int .i64 (z i)) (bK n a) 4=w at*
 have e1:IntKind.i64.wrap (x-6)=x-6:=wrap_i64 aa aa
 have e2:IntKind.i64.wrap (1+y)=1+y:=wrap_i64 aa aa
 rw[e1,e2]
 simp only[ag.all,aA,beq_iff_eq,beq_eq_false_iff_ne,ne_eq]
 refine⟨⟨h,aa,aa⟩,⟨h.next,aa,aa⟩,fun hw=>⟨⟨h.next.next,aa,aa,aa,aa,aa,aa,aa⟩,aa,dD (by rw[if_pos hw]),_,rfl,rfl,nU rfl (by rw[if_pos hw])⟩,fun hw=>⟨⟨aa,aa,aa⟩,aa,?_,_,rfl,rfl,nU rfl (by rw[if_neg hw])⟩⟩
 rw[if_neg hw]
 exact cV rfl (Ns (y:=0) aa aa)
theorem ahG:∀K args pre r,iS Hp K args pre=some r->aD P zw K args pre r:=by
 refine uG fun {k n z a l v b q o} K hg ho hd hq=>?_
 unfold Hp at hg
 split at hg
 ·simp only[au,Prod.mk.injEq]at hg
  obtain⟨rfl,rfl,rfl⟩:=hg
  exact T2 ho hd K
 ·simp at hg
theorem aif:bn P GP:=aI ahG bE
theorem ae5:∀K args pre r,iS HY K args pre=some r->aD P Hv K args pre r:=by
 refine uG fun {k n z a l v b q o} K hg ho hd hq=>?_
 unfold HY at hg
 split at hg
 ·simp only[au,Prod.mk.injEq]at hg
  obtain⟨rfl,rfl,rfl⟩:=hg
  refine Dm hT aif hm agx rfl rfl aW ho 60 afv (fun _=>?_) K
  simp only[ag.all,aA]
  exact⟨⟨hd,hd.number,hd.number.number,aa⟩,aa,.refl _,_,rfl,rfl,nU rfl rfl⟩
 ·simp at hg
def LV:Spec:=bM fun l=>match l with
 |[.aq 1 n _]=>some (aL (.bool (decide ((n:Int)<=500))) [])
 |_=>none
theorem aaW:∀K args pre r,LV K args pre=some r->aD P G6 K args pre r:=by
 refine ct fun K args r hk hs _=>?_
 split at hs
 ·simp only[au]at hs
  subst hs
  refine bW hT bE hm ZK rfl aW rfl 60 Wg (fun _=>?_) K []
  exact .refl _
 ·simp at hs
def Oz:Spec:=pX fun K l=>match l with
 |[.aq 1 n f]=>some ⟨.ptr K 0 2 0 [],[(K,jr n f 0)],[]⟩
 |_=>none
theorem UJ:∀K args pre r,Oz K args pre=some r->aD P EK K args pre r:=by
 refine uM fun K args r hk hs=>?_
 split at hs
 ·simp only[au]at hs
  subst hs
  exact agy hT bE hm aax hk rfl aW ah (q:=[]) 60 YP (.inr rfl) (fun ρ=>nU rfl rfl) K
 ·simp at hs
end Go.Am.B
