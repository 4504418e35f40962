/- brepkernelmade. -/
import Derived.Test.YtppeigelbecpbaaGreatB32
set_option linter.unusedVariables false
namespace Go.Am.B
open Go Go.Am.N AV
theorem ak7:aT P Et Cs (aA Cs):=aY Proofs.Tryz.func189 ag ag ag
theorem aad:aT P K0 A8 (aA A8):=aY Proofs.Tryz.func116 ag ag ag
def GN:bg:=[(uf,iW vZ),(s4,zS),(rC,Aw)]
def gQ (n:Nat) (f:Nat->AV) (a:Int):Rat:=if dx n f (bV n a) 4=3 then((dx n f a 13-6:Int):Rat)/((1+dx n f (bV n (bV n a)) 4:Int):Rat)else((dx n f a 13-6:Int):Rat)
def gq (n:Nat) (f:Nat->AV) (a:Int):Int:=if dx n f (bV n a) 4=3 then bV n (bV n (bV n a))else bV n (bV n a)
def He (n:Nat) (f:Nat->AV) (a:Int) (l:List AV):Option (AV×Int×List Prop):=match l with
 |[]=>some (.rat (gQ n f a) 64,gq n f a,[])
 |_=>none
def GP:bg:=[(Et,iW He)]
def jU (n:Nat) (f:Nat->AV) (a:Int):Int:=gq n f (gq n f (gq n f a))
def I3 (n:Nat) (f:Nat->AV) (a:Int) (l:List AV):Option (AV×Int×List Prop):=match l with
 |[]=>some (.agg [.rat (gQ n f a) 64,.rat (gQ n f (gq n f a)) 64,.rat (gQ n f (gq n f (gq n f a))) 64],jU n f a,[])
 |_=>none
theorem aaw:bz P GN:=aL Ci (aL Bd (aL Cw bO))
theorem X9 {n:Nat} {z:Nat->Int} {a:Int}:vK T GN [8] 60 Cs (aA Cs) ⟨aQ 0 [.ptr 0 0 2 0 []],[(0,jw n (fun i=>.int .i64 (z i)) a)],1⟩=
  let c7:Int:=(2:Int)^62;let c6:AV:=aq 1 n fun i=>int IntKind.i64 (z i);let c5:Int:=bV n (bV n a);let c4:List Prop:=[(0:Nat)<1];let c3:Int:=(2:Int)^63;let c1:Int:=IntKind.i64.wrap (dx n (fun i=>int IntKind.i64 (z i)) a (13:Int)-(6:Int));let c2:Int:=IntKind.i64.wrap ((1:Int)+dx n (fun i=>int IntKind.i64 (z i)) c5 (4:Int));some (ah.aj [dh n (fun i=>int IntKind.i64 (z i)) a,(0:Int)<(13:Int),(13:Int)<c7] (ah.aj [dh n (fun i=>int IntKind.i64 (z i)) (bV n a),(0:Int)<(4:Int),(4:Int)<c7] (ah.fork (dx n (fun i=>int IntKind.i64 (z i)) (bV n a) (4:Int)==(3:Int)) (ah.aj (dh n (fun i=>int IntKind.i64 (z i)) c5::((0:Int)<(4:Int))::((4:Int)<c7)::(-c3<=c1)::(c1<c3)::(-c3<=c2)::(c2<c3)::c4) (ah.aj c4 (ah.leaf au.ret ([rat ((↑c1:Rat)/(↑c2:Rat)) 64],some (ak.mk false true 2 1 fun x=>agg [c6,int IntKind.i64 (bV n c5)]))))) (ah.aj ((-c3<=c1)::(c1<c3)::c4) (ah.aj c4 (ah.leaf au.ret ([rat (↑c1:Rat) (max 1 (bN c1.natAbs))],some (ak.mk false true 2 1 fun x=>agg [c6,int IntKind.i64 c5])))))))):=ag
theorem aiM {n:Nat} {z:Nat->Int} {a:Int}:vK T GP [] 60 A8 (aA A8) ⟨aQ 0 [.ptr 0 0 2 0 []],[(0,jw n (fun i=>.int .i64 (z i)) a)],1⟩=
  let c2:Int:=gq n (fun i=>int IntKind.i64 (z i)) a;let c1:Int:=gq n (fun i=>int IntKind.i64 (z i)) c2;some (ah.aj [dh n (fun i=>int IntKind.i64 (z i)) a,dh n (fun i=>int IntKind.i64 (z i)) c2,dh n (fun i=>int IntKind.i64 (z i)) c1,(0:Nat)<1] (ah.aj [(0:Nat)<1] (ah.leaf au.ret ([agg [rat (gQ n (fun i=>int IntKind.i64 (z i)) a) 64,rat (gQ n (fun i=>int IntKind.i64 (z i)) c2) 64,rat (gQ n (fun i=>int IntKind.i64 (z i)) c1) 64]],some (ak.mk false true 2 1 fun x=>agg [aq 1 n fun i=>int IntKind.i64 (z i),int IntKind.i64 (gq n (fun i=>int IntKind.i64 (z i)) c1)]))))):=ag
theorem dh.number {n:Nat} {f:Nat->AV} {a:Int} (h:dh n f a):dh n f (gq n f a):=by
 unfold gq;split
 ·exact h.next.next.next
 ·exact h.next.next
theorem dh.Je {n:Nat} {f:Nat->AV} {a:Int} (h:dh n f a):dh n f (jU n f a):=h.number.number.number
theorem Oa {x y:Int} (h1:-2^63<=x) (h2:x<2^63):Sz (x:Rat) 64:=HQ.more (by
 have:bN x.natAbs<=64:=jI.2 aa
 omega)
theorem agB {k n:Nat} {z:Nat->Int} {a:Int} {o:ak} (ho:∀ρ,cV ρ o (jw n (fun i=>.int .i64 (z i)) a)) (h:dh n (fun i=>.int .i64 (z i)) a) (K:Nat):
  aE P Et K [.ptr k 0 2 0 []] [(k,o)] ⟨.rat (gQ n (fun i=>.int .i64 (z i)) a) 64,[(k,jw n (fun i=>.int .i64 (z i)) (gq n (fun i=>.int .i64 (z i)) a))],[]⟩:=by
 refine Cm hT aaw hm ak7 rfl rfl aX ho 60 X9 (fun _=>?_) K
 have a1:=iQ (n:=n) (f:=fun i=>.int .i64 (z i)) (a:=a) (m:=13) aa
 have a2:=iV (n:=n) (f:=fun i=>.int .i64 (z i)) (a:=a) (m:=13) aa
 have b1:=iQ (n:=n) (f:=fun i=>.int .i64 (z i)) (a:=bV n (bV n a)) (m:=4) aa
 have b2:=iV (n:=n) (f:=fun i=>.int .i64 (z i)) (a:=bV n (bV n a)) (m:=4) aa
 unfold gQ gq
 generalize dx n (fun i=>.int .i64 (z i)) a 13=x at*
 generalize dx n (fun i=>.int .i64 (z i)) (bV n (bV n a)) 4=y at*
 generalize dx n (fun i=>.int .i64 (z i)) (bV n a) 4=w at*
 have e1:IntKind.i64.wrap (x-6)=x-6:=wrap_i64 aa aa
 have e2:IntKind.i64.wrap (1+y)=1+y:=wrap_i64 aa aa
 rw[e1,e2]
 simp only[ah.all,az,beq_iff_eq,beq_eq_false_iff_ne,ne_eq]
 refine⟨⟨h,aa,aa⟩,⟨h.next,aa,aa⟩,fun hw=>⟨⟨h.next.next,aa,aa,aa,aa,aa,aa,aa⟩,aa,dF (by rw[if_pos hw]),_,rfl,rfl,oB rfl (by rw[if_pos hw])⟩,fun hw=>⟨⟨aa,aa,aa⟩,aa,?_,_,rfl,rfl,oB rfl (by rw[if_neg hw])⟩⟩
 rw[if_neg hw]
 exact dA rfl (Oa (y:=0) aa aa)
theorem af6:∀K args pre r,iW He K args pre=some r->aE P Et K args pre r:=by
 refine wm fun {k n z a l v b q o} K hg ho hd hq=>?_
 unfold He at hg
 split at hg
 ·simp only[ay,Prod.mk.injEq]at hg
  obtain⟨rfl,rfl,rfl⟩:=hg
  exact agB ho hd K
 ·simp at hg
theorem TO:bz P GP:=aL af6 bO
theorem afD:∀K args pre r,iW I3 K args pre=some r->aE P K0 K args pre r:=by
 refine wm fun {k n z a l v b q o} K hg ho hd hq=>?_
 unfold I3 at hg
 split at hg
 ·simp only[ay,Prod.mk.injEq]at hg
  obtain⟨rfl,rfl,rfl⟩:=hg
  refine Cm hT TO hm aad rfl rfl aX ho 60 aiM (fun _=>?_) K
  simp only[ah.all,az]
  exact⟨⟨hd,hd.number,hd.number.number,aa⟩,aa,.refl _,_,rfl,rfl,oB rfl rfl⟩
 ·simp at hg
def NM:Spec:=bX fun l=>match l with
 |[.aq 1 n _]=>some (aK (.bool (decide ((n:Int)<=500))) [])
 |_=>none
theorem WM:∀K args pre r,NM K args pre=some r->aE P Kg K args pre r:=by
 refine cK fun K args r hk hs _=>?_
 split at hs
 ·simp only[ay]at hs
  subst hs
  refine cj hT bO hm ajx rfl aX rfl 60 ai5 (fun _=>?_) K []
  exact .refl _
 ·simp at hs
def R8:Spec:=wj fun K l=>match l with
 |[.aq 1 n f]=>some ⟨.ptr K 0 2 0 [],[(K,jw n f 0)],[]⟩
 |_=>none
theorem Yd:∀K args pre r,R8 K args pre=some r->aE P IJ K args pre r:=by
 refine FI fun K args r hk hs=>?_
 split at hs
 ·simp only[ay]at hs
  subst hs
  exact ad1 hT bO hm acr hk rfl aX ag (q:=[]) 60 Ub (.inr rfl) (fun ρ=>oB rfl rfl) K
 ·simp at hs
end Go.Am.B
