/- ref02: Den, reduce, size, Make, Frac, Int, Same, Sign, Neg. -/
import Derived.Test.YtnniljlepppdpaaGreatB29
set_option linter.unusedVariables false
namespace Go.Am.B
open Go Go.Am.N AV
theorem abq:aR P AL ET (az ET):=aS Proofs.Tryz.func103 ag ag ag
theorem Vv:aR P B4 CD (az CD):=aS Proofs.Tryz.func113 ag ag ag
theorem Wi:aR P A0 Dx (az Dx):=aS Proofs.Tryz.func107 ag ag ag
theorem aiz:aR P B6 A1 (az A1):=aS Proofs.Tryz.func121 ag ag ag
theorem aak:aR P vI A5 (az A5):=aS Proofs.Tryz.func100 ag ag ag
theorem Z6:aR P zk EV (az EV):=aS Proofs.Tryz.func109 ag ag ag
def GE:aX:=[(qW,uA),(AM,S7),(yx,M5),(sU,zJ),(sq,Au)]
theorem uz:bq P GE:=aH zo (aH Wr (aH Q0 (aH Cn (aH Bb bC))))
theorem aiq {q:Rat} {n:Nat}:bS T GE [6] 60 ET (az ET) ⟨aP 0 [.rat q n],[],0⟩=
  let c1:Nat:=if q.den=1 then 0 else q.den;some (ah.aj [(0:Nat)<1] (ah.fork ((↑(nl c1):Int)==(0:Int)) (ah.aj [(1:Nat)*1<=2^24] (ah.leaf aq.ret [ak 1 1 fun i=>nth [int IntKind.u32 (1:Int)] (int IntKind.u32 (0:Int)) (i+0)])) (ah.aj [(0:Nat)<1] (ah.leaf aq.ret [mag c1])))):=ag
theorem aaj {b:Bool} {N D:Nat}:bS T GE [14,22,27,45,50] 60 CD (az CD) ⟨aP 0 [.bool b,.mag N,.mag D],[],0⟩=
  let c14:Prop:=(0:Int)<=(0:Int);let c13:Nat:=N.gcd D;let c12:Bool:=(↑(nl D):Int)==(1:Int);let c6:Nat:=Int.toNat (0:Int);let c4:Nat:=2^38;let c3:List Prop:=[(0:Nat)<1];let c11:Bool:=(↑(nl c13):Int)!=(1:Int);let c10:ah (List AV):=ah.aj c3 (ah.aj c3 (ah.leaf aq.ret [agg [AV.bool b,mag N,nil]]));let c9:ah (List AV):=ah.aj c3 (ah.aj c3 (ah.leaf aq.ret [agg [AV.bool b,mag N,mag D]]));let c8:Bool:=(↑(nl (D/c13)):Int)==(1:Int);let c7:ah (List AV):=ah.aj c3 (ah.aj c3 (ah.leaf aq.ret [agg [AV.bool b,mag (N/c13),nil]]));let c5:ah (List AV):=ah.aj c3 (ah.aj c3 (ah.leaf aq.ret [agg [AV.bool b,mag (N/c13),mag (D/c13)]]));let c2:ah (List AV):=ah.fork c12 (ah.aj [c12=true,c14/\c6<nl D] (ah.fork (bif true then(↑(aC D c6):Int)==(1:Int)else false) c10 c9)) (ah.aj [c12=false] (ah.fork false c10 c9));let c1:ah (List AV):=ah.aj [nl N<c4,nl c13<c4] (ah.aj [nl D<c4,nl c13<c4] (ah.fork c8 (ah.aj [c8=true,c14/\c6<nl (D/c13)] (ah.fork (bif true then(↑(aC (D/c13) c6):Int)==(1:Int)else false) c7 c5)) (ah.aj [c8=false] (ah.fork false c7 c5))));some (ah.aj [nl N<2^40,nl D<2^40] (ah.fork ((↑(nl N):Int)==(0:Int)) (ah.aj c3 (ah.aj c3 (ah.leaf aq.ret [agg [AV.bool false,mag 0,mag 0]]))) (ah.aj [nl N<c4,nl D<c4] (ah.fork c11 (ah.aj [c11=true] (ah.fork true c1 c2)) (ah.aj [c11=false,c14/\c6<nl c13] (ah.fork (bif false then true else(↑(aC c13 c6):Int)!=(1:Int)) c1 c2)))))):=ag
theorem ajj {n:Int}:bS T GE [5] 60 Dx (az Dx) ⟨aP 0 [.int .i64 n],[],0⟩=
  let c2:Int:=IntKind.u64.wrap n;let c1:Int:=IntKind.u64.wrap (IntKind.u64.wrap (IntKind.i64.wrap ((0:Int)-IntKind.i64.wrap (n+(1:Int))))+(1:Int));some (ah.fork (decide (n<(0:Int))) (ah.aj [(0:Int)<=c1/\c1<(2:Int)^64] (ah.leaf aq.ret [mag c1.toNat,AV.bool true])) (ah.aj [(0:Int)<=c2/\c2<(2:Int)^64] (ah.leaf aq.ret [mag c2.toNat,AV.bool false]))):=ag
theorem aeF {q r:Rat} {n m:Nat}:bS T GE [10,18] 60 A1 (az A1) ⟨aP 0 [.rat q n,.rat r m],[],0⟩=
  let c8:Nat:=if r.den=1 then 0 else r.den;let c7:Nat:=if q.den=1 then 0 else q.den;let c6:Nat:=2^40;let c5:Bool:=bif true then cZ q.num.natAbs r.num.natAbs==(0:Int)else false;let c3:Bool:=decide (q<0)==decide (r<0);let c1:Prop:=0<1;let c4:List Prop:=[c1,c1,nl c7<c6,nl c8<c6];let c2:ah (List AV):=ah.leaf aq.ret [AV.bool (bif true then cZ c7 c8==(0:Int)else false)];some (ah.fork c3 (ah.fork c5 (ah.aj (c1::c1::(c3=true)::c1::c1::(nl q.num.natAbs<c6)::(nl r.num.natAbs<c6)::(c5=true)::c4) c2) (ah.aj [c1,c1,c3=true,c1,c1,nl q.num.natAbs<c6,nl r.num.natAbs<c6,c5=false] (ah.leaf aq.ret [AV.bool false]))) (ah.fork false (ah.aj (c1::c1::(c3=false)::(false=true)::c4) c2) (ah.aj [c1,c1,c3=false,false=false] (ah.leaf aq.ret [AV.bool false])))):=ag
theorem aby {q:Rat} {n:Nat}:bS T GE [6,8] 60 A5 (az A5) ⟨aP 0 [.rat q n],[],0⟩=
  some (ah.aj [(0:Nat)<1] (ah.fork ((↑(nl q.num.natAbs):Int)==(0:Int)) (ah.leaf aq.ret [int IntKind.i64 (0:Int)]) (ah.aj [(0:Nat)<1] (ah.fork (decide (q<0)) (ah.leaf aq.ret [int IntKind.i64 (-1:Int)]) (ah.leaf aq.ret [int IntKind.i64 (1:Int)]))))):=ag
theorem aa1 {q:Rat} {n:Nat}:bS T GE [6] 60 EV (az EV) ⟨aP 0 [.rat q n],[],0⟩=
  let c4:Int:=(↑(nl q.num.natAbs):Int);let c3:Bool:=!decide (q<0);let c2:List AV:=[mag q.num.natAbs,mag (if q.den=1 then 0 else q.den)];let c1:Prop:=0<1;some (ah.fork c3 (ah.aj [c1,c3=true,c1,c1] (ah.aj [c1,c1] (ah.aj [c1] (ah.leaf aq.ret [agg (AV.bool (bif true then decide (c4>(0:Int))else false)::c2)])))) (ah.aj [c1,c3=false,c1] (ah.aj [c1,c1] (ah.aj [c1] (ah.leaf aq.ret [agg (AV.bool false::c2)]))))):=ag
theorem akx {q:Rat} {n:Nat} (K:Nat) (pre:aF):aD P AL K [.rat q n] pre (aK (.mag q.den) []):=by
 refine bY hT uz hm abq rfl aW rfl 60 aiq (fun _=>?_) K pre
 simp only[ah.all,aA,beq_iff_eq,beq_eq_false_iff_ne,ne_eq]
 refine⟨aa,fun hb=>⟨aa,?_⟩,fun hb=>⟨aa,dL ?_⟩⟩
 ·have h0:=q.den_nz
  have:(if q.den=1 then 0 else q.den)=0:=jK.1 aa
  have h1:q.den=1:=by split at this;assumption;exact absurd this h0
  rw[h1]
  exact mu (by decide) fun i hi=>by rw[show i=0 by omega];exact congrArg (AV.int IntKind.u32) (show(1:Int)=((aC 1 0:Nat):Int) by decide)
 ·have:q.den≠1:=fun h=>hb (by rw[if_pos h];rfl)
  rw[if_neg this]
theorem Wu {b:Bool} {N D:Nat} (hN:nl N<2^38) (hD:nl D<2^38) (hD0:D≠0) (K:Nat) (pre:aF):aD P B4 K [.bool b,.mag N,.mag D] pre (aK (.rat (sQ b N D) (cR (sQ b N D))) []):=by
 refine bY hT uz hm Vv rfl aW rfl 60 aaj (fun _=>?_) K pre
 have hz:sQ b N D=0->bF (.agg [.bool false,.mag 0,.mag 0]) (.rat (sQ b N D) (cR (sQ b N D))):=fun h=>by
  rw[h];exact mc
 simp only[ah.all,aA,beq_iff_eq,beq_eq_false_iff_ne,ne_eq,bne_iff_ne,bne_eq_false_iff_eq,Int.toNat_zero]
 refine⟨⟨aa,aa⟩,fun hb=>⟨aa,aa,hz ?_⟩,fun hb=>?_⟩
 ·rw[jK.1 (show nl N=0 by omega),KU]
 have hN0:N≠0:=fun h=>hb (by rw[jK.2 h];rfl)
 have hg:nl (Nat.gcd N D)<2^38:=Nat.lt_of_le_of_lt (iA (Nat.gcd_le_left _ aa)) hN
 have hg0:0<Nat.gcd N D:=Nat.gcd_pos_of_pos_left _ aa
 have hl:∀{Y:Nat},nl Y=1->aC Y 0=Y:=fun {Y} h=>by
  have:=gu (N:=Y)
  rw[h,val,val]at this
  simpa using this
 have h1:∀{X Y:Nat},X=N/Nat.gcd N D->Y=D/Nat.gcd N D->Y≠1->bF (.agg [.bool b,.mag X,.mag Y]) (.rat (sQ b N D) (cR (sQ b N D))):=fun eX eY h=>vY hN0 hD0 eX (by rw[<-eY,if_neg h]) Aq
 have h2:∀{X Y:Nat},X=N/Nat.gcd N D->Y=D/Nat.gcd N D->Y=1->bF (.agg [.bool b,.mag X,.nil]) (.rat (sQ b N D) (cR (sQ b N D))):=fun eX eY h=>Sa.trans (vY hN0 hD0 eX (by rw[<-eY,if_pos h]) Aq)
 have i1:∀{Y:Nat},(nl Y:Int)=1->(bif true then((aC Y 0:Nat):Int)==(1:Int)else false)=true->Y=1:=fun {Y} h hc=>by
  have:=jv hc
  rw[hl aa]at this
  have:=eq_of_beq this
  omega
 have i2:∀{Y:Nat},(nl Y:Int)=1->(bif true then((aC Y 0:Nat):Int)==(1:Int)else false)=false->Y≠1:=fun {Y} h hc h1=>by
  have:=jv hc
  rw[hl aa,h1]at this
  simp at this
 have i3:∀{Y:Nat},¬(nl Y:Int)=1->Y≠1:=fun {Y} h h1=>h (by rw[h1];decide)
 have g1:(nl (Nat.gcd N D):Int)=1->(bif false then true else((aC (Nat.gcd N D) 0:Nat):Int)!=(1:Int))=false->Nat.gcd N D=1:=fun h hc=>by
  have:=iQ hc
  rw[hl aa]at this
  simp at this
  omega
 refine⟨⟨hN,hD⟩,fun hb=>⟨hb,fun _=>⟨⟨hN,hg⟩,⟨hD,hg⟩,?_⟩,fun h=>by simp at h⟩,fun hb=>⟨⟨hb,aa,aa⟩,fun hc=>⟨⟨hN,hg⟩,⟨hD,hg⟩,?_⟩,fun hc=>?_⟩⟩
 ·exact⟨fun hb=>⟨⟨hb,aa,aa⟩,fun hc=>⟨aa,aa,h2 rfl rfl (i1 hb hc)⟩,fun hc=>⟨aa,aa,h1 rfl rfl (i2 hb hc)⟩⟩,fun hb=>⟨hb,fun h=>by simp at h,fun _=>⟨aa,aa,h1 rfl rfl (i3 hb)⟩⟩⟩
 ·exact⟨fun hb=>⟨⟨hb,aa,aa⟩,fun hc=>⟨aa,aa,h2 rfl rfl (i1 hb hc)⟩,fun hc=>⟨aa,aa,h1 rfl rfl (i2 hb hc)⟩⟩,fun hb=>⟨hb,fun h=>by simp at h,fun _=>⟨aa,aa,h1 rfl rfl (i3 hb)⟩⟩⟩
 ·have e:=g1 hb hc
  have eN:N=N/Nat.gcd N D:=by rw[e,Nat.div_one]
  have eD:D=D/Nat.gcd N D:=by rw[e,Nat.div_one]
  exact⟨fun hb=>⟨⟨hb,aa,aa⟩,fun hc=>⟨aa,aa,h2 eN eD (i1 hb hc)⟩,fun hc=>⟨aa,aa,h1 eN eD (i2 hb hc)⟩⟩,fun hb=>⟨hb,fun h=>by simp at h,fun _=>⟨aa,aa,h1 eN eD (i3 hb)⟩⟩⟩
theorem abS {n:Int} (h1:-2^63<=n) (h2:n<2^63) (K:Nat) (pre:aF):aD P A0 K [.int .i64 n] pre (aK (.tuple [.mag n.natAbs,.bool (decide (n<0))]) []):=by
 refine bY hT uz hm Wi rfl aW rfl 60 ajj (fun _=>?_) K pre
 simp only[ah.all,aA,bh,bz]
 refine⟨fun hb=>?_,fun hb=>?_⟩
 ·have e:IntKind.i64.wrap (n+1)=n+1:=wrap_i64 aa aa
  have e1:IntKind.i64.wrap (0-(n+1))=-n-1:=by rw[wrap_i64 aa aa];omega
  have e2:IntKind.u64.wrap (-n-1)=-n-1:=cr aa aa
  have e3:IntKind.u64.wrap (-n-1+1)=((n.natAbs:Nat):Int):=by rw[cr aa aa];omega
  rw[e,e1,e2,e3]
  exact⟨aa,dL (by rw[aZ]),gA (by simp[hb]),trivial⟩
 ·have e3:IntKind.u64.wrap n=((n.natAbs:Nat):Int):=by rw[cr aa aa];omega
  rw[e3]
  exact⟨aa,dL (by rw[aZ]),gA (by simp[hb]),trivial⟩
theorem AZ {a b:Nat}:cZ a b=0↔a=b:=by unfold cZ;split<;>(try split)<;>omega
theorem Mc {q r:Rat} {n m:Nat} (hn:n<2^44) (hm':m<2^44) (K:Nat) (pre:aF):aD P B6 K [.rat q n,.rat r m] pre (aK (.bool (decide (q=r))) []):=by
 refine jL fun⟨hs1,hs2,_⟩=>?_
 obtain⟨a1,a2,a3⟩:=Sz.jX hs1 hn
 obtain⟨b1,b2,b3⟩:=Sz.jX hs2 hm'
 refine bY hT uz hm aiz rfl aW rfl 60 aeF (fun _=>?_) K pre
 simp only[ah.all,aA]
 refine⟨fun hb=>⟨fun hc=>⟨⟨aa,aa,hb,aa,aa,a1,b1,hc,aa,aa,a3,b3⟩,gA ?_⟩,fun hc=>⟨⟨aa,aa,hb,aa,aa,a1,b1,hc⟩,gA ?_⟩⟩,fun hb=>⟨fun h=>by simp at h,fun _=>⟨⟨aa,aa,hb,trivial⟩,gA ?_⟩⟩⟩
 ·have h1:=eq_of_beq hb
  have h2:=AZ.1 (eq_of_beq (jv hc))
  rw[cond_true]
  exact(decide_eq_decide (p:=_=(0:Int)) (q:=q=r)).2 ⟨fun h=>qa.2 ⟨h1,h2,AZ.1 h⟩,fun h=>AZ.2 (qa.1 h).2.2⟩
 ·have h2:=jv hc
  refine(decide_eq_false fun h=>?_).symm
  rw[AZ.2 (qa.1 h).2.1]at h2
  simp at h2
 ·refine(decide_eq_false fun h=>?_).symm
  rw[(qa.1 h).1]at hb
  simp at hb
theorem Je {q:Rat} {n:Nat} (K:Nat) (pre:aF):aD P vI K [.rat q n] pre (aK (.int .i64 (fy q)) []):=by
 refine bY hT uz hm aak rfl aW rfl 60 aby (fun _=>?_) K pre
 simp only[ah.all,aA,beq_iff_eq,beq_eq_false_iff_ne,ne_eq]
 refine⟨aa,fun hb=>bN ?_,fun hb=>⟨aa,fun hc=>bN ?_,fun hc=>bN ?_⟩⟩
 ·have h0:q=0:=oz.1 (jK.1 aa)
  subst h0
  rfl
 ·have:=of_decide_eq_true hc
  unfold fy;rw[if_pos this]
 ·have h1:=of_decide_eq_false hc
  have h0:q≠0:=fun h=>hb (by rw[h];rfl)
  unfold fy;rw[if_neg h1,if_pos (TB h0 h1)]
theorem YR {q:Rat} {n:Nat} (K:Nat) (pre:aF):aD P zk K [.rat q n] pre (aK (.rat (-q) n) []):=by
 refine jL fun⟨hs1,_⟩=>?_
 have hs1:Sz q n:=hs1
 have hs2:=hs1.neg
 have e1:(-q).num.natAbs=q.num.natAbs:=by rw[Rat.neg_num,Int.natAbs_neg]
 have e2:(-q).den=q.den:=Rat.neg_den q
 refine bY hT uz hm Z6 rfl aW rfl 60 aa1 (fun _=>?_) K pre
 simp only[ah.all,aA]
 refine⟨fun hb=>⟨⟨aa,hb,aa,aa⟩,⟨aa,aa⟩,aa,sj hs2 ?_ e1.symm (by rw[e2])⟩,fun hb=>⟨⟨aa,hb,aa⟩,⟨aa,aa⟩,aa,sj hs2 ?_ e1.symm (by rw[e2])⟩⟩
 ·have hq:¬q<0:=by simpa using hb
  rw[cond_true]
  have h1:¬q.num<0:=fun h=>hq (jt.2 h)
  exact((decide_eq_decide (p:=-q<0) (q:=(nl q.num.natAbs:Int)>0)).2 (by
   rw[jt,Rat.neg_num]
   have:=gG (N:=q.num.natAbs)
   omega)).symm
 ·have hq:q<0:=by simpa using hb
  have:=jt.1 hq
  exact(decide_eq_false (p:=-q<0) (by rw[jt,Rat.neg_num];omega)).symm
def AX (g:Rat->Nat->dw):Spec:=bU fun l=>match l with
 |[.rat q n]=>some (g q n)
 |_=>none
theorem JZ {f:FuncId} {g:Rat->Nat->dw} (h:∀{q:Rat} {n:Nat} K,aD P f K [.rat q n] [] (g q n)):∀K args pre r,AX g K args pre=some r->aD P f K args pre r:=by
 refine cB fun K args r hk hs _=>?_
 split at hs
 ·simp only[ax]at hs
  subst hs
  exact h K
 ·simp at hs
def Mq:Spec:=AX fun q _=>aK (.mag q.den) []
theorem agP:∀K args pre r,Mq K args pre=some r->aD P AL K args pre r:=JZ fun K=>akx K []
def MN:Spec:=AX fun q _=>aK (.int .i64 (fy q)) []
theorem Uw:∀K args pre r,MN K args pre=some r->aD P vI K args pre r:=JZ fun K=>Je K []
def HM:Spec:=AX fun q n=>aK (.rat (-q) n) []
theorem Rn:∀K args pre r,HM K args pre=some r->aD P zk K args pre r:=JZ fun K=>YR K []
def MZ:Spec:=bU fun l=>match l with
 |[.int .i64 n]=>some (aK (.tuple [.mag n.natAbs,.bool (decide (n<0))]) [-2^63<=n,n<2^63])
 |_=>none
theorem ajY:∀K args pre r,MZ K args pre=some r->aD P A0 K args pre r:=by
 refine cB fun K args r hk hs _=>?_
 split at hs
 ·simp only[ax]at hs
  subst hs
  exact fun need=>abS need.1 need.2 K [] trivial
 ·simp at hs
def MV:Spec:=bU fun l=>match l with
 |[.bool b,x,y]=>match jr x,jr y with
  |some N,some D=>some (aK (.rat (sQ b N D) (cR (sQ b N D))) [nl N<2^38,nl D<2^38,D≠0])
  |_,_=>none
 |_=>none
theorem ak3:∀K args pre r,MV K args pre=some r->aD P B4 K args pre r:=by
 refine cB fun K args r hk hs _=>?_
 split at hs
 ·split at hs
  ·rename_i N D h1 h2
   simp only[ax]at hs
   subst hs
   exact fun need=>gR (Wu need.1 need.2.1 need.2.2 K []) hk ⟨.refl _,mq h1,mq h2,trivial⟩ [] trivial
  ·simp at hs
 ·simp at hs
end Go.Am.B
