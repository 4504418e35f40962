/- ref02: Den, reduce, size, Make, Frac, Int, Same, Sign, Neg. -/
import Derived.Test.YtnniljlepppdpaaGreatB29
set_option linter.unusedVariables false
namespace Go.Am.B
open Go Go.Am.N AV
theorem agQ:aT P BB Hp (ay Hp):=aU Proofs.Tryz.func103 ag ag ag
theorem ah3:aT P E2 GW (ay GW):=aU Proofs.Tryz.func113 ag ag ag
theorem Zd:aT P DW BE (ay BE):=aU Proofs.Tryz.func107 ag ag ag
theorem akC:aT P Fx GY (ay GY):=aU Proofs.Tryz.func121 ag ag ag
theorem anC:aT P u5 D7 (ay D7):=aU Proofs.Tryz.func100 ag ag ag
theorem amx:aT P AK G9 (ay G9):=aU Proofs.Tryz.func109 ag ag ag
def GE:bf:=[(rz,u9),(BG,P8),(zJ,NQ),(tA,A2),(sI,x7)]
theorem uE:bu P GE:=aI yZ (aI aaq (aI Oc (aI Gu (aI DX bz))))
theorem alH {q:Rat} {n:Nat}:bU T GE [6] 60 Hp (ay Hp) ⟨aP 0 [.rat q n],[],0⟩=
  let c1:Nat:=if q.den=1 then 0 else q.den;some (ah.aj [(0:Nat)<1] (ah.fork ((↑(nl c1):Int)==0) (ah.aj [(1:Nat)*1<=2^24] (ah.leaf ax.ret [aq 1 1 fun i=>nth [int .u32 (1:Int)] (int .u32 (0:Int)) (i+0)])) (ah.aj [(0:Nat)<1] (ah.leaf ax.ret [mag c1])))):=ag
theorem X8 {b:Bool} {N D:Nat}:bU T GE [14,22,27,45,50] 60 GW (ay GW) ⟨aP 0 [.bool b,.mag N,.mag D],[],0⟩=
  let c14:Prop:=(0:Int)<=0;let c13:Nat:=N.gcd D;let c12:Bool:=(↑(nl D):Int)==1;let c6:Nat:=Int.toNat (0:Int);let c4:Nat:=2^38;let c3:List Prop:=[(0:Nat)<1];let c11:Bool:=(↑(nl c13):Int)!=1;let c10:ah (List AV):=ah.aj c3 (ah.aj c3 (ah.leaf ax.ret [agg [AV.bool b,mag N,nil]]));let c9:ah (List AV):=ah.aj c3 (ah.aj c3 (ah.leaf ax.ret [agg [AV.bool b,mag N,mag D]]));let c8:Bool:=(↑(nl (D/c13)):Int)==1;let c7:ah (List AV):=ah.aj c3 (ah.aj c3 (ah.leaf ax.ret [agg [AV.bool b,mag (N/c13),nil]]));let c5:ah (List AV):=ah.aj c3 (ah.aj c3 (ah.leaf ax.ret [agg [AV.bool b,mag (N/c13),mag (D/c13)]]));let c2:ah (List AV):=ah.fork c12 (ah.aj [c12=true,c14/\c6<nl D] (ah.fork (bif true then(↑(aF D c6):Int)==1 else false) c10 c9)) (ah.aj [c12=false] (ah.fork false c10 c9));let c1:ah (List AV):=ah.aj [nl N<c4,nl c13<c4] (ah.aj [nl D<c4,nl c13<c4] (ah.fork c8 (ah.aj [c8=true,c14/\c6<nl (D/c13)] (ah.fork (bif true then(↑(aF (D/c13) c6):Int)==1 else false) c7 c5)) (ah.aj [c8=false] (ah.fork false c7 c5))));some (ah.aj [nl N<2^40,nl D<2^40] (ah.fork ((↑(nl N):Int)==0) (ah.aj c3 (ah.aj c3 (ah.leaf ax.ret [agg [AV.bool false,mag 0,mag 0]]))) (ah.aj [nl N<c4,nl D<c4] (ah.fork c11 (ah.aj [c11=true] (ah.fork true c1 c2)) (ah.aj [c11=false,c14/\c6<nl c13] (ah.fork (bif false then true else(↑(aF c13 c6):Int)!=1) c1 c2)))))):=ag
theorem ajW {n:Int}:bU T GE [5] 60 BE (ay BE) ⟨aP 0 [.int .i64 n],[],0⟩=
  let c2:Int:=IntKind.u64.wrap n;let c1:Int:=IntKind.u64.wrap (IntKind.u64.wrap (IntKind.i64.wrap ((0:Int)-IntKind.i64.wrap (n+1)))+1);some (ah.fork (decide (n<0)) (ah.aj [(0:Int)<=c1/\c1<2^64] (ah.leaf ax.ret [mag c1.toNat,AV.bool true])) (ah.aj [(0:Int)<=c2/\c2<2^64] (ah.leaf ax.ret [mag c2.toNat,AV.bool false]))):=ag
theorem ajH {q r:Rat} {n m:Nat}:bU T GE [10,18] 60 GY (ay GY) ⟨aP 0 [.rat q n,.rat r m],[],0⟩=
  let c8:Nat:=if r.den=1 then 0 else r.den;let c7:Nat:=if q.den=1 then 0 else q.den;let c6:Nat:=2^40;let c5:Bool:=bif true then dh q.num.natAbs r.num.natAbs==0 else false;let c3:Bool:=decide (q<0)==decide (r<0);let c1:Prop:=0<1;let c4:List Prop:=[c1,c1,nl c7<c6,nl c8<c6];let c2:ah (List AV):=ah.leaf ax.ret [AV.bool (bif true then dh c7 c8==0 else false)];some (ah.fork c3 (ah.fork c5 (ah.aj (c1::c1::(c3=true)::c1::c1::(nl q.num.natAbs<c6)::(nl r.num.natAbs<c6)::(c5=true)::c4) c2) (ah.aj [c1,c1,c3=true,c1,c1,nl q.num.natAbs<c6,nl r.num.natAbs<c6,c5=false] (ah.leaf ax.ret [AV.bool false]))) (ah.fork false (ah.aj (c1::c1::(c3=false)::(false=true)::c4) c2) (ah.aj [c1,c1,c3=false,false=false] (ah.leaf ax.ret [AV.bool false])))):=ag
theorem anm {q:Rat} {n:Nat}:bU T GE [6,8] 60 D7 (ay D7) ⟨aP 0 [.rat q n],[],0⟩=
  some (ah.aj [(0:Nat)<1] (ah.fork ((↑(nl q.num.natAbs):Int)==0) (ah.leaf ax.ret [int .i64 (0:Int)]) (ah.aj [(0:Nat)<1] (ah.fork (decide (q<0)) (ah.leaf ax.ret [int .i64 (-1:Int)]) (ah.leaf ax.ret [int .i64 (1:Int)]))))):=ag
theorem abU {q:Rat} {n:Nat}:bU T GE [6] 60 G9 (ay G9) ⟨aP 0 [.rat q n],[],0⟩=
  let c4:Int:=(↑(nl q.num.natAbs):Int);let c3:Bool:=!decide (q<0);let c2:List AV:=[mag q.num.natAbs,mag (if q.den=1 then 0 else q.den)];let c1:Prop:=0<1;some (ah.fork c3 (ah.aj [c1,c3=true,c1,c1] (ah.aj [c1,c1] (ah.aj [c1] (ah.leaf ax.ret [agg (AV.bool (bif true then decide (c4>0)else false)::c2)])))) (ah.aj [c1,c3=false,c1] (ah.aj [c1,c1] (ah.aj [c1] (ah.leaf ax.ret [agg (AV.bool false::c2)]))))):=ag
theorem Vh {q:Rat} {n:Nat} (K:Nat) (pre:aE):aQ P BB K [.rat q n] pre (aJ (.mag q.den) []):=by
 refine bZ hT uE hm agQ rfl aX rfl 60 alH (fun _=>?_) K pre
 simp only[ah.all,aA,beq_iff_eq,beq_eq_false_iff_ne,ne_eq]
 refine⟨aa,fun hb=>⟨aa,?_⟩,fun hb=>⟨aa,dO ?_⟩⟩
 ·have h0:=q.den_nz
  have:(if q.den=1 then 0 else q.den)=0:=jX.1 aa
  have h1:q.den=1:=by split at this;assumption;exact absurd this h0
  rw[h1]
  exact me (by decide) fun i hi=>by rw[show i=0 by omega];exact congrArg (AV.int .u32) (show(1:Int)=((aF 1 0:Nat):Int) by decide)
 ·have:q.den≠1:=fun h=>hb (by rw[if_pos h];rfl)
  rw[if_neg this]
theorem Xv {b:Bool} {N D:Nat} (hN:nl N<2^38) (hD:nl D<2^38) (hD0:D≠0) (K:Nat) (pre:aE):aQ P E2 K [.bool b,.mag N,.mag D] pre (aJ (.rat (sQ b N D) (cZ (sQ b N D))) []):=by
 refine bZ hT uE hm ah3 rfl aX rfl 60 X8 (fun _=>?_) K pre
 have hz:sQ b N D=0->bN (.agg [.bool false,.mag 0,.mag 0]) (.rat (sQ b N D) (cZ (sQ b N D))):=fun h=>by
  rw[h];exact kG
 simp only[ah.all,aA,beq_iff_eq,beq_eq_false_iff_ne,ne_eq,bne_iff_ne,bne_eq_false_iff_eq,Int.toNat_zero]
 refine⟨⟨aa,aa⟩,fun hb=>⟨aa,aa,hz ?_⟩,fun hb=>?_⟩
 ·rw[jX.1 (show nl N=0 by omega),JL]
 have hN0:N≠0:=fun h=>hb (by rw[jX.2 h];rfl)
 have hg:nl (Nat.gcd N D)<2^38:=Nat.lt_of_le_of_lt (iH (Nat.gcd_le_left _ aa)) hN
 have hg0:0<Nat.gcd N D:=Nat.gcd_pos_of_pos_left _ aa
 have hl:∀{Y:Nat},nl Y=1->aF Y 0=Y:=fun {Y} h=>by
  have:=gA (N:=Y)
  rw[h,val,val]at this
  simpa using this
 have h1:∀{X Y:Nat},X=N/Nat.gcd N D->Y=D/Nat.gcd N D->Y≠1->bN (.agg [.bool b,.mag X,.mag Y]) (.rat (sQ b N D) (cZ (sQ b N D))):=fun eX eY h=>vg hN0 hD0 eX (by rw[<-eY,if_neg h]) xu
 have h2:∀{X Y:Nat},X=N/Nat.gcd N D->Y=D/Nat.gcd N D->Y=1->bN (.agg [.bool b,.mag X,.nil]) (.rat (sQ b N D) (cZ (sQ b N D))):=fun eX eY h=>RU.trans (vg hN0 hD0 eX (by rw[<-eY,if_pos h]) xu)
 have i1:∀{Y:Nat},(nl Y:Int)=1->(bif true then((aF Y 0:Nat):Int)==1 else false)=true->Y=1:=fun {Y} h hc=>by
  have:=jH hc
  rw[hl aa]at this
  have:=eq_of_beq this
  omega
 have i2:∀{Y:Nat},(nl Y:Int)=1->(bif true then((aF Y 0:Nat):Int)==1 else false)=false->Y≠1:=fun {Y} h hc h1=>by
  have:=jH hc
  rw[hl aa,h1]at this
  simp at this
 have i3:∀{Y:Nat},¬(nl Y:Int)=1->Y≠1:=fun {Y} h h1=>h (by rw[h1];decide)
 have g1:(nl (Nat.gcd N D):Int)=1->(bif false then true else((aF (Nat.gcd N D) 0:Nat):Int)!=1)=false->Nat.gcd N D=1:=fun h hc=>by
  have:=iS hc
  rw[hl aa]at this
  simp at this
  omega
 refine⟨⟨hN,hD⟩,fun hb=>⟨hb,fun _=>⟨⟨hN,hg⟩,⟨hD,hg⟩,?_⟩,fun h=>by simp at h⟩,fun hb=>⟨⟨hb,aa,aa⟩,fun hc=>⟨⟨hN,hg⟩,⟨hD,hg⟩,?_⟩,fun hc=>?_⟩⟩
 ·exact⟨fun hb=>⟨⟨hb,aa,aa⟩,fun hc=>⟨aa,aa,h2 rfl rfl (i1 hb hc)⟩,fun hc=>⟨aa,aa,h1 rfl rfl (i2 hb hc)⟩⟩,fun hb=>⟨hb,fun h=>by simp at h,fun _=>⟨aa,aa,h1 rfl rfl (i3 hb)⟩⟩⟩
 ·exact⟨fun hb=>⟨⟨hb,aa,aa⟩,fun hc=>⟨aa,aa,h2 rfl rfl (i1 hb hc)⟩,fun hc=>⟨aa,aa,h1 rfl rfl (i2 hb hc)⟩⟩,fun hb=>⟨hb,fun h=>by simp at h,fun _=>⟨aa,aa,h1 rfl rfl (i3 hb)⟩⟩⟩
 ·have e:=g1 hb hc
  have eN:N=N/Nat.gcd N D:=by rw[e,Nat.div_one]
  have eD:D=D/Nat.gcd N D:=by rw[e,Nat.div_one]
  exact⟨fun hb=>⟨⟨hb,aa,aa⟩,fun hc=>⟨aa,aa,h2 eN eD (i1 hb hc)⟩,fun hc=>⟨aa,aa,h1 eN eD (i2 hb hc)⟩⟩,fun hb=>⟨hb,fun h=>by simp at h,fun _=>⟨aa,aa,h1 eN eD (i3 hb)⟩⟩⟩
theorem W4 {n:Int} (h1:-2^63<=n) (h2:n<2^63) (K:Nat) (pre:aE):aQ P DW K [.int .i64 n] pre (aJ (.tuple [.mag n.natAbs,.bool (decide (n<0))]) []):=by
 refine bZ hT uE hm Zd rfl aX rfl 60 ajW (fun _=>?_) K pre
 simp only[ah.all,aA,bq,bw]
 refine⟨fun hb=>?_,fun hb=>?_⟩
 ·have e:IntKind.i64.wrap (n+1)=n+1:=wrap_i64 aa aa
  have e1:IntKind.i64.wrap (0-(n+1))=-n-1:=by rw[wrap_i64 aa aa];omega
  have e2:IntKind.u64.wrap (-n-1)=-n-1:=cu aa aa
  have e3:IntKind.u64.wrap (-n-1+1)=((n.natAbs:Nat):Int):=by rw[cu aa aa];omega
  rw[e,e1,e2,e3]
  exact⟨aa,dO (by rw[bn]),gl (by simp[hb]),trivial⟩
 ·have e3:IntKind.u64.wrap n=((n.natAbs:Nat):Int):=by rw[cu aa aa];omega
  rw[e3]
  exact⟨aa,dO (by rw[bn]),gl (by simp[hb]),trivial⟩
theorem Gk {a b:Nat}:dh a b=0↔a=b:=by unfold dh;split<;>(try split)<;>omega
theorem OP {q r:Rat} {n m:Nat} (hn:n<2^44) (hm':m<2^44) (K:Nat) (pre:aE):aQ P Fx K [.rat q n,.rat r m] pre (aJ (.bool (decide (q=r))) []):=by
 refine jV fun⟨hs1,hs2,_⟩=>?_
 obtain⟨a1,a2,a3⟩:=Sz.jR hs1 hn
 obtain⟨b1,b2,b3⟩:=Sz.jR hs2 hm'
 refine bZ hT uE hm akC rfl aX rfl 60 ajH (fun _=>?_) K pre
 simp only[ah.all,aA]
 refine⟨fun hb=>⟨fun hc=>⟨⟨aa,aa,hb,aa,aa,a1,b1,hc,aa,aa,a3,b3⟩,gl ?_⟩,fun hc=>⟨⟨aa,aa,hb,aa,aa,a1,b1,hc⟩,gl ?_⟩⟩,fun hb=>⟨fun h=>by simp at h,fun _=>⟨⟨aa,aa,hb,trivial⟩,gl ?_⟩⟩⟩
 ·have h1:=eq_of_beq hb
  have h2:=Gk.1 (eq_of_beq (jH hc))
  rw[cond_true]
  exact(decide_eq_decide (p:=_=0) (q:=q=r)).2 ⟨fun h=>qY.2 ⟨h1,h2,Gk.1 h⟩,fun h=>Gk.2 (qY.1 h).2.2⟩
 ·have h2:=jH hc
  refine(decide_eq_false fun h=>?_).symm
  rw[Gk.2 (qY.1 h).2.1]at h2
  simp at h2
 ·refine(decide_eq_false fun h=>?_).symm
  rw[(qY.1 h).1]at hb
  simp at hb
theorem Hy {q:Rat} {n:Nat} (K:Nat) (pre:aE):aQ P u5 K [.rat q n] pre (aJ (.int .i64 (fD q)) []):=by
 refine bZ hT uE hm anC rfl aX rfl 60 anm (fun _=>?_) K pre
 simp only[ah.all,aA,beq_iff_eq,beq_eq_false_iff_ne,ne_eq]
 refine⟨aa,fun hb=>bK ?_,fun hb=>⟨aa,fun hc=>bK ?_,fun hc=>bK ?_⟩⟩
 ·have h0:q=0:=oc.1 (jX.1 aa)
  subst h0
  rfl
 ·have:=of_decide_eq_true hc
  unfold fD;rw[if_pos this]
 ·have h1:=of_decide_eq_false hc
  have h0:q≠0:=fun h=>hb (by rw[h];rfl)
  unfold fD;rw[if_neg h1,if_pos (Qo h0 h1)]
theorem aj9 {q:Rat} {n:Nat} (K:Nat) (pre:aE):aQ P AK K [.rat q n] pre (aJ (.rat (-q) n) []):=by
 refine jV fun⟨hs1,_⟩=>?_
 have hs1:Sz q n:=hs1
 have hs2:=hs1.neg
 have e1:(-q).num.natAbs=q.num.natAbs:=by rw[Rat.neg_num,Int.natAbs_neg]
 have e2:(-q).den=q.den:=Rat.neg_den q
 refine bZ hT uE hm amx rfl aX rfl 60 abU (fun _=>?_) K pre
 simp only[ah.all,aA]
 refine⟨fun hb=>⟨⟨aa,hb,aa,aa⟩,⟨aa,aa⟩,aa,tH hs2 ?_ e1.symm (by rw[e2])⟩,fun hb=>⟨⟨aa,hb,aa⟩,⟨aa,aa⟩,aa,tH hs2 ?_ e1.symm (by rw[e2])⟩⟩
 ·have hq:¬q<0:=by simpa using hb
  rw[cond_true]
  have h1:¬q.num<0:=fun h=>hq (js.2 h)
  exact((decide_eq_decide (p:=-q<0) (q:=(nl q.num.natAbs:Int)>0)).2 (by
   rw[js,Rat.neg_num]
   have:=gJ (N:=q.num.natAbs)
   omega)).symm
 ·have hq:q<0:=by simpa using hb
  have:=js.1 hq
  exact(decide_eq_false (p:=-q<0) (by rw[js,Rat.neg_num];omega)).symm
def EM (g:Rat->Nat->dz):Spec:=bY fun l=>match l with
 |[.rat q n]=>some (g q n)
 |_=>none
theorem Jm {f:FuncId} {g:Rat->Nat->dz} (h:∀{q:Rat} {n:Nat} K,aQ P f K [.rat q n] [] (g q n)):aW P (EM g) f:=by
 refine cJ fun K args r hk hs _=>?_
 split at hs
 ·simp only[az]at hs
  subst hs
  exact h K
 ·simp at hs
def QZ:Spec:=EM fun q _=>aJ (.mag q.den) []
theorem amt:aW P QZ BB:=Jm fun K=>Vh K []
def Pp:Spec:=EM fun q _=>aJ (.int .i64 (fD q)) []
theorem anB:aW P Pp u5:=Jm fun K=>Hy K []
def Lq:Spec:=EM fun q n=>aJ (.rat (-q) n) []
theorem Sj:aW P Lq AK:=Jm fun K=>aj9 K []
def MY:Spec:=bY fun l=>match l with
 |[.int .i64 n]=>some (aJ (.tuple [.mag n.natAbs,.bool (decide (n<0))]) [-2^63<=n,n<2^63])
 |_=>none
theorem adE:aW P MY DW:=by
 refine cJ fun K args r hk hs _=>?_
 split at hs
 ·simp only[az]at hs
  subst hs
  exact fun need=>W4 need.1 need.2 K [] trivial
 ·simp at hs
def UI:Spec:=bY fun l=>match l with
 |[.bool b,x,y]=>match jB x,jB y with
  |some N,some D=>some (aJ (.rat (sQ b N D) (cZ (sQ b N D))) [nl N<2^38,nl D<2^38,D≠0])
  |_,_=>none
 |_=>none
theorem Yl:aW P UI E2:=by
 refine cJ fun K args r hk hs _=>?_
 split at hs
 ·split at hs
  ·rename_i N D h1 h2
   simp only[az]at hs
   subst hs
   exact fun need=>gZ (Xv need.1 need.2.1 need.2.2 K []) hk ⟨.refl _,mF h1,mF h2,trivial⟩ [] trivial
  ·simp at hs
 ·simp at hs
end Go.Am.B
