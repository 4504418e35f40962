/- ref02: Den, reduce, size, Make, Frac, Int, Same, Sign, Neg. -/
import Derived.Test.YtgfjdngnneoeoaaGreatB29
set_option linter.unusedVariables false
namespace Go.Am.B
open Go Go.Am.N AV Proofs.Tryz IntKind
theorem Xr:aW 107 f107:=aN func107
theorem OM:aW 105 f105:=aN func105
theorem afK:aW 58 f58:=aN func58
theorem af1:aW 47 f47:=aN func47
theorem VE:aW 143 f143:=aN func143
theorem T1:aW 124 f124:=aN func124
def GE:aU:=[(146,sY),(147,KW),(148,Jo),(108,wk),(100,wC)]
theorem rY:aZ P GE:=aE u5 (aE aer (aE L8 (aE yJ (aE yU bA))))
theorem SK {q:Rat} {n:Nat}:bD T GE [6] 60 f107 (aF f107) ⟨aT 0 [.rat q n],[],0⟩=
  let c1:Nat:=if q.den=1 then 0 else q.den;some (ag.aj [(0:Nat)<1] (ag.fork ((↑(nl c1):Int)==0) (ag.aj [(1:Nat)*1<=2^24] (ag.leaf ak.ret [aq 1 1 fun i=>nth [int .u32 (1:Int)] (int .u32 (0:Int)) (i+0)])) (ag.aj [(0:Nat)<1] (ag.leaf ak.ret [mag c1])))):=ah
theorem ZS {b:Bool} {N D:Nat}:bD T GE [14,22,27,45,50] 60 f105 (aF f105) ⟨aT 0 [.bool b,.mag N,.mag D],[],0⟩=
  let c14:Prop:=(0:Int)<=0;let c13:Nat:=N.gcd D;let c12:Bool:=(↑(nl D):Int)==1;let c6:Nat:=Int.toNat (0:Int);let c4:Nat:=2^38;let c3:List Prop:=[(0:Nat)<1];let c11:Bool:=(↑(nl c13):Int)!=1;let c10:ag (List AV):=ag.aj c3 (ag.aj c3 (ag.leaf ak.ret [agg [AV.bool b,mag N,nil]]));let c9:ag (List AV):=ag.aj c3 (ag.aj c3 (ag.leaf ak.ret [agg [AV.bool b,mag N,mag D]]));let c8:Bool:=(↑(nl (D/c13)):Int)==1;let c7:ag (List AV):=ag.aj c3 (ag.aj c3 (ag.leaf ak.ret [agg [AV.bool b,mag (N/c13),nil]]));let c5:ag (List AV):=ag.aj c3 (ag.aj c3 (ag.leaf ak.ret [agg [AV.bool b,mag (N/c13),mag (D/c13)]]));let c2:ag (List AV):=ag.fork c12 (ag.aj [c12=true,c14/\c6<nl D] (ag.fork (bif true then(↑(aB D c6):Int)==1 else false) c10 c9)) (ag.aj [c12=false] (ag.fork false c10 c9));let c1:ag (List AV):=ag.aj [nl N<c4,nl c13<c4] (ag.aj [nl D<c4,nl c13<c4] (ag.fork c8 (ag.aj [c8=true,c14/\c6<nl (D/c13)] (ag.fork (bif true then(↑(aB (D/c13) c6):Int)==1 else false) c7 c5)) (ag.aj [c8=false] (ag.fork false c7 c5))));some (ag.aj [nl N<2^40,nl D<2^40] (ag.fork ((↑(nl N):Int)==0) (ag.aj c3 (ag.aj c3 (ag.leaf ak.ret [agg [AV.bool false,mag 0,mag 0]]))) (ag.aj [nl N<c4,nl D<c4] (ag.fork c11 (ag.aj [c11=true] (ag.fork true c1 c2)) (ag.aj [c11=false,c14/\c6<nl c13] (ag.fork (bif false then true else(↑(aB c13 c6):Int)!=1) c1 c2)))))):=ah
theorem SF {n:Int}:bD T GE [5] 60 f58 (aF f58) ⟨aT 0 [.int .i64 n],[],0⟩=
  let c2:Int:=u64.wrap n;let c1:Int:=u64.wrap (u64.wrap (i64.wrap ((0:Int)-i64.wrap (n+1)))+1);some (ag.fork (decide (n<0)) (ag.aj [(0:Int)<=c1/\c1<2^64] (ag.leaf ak.ret [mag c1.toNat,AV.bool true])) (ag.aj [(0:Int)<=c2/\c2<2^64] (ag.leaf ak.ret [mag c2.toNat,AV.bool false]))):=ah
theorem Y6 {q r:Rat} {n m:Nat}:bD T GE [10,18] 60 f47 (aF f47) ⟨aT 0 [.rat q n,.rat r m],[],0⟩=
  let c8:Nat:=if r.den=1 then 0 else r.den;let c7:Nat:=if q.den=1 then 0 else q.den;let c6:Nat:=2^40;let c5:Bool:=bif true then cV q.num.natAbs r.num.natAbs==0 else false;let c3:Bool:=decide (q<0)==decide (r<0);let c1:Prop:=0<1;let c4:List Prop:=[c1,c1,nl c7<c6,nl c8<c6];let c2:ag (List AV):=ag.leaf ak.ret [AV.bool (bif true then cV c7 c8==0 else false)];some (ag.fork c3 (ag.fork c5 (ag.aj (c1::c1::(c3=true)::c1::c1::(nl q.num.natAbs<c6)::(nl r.num.natAbs<c6)::(c5=true)::c4) c2) (ag.aj [c1,c1,c3=true,c1,c1,nl q.num.natAbs<c6,nl r.num.natAbs<c6,c5=false] (ag.leaf ak.ret [AV.bool false]))) (ag.fork false (ag.aj (c1::c1::(c3=false)::(false=true)::c4) c2) (ag.aj [c1,c1,c3=false,false=false] (ag.leaf ak.ret [AV.bool false])))):=ah
theorem Vf {q:Rat} {n:Nat}:bD T GE [6,8] 60 f143 (aF f143) ⟨aT 0 [.rat q n],[],0⟩=
  some (ag.aj [(0:Nat)<1] (ag.fork ((↑(nl q.num.natAbs):Int)==0) (ag.leaf ak.ret [int .i64 (0:Int)]) (ag.aj [(0:Nat)<1] (ag.fork (decide (q<0)) (ag.leaf ak.ret [int .i64 (-1:Int)]) (ag.leaf ak.ret [int .i64 (1:Int)]))))):=ah
theorem ZH {q:Rat} {n:Nat}:bD T GE [6] 60 f124 (aF f124) ⟨aT 0 [.rat q n],[],0⟩=
  let c4:Int:=(↑(nl q.num.natAbs):Int);let c3:Bool:=!decide (q<0);let c2:List AV:=[mag q.num.natAbs,mag (if q.den=1 then 0 else q.den)];let c1:Prop:=0<1;some (ag.fork c3 (ag.aj [c1,c3=true,c1,c1] (ag.aj [c1,c1] (ag.aj [c1] (ag.leaf ak.ret [agg (AV.bool (bif true then decide (c4>0)else false)::c2)])))) (ag.aj [c1,c3=false,c1] (ag.aj [c1,c1] (ag.aj [c1] (ag.leaf ak.ret [agg (AV.bool false::c2)]))))):=ah
theorem afI {q:Rat} {n:Nat} (K:Nat) (pre:aD):aO P 107 K [.rat q n] pre (aI (.mag q.den) []):=by
 refine bJ hT rY hm Xr rfl aV rfl 60 SK (fun _=>?_) K pre
 simp only[ag.all,au,beq_iff_eq,beq_eq_false_iff_ne,ne_eq]
 refine⟨aa,fun hb=>⟨aa,?_⟩,fun hb=>⟨aa,dM ?_⟩⟩
 ·have h0:=q.den_nz
  have:(if q.den=1 then 0 else q.den)=0:=jX.1 aa
  have h1:q.den=1:=by split at this;assumption;exact absurd this h0
  rw[h1]
  exact lp (by decide) fun i hi=>by rw[show i=0 by omega];exact congrArg (AV.int .u32) (show(1:Int)=((aB 1 0:Nat):Int) by decide)
 ·have:q.den≠1:=fun h=>hb (by rw[if_pos h];rfl)
  rw[if_neg this]
theorem ZJ {b:Bool} {N D:Nat} (hN:nl N<2^38) (hD:nl D<2^38) (hD0:D≠0) (K:Nat) (pre:aD):aO P 105 K [.bool b,.mag N,.mag D] pre (aI (.rat (sQ b N D) (dj (sQ b N D))) []):=by
 refine bJ hT rY hm OM rfl aV rfl 60 ZS (fun _=>?_) K pre
 have hz:sQ b N D=0->bg (.agg [.bool false,.mag 0,.mag 0]) (.rat (sQ b N D) (dj (sQ b N D))):=fun h=>by
  rw[h];exact mT
 simp only[ag.all,au,beq_iff_eq,beq_eq_false_iff_ne,ne_eq,bne_iff_ne,bne_eq_false_iff_eq,Int.toNat_zero]
 refine⟨⟨aa,aa⟩,fun hb=>⟨aa,aa,hz ?_⟩,fun hb=>?_⟩
 ·rw[jX.1 (show nl N=0 by omega),BS]
 have hN0:N≠0:=fun h=>hb (by rw[jX.2 h];rfl)
 have hg:nl (Nat.gcd N D)<2^38:=Nat.lt_of_le_of_lt (ic (Nat.gcd_le_left _ aa)) hN
 have hg0:0<Nat.gcd N D:=Nat.gcd_pos_of_pos_left _ aa
 have hl:∀{Y:Nat},nl Y=1->aB Y 0=Y:=fun {Y} h=>by
  have:=gp (N:=Y)
  rw[h,val,val]at this
  simpa using this
 have h1:∀{X Y:Nat},X=N/Nat.gcd N D->Y=D/Nat.gcd N D->Y≠1->bg (.agg [.bool b,.mag X,.mag Y]) (.rat (sQ b N D) (dj (sQ b N D))):=fun eX eY h=>rW hN0 hD0 eX (by rw[<-eY,if_neg h]) uY
 have h2:∀{X Y:Nat},X=N/Nat.gcd N D->Y=D/Nat.gcd N D->Y=1->bg (.agg [.bool b,.mag X,.nil]) (.rat (sQ b N D) (dj (sQ b N D))):=fun eX eY h=>Hr.trans (rW hN0 hD0 eX (by rw[<-eY,if_pos h]) uY)
 have i1:∀{Y:Nat},(nl Y:Int)=1->(bif true then((aB Y 0:Nat):Int)==1 else false)=true->Y=1:=fun {Y} h hc=>by
  have:=jt hc
  rw[hl aa]at this
  have:=eq_of_beq this
  omega
 have i2:∀{Y:Nat},(nl Y:Int)=1->(bif true then((aB Y 0:Nat):Int)==1 else false)=false->Y≠1:=fun {Y} h hc h1=>by
  have:=jt hc
  rw[hl aa,h1]at this
  simp at this
 have i3:∀{Y:Nat},¬(nl Y:Int)=1->Y≠1:=fun {Y} h h1=>h (by rw[h1];decide)
 have g1:(nl (Nat.gcd N D):Int)=1->(bif false then true else((aB (Nat.gcd N D) 0:Nat):Int)!=1)=false->Nat.gcd N D=1:=fun h hc=>by
  have:=iD hc
  rw[hl aa]at this
  simp at this
  omega
 refine⟨⟨hN,hD⟩,fun hb=>⟨hb,fun _=>⟨⟨hN,hg⟩,⟨hD,hg⟩,?_⟩,fun h=>by simp at h⟩,fun hb=>⟨⟨hb,aa,aa⟩,fun hc=>⟨⟨hN,hg⟩,⟨hD,hg⟩,?_⟩,fun hc=>?_⟩⟩
 ·exact⟨fun hb=>⟨⟨hb,aa,aa⟩,fun hc=>⟨aa,aa,h2 rfl rfl (i1 hb hc)⟩,fun hc=>⟨aa,aa,h1 rfl rfl (i2 hb hc)⟩⟩,fun hb=>⟨hb,fun h=>by simp at h,fun _=>⟨aa,aa,h1 rfl rfl (i3 hb)⟩⟩⟩
 ·exact⟨fun hb=>⟨⟨hb,aa,aa⟩,fun hc=>⟨aa,aa,h2 rfl rfl (i1 hb hc)⟩,fun hc=>⟨aa,aa,h1 rfl rfl (i2 hb hc)⟩⟩,fun hb=>⟨hb,fun h=>by simp at h,fun _=>⟨aa,aa,h1 rfl rfl (i3 hb)⟩⟩⟩
 ·have e:=g1 hb hc
  have eN:N=N/Nat.gcd N D:=by rw[e,Nat.div_one]
  have eD:D=D/Nat.gcd N D:=by rw[e,Nat.div_one]
  exact⟨fun hb=>⟨⟨hb,aa,aa⟩,fun hc=>⟨aa,aa,h2 eN eD (i1 hb hc)⟩,fun hc=>⟨aa,aa,h1 eN eD (i2 hb hc)⟩⟩,fun hb=>⟨hb,fun h=>by simp at h,fun _=>⟨aa,aa,h1 eN eD (i3 hb)⟩⟩⟩
theorem afU {n:Int} (h1:-2^63<=n) (h2:n<2^63) (K:Nat) (pre:aD):aO P 58 K [.int .i64 n] pre (aI (.tuple [.mag n.natAbs,.bool (decide (n<0))]) []):=by
 refine bJ hT rY hm afK rfl aV rfl 60 SF (fun _=>?_) K pre
 simp only[ag.all,au,bz,bF]
 refine⟨fun hb=>?_,fun hb=>?_⟩
 ·have e:i64.wrap (n+1)=n+1:=wrap_i64 aa aa
  have e1:i64.wrap (0-(n+1))=-n-1:=by rw[wrap_i64 aa aa];omega
  have e2:u64.wrap (-n-1)=-n-1:=ck aa aa
  have e3:u64.wrap (-n-1+1)=((n.natAbs:Nat):Int):=by rw[ck aa aa];omega
  rw[e,e1,e2,e3]
  exact⟨aa,dM (by rw[bw]),gQ (by simp[hb]),trivial⟩
 ·have e3:u64.wrap n=((n.natAbs:Nat):Int):=by rw[ck aa aa];omega
  rw[e3]
  exact⟨aa,dM (by rw[bw]),gQ (by simp[hb]),trivial⟩
theorem Ae {a b:Nat}:cV a b=0↔a=b:=by unfold cV;split<;>(try split)<;>omega
theorem B3 {q r:Rat} {n m:Nat} (hn:n<2^44) (hm':m<2^44) (K:Nat) (pre:aD):aO P 47 K [.rat q n,.rat r m] pre (aI (.bool (decide (q=r))) []):=by
 refine j8 fun⟨hs1,hs2,_⟩=>?_
 obtain⟨a1,a2,a3⟩:=Sz.jV hs1 hn
 obtain⟨b1,b2,b3⟩:=Sz.jV hs2 hm'
 refine bJ hT rY hm af1 rfl aV rfl 60 Y6 (fun _=>?_) K pre
 simp only[ag.all,au]
 refine⟨fun hb=>⟨fun hc=>⟨⟨aa,aa,hb,aa,aa,a1,b1,hc,aa,aa,a3,b3⟩,gQ ?_⟩,fun hc=>⟨⟨aa,aa,hb,aa,aa,a1,b1,hc⟩,gQ ?_⟩⟩,fun hb=>⟨fun h=>by simp at h,fun _=>⟨⟨aa,aa,hb,trivial⟩,gQ ?_⟩⟩⟩
 ·have h1:=eq_of_beq hb
  have h2:=Ae.1 (eq_of_beq (jt hc))
  rw[cond_true]
  exact(decide_eq_decide (p:=_=0) (q:=q=r)).2 ⟨fun h=>oU.2 ⟨h1,h2,Ae.1 h⟩,fun h=>Ae.2 (oU.1 h).2.2⟩
 ·have h2:=jt hc
  refine(decide_eq_false fun h=>?_).symm
  rw[Ae.2 (oU.1 h).2.1]at h2
  simp at h2
 ·refine(decide_eq_false fun h=>?_).symm
  rw[(oU.1 h).1]at hb
  simp at hb
theorem BI {q:Rat} {n:Nat} (K:Nat) (pre:aD):aO P 143 K [.rat q n] pre (aI (.int .i64 (eE q)) []):=by
 refine bJ hT rY hm VE rfl aV rfl 60 Vf (fun _=>?_) K pre
 simp only[ag.all,au,beq_iff_eq,beq_eq_false_iff_ne,ne_eq]
 refine⟨aa,fun hb=>bU ?_,fun hb=>⟨aa,fun hc=>bU ?_,fun hc=>bU ?_⟩⟩
 ·have h0:q=0:=nK.1 (jX.1 aa)
  subst h0
  rfl
 ·have:=of_decide_eq_true hc
  unfold eE;rw[if_pos this]
 ·have h1:=of_decide_eq_false hc
  have h0:q≠0:=fun h=>hb (by rw[h];rfl)
  unfold eE;rw[if_neg h1,if_pos (FY h0 h1)]
theorem adB {q:Rat} {n:Nat} (K:Nat) (pre:aD):aO P 124 K [.rat q n] pre (aI (.rat (-q) n) []):=by
 refine j8 fun⟨hs1,_⟩=>?_
 have hs1:Sz q n:=hs1
 have hs2:=hs1.neg
 have e1:(-q).num.natAbs=q.num.natAbs:=by rw[Rat.neg_num,Int.natAbs_neg]
 have e2:(-q).den=q.den:=Rat.neg_den q
 refine bJ hT rY hm T1 rfl aV rfl 60 ZH (fun _=>?_) K pre
 simp only[ag.all,au]
 refine⟨fun hb=>⟨⟨aa,hb,aa,aa⟩,⟨aa,aa⟩,aa,rz hs2 ?_ e1.symm (by rw[e2])⟩,fun hb=>⟨⟨aa,hb,aa⟩,⟨aa,aa⟩,aa,rz hs2 ?_ e1.symm (by rw[e2])⟩⟩
 ·have hq:¬q<0:=by simpa using hb
  rw[cond_true]
  have h1:¬q.num<0:=fun h=>hq (iZ.2 h)
  exact((decide_eq_decide (p:=-q<0) (q:=(nl q.num.natAbs:Int)>0)).2 (by
   rw[iZ,Rat.neg_num]
   have:=gA (N:=q.num.natAbs)
   omega)).symm
 ·have hq:q<0:=by simpa using hb
  have:=iZ.1 hq
  exact(decide_eq_false (p:=-q<0) (by rw[iZ,Rat.neg_num];omega)).symm
def xV (g:Rat->Nat->dm):Spec:=bY fun l=>match l with
 |[.rat q n]=>some (g q n)
 |_=>none
theorem AX {f:FuncId} {g:Rat->Nat->dm} (h:∀{q:Rat} {n:Nat} K,aO P f K [.rat q n] [] (g q n)):aY P (xV g) f:=by
 refine cJ fun K args r hk hs _=>?_
 split at hs
 ·simp only[ax]at hs
  subst hs
  exact h K
 ·simp at hs
def Lc:Spec:=xV fun q _=>aI (.mag q.den) []
theorem XQ:aY P Lc 107:=AX fun K=>afI K []
def KI:Spec:=xV fun q _=>aI (.int .i64 (eE q)) []
theorem Vj:aY P KI 143:=AX fun K=>BI K []
def Ao:Spec:=xV fun q n=>aI (.rat (-q) n) []
theorem Kw:aY P Ao 124:=AX fun K=>adB K []
def Jz:Spec:=bY fun l=>match l with
 |[.int .i64 n]=>some (aI (.tuple [.mag n.natAbs,.bool (decide (n<0))]) [-2^63<=n,n<2^63])
 |_=>none
theorem RG:aY P Jz 58:=by
 refine cJ fun K args r hk hs _=>?_
 split at hs
 ·simp only[ax]at hs
  subst hs
  exact fun need=>afU need.1 need.2 K [] trivial
 ·simp at hs
def Gk:Spec:=bY fun l=>match l with
 |[.bool b,x,y]=>match jh x,jh y with
  |some N,some D=>some (aI (.rat (sQ b N D) (dj (sQ b N D))) [nl N<2^38,nl D<2^38,D≠0])
  |_,_=>none
 |_=>none
theorem YY:aY P Gk 105:=by
 refine cJ fun K args r hk hs _=>?_
 split at hs
 ·split at hs
  ·rename_i N D h1 h2
   simp only[ax]at hs
   subst hs
   exact fun need=>eW (ZJ need.1 need.2.1 need.2.2 K []) hk ⟨.refl _,kY h1,kY h2,trivial⟩ [] trivial
  ·simp at hs
 ·simp at hs
end Go.Am.B
