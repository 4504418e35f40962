/- ref02: Den, reduce, size, Make, Frac, Int, Same, Sign, Neg. -/
import Derived.Test.YtnniljlepppdpaaGreatB29
set_option linter.unusedVariables false
namespace Go.Am.B
open Go Go.Am.N AV
theorem T0:aU P En B8 (az B8):=aT Proofs.Tryz.func103 ah ah ah
theorem ag5:aU P Et CV (az CV):=aT Proofs.Tryz.func113 ah ah ah
theorem ZN:aU P CX Az (az Az):=aT Proofs.Tryz.func107 ah ah ah
theorem ag0:aU P BH D5 (az D5):=aT Proofs.Tryz.func121 ah ah ah
theorem aiS:aU P tv Ak (az Ak):=aT Proofs.Tryz.func100 ah ah ah
theorem Sg:aU P xL Bz (az Bz):=aT Proofs.Tryz.func109 ah ah ah
def GE:aV:=[(oW,tU),(BZ,Ol),(zh,QE),(qC,wj),(rz,xB)]
theorem s6:bn P GE:=aI wG (aI aa4 (aI Qz (aI zS (aI BI bE))))
theorem Sm {q:Rat} {n:Nat}:bP T GE [6] 60 B8 (az B8) ⟨aQ 0 [.rat q n],[],0⟩=
  let c1:Nat:=if q.den=1 then 0 else q.den;some (ag.aj [(0:Nat)<1] (ag.fork ((↑(nl c1):Int)==(0:Int)) (ag.aj [(1:Nat)*1<=2^24] (ag.leaf ak.ret [aq 1 1 fun i=>nth [int IntKind.u32 (1:Int)] (int IntKind.u32 (0:Int)) (i+0)])) (ag.aj [(0:Nat)<1] (ag.leaf ak.ret [mag c1])))):=ah
theorem abv {b:Bool} {N D:Nat}:bP T GE [14,22,27,45,50] 60 CV (az CV) ⟨aQ 0 [.bool b,.mag N,.mag D],[],0⟩=
  let c14:Prop:=(0:Int)<=(0:Int);let c13:Nat:=N.gcd D;let c12:Bool:=(↑(nl D):Int)==(1:Int);let c6:Nat:=Int.toNat (0:Int);let c4:Nat:=2^38;let c3:List Prop:=[(0:Nat)<1];let c11:Bool:=(↑(nl c13):Int)!=(1:Int);let c10:ag (List AV):=ag.aj c3 (ag.aj c3 (ag.leaf ak.ret [agg [AV.bool b,mag N,nil]]));let c9:ag (List AV):=ag.aj c3 (ag.aj c3 (ag.leaf ak.ret [agg [AV.bool b,mag N,mag D]]));let c8:Bool:=(↑(nl (D/c13)):Int)==(1:Int);let c7:ag (List AV):=ag.aj c3 (ag.aj c3 (ag.leaf ak.ret [agg [AV.bool b,mag (N/c13),nil]]));let c5:ag (List AV):=ag.aj c3 (ag.aj c3 (ag.leaf ak.ret [agg [AV.bool b,mag (N/c13),mag (D/c13)]]));let c2:ag (List AV):=ag.fork c12 (ag.aj [c12=true,c14/\c6<nl D] (ag.fork (bif true then(↑(aC D c6):Int)==(1:Int)else false) c10 c9)) (ag.aj [c12=false] (ag.fork false c10 c9));let c1:ag (List AV):=ag.aj [nl N<c4,nl c13<c4] (ag.aj [nl D<c4,nl c13<c4] (ag.fork c8 (ag.aj [c8=true,c14/\c6<nl (D/c13)] (ag.fork (bif true then(↑(aC (D/c13) c6):Int)==(1:Int)else false) c7 c5)) (ag.aj [c8=false] (ag.fork false c7 c5))));some (ag.aj [nl N<2^40,nl D<2^40] (ag.fork ((↑(nl N):Int)==(0:Int)) (ag.aj c3 (ag.aj c3 (ag.leaf ak.ret [agg [AV.bool false,mag 0,mag 0]]))) (ag.aj [nl N<c4,nl D<c4] (ag.fork c11 (ag.aj [c11=true] (ag.fork true c1 c2)) (ag.aj [c11=false,c14/\c6<nl c13] (ag.fork (bif false then true else(↑(aC c13 c6):Int)!=(1:Int)) c1 c2)))))):=ah
theorem aiC {n:Int}:bP T GE [5] 60 Az (az Az) ⟨aQ 0 [.int .i64 n],[],0⟩=
  let c2:Int:=IntKind.u64.wrap n;let c1:Int:=IntKind.u64.wrap (IntKind.u64.wrap (IntKind.i64.wrap ((0:Int)-IntKind.i64.wrap (n+(1:Int))))+(1:Int));some (ag.fork (decide (n<(0:Int))) (ag.aj [(0:Int)<=c1/\c1<(2:Int)^64] (ag.leaf ak.ret [mag c1.toNat,AV.bool true])) (ag.aj [(0:Int)<=c2/\c2<(2:Int)^64] (ag.leaf ak.ret [mag c2.toNat,AV.bool false]))):=ah
theorem adB {q r:Rat} {n m:Nat}:bP T GE [10,18] 60 D5 (az D5) ⟨aQ 0 [.rat q n,.rat r m],[],0⟩=
  let c8:Nat:=if r.den=1 then 0 else r.den;let c7:Nat:=if q.den=1 then 0 else q.den;let c6:Nat:=2^40;let c5:Bool:=bif true then cO q.num.natAbs r.num.natAbs==(0:Int)else false;let c3:Bool:=decide (q<0)==decide (r<0);let c1:Prop:=0<1;let c4:List Prop:=[c1,c1,nl c7<c6,nl c8<c6];let c2:ag (List AV):=ag.leaf ak.ret [AV.bool (bif true then cO c7 c8==(0:Int)else false)];some (ag.fork c3 (ag.fork c5 (ag.aj (c1::c1::(c3=true)::c1::c1::(nl q.num.natAbs<c6)::(nl r.num.natAbs<c6)::(c5=true)::c4) c2) (ag.aj [c1,c1,c3=true,c1,c1,nl q.num.natAbs<c6,nl r.num.natAbs<c6,c5=false] (ag.leaf ak.ret [AV.bool false]))) (ag.fork false (ag.aj (c1::c1::(c3=false)::(false=true)::c4) c2) (ag.aj [c1,c1,c3=false,false=false] (ag.leaf ak.ret [AV.bool false])))):=ah
theorem Vm {q:Rat} {n:Nat}:bP T GE [6,8] 60 Ak (az Ak) ⟨aQ 0 [.rat q n],[],0⟩=
  some (ag.aj [(0:Nat)<1] (ag.fork ((↑(nl q.num.natAbs):Int)==(0:Int)) (ag.leaf ak.ret [int IntKind.i64 (0:Int)]) (ag.aj [(0:Nat)<1] (ag.fork (decide (q<0)) (ag.leaf ak.ret [int IntKind.i64 (-1:Int)]) (ag.leaf ak.ret [int IntKind.i64 (1:Int)]))))):=ah
theorem aim {q:Rat} {n:Nat}:bP T GE [6] 60 Bz (az Bz) ⟨aQ 0 [.rat q n],[],0⟩=
  let c4:Int:=(↑(nl q.num.natAbs):Int);let c3:Bool:=!decide (q<0);let c2:List AV:=[mag q.num.natAbs,mag (if q.den=1 then 0 else q.den)];let c1:Prop:=0<1;some (ag.fork c3 (ag.aj [c1,c3=true,c1,c1] (ag.aj [c1,c1] (ag.aj [c1] (ag.leaf ak.ret [agg (AV.bool (bif true then decide (c4>(0:Int))else false)::c2)])))) (ag.aj [c1,c3=false,c1] (ag.aj [c1,c1] (ag.aj [c1] (ag.leaf ak.ret [agg (AV.bool false::c2)]))))):=ah
theorem ab2 {q:Rat} {n:Nat} (K:Nat) (pre:aE):aD P En K [.rat q n] pre (aL (.mag q.den) []):=by
 refine bW hT s6 hm T0 rfl aW rfl 60 Sm (fun _=>?_) K pre
 simp only[ag.all,aA,beq_iff_eq,beq_eq_false_iff_ne,ne_eq]
 refine⟨aa,fun hb=>⟨aa,?_⟩,fun hb=>⟨aa,dD ?_⟩⟩
 ·have h0:=q.den_nz
  have:(if q.den=1 then 0 else q.den)=0:=ja.1 aa
  have h1:q.den=1:=by split at this;assumption;exact absurd this h0
  rw[h1]
  exact lD (by decide) fun i hi=>by rw[show i=0 by omega];exact congrArg (AV.int IntKind.u32) (show(1:Int)=((aC 1 0:Nat):Int) by decide)
 ·have:q.den≠1:=fun h=>hb (by rw[if_pos h];rfl)
  rw[if_neg this]
theorem Tp {b:Bool} {N D:Nat} (hN:nl N<2^38) (hD:nl D<2^38) (hD0:D≠0) (K:Nat) (pre:aE):aD P Et K [.bool b,.mag N,.mag D] pre (aL (.rat (sQ b N D) (cK (sQ b N D))) []):=by
 refine bW hT s6 hm ag5 rfl aW rfl 60 abv (fun _=>?_) K pre
 have hz:sQ b N D=0->bD (.agg [.bool false,.mag 0,.mag 0]) (.rat (sQ b N D) (cK (sQ b N D))):=fun h=>by
  rw[h];exact nh
 simp only[ag.all,aA,beq_iff_eq,beq_eq_false_iff_ne,ne_eq,bne_iff_ne,bne_eq_false_iff_eq,Int.toNat_zero]
 refine⟨⟨aa,aa⟩,fun hb=>⟨aa,aa,hz ?_⟩,fun hb=>?_⟩
 ·rw[ja.1 (show nl N=0 by omega),Fy]
 have hN0:N≠0:=fun h=>hb (by rw[ja.2 h];rfl)
 have hg:nl (Nat.gcd N D)<2^38:=Nat.lt_of_le_of_lt (gJ (Nat.gcd_le_left _ aa)) hN
 have hg0:0<Nat.gcd N D:=Nat.gcd_pos_of_pos_left _ aa
 have hl:∀{Y:Nat},nl Y=1->aC Y 0=Y:=fun {Y} h=>by
  have:=fS (N:=Y)
  rw[h,val,val]at this
  simpa using this
 have h1:∀{X Y:Nat},X=N/Nat.gcd N D->Y=D/Nat.gcd N D->Y≠1->bD (.agg [.bool b,.mag X,.mag Y]) (.rat (sQ b N D) (cK (sQ b N D))):=fun eX eY h=>tM hN0 hD0 eX (by rw[<-eY,if_neg h]) yM
 have h2:∀{X Y:Nat},X=N/Nat.gcd N D->Y=D/Nat.gcd N D->Y=1->bD (.agg [.bool b,.mag X,.nil]) (.rat (sQ b N D) (cK (sQ b N D))):=fun eX eY h=>LP.trans (tM hN0 hD0 eX (by rw[<-eY,if_pos h]) yM)
 have i1:∀{Y:Nat},(nl Y:Int)=1->(bif true then((aC Y 0:Nat):Int)==(1:Int)else false)=true->Y=1:=fun {Y} h hc=>by
  have:=jq hc
  rw[hl aa]at this
  have:=eq_of_beq this
  omega
 have i2:∀{Y:Nat},(nl Y:Int)=1->(bif true then((aC Y 0:Nat):Int)==(1:Int)else false)=false->Y≠1:=fun {Y} h hc h1=>by
  have:=jq hc
  rw[hl aa,h1]at this
  simp at this
 have i3:∀{Y:Nat},¬(nl Y:Int)=1->Y≠1:=fun {Y} h h1=>h (by rw[h1];decide)
 have g1:(nl (Nat.gcd N D):Int)=1->(bif false then true else((aC (Nat.gcd N D) 0:Nat):Int)!=(1:Int))=false->Nat.gcd N D=1:=fun h hc=>by
  have:=gZ hc
  rw[hl aa]at this
  simp at this
  omega
 refine⟨⟨hN,hD⟩,fun hb=>⟨hb,fun _=>⟨⟨hN,hg⟩,⟨hD,hg⟩,?_⟩,fun h=>by simp at h⟩,fun hb=>⟨⟨hb,aa,aa⟩,fun hc=>⟨⟨hN,hg⟩,⟨hD,hg⟩,?_⟩,fun hc=>?_⟩⟩
 ·exact⟨fun hb=>⟨⟨hb,aa,aa⟩,fun hc=>⟨aa,aa,h2 rfl rfl (i1 hb hc)⟩,fun hc=>⟨aa,aa,h1 rfl rfl (i2 hb hc)⟩⟩,fun hb=>⟨hb,fun h=>by simp at h,fun _=>⟨aa,aa,h1 rfl rfl (i3 hb)⟩⟩⟩
 ·exact⟨fun hb=>⟨⟨hb,aa,aa⟩,fun hc=>⟨aa,aa,h2 rfl rfl (i1 hb hc)⟩,fun hc=>⟨aa,aa,h1 rfl rfl (i2 hb hc)⟩⟩,fun hb=>⟨hb,fun h=>by simp at h,fun _=>⟨aa,aa,h1 rfl rfl (i3 hb)⟩⟩⟩
 ·have e:=g1 hb hc
  have eN:N=N/Nat.gcd N D:=by rw[e,Nat.div_one]
  have eD:D=D/Nat.gcd N D:=by rw[e,Nat.div_one]
  exact⟨fun hb=>⟨⟨hb,aa,aa⟩,fun hc=>⟨aa,aa,h2 eN eD (i1 hb hc)⟩,fun hc=>⟨aa,aa,h1 eN eD (i2 hb hc)⟩⟩,fun hb=>⟨hb,fun h=>by simp at h,fun _=>⟨aa,aa,h1 eN eD (i3 hb)⟩⟩⟩
theorem ahD {n:Int} (h1:-2^63<=n) (h2:n<2^63) (K:Nat) (pre:aE):aD P CX K [.int .i64 n] pre (aL (.tuple [.mag n.natAbs,.bool (decide (n<0))]) []):=by
 refine bW hT s6 hm ZN rfl aW rfl 60 aiC (fun _=>?_) K pre
 simp only[ag.all,aA,bf,bt]
 refine⟨fun hb=>?_,fun hb=>?_⟩
 ·have e:IntKind.i64.wrap (n+1)=n+1:=wrap_i64 aa aa
  have e1:IntKind.i64.wrap (0-(n+1))=-n-1:=by rw[wrap_i64 aa aa];omega
  have e2:IntKind.u64.wrap (-n-1)=-n-1:=bZ aa aa
  have e3:IntKind.u64.wrap (-n-1+1)=((n.natAbs:Nat):Int):=by rw[bZ aa aa];omega
  rw[e,e1,e2,e3]
  exact⟨aa,dD (by rw[aX]),fR (by simp[hb]),trivial⟩
 ·have e3:IntKind.u64.wrap n=((n.natAbs:Nat):Int):=by rw[bZ aa aa];omega
  rw[e3]
  exact⟨aa,dD (by rw[aX]),fR (by simp[hb]),trivial⟩
theorem Aq {a b:Nat}:cO a b=0↔a=b:=by unfold cO;split<;>(try split)<;>omega
theorem O0 {q r:Rat} {n m:Nat} (hn:n<2^44) (hm':m<2^44) (K:Nat) (pre:aE):aD P BH K [.rat q n,.rat r m] pre (aL (.bool (decide (q=r))) []):=by
 refine jw fun⟨hs1,hs2,_⟩=>?_
 obtain⟨a1,a2,a3⟩:=Sz.jk hs1 hn
 obtain⟨b1,b2,b3⟩:=Sz.jk hs2 hm'
 refine bW hT s6 hm ag0 rfl aW rfl 60 adB (fun _=>?_) K pre
 simp only[ag.all,aA]
 refine⟨fun hb=>⟨fun hc=>⟨⟨aa,aa,hb,aa,aa,a1,b1,hc,aa,aa,a3,b3⟩,fR ?_⟩,fun hc=>⟨⟨aa,aa,hb,aa,aa,a1,b1,hc⟩,fR ?_⟩⟩,fun hb=>⟨fun h=>by simp at h,fun _=>⟨⟨aa,aa,hb,trivial⟩,fR ?_⟩⟩⟩
 ·have h1:=eq_of_beq hb
  have h2:=Aq.1 (eq_of_beq (jq hc))
  rw[cond_true]
  exact(decide_eq_decide (p:=_=(0:Int)) (q:=q=r)).2 ⟨fun h=>qk.2 ⟨h1,h2,Aq.1 h⟩,fun h=>Aq.2 (qk.1 h).2.2⟩
 ·have h2:=jq hc
  refine(decide_eq_false fun h=>?_).symm
  rw[Aq.2 (qk.1 h).2.1]at h2
  simp at h2
 ·refine(decide_eq_false fun h=>?_).symm
  rw[(qk.1 h).1]at hb
  simp at hb
theorem HW {q:Rat} {n:Nat} (K:Nat) (pre:aE):aD P tv K [.rat q n] pre (aL (.int .i64 (eP q)) []):=by
 refine bW hT s6 hm aiS rfl aW rfl 60 Vm (fun _=>?_) K pre
 simp only[ag.all,aA,beq_iff_eq,beq_eq_false_iff_ne,ne_eq]
 refine⟨aa,fun hb=>bJ ?_,fun hb=>⟨aa,fun hc=>bJ ?_,fun hc=>bJ ?_⟩⟩
 ·have h0:q=0:=oL.1 (ja.1 aa)
  subst h0
  rfl
 ·have:=of_decide_eq_true hc
  unfold eP;rw[if_pos this]
 ·have h1:=of_decide_eq_false hc
  have h0:q≠0:=fun h=>hb (by rw[h];rfl)
  unfold eP;rw[if_neg h1,if_pos (PX h0 h1)]
theorem XI {q:Rat} {n:Nat} (K:Nat) (pre:aE):aD P xL K [.rat q n] pre (aL (.rat (-q) n) []):=by
 refine jw fun⟨hs1,_⟩=>?_
 have hs1:Sz q n:=hs1
 have hs2:=hs1.neg
 have e1:(-q).num.natAbs=q.num.natAbs:=by rw[Rat.neg_num,Int.natAbs_neg]
 have e2:(-q).den=q.den:=Rat.neg_den q
 refine bW hT s6 hm Sg rfl aW rfl 60 aim (fun _=>?_) K pre
 simp only[ag.all,aA]
 refine⟨fun hb=>⟨⟨aa,hb,aa,aa⟩,⟨aa,aa⟩,aa,rE hs2 ?_ e1.symm (by rw[e2])⟩,fun hb=>⟨⟨aa,hb,aa⟩,⟨aa,aa⟩,aa,rE hs2 ?_ e1.symm (by rw[e2])⟩⟩
 ·have hq:¬q<0:=by simpa using hb
  rw[cond_true]
  have h1:¬q.num<0:=fun h=>hq (iN.2 h)
  exact((decide_eq_decide (p:=-q<0) (q:=(nl q.num.natAbs:Int)>0)).2 (by
   rw[iN,Rat.neg_num]
   have:=gd (N:=q.num.natAbs)
   omega)).symm
 ·have hq:q<0:=by simpa using hb
  have:=iN.1 hq
  exact(decide_eq_false (p:=-q<0) (by rw[iN,Rat.neg_num];omega)).symm
def C1 (g:Rat->Nat->cZ):Spec:=bM fun l=>match l with
 |[.rat q n]=>some (g q n)
 |_=>none
theorem Hh {f:FuncId} {g:Rat->Nat->cZ} (h:∀{q:Rat} {n:Nat} K,aD P f K [.rat q n] [] (g q n)):∀K args pre r,C1 g K args pre=some r->aD P f K args pre r:=by
 refine ct fun K args r hk hs _=>?_
 split at hs
 ·simp only[au]at hs
  subst hs
  exact h K
 ·simp at hs
def Jl:Spec:=C1 fun q _=>aL (.mag q.den) []
theorem aeM:∀K args pre r,Jl K args pre=some r->aD P En K args pre r:=Hh fun K=>ab2 K []
def Q9:Spec:=C1 fun q _=>aL (.int .i64 (eP q)) []
theorem Uj:∀K args pre r,Q9 K args pre=some r->aD P tv K args pre r:=Hh fun K=>HW K []
def FM:Spec:=C1 fun q n=>aL (.rat (-q) n) []
theorem OS:∀K args pre r,FM K args pre=some r->aD P xL K args pre r:=Hh fun K=>XI K []
def KE:Spec:=bM fun l=>match l with
 |[.int .i64 n]=>some (aL (.tuple [.mag n.natAbs,.bool (decide (n<0))]) [-2^63<=n,n<2^63])
 |_=>none
theorem Yo:∀K args pre r,KE K args pre=some r->aD P CX K args pre r:=by
 refine ct fun K args r hk hs _=>?_
 split at hs
 ·simp only[au]at hs
  subst hs
  exact fun need=>ahD need.1 need.2 K [] trivial
 ·simp at hs
def Qe:Spec:=bM fun l=>match l with
 |[.bool b,x,y]=>match iV x,iV y with
  |some N,some D=>some (aL (.rat (sQ b N D) (cK (sQ b N D))) [nl N<2^38,nl D<2^38,D≠0])
  |_,_=>none
 |_=>none
theorem TN:∀K args pre r,Qe K args pre=some r->aD P Et K args pre r:=by
 refine ct fun K args r hk hs _=>?_
 split at hs
 ·split at hs
  ·rename_i N D h1 h2
   simp only[au]at hs
   subst hs
   exact fun need=>gv (Tp need.1 need.2.1 need.2.2 K []) hk ⟨.refl _,lQ h1,lQ h2,trivial⟩ [] trivial
  ·simp at hs
 ·simp at hs
end Go.Am.B
