/- ref02: Den, reduce, size, Make, Frac, Int, Same, Sign, Neg. -/
import Derived.Test.YtgfjdngnneoeoaaGreatB29
set_option linter.unusedVariables false
namespace Go.Am.B
open Go Go.Am.N AV Proofs.Tryz IntKind
theorem Xv:aX 107 f107:=aM func107
theorem RL:aX 105 f105:=aM func105
theorem UZ:aX 58 f58:=aM func58
theorem ZL:aX 47 f47:=aM func47
theorem X2:aX 143 f143:=aM func143
theorem abh:aX 124 f124:=aM func124
def GE:aV:=[(146,ua),(147,K9),(148,MW),(108,vf),(100,xm)]
theorem ur:bg P GE:=aE vr (aE adv (aE HK (aE xY (aE Ae bD))))
theorem WA {q:Rat} {n:Nat}:bF T GE [6] 60 f107 (aF f107) ⟨aS 0 [.rat q n],[],0⟩=
  let c1:Nat:=if q.den=1 then 0 else q.den;some (ag.aj [(0:Nat)<1] (ag.fork ((↑(nl c1):Int)==0) (ag.aj [(1:Nat)*1<=2^24] (ag.leaf aq.ret [ak 1 1 fun i=>nth [int .u32 (1:Int)] (int .u32 (0:Int)) (i+0)])) (ag.aj [(0:Nat)<1] (ag.leaf aq.ret [mag c1])))):=ah
theorem UP {b:Bool} {N D:Nat}:bF T GE [14,22,27,45,50] 60 f105 (aF f105) ⟨aS 0 [.bool b,.mag N,.mag D],[],0⟩=
  let c14:Prop:=(0:Int)<=0;let c13:Nat:=N.gcd D;let c12:Bool:=(↑(nl D):Int)==1;let c6:Nat:=Int.toNat (0:Int);let c4:Nat:=2^38;let c3:List Prop:=[(0:Nat)<1];let c11:Bool:=(↑(nl c13):Int)!=1;let c10:ag (List AV):=ag.aj c3 (ag.aj c3 (ag.leaf aq.ret [agg [AV.bool b,mag N,nil]]));let c9:ag (List AV):=ag.aj c3 (ag.aj c3 (ag.leaf aq.ret [agg [AV.bool b,mag N,mag D]]));let c8:Bool:=(↑(nl (D/c13)):Int)==1;let c7:ag (List AV):=ag.aj c3 (ag.aj c3 (ag.leaf aq.ret [agg [AV.bool b,mag (N/c13),nil]]));let c5:ag (List AV):=ag.aj c3 (ag.aj c3 (ag.leaf aq.ret [agg [AV.bool b,mag (N/c13),mag (D/c13)]]));let c2:ag (List AV):=ag.fork c12 (ag.aj [c12=true,c14/\c6<nl D] (ag.fork (bif true then(↑(aB D c6):Int)==1 else false) c10 c9)) (ag.aj [c12=false] (ag.fork false c10 c9));let c1:ag (List AV):=ag.aj [nl N<c4,nl c13<c4] (ag.aj [nl D<c4,nl c13<c4] (ag.fork c8 (ag.aj [c8=true,c14/\c6<nl (D/c13)] (ag.fork (bif true then(↑(aB (D/c13) c6):Int)==1 else false) c7 c5)) (ag.aj [c8=false] (ag.fork false c7 c5))));some (ag.aj [nl N<2^40,nl D<2^40] (ag.fork ((↑(nl N):Int)==0) (ag.aj c3 (ag.aj c3 (ag.leaf aq.ret [agg [AV.bool false,mag 0,mag 0]]))) (ag.aj [nl N<c4,nl D<c4] (ag.fork c11 (ag.aj [c11=true] (ag.fork true c1 c2)) (ag.aj [c11=false,c14/\c6<nl c13] (ag.fork (bif false then true else(↑(aB c13 c6):Int)!=1) c1 c2)))))):=ah
theorem VG {n:Int}:bF T GE [5] 60 f58 (aF f58) ⟨aS 0 [.int .i64 n],[],0⟩=
  let c2:Int:=u64.wrap n;let c1:Int:=u64.wrap (u64.wrap (i64.wrap ((0:Int)-i64.wrap (n+1)))+1);some (ag.fork (decide (n<0)) (ag.aj [(0:Int)<=c1/\c1<2^64] (ag.leaf aq.ret [mag c1.toNat,AV.bool true])) (ag.aj [(0:Int)<=c2/\c2<2^64] (ag.leaf aq.ret [mag c2.toNat,AV.bool false]))):=ah
theorem acd {q r:Rat} {n m:Nat}:bF T GE [10,18] 60 f47 (aF f47) ⟨aS 0 [.rat q n,.rat r m],[],0⟩=
  let c8:Nat:=if r.den=1 then 0 else r.den;let c7:Nat:=if q.den=1 then 0 else q.den;let c6:Nat:=2^40;let c5:Bool:=bif true then cY q.num.natAbs r.num.natAbs==0 else false;let c3:Bool:=decide (q<0)==decide (r<0);let c1:Prop:=0<1;let c4:List Prop:=[c1,c1,nl c7<c6,nl c8<c6];let c2:ag (List AV):=ag.leaf aq.ret [AV.bool (bif true then cY c7 c8==0 else false)];some (ag.fork c3 (ag.fork c5 (ag.aj (c1::c1::(c3=true)::c1::c1::(nl q.num.natAbs<c6)::(nl r.num.natAbs<c6)::(c5=true)::c4) c2) (ag.aj [c1,c1,c3=true,c1,c1,nl q.num.natAbs<c6,nl r.num.natAbs<c6,c5=false] (ag.leaf aq.ret [AV.bool false]))) (ag.fork false (ag.aj (c1::c1::(c3=false)::(false=true)::c4) c2) (ag.aj [c1,c1,c3=false,false=false] (ag.leaf aq.ret [AV.bool false])))):=ah
theorem OK {q:Rat} {n:Nat}:bF T GE [6,8] 60 f143 (aF f143) ⟨aS 0 [.rat q n],[],0⟩=
  some (ag.aj [(0:Nat)<1] (ag.fork ((↑(nl q.num.natAbs):Int)==0) (ag.leaf aq.ret [int .i64 (0:Int)]) (ag.aj [(0:Nat)<1] (ag.fork (decide (q<0)) (ag.leaf aq.ret [int .i64 (-1:Int)]) (ag.leaf aq.ret [int .i64 (1:Int)]))))):=ah
theorem adq {q:Rat} {n:Nat}:bF T GE [6] 60 f124 (aF f124) ⟨aS 0 [.rat q n],[],0⟩=
  let c4:Int:=(↑(nl q.num.natAbs):Int);let c3:Bool:=!decide (q<0);let c2:List AV:=[mag q.num.natAbs,mag (if q.den=1 then 0 else q.den)];let c1:Prop:=0<1;some (ag.fork c3 (ag.aj [c1,c3=true,c1,c1] (ag.aj [c1,c1] (ag.aj [c1] (ag.leaf aq.ret [agg (AV.bool (bif true then decide (c4>0)else false)::c2)])))) (ag.aj [c1,c3=false,c1] (ag.aj [c1,c1] (ag.aj [c1] (ag.leaf aq.ret [agg (AV.bool false::c2)]))))):=ah
theorem acF {q:Rat} {n:Nat} (K:Nat) (pre:aD):aN P 107 K [.rat q n] pre (aH (.mag q.den) []):=by
 refine bM hT ur hm Xv rfl aW rfl 60 WA (fun _=>?_) K pre
 simp only[ag.all,au,beq_iff_eq,beq_eq_false_iff_ne,ne_eq]
 refine⟨aa,fun hb=>⟨aa,?_⟩,fun hb=>⟨aa,dX ?_⟩⟩
 ·have h0:=q.den_nz
  have:(if q.den=1 then 0 else q.den)=0:=j9.1 aa
  have h1:q.den=1:=by split at this;assumption;exact absurd this h0
  rw[h1]
  exact lz (by decide) fun i hi=>by rw[show i=0 by omega];exact congrArg (AV.int .u32) (show(1:Int)=((aB 1 0:Nat):Int) by decide)
 ·have:q.den≠1:=fun h=>hb (by rw[if_pos h];rfl)
  rw[if_neg this]
theorem ahh {b:Bool} {N D:Nat} (hN:nl N<2^38) (hD:nl D<2^38) (hD0:D≠0) (K:Nat) (pre:aD):aN P 105 K [.bool b,.mag N,.mag D] pre (aH (.rat (sQ b N D) (dr (sQ b N D))) []):=by
 refine bM hT ur hm RL rfl aW rfl 60 UP (fun _=>?_) K pre
 have hz:sQ b N D=0->bp (.agg [.bool false,.mag 0,.mag 0]) (.rat (sQ b N D) (dr (sQ b N D))):=fun h=>by
  rw[h];exact k9
 simp only[ag.all,au,beq_iff_eq,beq_eq_false_iff_ne,ne_eq,bne_iff_ne,bne_eq_false_iff_eq,Int.toNat_zero]
 refine⟨⟨aa,aa⟩,fun hb=>⟨aa,aa,hz ?_⟩,fun hb=>?_⟩
 ·rw[j9.1 (show nl N=0 by omega),Et]
 have hN0:N≠0:=fun h=>hb (by rw[j9.2 h];rfl)
 have hg:nl (Nat.gcd N D)<2^38:=Nat.lt_of_le_of_lt (iC (Nat.gcd_le_left _ aa)) hN
 have hg0:0<Nat.gcd N D:=Nat.gcd_pos_of_pos_left _ aa
 have hl:∀{Y:Nat},nl Y=1->aB Y 0=Y:=fun {Y} h=>by
  have:=gq (N:=Y)
  rw[h,val,val]at this
  simpa using this
 have h1:∀{X Y:Nat},X=N/Nat.gcd N D->Y=D/Nat.gcd N D->Y≠1->bp (.agg [.bool b,.mag X,.mag Y]) (.rat (sQ b N D) (dr (sQ b N D))):=fun eX eY h=>ud hN0 hD0 eX (by rw[<-eY,if_neg h]) uU
 have h2:∀{X Y:Nat},X=N/Nat.gcd N D->Y=D/Nat.gcd N D->Y=1->bp (.agg [.bool b,.mag X,.nil]) (.rat (sQ b N D) (dr (sQ b N D))):=fun eX eY h=>Ia.trans (ud hN0 hD0 eX (by rw[<-eY,if_pos h]) uU)
 have i1:∀{Y:Nat},(nl Y:Int)=1->(bif true then((aB Y 0:Nat):Int)==1 else false)=true->Y=1:=fun {Y} h hc=>by
  have:=jC hc
  rw[hl aa]at this
  have:=eq_of_beq this
  omega
 have i2:∀{Y:Nat},(nl Y:Int)=1->(bif true then((aB Y 0:Nat):Int)==1 else false)=false->Y≠1:=fun {Y} h hc h1=>by
  have:=jC hc
  rw[hl aa,h1]at this
  simp at this
 have i3:∀{Y:Nat},¬(nl Y:Int)=1->Y≠1:=fun {Y} h h1=>h (by rw[h1];decide)
 have g1:(nl (Nat.gcd N D):Int)=1->(bif false then true else((aB (Nat.gcd N D) 0:Nat):Int)!=1)=false->Nat.gcd N D=1:=fun h hc=>by
  have:=iM hc
  rw[hl aa]at this
  simp at this
  omega
 refine⟨⟨hN,hD⟩,fun hb=>⟨hb,fun _=>⟨⟨hN,hg⟩,⟨hD,hg⟩,?_⟩,fun h=>by simp at h⟩,fun hb=>⟨⟨hb,aa,aa⟩,fun hc=>⟨⟨hN,hg⟩,⟨hD,hg⟩,?_⟩,fun hc=>?_⟩⟩
 ·exact⟨fun hb=>⟨⟨hb,aa,aa⟩,fun hc=>⟨aa,aa,h2 rfl rfl (i1 hb hc)⟩,fun hc=>⟨aa,aa,h1 rfl rfl (i2 hb hc)⟩⟩,fun hb=>⟨hb,fun h=>by simp at h,fun _=>⟨aa,aa,h1 rfl rfl (i3 hb)⟩⟩⟩
 ·exact⟨fun hb=>⟨⟨hb,aa,aa⟩,fun hc=>⟨aa,aa,h2 rfl rfl (i1 hb hc)⟩,fun hc=>⟨aa,aa,h1 rfl rfl (i2 hb hc)⟩⟩,fun hb=>⟨hb,fun h=>by simp at h,fun _=>⟨aa,aa,h1 rfl rfl (i3 hb)⟩⟩⟩
 ·have e:=g1 hb hc
  have eN:N=N/Nat.gcd N D:=by rw[e,Nat.div_one]
  have eD:D=D/Nat.gcd N D:=by rw[e,Nat.div_one]
  exact⟨fun hb=>⟨⟨hb,aa,aa⟩,fun hc=>⟨aa,aa,h2 eN eD (i1 hb hc)⟩,fun hc=>⟨aa,aa,h1 eN eD (i2 hb hc)⟩⟩,fun hb=>⟨hb,fun h=>by simp at h,fun _=>⟨aa,aa,h1 eN eD (i3 hb)⟩⟩⟩
theorem RZ {n:Int} (h1:-2^63<=n) (h2:n<2^63) (K:Nat) (pre:aD):aN P 58 K [.int .i64 n] pre (aH (.tuple [.mag n.natAbs,.bool (decide (n<0))]) []):=by
 refine bM hT ur hm UZ rfl aW rfl 60 VG (fun _=>?_) K pre
 simp only[ag.all,au,bz,bG]
 refine⟨fun hb=>?_,fun hb=>?_⟩
 ·have e:i64.wrap (n+1)=n+1:=wrap_i64 aa aa
  have e1:i64.wrap (0-(n+1))=-n-1:=by rw[wrap_i64 aa aa];omega
  have e2:u64.wrap (-n-1)=-n-1:=cw aa aa
  have e3:u64.wrap (-n-1+1)=((n.natAbs:Nat):Int):=by rw[cw aa aa];omega
  rw[e,e1,e2,e3]
  exact⟨aa,dX (by rw[br]),gZ (by simp[hb]),trivial⟩
 ·have e3:u64.wrap n=((n.natAbs:Nat):Int):=by rw[cw aa aa];omega
  rw[e3]
  exact⟨aa,dX (by rw[br]),gZ (by simp[hb]),trivial⟩
theorem yF {a b:Nat}:cY a b=0↔a=b:=by unfold cY;split<;>(try split)<;>omega
theorem HP {q r:Rat} {n m:Nat} (hn:n<2^44) (hm':m<2^44) (K:Nat) (pre:aD):aN P 47 K [.rat q n,.rat r m] pre (aH (.bool (decide (q=r))) []):=by
 refine kP fun⟨hs1,hs2,_⟩=>?_
 obtain⟨a1,a2,a3⟩:=Sz.kq hs1 hn
 obtain⟨b1,b2,b3⟩:=Sz.kq hs2 hm'
 refine bM hT ur hm ZL rfl aW rfl 60 acd (fun _=>?_) K pre
 simp only[ag.all,au]
 refine⟨fun hb=>⟨fun hc=>⟨⟨aa,aa,hb,aa,aa,a1,b1,hc,aa,aa,a3,b3⟩,gZ ?_⟩,fun hc=>⟨⟨aa,aa,hb,aa,aa,a1,b1,hc⟩,gZ ?_⟩⟩,fun hb=>⟨fun h=>by simp at h,fun _=>⟨⟨aa,aa,hb,trivial⟩,gZ ?_⟩⟩⟩
 ·have h1:=eq_of_beq hb
  have h2:=yF.1 (eq_of_beq (jC hc))
  rw[cond_true]
  exact(decide_eq_decide (p:=_=0) (q:=q=r)).2 ⟨fun h=>pS.2 ⟨h1,h2,yF.1 h⟩,fun h=>yF.2 (pS.1 h).2.2⟩
 ·have h2:=jC hc
  refine(decide_eq_false fun h=>?_).symm
  rw[yF.2 (pS.1 h).2.1]at h2
  simp at h2
 ·refine(decide_eq_false fun h=>?_).symm
  rw[(pS.1 h).1]at hb
  simp at hb
theorem Bs {q:Rat} {n:Nat} (K:Nat) (pre:aD):aN P 143 K [.rat q n] pre (aH (.int .i64 (eO q)) []):=by
 refine bM hT ur hm X2 rfl aW rfl 60 OK (fun _=>?_) K pre
 simp only[ag.all,au,beq_iff_eq,beq_eq_false_iff_ne,ne_eq]
 refine⟨aa,fun hb=>bW ?_,fun hb=>⟨aa,fun hc=>bW ?_,fun hc=>bW ?_⟩⟩
 ·have h0:q=0:=nT.1 (j9.1 aa)
  subst h0
  rfl
 ·have:=of_decide_eq_true hc
  unfold eO;rw[if_pos this]
 ·have h1:=of_decide_eq_false hc
  have h0:q≠0:=fun h=>hb (by rw[h];rfl)
  unfold eO;rw[if_neg h1,if_pos (Hv h0 h1)]
theorem abP {q:Rat} {n:Nat} (K:Nat) (pre:aD):aN P 124 K [.rat q n] pre (aH (.rat (-q) n) []):=by
 refine kP fun⟨hs1,_⟩=>?_
 have hs1:Sz q n:=hs1
 have hs2:=hs1.neg
 have e1:(-q).num.natAbs=q.num.natAbs:=by rw[Rat.neg_num,Int.natAbs_neg]
 have e2:(-q).den=q.den:=Rat.neg_den q
 refine bM hT ur hm abh rfl aW rfl 60 adq (fun _=>?_) K pre
 simp only[ag.all,au]
 refine⟨fun hb=>⟨⟨aa,hb,aa,aa⟩,⟨aa,aa⟩,aa,sR hs2 ?_ e1.symm (by rw[e2])⟩,fun hb=>⟨⟨aa,hb,aa⟩,⟨aa,aa⟩,aa,sR hs2 ?_ e1.symm (by rw[e2])⟩⟩
 ·have hq:¬q<0:=by simpa using hb
  rw[cond_true]
  have h1:¬q.num<0:=fun h=>hq (jv.2 h)
  exact((decide_eq_decide (p:=-q<0) (q:=(nl q.num.natAbs:Int)>0)).2 (by
   rw[jv,Rat.neg_num]
   have:=gE (N:=q.num.natAbs)
   omega)).symm
 ·have hq:q<0:=by simpa using hb
  have:=jv.1 hq
  exact(decide_eq_false (p:=-q<0) (by rw[jv,Rat.neg_num];omega)).symm
def zA (g:Rat->Nat->dw):Spec:=bX fun l=>match l with
 |[.rat q n]=>some (g q n)
 |_=>none
theorem CS {f:FuncId} {g:Rat->Nat->dw} (h:∀{q:Rat} {n:Nat} K,aN P f K [.rat q n] [] (g q n)):bf P (zA g) f:=by
 refine cM fun K args r hk hs _=>?_
 split at hs
 ·simp only[ax]at hs
  subst hs
  exact h K
 ·simp at hs
def Me:Spec:=zA fun q _=>aH (.mag q.den) []
theorem XN:bf P Me 107:=CS fun K=>acF K []
def MR:Spec:=zA fun q _=>aH (.int .i64 (eO q)) []
theorem Pm:bf P MR 143:=CS fun K=>Bs K []
def Er:Spec:=zA fun q n=>aH (.rat (-q) n) []
theorem Li:bf P Er 124:=CS fun K=>abP K []
def Fv:Spec:=bX fun l=>match l with
 |[.int .i64 n]=>some (aH (.tuple [.mag n.natAbs,.bool (decide (n<0))]) [-2^63<=n,n<2^63])
 |_=>none
theorem YL:bf P Fv 58:=by
 refine cM fun K args r hk hs _=>?_
 split at hs
 ·simp only[ax]at hs
  subst hs
  exact fun need=>RZ need.1 need.2 K [] trivial
 ·simp at hs
def Gs:Spec:=bX fun l=>match l with
 |[.bool b,x,y]=>match jr x,jr y with
  |some N,some D=>some (aH (.rat (sQ b N D) (dr (sQ b N D))) [nl N<2^38,nl D<2^38,D≠0])
  |_,_=>none
 |_=>none
theorem V4:bf P Gs 105:=by
 refine cM fun K args r hk hs _=>?_
 split at hs
 ·split at hs
  ·rename_i N D h1 h2
   simp only[ax]at hs
   subst hs
   exact fun need=>eR (ahh need.1 need.2.1 need.2.2 K []) hk ⟨.refl _,lJ h1,lJ h2,trivial⟩ [] trivial
  ·simp at hs
 ·simp at hs
end Go.Am.B
