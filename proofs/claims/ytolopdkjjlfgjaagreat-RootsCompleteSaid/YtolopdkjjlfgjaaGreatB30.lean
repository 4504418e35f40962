/- ref02: Den, reduce, size, Make, Frac, Int, Same, Sign, Neg. -/
import Derived.Test.YtolopdkjjlfgjaaGreatB29
set_option linter.unusedVariables false
namespace Go.Am.B
open Go Go.Am.N AV Proofs.Tryz IntKind
theorem Vk:bu 86 f86:=bz func86
theorem TQ:bu 145 f145:=bz func145
theorem Qv:bu 82 f82:=bz func82
theorem Wo:bu 26 f26:=bz func26
theorem Ty:bu 24 f24:=bz func24
theorem aeP:bu 52 f52:=bz func52
def GE:bB:=[(140,uS),(173,LQ),(174,LM),(138,vO),(84,wG)]
theorem uM:bT P GE:=aN w8 (aN aeV (aN Ja (aN BE (aN Bv ct))))
theorem ac1 {q:Rat} {n:Nat}:cq T GE [6] 60 f86 (aG f86) ⟨aV 0 [.rat q n],[],0⟩=
  let c1:Nat:=if q.den=1 then 0 else q.den;some (af.aj [(0:Nat)<1] (af.fork ((↑(nl c1):Int)==0) (af.aj [(1:Nat)*1<=2^24] (af.leaf ak.ret [aq 1 1 fun i=>nth [int .u32 (1:Int)] (int .u32 (0:Int)) (i+0)])) (af.aj [(0:Nat)<1] (af.leaf ak.ret [mag c1])))):=ag
theorem U0 {b:Bool} {N D:Nat}:cq T GE [14,22,27,45,50] 60 f145 (aG f145) ⟨aV 0 [.bool b,.mag N,.mag D],[],0⟩=
  let c14:Prop:=(0:Int)<=0;let c13:Nat:=N.gcd D;let c12:Bool:=(↑(nl D):Int)==1;let c6:Nat:=Int.toNat (0:Int);let c4:Nat:=2^38;let c3:List Prop:=[(0:Nat)<1];let c11:Bool:=(↑(nl c13):Int)!=1;let c10:af (List AV):=af.aj c3 (af.aj c3 (af.leaf ak.ret [agg [AV.bool b,mag N,nil]]));let c9:af (List AV):=af.aj c3 (af.aj c3 (af.leaf ak.ret [agg [AV.bool b,mag N,mag D]]));let c8:Bool:=(↑(nl (D/c13)):Int)==1;let c7:af (List AV):=af.aj c3 (af.aj c3 (af.leaf ak.ret [agg [AV.bool b,mag (N/c13),nil]]));let c5:af (List AV):=af.aj c3 (af.aj c3 (af.leaf ak.ret [agg [AV.bool b,mag (N/c13),mag (D/c13)]]));let c2:af (List AV):=af.fork c12 (af.aj [c12=true,c14/\c6<nl D] (af.fork (bif true then(↑(aB D c6):Int)==1 else false) c10 c9)) (af.aj [c12=false] (af.fork false c10 c9));let c1:af (List AV):=af.aj [nl N<c4,nl c13<c4] (af.aj [nl D<c4,nl c13<c4] (af.fork c8 (af.aj [c8=true,c14/\c6<nl (D/c13)] (af.fork (bif true then(↑(aB (D/c13) c6):Int)==1 else false) c7 c5)) (af.aj [c8=false] (af.fork false c7 c5))));some (af.aj [nl N<2^40,nl D<2^40] (af.fork ((↑(nl N):Int)==0) (af.aj c3 (af.aj c3 (af.leaf ak.ret [agg [AV.bool false,mag 0,mag 0]]))) (af.aj [nl N<c4,nl D<c4] (af.fork c11 (af.aj [c11=true] (af.fork true c1 c2)) (af.aj [c11=false,c14/\c6<nl c13] (af.fork (bif false then true else(↑(aB c13 c6):Int)!=1) c1 c2)))))):=ag
theorem XL {n:Int}:cq T GE [5] 60 f82 (aG f82) ⟨aV 0 [.int .i64 n],[],0⟩=
  let c2:Int:=u64.wrap n;let c1:Int:=u64.wrap (u64.wrap (i64.wrap ((0:Int)-i64.wrap (n+1)))+1);some (af.fork (decide (n<0)) (af.aj [(0:Int)<=c1/\c1<2^64] (af.leaf ak.ret [mag c1.toNat,AV.bool true])) (af.aj [(0:Int)<=c2/\c2<2^64] (af.leaf ak.ret [mag c2.toNat,AV.bool false]))):=ag
theorem aeY {q r:Rat} {n m:Nat}:cq T GE [10,18] 60 f26 (aG f26) ⟨aV 0 [.rat q n,.rat r m],[],0⟩=
  let c8:Nat:=if r.den=1 then 0 else r.den;let c7:Nat:=if q.den=1 then 0 else q.den;let c6:Nat:=2^40;let c5:Bool:=bif true then dr q.num.natAbs r.num.natAbs==0 else false;let c3:Bool:=decide (q<0)==decide (r<0);let c1:Prop:=0<1;let c4:List Prop:=[c1,c1,nl c7<c6,nl c8<c6];let c2:af (List AV):=af.leaf ak.ret [AV.bool (bif true then dr c7 c8==0 else false)];some (af.fork c3 (af.fork c5 (af.aj (c1::c1::(c3=true)::c1::c1::(nl q.num.natAbs<c6)::(nl r.num.natAbs<c6)::(c5=true)::c4) c2) (af.aj [c1,c1,c3=true,c1,c1,nl q.num.natAbs<c6,nl r.num.natAbs<c6,c5=false] (af.leaf ak.ret [AV.bool false]))) (af.fork false (af.aj (c1::c1::(c3=false)::(false=true)::c4) c2) (af.aj [c1,c1,c3=false,false=false] (af.leaf ak.ret [AV.bool false])))):=ag
theorem acm {q:Rat} {n:Nat}:cq T GE [6,8] 60 f24 (aG f24) ⟨aV 0 [.rat q n],[],0⟩=
  some (af.aj [(0:Nat)<1] (af.fork ((↑(nl q.num.natAbs):Int)==0) (af.leaf ak.ret [int .i64 (0:Int)]) (af.aj [(0:Nat)<1] (af.fork (decide (q<0)) (af.leaf ak.ret [int .i64 (-1:Int)]) (af.leaf ak.ret [int .i64 (1:Int)]))))):=ag
theorem QA {q:Rat} {n:Nat}:cq T GE [6] 60 f52 (aG f52) ⟨aV 0 [.rat q n],[],0⟩=
  let c4:Int:=(↑(nl q.num.natAbs):Int);let c3:Bool:=!decide (q<0);let c2:List AV:=[mag q.num.natAbs,mag (if q.den=1 then 0 else q.den)];let c1:Prop:=0<1;some (af.fork c3 (af.aj [c1,c3=true,c1,c1] (af.aj [c1,c1] (af.aj [c1] (af.leaf ak.ret [agg (AV.bool (bif true then decide (c4>0)else false)::c2)])))) (af.aj [c1,c3=false,c1] (af.aj [c1,c1] (af.aj [c1] (af.leaf ak.ret [agg (AV.bool false::c2)]))))):=ag
theorem UO {q:Rat} {n:Nat} (K:Nat) (pre:aD):aQ P 86 K [.rat q n] pre (aM (.mag q.den) []):=by
 refine cA hT uM hm Vk rfl bp rfl 60 ac1 (fun _=>?_) K pre
 simp only[af.all,aA,beq_iff_eq,beq_eq_false_iff_ne,ne_eq]
 refine⟨aa,fun hb=>⟨aa,?_⟩,fun hb=>⟨aa,eO ?_⟩⟩
 ·have h0:=q.den_nz
  have:(if q.den=1 then 0 else q.den)=0:=kO.1 aa
  have h1:q.den=1:=by split at this;assumption;exact absurd this h0
  rw[h1]
  exact kK (by decide) fun i hi=>by rw[show i=0 by omega];exact congrArg (AV.int .u32) (show(1:Int)=((aB 1 0:Nat):Int) by decide)
 ·have:q.den≠1:=fun h=>hb (by rw[if_pos h];rfl)
  rw[if_neg this]
theorem ac3 {b:Bool} {N D:Nat} (hN:nl N<2^38) (hD:nl D<2^38) (hD0:D≠0) (K:Nat) (pre:aD):aQ P 145 K [.bool b,.mag N,.mag D] pre (aM (.rat (sQ b N D) (dK (sQ b N D))) []):=by
 refine cA hT uM hm TQ rfl bp rfl 60 U0 (fun _=>?_) K pre
 have hz:sQ b N D=0->bG (.agg [.bool false,.mag 0,.mag 0]) (.rat (sQ b N D) (dK (sQ b N D))):=fun h=>by
  rw[h];exact oH
 simp only[af.all,aA,beq_iff_eq,beq_eq_false_iff_ne,ne_eq,bne_iff_ne,bne_eq_false_iff_eq,Int.toNat_zero]
 refine⟨⟨aa,aa⟩,fun hb=>⟨aa,aa,hz ?_⟩,fun hb=>?_⟩
 ·rw[kO.1 (show nl N=0 by omega),FW]
 have hN0:N≠0:=fun h=>hb (by rw[kO.2 h];rfl)
 have hg:nl (Nat.gcd N D)<2^38:=Nat.lt_of_le_of_lt (iS (Nat.gcd_le_left _ aa)) hN
 have hg0:0<Nat.gcd N D:=Nat.gcd_pos_of_pos_left _ aa
 have hl:∀{Y:Nat},nl Y=1->aB Y 0=Y:=fun {Y} h=>by
  have:=gO (N:=Y)
  rw[h,val,val]at this
  simpa using this
 have h1:∀{X Y:Nat},X=N/Nat.gcd N D->Y=D/Nat.gcd N D->Y≠1->bG (.agg [.bool b,.mag X,.mag Y]) (.rat (sQ b N D) (dK (sQ b N D))):=fun eX eY h=>tT hN0 hD0 eX (by rw[<-eY,if_neg h]) wA
 have h2:∀{X Y:Nat},X=N/Nat.gcd N D->Y=D/Nat.gcd N D->Y=1->bG (.agg [.bool b,.mag X,.nil]) (.rat (sQ b N D) (dK (sQ b N D))):=fun eX eY h=>NG.trans (tT hN0 hD0 eX (by rw[<-eY,if_pos h]) wA)
 have i1:∀{Y:Nat},(nl Y:Int)=1->(bif true then((aB Y 0:Nat):Int)==1 else false)=true->Y=1:=fun {Y} h hc=>by
  have:=jW hc
  rw[hl aa]at this
  have:=eq_of_beq this
  omega
 have i2:∀{Y:Nat},(nl Y:Int)=1->(bif true then((aB Y 0:Nat):Int)==1 else false)=false->Y≠1:=fun {Y} h hc h1=>by
  have:=jW hc
  rw[hl aa,h1]at this
  simp at this
 have i3:∀{Y:Nat},¬(nl Y:Int)=1->Y≠1:=fun {Y} h h1=>h (by rw[h1];decide)
 have g1:(nl (Nat.gcd N D):Int)=1->(bif false then true else((aB (Nat.gcd N D) 0:Nat):Int)!=1)=false->Nat.gcd N D=1:=fun h hc=>by
  have:=jg hc
  rw[hl aa]at this
  simp at this
  omega
 refine⟨⟨hN,hD⟩,fun hb=>⟨hb,fun _=>⟨⟨hN,hg⟩,⟨hD,hg⟩,?_⟩,fun h=>by simp at h⟩,fun hb=>⟨⟨hb,aa,aa⟩,fun hc=>⟨⟨hN,hg⟩,⟨hD,hg⟩,?_⟩,fun hc=>?_⟩⟩
 ·exact⟨fun hb=>⟨⟨hb,aa,aa⟩,fun hc=>⟨aa,aa,h2 rfl rfl (i1 hb hc)⟩,fun hc=>⟨aa,aa,h1 rfl rfl (i2 hb hc)⟩⟩,fun hb=>⟨hb,fun h=>by simp at h,fun _=>⟨aa,aa,h1 rfl rfl (i3 hb)⟩⟩⟩
 ·exact⟨fun hb=>⟨⟨hb,aa,aa⟩,fun hc=>⟨aa,aa,h2 rfl rfl (i1 hb hc)⟩,fun hc=>⟨aa,aa,h1 rfl rfl (i2 hb hc)⟩⟩,fun hb=>⟨hb,fun h=>by simp at h,fun _=>⟨aa,aa,h1 rfl rfl (i3 hb)⟩⟩⟩
 ·have e:=g1 hb hc
  have eN:N=N/Nat.gcd N D:=by rw[e,Nat.div_one]
  have eD:D=D/Nat.gcd N D:=by rw[e,Nat.div_one]
  exact⟨fun hb=>⟨⟨hb,aa,aa⟩,fun hc=>⟨aa,aa,h2 eN eD (i1 hb hc)⟩,fun hc=>⟨aa,aa,h1 eN eD (i2 hb hc)⟩⟩,fun hb=>⟨hb,fun h=>by simp at h,fun _=>⟨aa,aa,h1 eN eD (i3 hb)⟩⟩⟩
theorem aec {n:Int} (h1:-2^63<=n) (h2:n<2^63) (K:Nat) (pre:aD):aQ P 82 K [.int .i64 n] pre (aM (.tuple [.mag n.natAbs,.bool (decide (n<0))]) []):=by
 refine cA hT uM hm Qv rfl bp rfl 60 XL (fun _=>?_) K pre
 simp only[af.all,aA,bK,bO]
 refine⟨fun hb=>?_,fun hb=>?_⟩
 ·have e:i64.wrap (n+1)=n+1:=wrap_i64 aa aa
  have e1:i64.wrap (0-(n+1))=-n-1:=by rw[wrap_i64 aa aa];omega
  have e2:u64.wrap (-n-1)=-n-1:=cy aa aa
  have e3:u64.wrap (-n-1+1)=((n.natAbs:Nat):Int):=by rw[cy aa aa];omega
  rw[e,e1,e2,e3]
  exact⟨aa,eO (by rw[bE]),kI (by simp[hb]),trivial⟩
 ·have e3:u64.wrap n=((n.natAbs:Nat):Int):=by rw[cy aa aa];omega
  rw[e3]
  exact⟨aa,eO (by rw[bE]),kI (by simp[hb]),trivial⟩
theorem Ao {a b:Nat}:dr a b=0↔a=b:=by unfold dr;split<;>(try split)<;>omega
theorem US {q r:Rat} {n m:Nat} (hn:n<2^44) (hm':m<2^44) (K:Nat) (pre:aD):aQ P 26 K [.rat q n,.rat r m] pre (aM (.bool (decide (q=r))) []):=by
 refine lM fun⟨hs1,hs2,_⟩=>?_
 obtain⟨a1,a2,a3⟩:=Sz.kY hs1 hn
 obtain⟨b1,b2,b3⟩:=Sz.kY hs2 hm'
 refine cA hT uM hm Wo rfl bp rfl 60 aeY (fun _=>?_) K pre
 simp only[af.all,aA]
 refine⟨fun hb=>⟨fun hc=>⟨⟨aa,aa,hb,aa,aa,a1,b1,hc,aa,aa,a3,b3⟩,kI ?_⟩,fun hc=>⟨⟨aa,aa,hb,aa,aa,a1,b1,hc⟩,kI ?_⟩⟩,fun hb=>⟨fun h=>by simp at h,fun _=>⟨⟨aa,aa,hb,trivial⟩,kI ?_⟩⟩⟩
 ·have h1:=eq_of_beq hb
  have h2:=Ao.1 (eq_of_beq (jW hc))
  rw[cond_true]
  exact(decide_eq_decide (p:=_=0) (q:=q=r)).2 ⟨fun h=>pK.2 ⟨h1,h2,Ao.1 h⟩,fun h=>Ao.2 (pK.1 h).2.2⟩
 ·have h2:=jW hc
  refine(decide_eq_false fun h=>?_).symm
  rw[Ao.2 (pK.1 h).2.1]at h2
  simp at h2
 ·refine(decide_eq_false fun h=>?_).symm
  rw[(pK.1 h).1]at hb
  simp at hb
theorem Jp {q:Rat} {n:Nat} (K:Nat) (pre:aD):aQ P 24 K [.rat q n] pre (aM (.int .i64 (bC q)) []):=by
 refine cA hT uM hm Ty rfl bp rfl 60 acm (fun _=>?_) K pre
 simp only[af.all,aA,beq_iff_eq,beq_eq_false_iff_ne,ne_eq]
 refine⟨aa,fun hb=>bV ?_,fun hb=>⟨aa,fun hc=>bV ?_,fun hc=>bV ?_⟩⟩
 ·have h0:q=0:=oU.1 (kO.1 aa)
  subst h0
  rfl
 ·have:=of_decide_eq_true hc
  unfold bC;rw[if_pos this]
 ·have h1:=of_decide_eq_false hc
  have h0:q≠0:=fun h=>hb (by rw[h];rfl)
  unfold bC;rw[if_neg h1,if_pos (KV h0 h1)]
theorem aac {q:Rat} {n:Nat} (K:Nat) (pre:aD):aQ P 52 K [.rat q n] pre (aM (.rat (-q) n) []):=by
 refine lM fun⟨hs1,_⟩=>?_
 have hs1:Sz q n:=hs1
 have hs2:=hs1.neg
 have e1:(-q).num.natAbs=q.num.natAbs:=by rw[Rat.neg_num,Int.natAbs_neg]
 have e2:(-q).den=q.den:=Rat.neg_den q
 refine cA hT uM hm aeP rfl bp rfl 60 QA (fun _=>?_) K pre
 simp only[af.all,aA]
 refine⟨fun hb=>⟨⟨aa,hb,aa,aa⟩,⟨aa,aa⟩,aa,rB hs2 ?_ e1.symm (by rw[e2])⟩,fun hb=>⟨⟨aa,hb,aa⟩,⟨aa,aa⟩,aa,rB hs2 ?_ e1.symm (by rw[e2])⟩⟩
 ·have hq:¬q<0:=by simpa using hb
  rw[cond_true]
  have h1:¬q.num<0:=fun h=>hq (jw.2 h)
  exact((decide_eq_decide (p:=-q<0) (q:=(nl q.num.natAbs:Int)>0)).2 (by
   rw[jw,Rat.neg_num]
   have:=gZ (N:=q.num.natAbs)
   omega)).symm
 ·have hq:q<0:=by simpa using hb
  have:=jw.1 hq
  exact(decide_eq_false (p:=-q<0) (by rw[jw,Rat.neg_num];omega)).symm
def zm (g:Rat->Nat->dP):Spec:=b7 fun l=>match l with
 |[.rat q n]=>some (g q n)
 |_=>none
theorem FP {f:FuncId} {g:Rat->Nat->dP} (h:∀{q:Rat} {n:Nat} K,aQ P f K [.rat q n] [] (g q n)):bA P (zm g) f:=by
 refine cP fun K args r hk hs _=>?_
 split at hs
 ·simp only[ax]at hs
  subst hs
  exact h K
 ·simp at hs
def Ov:Spec:=zm fun q _=>aM (.mag q.den) []
theorem aaN:bA P Ov 86:=FP fun K=>UO K []
def Oy:Spec:=zm fun q _=>aM (.int .i64 (bC q)) []
theorem acq:bA P Oy 24:=FP fun K=>Jp K []
def zJ:Spec:=zm fun q n=>aM (.rat (-q) n) []
theorem C1:bA P zJ 52:=FP fun K=>aac K []
def MH:Spec:=b7 fun l=>match l with
 |[.int .i64 n]=>some (aM (.tuple [.mag n.natAbs,.bool (decide (n<0))]) [-2^63<=n,n<2^63])
 |_=>none
theorem WL:bA P MH 82:=by
 refine cP fun K args r hk hs _=>?_
 split at hs
 ·simp only[ax]at hs
  subst hs
  exact fun need=>aec need.1 need.2 K [] trivial
 ·simp at hs
def Ib:Spec:=b7 fun l=>match l with
 |[.bool b,x,y]=>match jD x,jD y with
  |some N,some D=>some (aM (.rat (sQ b N D) (dK (sQ b N D))) [nl N<2^38,nl D<2^38,D≠0])
  |_,_=>none
 |_=>none
theorem aaG:bA P Ib 145:=by
 refine cP fun K args r hk hs _=>?_
 split at hs
 ·split at hs
  ·rename_i N D h1 h2
   simp only[ax]at hs
   subst hs
   exact fun need=>gY (ac3 need.1 need.2.1 need.2.2 K []) hk ⟨.refl _,mB h1,mB h2,trivial⟩ [] trivial
  ·simp at hs
 ·simp at hs
end Go.Am.B
