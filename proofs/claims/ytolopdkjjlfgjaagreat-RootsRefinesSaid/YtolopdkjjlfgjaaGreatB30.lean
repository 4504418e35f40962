/- ref02: Den, reduce, size, Make, Frac, Int, Same, Sign, Neg. -/
import Derived.Test.YtolopdkjjlfgjaaGreatB29
set_option linter.unusedVariables false
namespace Go.Am.B
open Go Go.Am.N AV Proofs.Tryz IntKind
theorem ahq:bf 86 f86:=bg func86
theorem Xo:bf 145 f145:=bg func145
theorem S2:bf 82 f82:=bg func82
theorem Tq:bf 26 f26:=bg func26
theorem Sf:bf 24 f24:=bg func24
theorem aaf:bf 52 f52:=bg func52
def GE:bk:=[(140,vS),(173,Iu),(174,MD),(138,AN),(84,xg)]
theorem uW:bR P GE:=aJ Ai (aJ QU (aJ OI (aJ BG (aJ Cw cz))))
theorem WE {q:Rat} {n:Nat}:b9 T GE [6] 60 f86 (aH f86) ⟨aU 0 [.rat q n],[],0⟩=
  let c1:Nat:=if q.den=1 then 0 else q.den;some (ag.aj [(0:Nat)<1] (ag.fork ((↑(nl c1):Int)==0) (ag.aj [(1:Nat)*1<=2^24] (ag.leaf aq.ret [ak 1 1 fun i=>nth [int .u32 (1:Int)] (int .u32 (0:Int)) (i+0)])) (ag.aj [(0:Nat)<1] (ag.leaf aq.ret [mag c1])))):=ah
theorem XN {b:Bool} {N D:Nat}:b9 T GE [14,22,27,45,50] 60 f145 (aH f145) ⟨aU 0 [.bool b,.mag N,.mag D],[],0⟩=
  let c14:Prop:=(0:Int)<=0;let c13:Nat:=N.gcd D;let c12:Bool:=(↑(nl D):Int)==1;let c6:Nat:=Int.toNat (0:Int);let c4:Nat:=2^38;let c3:List Prop:=[(0:Nat)<1];let c11:Bool:=(↑(nl c13):Int)!=1;let c10:ag (List AV):=ag.aj c3 (ag.aj c3 (ag.leaf aq.ret [agg [AV.bool b,mag N,nil]]));let c9:ag (List AV):=ag.aj c3 (ag.aj c3 (ag.leaf aq.ret [agg [AV.bool b,mag N,mag D]]));let c8:Bool:=(↑(nl (D/c13)):Int)==1;let c7:ag (List AV):=ag.aj c3 (ag.aj c3 (ag.leaf aq.ret [agg [AV.bool b,mag (N/c13),nil]]));let c5:ag (List AV):=ag.aj c3 (ag.aj c3 (ag.leaf aq.ret [agg [AV.bool b,mag (N/c13),mag (D/c13)]]));let c2:ag (List AV):=ag.fork c12 (ag.aj [c12=true,c14/\c6<nl D] (ag.fork (bif true then(↑(aD D c6):Int)==1 else false) c10 c9)) (ag.aj [c12=false] (ag.fork false c10 c9));let c1:ag (List AV):=ag.aj [nl N<c4,nl c13<c4] (ag.aj [nl D<c4,nl c13<c4] (ag.fork c8 (ag.aj [c8=true,c14/\c6<nl (D/c13)] (ag.fork (bif true then(↑(aD (D/c13) c6):Int)==1 else false) c7 c5)) (ag.aj [c8=false] (ag.fork false c7 c5))));some (ag.aj [nl N<2^40,nl D<2^40] (ag.fork ((↑(nl N):Int)==0) (ag.aj c3 (ag.aj c3 (ag.leaf aq.ret [agg [AV.bool false,mag 0,mag 0]]))) (ag.aj [nl N<c4,nl D<c4] (ag.fork c11 (ag.aj [c11=true] (ag.fork true c1 c2)) (ag.aj [c11=false,c14/\c6<nl c13] (ag.fork (bif false then true else(↑(aD c13 c6):Int)!=1) c1 c2)))))):=ah
theorem SH {n:Int}:b9 T GE [5] 60 f82 (aH f82) ⟨aU 0 [.int .i64 n],[],0⟩=
  let c2:Int:=u64.wrap n;let c1:Int:=u64.wrap (u64.wrap (i64.wrap ((0:Int)-i64.wrap (n+1)))+1);some (ag.fork (decide (n<0)) (ag.aj [(0:Int)<=c1/\c1<2^64] (ag.leaf aq.ret [mag c1.toNat,AV.bool true])) (ag.aj [(0:Int)<=c2/\c2<2^64] (ag.leaf aq.ret [mag c2.toNat,AV.bool false]))):=ah
theorem aha {q r:Rat} {n m:Nat}:b9 T GE [10,18] 60 f26 (aH f26) ⟨aU 0 [.rat q n,.rat r m],[],0⟩=
  let c8:Nat:=if r.den=1 then 0 else r.den;let c7:Nat:=if q.den=1 then 0 else q.den;let c6:Nat:=2^40;let c5:Bool:=bif true then dO q.num.natAbs r.num.natAbs==0 else false;let c3:Bool:=decide (q<0)==decide (r<0);let c1:Prop:=0<1;let c4:List Prop:=[c1,c1,nl c7<c6,nl c8<c6];let c2:ag (List AV):=ag.leaf aq.ret [AV.bool (bif true then dO c7 c8==0 else false)];some (ag.fork c3 (ag.fork c5 (ag.aj (c1::c1::(c3=true)::c1::c1::(nl q.num.natAbs<c6)::(nl r.num.natAbs<c6)::(c5=true)::c4) c2) (ag.aj [c1,c1,c3=true,c1,c1,nl q.num.natAbs<c6,nl r.num.natAbs<c6,c5=false] (ag.leaf aq.ret [AV.bool false]))) (ag.fork false (ag.aj (c1::c1::(c3=false)::(false=true)::c4) c2) (ag.aj [c1,c1,c3=false,false=false] (ag.leaf aq.ret [AV.bool false])))):=ah
theorem Za {q:Rat} {n:Nat}:b9 T GE [6,8] 60 f24 (aH f24) ⟨aU 0 [.rat q n],[],0⟩=
  some (ag.aj [(0:Nat)<1] (ag.fork ((↑(nl q.num.natAbs):Int)==0) (ag.leaf aq.ret [int .i64 (0:Int)]) (ag.aj [(0:Nat)<1] (ag.fork (decide (q<0)) (ag.leaf aq.ret [int .i64 (-1:Int)]) (ag.leaf aq.ret [int .i64 (1:Int)]))))):=ah
theorem ahr {q:Rat} {n:Nat}:b9 T GE [6] 60 f52 (aH f52) ⟨aU 0 [.rat q n],[],0⟩=
  let c4:Int:=(↑(nl q.num.natAbs):Int);let c3:Bool:=!decide (q<0);let c2:List AV:=[mag q.num.natAbs,mag (if q.den=1 then 0 else q.den)];let c1:Prop:=0<1;some (ag.fork c3 (ag.aj [c1,c3=true,c1,c1] (ag.aj [c1,c1] (ag.aj [c1] (ag.leaf aq.ret [agg (AV.bool (bif true then decide (c4>0)else false)::c2)])))) (ag.aj [c1,c3=false,c1] (ag.aj [c1,c1] (ag.aj [c1] (ag.leaf aq.ret [agg (AV.bool false::c2)]))))):=ah
theorem Vi {q:Rat} {n:Nat} (K:Nat) (pre:aE):aQ P 86 K [.rat q n] pre (aL (.mag q.den) []):=by
 refine ck hT uW hm ahq rfl aX rfl 60 WE (fun _=>?_) K pre
 simp only[ag.all,az,beq_iff_eq,beq_eq_false_iff_ne,ne_eq]
 refine⟨aa,fun hb=>⟨aa,?_⟩,fun hb=>⟨aa,fk ?_⟩⟩
 ·have h0:=q.den_nz
  have:(if q.den=1 then 0 else q.den)=0:=jY.1 aa
  have h1:q.den=1:=by split at this;assumption;exact absurd this h0
  rw[h1]
  exact lT (by decide) fun i hi=>by rw[show i=0 by omega];exact congrArg (AV.int .u32) (show(1:Int)=((aD 1 0:Nat):Int) by decide)
 ·have:q.den≠1:=fun h=>hb (by rw[if_pos h];rfl)
  rw[if_neg this]
theorem Yc {b:Bool} {N D:Nat} (hN:nl N<2^38) (hD:nl D<2^38) (hD0:D≠0) (K:Nat) (pre:aE):aQ P 145 K [.bool b,.mag N,.mag D] pre (aL (.rat (sQ b N D) (ef (sQ b N D))) []):=by
 refine ck hT uW hm Xo rfl aX rfl 60 XN (fun _=>?_) K pre
 have hz:sQ b N D=0->aW (.agg [.bool false,.mag 0,.mag 0]) (.rat (sQ b N D) (ef (sQ b N D))):=fun h=>by
  rw[h];exact pO
 simp only[ag.all,az,beq_iff_eq,beq_eq_false_iff_ne,ne_eq,bne_iff_ne,bne_eq_false_iff_eq,Int.toNat_zero]
 refine⟨⟨aa,aa⟩,fun hb=>⟨aa,aa,hz ?_⟩,fun hb=>?_⟩
 ·rw[jY.1 (show nl N=0 by omega),IB]
 have hN0:N≠0:=fun h=>hb (by rw[jY.2 h];rfl)
 have hg:nl (Nat.gcd N D)<2^38:=Nat.lt_of_le_of_lt (iW (Nat.gcd_le_left _ aa)) hN
 have hg0:0<Nat.gcd N D:=Nat.gcd_pos_of_pos_left _ aa
 have hl:∀{Y:Nat},nl Y=1->aD Y 0=Y:=fun {Y} h=>by
  have:=iB (N:=Y)
  rw[h,val,val]at this
  simpa using this
 have h1:∀{X Y:Nat},X=N/Nat.gcd N D->Y=D/Nat.gcd N D->Y≠1->aW (.agg [.bool b,.mag X,.mag Y]) (.rat (sQ b N D) (ef (sQ b N D))):=fun eX eY h=>wN hN0 hD0 eX (by rw[<-eY,if_neg h]) xd
 have h2:∀{X Y:Nat},X=N/Nat.gcd N D->Y=D/Nat.gcd N D->Y=1->aW (.agg [.bool b,.mag X,.nil]) (.rat (sQ b N D) (ef (sQ b N D))):=fun eX eY h=>Nw.trans (wN hN0 hD0 eX (by rw[<-eY,if_pos h]) xd)
 have i1:∀{Y:Nat},(nl Y:Int)=1->(bif true then((aD Y 0:Nat):Int)==1 else false)=true->Y=1:=fun {Y} h hc=>by
  have:=kE hc
  rw[hl aa]at this
  have:=eq_of_beq this
  omega
 have i2:∀{Y:Nat},(nl Y:Int)=1->(bif true then((aD Y 0:Nat):Int)==1 else false)=false->Y≠1:=fun {Y} h hc h1=>by
  have:=kE hc
  rw[hl aa,h1]at this
  simp at this
 have i3:∀{Y:Nat},¬(nl Y:Int)=1->Y≠1:=fun {Y} h h1=>h (by rw[h1];decide)
 have g1:(nl (Nat.gcd N D):Int)=1->(bif false then true else((aD (Nat.gcd N D) 0:Nat):Int)!=1)=false->Nat.gcd N D=1:=fun h hc=>by
  have:=jt hc
  rw[hl aa]at this
  simp at this
  omega
 refine⟨⟨hN,hD⟩,fun hb=>⟨hb,fun _=>⟨⟨hN,hg⟩,⟨hD,hg⟩,?_⟩,fun h=>by simp at h⟩,fun hb=>⟨⟨hb,aa,aa⟩,fun hc=>⟨⟨hN,hg⟩,⟨hD,hg⟩,?_⟩,fun hc=>?_⟩⟩
 ·exact⟨fun hb=>⟨⟨hb,aa,aa⟩,fun hc=>⟨aa,aa,h2 rfl rfl (i1 hb hc)⟩,fun hc=>⟨aa,aa,h1 rfl rfl (i2 hb hc)⟩⟩,fun hb=>⟨hb,fun h=>by simp at h,fun _=>⟨aa,aa,h1 rfl rfl (i3 hb)⟩⟩⟩
 ·exact⟨fun hb=>⟨⟨hb,aa,aa⟩,fun hc=>⟨aa,aa,h2 rfl rfl (i1 hb hc)⟩,fun hc=>⟨aa,aa,h1 rfl rfl (i2 hb hc)⟩⟩,fun hb=>⟨hb,fun h=>by simp at h,fun _=>⟨aa,aa,h1 rfl rfl (i3 hb)⟩⟩⟩
 ·have e:=g1 hb hc
  have eN:N=N/Nat.gcd N D:=by rw[e,Nat.div_one]
  have eD:D=D/Nat.gcd N D:=by rw[e,Nat.div_one]
  exact⟨fun hb=>⟨⟨hb,aa,aa⟩,fun hc=>⟨aa,aa,h2 eN eD (i1 hb hc)⟩,fun hc=>⟨aa,aa,h1 eN eD (i2 hb hc)⟩⟩,fun hb=>⟨hb,fun h=>by simp at h,fun _=>⟨aa,aa,h1 eN eD (i3 hb)⟩⟩⟩
theorem U2 {n:Int} (h1:-2^63<=n) (h2:n<2^63) (K:Nat) (pre:aE):aQ P 82 K [.int .i64 n] pre (aL (.tuple [.mag n.natAbs,.bool (decide (n<0))]) []):=by
 refine ck hT uW hm S2 rfl aX rfl 60 SH (fun _=>?_) K pre
 simp only[ag.all,az,bB,bD]
 refine⟨fun hb=>?_,fun hb=>?_⟩
 ·have e:i64.wrap (n+1)=n+1:=wrap_i64 aa aa
  have e1:i64.wrap (0-(n+1))=-n-1:=by rw[wrap_i64 aa aa];omega
  have e2:u64.wrap (-n-1)=-n-1:=cK aa aa
  have e3:u64.wrap (-n-1+1)=((n.natAbs:Nat):Int):=by rw[cK aa aa];omega
  rw[e,e1,e2,e3]
  exact⟨aa,fk (by rw[bJ]),gG (by simp[hb]),trivial⟩
 ·have e3:u64.wrap n=((n.natAbs:Nat):Int):=by rw[cK aa aa];omega
  rw[e3]
  exact⟨aa,fk (by rw[bJ]),gG (by simp[hb]),trivial⟩
theorem Co {a b:Nat}:dO a b=0↔a=b:=by unfold dO;split<;>(try split)<;>omega
theorem aeu {q r:Rat} {n m:Nat} (hn:n<2^44) (hm':m<2^44) (K:Nat) (pre:aE):aQ P 26 K [.rat q n,.rat r m] pre (aL (.bool (decide (q=r))) []):=by
 refine kS fun⟨hs1,hs2,_⟩=>?_
 obtain⟨a1,a2,a3⟩:=Sz.kU hs1 hn
 obtain⟨b1,b2,b3⟩:=Sz.kU hs2 hm'
 refine ck hT uW hm Tq rfl aX rfl 60 aha (fun _=>?_) K pre
 simp only[ag.all,az]
 refine⟨fun hb=>⟨fun hc=>⟨⟨aa,aa,hb,aa,aa,a1,b1,hc,aa,aa,a3,b3⟩,gG ?_⟩,fun hc=>⟨⟨aa,aa,hb,aa,aa,a1,b1,hc⟩,gG ?_⟩⟩,fun hb=>⟨fun h=>by simp at h,fun _=>⟨⟨aa,aa,hb,trivial⟩,gG ?_⟩⟩⟩
 ·have h1:=eq_of_beq hb
  have h2:=Co.1 (eq_of_beq (kE hc))
  rw[cond_true]
  exact(decide_eq_decide (p:=_=0) (q:=q=r)).2 ⟨fun h=>qU.2 ⟨h1,h2,Co.1 h⟩,fun h=>Co.2 (qU.1 h).2.2⟩
 ·have h2:=kE hc
  refine(decide_eq_false fun h=>?_).symm
  rw[Co.2 (qU.1 h).2.1]at h2
  simp at h2
 ·refine(decide_eq_false fun h=>?_).symm
  rw[(qU.1 h).1]at hb
  simp at hb
theorem Ql {q:Rat} {n:Nat} (K:Nat) (pre:aE):aQ P 24 K [.rat q n] pre (aL (.int .i64 (bL q)) []):=by
 refine ck hT uW hm Sf rfl aX rfl 60 Za (fun _=>?_) K pre
 simp only[ag.all,az,beq_iff_eq,beq_eq_false_iff_ne,ne_eq]
 refine⟨aa,fun hb=>cw ?_,fun hb=>⟨aa,fun hc=>cw ?_,fun hc=>cw ?_⟩⟩
 ·have h0:q=0:=oE.1 (jY.1 aa)
  subst h0
  rfl
 ·have:=of_decide_eq_true hc
  unfold bL;rw[if_pos this]
 ·have h1:=of_decide_eq_false hc
  have h0:q≠0:=fun h=>hb (by rw[h];rfl)
  unfold bL;rw[if_neg h1,if_pos (K0 h0 h1)]
theorem aej {q:Rat} {n:Nat} (K:Nat) (pre:aE):aQ P 52 K [.rat q n] pre (aL (.rat (-q) n) []):=by
 refine kS fun⟨hs1,_⟩=>?_
 have hs1:Sz q n:=hs1
 have hs2:=hs1.neg
 have e1:(-q).num.natAbs=q.num.natAbs:=by rw[Rat.neg_num,Int.natAbs_neg]
 have e2:(-q).den=q.den:=Rat.neg_den q
 refine ck hT uW hm aaf rfl aX rfl 60 ahr (fun _=>?_) K pre
 simp only[ag.all,az]
 refine⟨fun hb=>⟨⟨aa,hb,aa,aa⟩,⟨aa,aa⟩,aa,ug hs2 ?_ e1.symm (by rw[e2])⟩,fun hb=>⟨⟨aa,hb,aa⟩,⟨aa,aa⟩,aa,ug hs2 ?_ e1.symm (by rw[e2])⟩⟩
 ·have hq:¬q<0:=by simpa using hb
  rw[cond_true]
  have h1:¬q.num<0:=fun h=>hq (jK.2 h)
  exact((decide_eq_decide (p:=-q<0) (q:=(nl q.num.natAbs:Int)>0)).2 (by
   rw[jK,Rat.neg_num]
   have:=iF (N:=q.num.natAbs)
   omega)).symm
 ·have hq:q<0:=by simpa using hb
  have:=jK.1 hq
  exact(decide_eq_false (p:=-q<0) (by rw[jK,Rat.neg_num];omega)).symm
def CR (g:Rat->Nat->ep):Spec:=cu fun l=>match l with
 |[.rat q n]=>some (g q n)
 |_=>none
theorem FU {f:FuncId} {g:Rat->Nat->ep} (h:∀{q:Rat} {n:Nat} K,aQ P f K [.rat q n] [] (g q n)):aY P (CR g) f:=by
 refine cW fun K args r hk hs _=>?_
 split at hs
 ·simp only[ay]at hs
  subst hs
  exact h K
 ·simp at hs
def Ea:Spec:=CR fun q _=>aL (.mag q.den) []
theorem MB:aY P Ea 86:=FU fun K=>Vi K []
def Mi:Spec:=CR fun q _=>aL (.int .i64 (bL q)) []
theorem Xn:aY P Mi 24:=FU fun K=>Ql K []
def zF:Spec:=CR fun q n=>aL (.rat (-q) n) []
theorem C6:aY P zF 52:=FU fun K=>aej K []
def PF:Spec:=cu fun l=>match l with
 |[.int .i64 n]=>some (aL (.tuple [.mag n.natAbs,.bool (decide (n<0))]) [-2^63<=n,n<2^63])
 |_=>none
theorem adh:aY P PF 82:=by
 refine cW fun K args r hk hs _=>?_
 split at hs
 ·simp only[ay]at hs
  subst hs
  exact fun need=>U2 need.1 need.2 K [] trivial
 ·simp at hs
def OP:Spec:=cu fun l=>match l with
 |[.bool b,x,y]=>match jJ x,jJ y with
  |some N,some D=>some (aL (.rat (sQ b N D) (ef (sQ b N D))) [nl N<2^38,nl D<2^38,D≠0])
  |_,_=>none
 |_=>none
theorem RN:aY P OP 145:=by
 refine cW fun K args r hk hs _=>?_
 split at hs
 ·split at hs
  ·rename_i N D h1 h2
   simp only[ay]at hs
   subst hs
   exact fun need=>gW (Yc need.1 need.2.1 need.2.2 K []) hk ⟨.refl _,mY h1,mY h2,trivial⟩ [] trivial
  ·simp at hs
 ·simp at hs
end Go.Am.B
