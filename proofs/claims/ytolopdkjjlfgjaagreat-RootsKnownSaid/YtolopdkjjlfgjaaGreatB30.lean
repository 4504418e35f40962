/- ref02: Den, reduce, size, Make, Frac, Int, Same, Sign, Neg. -/
import Derived.Test.YtolopdkjjlfgjaaGreatB29
set_option linter.unusedVariables false
namespace Go.Am.B
open Go Go.Am.N AV Proofs.Tryz IntKind
theorem VJ:bC 86 f86:=bD func86
theorem Q5:bC 145 f145:=bD func145
theorem afP:bC 82 f82:=bD func82
theorem ae9:bC 26 f26:=bD func26
theorem aeL:bC 24 f24:=bD func24
theorem SG:bC 52 f52:=bD func52
def GE:bG:=[(140,wo),(173,Mx),(174,OP),(138,wI),(84,xK)]
theorem wh:cm P GE:=aM xZ (aM afO (aM IG (aM Bq (aM Bo cK))))
theorem adp {q:Rat} {n:Nat}:cy T GE [6] 60 f86 (aJ f86) ⟨bf 0 [.rat q n],[],0⟩=
  let c1:Nat:=if q.den=1 then 0 else q.den;some (af.aj [(0:Nat)<1] (af.fork ((↑(nl c1):Int)==0) (af.aj [(1:Nat)*1<=2^24] (af.leaf au.ret [az 1 1 fun i=>nth [int .u32 (1:Int)] (int .u32 (0:Int)) (i+0)])) (af.aj [(0:Nat)<1] (af.leaf au.ret [mag c1])))):=ah
theorem Vd {b:Bool} {N D:Nat}:cy T GE [14,22,27,45,50] 60 f145 (aJ f145) ⟨bf 0 [.bool b,.mag N,.mag D],[],0⟩=
  let c14:Prop:=(0:Int)<=0;let c13:Nat:=N.gcd D;let c12:Bool:=(↑(nl D):Int)==1;let c6:Nat:=Int.toNat (0:Int);let c4:Nat:=2^38;let c3:List Prop:=[(0:Nat)<1];let c11:Bool:=(↑(nl c13):Int)!=1;let c10:af (List AV):=af.aj c3 (af.aj c3 (af.leaf au.ret [agg [AV.bool b,mag N,nil]]));let c9:af (List AV):=af.aj c3 (af.aj c3 (af.leaf au.ret [agg [AV.bool b,mag N,mag D]]));let c8:Bool:=(↑(nl (D/c13)):Int)==1;let c7:af (List AV):=af.aj c3 (af.aj c3 (af.leaf au.ret [agg [AV.bool b,mag (N/c13),nil]]));let c5:af (List AV):=af.aj c3 (af.aj c3 (af.leaf au.ret [agg [AV.bool b,mag (N/c13),mag (D/c13)]]));let c2:af (List AV):=af.fork c12 (af.aj [c12=true,c14/\c6<nl D] (af.fork (bif true then(↑(aE D c6):Int)==1 else false) c10 c9)) (af.aj [c12=false] (af.fork false c10 c9));let c1:af (List AV):=af.aj [nl N<c4,nl c13<c4] (af.aj [nl D<c4,nl c13<c4] (af.fork c8 (af.aj [c8=true,c14/\c6<nl (D/c13)] (af.fork (bif true then(↑(aE (D/c13) c6):Int)==1 else false) c7 c5)) (af.aj [c8=false] (af.fork false c7 c5))));some (af.aj [nl N<2^40,nl D<2^40] (af.fork ((↑(nl N):Int)==0) (af.aj c3 (af.aj c3 (af.leaf au.ret [agg [AV.bool false,mag 0,mag 0]]))) (af.aj [nl N<c4,nl D<c4] (af.fork c11 (af.aj [c11=true] (af.fork true c1 c2)) (af.aj [c11=false,c14/\c6<nl c13] (af.fork (bif false then true else(↑(aE c13 c6):Int)!=1) c1 c2)))))):=ah
theorem aac {n:Int}:cy T GE [5] 60 f82 (aJ f82) ⟨bf 0 [.int .i64 n],[],0⟩=
  let c2:Int:=u64.wrap n;let c1:Int:=u64.wrap (u64.wrap (i64.wrap ((0:Int)-i64.wrap (n+1)))+1);some (af.fork (decide (n<0)) (af.aj [(0:Int)<=c1/\c1<2^64] (af.leaf au.ret [mag c1.toNat,AV.bool true])) (af.aj [(0:Int)<=c2/\c2<2^64] (af.leaf au.ret [mag c2.toNat,AV.bool false]))):=ah
theorem aaG {q r:Rat} {n m:Nat}:cy T GE [10,18] 60 f26 (aJ f26) ⟨bf 0 [.rat q n,.rat r m],[],0⟩=
  let c8:Nat:=if r.den=1 then 0 else r.den;let c7:Nat:=if q.den=1 then 0 else q.den;let c6:Nat:=2^40;let c5:Bool:=bif true then dG q.num.natAbs r.num.natAbs==0 else false;let c3:Bool:=decide (q<0)==decide (r<0);let c1:Prop:=0<1;let c4:List Prop:=[c1,c1,nl c7<c6,nl c8<c6];let c2:af (List AV):=af.leaf au.ret [AV.bool (bif true then dG c7 c8==0 else false)];some (af.fork c3 (af.fork c5 (af.aj (c1::c1::(c3=true)::c1::c1::(nl q.num.natAbs<c6)::(nl r.num.natAbs<c6)::(c5=true)::c4) c2) (af.aj [c1,c1,c3=true,c1,c1,nl q.num.natAbs<c6,nl r.num.natAbs<c6,c5=false] (af.leaf au.ret [AV.bool false]))) (af.fork false (af.aj (c1::c1::(c3=false)::(false=true)::c4) c2) (af.aj [c1,c1,c3=false,false=false] (af.leaf au.ret [AV.bool false])))):=ah
theorem Vr {q:Rat} {n:Nat}:cy T GE [6,8] 60 f24 (aJ f24) ⟨bf 0 [.rat q n],[],0⟩=
  some (af.aj [(0:Nat)<1] (af.fork ((↑(nl q.num.natAbs):Int)==0) (af.leaf au.ret [int .i64 (0:Int)]) (af.aj [(0:Nat)<1] (af.fork (decide (q<0)) (af.leaf au.ret [int .i64 (-1:Int)]) (af.leaf au.ret [int .i64 (1:Int)]))))):=ah
theorem Yu {q:Rat} {n:Nat}:cy T GE [6] 60 f52 (aJ f52) ⟨bf 0 [.rat q n],[],0⟩=
  let c4:Int:=(↑(nl q.num.natAbs):Int);let c3:Bool:=!decide (q<0);let c2:List AV:=[mag q.num.natAbs,mag (if q.den=1 then 0 else q.den)];let c1:Prop:=0<1;some (af.fork c3 (af.aj [c1,c3=true,c1,c1] (af.aj [c1,c1] (af.aj [c1] (af.leaf au.ret [agg (AV.bool (bif true then decide (c4>0)else false)::c2)])))) (af.aj [c1,c3=false,c1] (af.aj [c1,c1] (af.aj [c1] (af.leaf au.ret [agg (AV.bool false::c2)]))))):=ah
theorem ad6 {q:Rat} {n:Nat} (K:Nat) (pre:aG):aY P 86 K [.rat q n] pre (aT (.mag q.den) []):=by
 refine cB hT wh hm VJ rfl br rfl 60 adp (fun _=>?_) K pre
 simp only[af.all,aF,beq_iff_eq,beq_eq_false_iff_ne,ne_eq]
 refine⟨aa,fun hb=>⟨aa,?_⟩,fun hb=>⟨aa,fo ?_⟩⟩
 ·have h0:=q.den_nz
  have:(if q.den=1 then 0 else q.den)=0:=kA.1 aa
  have h1:q.den=1:=by split at this;assumption;exact absurd this h0
  rw[h1]
  exact l8 (by decide) fun i hi=>by rw[show i=0 by omega];exact congrArg (AV.int .u32) (show(1:Int)=((aE 1 0:Nat):Int) by decide)
 ·have:q.den≠1:=fun h=>hb (by rw[if_pos h];rfl)
  rw[if_neg this]
theorem ab0 {b:Bool} {N D:Nat} (hN:nl N<2^38) (hD:nl D<2^38) (hD0:D≠0) (K:Nat) (pre:aG):aY P 145 K [.bool b,.mag N,.mag D] pre (aT (.rat (sQ b N D) (dQ (sQ b N D))) []):=by
 refine cB hT wh hm Q5 rfl br rfl 60 Vd (fun _=>?_) K pre
 have hz:sQ b N D=0->bg (.agg [.bool false,.mag 0,.mag 0]) (.rat (sQ b N D) (dQ (sQ b N D))):=fun h=>by
  rw[h];exact pD
 simp only[af.all,aF,beq_iff_eq,beq_eq_false_iff_ne,ne_eq,bne_iff_ne,bne_eq_false_iff_eq,Int.toNat_zero]
 refine⟨⟨aa,aa⟩,fun hb=>⟨aa,aa,hz ?_⟩,fun hb=>?_⟩
 ·rw[kA.1 (show nl N=0 by omega),D8]
 have hN0:N≠0:=fun h=>hb (by rw[kA.2 h];rfl)
 have hg:nl (Nat.gcd N D)<2^38:=Nat.lt_of_le_of_lt (jt (Nat.gcd_le_left _ aa)) hN
 have hg0:0<Nat.gcd N D:=Nat.gcd_pos_of_pos_left _ aa
 have hl:∀{Y:Nat},nl Y=1->aE Y 0=Y:=fun {Y} h=>by
  have:=iE (N:=Y)
  rw[h,val,val]at this
  simpa using this
 have h1:∀{X Y:Nat},X=N/Nat.gcd N D->Y=D/Nat.gcd N D->Y≠1->bg (.agg [.bool b,.mag X,.mag Y]) (.rat (sQ b N D) (dQ (sQ b N D))):=fun eX eY h=>wm hN0 hD0 eX (by rw[<-eY,if_neg h]) zM
 have h2:∀{X Y:Nat},X=N/Nat.gcd N D->Y=D/Nat.gcd N D->Y=1->bg (.agg [.bool b,.mag X,.nil]) (.rat (sQ b N D) (dQ (sQ b N D))):=fun eX eY h=>ML.trans (wm hN0 hD0 eX (by rw[<-eY,if_pos h]) zM)
 have i1:∀{Y:Nat},(nl Y:Int)=1->(bif true then((aE Y 0:Nat):Int)==1 else false)=true->Y=1:=fun {Y} h hc=>by
  have:=kP hc
  rw[hl aa]at this
  have:=eq_of_beq this
  omega
 have i2:∀{Y:Nat},(nl Y:Int)=1->(bif true then((aE Y 0:Nat):Int)==1 else false)=false->Y≠1:=fun {Y} h hc h1=>by
  have:=kP hc
  rw[hl aa,h1]at this
  simp at this
 have i3:∀{Y:Nat},¬(nl Y:Int)=1->Y≠1:=fun {Y} h h1=>h (by rw[h1];decide)
 have g1:(nl (Nat.gcd N D):Int)=1->(bif false then true else((aE (Nat.gcd N D) 0:Nat):Int)!=1)=false->Nat.gcd N D=1:=fun h hc=>by
  have:=jC hc
  rw[hl aa]at this
  simp at this
  omega
 refine⟨⟨hN,hD⟩,fun hb=>⟨hb,fun _=>⟨⟨hN,hg⟩,⟨hD,hg⟩,?_⟩,fun h=>by simp at h⟩,fun hb=>⟨⟨hb,aa,aa⟩,fun hc=>⟨⟨hN,hg⟩,⟨hD,hg⟩,?_⟩,fun hc=>?_⟩⟩
 ·exact⟨fun hb=>⟨⟨hb,aa,aa⟩,fun hc=>⟨aa,aa,h2 rfl rfl (i1 hb hc)⟩,fun hc=>⟨aa,aa,h1 rfl rfl (i2 hb hc)⟩⟩,fun hb=>⟨hb,fun h=>by simp at h,fun _=>⟨aa,aa,h1 rfl rfl (i3 hb)⟩⟩⟩
 ·exact⟨fun hb=>⟨⟨hb,aa,aa⟩,fun hc=>⟨aa,aa,h2 rfl rfl (i1 hb hc)⟩,fun hc=>⟨aa,aa,h1 rfl rfl (i2 hb hc)⟩⟩,fun hb=>⟨hb,fun h=>by simp at h,fun _=>⟨aa,aa,h1 rfl rfl (i3 hb)⟩⟩⟩
 ·have e:=g1 hb hc
  have eN:N=N/Nat.gcd N D:=by rw[e,Nat.div_one]
  have eD:D=D/Nat.gcd N D:=by rw[e,Nat.div_one]
  exact⟨fun hb=>⟨⟨hb,aa,aa⟩,fun hc=>⟨aa,aa,h2 eN eD (i1 hb hc)⟩,fun hc=>⟨aa,aa,h1 eN eD (i2 hb hc)⟩⟩,fun hb=>⟨hb,fun h=>by simp at h,fun _=>⟨aa,aa,h1 eN eD (i3 hb)⟩⟩⟩
theorem adE {n:Int} (h1:-2^63<=n) (h2:n<2^63) (K:Nat) (pre:aG):aY P 82 K [.int .i64 n] pre (aT (.tuple [.mag n.natAbs,.bool (decide (n<0))]) []):=by
 refine cB hT wh hm afP rfl br rfl 60 aac (fun _=>?_) K pre
 simp only[af.all,aF,bI,bO]
 refine⟨fun hb=>?_,fun hb=>?_⟩
 ·have e:i64.wrap (n+1)=n+1:=wrap_i64 aa aa
  have e1:i64.wrap (0-(n+1))=-n-1:=by rw[wrap_i64 aa aa];omega
  have e2:u64.wrap (-n-1)=-n-1:=cG aa aa
  have e3:u64.wrap (-n-1+1)=((n.natAbs:Nat):Int):=by rw[cG aa aa];omega
  rw[e,e1,e2,e3]
  exact⟨aa,fo (by rw[bJ]),iV (by simp[hb]),trivial⟩
 ·have e3:u64.wrap n=((n.natAbs:Nat):Int):=by rw[cG aa aa];omega
  rw[e3]
  exact⟨aa,fo (by rw[bJ]),iV (by simp[hb]),trivial⟩
theorem Ca {a b:Nat}:dG a b=0↔a=b:=by unfold dG;split<;>(try split)<;>omega
theorem abx {q r:Rat} {n m:Nat} (hn:n<2^44) (hm':m<2^44) (K:Nat) (pre:aG):aY P 26 K [.rat q n,.rat r m] pre (aT (.bool (decide (q=r))) []):=by
 refine lX fun⟨hs1,hs2,_⟩=>?_
 obtain⟨a1,a2,a3⟩:=Sz.lD hs1 hn
 obtain⟨b1,b2,b3⟩:=Sz.lD hs2 hm'
 refine cB hT wh hm ae9 rfl br rfl 60 aaG (fun _=>?_) K pre
 simp only[af.all,aF]
 refine⟨fun hb=>⟨fun hc=>⟨⟨aa,aa,hb,aa,aa,a1,b1,hc,aa,aa,a3,b3⟩,iV ?_⟩,fun hc=>⟨⟨aa,aa,hb,aa,aa,a1,b1,hc⟩,iV ?_⟩⟩,fun hb=>⟨fun h=>by simp at h,fun _=>⟨⟨aa,aa,hb,trivial⟩,iV ?_⟩⟩⟩
 ·have h1:=eq_of_beq hb
  have h2:=Ca.1 (eq_of_beq (kP hc))
  rw[cond_true]
  exact(decide_eq_decide (p:=_=0) (q:=q=r)).2 ⟨fun h=>qA.2 ⟨h1,h2,Ca.1 h⟩,fun h=>Ca.2 (qA.1 h).2.2⟩
 ·have h2:=kP hc
  refine(decide_eq_false fun h=>?_).symm
  rw[Ca.2 (qA.1 h).2.1]at h2
  simp at h2
 ·refine(decide_eq_false fun h=>?_).symm
  rw[(qA.1 h).1]at hb
  simp at hb
theorem Kp {q:Rat} {n:Nat} (K:Nat) (pre:aG):aY P 24 K [.rat q n] pre (aT (.int .i64 (bR q)) []):=by
 refine cB hT wh hm aeL rfl br rfl 60 Vr (fun _=>?_) K pre
 simp only[af.all,aF,beq_iff_eq,beq_eq_false_iff_ne,ne_eq]
 refine⟨aa,fun hb=>cu ?_,fun hb=>⟨aa,fun hc=>cu ?_,fun hc=>cu ?_⟩⟩
 ·have h0:q=0:=oS.1 (kA.1 aa)
  subst h0
  rfl
 ·have:=of_decide_eq_true hc
  unfold bR;rw[if_pos this]
 ·have h1:=of_decide_eq_false hc
  have h0:q≠0:=fun h=>hb (by rw[h];rfl)
  unfold bR;rw[if_neg h1,if_pos (Nt h0 h1)]
theorem acn {q:Rat} {n:Nat} (K:Nat) (pre:aG):aY P 52 K [.rat q n] pre (aT (.rat (-q) n) []):=by
 refine lX fun⟨hs1,_⟩=>?_
 have hs1:Sz q n:=hs1
 have hs2:=hs1.neg
 have e1:(-q).num.natAbs=q.num.natAbs:=by rw[Rat.neg_num,Int.natAbs_neg]
 have e2:(-q).den=q.den:=Rat.neg_den q
 refine cB hT wh hm SG rfl br rfl 60 Yu (fun _=>?_) K pre
 simp only[af.all,aF]
 refine⟨fun hb=>⟨⟨aa,hb,aa,aa⟩,⟨aa,aa⟩,aa,sD hs2 ?_ e1.symm (by rw[e2])⟩,fun hb=>⟨⟨aa,hb,aa⟩,⟨aa,aa⟩,aa,sD hs2 ?_ e1.symm (by rw[e2])⟩⟩
 ·have hq:¬q<0:=by simpa using hb
  rw[cond_true]
  have h1:¬q.num<0:=fun h=>hq (jX.2 h)
  exact((decide_eq_decide (p:=-q<0) (q:=(nl q.num.natAbs:Int)>0)).2 (by
   rw[jX,Rat.neg_num]
   have:=iO (N:=q.num.natAbs)
   omega)).symm
 ·have hq:q<0:=by simpa using hb
  have:=jX.1 hq
  exact(decide_eq_false (p:=-q<0) (by rw[jX,Rat.neg_num];omega)).symm
def zW (g:Rat->Nat->en):Spec:=cw fun l=>match l with
 |[.rat q n]=>some (g q n)
 |_=>none
theorem GN {f:FuncId} {g:Rat->Nat->en} (h:∀{q:Rat} {n:Nat} K,aY P f K [.rat q n] [] (g q n)):bF P (zW g) f:=by
 refine cY fun K args r hk hs _=>?_
 split at hs
 ·simp only[aB]at hs
  subst hs
  exact h K
 ·simp at hs
def LN:Spec:=zW fun q _=>aT (.mag q.den) []
theorem aap:bF P LN 86:=GN fun K=>ad6 K []
def KE:Spec:=zW fun q _=>aT (.int .i64 (bR q)) []
theorem Qg:bF P KE 24:=GN fun K=>Kp K []
def BM:Spec:=zW fun q n=>aT (.rat (-q) n) []
theorem C9:bF P BM 52:=GN fun K=>acn K []
def OQ:Spec:=cw fun l=>match l with
 |[.int .i64 n]=>some (aT (.tuple [.mag n.natAbs,.bool (decide (n<0))]) [-2^63<=n,n<2^63])
 |_=>none
theorem ac9:bF P OQ 82:=by
 refine cY fun K args r hk hs _=>?_
 split at hs
 ·simp only[aB]at hs
  subst hs
  exact fun need=>adE need.1 need.2 K [] trivial
 ·simp at hs
def L7:Spec:=cw fun l=>match l with
 |[.bool b,x,y]=>match kj x,kj y with
  |some N,some D=>some (aT (.rat (sQ b N D) (dQ (sQ b N D))) [nl N<2^38,nl D<2^38,D≠0])
  |_,_=>none
 |_=>none
theorem aep:bF P L7 145:=by
 refine cY fun K args r hk hs _=>?_
 split at hs
 ·split at hs
  ·rename_i N D h1 h2
   simp only[aB]at hs
   subst hs
   exact fun need=>je (ab0 need.1 need.2.1 need.2.2 K []) hk ⟨.refl _,mX h1,mX h2,trivial⟩ [] trivial
  ·simp at hs
 ·simp at hs
end Go.Am.B
