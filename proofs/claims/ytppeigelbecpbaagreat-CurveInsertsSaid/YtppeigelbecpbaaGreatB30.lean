/- ref02: Den, reduce, size, Make, Frac, Int, Same, Sign, Neg. -/
import Derived.Test.YtppeigelbecpbaaGreatB29
set_option linter.unusedVariables false
namespace Go.Am.B
open Go Go.Am.N AV
theorem Z8:aP P x9 zx (au zx):=aQ abz (by kernel_rfl) (by kernel_rfl) (by kernel_rfl)
theorem akl:aP P AK wj (au wj):=aQ afB (by kernel_rfl) (by kernel_rfl) (by kernel_rfl)
theorem SD:aP P vX AS (au AS):=aQ WL (by kernel_rfl) (by kernel_rfl) (by kernel_rfl)
theorem ae7:aP P xM u9 (au u9):=aQ aam (by kernel_rfl) (by kernel_rfl) (by kernel_rfl)
theorem SA:aP P rI vH (au vH):=aQ Vm (by kernel_rfl) (by kernel_rfl) (by kernel_rfl)
theorem acD:aP P uv vD (au vD):=aQ aiu (by kernel_rfl) (by kernel_rfl) (by kernel_rfl)
def GE:aS:=[(nr,uq),(yl,NM),(uD,O3),(oO,yc),(pI,vw)]
theorem sj:aW P GE:=aH wF (aH Tr (aH Qo (aH Bt (aH D6 bp))))
theorem QZ {q:Rat} {n:Nat}:bC T GE [6] 60 zx (au zx) ⟨aN 0 [.rat q n],[],0⟩=
  let c1:Nat:=if q.den=1 then 0 else q.den;some (aa.ag [(0:Nat)<1] (aa.fork ((↑(nl c1):Int)==(0:Int)) (aa.ag [(1:Nat)*1≤2^24] (aa.leaf ak.ret [aj 1 1 fun i↦nth [int IntKind.u32 (1:Int)] (int IntKind.u32 (0:Int)) (i+0)])) (aa.ag [(0:Nat)<1] (aa.leaf ak.ret [mag c1])))):=by kernel_rfl
theorem ajy {b:Bool} {N D:Nat}:bC T GE [14,22,27,45,50] 60 wj (au wj) ⟨aN 0 [.bool b,.mag N,.mag D],[],0⟩=
  let c14:Prop:=(0:Int)≤(0:Int);let c13:Nat:=N.gcd D;let c12:Bool:=(↑(nl D):Int)==(1:Int);let c6:Nat:=Int.toNat (0:Int);let c4:Nat:=2^38;let c3:List Prop:=[(0:Nat)<1];let c11:Bool:=(↑(nl c13):Int)!=(1:Int);let c10:aa (List AV):=aa.ag c3 (aa.ag c3 (aa.leaf ak.ret [agg [AV.bool b,mag N,nil]]));let c9:aa (List AV):=aa.ag c3 (aa.ag c3 (aa.leaf ak.ret [agg [AV.bool b,mag N,mag D]]));let c8:Bool:=(↑(nl (D/c13)):Int)==(1:Int);let c7:aa (List AV):=aa.ag c3 (aa.ag c3 (aa.leaf ak.ret [agg [AV.bool b,mag (N/c13),nil]]));let c5:aa (List AV):=aa.ag c3 (aa.ag c3 (aa.leaf ak.ret [agg [AV.bool b,mag (N/c13),mag (D/c13)]]));let c2:aa (List AV):=aa.fork c12 (aa.ag [c12=true,c14∧c6<nl D] (aa.fork (bif true then(↑(az D c6):Int)==(1:Int)else false) c10 c9)) (aa.ag [c12=false] (aa.fork false c10 c9));let c1:aa (List AV):=aa.ag [nl N<c4,nl c13<c4] (aa.ag [nl D<c4,nl c13<c4] (aa.fork c8 (aa.ag [c8=true,c14∧c6<nl (D/c13)] (aa.fork (bif true then(↑(az (D/c13) c6):Int)==(1:Int)else false) c7 c5)) (aa.ag [c8=false] (aa.fork false c7 c5))));some (aa.ag [nl N<2^40,nl D<2^40] (aa.fork ((↑(nl N):Int)==(0:Int)) (aa.ag c3 (aa.ag c3 (aa.leaf ak.ret [agg [AV.bool false,mag 0,mag 0]]))) (aa.ag [nl N<c4,nl D<c4] (aa.fork c11 (aa.ag [c11=true] (aa.fork true c1 c2)) (aa.ag [c11=false,c14∧c6<nl c13] (aa.fork (bif false then true else(↑(az c13 c6):Int)!=(1:Int)) c1 c2)))))):=by kernel_rfl
theorem aeI {n:Int}:bC T GE [5] 60 AS (au AS) ⟨aN 0 [.int .i64 n],[],0⟩=
  let c2:Int:=IntKind.u64.wrap n;let c1:Int:=IntKind.u64.wrap (IntKind.u64.wrap (IntKind.i64.wrap ((0:Int)-IntKind.i64.wrap (n+(1:Int))))+(1:Int));some (aa.fork (decide (n<(0:Int))) (aa.ag [(0:Int)≤c1∧c1<(2:Int)^64] (aa.leaf ak.ret [mag c1.toNat,AV.bool true])) (aa.ag [(0:Int)≤c2∧c2<(2:Int)^64] (aa.leaf ak.ret [mag c2.toNat,AV.bool false]))):=by kernel_rfl
theorem Sy {q r:Rat} {n m:Nat}:bC T GE [10,18] 60 u9 (au u9) ⟨aN 0 [.rat q n,.rat r m],[],0⟩=
  let c8:Nat:=if r.den=1 then 0 else r.den;let c7:Nat:=if q.den=1 then 0 else q.den;let c6:Nat:=2^40;let c5:Bool:=bif true then cH q.num.natAbs r.num.natAbs==(0:Int)else false;let c3:Bool:=decide (q<0)==decide (r<0);let c1:Prop:=0<1;let c4:List Prop:=[c1,c1,nl c7<c6,nl c8<c6];let c2:aa (List AV):=aa.leaf ak.ret [AV.bool (bif true then cH c7 c8==(0:Int)else false)];some (aa.fork c3 (aa.fork c5 (aa.ag (c1::c1::(c3=true)::c1::c1::(nl q.num.natAbs<c6)::(nl r.num.natAbs<c6)::(c5=true)::c4) c2) (aa.ag [c1,c1,c3=true,c1,c1,nl q.num.natAbs<c6,nl r.num.natAbs<c6,c5=false] (aa.leaf ak.ret [AV.bool false]))) (aa.fork false (aa.ag (c1::c1::(c3=false)::(false=true)::c4) c2) (aa.ag [c1,c1,c3=false,false=false] (aa.leaf ak.ret [AV.bool false])))):=by kernel_rfl
theorem aeg {q:Rat} {n:Nat}:bC T GE [6,8] 60 vH (au vH) ⟨aN 0 [.rat q n],[],0⟩=
  some (aa.ag [(0:Nat)<1] (aa.fork ((↑(nl q.num.natAbs):Int)==(0:Int)) (aa.leaf ak.ret [int IntKind.i64 (0:Int)]) (aa.ag [(0:Nat)<1] (aa.fork (decide (q<0)) (aa.leaf ak.ret [int IntKind.i64 (-1:Int)]) (aa.leaf ak.ret [int IntKind.i64 (1:Int)]))))):=by kernel_rfl
theorem aaR {q:Rat} {n:Nat}:bC T GE [6] 60 vD (au vD) ⟨aN 0 [.rat q n],[],0⟩=
  let c4:Int:=(↑(nl q.num.natAbs):Int);let c3:Bool:=!decide (q<0);let c2:List AV:=[mag q.num.natAbs,mag (if q.den=1 then 0 else q.den)];let c1:Prop:=0<1;some (aa.fork c3 (aa.ag [c1,c3=true,c1,c1] (aa.ag [c1,c1] (aa.ag [c1] (aa.leaf ak.ret [agg (AV.bool (bif true then decide (c4>(0:Int))else false)::c2)])))) (aa.ag [c1,c3=false,c1] (aa.ag [c1,c1] (aa.ag [c1] (aa.leaf ak.ret [agg (AV.bool false::c2)]))))):=by kernel_rfl
theorem Uo {q:Rat} {n:Nat} (K:Nat) (pre:aC):aA P x9 K [.rat q n] pre (aG (.mag q.den) []):=by
 refine bJ hT sj hm Z8 rfl (of_decide_eq_true (by kernel_rfl)) rfl 60 QZ (fun _=>?_) K pre
 simp only[aa.all,ax,beq_iff_eq,beq_eq_false_iff_ne,ne_eq]
 refine⟨by omega,fun hb=>⟨by omega,?_⟩,fun hb=>⟨by omega,cX ?_⟩⟩
 ·have h0:=q.den_nz
  have:(if q.den=1 then 0 else q.den)=0:=iL.1 (by omega)
  have h1:q.den=1:=by split at this;assumption;exact absurd this h0
  rw[h1]
  exact kG (by decide) fun i hi=>by rw[show i=0 by omega];exact congrArg (AV.int IntKind.u32) (show(1:Int)=((az 1 0:Nat):Int) by decide)
 ·have:q.den≠1:=fun h=>hb (by rw[if_pos h];rfl)
  rw[if_neg this]
theorem Xm {b:Bool} {N D:Nat} (hN:nl N<2^38) (hD:nl D<2^38) (hD0:D≠0) (K:Nat) (pre:aC):aA P AK K [.bool b,.mag N,.mag D] pre (aG (.rat (sQ b N D) (cz (sQ b N D))) []):=by
 refine bJ hT sj hm akl rfl (of_decide_eq_true (by kernel_rfl)) rfl 60 ajy (fun _=>?_) K pre
 have hz:sQ b N D=0→bw (.agg [.bool false,.mag 0,.mag 0]) (.rat (sQ b N D) (cz (sQ b N D))):=fun h=>by
  rw[h];exact lf
 simp only[aa.all,ax,beq_iff_eq,beq_eq_false_iff_ne,ne_eq,bne_iff_ne,bne_eq_false_iff_eq,Int.toNat_zero]
 refine⟨⟨by omega,by omega⟩,fun hb=>⟨by omega,by omega,hz ?_⟩,fun hb=>?_⟩
 ·rw[iL.1 (show nl N=0 by omega),G5]
 have hN0:N≠0:=fun h=>hb (by rw[iL.2 h];rfl)
 have hg:nl (Nat.gcd N D)<2^38:=Nat.lt_of_le_of_lt (gz (Nat.gcd_le_left _ (by omega))) hN
 have hg0:0<Nat.gcd N D:=Nat.gcd_pos_of_pos_left _ (by omega)
 have hl:∀{Y:Nat},nl Y=1→az Y 0=Y:=fun {Y} h=>by
  have:=fu (N:=Y)
  rw[h,val,val]at this
  simpa using this
 have h1:∀{X Y:Nat},X=N/Nat.gcd N D→Y=D/Nat.gcd N D→Y≠1→bw (.agg [.bool b,.mag X,.mag Y]) (.rat (sQ b N D) (cz (sQ b N D))):=fun eX eY h=>uF hN0 hD0 eX (by rw[←eY,if_neg h]) zA
 have h2:∀{X Y:Nat},X=N/Nat.gcd N D→Y=D/Nat.gcd N D→Y=1→bw (.agg [.bool b,.mag X,.nil]) (.rat (sQ b N D) (cz (sQ b N D))):=fun eX eY h=>Qv.trans (uF hN0 hD0 eX (by rw[←eY,if_pos h]) zA)
 have i1:∀{Y:Nat},(nl Y:Int)=1→(bif true then((az Y 0:Nat):Int)==(1:Int)else false)=true→Y=1:=fun {Y} h hc=>by
  have:=iR hc
  rw[hl (by omega)]at this
  have:=eq_of_beq this
  omega
 have i2:∀{Y:Nat},(nl Y:Int)=1→(bif true then((az Y 0:Nat):Int)==(1:Int)else false)=false→Y≠1:=fun {Y} h hc h1=>by
  have:=iR hc
  rw[hl (by omega),h1]at this
  simp at this
 have i3:∀{Y:Nat},¬(nl Y:Int)=1→Y≠1:=fun {Y} h h1=>h (by rw[h1];decide)
 have g1:(nl (Nat.gcd N D):Int)=1→(bif false then true else((az (Nat.gcd N D) 0:Nat):Int)!=(1:Int))=false→Nat.gcd N D=1:=fun h hc=>by
  have:=gJ hc
  rw[hl (by omega)]at this
  simp at this
  omega
 refine⟨⟨hN,hD⟩,fun hb=>⟨hb,fun _=>⟨⟨hN,hg⟩,⟨hD,hg⟩,?_⟩,fun h=>by simp at h⟩,fun hb=>⟨⟨hb,by omega,by omega⟩,fun hc=>⟨⟨hN,hg⟩,⟨hD,hg⟩,?_⟩,fun hc=>?_⟩⟩
 ·exact⟨fun hb=>⟨⟨hb,by omega,by omega⟩,fun hc=>⟨by omega,by omega,h2 rfl rfl (i1 hb hc)⟩,fun hc=>⟨by omega,by omega,h1 rfl rfl (i2 hb hc)⟩⟩,fun hb=>⟨hb,fun h=>by simp at h,fun _=>⟨by omega,by omega,h1 rfl rfl (i3 hb)⟩⟩⟩
 ·exact⟨fun hb=>⟨⟨hb,by omega,by omega⟩,fun hc=>⟨by omega,by omega,h2 rfl rfl (i1 hb hc)⟩,fun hc=>⟨by omega,by omega,h1 rfl rfl (i2 hb hc)⟩⟩,fun hb=>⟨hb,fun h=>by simp at h,fun _=>⟨by omega,by omega,h1 rfl rfl (i3 hb)⟩⟩⟩
 ·have e:=g1 hb hc
  have eN:N=N/Nat.gcd N D:=by rw[e,Nat.div_one]
  have eD:D=D/Nat.gcd N D:=by rw[e,Nat.div_one]
  exact⟨fun hb=>⟨⟨hb,by omega,by omega⟩,fun hc=>⟨by omega,by omega,h2 eN eD (i1 hb hc)⟩,fun hc=>⟨by omega,by omega,h1 eN eD (i2 hb hc)⟩⟩,fun hb=>⟨hb,fun h=>by simp at h,fun _=>⟨by omega,by omega,h1 eN eD (i3 hb)⟩⟩⟩
theorem aa3 {n:Int} (h1:-2^63≤n) (h2:n<2^63) (K:Nat) (pre:aC):aA P vX K [.int .i64 n] pre (aG (.tuple [.mag n.natAbs,.bool (decide (n<0))]) []):=by
 refine bJ hT sj hm SD rfl (of_decide_eq_true (by kernel_rfl)) rfl 60 aeI (fun _=>?_) K pre
 simp only[aa.all,ax,decide_eq_true_eq,decide_eq_false_iff_not]
 refine⟨fun hb=>?_,fun hb=>?_⟩
 ·have e:IntKind.i64.wrap (n+1)=n+1:=wrap_i64 (by omega) (by omega)
  have e1:IntKind.i64.wrap (0-(n+1))=-n-1:=by rw[wrap_i64 (by omega) (by omega)];omega
  have e2:IntKind.u64.wrap (-n-1)=-n-1:=bO (by omega) (by omega)
  have e3:IntKind.u64.wrap (-n-1+1)=((n.natAbs:Nat):Int):=by rw[bO (by omega) (by omega)];omega
  rw[e,e1,e2,e3]
  exact⟨by omega,cX (by rw[Int.toNat_natCast]),eP (by simp[hb]),trivial⟩
 ·have e3:IntKind.u64.wrap n=((n.natAbs:Nat):Int):=by rw[bO (by omega) (by omega)];omega
  rw[e3]
  exact⟨by omega,cX (by rw[Int.toNat_natCast]),eP (by simp[hb]),trivial⟩
theorem Bv {a b:Nat}:cH a b=0↔a=b:=by unfold cH;split<;>(try split)<;>omega
theorem Kr {q r:Rat} {n m:Nat} (hn:n<2^44) (hm':m<2^44) (K:Nat) (pre:aC):aA P xM K [.rat q n,.rat r m] pre (aG (.bool (decide (q=r))) []):=by
 refine iC fun⟨hs1,hs2,_⟩=>?_
 obtain⟨a1,a2,a3⟩:=Sz.iJ hs1 hn
 obtain⟨b1,b2,b3⟩:=Sz.iJ hs2 hm'
 refine bJ hT sj hm ae7 rfl (of_decide_eq_true (by kernel_rfl)) rfl 60 Sy (fun _=>?_) K pre
 simp only[aa.all,ax]
 refine⟨fun hb=>⟨fun hc=>⟨⟨by omega,by omega,hb,by omega,by omega,a1,b1,hc,by omega,by omega,a3,b3⟩,eP ?_⟩,fun hc=>⟨⟨by omega,by omega,hb,by omega,by omega,a1,b1,hc⟩,eP ?_⟩⟩,fun hb=>⟨fun h=>by simp at h,fun _=>⟨⟨by omega,by omega,hb,trivial⟩,eP ?_⟩⟩⟩
 ·have h1:=eq_of_beq hb
  have h2:=Bv.1 (eq_of_beq (iR hc))
  rw[cond_true]
  exact(decide_eq_decide (p:=_=(0:Int)) (q:=q=r)).2 ⟨fun h=>pR.2 ⟨h1,h2,Bv.1 h⟩,fun h=>Bv.2 (pR.1 h).2.2⟩
 ·have h2:=iR hc
  refine(decide_eq_false fun h=>?_).symm
  rw[Bv.2 (pR.1 h).2.1]at h2
  simp at h2
 ·refine(decide_eq_false fun h=>?_).symm
  rw[(pR.1 h).1]at hb
  simp at hb
theorem Il {q:Rat} {n:Nat} (K:Nat) (pre:aC):aA P rI K [.rat q n] pre (aG (.int .i64 (ey q)) []):=by
 refine bJ hT sj hm SA rfl (of_decide_eq_true (by kernel_rfl)) rfl 60 aeg (fun _=>?_) K pre
 simp only[aa.all,ax,beq_iff_eq,beq_eq_false_iff_ne,ne_eq]
 refine⟨by omega,fun hb=>bt ?_,fun hb=>⟨by omega,fun hc=>bt ?_,fun hc=>bt ?_⟩⟩
 ·have h0:q=0:=me.1 (iL.1 (by omega))
  subst h0
  rfl
 ·have:=of_decide_eq_true hc
  unfold ey;rw[if_pos this]
 ·have h1:=of_decide_eq_false hc
  have h0:q≠0:=fun h=>hb (by rw[h];rfl)
  unfold ey;rw[if_neg h1,if_pos (K0 h0 h1)]
theorem afu {q:Rat} {n:Nat} (K:Nat) (pre:aC):aA P uv K [.rat q n] pre (aG (.rat (-q) n) []):=by
 refine iC fun⟨hs1,_⟩=>?_
 have hs1:Sz q n:=hs1
 have hs2:=hs1.neg
 have e1:(-q).num.natAbs=q.num.natAbs:=by rw[Rat.neg_num,Int.natAbs_neg]
 have e2:(-q).den=q.den:=Rat.neg_den q
 refine bJ hT sj hm acD rfl (of_decide_eq_true (by kernel_rfl)) rfl 60 aaR (fun _=>?_) K pre
 simp only[aa.all,ax]
 refine⟨fun hb=>⟨⟨by omega,hb,by omega,by omega⟩,⟨by omega,by omega⟩,by omega,qR hs2 ?_ e1.symm (by rw[e2])⟩,fun hb=>⟨⟨by omega,hb,by omega⟩,⟨by omega,by omega⟩,by omega,qR hs2 ?_ e1.symm (by rw[e2])⟩⟩
 ·have hq:¬q<0:=by simpa using hb
  rw[cond_true]
  have h1:¬q.num<0:=fun h=>hq (iu.2 h)
  exact((decide_eq_decide (p:=-q<0) (q:=(nl q.num.natAbs:Int)>0)).2 (by
   rw[iu,Rat.neg_num]
   have:=fB (N:=q.num.natAbs)
   omega)).symm
 ·have hq:q<0:=by simpa using hb
  have:=iu.1 hq
  exact(decide_eq_false (p:=-q<0) (by rw[iu,Rat.neg_num];omega)).symm
def CH (g:Rat→Nat→cU):Spec:=bE fun l=>match l with
 |[.rat q n]=>some (g q n)
 |_=>none
theorem IE {f:FuncId} {g:Rat→Nat→cU} (h:∀{q:Rat} {n:Nat} K,aA P f K [.rat q n] [] (g q n)):∀K args pre r,CH g K args pre=some r→aA P f K args pre r:=by
 refine bX fun K args r hk hs _=>?_
 split at hs
 ·simp only[Option.some.injEq]at hs
  subst hs
  exact h K
 ·simp at hs
def PO:Spec:=CH fun q _=>aG (.mag q.den) []
theorem UU:∀K args pre r,PO K args pre=some r→aA P x9 K args pre r:=IE fun K=>Uo K []
def Ms:Spec:=CH fun q _=>aG (.int .i64 (ey q)) []
theorem aaV:∀K args pre r,Ms K args pre=some r→aA P rI K args pre r:=IE fun K=>Il K []
def E8:Spec:=CH fun q n=>aG (.rat (-q) n) []
theorem PG:∀K args pre r,E8 K args pre=some r→aA P uv K args pre r:=IE fun K=>afu K []
def Nd:Spec:=bE fun l=>match l with
 |[.int .i64 n]=>some (aG (.tuple [.mag n.natAbs,.bool (decide (n<0))]) [-2^63≤n,n<2^63])
 |_=>none
theorem Zd:∀K args pre r,Nd K args pre=some r→aA P vX K args pre r:=by
 refine bX fun K args r hk hs _=>?_
 split at hs
 ·simp only[Option.some.injEq]at hs
  subst hs
  exact fun need=>aa3 need.1 need.2 K [] trivial
 ·simp at hs
def NP:Spec:=bE fun l=>match l with
 |[.bool b,x,y]=>match ir x,ir y with
  |some N,some D=>some (aG (.rat (sQ b N D) (cz (sQ b N D))) [nl N<2^38,nl D<2^38,D≠0])
  |_,_=>none
 |_=>none
theorem adq:∀K args pre r,NP K args pre=some r→aA P AK K args pre r:=by
 refine bX fun K args r hk hs _=>?_
 split at hs
 ·split at hs
  ·rename_i N D h1 h2
   simp only[Option.some.injEq]at hs
   subst hs
   exact fun need=>fO (Xm need.1 need.2.1 need.2.2 K []) hk ⟨.refl _,kr h1,kr h2,trivial⟩ [] trivial
  ·simp at hs
 ·simp at hs
end Go.Am.B
