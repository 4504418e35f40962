/- ref02: Den, reduce, size, Make, Frac, Int, Same, Sign, Neg. -/
import Derived.Test.YtppeigelbecpbaaGreatB29
set_option linter.unusedVariables false
namespace Go.Am.B
open Go Go.Am.N AV
theorem agY:aO P Bh Aw (au Aw):=aQ ahY (by kernel_rfl) (by kernel_rfl) (by kernel_rfl)
theorem ZQ:aO P yO wh (au wh):=aQ aap (by kernel_rfl) (by kernel_rfl) (by kernel_rfl)
theorem aiQ:aO P zg xu (au xu):=aQ acJ (by kernel_rfl) (by kernel_rfl) (by kernel_rfl)
theorem UI:aO P y9 vH (au vH):=aQ agf (by kernel_rfl) (by kernel_rfl) (by kernel_rfl)
theorem aif:aO P qf yl (au yl):=aQ ahl (by kernel_rfl) (by kernel_rfl) (by kernel_rfl)
theorem afi:aO P sW xz (au xz):=aQ Zv (by kernel_rfl) (by kernel_rfl) (by kernel_rfl)
def GE:aR:=[(nL,tN),(wE,KZ),(sU,JS),(pP,AO),(oo,A9)]
theorem uq:aY P GE:=aG x9 (aG Yp (aG K7 (aG BG (aG Cd bk))))
theorem Xd {q:Rat} {n:Nat}:bF T GE [6] 60 Aw (au Aw) ⟨aN 0 [.rat q n],[],0⟩=
  let c1:Nat:=if q.den=1 then 0 else q.den;some (aa.ag [(0:Nat)<1] (aa.fork ((↑(nl c1):Int)==(0:Int)) (aa.ag [(1:Nat)*1≤2^24] (aa.leaf aj.ret [ak 1 1 fun i↦nth [int IntKind.u32 (1:Int)] (int IntKind.u32 (0:Int)) (i+0)])) (aa.ag [(0:Nat)<1] (aa.leaf aj.ret [mag c1])))):=by kernel_rfl
theorem aaZ {b:Bool} {N D:Nat}:bF T GE [14,22,27,45,50] 60 wh (au wh) ⟨aN 0 [.bool b,.mag N,.mag D],[],0⟩=
  let c14:Prop:=(0:Int)≤(0:Int);let c13:Nat:=N.gcd D;let c12:Bool:=(↑(nl D):Int)==(1:Int);let c6:Nat:=Int.toNat (0:Int);let c4:Nat:=2^38;let c3:List Prop:=[(0:Nat)<1];let c11:Bool:=(↑(nl c13):Int)!=(1:Int);let c10:aa (List AV):=aa.ag c3 (aa.ag c3 (aa.leaf aj.ret [agg [AV.bool b,mag N,nil]]));let c9:aa (List AV):=aa.ag c3 (aa.ag c3 (aa.leaf aj.ret [agg [AV.bool b,mag N,mag D]]));let c8:Bool:=(↑(nl (D/c13)):Int)==(1:Int);let c7:aa (List AV):=aa.ag c3 (aa.ag c3 (aa.leaf aj.ret [agg [AV.bool b,mag (N/c13),nil]]));let c5:aa (List AV):=aa.ag c3 (aa.ag c3 (aa.leaf aj.ret [agg [AV.bool b,mag (N/c13),mag (D/c13)]]));let c2:aa (List AV):=aa.fork c12 (aa.ag [c12=true,c14∧c6<nl D] (aa.fork (bif true then(↑(az D c6):Int)==(1:Int)else false) c10 c9)) (aa.ag [c12=false] (aa.fork false c10 c9));let c1:aa (List AV):=aa.ag [nl N<c4,nl c13<c4] (aa.ag [nl D<c4,nl c13<c4] (aa.fork c8 (aa.ag [c8=true,c14∧c6<nl (D/c13)] (aa.fork (bif true then(↑(az (D/c13) c6):Int)==(1:Int)else false) c7 c5)) (aa.ag [c8=false] (aa.fork false c7 c5))));some (aa.ag [nl N<2^40,nl D<2^40] (aa.fork ((↑(nl N):Int)==(0:Int)) (aa.ag c3 (aa.ag c3 (aa.leaf aj.ret [agg [AV.bool false,mag 0,mag 0]]))) (aa.ag [nl N<c4,nl D<c4] (aa.fork c11 (aa.ag [c11=true] (aa.fork true c1 c2)) (aa.ag [c11=false,c14∧c6<nl c13] (aa.fork (bif false then true else(↑(az c13 c6):Int)!=(1:Int)) c1 c2)))))):=by kernel_rfl
theorem S3 {n:Int}:bF T GE [5] 60 xu (au xu) ⟨aN 0 [.int .i64 n],[],0⟩=
  let c2:Int:=IntKind.u64.wrap n;let c1:Int:=IntKind.u64.wrap (IntKind.u64.wrap (IntKind.i64.wrap ((0:Int)-IntKind.i64.wrap (n+(1:Int))))+(1:Int));some (aa.fork (decide (n<(0:Int))) (aa.ag [(0:Int)≤c1∧c1<(2:Int)^64] (aa.leaf aj.ret [mag c1.toNat,AV.bool true])) (aa.ag [(0:Int)≤c2∧c2<(2:Int)^64] (aa.leaf aj.ret [mag c2.toNat,AV.bool false]))):=by kernel_rfl
theorem aiE {q r:Rat} {n m:Nat}:bF T GE [10,18] 60 vH (au vH) ⟨aN 0 [.rat q n,.rat r m],[],0⟩=
  let c8:Nat:=if r.den=1 then 0 else r.den;let c7:Nat:=if q.den=1 then 0 else q.den;let c6:Nat:=2^40;let c5:Bool:=bif true then cA q.num.natAbs r.num.natAbs==(0:Int)else false;let c3:Bool:=decide (q<0)==decide (r<0);let c1:Prop:=0<1;let c4:List Prop:=[c1,c1,nl c7<c6,nl c8<c6];let c2:aa (List AV):=aa.leaf aj.ret [AV.bool (bif true then cA c7 c8==(0:Int)else false)];some (aa.fork c3 (aa.fork c5 (aa.ag (c1::c1::(c3=true)::c1::c1::(nl q.num.natAbs<c6)::(nl r.num.natAbs<c6)::(c5=true)::c4) c2) (aa.ag [c1,c1,c3=true,c1,c1,nl q.num.natAbs<c6,nl r.num.natAbs<c6,c5=false] (aa.leaf aj.ret [AV.bool false]))) (aa.fork false (aa.ag (c1::c1::(c3=false)::(false=true)::c4) c2) (aa.ag [c1,c1,c3=false,false=false] (aa.leaf aj.ret [AV.bool false])))):=by kernel_rfl
theorem aj4 {q:Rat} {n:Nat}:bF T GE [6,8] 60 yl (au yl) ⟨aN 0 [.rat q n],[],0⟩=
  some (aa.ag [(0:Nat)<1] (aa.fork ((↑(nl q.num.natAbs):Int)==(0:Int)) (aa.leaf aj.ret [int IntKind.i64 (0:Int)]) (aa.ag [(0:Nat)<1] (aa.fork (decide (q<0)) (aa.leaf aj.ret [int IntKind.i64 (-1:Int)]) (aa.leaf aj.ret [int IntKind.i64 (1:Int)]))))):=by kernel_rfl
theorem aic {q:Rat} {n:Nat}:bF T GE [6] 60 xz (au xz) ⟨aN 0 [.rat q n],[],0⟩=
  let c4:Int:=(↑(nl q.num.natAbs):Int);let c3:Bool:=!decide (q<0);let c2:List AV:=[mag q.num.natAbs,mag (if q.den=1 then 0 else q.den)];let c1:Prop:=0<1;some (aa.fork c3 (aa.ag [c1,c3=true,c1,c1] (aa.ag [c1,c1] (aa.ag [c1] (aa.leaf aj.ret [agg (AV.bool (bif true then decide (c4>(0:Int))else false)::c2)])))) (aa.ag [c1,c3=false,c1] (aa.ag [c1,c1] (aa.ag [c1] (aa.leaf aj.ret [agg (AV.bool false::c2)]))))):=by kernel_rfl
theorem St {q:Rat} {n:Nat} (K:Nat) (pre:aC):aB P Bh K [.rat q n] pre (aK (.mag q.den) []):=by
 refine bJ hT uq hm agY rfl (of_decide_eq_true (by kernel_rfl)) rfl 60 Xd (fun _=>?_) K pre
 simp only[aa.all,ax,beq_iff_eq,beq_eq_false_iff_ne,ne_eq]
 refine⟨by omega,fun hb=>⟨by omega,?_⟩,fun hb=>⟨by omega,dc ?_⟩⟩
 ·have h0:=q.den_nz
  have:(if q.den=1 then 0 else q.den)=0:=iJ.1 (by omega)
  have h1:q.den=1:=by split at this;assumption;exact absurd this h0
  rw[h1]
  exact kG (by decide) fun i hi=>by rw[show i=0 by omega];exact congrArg (AV.int IntKind.u32) (show(1:Int)=((az 1 0:Nat):Int) by decide)
 ·have:q.den≠1:=fun h=>hb (by rw[if_pos h];rfl)
  rw[if_neg this]
theorem ala {b:Bool} {N D:Nat} (hN:nl N<2^38) (hD:nl D<2^38) (hD0:D≠0) (K:Nat) (pre:aC):aB P yO K [.bool b,.mag N,.mag D] pre (aK (.rat (sQ b N D) (ct (sQ b N D))) []):=by
 refine bJ hT uq hm ZQ rfl (of_decide_eq_true (by kernel_rfl)) rfl 60 aaZ (fun _=>?_) K pre
 have hz:sQ b N D=0→bB (.agg [.bool false,.mag 0,.mag 0]) (.rat (sQ b N D) (ct (sQ b N D))):=fun h=>by
  rw[h];exact lR
 simp only[aa.all,ax,beq_iff_eq,beq_eq_false_iff_ne,ne_eq,bne_iff_ne,bne_eq_false_iff_eq,Int.toNat_zero]
 refine⟨⟨by omega,by omega⟩,fun hb=>⟨by omega,by omega,hz ?_⟩,fun hb=>?_⟩
 ·rw[iJ.1 (show nl N=0 by omega),Hr]
 have hN0:N≠0:=fun h=>hb (by rw[iJ.2 h];rfl)
 have hg:nl (Nat.gcd N D)<2^38:=Nat.lt_of_le_of_lt (gB (Nat.gcd_le_left _ (by omega))) hN
 have hg0:0<Nat.gcd N D:=Nat.gcd_pos_of_pos_left _ (by omega)
 have hl:∀{Y:Nat},nl Y=1→az Y 0=Y:=fun {Y} h=>by
  have:=fJ (N:=Y)
  rw[h,val,val]at this
  simpa using this
 have h1:∀{X Y:Nat},X=N/Nat.gcd N D→Y=D/Nat.gcd N D→Y≠1→bB (.agg [.bool b,.mag X,.mag Y]) (.rat (sQ b N D) (ct (sQ b N D))):=fun eX eY h=>r7 hN0 hD0 eX (by rw[←eY,if_neg h]) zX
 have h2:∀{X Y:Nat},X=N/Nat.gcd N D→Y=D/Nat.gcd N D→Y=1→bB (.agg [.bool b,.mag X,.nil]) (.rat (sQ b N D) (ct (sQ b N D))):=fun eX eY h=>KF.trans (r7 hN0 hD0 eX (by rw[←eY,if_pos h]) zX)
 have i1:∀{Y:Nat},(nl Y:Int)=1→(bif true then((az Y 0:Nat):Int)==(1:Int)else false)=true→Y=1:=fun {Y} h hc=>by
  have:=iL hc
  rw[hl (by omega)]at this
  have:=eq_of_beq this
  omega
 have i2:∀{Y:Nat},(nl Y:Int)=1→(bif true then((az Y 0:Nat):Int)==(1:Int)else false)=false→Y≠1:=fun {Y} h hc h1=>by
  have:=iL hc
  rw[hl (by omega),h1]at this
  simp at this
 have i3:∀{Y:Nat},¬(nl Y:Int)=1→Y≠1:=fun {Y} h h1=>h (by rw[h1];decide)
 have g1:(nl (Nat.gcd N D):Int)=1→(bif false then true else((az (Nat.gcd N D) 0:Nat):Int)!=(1:Int))=false→Nat.gcd N D=1:=fun h hc=>by
  have:=gL hc
  rw[hl (by omega)]at this
  simp at this
  omega
 refine⟨⟨hN,hD⟩,fun hb=>⟨hb,fun _=>⟨⟨hN,hg⟩,⟨hD,hg⟩,?_⟩,fun h=>by simp at h⟩,fun hb=>⟨⟨hb,by omega,by omega⟩,fun hc=>⟨⟨hN,hg⟩,⟨hD,hg⟩,?_⟩,fun hc=>?_⟩⟩
 ·exact⟨fun hb=>⟨⟨hb,by omega,by omega⟩,fun hc=>⟨by omega,by omega,h2 rfl rfl (i1 hb hc)⟩,fun hc=>⟨by omega,by omega,h1 rfl rfl (i2 hb hc)⟩⟩,fun hb=>⟨hb,fun h=>by simp at h,fun _=>⟨by omega,by omega,h1 rfl rfl (i3 hb)⟩⟩⟩
 ·exact⟨fun hb=>⟨⟨hb,by omega,by omega⟩,fun hc=>⟨by omega,by omega,h2 rfl rfl (i1 hb hc)⟩,fun hc=>⟨by omega,by omega,h1 rfl rfl (i2 hb hc)⟩⟩,fun hb=>⟨hb,fun h=>by simp at h,fun _=>⟨by omega,by omega,h1 rfl rfl (i3 hb)⟩⟩⟩
 ·have e:=g1 hb hc
  have eN:N=N/Nat.gcd N D:=by rw[e,Nat.div_one]
  have eD:D=D/Nat.gcd N D:=by rw[e,Nat.div_one]
  exact⟨fun hb=>⟨⟨hb,by omega,by omega⟩,fun hc=>⟨by omega,by omega,h2 eN eD (i1 hb hc)⟩,fun hc=>⟨by omega,by omega,h1 eN eD (i2 hb hc)⟩⟩,fun hb=>⟨hb,fun h=>by simp at h,fun _=>⟨by omega,by omega,h1 eN eD (i3 hb)⟩⟩⟩
theorem XR {n:Int} (h1:-2^63≤n) (h2:n<2^63) (K:Nat) (pre:aC):aB P zg K [.int .i64 n] pre (aK (.tuple [.mag n.natAbs,.bool (decide (n<0))]) []):=by
 refine bJ hT uq hm aiQ rfl (of_decide_eq_true (by kernel_rfl)) rfl 60 S3 (fun _=>?_) K pre
 simp only[aa.all,ax,decide_eq_true_eq,decide_eq_false_iff_not]
 refine⟨fun hb=>?_,fun hb=>?_⟩
 ·have e:IntKind.i64.wrap (n+1)=n+1:=wrap_i64 (by omega) (by omega)
  have e1:IntKind.i64.wrap (0-(n+1))=-n-1:=by rw[wrap_i64 (by omega) (by omega)];omega
  have e2:IntKind.u64.wrap (-n-1)=-n-1:=bN (by omega) (by omega)
  have e3:IntKind.u64.wrap (-n-1+1)=((n.natAbs:Nat):Int):=by rw[bN (by omega) (by omega)];omega
  rw[e,e1,e2,e3]
  exact⟨by omega,dc (by rw[Int.toNat_natCast]),fV (by simp[hb]),trivial⟩
 ·have e3:IntKind.u64.wrap n=((n.natAbs:Nat):Int):=by rw[bN (by omega) (by omega)];omega
  rw[e3]
  exact⟨by omega,dc (by rw[Int.toNat_natCast]),fV (by simp[hb]),trivial⟩
theorem Cg {a b:Nat}:cA a b=0↔a=b:=by unfold cA;split<;>(try split)<;>omega
theorem J6 {q r:Rat} {n m:Nat} (hn:n<2^44) (hm':m<2^44) (K:Nat) (pre:aC):aB P y9 K [.rat q n,.rat r m] pre (aK (.bool (decide (q=r))) []):=by
 refine jj fun⟨hs1,hs2,_⟩=>?_
 obtain⟨a1,a2,a3⟩:=Sz.iK hs1 hn
 obtain⟨b1,b2,b3⟩:=Sz.iK hs2 hm'
 refine bJ hT uq hm UI rfl (of_decide_eq_true (by kernel_rfl)) rfl 60 aiE (fun _=>?_) K pre
 simp only[aa.all,ax]
 refine⟨fun hb=>⟨fun hc=>⟨⟨by omega,by omega,hb,by omega,by omega,a1,b1,hc,by omega,by omega,a3,b3⟩,fV ?_⟩,fun hc=>⟨⟨by omega,by omega,hb,by omega,by omega,a1,b1,hc⟩,fV ?_⟩⟩,fun hb=>⟨fun h=>by simp at h,fun _=>⟨⟨by omega,by omega,hb,trivial⟩,fV ?_⟩⟩⟩
 ·have h1:=eq_of_beq hb
  have h2:=Cg.1 (eq_of_beq (iL hc))
  rw[cond_true]
  exact(decide_eq_decide (p:=_=(0:Int)) (q:=q=r)).2 ⟨fun h=>pH.2 ⟨h1,h2,Cg.1 h⟩,fun h=>Cg.2 (pH.1 h).2.2⟩
 ·have h2:=iL hc
  refine(decide_eq_false fun h=>?_).symm
  rw[Cg.2 (pH.1 h).2.1]at h2
  simp at h2
 ·refine(decide_eq_false fun h=>?_).symm
  rw[(pH.1 h).1]at hb
  simp at hb
theorem Hf {q:Rat} {n:Nat} (K:Nat) (pre:aC):aB P qf K [.rat q n] pre (aK (.int .i64 (eG q)) []):=by
 refine bJ hT uq hm aif rfl (of_decide_eq_true (by kernel_rfl)) rfl 60 aj4 (fun _=>?_) K pre
 simp only[aa.all,ax,beq_iff_eq,beq_eq_false_iff_ne,ne_eq]
 refine⟨by omega,fun hb=>bw ?_,fun hb=>⟨by omega,fun hc=>bw ?_,fun hc=>bw ?_⟩⟩
 ·have h0:q=0:=pV.1 (iJ.1 (by omega))
  subst h0
  rfl
 ·have:=of_decide_eq_true hc
  unfold eG;rw[if_pos this]
 ·have h1:=of_decide_eq_false hc
  have h0:q≠0:=fun h=>hb (by rw[h];rfl)
  unfold eG;rw[if_neg h1,if_pos (Qr h0 h1)]
theorem akm {q:Rat} {n:Nat} (K:Nat) (pre:aC):aB P sW K [.rat q n] pre (aK (.rat (-q) n) []):=by
 refine jj fun⟨hs1,_⟩=>?_
 have hs1:Sz q n:=hs1
 have hs2:=hs1.neg
 have e1:(-q).num.natAbs=q.num.natAbs:=by rw[Rat.neg_num,Int.natAbs_neg]
 have e2:(-q).den=q.den:=Rat.neg_den q
 refine bJ hT uq hm afi rfl (of_decide_eq_true (by kernel_rfl)) rfl 60 aic (fun _=>?_) K pre
 simp only[aa.all,ax]
 refine⟨fun hb=>⟨⟨by omega,hb,by omega,by omega⟩,⟨by omega,by omega⟩,by omega,rO hs2 ?_ e1.symm (by rw[e2])⟩,fun hb=>⟨⟨by omega,hb,by omega⟩,⟨by omega,by omega⟩,by omega,rO hs2 ?_ e1.symm (by rw[e2])⟩⟩
 ·have hq:¬q<0:=by simpa using hb
  rw[cond_true]
  have h1:¬q.num<0:=fun h=>hq (iB.2 h)
  exact((decide_eq_decide (p:=-q<0) (q:=(nl q.num.natAbs:Int)>0)).2 (by
   rw[iB,Rat.neg_num]
   have:=fY (N:=q.num.natAbs)
   omega)).symm
 ·have hq:q<0:=by simpa using hb
  have:=iB.1 hq
  exact(decide_eq_false (p:=-q<0) (by rw[iB,Rat.neg_num];omega)).symm
def D0 (g:Rat→Nat→cJ):Spec:=bC fun l=>match l with
 |[.rat q n]=>some (g q n)
 |_=>none
theorem E4 {f:FuncId} {g:Rat→Nat→cJ} (h:∀{q:Rat} {n:Nat} K,aB P f K [.rat q n] [] (g q n)):∀K args pre r,D0 g K args pre=some r→aB P f K args pre r:=by
 refine bV fun K args r hk hs _=>?_
 split at hs
 ·simp only[Option.some.injEq]at hs
  subst hs
  exact h K
 ·simp at hs
def P3:Spec:=D0 fun q _=>aK (.mag q.den) []
theorem Vj:∀K args pre r,P3 K args pre=some r→aB P Bh K args pre r:=E4 fun K=>St K []
def PY:Spec:=D0 fun q _=>aK (.int .i64 (eG q)) []
theorem ajF:∀K args pre r,PY K args pre=some r→aB P qf K args pre r:=E4 fun K=>Hf K []
def G9:Spec:=D0 fun q n=>aK (.rat (-q) n) []
theorem Oc:∀K args pre r,G9 K args pre=some r→aB P sW K args pre r:=E4 fun K=>akm K []
def O9:Spec:=bC fun l=>match l with
 |[.int .i64 n]=>some (aK (.tuple [.mag n.natAbs,.bool (decide (n<0))]) [-2^63≤n,n<2^63])
 |_=>none
theorem aaJ:∀K args pre r,O9 K args pre=some r→aB P zg K args pre r:=by
 refine bV fun K args r hk hs _=>?_
 split at hs
 ·simp only[Option.some.injEq]at hs
  subst hs
  exact fun need=>XR need.1 need.2 K [] trivial
 ·simp at hs
def P1:Spec:=bC fun l=>match l with
 |[.bool b,x,y]=>match iD x,iD y with
  |some N,some D=>some (aK (.rat (sQ b N D) (ct (sQ b N D))) [nl N<2^38,nl D<2^38,D≠0])
  |_,_=>none
 |_=>none
theorem alc:∀K args pre r,P1 K args pre=some r→aB P yO K args pre r:=by
 refine bV fun K args r hk hs _=>?_
 split at hs
 ·split at hs
  ·rename_i N D h1 h2
   simp only[Option.some.injEq]at hs
   subst hs
   exact fun need=>gb (ala need.1 need.2.1 need.2.2 K []) hk ⟨.refl _,kU h1,kU h2,trivial⟩ [] trivial
  ·simp at hs
 ·simp at hs
end Go.Am.B
