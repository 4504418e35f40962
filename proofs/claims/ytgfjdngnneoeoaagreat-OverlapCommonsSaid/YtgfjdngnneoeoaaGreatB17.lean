/- rational.den, parts, reduce, Same, Sign, copied, size. -/
import Derived.Test.YtgfjdngnneoeoaaGreatB16
set_option linter.unusedVariables false
namespace Go.Am.B
open Go Go.Am.N AV Proofs.Tryz IntKind
theorem RR:aW 88 f88:=aN func88
theorem agn:aW 85 f85:=aN func85
theorem YB:aW 80 f80:=aN func80
theorem Ts:aW 35 f35:=aN func35
theorem X9:aW 84 f84:=aN func84
theorem TB:aW 128 f128:=aN func128
theorem Vh:aW 81 f81:=aN func81
def GR:aU:=(130,bY (lW Mk))::(131,bY (lW yg))::(86,DK)::(132,bY (iN IP))::(133,bY (iN C8))::(134,bY (iN Au))::(82,DS)::(83,C7)::(169,zD)::(135,Ej)::[]
theorem mK:aZ P GR:=aE P4 (aE Ox (aE Mb (aE V7 (aE Hh (aE HW (aE MK (aE IB (aE BO (aE L7 bA)))))))))
theorem acY {q:Rat} {n:Nat}:bD T GR [6] 60 f88 (aF f88) ⟨aT 0 [.rat q n],[],0⟩=
  let c1:Nat:=if q.den=1 then 0 else q.den;some (ag.aj [(0:Nat)<1] (ag.fork ((↑(nl c1):Int)==0) (ag.leaf ak.ret [mag 1]) (ag.aj [(0:Nat)<1] (ag.leaf ak.ret [mag c1])))):=ah
theorem TJ {q:Rat} {n:Nat}:bD T GR [9,14,18] 60 f85 (aF f85) ⟨aT 0 [.rat q n],[],0⟩=
  let c11:AV:=int .u64 (0:Int);let c8:Nat:=q.num.natAbs;let c4:Prop:=0<1;let c2:Nat:=if q.den=1 then 0 else q.den;let c10:AV:=int .u64 (↑c8:Int);let c9:Int:=(↑(nl c2):Int);let c6:Int:=u64.wrap (↑(aB c2 (Int.toNat (0:Int))):Int);let c5:ag (List AV):=ag.leaf ak.ret [c11,c11,AV.bool false];let c3:Int:=(↑(nl c8):Int);let c7:Bool:=decide (c3>1);let c1:ag (List AV):=ag.aj [c4] (ag.fork (c9==1) (ag.aj [c4,(0:Int)<=0/\Int.toNat (0:Int)<nl c2] (ag.aj [c4,nl c8<=2] (ag.leaf ak.ret [c10,int .u64 c6,AV.bool (c6 !=(0:Int))]))) (ag.aj [c4,nl c8<=2] (ag.leaf ak.ret [c10,int .u64 (1:Int),AV.bool true])));some (ag.fork c7 (ag.aj [c4,c7=true] (ag.fork true c5 c1)) (ag.aj [c4,c7=false,c4] (ag.fork (bif false then true else decide (c9>1)) c5 c1))):=ah
theorem Rh {q r:Rat} {n m:Nat}:bD T GR [10,17] 60 f35 (aF f35) ⟨aT 0 [.rat q n,.rat r m],[],0⟩=
  let c9:Nat:=q.num.natAbs;let c8:Nat:=r.num.natAbs;let c5:Nat:=2^40;let c4:Bool:=decide (q<0)==decide (r<0);let c3:Nat:=if q.den=1 then 0 else q.den;let c2:Nat:=if r.den=1 then 0 else r.den;let c1:Prop:=0<1;let c10:List Prop:=[c1,c1,nl c3<c5,nl c2<c5];let c7:ag (List AV):=ag.leaf ak.ret [AV.bool (bif true then decide (c3=c2)else false)];let c6:Bool:=bif true then decide (c9=c8)else false;some (ag.fork c4 (ag.fork c6 (ag.aj (c1::c1::(c4=true)::c1::c1::(nl c9<c5)::(nl c8<c5)::(c6=true)::c10) c7) (ag.aj [c1,c1,c4=true,c1,c1,nl c9<c5,nl c8<c5,c6=false] (ag.leaf ak.ret [AV.bool false]))) (ag.fork false (ag.aj (c1::c1::(c4=false)::(false=true)::c10) c7) (ag.aj [c1,c1,c4=false,false=false] (ag.leaf ak.ret [AV.bool false])))):=ah
theorem aeI {q:Rat} {n:Nat}:bD T GR [3,8] 60 f84 (aF f84) ⟨aT 0 [.rat q n],[],0⟩=
  some (ag.aj [(0:Nat)<1,nl q.num.natAbs<2^40] (ag.fork ((↑(bO q.num.natAbs):Int)==0) (ag.leaf ak.ret [int .i64 (0:Int)]) (ag.aj [(0:Nat)<1] (ag.fork (decide (q<0)) (ag.leaf ak.ret [int .i64 (-1:Int)]) (ag.leaf ak.ret [int .i64 (1:Int)]))))):=ah
theorem ZT {q:Rat} {n:Nat}:bD T GR [] 60 f128 (aF f128) ⟨aT 0 [.rat q n],[],0⟩=
  let c2:Nat:=if q.den=1 then 0 else q.den;let c1:Prop:=0<1;some (ag.aj [c1,c1,nl q.num.natAbs<2^40,c1,nl c2<2^40,c1] (ag.aj [c1] (ag.leaf ak.ret [agg [AV.bool (decide (q<0)),mag q.num.natAbs,mag c2]]))):=ah
theorem adu {n:Int}:bD T GR [4] 60 f81 (aF f81) ⟨aT 0 [.int .i64 n],[],0⟩=
  let c1:Int:=i64.wrap ((0:Int)-n);let c2:Int:=u64.wrap (if n<c1 then c1 else n);some (ag.fork (n==(-9223372036854775808:Int)) (ag.aj [(0:Int)<=9223372036854775808/\(9223372036854775808:Int)<2^64] (ag.leaf ak.ret [mag 9223372036854775808])) (ag.aj [(0:Int)<=c2/\c2<2^64] (ag.leaf ak.ret [mag c2.toNat]))):=ah
abbrev jK:List Nat:=[0,1,2,6]
abbrev oE (b:Bool) (N D:Nat):List AV:=[.bool b,.mag N,.mag D,.ptr 0 0 3 0 []]
abbrev qV:aD:=[(0,⟨false,true,3,1,fun _=>.rat 0 1⟩)]
theorem T0 {b:Bool} {N D:Nat}:aM T GR [11,15] 60 jK ((before (aF f80) [1,1,1,1]).take 2) ⟨aT 0 [.bool b,.mag N,.mag D],[],0⟩=
  let c6:Nat:=2^40;let c5:AV:=rat 0 1;let c4:Bool:=(↑(bO N):Int)==0;let c3:List AV:=[AV.bool b,mag N,mag D,ptr 0 0 3 0 []];let c2:ag (List AV×aD):=ag.leaf ak.normal (c3,[(0,az.mk false true 3 1 fun x=>c5)]);let c1:ag (List AV×aD):=ag.aj [(0:Nat)<1] (ag.leaf ak.ret (c3,[(0,az.mk false true 3 1 fun j=>if(j==0)=true then bK (agg c5.kids)else c5)]));some (ag.fork c4 (ag.aj [nl N<c6,c4=true] (ag.fork true c1 c2)) (ag.aj [nl N<c6,c4=false,nl D<c6] (ag.fork (bif false then true else(↑(bO D):Int)==0) c1 c2))):=ah
theorem Ic {b:Bool} {N D:Nat}:mO T f80 .ret ⟨aH jK (oE b N D),[(0,⟨false,true,3,1,fun j=>if j=0 then bK (.agg (AV.kids (.rat 0 1)))else .rat 0 1⟩)],1⟩=
  some (ag.aj [(0:Nat)<1] (ag.leaf ak.ret [agg [AV.bool false,mag 0,mag 0]])):=ah
theorem Xh {b:Bool} {N D:Nat} {q:Rat} {k:Nat}:mO T f80 .ret ⟨aH jK (oE b N D),[(0,⟨false,true,3,1,fun j=>if j=0 then bK (.rat q k)else .rat 0 1⟩)],1⟩=
  some (ag.aj [(0:Nat)<1] (ag.leaf ak.ret [rat q k])):=ah
theorem NL {b:Bool} {N D:Nat}:aM T GR [20,24] 60 jK (((before (aF f80) [1,1,1,1]).drop 2).take 1) ⟨aH jK (oE b N D),qV,1⟩=
  let c6:AV:=rat 0 1;let c5:Rat:=sQ b (↑N:Int).toNat (↑D:Int).toNat;let c4:Bool:=decide ((↑(nl N):Int)<=2);let c3:List AV:=[AV.bool b,mag N,mag D,ptr 0 0 3 0 []];let c2:ag (List AV×aD):=ag.leaf ak.normal (c3,[(0,az.mk false true 3 1 fun x=>c6)]);let c1:ag (List AV×aD):=ag.aj [nl N<=2,nl D<=2,(0:Int)<=(↑N:Int)/\(↑N:Int)<2^64,(0:Int)<(↑D:Int)/\(↑D:Int)<2^64,(0:Nat)<1] (ag.leaf ak.ret (c3,[(0,az.mk false true 3 1 fun j=>if(j==0)=true then bK (rat c5 (dj c5))else c6)]));some (ag.fork c4 (ag.aj [c4=true] (ag.fork (bif true then decide ((↑(nl D):Int)<=2)else false) c1 c2)) (ag.aj [c4=false] (ag.fork false c1 c2))):=ah
theorem YR {b:Bool} {N D:Nat}:aM T GR [36] 60 jK ((before (aF f80) [1,1,1,1]).drop (2+1)) ⟨aH jK (oE b N D),qV,1⟩=
  let c5:Int:=(↑(bO (N.gcd D)):Int);let c3:AV:=ptr 0 0 3 0 [];let c2:Nat×az:=(0,az.mk false true 3 1 fun x=>rat 0 1);let c1:Nat:=2^40;let c4:Prop:=nl (N.gcd D)<c1;some (ag.aj [nl N<c1,nl D<c1] (ag.aj [c4] (ag.fork (decide (c5>1)) (ag.aj [nl N<c1,c4] (ag.aj [nl D<c1,c4] (ag.leaf ak.normal ([AV.bool b,mag (N/N.gcd D),mag (D/N.gcd D),c3],[c2])))) (ag.leaf ak.normal ([AV.bool b,mag N,mag D,c3],[c2]))))):=ah
theorem Po {b:Bool} {N D:Nat}:cR T GR [58,63] 60 f80 [part (aF f80) [1,1,1,1]] ⟨aH jK (oE b N D),qV,1⟩=
  let c6:Nat:=D+0;let c5:List Prop:=[(0:Nat)<1];let c4:Nat:=2^40;let c3:Bool:=(↑(nl c6):Int)==1;let c2:ag (List AV):=ag.aj c5 (ag.aj c5 (ag.leaf ak.ret [agg [AV.bool b,mag (N+0),nil]]));let c1:ag (List AV):=ag.aj c5 (ag.aj c5 (ag.leaf ak.ret [agg [AV.bool b,mag (N+0),mag c6]]));some (ag.aj [nl N<c4,(0:Nat)<c4,nl D<c4,(0:Nat)<c4] (ag.fork c3 (ag.aj [c3=true,(0:Int)<=0/\Int.toNat (0:Int)<nl c6] (ag.fork (bif true then(↑(aB c6 (Int.toNat (0:Int))):Int)==1 else false) c2 c1)) (ag.aj [c3=false] (ag.fork false c2 c1)))):=ah
theorem jt {a b v:Bool} (h:(bif true then a else b)=v):a=v:=h
theorem Dy {N:Nat}:bO N=0↔N=0:=by unfold bO;split<;>simp_all
theorem W5 {N:Nat}:bO N<=1↔N<=1:=by rw[j5];omega
theorem jX {N:Nat}:nl N=0↔N=0:=by
 constructor
 ·intro h
  rcases Nat.eq_zero_or_pos N with h1|h1
  ·exact h1
  ·have:=gA.2 (show N≠0 by omega);omega
 ·intro h;subst h;rfl
theorem aeZ {b:Bool} {n:Nat}:sQ b n 0=0:=by unfold sQ;simp
theorem Hr {b:Bool} {x:Nat}:bg (.agg [.bool b,.mag x,.nil]) (.agg [.bool b,.mag x,.mag 0]):=cz ⟨.refl _,.refl _,kP,trivial⟩
theorem VX {b:Bool} {N D:Nat} (hN:nl N<2^40) (hD:nl D<2^40) (K:Nat) (pre:aD):aO P 80 K [.bool b,.mag N,.mag D] pre (aI (.rat (sQ b N D) (dj (sQ b N D))) []):=by
 refine ji hT YB rfl aV rfl (fun _ c h0=>?_) K pre
 have hO:∀{v:AV},keys v=[]->iE 1 [(0,(⟨false,true,3,1,fun j=>if j=0 then v else .rat 0 1⟩:az))]:=fun h=>⟨⟨aa,fun i _=>by show keys (if i=0 then _ else _)=[];split;exact h;rfl⟩,trivial⟩
 have hO':iE 1 qV:=⟨⟨aa,fun _ _=>rfl⟩,trivial⟩
 have hz:sQ b N D=0->bg (.agg [.bool false,.mag 0,.mag 0]) (.rat (sQ b N D) (dj (sQ b N D))):=fun h=>by
  rw[h];exact mT
 refine ay.hole [1,1,1,1] ah (aJ.chunk 2 (aJ.bE hT mK hm 60 jK T0 ah ?_))
 simp only[ag.all,au,beq_iff_eq,beq_eq_false_iff_ne,ne_eq]
 -- behind the first questions
 have rest:∀{s':aL},N≠0->D≠0->bC jK s'=some (oE b N D,qV)->
   aJ P c f80.ntmps ((before (aF f80) [1,1,1,1]).drop 2) s' (ej (fun s'=>ay P c f80.ntmps (part (aF f80) [1,1,1,1]) s' (ej (fun s'=>aJ P c f80.ntmps (behind (aF f80) [1,1,1,1]) s' (eG c (Fin T f80 (.rat (sQ b N D) (dj (sQ b N D)))))) (eG c (Fin T f80 (.rat (sQ b N D) (dj (sQ b N D)))))))
    (eG c (Fin T f80 (.rat (sQ b N D) (dj (sQ b N D)))))):=by
  intro s' hN0 hD0 hv
  have last:∀{s':aL} {X Y:Nat},nl X<2^40->nl Y<2^40->X=N/Nat.gcd N D->Y=D/Nat.gcd N D->bC jK s'=some (oE b X Y,qV)->
    ay P c f80.ntmps (part (aF f80) [1,1,1,1]) s' (ej (fun s'=>aJ P c f80.ntmps (behind (aF f80) [1,1,1,1]) s' (eG c (Fin T f80 (.rat (sQ b N D) (dj (sQ b N D)))))) (eG c (Fin T f80 (.rat (sQ b N D) (dj (sQ b N D)))))):=by
   intro s' X Y hX hY eX eY hv
   refine ay.mono (Q:=ej (fun s'=>aJ P c f80.ntmps [] s' (eG c (Fin T f80 (.rat (sQ b N D) (dj (sQ b N D)))))) (eG c (Fin T f80 (.rat (sQ b N D) (dj (sQ b N D)))))) ?_ fun e s' h=>by cases e<;>exact h
   refine aJ.jN (l:=[part (aF f80) [1,1,1,1]]) hT mK hm 60 hv (h0 _) rfl hO' Po ah rfl ?_
   simp only[ag.all,au,beq_iff_eq,beq_eq_false_iff_ne,ne_eq,Nat.add_zero,Int.toNat_zero]
   have hY0:Y≠0:=by rw[eY];exact Nat.pos_iff_ne_zero.1 (Nat.div_pos (Nat.le_of_dvd aa (Nat.gcd_dvd_right _ _)) (Nat.gcd_pos_of_pos_left _ aa))
   have h1:Y≠1->bg (.agg [.bool b,.mag X,.mag Y]) (.rat (sQ b N D) (dj (sQ b N D))):=fun h=>rW hN0 hD0 eX (by rw[<-eY,if_neg h]) uY
   have h2:Y=1->bg (.agg [.bool b,.mag X,.nil]) (.rat (sQ b N D) (dj (sQ b N D))):=fun h=>Hr.trans (rW hN0 hD0 eX (by rw[<-eY,if_pos h]) uY)
   have hl:nl Y=1->aB Y 0=Y:=fun h=>by
    have:=gp (N:=Y)
    rw[h,val,val]at this
    simpa using this
   refine⟨⟨hX,aa,hY,aa⟩,fun hb=>⟨⟨hb,aa,aa⟩,fun hc=>⟨aa,aa,h2 ?_⟩,fun hc=>⟨aa,aa,h1 ?_⟩⟩,fun hb=>⟨hb,fun h=>by simp at h,fun _=>⟨aa,aa,h1 ?_⟩⟩⟩
   ·have:=jt hc
    rw[hl aa]at this
    have:=eq_of_beq this
    omega
   ·have:=jt hc
    rw[hl aa]at this
    intro h
    rw[h]at this
    simp at this
   ·intro h
    rw[h]at hb
    exact hb (by decide)
  refine aJ.chunk 1 (aJ.fu hT mK hm 60 hv (h0 _) rfl hO' jK NL ah rfl ?_)
  simp only[ag.all,au,bz,bF,bw,beq_iff_eq]
  have long:∀{s':aL},bC jK s'=some (oE b N D,qV)->aJ P c f80.ntmps (((before (aF f80) [1,1,1,1]).drop 2).drop 1) s' (ej (fun s'=>ay P c f80.ntmps (part (aF f80) [1,1,1,1]) s' (ej (fun s'=>aJ P c f80.ntmps (behind (aF f80) [1,1,1,1]) s' (eG c (Fin T f80 (.rat (sQ b N D) (dj (sQ b N D)))))) (eG c (Fin T f80 (.rat (sQ b N D) (dj (sQ b N D)))))))
    (eG c (Fin T f80 (.rat (sQ b N D) (dj (sQ b N D)))))):=by
   intro s' hv
   rw[List.drop_drop]
   refine aJ.fu hT mK hm 60 hv (h0 _) rfl hO' jK YR ah rfl ?_
   simp only[ag.all,au,bz,bF]
   have hg:nl (Nat.gcd N D)<2^40:=Nat.lt_of_le_of_lt (ic (Nat.gcd_le_left _ aa)) hN
   have hg0:0<Nat.gcd N D:=Nat.gcd_pos_of_pos_left _ aa
   refine⟨⟨hN,hD⟩,hg,fun hb=>⟨⟨hN,hg⟩,⟨hD,hg⟩,fun s' hv=>last (Nat.lt_of_le_of_lt (ic (Nat.div_le_self _ _)) hN) (Nat.lt_of_le_of_lt (ic (Nat.div_le_self _ _)) hD) rfl rfl hv⟩,fun hb s' hv=>?_⟩
   have hg1:Nat.gcd N D=1:=by
    have:bO (Nat.gcd N D)<=1:=aa
    have:=W5.1 this
    omega
   exact last hN hD (by rw[hg1,Nat.div_one]) (by rw[hg1,Nat.div_one]) hv
  refine⟨fun hb=>⟨hb,fun hc=>⟨?_,fun s' hv=>?_⟩,fun hc s' hv=>cF (long hv)⟩,fun hb=>⟨hb,fun h=>by simp at h,fun _ s' hv=>cF (long hv)⟩⟩
  ·have h2:nl D<=2:=by have:=of_decide_eq_true (jt hc);omega
   have:=pG (show nl N<=2 by omega)
   have:=pG h2
   exact⟨aa,h2,aa,aa,aa⟩
  ·refine fA (fA (zA Xh hv (h0 _) rfl (hO rfl) ⟨by simp[au],?_⟩))
   exact .refl _
 refine⟨fun hb=>⟨⟨hN,hb⟩,fun _=>⟨aa,fun s' hv=>fA (fA (zA Ic hv (h0 _) rfl (hO rfl) ⟨by simp[au],hz ?_⟩))⟩,fun h=>by simp at h⟩,fun hb=>⟨⟨hN,hb,hD⟩,fun hc=>⟨aa,fun s' hv=>fA (fA (zA Ic hv (h0 _) rfl (hO rfl) ⟨by simp[au],hz ?_⟩))⟩,fun hc s' hv=>cF (rest ?_ ?_ hv)⟩⟩
 ·rw[Dy.1 (show bO N=0 by omega),BS]
 ·have:=eq_of_beq (iD hc)
  rw[Dy.1 (show bO D=0 by omega),aeZ]
 ·intro h;rw[h]at hb;exact hb (by decide)
 ·intro h
  have:=iD hc
  rw[h]at this
  simp[bO]at this
end Go.Am.B
