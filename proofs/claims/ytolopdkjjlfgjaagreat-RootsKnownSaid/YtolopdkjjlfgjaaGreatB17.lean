/- rational.den, parts, reduce, Same, Sign, copied, size. -/
import Derived.Test.YtolopdkjjlfgjaaGreatB16
set_option linter.unusedVariables false
namespace Go.Am.B
open Go Go.Am.N AV Proofs.Tryz IntKind
theorem Rh:bC 120 f120:=bD func120
theorem YI:bC 116 f116:=bD func116
theorem QN:bC 133 f133:=bD func133
theorem aeF:bC 110 f110:=bD func110
theorem aaI:bC 65 f65:=bD func65
theorem Up:bC 166 f166:=bD func166
theorem Xm:bC 134 f134:=bD func134
def GR:bG:=(126,cw (mW El))::(159,cw (mW BX))::(165,C1)::(167,cw (jH Fp))::(168,cw (jH FM))::(169,cw (jH Fo))::(132,D9)::(117,E4)::(181,Ai)::(170,Es)::[]
theorem oT:cm P GR:=aM MN (aM afo (aM J3 (aM Jx (aM HA (aM Kz (aM K5 (aM Pc (aM Gm (aM Ll cK)))))))))
theorem UJ {q:Rat} {n:Nat}:cy T GR [6] 60 f120 (aJ f120) ⟨bf 0 [.rat q n],[],0⟩=
  let c1:Nat:=if q.den=1 then 0 else q.den;some (af.aj [(0:Nat)<1] (af.fork ((↑(nl c1):Int)==0) (af.leaf au.ret [mag 1]) (af.aj [(0:Nat)<1] (af.leaf au.ret [mag c1])))):=ah
theorem acX {q:Rat} {n:Nat}:cy T GR [9,14,18] 60 f116 (aJ f116) ⟨bf 0 [.rat q n],[],0⟩=
  let c11:AV:=int .u64 (0:Int);let c8:Nat:=q.num.natAbs;let c4:Prop:=0<1;let c2:Nat:=if q.den=1 then 0 else q.den;let c10:AV:=int .u64 (↑c8:Int);let c9:Int:=(↑(nl c2):Int);let c6:Int:=u64.wrap (↑(aE c2 (Int.toNat (0:Int))):Int);let c5:af (List AV):=af.leaf au.ret [c11,c11,AV.bool false];let c3:Int:=(↑(nl c8):Int);let c7:Bool:=decide (c3>1);let c1:af (List AV):=af.aj [c4] (af.fork (c9==1) (af.aj [c4,(0:Int)<=0/\Int.toNat (0:Int)<nl c2] (af.aj [c4,nl c8<=2] (af.leaf au.ret [c10,int .u64 c6,AV.bool (c6 !=(0:Int))]))) (af.aj [c4,nl c8<=2] (af.leaf au.ret [c10,int .u64 (1:Int),AV.bool true])));some (af.fork c7 (af.aj [c4,c7=true] (af.fork true c5 c1)) (af.aj [c4,c7=false,c4] (af.fork (bif false then true else decide (c9>1)) c5 c1))):=ah
theorem acz {q r:Rat} {n m:Nat}:cy T GR [10,17] 60 f110 (aJ f110) ⟨bf 0 [.rat q n,.rat r m],[],0⟩=
  let c9:Nat:=q.num.natAbs;let c8:Nat:=r.num.natAbs;let c5:Nat:=2^40;let c4:Bool:=decide (q<0)==decide (r<0);let c3:Nat:=if q.den=1 then 0 else q.den;let c2:Nat:=if r.den=1 then 0 else r.den;let c1:Prop:=0<1;let c10:List Prop:=[c1,c1,nl c3<c5,nl c2<c5];let c7:af (List AV):=af.leaf au.ret [AV.bool (bif true then decide (c3=c2)else false)];let c6:Bool:=bif true then decide (c9=c8)else false;some (af.fork c4 (af.fork c6 (af.aj (c1::c1::(c4=true)::c1::c1::(nl c9<c5)::(nl c8<c5)::(c6=true)::c10) c7) (af.aj [c1,c1,c4=true,c1,c1,nl c9<c5,nl c8<c5,c6=false] (af.leaf au.ret [AV.bool false]))) (af.fork false (af.aj (c1::c1::(c4=false)::(false=true)::c10) c7) (af.aj [c1,c1,c4=false,false=false] (af.leaf au.ret [AV.bool false])))):=ah
theorem YY {q:Rat} {n:Nat}:cy T GR [3,8] 60 f65 (aJ f65) ⟨bf 0 [.rat q n],[],0⟩=
  some (af.aj [(0:Nat)<1,nl q.num.natAbs<2^40] (af.fork ((↑(bU q.num.natAbs):Int)==0) (af.leaf au.ret [int .i64 (0:Int)]) (af.aj [(0:Nat)<1] (af.fork (decide (q<0)) (af.leaf au.ret [int .i64 (-1:Int)]) (af.leaf au.ret [int .i64 (1:Int)]))))):=ah
theorem aab {q:Rat} {n:Nat}:cy T GR [] 60 f166 (aJ f166) ⟨bf 0 [.rat q n],[],0⟩=
  let c2:Nat:=if q.den=1 then 0 else q.den;let c1:Prop:=0<1;some (af.aj [c1,c1,nl q.num.natAbs<2^40,c1,nl c2<2^40,c1] (af.aj [c1] (af.leaf au.ret [agg [AV.bool (decide (q<0)),mag q.num.natAbs,mag c2]]))):=ah
theorem afv {n:Int}:cy T GR [4] 60 f134 (aJ f134) ⟨bf 0 [.int .i64 n],[],0⟩=
  let c1:Int:=i64.wrap ((0:Int)-n);let c2:Int:=u64.wrap (if n<c1 then c1 else n);some (af.fork (n==(-9223372036854775808:Int)) (af.aj [(0:Int)<=9223372036854775808/\(9223372036854775808:Int)<2^64] (af.leaf au.ret [mag 9223372036854775808])) (af.aj [(0:Int)<=c2/\c2<2^64] (af.leaf au.ret [mag c2.toNat]))):=ah
abbrev mh:List Nat:=[0,1,2,6]
abbrev qw (b:Bool) (N D:Nat):List AV:=[.bool b,.mag N,.mag D,.ptr 0 0 3 0 []]
abbrev rO:aG:=[(0,⟨false,true,3,1,fun _=>.rat 0 1⟩)]
theorem aeR {b:Bool} {N D:Nat}:aK T GR [11,15] 60 mh ((before (aJ f133) [1,1,1,1]).take 2) ⟨bf 0 [.bool b,.mag N,.mag D],[],0⟩=
  let c6:Nat:=2^40;let c5:AV:=rat 0 1;let c4:Bool:=(↑(bU N):Int)==0;let c3:List AV:=[AV.bool b,mag N,mag D,ptr 0 0 3 0 []];let c2:af (List AV×aG):=af.leaf au.normal (c3,[(0,aC.mk false true 3 1 fun x=>c5)]);let c1:af (List AV×aG):=af.aj [(0:Nat)<1] (af.leaf au.ret (c3,[(0,aC.mk false true 3 1 fun j=>if(j==0)=true then dM (agg c5.kids)else c5)]));some (af.fork c4 (af.aj [nl N<c6,c4=true] (af.fork true c1 c2)) (af.aj [nl N<c6,c4=false,nl D<c6] (af.fork (bif false then true else(↑(bU D):Int)==0) c1 c2))):=ah
theorem Oz {b:Bool} {N D:Nat}:nS T f133 .ret ⟨aH mh (qw b N D),[(0,⟨false,true,3,1,fun j=>if j=0 then dM (.agg (AV.kids (.rat 0 1)))else .rat 0 1⟩)],1⟩=
  some (af.aj [(0:Nat)<1] (af.leaf au.ret [agg [AV.bool false,mag 0,mag 0]])):=ah
theorem aar {b:Bool} {N D:Nat} {q:Rat} {k:Nat}:nS T f133 .ret ⟨aH mh (qw b N D),[(0,⟨false,true,3,1,fun j=>if j=0 then dM (.rat q k)else .rat 0 1⟩)],1⟩=
  some (af.aj [(0:Nat)<1] (af.leaf au.ret [rat q k])):=ah
theorem abk {b:Bool} {N D:Nat}:aK T GR [20,24] 60 mh (((before (aJ f133) [1,1,1,1]).drop 2).take 1) ⟨aH mh (qw b N D),rO,1⟩=
  let c6:AV:=rat 0 1;let c5:Rat:=sQ b (↑N:Int).toNat (↑D:Int).toNat;let c4:Bool:=decide ((↑(nl N):Int)<=2);let c3:List AV:=[AV.bool b,mag N,mag D,ptr 0 0 3 0 []];let c2:af (List AV×aG):=af.leaf au.normal (c3,[(0,aC.mk false true 3 1 fun x=>c6)]);let c1:af (List AV×aG):=af.aj [nl N<=2,nl D<=2,(0:Int)<=(↑N:Int)/\(↑N:Int)<2^64,(0:Int)<(↑D:Int)/\(↑D:Int)<2^64,(0:Nat)<1] (af.leaf au.ret (c3,[(0,aC.mk false true 3 1 fun j=>if(j==0)=true then dM (rat c5 (dQ c5))else c6)]));some (af.fork c4 (af.aj [c4=true] (af.fork (bif true then decide ((↑(nl D):Int)<=2)else false) c1 c2)) (af.aj [c4=false] (af.fork false c1 c2))):=ah
theorem adr {b:Bool} {N D:Nat}:aK T GR [36] 60 mh ((before (aJ f133) [1,1,1,1]).drop (2+1)) ⟨aH mh (qw b N D),rO,1⟩=
  let c5:Int:=(↑(bU (N.gcd D)):Int);let c3:AV:=ptr 0 0 3 0 [];let c2:Nat×aC:=(0,aC.mk false true 3 1 fun x=>rat 0 1);let c1:Nat:=2^40;let c4:Prop:=nl (N.gcd D)<c1;some (af.aj [nl N<c1,nl D<c1] (af.aj [c4] (af.fork (decide (c5>1)) (af.aj [nl N<c1,c4] (af.aj [nl D<c1,c4] (af.leaf au.normal ([AV.bool b,mag (N/N.gcd D),mag (D/N.gcd D),c3],[c2])))) (af.leaf au.normal ([AV.bool b,mag N,mag D,c3],[c2]))))):=ah
theorem Zk {b:Bool} {N D:Nat}:dJ T GR [58,63] 60 f133 [part (aJ f133) [1,1,1,1]] ⟨aH mh (qw b N D),rO,1⟩=
  let c6:Nat:=D+0;let c5:List Prop:=[(0:Nat)<1];let c4:Nat:=2^40;let c3:Bool:=(↑(nl c6):Int)==1;let c2:af (List AV):=af.aj c5 (af.aj c5 (af.leaf au.ret [agg [AV.bool b,mag (N+0),nil]]));let c1:af (List AV):=af.aj c5 (af.aj c5 (af.leaf au.ret [agg [AV.bool b,mag (N+0),mag c6]]));some (af.aj [nl N<c4,(0:Nat)<c4,nl D<c4,(0:Nat)<c4] (af.fork c3 (af.aj [c3=true,(0:Int)<=0/\Int.toNat (0:Int)<nl c6] (af.fork (bif true then(↑(aE c6 (Int.toNat (0:Int))):Int)==1 else false) c2 c1)) (af.aj [c3=false] (af.fork false c2 c1)))):=ah
theorem kP {a b v:Bool} (h:(bif true then a else b)=v):a=v:=h
theorem Dg {N:Nat}:bU N=0↔N=0:=by unfold bU;split<;>simp_all
theorem acJ {N:Nat}:bU N<=1↔N<=1:=by rw[lK];omega
theorem kA {N:Nat}:nl N=0↔N=0:=by
 constructor
 ·intro h
  rcases Nat.eq_zero_or_pos N with h1|h1
  ·exact h1
  ·have:=iO.2 (show N≠0 by omega);omega
 ·intro h;subst h;rfl
theorem TE {b:Bool} {n:Nat}:sQ b n 0=0:=by unfold sQ;simp
theorem ML {b:Bool} {x:Nat}:bg (.agg [.bool b,.mag x,.nil]) (.agg [.bool b,.mag x,.mag 0]):=mY ⟨.refl _,.refl _,mM,trivial⟩
theorem adY {b:Bool} {N D:Nat} (hN:nl N<2^40) (hD:nl D<2^40) (K:Nat) (pre:aG):aY P 133 K [.bool b,.mag N,.mag D] pre (aT (.rat (sQ b N D) (dQ (sQ b N D))) []):=by
 refine ja hT QN rfl br rfl (fun _ c h0=>?_) K pre
 have hO:∀{v:AV},keys v=[]->jA 1 [(0,(⟨false,true,3,1,fun j=>if j=0 then v else .rat 0 1⟩:aC))]:=fun h=>⟨⟨aa,fun i _=>by show keys (if i=0 then _ else _)=[];split;exact h;rfl⟩,trivial⟩
 have hO':jA 1 rO:=⟨⟨aa,fun _ _=>rfl⟩,trivial⟩
 have hz:sQ b N D=0->bg (.agg [.bool false,.mag 0,.mag 0]) (.rat (sQ b N D) (dQ (sQ b N D))):=fun h=>by
  rw[h];exact pD
 refine aA.hole [1,1,1,1] ah (aI.chunk 2 (aI.bM hT oT hm 60 mh aeR ah ?_))
 simp only[af.all,aF,beq_iff_eq,beq_eq_false_iff_ne,ne_eq]
 -- behind the first questions
 have rest:∀{s':aL},N≠0->D≠0->bp mh s'=some (qw b N D,rO)->
   aI P c f133.ntmps ((before (aJ f133) [1,1,1,1]).drop 2) s' (fM (fun s'=>aA P c f133.ntmps (part (aJ f133) [1,1,1,1]) s' (fM (fun s'=>aI P c f133.ntmps (behind (aJ f133) [1,1,1,1]) s' (gv c (Fin T f133 (.rat (sQ b N D) (dQ (sQ b N D)))))) (gv c (Fin T f133 (.rat (sQ b N D) (dQ (sQ b N D)))))))
    (gv c (Fin T f133 (.rat (sQ b N D) (dQ (sQ b N D)))))):=by
  intro s' hN0 hD0 hv
  have last:∀{s':aL} {X Y:Nat},nl X<2^40->nl Y<2^40->X=N/Nat.gcd N D->Y=D/Nat.gcd N D->bp mh s'=some (qw b X Y,rO)->
    aA P c f133.ntmps (part (aJ f133) [1,1,1,1]) s' (fM (fun s'=>aI P c f133.ntmps (behind (aJ f133) [1,1,1,1]) s' (gv c (Fin T f133 (.rat (sQ b N D) (dQ (sQ b N D)))))) (gv c (Fin T f133 (.rat (sQ b N D) (dQ (sQ b N D)))))):=by
   intro s' X Y hX hY eX eY hv
   refine aA.mono (Q:=fM (fun s'=>aI P c f133.ntmps [] s' (gv c (Fin T f133 (.rat (sQ b N D) (dQ (sQ b N D)))))) (gv c (Fin T f133 (.rat (sQ b N D) (dQ (sQ b N D)))))) ?_ fun e s' h=>by cases e<;>exact h
   refine aI.lU (l:=[part (aJ f133) [1,1,1,1]]) hT oT hm 60 hv (h0 _) rfl hO' Zk ah rfl ?_
   simp only[af.all,aF,beq_iff_eq,beq_eq_false_iff_ne,ne_eq,Nat.add_zero,Int.toNat_zero]
   have hY0:Y≠0:=by rw[eY];exact Nat.pos_iff_ne_zero.1 (Nat.div_pos (Nat.le_of_dvd aa (Nat.gcd_dvd_right _ _)) (Nat.gcd_pos_of_pos_left _ aa))
   have h1:Y≠1->bg (.agg [.bool b,.mag X,.mag Y]) (.rat (sQ b N D) (dQ (sQ b N D))):=fun h=>wm hN0 hD0 eX (by rw[<-eY,if_neg h]) zM
   have h2:Y=1->bg (.agg [.bool b,.mag X,.nil]) (.rat (sQ b N D) (dQ (sQ b N D))):=fun h=>ML.trans (wm hN0 hD0 eX (by rw[<-eY,if_pos h]) zM)
   have hl:nl Y=1->aE Y 0=Y:=fun h=>by
    have:=iE (N:=Y)
    rw[h,val,val]at this
    simpa using this
   refine⟨⟨hX,aa,hY,aa⟩,fun hb=>⟨⟨hb,aa,aa⟩,fun hc=>⟨aa,aa,h2 ?_⟩,fun hc=>⟨aa,aa,h1 ?_⟩⟩,fun hb=>⟨hb,fun h=>by simp at h,fun _=>⟨aa,aa,h1 ?_⟩⟩⟩
   ·have:=kP hc
    rw[hl aa]at this
    have:=eq_of_beq this
    omega
   ·have:=kP hc
    rw[hl aa]at this
    intro h
    rw[h]at this
    simp at this
   ·intro h
    rw[h]at hb
    exact hb (by decide)
  refine aI.chunk 1 (aI.gC hT oT hm 60 hv (h0 _) rfl hO' mh abk ah rfl ?_)
  simp only[af.all,aF,bI,bO,bJ,beq_iff_eq]
  have long:∀{s':aL},bp mh s'=some (qw b N D,rO)->aI P c f133.ntmps (((before (aJ f133) [1,1,1,1]).drop 2).drop 1) s' (fM (fun s'=>aA P c f133.ntmps (part (aJ f133) [1,1,1,1]) s' (fM (fun s'=>aI P c f133.ntmps (behind (aJ f133) [1,1,1,1]) s' (gv c (Fin T f133 (.rat (sQ b N D) (dQ (sQ b N D)))))) (gv c (Fin T f133 (.rat (sQ b N D) (dQ (sQ b N D)))))))
    (gv c (Fin T f133 (.rat (sQ b N D) (dQ (sQ b N D)))))):=by
   intro s' hv
   rw[List.drop_drop]
   refine aI.gC hT oT hm 60 hv (h0 _) rfl hO' mh adr ah rfl ?_
   simp only[af.all,aF,bI,bO]
   have hg:nl (Nat.gcd N D)<2^40:=Nat.lt_of_le_of_lt (jt (Nat.gcd_le_left _ aa)) hN
   have hg0:0<Nat.gcd N D:=Nat.gcd_pos_of_pos_left _ aa
   refine⟨⟨hN,hD⟩,hg,fun hb=>⟨⟨hN,hg⟩,⟨hD,hg⟩,fun s' hv=>last (Nat.lt_of_le_of_lt (jt (Nat.div_le_self _ _)) hN) (Nat.lt_of_le_of_lt (jt (Nat.div_le_self _ _)) hD) rfl rfl hv⟩,fun hb s' hv=>?_⟩
   have hg1:Nat.gcd N D=1:=by
    have:bU (Nat.gcd N D)<=1:=aa
    have:=acJ.1 this
    omega
   exact last hN hD (by rw[hg1,Nat.div_one]) (by rw[hg1,Nat.div_one]) hv
  refine⟨fun hb=>⟨hb,fun hc=>⟨?_,fun s' hv=>?_⟩,fun hc s' hv=>cU (long hv)⟩,fun hb=>⟨hb,fun h=>by simp at h,fun _ s' hv=>cU (long hv)⟩⟩
  ·have h2:nl D<=2:=by have:=of_decide_eq_true (kP hc);omega
   have:=ru (show nl N<=2 by omega)
   have:=ru h2
   exact⟨aa,h2,aa,aa,aa⟩
  ·refine gO (gO (xV aar hv (h0 _) rfl (hO rfl) ⟨by simp[aF],?_⟩))
   exact .refl _
 refine⟨fun hb=>⟨⟨hN,hb⟩,fun _=>⟨aa,fun s' hv=>gO (gO (xV Oz hv (h0 _) rfl (hO rfl) ⟨by simp[aF],hz ?_⟩))⟩,fun h=>by simp at h⟩,fun hb=>⟨⟨hN,hb,hD⟩,fun hc=>⟨aa,fun s' hv=>gO (gO (xV Oz hv (h0 _) rfl (hO rfl) ⟨by simp[aF],hz ?_⟩))⟩,fun hc s' hv=>cU (rest ?_ ?_ hv)⟩⟩
 ·rw[Dg.1 (show bU N=0 by omega),D8]
 ·have:=eq_of_beq (jC hc)
  rw[Dg.1 (show bU D=0 by omega),TE]
 ·intro h;rw[h]at hb;exact hb (by decide)
 ·intro h
  have:=jC hc
  rw[h]at this
  simp[bU]at this
end Go.Am.B
