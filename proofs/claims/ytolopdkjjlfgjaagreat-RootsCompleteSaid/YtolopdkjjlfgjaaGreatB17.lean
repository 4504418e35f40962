/- rational.den, parts, reduce, Same, Sign, copied, size. -/
import Derived.Test.YtolopdkjjlfgjaaGreatB16
set_option linter.unusedVariables false
namespace Go.Am.B
open Go Go.Am.N AV Proofs.Tryz IntKind
theorem X1:bu 120 f120:=bz func120
theorem aei:bu 116 f116:=bz func116
theorem S5:bu 133 f133:=bz func133
theorem abY:bu 110 f110:=bz func110
theorem XE:bu 65 f65:=bz func65
theorem Tp:bu 166 f166:=bz func166
theorem Ys:bu 134 f134:=bz func134
def GR:bB:=(126,b7 (mT Gw))::(159,b7 (mT Bg))::(165,D6)::(167,b7 (jq Oj))::(168,b7 (jq CZ))::(169,b7 (jq EC))::(132,BW)::(117,Fa)::(181,zB)::(170,Fw)::[]
theorem ng:bT P GR:=aN Uj (aN O4 (aN MJ (aN abw (aN Nw (aN Gj (aN Mt (aN G3 (aN Ch (aN NT ct)))))))))
theorem UR {q:Rat} {n:Nat}:cq T GR [6] 60 f120 (aG f120) ⟨aV 0 [.rat q n],[],0⟩=
  let c1:Nat:=if q.den=1 then 0 else q.den;some (af.aj [(0:Nat)<1] (af.fork ((↑(nl c1):Int)==0) (af.leaf ak.ret [mag 1]) (af.aj [(0:Nat)<1] (af.leaf ak.ret [mag c1])))):=ag
theorem adM {q:Rat} {n:Nat}:cq T GR [9,14,18] 60 f116 (aG f116) ⟨aV 0 [.rat q n],[],0⟩=
  let c11:AV:=int .u64 (0:Int);let c8:Nat:=q.num.natAbs;let c4:Prop:=0<1;let c2:Nat:=if q.den=1 then 0 else q.den;let c10:AV:=int .u64 (↑c8:Int);let c9:Int:=(↑(nl c2):Int);let c6:Int:=u64.wrap (↑(aB c2 (Int.toNat (0:Int))):Int);let c5:af (List AV):=af.leaf ak.ret [c11,c11,AV.bool false];let c3:Int:=(↑(nl c8):Int);let c7:Bool:=decide (c3>1);let c1:af (List AV):=af.aj [c4] (af.fork (c9==1) (af.aj [c4,(0:Int)<=0/\Int.toNat (0:Int)<nl c2] (af.aj [c4,nl c8<=2] (af.leaf ak.ret [c10,int .u64 c6,AV.bool (c6 !=(0:Int))]))) (af.aj [c4,nl c8<=2] (af.leaf ak.ret [c10,int .u64 (1:Int),AV.bool true])));some (af.fork c7 (af.aj [c4,c7=true] (af.fork true c5 c1)) (af.aj [c4,c7=false,c4] (af.fork (bif false then true else decide (c9>1)) c5 c1))):=ag
theorem WS {q r:Rat} {n m:Nat}:cq T GR [10,17] 60 f110 (aG f110) ⟨aV 0 [.rat q n,.rat r m],[],0⟩=
  let c9:Nat:=q.num.natAbs;let c8:Nat:=r.num.natAbs;let c5:Nat:=2^40;let c4:Bool:=decide (q<0)==decide (r<0);let c3:Nat:=if q.den=1 then 0 else q.den;let c2:Nat:=if r.den=1 then 0 else r.den;let c1:Prop:=0<1;let c10:List Prop:=[c1,c1,nl c3<c5,nl c2<c5];let c7:af (List AV):=af.leaf ak.ret [AV.bool (bif true then decide (c3=c2)else false)];let c6:Bool:=bif true then decide (c9=c8)else false;some (af.fork c4 (af.fork c6 (af.aj (c1::c1::(c4=true)::c1::c1::(nl c9<c5)::(nl c8<c5)::(c6=true)::c10) c7) (af.aj [c1,c1,c4=true,c1,c1,nl c9<c5,nl c8<c5,c6=false] (af.leaf ak.ret [AV.bool false]))) (af.fork false (af.aj (c1::c1::(c4=false)::(false=true)::c10) c7) (af.aj [c1,c1,c4=false,false=false] (af.leaf ak.ret [AV.bool false])))):=ag
theorem aap {q:Rat} {n:Nat}:cq T GR [3,8] 60 f65 (aG f65) ⟨aV 0 [.rat q n],[],0⟩=
  some (af.aj [(0:Nat)<1,nl q.num.natAbs<2^40] (af.fork ((↑(bP q.num.natAbs):Int)==0) (af.leaf ak.ret [int .i64 (0:Int)]) (af.aj [(0:Nat)<1] (af.fork (decide (q<0)) (af.leaf ak.ret [int .i64 (-1:Int)]) (af.leaf ak.ret [int .i64 (1:Int)]))))):=ag
theorem YF {q:Rat} {n:Nat}:cq T GR [] 60 f166 (aG f166) ⟨aV 0 [.rat q n],[],0⟩=
  let c2:Nat:=if q.den=1 then 0 else q.den;let c1:Prop:=0<1;some (af.aj [c1,c1,nl q.num.natAbs<2^40,c1,nl c2<2^40,c1] (af.aj [c1] (af.leaf ak.ret [agg [AV.bool (decide (q<0)),mag q.num.natAbs,mag c2]]))):=ag
theorem Z4 {n:Int}:cq T GR [4] 60 f134 (aG f134) ⟨aV 0 [.int .i64 n],[],0⟩=
  let c1:Int:=i64.wrap ((0:Int)-n);let c2:Int:=u64.wrap (if n<c1 then c1 else n);some (af.fork (n==(-9223372036854775808:Int)) (af.aj [(0:Int)<=9223372036854775808/\(9223372036854775808:Int)<2^64] (af.leaf ak.ret [mag 9223372036854775808])) (af.aj [(0:Int)<=c2/\c2<2^64] (af.leaf ak.ret [mag c2.toNat]))):=ag
abbrev kX:List Nat:=[0,1,2,6]
abbrev pG (b:Bool) (N D:Nat):List AV:=[.bool b,.mag N,.mag D,.ptr 0 0 3 0 []]
abbrev sw:aD:=[(0,⟨false,true,3,1,fun _=>.rat 0 1⟩)]
theorem RU {b:Bool} {N D:Nat}:aH T GR [11,15] 60 kX ((before (aG f133) [1,1,1,1]).take 2) ⟨aV 0 [.bool b,.mag N,.mag D],[],0⟩=
  let c6:Nat:=2^40;let c5:AV:=rat 0 1;let c4:Bool:=(↑(bP N):Int)==0;let c3:List AV:=[AV.bool b,mag N,mag D,ptr 0 0 3 0 []];let c2:af (List AV×aD):=af.leaf ak.normal (c3,[(0,ay.mk false true 3 1 fun x=>c5)]);let c1:af (List AV×aD):=af.aj [(0:Nat)<1] (af.leaf ak.ret (c3,[(0,ay.mk false true 3 1 fun j=>if(j==0)=true then eU (agg c5.kids)else c5)]));some (af.fork c4 (af.aj [nl N<c6,c4=true] (af.fork true c1 c2)) (af.aj [nl N<c6,c4=false,nl D<c6] (af.fork (bif false then true else(↑(bP D):Int)==0) c1 c2))):=ag
theorem Ny {b:Bool} {N D:Nat}:nI T f133 .ret ⟨aE kX (pG b N D),[(0,⟨false,true,3,1,fun j=>if j=0 then eU (.agg (AV.kids (.rat 0 1)))else .rat 0 1⟩)],1⟩=
  some (af.aj [(0:Nat)<1] (af.leaf ak.ret [agg [AV.bool false,mag 0,mag 0]])):=ag
theorem Qn {b:Bool} {N D:Nat} {q:Rat} {k:Nat}:nI T f133 .ret ⟨aE kX (pG b N D),[(0,⟨false,true,3,1,fun j=>if j=0 then eU (.rat q k)else .rat 0 1⟩)],1⟩=
  some (af.aj [(0:Nat)<1] (af.leaf ak.ret [rat q k])):=ag
theorem abv {b:Bool} {N D:Nat}:aH T GR [20,24] 60 kX (((before (aG f133) [1,1,1,1]).drop 2).take 1) ⟨aE kX (pG b N D),sw,1⟩=
  let c6:AV:=rat 0 1;let c5:Rat:=sQ b (↑N:Int).toNat (↑D:Int).toNat;let c4:Bool:=decide ((↑(nl N):Int)<=2);let c3:List AV:=[AV.bool b,mag N,mag D,ptr 0 0 3 0 []];let c2:af (List AV×aD):=af.leaf ak.normal (c3,[(0,ay.mk false true 3 1 fun x=>c6)]);let c1:af (List AV×aD):=af.aj [nl N<=2,nl D<=2,(0:Int)<=(↑N:Int)/\(↑N:Int)<2^64,(0:Int)<(↑D:Int)/\(↑D:Int)<2^64,(0:Nat)<1] (af.leaf ak.ret (c3,[(0,ay.mk false true 3 1 fun j=>if(j==0)=true then eU (rat c5 (dK c5))else c6)]));some (af.fork c4 (af.aj [c4=true] (af.fork (bif true then decide ((↑(nl D):Int)<=2)else false) c1 c2)) (af.aj [c4=false] (af.fork false c1 c2))):=ag
theorem ad3 {b:Bool} {N D:Nat}:aH T GR [36] 60 kX ((before (aG f133) [1,1,1,1]).drop (2+1)) ⟨aE kX (pG b N D),sw,1⟩=
  let c5:Int:=(↑(bP (N.gcd D)):Int);let c3:AV:=ptr 0 0 3 0 [];let c2:Nat×ay:=(0,ay.mk false true 3 1 fun x=>rat 0 1);let c1:Nat:=2^40;let c4:Prop:=nl (N.gcd D)<c1;some (af.aj [nl N<c1,nl D<c1] (af.aj [c4] (af.fork (decide (c5>1)) (af.aj [nl N<c1,c4] (af.aj [nl D<c1,c4] (af.leaf ak.normal ([AV.bool b,mag (N/N.gcd D),mag (D/N.gcd D),c3],[c2])))) (af.leaf ak.normal ([AV.bool b,mag N,mag D,c3],[c2]))))):=ag
theorem aar {b:Bool} {N D:Nat}:dA T GR [58,63] 60 f133 [part (aG f133) [1,1,1,1]] ⟨aE kX (pG b N D),sw,1⟩=
  let c6:Nat:=D+0;let c5:List Prop:=[(0:Nat)<1];let c4:Nat:=2^40;let c3:Bool:=(↑(nl c6):Int)==1;let c2:af (List AV):=af.aj c5 (af.aj c5 (af.leaf ak.ret [agg [AV.bool b,mag (N+0),nil]]));let c1:af (List AV):=af.aj c5 (af.aj c5 (af.leaf ak.ret [agg [AV.bool b,mag (N+0),mag c6]]));some (af.aj [nl N<c4,(0:Nat)<c4,nl D<c4,(0:Nat)<c4] (af.fork c3 (af.aj [c3=true,(0:Int)<=0/\Int.toNat (0:Int)<nl c6] (af.fork (bif true then(↑(aB c6 (Int.toNat (0:Int))):Int)==1 else false) c2 c1)) (af.aj [c3=false] (af.fork false c2 c1)))):=ag
theorem jW {a b v:Bool} (h:(bif true then a else b)=v):a=v:=h
theorem FK {N:Nat}:bP N=0↔N=0:=by unfold bP;split<;>simp_all
theorem O9 {N:Nat}:bP N<=1↔N<=1:=by rw[j5];omega
theorem kO {N:Nat}:nl N=0↔N=0:=by
 constructor
 ·intro h
  rcases Nat.eq_zero_or_pos N with h1|h1
  ·exact h1
  ·have:=gZ.2 (show N≠0 by omega);omega
 ·intro h;subst h;rfl
theorem abV {b:Bool} {n:Nat}:sQ b n 0=0:=by unfold sQ;simp
theorem NG {b:Bool} {x:Nat}:bG (.agg [.bool b,.mag x,.nil]) (.agg [.bool b,.mag x,.mag 0]):=nD ⟨.refl _,.refl _,lF,trivial⟩
theorem OU {b:Bool} {N D:Nat} (hN:nl N<2^40) (hD:nl D<2^40) (K:Nat) (pre:aD):aQ P 133 K [.bool b,.mag N,.mag D] pre (aM (.rat (sQ b N D) (dK (sQ b N D))) []):=by
 refine iI hT S5 rfl bp rfl (fun _ c h0=>?_) K pre
 have hO:∀{v:AV},keys v=[]->jm 1 [(0,(⟨false,true,3,1,fun j=>if j=0 then v else .rat 0 1⟩:ay))]:=fun h=>⟨⟨aa,fun i _=>by show keys (if i=0 then _ else _)=[];split;exact h;rfl⟩,trivial⟩
 have hO':jm 1 sw:=⟨⟨aa,fun _ _=>rfl⟩,trivial⟩
 have hz:sQ b N D=0->bG (.agg [.bool false,.mag 0,.mag 0]) (.rat (sQ b N D) (dK (sQ b N D))):=fun h=>by
  rw[h];exact oH
 refine au.hole [1,1,1,1] ag (aF.chunk 2 (aF.bJ hT ng hm 60 kX RU ag ?_))
 simp only[af.all,aA,beq_iff_eq,beq_eq_false_iff_ne,ne_eq]
 -- behind the first questions
 have rest:∀{s':aI},N≠0->D≠0->bh kX s'=some (pG b N D,sw)->
   aF P c f133.ntmps ((before (aG f133) [1,1,1,1]).drop 2) s' (fk (fun s'=>au P c f133.ntmps (part (aG f133) [1,1,1,1]) s' (fk (fun s'=>aF P c f133.ntmps (behind (aG f133) [1,1,1,1]) s' (gi c (Fin T f133 (.rat (sQ b N D) (dK (sQ b N D)))))) (gi c (Fin T f133 (.rat (sQ b N D) (dK (sQ b N D)))))))
    (gi c (Fin T f133 (.rat (sQ b N D) (dK (sQ b N D)))))):=by
  intro s' hN0 hD0 hv
  have last:∀{s':aI} {X Y:Nat},nl X<2^40->nl Y<2^40->X=N/Nat.gcd N D->Y=D/Nat.gcd N D->bh kX s'=some (pG b X Y,sw)->
    au P c f133.ntmps (part (aG f133) [1,1,1,1]) s' (fk (fun s'=>aF P c f133.ntmps (behind (aG f133) [1,1,1,1]) s' (gi c (Fin T f133 (.rat (sQ b N D) (dK (sQ b N D)))))) (gi c (Fin T f133 (.rat (sQ b N D) (dK (sQ b N D)))))):=by
   intro s' X Y hX hY eX eY hv
   refine au.mono (Q:=fk (fun s'=>aF P c f133.ntmps [] s' (gi c (Fin T f133 (.rat (sQ b N D) (dK (sQ b N D)))))) (gi c (Fin T f133 (.rat (sQ b N D) (dK (sQ b N D)))))) ?_ fun e s' h=>by cases e<;>exact h
   refine aF.kJ (l:=[part (aG f133) [1,1,1,1]]) hT ng hm 60 hv (h0 _) rfl hO' aar ag rfl ?_
   simp only[af.all,aA,beq_iff_eq,beq_eq_false_iff_ne,ne_eq,Nat.add_zero,Int.toNat_zero]
   have hY0:Y≠0:=by rw[eY];exact Nat.pos_iff_ne_zero.1 (Nat.div_pos (Nat.le_of_dvd aa (Nat.gcd_dvd_right _ _)) (Nat.gcd_pos_of_pos_left _ aa))
   have h1:Y≠1->bG (.agg [.bool b,.mag X,.mag Y]) (.rat (sQ b N D) (dK (sQ b N D))):=fun h=>tT hN0 hD0 eX (by rw[<-eY,if_neg h]) wA
   have h2:Y=1->bG (.agg [.bool b,.mag X,.nil]) (.rat (sQ b N D) (dK (sQ b N D))):=fun h=>NG.trans (tT hN0 hD0 eX (by rw[<-eY,if_pos h]) wA)
   have hl:nl Y=1->aB Y 0=Y:=fun h=>by
    have:=gO (N:=Y)
    rw[h,val,val]at this
    simpa using this
   refine⟨⟨hX,aa,hY,aa⟩,fun hb=>⟨⟨hb,aa,aa⟩,fun hc=>⟨aa,aa,h2 ?_⟩,fun hc=>⟨aa,aa,h1 ?_⟩⟩,fun hb=>⟨hb,fun h=>by simp at h,fun _=>⟨aa,aa,h1 ?_⟩⟩⟩
   ·have:=jW hc
    rw[hl aa]at this
    have:=eq_of_beq this
    omega
   ·have:=jW hc
    rw[hl aa]at this
    intro h
    rw[h]at this
    simp at this
   ·intro h
    rw[h]at hb
    exact hb (by decide)
  refine aF.chunk 1 (aF.fT hT ng hm 60 hv (h0 _) rfl hO' kX abv ag rfl ?_)
  simp only[af.all,aA,bK,bO,bE,beq_iff_eq]
  have long:∀{s':aI},bh kX s'=some (pG b N D,sw)->aF P c f133.ntmps (((before (aG f133) [1,1,1,1]).drop 2).drop 1) s' (fk (fun s'=>au P c f133.ntmps (part (aG f133) [1,1,1,1]) s' (fk (fun s'=>aF P c f133.ntmps (behind (aG f133) [1,1,1,1]) s' (gi c (Fin T f133 (.rat (sQ b N D) (dK (sQ b N D)))))) (gi c (Fin T f133 (.rat (sQ b N D) (dK (sQ b N D)))))))
    (gi c (Fin T f133 (.rat (sQ b N D) (dK (sQ b N D)))))):=by
   intro s' hv
   rw[List.drop_drop]
   refine aF.fT hT ng hm 60 hv (h0 _) rfl hO' kX ad3 ag rfl ?_
   simp only[af.all,aA,bK,bO]
   have hg:nl (Nat.gcd N D)<2^40:=Nat.lt_of_le_of_lt (iS (Nat.gcd_le_left _ aa)) hN
   have hg0:0<Nat.gcd N D:=Nat.gcd_pos_of_pos_left _ aa
   refine⟨⟨hN,hD⟩,hg,fun hb=>⟨⟨hN,hg⟩,⟨hD,hg⟩,fun s' hv=>last (Nat.lt_of_le_of_lt (iS (Nat.div_le_self _ _)) hN) (Nat.lt_of_le_of_lt (iS (Nat.div_le_self _ _)) hD) rfl rfl hv⟩,fun hb s' hv=>?_⟩
   have hg1:Nat.gcd N D=1:=by
    have:bP (Nat.gcd N D)<=1:=aa
    have:=O9.1 this
    omega
   exact last hN hD (by rw[hg1,Nat.div_one]) (by rw[hg1,Nat.div_one]) hv
  refine⟨fun hb=>⟨hb,fun hc=>⟨?_,fun s' hv=>?_⟩,fun hc s' hv=>cM (long hv)⟩,fun hb=>⟨hb,fun h=>by simp at h,fun _ s' hv=>cM (long hv)⟩⟩
  ·have h2:nl D<=2:=by have:=of_decide_eq_true (jW hc);omega
   have:=qm (show nl N<=2 by omega)
   have:=qm h2
   exact⟨aa,h2,aa,aa,aa⟩
  ·refine fZ (fZ (Aq Qn hv (h0 _) rfl (hO rfl) ⟨by simp[aA],?_⟩))
   exact .refl _
 refine⟨fun hb=>⟨⟨hN,hb⟩,fun _=>⟨aa,fun s' hv=>fZ (fZ (Aq Ny hv (h0 _) rfl (hO rfl) ⟨by simp[aA],hz ?_⟩))⟩,fun h=>by simp at h⟩,fun hb=>⟨⟨hN,hb,hD⟩,fun hc=>⟨aa,fun s' hv=>fZ (fZ (Aq Ny hv (h0 _) rfl (hO rfl) ⟨by simp[aA],hz ?_⟩))⟩,fun hc s' hv=>cM (rest ?_ ?_ hv)⟩⟩
 ·rw[FK.1 (show bP N=0 by omega),FW]
 ·have:=eq_of_beq (jg hc)
  rw[FK.1 (show bP D=0 by omega),abV]
 ·intro h;rw[h]at hb;exact hb (by decide)
 ·intro h
  have:=jg hc
  rw[h]at this
  simp[bP]at this
end Go.Am.B
