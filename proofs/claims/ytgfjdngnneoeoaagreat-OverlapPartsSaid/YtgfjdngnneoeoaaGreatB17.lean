/- rational.den, parts, reduce, Same, Sign, copied, size. -/
import Derived.Test.YtgfjdngnneoeoaaGreatB16
set_option linter.unusedVariables false
namespace Go.Am.B
open Go Go.Am.N AV Proofs.Tryz IntKind
theorem ago:aX 88 f88:=aM func88
theorem Q7:aX 85 f85:=aM func85
theorem ahM:aX 80 f80:=aM func80
theorem Te:aX 35 f35:=aM func35
theorem aib:aX 84 f84:=aM func84
theorem agr:aX 128 f128:=aM func128
theorem Xa:aX 81 f81:=aM func81
def GR:aV:=(130,bX (mh Om))::(131,bX (mh z6))::(86,Ec)::(132,bX (iY LR))::(133,bX (iY B9))::(134,bX (iY Ev))::(82,Dr)::(83,E3)::(169,y7)::(135,BV)::[]
theorem mX:bg P GR:=aE Up (aE Zm (aE Jo (aE Pn (aE J2 (aE Hf (aE FK (aE Jc (aE Ce (aE NX bD)))))))))
theorem adz {q:Rat} {n:Nat}:bF T GR [6] 60 f88 (aF f88) ⟨aS 0 [.rat q n],[],0⟩=
  let c1:Nat:=if q.den=1 then 0 else q.den;some (ag.aj [(0:Nat)<1] (ag.fork ((↑(nl c1):Int)==0) (ag.leaf aq.ret [mag 1]) (ag.aj [(0:Nat)<1] (ag.leaf aq.ret [mag c1])))):=ah
theorem Vx {q:Rat} {n:Nat}:bF T GR [9,14,18] 60 f85 (aF f85) ⟨aS 0 [.rat q n],[],0⟩=
  let c11:AV:=int .u64 (0:Int);let c8:Nat:=q.num.natAbs;let c4:Prop:=0<1;let c2:Nat:=if q.den=1 then 0 else q.den;let c10:AV:=int .u64 (↑c8:Int);let c9:Int:=(↑(nl c2):Int);let c6:Int:=u64.wrap (↑(aB c2 (Int.toNat (0:Int))):Int);let c5:ag (List AV):=ag.leaf aq.ret [c11,c11,AV.bool false];let c3:Int:=(↑(nl c8):Int);let c7:Bool:=decide (c3>1);let c1:ag (List AV):=ag.aj [c4] (ag.fork (c9==1) (ag.aj [c4,(0:Int)<=0/\Int.toNat (0:Int)<nl c2] (ag.aj [c4,nl c8<=2] (ag.leaf aq.ret [c10,int .u64 c6,AV.bool (c6 !=(0:Int))]))) (ag.aj [c4,nl c8<=2] (ag.leaf aq.ret [c10,int .u64 (1:Int),AV.bool true])));some (ag.fork c7 (ag.aj [c4,c7=true] (ag.fork true c5 c1)) (ag.aj [c4,c7=false,c4] (ag.fork (bif false then true else decide (c9>1)) c5 c1))):=ah
theorem YV {q r:Rat} {n m:Nat}:bF T GR [10,17] 60 f35 (aF f35) ⟨aS 0 [.rat q n,.rat r m],[],0⟩=
  let c9:Nat:=q.num.natAbs;let c8:Nat:=r.num.natAbs;let c5:Nat:=2^40;let c4:Bool:=decide (q<0)==decide (r<0);let c3:Nat:=if q.den=1 then 0 else q.den;let c2:Nat:=if r.den=1 then 0 else r.den;let c1:Prop:=0<1;let c10:List Prop:=[c1,c1,nl c3<c5,nl c2<c5];let c7:ag (List AV):=ag.leaf aq.ret [AV.bool (bif true then decide (c3=c2)else false)];let c6:Bool:=bif true then decide (c9=c8)else false;some (ag.fork c4 (ag.fork c6 (ag.aj (c1::c1::(c4=true)::c1::c1::(nl c9<c5)::(nl c8<c5)::(c6=true)::c10) c7) (ag.aj [c1,c1,c4=true,c1,c1,nl c9<c5,nl c8<c5,c6=false] (ag.leaf aq.ret [AV.bool false]))) (ag.fork false (ag.aj (c1::c1::(c4=false)::(false=true)::c10) c7) (ag.aj [c1,c1,c4=false,false=false] (ag.leaf aq.ret [AV.bool false])))):=ah
theorem afN {q:Rat} {n:Nat}:bF T GR [3,8] 60 f84 (aF f84) ⟨aS 0 [.rat q n],[],0⟩=
  some (ag.aj [(0:Nat)<1,nl q.num.natAbs<2^40] (ag.fork ((↑(bN q.num.natAbs):Int)==0) (ag.leaf aq.ret [int .i64 (0:Int)]) (ag.aj [(0:Nat)<1] (ag.fork (decide (q<0)) (ag.leaf aq.ret [int .i64 (-1:Int)]) (ag.leaf aq.ret [int .i64 (1:Int)]))))):=ah
theorem Y3 {q:Rat} {n:Nat}:bF T GR [] 60 f128 (aF f128) ⟨aS 0 [.rat q n],[],0⟩=
  let c2:Nat:=if q.den=1 then 0 else q.den;let c1:Prop:=0<1;some (ag.aj [c1,c1,nl q.num.natAbs<2^40,c1,nl c2<2^40,c1] (ag.aj [c1] (ag.leaf aq.ret [agg [AV.bool (decide (q<0)),mag q.num.natAbs,mag c2]]))):=ah
theorem P7 {n:Int}:bF T GR [4] 60 f81 (aF f81) ⟨aS 0 [.int .i64 n],[],0⟩=
  let c1:Int:=i64.wrap ((0:Int)-n);let c2:Int:=u64.wrap (if n<c1 then c1 else n);some (ag.fork (n==(-9223372036854775808:Int)) (ag.aj [(0:Int)<=9223372036854775808/\(9223372036854775808:Int)<2^64] (ag.leaf aq.ret [mag 9223372036854775808])) (ag.aj [(0:Int)<=c2/\c2<2^64] (ag.leaf aq.ret [mag c2.toNat]))):=ah
abbrev j0:List Nat:=[0,1,2,6]
abbrev oM (b:Bool) (N D:Nat):List AV:=[.bool b,.mag N,.mag D,.ptr 0 0 3 0 []]
abbrev rD:aD:=[(0,⟨false,true,3,1,fun _=>.rat 0 1⟩)]
theorem ahq {b:Bool} {N D:Nat}:aL T GR [11,15] 60 j0 ((before (aF f80) [1,1,1,1]).take 2) ⟨aS 0 [.bool b,.mag N,.mag D],[],0⟩=
  let c6:Nat:=2^40;let c5:AV:=rat 0 1;let c4:Bool:=(↑(bN N):Int)==0;let c3:List AV:=[AV.bool b,mag N,mag D,ptr 0 0 3 0 []];let c2:ag (List AV×aD):=ag.leaf aq.normal (c3,[(0,az.mk false true 3 1 fun x=>c5)]);let c1:ag (List AV×aD):=ag.aj [(0:Nat)<1] (ag.leaf aq.ret (c3,[(0,az.mk false true 3 1 fun j=>if(j==0)=true then bE (agg c5.kids)else c5)]));some (ag.fork c4 (ag.aj [nl N<c6,c4=true] (ag.fork true c1 c2)) (ag.aj [nl N<c6,c4=false,nl D<c6] (ag.fork (bif false then true else(↑(bN D):Int)==0) c1 c2))):=ah
theorem Ig {b:Bool} {N D:Nat}:mU T f80 .ret ⟨aG j0 (oM b N D),[(0,⟨false,true,3,1,fun j=>if j=0 then bE (.agg (AV.kids (.rat 0 1)))else .rat 0 1⟩)],1⟩=
  some (ag.aj [(0:Nat)<1] (ag.leaf aq.ret [agg [AV.bool false,mag 0,mag 0]])):=ah
theorem af3 {b:Bool} {N D:Nat} {q:Rat} {k:Nat}:mU T f80 .ret ⟨aG j0 (oM b N D),[(0,⟨false,true,3,1,fun j=>if j=0 then bE (.rat q k)else .rat 0 1⟩)],1⟩=
  some (ag.aj [(0:Nat)<1] (ag.leaf aq.ret [rat q k])):=ah
theorem ab1 {b:Bool} {N D:Nat}:aL T GR [20,24] 60 j0 (((before (aF f80) [1,1,1,1]).drop 2).take 1) ⟨aG j0 (oM b N D),rD,1⟩=
  let c6:AV:=rat 0 1;let c5:Rat:=sQ b (↑N:Int).toNat (↑D:Int).toNat;let c4:Bool:=decide ((↑(nl N):Int)<=2);let c3:List AV:=[AV.bool b,mag N,mag D,ptr 0 0 3 0 []];let c2:ag (List AV×aD):=ag.leaf aq.normal (c3,[(0,az.mk false true 3 1 fun x=>c6)]);let c1:ag (List AV×aD):=ag.aj [nl N<=2,nl D<=2,(0:Int)<=(↑N:Int)/\(↑N:Int)<2^64,(0:Int)<(↑D:Int)/\(↑D:Int)<2^64,(0:Nat)<1] (ag.leaf aq.ret (c3,[(0,az.mk false true 3 1 fun j=>if(j==0)=true then bE (rat c5 (dr c5))else c6)]));some (ag.fork c4 (ag.aj [c4=true] (ag.fork (bif true then decide ((↑(nl D):Int)<=2)else false) c1 c2)) (ag.aj [c4=false] (ag.fork false c1 c2))):=ah
theorem afT {b:Bool} {N D:Nat}:aL T GR [36] 60 j0 ((before (aF f80) [1,1,1,1]).drop (2+1)) ⟨aG j0 (oM b N D),rD,1⟩=
  let c5:Int:=(↑(bN (N.gcd D)):Int);let c3:AV:=ptr 0 0 3 0 [];let c2:Nat×az:=(0,az.mk false true 3 1 fun x=>rat 0 1);let c1:Nat:=2^40;let c4:Prop:=nl (N.gcd D)<c1;some (ag.aj [nl N<c1,nl D<c1] (ag.aj [c4] (ag.fork (decide (c5>1)) (ag.aj [nl N<c1,c4] (ag.aj [nl D<c1,c4] (ag.leaf aq.normal ([AV.bool b,mag (N/N.gcd D),mag (D/N.gcd D),c3],[c2])))) (ag.leaf aq.normal ([AV.bool b,mag N,mag D,c3],[c2]))))):=ah
theorem WD {b:Bool} {N D:Nat}:cP T GR [58,63] 60 f80 [part (aF f80) [1,1,1,1]] ⟨aG j0 (oM b N D),rD,1⟩=
  let c6:Nat:=D+0;let c5:List Prop:=[(0:Nat)<1];let c4:Nat:=2^40;let c3:Bool:=(↑(nl c6):Int)==1;let c2:ag (List AV):=ag.aj c5 (ag.aj c5 (ag.leaf aq.ret [agg [AV.bool b,mag (N+0),nil]]));let c1:ag (List AV):=ag.aj c5 (ag.aj c5 (ag.leaf aq.ret [agg [AV.bool b,mag (N+0),mag c6]]));some (ag.aj [nl N<c4,(0:Nat)<c4,nl D<c4,(0:Nat)<c4] (ag.fork c3 (ag.aj [c3=true,(0:Int)<=0/\Int.toNat (0:Int)<nl c6] (ag.fork (bif true then(↑(aB c6 (Int.toNat (0:Int))):Int)==1 else false) c2 c1)) (ag.aj [c3=false] (ag.fork false c2 c1)))):=ah
theorem jC {a b v:Bool} (h:(bif true then a else b)=v):a=v:=h
theorem DU {N:Nat}:bN N=0↔N=0:=by unfold bN;split<;>simp_all
theorem ah1 {N:Nat}:bN N<=1↔N<=1:=by rw[ki];omega
theorem j9 {N:Nat}:nl N=0↔N=0:=by
 constructor
 ·intro h
  rcases Nat.eq_zero_or_pos N with h1|h1
  ·exact h1
  ·have:=gE.2 (show N≠0 by omega);omega
 ·intro h;subst h;rfl
theorem Zv {b:Bool} {n:Nat}:sQ b n 0=0:=by unfold sQ;simp
theorem Ia {b:Bool} {x:Nat}:bp (.agg [.bool b,.mag x,.nil]) (.agg [.bool b,.mag x,.mag 0]):=cj ⟨.refl _,.refl _,kO,trivial⟩
theorem Z2 {b:Bool} {N D:Nat} (hN:nl N<2^40) (hD:nl D<2^40) (K:Nat) (pre:aD):aN P 80 K [.bool b,.mag N,.mag D] pre (aH (.rat (sQ b N D) (dr (sQ b N D))) []):=by
 refine jq hT ahM rfl aW rfl (fun _ c h0=>?_) K pre
 have hO:∀{v:AV},keys v=[]->iP 1 [(0,(⟨false,true,3,1,fun j=>if j=0 then v else .rat 0 1⟩:az))]:=fun h=>⟨⟨aa,fun i _=>by show keys (if i=0 then _ else _)=[];split;exact h;rfl⟩,trivial⟩
 have hO':iP 1 rD:=⟨⟨aa,fun _ _=>rfl⟩,trivial⟩
 have hz:sQ b N D=0->bp (.agg [.bool false,.mag 0,.mag 0]) (.rat (sQ b N D) (dr (sQ b N D))):=fun h=>by
  rw[h];exact k9
 refine ay.hole [1,1,1,1] ah (aI.chunk 2 (aI.bH hT mX hm 60 j0 ahq ah ?_))
 simp only[ag.all,au,beq_iff_eq,beq_eq_false_iff_ne,ne_eq]
 -- behind the first questions
 have rest:∀{s':aK},N≠0->D≠0->bB j0 s'=some (oM b N D,rD)->
   aI P c f80.ntmps ((before (aF f80) [1,1,1,1]).drop 2) s' (ey (fun s'=>ay P c f80.ntmps (part (aF f80) [1,1,1,1]) s' (ey (fun s'=>aI P c f80.ntmps (behind (aF f80) [1,1,1,1]) s' (eU c (Fin T f80 (.rat (sQ b N D) (dr (sQ b N D)))))) (eU c (Fin T f80 (.rat (sQ b N D) (dr (sQ b N D)))))))
    (eU c (Fin T f80 (.rat (sQ b N D) (dr (sQ b N D)))))):=by
  intro s' hN0 hD0 hv
  have last:∀{s':aK} {X Y:Nat},nl X<2^40->nl Y<2^40->X=N/Nat.gcd N D->Y=D/Nat.gcd N D->bB j0 s'=some (oM b X Y,rD)->
    ay P c f80.ntmps (part (aF f80) [1,1,1,1]) s' (ey (fun s'=>aI P c f80.ntmps (behind (aF f80) [1,1,1,1]) s' (eU c (Fin T f80 (.rat (sQ b N D) (dr (sQ b N D)))))) (eU c (Fin T f80 (.rat (sQ b N D) (dr (sQ b N D)))))):=by
   intro s' X Y hX hY eX eY hv
   refine ay.mono (Q:=ey (fun s'=>aI P c f80.ntmps [] s' (eU c (Fin T f80 (.rat (sQ b N D) (dr (sQ b N D)))))) (eU c (Fin T f80 (.rat (sQ b N D) (dr (sQ b N D)))))) ?_ fun e s' h=>by cases e<;>exact h
   refine aI.kA (l:=[part (aF f80) [1,1,1,1]]) hT mX hm 60 hv (h0 _) rfl hO' WD ah rfl ?_
   simp only[ag.all,au,beq_iff_eq,beq_eq_false_iff_ne,ne_eq,Nat.add_zero,Int.toNat_zero]
   have hY0:Y≠0:=by rw[eY];exact Nat.pos_iff_ne_zero.1 (Nat.div_pos (Nat.le_of_dvd aa (Nat.gcd_dvd_right _ _)) (Nat.gcd_pos_of_pos_left _ aa))
   have h1:Y≠1->bp (.agg [.bool b,.mag X,.mag Y]) (.rat (sQ b N D) (dr (sQ b N D))):=fun h=>ud hN0 hD0 eX (by rw[<-eY,if_neg h]) uU
   have h2:Y=1->bp (.agg [.bool b,.mag X,.nil]) (.rat (sQ b N D) (dr (sQ b N D))):=fun h=>Ia.trans (ud hN0 hD0 eX (by rw[<-eY,if_pos h]) uU)
   have hl:nl Y=1->aB Y 0=Y:=fun h=>by
    have:=gq (N:=Y)
    rw[h,val,val]at this
    simpa using this
   refine⟨⟨hX,aa,hY,aa⟩,fun hb=>⟨⟨hb,aa,aa⟩,fun hc=>⟨aa,aa,h2 ?_⟩,fun hc=>⟨aa,aa,h1 ?_⟩⟩,fun hb=>⟨hb,fun h=>by simp at h,fun _=>⟨aa,aa,h1 ?_⟩⟩⟩
   ·have:=jC hc
    rw[hl aa]at this
    have:=eq_of_beq this
    omega
   ·have:=jC hc
    rw[hl aa]at this
    intro h
    rw[h]at this
    simp at this
   ·intro h
    rw[h]at hb
    exact hb (by decide)
  refine aI.chunk 1 (aI.fE hT mX hm 60 hv (h0 _) rfl hO' j0 ab1 ah rfl ?_)
  simp only[ag.all,au,bz,bG,br,beq_iff_eq]
  have long:∀{s':aK},bB j0 s'=some (oM b N D,rD)->aI P c f80.ntmps (((before (aF f80) [1,1,1,1]).drop 2).drop 1) s' (ey (fun s'=>ay P c f80.ntmps (part (aF f80) [1,1,1,1]) s' (ey (fun s'=>aI P c f80.ntmps (behind (aF f80) [1,1,1,1]) s' (eU c (Fin T f80 (.rat (sQ b N D) (dr (sQ b N D)))))) (eU c (Fin T f80 (.rat (sQ b N D) (dr (sQ b N D)))))))
    (eU c (Fin T f80 (.rat (sQ b N D) (dr (sQ b N D)))))):=by
   intro s' hv
   rw[List.drop_drop]
   refine aI.fE hT mX hm 60 hv (h0 _) rfl hO' j0 afT ah rfl ?_
   simp only[ag.all,au,bz,bG]
   have hg:nl (Nat.gcd N D)<2^40:=Nat.lt_of_le_of_lt (iC (Nat.gcd_le_left _ aa)) hN
   have hg0:0<Nat.gcd N D:=Nat.gcd_pos_of_pos_left _ aa
   refine⟨⟨hN,hD⟩,hg,fun hb=>⟨⟨hN,hg⟩,⟨hD,hg⟩,fun s' hv=>last (Nat.lt_of_le_of_lt (iC (Nat.div_le_self _ _)) hN) (Nat.lt_of_le_of_lt (iC (Nat.div_le_self _ _)) hD) rfl rfl hv⟩,fun hb s' hv=>?_⟩
   have hg1:Nat.gcd N D=1:=by
    have:bN (Nat.gcd N D)<=1:=aa
    have:=ah1.1 this
    omega
   exact last hN hD (by rw[hg1,Nat.div_one]) (by rw[hg1,Nat.div_one]) hv
  refine⟨fun hb=>⟨hb,fun hc=>⟨?_,fun s' hv=>?_⟩,fun hc s' hv=>cL (long hv)⟩,fun hb=>⟨hb,fun h=>by simp at h,fun _ s' hv=>cL (long hv)⟩⟩
  ·have h2:nl D<=2:=by have:=of_decide_eq_true (jC hc);omega
   have:=pG (show nl N<=2 by omega)
   have:=pG h2
   exact⟨aa,h2,aa,aa,aa⟩
  ·refine fI (fI (yN af3 hv (h0 _) rfl (hO rfl) ⟨by simp[au],?_⟩))
   exact .refl _
 refine⟨fun hb=>⟨⟨hN,hb⟩,fun _=>⟨aa,fun s' hv=>fI (fI (yN Ig hv (h0 _) rfl (hO rfl) ⟨by simp[au],hz ?_⟩))⟩,fun h=>by simp at h⟩,fun hb=>⟨⟨hN,hb,hD⟩,fun hc=>⟨aa,fun s' hv=>fI (fI (yN Ig hv (h0 _) rfl (hO rfl) ⟨by simp[au],hz ?_⟩))⟩,fun hc s' hv=>cL (rest ?_ ?_ hv)⟩⟩
 ·rw[DU.1 (show bN N=0 by omega),Et]
 ·have:=eq_of_beq (iM hc)
  rw[DU.1 (show bN D=0 by omega),Zv]
 ·intro h;rw[h]at hb;exact hb (by decide)
 ·intro h
  have:=iM hc
  rw[h]at this
  simp[bN]at this
end Go.Am.B
