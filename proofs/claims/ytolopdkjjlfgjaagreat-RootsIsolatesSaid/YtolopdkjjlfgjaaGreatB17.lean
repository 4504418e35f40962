/- rational.den, parts, reduce, Same, Sign, copied, size. -/
import Derived.Test.YtolopdkjjlfgjaaGreatB16
set_option linter.unusedVariables false
namespace Go.Am.B
open Go Go.Am.N AV Proofs.Tryz IntKind
theorem Zy:br 120 f120:=bu func120
theorem aeG:br 116 f116:=bu func116
theorem abI:br 133 f133:=bu func133
theorem Z4:br 110 f110:=bu func110
theorem XI:br 65 f65:=bu func65
theorem Zv:br 166 f166:=bu func166
theorem afR:br 134 f134:=bu func134
def GR:bz:=(126,cw (nj Pr))::(159,cw (nj AE))::(165,Fl)::(167,cw (jy Pv))::(168,cw (jy Ev))::(169,cw (jy FG))::(132,Dp)::(117,FI)::(181,Ct)::(170,ED)::[]
theorem od:bU P GR:=aL abu (aL Wd (aL LP (aL abr (aL Oy (aL Mo (aL NS (aL OC (aL D4 (aL Ou cG)))))))))
theorem Tc {q:Rat} {n:Nat}:cB T GR [6] 60 f120 (aI f120) ⟨aU 0 [.rat q n],[],0⟩=
  let c1:Nat:=if q.den=1 then 0 else q.den;some (af.aj [(0:Nat)<1] (af.fork ((↑(nl c1):Int)==0) (af.leaf aq.ret [mag 1]) (af.aj [(0:Nat)<1] (af.leaf aq.ret [mag c1])))):=ah
theorem WX {q:Rat} {n:Nat}:cB T GR [9,14,18] 60 f116 (aI f116) ⟨aU 0 [.rat q n],[],0⟩=
  let c11:AV:=int .u64 (0:Int);let c8:Nat:=q.num.natAbs;let c4:Prop:=0<1;let c2:Nat:=if q.den=1 then 0 else q.den;let c10:AV:=int .u64 (↑c8:Int);let c9:Int:=(↑(nl c2):Int);let c6:Int:=u64.wrap (↑(aD c2 (Int.toNat (0:Int))):Int);let c5:af (List AV):=af.leaf aq.ret [c11,c11,AV.bool false];let c3:Int:=(↑(nl c8):Int);let c7:Bool:=decide (c3>1);let c1:af (List AV):=af.aj [c4] (af.fork (c9==1) (af.aj [c4,(0:Int)<=0/\Int.toNat (0:Int)<nl c2] (af.aj [c4,nl c8<=2] (af.leaf aq.ret [c10,int .u64 c6,AV.bool (c6 !=(0:Int))]))) (af.aj [c4,nl c8<=2] (af.leaf aq.ret [c10,int .u64 (1:Int),AV.bool true])));some (af.fork c7 (af.aj [c4,c7=true] (af.fork true c5 c1)) (af.aj [c4,c7=false,c4] (af.fork (bif false then true else decide (c9>1)) c5 c1))):=ah
theorem Uv {q r:Rat} {n m:Nat}:cB T GR [10,17] 60 f110 (aI f110) ⟨aU 0 [.rat q n,.rat r m],[],0⟩=
  let c9:Nat:=q.num.natAbs;let c8:Nat:=r.num.natAbs;let c5:Nat:=2^40;let c4:Bool:=decide (q<0)==decide (r<0);let c3:Nat:=if q.den=1 then 0 else q.den;let c2:Nat:=if r.den=1 then 0 else r.den;let c1:Prop:=0<1;let c10:List Prop:=[c1,c1,nl c3<c5,nl c2<c5];let c7:af (List AV):=af.leaf aq.ret [AV.bool (bif true then decide (c3=c2)else false)];let c6:Bool:=bif true then decide (c9=c8)else false;some (af.fork c4 (af.fork c6 (af.aj (c1::c1::(c4=true)::c1::c1::(nl c9<c5)::(nl c8<c5)::(c6=true)::c10) c7) (af.aj [c1,c1,c4=true,c1,c1,nl c9<c5,nl c8<c5,c6=false] (af.leaf aq.ret [AV.bool false]))) (af.fork false (af.aj (c1::c1::(c4=false)::(false=true)::c10) c7) (af.aj [c1,c1,c4=false,false=false] (af.leaf aq.ret [AV.bool false])))):=ah
theorem WS {q:Rat} {n:Nat}:cB T GR [3,8] 60 f65 (aI f65) ⟨aU 0 [.rat q n],[],0⟩=
  some (af.aj [(0:Nat)<1,nl q.num.natAbs<2^40] (af.fork ((↑(bX q.num.natAbs):Int)==0) (af.leaf aq.ret [int .i64 (0:Int)]) (af.aj [(0:Nat)<1] (af.fork (decide (q<0)) (af.leaf aq.ret [int .i64 (-1:Int)]) (af.leaf aq.ret [int .i64 (1:Int)]))))):=ah
theorem aaE {q:Rat} {n:Nat}:cB T GR [] 60 f166 (aI f166) ⟨aU 0 [.rat q n],[],0⟩=
  let c2:Nat:=if q.den=1 then 0 else q.den;let c1:Prop:=0<1;some (af.aj [c1,c1,nl q.num.natAbs<2^40,c1,nl c2<2^40,c1] (af.aj [c1] (af.leaf aq.ret [agg [AV.bool (decide (q<0)),mag q.num.natAbs,mag c2]]))):=ah
theorem afz {n:Int}:cB T GR [4] 60 f134 (aI f134) ⟨aU 0 [.int .i64 n],[],0⟩=
  let c1:Int:=i64.wrap ((0:Int)-n);let c2:Int:=u64.wrap (if n<c1 then c1 else n);some (af.fork (n==(-9223372036854775808:Int)) (af.aj [(0:Int)<=9223372036854775808/\(9223372036854775808:Int)<2^64] (af.leaf aq.ret [mag 9223372036854775808])) (af.aj [(0:Int)<=c2/\c2<2^64] (af.leaf aq.ret [mag c2.toNat]))):=ah
abbrev lE:List Nat:=[0,1,2,6]
abbrev rj (b:Bool) (N D:Nat):List AV:=[.bool b,.mag N,.mag D,.ptr 0 0 3 0 []]
abbrev tB:aE:=[(0,⟨false,true,3,1,fun _=>.rat 0 1⟩)]
theorem UD {b:Bool} {N D:Nat}:aH T GR [11,15] 60 lE ((before (aI f133) [1,1,1,1]).take 2) ⟨aU 0 [.bool b,.mag N,.mag D],[],0⟩=
  let c6:Nat:=2^40;let c5:AV:=rat 0 1;let c4:Bool:=(↑(bX N):Int)==0;let c3:List AV:=[AV.bool b,mag N,mag D,ptr 0 0 3 0 []];let c2:af (List AV×aE):=af.leaf aq.normal (c3,[(0,ax.mk false true 3 1 fun x=>c5)]);let c1:af (List AV×aE):=af.aj [(0:Nat)<1] (af.leaf aq.ret (c3,[(0,ax.mk false true 3 1 fun j=>if(j==0)=true then eC (agg c5.kids)else c5)]));some (af.fork c4 (af.aj [nl N<c6,c4=true] (af.fork true c1 c2)) (af.aj [nl N<c6,c4=false,nl D<c6] (af.fork (bif false then true else(↑(bX D):Int)==0) c1 c2))):=ah
theorem LZ {b:Bool} {N D:Nat}:ow T f133 .ret ⟨aB lE (rj b N D),[(0,⟨false,true,3,1,fun j=>if j=0 then eC (.agg (AV.kids (.rat 0 1)))else .rat 0 1⟩)],1⟩=
  some (af.aj [(0:Nat)<1] (af.leaf aq.ret [agg [AV.bool false,mag 0,mag 0]])):=ah
theorem ad8 {b:Bool} {N D:Nat} {q:Rat} {k:Nat}:ow T f133 .ret ⟨aB lE (rj b N D),[(0,⟨false,true,3,1,fun j=>if j=0 then eC (.rat q k)else .rat 0 1⟩)],1⟩=
  some (af.aj [(0:Nat)<1] (af.leaf aq.ret [rat q k])):=ah
theorem agI {b:Bool} {N D:Nat}:aH T GR [20,24] 60 lE (((before (aI f133) [1,1,1,1]).drop 2).take 1) ⟨aB lE (rj b N D),tB,1⟩=
  let c6:AV:=rat 0 1;let c5:Rat:=sQ b (↑N:Int).toNat (↑D:Int).toNat;let c4:Bool:=decide ((↑(nl N):Int)<=2);let c3:List AV:=[AV.bool b,mag N,mag D,ptr 0 0 3 0 []];let c2:af (List AV×aE):=af.leaf aq.normal (c3,[(0,ax.mk false true 3 1 fun x=>c6)]);let c1:af (List AV×aE):=af.aj [nl N<=2,nl D<=2,(0:Int)<=(↑N:Int)/\(↑N:Int)<2^64,(0:Int)<(↑D:Int)/\(↑D:Int)<2^64,(0:Nat)<1] (af.leaf aq.ret (c3,[(0,ax.mk false true 3 1 fun j=>if(j==0)=true then eC (rat c5 (dS c5))else c6)]));some (af.fork c4 (af.aj [c4=true] (af.fork (bif true then decide ((↑(nl D):Int)<=2)else false) c1 c2)) (af.aj [c4=false] (af.fork false c1 c2))):=ah
theorem ahq {b:Bool} {N D:Nat}:aH T GR [36] 60 lE ((before (aI f133) [1,1,1,1]).drop (2+1)) ⟨aB lE (rj b N D),tB,1⟩=
  let c5:Int:=(↑(bX (N.gcd D)):Int);let c3:AV:=ptr 0 0 3 0 [];let c2:Nat×ax:=(0,ax.mk false true 3 1 fun x=>rat 0 1);let c1:Nat:=2^40;let c4:Prop:=nl (N.gcd D)<c1;some (af.aj [nl N<c1,nl D<c1] (af.aj [c4] (af.fork (decide (c5>1)) (af.aj [nl N<c1,c4] (af.aj [nl D<c1,c4] (af.leaf aq.normal ([AV.bool b,mag (N/N.gcd D),mag (D/N.gcd D),c3],[c2])))) (af.leaf aq.normal ([AV.bool b,mag N,mag D,c3],[c2]))))):=ah
theorem XB {b:Bool} {N D:Nat}:cR T GR [58,63] 60 f133 [part (aI f133) [1,1,1,1]] ⟨aB lE (rj b N D),tB,1⟩=
  let c6:Nat:=D+0;let c5:List Prop:=[(0:Nat)<1];let c4:Nat:=2^40;let c3:Bool:=(↑(nl c6):Int)==1;let c2:af (List AV):=af.aj c5 (af.aj c5 (af.leaf aq.ret [agg [AV.bool b,mag (N+0),nil]]));let c1:af (List AV):=af.aj c5 (af.aj c5 (af.leaf aq.ret [agg [AV.bool b,mag (N+0),mag c6]]));some (af.aj [nl N<c4,(0:Nat)<c4,nl D<c4,(0:Nat)<c4] (af.fork c3 (af.aj [c3=true,(0:Int)<=0/\Int.toNat (0:Int)<nl c6] (af.fork (bif true then(↑(aD c6 (Int.toNat (0:Int))):Int)==1 else false) c2 c1)) (af.aj [c3=false] (af.fork false c2 c1)))):=ah
theorem j4 {a b v:Bool} (h:(bif true then a else b)=v):a=v:=h
theorem Fe {N:Nat}:bX N=0↔N=0:=by unfold bX;split<;>simp_all
theorem ahj {N:Nat}:bX N<=1↔N<=1:=by rw[j6];omega
theorem lK {N:Nat}:nl N=0↔N=0:=by
 constructor
 ·intro h
  rcases Nat.eq_zero_or_pos N with h1|h1
  ·exact h1
  ·have:=iB.2 (show N≠0 by omega);omega
 ·intro h;subst h;rfl
theorem Ub {b:Bool} {n:Nat}:sQ b n 0=0:=by unfold sQ;simp
theorem MR {b:Bool} {x:Nat}:bg (.agg [.bool b,.mag x,.nil]) (.agg [.bool b,.mag x,.mag 0]):=p8 ⟨.refl _,.refl _,lT,trivial⟩
theorem adG {b:Bool} {N D:Nat} (hN:nl N<2^40) (hD:nl D<2^40) (K:Nat) (pre:aE):aS P 133 K [.bool b,.mag N,.mag D] pre (aM (.rat (sQ b N D) (dS (sQ b N D))) []):=by
 refine iE hT abI rfl aZ rfl (fun _ c h0=>?_) K pre
 have hO:∀{v:AV},keys v=[]->jA 1 [(0,(⟨false,true,3,1,fun j=>if j=0 then v else .rat 0 1⟩:ax))]:=fun h=>⟨⟨aa,fun i _=>by show keys (if i=0 then _ else _)=[];split;exact h;rfl⟩,trivial⟩
 have hO':jA 1 tB:=⟨⟨aa,fun _ _=>rfl⟩,trivial⟩
 have hz:sQ b N D=0->bg (.agg [.bool false,.mag 0,.mag 0]) (.rat (sQ b N D) (dS (sQ b N D))):=fun h=>by
  rw[h];exact pF
 refine au.hole [1,1,1,1] ah (aF.chunk 2 (aF.bL hT od hm 60 lE UD ah ?_))
 simp only[af.all,az,beq_iff_eq,beq_eq_false_iff_ne,ne_eq]
 -- behind the first questions
 have rest:∀{s':aK},N≠0->D≠0->bA lE s'=some (rj b N D,tB)->
   aF P c f133.ntmps ((before (aI f133) [1,1,1,1]).drop 2) s' (fF (fun s'=>au P c f133.ntmps (part (aI f133) [1,1,1,1]) s' (fF (fun s'=>aF P c f133.ntmps (behind (aI f133) [1,1,1,1]) s' (gq c (Fin T f133 (.rat (sQ b N D) (dS (sQ b N D)))))) (gq c (Fin T f133 (.rat (sQ b N D) (dS (sQ b N D)))))))
    (gq c (Fin T f133 (.rat (sQ b N D) (dS (sQ b N D)))))):=by
  intro s' hN0 hD0 hv
  have last:∀{s':aK} {X Y:Nat},nl X<2^40->nl Y<2^40->X=N/Nat.gcd N D->Y=D/Nat.gcd N D->bA lE s'=some (rj b X Y,tB)->
    au P c f133.ntmps (part (aI f133) [1,1,1,1]) s' (fF (fun s'=>aF P c f133.ntmps (behind (aI f133) [1,1,1,1]) s' (gq c (Fin T f133 (.rat (sQ b N D) (dS (sQ b N D)))))) (gq c (Fin T f133 (.rat (sQ b N D) (dS (sQ b N D)))))):=by
   intro s' X Y hX hY eX eY hv
   refine au.mono (Q:=fF (fun s'=>aF P c f133.ntmps [] s' (gq c (Fin T f133 (.rat (sQ b N D) (dS (sQ b N D)))))) (gq c (Fin T f133 (.rat (sQ b N D) (dS (sQ b N D)))))) ?_ fun e s' h=>by cases e<;>exact h
   refine aF.lI (l:=[part (aI f133) [1,1,1,1]]) hT od hm 60 hv (h0 _) rfl hO' XB ah rfl ?_
   simp only[af.all,az,beq_iff_eq,beq_eq_false_iff_ne,ne_eq,Nat.add_zero,Int.toNat_zero]
   have hY0:Y≠0:=by rw[eY];exact Nat.pos_iff_ne_zero.1 (Nat.div_pos (Nat.le_of_dvd aa (Nat.gcd_dvd_right _ _)) (Nat.gcd_pos_of_pos_left _ aa))
   have h1:Y≠1->bg (.agg [.bool b,.mag X,.mag Y]) (.rat (sQ b N D) (dS (sQ b N D))):=fun h=>uC hN0 hD0 eX (by rw[<-eY,if_neg h]) zx
   have h2:Y=1->bg (.agg [.bool b,.mag X,.nil]) (.rat (sQ b N D) (dS (sQ b N D))):=fun h=>MR.trans (uC hN0 hD0 eX (by rw[<-eY,if_pos h]) zx)
   have hl:nl Y=1->aD Y 0=Y:=fun h=>by
    have:=ic (N:=Y)
    rw[h,val,val]at this
    simpa using this
   refine⟨⟨hX,aa,hY,aa⟩,fun hb=>⟨⟨hb,aa,aa⟩,fun hc=>⟨aa,aa,h2 ?_⟩,fun hc=>⟨aa,aa,h1 ?_⟩⟩,fun hb=>⟨hb,fun h=>by simp at h,fun _=>⟨aa,aa,h1 ?_⟩⟩⟩
   ·have:=j4 hc
    rw[hl aa]at this
    have:=eq_of_beq this
    omega
   ·have:=j4 hc
    rw[hl aa]at this
    intro h
    rw[h]at this
    simp at this
   ·intro h
    rw[h]at hb
    exact hb (by decide)
  refine aF.chunk 1 (aF.gh hT od hm 60 hv (h0 _) rfl hO' lE agI ah rfl ?_)
  simp only[af.all,az,bD,bI,bG,beq_iff_eq]
  have long:∀{s':aK},bA lE s'=some (rj b N D,tB)->aF P c f133.ntmps (((before (aI f133) [1,1,1,1]).drop 2).drop 1) s' (fF (fun s'=>au P c f133.ntmps (part (aI f133) [1,1,1,1]) s' (fF (fun s'=>aF P c f133.ntmps (behind (aI f133) [1,1,1,1]) s' (gq c (Fin T f133 (.rat (sQ b N D) (dS (sQ b N D)))))) (gq c (Fin T f133 (.rat (sQ b N D) (dS (sQ b N D)))))))
    (gq c (Fin T f133 (.rat (sQ b N D) (dS (sQ b N D)))))):=by
   intro s' hv
   rw[List.drop_drop]
   refine aF.gh hT od hm 60 hv (h0 _) rfl hO' lE ahq ah rfl ?_
   simp only[af.all,az,bD,bI]
   have hg:nl (Nat.gcd N D)<2^40:=Nat.lt_of_le_of_lt (jd (Nat.gcd_le_left _ aa)) hN
   have hg0:0<Nat.gcd N D:=Nat.gcd_pos_of_pos_left _ aa
   refine⟨⟨hN,hD⟩,hg,fun hb=>⟨⟨hN,hg⟩,⟨hD,hg⟩,fun s' hv=>last (Nat.lt_of_le_of_lt (jd (Nat.div_le_self _ _)) hN) (Nat.lt_of_le_of_lt (jd (Nat.div_le_self _ _)) hD) rfl rfl hv⟩,fun hb s' hv=>?_⟩
   have hg1:Nat.gcd N D=1:=by
    have:bX (Nat.gcd N D)<=1:=aa
    have:=ahj.1 this
    omega
   exact last hN hD (by rw[hg1,Nat.div_one]) (by rw[hg1,Nat.div_one]) hv
  refine⟨fun hb=>⟨hb,fun hc=>⟨?_,fun s' hv=>?_⟩,fun hc s' hv=>cW (long hv)⟩,fun hb=>⟨hb,fun h=>by simp at h,fun _ s' hv=>cW (long hv)⟩⟩
  ·have h2:nl D<=2:=by have:=of_decide_eq_true (j4 hc);omega
   have:=rq (show nl N<=2 by omega)
   have:=rq h2
   exact⟨aa,h2,aa,aa,aa⟩
  ·refine gr (gr (B9 ad8 hv (h0 _) rfl (hO rfl) ⟨by simp[az],?_⟩))
   exact .refl _
 refine⟨fun hb=>⟨⟨hN,hb⟩,fun _=>⟨aa,fun s' hv=>gr (gr (B9 LZ hv (h0 _) rfl (hO rfl) ⟨by simp[az],hz ?_⟩))⟩,fun h=>by simp at h⟩,fun hb=>⟨⟨hN,hb,hD⟩,fun hc=>⟨aa,fun s' hv=>gr (gr (B9 LZ hv (h0 _) rfl (hO rfl) ⟨by simp[az],hz ?_⟩))⟩,fun hc s' hv=>cW (rest ?_ ?_ hv)⟩⟩
 ·rw[Fe.1 (show bX N=0 by omega),Gv]
 ·have:=eq_of_beq (jt hc)
  rw[Fe.1 (show bX D=0 by omega),Ub]
 ·intro h;rw[h]at hb;exact hb (by decide)
 ·intro h
  have:=jt hc
  rw[h]at this
  simp[bX]at this
end Go.Am.B
