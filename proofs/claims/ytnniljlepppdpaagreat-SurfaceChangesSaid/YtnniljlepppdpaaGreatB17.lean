/- rational.den, parts, reduce, Same, Sign, copied, size. -/
import Derived.Test.YtnniljlepppdpaaGreatB16
set_option linter.unusedVariables false
namespace Go.Am.B
open Go Go.Am.N AV
theorem acR:aT P Ah Fc (ay Fc):=aU Proofs.Tryz.func199 ag ag ag
theorem akG:aT P CG FQ (ay FQ):=aU Proofs.Tryz.func213 ag ag ag
theorem Yj:aT P zG er (ay er):=aU Proofs.Tryz.func215 ag ag ag
theorem afr:aT P iC E6 (ay E6):=aU Proofs.Tryz.func117 ag ag ag
theorem ZX:aT P vI BO (ay BO):=aU Proofs.Tryz.func96 ag ag ag
theorem agI:aT P Cl DN (ay DN):=aU Proofs.Tryz.func249 ag ag ag
theorem Y4:aT P G4 CE (ay CE):=aU Proofs.Tryz.func251 ag ag ag
def GR:bf:=(zm,bY (mQ Lb))::(E0,bY (mQ Du))::(AZ,K9)::(Bu,bY (iN KS))::(xT,bY (iN Mi))::(yW,bY (iN JC))::(AU,Jr)::(zV,Ld)::(uW,BX)::(yo,K8)::[]
theorem nR:bu P GR:=aI Up (aI agS (aI Tf (aI UQ (aI OH (aI On (aI Vc (aI Rd (aI LM (aI UU bz)))))))))
theorem WE {q:Rat} {n:Nat}:bU T GR [6] 60 Fc (ay Fc) ⟨aP 0 [.rat q n],[],0⟩=
  let c1:Nat:=if q.den=1 then 0 else q.den;some (ah.aj [(0:Nat)<1] (ah.fork ((↑(nl c1):Int)==0) (ah.leaf ax.ret [mag 1]) (ah.aj [(0:Nat)<1] (ah.leaf ax.ret [mag c1])))):=ag
theorem anU {q:Rat} {n:Nat}:bU T GR [9,14,18] 60 FQ (ay FQ) ⟨aP 0 [.rat q n],[],0⟩=
  let c11:AV:=int .u64 (0:Int);let c8:Nat:=q.num.natAbs;let c4:Prop:=0<1;let c2:Nat:=if q.den=1 then 0 else q.den;let c10:AV:=int .u64 (↑c8:Int);let c9:Int:=(↑(nl c2):Int);let c6:Int:=IntKind.u64.wrap (↑(aF c2 (Int.toNat (0:Int))):Int);let c5:ah (List AV):=ah.leaf ax.ret [c11,c11,AV.bool false];let c3:Int:=(↑(nl c8):Int);let c7:Bool:=decide (c3>1);let c1:ah (List AV):=ah.aj [c4] (ah.fork (c9==1) (ah.aj [c4,(0:Int)<=0/\Int.toNat (0:Int)<nl c2] (ah.aj [c4,nl c8<=2] (ah.leaf ax.ret [c10,int .u64 c6,AV.bool (c6 !=(0:Int))]))) (ah.aj [c4,nl c8<=2] (ah.leaf ax.ret [c10,int .u64 (1:Int),AV.bool true])));some (ah.fork c7 (ah.aj [c4,c7=true] (ah.fork true c5 c1)) (ah.aj [c4,c7=false,c4] (ah.fork (bif false then true else decide (c9>1)) c5 c1))):=ag
theorem ac3 {q r:Rat} {n m:Nat}:bU T GR [10,17] 60 E6 (ay E6) ⟨aP 0 [.rat q n,.rat r m],[],0⟩=
  let c9:Nat:=q.num.natAbs;let c8:Nat:=r.num.natAbs;let c5:Nat:=2^40;let c4:Bool:=decide (q<0)==decide (r<0);let c3:Nat:=if q.den=1 then 0 else q.den;let c2:Nat:=if r.den=1 then 0 else r.den;let c1:Prop:=0<1;let c10:List Prop:=[c1,c1,nl c3<c5,nl c2<c5];let c7:ah (List AV):=ah.leaf ax.ret [AV.bool (bif true then decide (c3=c2)else false)];let c6:Bool:=bif true then decide (c9=c8)else false;some (ah.fork c4 (ah.fork c6 (ah.aj (c1::c1::(c4=true)::c1::c1::(nl c9<c5)::(nl c8<c5)::(c6=true)::c10) c7) (ah.aj [c1,c1,c4=true,c1,c1,nl c9<c5,nl c8<c5,c6=false] (ah.leaf ax.ret [AV.bool false]))) (ah.fork false (ah.aj (c1::c1::(c4=false)::(false=true)::c10) c7) (ah.aj [c1,c1,c4=false,false=false] (ah.leaf ax.ret [AV.bool false])))):=ag
theorem agq {q:Rat} {n:Nat}:bU T GR [3,8] 60 BO (ay BO) ⟨aP 0 [.rat q n],[],0⟩=
  some (ah.aj [(0:Nat)<1,nl q.num.natAbs<2^40] (ah.fork ((↑(bQ q.num.natAbs):Int)==0) (ah.leaf ax.ret [int .i64 (0:Int)]) (ah.aj [(0:Nat)<1] (ah.fork (decide (q<0)) (ah.leaf ax.ret [int .i64 (-1:Int)]) (ah.leaf ax.ret [int .i64 (1:Int)]))))):=ag
theorem ali {q:Rat} {n:Nat}:bU T GR [] 60 DN (ay DN) ⟨aP 0 [.rat q n],[],0⟩=
  let c2:Nat:=if q.den=1 then 0 else q.den;let c1:Prop:=0<1;some (ah.aj [c1,c1,nl q.num.natAbs<2^40,c1,nl c2<2^40,c1] (ah.aj [c1] (ah.leaf ax.ret [agg [AV.bool (decide (q<0)),mag q.num.natAbs,mag c2]]))):=ag
theorem aiS {n:Int}:bU T GR [4] 60 CE (ay CE) ⟨aP 0 [.int .i64 n],[],0⟩=
  let c1:Int:=IntKind.i64.wrap ((0:Int)-n);let c2:Int:=IntKind.u64.wrap (if n<c1 then c1 else n);some (ah.fork (n==(-9223372036854775808:Int)) (ah.aj [(0:Int)<=9223372036854775808/\(9223372036854775808:Int)<2^64] (ah.leaf ax.ret [mag 9223372036854775808])) (ah.aj [(0:Int)<=c2/\c2<2^64] (ah.leaf ax.ret [mag c2.toNat]))):=ag
abbrev kV:List Nat:=[0,1,2,6]
abbrev rD (b:Bool) (N D:Nat):List AV:=[.bool b,.mag N,.mag D,.ptr 0 0 3 0 []]
abbrev s9:aE:=[(0,⟨false,true,3,1,fun _=>.rat 0 1⟩)]
theorem Yb {b:Bool} {N D:Nat}:aG T GR [11,15] 60 kV ((before (ay er) [1,1,1,1]).take 2) ⟨aP 0 [.bool b,.mag N,.mag D],[],0⟩=
  let c6:Nat:=2^40;let c5:AV:=rat 0 1;let c4:Bool:=(↑(bQ N):Int)==0;let c3:List AV:=[AV.bool b,mag N,mag D,ptr 0 0 3 0 []];let c2:ah (List AV×aE):=ah.leaf ax.normal (c3,[(0,ak.mk false true 3 1 fun x=>c5)]);let c1:ah (List AV×aE):=ah.aj [(0:Nat)<1] (ah.leaf ax.ret (c3,[(0,ak.mk false true 3 1 fun j=>if(j==0)=true then aV (agg c5.kids)else c5)]));some (ah.fork c4 (ah.aj [nl N<c6,c4=true] (ah.fork true c1 c2)) (ah.aj [nl N<c6,c4=false,nl D<c6] (ah.fork (bif false then true else(↑(bQ D):Int)==0) c1 c2))):=ag
theorem Nm {b:Bool} {N D:Nat}:jt T er .ret ⟨aB kV (rD b N D),[(0,⟨false,true,3,1,fun j=>if j=0 then aV (.agg (AV.kids (.rat 0 1)))else .rat 0 1⟩)],1⟩=
  some (ah.aj [(0:Nat)<1] (ah.leaf ax.ret [agg [AV.bool false,mag 0,mag 0]])):=ag
theorem aaI {b:Bool} {N D:Nat} {q:Rat} {k:Nat}:jt T er .ret ⟨aB kV (rD b N D),[(0,⟨false,true,3,1,fun j=>if j=0 then aV (.rat q k)else .rat 0 1⟩)],1⟩=
  some (ah.aj [(0:Nat)<1] (ah.leaf ax.ret [rat q k])):=ag
theorem aeD {b:Bool} {N D:Nat}:aG T GR [20,24] 60 kV (((before (ay er) [1,1,1,1]).drop 2).take 1) ⟨aB kV (rD b N D),s9,1⟩=
  let c6:AV:=rat 0 1;let c5:Rat:=sQ b (↑N:Int).toNat (↑D:Int).toNat;let c4:Bool:=decide ((↑(nl N):Int)<=2);let c3:List AV:=[AV.bool b,mag N,mag D,ptr 0 0 3 0 []];let c2:ah (List AV×aE):=ah.leaf ax.normal (c3,[(0,ak.mk false true 3 1 fun x=>c6)]);let c1:ah (List AV×aE):=ah.aj [nl N<=2,nl D<=2,(0:Int)<=(↑N:Int)/\(↑N:Int)<2^64,(0:Int)<(↑D:Int)/\(↑D:Int)<2^64,(0:Nat)<1] (ah.leaf ax.ret (c3,[(0,ak.mk false true 3 1 fun j=>if(j==0)=true then aV (rat c5 (cZ c5))else c6)]));some (ah.fork c4 (ah.aj [c4=true] (ah.fork (bif true then decide ((↑(nl D):Int)<=2)else false) c1 c2)) (ah.aj [c4=false] (ah.fork false c1 c2))):=ag
theorem Zh {b:Bool} {N D:Nat}:aG T GR [36] 60 kV ((before (ay er) [1,1,1,1]).drop (2+1)) ⟨aB kV (rD b N D),s9,1⟩=
  let c5:Int:=(↑(bQ (N.gcd D)):Int);let c3:AV:=ptr 0 0 3 0 [];let c2:Nat×ak:=(0,ak.mk false true 3 1 fun x=>rat 0 1);let c1:Nat:=2^40;let c4:Prop:=nl (N.gcd D)<c1;some (ah.aj [nl N<c1,nl D<c1] (ah.aj [c4] (ah.fork (decide (c5>1)) (ah.aj [nl N<c1,c4] (ah.aj [nl D<c1,c4] (ah.leaf ax.normal ([AV.bool b,mag (N/N.gcd D),mag (D/N.gcd D),c3],[c2])))) (ah.leaf ax.normal ([AV.bool b,mag N,mag D,c3],[c2]))))):=ag
theorem ahN {b:Bool} {N D:Nat}:cj T GR [58,63] 60 er [part (ay er) [1,1,1,1]] ⟨aB kV (rD b N D),s9,1⟩=
  let c6:Nat:=D+0;let c5:List Prop:=[(0:Nat)<1];let c4:Nat:=2^40;let c3:Bool:=(↑(nl c6):Int)==1;let c2:ah (List AV):=ah.aj c5 (ah.aj c5 (ah.leaf ax.ret [agg [AV.bool b,mag (N+0),nil]]));let c1:ah (List AV):=ah.aj c5 (ah.aj c5 (ah.leaf ax.ret [agg [AV.bool b,mag (N+0),mag c6]]));some (ah.aj [nl N<c4,(0:Nat)<c4,nl D<c4,(0:Nat)<c4] (ah.fork c3 (ah.aj [c3=true,(0:Int)<=0/\Int.toNat (0:Int)<nl c6] (ah.fork (bif true then(↑(aF c6 (Int.toNat (0:Int))):Int)==1 else false) c2 c1)) (ah.aj [c3=false] (ah.fork false c2 c1)))):=ag
theorem jH {a b v:Bool} (h:(bif true then a else b)=v):a=v:=h
theorem Io {N:Nat}:bQ N=0↔N=0:=by unfold bQ;split<;>simp_all
theorem YM {N:Nat}:bQ N<=1↔N<=1:=by rw[jg];omega
theorem jX {N:Nat}:nl N=0↔N=0:=by
 constructor
 ·intro h
  rcases Nat.eq_zero_or_pos N with h1|h1
  ·exact h1
  ·have:=gJ.2 (show N≠0 by omega);omega
 ·intro h;subst h;rfl
theorem al7 {b:Bool} {n:Nat}:sQ b n 0=0:=by unfold sQ;simp
theorem RU {b:Bool} {x:Nat}:bN (.agg [.bool b,.mag x,.nil]) (.agg [.bool b,.mag x,.mag 0]):=b7 ⟨.refl _,.refl _,lJ,trivial⟩
theorem adL {b:Bool} {N D:Nat} (hN:nl N<2^40) (hD:nl D<2^40) (K:Nat) (pre:aE):aQ P zG K [.bool b,.mag N,.mag D] pre (aJ (.rat (sQ b N D) (cZ (sQ b N D))) []):=by
 refine fc hT Yj rfl aX rfl (fun _ c h0=>?_) K pre
 have hO:∀{v:AV},keys v=[]->iB 1 [(0,(⟨false,true,3,1,fun j=>if j=0 then v else .rat 0 1⟩:ak))]:=fun h=>⟨⟨aa,fun i _=>by show keys (if i=0 then _ else _)=[];split;exact h;rfl⟩,trivial⟩
 have hO':iB 1 s9:=⟨⟨aa,fun _ _=>rfl⟩,trivial⟩
 have hz:sQ b N D=0->bN (.agg [.bool false,.mag 0,.mag 0]) (.rat (sQ b N D) (cZ (sQ b N D))):=fun h=>by
  rw[h];exact kG
 refine au.hole [1,1,1,1] ag (aH.chunk 2 (aH.bC hT nR hm 60 kV Yb ag ?_))
 simp only[ah.all,aA,beq_iff_eq,beq_eq_false_iff_ne,ne_eq]
 -- behind the first questions
 have rest:∀{s':aK},N≠0->D≠0->bA kV s'=some (rD b N D,s9)->
   aH P c er.ntmps ((before (ay er) [1,1,1,1]).drop 2) s' (dM (fun s'=>au P c er.ntmps (part (ay er) [1,1,1,1]) s' (dM (fun s'=>aH P c er.ntmps (behind (ay er) [1,1,1,1]) s' (eo c (Fin T er (.rat (sQ b N D) (cZ (sQ b N D)))))) (eo c (Fin T er (.rat (sQ b N D) (cZ (sQ b N D)))))))
    (eo c (Fin T er (.rat (sQ b N D) (cZ (sQ b N D)))))):=by
  intro s' hN0 hD0 hv
  have last:∀{s':aK} {X Y:Nat},nl X<2^40->nl Y<2^40->X=N/Nat.gcd N D->Y=D/Nat.gcd N D->bA kV s'=some (rD b X Y,s9)->
    au P c er.ntmps (part (ay er) [1,1,1,1]) s' (dM (fun s'=>aH P c er.ntmps (behind (ay er) [1,1,1,1]) s' (eo c (Fin T er (.rat (sQ b N D) (cZ (sQ b N D)))))) (eo c (Fin T er (.rat (sQ b N D) (cZ (sQ b N D)))))):=by
   intro s' X Y hX hY eX eY hv
   refine au.mono (Q:=dM (fun s'=>aH P c er.ntmps [] s' (eo c (Fin T er (.rat (sQ b N D) (cZ (sQ b N D)))))) (eo c (Fin T er (.rat (sQ b N D) (cZ (sQ b N D)))))) ?_ fun e s' h=>by cases e<;>exact h
   refine aH.kO (l:=[part (ay er) [1,1,1,1]]) hT nR hm 60 hv (h0 _) rfl hO' ahN ag rfl ?_
   simp only[ah.all,aA,beq_iff_eq,beq_eq_false_iff_ne,ne_eq,Nat.add_zero,Int.toNat_zero]
   have hY0:Y≠0:=by rw[eY];exact Nat.pos_iff_ne_zero.1 (Nat.div_pos (Nat.le_of_dvd aa (Nat.gcd_dvd_right _ _)) (Nat.gcd_pos_of_pos_left _ aa))
   have h1:Y≠1->bN (.agg [.bool b,.mag X,.mag Y]) (.rat (sQ b N D) (cZ (sQ b N D))):=fun h=>vg hN0 hD0 eX (by rw[<-eY,if_neg h]) xu
   have h2:Y=1->bN (.agg [.bool b,.mag X,.nil]) (.rat (sQ b N D) (cZ (sQ b N D))):=fun h=>RU.trans (vg hN0 hD0 eX (by rw[<-eY,if_pos h]) xu)
   have hl:nl Y=1->aF Y 0=Y:=fun h=>by
    have:=gA (N:=Y)
    rw[h,val,val]at this
    simpa using this
   refine⟨⟨hX,aa,hY,aa⟩,fun hb=>⟨⟨hb,aa,aa⟩,fun hc=>⟨aa,aa,h2 ?_⟩,fun hc=>⟨aa,aa,h1 ?_⟩⟩,fun hb=>⟨hb,fun h=>by simp at h,fun _=>⟨aa,aa,h1 ?_⟩⟩⟩
   ·have:=jH hc
    rw[hl aa]at this
    have:=eq_of_beq this
    omega
   ·have:=jH hc
    rw[hl aa]at this
    intro h
    rw[h]at this
    simp at this
   ·intro h
    rw[h]at hb
    exact hb (by decide)
  refine aH.chunk 1 (aH.fJ hT nR hm 60 hv (h0 _) rfl hO' kV aeD ag rfl ?_)
  simp only[ah.all,aA,bq,bw,bn,beq_iff_eq]
  have long:∀{s':aK},bA kV s'=some (rD b N D,s9)->aH P c er.ntmps (((before (ay er) [1,1,1,1]).drop 2).drop 1) s' (dM (fun s'=>au P c er.ntmps (part (ay er) [1,1,1,1]) s' (dM (fun s'=>aH P c er.ntmps (behind (ay er) [1,1,1,1]) s' (eo c (Fin T er (.rat (sQ b N D) (cZ (sQ b N D)))))) (eo c (Fin T er (.rat (sQ b N D) (cZ (sQ b N D)))))))
    (eo c (Fin T er (.rat (sQ b N D) (cZ (sQ b N D)))))):=by
   intro s' hv
   rw[List.drop_drop]
   refine aH.fJ hT nR hm 60 hv (h0 _) rfl hO' kV Zh ag rfl ?_
   simp only[ah.all,aA,bq,bw]
   have hg:nl (Nat.gcd N D)<2^40:=Nat.lt_of_le_of_lt (iH (Nat.gcd_le_left _ aa)) hN
   have hg0:0<Nat.gcd N D:=Nat.gcd_pos_of_pos_left _ aa
   refine⟨⟨hN,hD⟩,hg,fun hb=>⟨⟨hN,hg⟩,⟨hD,hg⟩,fun s' hv=>last (Nat.lt_of_le_of_lt (iH (Nat.div_le_self _ _)) hN) (Nat.lt_of_le_of_lt (iH (Nat.div_le_self _ _)) hD) rfl rfl hv⟩,fun hb s' hv=>?_⟩
   have hg1:Nat.gcd N D=1:=by
    have:bQ (Nat.gcd N D)<=1:=aa
    have:=YM.1 this
    omega
   exact last hN hD (by rw[hg1,Nat.div_one]) (by rw[hg1,Nat.div_one]) hv
  refine⟨fun hb=>⟨hb,fun hc=>⟨?_,fun s' hv=>?_⟩,fun hc s' hv=>cO (long hv)⟩,fun hb=>⟨hb,fun h=>by simp at h,fun _ s' hv=>cO (long hv)⟩⟩
  ·have h2:nl D<=2:=by have:=of_decide_eq_true (jH hc);omega
   have:=qj (show nl N<=2 by omega)
   have:=qj h2
   exact⟨aa,h2,aa,aa,aa⟩
  ·refine fM (fM (AM aaI hv (h0 _) rfl (hO rfl) ⟨by simp[aA],?_⟩))
   exact .refl _
 refine⟨fun hb=>⟨⟨hN,hb⟩,fun _=>⟨aa,fun s' hv=>fM (fM (AM Nm hv (h0 _) rfl (hO rfl) ⟨by simp[aA],hz ?_⟩))⟩,fun h=>by simp at h⟩,fun hb=>⟨⟨hN,hb,hD⟩,fun hc=>⟨aa,fun s' hv=>fM (fM (AM Nm hv (h0 _) rfl (hO rfl) ⟨by simp[aA],hz ?_⟩))⟩,fun hc s' hv=>cO (rest ?_ ?_ hv)⟩⟩
 ·rw[Io.1 (show bQ N=0 by omega),JL]
 ·have:=eq_of_beq (iS hc)
  rw[Io.1 (show bQ D=0 by omega),al7]
 ·intro h;rw[h]at hb;exact hb (by decide)
 ·intro h
  have:=iS hc
  rw[h]at this
  simp[bQ]at this
end Go.Am.B
