/- rational.den, parts, reduce, Same, Sign, copied, size. -/
import Derived.Test.YtolopdkjjlfgjaaGreatB16
set_option linter.unusedVariables false
namespace Go.Am.B
open Go Go.Am.N AV Proofs.Tryz IntKind
theorem ai6:bf 120 f120:=bg func120
theorem ahA:bf 116 f116:=bg func116
theorem Xk:bf 133 f133:=bg func133
theorem abZ:bf 110 f110:=bg func110
theorem WO:bf 65 f65:=bg func65
theorem adD:bf 166 f166:=bg func166
theorem YJ:bf 134 f134:=bg func134
def GR:bk:=(126,cu (mZ El))::(159,cu (mZ BC))::(165,H8)::(167,cu (jw Gb))::(168,cu (jw DY))::(169,cu (jw He))::(132,HT)::(117,Fo)::(181,AP)::(170,Fb)::[]
theorem oG:bR P GR:=aJ MQ (aJ ajp (aJ OC (aJ LQ (aJ QB (aJ MH (aJ OS (aJ Nz (aJ HB (aJ NN cz)))))))))
theorem af9 {q:Rat} {n:Nat}:b9 T GR [6] 60 f120 (aH f120) ⟨aU 0 [.rat q n],[],0⟩=
  let c1:Nat:=if q.den=1 then 0 else q.den;some (ag.aj [(0:Nat)<1] (ag.fork ((↑(nl c1):Int)==0) (ag.leaf aq.ret [mag 1]) (ag.aj [(0:Nat)<1] (ag.leaf aq.ret [mag c1])))):=ah
theorem agv {q:Rat} {n:Nat}:b9 T GR [9,14,18] 60 f116 (aH f116) ⟨aU 0 [.rat q n],[],0⟩=
  let c11:AV:=int .u64 (0:Int);let c8:Nat:=q.num.natAbs;let c4:Prop:=0<1;let c2:Nat:=if q.den=1 then 0 else q.den;let c10:AV:=int .u64 (↑c8:Int);let c9:Int:=(↑(nl c2):Int);let c6:Int:=u64.wrap (↑(aD c2 (Int.toNat (0:Int))):Int);let c5:ag (List AV):=ag.leaf aq.ret [c11,c11,AV.bool false];let c3:Int:=(↑(nl c8):Int);let c7:Bool:=decide (c3>1);let c1:ag (List AV):=ag.aj [c4] (ag.fork (c9==1) (ag.aj [c4,(0:Int)<=0/\Int.toNat (0:Int)<nl c2] (ag.aj [c4,nl c8<=2] (ag.leaf aq.ret [c10,int .u64 c6,AV.bool (c6 !=(0:Int))]))) (ag.aj [c4,nl c8<=2] (ag.leaf aq.ret [c10,int .u64 (1:Int),AV.bool true])));some (ag.fork c7 (ag.aj [c4,c7=true] (ag.fork true c5 c1)) (ag.aj [c4,c7=false,c4] (ag.fork (bif false then true else decide (c9>1)) c5 c1))):=ah
theorem abr {q r:Rat} {n m:Nat}:b9 T GR [10,17] 60 f110 (aH f110) ⟨aU 0 [.rat q n,.rat r m],[],0⟩=
  let c9:Nat:=q.num.natAbs;let c8:Nat:=r.num.natAbs;let c5:Nat:=2^40;let c4:Bool:=decide (q<0)==decide (r<0);let c3:Nat:=if q.den=1 then 0 else q.den;let c2:Nat:=if r.den=1 then 0 else r.den;let c1:Prop:=0<1;let c10:List Prop:=[c1,c1,nl c3<c5,nl c2<c5];let c7:ag (List AV):=ag.leaf aq.ret [AV.bool (bif true then decide (c3=c2)else false)];let c6:Bool:=bif true then decide (c9=c8)else false;some (ag.fork c4 (ag.fork c6 (ag.aj (c1::c1::(c4=true)::c1::c1::(nl c9<c5)::(nl c8<c5)::(c6=true)::c10) c7) (ag.aj [c1,c1,c4=true,c1,c1,nl c9<c5,nl c8<c5,c6=false] (ag.leaf aq.ret [AV.bool false]))) (ag.fork false (ag.aj (c1::c1::(c4=false)::(false=true)::c10) c7) (ag.aj [c1,c1,c4=false,false=false] (ag.leaf aq.ret [AV.bool false])))):=ah
theorem aan {q:Rat} {n:Nat}:b9 T GR [3,8] 60 f65 (aH f65) ⟨aU 0 [.rat q n],[],0⟩=
  some (ag.aj [(0:Nat)<1,nl q.num.natAbs<2^40] (ag.fork ((↑(bV q.num.natAbs):Int)==0) (ag.leaf aq.ret [int .i64 (0:Int)]) (ag.aj [(0:Nat)<1] (ag.fork (decide (q<0)) (ag.leaf aq.ret [int .i64 (-1:Int)]) (ag.leaf aq.ret [int .i64 (1:Int)]))))):=ah
theorem aaJ {q:Rat} {n:Nat}:b9 T GR [] 60 f166 (aH f166) ⟨aU 0 [.rat q n],[],0⟩=
  let c2:Nat:=if q.den=1 then 0 else q.den;let c1:Prop:=0<1;some (ag.aj [c1,c1,nl q.num.natAbs<2^40,c1,nl c2<2^40,c1] (ag.aj [c1] (ag.leaf aq.ret [agg [AV.bool (decide (q<0)),mag q.num.natAbs,mag c2]]))):=ah
theorem ajM {n:Int}:b9 T GR [4] 60 f134 (aH f134) ⟨aU 0 [.int .i64 n],[],0⟩=
  let c1:Int:=i64.wrap ((0:Int)-n);let c2:Int:=u64.wrap (if n<c1 then c1 else n);some (ag.fork (n==(-9223372036854775808:Int)) (ag.aj [(0:Int)<=9223372036854775808/\(9223372036854775808:Int)<2^64] (ag.leaf aq.ret [mag 9223372036854775808])) (ag.aj [(0:Int)<=c2/\c2<2^64] (ag.leaf aq.ret [mag c2.toNat]))):=ah
abbrev lC:List Nat:=[0,1,2,6]
abbrev rU (b:Bool) (N D:Nat):List AV:=[.bool b,.mag N,.mag D,.ptr 0 0 3 0 []]
abbrev ux:aE:=[(0,⟨false,true,3,1,fun _=>.rat 0 1⟩)]
theorem Tk {b:Bool} {N D:Nat}:aI T GR [11,15] 60 lC ((before (aH f133) [1,1,1,1]).take 2) ⟨aU 0 [.bool b,.mag N,.mag D],[],0⟩=
  let c6:Nat:=2^40;let c5:AV:=rat 0 1;let c4:Bool:=(↑(bV N):Int)==0;let c3:List AV:=[AV.bool b,mag N,mag D,ptr 0 0 3 0 []];let c2:ag (List AV×aE):=ag.leaf aq.normal (c3,[(0,au.mk false true 3 1 fun x=>c5)]);let c1:ag (List AV×aE):=ag.aj [(0:Nat)<1] (ag.leaf aq.ret (c3,[(0,au.mk false true 3 1 fun j=>if(j==0)=true then de (agg c5.kids)else c5)]));some (ag.fork c4 (ag.aj [nl N<c6,c4=true] (ag.fork true c1 c2)) (ag.aj [nl N<c6,c4=false,nl D<c6] (ag.fork (bif false then true else(↑(bV D):Int)==0) c1 c2))):=ah
theorem I3 {b:Bool} {N D:Nat}:mE T f133 .ret ⟨aC lC (rU b N D),[(0,⟨false,true,3,1,fun j=>if j=0 then de (.agg (AV.kids (.rat 0 1)))else .rat 0 1⟩)],1⟩=
  some (ag.aj [(0:Nat)<1] (ag.leaf aq.ret [agg [AV.bool false,mag 0,mag 0]])):=ah
theorem aj6 {b:Bool} {N D:Nat} {q:Rat} {k:Nat}:mE T f133 .ret ⟨aC lC (rU b N D),[(0,⟨false,true,3,1,fun j=>if j=0 then de (.rat q k)else .rat 0 1⟩)],1⟩=
  some (ag.aj [(0:Nat)<1] (ag.leaf aq.ret [rat q k])):=ah
theorem adb {b:Bool} {N D:Nat}:aI T GR [20,24] 60 lC (((before (aH f133) [1,1,1,1]).drop 2).take 1) ⟨aC lC (rU b N D),ux,1⟩=
  let c6:AV:=rat 0 1;let c5:Rat:=sQ b (↑N:Int).toNat (↑D:Int).toNat;let c4:Bool:=decide ((↑(nl N):Int)<=2);let c3:List AV:=[AV.bool b,mag N,mag D,ptr 0 0 3 0 []];let c2:ag (List AV×aE):=ag.leaf aq.normal (c3,[(0,au.mk false true 3 1 fun x=>c6)]);let c1:ag (List AV×aE):=ag.aj [nl N<=2,nl D<=2,(0:Int)<=(↑N:Int)/\(↑N:Int)<2^64,(0:Int)<(↑D:Int)/\(↑D:Int)<2^64,(0:Nat)<1] (ag.leaf aq.ret (c3,[(0,au.mk false true 3 1 fun j=>if(j==0)=true then de (rat c5 (ef c5))else c6)]));some (ag.fork c4 (ag.aj [c4=true] (ag.fork (bif true then decide ((↑(nl D):Int)<=2)else false) c1 c2)) (ag.aj [c4=false] (ag.fork false c1 c2))):=ah
theorem acE {b:Bool} {N D:Nat}:aI T GR [36] 60 lC ((before (aH f133) [1,1,1,1]).drop (2+1)) ⟨aC lC (rU b N D),ux,1⟩=
  let c5:Int:=(↑(bV (N.gcd D)):Int);let c3:AV:=ptr 0 0 3 0 [];let c2:Nat×au:=(0,au.mk false true 3 1 fun x=>rat 0 1);let c1:Nat:=2^40;let c4:Prop:=nl (N.gcd D)<c1;some (ag.aj [nl N<c1,nl D<c1] (ag.aj [c4] (ag.fork (decide (c5>1)) (ag.aj [nl N<c1,c4] (ag.aj [nl D<c1,c4] (ag.leaf aq.normal ([AV.bool b,mag (N/N.gcd D),mag (D/N.gcd D),c3],[c2])))) (ag.leaf aq.normal ([AV.bool b,mag N,mag D,c3],[c2]))))):=ah
theorem V7 {b:Bool} {N D:Nat}:cQ T GR [58,63] 60 f133 [part (aH f133) [1,1,1,1]] ⟨aC lC (rU b N D),ux,1⟩=
  let c6:Nat:=D+0;let c5:List Prop:=[(0:Nat)<1];let c4:Nat:=2^40;let c3:Bool:=(↑(nl c6):Int)==1;let c2:ag (List AV):=ag.aj c5 (ag.aj c5 (ag.leaf aq.ret [agg [AV.bool b,mag (N+0),nil]]));let c1:ag (List AV):=ag.aj c5 (ag.aj c5 (ag.leaf aq.ret [agg [AV.bool b,mag (N+0),mag c6]]));some (ag.aj [nl N<c4,(0:Nat)<c4,nl D<c4,(0:Nat)<c4] (ag.fork c3 (ag.aj [c3=true,(0:Int)<=0/\Int.toNat (0:Int)<nl c6] (ag.fork (bif true then(↑(aD c6 (Int.toNat (0:Int))):Int)==1 else false) c2 c1)) (ag.aj [c3=false] (ag.fork false c2 c1)))):=ah
theorem kE {a b v:Bool} (h:(bif true then a else b)=v):a=v:=h
theorem Ez {N:Nat}:bV N=0↔N=0:=by unfold bV;split<;>simp_all
theorem V9 {N:Nat}:bV N<=1↔N<=1:=by rw[jZ];omega
theorem jY {N:Nat}:nl N=0↔N=0:=by
 constructor
 ·intro h
  rcases Nat.eq_zero_or_pos N with h1|h1
  ·exact h1
  ·have:=iF.2 (show N≠0 by omega);omega
 ·intro h;subst h;rfl
theorem YV {b:Bool} {n:Nat}:sQ b n 0=0:=by unfold sQ;simp
theorem Nw {b:Bool} {x:Nat}:aW (.agg [.bool b,.mag x,.nil]) (.agg [.bool b,.mag x,.mag 0]):=mh ⟨.refl _,.refl _,l9,trivial⟩
theorem R5 {b:Bool} {N D:Nat} (hN:nl N<2^40) (hD:nl D<2^40) (K:Nat) (pre:aE):aQ P 133 K [.bool b,.mag N,.mag D] pre (aL (.rat (sQ b N D) (ef (sQ b N D))) []):=by
 refine iw hT Xk rfl aX rfl (fun _ c h0=>?_) K pre
 have hO:∀{v:AV},keys v=[]->jv 1 [(0,(⟨false,true,3,1,fun j=>if j=0 then v else .rat 0 1⟩:au))]:=fun h=>⟨⟨aa,fun i _=>by show keys (if i=0 then _ else _)=[];split;exact h;rfl⟩,trivial⟩
 have hO':jv 1 ux:=⟨⟨aa,fun _ _=>rfl⟩,trivial⟩
 have hz:sQ b N D=0->aW (.agg [.bool false,.mag 0,.mag 0]) (.rat (sQ b N D) (ef (sQ b N D))):=fun h=>by
  rw[h];exact pO
 refine ax.hole [1,1,1,1] ah (aG.chunk 2 (aG.bO hT oG hm 60 lC Tk ah ?_))
 simp only[ag.all,az,beq_iff_eq,beq_eq_false_iff_ne,ne_eq]
 -- behind the first questions
 have rest:∀{s':aN},N≠0->D≠0->bE lC s'=some (rU b N D,ux)->
   aG P c f133.ntmps ((before (aH f133) [1,1,1,1]).drop 2) s' (fI (fun s'=>ax P c f133.ntmps (part (aH f133) [1,1,1,1]) s' (fI (fun s'=>aG P c f133.ntmps (behind (aH f133) [1,1,1,1]) s' (gq c (Fin T f133 (.rat (sQ b N D) (ef (sQ b N D)))))) (gq c (Fin T f133 (.rat (sQ b N D) (ef (sQ b N D)))))))
    (gq c (Fin T f133 (.rat (sQ b N D) (ef (sQ b N D)))))):=by
  intro s' hN0 hD0 hv
  have last:∀{s':aN} {X Y:Nat},nl X<2^40->nl Y<2^40->X=N/Nat.gcd N D->Y=D/Nat.gcd N D->bE lC s'=some (rU b X Y,ux)->
    ax P c f133.ntmps (part (aH f133) [1,1,1,1]) s' (fI (fun s'=>aG P c f133.ntmps (behind (aH f133) [1,1,1,1]) s' (gq c (Fin T f133 (.rat (sQ b N D) (ef (sQ b N D)))))) (gq c (Fin T f133 (.rat (sQ b N D) (ef (sQ b N D)))))):=by
   intro s' X Y hX hY eX eY hv
   refine ax.mono (Q:=fI (fun s'=>aG P c f133.ntmps [] s' (gq c (Fin T f133 (.rat (sQ b N D) (ef (sQ b N D)))))) (gq c (Fin T f133 (.rat (sQ b N D) (ef (sQ b N D)))))) ?_ fun e s' h=>by cases e<;>exact h
   refine aG.lO (l:=[part (aH f133) [1,1,1,1]]) hT oG hm 60 hv (h0 _) rfl hO' V7 ah rfl ?_
   simp only[ag.all,az,beq_iff_eq,beq_eq_false_iff_ne,ne_eq,Nat.add_zero,Int.toNat_zero]
   have hY0:Y≠0:=by rw[eY];exact Nat.pos_iff_ne_zero.1 (Nat.div_pos (Nat.le_of_dvd aa (Nat.gcd_dvd_right _ _)) (Nat.gcd_pos_of_pos_left _ aa))
   have h1:Y≠1->aW (.agg [.bool b,.mag X,.mag Y]) (.rat (sQ b N D) (ef (sQ b N D))):=fun h=>wN hN0 hD0 eX (by rw[<-eY,if_neg h]) xd
   have h2:Y=1->aW (.agg [.bool b,.mag X,.nil]) (.rat (sQ b N D) (ef (sQ b N D))):=fun h=>Nw.trans (wN hN0 hD0 eX (by rw[<-eY,if_pos h]) xd)
   have hl:nl Y=1->aD Y 0=Y:=fun h=>by
    have:=iB (N:=Y)
    rw[h,val,val]at this
    simpa using this
   refine⟨⟨hX,aa,hY,aa⟩,fun hb=>⟨⟨hb,aa,aa⟩,fun hc=>⟨aa,aa,h2 ?_⟩,fun hc=>⟨aa,aa,h1 ?_⟩⟩,fun hb=>⟨hb,fun h=>by simp at h,fun _=>⟨aa,aa,h1 ?_⟩⟩⟩
   ·have:=kE hc
    rw[hl aa]at this
    have:=eq_of_beq this
    omega
   ·have:=kE hc
    rw[hl aa]at this
    intro h
    rw[h]at this
    simp at this
   ·intro h
    rw[h]at hb
    exact hb (by decide)
  refine aG.chunk 1 (aG.gl hT oG hm 60 hv (h0 _) rfl hO' lC adb ah rfl ?_)
  simp only[ag.all,az,bB,bD,bJ,beq_iff_eq]
  have long:∀{s':aN},bE lC s'=some (rU b N D,ux)->aG P c f133.ntmps (((before (aH f133) [1,1,1,1]).drop 2).drop 1) s' (fI (fun s'=>ax P c f133.ntmps (part (aH f133) [1,1,1,1]) s' (fI (fun s'=>aG P c f133.ntmps (behind (aH f133) [1,1,1,1]) s' (gq c (Fin T f133 (.rat (sQ b N D) (ef (sQ b N D)))))) (gq c (Fin T f133 (.rat (sQ b N D) (ef (sQ b N D)))))))
    (gq c (Fin T f133 (.rat (sQ b N D) (ef (sQ b N D)))))):=by
   intro s' hv
   rw[List.drop_drop]
   refine aG.gl hT oG hm 60 hv (h0 _) rfl hO' lC acE ah rfl ?_
   simp only[ag.all,az,bB,bD]
   have hg:nl (Nat.gcd N D)<2^40:=Nat.lt_of_le_of_lt (iW (Nat.gcd_le_left _ aa)) hN
   have hg0:0<Nat.gcd N D:=Nat.gcd_pos_of_pos_left _ aa
   refine⟨⟨hN,hD⟩,hg,fun hb=>⟨⟨hN,hg⟩,⟨hD,hg⟩,fun s' hv=>last (Nat.lt_of_le_of_lt (iW (Nat.div_le_self _ _)) hN) (Nat.lt_of_le_of_lt (iW (Nat.div_le_self _ _)) hD) rfl rfl hv⟩,fun hb s' hv=>?_⟩
   have hg1:Nat.gcd N D=1:=by
    have:bV (Nat.gcd N D)<=1:=aa
    have:=V9.1 this
    omega
   exact last hN hD (by rw[hg1,Nat.div_one]) (by rw[hg1,Nat.div_one]) hv
  refine⟨fun hb=>⟨hb,fun hc=>⟨?_,fun s' hv=>?_⟩,fun hc s' hv=>cZ (long hv)⟩,fun hb=>⟨hb,fun h=>by simp at h,fun _ s' hv=>cZ (long hv)⟩⟩
  ·have h2:nl D<=2:=by have:=of_decide_eq_true (kE hc);omega
   have:=qS (show nl N<=2 by omega)
   have:=qS h2
   exact⟨aa,h2,aa,aa,aa⟩
  ·refine gy (gy (yS aj6 hv (h0 _) rfl (hO rfl) ⟨by simp[az],?_⟩))
   exact .refl _
 refine⟨fun hb=>⟨⟨hN,hb⟩,fun _=>⟨aa,fun s' hv=>gy (gy (yS I3 hv (h0 _) rfl (hO rfl) ⟨by simp[az],hz ?_⟩))⟩,fun h=>by simp at h⟩,fun hb=>⟨⟨hN,hb,hD⟩,fun hc=>⟨aa,fun s' hv=>gy (gy (yS I3 hv (h0 _) rfl (hO rfl) ⟨by simp[az],hz ?_⟩))⟩,fun hc s' hv=>cZ (rest ?_ ?_ hv)⟩⟩
 ·rw[Ez.1 (show bV N=0 by omega),IB]
 ·have:=eq_of_beq (jt hc)
  rw[Ez.1 (show bV D=0 by omega),YV]
 ·intro h;rw[h]at hb;exact hb (by decide)
 ·intro h
  have:=jt hc
  rw[h]at this
  simp[bV]at this
end Go.Am.B
