/- rational. -/
import Derived.Test.YtppeigelbecpbaaGreatB16
set_option linter.unusedVariables false
namespace Go.Am.B
open Go Go.Am.N AV
theorem akX:aT P AA Cy (aA Cy):=aY Proofs.Tryz.func188 ag ag ag
theorem aag:aT P FM De (aA De):=aY Proofs.Tryz.func192 ag ag ag
theorem Ua:aT P Ak dU (aA dU):=aY Proofs.Tryz.func194 ag ag ag
theorem adZ:aT P gX Bb (aA Bb):=aY Proofs.Tryz.func137 ag ag ag
theorem aa7:aT P vC EH (aA EH):=aY Proofs.Tryz.func107 ag ag ag
theorem aje:aT P DN C4 (aA C4):=aY Proofs.Tryz.func235 ag ag ag
theorem abU:aT P BH B4 (aA B4):=aY Proofs.Tryz.func217 ag ag ag
def GR:bg:=(zW,bX (mo Jn))::(Fb,bX (mo Cl))::(yu,HS)::(yb,bX (iz Hr))::(AL,bX (iz KN))::(xY,bX (iz Jy))::(yU,Jc)::(yT,JR)::(uy,BS)::(AS,Ln)::[]
theorem nk:bz P GR:=aL Nn (aL ahN (aL QY (aL RO (aL Re (aL Td (aL PU (aL MH (aL II (aL Mi bO)))))))))
theorem ZH {q:Rat} {n:Nat}:bW T GR [6] 60 Cy (aA Cy) ⟨aQ 0 [.rat q n],[],0⟩=
  let c1:Nat:=if q.den=1 then 0 else q.den;some (ah.aj [(0:Nat)<1] (ah.fork ((↑(nl c1):Int)==(0:Int)) (ah.leaf au.ret [mag 1]) (ah.aj [(0:Nat)<1] (ah.leaf au.ret [mag c1])))):=ag
theorem aea {q:Rat} {n:Nat}:bW T GR [9,14,18] 60 De (aA De) ⟨aQ 0 [.rat q n],[],0⟩=
  let c11 : AV := int IntKind.u64 (0 : Int); let c8 : Nat := q.num.natAbs; let c4 : Prop := 0 < 1; let c2 : Nat := if q.den = 1 then 0 else q.den; let c10 : AV := int IntKind.u64 (↑c8 : Int); let c9 : Int := (↑(nl c2) : Int); let c6 : Int := IntKind.u64.wrap (↑(aG c2 (Int.toNat (0 : Int))) : Int); let c5 : ah (List AV) := ah.leaf au.ret [c11, c11, AV.bool false]; let c3 : Int := (↑(nl c8) : Int); let c7 : Bool := decide (c3 > (1 : Int)); let c1 : ah (List AV) := ah.aj [c4] (ah.fork (c9 == (1 : Int)) (ah.aj [c4, (0 : Int) <= (0 : Int) /\ Int.toNat (0 : Int) < nl c2] (ah.aj [c4, nl c8 <= 2] (ah.leaf au.ret [c10, int IntKind.u64 c6, AV.bool (c6 != (0 : Int))]))) (ah.aj [c4, nl c8 <= 2] (ah.leaf au.ret [c10, int IntKind.u64 (1 : Int), AV.bool true]))); some (ah.fork c7 (ah.aj [c4, c7 = true] (ah.fork true c5 c1)) (ah.aj [c4, c7 = false, c4] (ah.fork (bif false then true else decide (c9 > (1 : Int))) c5 c1))) := ag
theorem alT {q r:Rat} {n m:Nat}:bW T GR [10,17] 60 Bb (aA Bb) ⟨aQ 0 [.rat q n,.rat r m],[],0⟩=
  let c9:Nat:=q.num.natAbs;let c8:Nat:=r.num.natAbs;let c5:Nat:=2^40;let c4:Bool:=decide (q<0)==decide (r<0);let c3:Nat:=if q.den=1 then 0 else q.den;let c2:Nat:=if r.den=1 then 0 else r.den;let c1:Prop:=0<1;let c10:List Prop:=[c1,c1,nl c3<c5,nl c2<c5];let c7:ah (List AV):=ah.leaf au.ret [AV.bool (bif true then decide (c3=c2)else false)];let c6:Bool:=bif true then decide (c9=c8)else false;some (ah.fork c4 (ah.fork c6 (ah.aj (c1::c1::(c4=true)::c1::c1::(nl c9<c5)::(nl c8<c5)::(c6=true)::c10) c7) (ah.aj [c1,c1,c4=true,c1,c1,nl c9<c5,nl c8<c5,c6=false] (ah.leaf au.ret [AV.bool false]))) (ah.fork false (ah.aj (c1::c1::(c4=false)::(false=true)::c10) c7) (ah.aj [c1,c1,c4=false,false=false] (ah.leaf au.ret [AV.bool false])))):=ag
theorem aeF {q:Rat} {n:Nat}:bW T GR [3,8] 60 EH (aA EH) ⟨aQ 0 [.rat q n],[],0⟩=
  some (ah.aj [(0:Nat)<1,nl q.num.natAbs<2^40] (ah.fork ((↑(bN q.num.natAbs):Int)==(0:Int)) (ah.leaf au.ret [int IntKind.i64 (0:Int)]) (ah.aj [(0:Nat)<1] (ah.fork (decide (q<0)) (ah.leaf au.ret [int IntKind.i64 (-1:Int)]) (ah.leaf au.ret [int IntKind.i64 (1:Int)]))))):=ag
theorem aiq {q:Rat} {n:Nat}:bW T GR [] 60 C4 (aA C4) ⟨aQ 0 [.rat q n],[],0⟩=
  let c2:Nat:=if q.den=1 then 0 else q.den;let c1:Prop:=0<1;some (ah.aj [c1,c1,nl q.num.natAbs<2^40,c1,nl c2<2^40,c1] (ah.aj [c1] (ah.leaf au.ret [agg [AV.bool (decide (q<0)),mag q.num.natAbs,mag c2]]))):=ag
theorem Y5 {n:Int}:bW T GR [4] 60 B4 (aA B4) ⟨aQ 0 [.int .i64 n],[],0⟩=
  let c1:Int:=IntKind.i64.wrap ((0:Int)-n);let c2:Int:=IntKind.u64.wrap (if n<c1 then c1 else n);some (ah.fork (n==(-9223372036854775808:Int)) (ah.aj [(0:Int)<=(9223372036854775808:Int)/\(9223372036854775808:Int)<(2:Int)^64] (ah.leaf au.ret [mag 9223372036854775808])) (ah.aj [(0:Int)<=c2/\c2<(2:Int)^64] (ah.leaf au.ret [mag c2.toNat]))):=ag
abbrev ke:List Nat:=[0,1,2,6]
abbrev qE (b:Bool) (N D:Nat):List AV:=[.bool b,.mag N,.mag D,.ptr 0 0 3 0 []]
abbrev rP:aF:=[(0,⟨false,true,3,1,fun _=>.rat 0 1⟩)]
theorem VL {b:Bool} {N D:Nat}:aH T GR [11,15] 60 ke ((before (aA dU) [1,1,1,1]).take 2) ⟨aQ 0 [.bool b,.mag N,.mag D],[],0⟩=
  let c6:Nat:=2^40;let c5:AV:=rat 0 1;let c4:Bool:=(↑(bN N):Int)==(0:Int);let c3:List AV:=[AV.bool b,mag N,mag D,ptr 0 0 3 0 []];let c2:ah (List AV×aF):=ah.leaf au.normal (c3,[(0,ak.mk false true 3 1 fun x=>c5)]);let c1:ah (List AV×aF):=ah.aj [(0:Nat)<1] (ah.leaf au.ret (c3,[(0,ak.mk false true 3 1 fun j=>if(j==0)=true then aV (agg c5.kids)else c5)]));some (ah.fork c4 (ah.aj [nl N<c6,c4=true] (ah.fork true c1 c2)) (ah.aj [nl N<c6,c4=false,nl D<c6] (ah.fork (bif false then true else(↑(bN D):Int)==(0:Int)) c1 c2))):=ag
theorem Q0 {b:Bool} {N D:Nat}:j4 T dU .ret ⟨aC ke (qE b N D),[(0,⟨false,true,3,1,fun j=>if j=0 then aV (.agg (AV.kids (.rat 0 1)))else .rat 0 1⟩)],1⟩=
  some (ah.aj [(0:Nat)<1] (ah.leaf au.ret [agg [AV.bool false,mag 0,mag 0]])):=ag
theorem akk {b:Bool} {N D:Nat} {q:Rat} {k:Nat}:j4 T dU .ret ⟨aC ke (qE b N D),[(0,⟨false,true,3,1,fun j=>if j=0 then aV (.rat q k)else .rat 0 1⟩)],1⟩=
  some (ah.aj [(0:Nat)<1] (ah.leaf au.ret [rat q k])):=ag
theorem XL {b:Bool} {N D:Nat}:aH T GR [20,24] 60 ke (((before (aA dU) [1,1,1,1]).drop 2).take 1) ⟨aC ke (qE b N D),rP,1⟩=
  let c6:AV:=rat 0 1;let c5:Rat:=sQ b (↑N:Int).toNat (↑D:Int).toNat;let c4:Bool:=decide ((↑(nl N):Int)<=(2:Int));let c3:List AV:=[AV.bool b,mag N,mag D,ptr 0 0 3 0 []];let c2:ah (List AV×aF):=ah.leaf au.normal (c3,[(0,ak.mk false true 3 1 fun x=>c6)]);let c1:ah (List AV×aF):=ah.aj [nl N<=2,nl D<=2,(0:Int)<=(↑N:Int)/\(↑N:Int)<(2:Int)^64,(0:Int)<(↑D:Int)/\(↑D:Int)<(2:Int)^64,(0:Nat)<1] (ah.leaf au.ret (c3,[(0,ak.mk false true 3 1 fun j=>if(j==0)=true then aV (rat c5 (cS c5))else c6)]));some (ah.fork c4 (ah.aj [c4=true] (ah.fork (bif true then decide ((↑(nl D):Int)<=(2:Int))else false) c1 c2)) (ah.aj [c4=false] (ah.fork false c1 c2))):=ag
theorem XE {b:Bool} {N D:Nat}:aH T GR [36] 60 ke ((before (aA dU) [1,1,1,1]).drop (2+1)) ⟨aC ke (qE b N D),rP,1⟩=
  let c5:Int:=(↑(bN (N.gcd D)):Int);let c3:AV:=ptr 0 0 3 0 [];let c2:Nat×ak:=(0,ak.mk false true 3 1 fun x=>rat 0 1);let c1:Nat:=2^40;let c4:Prop:=nl (N.gcd D)<c1;some (ah.aj [nl N<c1,nl D<c1] (ah.aj [c4] (ah.fork (decide (c5>(1:Int))) (ah.aj [nl N<c1,c4] (ah.aj [nl D<c1,c4] (ah.leaf au.normal ([AV.bool b,mag (N/N.gcd D),mag (D/N.gcd D),c3],[c2])))) (ah.leaf au.normal ([AV.bool b,mag N,mag D,c3],[c2]))))):=ag
theorem alh {b:Bool} {N D:Nat}:cw T GR [58,63] 60 dU [part (aA dU) [1,1,1,1]] ⟨aC ke (qE b N D),rP,1⟩=
  let c6:Nat:=D+0;let c5:List Prop:=[(0:Nat)<1];let c4:Nat:=2^40;let c3:Bool:=(↑(nl c6):Int)==(1:Int);let c2:ah (List AV):=ah.aj c5 (ah.aj c5 (ah.leaf au.ret [agg [AV.bool b,mag (N+0),nil]]));let c1:ah (List AV):=ah.aj c5 (ah.aj c5 (ah.leaf au.ret [agg [AV.bool b,mag (N+0),mag c6]]));some (ah.aj [nl N<c4,(0:Nat)<c4,nl D<c4,(0:Nat)<c4] (ah.fork c3 (ah.aj [c3=true,(0:Int)<=(0:Int)/\Int.toNat (0:Int)<nl c6] (ah.fork (bif true then(↑(aG c6 (Int.toNat (0:Int))):Int)==(1:Int)else false) c2 c1)) (ah.aj [c3=false] (ah.fork false c2 c1)))):=ag
theorem jv {a b v:Bool} (h:(bif true then a else b)=v):a=v:=h
theorem HO {N:Nat}:bN N=0↔N=0:=by unfold bN;split<;>simp_all
theorem aiO {N:Nat}:bN N<=1↔N<=1:=by rw[jI];omega
theorem jG {N:Nat}:nl N=0↔N=0:=by
 constructor
 ·intro h
  rcases Nat.eq_zero_or_pos N with h1|h1
  ·exact h1
  ·have:=gn.2 (show N≠0 by omega);omega
 ·intro h;subst h;rfl
theorem alN {b:Bool} {n:Nat}:sQ b n 0=0:=by unfold sQ;simp
theorem Nb {b:Bool} {x:Nat}:bG (.agg [.bool b,.mag x,.nil]) (.agg [.bool b,.mag x,.mag 0]):=cC ⟨.refl _,.refl _,lH,trivial⟩
theorem VM {b:Bool} {N D:Nat} (hN:nl N<2^40) (hD:nl D<2^40) (K:Nat) (pre:aF):aE P Ak K [.bool b,.mag N,.mag D] pre (aK (.rat (sQ b N D) (cS (sQ b N D))) []):=by
 refine gr hT Ua rfl aX rfl (fun _ c h0=>?_) K pre
 have hO:∀{v:AV},keys v=[]->gN 1 [(0,(⟨false,true,3,1,fun j=>if j=0 then v else .rat 0 1⟩:ak))]:=fun h=>⟨⟨aa,fun i _=>by show keys (if i=0 then _ else _)=[];split;exact h;rfl⟩,trivial⟩
 have hO':gN 1 rP:=⟨⟨aa,fun _ _=>rfl⟩,trivial⟩
 have hz:sQ b N D=0->bG (.agg [.bool false,.mag 0,.mag 0]) (.rat (sQ b N D) (cS (sQ b N D))):=fun h=>by
  rw[h];exact lT
 refine ax.hole [1,1,1,1] ag (aI.chunk 2 (aI.bA hT nk hm 60 ke VL ag ?_))
 simp only[ah.all,az,beq_iff_eq,beq_eq_false_iff_ne,ne_eq]
 -- behind the first questions
 have rest:∀{s':aM},N≠0->D≠0->bt ke s'=some (qE b N D,rP)->
   aI P c dU.ntmps ((before (aA dU) [1,1,1,1]).drop 2) s' (dH (fun s'=>ax P c dU.ntmps (part (aA dU) [1,1,1,1]) s' (dH (fun s'=>aI P c dU.ntmps (behind (aA dU) [1,1,1,1]) s' (dP c (Fin T dU (.rat (sQ b N D) (cS (sQ b N D)))))) (dP c (Fin T dU (.rat (sQ b N D) (cS (sQ b N D)))))))
    (dP c (Fin T dU (.rat (sQ b N D) (cS (sQ b N D)))))):=by
  intro s' hN0 hD0 hv
  have last:∀{s':aM} {X Y:Nat},nl X<2^40->nl Y<2^40->X=N/Nat.gcd N D->Y=D/Nat.gcd N D->bt ke s'=some (qE b X Y,rP)->
    ax P c dU.ntmps (part (aA dU) [1,1,1,1]) s' (dH (fun s'=>aI P c dU.ntmps (behind (aA dU) [1,1,1,1]) s' (dP c (Fin T dU (.rat (sQ b N D) (cS (sQ b N D)))))) (dP c (Fin T dU (.rat (sQ b N D) (cS (sQ b N D)))))):=by
   intro s' X Y hX hY eX eY hv
   refine ax.mono (Q:=dH (fun s'=>aI P c dU.ntmps [] s' (dP c (Fin T dU (.rat (sQ b N D) (cS (sQ b N D)))))) (dP c (Fin T dU (.rat (sQ b N D) (cS (sQ b N D)))))) ?_ fun e s' h=>by cases e<;>exact h
   refine aI.jZ (l:=[part (aA dU) [1,1,1,1]]) hT nk hm 60 hv (h0 _) rfl hO' alh ag rfl ?_
   simp only[ah.all,az,beq_iff_eq,beq_eq_false_iff_ne,ne_eq,Nat.add_zero,Int.toNat_zero]
   have hY0:Y≠0:=by rw[eY];exact Nat.pos_iff_ne_zero.1 (Nat.div_pos (Nat.le_of_dvd aa (Nat.gcd_dvd_right _ _)) (Nat.gcd_pos_of_pos_left _ aa))
   have h1:Y≠1->bG (.agg [.bool b,.mag X,.mag Y]) (.rat (sQ b N D) (cS (sQ b N D))):=fun h=>v8 hN0 hD0 eX (by rw[<-eY,if_neg h]) xQ
   have h2:Y=1->bG (.agg [.bool b,.mag X,.nil]) (.rat (sQ b N D) (cS (sQ b N D))):=fun h=>Nb.trans (v8 hN0 hD0 eX (by rw[<-eY,if_pos h]) xQ)
   have hl:nl Y=1->aG Y 0=Y:=fun h=>by
    have:=fZ (N:=Y)
    rw[h,val,val]at this
    simpa using this
   refine⟨⟨hX,aa,hY,aa⟩,fun hb=>⟨⟨hb,aa,aa⟩,fun hc=>⟨aa,aa,h2 ?_⟩,fun hc=>⟨aa,aa,h1 ?_⟩⟩,fun hb=>⟨hb,fun h=>by simp at h,fun _=>⟨aa,aa,h1 ?_⟩⟩⟩
   ·have:=jv hc
    rw[hl aa]at this
    have:=eq_of_beq this
    omega
   ·have:=jv hc
    rw[hl aa]at this
    intro h
    rw[h]at this
    simp at this
   ·intro h
    rw[h]at hb
    exact hb (by decide)
  refine aI.chunk 1 (aI.fh hT nk hm 60 hv (h0 _) rfl hO' ke XL ag rfl ?_)
  simp only[ah.all,az,aZ,bk,aW,beq_iff_eq]
  have long:∀{s':aM},bt ke s'=some (qE b N D,rP)->aI P c dU.ntmps (((before (aA dU) [1,1,1,1]).drop 2).drop 1) s' (dH (fun s'=>ax P c dU.ntmps (part (aA dU) [1,1,1,1]) s' (dH (fun s'=>aI P c dU.ntmps (behind (aA dU) [1,1,1,1]) s' (dP c (Fin T dU (.rat (sQ b N D) (cS (sQ b N D)))))) (dP c (Fin T dU (.rat (sQ b N D) (cS (sQ b N D)))))))
    (dP c (Fin T dU (.rat (sQ b N D) (cS (sQ b N D)))))):=by
   intro s' hv
   rw[List.drop_drop]
   refine aI.fh hT nk hm 60 hv (h0 _) rfl hO' ke XE ag rfl ?_
   simp only[ah.all,az,aZ,bk]
   have hg:nl (Nat.gcd N D)<2^40:=Nat.lt_of_le_of_lt (gV (Nat.gcd_le_left _ aa)) hN
   have hg0:0<Nat.gcd N D:=Nat.gcd_pos_of_pos_left _ aa
   refine⟨⟨hN,hD⟩,hg,fun hb=>⟨⟨hN,hg⟩,⟨hD,hg⟩,fun s' hv=>last (Nat.lt_of_le_of_lt (gV (Nat.div_le_self _ _)) hN) (Nat.lt_of_le_of_lt (gV (Nat.div_le_self _ _)) hD) rfl rfl hv⟩,fun hb s' hv=>?_⟩
   have hg1:Nat.gcd N D=1:=by
    have:bN (Nat.gcd N D)<=1:=aa
    have:=aiO.1 this
    omega
   exact last hN hD (by rw[hg1,Nat.div_one]) (by rw[hg1,Nat.div_one]) hv
  refine⟨fun hb=>⟨hb,fun hc=>⟨?_,fun s' hv=>?_⟩,fun hc s' hv=>cJ (long hv)⟩,fun hb=>⟨hb,fun h=>by simp at h,fun _ s' hv=>cJ (long hv)⟩⟩
  ·have h2:nl D<=2:=by have:=of_decide_eq_true (jv hc);omega
   have:=qV (show nl N<=2 by omega)
   have:=qV h2
   exact⟨aa,h2,aa,aa,aa⟩
  ·refine fA (fA (x9 akk hv (h0 _) rfl (hO rfl) ⟨by simp[az],?_⟩))
   exact .refl _
 refine⟨fun hb=>⟨⟨hN,hb⟩,fun _=>⟨aa,fun s' hv=>fA (fA (x9 Q0 hv (h0 _) rfl (hO rfl) ⟨by simp[az],hz ?_⟩))⟩,fun h=>by simp at h⟩,fun hb=>⟨⟨hN,hb,hD⟩,fun hc=>⟨aa,fun s' hv=>fA (fA (x9 Q0 hv (h0 _) rfl (hO rfl) ⟨by simp[az],hz ?_⟩))⟩,fun hc s' hv=>cJ (rest ?_ ?_ hv)⟩⟩
 ·rw[HO.1 (show bN N=0 by omega),GW]
 ·have:=eq_of_beq (iF hc)
  rw[HO.1 (show bN D=0 by omega),alN]
 ·intro h;rw[h]at hb;exact hb (by decide)
 ·intro h
  have:=iF hc
  rw[h]at this
  simp[bN]at this
end Go.Am.B
