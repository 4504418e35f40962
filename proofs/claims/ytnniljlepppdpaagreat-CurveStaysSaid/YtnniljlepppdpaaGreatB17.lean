/- rational.den, parts, reduce, Same, Sign, copied, size. -/
import Derived.Test.YtnniljlepppdpaaGreatB16
set_option linter.unusedVariables false
namespace Go.Am.B
open Go Go.Am.N AV
theorem ag7:aR P yB Eo (az Eo):=aS Proofs.Tryz.func199 ag ag ag
theorem Vd:aR P Ed Ft (az Ft):=aS Proofs.Tryz.func213 ag ag ag
theorem abz:aR P Ae ew (az ew):=aS Proofs.Tryz.func215 ag ag ag
theorem afR:aR P gp Dh (az Dh):=aS Proofs.Tryz.func117 ag ag ag
theorem al9:aR P vk AT (az AT):=aS Proofs.Tryz.func96 ag ag ag
theorem alu:aR P C5 Da (az Da):=aS Proofs.Tryz.func249 ag ag ag
theorem adm:aR P EF E4 (az E4):=aS Proofs.Tryz.func251 ag ag ag
def GR:aX:=(yJ,bU (mm HT))::(E9,bU (mm AR))::(zw,Jb)::(yd,bU (iL IG))::(xp,bU (iL KM))::(zN,bU (iL HG))::(zG,JK)::(Ar,F9)::(uZ,FA)::(zh,JV)::[]
theorem nF:bq P GR:=aH SG (aH als (aH Qd (aH Ty (aH S0 (aH NM (aH R4 (aH LF (aH Kq (aH RX bC)))))))))
theorem aix {q:Rat} {n:Nat}:bS T GR [6] 60 Eo (az Eo) ⟨aP 0 [.rat q n],[],0⟩=
  let c1:Nat:=if q.den=1 then 0 else q.den;some (ah.aj [(0:Nat)<1] (ah.fork ((↑(nl c1):Int)==(0:Int)) (ah.leaf aq.ret [mag 1]) (ah.aj [(0:Nat)<1] (ah.leaf aq.ret [mag c1])))):=ag
theorem XK {q:Rat} {n:Nat}:bS T GR [9,14,18] 60 Ft (az Ft) ⟨aP 0 [.rat q n],[],0⟩=
  let c11 : AV := int IntKind.u64 (0 : Int); let c8 : Nat := q.num.natAbs; let c4 : Prop := 0 < 1; let c2 : Nat := if q.den = 1 then 0 else q.den; let c10 : AV := int IntKind.u64 (↑c8 : Int); let c9 : Int := (↑(nl c2) : Int); let c6 : Int := IntKind.u64.wrap (↑(aC c2 (Int.toNat (0 : Int))) : Int); let c5 : ah (List AV) := ah.leaf aq.ret [c11, c11, AV.bool false]; let c3 : Int := (↑(nl c8) : Int); let c7 : Bool := decide (c3 > (1 : Int)); let c1 : ah (List AV) := ah.aj [c4] (ah.fork (c9 == (1 : Int)) (ah.aj [c4, (0 : Int) <= (0 : Int) /\ Int.toNat (0 : Int) < nl c2] (ah.aj [c4, nl c8 <= 2] (ah.leaf aq.ret [c10, int IntKind.u64 c6, AV.bool (c6 != (0 : Int))]))) (ah.aj [c4, nl c8 <= 2] (ah.leaf aq.ret [c10, int IntKind.u64 (1 : Int), AV.bool true]))); some (ah.fork c7 (ah.aj [c4, c7 = true] (ah.fork true c5 c1)) (ah.aj [c4, c7 = false, c4] (ah.fork (bif false then true else decide (c9 > (1 : Int))) c5 c1))) := ag
theorem aj4 {q r:Rat} {n m:Nat}:bS T GR [10,17] 60 Dh (az Dh) ⟨aP 0 [.rat q n,.rat r m],[],0⟩=
  let c9:Nat:=q.num.natAbs;let c8:Nat:=r.num.natAbs;let c5:Nat:=2^40;let c4:Bool:=decide (q<0)==decide (r<0);let c3:Nat:=if q.den=1 then 0 else q.den;let c2:Nat:=if r.den=1 then 0 else r.den;let c1:Prop:=0<1;let c10:List Prop:=[c1,c1,nl c3<c5,nl c2<c5];let c7:ah (List AV):=ah.leaf aq.ret [AV.bool (bif true then decide (c3=c2)else false)];let c6:Bool:=bif true then decide (c9=c8)else false;some (ah.fork c4 (ah.fork c6 (ah.aj (c1::c1::(c4=true)::c1::c1::(nl c9<c5)::(nl c8<c5)::(c6=true)::c10) c7) (ah.aj [c1,c1,c4=true,c1,c1,nl c9<c5,nl c8<c5,c6=false] (ah.leaf aq.ret [AV.bool false]))) (ah.fork false (ah.aj (c1::c1::(c4=false)::(false=true)::c10) c7) (ah.aj [c1,c1,c4=false,false=false] (ah.leaf aq.ret [AV.bool false])))):=ag
theorem aaO {q:Rat} {n:Nat}:bS T GR [3,8] 60 AT (az AT) ⟨aP 0 [.rat q n],[],0⟩=
  some (ah.aj [(0:Nat)<1,nl q.num.natAbs<2^40] (ah.fork ((↑(bM q.num.natAbs):Int)==(0:Int)) (ah.leaf aq.ret [int IntKind.i64 (0:Int)]) (ah.aj [(0:Nat)<1] (ah.fork (decide (q<0)) (ah.leaf aq.ret [int IntKind.i64 (-1:Int)]) (ah.leaf aq.ret [int IntKind.i64 (1:Int)]))))):=ag
theorem aba {q:Rat} {n:Nat}:bS T GR [] 60 Da (az Da) ⟨aP 0 [.rat q n],[],0⟩=
  let c2:Nat:=if q.den=1 then 0 else q.den;let c1:Prop:=0<1;some (ah.aj [c1,c1,nl q.num.natAbs<2^40,c1,nl c2<2^40,c1] (ah.aj [c1] (ah.leaf aq.ret [agg [AV.bool (decide (q<0)),mag q.num.natAbs,mag c2]]))):=ag
theorem Z2 {n:Int}:bS T GR [4] 60 E4 (az E4) ⟨aP 0 [.int .i64 n],[],0⟩=
  let c1:Int:=IntKind.i64.wrap ((0:Int)-n);let c2:Int:=IntKind.u64.wrap (if n<c1 then c1 else n);some (ah.fork (n==(-9223372036854775808:Int)) (ah.aj [(0:Int)<=(9223372036854775808:Int)/\(9223372036854775808:Int)<(2:Int)^64] (ah.leaf aq.ret [mag 9223372036854775808])) (ah.aj [(0:Int)<=c2/\c2<(2:Int)^64] (ah.leaf aq.ret [mag c2.toNat]))):=ag
abbrev lp:List Nat:=[0,1,2,6]
abbrev qx (b:Bool) (N D:Nat):List AV:=[.bool b,.mag N,.mag D,.ptr 0 0 3 0 []]
abbrev tR:aF:=[(0,⟨false,true,3,1,fun _=>.rat 0 1⟩)]
theorem abg {b:Bool} {N D:Nat}:aI T GR [11,15] 60 lp ((before (az ew) [1,1,1,1]).take 2) ⟨aP 0 [.bool b,.mag N,.mag D],[],0⟩=
  let c6:Nat:=2^40;let c5:AV:=rat 0 1;let c4:Bool:=(↑(bM N):Int)==(0:Int);let c3:List AV:=[AV.bool b,mag N,mag D,ptr 0 0 3 0 []];let c2:ah (List AV×aF):=ah.leaf aq.normal (c3,[(0,au.mk false true 3 1 fun x=>c5)]);let c1:ah (List AV×aF):=ah.aj [(0:Nat)<1] (ah.leaf aq.ret (c3,[(0,au.mk false true 3 1 fun j=>if(j==0)=true then bt (agg c5.kids)else c5)]));some (ah.fork c4 (ah.aj [nl N<c6,c4=true] (ah.fork true c1 c2)) (ah.aj [nl N<c6,c4=false,nl D<c6] (ah.fork (bif false then true else(↑(bM D):Int)==(0:Int)) c1 c2))):=ag
theorem LC {b:Bool} {N D:Nat}:mo T ew .ret ⟨aE lp (qx b N D),[(0,⟨false,true,3,1,fun j=>if j=0 then bt (.agg (AV.kids (.rat 0 1)))else .rat 0 1⟩)],1⟩=
  some (ah.aj [(0:Nat)<1] (ah.leaf aq.ret [agg [AV.bool false,mag 0,mag 0]])):=ag
theorem XL {b:Bool} {N D:Nat} {q:Rat} {k:Nat}:mo T ew .ret ⟨aE lp (qx b N D),[(0,⟨false,true,3,1,fun j=>if j=0 then bt (.rat q k)else .rat 0 1⟩)],1⟩=
  some (ah.aj [(0:Nat)<1] (ah.leaf aq.ret [rat q k])):=ag
theorem aku {b:Bool} {N D:Nat}:aI T GR [20,24] 60 lp (((before (az ew) [1,1,1,1]).drop 2).take 1) ⟨aE lp (qx b N D),tR,1⟩=
  let c6:AV:=rat 0 1;let c5:Rat:=sQ b (↑N:Int).toNat (↑D:Int).toNat;let c4:Bool:=decide ((↑(nl N):Int)<=(2:Int));let c3:List AV:=[AV.bool b,mag N,mag D,ptr 0 0 3 0 []];let c2:ah (List AV×aF):=ah.leaf aq.normal (c3,[(0,au.mk false true 3 1 fun x=>c6)]);let c1:ah (List AV×aF):=ah.aj [nl N<=2,nl D<=2,(0:Int)<=(↑N:Int)/\(↑N:Int)<(2:Int)^64,(0:Int)<(↑D:Int)/\(↑D:Int)<(2:Int)^64,(0:Nat)<1] (ah.leaf aq.ret (c3,[(0,au.mk false true 3 1 fun j=>if(j==0)=true then bt (rat c5 (cR c5))else c6)]));some (ah.fork c4 (ah.aj [c4=true] (ah.fork (bif true then decide ((↑(nl D):Int)<=(2:Int))else false) c1 c2)) (ah.aj [c4=false] (ah.fork false c1 c2))):=ag
theorem Zh {b:Bool} {N D:Nat}:aI T GR [36] 60 lp ((before (az ew) [1,1,1,1]).drop (2+1)) ⟨aE lp (qx b N D),tR,1⟩=
  let c5:Int:=(↑(bM (N.gcd D)):Int);let c3:AV:=ptr 0 0 3 0 [];let c2:Nat×au:=(0,au.mk false true 3 1 fun x=>rat 0 1);let c1:Nat:=2^40;let c4:Prop:=nl (N.gcd D)<c1;some (ah.aj [nl N<c1,nl D<c1] (ah.aj [c4] (ah.fork (decide (c5>(1:Int))) (ah.aj [nl N<c1,c4] (ah.aj [nl D<c1,c4] (ah.leaf aq.normal ([AV.bool b,mag (N/N.gcd D),mag (D/N.gcd D),c3],[c2])))) (ah.leaf aq.normal ([AV.bool b,mag N,mag D,c3],[c2]))))):=ag
theorem Xo {b:Bool} {N D:Nat}:cJ T GR [58,63] 60 ew [part (az ew) [1,1,1,1]] ⟨aE lp (qx b N D),tR,1⟩=
  let c6:Nat:=D+0;let c5:List Prop:=[(0:Nat)<1];let c4:Nat:=2^40;let c3:Bool:=(↑(nl c6):Int)==(1:Int);let c2:ah (List AV):=ah.aj c5 (ah.aj c5 (ah.leaf aq.ret [agg [AV.bool b,mag (N+0),nil]]));let c1:ah (List AV):=ah.aj c5 (ah.aj c5 (ah.leaf aq.ret [agg [AV.bool b,mag (N+0),mag c6]]));some (ah.aj [nl N<c4,(0:Nat)<c4,nl D<c4,(0:Nat)<c4] (ah.fork c3 (ah.aj [c3=true,(0:Int)<=(0:Int)/\Int.toNat (0:Int)<nl c6] (ah.fork (bif true then(↑(aC c6 (Int.toNat (0:Int))):Int)==(1:Int)else false) c2 c1)) (ah.aj [c3=false] (ah.fork false c2 c1)))):=ag
theorem jv {a b v:Bool} (h:(bif true then a else b)=v):a=v:=h
theorem Jm {N:Nat}:bM N=0↔N=0:=by unfold bM;split<;>simp_all
theorem Ze {N:Nat}:bM N<=1↔N<=1:=by rw[jz];omega
theorem jK {N:Nat}:nl N=0↔N=0:=by
 constructor
 ·intro h
  rcases Nat.eq_zero_or_pos N with h1|h1
  ·exact h1
  ·have:=gG.2 (show N≠0 by omega);omega
 ·intro h;subst h;rfl
theorem aaP {b:Bool} {n:Nat}:sQ b n 0=0:=by unfold sQ;simp
theorem Sa {b:Bool} {x:Nat}:bF (.agg [.bool b,.mag x,.nil]) (.agg [.bool b,.mag x,.mag 0]):=ct ⟨.refl _,.refl _,lO,trivial⟩
theorem adz {b:Bool} {N D:Nat} (hN:nl N<2^40) (hD:nl D<2^40) (K:Nat) (pre:aF):aD P Ae K [.bool b,.mag N,.mag D] pre (aK (.rat (sQ b N D) (cR (sQ b N D))) []):=by
 refine iP hT abz rfl aW rfl (fun _ c h0=>?_) K pre
 have hO:∀{v:AV},keys v=[]->gW 1 [(0,(⟨false,true,3,1,fun j=>if j=0 then v else .rat 0 1⟩:au))]:=fun h=>⟨⟨aa,fun i _=>by show keys (if i=0 then _ else _)=[];split;exact h;rfl⟩,trivial⟩
 have hO':gW 1 tR:=⟨⟨aa,fun _ _=>rfl⟩,trivial⟩
 have hz:sQ b N D=0->bF (.agg [.bool false,.mag 0,.mag 0]) (.rat (sQ b N D) (cR (sQ b N D))):=fun h=>by
  rw[h];exact mc
 refine ay.hole [1,1,1,1] ag (aG.chunk 2 (aG.bB hT nF hm 60 lp abg ag ?_))
 simp only[ah.all,aA,beq_iff_eq,beq_eq_false_iff_ne,ne_eq]
 -- behind the first questions
 have rest:∀{s':aJ},N≠0->D≠0->bw lp s'=some (qx b N D,tR)->
   aG P c ew.ntmps ((before (az ew) [1,1,1,1]).drop 2) s' (dU (fun s'=>ay P c ew.ntmps (part (az ew) [1,1,1,1]) s' (dU (fun s'=>aG P c ew.ntmps (behind (az ew) [1,1,1,1]) s' (ep c (Fin T ew (.rat (sQ b N D) (cR (sQ b N D)))))) (ep c (Fin T ew (.rat (sQ b N D) (cR (sQ b N D)))))))
    (ep c (Fin T ew (.rat (sQ b N D) (cR (sQ b N D)))))):=by
  intro s' hN0 hD0 hv
  have last:∀{s':aJ} {X Y:Nat},nl X<2^40->nl Y<2^40->X=N/Nat.gcd N D->Y=D/Nat.gcd N D->bw lp s'=some (qx b X Y,tR)->
    ay P c ew.ntmps (part (az ew) [1,1,1,1]) s' (dU (fun s'=>aG P c ew.ntmps (behind (az ew) [1,1,1,1]) s' (ep c (Fin T ew (.rat (sQ b N D) (cR (sQ b N D)))))) (ep c (Fin T ew (.rat (sQ b N D) (cR (sQ b N D)))))):=by
   intro s' X Y hX hY eX eY hv
   refine ay.mono (Q:=dU (fun s'=>aG P c ew.ntmps [] s' (ep c (Fin T ew (.rat (sQ b N D) (cR (sQ b N D)))))) (ep c (Fin T ew (.rat (sQ b N D) (cR (sQ b N D)))))) ?_ fun e s' h=>by cases e<;>exact h
   refine aG.k8 (l:=[part (az ew) [1,1,1,1]]) hT nF hm 60 hv (h0 _) rfl hO' Xo ag rfl ?_
   simp only[ah.all,aA,beq_iff_eq,beq_eq_false_iff_ne,ne_eq,Nat.add_zero,Int.toNat_zero]
   have hY0:Y≠0:=by rw[eY];exact Nat.pos_iff_ne_zero.1 (Nat.div_pos (Nat.le_of_dvd aa (Nat.gcd_dvd_right _ _)) (Nat.gcd_pos_of_pos_left _ aa))
   have h1:Y≠1->bF (.agg [.bool b,.mag X,.mag Y]) (.rat (sQ b N D) (cR (sQ b N D))):=fun h=>vY hN0 hD0 eX (by rw[<-eY,if_neg h]) Aq
   have h2:Y=1->bF (.agg [.bool b,.mag X,.nil]) (.rat (sQ b N D) (cR (sQ b N D))):=fun h=>Sa.trans (vY hN0 hD0 eX (by rw[<-eY,if_pos h]) Aq)
   have hl:nl Y=1->aC Y 0=Y:=fun h=>by
    have:=gu (N:=Y)
    rw[h,val,val]at this
    simpa using this
   refine⟨⟨hX,aa,hY,aa⟩,fun hb=>⟨⟨hb,aa,aa⟩,fun hc=>⟨aa,aa,h2 ?_⟩,fun hc=>⟨aa,aa,h1 ?_⟩⟩,fun hb=>⟨hb,fun h=>by simp at h,fun _=>⟨aa,aa,h1 ?_⟩⟩⟩
   ·have:=jv hc
    rw[hl aa]at this
    have:=eq_of_beq this
    omega
   ·have:=jv hc
    rw[hl aa]at this
    intro h
    rw[h]at this
    simp at this
   ·intro h
    rw[h]at hb
    exact hb (by decide)
  refine aG.chunk 1 (aG.fE hT nF hm 60 hv (h0 _) rfl hO' lp aku ag rfl ?_)
  simp only[ah.all,aA,bh,bz,aZ,beq_iff_eq]
  have long:∀{s':aJ},bw lp s'=some (qx b N D,tR)->aG P c ew.ntmps (((before (az ew) [1,1,1,1]).drop 2).drop 1) s' (dU (fun s'=>ay P c ew.ntmps (part (az ew) [1,1,1,1]) s' (dU (fun s'=>aG P c ew.ntmps (behind (az ew) [1,1,1,1]) s' (ep c (Fin T ew (.rat (sQ b N D) (cR (sQ b N D)))))) (ep c (Fin T ew (.rat (sQ b N D) (cR (sQ b N D)))))))
    (ep c (Fin T ew (.rat (sQ b N D) (cR (sQ b N D)))))):=by
   intro s' hv
   rw[List.drop_drop]
   refine aG.fE hT nF hm 60 hv (h0 _) rfl hO' lp Zh ag rfl ?_
   simp only[ah.all,aA,bh,bz]
   have hg:nl (Nat.gcd N D)<2^40:=Nat.lt_of_le_of_lt (iA (Nat.gcd_le_left _ aa)) hN
   have hg0:0<Nat.gcd N D:=Nat.gcd_pos_of_pos_left _ aa
   refine⟨⟨hN,hD⟩,hg,fun hb=>⟨⟨hN,hg⟩,⟨hD,hg⟩,fun s' hv=>last (Nat.lt_of_le_of_lt (iA (Nat.div_le_self _ _)) hN) (Nat.lt_of_le_of_lt (iA (Nat.div_le_self _ _)) hD) rfl rfl hv⟩,fun hb s' hv=>?_⟩
   have hg1:Nat.gcd N D=1:=by
    have:bM (Nat.gcd N D)<=1:=aa
    have:=Ze.1 this
    omega
   exact last hN hD (by rw[hg1,Nat.div_one]) (by rw[hg1,Nat.div_one]) hv
  refine⟨fun hb=>⟨hb,fun hc=>⟨?_,fun s' hv=>?_⟩,fun hc s' hv=>cF (long hv)⟩,fun hb=>⟨hb,fun h=>by simp at h,fun _ s' hv=>cF (long hv)⟩⟩
  ·have h2:nl D<=2:=by have:=of_decide_eq_true (jv hc);omega
   have:=qF (show nl N<=2 by omega)
   have:=qF h2
   exact⟨aa,h2,aa,aa,aa⟩
  ·refine fO (fO (z6 XL hv (h0 _) rfl (hO rfl) ⟨by simp[aA],?_⟩))
   exact .refl _
 refine⟨fun hb=>⟨⟨hN,hb⟩,fun _=>⟨aa,fun s' hv=>fO (fO (z6 LC hv (h0 _) rfl (hO rfl) ⟨by simp[aA],hz ?_⟩))⟩,fun h=>by simp at h⟩,fun hb=>⟨⟨hN,hb,hD⟩,fun hc=>⟨aa,fun s' hv=>fO (fO (z6 LC hv (h0 _) rfl (hO rfl) ⟨by simp[aA],hz ?_⟩))⟩,fun hc s' hv=>cF (rest ?_ ?_ hv)⟩⟩
 ·rw[Jm.1 (show bM N=0 by omega),KU]
 ·have:=eq_of_beq (iQ hc)
  rw[Jm.1 (show bM D=0 by omega),aaP]
 ·intro h;rw[h]at hb;exact hb (by decide)
 ·intro h
  have:=iQ hc
  rw[h]at this
  simp[bM]at this
end Go.Am.B
