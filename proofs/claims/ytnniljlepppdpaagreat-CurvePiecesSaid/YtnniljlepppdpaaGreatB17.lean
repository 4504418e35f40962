/- rational.den, parts, reduce, Same, Sign, copied, size. -/
import Derived.Test.YtnniljlepppdpaaGreatB16
set_option linter.unusedVariables false
namespace Go.Am.B
open Go Go.Am.N AV
theorem ag9:aU P wv Al (az Al):=aT Proofs.Tryz.func199 ah ah ah
theorem acU:aU P A7 BG (az BG):=aT Proofs.Tryz.func213 ah ah ah
theorem Xs:aU P zk dO (az dO):=aT Proofs.Tryz.func215 ah ah ah
theorem Sy:aU P gV Cz (az Cz):=aT Proofs.Tryz.func117 ah ah ah
theorem ac5:aU P uw Dl (az Dl):=aT Proofs.Tryz.func96 ah ah ah
theorem TZ:aU P Ed AT (az AT):=aT Proofs.Tryz.func249 ah ah ah
theorem Xn:aU P Co CE (az CE):=aT Proofs.Tryz.func251 ah ah ah
def GR:aV:=(xu,bM (lN HJ))::(CH,bM (lN AX))::(xp,HR)::(vC,bM (iu H8))::(vt,bM (iu FC))::(xS,bM (iu I9))::(xA,FO)::(yZ,GU)::(tQ,Bn)::(yc,G9)::[]
theorem mX:bn P GR:=aI LD (aI aer (aI J1 (aI LF (aI PL (aI Ph (aI Mo (aI PB (aI HE (aI OX bE)))))))))
theorem ZM {q:Rat} {n:Nat}:bP T GR [6] 60 Al (az Al) ⟨aQ 0 [.rat q n],[],0⟩=
  let c1:Nat:=if q.den=1 then 0 else q.den;some (ag.aj [(0:Nat)<1] (ag.fork ((↑(nl c1):Int)==(0:Int)) (ag.leaf ak.ret [mag 1]) (ag.aj [(0:Nat)<1] (ag.leaf ak.ret [mag c1])))):=ah
theorem VM {q:Rat} {n:Nat}:bP T GR [9,14,18] 60 BG (az BG) ⟨aQ 0 [.rat q n],[],0⟩=
  let c11 : AV := int IntKind.u64 (0 : Int); let c8 : Nat := q.num.natAbs; let c4 : Prop := 0 < 1; let c2 : Nat := if q.den = 1 then 0 else q.den; let c10 : AV := int IntKind.u64 (↑c8 : Int); let c9 : Int := (↑(nl c2) : Int); let c6 : Int := IntKind.u64.wrap (↑(aC c2 (Int.toNat (0 : Int))) : Int); let c5 : ag (List AV) := ag.leaf ak.ret [c11, c11, AV.bool false]; let c3 : Int := (↑(nl c8) : Int); let c7 : Bool := decide (c3 > (1 : Int)); let c1 : ag (List AV) := ag.aj [c4] (ag.fork (c9 == (1 : Int)) (ag.aj [c4, (0 : Int) <= (0 : Int) /\ Int.toNat (0 : Int) < nl c2] (ag.aj [c4, nl c8 <= 2] (ag.leaf ak.ret [c10, int IntKind.u64 c6, AV.bool (c6 != (0 : Int))]))) (ag.aj [c4, nl c8 <= 2] (ag.leaf ak.ret [c10, int IntKind.u64 (1 : Int), AV.bool true]))); some (ag.fork c7 (ag.aj [c4, c7 = true] (ag.fork true c5 c1)) (ag.aj [c4, c7 = false, c4] (ag.fork (bif false then true else decide (c9 > (1 : Int))) c5 c1))) := ah
theorem WE {q r:Rat} {n m:Nat}:bP T GR [10,17] 60 Cz (az Cz) ⟨aQ 0 [.rat q n,.rat r m],[],0⟩=
  let c9:Nat:=q.num.natAbs;let c8:Nat:=r.num.natAbs;let c5:Nat:=2^40;let c4:Bool:=decide (q<0)==decide (r<0);let c3:Nat:=if q.den=1 then 0 else q.den;let c2:Nat:=if r.den=1 then 0 else r.den;let c1:Prop:=0<1;let c10:List Prop:=[c1,c1,nl c3<c5,nl c2<c5];let c7:ag (List AV):=ag.leaf ak.ret [AV.bool (bif true then decide (c3=c2)else false)];let c6:Bool:=bif true then decide (c9=c8)else false;some (ag.fork c4 (ag.fork c6 (ag.aj (c1::c1::(c4=true)::c1::c1::(nl c9<c5)::(nl c8<c5)::(c6=true)::c10) c7) (ag.aj [c1,c1,c4=true,c1,c1,nl c9<c5,nl c8<c5,c6=false] (ag.leaf ak.ret [AV.bool false]))) (ag.fork false (ag.aj (c1::c1::(c4=false)::(false=true)::c10) c7) (ag.aj [c1,c1,c4=false,false=false] (ag.leaf ak.ret [AV.bool false])))):=ah
theorem aja {q:Rat} {n:Nat}:bP T GR [3,8] 60 Dl (az Dl) ⟨aQ 0 [.rat q n],[],0⟩=
  some (ag.aj [(0:Nat)<1,nl q.num.natAbs<2^40] (ag.fork ((↑(bG q.num.natAbs):Int)==(0:Int)) (ag.leaf ak.ret [int IntKind.i64 (0:Int)]) (ag.aj [(0:Nat)<1] (ag.fork (decide (q<0)) (ag.leaf ak.ret [int IntKind.i64 (-1:Int)]) (ag.leaf ak.ret [int IntKind.i64 (1:Int)]))))):=ah
theorem S2 {q:Rat} {n:Nat}:bP T GR [] 60 AT (az AT) ⟨aQ 0 [.rat q n],[],0⟩=
  let c2:Nat:=if q.den=1 then 0 else q.den;let c1:Prop:=0<1;some (ag.aj [c1,c1,nl q.num.natAbs<2^40,c1,nl c2<2^40,c1] (ag.aj [c1] (ag.leaf ak.ret [agg [AV.bool (decide (q<0)),mag q.num.natAbs,mag c2]]))):=ah
theorem Vr {n:Int}:bP T GR [4] 60 CE (az CE) ⟨aQ 0 [.int .i64 n],[],0⟩=
  let c1:Int:=IntKind.i64.wrap ((0:Int)-n);let c2:Int:=IntKind.u64.wrap (if n<c1 then c1 else n);some (ag.fork (n==(-9223372036854775808:Int)) (ag.aj [(0:Int)<=(9223372036854775808:Int)/\(9223372036854775808:Int)<(2:Int)^64] (ag.leaf ak.ret [mag 9223372036854775808])) (ag.aj [(0:Int)<=c2/\c2<(2:Int)^64] (ag.leaf ak.ret [mag c2.toNat]))):=ah
abbrev jO:List Nat:=[0,1,2,6]
abbrev oD (b:Bool) (N D:Nat):List AV:=[.bool b,.mag N,.mag D,.ptr 0 0 3 0 []]
abbrev rO:aE:=[(0,⟨false,true,3,1,fun _=>.rat 0 1⟩)]
theorem Sw {b:Bool} {N D:Nat}:aJ T GR [11,15] 60 jO ((before (az dO) [1,1,1,1]).take 2) ⟨aQ 0 [.bool b,.mag N,.mag D],[],0⟩=
  let c6:Nat:=2^40;let c5:AV:=rat 0 1;let c4:Bool:=(↑(bG N):Int)==(0:Int);let c3:List AV:=[AV.bool b,mag N,mag D,ptr 0 0 3 0 []];let c2:ag (List AV×aE):=ag.leaf ak.normal (c3,[(0,ax.mk false true 3 1 fun x=>c5)]);let c1:ag (List AV×aE):=ag.aj [(0:Nat)<1] (ag.leaf ak.ret (c3,[(0,ax.mk false true 3 1 fun j=>if(j==0)=true then bA (agg c5.kids)else c5)]));some (ag.fork c4 (ag.aj [nl N<c6,c4=true] (ag.fork true c1 c2)) (ag.aj [nl N<c6,c4=false,nl D<c6] (ag.fork (bif false then true else(↑(bG D):Int)==(0:Int)) c1 c2))):=ah
theorem M5 {b:Bool} {N D:Nat}:kU T dO .ret ⟨aF jO (oD b N D),[(0,⟨false,true,3,1,fun j=>if j=0 then bA (.agg (AV.kids (.rat 0 1)))else .rat 0 1⟩)],1⟩=
  some (ag.aj [(0:Nat)<1] (ag.leaf ak.ret [agg [AV.bool false,mag 0,mag 0]])):=ah
theorem ada {b:Bool} {N D:Nat} {q:Rat} {k:Nat}:kU T dO .ret ⟨aF jO (oD b N D),[(0,⟨false,true,3,1,fun j=>if j=0 then bA (.rat q k)else .rat 0 1⟩)],1⟩=
  some (ag.aj [(0:Nat)<1] (ag.leaf ak.ret [rat q k])):=ah
theorem ZJ {b:Bool} {N D:Nat}:aJ T GR [20,24] 60 jO (((before (az dO) [1,1,1,1]).drop 2).take 1) ⟨aF jO (oD b N D),rO,1⟩=
  let c6:AV:=rat 0 1;let c5:Rat:=sQ b (↑N:Int).toNat (↑D:Int).toNat;let c4:Bool:=decide ((↑(nl N):Int)<=(2:Int));let c3:List AV:=[AV.bool b,mag N,mag D,ptr 0 0 3 0 []];let c2:ag (List AV×aE):=ag.leaf ak.normal (c3,[(0,ax.mk false true 3 1 fun x=>c6)]);let c1:ag (List AV×aE):=ag.aj [nl N<=2,nl D<=2,(0:Int)<=(↑N:Int)/\(↑N:Int)<(2:Int)^64,(0:Int)<(↑D:Int)/\(↑D:Int)<(2:Int)^64,(0:Nat)<1] (ag.leaf ak.ret (c3,[(0,ax.mk false true 3 1 fun j=>if(j==0)=true then bA (rat c5 (cK c5))else c6)]));some (ag.fork c4 (ag.aj [c4=true] (ag.fork (bif true then decide ((↑(nl D):Int)<=(2:Int))else false) c1 c2)) (ag.aj [c4=false] (ag.fork false c1 c2))):=ah
theorem YV {b:Bool} {N D:Nat}:aJ T GR [36] 60 jO ((before (az dO) [1,1,1,1]).drop (2+1)) ⟨aF jO (oD b N D),rO,1⟩=
  let c5:Int:=(↑(bG (N.gcd D)):Int);let c3:AV:=ptr 0 0 3 0 [];let c2:Nat×ax:=(0,ax.mk false true 3 1 fun x=>rat 0 1);let c1:Nat:=2^40;let c4:Prop:=nl (N.gcd D)<c1;some (ag.aj [nl N<c1,nl D<c1] (ag.aj [c4] (ag.fork (decide (c5>(1:Int))) (ag.aj [nl N<c1,c4] (ag.aj [nl D<c1,c4] (ag.leaf ak.normal ([AV.bool b,mag (N/N.gcd D),mag (D/N.gcd D),c3],[c2])))) (ag.leaf ak.normal ([AV.bool b,mag N,mag D,c3],[c2]))))):=ah
theorem Zw {b:Bool} {N D:Nat}:cJ T GR [58,63] 60 dO [part (az dO) [1,1,1,1]] ⟨aF jO (oD b N D),rO,1⟩=
  let c6:Nat:=D+0;let c5:List Prop:=[(0:Nat)<1];let c4:Nat:=2^40;let c3:Bool:=(↑(nl c6):Int)==(1:Int);let c2:ag (List AV):=ag.aj c5 (ag.aj c5 (ag.leaf ak.ret [agg [AV.bool b,mag (N+0),nil]]));let c1:ag (List AV):=ag.aj c5 (ag.aj c5 (ag.leaf ak.ret [agg [AV.bool b,mag (N+0),mag c6]]));some (ag.aj [nl N<c4,(0:Nat)<c4,nl D<c4,(0:Nat)<c4] (ag.fork c3 (ag.aj [c3=true,(0:Int)<=(0:Int)/\Int.toNat (0:Int)<nl c6] (ag.fork (bif true then(↑(aC c6 (Int.toNat (0:Int))):Int)==(1:Int)else false) c2 c1)) (ag.aj [c3=false] (ag.fork false c2 c1)))):=ah
theorem jq {a b v:Bool} (h:(bif true then a else b)=v):a=v:=h
theorem EX {N:Nat}:bG N=0↔N=0:=by unfold bG;split<;>simp_all
theorem aan {N:Nat}:bG N<=1↔N<=1:=by rw[je];omega
theorem ja {N:Nat}:nl N=0↔N=0:=by
 constructor
 ·intro h
  rcases Nat.eq_zero_or_pos N with h1|h1
  ·exact h1
  ·have:=gd.2 (show N≠0 by omega);omega
 ·intro h;subst h;rfl
theorem aeL {b:Bool} {n:Nat}:sQ b n 0=0:=by unfold sQ;simp
theorem LP {b:Bool} {x:Nat}:bD (.agg [.bool b,.mag x,.nil]) (.agg [.bool b,.mag x,.mag 0]):=cu ⟨.refl _,.refl _,kH,trivial⟩
theorem TQ {b:Bool} {N D:Nat} (hN:nl N<2^40) (hD:nl D<2^40) (K:Nat) (pre:aE):aD P zk K [.bool b,.mag N,.mag D] pre (aL (.rat (sQ b N D) (cK (sQ b N D))) []):=by
 refine iy hT Xs rfl aW rfl (fun _ c h0=>?_) K pre
 have hO:∀{v:AV},keys v=[]->gG 1 [(0,(⟨false,true,3,1,fun j=>if j=0 then v else .rat 0 1⟩:ax))]:=fun h=>⟨⟨aa,fun i _=>by show keys (if i=0 then _ else _)=[];split;exact h;rfl⟩,trivial⟩
 have hO':gG 1 rO:=⟨⟨aa,fun _ _=>rfl⟩,trivial⟩
 have hz:sQ b N D=0->bD (.agg [.bool false,.mag 0,.mag 0]) (.rat (sQ b N D) (cK (sQ b N D))):=fun h=>by
  rw[h];exact nh
 refine ay.hole [1,1,1,1] ah (aG.chunk 2 (aG.bz hT mX hm 60 jO Sw ah ?_))
 simp only[ag.all,aA,beq_iff_eq,beq_eq_false_iff_ne,ne_eq]
 -- behind the first questions
 have rest:∀{s':aH},N≠0->D≠0->bk jO s'=some (oD b N D,rO)->
   aG P c dO.ntmps ((before (az dO) [1,1,1,1]).drop 2) s' (dM (fun s'=>ay P c dO.ntmps (part (az dO) [1,1,1,1]) s' (dM (fun s'=>aG P c dO.ntmps (behind (az dO) [1,1,1,1]) s' (dX c (Fin T dO (.rat (sQ b N D) (cK (sQ b N D)))))) (dX c (Fin T dO (.rat (sQ b N D) (cK (sQ b N D)))))))
    (dX c (Fin T dO (.rat (sQ b N D) (cK (sQ b N D)))))):=by
  intro s' hN0 hD0 hv
  have last:∀{s':aH} {X Y:Nat},nl X<2^40->nl Y<2^40->X=N/Nat.gcd N D->Y=D/Nat.gcd N D->bk jO s'=some (oD b X Y,rO)->
    ay P c dO.ntmps (part (az dO) [1,1,1,1]) s' (dM (fun s'=>aG P c dO.ntmps (behind (az dO) [1,1,1,1]) s' (dX c (Fin T dO (.rat (sQ b N D) (cK (sQ b N D)))))) (dX c (Fin T dO (.rat (sQ b N D) (cK (sQ b N D)))))):=by
   intro s' X Y hX hY eX eY hv
   refine ay.mono (Q:=dM (fun s'=>aG P c dO.ntmps [] s' (dX c (Fin T dO (.rat (sQ b N D) (cK (sQ b N D)))))) (dX c (Fin T dO (.rat (sQ b N D) (cK (sQ b N D)))))) ?_ fun e s' h=>by cases e<;>exact h
   refine aG.j6 (l:=[part (az dO) [1,1,1,1]]) hT mX hm 60 hv (h0 _) rfl hO' Zw ah rfl ?_
   simp only[ag.all,aA,beq_iff_eq,beq_eq_false_iff_ne,ne_eq,Nat.add_zero,Int.toNat_zero]
   have hY0:Y≠0:=by rw[eY];exact Nat.pos_iff_ne_zero.1 (Nat.div_pos (Nat.le_of_dvd aa (Nat.gcd_dvd_right _ _)) (Nat.gcd_pos_of_pos_left _ aa))
   have h1:Y≠1->bD (.agg [.bool b,.mag X,.mag Y]) (.rat (sQ b N D) (cK (sQ b N D))):=fun h=>tM hN0 hD0 eX (by rw[<-eY,if_neg h]) yM
   have h2:Y=1->bD (.agg [.bool b,.mag X,.nil]) (.rat (sQ b N D) (cK (sQ b N D))):=fun h=>LP.trans (tM hN0 hD0 eX (by rw[<-eY,if_pos h]) yM)
   have hl:nl Y=1->aC Y 0=Y:=fun h=>by
    have:=fS (N:=Y)
    rw[h,val,val]at this
    simpa using this
   refine⟨⟨hX,aa,hY,aa⟩,fun hb=>⟨⟨hb,aa,aa⟩,fun hc=>⟨aa,aa,h2 ?_⟩,fun hc=>⟨aa,aa,h1 ?_⟩⟩,fun hb=>⟨hb,fun h=>by simp at h,fun _=>⟨aa,aa,h1 ?_⟩⟩⟩
   ·have:=jq hc
    rw[hl aa]at this
    have:=eq_of_beq this
    omega
   ·have:=jq hc
    rw[hl aa]at this
    intro h
    rw[h]at this
    simp at this
   ·intro h
    rw[h]at hb
    exact hb (by decide)
  refine aG.chunk 1 (aG.eW hT mX hm 60 hv (h0 _) rfl hO' jO ZJ ah rfl ?_)
  simp only[ag.all,aA,bf,bt,aX,beq_iff_eq]
  have long:∀{s':aH},bk jO s'=some (oD b N D,rO)->aG P c dO.ntmps (((before (az dO) [1,1,1,1]).drop 2).drop 1) s' (dM (fun s'=>ay P c dO.ntmps (part (az dO) [1,1,1,1]) s' (dM (fun s'=>aG P c dO.ntmps (behind (az dO) [1,1,1,1]) s' (dX c (Fin T dO (.rat (sQ b N D) (cK (sQ b N D)))))) (dX c (Fin T dO (.rat (sQ b N D) (cK (sQ b N D)))))))
    (dX c (Fin T dO (.rat (sQ b N D) (cK (sQ b N D)))))):=by
   intro s' hv
   rw[List.drop_drop]
   refine aG.eW hT mX hm 60 hv (h0 _) rfl hO' jO YV ah rfl ?_
   simp only[ag.all,aA,bf,bt]
   have hg:nl (Nat.gcd N D)<2^40:=Nat.lt_of_le_of_lt (gJ (Nat.gcd_le_left _ aa)) hN
   have hg0:0<Nat.gcd N D:=Nat.gcd_pos_of_pos_left _ aa
   refine⟨⟨hN,hD⟩,hg,fun hb=>⟨⟨hN,hg⟩,⟨hD,hg⟩,fun s' hv=>last (Nat.lt_of_le_of_lt (gJ (Nat.div_le_self _ _)) hN) (Nat.lt_of_le_of_lt (gJ (Nat.div_le_self _ _)) hD) rfl rfl hv⟩,fun hb s' hv=>?_⟩
   have hg1:Nat.gcd N D=1:=by
    have:bG (Nat.gcd N D)<=1:=aa
    have:=aan.1 this
    omega
   exact last hN hD (by rw[hg1,Nat.div_one]) (by rw[hg1,Nat.div_one]) hv
  refine⟨fun hb=>⟨hb,fun hc=>⟨?_,fun s' hv=>?_⟩,fun hc s' hv=>cw (long hv)⟩,fun hb=>⟨hb,fun h=>by simp at h,fun _ s' hv=>cw (long hv)⟩⟩
  ·have h2:nl D<=2:=by have:=of_decide_eq_true (jq hc);omega
   have:=p9 (show nl N<=2 by omega)
   have:=p9 h2
   exact⟨aa,h2,aa,aa,aa⟩
  ·refine ff (ff (yU ada hv (h0 _) rfl (hO rfl) ⟨by simp[aA],?_⟩))
   exact .refl _
 refine⟨fun hb=>⟨⟨hN,hb⟩,fun _=>⟨aa,fun s' hv=>ff (ff (yU M5 hv (h0 _) rfl (hO rfl) ⟨by simp[aA],hz ?_⟩))⟩,fun h=>by simp at h⟩,fun hb=>⟨⟨hN,hb,hD⟩,fun hc=>⟨aa,fun s' hv=>ff (ff (yU M5 hv (h0 _) rfl (hO rfl) ⟨by simp[aA],hz ?_⟩))⟩,fun hc s' hv=>cw (rest ?_ ?_ hv)⟩⟩
 ·rw[EX.1 (show bG N=0 by omega),Fy]
 ·have:=eq_of_beq (gZ hc)
  rw[EX.1 (show bG D=0 by omega),aeL]
 ·intro h;rw[h]at hb;exact hb (by decide)
 ·intro h
  have:=gZ hc
  rw[h]at this
  simp[bG]at this
end Go.Am.B
