/- rational.den, parts, reduce, Same, Sign, copied, size. -/
import Derived.Test.YtppeigelbecpbaaGreatB16
set_option linter.unusedVariables false
namespace Go.Am.B
open Go Go.Am.N AV
theorem aeJ:aO P uV wo (au wo):=aQ acp (by kernel_rfl) (by kernel_rfl) (by kernel_rfl)
theorem acE:aO P Bc vM (au vM):=aQ acI (by kernel_rfl) (by kernel_rfl) (by kernel_rfl)
theorem abq:aO P tD dH (au dH):=aQ TX (by kernel_rfl) (by kernel_rfl) (by kernel_rfl)
theorem Wo:aO P fu yS (au yS):=aQ agV (by kernel_rfl) (by kernel_rfl) (by kernel_rfl)
theorem Vf:aO P qj vp (au vp):=aQ akq (by kernel_rfl) (by kernel_rfl) (by kernel_rfl)
theorem W6:aO P AZ Ag (au Ag):=aQ Uz (by kernel_rfl) (by kernel_rfl) (by kernel_rfl)
theorem VN:aO P yp zy (au zy):=aQ acQ (by kernel_rfl) (by kernel_rfl) (by kernel_rfl)
def GR:aR:=(uu,bC (kW Hx))::(yo,bC (kW BQ))::(tJ,Fs)::(s7,bC (gP Ht))::(sr,bC (gP HX))::(uw,bC (gP FU))::(uK,ED)::(sY,Gb)::(qD,BU)::(sw,Gc)::[]
theorem mG:aY P GR:=aG Rb (aG Tq (aG L9 (aG OY (aG OT (aG QK (aG Qu (aG IW (aG E2 (aG QI bk)))))))))
theorem aiy {q:Rat} {n:Nat}:bF T GR [6] 60 wo (au wo) ⟨aN 0 [.rat q n],[],0⟩=
  let c1:Nat:=if q.den=1 then 0 else q.den;some (aa.ag [(0:Nat)<1] (aa.fork ((↑(nl c1):Int)==(0:Int)) (aa.leaf aj.ret [mag 1]) (aa.ag [(0:Nat)<1] (aa.leaf aj.ret [mag c1])))):=by kernel_rfl
theorem ajw {q:Rat} {n:Nat}:bF T GR [9,14,18] 60 vM (au vM) ⟨aN 0 [.rat q n],[],0⟩=
  let c11 : AV := int IntKind.u64 (0 : Int); let c8 : Nat := q.num.natAbs; let c4 : Prop := 0 < 1; let c2 : Nat := if q.den = 1 then 0 else q.den; let c10 : AV := int IntKind.u64 (↑c8 : Int); let c9 : Int := (↑(nl c2) : Int); let c6 : Int := IntKind.u64.wrap (↑(az c2 (Int.toNat (0 : Int))) : Int); let c5 : aa (List AV) := aa.leaf aj.ret [c11, c11, AV.bool false]; let c3 : Int := (↑(nl c8) : Int); let c7 : Bool := decide (c3 > (1 : Int)); let c1 : aa (List AV) := aa.ag [c4] (aa.fork (c9 == (1 : Int)) (aa.ag [c4, (0 : Int) ≤ (0 : Int) ∧ Int.toNat (0 : Int) < nl c2] (aa.ag [c4, nl c8 ≤ 2] (aa.leaf aj.ret [c10, int IntKind.u64 c6, AV.bool (c6 != (0 : Int))]))) (aa.ag [c4, nl c8 ≤ 2] (aa.leaf aj.ret [c10, int IntKind.u64 (1 : Int), AV.bool true]))); some (aa.fork c7 (aa.ag [c4, c7 = true] (aa.fork true c5 c1)) (aa.ag [c4, c7 = false, c4] (aa.fork (bif false then true else decide (c9 > (1 : Int))) c5 c1))) := by kernel_rfl
theorem XE {q r:Rat} {n m:Nat}:bF T GR [10,17] 60 yS (au yS) ⟨aN 0 [.rat q n,.rat r m],[],0⟩=
  let c9:Nat:=q.num.natAbs;let c8:Nat:=r.num.natAbs;let c5:Nat:=2^40;let c4:Bool:=decide (q<0)==decide (r<0);let c3:Nat:=if q.den=1 then 0 else q.den;let c2:Nat:=if r.den=1 then 0 else r.den;let c1:Prop:=0<1;let c10:List Prop:=[c1,c1,nl c3<c5,nl c2<c5];let c7:aa (List AV):=aa.leaf aj.ret [AV.bool (bif true then decide (c3=c2)else false)];let c6:Bool:=bif true then decide (c9=c8)else false;some (aa.fork c4 (aa.fork c6 (aa.ag (c1::c1::(c4=true)::c1::c1::(nl c9<c5)::(nl c8<c5)::(c6=true)::c10) c7) (aa.ag [c1,c1,c4=true,c1,c1,nl c9<c5,nl c8<c5,c6=false] (aa.leaf aj.ret [AV.bool false]))) (aa.fork false (aa.ag (c1::c1::(c4=false)::(false=true)::c10) c7) (aa.ag [c1,c1,c4=false,false=false] (aa.leaf aj.ret [AV.bool false])))):=by kernel_rfl
theorem aj5 {q:Rat} {n:Nat}:bF T GR [3,8] 60 vp (au vp) ⟨aN 0 [.rat q n],[],0⟩=
  some (aa.ag [(0:Nat)<1,nl q.num.natAbs<2^40] (aa.fork ((↑(br q.num.natAbs):Int)==(0:Int)) (aa.leaf aj.ret [int IntKind.i64 (0:Int)]) (aa.ag [(0:Nat)<1] (aa.fork (decide (q<0)) (aa.leaf aj.ret [int IntKind.i64 (-1:Int)]) (aa.leaf aj.ret [int IntKind.i64 (1:Int)]))))):=by kernel_rfl
theorem Xt {q:Rat} {n:Nat}:bF T GR [] 60 Ag (au Ag) ⟨aN 0 [.rat q n],[],0⟩=
  let c2:Nat:=if q.den=1 then 0 else q.den;let c1:Prop:=0<1;some (aa.ag [c1,c1,nl q.num.natAbs<2^40,c1,nl c2<2^40,c1] (aa.ag [c1] (aa.leaf aj.ret [agg [AV.bool (decide (q<0)),mag q.num.natAbs,mag c2]]))):=by kernel_rfl
theorem abP {n:Int}:bF T GR [4] 60 zy (au zy) ⟨aN 0 [.int .i64 n],[],0⟩=
  let c1:Int:=IntKind.i64.wrap ((0:Int)-n);let c2:Int:=IntKind.u64.wrap (if n<c1 then c1 else n);some (aa.fork (n==(-9223372036854775808:Int)) (aa.ag [(0:Int)≤(9223372036854775808:Int)∧(9223372036854775808:Int)<(2:Int)^64] (aa.leaf aj.ret [mag 9223372036854775808])) (aa.ag [(0:Int)≤c2∧c2<(2:Int)^64] (aa.leaf aj.ret [mag c2.toNat]))):=by kernel_rfl
abbrev jy:List Nat:=[0,1,2,6]
abbrev pE (b:Bool) (N D:Nat):List AV:=[.bool b,.mag N,.mag D,.ptr 0 0 3 0 []]
abbrev rK:aC:=[(0,⟨false,true,3,1,fun _=>.rat 0 1⟩)]
theorem Xz {b:Bool} {N D:Nat}:aH T GR [11,15] 60 jy ((before (au dH) [1,1,1,1]).take 2) ⟨aN 0 [.bool b,.mag N,.mag D],[],0⟩=
  let c6:Nat:=2^40;let c5:AV:=rat 0 1;let c4:Bool:=(↑(br N):Int)==(0:Int);let c3:List AV:=[AV.bool b,mag N,mag D,ptr 0 0 3 0 []];let c2:aa (List AV×aC):=aa.leaf aj.normal (c3,[((0:Nat),ah.mk false true 3 1 fun x↦c5)]);let c1:aa (List AV×aC):=aa.ag [(0:Nat)<1] (aa.leaf aj.ret (c3,[((0:Nat),ah.mk false true 3 1 fun j↦if(j==0)=true then bn (agg c5.kids)else c5)]));some (aa.fork c4 (aa.ag [nl N<c6,c4=true] (aa.fork true c1 c2)) (aa.ag [nl N<c6,c4=false,nl D<c6] (aa.fork (bif false then true else(↑(br D):Int)==(0:Int)) c1 c2))):=by kernel_rfl
theorem M4 {b:Bool} {N D:Nat}:kA T dH .ret ⟨aA jy (pE b N D),[(0,⟨false,true,3,1,fun j=>if j=0 then bn (.agg (AV.kids (.rat 0 1)))else .rat 0 1⟩)],1⟩=
  some (aa.ag [(0:Nat)<1] (aa.leaf aj.ret [agg [AV.bool false,mag 0,mag 0]])):=by kernel_rfl
theorem ah1 {b:Bool} {N D:Nat} {q:Rat} {k:Nat}:kA T dH .ret ⟨aA jy (pE b N D),[(0,⟨false,true,3,1,fun j=>if j=0 then bn (.rat q k)else .rat 0 1⟩)],1⟩=
  some (aa.ag [(0:Nat)<1] (aa.leaf aj.ret [rat q k])):=by kernel_rfl
theorem adO {b:Bool} {N D:Nat}:aH T GR [20,24] 60 jy (((before (au dH) [1,1,1,1]).drop 2).take 1) ⟨aA jy (pE b N D),rK,1⟩=
  let c6:AV:=rat 0 1;let c5:Rat:=sQ b (↑N:Int).toNat (↑D:Int).toNat;let c4:Bool:=decide ((↑(nl N):Int)≤(2:Int));let c3:List AV:=[AV.bool b,mag N,mag D,ptr 0 0 3 0 []];let c2:aa (List AV×aC):=aa.leaf aj.normal (c3,[((0:Nat),ah.mk false true 3 1 fun x↦c6)]);let c1:aa (List AV×aC):=aa.ag [nl N≤2,nl D≤2,(0:Int)≤(↑N:Int)∧(↑N:Int)<(2:Int)^64,(0:Int)<(↑D:Int)∧(↑D:Int)<(2:Int)^64,(0:Nat)<1] (aa.leaf aj.ret (c3,[((0:Nat),ah.mk false true 3 1 fun j↦if(j==0)=true then bn (rat c5 (ct c5))else c6)]));some (aa.fork c4 (aa.ag [c4=true] (aa.fork (bif true then decide ((↑(nl D):Int)≤(2:Int))else false) c1 c2)) (aa.ag [c4=false] (aa.fork false c1 c2))):=by kernel_rfl
theorem ajx {b:Bool} {N D:Nat}:aH T GR [36] 60 jy ((before (au dH) [1,1,1,1]).drop (2+1)) ⟨aA jy (pE b N D),rK,1⟩=
  let c5:Int:=(↑(br (N.gcd D)):Int);let c3:AV:=ptr 0 0 3 0 [];let c2:Nat×ah:=((0:Nat),ah.mk false true 3 1 fun x↦rat 0 1);let c1:Nat:=2^40;let c4:Prop:=nl (N.gcd D)<c1;some (aa.ag [nl N<c1,nl D<c1] (aa.ag [c4] (aa.fork (decide (c5>(1:Int))) (aa.ag [nl N<c1,c4] (aa.ag [nl D<c1,c4] (aa.leaf aj.normal ([AV.bool b,mag (N/N.gcd D),mag (D/N.gcd D),c3],[c2])))) (aa.leaf aj.normal ([AV.bool b,mag N,mag D,c3],[c2]))))):=by kernel_rfl
theorem VV {b:Bool} {N D:Nat}:cm T GR [58,63] 60 dH [part (au dH) [1,1,1,1]] ⟨aA jy (pE b N D),rK,1⟩=
  let c6:Nat:=D+0;let c5:List Prop:=[(0:Nat)<1];let c4:Nat:=2^40;let c3:Bool:=(↑(nl c6):Int)==(1:Int);let c2:aa (List AV):=aa.ag c5 (aa.ag c5 (aa.leaf aj.ret [agg [AV.bool b,mag (N+0),nil]]));let c1:aa (List AV):=aa.ag c5 (aa.ag c5 (aa.leaf aj.ret [agg [AV.bool b,mag (N+0),mag c6]]));some (aa.ag [nl N<c4,(0:Nat)<c4,nl D<c4,(0:Nat)<c4] (aa.fork c3 (aa.ag [c3=true,(0:Int)≤(0:Int)∧Int.toNat (0:Int)<nl c6] (aa.fork (bif true then(↑(az c6 (Int.toNat (0:Int))):Int)==(1:Int)else false) c2 c1)) (aa.ag [c3=false] (aa.fork false c2 c1)))):=by kernel_rfl
theorem iL {a b v:Bool} (h:(bif true then a else b)=v):a=v:=h
theorem Ey {N:Nat}:br N=0↔N=0:=by unfold br;split<;>simp_all
theorem ab5 {N:Nat}:br N≤1↔N≤1:=by rw[iI];omega
theorem iJ {N:Nat}:nl N=0↔N=0:=by
 constructor
 ·intro h
  rcases Nat.eq_zero_or_pos N with h1|h1
  ·exact h1
  ·have:=fY.2 (show N≠0 by omega);omega
 ·intro h;subst h;rfl
theorem aag {b:Bool} {n:Nat}:sQ b n 0=0:=by unfold sQ;simp
theorem KF {b:Bool} {x:Nat}:bB (.agg [.bool b,.mag x,.nil]) (.agg [.bool b,.mag x,.mag 0]):=dn ⟨.refl _,.refl _,jV,trivial⟩
theorem abd {b:Bool} {N D:Nat} (hN:nl N<2^40) (hD:nl D<2^40) (K:Nat) (pre:aC):aB P tD K [.bool b,.mag N,.mag D] pre (aK (.rat (sQ b N D) (ct (sQ b N D))) []):=by
 refine iq hT abq rfl (of_decide_eq_true (by kernel_rfl)) rfl (fun _ c h0=>?_) K pre
 have hO:∀{v:AV},keys v=[]→gn 1 [(0,(⟨false,true,3,1,fun j=>if j=0 then v else .rat 0 1⟩:ah))]:=fun h=>⟨⟨by omega,fun i _=>by show keys (if i=0 then _ else _)=[];split;exact h;rfl⟩,trivial⟩
 have hO':gn 1 rK:=⟨⟨by omega,fun _ _=>rfl⟩,trivial⟩
 have hz:sQ b N D=0→bB (.agg [.bool false,.mag 0,.mag 0]) (.rat (sQ b N D) (ct (sQ b N D))):=fun h=>by
  rw[h];exact lR
 refine aq.hole [1,1,1,1] (by kernel_rfl) (aD.chunk 2 (aD.bf hT mG hm 60 jy Xz (by kernel_rfl) ?_))
 simp only[aa.all,ax,beq_iff_eq,beq_eq_false_iff_ne,ne_eq]
 -- behind the first questions
 have rest:∀{s':aF},N≠0→D≠0→aX jy s'=some (pE b N D,rK)→
   aD P c dH.ntmps ((before (au dH) [1,1,1,1]).drop 2) s' (dz (fun s'=>aq P c dH.ntmps (part (au dH) [1,1,1,1]) s' (dz (fun s'=>aD P c dH.ntmps (behind (au dH) [1,1,1,1]) s' (dO c (Fin T dH (.rat (sQ b N D) (ct (sQ b N D)))))) (dO c (Fin T dH (.rat (sQ b N D) (ct (sQ b N D)))))))
    (dO c (Fin T dH (.rat (sQ b N D) (ct (sQ b N D)))))):=by
  intro s' hN0 hD0 hv
  have last:∀{s':aF} {X Y:Nat},nl X<2^40→nl Y<2^40→X=N/Nat.gcd N D→Y=D/Nat.gcd N D→aX jy s'=some (pE b X Y,rK)→
    aq P c dH.ntmps (part (au dH) [1,1,1,1]) s' (dz (fun s'=>aD P c dH.ntmps (behind (au dH) [1,1,1,1]) s' (dO c (Fin T dH (.rat (sQ b N D) (ct (sQ b N D)))))) (dO c (Fin T dH (.rat (sQ b N D) (ct (sQ b N D)))))):=by
   intro s' X Y hX hY eX eY hv
   refine aq.mono (Q:=dz (fun s'=>aD P c dH.ntmps [] s' (dO c (Fin T dH (.rat (sQ b N D) (ct (sQ b N D)))))) (dO c (Fin T dH (.rat (sQ b N D) (ct (sQ b N D)))))) ?_ fun e s' h=>by cases e<;>exact h
   refine aD.jz (l:=[part (au dH) [1,1,1,1]]) hT mG hm 60 hv (h0 _) rfl hO' VV (by kernel_rfl) rfl ?_
   simp only[aa.all,ax,beq_iff_eq,beq_eq_false_iff_ne,ne_eq,Nat.add_zero,Int.toNat_zero]
   have hY0:Y≠0:=by rw[eY];exact Nat.pos_iff_ne_zero.1 (Nat.div_pos (Nat.le_of_dvd (by omega) (Nat.gcd_dvd_right _ _)) (Nat.gcd_pos_of_pos_left _ (by omega)))
   have h1:Y≠1→bB (.agg [.bool b,.mag X,.mag Y]) (.rat (sQ b N D) (ct (sQ b N D))):=fun h=>r7 hN0 hD0 eX (by rw[←eY,if_neg h]) zX
   have h2:Y=1→bB (.agg [.bool b,.mag X,.nil]) (.rat (sQ b N D) (ct (sQ b N D))):=fun h=>KF.trans (r7 hN0 hD0 eX (by rw[←eY,if_pos h]) zX)
   have hl:nl Y=1→az Y 0=Y:=fun h=>by
    have:=fJ (N:=Y)
    rw[h,val,val]at this
    simpa using this
   refine⟨⟨hX,by omega,hY,by omega⟩,fun hb=>⟨⟨hb,by omega,by omega⟩,fun hc=>⟨by omega,by omega,h2 ?_⟩,fun hc=>⟨by omega,by omega,h1 ?_⟩⟩,fun hb=>⟨hb,fun h=>by simp at h,fun _=>⟨by omega,by omega,h1 ?_⟩⟩⟩
   ·have:=iL hc
    rw[hl (by omega)]at this
    have:=eq_of_beq this
    omega
   ·have:=iL hc
    rw[hl (by omega)]at this
    intro h
    rw[h]at this
    simp at this
   ·intro h
    rw[h]at hb
    exact hb (by decide)
  refine aD.chunk 1 (aD.eH hT mG hm 60 hv (h0 _) rfl hO' jy adO (by kernel_rfl) rfl ?_)
  simp only[aa.all,ax,decide_eq_true_eq,decide_eq_false_iff_not,Int.toNat_natCast,beq_iff_eq]
  have long:∀{s':aF},aX jy s'=some (pE b N D,rK)→aD P c dH.ntmps (((before (au dH) [1,1,1,1]).drop 2).drop 1) s' (dz (fun s'=>aq P c dH.ntmps (part (au dH) [1,1,1,1]) s' (dz (fun s'=>aD P c dH.ntmps (behind (au dH) [1,1,1,1]) s' (dO c (Fin T dH (.rat (sQ b N D) (ct (sQ b N D)))))) (dO c (Fin T dH (.rat (sQ b N D) (ct (sQ b N D)))))))
    (dO c (Fin T dH (.rat (sQ b N D) (ct (sQ b N D)))))):=by
   intro s' hv
   rw[List.drop_drop]
   refine aD.eH hT mG hm 60 hv (h0 _) rfl hO' jy ajx (by kernel_rfl) rfl ?_
   simp only[aa.all,ax,decide_eq_true_eq,decide_eq_false_iff_not]
   have hg:nl (Nat.gcd N D)<2^40:=Nat.lt_of_le_of_lt (gB (Nat.gcd_le_left _ (by omega))) hN
   have hg0:0<Nat.gcd N D:=Nat.gcd_pos_of_pos_left _ (by omega)
   refine⟨⟨hN,hD⟩,hg,fun hb=>⟨⟨hN,hg⟩,⟨hD,hg⟩,fun s' hv=>last (Nat.lt_of_le_of_lt (gB (Nat.div_le_self _ _)) hN) (Nat.lt_of_le_of_lt (gB (Nat.div_le_self _ _)) hD) rfl rfl hv⟩,fun hb s' hv=>?_⟩
   have hg1:Nat.gcd N D=1:=by
    have:br (Nat.gcd N D)≤1:=by omega
    have:=ab5.1 this
    omega
   exact last hN hD (by rw[hg1,Nat.div_one]) (by rw[hg1,Nat.div_one]) hv
  refine⟨fun hb=>⟨hb,fun hc=>⟨?_,fun s' hv=>?_⟩,fun hc s' hv=>bY (long hv)⟩,fun hb=>⟨hb,fun h=>by simp at h,fun _ s' hv=>bY (long hv)⟩⟩
  ·have h2:nl D≤2:=by have:=of_decide_eq_true (iL hc);omega
   have:=oG (show nl N≤2 by omega)
   have:=oG h2
   exact⟨by omega,h2,by omega,by omega,by omega⟩
  ·refine eW (eW (xN ah1 hv (h0 _) rfl (hO rfl) ⟨by simp[ax],?_⟩))
   exact .refl _
 refine⟨fun hb=>⟨⟨hN,hb⟩,fun _=>⟨by omega,fun s' hv=>eW (eW (xN M4 hv (h0 _) rfl (hO rfl) ⟨by simp[ax],hz ?_⟩))⟩,fun h=>by simp at h⟩,fun hb=>⟨⟨hN,hb,hD⟩,fun hc=>⟨by omega,fun s' hv=>eW (eW (xN M4 hv (h0 _) rfl (hO rfl) ⟨by simp[ax],hz ?_⟩))⟩,fun hc s' hv=>bY (rest ?_ ?_ hv)⟩⟩
 ·rw[Ey.1 (show br N=0 by omega),Hr]
 ·have:=eq_of_beq (gL hc)
  rw[Ey.1 (show br D=0 by omega),aag]
 ·intro h;rw[h]at hb;exact hb (by decide)
 ·intro h
  have:=gL hc
  rw[h]at this
  simp[br]at this
end Go.Am.B
