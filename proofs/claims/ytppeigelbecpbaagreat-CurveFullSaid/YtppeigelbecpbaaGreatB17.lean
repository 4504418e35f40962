/- rational.den, parts, reduce, Same, Sign, copied, size. -/
import Derived.Test.YtppeigelbecpbaaGreatB16
set_option linter.unusedVariables false
namespace Go.Am.B
open Go Go.Am.N AV
theorem UT:aN P p7 tI (au tI):=aO M0 (by kernel_rfl) (by kernel_rfl) (by kernel_rfl)
theorem Mj:aN P sA r9 (au r9):=aO X9 (by kernel_rfl) (by kernel_rfl) (by kernel_rfl)
theorem RG:aN P p5 cI (au cI):=aO Rx (by kernel_rfl) (by kernel_rfl) (by kernel_rfl)
theorem Rq:aN P fk rE (au rE):=aO Kr (by kernel_rfl) (by kernel_rfl) (by kernel_rfl)
theorem IF:aN P mG r6 (au r6):=aO Ua (by kernel_rfl) (by kernel_rfl) (by kernel_rfl)
theorem Ka:aN P sU ua (au ua):=aO O2 (by kernel_rfl) (by kernel_rfl) (by kernel_rfl)
theorem I8:aN P qF tW (au tW):=aO Lb (by kernel_rfl) (by kernel_rfl) (by kernel_rfl)
def GR:aT:=(pI,bq (jb BG))::(u7,bq (jb x8))::(oJ,y5)::(pL,bq (fI AS))::(pQ,bq (fI BQ))::(pY,bq (fI Ad))::(pV,Bf)::(pN,A2)::(nQ,yw)::(pe,zq)::[]
theorem jE:bp P GR:=aK DC (aK N6 (aK G7 (aK E6 (aK DU (aK IC (aK Iu (aK G3 (aK zn (aK E2 br)))))))))
theorem P9 {q:Rat} {n:Nat}:bu T GR [6] 60 tI (au tI) ⟨aM 0 [.rat q n],[],0⟩=
  let c1:Nat:=if q.den=1 then 0 else q.den;some (aa.ag [(0:Nat)<1] (aa.fork ((↑(nl c1):Int)==(0:Int)) (aa.leaf ah.ret [mag 1]) (aa.ag [(0:Nat)<1] (aa.leaf ah.ret [mag c1])))):=by kernel_rfl
theorem YX {q:Rat} {n:Nat}:bu T GR [9,14,18] 60 r9 (au r9) ⟨aM 0 [.rat q n],[],0⟩=
  let c11 : AV := int IntKind.u64 (0 : Int); let c8 : Nat := q.num.natAbs; let c4 : Prop := 0 < 1; let c2 : Nat := if q.den = 1 then 0 else q.den; let c10 : AV := int IntKind.u64 (↑c8 : Int); let c9 : Int := (↑(nl c2) : Int); let c6 : Int := IntKind.u64.wrap (↑(ay c2 (Int.toNat (0 : Int))) : Int); let c5 : aa (List AV) := aa.leaf ah.ret [c11, c11, AV.bool false]; let c3 : Int := (↑(nl c8) : Int); let c7 : Bool := decide (c3 > (1 : Int)); let c1 : aa (List AV) := aa.ag [c4] (aa.fork (c9 == (1 : Int)) (aa.ag [c4, (0 : Int) ≤ (0 : Int) ∧ Int.toNat (0 : Int) < nl c2] (aa.ag [c4, nl c8 ≤ 2] (aa.leaf ah.ret [c10, int IntKind.u64 c6, AV.bool (c6 != (0 : Int))]))) (aa.ag [c4, nl c8 ≤ 2] (aa.leaf ah.ret [c10, int IntKind.u64 (1 : Int), AV.bool true]))); some (aa.fork c7 (aa.ag [c4, c7 = true] (aa.fork true c5 c1)) (aa.ag [c4, c7 = false, c4] (aa.fork (bif false then true else decide (c9 > (1 : Int))) c5 c1))) := by kernel_rfl
theorem KF {q r:Rat} {n m:Nat}:bu T GR [10,17] 60 rE (au rE) ⟨aM 0 [.rat q n,.rat r m],[],0⟩=
  let c9:Nat:=q.num.natAbs;let c8:Nat:=r.num.natAbs;let c5:Nat:=2^40;let c4:Bool:=decide (q<0)==decide (r<0);let c3:Nat:=if q.den=1 then 0 else q.den;let c2:Nat:=if r.den=1 then 0 else r.den;let c1:Prop:=0<1;let c10:List Prop:=[c1,c1,nl c3<c5,nl c2<c5];let c7:aa (List AV):=aa.leaf ah.ret [AV.bool (bif true then decide (c3=c2)else false)];let c6:Bool:=bif true then decide (c9=c8)else false;some (aa.fork c4 (aa.fork c6 (aa.ag (c1::c1::(c4=true)::c1::c1::(nl c9<c5)::(nl c8<c5)::(c6=true)::c10) c7) (aa.ag [c1,c1,c4=true,c1,c1,nl c9<c5,nl c8<c5,c6=false] (aa.leaf ah.ret [AV.bool false]))) (aa.fork false (aa.ag (c1::c1::(c4=false)::(false=true)::c10) c7) (aa.ag [c1,c1,c4=false,false=false] (aa.leaf ah.ret [AV.bool false])))):=by kernel_rfl
theorem PC {q:Rat} {n:Nat}:bu T GR [3,8] 60 r6 (au r6) ⟨aM 0 [.rat q n],[],0⟩=
  some (aa.ag [(0:Nat)<1,nl q.num.natAbs<2^40] (aa.fork ((↑(aY q.num.natAbs):Int)==(0:Int)) (aa.leaf ah.ret [int IntKind.i64 (0:Int)]) (aa.ag [(0:Nat)<1] (aa.fork (decide (q<0)) (aa.leaf ah.ret [int IntKind.i64 (-1:Int)]) (aa.leaf ah.ret [int IntKind.i64 (1:Int)]))))):=by kernel_rfl
theorem Pv {q:Rat} {n:Nat}:bu T GR [] 60 ua (au ua) ⟨aM 0 [.rat q n],[],0⟩=
  let c2:Nat:=if q.den=1 then 0 else q.den;let c1:Prop:=0<1;some (aa.ag [c1,c1,nl q.num.natAbs<2^40,c1,nl c2<2^40,c1] (aa.ag [c1] (aa.leaf ah.ret [agg [AV.bool (decide (q<0)),mag q.num.natAbs,mag c2]]))):=by kernel_rfl
theorem MU {n:Int}:bu T GR [4] 60 tW (au tW) ⟨aM 0 [.int .i64 n],[],0⟩=
  let c1:Int:=IntKind.i64.wrap ((0:Int)-n);let c2:Int:=IntKind.u64.wrap (if n<c1 then c1 else n);some (aa.fork (n==(-9223372036854775808:Int)) (aa.ag [(0:Int)≤(9223372036854775808:Int)∧(9223372036854775808:Int)<(2:Int)^64] (aa.leaf ah.ret [mag 9223372036854775808])) (aa.ag [(0:Int)≤c2∧c2<(2:Int)^64] (aa.leaf ah.ret [mag c2.toNat]))):=by kernel_rfl
abbrev ig:List Nat:=[0,1,2,6]
abbrev mu (b:Bool) (N D:Nat):List AV:=[.bool b,.mag N,.mag D,.ptr 0 0 3 0 []]
abbrev mM:aA:=[(0,⟨false,true,3,1,fun _=>.rat 0 1⟩)]
theorem T2 {b:Bool} {N D:Nat}:aJ T GR [11,15] 60 ig ((before (au cI) [1,1,1,1]).take 2) ⟨aM 0 [.bool b,.mag N,.mag D],[],0⟩=
  let c6:Nat:=2^40;let c5:AV:=rat 0 1;let c4:Bool:=(↑(aY N):Int)==(0:Int);let c3:List AV:=[AV.bool b,mag N,mag D,ptr 0 0 3 0 []];let c2:aa (List AV×aA):=aa.leaf ah.normal (c3,[((0:Nat),ak.mk false true 3 1 fun x↦c5)]);let c1:aa (List AV×aA):=aa.ag [(0:Nat)<1] (aa.leaf ah.ret (c3,[((0:Nat),ak.mk false true 3 1 fun j↦if(j==0)=true then bH (agg c5.kids)else c5)]));some (aa.fork c4 (aa.ag [nl N<c6,c4=true] (aa.fork true c1 c2)) (aa.ag [nl N<c6,c4=false,nl D<c6] (aa.fork (bif false then true else(↑(aY D):Int)==(0:Int)) c1 c2))):=by kernel_rfl
theorem D4 {b:Bool} {N D:Nat}:jr T cI .ret ⟨aD ig (mu b N D),[(0,⟨false,true,3,1,fun j=>if j=0 then bH (.agg (AV.kids (.rat 0 1)))else .rat 0 1⟩)],1⟩=
  some (aa.ag [(0:Nat)<1] (aa.leaf ah.ret [agg [AV.bool false,mag 0,mag 0]])):=by kernel_rfl
theorem Jl {b:Bool} {N D:Nat} {q:Rat} {k:Nat}:jr T cI .ret ⟨aD ig (mu b N D),[(0,⟨false,true,3,1,fun j=>if j=0 then bH (.rat q k)else .rat 0 1⟩)],1⟩=
  some (aa.ag [(0:Nat)<1] (aa.leaf ah.ret [rat q k])):=by kernel_rfl
theorem Wo {b:Bool} {N D:Nat}:aJ T GR [20,24] 60 ig (((before (au cI) [1,1,1,1]).drop 2).take 1) ⟨aD ig (mu b N D),mM,1⟩=
  let c6:AV:=rat 0 1;let c5:Rat:=sQ b (↑N:Int).toNat (↑D:Int).toNat;let c4:Bool:=decide ((↑(nl N):Int)≤(2:Int));let c3:List AV:=[AV.bool b,mag N,mag D,ptr 0 0 3 0 []];let c2:aa (List AV×aA):=aa.leaf ah.normal (c3,[((0:Nat),ak.mk false true 3 1 fun x↦c6)]);let c1:aa (List AV×aA):=aa.ag [nl N≤2,nl D≤2,(0:Int)≤(↑N:Int)∧(↑N:Int)<(2:Int)^64,(0:Int)<(↑D:Int)∧(↑D:Int)<(2:Int)^64,(0:Nat)<1] (aa.leaf ah.ret (c3,[((0:Nat),ak.mk false true 3 1 fun j↦if(j==0)=true then bH (rat c5 (bV c5))else c6)]));some (aa.fork c4 (aa.ag [c4=true] (aa.fork (bif true then decide ((↑(nl D):Int)≤(2:Int))else false) c1 c2)) (aa.ag [c4=false] (aa.fork false c1 c2))):=by kernel_rfl
theorem Ku {b:Bool} {N D:Nat}:aJ T GR [36] 60 ig ((before (au cI) [1,1,1,1]).drop (2+1)) ⟨aD ig (mu b N D),mM,1⟩=
  let c5:Int:=(↑(aY (N.gcd D)):Int);let c3:AV:=ptr 0 0 3 0 [];let c2:Nat×ak:=((0:Nat),ak.mk false true 3 1 fun x↦rat 0 1);let c1:Nat:=2^40;let c4:Prop:=nl (N.gcd D)<c1;some (aa.ag [nl N<c1,nl D<c1] (aa.ag [c4] (aa.fork (decide (c5>(1:Int))) (aa.ag [nl N<c1,c4] (aa.ag [nl D<c1,c4] (aa.leaf ah.normal ([AV.bool b,mag (N/N.gcd D),mag (D/N.gcd D),c3],[c2])))) (aa.leaf ah.normal ([AV.bool b,mag N,mag D,c3],[c2]))))):=by kernel_rfl
theorem W8 {b:Bool} {N D:Nat}:b7 T GR [58,63] 60 cI [part (au cI) [1,1,1,1]] ⟨aD ig (mu b N D),mM,1⟩=
  let c6:Nat:=D+0;let c5:List Prop:=[(0:Nat)<1];let c4:Nat:=2^40;let c3:Bool:=(↑(nl c6):Int)==(1:Int);let c2:aa (List AV):=aa.ag c5 (aa.ag c5 (aa.leaf ah.ret [agg [AV.bool b,mag (N+0),nil]]));let c1:aa (List AV):=aa.ag c5 (aa.ag c5 (aa.leaf ah.ret [agg [AV.bool b,mag (N+0),mag c6]]));some (aa.ag [nl N<c4,(0:Nat)<c4,nl D<c4,(0:Nat)<c4] (aa.fork c3 (aa.ag [c3=true,(0:Int)≤(0:Int)∧Int.toNat (0:Int)<nl c6] (aa.fork (bif true then(↑(ay c6 (Int.toNat (0:Int))):Int)==(1:Int)else false) c2 c1)) (aa.ag [c3=false] (aa.fork false c2 c1)))):=by kernel_rfl
theorem gx {a b v:Bool} (h:(bif true then a else b)=v):a=v:=h
theorem zm {N:Nat}:aY N=0↔N=0:=by unfold aY;split<;>simp_all
theorem WR {N:Nat}:aY N≤1↔N≤1:=by rw[gp];omega
theorem gm {N:Nat}:nl N=0↔N=0:=by
 constructor
 ·intro h
  rcases Nat.eq_zero_or_pos N with h1|h1
  ·exact h1
  ·have:=eL.2 (show N≠0 by omega);omega
 ·intro h;subst h;rfl
theorem Sk {b:Bool} {n:Nat}:sQ b n 0=0:=by unfold sQ;simp
theorem FA {b:Bool} {x:Nat}:bt (.agg [.bool b,.mag x,.nil]) (.agg [.bool b,.mag x,.mag 0]):=dJ ⟨.refl _,.refl _,ir,trivial⟩
theorem YA {b:Bool} {N D:Nat} (hN:nl N<2^40) (hD:nl D<2^40) (K:Nat) (pre:aA):aB P p5 K [.bool b,.mag N,.mag D] pre (aG (.rat (sQ b N D) (bV (sQ b N D))) []):=by
 refine fZ hT RG rfl (of_decide_eq_true (by kernel_rfl)) rfl (fun _ c h0=>?_) K pre
 have hO:∀{v:AV},keys v=[]→ff 1 [(0,(⟨false,true,3,1,fun j=>if j=0 then v else .rat 0 1⟩:ak))]:=fun h=>⟨⟨by omega,fun i _=>by show keys (if i=0 then _ else _)=[];split;exact h;rfl⟩,trivial⟩
 have hO':ff 1 mM:=⟨⟨by omega,fun _ _=>rfl⟩,trivial⟩
 have hz:sQ b N D=0→bt (.agg [.bool false,.mag 0,.mag 0]) (.rat (sQ b N D) (bV (sQ b N D))):=fun h=>by
  rw[h];exact jH
 refine aj.hole [1,1,1,1] (by kernel_rfl) (aC.chunk 2 (aC.aV hT jE hm 60 ig T2 (by kernel_rfl) ?_))
 simp only[aa.all,az,beq_iff_eq,beq_eq_false_iff_ne,ne_eq]
 -- behind the first questions
 have rest:∀{s':aE},N≠0→D≠0→aR ig s'=some (mu b N D,mM)→
   aC P c cI.ntmps ((before (au cI) [1,1,1,1]).drop 2) s' (cK (fun s'=>aj P c cI.ntmps (part (au cI) [1,1,1,1]) s' (cK (fun s'=>aC P c cI.ntmps (behind (au cI) [1,1,1,1]) s' (cR c (Fin T cI (.rat (sQ b N D) (bV (sQ b N D)))))) (cR c (Fin T cI (.rat (sQ b N D) (bV (sQ b N D)))))))
    (cR c (Fin T cI (.rat (sQ b N D) (bV (sQ b N D)))))):=by
  intro s' hN0 hD0 hv
  have last:∀{s':aE} {X Y:Nat},nl X<2^40→nl Y<2^40→X=N/Nat.gcd N D→Y=D/Nat.gcd N D→aR ig s'=some (mu b X Y,mM)→
    aj P c cI.ntmps (part (au cI) [1,1,1,1]) s' (cK (fun s'=>aC P c cI.ntmps (behind (au cI) [1,1,1,1]) s' (cR c (Fin T cI (.rat (sQ b N D) (bV (sQ b N D)))))) (cR c (Fin T cI (.rat (sQ b N D) (bV (sQ b N D)))))):=by
   intro s' X Y hX hY eX eY hv
   refine aj.mono (Q:=cK (fun s'=>aC P c cI.ntmps [] s' (cR c (Fin T cI (.rat (sQ b N D) (bV (sQ b N D)))))) (cR c (Fin T cI (.rat (sQ b N D) (bV (sQ b N D)))))) ?_ fun e s' h=>by cases e<;>exact h
   refine aC.g8 (l:=[part (au cI) [1,1,1,1]]) hT jE hm 60 hv (h0 _) rfl hO' W8 (by kernel_rfl) rfl ?_
   simp only[aa.all,az,beq_iff_eq,beq_eq_false_iff_ne,ne_eq,Nat.add_zero,Int.toNat_zero]
   have hY0:Y≠0:=by rw[eY];exact Nat.pos_iff_ne_zero.1 (Nat.div_pos (Nat.le_of_dvd (by omega) (Nat.gcd_dvd_right _ _)) (Nat.gcd_pos_of_pos_left _ (by omega)))
   have h1:Y≠1→bt (.agg [.bool b,.mag X,.mag Y]) (.rat (sQ b N D) (bV (sQ b N D))):=fun h=>pT hN0 hD0 eX (by rw[←eY,if_neg h]) qL
   have h2:Y=1→bt (.agg [.bool b,.mag X,.nil]) (.rat (sQ b N D) (bV (sQ b N D))):=fun h=>FA.trans (pT hN0 hD0 eX (by rw[←eY,if_pos h]) qL)
   have hl:nl Y=1→ay Y 0=Y:=fun h=>by
    have:=ep (N:=Y)
    rw[h,val,val]at this
    simpa using this
   refine⟨⟨hX,by omega,hY,by omega⟩,fun hb=>⟨⟨hb,by omega,by omega⟩,fun hc=>⟨by omega,by omega,h2 ?_⟩,fun hc=>⟨by omega,by omega,h1 ?_⟩⟩,fun hb=>⟨hb,fun h=>by simp at h,fun _=>⟨by omega,by omega,h1 ?_⟩⟩⟩
   ·have:=gx hc
    rw[hl (by omega)]at this
    have:=eq_of_beq this
    omega
   ·have:=gx hc
    rw[hl (by omega)]at this
    intro h
    rw[h]at this
    simp at this
   ·intro h
    rw[h]at hb
    exact hb (by decide)
  refine aC.chunk 1 (aC.dB hT jE hm 60 hv (h0 _) rfl hO' ig Wo (by kernel_rfl) rfl ?_)
  simp only[aa.all,az,decide_eq_true_eq,decide_eq_false_iff_not,Int.toNat_natCast,beq_iff_eq]
  have long:∀{s':aE},aR ig s'=some (mu b N D,mM)→aC P c cI.ntmps (((before (au cI) [1,1,1,1]).drop 2).drop 1) s' (cK (fun s'=>aj P c cI.ntmps (part (au cI) [1,1,1,1]) s' (cK (fun s'=>aC P c cI.ntmps (behind (au cI) [1,1,1,1]) s' (cR c (Fin T cI (.rat (sQ b N D) (bV (sQ b N D)))))) (cR c (Fin T cI (.rat (sQ b N D) (bV (sQ b N D)))))))
    (cR c (Fin T cI (.rat (sQ b N D) (bV (sQ b N D)))))):=by
   intro s' hv
   rw[List.drop_drop]
   refine aC.dB hT jE hm 60 hv (h0 _) rfl hO' ig Ku (by kernel_rfl) rfl ?_
   simp only[aa.all,az,decide_eq_true_eq,decide_eq_false_iff_not]
   have hg:nl (Nat.gcd N D)<2^40:=Nat.lt_of_le_of_lt (fA (Nat.gcd_le_left _ (by omega))) hN
   have hg0:0<Nat.gcd N D:=Nat.gcd_pos_of_pos_left _ (by omega)
   refine⟨⟨hN,hD⟩,hg,fun hb=>⟨⟨hN,hg⟩,⟨hD,hg⟩,fun s' hv=>last (Nat.lt_of_le_of_lt (fA (Nat.div_le_self _ _)) hN) (Nat.lt_of_le_of_lt (fA (Nat.div_le_self _ _)) hD) rfl rfl hv⟩,fun hb s' hv=>?_⟩
   have hg1:Nat.gcd N D=1:=by
    have:aY (Nat.gcd N D)≤1:=by omega
    have:=WR.1 this
    omega
   exact last hN hD (by rw[hg1,Nat.div_one]) (by rw[hg1,Nat.div_one]) hv
  refine⟨fun hb=>⟨hb,fun hc=>⟨?_,fun s' hv=>?_⟩,fun hc s' hv=>bK (long hv)⟩,fun hb=>⟨hb,fun h=>by simp at h,fun _ s' hv=>bK (long hv)⟩⟩
  ·have h2:nl D≤2:=by have:=of_decide_eq_true (gx hc);omega
   have:=lY (show nl N≤2 by omega)
   have:=lY h2
   exact⟨by omega,h2,by omega,by omega,by omega⟩
  ·refine dL (dL (uN Jl hv (h0 _) rfl (hO rfl) ⟨by simp[az],?_⟩))
   exact .refl _
 refine⟨fun hb=>⟨⟨hN,hb⟩,fun _=>⟨by omega,fun s' hv=>dL (dL (uN D4 hv (h0 _) rfl (hO rfl) ⟨by simp[az],hz ?_⟩))⟩,fun h=>by simp at h⟩,fun hb=>⟨⟨hN,hb,hD⟩,fun hc=>⟨by omega,fun s' hv=>dL (dL (uN D4 hv (h0 _) rfl (hO rfl) ⟨by simp[az],hz ?_⟩))⟩,fun hc s' hv=>bK (rest ?_ ?_ hv)⟩⟩
 ·rw[zm.1 (show aY N=0 by omega),AJ]
 ·have:=eq_of_beq (fE hc)
  rw[zm.1 (show aY D=0 by omega),Sk]
 ·intro h;rw[h]at hb;exact hb (by decide)
 ·intro h
  have:=fE hc
  rw[h]at this
  simp[aY]at this
end Go.Am.B
