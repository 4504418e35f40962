/- rational.den, parts, reduce, Same, Sign, copied, size. -/
import Derived.Test.YtppeigelbecpbaaGreatB16
set_option linter.unusedVariables false
namespace Go.Am.B
open Go Go.Am.N AV
theorem Za:aO P rJ wu (aq wu):=aP acn (by kernel_rfl) (by kernel_rfl) (by kernel_rfl)
theorem ad1:aO P wk tc (aq tc):=aP VQ (by kernel_rfl) (by kernel_rfl) (by kernel_rfl)
theorem ZI:aO P r8 cW (aq cW):=aP ZK (by kernel_rfl) (by kernel_rfl) (by kernel_rfl)
theorem aeP:aO P fJ yg (aq yg):=aP agz (by kernel_rfl) (by kernel_rfl) (by kernel_rfl)
theorem XV:aO P oA x6 (aq x6):=aP ach (by kernel_rfl) (by kernel_rfl) (by kernel_rfl)
theorem W6:aO P tC tE (aq tE):=aP Pc (by kernel_rfl) (by kernel_rfl) (by kernel_rfl)
theorem S6:aO P vu vF (aq vF):=aP Wo (by kernel_rfl) (by kernel_rfl) (by kernel_rfl)
def GR:aS:=(q9,bA (jA CS))::(ta,bA (jA y7))::(sn,DY)::(qv,bA (fT EN))::(rR,bA (fT E3))::(rL,bA (fT DF))::(qE,Cj)::(qR,Dg)::(o3,Ax)::(qo,Dk)::[]
theorem ko:aW P GR:=aD Kq (aD U1 (aD G0 (aD Mx (aD Lw (aD F0 (aD HH (aD HX (aD B7 (aD LM aX)))))))))
theorem OX {q:Rat} {n:Nat}:bu T GR [6] 60 wu (aq wu) ⟨aM 0 [.rat q n],[],0⟩=
  let c1:Nat:=if q.den=1 then 0 else q.den;some (aa.af [(0:Nat)<1] (aa.fork ((↑(nl c1):Int)==(0:Int)) (aa.leaf aj.ret [mag 1]) (aa.af [(0:Nat)<1] (aa.leaf aj.ret [mag c1])))):=by kernel_rfl
theorem Rf {q:Rat} {n:Nat}:bu T GR [9,14,18] 60 tc (aq tc) ⟨aM 0 [.rat q n],[],0⟩=
  let c11 : AV := int IntKind.u64 (0 : Int); let c8 : Nat := q.num.natAbs; let c4 : Prop := 0 < 1; let c2 : Nat := if q.den = 1 then 0 else q.den; let c10 : AV := int IntKind.u64 (↑c8 : Int); let c9 : Int := (↑(nl c2) : Int); let c6 : Int := IntKind.u64.wrap (↑(ay c2 (Int.toNat (0 : Int))) : Int); let c5 : aa (List AV) := aa.leaf aj.ret [c11, c11, AV.bool false]; let c3 : Int := (↑(nl c8) : Int); let c7 : Bool := decide (c3 > (1 : Int)); let c1 : aa (List AV) := aa.af [c4] (aa.fork (c9 == (1 : Int)) (aa.af [c4, (0 : Int) ≤ (0 : Int) ∧ Int.toNat (0 : Int) < nl c2] (aa.af [c4, nl c8 ≤ 2] (aa.leaf aj.ret [c10, int IntKind.u64 c6, AV.bool (c6 != (0 : Int))]))) (aa.af [c4, nl c8 ≤ 2] (aa.leaf aj.ret [c10, int IntKind.u64 (1 : Int), AV.bool true]))); some (aa.fork c7 (aa.af [c4, c7 = true] (aa.fork true c5 c1)) (aa.af [c4, c7 = false, c4] (aa.fork (bif false then true else decide (c9 > (1 : Int))) c5 c1))) := by kernel_rfl
theorem Qm {q r:Rat} {n m:Nat}:bu T GR [10,17] 60 yg (aq yg) ⟨aM 0 [.rat q n,.rat r m],[],0⟩=
  let c9:Nat:=q.num.natAbs;let c8:Nat:=r.num.natAbs;let c5:Nat:=2^40;let c4:Bool:=decide (q<0)==decide (r<0);let c3:Nat:=if q.den=1 then 0 else q.den;let c2:Nat:=if r.den=1 then 0 else r.den;let c1:Prop:=0<1;let c10:List Prop:=[c1,c1,nl c3<c5,nl c2<c5];let c7:aa (List AV):=aa.leaf aj.ret [AV.bool (bif true then decide (c3=c2)else false)];let c6:Bool:=bif true then decide (c9=c8)else false;some (aa.fork c4 (aa.fork c6 (aa.af (c1::c1::(c4=true)::c1::c1::(nl c9<c5)::(nl c8<c5)::(c6=true)::c10) c7) (aa.af [c1,c1,c4=true,c1,c1,nl c9<c5,nl c8<c5,c6=false] (aa.leaf aj.ret [AV.bool false]))) (aa.fork false (aa.af (c1::c1::(c4=false)::(false=true)::c10) c7) (aa.af [c1,c1,c4=false,false=false] (aa.leaf aj.ret [AV.bool false])))):=by kernel_rfl
theorem Z0 {q:Rat} {n:Nat}:bu T GR [3,8] 60 x6 (aq x6) ⟨aM 0 [.rat q n],[],0⟩=
  some (aa.af [(0:Nat)<1,nl q.num.natAbs<2^40] (aa.fork ((↑(bp q.num.natAbs):Int)==(0:Int)) (aa.leaf aj.ret [int IntKind.i64 (0:Int)]) (aa.af [(0:Nat)<1] (aa.fork (decide (q<0)) (aa.leaf aj.ret [int IntKind.i64 (-1:Int)]) (aa.leaf aj.ret [int IntKind.i64 (1:Int)]))))):=by kernel_rfl
theorem Sd {q:Rat} {n:Nat}:bu T GR [] 60 tE (aq tE) ⟨aM 0 [.rat q n],[],0⟩=
  let c2:Nat:=if q.den=1 then 0 else q.den;let c1:Prop:=0<1;some (aa.af [c1,c1,nl q.num.natAbs<2^40,c1,nl c2<2^40,c1] (aa.af [c1] (aa.leaf aj.ret [agg [AV.bool (decide (q<0)),mag q.num.natAbs,mag c2]]))):=by kernel_rfl
theorem Yl {n:Int}:bu T GR [4] 60 vF (aq vF) ⟨aM 0 [.int .i64 n],[],0⟩=
  let c1:Int:=IntKind.i64.wrap ((0:Int)-n);let c2:Int:=IntKind.u64.wrap (if n<c1 then c1 else n);some (aa.fork (n==(-9223372036854775808:Int)) (aa.af [(0:Int)≤(9223372036854775808:Int)∧(9223372036854775808:Int)<(2:Int)^64] (aa.leaf aj.ret [mag 9223372036854775808])) (aa.af [(0:Int)≤c2∧c2<(2:Int)^64] (aa.leaf aj.ret [mag c2.toNat]))):=by kernel_rfl
abbrev iY:List Nat:=[0,1,2,6]
abbrev nL (b:Bool) (N D:Nat):List AV:=[.bool b,.mag N,.mag D,.ptr 0 0 3 0 []]
abbrev pQ:aA:=[(0,⟨false,true,3,1,fun _=>.rat 0 1⟩)]
theorem aef {b:Bool} {N D:Nat}:aG T GR [11,15] 60 iY ((before (aq cW) [1,1,1,1]).take 2) ⟨aM 0 [.bool b,.mag N,.mag D],[],0⟩=
  let c6:Nat:=2^40;let c5:AV:=rat 0 1;let c4:Bool:=(↑(bp N):Int)==(0:Int);let c3:List AV:=[AV.bool b,mag N,mag D,ptr 0 0 3 0 []];let c2:aa (List AV×aA):=aa.leaf aj.normal (c3,[((0:Nat),ah.mk false true 3 1 fun x↦c5)]);let c1:aa (List AV×aA):=aa.af [(0:Nat)<1] (aa.leaf aj.ret (c3,[((0:Nat),ah.mk false true 3 1 fun j↦if(j==0)=true then bh (agg c5.kids)else c5)]));some (aa.fork c4 (aa.af [nl N<c6,c4=true] (aa.fork true c1 c2)) (aa.af [nl N<c6,c4=false,nl D<c6] (aa.fork (bif false then true else(↑(bp D):Int)==(0:Int)) c1 c2))):=by kernel_rfl
theorem JU {b:Bool} {N D:Nat}:iU T cW .ret ⟨aB iY (nL b N D),[(0,⟨false,true,3,1,fun j=>if j=0 then bh (.agg (AV.kids (.rat 0 1)))else .rat 0 1⟩)],1⟩=
  some (aa.af [(0:Nat)<1] (aa.leaf aj.ret [agg [AV.bool false,mag 0,mag 0]])):=by kernel_rfl
theorem abh {b:Bool} {N D:Nat} {q:Rat} {k:Nat}:iU T cW .ret ⟨aB iY (nL b N D),[(0,⟨false,true,3,1,fun j=>if j=0 then bh (.rat q k)else .rat 0 1⟩)],1⟩=
  some (aa.af [(0:Nat)<1] (aa.leaf aj.ret [rat q k])):=by kernel_rfl
theorem acu {b:Bool} {N D:Nat}:aG T GR [20,24] 60 iY (((before (aq cW) [1,1,1,1]).drop 2).take 1) ⟨aB iY (nL b N D),pQ,1⟩=
  let c6:AV:=rat 0 1;let c5:Rat:=sQ b (↑N:Int).toNat (↑D:Int).toNat;let c4:Bool:=decide ((↑(nl N):Int)≤(2:Int));let c3:List AV:=[AV.bool b,mag N,mag D,ptr 0 0 3 0 []];let c2:aa (List AV×aA):=aa.leaf aj.normal (c3,[((0:Nat),ah.mk false true 3 1 fun x↦c6)]);let c1:aa (List AV×aA):=aa.af [nl N≤2,nl D≤2,(0:Int)≤(↑N:Int)∧(↑N:Int)<(2:Int)^64,(0:Int)<(↑D:Int)∧(↑D:Int)<(2:Int)^64,(0:Nat)<1] (aa.leaf aj.ret (c3,[((0:Nat),ah.mk false true 3 1 fun j↦if(j==0)=true then bh (rat c5 (ck c5))else c6)]));some (aa.fork c4 (aa.af [c4=true] (aa.fork (bif true then decide ((↑(nl D):Int)≤(2:Int))else false) c1 c2)) (aa.af [c4=false] (aa.fork false c1 c2))):=by kernel_rfl
theorem Q1 {b:Bool} {N D:Nat}:aG T GR [36] 60 iY ((before (aq cW) [1,1,1,1]).drop (2+1)) ⟨aB iY (nL b N D),pQ,1⟩=
  let c5:Int:=(↑(bp (N.gcd D)):Int);let c3:AV:=ptr 0 0 3 0 [];let c2:Nat×ah:=((0:Nat),ah.mk false true 3 1 fun x↦rat 0 1);let c1:Nat:=2^40;let c4:Prop:=nl (N.gcd D)<c1;some (aa.af [nl N<c1,nl D<c1] (aa.af [c4] (aa.fork (decide (c5>(1:Int))) (aa.af [nl N<c1,c4] (aa.af [nl D<c1,c4] (aa.leaf aj.normal ([AV.bool b,mag (N/N.gcd D),mag (D/N.gcd D),c3],[c2])))) (aa.leaf aj.normal ([AV.bool b,mag N,mag D,c3],[c2]))))):=by kernel_rfl
theorem YY {b:Bool} {N D:Nat}:bZ T GR [58,63] 60 cW [part (aq cW) [1,1,1,1]] ⟨aB iY (nL b N D),pQ,1⟩=
  let c6:Nat:=D+0;let c5:List Prop:=[(0:Nat)<1];let c4:Nat:=2^40;let c3:Bool:=(↑(nl c6):Int)==(1:Int);let c2:aa (List AV):=aa.af c5 (aa.af c5 (aa.leaf aj.ret [agg [AV.bool b,mag (N+0),nil]]));let c1:aa (List AV):=aa.af c5 (aa.af c5 (aa.leaf aj.ret [agg [AV.bool b,mag (N+0),mag c6]]));some (aa.af [nl N<c4,(0:Nat)<c4,nl D<c4,(0:Nat)<c4] (aa.fork c3 (aa.af [c3=true,(0:Int)≤(0:Int)∧Int.toNat (0:Int)<nl c6] (aa.fork (bif true then(↑(ay c6 (Int.toNat (0:Int))):Int)==(1:Int)else false) c2 c1)) (aa.af [c3=false] (aa.fork false c2 c1)))):=by kernel_rfl
theorem gV {a b v:Bool} (h:(bif true then a else b)=v):a=v:=h
theorem Dm {N:Nat}:bp N=0↔N=0:=by unfold bp;split<;>simp_all
theorem aaZ {N:Nat}:bp N≤1↔N≤1:=by rw[gq];omega
theorem gM {N:Nat}:nl N=0↔N=0:=by
 constructor
 ·intro h
  rcases Nat.eq_zero_or_pos N with h1|h1
  ·exact h1
  ·have:=eV.2 (show N≠0 by omega);omega
 ·intro h;subst h;rfl
theorem Pu {b:Bool} {n:Nat}:sQ b n 0=0:=by unfold sQ;simp
theorem Hj {b:Bool} {x:Nat}:bz (.agg [.bool b,.mag x,.nil]) (.agg [.bool b,.mag x,.mag 0]):=cF ⟨.refl _,.refl _,jf,trivial⟩
theorem WT {b:Bool} {N D:Nat} (hN:nl N<2^40) (hD:nl D<2^40) (K:Nat) (pre:aA):az P r8 K [.bool b,.mag N,.mag D] pre (aF (.rat (sQ b N D) (ck (sQ b N D))) []):=by
 refine eB hT ZI rfl (of_decide_eq_true (by kernel_rfl)) rfl (fun _ c h0=>?_) K pre
 have hO:∀{v:AV},keys v=[]→fA 1 [(0,(⟨false,true,3,1,fun j=>if j=0 then v else .rat 0 1⟩:ah))]:=fun h=>⟨⟨by omega,fun i _=>by show keys (if i=0 then _ else _)=[];split;exact h;rfl⟩,trivial⟩
 have hO':fA 1 pQ:=⟨⟨by omega,fun _ _=>rfl⟩,trivial⟩
 have hz:sQ b N D=0→bz (.agg [.bool false,.mag 0,.mag 0]) (.rat (sQ b N D) (ck (sQ b N D))):=fun h=>by
  rw[h];exact iE
 refine ak.hole [1,1,1,1] (by kernel_rfl) (aC.chunk 2 (aC.bf hT ko hm 60 iY aef (by kernel_rfl) ?_))
 simp only[aa.all,ax,beq_iff_eq,beq_eq_false_iff_ne,ne_eq]
 -- behind the first questions
 have rest:∀{s':aE},N≠0→D≠0→aU iY s'=some (nL b N D,pQ)→
   aC P c cW.ntmps ((before (aq cW) [1,1,1,1]).drop 2) s' (cX (fun s'=>ak P c cW.ntmps (part (aq cW) [1,1,1,1]) s' (cX (fun s'=>aC P c cW.ntmps (behind (aq cW) [1,1,1,1]) s' (dm c (Fin T cW (.rat (sQ b N D) (ck (sQ b N D)))))) (dm c (Fin T cW (.rat (sQ b N D) (ck (sQ b N D)))))))
    (dm c (Fin T cW (.rat (sQ b N D) (ck (sQ b N D)))))):=by
  intro s' hN0 hD0 hv
  have last:∀{s':aE} {X Y:Nat},nl X<2^40→nl Y<2^40→X=N/Nat.gcd N D→Y=D/Nat.gcd N D→aU iY s'=some (nL b X Y,pQ)→
    ak P c cW.ntmps (part (aq cW) [1,1,1,1]) s' (cX (fun s'=>aC P c cW.ntmps (behind (aq cW) [1,1,1,1]) s' (dm c (Fin T cW (.rat (sQ b N D) (ck (sQ b N D)))))) (dm c (Fin T cW (.rat (sQ b N D) (ck (sQ b N D)))))):=by
   intro s' X Y hX hY eX eY hv
   refine ak.mono (Q:=cX (fun s'=>aC P c cW.ntmps [] s' (dm c (Fin T cW (.rat (sQ b N D) (ck (sQ b N D)))))) (dm c (Fin T cW (.rat (sQ b N D) (ck (sQ b N D)))))) ?_ fun e s' h=>by cases e<;>exact h
   refine aC.iM (l:=[part (aq cW) [1,1,1,1]]) hT ko hm 60 hv (h0 _) rfl hO' YY (by kernel_rfl) rfl ?_
   simp only[aa.all,ax,beq_iff_eq,beq_eq_false_iff_ne,ne_eq,Nat.add_zero,Int.toNat_zero]
   have hY0:Y≠0:=by rw[eY];exact Nat.pos_iff_ne_zero.1 (Nat.div_pos (Nat.le_of_dvd (by omega) (Nat.gcd_dvd_right _ _)) (Nat.gcd_pos_of_pos_left _ (by omega)))
   have h1:Y≠1→bz (.agg [.bool b,.mag X,.mag Y]) (.rat (sQ b N D) (ck (sQ b N D))):=fun h=>qd hN0 hD0 eX (by rw[←eY,if_neg h]) vO
   have h2:Y=1→bz (.agg [.bool b,.mag X,.nil]) (.rat (sQ b N D) (ck (sQ b N D))):=fun h=>Hj.trans (qd hN0 hD0 eX (by rw[←eY,if_pos h]) vO)
   have hl:nl Y=1→ay Y 0=Y:=fun h=>by
    have:=eR (N:=Y)
    rw[h,val,val]at this
    simpa using this
   refine⟨⟨hX,by omega,hY,by omega⟩,fun hb=>⟨⟨hb,by omega,by omega⟩,fun hc=>⟨by omega,by omega,h2 ?_⟩,fun hc=>⟨by omega,by omega,h1 ?_⟩⟩,fun hb=>⟨hb,fun h=>by simp at h,fun _=>⟨by omega,by omega,h1 ?_⟩⟩⟩
   ·have:=gV hc
    rw[hl (by omega)]at this
    have:=eq_of_beq this
    omega
   ·have:=gV hc
    rw[hl (by omega)]at this
    intro h
    rw[h]at this
    simp at this
   ·intro h
    rw[h]at hb
    exact hb (by decide)
  refine aC.chunk 1 (aC.dS hT ko hm 60 hv (h0 _) rfl hO' iY acu (by kernel_rfl) rfl ?_)
  simp only[aa.all,ax,decide_eq_true_eq,decide_eq_false_iff_not,Int.toNat_natCast,beq_iff_eq]
  have long:∀{s':aE},aU iY s'=some (nL b N D,pQ)→aC P c cW.ntmps (((before (aq cW) [1,1,1,1]).drop 2).drop 1) s' (cX (fun s'=>ak P c cW.ntmps (part (aq cW) [1,1,1,1]) s' (cX (fun s'=>aC P c cW.ntmps (behind (aq cW) [1,1,1,1]) s' (dm c (Fin T cW (.rat (sQ b N D) (ck (sQ b N D)))))) (dm c (Fin T cW (.rat (sQ b N D) (ck (sQ b N D)))))))
    (dm c (Fin T cW (.rat (sQ b N D) (ck (sQ b N D)))))):=by
   intro s' hv
   rw[List.drop_drop]
   refine aC.dS hT ko hm 60 hv (h0 _) rfl hO' iY Q1 (by kernel_rfl) rfl ?_
   simp only[aa.all,ax,decide_eq_true_eq,decide_eq_false_iff_not]
   have hg:nl (Nat.gcd N D)<2^40:=Nat.lt_of_le_of_lt (fO (Nat.gcd_le_left _ (by omega))) hN
   have hg0:0<Nat.gcd N D:=Nat.gcd_pos_of_pos_left _ (by omega)
   refine⟨⟨hN,hD⟩,hg,fun hb=>⟨⟨hN,hg⟩,⟨hD,hg⟩,fun s' hv=>last (Nat.lt_of_le_of_lt (fO (Nat.div_le_self _ _)) hN) (Nat.lt_of_le_of_lt (fO (Nat.div_le_self _ _)) hD) rfl rfl hv⟩,fun hb s' hv=>?_⟩
   have hg1:Nat.gcd N D=1:=by
    have:bp (Nat.gcd N D)≤1:=by omega
    have:=aaZ.1 this
    omega
   exact last hN hD (by rw[hg1,Nat.div_one]) (by rw[hg1,Nat.div_one]) hv
  refine⟨fun hb=>⟨hb,fun hc=>⟨?_,fun s' hv=>?_⟩,fun hc s' hv=>bX (long hv)⟩,fun hb=>⟨hb,fun h=>by simp at h,fun _ s' hv=>bX (long hv)⟩⟩
  ·have h2:nl D≤2:=by have:=of_decide_eq_true (gV hc);omega
   have:=mJ (show nl N≤2 by omega)
   have:=mJ h2
   exact⟨by omega,h2,by omega,by omega,by omega⟩
  ·refine ee (ee (sy abh hv (h0 _) rfl (hO rfl) ⟨by simp[ax],?_⟩))
   exact .refl _
 refine⟨fun hb=>⟨⟨hN,hb⟩,fun _=>⟨by omega,fun s' hv=>ee (ee (sy JU hv (h0 _) rfl (hO rfl) ⟨by simp[ax],hz ?_⟩))⟩,fun h=>by simp at h⟩,fun hb=>⟨⟨hN,hb,hD⟩,fun hc=>⟨by omega,fun s' hv=>ee (ee (sy JU hv (h0 _) rfl (hO rfl) ⟨by simp[ax],hz ?_⟩))⟩,fun hc s' hv=>bX (rest ?_ ?_ hv)⟩⟩
 ·rw[Dm.1 (show bp N=0 by omega),Eg]
 ·have:=eq_of_beq (ga hc)
  rw[Dm.1 (show bp D=0 by omega),Pu]
 ·intro h;rw[h]at hb;exact hb (by decide)
 ·intro h
  have:=ga hc
  rw[h]at this
  simp[bp]at this
end Go.Am.B
